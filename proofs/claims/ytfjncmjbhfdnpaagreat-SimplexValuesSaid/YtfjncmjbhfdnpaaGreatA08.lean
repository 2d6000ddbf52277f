/- Part 8 of the proof: Tab9, Nt, Nt2, Nt3, Lay1, Mz, Mz2. -/
import Derived.Test.YtfjncmjbhfdnpaaGreatA07
set_option linter.unusedVariables false
namespace Go.ar
open Go.Proofs Num Lp
theorem AJ(L:TL)(a:Nat→Rat)(sg:Rat)(k:Nat):jS L a sg (k+1)=if 0≤L.mZ k then bQ (bQ (jS L a sg k) (L.pF k) (a k*sg)) (L.mZ k).toNat (-(a k*sg))else bQ (jS L a sg k) (L.pF k) (a k*sg):=rfl
theorem afj{H:Heap}{g:Nat}{ts:List Value}{pv mv:Value}{L:TL}{n N:Nat}{vs ss:List Value}{r:List Rat×Int×Rat}{slack:Int}{unit:Nat}{sg:Rat}
 (hg:H g=some ⟨ts,9,97,true⟩) (I5:ts[0]? = some (.int .i64 (L.w:Int))) (eS:ts[2]? = some pv) (AK:ts[3]? = some mv) (rf:aR uo 1 (rem H [g]) pv L.plus) (ux:aR uk 1 (rem H [g]) mv L.minus)
 (hr:eV N (rem H [g]) vs r) (hs:bE (rem H [g]) ss sg) (nS:aG sg≤1) (hn:r.1.length=n) (ID:L.plus.length=n) (tJ:L.minus.length=n) (wP:∀j,j<n→L.pF j<L.w) (VB:∀j,j<n→L.mZ j<L.w)
 (iB:r.2.1≠2→0≤slack∧slack<L.w) (o0:unit<L.w) (hN:(N:Int)≤549755813888) (hw:(L.w:Int)≤1000000) (hnn:(n:Int)≤1000000):
 Fn Tryz.prog 124 #[.pointer (some ⟨g,0,none⟩),.agg vs.toArray,.agg ss.toArray,.int .i64 slack,.int .i64 (unit:Int)] H (fun v H'=>Heap.le H H'∧∃z xs,v = .slice (some ⟨z,0,none⟩) (L.w+1) (L.w+1)∧eH [g] H H' z xs ((L.w+1)*3) 90∧bC (bE (rem H' (z :: [g]))) 3 xs (aH (JZ L n (fn r.1) r.2.2 r.2.1 slack unit sg) (L.w+1))):=by
 obtain⟨ns,ds,bs,rfl⟩:=hs.cells
 obtain⟨Ac,cc,kk,f,A1,m1,c1,A2,m2,c2,rfl,rfl⟩:=hr.cells
 obtain⟨c',f',u',w',pS,pZ,kT⟩:=id hr
 simp only[List.cons.injEq,Value.bool.injEq,and_true,true_and]at pS
 obtain⟨rfl,rfl,rfl,rfl⟩:=pS
 have aY:∀q,q∈[g]→H q≠none:=fun q hq=>by rw[List.mem_singleton.1 hq,hg];simp
 obtain⟨Ap,cp,xp,rfl,fS,Ae⟩:=rf.one
 obtain⟨Am,cm,xm,rfl,kt,Fo⟩:=ux.one
 rw[ID]at eS
 rw[tJ]at AK
 have Az:∀{H':Heap}{z:Nat}{xs:List Value}{s e:Nat},eH [g] H H' z xs s e→H' g=some ⟨ts,9,97,true⟩:=fun ku=>(ku.same g (List.mem_singleton.2 rfl)).trans hg
 have dA:∀{H':Heap}{k:Nat}{v:Value},H' g=some ⟨ts,9,97,true⟩→ts[k]? = some v→cell H' ((⟨g,0,none⟩:Addr).add k)=some v:=fun h1 h2=>by simp[cell,iA,h1,h2]
 have Wm:∀{H':Heap},H' g=some ⟨ts,9,97,true⟩→cell H' (⟨g,0,none⟩:Addr)=some (.int .i64 (L.w:Int)):=fun h1=>by have:=dA (k:=0) h1 I5;rwa [iA]at this
 have hLp:∀j,j<n→L.plus[j]? = some (L.pF j):=fun j hj=>by
  have:j<L.plus.length:=by rw[ID];exact hj
  simp[TL.pF,List.getD,List.getElem?_eq_getElem this]
 have hLm:∀j,j<n→L.minus[j]? = some (L.mZ j):=fun j hj=>by
  have:j<L.minus.length:=by rw[tJ];exact hj
  simp[TL.mZ,List.getD,List.getElem?_eq_getElem this]
 refine aZ (args:=[_,_,_,_,_]) Tryz.func124 rfl rfl Tryz.ntmps124 rfl rfl fun w0=> ?_;refine ag [0,1,2,3,4] rfl ?_;refine ab ?_;refine bS rfl rfl ?_;refine bS rfl rfl ?_;refine vr 1 ?_;refine aa [0,3,4,6,7] ?_;refine ab ?_;refine vr 2 ?_;refine aS ae rfl rfl rfl ?_;refine aN ae rfl rfl rfl (Wm hg) ?_;refine aD rfl rfl ⟨by omega,by omega⟩ ?_;refine aw rfl rfl (CP (gs:=[g]) (n:=L.w+1) aY (by omega)) ?_;rintro v1 H1 ⟨bH,z,ox,rfl,yf,yk⟩;have afk:=(yk H).len;rw[aW]at afk;refine vr 1 ?_;refine aa [0,3,4,6,7,11] ?_;refine al ?_;refine ab ?_;refine vr 2 ?_;refine aw rfl rfl (Fn.JT (gs:=z :: [g]) (yf.ne aY) (ui (pZ.le (ik N) yf.le) (by omega) (by omega))) ?_;rintro v2 H2 ⟨fA,bh,jn⟩;have ef:=yf.kept fA;obtain⟨Av,cv,xv,rfl,mL,tF⟩:=jn.num;rw[hn];refine vr 2 ?_;refine aa [0,3,4,6,7,11,22,23,24] ?_;refine aC ?_;refine gy (fun(k:Nat)(xs:List Value)=>n-k) (fun(k:Nat)(xs:List Value)=>put (put (put (put (put (put (put (put (put (emp) 0 (.val (.pointer (some ⟨g,0,none⟩)))) 3 (.val (.int .i64 slack))) 4 (.val (.int .i64 (unit:Int)))) 6 (.box [.slice Ac n cc,.int .i64 r.2.1,.bool f,.slice A1 m1 c1,.slice A2 m2 c2])) 7 (.box [.int .i64 ns,.int .i64 ds,.pointer bs])) 11 (.val (.slice (some ⟨z,0,none⟩) (L.w+1) (L.w+1)))) 22 (.val (.slice Av n cv))) 23 (.val (.int .i64 (n:Int)))) 24 (.val (.int .i64 (k:Int)))) (fun(k:Nat)(xs:List Value) H'=>eH [g] H H' z xs ((L.w+1)*3) 90∧bC (bE (rem H' (z :: [g]))) 3 xs (aH (jS L (fn r.1) sg k) (L.w+1))∧Heap.le (rem H2 (z :: [g])) (rem H' (z :: [g]))∧Heap.le H H'∧k≤n) 0 ox (⟨ef,by rw[j6 (f:=jS L (fn r.1) sg 0) (g:=fun _=>0) (fun j _=>rfl)];exact yk _,.refl _,bH.trans bh,Nat.zero_le _⟩) an ?_
 rintro k xs H3 ⟨gP,qh,gV,akT,de⟩;have cB:=qh.len;rw[aW]at cB;have lv:=Az gP;refine ab ?_;refine vr 1 ?_;refine aa [0,3,4,6,7,11,22,23,24,25] ?_;refine al ?_;refine aB rfl (fun hb=> ?_) (fun hb=> ?_)
 ·
  have fR:k<n:=by simpa using hb
  obtain⟨q,dL⟩:∃q,r.1[k]? = some q:=⟨_,List.getElem?_eq_getElem (by omega)⟩;obtain⟨n1,d1,b1,cK,eD⟩:=tF k q dL;have gp:fn r.1 k=q:=jC dL
  have uD:aG q≤N+2:=by
   obtain⟨A9,c9,x9,_,_,_,h9⟩:=pZ;exact cH.size (h9.at_ k q dL)
  obtain⟨up,Fp,Fq⟩:=Ae k _ (hLp k fR);obtain⟨um,yd,Fs⟩:=Fo k _ (hLm k fR)
  cases Fq
  cases Fs
  have afl:=wP k fR;have afm:=VB k fR;refine au ?_;refine ag [0,3,4,6,7,11,22,23,24] rfl ?_;refine al ?_;refine aC ?_;refine ab ?_;refine vr 1 ?_;refine bR (vs:=[.int .i64 n1,.int .i64 d1,.pointer b1]) ae rfl rfl rfl rfl ((mL.le gV).le (bG _ _)) rfl (by decide) eD (by omega) (by omega) fun _=> ?_;refine bt dM rfl ?_;refine vr 1 ?_;obtain⟨ti,aj,ak⟩:=bV;refine aJ (.inl ⟨rfl,rfl⟩) rfl rfl rfl aj ak rfl rfl rfl ?_;refine aa [0,3,4,6,7,11,12,13,22,23,24] ?_;refine bJ .fV [0,1,2,3,4,5,6,7,8,9,10,11,12] follows (by kernel_rfl) ?_;refine vr 3 ?_;refine aS ae rfl rfl rfl ?_;refine aN ae rfl rfl rfl (dA lv eS) ?_;refine vr 1 ?_;refine aM ae rfl rfl rfl rfl rfl ((fS.le gP.le).le (bG _ _)) (by rw[Int.toNat_natCast];exact Fp) (by omega) (by omega) fun _=> ?_;refine vr 2 ?_;refine aO rfl rfl (Fn.iU (gP.ne aY) (vM (N:=N+2) (cK.le gV) (hs.le gP.le) uD (by omega) (by omega))) (fun _ _ h=>by first | exact h.le | exact h.1) ?_;rintro v4 H4 ⟨fu,cE,n4,d4,b4,rfl,ct⟩;have oz:=gP.kept fu;rw[←gp]at ct;obtain⟨ti,aj,ak⟩:=bV;refine cM (.inr rfl) ae rfl rfl rfl (by omega) (by omega) (oz.aE) rfl (by show 0+(L.w+1)*3≤xs.length;omega) aj ak (fun _=>rfl) rfl rfl rfl fun _=> ?_
  refine aa [0,3,4,6,7,11,12,13,22,23,24] ?_;have oA:eH [g] H (ins H4 z {(⟨xs,(L.w+1)*3,90,true⟩:Ent)with xs:=aI xs (0+((L.pF k:Nat):Int).toNat*3) [.int .i64 n4,.int .i64 d4,.pointer b4]}) z (aI xs (L.pF k*3) [.int .i64 n4,.int .i64 d4,.pointer b4]) ((L.w+1)*3) 90:=oz.set (by rw[Int.toNat_natCast];exact nn)
  have Kb:bC (bE (rem (ins H4 z {(⟨xs,(L.w+1)*3,90,true⟩:Ent)with xs:=aI xs (0+((L.pF k:Nat):Int).toNat*3) [.int .i64 n4,.int .i64 d4,.pointer b4]}) (z :: [g]))) 3 (aI xs (L.pF k*3) [.int .i64 n4,.int .i64 d4,.pointer b4]) (aH (bQ (jS L (fn r.1) sg k) (L.pF k) (fn r.1 k*sg)) (L.w+1)):=by
   rw[cC _ (List.mem_cons_self ..)];exact re (qh.mono fun vs a=>fJ _ _ vs a fu.le) (by omega) ct
  have gU:Heap.le (rem H2 (z :: [g])) (rem (ins H4 z {(⟨xs,(L.w+1)*3,90,true⟩:Ent)with xs:=aI xs (0+((L.pF k:Nat):Int).toNat*3) [.int .i64 n4,.int .i64 d4,.pointer b4]}) (z :: [g])):=by
   rw[cC _ (List.mem_cons_self ..)];exact gV.trans fu.le
  generalize ins H4 z {(⟨xs,(L.w+1)*3,90,true⟩:Ent)with xs:=aI xs (0+((L.pF k:Nat):Int).toNat*3) [.int .i64 n4,.int .i64 d4,.pointer b4]}=H5 at oA Kb gU⊢
  have uz:=Az oA;have ON:=Kb.len;rw[aW]at ON;refine ab ?_;refine vr 2 ?_;refine aS ae rfl rfl rfl ?_;refine aN ae rfl rfl rfl (dA uz AK) ?_;refine vr 1 ?_;refine aM ae rfl rfl rfl rfl rfl ((kt.le oA.le).le (bG _ _)) (by rw[Int.toNat_natCast];exact yd) (by omega) (by omega) fun _=> ?_;refine vr 1 ?_;refine aa [0,3,4,6,7,11,12,13,22,23,24,48] ?_;refine aB rfl (fun hb=> ?_) (fun hb=> ?_)
  ·
   have hb:0≤L.mZ k:=by simpa using hb
   refine dZ .fV [0,1,2,3,4,5,6,7,8,9,10,11,12,13] follows (by kernel_rfl) ?_;refine vr 3 ?_;refine aS ae rfl rfl rfl ?_;refine aN ae rfl rfl rfl (dA uz AK) ?_;refine vr 1 ?_;refine aM ae rfl rfl rfl rfl rfl ((kt.le oA.le).le (bG _ _)) (by rw[Int.toNat_natCast];exact yd) (by omega) (by omega) fun _=> ?_;refine vr 2 ?_;refine aO rfl rfl (Fn.iU (oA.ne aY) (vM (N:=N+2) (cK.le gU) (hs.le oA.le) uD (by omega) (by omega))) (fun _ _ h=>by first | exact h.le | exact h.1) ?_;rintro v6 H6 ⟨qf,jr,n6,d6,b6,rfl,nv⟩;have uE:=oA.kept qf;have vk:=pc q sg;refine aO rfl rfl (Fn.iU (uE.ne aY) (Cv nv (by omega))) (fun _ _ h=>by first | exact h.le | exact h.1) ?_;rintro v7 H7 ⟨mJ,kK,n7,d7,b7,rfl,iW⟩;have FP:=uE.kept mJ;rw[←gp]at iW;obtain⟨ti,aj,ak⟩:=bV;refine cM (.inr rfl) ae rfl rfl rfl (by omega) (by omega) (FP.aE) rfl (by show 0+(L.w+1)*3≤(aI xs (L.pF k*3) [.int .i64 n4,.int .i64 d4,.pointer b4]).length;omega) aj ak (fun _=>rfl) rfl rfl rfl fun _=> ?_;refine aq ?_;have FQ:=FP.set (nn (xs:=aI xs (L.pF k*3) [.int .i64 n4,.int .i64 d4,.pointer b4]) (vs:=[.int .i64 n7,.int .i64 d7,.pointer b7]) (k:=(L.mZ k).toNat) (sz:=3));refine ag [0,3,4,6,7,11,22,23,24] rfl ?_;refine av rfl ?_;refine aD rfl rfl ⟨by omega,by omega⟩ ?_
   refine vr 1 ?_;refine aq ?_;exact⟨k+1,_,by omega,an,FQ,by rw[cC _ (List.mem_cons_self ..),AJ,if_pos hb];exact re (Kb.mono fun vs a=>fJ _ _ vs a (qf.le.trans mJ.le)) (by omega) iW,by rw[cC _ (List.mem_cons_self ..)];exact(gU.trans qf.le).trans mJ.le,FQ.hle,by omega⟩
  ·
   have hb:¬0≤L.mZ k:=by simpa using hb
   refine au ?_;refine ag [0,3,4,6,7,11,22,23,24] rfl ?_;refine av rfl ?_;refine aD rfl rfl ⟨by omega,by omega⟩ ?_;refine vr 1 ?_;refine aq ?_;exact⟨k+1,_,by omega,an,oA,by rw[AJ,if_neg hb];exact Kb,gU,oA.hle,by omega⟩
 ·
  have hb:n≤k:=by simpa using hb
  obtain rfl:n=k:=by omega
  refine aU ?_;refine ag [0,3,4,6,7,11] rfl ?_;refine kC (fun(ys:List Value)=>put (put (put (put (put (emp) 0 (.val (.pointer (some ⟨g,0,none⟩)))) 4 (.val (.int .i64 (unit:Int)))) 6 (.box [.slice Ac n cc,.int .i64 r.2.1,.bool f,.slice A1 m1 c1,.slice A2 m2 c2])) 7 (.box [.int .i64 ns,.int .i64 ds,.pointer bs])) 11 (.val (.slice (some ⟨z,0,none⟩) (L.w+1) (L.w+1)))) (fun(ys:List Value) H'=>eH [g] H H' z ys ((L.w+1)*3) 90∧bC (bE (rem H' (z :: [g]))) 3 ys (aH (rp (jS L (fn r.1) sg n) r.2.1 slack sg) (L.w+1))) ?_ ?_
  ·
   refine ab ?_;refine vr 2 ?_;refine aa [0,3,4,6,7,11,64] ?_;refine aC ?_;refine ab ?_;refine vr 2 ?_;refine aa [0,3,4,6,7,11,64,65] ?_;refine aB rfl (fun hb=> ?_) (fun hb=> ?_)
   ·
    have hb:r.2.1=1:=by simpa using hb
    have afn:=iB (by omega);refine av rfl ?_;refine vr 3 ?_;obtain⟨ti,aj,ak⟩:=bV;refine cM (.inl rfl) ae rfl rfl rfl (by omega) (by omega) (gP.aE) rfl (by show 0+(L.w+1)*3≤xs.length;omega) aj ak (fun _=>rfl) rfl rfl rfl fun _=> ?_;refine aq ?_;exact⟨_,an,gP.set nn,by rw[cC _ (List.mem_cons_self ..)];unfold rp;rw[if_pos hb];exact re qh (by omega) (hs.le gP.le)⟩
   ·
    have hb:¬r.2.1=1:=by simpa using hb
    refine ab ?_;refine vr 2 ?_;refine aa [0,3,4,6,7,11,71] ?_;refine aB rfl (fun hb=> ?_) (fun hb=> ?_)
    ·
     have jl:r.2.1=3:=by simpa using hb
     have hb:¬r.2.1=1:=by omega
     have afn:=iB (by omega);refine av rfl ?_;refine vr 3 ?_;refine aw rfl rfl (Fn.iU (gP.ne aY) (Cv (hs.le gP.le) (by omega))) ?_;rintro v9 H9 ⟨fM,dX,n9,d9,b9,rfl,eW⟩;have yl:=gP.kept fM;obtain⟨ti,aj,ak⟩:=bV;refine cM (.inl rfl) ae rfl rfl rfl (by omega) (by omega) (yl.aE) rfl (by show 0+(L.w+1)*3≤xs.length;omega) aj ak (fun _=>rfl) rfl rfl rfl fun _=> ?_;refine aq ?_;exact⟨_,an,yl.set nn,by rw[cC _ (List.mem_cons_self ..)];unfold rp;rw[if_neg hb,if_pos jl];exact re (qh.mono fun vs a=>fJ _ _ vs a fM.le) (by omega) eW⟩
    ·
     have jl:¬r.2.1=3:=by simpa using hb
     have hb:¬r.2.1=1:=by assumption
     refine au ?_;exact⟨_,an,gP,by unfold rp;rw[if_neg hb,if_neg jl];exact qh⟩
  ·
   rintro ys H9 ⟨yl,Wn⟩;have afo:=Wn.len;rw[aW]at afo;refine ab ?_;refine vr 2 ?_;refine aw rfl rfl (pe) ?_;rintro v10 pj ⟨AL,rfl⟩;rw[AL];obtain⟨ti,aj,ak⟩:=bV;refine cM (.inl rfl) ae rfl rfl rfl (by omega) (by omega) (yl.aE) rfl (by show 0+(L.w+1)*3≤ys.length;omega) aj ak (fun _=>rfl) rfl rfl rfl fun _=> ?_;refine aa [0,6,7,11] ?_;have ym:eH [g] H (ins H9 z {(⟨ys,(L.w+1)*3,90,true⟩:Ent)with xs:=aI ys (0+((unit:Int)).toNat*3) [.int .i64 1,.int .i64 1,.pointer none]}) z (aI ys (unit*3) [.int .i64 1,.int .i64 1,.pointer none]) ((L.w+1)*3) 90:=yl.set (by rw[Int.toNat_natCast];exact nn)
   have OO:bC (bE (rem (ins H9 z {(⟨ys,(L.w+1)*3,90,true⟩:Ent)with xs:=aI ys (0+((unit:Int)).toNat*3) [.int .i64 1,.int .i64 1,.pointer none]}) (z :: [g]))) 3 (aI ys (unit*3) [.int .i64 1,.int .i64 1,.pointer none]) (aH (bQ (rp (jS L (fn r.1) sg n) r.2.1 slack sg) unit 1) (L.w+1)):=by
    rw[cC _ (List.mem_cons_self ..)];exact re Wn (by omega) (pd _ (n:=1) (by decide) (by decide))
   generalize ins H9 z {(⟨ys,(L.w+1)*3,90,true⟩:Ent)with xs:=aI ys (0+((unit:Int)).toNat*3) [.int .i64 1,.int .i64 1,.pointer none]}=im at ym OO⊢
   have C2:=Az ym;have afp:=OO.len;rw[aW]at afp;have Kc:=kT.size;refine bJ .fV [0,1,2,3,4,5,6,8,7,9,10,11] follows (by kernel_rfl) ?_;refine vr 3 ?_;refine aS ae rfl rfl rfl ?_;refine aN ae rfl rfl rfl (Wm C2) ?_;refine vr 3 ?_;refine aO rfl rfl (Fn.iU (ym.ne aY) (vG (kT.le ym.le) (by omega))) (fun _ _ h=>by first | exact h.le | exact h.1) ?_;rintro v12 cV ⟨s3,iX,Wo,d12,Wp,rfl,py⟩;have AM:=ym.kept s3;refine aO rfl rfl (Fn.iU (AM.ne aY) (vM (N:=N+2) py (hs.le AM.le) Kc (by omega) (by omega))) (fun _ _ h=>by first | exact h.le | exact h.1) ?_;rintro OP kN ⟨vZ,jT,FR,d13,Kd,rfl,oC⟩;have C3:=AM.kept vZ;obtain⟨ti,aj,ak⟩:=bV;refine cM (.inr rfl) ae rfl rfl rfl (by omega) (by omega) (C3.aE) rfl (by show 0+(L.w+1)*3≤(aI ys (unit*3) [.int .i64 1,.int .i64 1,.pointer none]).length;omega) aj ak (fun _=>rfl) rfl rfl rfl fun _=> ?_;refine aa [11] ?_;have wa:eH [g] H (ins kN z {(⟨aI ys (unit*3) [.int .i64 1,.int .i64 1,.pointer none],(L.w+1)*3,90,true⟩:Ent)with xs:=aI (aI ys (unit*3) [.int .i64 1,.int .i64 1,.pointer none]) (0+((L.w:Int)).toNat*3) [.int .i64 FR,.int .i64 d13,.pointer Kd]}) z (aI (aI ys (unit*3) [.int .i64 1,.int .i64 1,.pointer none]) (L.w*3) [.int .i64 FR,.int .i64 d13,.pointer Kd]) ((L.w+1)*3) 90:=C3.set (by rw[Int.toNat_natCast];exact nn)
   refine ab ?_;refine vr 2 ?_;refine aa [10] ?_;refine az ⟨.inr rfl,_,.tmp rfl (.nil),?_⟩;exact⟨wa.hle,z,_,rfl,wa,by rw[cC _ (List.mem_cons_self ..)];exact re (OO.mono fun vs a=>fJ _ _ vs a (s3.le.trans vZ.le)) (by omega) oC⟩
end Go.ar
namespace Go.ar
open Go.Proofs Num Lp
def aT(fr:Nat→Bool):Nat→Nat
 | 0=>0
 | k+1=>aT fr k+1+(if fr k then 1 else 0)
def mM(fr:Nat→Bool)(k:Nat):Int:=if fr k then((aT fr k+1:Nat):Int)else -1
def bm(rel:Nat→Int)(c:Nat):Nat→Nat
 | 0=>c
 | i+1=>bm rel c i+(if rel i=2 then 0 else 1)
def eI(rel:Nat→Int)(c i:Nat):Int:=if rel i=2 then -1 else(bm rel c i:Int)
def kv(b:Rat)(rel:Int):Int:=if b<0∨(b=0∧rel=3)then -1 else 1
def eP(rel s:Int):Bool:=decide ((rel=1∧s=1)∨(rel=3∧s = -1))
def aV(rel sg:Nat→Int)(u:Nat):Nat→Nat
 | 0=>u
 | i+1=>aV rel sg u i+(if eP (rel i) (sg i)then 0 else 1)
def qm(rel sg:Nat→Int)(c u i:Nat):Nat:=if eP (rel i) (sg i)then bm rel c i else aV rel sg u i
theorem rB(b:Rat)(rel:Int):kv b rel=1∨kv b rel = -1:=by unfold kv;split <;> simp
theorem OQ(fr:Nat→Bool)(k:Nat):aT fr k≤2*k:=by
 induction k with
 | zero=>exact Nat.le_refl _
 | succ k ih=>unfold aT;split <;> omega
theorem rC(rel:Nat→Int)(c k:Nat):bm rel c k≤c+k∧c≤bm rel c k:=by
 induction k with
 | zero=>exact⟨Nat.le_refl _,Nat.le_refl _⟩
 | succ k ih=>unfold bm;split <;> omega
theorem s4(rel sg:Nat→Int)(u k:Nat):aV rel sg u k≤u+k∧u≤aV rel sg u k:=by
 induction k with
 | zero=>exact⟨Nat.le_refl _,Nat.le_refl _⟩
 | succ k ih=>unfold aV;split <;> omega
theorem AN{fr:Nat→Bool}{j k:Nat}(h:j<k):aT fr j+1+(if fr j then 1 else 0)≤aT fr k:=by
 induction k with
 | zero=>omega
 | succ k ih=>
  by_cases e:j=k
  ·subst e;exact Nat.le_refl _
  ·have:=ih (by omega)
   show _≤aT fr k+1+(if fr k then 1 else 0)
   omega
theorem OR{rel:Nat→Int}{c j k:Nat}(h:j<k):bm rel c j+(if rel j=2 then 0 else 1)≤bm rel c k:=by
 induction k with
 | zero=>omega
 | succ k ih=>
  by_cases e:j=k
  ·subst e;exact Nat.le_refl _
  ·have:=ih (by omega)
   show _≤bm rel c k+(if rel k=2 then 0 else 1)
   omega
theorem OS{rel sg:Nat→Int}{u j k:Nat}(h:j<k):aV rel sg u j+(if eP (rel j) (sg j)then 0 else 1)≤aV rel sg u k:=by
 induction k with
 | zero=>omega
 | succ k ih=>
  by_cases e:j=k
  ·subst e;exact Nat.le_refl _
  ·have:=ih (by omega)
   show _≤aV rel sg u k+(if eP (rel k) (sg k)then 0 else 1)
   omega
def ints(f:Nat→Int)(k:Nat):List Value:=(List.range k).map fun j=> .int .i64 (f j)
theorem uG(f:Nat→Int)(k:Nat):ints f (k+1)=ints f k ++ [.int .i64 (f k)]:=by
 unfold ints;rw[List.range_succ,List.map_append];rfl
theorem AO(f:Nat→Int)(k:Nat):(ints f k).length=k:=by simp[ints]
theorem uH{f:Nat→Int}{k i:Nat}(h:i<k):(ints f k)[i]? = some (.int .i64 (f i)):=by simp[ints,h]
theorem bP.ints{K:Heap}{v:Value}{f:Nat→Int}{k:Nat}(h:bP K v 3 1 k (ar.ints f k)):aR uk 1 K v ((List.range k).map f):=by
 obtain⟨A,c,rfl⟩:=h.form
 refine⟨A,c,_,by rw[List.length_map,List.length_range],?_,h.rd,⟨by rw[AO,List.length_map,List.length_range,Nat.mul_one],fun i z hz=> ?_⟩⟩
 ·rw[List.length_map,List.length_range]
  rcases h.2 with ⟨k1,k2⟩ | ⟨g,cap,k1,_,k3,_⟩
  ·omega
  ·cases k1;exact k3
 ·rw[List.getElem?_map]at hz
  have hi:i<k:=by
   false_or_by_contra
   rw[List.getElem?_eq_none (by rw[List.length_range];omega)]at hz;cases hz
  rw[List.getElem?_range hi]at hz
  cases hz
  rw[Ug (uH hi)];rfl
theorem bP.OT{K:Heap}{v:Value}{f:Nat→Nat}{k:Nat}(h:bP K v 3 1 k (ar.ints (fun j=>(f j:Int)) k)):aR uo 1 K v ((List.range k).map f):=by
 obtain⟨A,c,xs,h1,h2,h3,h4⟩:=bP.ints h
 rw[List.length_map,List.length_range]at h1 h2
 refine⟨A,c,xs,by rw[List.length_map,List.length_range];exact h1,by rw[List.length_map,List.length_range];exact h2,h3,⟨by rw[h4.len,List.length_map,List.length_map],fun i z hz=> ?_⟩⟩
 rw[List.getElem?_map]at hz
 cases hr:(List.range k)[i]? with
 | none=>rw[hr]at hz;cases hz
 | some j=>
  rw[hr]at hz
  cases hz
  exact h4.at_ i (f j:Int) (by rw[List.getElem?_map,hr];rfl)
def AP(v v':Value):Prop:=∀q,v.ownBlock=some q→v'.ownBlock≠some q
theorem AP.symm{v v':Value}(h:AP v v'):AP v' v:=fun q h1 h2=>h q h2 h1
structure lF(K0:Heap)(kF:Value)(e sz n:Nat)(xs:List Value)(v:Value)(K:Heap):Prop where
 own:bP K v e sz n xs
 le:Heap.le K0 K
 new:∀q,v.ownBlock=some q→kF.ownBlock=some q∨K0 q=none
 keep:∀(v':Value)(e' pT n':Nat)(pN:List Value),bP K0 v' e' pT n' pN→AP kF v'→bP K v' e' pT n' pN∧AP v v'
theorem bP.lift{H:Heap}{gs:List Nat}{v:Value}{e sz n:Nat}{xs:List Value}(h:bP (rem H gs) v e sz n xs):bP H v e sz n xs∧∀q,q∈gs→v.ownBlock≠some q:=by
 have h2:∀q,q∈gs→v.ownBlock≠some q:=fun q hq hv=>by
  obtain⟨en,he⟩:=h.block hv
  rw[rem_in hq]at he;cases he
 exact⟨h.same fun q hq=>(bL (fun hm=>h2 q hm hq)).symm,h2⟩
theorem pz{H1 H3:Heap}{gs:List Nat}{kF v3:Value}{e sz n0 n gb:Nat}{ox xs:List Value}{en:Ent}(aY:∀q,q∈gs→H1 q≠none)(bD:H1 gb=none)(ho:bP (rem H1 gs) kF e sz n0 ox)(ha:App (ins H1 gb en) kF e sz n xs v3 H3):
  lF (rem H1 gs) kF e sz n xs v3 (rem H3 gs)∧∀q,q∈gs→H3 q=H1 q:=by
 obtain⟨hl,hh⟩:=ho.lift
 have Ke:¬gb∈gs:=fun h=>aY gb h bD
 have vO:∀q,q∈gs→ins H1 gb en q≠none:=fun q hq=>by rw[a7 _ _ (fun e=>Ke (by rw[←e];exact hq))];exact aY q hq
 obtain⟨ll,hs⟩:=ha.rem vO hh
 rw[xN _ Ke]at ll
 have hK:rem H1 gs gb=none:=by rw[bL Ke];exact bD
 refine⟨⟨ll.own,(Heap.bI _ hK).trans ll.le,fun q hq=>(by
  rcases ll.at_ with h4 | ⟨g',h4,h5⟩
  ·exact .inl (by rw[←h4];exact hq)
  ·rw[h4]at hq
   cases hq
   exact .inr (zD h5).2),fun v' e' pT n' pN h' Kf=> ?_⟩,fun q hq=>by rw[hs q hq,a7 _ _ (fun e=>Ke (by rw[←e];exact hq))]⟩
 have h1:bP (ins (rem H1 gs) gb en) v' e' pT n' pN:=h'.ins _ hK
 refine⟨h1.same fun q hq=> ?_,fun q h2 h3=> ?_⟩
 ·obtain⟨Kg,FT⟩:=h1.block hq
  rw[ll.same q Kg FT (fun h=>Kf q h hq),FT]
 ·rcases ll.at_ with h4 | ⟨g',h4,h5⟩
  ·exact Kf q (by rw[←h4];exact h2) h3
  ·rw[h4]at h2
   cases h2
   obtain⟨Kg,FT⟩:=h1.block h3
   rw[h5]at FT;cases FT
def rD(a1:Addr)(v1:Value)(a2:Addr)(v2:Value)(ad:Addr):Option Value:=if ad=a1 then some v1 else if ad=a2 then some v2 else none
theorem k9{a1 a2:Addr}{v1 v2:Value}{H:Heap}(h1:cell H a1=some v1)(h2:cell H a2=some v2):(Mode.cG (rD a1 v1 a2 v2)).fy H:=fun ad v h=>by
 have h':rD a1 v1 a2 v2 ad=some v:=h
 unfold rD at h'
 split at h'
 ·rename_i e;rw[e,h1];exact h'
 ·split at h'
  ·rename_i e;rw[e,h2];exact h'
  ·cases h'
theorem uI{a1 a2:Addr}{v1 v2:Value}:rD a1 v1 a2 v2 a1=some v1:=by simp[rD]
theorem FU{a1 a2:Addr}{v1 v2:Value}(h:a2≠a1):rD a1 v1 a2 v2 a2=some v2:=by simp[rD,h]
theorem FV{g g' o o':Nat}(h:g≠g'):(⟨g,o,none⟩:Addr)≠⟨g',o',none⟩:=fun e=>h (by cases e;rfl)
def FW(_:Heap)(vs:List Value)(b:Bool):Prop:=vs = [.bool b]
theorem Wq:Up FW:=fun _ _ _ _ _ h=>h
def eJ(N:Nat)(H:Heap)(v:Value)(p:Prg):Prop:=∃fv rv,v = .agg #[fv,rv]∧aR FW 1 H fv p.free∧aR (eV N) 5 H rv p.rows
theorem eJ.le{N:Nat}{H H':Heap}{v:Value}{p:Prg}(h:eJ N H v p)(hl:Heap.le H H'):eJ N H' v p:=by
 obtain⟨fv,rv,h1,h2,h3⟩:=h
 exact⟨fv,rv,h1,h2.le Wq hl,h3.le (uy N) hl⟩
section
variable (p:Prg)
abbrev _root_.Lp.Prg.aF(i:Nat):Int:=kv (p.lp.b i) (p.lp.rel i)
abbrev _root_.Lp.Prg.c1:Nat:=aT p.lp.free p.lp.n
abbrev _root_.Lp.Prg.u:Nat:=bm p.lp.rel p.c1 p.lp.m
abbrev _root_.Lp.Prg.w:Nat:=aV p.lp.rel p.aF p.u p.lp.m
abbrev _root_.Lp.Prg.unit(i:Nat):Nat:=qm p.lp.rel p.aF p.c1 p.u i
def _root_.Lp.Prg.lay:TL:=⟨p.w,p.u,(List.range p.lp.n).map (aT p.lp.free),(List.range p.lp.n).map (mM p.lp.free),(List.range p.lp.m).map p.unit,aH (fun i=>(p.aF i:Rat)) p.lp.m⟩
def _root_.Lp.Prg.dP:ao:=⟨p.lp.m,p.w,fun i=>JZ p.lay p.lp.n (p.lp.a i) (p.lp.b i) (p.lp.rel i) (eI p.lp.rel p.c1 i) (p.unit i) (p.aF i:Rat),fun _=>0,p.unit⟩
end
end Go.ar
namespace Go.ar
theorem uJ{H:Heap}{gv g:Nat}{e:Ent}{v:Value}(h:cell H ⟨gv,0,none⟩=some v)(aY:gv≠g):cell (ins H g e) ⟨gv,0,none⟩=some v:=by
 simp only[cell,a7 _ _ aY]at h⊢;exact h
theorem rE(z:Int):∀u,u∈[Value.int .i64 z]→u.oneCell'=true:=fun u hu=>by rw[List.mem_singleton]at hu;rw[hu];rfl
theorem ints_set{f:Nat→Int}{m i:Nat}{z:Int}:(ints f m).set i (.int .i64 z)=ints (fun j=>if j=i then z else f j) m:=by
 apply List.ext_getElem?
 intro j
 by_cases hj:j<m
 ·by_cases e:j=i
  ·subst e
   rw[List.getElem?_set_self (by rw[AO];exact hj),uH hj,if_pos rfl]
  ·rw[List.getElem?_set_ne (fun e'=>e e'.symm),uH hj,uH hj,if_neg e]
 ·rw[List.getElem?_eq_none (by rw[List.length_set,AO];omega),List.getElem?_eq_none (by rw[AO];omega)]
theorem OU{f g:Nat→Int}{m:Nat}(h:∀j,j<m→f j=g j):ints f m=ints g m:=by
 unfold ints
 apply List.map_congr_left
 intro j hj
 rw[h j (List.mem_range.1 hj)]
theorem aR.row{N:Nat}{H:Heap}{v:Value}{l:List (List Rat×Int×Rat)}(h:aR (eV N) 5 H v l):∃A c xs,v = .slice A l.length c∧Rd H A xs∧∀(i:Nat)(r:List Rat×Int×Rat),l[i]? = some r→∃A0 c0 f A1 m1 c1 A2 m2 c2,eV N H [.slice A0 r.1.length c0,.int .i64 r.2.1,.bool f,.slice A1 m1 c1,.slice A2 m2 c2] r∧∀(j:Nat)(u:Value),[.slice A0 r.1.length c0,.int .i64 r.2.1,.bool f,.slice A1 m1 c1,.slice A2 m2 c2][j]? = some u→xs[i*5+j]? = some u:=by
 obtain⟨A,c,xs,h1,_,h3,h4⟩:=h
 refine⟨A,c,xs,h1,h3,fun i r hr=> ?_⟩
 obtain⟨vs,_,h5,h6⟩:=h4.get hr
 obtain⟨A0,c0,k,f,A1,m1,c1,A2,m2,c2,rfl,rfl⟩:=h5.cells
 exact⟨A0,c0,f,A1,m1,c1,A2,m2,c2,h5,h6⟩
theorem eV.bound{N:Nat}{H:Heap}{r:List Rat×Int×Rat}{v0:Value}{f:Bool}{u w:Value}(h:eV N H [v0,.int .i64 r.2.1,.bool f,u,w] r):cH H (.agg #[.bool f,u,w]) r.2.2 N:=by
 obtain⟨c,f',u',w',h1,_,h3⟩:=h
 simp only[List.cons.injEq,Value.bool.injEq,and_true,true_and]at h1
 obtain⟨rfl,rfl,rfl,rfl⟩:=h1
 exact h3
end Go.ar
namespace Go.ar
def aE(v:Value):List Nat:=match v.ownBlock with | some q=>[q] | none=>[]
theorem dg{v:Value}{q:Nat}:q∈aE v↔v.ownBlock=some q:=by
 unfold aE
 cases h:v.ownBlock with
 | none=>simp
 | some q'=>simp;exact eq_comm
theorem afq{H H':Heap}{gs:List Nat}{v:Value}{e sz n:Nat}{xs:List Value}(h:Kept (aE v++gs) H H')(ho:bP (rem H gs) v e sz n xs):bP (rem H' gs) v e sz n xs∧Heap.le (rem H gs) (rem H' gs)∧∀q,q∈gs→H' q=H q:=by
 have hs:∀q,q∈aE v++gs→H' q=H q:=h.same
 have hv:=ho.lift.2
 refine⟨ho.same fun q hq=> ?_,fun q en hq=> ?_,fun q hq=>hs q (List.mem_append_right _ hq)⟩
 ·have:¬q∈gs:=fun hm=>hv q hm hq
  rw[bL this,bL this,hs q (List.mem_append_left _ (dg.2 hq))]
 ·by_cases hb:q∈aE v
  ·by_cases hm:q∈gs
   ·rw[rem_in hm]at hq;cases hq
   ·rw[bL hm]at hq
    exact⟨en,by rw[bL hm,hs q (List.mem_append_left _ hb)];exact hq,.refl en⟩
  ·by_cases hm:q∈gs
   ·rw[rem_in hm]at hq;cases hq
   ·have hn:¬q∈aE v++gs:=fun h=>by
     rcases List.mem_append.1 h with h | h
     ·exact hb h
     ·exact hm h
    obtain⟨e',h1,h2⟩:=h.le q en (by rw[bL hn];rwa [bL hm]at hq)
    exact⟨e',by rw[bL hm];rwa [bL hn]at h1,h2⟩
theorem afr{H:Heap}{gs:List Nat}{v:Value}{e sz n:Nat}{xs:List Value}(aY:∀q,q∈gs→H q≠none)(ho:bP (rem H gs) v e sz n xs):∀q,q∈aE v++gs→H q≠none:=fun q hq=>by
 rcases List.mem_append.1 hq with h | h
 ·obtain⟨en,he⟩:=ho.lift.1.block (dg.1 h)
  rw[he];simp
 ·exact aY q h
theorem OV{K:Heap}{v:Value}{e sz n:Nat}{xs:List Value}(h:bP K v e sz n xs)(hn:0<n):∃q c,v = .slice (some ⟨q,0,none⟩) n c∧K q=some ⟨xs,c*sz,e,true⟩:=by
 rcases h.2 with ⟨_,h2⟩ | ⟨g,cap,h1,h2,_⟩
 ·omega
 ·exact⟨g,cap,h1,h2⟩
theorem afs{H H':Heap}{gs b:List Nat}(h:Heap.le H (rem H' gs))(hb:∀q,q∈b→H q=none):Heap.le H (rem H' (b++gs)):=fun q e hq=>by
 obtain⟨e',h1,h2⟩:=h q e hq
 have hm:¬q∈gs:=fun hm=>by rw[rem_in hm]at h1;cases h1
 refine⟨e',?_,h2⟩
 rw[bL (fun h3=>by
  rcases List.mem_append.1 h3 with h3 | h3
  ·rw[hb q h3]at hq;cases hq
  ·exact hm h3)]
 rwa [bL hm]at h1
theorem le_none{H K:Heap}(h:Heap.le H K){q:Nat}(hq:K q=none):H q=none:=by
 cases hh:H q with
 | none=>rfl
 | some e=>(obtain⟨e',h1,_⟩:=h q e hh;rw[hq]at h1;cases h1)
theorem lF.aE{K0 K H:Heap}{kF v:Value}{e sz n:Nat}{xs:List Value}(h:lF K0 kF e sz n xs v K)(hl:Heap.le H K0)(hb:∀q,q∈ar.aE kF→H q=none):∀q,q∈ar.aE v→H q=none:=fun q hq=>by
 rcases h.new q (dg.1 hq)with h1 | h1
 ·exact hb q (dg.2 h1)
 ·exact le_none hl h1
end Go.ar
namespace Go.ar
open Go.Proofs Num Lp
def ff(rg:List (Nat×Nat))(bv:Value)(gk g:Nat):List Nat:=rg.map (·.1)++(aE bv ++ [gk,g])
def mN(rg:List (Nat×Nat))(gk g:Nat):List Nat:=rg.map (·.1) ++ [gk,g]
def mO(rv:Value)(rg:List (Nat×Nat))(bv:Value)(gk:Nat):List Nat:=aE rv++(rg.map (·.1)++(aE bv ++ [gk]))
def OW(w:Nat)(p:Nat×Nat):Value:= .slice (some ⟨p.1,0,none⟩) (w+1) p.2
theorem fF{rg:List (Nat×Nat)}{bv:Value}{gk g q:Nat}:q∈ff rg bv gk g↔q∈rg.map (·.1)∨q∈aE bv∨q=gk∨q=g:=by
 unfold ff;simp only[List.mem_append,List.mem_cons,List.not_mem_nil,or_false]
theorem qn{rg:List (Nat×Nat)}{gk g q:Nat}:q∈mN rg gk g↔q∈rg.map (·.1)∨q=gk∨q=g:=by
 unfold mN;simp only[List.mem_append,List.mem_cons,List.not_mem_nil,or_false]
theorem s5{rg:List (Nat×Nat)}{rv bv:Value}{gk q:Nat}:q∈mO rv rg bv gk↔q∈aE rv∨q∈rg.map (·.1)∨q∈aE bv∨q=gk:=by
 unfold mO;simp only[List.mem_append,List.mem_cons,List.not_mem_nil,or_false]
structure js(K:Heap)(g gk w:Nat)(A:Nat→Nat→Rat)(unit:Nat→Nat)(H:Heap)(rv:Value)(k:Nat)(hd:List Value)(bv:Value)(kb:Nat)(rg:List (Nat×Nat)):Prop where
 ne:∀q,q∈ff rg bv gk g→H q≠none
 nd:(ff rg bv gk g).Nodup
 le:Heap.le K (rem H (ff rg bv gk g))
 yn:bP (rem H (ff rg bv gk g)) rv 85 1 k hd
 Kh:∀q,q∈aE rv→K q=none
 FX:bP H bv 3 1 kb (ints (fun j=>(unit j:Int)) kb)
 row:∀(j:Nat)(p:Nat×Nat),rg[j]? = some p→kW (rem H (ff rg bv gk g)) H p.1 (aH (A j) (w+1))
section
variable {K:Heap} {g gk w:Nat} {A:Nat→Nat→Rat} {unit:Nat→Nat} {H H2:Heap} {rv:Value} {k:Nat} {hd:List Value} {bv:Value} {kb:Nat} {rg:List (Nat×Nat)}
theorem js.FY(h:js K g gk w A unit H rv k hd bv kb rg):∀q,q∈aE rv→¬q∈ff rg bv gk g∧H q≠none:=fun q hq=>by
 have h1:=h.yn.lift
 refine⟨fun hm=>h1.2 q hm (dg.1 hq),?_⟩
 obtain⟨e,he⟩:=h1.1.block (dg.1 hq)
 rw[he];simp
theorem js.neR(h:js K g gk w A unit H rv k hd bv kb rg):∀q,q∈mO rv rg bv gk→H q≠none:=fun q hq=>by
 rcases s5.1 hq with h1 | h1 | h1 | h1
 ·exact(h.FY q h1).2
 ·exact h.ne q (fF.2 (.inl h1))
 ·exact h.ne q (fF.2 (.inr (.inl h1)))
 ·exact h.ne q (fF.2 (.inr (.inr (.inl h1))))
theorem FZ{rg:List (Nat×Nat)}{bv:Value}{gk g:Nat}(h:(ff rg bv gk g).Nodup):¬g∈rg.map (·.1)∧¬g∈aE bv∧gk≠g∧(∀q,q∈aE bv→¬q∈rg.map (·.1)∧q≠gk)∧¬gk∈rg.map (·.1):=by
 unfold ff at h
 rw[List.nodup_append,List.nodup_append]at h
 obtain⟨_,⟨_,h2,h3⟩,h4⟩:=h
 have h5:gk≠g:=by
  rw[List.nodup_cons]at h2
  exact fun e=>h2.1 (by rw[e];exact List.mem_singleton.2 rfl)
 refine⟨fun hm=>h4 g hm g (by simp) rfl,fun hm=>h3 g hm g (by simp) rfl,h5,fun q hq=>⟨fun hm=>h4 q hm q (List.mem_append_left _ hq) rfl,fun e=>h3 q hq gk (by simp) e⟩,fun hm=>h4 gk hm gk (by simp) rfl⟩
theorem js.gR(h:js K g gk w A unit H rv k hd bv kb rg):¬g∈mO rv rg bv gk:=fun hm=>by
 obtain⟨n1,n2,n3,_⟩:=FZ h.nd
 rcases s5.1 hm with h1 | h1 | h1 | h1
 ·exact(h.FY g h1).1 (fF.2 (.inr (.inr (.inr rfl))))
 ·exact n1 h1
 ·exact n2 h1
 ·exact n3 h1.symm
theorem js.aft(h:js K g gk w A unit H rv k hd bv kb rg){z c:Nat}{xs:List Value}{sz:Nat}(hs:∀q,q∈mO rv rg bv gk→H2 q=H q)(ku:eH [g] (rem H (mO rv rg bv gk)) (rem H2 (mO rv rg bv gk)) z xs sz 90)
  (gE:bC (bE (rem (rem H2 (mO rv rg bv gk)) (z :: [g]))) 3 xs (aH (A rg.length) (w+1))):js K g gk w A unit H2 rv k hd bv kb (rg ++ [(z,c)])∧H2 g=H g∧H2 gk=H gk:=by
 have Wr:=h.gR
 have dQ:H2 g=H g:=by
  have:=ku.same g (List.mem_singleton.2 rfl)
  rwa [bL Wr,bL Wr]at this
 have Ws:H2 gk=H gk:=hs gk (s5.2 (.inr (.inr (.inr rfl))))
 have Wt:¬z∈mO rv rg bv gk:=fun hm=>by have:=ku.aE;rw[rem_in hm]at this;cases this
 have j0:H2 z=some ⟨xs,sz,90,true⟩:=by have:=ku.aE;rwa [bL Wt]at this
 have iV:H z=none:=by have:=ku.zn;rwa [bL Wt]at this
 have nu:z≠g:=fun e=>ku.zg (List.mem_singleton.2 e)
 have Wu:¬z∈ff rg bv gk g:=fun hm=>h.ne z hm iV
 have nL:∀q,q∈ff (rg ++ [(z,c)]) bv gk g↔q=z∨q∈ff rg bv gk g:=fun q=>by
  rw[fF,fF,List.map_append,List.mem_append]
  simp only[List.map_cons,List.map_nil,List.mem_singleton]
  constructor
  ·rintro((h | h) | h | h | h)
   ·exact .inr (.inl h)
   ·exact .inl h
   ·exact .inr (.inr (.inl h))
   ·exact .inr (.inr (.inr (.inl h)))
   ·exact .inr (.inr (.inr (.inr h)))
  ·rintro(h | h | h | h | h)
   ·exact .inl (.inr h)
   ·exact .inl (.inl h)
   ·exact .inr (.inl h)
   ·exact .inr (.inr (.inl h))
   ·exact .inr (.inr (.inr h))
 have OX:∀q,q∈ff rg bv gk g→H2 q=H q:=fun q hq=>by
  rcases fF.1 hq with h1 | h1 | h1 | h1
  ·exact hs q (s5.2 (.inr (.inl h1)))
  ·exact hs q (s5.2 (.inr (.inr (.inl h1))))
  ·rw[h1];exact Ws
  ·rw[h1];exact dQ
 have mL:∀q,q∈aE rv→H2 q=H q:=fun q hq=>hs q (s5.2 (.inl hq))
 have hle:Heap.le (rem H (ff rg bv gk g)) (rem H2 (ff (rg ++ [(z,c)]) bv gk g)):=fun q e hq=>by
  have hm:¬q∈ff rg bv gk g:=fun hm=>by rw[rem_in hm]at hq;cases hq
  rw[bL hm]at hq
  have Ki:q≠z:=fun e'=>by rw[e',iV]at hq;cases hq
  have nW:¬q∈ff (rg ++ [(z,c)]) bv gk g:=fun nW=>by
   rcases(nL q).1 nW with h1 | h1
   ·exact Ki h1
   ·exact hm h1
  by_cases hb:q∈aE rv
  ·exact⟨e,by rw[bL nW,mL q hb];exact hq,.refl e⟩
  ·have hR:¬q∈mO rv rg bv gk:=fun hR=>by
    rcases s5.1 hR with h1 | h1 | h1 | h1
    ·exact hb h1
    ·exact hm (fF.2 (.inl h1))
    ·exact hm (fF.2 (.inr (.inl h1)))
    ·exact hm (fF.2 (.inr (.inr (.inl h1))))
   have Ev:q≠g:=fun e'=>hm (fF.2 (.inr (.inr (.inr e'))))
   obtain⟨e',h1,h2⟩:=ku.le q e (by rw[bL (fun h'=>Ev (List.mem_singleton.1 h')),bL hR];exact hq)
   have afu:¬q∈z :: [g]:=fun h'=>by
    rcases List.mem_cons.1 h' with h' | h'
    ·exact Ki h'
    ·exact Ev (List.mem_singleton.1 h')
   rw[bL afu,bL hR]at h1
   exact⟨e',by rw[bL nW];exact h1,h2⟩
 have afv:Heap.le (rem (rem H2 (mO rv rg bv gk)) (z :: [g])) (rem H2 (ff (rg ++ [(z,c)]) bv gk g)):=fun q e hq=>by
  have h1:¬q∈z :: [g]:=fun h'=>by rw[rem_in h']at hq;cases hq
  rw[bL h1]at hq
  have h2:¬q∈mO rv rg bv gk:=fun h'=>by rw[rem_in h']at hq;cases hq
  rw[bL h2]at hq
  refine⟨e,?_,.refl e⟩
  rw[bL]
  ·exact hq
  ·intro h3
   rcases(nL q).1 h3 with h4 | h4
   ·exact h1 (by rw[h4];exact List.mem_cons_self ..)
   ·rcases fF.1 h4 with h5 | h5 | h5 | h5
    ·exact h2 (s5.2 (.inr (.inl h5)))
    ·exact h2 (s5.2 (.inr (.inr (.inl h5))))
    ·exact h2 (s5.2 (.inr (.inr (.inr h5))))
    ·exact h1 (by rw[h5];exact List.mem_cons_of_mem _ (List.mem_singleton.2 rfl))
 refine⟨⟨fun q hq=> ?_,?_,h.le.trans hle,h.yn.same fun q hq=> ?_,h.Kh,h.FX.same fun q hq=>OX q (fF.2 (.inr (.inl (dg.2 hq)))),fun j p hp=> ?_⟩,dQ,Ws⟩
 ·rcases(nL q).1 hq with h1 | h1
  ·rw[h1,j0];simp
  ·rw[OX q h1];exact h.ne q h1
 ·have dJ:=h.nd
  unfold ff at dJ⊢
  rw[List.map_append,List.append_assoc,List.nodup_append]at *
  refine⟨dJ.1,?_,fun a ha b hb=> ?_⟩
  ·simp only[List.map_cons,List.map_nil,List.singleton_append,List.nodup_cons]
   exact⟨fun hm=>Wu (by unfold ff;exact List.mem_append_right _ hm),dJ.2.1⟩
  ·simp only[List.map_cons,List.map_nil,List.singleton_append,List.mem_cons]at hb
   rcases hb with hb | hb
   ·intro e
    exact Wu (by unfold ff;rw[←hb,←e];exact List.mem_append_left _ ha)
   ·exact dJ.2.2 a ha b (by simpa using hb)
 ·have h1:=h.FY q (dg.2 hq)
  have Ki:q≠z:=fun e=>h1.2 (by rw[e];exact iV)
  rw[bL h1.1,bL (fun h2=>by
   rcases(nL q).1 h2 with h3 | h3
   ·exact Ki h3
   ·exact h1.1 h3),mL q (dg.2 hq)]
 ·by_cases hj:j<rg.length
  ·rw[List.getElem?_append_left hj]at hp
   exact(h.row j p hp).le hle (OX _ (fF.2 (.inl (List.mem_map.2 ⟨p,List.mem_of_getElem? hp,rfl⟩))))
  ·rw[List.getElem?_append_right (by omega)]at hp
   have hj0:j-rg.length=0:=by
    have:=(List.getElem?_eq_some_iff.1 hp).1
    simp at this;omega
   rw[hj0]at hp
   simp only[List.getElem?_cons_zero,Option.some.injEq]at hp
   subst hp
   have:j=rg.length:=by omega
   rw[this]
   exact⟨xs,sz,j0,gE.mono fun vs a=>fJ _ _ vs a afv⟩
theorem js.afw(h:js K g gk w A unit H rv k hd bv kb rg){Wv:Value}{k':Nat}{mf:List Value}(hG:lF (rem H (ff rg bv gk g)) rv 85 1 k' mf Wv (rem H2 (ff rg bv gk g)))(hs:∀q,q∈ff rg bv gk g→q≠g→H2 q=H q)(hg:H2 g≠none):js K g gk w A unit H2 Wv k' mf bv kb rg:=by
 obtain⟨n1,n2,n3,n4,n5⟩:=FZ h.nd
 refine⟨fun q hq=> ?_,h.nd,h.le.trans hG.le,hG.own,hG.aE h.le h.Kh,h.FX.same fun q hq=> ?_,fun j p hp=> ?_⟩
 ·by_cases e:q=g
  ·rw[e];exact hg
  ·rw[hs q hq e];exact h.ne q hq
 ·have:=dg.2 hq
  exact hs q (fF.2 (.inr (.inl this))) (fun e=>n2 (by rw[←e];exact this))
 ·have hm:p.1∈rg.map (·.1):=List.mem_map.2 ⟨p,List.mem_of_getElem? hp,rfl⟩
  exact(h.row j p hp).le hG.le (hs _ (fF.2 (.inl hm)) (fun e=>n1 (by rw[←e];exact hm)))
theorem js.afx(h:js K g gk w A unit H rv k hd bv kb rg){F3:Value}(hG:lF (rem H (mN rg gk g)) bv 3 1 (kb+1) (ints (fun j=>(unit j:Int)) (kb+1)) F3 (rem H2 (mN rg gk g)))(hs:∀q,q∈mN rg gk g→q≠g→H2 q=H q)(hg:H2 g≠none):js K g gk w A unit H2 rv k hd F3 (kb+1) rg:=by
 obtain⟨n1,n2,n3,n4,n5⟩:=FZ h.nd
 have OY:∀q,q∈mN rg gk g→q∈ff rg bv gk g:=fun q hq=>by
  rcases qn.1 hq with h1 | h1 | h1
  ·exact fF.2 (.inl h1)
  ·exact fF.2 (.inr (.inr (.inl h1)))
  ·exact fF.2 (.inr (.inr (.inr h1)))
 have Ww:∀q,q∈mN rg gk g→H2 q≠none:=fun q hq=>by
  by_cases e:q=g
  ·rw[e];exact hg
  ·rw[hs q hq e];exact h.ne q (OY q hq)
 have rX:=hG.own.lift
 have OZ:∀q,q∈aE F3→¬q∈mN rg gk g:=fun q hq hm=>rX.2 q hm (dg.1 hq)
 have Kj:∀q,q∈aE F3→q∈aE bv∨H q=none:=fun q hq=>by
  rcases hG.new q (dg.1 hq)with h1 | h1
  ·exact .inl (dg.2 h1)
  ·exact .inr (by rwa [bL (OZ q hq)]at h1)
 have hle:Heap.le (rem H (ff rg bv gk g)) (rem H2 (ff rg F3 gk g)):=fun q e hq=>by
  have hm:¬q∈ff rg bv gk g:=fun hm=>by rw[rem_in hm]at hq;cases hq
  rw[bL hm]at hq
  have hJ:¬q∈mN rg gk g:=fun h1=>hm (OY q h1)
  obtain⟨e',h1,h2⟩:=hG.le q e (by rw[bL hJ];exact hq)
  rw[bL hJ]at h1
  refine⟨e',?_,h2⟩
  rw[bL]
  ·exact h1
  ·intro h3
   rcases fF.1 h3 with h4 | h4 | h4
   ·exact hm (fF.2 (.inl h4))
   ·rcases Kj q h4 with h5 | h5
    ·exact hm (fF.2 (.inr (.inl h5)))
    ·rw[h5]at hq;cases hq
   ·exact hm (fF.2 (.inr (.inr h4)))
 have afy:bP (rem H (mN rg gk g)) rv 85 1 k hd:=h.yn.same fun q hq=>by
  have h1:=(h.FY q (dg.2 hq)).1
  rw[bL h1,bL (fun h2=>h1 (OY q h2))]
 have Kf:AP bv rv:=fun q h1 h2=>(h.FY q (dg.2 h2)).1 (fF.2 (.inr (.inl (dg.2 h1))))
 obtain⟨CQ,O0⟩:=hG.keep _ _ _ _ _ afy Kf
 refine⟨fun q hq=> ?_,?_,h.le.trans hle,CQ.same fun q hq=> ?_,h.Kh,rX.1,fun j p hp=> ?_⟩
 ·rcases fF.1 hq with h1 | h1 | h1
  ·exact Ww q (qn.2 (.inl h1))
  ·obtain⟨e,he⟩:=rX.1.block (dg.1 h1)
   rw[he];simp
  ·exact Ww q (qn.2 (.inr h1))
 ·have dJ:=h.nd
  unfold ff at dJ⊢
  rw[List.nodup_append,List.nodup_append]at *
  refine⟨dJ.1,⟨?_,dJ.2.1.2.1,fun a ha b hb e=> ?_⟩,fun a ha b hb e=> ?_⟩
  ·unfold aE;split <;> simp
  ·refine OZ a ha (qn.2 (.inr ?_))
   rw[e];simpa using hb
  ·rcases List.mem_append.1 hb with h1 | h1
   ·exact OZ b h1 (qn.2 (.inl (by rw[←e];exact ha)))
   ·exact dJ.2.2 a ha b (List.mem_append_right _ h1) e
 ·have h1:¬q∈mN rg gk g:=fun h1=>CQ.lift.2 q h1 hq
  rw[bL h1,bL]
  intro h2
  rcases fF.1 h2 with h3 | h3 | h3
  ·exact h1 (qn.2 (.inl h3))
  ·exact O0 q (dg.1 h3) hq
  ·exact h1 (qn.2 (.inr h3))
 ·have hm:p.1∈rg.map (·.1):=List.mem_map.2 ⟨p,List.mem_of_getElem? hp,rfl⟩
  exact(h.row j p hp).le hle (hs _ (qn.2 (.inl hm)) (fun e=>n1 (by rw[←e];exact hm)))
theorem js.Wx(h:js K g gk w A unit H rv k hd bv kb rg):bP (rem H (mN rg gk g)) bv 3 1 kb (ints (fun j=>(unit j:Int)) kb):=by
 obtain⟨n1,n2,n3,n4,n5⟩:=FZ h.nd
 refine h.FX.same fun q hq=> ?_
 have hb:=dg.2 hq
 rw[bL]
 intro h1
 rcases qn.1 h1 with h2 | h2 | h2
 ·exact(n4 q hb).1 h2
 ·exact(n4 q hb).2 h2
 ·exact n2 (by rw[←h2];exact hb)
theorem js.leR(h:js K g gk w A unit H rv k hd bv kb rg):Heap.le K (rem (rem H (mO rv rg bv gk)) [g]):=fun q e hq=>by
 obtain⟨e',h1,h2⟩:=h.le q e hq
 have hm:¬q∈ff rg bv gk g:=fun hm=>by rw[rem_in hm]at h1;cases h1
 rw[bL hm]at h1
 refine⟨e',?_,h2⟩
 rw[bL (fun h3=>hm (fF.2 (.inr (.inr (.inr (List.mem_singleton.1 h3)))))),bL]
 ·exact h1
 ·intro h3
  rcases s5.1 h3 with h4 | h4 | h4 | h4
  ·rw[h.Kh q h4]at hq;cases hq
  ·exact hm (fF.2 (.inl h4))
  ·exact hm (fF.2 (.inr (.inl h4)))
  ·exact hm (fF.2 (.inr (.inr (.inl h4))))
end
end Go.ar
namespace Go.ar
open Go.Proofs Num Lp
section
variable (p:Prg)
theorem yo{j:Nat}(h:j<p.lp.n):p.lay.pF j=aT p.lp.free j:=by
 simp[TL.pF,Prg.lay,List.getD,h]
theorem F4{j:Nat}(h:j<p.lp.n):p.lay.mZ j=mM p.lp.free j:=by
 simp[TL.mZ,Prg.lay,List.getD,h]
theorem l5:p.c1≤p.u:=(rC p.lp.rel p.c1 p.lp.m).2
theorem fg:p.u≤p.w:=(s4 p.lp.rel p.aF p.u p.lp.m).2
theorem F5{j:Nat}(h:j<p.lp.n):aT p.lp.free j<p.c1:=by
 have:=AN (fr:=p.lp.free) h
 have e:p.c1=aT p.lp.free p.lp.n:=rfl
 omega
theorem F6{j:Nat}(h:j<p.lp.n):mM p.lp.free j<p.c1:=by
 have:=AN (fr:=p.lp.free) h
 have e:p.c1=aT p.lp.free p.lp.n:=rfl
 unfold mM
 by_cases hf:p.lp.free j
 ·rw[if_pos hf]at this⊢;omega
 ·rw[if_neg hf];omega
theorem O1{i:Nat}(h:i<p.lp.m)(hr:p.lp.rel i≠2):(p.c1:Int)≤eI p.lp.rel p.c1 i∧eI p.lp.rel p.c1 i<p.u:=by
 have h1:=OR (rel:=p.lp.rel) (c:=p.c1) h
 have h2:=(rC p.lp.rel p.c1 i).2
 rw[if_neg hr]at h1
 have e:p.u=bm p.lp.rel p.c1 p.lp.m:=rfl
 unfold eI
 rw[if_neg hr];omega
theorem nx{i:Nat}(h:i<p.lp.m):p.unit i<p.w:=by
 have h3:=fg p
 show qm _ _ _ _ _<_
 unfold qm
 by_cases ho:eP (p.lp.rel i) (p.aF i)=true
 ·rw[if_pos ho]
  have hr:p.lp.rel i≠2:=by
   unfold eP at ho
   rw[decide_eq_true_eq]at ho
   omega
  have:=O1 p h hr
  unfold eI at this
  rw[if_neg hr]at this
  omega
 ·rw[if_neg ho]
  have:=OS (rel:=p.lp.rel) (sg:=p.aF) (u:=p.u) h
  rw[if_neg ho]at this
  have e:p.w=aV p.lp.rel p.aF p.u p.lp.m:=rfl
  omega
theorem F8:p.w≤2*p.lp.n+2*p.lp.m:=by
 have h1:=(s4 p.lp.rel p.aF p.u p.lp.m).1
 have h2:=(rC p.lp.rel p.c1 p.lp.m).1
 have h3:=OQ p.lp.free p.lp.n
 have e1:p.w=aV p.lp.rel p.aF p.u p.lp.m:=rfl
 have e2:p.u=bm p.lp.rel p.c1 p.lp.m:=rfl
 have e3:p.c1=aT p.lp.free p.lp.n:=rfl
 omega
theorem afz{i:Nat}{r:List Rat×Int×Rat}(h:p.rows[i]? = some r):p.dP.A i=JZ p.lay p.lp.n (fn r.1) r.2.2 r.2.1 (eI p.lp.rel p.c1 i) (p.unit i) (p.aF i:Rat):=by
 show JZ p.lay p.lp.n (fn (p.row i).1) (p.row i).2.2 (p.row i).2.1 _ _ _=_
 rw[Prg.m8 h]
end
theorem js.tab{K H:Heap}{g gk:Nat}{p:Prg}{rv bv pv mv uv sv:Value}{rg:List (Nat×Nat)}(h:js K g gk p.w p.dP.A p.unit H rv p.lp.m (rg.map (OW p.w)) bv p.lp.m rg)(hl:rg.length=p.lp.m)
  (hg:H g=some ⟨[.int .i64 (p.w:Int),.int .i64 (p.u:Int),pv,mv,uv,sv,rv,.slice none 0 0,bv],9,97,true⟩) (rf:aR uo 1 K pv p.lay.plus) (ux:aR uk 1 K mv p.lay.minus) (Fu:aR uo 1 K uv p.lay.j8) (p3:aR bE 3 K sv p.lay.jQ):
  ∃G:TG,Value.pointer (some ⟨g,0,none⟩) = .pointer (some ⟨G.g,0,none⟩)∧dz H G p.lay p.dP∧G.cb = []∧Heap.le K (rem H G.gs):=by
 obtain⟨Ar,cr,rfl⟩:=h.yn.form
 obtain⟨n1,n2,n3,n4,n5⟩:=FZ h.nd
 have dJ:=h.nd
 unfold ff at dJ
 rw[List.nodup_append,List.nodup_append]at dJ
 let G:TG:=⟨g,cr,Ar,pv,mv,uv,sv,.slice none 0 0,bv,rg,[],aE bv⟩
 have nL:∀q,q∈G.gs→q∈ff rg bv gk g:=fun q hq=>by
  rcases List.mem_cons.1 hq with h1 | h1
  ·exact fF.2 (.inr (.inr (.inr h1)))
  ·rcases List.mem_append.1 h1 with h2 | h2
   ·cases h2
   ·rcases List.mem_append.1 h2 with h3 | h3
    ·exact fF.2 (.inr (.inl h3))
    ·exact fF.2 (.inl h3)
 have hle:Heap.le (rem H (ff rg bv gk g)) (rem H G.gs):=fun q e hq=>by
  have hm:¬q∈ff rg bv gk g:=fun hm=>by rw[rem_in hm]at hq;cases hq
  rw[bL hm]at hq
  exact⟨e,by rw[bL (fun h'=>hm (nL q h'))];exact hq,.refl e⟩
 have hK:=h.le.trans hle
 refine⟨G,rfl,⟨rfl,fg p,hg,?_,hl,⟨_,h.yn.rd.le hle,fun i q hq=> ?_⟩,fun i q hq=>(h.row i q hq).le hle rfl,?_,rf.le lY hK,ux.le uq hK,Fu.le lY hK,p3.le fJ hK,fun q hq=>by cases hq⟩,rfl,hK⟩
 ·show (g::([]++(aE bv++rg.map (·.1)))).Nodup
  rw[List.nil_append,List.nodup_cons,List.nodup_append]
  refine⟨fun hm=> ?_,dJ.2.1.1,dJ.1,fun a ha b hb e=>(n4 a ha).1 (by rw[e];exact hb)⟩
  rcases List.mem_append.1 hm with h1 | h1
  ·exact n2 h1
  ·exact n1 h1
 ·rw[List.getElem?_map,show rg[i]? = some q from hq];rfl
 ·rcases h.FX.2 with ⟨h1,h2⟩ | ⟨gb,cb,h1,h2,_⟩
  ·refine .inl ⟨h2,?_,h1⟩
   show aE bv = []
   rw[h1];rfl
  ·refine .inr ⟨gb,cb,_,?_,h1,h2⟩
   show aE bv = [gb]
   rw[h1];rfl
theorem js.new{H:Heap}{g gk w:Nat}{A:Nat→Nat→Rat}{unit:Nat→Nat}(aY:∀q,q∈[gk,g]→H q≠none)(h:gk≠g):js (rem H [gk,g]) g gk w A unit H (.slice none 0 0) 0 [] (.slice none 0 0) 0 []:=
 ⟨aY,(by show [gk,g].Nodup;simp[h]),.refl _,lQ _ _ _,(fun q hq=>by cases hq),lQ _ _ _,(fun j p hp=>by simp at hp)⟩
theorem bP.nums{K K':Heap}{v:Value}{f:Nat→Rat}{k:Nat}{ys:List Value}(h:bP K v 90 3 k ys)(hy:∀K:Heap,bC (bE K) 3 ys (aH f k))(hl:Heap.le K K'):aR bE 3 K' v (aH f k):=by
 obtain⟨A,c,rfl⟩:=h.form
 refine⟨A,c,_,by rw[aW],?_,h.rd.le hl,hy _⟩
 rw[aW]
 rcases h.2 with ⟨k1,k2⟩ | ⟨g,cap,k1,_,k3,_⟩
 ·omega
 ·cases k1;exact k3
theorem Wy{s:Int}(h:s=1∨s = -1):aG (s:Rat)≤1:=by
 rcases h with h | h <;> subst h <;> decide
theorem AQ(A:Option Addr)(k c:Nat):∀u,u∈[Value.slice A k c]→u.oneCell'=true:=fun u hu=>by rw[List.mem_singleton]at hu;rw[hu];rfl
end Go.ar
namespace Go.ar
open Go.Proofs Num Lp
theorem jt(f:Nat→Rat)(k:Nat)(v:Rat):bQ f k v k=v:=by simp[bQ]
theorem dY{f:Nat→Rat}{k j:Nat}{v:Rat}(h:j≠k):bQ f k v j=f j:=by simp[bQ,h]
section
variable {p:Prg}
theorem C4{a:Nat→Rat}{sg:Rat}{k x:Nat}(hk:k≤p.lp.n)(hx:aT p.lp.free k≤x):jS p.lay a sg k x=0:=by
 induction k with
 | zero=>rfl
 | succ k ih=>
  have h1:aT p.lp.free (k+1)=aT p.lp.free k+1+(if p.lp.free k then 1 else 0):=rfl
  rw[AJ,yo p (by omega),F4 p (by omega)]
  unfold mM
  by_cases hf:p.lp.free k=true
  ·rw[if_pos hf]at h1
   rw[if_pos hf,if_pos (by omega),dY (by rw[Int.toNat_natCast];omega),dY (by omega)]
   exact ih (by omega) (by omega)
  ·rw[if_neg hf]at h1
   rw[if_neg hf,if_neg (by omega),dY (by omega)]
   exact ih (by omega) (by omega)
theorem C5{a:Nat→Rat}{sg:Rat}{k j:Nat}(hk:k≤p.lp.n)(hj:j<k):jS p.lay a sg k (aT p.lp.free j)=a j*sg∧(p.lp.free j=true→jS p.lay a sg k (aT p.lp.free j+1) = -(a j*sg)):=by
 induction k with
 | zero=>omega
 | succ k ih=>
  rw[AJ,yo p (by omega),F4 p (by omega)]
  unfold mM
  by_cases e:j=k
  ·subst e
   by_cases hf:p.lp.free j=true
   ·rw[if_pos hf,if_pos (by omega),Int.toNat_natCast]
    refine⟨?_,fun _=>jt _ _ _⟩
    rw[dY (by omega),jt]
   ·rw[if_neg hf,if_neg (by omega),jt]
    exact⟨rfl,fun h=>absurd h hf⟩
  ·have hm:=AN (fr:=p.lp.free) (show j<k by omega)
   have tN:=ih (by omega) (by omega)
   by_cases hf:p.lp.free k=true
   ·rw[if_pos hf,if_pos (by omega),Int.toNat_natCast]
    refine⟨?_,fun h=> ?_⟩
    ·rw[dY (by omega),dY (by omega)];exact tN.1
    ·rw[if_pos h]at hm
     rw[dY (by omega),dY (by omega)];exact tN.2 h
   ·rw[if_neg hf,if_neg (by omega)]
    refine⟨?_,fun h=> ?_⟩
    ·rw[dY (by omega)];exact tN.1
    ·rw[if_pos h]at hm
     rw[dY (by omega)];exact tN.2 h
theorem Kk{i:Nat}:p.c1≤p.unit i:=by
 show _≤qm _ _ _ _ _
 unfold qm
 split
 ·exact(rC _ _ _).2
 ·exact Nat.le_trans (l5 p) (s4 _ _ _ _).2
theorem C6{i:Nat}(h:eP (p.lp.rel i) (p.aF i)=true):(p.lp.rel i=1∧p.aF i=1)∨(p.lp.rel i=3∧p.aF i = -1):=by
 unfold eP at h
 rwa [decide_eq_true_eq]at h
theorem yp{i:Nat}(h:eP (p.lp.rel i) (p.aF i)=true):p.unit i=bm p.lp.rel p.c1 i:=by
 show qm _ _ _ _ _=_;unfold qm;rw[if_pos h]
theorem uK{i:Nat}(h:¬eP (p.lp.rel i) (p.aF i)=true):p.unit i=aV p.lp.rel p.aF p.u i:=by
 show qm _ _ _ _ _=_;unfold qm;rw[if_neg h]
theorem O2{rel:Nat→Int}{c i q:Nat}(hi:rel i≠2)(hq:rel q≠2)(h:q≠i):bm rel c q≠bm rel c i:=by
 rcases Nat.lt_or_gt_of_ne h with h | h
 ·have:=OR (rel:=rel) (c:=c) h
  rw[if_neg hq]at this;omega
 ·have:=OR (rel:=rel) (c:=c) h
  rw[if_neg hi]at this;omega
theorem AR{i:Nat}(hi:i<p.lp.m)(hr:p.lp.rel i≠2):bm p.lp.rel p.c1 i<p.u:=by
 have:=O1 p hi hr
 unfold eI at this
 rw[if_neg hr]at this
 omega
theorem afA{i q:Nat}(hi:i<p.lp.m)(hq:q<p.lp.m)(h:q≠i):p.unit q≠p.unit i:=by
 by_cases oi:eP (p.lp.rel i) (p.aF i)=true
 ·have ri:p.lp.rel i≠2:=by have:=C6 oi;omega
  by_cases oq:eP (p.lp.rel q) (p.aF q)=true
  ·have rq:p.lp.rel q≠2:=by have:=C6 oq;omega
   rw[yp oi,yp oq];exact O2 ri rq h
  ·rw[yp oi,uK oq]
   have:=AR hi ri
   have:=(s4 p.lp.rel p.aF p.u q).2
   omega
 ·by_cases oq:eP (p.lp.rel q) (p.aF q)=true
  ·have rq:p.lp.rel q≠2:=by have:=C6 oq;omega
   rw[uK oi,yp oq]
   have:=AR hq rq
   have:=(s4 p.lp.rel p.aF p.u i).2
   omega
  ·rw[uK oi,uK oq]
   rcases Nat.lt_or_gt_of_ne h with h | h
   ·have:=OS (rel:=p.lp.rel) (sg:=p.aF) (u:=p.u) h
    rw[if_neg oq]at this;omega
   ·have:=OS (rel:=p.lp.rel) (sg:=p.aF) (u:=p.u) h
    rw[if_neg oi]at this;omega
theorem Wz{i q:Nat}(hi:i<p.lp.m)(ri:p.lp.rel i≠2)(h:q≠i):p.unit q≠bm p.lp.rel p.c1 i:=by
 by_cases oq:eP (p.lp.rel q) (p.aF q)=true
 ·have rq:p.lp.rel q≠2:=by have:=C6 oq;omega
  rw[yp oq];exact O2 ri rq h
 ·rw[uK oq]
  have:=AR hi ri
  have:=(s4 p.lp.rel p.aF p.u q).2
  omega
theorem AS(i:Nat):p.dP.A i=bQ (bQ (rp (jS p.lay (p.lp.a i) (p.aF i:Rat) p.lp.n) (p.lp.rel i) (eI p.lp.rel p.c1 i) (p.aF i:Rat)) (p.unit i) 1) p.w (p.lp.b i*(p.aF i:Rat)):=rfl
theorem C7{f:Nat→Rat}{rel slack:Int}{sg:Rat}{x:Nat}(h:rel≠2→x≠slack.toNat):rp f rel slack sg x=f x:=by
 unfold rp
 split
 ·exact dY (h (by omega))
 ·split
  ·exact dY (h (by omega))
  ·rfl
theorem AT{i:Nat}(hr:p.lp.rel i≠2):(eI p.lp.rel p.c1 i).toNat=bm p.lp.rel p.c1 i:=by
 unfold eI;rw[if_neg hr,Int.toNat_natCast]
theorem O3{i x:Nat}(hx:x<p.c1):p.dP.A i x=jS p.lay (p.lp.a i) (p.aF i:Rat) p.lp.n x:=by
 have h1:=l5 p
 have h2:=fg p
 have h3:=Kk (p:=p) (i:=i)
 rw[AS,dY (by omega),dY (by omega),C7]
 intro hr
 rw[AT hr]
 have:=(rC p.lp.rel p.c1 i).2
 omega
theorem afB{i j:Nat}(hj:j<p.lp.n):p.dP.A i (aT p.lp.free j)=p.lp.a i j*(p.aF i:Rat):=by
 rw[O3 (F5 p hj)];exact(C5 (Nat.le_refl _) hj).1
theorem afC{i j:Nat}(hj:j<p.lp.n)(hf:p.lp.free j=true):p.dP.A i (aT p.lp.free j+1) = -(p.lp.a i j*(p.aF i:Rat)):=by
 have:=F6 p hj
 unfold mM at this
 rw[if_pos hf]at this
 rw[O3 (by omega)];exact(C5 (Nat.le_refl _) hj).2 hf
theorem afD{i q:Nat}(hi:i<p.lp.m)(hv:p.lp.rel i=1∨p.lp.rel i=3):p.dP.A q (bm p.lp.rel p.c1 i)=if q=i then(if p.lp.rel i=1 then(p.aF i:Rat)else -(p.aF i:Rat))else 0:=by
 have hr:p.lp.rel i≠2:=by omega
 have h1:=AR hi hr
 have h2:=fg p
 have h3:=(rC p.lp.rel p.c1 i).2
 rw[AS,dY (by omega)]
 by_cases e:q=i
 ·subst e
  rw[if_pos rfl]
  by_cases o:eP (p.lp.rel q) (p.aF q)=true
  ·rw[yp o,jt]
   rcases C6 o with ⟨k1,k2⟩ | ⟨k1,k2⟩
   ·rw[if_pos k1,k2];rfl
   ·rw[if_neg (by omega),k2];grind
  ·rw[dY (by rw[uK o];have:=(s4 p.lp.rel p.aF p.u q).2;omega)]
   unfold rp
   rw[AT hr]
   by_cases k1:p.lp.rel q=1
   ·rw[if_pos k1,if_pos k1,jt]
   ·rw[if_neg k1,if_neg k1,if_pos (by omega),jt]
 ·rw[if_neg e,dY (Ne.symm (Wz hi hr e)),C7 (fun hq=>by rw[AT hq];exact Ne.symm (O2 hr hq e))]
  exact C4 (Nat.le_refl _) h3
theorem WA{i q:Nat}(hi:i<p.lp.m)(hq:q<p.lp.m):p.dP.A q (p.unit i)=if q=i then 1 else 0:=by
 have h1:=nx p hi
 rw[AS,dY (by omega)]
 by_cases e:q=i
 ·subst e
  rw[if_pos rfl,jt]
 ·rw[if_neg e,dY (Ne.symm (afA hi hq e)),C7]
  ·exact C4 (Nat.le_refl _) Kk
  ·intro rq
   rw[AT rq]
   exact Wz hq rq (Ne.symm e)
theorem WB(i:Nat):p.dP.A i p.w=p.lp.b i*(p.aF i:Rat)∧0≤p.dP.A i p.w:=by
 have h:p.dP.A i p.w=p.lp.b i*(p.aF i:Rat):=by rw[AS,jt]
 refine⟨h,?_⟩
 rw[h]
 show 0≤p.lp.b i*((kv (p.lp.b i) (p.lp.rel i):Int):Rat)
 unfold kv
 split
 ·rename_i hc
  have:p.lp.b i≤0:=by rcases hc with hc | hc <;> grind
  show 0≤p.lp.b i*((-1:Int):Rat)
  grind
 ·rename_i hc
  have:0≤p.lp.b i:=by
   have:¬p.lp.b i<0:=fun h=>hc (.inl h)
   grind
  show 0≤p.lp.b i*((1:Int):Rat)
  grind
def _root_.Lp.Prg.s6(p:Prg)(i:Nat):Option Nat:=if p.lp.rel i=2 then none else some (bm p.lp.rel p.c1 i)
theorem C8{j:Nat}(h:j<p.lp.n):p.lay.mF j=if p.lp.free j then some (aT p.lp.free j+1)else none:=by
 unfold TL.mF
 rw[F4 p h]
 unfold mM
 by_cases hf:p.lp.free j=true
 ·rw[if_pos hf,if_pos hf,if_pos (by omega),Int.toNat_natCast]
 ·rw[if_neg hf,if_neg hf,if_neg (by omega)]
theorem WC{i:Nat}(h:i<p.lp.m):p.lay.uF i=p.unit i:=by
 simp[TL.uF,Prg.lay,List.getD,h]
theorem C9{i:Nat}(h:i<p.lp.m):p.lay.sF i=(p.aF i:Rat):=by
 have:p.lay.jQ[i]? = some ((p.aF i:Int):Rat):=di (f:=fun i=>(p.aF i:Rat)) h
 exact jC this
theorem afE(f:Nat→Rat){k:Nat}(hk:k≤p.lp.n):aX (aT p.lp.free k) f=aX k (fun j=>f (p.lay.pF j)+gY f (p.lay.mF j)):=by
 induction k with
 | zero=>rfl
 | succ k ih=>
  have h1:aT p.lp.free (k+1)=aT p.lp.free k+1+(if p.lp.free k then 1 else 0):=rfl
  rw[fG,←ih (by omega),yo p (by omega),C8 (by omega)]
  by_cases hf:p.lp.free k=true
  ·rw[if_pos hf]at h1⊢
   rw[h1,fG,fG]
   simp only[gY];grind
  ·rw[if_neg hf]at h1⊢
   rw[h1,Nat.add_zero,fG]
   simp only[gY];grind
theorem afF(f:Nat→Rat)(k:Nat):aX (bm p.lp.rel p.c1 k) f=aX p.c1 f+aX k (fun i=>gY f (p.s6 i)):=by
 induction k with
 | zero=>rw[Cw,Rat.add_zero];rfl
 | succ k ih=>
  have h1:bm p.lp.rel p.c1 (k+1)=bm p.lp.rel p.c1 k+(if p.lp.rel k=2 then 0 else 1):=rfl
  rw[fG]
  by_cases hr:p.lp.rel k=2
  ·rw[if_pos hr]at h1
   have:p.s6 k=none:=by unfold Prg.s6;rw[if_pos hr]
   rw[h1,Nat.add_zero,this,ih]
   simp only[gY];grind
  ·rw[if_neg hr]at h1
   have:p.s6 k=some (bm p.lp.rel p.c1 k):=by unfold Prg.s6;rw[if_neg hr]
   rw[h1,this,fG,ih]
   simp only[gY];grind
theorem Kl(bg:p.Ok):dE p.lp p.dP.A p.w p.u p.lay.pF p.lay.mF p.s6 p.lay.uF p.lay.sF where
 valid:=bg.valid
 uw:=fg p
 UC i hi:=by
  rw[C9 hi]
  rcases rB (p.lp.b i) (p.lp.rel i)with h | h
  ·left;show ((kv _ _:Int):Rat)=1;rw[h];rfl
  ·right;show ((kv _ _:Int):Rat) = -1;rw[h];rfl
 rhs i hi:=by rw[C9 hi];exact WB i
 pl j hj:=by
  rw[yo p hj]
  refine⟨Nat.lt_of_lt_of_le (F5 p hj) (l5 p),fun i hi=> ?_⟩
  rw[C9 hi];exact afB hj
 mi j hj:=by
  rw[C8 hj]
  refine⟨fun h=>by rw[h];rfl,fun k hk=> ?_⟩
  by_cases hf:p.lp.free j=true
  ·rw[if_pos hf]at hk
   cases hk
   have h1:=F6 p hj
   unfold mM at h1
   rw[if_pos hf]at h1
   have h2:=l5 p
   refine⟨by omega,fun i hi=> ?_⟩
   rw[C9 hi];exact afC hj hf
  ·rw[if_neg hf]at hk;cases hk
 NS j hj hf:=by
  rw[C8 hj,if_pos hf];exact⟨_,rfl⟩
 sl i hi:=by
  refine⟨fun h=>by unfold Prg.s6;rw[if_pos h],fun h=>⟨_,by unfold Prg.s6;rw[if_neg h]⟩,fun k hk=> ?_⟩
  unfold Prg.s6 at hk
  by_cases hr:p.lp.rel i=2
  ·rw[if_pos hr]at hk;cases hk
  ·rw[if_neg hr]at hk
   cases hk
   refine⟨AR hi hr,fun q hq=> ?_⟩
   rw[C9 hi]
   exact afD hi (by have:=bg.valid i hi;omega)
 un i hi:=by
  rw[WC hi]
  exact⟨nx p hi,fun q hq=>WA hi hq⟩
 sum f:=by
  have h1:p.u=bm p.lp.rel p.c1 p.lp.m:=rfl
  rw[h1,afF,show p.c1=aT p.lp.free p.lp.n from rfl,afE f (Nat.le_refl _)]
theorem oD:p.lay.Ok p.lp.n p.lp.m where
 JU:=by simp[Prg.lay]
 JV:=by simp[Prg.lay]
 Oq:=by simp[Prg.lay]
 Ot:=aW _ _
 pw j hj:=by
  rw[yo p hj]
  have:=F5 p hj;have:=l5 p;have:=fg p
  show _<p.w;omega
 mw j hj:=by
  rw[F4 p hj]
  have:=F6 p hj;have:=l5 p;have:=fg p
  show _<((p.w:Nat):Int);omega
 uw i hi:=by rw[WC hi];exact nx p hi
 s1 i hi:=by rw[C9 hi];exact Wy (rB _ _)
theorem afG:p.dP.WF where
 lt i hi:=nx p hi
 unit i k hi hk:=WA hi hk
 zero i hi:=rfl
theorem afH:p.dP.jO:=fun i _=>(WB i).2
theorem afI:ao.Rows p.dP.A p.lp.m p.w p.dP:=ao.adO (fun _ _=>rfl) rfl rfl
end
end Go.ar
namespace Go.ar
open Go.Proofs Num Lp
theorem Km{D X:Nat}{q:Rat}(D':Nat)(h:ao.fe D X q):ao.fe (D*D') (X*D') q:=by
 obtain⟨z,h1,h2⟩:=h
 refine⟨z*D',?_,?_⟩
 ·rw[Rat.natCast_mul,Rat.intCast_mul,←h1]
  have:((D':Int):Rat)=(D':Rat):=rfl
  rw[this];grind
 ·rw[Int.natAbs_mul,Int.natAbs_natCast];exact Nat.mul_le_mul_right _ h2
theorem afJ{D D' X Y:Nat}{q r:Rat}(h:ao.fe D X q)(k:ao.fe D' Y r):ao.fe (D*D') (X*Y) (q*r):=by
 obtain⟨z,h1,h2⟩:=h
 obtain⟨y,k1,k2⟩:=k
 refine⟨z*y,?_,?_⟩
 ·rw[Rat.natCast_mul,Rat.intCast_mul,←h1,←k1];grind
 ·rw[Int.natAbs_mul];exact Nat.mul_le_mul h2 k2
theorem O4{T:ao}{f:Nat→Rat}{D D' X Y k j:Nat}(hB:∀i,i<T.m→T.B i<T.n)(hf:∀j,j<T.n→ao.fe D X (f j))(hA:∀i,i<T.m→ao.fe D' Y (T.A i j))(hk:k≤T.m)(hj:j≤T.n):
  ao.fe (D*D') (X*D'+k*(X*Y)) (gn T f k j):=by
 unfold gn
 refine ao.fe.sub ?_ (ao.aei k _ fun i hi=>afJ (hf _ (hB i (by omega))) (hA i (by omega)))
 split
 ·exact ao.JI _ _
 ·exact Km _ (hf j (by omega))
theorem afK(e:Nat):2^e<B^(e+1):=by
 have h1:2^(e+1)≤B^(e+1):=Nat.pow_le_pow_left (by decide) _
 have h2:2^e<2^(e+1):=Nat.pow_lt_pow_right (by decide) (by omega)
 omega
theorem Ga{D X e:Nat}{q:Rat}(hD:0<D)(h:ao.fe D X q)(h1:D≤2^e)(h2:X≤2^e):aG q≤e+1:=by
 have h3:=ao.aed hD h
 have h4:=afK e
 unfold aG
 rw[Nat.max_le,iQ,iQ]
 omega
theorem Gb{D D0 n j e f:Nat}(hD:D≤2^e)(h0:D0≤2^f):D*ao.lz n j D0 1≤2^(e+f)∧2^(e+ao.lz n j f 0)≤2^(e+f):=by
 have h1:(1:Nat)≤2^f:=Nat.one_le_two_pow
 unfold ao.lz
 split
 ·exact⟨by rw[Nat.pow_add];exact Nat.mul_le_mul hD h0,Nat.le_refl _⟩
 ·exact⟨by rw[Nat.pow_add];exact Nat.mul_le_mul hD h1,Nat.pow_le_pow_right (by decide) (by omega)⟩
theorem O5{D D0 n j:Nat}(hD:0<D)(h0:0<D0):0<D*ao.lz n j D0 1:=Nat.mul_pos hD (by unfold ao.lz;split <;> omega)
theorem afL{D0 f e:Nat}{T:ao}(h:ao.Bd D0 f e T)(p0:0<D0)(h0:D0≤2^f):Sz (e+f+1) T:=by
 obtain⟨D,h1,h2,h3,h4⟩:=h
 exact⟨fun i hi j hj=>Ga (O5 h1 p0) (h3 i hi j hj) (Gb h2 h0).1 (Gb (j:=j) (n:=T.n) h2 h0).2,fun j hj=>Ga (O5 h1 p0) (h4 j hj) (Gb h2 h0).1 (Gb (j:=j) (n:=T.n) h2 h0).2⟩
def In(l:List Rat)(p:Prg):Prop:=∀i,i<p.lp.m→∀j,j<p.lp.n→p.lp.a i j∈l
structure Gc(D0 f:Nat)(p:Prg):Prop where
 pos:0<D0
 le:D0≤2^f
 b:∀i,i<p.lp.m→ao.fe D0 (2^f) (p.lp.b i)
theorem Da{P:Rat→Prop}{f:Nat→Rat}{k:Nat}{q:Rat}(hf:∀j,P (f j))(hq:P q):∀j,P (bQ f k q j):=fun j=>by
 unfold bQ;split
 ·exact hq
 ·exact hf j
abbrev CM(l:List Rat)(q:Rat):Prop:=ao.fe (ao.iD l) (2^(2*ao.fL l)) q
section
variable {p:Prg} {l:List Rat}
theorem WD{D X:Nat}{q:Rat}{s:Int}(h:ao.fe D X q)(hs:s=1∨s = -1):ao.fe D X (q*(s:Rat)):=by
 rcases hs with e | e
 ·rw[e,show q*((1:Int):Rat)=q by grind];exact h
 ·rw[e,show q*((-1:Int):Rat) = -q by grind];exact h.neg
theorem WE:CM l 1:=ao.U3 l 1 (by decide)
theorem WG{s:Int}(hs:s=1∨s = -1):CM l (s:Rat):=ao.U3 l s (by omega)
theorem WH{a:Nat→Rat}{s:Int}(hs:s=1∨s = -1)(k:Nat)(ha:∀j,j<k→CM l (a j))(L:TL):∀j,CM l (jS L a (s:Rat) k j):=by
 induction k with
 | zero=>exact fun j=>ao.JI _ _
 | succ k ih=>
  have tN:=ih (fun j hj=>ha j (by omega))
  have h1:=WD (ha k (by omega)) hs
  intro j
  rw[AJ]
  split
  ·exact Da (Da tN h1) h1.neg j
  ·exact Da tN h1 j
theorem O6(h:In l p){i:Nat}(hi:i<p.lp.m){j:Nat}(hj:j≠p.w):CM l (p.dP.A i j):=by
 have hs:=rB (p.lp.b i) (p.lp.rel i)
 rw[AS,dY hj]
 refine Da (fun j=> ?_) WE j
 have h1:=WH (l:=l) (L:=p.lay) hs p.lp.n (fun j hj=>ao.Od (h i hi j hj))
 unfold rp
 split
 ·exact Da h1 (WG hs) j
 ·split
  ·exact Da h1 (WG hs).neg j
  ·exact h1 j
theorem O7{D0 f:Nat}(h:Gc D0 f p){i:Nat}(hi:i<p.lp.m):ao.fe D0 (2^f) (p.dP.A i p.w):=by
 rw[AS,jt]
 exact WD (h.b i hi) (rB (p.lp.b i) (p.lp.rel i))
def pA(T:ao)(c0:Nat→Rat):ao:={T with c:=gn T c0 T.m}
structure Inv(p:Prg)(c0:Nat→Rat)(S:ao):Prop where
 wf:S.WF
 eF:S.jO
 rows:ao.Rows p.dP.A p.lp.m p.w S
 off:dE.sR p.dP.A p.lp.m p.w c0 S.c
theorem afM{T:ao}{c0:Nat→Rat}(hB:∀i,i<T.m→T.B i<T.n)(hu:∀i k,i<T.m→k<T.m→T.A k (T.B i)=if k=i then 1 else 0){i:Nat}(hi:i<T.m):gn T c0 T.m (T.B i)=0:=by
 unfold gn
 have h1:=hB i hi
 rw[if_neg (by omega),sP hi _ (fun k hk aY=>by rw[hu i k hi hk,if_neg aY];grind),hu i i hi hi,if_pos rfl]
 grind
theorem Inv.WI{S:ao}{c0:Nat→Rat}(h0:c0 p.w=0)(hW:S.WF)(hF:S.jO)(hR:ao.Rows p.dP.A p.lp.m p.w S):Inv p c0 (pA S c0):=by
 have dH:ao.Rows p.dP.A p.lp.m p.w (pA S c0):=⟨hR.m,hR.n,hR.mul,hR.m6⟩
 refine⟨⟨hW.lt,hW.unit,fun i hi=>afM hW.lt hW.unit hi⟩,hF,dH,hR.off c0 (fun i=>c0 (S.B i)) fun j hj=> ?_⟩
 show gn S c0 S.m j=_
 unfold gn
 rw[hR.m,hR.n]
 by_cases e:j=p.w
 ·rw[if_pos e,e,h0]
 ·rw[if_neg e]
theorem Inv.step{S:ao}{c0:Nat→Rat}(h:Inv p c0 S){u r s:Nat}(hu:u≤S.n)(hb:S.ot u r s):Inv p c0 (S.pivot r s):=by
 have hp:S.A r s≠0:=by have:=hb.pos;grind
 have hs:=hb.su
 have hr:=hb.rm
 exact⟨ao.zN h.wf hr (by omega) hp,ao.EX h.eF hb,h.rows.pivot (by rw[←h.rows.m];exact hr) hp,h.rows.NU h.off (by rw[←h.rows.m];exact hr)⟩
theorem Inv.same{S T:ao}{c0:Nat→Rat}(h:Inv p c0 S)(h':Inv p c0 T):ao.jP S T:=
 ⟨by rw[h.rows.m,h'.rows.m],by rw[h.rows.n,h'.rows.n],fun x=>by rw[h.rows.m6,h'.rows.m6],fun x hx=>by
  rw[h.rows.cost h.off hx,h'.rows.cost h'.off ((h'.rows.m6 x).2 ((h.rows.m6 x).1 hx))]⟩
theorem WJ(m:Nat):m+1≤2^m:=by
 induction m with
 | zero=>decide
 | succ m ih=>rw[Nat.pow_succ];omega
theorem afN{D0 f:Nat}(h:In l p)(hb:Gc D0 f p){c0:Nat→Rat}(hc:∀j,j<p.w→CM l (c0 j)):ao.Bd D0 f (4*ao.fL l+p.lp.m) (pA p.dP c0):=by
 have hD:=ao.JH l
 have O8:=ao.CE l
 have hm:=WJ p.lp.m
 generalize wb:2^(2*ao.fL l)=X at *
 have hX:1≤X:=by rw[←wb];exact Nat.one_le_two_pow
 have Kn:ao.iD l≤X:=by rw[←wb];exact Nat.le_trans O8 (Nat.pow_le_pow_right (by decide) (by omega))
 have p2:2^(4*ao.fL l+p.lp.m)=X*X*2^p.lp.m:=by rw[←wb,←Nat.pow_add,←Nat.pow_add];congr 1;omega
 have WK:ao.iD l*ao.iD l≤X*X:=Nat.mul_le_mul Kn Kn
 have hXD:X*ao.iD l≤X*X:=Nat.mul_le_mul_left _ Kn
 have hM:∀x,x≤X*X→x≤2^(4*ao.fL l+p.lp.m):=fun x hx=>by
  rw[p2];exact Nat.le_trans hx (Nat.le_mul_of_pos_right _ (by omega))
 have sB:∀{q},CM l q→ao.fe (ao.iD l) X q:=fun{q} h=>by rw[←wb];exact h
 have nM:(pA p.dP c0).n=p.w:=rfl
 refine⟨ao.iD l*ao.iD l,Nat.mul_pos hD hD,hM _ WK,fun i hi j hj=> ?_,fun j hj=> ?_⟩
 ·by_cases e:j=p.w
  ·subst e
   rw[←nM,ao.JF,ao.JF,Nat.mul_comm,nM]
   refine(Km (ao.iD l*ao.iD l) (O7 hb hi)).mono ?_
   rw[Nat.pow_add,Nat.mul_comm]
   exact Nat.mul_le_mul_right _ (hM _ WK)
  ·rw[ao.CC (by rw[nM]at hj⊢;omega),ao.CC (by rw[nM]at hj⊢;omega),Nat.mul_one]
   exact(Km _ (sB (O6 h hi e))).mono (hM _ hXD)
 ·by_cases e:j=p.w
  ·subst e
   rw[←nM,ao.JF,ao.JF,nM]
   have h1:=Km (ao.iD l) (O4 (T:=p.dP) (k:=p.lp.m) (j:=p.w) (fun i hi=>nx p hi) (fun j hj=>sB (hc j hj)) (fun i hi=>O7 hb hi) (Nat.le_refl _) hj)
   rw[show ao.iD l*ao.iD l*D0=ao.iD l*D0*ao.iD l by rw[Nat.mul_assoc,Nat.mul_assoc,Nat.mul_comm D0]]
   refine h1.mono ?_
   have h2:X*D0≤X*2^f:=Nat.mul_le_mul_left _ hb.le
   have h3:X*D0+p.lp.m*(X*2^f)≤(p.lp.m+1)*(X*2^f):=by rw[Nat.succ_mul p.lp.m];omega
   refine Nat.le_trans (Nat.mul_le_mul h3 Kn) ?_
   rw[Nat.pow_add,p2]
   have e4:(p.lp.m+1)*(X*2^f)*X=X*X*(p.lp.m+1)*2^f:=by
    rw[Nat.mul_comm _ X,Nat.mul_left_comm (p.lp.m+1) X,←Nat.mul_assoc,Nat.mul_assoc (X*X)]
   rw[e4]
   exact Nat.mul_le_mul_right _ (Nat.mul_le_mul_left _ hm)
  ·rw[ao.CC (by rw[nM]at hj⊢;omega),ao.CC (by rw[nM]at hj⊢;omega),Nat.mul_one]
   refine(O4 (T:=p.dP) (k:=p.lp.m) (fun i hi=>nx p hi) (fun j hj=>sB (hc j hj)) (fun i hi=>sB (O6 h hi e)) (Nat.le_refl _) hj).mono ?_
   rw[Nat.add_zero,p2]
   refine Nat.le_trans (m:=(p.lp.m+1)*(X*X)) ?_ (by rw[Nat.mul_comm];exact Nat.mul_le_mul_left _ hm)
   rw[Nat.succ_mul p.lp.m];omega
def s7(l:List Rat)(k m:Nat):Nat:=2^k*(4*ao.fL l+m+1)
def bits(l:List Rat)(k m f:Nat):Nat:=s7 l k m+f
theorem Inv.base{c0:Nat→Rat}(h0:c0 p.w=0):Inv p c0 (pA p.dP c0):=Inv.WI h0 afG afH afI
def O9(p:Prg)(k:Nat):Prop:=p.lp.m≤k∨p.w≤p.lp.m+k
theorem Inv.bd{D0 f k:Nat}{S:ao}{c0:Nat→Rat}(h:Inv p c0 S)(hl:In l p)(hb:Gc D0 f p)(hk:O9 p k)(h0:c0 p.w=0)(hc:∀j,j<p.w→CM l (c0 j)):ao.Bd D0 f (s7 l k p.lp.m-1) S:=by
 refine ao.aea (Inv.base h0).wf h.wf ((Inv.base h0).same h) (afN hl hb hc) ?_
 rcases hk with hk | hk
 ·exact Nat.le_trans (ao.aeb _ _) (by rw[h.rows.m];exact hk)
 ·have h1:=ao.aec (Inv.base h0).wf h.wf ((Inv.base h0).same h)
  have h2:(pA p.dP c0).n=p.w:=rfl
  have h3:(pA p.dP c0).m=p.lp.m:=rfl
  omega
theorem Gd(l:List Rat)(k m:Nat):2*ao.fL l+m+1≤s7 l k m:=by
 unfold s7
 have h1:1≤2^k:=Nat.one_le_two_pow
 have h2:1*(4*ao.fL l+m+1)≤2^k*(4*ao.fL l+m+1):=Nat.mul_le_mul_right _ h1
 omega
theorem Inv.sz{D0 f k:Nat}{S:ao}{c0:Nat→Rat}(h:Inv p c0 S)(hl:In l p)(hb:Gc D0 f p)(hk:O9 p k)(h0:c0 p.w=0)(hc:∀j,j<p.w→CM l (c0 j)):Sz (bits l k p.lp.m f) S:=by
 have h1:=afL (h.bd hl hb hk h0 hc) hb.pos hb.le
 have h2:=Gd l k p.lp.m
 rwa [show s7 l k p.lp.m-1+f+1=bits l k p.lp.m f by unfold bits;omega]at h1
theorem Pb{q:Rat}(h:CM l q)(k m f:Nat):aG q≤bits l k m f:=by
 have h2:=Gd l k m
 refine Nat.le_trans (Ga (e:=2*ao.fL l) (ao.JH l) h ?_ (Nat.le_refl _)) (by unfold bits;omega)
 exact Nat.le_trans (ao.CE l) (Nat.pow_le_pow_right (by decide) (by omega))
theorem WL{D0 f k:Nat}{S:ao}{c1:Nat→Rat}(hB:∀i,i<S.m→S.B i<S.n)(hm:S.m=p.lp.m)(hn:S.n=p.w)(hb:ao.Bd D0 f (s7 l k p.lp.m-1) S)(p0:0<D0)(h0:D0≤2^f)(hc:∀j,j<p.w→CM l (c1 j)):∀k',k'≤S.m→∀j,j≤S.n→aG (gn S c1 k' j)≤2*bits l k p.lp.m f:=by
 intro k' hk j hj
 obtain⟨D,h1,h2,h3,_⟩:=hb
 have hbp:=Gd l k p.lp.m
 have hD:=ao.JH l
 have O8:=ao.CE l
 obtain⟨q1,q2⟩:=Gb (j:=j) (n:=S.n) h2 h0
 have key:=O4 hB (fun j hj=>hc j (by omega)) (fun i hi=>h3 i hi j hj) hk hj
 refine Nat.le_trans (Ga (e:=2*ao.fL l+(s7 l k p.lp.m-1+f)+p.lp.m) (Nat.mul_pos hD (O5 h1 p0)) key ?_ ?_) (by unfold bits;omega)
 ·refine Nat.le_trans (Nat.mul_le_mul O8 q1) ?_
  rw[←Nat.pow_add]
  exact Nat.pow_le_pow_right (by decide) (by omega)
 ·rw[Nat.pow_add _ _ p.lp.m,Nat.pow_add 2 (2*ao.fL l) (s7 l k p.lp.m-1+f)]
  generalize 2^(s7 l k p.lp.m-1+f)=Z at *
  have g1:2^(2*ao.fL l)*(D*ao.lz S.n j D0 1)≤2^(2*ao.fL l)*Z:=Nat.mul_le_mul_left _ q1
  have g3:k'*(2^(2*ao.fL l)*2^(s7 l k p.lp.m-1+ao.lz S.n j f 0))≤k'*(2^(2*ao.fL l)*Z):=Nat.mul_le_mul_left _ (Nat.mul_le_mul_left _ q2)
  have g2:=WJ p.lp.m
  refine Nat.le_trans (m:=(k'+1)*(2^(2*ao.fL l)*Z)) (by rw[Nat.succ_mul k',Nat.add_comm];exact Nat.add_le_add g3 g1) ?_
  rw[Nat.mul_comm];exact Nat.mul_le_mul_left _ (by omega)
end
end Go.ar
namespace Go.ar
open Go.Proofs Num Lp
section
variable {p:LP}
theorem Ko{n:Nat}{a x x':Nat→Rat}(h:∀j,j<n→x j=x' j):cj n a x=cj n a x':=adJ (fun _ _=>rfl) h
theorem jB.congr{t:Rat}{x x':Nat→Rat}(h:∀j,j<p.n→x j=x' j)(hm:p.jB t x):p.jB t x':=
 ⟨fun j hj hf=>by rw[←h j hj];exact hm.1 j hj hf,fun i hi=>by rw[←Ko h];exact hm.2 i hi⟩
theorem Signed.congr{y y':Nat→Rat}(h:∀i,i<p.m→y i=y' i)(hm:p.Signed y):p.Signed y':=fun i hi=>by rw[←h i hi];exact hm i hi
theorem WM{y y':Nat→Rat}(h:∀i,i<p.m→y i=y' i)(j:Nat):p.fD y j=p.fD y' j:=eO fun i hi=>by rw[h i hi]
theorem WN{y y':Nat→Rat}(h:∀i,i<p.m→y i=y' i):p.ou y=p.ou y':=eO fun i hi=>by rw[h i hi]
theorem vL.congr{c x x' y y':Nat→Rat}(hx:∀j,j<p.n→x j=x' j)(hy:∀i,i<p.m→y i=y' i)(h:p.vL c x y):p.vL c x' y':=
 ⟨jB.congr hx h.eF,Signed.congr hy h.signed,fun j hj=>by rw[←WM hy];exact h.gM j hj,by rw[←WN hy,←Ko hx];exact h.eq⟩
theorem xV.congr{y y':Nat→Rat}(hy:∀i,i<p.m→y i=y' i)(h:p.xV y):p.xV y':=
 ⟨Signed.congr hy h.signed,fun j hj=>by rw[←WM hy];exact h.gM j hj,by rw[←WN hy];exact h.pos⟩
theorem xW.congr{c x x' r r':Nat→Rat}(hx:∀j,j<p.n→x j=x' j)(hr:∀j,j<p.n→r j=r' j)(h:p.xW c x r):p.xW c x' r':=
 ⟨jB.congr hx h.eF,jB.congr hr h.kV,by rw[←Ko hr];exact h.neg⟩
end
section
variable {p:Prg} {l c:List Rat} {T:ao}
abbrev pn(p:Prg):Nat→Rat:=ao.jq p.u p.w
abbrev j9(p:Prg)(c:List Rat):Nat→Rat:=jS p.lay (fn c) 1 p.lp.n
theorem AU:pn p p.w=0:=ao.UM _ _
theorem Ge(j:Nat):CM l (pn p j):=by
 show CM l (ao.jq _ _ _)
 unfold ao.jq;split
 ·exact WE
 ·exact ao.JI _ _
theorem Kp:ao.E1 p.lp p.w p.lay.pF p.lay.mF p.s6 (fn c) (j9 p c) where
 pl j hj:=by rw[yo p hj];show jS p.lay (fn c) 1 p.lp.n _=_;rw[(C5 (Nat.le_refl _) hj).1];grind
 mi j hj k hk:=by
  rw[C8 hj]at hk
  by_cases hf:p.lp.free j=true
  ·rw[if_pos hf]at hk;cases hk
   show jS p.lay (fn c) 1 p.lp.n _=_
   rw[(C5 (Nat.le_refl _) hj).2 hf];grind
  ·rw[if_neg hf]at hk;cases hk
 sl i hi k hk:=by
  unfold Prg.s6 at hk
  split at hk
  ·cases hk
  ·cases hk
   exact C4 (Nat.le_refl _) (rC _ _ _).2
 last:=C4 (Nat.le_refl _) (Nat.le_trans (l5 p) (fg p))
theorem Kq:j9 p c p.w=0:=(Kp (p:=p) (c:=c)).last
theorem Pc(hc:∀j,j<p.lp.n→fn c j∈l)(j:Nat):CM l (j9 p c j):=by
 have:=WH (l:=l) (a:=fn c) (s:=1) (.inl rfl) p.lp.n (fun j hj=>ao.Od (hc j hj)) p.lay j
 exact this
theorem WO(bg:p.Ok)(h:Inv p (pn p) T)(hn:∀j,j<p.u→0≤T.c j)(fI:T.c p.w<0):Ju p (aH (fun i=>p.lay.sF i*(pn p (p.lay.uF i)-T.c (p.lay.uF i))) p.lp.m):=
 ⟨bg,aW _ _,xV.congr (fun i hi=>(CF hi).symm) (dE.adN (Kl bg) h.off (fun j hj=>ao.NW hj) AU hn fI)⟩
theorem WQ(h:Inv p (pn p) T)(hv:¬T.c p.w<0):ao.Clean p.u 0 T:=
 ao.Clean.start (ao.UN h.wf h.eF h.rows h.off (by grind)).2
theorem WR(h:Inv p (pn p) T){s:Nat}(hs:s<p.u)(fI:T.c s<0)(hA:∀i,i<T.m→T.A i s≤0):False:=
 ao.adR h.wf h.rows h.off (Nat.lt_of_lt_of_le hs (fg p)) fI hA
def Jx(p:Prg)(k:Nat)(S:ao):Prop:=Inv p (pn p) S∧ao.Clean p.u k S
theorem Jx.skip{k:Nat}(h:Jx p k T)(hk:T.B k<p.u∨∀j,j<p.u→T.A k j=0):Jx p (k+1) T:=⟨h.1,h.2.skip hk⟩
theorem Jx.pivot{k s:Nat}(h:Jx p k T)(hk:k<T.m)(hu:p.u≤T.B k)(hs:s<p.u)(hp:T.A k s≠0):Jx p (k+1) (T.pivot k s):=by
 have l4:=fg p
 have hm:k<p.lp.m:=by rw[←h.1.rows.m];exact hk
 exact⟨⟨ao.zN h.1.wf hk (by rw[h.1.rows.n];omega) hp,h.2.eF h.1.eF hk hu s,h.1.rows.pivot hm hp,h.1.rows.NU h.1.off hm⟩,h.2.adT hk hu hs⟩
def I2(p:Prg)(c:List Rat)(S:ao):Prop:=Inv p (j9 p c) S∧ao.Clean p.u S.m S
theorem I2.start(h:Jx p p.lp.m T):I2 p c (pA T (j9 p c)):=by
 have hc:=h.2
 rw[←h.1.rows.m]at hc
 exact⟨Inv.WI Kq h.1.wf h.1.eF h.1.rows,⟨hc.zero,hc.row⟩⟩
theorem I2.step{r s:Nat}(h:I2 p c T)(hb:T.ot p.u r s):I2 p c (T.pivot r s):=
 ⟨h.1.step (by rw[h.1.rows.n];exact fg p) hb,h.2.E0 hb⟩
theorem WS(bg:p.Ok)(dA:c.length=p.free.length)(h:I2 p c T)(hn:∀j,j<p.u→0≤T.c j):
  E2 p c (aH (dE.vec p.lay.pF p.lay.mF T.pt) p.lp.n) (aH (fun i=>p.lay.sF i*(j9 p c (p.lay.uF i)-T.c (p.lay.uF i))) p.lp.m)∧-(T.c p.w)=cj p.free.length (fn c) (fn (aH (dE.vec p.lay.pF p.lay.mF T.pt) p.lp.n)):=by
 have h1:=ao.adU (Kl bg) h.1.wf h.1.eF h.1.rows h.2 Kp h.1.off hn
 have h2:=vL.congr (x':=fn (aH (dE.vec p.lay.pF p.lay.mF T.pt) p.lp.n)) (y':=fn (aH (fun i=>p.lay.sF i*(j9 p c (p.lay.uF i)-T.c (p.lay.uF i))) p.lp.m)) (fun j hj=>(CF hj).symm) (fun i hi=>(CF hi).symm) h1
 refine⟨⟨⟨bg,aW _ _,h2.eF⟩,dA,aW _ _,h2⟩,?_⟩
 rw[←ao.US (Kl bg) h.1.wf h.1.rows h.2 Kp h.1.off]
 exact Ko (n:=p.lp.n) fun j hj=>(CF hj).symm
theorem WT(bg:p.Ok)(dA:c.length=p.free.length)(h:I2 p c T){s:Nat}(hs:s<p.u)(fI:T.c s<0)(hA:∀i,i<T.m→T.A i s≤0):
  Jv p c (aH (dE.vec p.lay.pF p.lay.mF T.pt) p.lp.n) (aH (dE.vec p.lay.pF p.lay.mF (T.dir s)) p.lp.n):=by
 have h1:=ao.adV (Kl bg) h.1.wf h.1.eF h.1.rows h.2 Kp h.1.off hs fI hA
 have h2:=xW.congr (x':=fn (aH (dE.vec p.lay.pF p.lay.mF T.pt) p.lp.n)) (r':=fn (aH (dE.vec p.lay.pF p.lay.mF (T.dir s)) p.lp.n)) (fun j hj=>(CF hj).symm) (fun j hj=>(CF hj).symm) h1
 exact⟨⟨bg,aW _ _,h2.eF⟩,dA,aW _ _,h2⟩
theorem Pd{N:Nat}(hW:T.WF)(hz:Sz N T)(h0:1≤N){j:Nat}(hj:j<T.n):aG (T.pt j)≤N:=by
 by_cases h:∃i,i<T.m∧T.B i=j
 ·obtain⟨i,hi,rfl⟩:=h
  rw[ao.UH hW hi];exact hz.A i hi _ (Nat.le_refl _)
 ·rw[ao.UJ hj (fun i hi e=>absurd ⟨i,hi,e⟩ h)]
  exact Nat.le_trans (by decide) h0
theorem WU{N:Nat}(hW:T.WF)(hz:Sz N T)(h0:1≤N){s j:Nat}(hs:s≤T.n)(rj:∀i,i<T.m→T.B i≠s):aG (T.dir s j)≤N:=by
 unfold ao.dir
 by_cases e:j=s
 ·subst e
  rw[if_pos rfl,mE (fun i hi=>by rw[if_neg (rj i hi)]),show (1:Rat)-0=1 by grind]
  exact Nat.le_trans (by decide) h0
 ·rw[if_neg e]
  by_cases h:∃i,i<T.m∧T.B i=j
  ·obtain⟨i,hi,rfl⟩:=h
   rw[sP hi _ (fun k hk aY=>by rw[if_neg (fun e'=>aY (hW.inj hk hi e'))]),if_pos rfl,show (0:Rat)-T.A i s = -(T.A i s) by grind,vF]
   exact hz.A i hi s hs
  ·rw[mE (fun i hi=>by rw[if_neg (fun e'=>h ⟨i,hi,e'⟩)]),show (0:Rat)-0=0 by grind]
   exact Nat.le_trans (by decide) h0
theorem WV(hW:T.WF){s:Nat}(fI:T.c s<0):∀i,i<T.m→T.B i≠s:=fun i hi e=>by
 have:=hW.zero i hi
 rw[e]at this;grind
end
structure Fits(p:Prg)(c:List Rat)(M:Nat):Prop where
 one:1≤M
 pn:∀j,aG (pn p j)≤M
 j9:∀j,aG (j9 p c j)≤M
 tab:∀i,i<p.lp.m→∀j,aG (p.dP.A i j)≤M
 AV:∀S,Inv p (ar.pn p) S→Sz M S
 nO:∀S,Inv p (ar.j9 p c) S→Sz M S
 Pe:∀k,k≤p.lp.m→∀j,j≤p.w→aG (gn (pA p.dP (ar.pn p)) (ar.pn p) k j)≤2*M
 Pf:∀S,Inv p (ar.pn p) S→∀k,k≤S.m→∀j,j≤S.n→aG (gn S (ar.j9 p c) k j)≤2*M
section
variable {p:Prg} {l c:List Rat} {D0 f k:Nat}
theorem afO(hl:In l p)(vj:∀j,j<p.lp.n→fn c j∈l)(hb:Gc D0 f p)(hk:O9 p k):Fits p c (bits l k p.lp.m f) where
 one:=by have:=Gd l k p.lp.m;unfold bits;omega
 pn j:=Pb (Ge j) _ _ _
 j9 j:=Pb (Pc vj j) _ _ _
 tab i hi j:=by
  by_cases e:j=p.w
  ·subst e
   refine Nat.le_trans (Ga (e:=f) hb.pos (O7 hb hi) hb.le (Nat.le_refl _)) ?_
   have:=Gd l k p.lp.m;unfold bits;omega
  ·exact Pb (O6 hl hi e) _ _ _
 AV S h:=h.sz hl hb hk AU fun j _=>Ge j
 nO S h:=h.sz hl hb hk Kq fun j _=>Pc vj j
 Pe:=WL (fun i hi=>nx p hi) rfl rfl ((Inv.base AU).bd hl hb hk AU fun j _=>Ge j) hb.pos hb.le fun j _=>Ge j
 Pf S h:=WL h.wf.lt h.rows.m h.rows.n (h.bd hl hb hk AU fun j _=>Ge j) hb.pos hb.le fun j _=>Pc vj j
theorem Pg(hl:In l p)(vj:∀j,j<p.lp.n→fn c j∈l)(hb:∀i,i<p.lp.m→p.lp.b i∈l):Fits p c (bits l p.lp.m p.lp.m (2*ao.fL l)):=
 afO (D0:=ao.iD l) hl vj ⟨ao.JH l,Nat.le_trans (ao.CE l) (Nat.pow_le_pow_right (by decide) (by omega)),fun i hi=>ao.Od (hb i hi)⟩ (.inl (Nat.le_refl _))
end
end Go.ar
