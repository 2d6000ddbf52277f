/- Walks over package amortcostref22: Least; LexicoLeast: the law's walk. -/
import Derived.Test.YtfjncmjbhfdnpaaGreatA14
import Derived.Test.YtfjncmjbhfdnpaaGreatLv
import Derived.Test.YtfjncmjbhfdnpaaGreatLx5
import Derived.Test.YtfjncmjbhfdnpaaGreatLw6
set_option linter.unusedVariables false
namespace Go.au
open Go.Proofs Num Lp
def kY(n i:Nat):List Rat:=(List.range n).map fun j=>if j=i then 1 else 0
def eG(n:Nat):List (List Rat):=(List.range n).map (kY n)
theorem CP{n:Nat}:(eG n).length=n:=by simp[eG]
theorem Fc{n i:Nat}:(kY n i).length=n:=by simp[kY]
theorem JD{n i:Nat}(h:i<n):(eG n)[i]? = some (kY n i):=by simp[eG,h]
theorem Uj{n:Nat}{o:List Rat}(h:o∈eG n):∃i,i<n∧o=kY n i:=by
 obtain⟨i,hi,rfl⟩:=List.mem_map.1 h
 exact⟨i,List.mem_range.1 hi,rfl⟩
theorem ak5{n i j:Nat}(h:j<n):fn (kY n i) j=if j=i then 1 else 0:=kT (by simp[kY,h])
theorem NT{n i:Nat}(h:i<n)(x:Nat→Rat):bK n (fn (kY n i)) x=x i:=by
 unfold bK
 rw[eK (g:=fun j=>if j=i then x j else 0) fun j hj=>by
  rw[ak5 hj]
  split
  ·exact Rat.one_mul _
  ·exact Rat.zero_mul _]
 exact PH h x
theorem ak6{n i:Nat}:(List.replicate n (0:Rat)).set i 1=kY n i:=by
 apply List.ext_getElem?
 intro j
 rw[List.getElem?_set,List.length_replicate]
 by_cases hj:j<n
 ·rw[show (kY n i)[j]? = some (if j=i then 1 else 0) by simp[kY,hj]]
  by_cases e:i=j
  ·subst e;rw[if_pos rfl,if_pos hj,if_pos rfl]
  ·rw[if_neg e,List.getElem?_replicate,if_pos hj,if_neg (fun h=>e h.symm)]
 ·rw[show (kY n i)[j]? = none from List.getElem?_eq_none (by rw[Fc];omega)]
  split
  ·rw[if_neg (by omega)]
  ·rw[List.getElem?_replicate,if_neg hj]
theorem aby{α β:Type}:∀{os:List α}{vs:List β}{o:α}(v:β),os[vs.length]? = some o→os.zip (vs ++ [v])=os.zip vs ++ [(o,v)]
 | [],vs,_,_,h=>by simp at h
 | a::os,[],_,v,h=>by simp at h;subst h;simp
 | a::os,b::vs,o,v,h=>by
  have h2:=aby (os:=os) (vs:=vs) v (by simpa using h)
  simp[h2]
theorem ak7{p:Prg}{os:List (List Rat)}{vs:List Rat}{o:List Rat}(v:Rat)(h:os[vs.length]? = some o):(bP p os (vs ++ [v])).rows=(bP p os vs).rows ++ [(o,2,v)]:=by
 show p.rows++(os.zip (vs ++ [v])).map _=(p.rows++(os.zip vs).map _)++_
 rw[aby v h,List.map_append,List.append_assoc];rfl
theorem ak8{p:Prg}{vs:List Rat}(hl:vs.length=p.free.length)(h:sT p (eG p.free.length) vs){x:Nat→Rat}(hx:(bP p (eG p.free.length) vs).lp.dH 1 x):qg p vs:=by
 have hle:vs.length≤(eG p.free.length).length:=by rw[CP];omega
 have hm:=(yf hle).1 hx
 have hv:∀i,i<p.free.length→vs[i]? = some (fn vs i):=fun i hi=>by
  have g:vs[i]? = some (vs[i]'(by omega)):=List.getElem?_eq_getElem _
  rw[kT g];exact g
 have key:∀{z:Nat→Rat}{k:Nat},k≤p.free.length→p.lp.dH 1 z→(∀i,i<k→fn vs i=z i)→(bP p (eG p.free.length) (vs.take k)).lp.dH 1 z:=fun{z k} hk hz he=>by
  refine(yf (by rw[List.length_take,CP];omega)).2 ⟨hz,fun i o v h1 h2=> ?_⟩
  have hi:=(List.getElem?_eq_some_iff.1 h2).1
  rw[List.length_take]at hi
  rw[JD (by omega)]at h1;cases h1
  rw[List.getElem?_take,if_pos (by omega),hv i (by omega)]at h2;cases h2
  rw[NT (by omega),Rat.mul_one,he i (by omega)]
 refine⟨hl,dH.congr (fun j hj=> ?_) hm.1,fun z hz=> ?_⟩
 ·have hj:j<p.free.length:=hj
  have h1:=hm.2 j _ _ (JD hj) (hv j hj)
  rw[NT hj,Rat.mul_one]at h1
  exact h1
 ·have step:∀k,k≤p.free.length→(∀i,i<k→fn vs i=z i)∨∃j,j<p.free.length∧(∀i,i<j→fn vs i=z i)∧fn vs j<z j:=by
   intro k
   induction k with
   | zero=>intro _;exact .inl fun i hi=>absurd hi (Nat.not_lt_zero _)
   | succ k ih=>
    intro hk
    rcases ih (by omega)with h1 | h1
    ·have h2:=(h.2 k _ _ (JD (by omega)) (hv k (by omega))).2 z (key (by omega) hz h1)
     have h2:fn vs k≤bK p.free.length (fn (kY p.free.length k)) z:=h2
     rw[NT (by omega)]at h2
     by_cases e:fn vs k=z k
     ·refine .inl fun i hi=> ?_
      by_cases ei:i=k
      ·rw[ei];exact e
      ·exact h1 i (by omega)
     ·exact .inr ⟨k,by omega,h1,by grind⟩
    ·exact .inr h1
  exact step _ (Nat.le_refl _)
theorem ak9{p:Prg}{os:List (List Rat)}{vs:List Rat}{i:Nat}(hf:¬∃j:Nat,p.free[j]? = some true)(hi:i<p.free.length)(h:(bP p os vs).lp.wW (fn (kY p.free.length i))):False:=by
 obtain⟨_,k2⟩:=h
 obtain⟨x,hx,bI⟩:=k2 0
 have bI:bK p.free.length (fn (kY p.free.length i)) x<0:=bI
 rw[NT hi]at bI
 have h1:=hx.1 i hi (show p.lp.free i=false from JE hf i)
 grind
structure abz(p:Prg)(E f0:Nat)(H H':Heap)(i:Nat)(w:Value)(z:List Value)(fv rv:Value)(vs:List Rat):Prop where
 JF:ea (bN KX) 31 3 H H' w vs z
 prog:eH KX (rem H' (az w)) (.agg #[fv,rv]) (bP p (eG p.free.length) vs)
 il:i≤p.free.length+1
 vl:(i≤p.free.length→vs.length=i)∧(p.free.length≤i→vs.length=p.free.length)
 uk:sT p (eG p.free.length) vs
 cZ:0<i→∃x,(bP p (eG p.free.length) vs).lp.dH 1 x
 bin:∃D,kK D (f0+vs.length*E) (bP p (eG p.free.length) vs)
theorem ala{H:Heap}{v:Value}{p:Prg}{N E f0:Nat}(hp:eH N H v p)(hN:N≤KX)(hr8:p.rows.length+p.free.length≤800)(cK:p.Ok→vS p (eG p.free.length) E f0):
 Fn Tryz.prog 25 #[v] H (abA p H):=by
 obtain⟨fv,gB,rfl,eI,fk⟩:=id hp
 obtain⟨Af,cf,xf,rfl,jk,jl⟩:=eI.one
 obtain⟨Ar,cr,xr,rfl,jL,fy,iE⟩:=id fk;refine a7 (args:=[_]) Tryz.func25 rfl rfl Tryz.ntmps25 rfl rfl fun w0=> ?_;refine aj [0] rfl ?_;refine ag (bX rfl rfl (ab 2 rfl (ae [1] ?_)));refine ao (ag (ab 1 rfl (aE rfl rfl (aj2 hp) ?_)));rintro _ H1 ⟨e1,b1,rfl,fE⟩;rw[e1];refine ab 1 rfl (ae [1,14] ?_);refine aC rfl (fun hb=> ?_) (fun hb=> ?_)
 ·
  have re:b1=false:=by simpa using hb
  subst re;refine ag (ab 2 rfl (ae [2,3] ?_));refine aD ⟨.inr rfl,_,.tmp rfl (.tmp rfl (.nil)),?_⟩;exact⟨.refl _,none,0,0,1,rfl,.inl ⟨fun h=>(by have h9:=fE.2 h;cases h9),rfl,rfl,rfl,rfl⟩⟩
 ·
  have pV:b1=true:=by simpa using hb
  have a8:=fE.1 pV;have vD:=a8.rows;have jf:=a8.iu;have hz:=cK a8;have JG:=hz.JH;rw[CP]at JG;refine aA (aj [1] rfl ?_);refine ao (ag (ab 4 rfl (ae [1,17,18] ?_)));refine aF (gG (fun(j:Nat)=>p.free.length-j) (fun(j:Nat)=>put (put (put (emp) 1 (.box [.slice Af p.free.length cf,.slice Ar p.rows.length cr])) 17 (.val (.int .i64 (p.free.length:Int)))) 18 (.val (.int .i64 (j:Int)))) (fun(j:Nat) H'=>H'=H∧j≤p.free.length∧∀i,i<j→p.free[i]?≠some true) 0 (⟨rfl,Nat.zero_le _,fun i hi=>absurd hi (Nat.not_lt_zero _)⟩) ar ?_);rintro j H2 ⟨e2,hj,gW⟩;rw[e2];clear e2 H2;refine ag (ab 1 rfl (ae [1,17,18,19] ?_));refine ao (aC rfl (fun hb=> ?_) (fun hb=> ?_))
  ·
   have fL:j<p.free.length:=by simpa using hb
   obtain⟨uf,pf,jr⟩:=jl j _ (List.getElem?_eq_getElem fL);have jr: [uf] = [Value.bool p.free[j]]:=jr
   cases jr
   refine aA (aj [1,17,18] rfl ?_);refine ao (aF (ag (ab 2 rfl (ae [1,4,17,18] ?_))));refine ag (ab 3 rfl (aQ ah rfl rfl rfl rfl rfl (jk) (by rw[Int.toNat_natCast];exact pf) (by omega) (by omega) fun _=> ?_));refine ae [1,17,18,25] ?_;refine aC rfl (fun hb=> ?_) (fun hb=> ?_)
   ·
    have cD:p.free[j]=true:=by simpa using hb
    refine ag (ab 2 rfl (ae [2,3] ?_));refine aD ⟨.inr rfl,_,.tmp rfl (.tmp rfl (.nil)),?_⟩;exact⟨.refl _,none,0,0,7,rfl,.inr (.inl ⟨a8,⟨j,by rw[List.getElem?_eq_getElem fL,cD]⟩,rfl,rfl,rfl,rfl⟩)⟩
   have fB:p.free[j]?≠some true:=by rw[List.getElem?_eq_getElem fL];intro h;simp at h;simp[h]at hb
   refine aA (aj [1,17,18] rfl ?_);refine aB rfl (aG rfl rfl ⟨by omega,by omega⟩ (ab 1 rfl (aw ?_)))
   exact⟨j+1,by omega,ar,rfl,by omega,fun i hi=>by
    by_cases e:i=j
    ·subst e;exact fB
    ·exact gW i (by omega)⟩
  have fL:p.free.length≤j:=by simpa using hb
  have Uk:¬∃j:Nat,p.free[j]? = some true:=fun⟨i,hi⟩=>gW i (by have:=(List.getElem?_eq_some_iff.1 hi).1;omega) hi;refine aV (aj [1] rfl ?_);refine ag (ab 1 rfl (bt uL rfl ?_));obtain⟨ti,ak,al⟩:=wk;refine aH (.inl ⟨rfl,rfl⟩) rfl rfl rfl ak al rfl rfl rfl (ae [1,5] ?_);refine ag (ab 3 rfl (gF Tryz.underlying26 bY rfl rfl rfl (by omega) (by omega) (by omega) (by omega) ?_));intro gx pa;have sP:=IL (P:=bN KX) (e:=31) (sz:=3) (zs:=[.bool false,.slice none 0 0,.slice none 0 0]) (z:=0) (k:=(p.free.length:Int)) (c:=p.free.length) pa rfl (Int.toNat_natCast _) (by unfold maxLen;omega);rw[Int.toNat_natCast]at sP⊢;have hI0:abz p E f0 H _ 0 _ _ (.slice Af p.free.length cf) (.slice Ar p.rows.length cr) []:=⟨sP,by rw[ext_nil];exact(hp.mono hN).le sP.base,Nat.zero_le _,⟨fun _=>rfl,fun h=>(Nat.le_zero.1 h).symm⟩,alb,(fun h=>absurd h (Nat.not_lt_zero _)),by obtain⟨D,hD⟩:=hz.bin;exact⟨D,by rw[ext_nil,List.length_nil,Nat.zero_mul,Nat.add_zero];exact hD⟩⟩;refine ab 1 rfl (ae [1,5,6] ?_);refine ao (ag (ab 1 rfl (ae [1,5,6,7] ?_)));refine aF (oD (fun(i:Nat)(w:Value×Value)(z:List Value)(vs:List Rat)=>p.free.length+1-i) (fun(i:Nat)(w:Value×Value)(z:List Value)(vs:List Rat)=>put (put (put (put (emp) 1 (.box [.slice Af p.free.length cf,.slice Ar p.rows.length cr])) 5 (.box [.slice Af p.free.length cf,w.2])) 6 (.val (w.1))) 7 (.val (.int .i64 (i:Int)))) (fun(i:Nat)(w:Value×Value)(z:List Value)(vs:List Rat) H'=>abz p E f0 H H' i w.1 z (.slice Af p.free.length cf) w.2 vs) 0 (_,_) _ [] (hI0) ar ?_)
  rintro i w z vs H3 hI;obtain⟨w,rv⟩:=w
  simp only at hI
  have hG:=hI.JF;obtain⟨W,cw,rfl⟩:=hG.form;obtain⟨fv9,rv9,e9,alc,abB⟩:=id hI.prog
  cases e9
  obtain⟨R5,c5,x5,rfl,mM,T7,nC⟩:=id abB;have rW:vs.length≤(eG p.free.length).length:=hI.uk.1;refine ao (ag (ab 5 rfl (ae [1,5,6,7,36] ?_)));refine aC rfl (fun hb=> ?_) (fun hb=> ?_)
  ·
   have m6:i≤p.free.length:=by simpa using hb
   have hvi:=hI.vl.1 m6;obtain⟨D,hD⟩:=hI.bin
   have hEf:E+(f0+vs.length*E)≤99999998:=by
    have h1:=Nat.mul_le_mul_right E (show vs.length+1≤p.free.length+1 by omega);rw[Nat.add_mul]at h1;omega
   refine aA (aj [1,5,6,7] rfl ?_);refine ao (aF (ag (ab 3 rfl (gF Tryz.underlying26 bY rfl rfl rfl (by omega) (by omega) (by omega) (by omega) ?_))));intro gz vo;rw[Int.toNat_natCast];have yg:=hG.ins (dI KX) ⟨cg [.bool false,.slice none 0 0,.slice none 0 0] (p.free.length*3),p.free.length*3,31,true⟩ vo;have NU:¬gz∈az (.slice W vs.length cw):=fun hm=>hG.mQ _ hm vo;have hmz:=Ul (N:=KX) (H:=rem H3 (az (.slice W vs.length cw))) (g:=gz) (k:=p.free.length);rw[←rM _ NU,Int.toNat_natCast]at hmz;have JI:=qB (az (.slice W vs.length cw)) (Heap.bB ⟨cg [.bool false,.slice none 0 0,.slice none 0 0] (p.free.length*3),p.free.length*3,31,true⟩ vo)
   have Qe:∀q,q∈gz::az (.slice W vs.length cw)→ins H3 gz ⟨cg [.bool false,.slice none 0 0,.slice none 0 0] (p.free.length*3),p.free.length*3,31,true⟩ q≠none:=fun q hq=>by
    rcases List.mem_cons.1 hq with rfl | hq
    ·rw[bD];simp
    ·exact yg.mQ q hq
   have er4:=rN (gs:=az (.slice W vs.length cw)) ⟨cg [.bool false,.slice none 0 0,.slice none 0 0] (p.free.length*3),p.free.length*3,31,true⟩ vo;refine ab 1 rfl (ae [1,5,6,7,8] ?_);refine kE (fun(o:List Rat)=>put (put (put (put (put (emp) 1 (.box [.slice Af p.free.length cf,.slice Ar p.rows.length cr])) 5 (.box [.slice Af p.free.length cf,.slice R5 (bP p (eG p.free.length) vs).rows.length c5])) 6 (.val (.slice W vs.length cw))) 7 (.val (.int .i64 (i:Int)))) 8 (.val (.slice (some ⟨gz,0,none⟩) p.free.length p.free.length))) (fun(o:List Rat) H'=>ea (bN KX) 31 3 H H' (.slice W vs.length cw) vs z∧Heap.le (rem H3 (az (.slice W vs.length cw))) (rem H' (az (.slice W vs.length cw)))∧aR (bN KX) 3 (rem H' (az (.slice W vs.length cw))) (.slice (some ⟨gz,0,none⟩) p.free.length p.free.length) o∧o.length=p.free.length∧((i<p.free.length∧o=kY p.free.length i)∨(i=p.free.length∧∀j,fn o j=0))) ?_ ?_
   ·
    refine ag (ab 5 rfl (ae [1,5,6,7,8,47] ?_));refine aC rfl (fun hb=> ?_) (fun hb=> ?_)
    ·
     have zY:i<p.free.length:=by simpa using hb
     refine aB rfl (ab 2 rfl (aE rfl rfl (Fn.frame Qe (pX (n:=1) (by decide) (by decide))) ?_));rintro _ H5 mV;obtain⟨⟨fI,ep⟩,Fe⟩:=mV;obtain⟨t5,rfl⟩:=ep.rc;rw[show ((1:Int):Rat)=1 from rfl]at ep
     have ald:H5 gz=some ⟨cg [.bool false,.slice none 0 0,.slice none 0 0] (p.free.length*3),p.free.length*3,31,true⟩:=by rw[Fe gz (List.mem_cons_self ..)];exact bD _ _ _
     have qq:(cg [.bool false,.slice none 0 0,.slice none 0 0] (p.free.length*3)).length=p.free.length*3:=by
      have:=(Gn (P:=bN KX (fun _=>none)) (sz:=3) (zs:=[.bool false,.slice none 0 0,.slice none 0 0]) rfl IJ p.free.length).len;rw[List.length_replicate]at this;exact this
     obtain⟨ti,ak,al⟩:=aY;refine cQ (.inl rfl) ah rfl rfl rfl (by omega) (by omega) (ald) rfl (by show 0+p.free.length*3≤(cg _ _).length;omega) ak al (fun _=>rfl) rfl rfl rfl fun _=> ?_;refine aw ?_;rw[oj,Int.toNat_natCast];rw[er4]at fI;have NV:gz∈gz::az (.slice W vs.length cw):=List.mem_cons_self ..
     have abC:Heap.le (rem H3 (az (.slice W vs.length cw))) (rem (ins H5 gz ⟨aL (cg [.bool false,.slice none 0 0,.slice none 0 0] (p.free.length*3)) (i*3) [.bool t5.f,.slice t5.A1 t5.m1 t5.c1,.slice t5.A2 t5.m2 t5.c2],p.free.length*3,31,true⟩) (az (.slice W vs.length cw))):=by
      refine fI.trans (Heap.le.trans ?_ (Ba _ gz _));rw[cF _ NV];exact .refl _
     have fK:=hG.step (dI KX) (fun q hq=>by
      rw[a6 _ _ (fun e=>NU (by rw[←e];exact hq)),Fe q (List.mem_cons_of_mem _ hq),a6 _ _ (fun e=>NU (by rw[←e];exact hq))]) abC
     have ale:aR (bN KX) 3 (rem (ins H5 gz ⟨aL (cg [.bool false,.slice none 0 0,.slice none 0 0] (p.free.length*3)) (i*3) [.bool t5.f,.slice t5.A1 t5.m1 t5.c1,.slice t5.A2 t5.m2 t5.c2],p.free.length*3,31,true⟩) (az (.slice W vs.length cw))) (.slice (some ⟨gz,0,none⟩) p.free.length p.free.length) (kY p.free.length i):=by
      refine⟨some ⟨gz,0,none⟩,p.free.length,_,by rw[Fc],by rw[Fc];exact Nat.le_refl _,MS (dD _ _ _ _ _ _) NU,?_⟩;rw[←ak6];refine(Gn (P:=bN KX _) rfl IJ p.free.length).set (by rw[List.length_replicate];exact zY) ?_ rfl;have h1:bN KX (rem H5 (gz::az (.slice W vs.length cw))) [.bool t5.f,.slice t5.A1 t5.m1 t5.c1,.slice t5.A2 t5.m2 t5.c2] 1:=(bJ.raw ep).mono (by decide);refine dI KX _ _ _ _ ?_ h1;refine Heap.le.trans ?_ (Ba _ gz _);rw[cF _ NV];exact .refl _
     exact⟨_,ar,fK,abC,ale,Fc,.inl ⟨zY,rfl⟩⟩
    have zY:p.free.length≤i:=by simpa using hb
    refine aA ?_;exact⟨_,ar,yg,JI,hmz,List.length_replicate,.inr ⟨by omega,NW _⟩⟩
   rintro o H4 ⟨uo,JI,EC,alf,Um⟩;have Un:=alc.le qP JI;have abD:=abB.le (gm KX) JI;refine ag (vr 2 ?_);obtain⟨M,uK,hM⟩:=hz.fit (vs:=vs) (o:=o) rW (by rcases Um with ⟨h0,h1⟩ | ⟨_,h1⟩;exact .inl (by rw[h1];exact List.mem_of_getElem? (JD h0));exact .inr h1) hD;refine aE rfl rfl (uo.call (akW (abE a8 (fun o h=>by obtain⟨i,hi,rfl⟩:=Uj h;exact Fc) (by omega)) alf ⟨_,_,rfl,Un,abD⟩ EC (by decide) uK (by omega))) ?_;rintro _ H5 mV;have jQ:=uo.kV (dI KX) mV fun _ _ h=>h.1;obtain⟨⟨Uo,st,t8,xv,q,rfl,hS5,ep,vv,_⟩,_⟩:=mV;refine ab 4 rfl (bt bY rfl (vr 1 ?_));obtain⟨ti,ak,al⟩:=aY;refine aH (.inl ⟨rfl,rfl⟩) rfl rfl rfl ak al rfl rfl rfl (ab 1 rfl (ae [1,5,6,7,8,9,10] ?_));refine ao (ag (ab 2 rfl (ae [1,5,6,7,8,10,60] ?_)));refine aC rfl (fun hb=> ?_) (fun hb=> ?_)
   ·
    have dO:¬st=1:=by simpa using hb
    have CG:p.lp.rQ:=by
     rcases hS5 with ⟨h1,_⟩ | ⟨h1,h2,_⟩ | ⟨h1,h2,_⟩
     ·exact absurd h1 dO
     ·
      by_cases Nq:0<i
      ·
       obtain⟨x,hx⟩:=hI.cZ Nq;exact(h2 x hx).elim
      ·
       have:vs = []:=List.eq_nil_of_length_eq_zero (by omega);subst this;rw[ext_nil]at h2;exact h2
     ·
      rcases Um with ⟨h3,h4⟩ | ⟨_,h3⟩
      ·subst h4;exact(ak9 Uk h3 h2).elim
      ·exact(alg h3 h2).elim
    refine ag (ab 2 rfl (ae [2,3] ?_));refine aD ⟨.inr rfl,_,.tmp rfl (.tmp rfl (.nil)),?_⟩;exact⟨jQ.le,none,0,0,17,rfl,.inr (.inr (.inl ⟨a8,Uk,CG,rfl,rfl,rfl,rfl⟩))⟩
   have dO:st=1:=by simpa using hb
   obtain⟨JJ,T,hT,hqT⟩:(bP p (eG p.free.length) vs).lp.vi (fn o) q∧∃T,I2 (bP p (eG p.free.length) vs) o T∧q = -(T.c (bP p (eG p.free.length) vs).w):=by
    rcases hS5 with ⟨_,h1⟩ | ⟨h1,_⟩ | ⟨h1,_⟩
    ·exact h1
    ·omega
    ·omega
   refine aA (aj [1,5,6,7,8,10] rfl ?_);refine ag (ab 5 rfl (ae [1,5,6,7,8,10,65] ?_));refine aC rfl (fun hb=> ?_) (fun hb=> ?_)
   ·
    have zY:i<p.free.length:=by simpa using hb
    obtain rfl:o=kY p.free.length i:=by
     rcases Um with ⟨_,h4⟩ | ⟨h3,_⟩
     ·exact h4
     ·omega
    have om:(eG p.free.length)[vs.length]? = some (kY p.free.length i):=by rw[hvi];exact JD zY
    refine ag (ab 2 rfl (cW Tryz.underlying26 bY rfl rfl rfl rfl rfl rfl rfl ?_));intro gb bx;have fK:=jQ.od.ins (dI KX) (whole (cG [t8.v]) 31) bx;refine dR Tryz.underlying26 bY rfl rfl fK.own (dD _ _ _ _ _ _) rfl (Cl _ _ _ _ _ _ _) (by omega) (by omega) ?_;intro v7 H7 uj;have gn:=fK.append (dI KX) (k:=[q]) (by simp) uj (iP (show bN KX _ [_,_,_] _ from((bJ.raw ep).mono (by show _≤200000000;omega)).le (qB _ (Heap.bB _ bx))) rfl);obtain⟨F7,f7,rfl⟩:=gn.form;have abF:=gn.base
    replace gn:=gn.down jQ.base
    have Uq:=Uo.trans abF;have abG:=JI.trans Uq;have CQ:fu KX (rem H7 (az (.slice F7 (vs ++ [q]).length f7))) [.slice (some ⟨gz,0,none⟩) p.free.length p.free.length,.int .i64 2,.bool t8.f,.slice t8.A1 t8.m1 t8.c1,.slice t8.A2 t8.m2 t8.c2] (kY p.free.length i,2,q):=⟨_,_,_,_,rfl,EC.le (dI KX) Uq,((bJ.raw ep).mono (by show _≤200000000;omega)).le abF⟩;refine ab 1 rfl (ae [1,5,6,7,8,10] ?_);refine eu .bL [0,1,3,4,5,2,6,7,8,9] follows (by kernel_rfl) ?_;refine ab 4 rfl (dy ah rfl gY rfl rfl (dR Tryz.underlying23 gY rfl rfl (lk H7 78 5) (T7.le (abG.trans (bE _ _))) nC.len (nC.aac (ai6 KX) (by decide)) (by rw[sU rW];omega) (by rw[sU rW];omega) ?_));intro v9 H9 qR;have Ur:=(MN (P:=fu KX) (e:=78) (sz:=5) gn.mQ).append (gm KX) (j:=(bP p (eG p.free.length) vs).rows) (by simp) qR (nC.mono fun vs a=>gm KX _ _ vs a (by rw[vI,List.append_nil];exact abG));rw[List.nil_append,List.nil_append]at Ur;obtain⟨F9,f9,rfl⟩:=Ur.form;refine cW Tryz.underlying23 gY rfl rfl rfl rfl rfl rfl rfl ?_;intro gd ju;have Us:=Ur.ins (gm KX) (whole (cG [.agg #[.slice (some ⟨gz,0,none⟩) p.free.length p.free.length,.int .i64 2,.bool t8.f,.slice t8.A1 t8.m1 t8.c1,.slice t8.A2 t8.m2 t8.c2]]) 78) ju;refine dR Tryz.underlying23 gY rfl rfl Us.own (dD _ _ _ _ _ _) rfl (IM _ _ _ _ _ _ _ _ _ _ _) (by rw[sU rW];omega) (by rw[sU rW];omega) ?_
    intro v10 vt IV;have JK:=Us.append (gm KX) (j:=[(kY p.free.length i,2,q)]) (by simp) IV (iP (gm KX _ _ _ _ Us.base CQ) rfl);obtain⟨F10,f10,rfl⟩:=JK.form;have alh:=gn.step (dI KX) JK.same JK.out;refine vr 1 ?_;obtain⟨ti,ak,al⟩:=Ko;refine aH (.inr rfl) rfl rfl rfl ak al rfl rfl rfl (aw (aj [1,5,6,7] rfl ?_));refine aB rfl (ab 1 rfl (aG rfl rfl ⟨by omega,by omega⟩ (ab 1 rfl (aw ?_))))
    exact⟨i+1,(_,_),_,vs ++ [q],by omega,ar,⟨alh,⟨_,_,rfl,(Un.le qP Uq).le qP JK.out,by rw[ak7 q om];exact JK.sl (gm KX)⟩,by omega,by rw[List.length_append,List.length_singleton];exact⟨fun _=>by omega,fun _=>by omega⟩,ali hI.uk (by rw[CP];omega) om JJ,fun _=>by
     obtain⟨⟨x,hx,Ov⟩,_⟩:=JJ
     exact⟨x,abH (by rw[CP];omega) om hx Ov⟩,by
     rw[List.length_append,List.length_singleton,show f0+(vs.length+1)*E=E+(f0+vs.length*E) by rw[Nat.add_mul];omega]
     exact hz.step (S:=⟨1,q,_,[],[]⟩) (by rw[CP];omega) (List.mem_of_getElem? om) hD (Ce.of hT hqT) rfl⟩⟩
   have zY:p.free.length≤i:=by simpa using hb
   refine aA (aj [1,5,6,7] rfl ?_);refine aB rfl (ab 1 rfl (aG rfl rfl ⟨by omega,by omega⟩ (ab 1 rfl (aw ?_))))
   exact⟨i+1,(_,_),_,vs,by omega,ar,⟨jQ,⟨_,_,rfl,Un.le qP Uo,abD.le (gm KX) Uo⟩,by omega,⟨fun _=>by omega,fun _=>by omega⟩,hI.uk,fun _=>by
    obtain⟨⟨x,hx,_⟩,_⟩:=JJ
    exact⟨x,hx⟩,hI.bin⟩⟩
  have m6:i=p.free.length+1:=by
   have:=hI.il
   simp at hb;omega
  have wv:vs.length=p.free.length:=hI.vl.2 (by omega);obtain⟨x,hx⟩:=hI.cZ (by omega);refine aV (aj [6] rfl ?_);refine ag (ab 3 rfl (ae [2,3] ?_));refine aD ⟨.inr rfl,_,.tmp rfl (.tmp rfl (.nil)),?_⟩;exact⟨hG.le,W,vs.length,cw,0,rfl,.inr (.inr (.inr ⟨a8,Uk,rfl,vs,ak8 wv hI.uk hx,hG.sl (dI KX)⟩))⟩
end Go.au
