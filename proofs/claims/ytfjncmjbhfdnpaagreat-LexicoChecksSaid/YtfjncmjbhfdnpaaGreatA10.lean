/- Part 10 of the proof: Smp1, Mz3, Min, Keep1, Eng14, Keep2, Gen, Grw, Br1. -/
import Derived.Test.YtfjncmjbhfdnpaaGreatA09
import Derived.Deep.Slices
import Derived.Deep.Strs
import Derived.Carry
import Derived.Below
set_option linter.unusedVariables false
namespace Go.ay
open Go.Proofs Num Lp
theorem Fu{H:Heap}{v:Value}{p:Prg}{N:Nat}(hp:cN N H v p):
 Fn Tryz.prog 47 #[v] H (fun v H'=>H'=H∧∃b,v = .bool b∧(b=true↔p.Ok)):=by
 obtain⟨fv,fG,rfl,cB,cF⟩:=hp
 obtain⟨Af,cf,xf,rfl,ea,eH⟩:=cB.one
 obtain⟨Ar,cr,xr,rfl,cL,du⟩:=cF.row;refine aU (args:=[_]) Tryz.func47 rfl rfl Tryz.ntmps47 rfl rfl fun w0=> ?_;refine ag [0] rfl ?_;refine ae ?_;refine bF rfl rfl ?_;refine vr 1 ?_;refine ab [1] ?_;refine al ?_
 by_cases h1:400<(p.free.length:Int)
 ·
  skip
  refine ae ?_;refine vr 3 ?_;refine ax true rfl rfl (iG h1) ?_;refine vr 6 ?_;refine ab [1,14] ?_;refine cD rfl ?_;refine ae ?_;refine vr 1 ?_;refine ab [2] ?_;refine aq ⟨.inr rfl,_,.tmp rfl (.nil),?_⟩;exact⟨rfl,false,rfl,⟨(fun h=>by cases h),(fun h=>by have h8:=h.dR;have h9:=h.rows;omega)⟩⟩
 ·
  skip
  by_cases h2:800<(p.rows.length:Int)
  ·
   skip
   refine ae ?_;refine vr 3 ?_;refine ax false rfl rfl (fN (by omega)) ?_;refine vr 4 ?_;refine ax true rfl rfl (iG h2) ?_;refine vr 1 ?_;refine ab [1,14] ?_;refine cD rfl ?_;refine ae ?_;refine vr 1 ?_;refine ab [2] ?_;refine aq ⟨.inr rfl,_,.tmp rfl (.nil),?_⟩;exact⟨rfl,false,rfl,⟨(fun h=>by cases h),(fun h=>by have h8:=h.dR;have h9:=h.rows;omega)⟩⟩
  ·
   skip
   refine ae ?_;refine vr 3 ?_;refine ax false rfl rfl (fN (by omega)) ?_;refine vr 4 ?_;refine ax false rfl rfl (fN (by omega)) ?_;refine vr 1 ?_;refine ab [1,14] ?_;refine dg rfl ?_;refine aw ?_;refine ag [1] rfl ?_;refine al ?_;refine ae ?_;refine vr 4 ?_;refine ab [1,16,17,18] ?_;refine aD ?_;refine ft (fun(i:Nat)=>p.rows.length-i) (fun(i:Nat)=>put (put (put (put (emp) 1 (.box [.slice Af p.free.length cf,.slice Ar p.rows.length cr])) 16 (.val (.slice Ar p.rows.length cr))) 17 (.val (.int .i64 (p.rows.length:Int)))) 18 (.val (.int .i64 (i:Int)))) (fun(i:Nat) H'=>H'=H∧(∀(k:Nat)(r:List Rat×Int×Rat),k<i→p.rows[k]? = some r→Lq p.free.length r)∧i≤p.rows.length) 0 (⟨rfl,(fun k r h=>by omega),Nat.zero_le _⟩) au ?_;rintro i H1 ⟨e1,cO,hi⟩;rw[e1];refine ae ?_;refine vr 1 ?_;refine ab [1,16,17,18,19] ?_;refine al ?_;refine az rfl (fun hb=> ?_) (fun hb=> ?_)
   ·
    have cQ:i<p.rows.length:=by simpa using hb
    obtain⟨r,hr⟩:∃r,p.rows[i]? = some r:=⟨_,List.getElem?_eq_getElem cQ⟩;obtain⟨A0,c0,f,A1,m1,c1,A2,m2,c2,fU,dL⟩:=du i r hr;refine aw ?_;refine ag [1,16,17,18] rfl ?_;refine al ?_;refine aD ?_;refine ae ?_;refine cI (vs:=[.slice A0 r.1.length c0,.int .i64 r.2.1,.bool f,.slice A1 m1 c1,.slice A2 m2 c2]) af rfl rfl rfl rfl cL rfl (by decide) dL (by omega) (by omega) fun _=> ?_;refine bh gY rfl ?_;obtain⟨ti,aj,ak⟩:=rU;refine aG (.inl ⟨rfl,rfl⟩) rfl rfl rfl aj ak rfl rfl rfl ?_;refine ab [1,4,16,17,18] ?_;refine al ?_;refine ae ?_;refine vr 7 ?_;refine ab [1,4,16,17,18,28] ?_;refine az rfl (fun hb=> ?_) (fun hb=> ?_)
    ·
     have aW:¬r.1.length=p.free.length:=by simpa [Int.natCast_inj]using hb
     refine ae ?_;refine vr 1 ?_;refine ab [2] ?_;refine aq ⟨.inr rfl,_,.tmp rfl (.nil),?_⟩;exact⟨rfl,false,rfl,⟨(fun h=>by cases h),fun h=>absurd (h.row i r hr).1 aW⟩⟩
    ·
     have aW:r.1.length=p.free.length:=by simpa [Int.natCast_inj]using hb
     refine aw ?_;refine ag [1,4,16,17,18] rfl ?_
     by_cases h1:r.2.1=1
     ·
      skip
      refine ae ?_;refine vr 2 ?_;refine ax false rfl rfl (ko h1) ?_;refine vr 10 ?_;refine ab [1,16,17,18,41] ?_;refine dg rfl ?_;refine aw ?_;refine ag [1,16,17,18] rfl ?_;refine aE rfl ?_;refine aN rfl rfl ⟨by omega,by omega⟩ ?_;refine vr 1 ?_;refine aA ?_;exact⟨i+1,by omega,au,rfl,(fun k r9 hk j9=>by by_cases h9:k<i;exact cO k r9 h9 j9;(obtain rfl:k=i:=by omega);rw[hr]at j9;cases j9;exact⟨aW,.inl h1⟩),by omega⟩
     ·
      skip
      by_cases h2:r.2.1=2
      ·
       skip
       refine ae ?_;refine vr 2 ?_;refine ax true rfl rfl (kn h1) ?_;refine vr 3 ?_;refine ax false rfl rfl (ko h2) ?_;refine vr 6 ?_;refine ab [1,16,17,18,41] ?_;refine dg rfl ?_;refine aw ?_;refine ag [1,16,17,18] rfl ?_;refine aE rfl ?_;refine aN rfl rfl ⟨by omega,by omega⟩ ?_;refine vr 1 ?_;refine aA ?_;exact⟨i+1,by omega,au,rfl,(fun k r9 hk j9=>by by_cases h9:k<i;exact cO k r9 h9 j9;(obtain rfl:k=i:=by omega);rw[hr]at j9;cases j9;exact⟨aW,.inr (.inl h2)⟩),by omega⟩
      ·
       skip
       by_cases h3:r.2.1=3
       ·
        skip
        refine ae ?_;refine vr 2 ?_;refine ax true rfl rfl (kn h1) ?_;refine vr 3 ?_;refine ax true rfl rfl (kn h2) ?_;refine vr 4 ?_;refine ax false rfl rfl (ko h3) ?_;refine vr 1 ?_;refine ab [1,16,17,18,41] ?_;refine dg rfl ?_;refine aw ?_;refine ag [1,16,17,18] rfl ?_;refine aE rfl ?_;refine aN rfl rfl ⟨by omega,by omega⟩ ?_;refine vr 1 ?_;refine aA ?_;exact⟨i+1,by omega,au,rfl,(fun k r9 hk j9=>by by_cases h9:k<i;exact cO k r9 h9 j9;(obtain rfl:k=i:=by omega);rw[hr]at j9;cases j9;exact⟨aW,.inr (.inr h3)⟩),by omega⟩
       ·
        skip
        refine ae ?_;refine vr 2 ?_;refine ax true rfl rfl (kn h1) ?_;refine vr 3 ?_;refine ax true rfl rfl (kn h2) ?_;refine vr 4 ?_;refine ax true rfl rfl (kn h3) ?_;refine vr 1 ?_;refine ab [1,16,17,18,41] ?_;refine cD rfl ?_;refine ae ?_;refine vr 1 ?_;refine ab [2] ?_;refine aq ⟨.inr rfl,_,.tmp rfl (.nil),?_⟩;exact⟨rfl,false,rfl,⟨(fun h=>by cases h),(fun h=>by have h9:=(h.row i r hr).2;omega)⟩⟩
   ·
    have hb:p.rows.length≤i:=by simpa using hb
    refine bB ?_;refine ag [] rfl ?_;refine ae ?_;refine vr 1 ?_;refine ab [2] ?_;refine aq ⟨.inr rfl,_,.tmp rfl (.nil),?_⟩;exact⟨rfl,true,rfl,⟨fun _=>⟨by omega,by omega,fun k r hr=>cO k r (by have h9:=(List.getElem?_eq_some_iff.1 hr).1;omega) hr⟩,fun _=>rfl⟩⟩
end Go.ay
namespace Go.ay
open Go.Proofs Num Lp
def Na(H:Heap)(v:Value)(S:pc):Prop:=∃f u w xv dv rv,v = .agg #[.int .i64 S.status,.bool f,u,w,xv,dv,rv]∧(cJ H (.agg #[.bool f,u,w]) S.value∨(S.value=0∧f=false∧u = .slice none 0 0∧w = .slice none 0 0))∧aC gI 3 H xv S.x∧aC gI 3 H dv S.iw∧aC gI 3 H rv S.ray
def TJ(M:Nat)(S:pc):Prop:=∀q,q∈S.x∨q∈S.iw∨q∈S.ray∨q=S.value→aJ q≤M
def TK:Value:= .agg #[.int .i64 0,.bool false,.slice none 0 0,.slice none 0 0,.slice none 0 0,.slice none 0 0,.slice none 0 0]
def I8(p:Prg)(c:List Rat)(S:pc):Prop:=S.status=1→∃T,I2 p c T∧S.value = -(T.c p.w)∧S.x=aT (dK.vec p.lay.pF p.lay.mF T.pt) p.lp.n
def I9(p:Prg)(c:List Rat)(M:Nat)(H:Heap)(v:Value)(H':Heap):Prop:=Heap.le H H'∧∃s e,v = .tuple #[s,.int .i64 e]∧
 ((¬p.Ok∧e=1∧s=TK)∨(p.Ok∧c.length≠p.free.length∧e=21∧s=TK)∨(p.Ok∧c.length=p.free.length∧e=0∧∃S,Na H' s S∧qe p c S∧TJ (2*M+2) S∧I8 p c S))
theorem jB{H:Heap}{α:Type}{P:Heap→List Value→α→Prop}{sz:Nat}:aC P sz H (.slice none 0 0) ([]:List α):=⟨none,0,[],rfl,Nat.le_refl _,(fun i v h=>by simp at h),tS⟩
theorem Fv{f:Nat→Rat}{n:Nat}{q:Rat}(h:q∈aT f n):∃j,j<n∧q=f j:=by
 unfold aT at h
 obtain⟨j,hj,e⟩:=List.mem_map.1 h
 exact⟨j,List.mem_range.1 hj,e.symm⟩
section
variable {p:Prg} {c:List Rat} {M:Nat} {T:ao} {H K:Heap}
theorem Nb{N n:Nat}{z:Nat→Rat}(h0:1≤N)(hz:∀j,j<p.w→aJ (z j)≤N){j:Nat}(hj:j<p.lp.n):aJ (dK.vec p.lay.pF p.lay.mF z j)≤2*N+1:=by
 have h1:=qb (z (p.lay.pF j)) (gp z (p.lay.mF j))
 have h2:=hz _ (mM.pw j hj)
 have h3:aJ (gp z (p.lay.mF j))≤N:=by
  rw[BI hj]
  by_cases hf:p.lp.free j=true
  ·rw[if_pos hf]
   have:=BE p hj
   unfold lH at this
   rw[if_pos hf]at this
   have:=re p
   have:=lj p
   exact hz _ (by omega)
  ·rw[if_neg hf];exact Nat.le_trans (show aJ (0:Rat)≤1 by decide) h0
 unfold dK.vec;omega
theorem TM{N:Nat}{f g:Nat→Rat}(hf:∀j,j<p.w→aJ (f j)≤N)(hg:∀j,j<p.w→aJ (g j)≤N){i:Nat}(hi:i<p.lp.m):aJ (p.lay.sF i*(f (p.lay.uF i)-g (p.lay.uF i)))≤2*N+2:=by
 have h1:=nx (p.lay.sF i) (f (p.lay.uF i)-g (p.lay.uF i))
 have h2:=qb (f (p.lay.uF i)) (g (p.lay.uF i))
 have h3:=mM.s1 i hi
 have h4:=hf _ (mM.uw i hi)
 have h5:=hg _ (mM.uw i hi)
 omega
theorem adw(aP:p.Ok)(ej:c.length=p.free.length)(hl:Fits p c M)(hle:Heap.le H K)(h:Inv p (pn p) T)(hn:∀j,j<p.u→0≤T.c j)(iO:T.c p.w<0){dv:Value}
  (hd:aC gI 3 K dv (aT (fun i=>p.lay.sF i*(pn p (p.lay.uF i)-T.c (p.lay.uF i))) p.lp.m)):I9 p c M H (.tuple #[.agg #[.int .i64 2,.bool false,.slice none 0 0,.slice none 0 0,.slice none 0 0,dv,.slice none 0 0],.int .i64 0]) K:=by
 have hz:=hl.BR _ h
 refine⟨hle,_,_,rfl,.inr (.inr ⟨aP,ej,rfl,⟨2,0,[],_,[]⟩,⟨_,_,_,_,_,_,rfl,.inr ⟨rfl,rfl,rfl,rfl⟩,jB,hd,jB⟩,.inr (.inl ⟨rfl,rfl,rfl,rfl,ej,acC aP h hn iO⟩),fun q hq=> ?_,fun e=>by cases e⟩)⟩
 rcases hq with hq | hq | hq | hq
 ·cases hq
 ·obtain⟨i,hi,rfl⟩:=Fv hq
  exact TM (fun j _=>hl.pn j) (fun j hj=>hz.c j (by rw[h.rows.n];omega)) hi
 ·cases hq
 ·rw[hq];exact Nat.le_trans (show aJ (0:Rat)≤2 by decide) (Nat.le_add_left 2 _)
theorem adx(aP:p.Ok)(ej:c.length=p.free.length)(hl:Fits p c M)(hle:Heap.le H K)(h:I2 p c T)(hn:∀j,j<p.u→0≤T.c j){f:Bool}{u w xv dv:Value}
  (hv:cJ K (.agg #[.bool f,u,w]) (-(T.c p.w))) (hx:aC gI 3 K xv (aT (dK.vec p.lay.pF p.lay.mF T.pt) p.lp.n)) (hd:aC gI 3 K dv (aT (fun i=>p.lay.sF i*(lk p c (p.lay.uF i)-T.c (p.lay.uF i))) p.lp.m)):
  I9 p c M H (.tuple #[.agg #[.int .i64 1,.bool f,u,w,xv,dv,.slice none 0 0],.int .i64 0]) K:=by
 have hz:=hl.qL _ h.1
 have h1:=acF aP ej h hn
 refine⟨hle,_,_,rfl,.inr (.inr ⟨aP,ej,rfl,⟨1,-(T.c p.w),_,_,[]⟩,⟨_,_,_,_,_,_,rfl,.inl hv,hx,hd,jB⟩,.inl ⟨rfl,rfl,h1.1,h1.2⟩,fun q hq=> ?_,fun _=>⟨T,h,rfl,rfl⟩⟩)⟩
 have hb:=hl.one
 rcases hq with hq | hq | hq | hq
 ·obtain⟨j,hj,rfl⟩:=Fv hq
  exact Nat.le_trans (Nb (n:=0) hb (fun j hj=>MA h.1.wf hz hb (by rw[h.1.rows.n];exact hj)) hj) (by omega)
 ·obtain⟨i,hi,rfl⟩:=Fv hq
  exact TM (fun j _=>hl.lk j) (fun j hj=>hz.c j (by rw[h.1.rows.n];omega)) hi
 ·cases hq
 ·rw[hq,AL]
  exact Nat.le_trans (hz.c p.w (by rw[h.1.rows.n];exact Nat.le_refl _)) (by omega)
theorem ady(aP:p.Ok)(ej:c.length=p.free.length)(hl:Fits p c M)(hle:Heap.le H K)(h:I2 p c T){s:Nat}(hs:s<p.u)(iO:T.c s<0)(hA:∀i,i<T.m→T.A i s≤0){xv rv:Value}
  (hx:aC gI 3 K xv (aT (dK.vec p.lay.pF p.lay.mF T.pt) p.lp.n)) (hr:aC gI 3 K rv (aT (dK.vec p.lay.pF p.lay.mF (T.dir s)) p.lp.n)):
  I9 p c M H (.tuple #[.agg #[.int .i64 3,.bool false,.slice none 0 0,.slice none 0 0,xv,.slice none 0 0,rv],.int .i64 0]) K:=by
 have hz:=hl.qL _ h.1
 have hb:=hl.one
 have oC:=lj p
 refine⟨hle,_,_,rfl,.inr (.inr ⟨aP,ej,rfl,⟨3,0,_,[],_⟩,⟨_,_,_,_,_,_,rfl,.inr ⟨rfl,rfl,rfl,rfl⟩,hx,jB,hr⟩,.inr (.inr ⟨rfl,rfl,rfl,acG aP ej h hs iO hA⟩),fun q hq=> ?_,fun e=>by cases e⟩)⟩
 rcases hq with hq | hq | hq | hq
 ·obtain⟨j,hj,rfl⟩:=Fv hq
  exact Nat.le_trans (Nb (n:=0) hb (fun j hj=>MA h.1.wf hz hb (by rw[h.1.rows.n];exact hj)) hj) (by omega)
 ·cases hq
 ·obtain⟨j,hj,rfl⟩:=Fv hq
  exact Nat.le_trans (Nb (n:=0) hb (fun j hj=>SY h.1.wf hz hb (by rw[h.1.rows.n];omega) (SZ h.1.wf iO)) hj) (by omega)
 ·rw[hq];exact Nat.le_trans (show aJ (0:Rat)≤2 by decide) (Nat.le_add_left 2 _)
end
end Go.ay
namespace Go.ay
open Go.Proofs Num Lp
theorem adz{H:Heap}{v cv:Value}{p:Prg}{c:List Rat}{M N:Nat}(hp:cN N H v p)(hc:aC (aS N) 3 H cv c)(hl:Fits p c M)(TN:(c.length:Int)≤1099511627776)(hN:(N:Int)≤549755813888)(ag3:(M:Int)≤34359738368):
 Fn Tryz.prog 12 #[v,cv] H (I9 p c M H):=by
 obtain⟨fv,fG,rfl,cB,cF⟩:=id hp
 obtain⟨Af,cf,xf,rfl,ea,eH⟩:=cB.one
 obtain⟨Ar,cr,xr,rfl,cL,du⟩:=cF.row
 obtain⟨Ac,cc,xc,rfl,hcc,wm,L2⟩:=id hc;refine aU (args:=[_,_]) Tryz.func12 rfl rfl Tryz.ntmps12 rfl rfl fun w0=> ?_;refine ag [0,1] rfl ?_;refine ae ?_;refine bF rfl rfl ?_;refine bh rT rfl ?_;refine vr 1 ?_;refine ab [1,2,4] ?_;refine al ?_;refine ae ?_;refine vr 1 ?_;refine ar rfl rfl (Fu hp) ?_;rintro v1 H1 ⟨e1,b1,rfl,di⟩;rw[e1];refine vr 1 ?_;refine ab [1,2,4,13] ?_;refine az rfl (fun hb=> ?_) (fun hb=> ?_)
 ·
  have hb:¬p.Ok:=fun h=>by have h9:=di.2 h;rw[h9]at hb;simp at hb
  refine ae ?_;refine dW af rfl rT rfl rfl ?_;obtain⟨ti,aj,ak⟩:=nY;refine aG (.inl ⟨rfl,rfl⟩) rfl rfl rfl aj ak rfl rfl rfl ?_;refine vr 1 ?_;refine ab [4,5] ?_;obtain⟨bX,aK,aL⟩:=nY;refine aq ⟨.inr rfl,_,.agg rfl Tryz.underlying33 aK aL (.tmp rfl (.nil)),?_⟩;exact⟨.refl _,_,_,rfl,.inl ⟨hb,rfl,rfl⟩⟩
 ·
  have aP:p.Ok:=di.1 (by simpa using hb);have dY:=aP.dR;have iQ:=aP.rows;have Tv:=SE p;have e1:p.lp.n=p.free.length:=rfl;have e2:p.lp.m=p.rows.length:=rfl
  have qw:(p.lay.w:Int)≤1000000:=by show ((p.w:Nat):Int)≤_;omega
  have TO:((p.fF.m:Nat):Int)≤1000000:=by show ((p.rows.length:Nat):Int)≤_;omega
  have TP:=hl.one;refine aw ?_;refine ag [1,2,4] rfl ?_;refine al ?_;refine ae ?_;refine vr 6 ?_;refine ab [1,2,4,20] ?_;refine az rfl (fun hb=> ?_) (fun hb=> ?_)
  ·
   have hb:c.length≠p.free.length:=by simpa [Int.natCast_inj]using hb
   refine ae ?_;refine dW af rfl rT rfl rfl ?_;obtain⟨ti,aj,ak⟩:=nY;refine aG (.inl ⟨rfl,rfl⟩) rfl rfl rfl aj ak rfl rfl rfl ?_;refine vr 1 ?_;refine ab [4,5] ?_;obtain⟨bX,aK,aL⟩:=nY;refine aq ⟨.inr rfl,_,.agg rfl Tryz.underlying33 aK aL (.tmp rfl (.nil)),?_⟩;exact⟨.refl _,_,_,rfl,.inr (.inl ⟨aP,hb,rfl,rfl⟩)⟩
  ·
   have ej:c.length=p.free.length:=by simpa [Int.natCast_inj]using hb
   refine aw ?_;refine ag [1,2,4] rfl ?_;refine ae ?_;refine vr 1 ?_;refine ar rfl rfl (acM (n:=p.free.length) (m:=p.rows.length) hp aP rfl rfl hN) ?_;rintro v5 H5 ⟨G,rfl,DK,ag4,gZ⟩;refine vr 1 ?_;refine ab [1,4,6] ?_;refine ae ?_;refine vr 2 ?_;refine ar rfl rfl (RA DK qw) ?_;rintro v6 H6 ⟨sJ,fh,EP⟩;refine ar rfl rfl (RN (N:=2*M) (f:=pn p) (DK.kept sJ) EP (fun i hi=>uD p hi) (by omega) qw TO (fun j _=>Nat.le_trans (hl.pn j) (by omega)) (fun i hi j _=>Nat.le_trans (hl.tab i hi j) (by omega)) hl.S0) ?_;rintro _ H7 ⟨iB,iC,_,ht7,hc7,L4⟩;refine ab [1,4,6] ?_;refine ae ?_;refine vr 1 ?_;refine ar rfl rfl (Rr (G:=(G.ey iB iC)) (N:=M) (I:=Inv p (pn p)) ht7 hc7 (Inv.base BQ) (fun S r s h hb=>h.step (by rw[h.rows.n];exact lj p) hb) (fun S h=>⟨h.wf,h.dB,hl.BR _ h,h.rows.m,h.rows.n⟩) (by omega) qw TO) ?_;rintro v8 H8 ⟨T8,rB,Nc,L3,po,mN⟩
   have uo:∀j,j<p.u→0≤T8.c j:=by rcases mN with ⟨_,h⟩ | ⟨s,_,h1,h2,h3⟩;exact h;exact(acE rB h1 h2 h3).elim
   have TQ:=hl.BR _ rB;have ag5:aJ (T8.c p.lay.w)≤M:=TQ.c _ (by rw[rB.rows.n];exact Nat.le_refl _)
   have adA:((T8.m:Nat):Int)≤1000000:=by rw[rB.rows.m];omega
   refine ab [1,4,6] ?_;refine al ?_;refine ae ?_;refine vr 1 ?_;refine ar rfl rfl (Rz (G:=(G.ey iB iC)) Nc L3 (by omega)) ?_;rintro v9 H9 ⟨kB,gJ,n9,d9,b9,rfl,nK⟩;refine ar rfl rfl (Fn.qh (kB.ne Nc.ne) (iN nK (by rw[AL];omega))) ?_;rintro v10 Et ⟨wM,zb,rfl⟩;have wV:=kB.trans wM;have Nd:=Nc.kept wV;have TR:=L3.kept wV;have Nf:=((((gZ.trans sJ.le).trans L4).trans po).trans wV.le);refine vr 1 ?_;refine ab [1,4,6,33] ?_;refine az rfl (fun hb=> ?_) (fun hb=> ?_)
   ·
    have iO:T8.c p.w<0:=by have h9:=HW.1 (show 0<dF (-(T8.c p.lay.w)) by simpa using hb);have h8:T8.c p.lay.w=T8.c p.w:=rfl;grind
    refine ae ?_;refine vr 2 ?_;refine ar rfl rfl (RA (G:=(G.ey iB iC)) Nd qw) ?_;rintro v11 oG ⟨zh,Fw,adB⟩;refine ar rfl rfl (RM (G:=(G.ey iB iC)) (n:=p.lp.n) (m:=p.lp.m) (N:=M) (f:=pn p) (Nd.kept zh) (TR.kept zh) mM adB (fun j _=>hl.pn j) (fun j hj=>TQ.c j (by rw[rB.rows.n];exact Nat.le_of_lt hj)) (by omega) qw (by omega)) ?_;rintro v12 ez ⟨yV,yW,A12,c12,x12,rfl,adC,adD,adE⟩;refine dW af rfl rT rfl rfl ?_;obtain⟨ti,aj,ak⟩:=nY;refine aG (.inl ⟨rfl,rfl⟩) rfl rfl rfl aj ak rfl rfl rfl ?_;refine vr 1 ?_;refine ab [4,5] ?_;obtain⟨bX,aK,aL⟩:=nY;refine aq ⟨.inr rfl,_,.agg rfl Tryz.underlying33 aK aL (.tmp rfl (.nil)),?_⟩;exact adw aP ej hl (((Nf.trans zh.le).trans yV.le).trans (bG _ _)) rB uo iO (aC.le ⟨_,_,_,rfl,adC,adD,adE⟩ ix (bG _ _))
   ·
    have iO:¬T8.c p.w<0:=fun h=>by have h9:¬0<dF (-(T8.c p.lay.w)):=(by simpa using hb);exact h9 (HW.2 (by have h8:T8.c p.lay.w=T8.c p.w:=rfl;grind))
    refine aw ?_;refine ag [1,4,6] rfl ?_;refine ae ?_;refine vr 1 ?_;refine ar rfl rfl (abc (G:=(G.ey iB iC)) (N:=M) (J:=Jx p) Nd TR ⟨rB,acD rB iO⟩ (fun k S h hk hd=>h.skip hd) (fun k S s h hk hu hs hp=>h.pivot hk hu hs hp) (fun k S h=>⟨hl.BR _ h.1,by rw[h.1.rows.m,rB.rows.m],by rw[h.1.rows.n,rB.rows.n]⟩) (by omega) qw adA) ?_;rintro _ oG ⟨T11,Ng,uJ,ag6,TS⟩;rw[rB.rows.m]at Ng;have uK:=Ng.1;refine ab [1,4,6] ?_;refine ae ?_;refine vr 2 ?_;refine bJ af rfl rfl rfl ?_;refine aZ af rfl rfl rfl (uJ.Bp) ?_;refine ar rfl rfl (Bu (gs:=(G.ey iB iC).gs) (n:=p.lay.w) uJ.ne (by omega)) ?_;rintro v12 ez ⟨yW,z,oA,rfl,yX,adF⟩;refine vr 1 ?_;refine ab [1,4,6,7] ?_;refine al ?_;refine ae ?_;refine vr 1 ?_;refine ar rfl rfl (Fn.HZ (gs:=(z::(G.ey iB iC).gs)) (yX.ne uJ.ne) (sE (hc.le (a8 N) ((Nf.trans TS).trans yX.le)) (by omega) TN)) ?_;rintro Sq px ⟨Iu,ra,adG⟩;have BC:=yX.kept Iu;obtain⟨Av,cv,xv,rfl,j6,rN⟩:=adG.num;obtain⟨Ap,cp,xp,sK,fU,yC⟩:=uJ.self.plus.one;obtain⟨Am,cm,xm,sL,nD,DY⟩:=uJ.self.minus.one;rw[mM.Ib]at sK;rw[mM.Ic]at sL;rw[ej];refine vr 2 ?_;refine ab [4,6,7,47,48,49] ?_;refine aD ?_
    refine jT (fun(k:Nat)(xs:List Value)=>p.free.length-k) (fun(k:Nat)(xs:List Value)=>put (put (put (put (put (put (emp) 4 (.box [.int .i64 0,.bool false,.slice none 0 0,.slice none 0 0,.slice none 0 0,.slice none 0 0,.slice none 0 0])) 6 (.val (.pointer (some ⟨G.g,0,none⟩)))) 7 (.val (.slice (some ⟨z,0,none⟩) p.lay.w p.lay.w))) 47 (.val (.slice Av p.free.length cv))) 48 (.val (.int .i64 (p.free.length:Int)))) 49 (.val (.int .i64 (k:Int)))) (fun(k:Nat)(xs:List Value) H'=>eD (G.ey iB iC).gs oG H' z xs (p.lay.w*3) 90∧bI (bo (rem H' (z::(G.ey iB iC).gs))) 3 xs (aT (jO p.lay (fn c) 1 k) p.lay.w)∧Heap.le (rem px (z::(G.ey iB iC).gs)) (rem H' (z::(G.ey iB iC).gs))∧k≤p.free.length) 0 oA (⟨BC,adF _,.refl _,Nat.zero_le _⟩) au ?_;rintro k xs uI ⟨uA,Nh,Ni,ag7⟩;have adH:=uA.tab uJ;have cj:=Nh.len;rw[cS]at cj;refine ae ?_;refine vr 1 ?_;refine ab [4,6,7,47,48,49,50] ?_;refine al ?_;refine az rfl (fun hb=> ?_) (fun hb=> ?_)
    ·
     have fK:k<p.free.length:=by simpa using hb
     obtain⟨q,dG⟩:∃q,c[k]? = some q:=⟨_,List.getElem?_eq_getElem (by omega)⟩;obtain⟨n1,d1,b1,dO,ee⟩:=rN k q dG;have eO:fn c k=q:=gq dG;have uz:aJ q≤N+2:=bN.size (L2.at_ k q dG);obtain⟨up,DZ,D3⟩:=yC k _ (mM.p fK);obtain⟨um,wu,D4⟩:=DY k _ (mM.mi fK)
     cases D3
     cases D4
     have ab6:=mM.pw k fK;have ab7:=mM.mw k fK;rw[←eO]at dO;refine aw ?_;refine ag [4,6,7,47,48,49] rfl ?_;refine al ?_;refine aD ?_;refine ae ?_;refine vr 1 ?_;refine cI (vs:=[.int .i64 n1,.int .i64 d1,.pointer b1]) af rfl rfl rfl rfl ((j6.le Ni).le (bG _ _)) rfl (by decide) ee (by omega) (by omega) fun _=> ?_;refine bh dT rfl ?_;refine vr 1 ?_;obtain⟨ti,aj,ak⟩:=bV;refine aG (.inl ⟨rfl,rfl⟩) rfl rfl rfl aj ak rfl rfl rfl ?_;refine ab [4,6,7,8,9,47,48,49] ?_;refine bL .gO [0,1,2,3,4,5,6,7,8,9,10] follows (by kernel_rfl) ?_;refine vr 3 ?_;refine bJ af rfl rfl rfl ?_;refine aZ af rfl rfl rfl (show cell _ _=some (.slice Ap p.free.length cp)from by rw[←show (G.ey iB iC).pv = .slice Ap p.free.length cp from sK];exact adH.cell 2 _ rfl) ?_;refine vr 1 ?_;refine a6 af rfl rfl rfl rfl rfl (fU.le uA.hle) (by rw[Int.toNat_natCast];exact DZ) (by omega) (by omega) fun _=> ?_;refine vr 1 ?_;obtain⟨ti,aj,ak⟩:=bV;refine eB (.inr rfl) af rfl rfl rfl (by omega) (by omega) (uA.aB) rfl (by show 0+p.lay.w*3≤xs.length;omega) aj ak (fun _=>rfl) rfl rfl rfl fun _=> ?_;refine ab [4,6,7,8,9,47,48,49] ?_;have zi:eD (G.ey iB iC).gs oG (ins uI z {(⟨xs,p.lay.w*3,90,true⟩:aQ)with xs:=aF xs (0+((p.lay.pF k:Nat):Int).toNat*3) [.int .i64 n1,.int .i64 d1,.pointer b1]}) z (aF xs (p.lay.pF k*3) [.int .i64 n1,.int .i64 d1,.pointer b1]) (p.lay.w*3) 90:=uA.set (by rw[Int.toNat_natCast];exact mJ)
     have Ja:bI (bo (rem (ins uI z {(⟨xs,p.lay.w*3,90,true⟩:aQ)with xs:=aF xs (0+((p.lay.pF k:Nat):Int).toNat*3) [.int .i64 n1,.int .i64 d1,.pointer b1]}) (z::(G.ey iB iC).gs))) 3 (aF xs (p.lay.pF k*3) [.int .i64 n1,.int .i64 d1,.pointer b1]) (aT (fE (jO p.lay (fn c) 1 k) (p.lay.pF k) (fn c k)) p.lay.w):=by
      rw[cK _ (List.mem_cons_self ..)];exact qk Nh (by omega) (dO.le Ni)
     have Jb:Heap.le (rem px (z::(G.ey iB iC).gs)) (rem (ins uI z {(⟨xs,p.lay.w*3,90,true⟩:aQ)with xs:=aF xs (0+((p.lay.pF k:Nat):Int).toNat*3) [.int .i64 n1,.int .i64 d1,.pointer b1]}) (z::(G.ey iB iC).gs)):=by rw[cK _ (List.mem_cons_self ..)];exact Ni
     show VC _ _ _ _ _ _ _ (ins uI z {(⟨xs,p.lay.w*3,90,true⟩:aQ)with xs:=aF xs (0+((p.lay.pF k:Nat):Int).toNat*3) [.int .i64 n1,.int .i64 d1,.pointer b1]})
     generalize ins uI z {(⟨xs,p.lay.w*3,90,true⟩:aQ)with xs:=aF xs (0+((p.lay.pF k:Nat):Int).toNat*3) [.int .i64 n1,.int .i64 d1,.pointer b1]}=wU at zi Ja Jb⊢
     have TT:=zi.tab uJ;have Mb:=Ja.len;rw[cS]at Mb;refine ae ?_;refine vr 2 ?_;refine bJ af rfl rfl rfl ?_;refine aZ af rfl rfl rfl (show cell _ _=some (.slice Am p.free.length cm)from by rw[←show (G.ey iB iC).mv = .slice Am p.free.length cm from sL];exact TT.cell 3 _ rfl) ?_;refine vr 1 ?_;refine a6 af rfl rfl rfl rfl rfl (nD.le zi.hle) (by rw[Int.toNat_natCast];exact wu) (by omega) (by omega) fun _=> ?_;refine vr 1 ?_;refine ab [4,6,7,8,9,47,48,49,71] ?_;refine az rfl (fun hb=> ?_) (fun hb=> ?_)
     ·
      have hb:0≤p.lay.mZ k:=by simpa using hb
      refine eT .gO [0,1,2,3,4,5,6,7,8,9,10,11] follows (by kernel_rfl) ?_;refine vr 3 ?_;refine bJ af rfl rfl rfl ?_;refine aZ af rfl rfl rfl (show cell _ _=some (.slice Am p.free.length cm)from by rw[←show (G.ey iB iC).mv = .slice Am p.free.length cm from sL];exact TT.cell 3 _ rfl) ?_;refine vr 1 ?_;refine a6 af rfl rfl rfl rfl rfl (nD.le zi.hle) (by rw[Int.toNat_natCast];exact wu) (by omega) (by omega) fun _=> ?_;refine vr 1 ?_;refine aH rfl rfl (Fn.iy (zi.ne uJ.ne) (AO (dO.le Jb) (by rw[eO];omega))) (fun _ _ h=>by first | exact h.le | exact h.1) ?_;rintro v17 H17 ⟨Nj,ag8,n7,d7,b7,rfl,adI⟩;have TU:=zi.kept Nj;obtain⟨ti,aj,ak⟩:=bV;refine eB (.inr rfl) af rfl rfl rfl (by omega) (by omega) (TU.aB) rfl (by show 0+p.lay.w*3≤(aF xs (p.lay.pF k*3) [.int .i64 n1,.int .i64 d1,.pointer b1]).length;omega) aj ak (fun _=>rfl) rfl rfl rfl fun _=> ?_;refine aA ?_;have adJ:=TU.set (mJ (xs:=aF xs (p.lay.pF k*3) [.int .i64 n1,.int .i64 d1,.pointer b1]) (vs:=[.int .i64 n7,.int .i64 d7,.pointer b7]) (k:=(p.lay.mZ k).toNat) (sz:=3));refine ag [4,6,7,47,48,49] rfl ?_;refine aE rfl ?_;refine aN rfl rfl ⟨by omega,by omega⟩ ?_;refine vr 1 ?_;refine aA ?_;exact⟨k+1,_,by omega,au,adJ,by rw[cK _ (List.mem_cons_self ..),yU,if_pos hb,Rat.mul_one];exact qk (Ja.mono fun vs a=>fD _ _ vs a Nj.le) (by omega) adI,by rw[cK _ (List.mem_cons_self ..)];exact Jb.trans Nj.le,by omega⟩
     ·
      have hb:¬0≤p.lay.mZ k:=by simpa using hb
      refine aw ?_;refine ag [4,6,7,47,48,49] rfl ?_;refine aE rfl ?_;refine aN rfl rfl ⟨by omega,by omega⟩ ?_;refine vr 1 ?_;refine aA ?_;exact⟨k+1,_,by omega,au,zi,by rw[yU,if_neg hb,Rat.mul_one];exact Ja,Jb,by omega⟩
    ·
     have hb:p.free.length≤k:=by simpa using hb
     obtain rfl:p.free.length=k:=by omega
     have kW:=uA.done;have fM:aC bo 3 (rem uI (G.ey iB iC).gs) (.slice (some ⟨z,0,none⟩) p.lay.w p.lay.w) (aT (lk p c) p.lay.w):=⟨some ⟨z,0,none⟩,p.lay.w,xs,by rw[cS],by rw[cS];exact Nat.le_refl _,uA.rd,Nh.mono fun vs a=>fD _ _ vs a kW.2⟩
     have TV:((T11.m:Nat):Int)≤1000000:=by rw[uK.rows.m];omega
     skip
     have adK:=hl.BR _ uK;refine bB ?_;refine ag [4,6,7] rfl ?_;refine ae ?_;refine vr 2 ?_;refine ar rfl rfl (RN (G:=(G.ey iB iC)) (N:=2*M) (f:=lk p c) (uJ.kept kW.1) fM (fun i hi=>by have h9:=uK.wf.lt i hi;rw[uK.rows.n]at h9;exact h9) (by omega) qw TV (fun j _=>Nat.le_trans (hl.lk j) (by omega)) (fun i hi j hj=>Nat.le_trans (adK.A i hi j (by rw[uK.rows.n];exact hj)) (by omega)) (fun k hk j hj=>hl.S1 _ uK k hk j (by rw[uK.rows.n];exact hj))) ?_;rintro _ H19 ⟨zj,zk,_,adL,adM,TW⟩;refine ab [4,6,7] ?_;refine al ?_;refine ae ?_;refine vr 1 ?_;refine ar rfl rfl (Rr (G:=((G.ey iB iC).ey zj zk)) (N:=M) (I:=I2 p c) adL adM (I2.start Ng) (fun S r s h hb=>h.step hb) (fun S h=>⟨h.1.wf,h.1.dB,hl.qL _ h.1,by rw[h.1.rows.m];exact uK.rows.m.symm,by rw[h.1.rows.n];exact uK.rows.n.symm⟩) (by omega) qw TV) ?_;rintro v20 Tp ⟨Nk,nL,Fy,TX,TY,adN⟩;have Fz:=hl.qL _ nL.1;have ag9:aJ (Nk.c p.lay.w)≤M:=Fz.c _ (by rw[nL.1.rows.n];exact Nat.le_refl _)
     have Nl:((Nk.m:Nat):Int)≤1000000:=by rw[nL.1.rows.m];omega
     have adO:=fM.le fD (TW.trans TY);have TZ:=((Nf.trans TS).trans kW.1.le).trans (TW.trans TY);have T1:∀j,j<p.lay.w→aJ (Nk.pt j)≤M:=fun j hj=>MA nL.1.wf Fz TP (by rw[nL.1.rows.n];exact hj);refine vr 1 ?_;refine ab [4,6,7,10] ?_
     rcases adN with ⟨rfl,adP⟩ | ⟨s,rfl,sY,T2,adQ⟩
     ·
      skip
      refine ae ?_;refine vr 1 ?_;refine ax false rfl rfl (Kn (by decide)) ?_;refine ab [4,6,7,10,90] ?_;refine dg rfl ?_;refine aw ?_;refine ag [4,6,7] rfl ?_;refine ae ?_;refine vr 1 ?_;refine ar rfl rfl (Rz (G:=((G.ey iB iC).ey zj zk)) Fy TX (by omega)) ?_;rintro v23 H23 ⟨T3,aha,n23,d23,b23,rfl,adR⟩;refine ar rfl rfl (Fn.frame (gs:=((G.ey iB iC).ey zj zk).gs) (T3.ne Fy.ne) (K7 adR (by rw[AL];omega))) ?_;rintro v24 H24 ⟨⟨adS,T4⟩,adT⟩;have Jc:=T3.trans ⟨adS,adT⟩;have T5:=Fy.kept Jc;have adU:=TX.kept Jc;obtain⟨u24,w24,rfl,adV,adW⟩:=id T4;obtain⟨A27,c27,rfl,_,_⟩:=adV;obtain⟨oJ,oK,rfl,_,_⟩:=adW;refine vr 1 ?_;refine ar rfl rfl (RL (G:=((G.ey iB iC).ey zj zk)) T5 nL.1.wf mM T1 (by omega) qw (by omega) Nl) ?_;rintro v25 H25 ⟨wW,adX,A25,c25,x25,rfl,Nn,Np,Nq⟩;refine vr 2 ?_;refine ar rfl rfl (RM (G:=((G.ey iB iC).ey zj zk)) (n:=p.lp.n) (m:=p.lp.m) (N:=M) (f:=lk p c) (T5.kept wW) (adU.kept wW) mM (adO.le fD (Jc.le.trans wW.le)) (fun j _=>hl.lk j) (fun j hj=>Fz.c j (by rw[nL.1.rows.n];exact Nat.le_of_lt hj)) (by omega) qw (by omega)) ?_;rintro v26 H26 ⟨B6,adY,A26,c26,x26,rfl,Nr,Ns,Nu⟩;refine dW af rfl rT rfl rfl ?_
      obtain⟨ti,aj,ak⟩:=nY;refine aG (.inl ⟨rfl,rfl⟩) rfl rfl rfl aj ak rfl rfl rfl ?_;refine vr 1 ?_;refine ab [4,5] ?_;obtain⟨bX,aK,aL⟩:=nY;refine aq ⟨.inr rfl,_,.agg rfl Tryz.underlying33 aK aL (.tmp rfl (.nil)),?_⟩;exact adx aP ej hl ((((TZ.trans Jc.le).trans wW.le).trans B6.le).trans (bG _ _)) nL adP (cJ.le T4 ((wW.le.trans B6.le).trans (bG _ _))) (aC.le ⟨_,_,_,rfl,Nn,Np,Nq⟩ ix (B6.le.trans (bG _ _))) (aC.le ⟨_,_,_,rfl,Nr,Ns,Nu⟩ ix (bG _ _))
     ·
      skip
      refine ae ?_;refine vr 1 ?_;refine ax true rfl rfl (Km (by omega)) ?_;refine ab [4,6,7,10,90] ?_;refine cD rfl ?_;refine ae ?_;refine vr 1 ?_;refine ar rfl rfl (RL (G:=((G.ey iB iC).ey zj zk)) Fy nL.1.wf mM T1 (by omega) qw (by omega) Nl) ?_;rintro v25 H25 ⟨wW,adX,A25,c25,x25,rfl,Nn,Np,Nq⟩;have oC:=lj p;have ql:=SZ nL.1.wf T2;refine vr 2 ?_;refine ar rfl rfl (abn (G:=((G.ey iB iC).ey zj zk)) (N:=M) (s:=s) (Fy.kept wW) nL.1.wf mM (Nat.lt_of_lt_of_le sY oC) ql (fun i hi=>Fz.A i hi s (by rw[nL.1.rows.n];exact Nat.le_of_lt (Nat.lt_of_lt_of_le sY oC))) (fun j _=>SY nL.1.wf Fz TP (by rw[nL.1.rows.n];exact Nat.le_of_lt (Nat.lt_of_lt_of_le sY oC)) ql) (by omega) qw (by omega) Nl) ?_;rintro v26 H26 ⟨B6,adY,A26,c26,x26,rfl,Nr,Ns,Nu⟩;refine dW af rfl rT rfl rfl ?_;obtain⟨ti,aj,ak⟩:=nY;refine aG (.inl ⟨rfl,rfl⟩) rfl rfl rfl aj ak rfl rfl rfl ?_;refine vr 1 ?_;refine ab [4,5] ?_;obtain⟨bX,aK,aL⟩:=nY;refine aq ⟨.inr rfl,_,.agg rfl Tryz.underlying33 aK aL (.tmp rfl (.nil)),?_⟩;exact ady aP ej hl (((TZ.trans wW.le).trans B6.le).trans (bG _ _)) nL sY T2 adQ (aC.le ⟨_,_,_,rfl,Nn,Np,Nq⟩ ix (B6.le.trans (bG _ _))) (aC.le ⟨_,_,_,rfl,Nr,Ns,Nu⟩ ix (bG _ _))
end Go.ay
namespace Go.ay
open Go.Proofs Num Lp
theorem Nv{H:Heap}{f:Bool}{A1 A2:Option Addr}{m1 c1 m2 c2:Nat}:
 Fn Tryz.prog 28 #[.agg #[.bool f,.slice A1 m1 c1,.slice A2 m2 c2]] H (p8 H (.bool (decide (m1≤2∧m2≤2)))):=by
 refine aU (args:=[_]) Tryz.func28 rfl rfl Tryz.ntmps28 rfl rfl fun w0=> ?_;refine ag [0] rfl ?_;refine ae ?_;refine bF rfl rfl ?_;refine vr 1 ?_;refine ab [1] ?_
 by_cases h1:m1≤2
 ·
  skip
  by_cases h2:m2≤2
  ·
   skip
   refine ae ?_;refine vr 3 ?_;refine ax true rfl rfl (rX (by omega)) ?_;refine vr 4 ?_;refine ax true rfl rfl (rX (by omega)) ?_;refine vr 2 ?_;refine ab [2] ?_;refine aq ⟨.inr rfl,_,.tmp rfl (.nil),?_⟩;exact⟨rfl,by rw[decide_eq_true ⟨h1,h2⟩];rfl⟩
  ·
   skip
   refine ae ?_;refine vr 3 ?_;refine ax true rfl rfl (rX (by omega)) ?_;refine vr 4 ?_;refine ax false rfl rfl (z7 (by omega)) ?_;refine vr 2 ?_;refine ab [2] ?_;refine aq ⟨.inr rfl,_,.tmp rfl (.nil),?_⟩;exact⟨rfl,by rw[decide_eq_false (fun h=>h2 h.2)];rfl⟩
 ·
  skip
  refine ae ?_;refine vr 3 ?_;refine ax false rfl rfl (z7 (by omega)) ?_;refine vr 7 ?_;refine ab [2] ?_;refine aq ⟨.inr rfl,_,.tmp rfl (.nil),?_⟩;exact⟨rfl,by rw[decide_eq_false (fun h=>h1 h.1)];rfl⟩
end Go.ay
namespace Go.ay
section
variable {P:Program} {n:Nat} {all:Array Oper} {md:Mode} {tb:Tb} {s:St} {H:Heap} {K:St→Heap→Prop} {r:List Oper} {ty:TypeId} {pos:String} {after:Array Edge} {gd:Option (Nat×Bool)}
theorem Jd(s:St)(d:Nat)(v:Value):ev (put s d (.val v)) (.tmp d)=some v:=by simp[ev,put]
theorem ml{t t2 t3:TypeId}{x i:Operand}{A:Option Addr}{m c d1 d2 f o z:Nat}{zl:Option Nat}{qH Nw:TypeId}{qI Nx:String}{qJ Ny:Array Edge}{my FA:Option (Nat×Bool)}{k:IntKind}{j:Int}{e sz qL:Nat}{ps:List (Nat×Nat)}{ti:Ti}{xs:List Value}{v:Value}
  (dZ:kN P tb) (ht:tb[t]? = some (.sl e sz)) (gX:tb[t2]? = some (.st qL ps)) (hf:ps[f]? = some (o,z)) (uy:tb[t3]? = some ti) (h1:xH ti=true) (hx:ev s x=some (.slice A m c)) (hi:ev s i=some (.int k j)) (hr:Rd H A xs) (hv:xs[j.toNat*sz+o]? = some v) (h0:0≤j) (hm:j<m)
  (hk:∀a1 a2:Addr,aO P n all md r (aY (put (put s d1 (.val (.pointer (some a1)))) d2 (.val (.pointer (some a2)))) zl (.val v)) H K)
  (hg:cE all s gd=some true:=by rfl) (nb:md.nb s (some d1)=true:=by rfl)
  (eU:∀a1:Addr,cE all (put s d1 (.val (.pointer (some a1)))) my=some true:=by exact fun _=>rfl) (xM:∀a1:Addr,md.nb (put s d1 (.val (.pointer (some a1)))) (some d2)=true:=by exact fun _=>rfl)
  (o4:∀a1 a2:Addr,cE all (put (put s d1 (.val (.pointer (some a1)))) d2 (.val (.pointer (some a2)))) FA=some true:=by exact fun _ _=>rfl) (Nz:∀a1 a2:Addr,md.nb (put (put s d1 (.val (.pointer (some a1)))) d2 (.val (.pointer (some a2)))) zl=true:=by exact fun _ _=>rfl):
  aO P n all md (⟨some d1,.indexAddr t x i,ty,pos,after,gd⟩::⟨some d2,.fieldAddr t2 (.tmp d1) f,qH,qI,qJ,my⟩::⟨zl,.load t3 (.tmp d2),Nw,Nx,Ny,FA⟩::r) s H K:=by
 obtain⟨ad,rfl,hc⟩:=hr _ _ hv
 refine tu dZ ht hx hi h0 hm ?_ hg nb
 refine bJ (ad:=ad.add (j.toNat*sz)) dZ gX hf (Jd _ _ _) ?_ (eU _) (xM _)
 refine aZ (ad:=(ad.add (j.toNat*sz)).add o) dZ uy h1 (Jd _ _ _) (by rw[add_add];exact hc) ?_ (o4 _ _) (Nz _ _)
 exact hk _ _
theorem Je{t t2 t3:TypeId}{x i:Operand}{A:Option Addr}{m c d1 d2 f o z:Nat}{zl:Option Nat}{qH Nw:TypeId}{qI Nx:String}{qJ Ny:Array Edge}{my FA:Option (Nat×Bool)}{k:IntKind}{j:Int}{e sz qL pR:Nat}{ps xJ:List (Nat×Nat)}{xs vs:List Value}
  (dZ:kN P tb) (ht:tb[t]? = some (.sl e sz)) (gX:tb[t2]? = some (.st qL ps)) (hf:ps[f]? = some (o,z)) (uy:tb[t3]? = some (.st pR xJ)) (hx:ev s x=some (.slice A m c)) (hi:ev s i=some (.int k j)) (hr:Rd H A xs) (hl:vs.length=pR) (hp:0<pR) (hv:∀(q:Nat)(v:Value),vs[q]? = some v→xs[j.toNat*sz+o+q]? = some v) (h0:0≤j) (hm:j<m)
  (hk:∀a1 a2:Addr,aO P n all md r (aY (put (put s d1 (.val (.pointer (some a1)))) d2 (.val (.pointer (some a2)))) zl (.val (.agg vs.toArray))) H K)
  (hg:cE all s gd=some true:=by rfl) (nb:md.nb s (some d1)=true:=by rfl)
  (eU:∀a1:Addr,cE all (put s d1 (.val (.pointer (some a1)))) my=some true:=by exact fun _=>rfl) (xM:∀a1:Addr,md.nb (put s d1 (.val (.pointer (some a1)))) (some d2)=true:=by exact fun _=>rfl)
  (o4:∀a1 a2:Addr,cE all (put (put s d1 (.val (.pointer (some a1)))) d2 (.val (.pointer (some a2)))) FA=some true:=by exact fun _ _=>rfl) (Nz:∀a1 a2:Addr,md.nb (put (put s d1 (.val (.pointer (some a1)))) d2 (.val (.pointer (some a2)))) zl=true:=by exact fun _ _=>rfl):
  aO P n all md (⟨some d1,.indexAddr t x i,ty,pos,after,gd⟩::⟨some d2,.fieldAddr t2 (.tmp d1) f,qH,qI,qJ,my⟩::⟨zl,.load t3 (.tmp d2),Nw,Nx,Ny,FA⟩::r) s H K:=by
 obtain⟨ad,rfl,hc⟩:=hr _ _ (hv 0 _ (List.getElem?_eq_getElem (by omega)))
 refine tu dZ ht hx hi h0 hm ?_ hg nb
 refine bJ (ad:=ad.add (j.toNat*sz)) dZ gX hf (Jd _ _ _) ?_ (eU _) (xM _)
 refine zU (ad:=(ad.add (j.toNat*sz)).add o) (vs:=vs) dZ uy (Jd _ _ _) hl (fun q v hq=>by
  obtain⟨Pm,h1,h2⟩:=hr _ _ (hv q v hq)
  cases h1
  rw[add_add,add_add,←Nat.add_assoc];exact h2) ?_ (o4 _ _) (Nz _ _)
 exact hk _ _
end
end Go.ay
namespace Go.ay
open Go.Proofs Num Lp
theorem bN.small{N:Nat}{H:Heap}{q:Rat}{f:Bool}{A1 A2:Option Addr}{m1 c1 m2 c2:Nat}(h:bN H (.agg #[.bool f,.slice A1 m1 c1,.slice A2 m2 c2]) q N)(h1:m1≤2)(h2:m2≤2):bN H (.agg #[.bool f,.slice A1 m1 c1,.slice A2 m2 c2]) q 2:=by
 obtain⟨f',u,w,l1,l2,e,k1,k2,k3,k4,k5,k6,k7⟩:=h
 have e':=Bj (vs:=[.bool f,.slice A1 m1 c1,.slice A2 m2 c2]) e
 simp only[List.cons.injEq,and_true]at e'
 obtain⟨e1,e2,e3⟩:=e'
 refine⟨f',u,w,l1,l2,e,k1,k2,k3,k4,?_,?_,k7⟩
 ·obtain⟨A,c,e4,_⟩:=k1
  rw[e4]at e2
  cases e2;exact h1
 ·obtain⟨A,c,e4,_⟩:=k2
  rw[e4]at e3
  cases e3;exact h2
theorem aC.jP{N:Nat}{H:Heap}{xs:List Value}{l:List Rat}(h:bI (aS N H) 3 xs l){i:Nat}{q:Rat}(hq:l[i]? = some q):∃f A1 m1 c1 A2 m2 c2,fA xs i 3 = [.bool f,.slice A1 m1 c1,.slice A2 m2 c2]∧bN H (.agg #[.bool f,.slice A1 m1 c1,.slice A2 m2 c2]) q N∧∀(j:Nat)(u:Value),[.bool f,.slice A1 m1 c1,.slice A2 m2 c2][j]? = some u→xs[i*3+j]? = some u:=by
 have h1:=h.at_ i q hq
 obtain⟨f,A,m,c,A',m',c',e⟩:=aS.cells h1
 refine⟨f,A,m,c,A',m',c',e,?_,fun j u hu=>K2 (by rw[e];exact hu)⟩
 have h2:bN H (.agg (fA xs i 3).toArray) q N:=h1
 rwa [e]at h2
def FB(N:Nat)(H:Heap)(vs:List Value)(ls:List (List Rat)):Prop:=vs.length=ls.length∧∀(i:Nat)(v:Value)(l:List Rat),vs[i]? = some v→ls[i]? = some l→aC (aS N) 3 H v l
theorem Jf{xs:List Value}{k:Nat}{a b c d e:Value}(h:∀(j:Nat)(u:Value),[a,b,c,d,e][j]? = some u→xs[k+j]? = some u):∀(q:Nat)(v:Value),[c,d,e][q]? = some v→xs[k+2+q]? = some v:=fun q v hq=>by
 rw[Nat.add_assoc,Nat.add_comm 2 q];exact h (q+2) v hq
theorem aC.uL{N:Nat}{H:Heap}{xs:List Value}{l:List (List Rat×Int×Rat)}(h:bI (eZ N H) 5 xs l){i:Nat}{r:List Rat×Int×Rat}(hq:l[i]? = some r):∃A0 c0 f A1 m1 c1 A2 m2 c2,fA xs i 5 = [.slice A0 r.1.length c0,.int .i64 r.2.1,.bool f,.slice A1 m1 c1,.slice A2 m2 c2]∧aC (aS N) 3 H (.slice A0 r.1.length c0) r.1∧bN H (.agg #[.bool f,.slice A1 m1 c1,.slice A2 m2 c2]) r.2.2 N∧∀(j:Nat)(u:Value),[.slice A0 r.1.length c0,.int .i64 r.2.1,.bool f,.slice A1 m1 c1,.slice A2 m2 c2][j]? = some u→xs[i*5+j]? = some u:=by
 have h1:=h.at_ i r hq
 obtain⟨A0,c0,k,f,A1,m1,c1,A2,m2,c2,e,hk⟩:=h1.cells
 subst hk
 have h2:=h1
 rw[e]at h2
 obtain⟨c',f',u',w',e',h3,h4⟩:=id h2
 simp only[List.cons.injEq,and_true,true_and]at e'
 obtain⟨rfl,e1,rfl,rfl⟩:=e'
 exact⟨A0,c0,f,A1,m1,c1,A2,m2,c2,e,h3,h2.bound,fun j u hu=>K2 (by rw[e];exact hu)⟩
structure T6(H:Heap)(v:Value)(p:Prg)(n m:Nat):Prop where
 prog:cN 2 H v p
 dR:p.free.length≤n
 rows:p.rows.length≤m
 row:∀(i:Nat)(r:List Rat×Int×Rat),p.rows[i]? = some r→r.1.length≤n
theorem FC{H:Heap}{v:Value}{l:List Rat}{N n:Nat}(hv:aC (aS N) 3 H v l)(hn:n≤1000):
 Fn Tryz.prog 26 #[v,.int .i64 (n:Int)] H (fun v' H'=>H'=H∧∃b,v' = .bool b∧(b=true→l.length≤n∧aC (aS 2) 3 H v l)):=by
 obtain⟨A,c,xs,rfl,tv,hr,hx⟩:=hv;refine aU (args:=[_,_]) Tryz.func26 rfl rfl Tryz.ntmps26 rfl rfl fun w0=> ?_;refine ag [0,1] rfl ?_;refine ae ?_;refine vr 1 ?_;refine ab [0,1] ?_;refine al ?_;refine ae ?_;refine vr 4 ?_;refine ab [0,9] ?_;refine az rfl (fun hb=> ?_) (fun hb=> ?_)
 ·
  skip
  refine ae ?_;refine vr 1 ?_;refine ab [4] ?_;refine aq ⟨.inr rfl,_,.tmp rfl (.nil),?_⟩;exact⟨rfl,false,rfl,fun h=>by cases h⟩
 ·
  have hb:l.length≤n:=by simpa using hb
  refine aw ?_;refine ag [0] rfl ?_;refine al ?_;refine ae ?_;refine vr 3 ?_;refine ab [0,11,12] ?_;refine aD ?_;refine ft (fun(i:Nat)=>l.length-i) (fun(i:Nat)=>put (put (put (emp) 0 (.val (.slice A l.length c))) 11 (.val (.int .i64 (l.length:Int)))) 12 (.val (.int .i64 (i:Int)))) (fun(i:Nat) H'=>H'=H∧(∀(k:Nat)(q:Rat),k<i→l[k]? = some q→aS 2 H (fA xs k 3) q)∧i≤l.length) 0 (⟨rfl,(fun k r h=>by omega),Nat.zero_le _⟩) au ?_;rintro i H1 ⟨e1,cO,hi⟩;rw[e1];refine ae ?_;refine vr 1 ?_;refine ab [0,11,12,13] ?_;refine al ?_;refine az rfl (fun hb=> ?_) (fun hb=> ?_)
  ·
   have cQ:i<l.length:=by simpa using hb
   obtain⟨q,hq⟩:∃q,l[i]? = some q:=⟨_,List.getElem?_eq_getElem cQ⟩;obtain⟨f,A1,m1,c1,A2,m2,c2,eC,eI,gA⟩:=aC.jP hx hq;refine aw ?_;refine ag [0,11,12] rfl ?_;refine al ?_;refine aD ?_;refine ae ?_;refine vr 2 ?_;refine ab [0,5,11,12] ?_;refine ae ?_;refine vr 2 ?_;refine cI af rfl rfl rfl rfl (hr) rfl (by decide) (gA) (by omega) (by omega) fun _=> ?_;refine ar rfl rfl (Nv) ?_;rintro v2 H2 ⟨e2,rfl⟩;rw[e2];refine vr 1 ?_;refine ab [0,11,12,20] ?_;refine az rfl (fun hb=> ?_) (fun hb=> ?_)
   ·
    skip
    refine ae ?_;refine vr 1 ?_;refine ab [4] ?_;refine aq ⟨.inr rfl,_,.tmp rfl (.nil),?_⟩;exact⟨rfl,false,rfl,fun h=>by cases h⟩
   ·
    have eL:m1≤2∧m2≤2:=by simpa using hb
    refine aw ?_;refine ag [0,11,12] rfl ?_;refine aE rfl ?_;refine aN rfl rfl ⟨by omega,by omega⟩ ?_;refine vr 1 ?_;refine aA ?_;exact⟨i+1,by omega,au,rfl,(fun k q9 hk nK=>by by_cases h9:k<i;exact cO k q9 h9 nK;(obtain rfl:k=i:=by omega);rw[hq]at nK;cases nK;show bN _ _ _ _;rw[eC];exact eI.small eL.1 eL.2),by omega⟩
  ·
   have hb:l.length≤i:=by simpa using hb
   refine bB ?_;refine ag [] rfl ?_;refine ae ?_;refine vr 1 ?_;refine ab [4] ?_;refine aq ⟨.inr rfl,_,.tmp rfl (.nil),?_⟩;exact⟨rfl,true,rfl,fun _=>⟨by omega,A,c,xs,rfl,tv,hr,hx.len,fun k q hq=>cO k q (by have h9:=(List.getElem?_eq_some_iff.1 hq).1;omega) hq⟩⟩
theorem T7{H:Heap}{A:Option Addr}{k c:Nat}{vs:List Value}{ls:List (List Rat)}{N m n:Nat}(hr:Rd H A vs)(hk:k=ls.length)(hv:FB N H vs ls)(hn:n≤1000)(hm:m≤1000):
 Fn Tryz.prog 27 #[.slice A k c,.int .i64 (m:Int),.int .i64 (n:Int)] H (fun v' H'=>H'=H∧∃b,v' = .bool b∧(b=true→FB 2 H vs ls∧(∀l,l∈ls→l.length≤n)∧ls.length≤m)):=by
 refine aU (args:=[_,_,_]) Tryz.func27 rfl rfl Tryz.ntmps27 rfl rfl fun w0=> ?_;refine ag [0,1,2] rfl ?_;refine ae ?_;refine vr 1 ?_;refine ab [0,1,2] ?_;refine al ?_;refine ae ?_;refine vr 4 ?_;refine ab [0,2,11] ?_;refine az rfl (fun hb=> ?_) (fun hb=> ?_)
 ·
  skip
  refine ae ?_;refine vr 1 ?_;refine ab [6] ?_;refine aq ⟨.inr rfl,_,.tmp rfl (.nil),?_⟩;exact⟨rfl,false,rfl,fun h=>by cases h⟩
 ·
  have hb:k≤m:=by simpa using hb
  refine aw ?_;refine ag [0,2] rfl ?_;refine al ?_;refine ae ?_;refine vr 3 ?_;refine ab [0,2,13,14] ?_;refine aD ?_;refine ft (fun(i:Nat)=>k-i) (fun(i:Nat)=>put (put (put (put (emp) 0 (.val (.slice A k c))) 2 (.val (.int .i64 (n:Int)))) 13 (.val (.int .i64 (k:Int)))) 14 (.val (.int .i64 (i:Int)))) (fun(i:Nat) H'=>H'=H∧(∀(j:Nat)(v:Value)(l:List Rat),j<i→vs[j]? = some v→ls[j]? = some l→l.length≤n∧aC (aS 2) 3 H v l)∧i≤k) 0 (⟨rfl,(fun j v l h=>by omega),Nat.zero_le _⟩) au ?_;rintro i H1 ⟨e1,cO,hi⟩;rw[e1];refine ae ?_;refine vr 1 ?_;refine ab [0,2,13,14,15] ?_;refine al ?_;refine az rfl (fun hb=> ?_) (fun hb=> ?_)
  ·
   have cQ:i<k:=by simpa using hb
   obtain⟨l,hle⟩:∃l,ls[i]? = some l:=⟨_,List.getElem?_eq_getElem (by omega)⟩;obtain⟨v,Aw⟩:∃v,vs[i]? = some v:=⟨_,List.getElem?_eq_getElem (by rw[hv.1];omega)⟩;have dS:=hv.2 i v l Aw hle;obtain⟨A0,c0,oA,rfl,h0⟩:=id dS;refine aw ?_;refine ag [0,2,13,14] rfl ?_;refine al ?_;refine aD ?_;refine ae ?_;refine vr 2 ?_;refine ab [0,2,7,13,14] ?_;refine ae ?_;refine vr 2 ?_;refine a6 af rfl rfl rfl rfl rfl (hr) (Aw) (by omega) (by omega) fun _=> ?_;refine vr 1 ?_;refine ar rfl rfl (FC dS hn) ?_;rintro v2 H2 ⟨e2,b2,rfl,aW⟩;rw[e2];refine vr 1 ?_;refine ab [0,2,13,14,23] ?_;refine az rfl (fun hb=> ?_) (fun hb=> ?_)
   ·
    skip
    refine ae ?_;refine vr 1 ?_;refine ab [6] ?_;refine aq ⟨.inr rfl,_,.tmp rfl (.nil),?_⟩;exact⟨rfl,false,rfl,fun h=>by cases h⟩
   ·
    have jK:b2=true:=by simpa using hb
    refine aw ?_;refine ag [0,2,13,14] rfl ?_;refine aE rfl ?_;refine aN rfl rfl ⟨by omega,by omega⟩ ?_;refine vr 1 ?_;refine aA ?_;exact⟨i+1,by omega,au,rfl,(fun j v9 l9 hj ES gJ=>by by_cases h9:j<i;exact cO j v9 l9 h9 ES gJ;(obtain rfl:j=i:=by omega);rw[Aw]at ES;rw[hle]at gJ;cases ES;cases gJ;exact aW jK),by omega⟩
  ·
   have hb:k≤i:=by simpa using hb
   refine bB ?_;refine ag [] rfl ?_;refine ae ?_;refine vr 1 ?_;refine ab [6] ?_;refine aq ⟨.inr rfl,_,.tmp rfl (.nil),?_⟩
   exact⟨rfl,true,rfl,fun _=>⟨⟨hv.1,fun j v l h1 h2=>(cO j v l (by have h9:=(List.getElem?_eq_some_iff.1 h2).1;omega) h1 h2).2⟩,(fun l hl=>by
    obtain⟨j,hj⟩:=List.getElem?_of_mem hl;have h9:=(List.getElem?_eq_some_iff.1 hj).1
    exact(cO j _ l (by omega) (List.getElem?_eq_getElem (by rw[hv.1];omega)) hj).1),by omega⟩⟩
theorem adZ{H:Heap}{v:Value}{p:Prg}{N n m:Nat}(hp:cN N H v p)(hn:n≤1000)(hm:m≤1000):
 Fn Tryz.prog 82 #[v,.int .i64 (n:Int),.int .i64 (m:Int)] H (fun v' H'=>H'=H∧∃b,v' = .bool b∧(b=true→T6 H v p n m)):=by
 obtain⟨fv,fG,rfl,cB,cF⟩:=id hp
 obtain⟨Af,cf,xf,rfl,ea,eH⟩:=cB.one
 obtain⟨Ar,cr,xr,rfl,fO,cL,du⟩:=cF;refine aU (args:=[_,_,_]) Tryz.func82 rfl rfl Tryz.ntmps82 rfl rfl fun w0=> ?_;refine ag [0,1,2] rfl ?_;refine ae ?_;refine bF rfl rfl ?_;refine vr 1 ?_;refine ab [1,2,3] ?_;refine al ?_
 by_cases h1:(n:Int)<(p.free.length:Int)
 ·
  skip
  refine ae ?_;refine vr 4 ?_;refine ax true rfl rfl (iG h1) ?_;refine vr 7 ?_;refine ab [1,3,19] ?_;refine cD rfl ?_;refine ae ?_;refine vr 1 ?_;refine ab [6] ?_;refine aq ⟨.inr rfl,_,.tmp rfl (.nil),?_⟩;exact⟨rfl,false,rfl,fun h=>by cases h⟩
 ·
  skip
  by_cases h2:(m:Int)<(p.rows.length:Int)
  ·
   skip
   refine ae ?_;refine vr 4 ?_;refine ax false rfl rfl (fN (by omega)) ?_;refine vr 5 ?_;refine ax true rfl rfl (iG h2) ?_;refine vr 1 ?_;refine ab [1,3,19] ?_;refine cD rfl ?_;refine ae ?_;refine vr 1 ?_;refine ab [6] ?_;refine aq ⟨.inr rfl,_,.tmp rfl (.nil),?_⟩;exact⟨rfl,false,rfl,fun h=>by cases h⟩
  ·
   skip
   refine ae ?_;refine vr 4 ?_;refine ax false rfl rfl (fN (by omega)) ?_;refine vr 5 ?_;refine ax false rfl rfl (fN (by omega)) ?_;refine vr 1 ?_;refine ab [1,3,19] ?_;refine dg rfl ?_;refine aw ?_;refine ag [1,3] rfl ?_;refine al ?_;refine ae ?_;refine vr 4 ?_;refine ab [1,3,22,23] ?_;refine aD ?_;refine ft (fun(i:Nat)=>p.rows.length-i) (fun(i:Nat)=>put (put (put (put (emp) 1 (.val (.int .i64 (n:Int)))) 3 (.box [.slice Af p.free.length cf,.slice Ar p.rows.length cr])) 22 (.val (.int .i64 (p.rows.length:Int)))) 23 (.val (.int .i64 (i:Int)))) (fun(i:Nat) H'=>H'=H∧(∀(k:Nat)(r:List Rat×Int×Rat),k<i→p.rows[k]? = some r→r.1.length≤n∧eZ 2 H (fA xr k 5) r)∧i≤p.rows.length) 0 (⟨rfl,(fun k r h=>by omega),Nat.zero_le _⟩) au ?_;rintro i H1 ⟨e1,cO,hi⟩;rw[e1];refine ae ?_;refine vr 1 ?_;refine ab [1,3,22,23,24] ?_;refine al ?_;refine az rfl (fun hb=> ?_) (fun hb=> ?_)
   ·
    have cQ:i<p.rows.length:=by simpa using hb
    obtain⟨r,hr⟩:∃r,p.rows[i]? = some r:=⟨_,List.getElem?_eq_getElem cQ⟩;obtain⟨A0,c0,f,A1,m1,c1,A2,m2,c2,eC,dS,eI,dL⟩:=aC.uL du hr;refine aw ?_;refine ag [1,3,22,23] rfl ?_;refine al ?_;refine aD ?_;refine ae ?_;refine vr 2 ?_;refine ab [1,3,7,22,23] ?_;refine ae ?_;refine vr 3 ?_;refine ml af rfl rfl rfl rfl rfl rfl rfl (cL) (dL 0 _ rfl) (by omega) (by omega) fun _ _=> ?_;refine vr 1 ?_;refine ar rfl rfl (FC dS hn) ?_;rintro v2 H2 ⟨e2,b2,rfl,aW⟩;rw[e2]
    cases b2
    ·
     skip
     refine vr 11 ?_;refine ab [1,3,22,23,44] ?_;refine cD rfl ?_;refine ae ?_;refine vr 1 ?_;refine ab [6] ?_;refine aq ⟨.inr rfl,_,.tmp rfl (.nil),?_⟩;exact⟨rfl,false,rfl,fun h=>by cases h⟩
    ·
     skip
     refine vr 5 ?_;refine Je af rfl rfl rfl rfl rfl rfl (cL) rfl (by decide) (Jf dL) (by omega) (by omega) fun _ _=> ?_;refine ar rfl rfl (Nv) ?_;rintro v3 H3 ⟨e3,rfl⟩;rw[e3];refine vr 2 ?_;refine ab [1,3,22,23,44] ?_;refine az rfl (fun hb=> ?_) (fun hb=> ?_)
     ·
      skip
      refine ae ?_;refine vr 1 ?_;refine ab [6] ?_;refine aq ⟨.inr rfl,_,.tmp rfl (.nil),?_⟩;exact⟨rfl,false,rfl,fun h=>by cases h⟩
     ·
      have h3:m1≤2∧m2≤2:=by simpa using hb
      refine aw ?_;refine ag [1,3,22,23] rfl ?_;refine aE rfl ?_;refine aN rfl rfl ⟨by omega,by omega⟩ ?_;refine vr 1 ?_;refine aA ?_;exact⟨i+1,by omega,au,rfl,(fun k r9 hk j9=>by by_cases h9:k<i;exact cO k r9 h9 j9;(obtain rfl:k=i:=by omega);rw[hr]at j9;cases j9;exact⟨(aW rfl).1,_,_,_,_,eC,(aW rfl).2,eI.small h3.1 h3.2⟩),by omega⟩
   ·
    have hb:p.rows.length≤i:=by simpa using hb
    refine bB ?_;refine ag [] rfl ?_;refine ae ?_;refine vr 1 ?_;refine ab [6] ?_;refine aq ⟨.inr rfl,_,.tmp rfl (.nil),?_⟩;exact⟨rfl,true,rfl,fun _=>⟨⟨_,_,rfl,cB,Ar,cr,xr,rfl,fO,cL,du.len,fun k r hr=>(cO k r (by have h9:=(List.getElem?_eq_some_iff.1 hr).1;omega) hr).2⟩,by omega,by omega,fun k r hr=>(cO k r (by have h9:=(List.getElem?_eq_some_iff.1 hr).1;omega) hr).1⟩⟩
end Go.ay
namespace Go.ay
open Go.Proofs Num Lp
theorem aC.ec{N:Nat}{H:Heap}{v:Value}{l:List Rat}(h:aC (aS N) 3 H v l):∀q,q∈l→aJ q≤N+2:=fun q hq=>by
 obtain⟨A,cc,xs,_,_,_,h4⟩:=h
 obtain⟨k,hk⟩:=List.getElem?_of_mem hq
 exact bN.size (h4.at_ k q hk)
theorem lI{l:List Rat}{j:Nat}(h:j<l.length):fn l j∈l:=by
 rw[gq (List.getElem?_eq_getElem h)];exact List.getElem_mem h
theorem B7(f:Bool)(A A':Option Addr)(k c k' c':Nat):∀u,u∈[Value.bool f,.slice A k c,.slice A' k' c']→u.oneCell'=true:=fun u hu=>by
 simp only[List.mem_cons,List.not_mem_nil,or_false]at hu
 rcases hu with rfl | rfl | rfl <;> rfl
theorem NA{α:Type}{P:List Value→α→Prop}{sz:Nat}{vs xs:List Value}{a:α}{l:List α}(h:P vs a)(hl:vs.length=sz)(k:bI P sz xs l):bI P sz (vs++xs) (a::l):=(jn h hl).append k
theorem aC.B8{H:Heap}{v:Value}{l:List Rat}{N:Nat}(h:aC gI 3 H v l)(hs:∀q,q∈l→aJ q≤N):aC (aS N) 3 H v l:=by
 obtain⟨A,c,xs,h1,h2,h3,h4⟩:=h
 exact⟨A,c,xs,h1,h2,h3,h4.len,fun i a ha=>gI.rat (h4.at_ i a ha) (hs a (List.mem_of_getElem? ha))⟩
theorem aC.mono{α:Type}{P P':Heap→List Value→α→Prop}{sz:Nat}{H:Heap}{v:Value}{l:List α}(h:aC P sz H v l)(hp:∀vs a,P H vs a→P' H vs a):aC P' sz H v l:=by
 obtain⟨A,c,xs,h1,h2,h3,h4⟩:=h
 exact⟨A,c,xs,h1,h2,h3,h4.mono hp⟩
theorem aS.mono{N M:Nat}{H:Heap}{vs:List Value}{q:Rat}(h:aS N H vs q)(hl:N≤M):aS M H vs q:=bN.mono h hl
theorem cN.mono{N M:Nat}{H:Heap}{v:Value}{p:Prg}(h:cN N H v p)(hl:N≤M):cN M H v p:=by
 obtain⟨fv,rv,h1,h2,h3⟩:=h
 exact⟨fv,rv,h1,h2,h3.mono fun vs r ⟨c,f,u,w,k1,k2,k3⟩=>⟨c,f,u,w,k1,k2.mono fun _ _ h=>h.mono hl,k3.mono hl⟩⟩
theorem ad0(q:Rat):gQ q q=0:=by unfold gQ;simp
theorem NB{k:Nat}:∀{l:List Rat},(∀q,q∈l→ao.wt q≤k)→ao.dt l≤l.length*k
 | [],_=>Nat.zero_le _
 | q::l,h=>by
  have h1:=h q (List.mem_cons_self ..)
  have h2:=NB (l:=l) fun r hr=>h r (List.mem_cons_of_mem _ hr)
  simp only[ao.dt,List.length_cons,Nat.add_mul];omega
theorem cN.ec{N:Nat}{H:Heap}{v:Value}{p:Prg}(h:cN N H v p):∀r,r∈p.rows→(∀q,q∈r.1→aJ q≤N+2)∧aJ r.2.2≤N+2:=fun r hr=>by
 obtain⟨fv,rv,_,_,h3⟩:=h
 obtain⟨A,c,xs,_,_,_,h4⟩:=h3
 obtain⟨i,hi⟩:=List.getElem?_of_mem hr
 obtain⟨c',f,u,w,_,k2,k3⟩:=h4.at_ i r hi
 exact⟨k2.ec,bN.size k3⟩
theorem NC{H:Heap}{N:Nat}:bN H (.agg #[.bool false,.slice none 0 0,.slice none 0 0]) 0 N:=
 ⟨false,_,_,[],[],rfl,⟨none,0,rfl,Nat.le_refl _,Rd.nil _ _⟩,⟨none,0,rfl,Nat.le_refl _,Rd.nil _ _⟩,(fun x h=>by cases h),(fun x h=>by cases h),Nat.zero_le _,Nat.zero_le _,by decide⟩
theorem eZ.T9{N:Nat}{H:Heap}{r:List Rat×Int×Rat}{v0:Value}{f:Bool}{u w:Value}(h:eZ N H [v0,.int .i64 r.2.1,.bool f,u,w] r):aC (aS N) 3 H v0 r.1:=by
 obtain⟨c,f',u',w',h1,h2,_⟩:=h
 simp only[List.cons.injEq]at h1
 rw[h1.1];exact h2
theorem eZ.size{N:Nat}{H:Heap}{r:List Rat×Int×Rat}{vs:List Value}(h:eZ N H vs r):∀q,q∈r.1→aJ q≤N+2:=fun q hq=>by
 obtain⟨c,f',u',w',_,⟨A,cc,xs,_,_,_,h4⟩,_⟩:=h
 obtain⟨k,hk⟩:=List.getElem?_of_mem hq
 exact bN.size (h4.at_ k q hk)
theorem sZ{M:Nat}(n:Nat)(a b:Nat→Rat)(ha:∀j,j<n→aJ (a j)≤M)(hb:∀j,j<n→aJ (b j)≤M):aJ (aX n a b)≤n*(2*M+2)+1:=by
 unfold aX
 induction n with
 | zero=>rw[vW,Nat.zero_mul];exact(show aJ (0:Rat)≤1 by decide)
 | succ n ih=>
  rw[fJ,Nat.succ_mul]
  have h1:=Du (aV n (fun j=>a j*b j)) (a n*b n)
  have h2:=nx (a n) (b n)
  have h3:=ih (fun j hj=>ha j (by omega)) (fun j hj=>hb j (by omega))
  have h4:=ha n (by omega)
  have h5:=hb n (by omega)
  omega
theorem aC.rat{N:Nat}{H:Heap}{v:Value}{l:List Rat}(h:aC (aS N) 3 H v l):∃A c xs,v = .slice A l.length c∧Rd H A xs∧∀(i:Nat)(q:Rat),l[i]? = some q→∃f A1 m1 c1 A2 m2 c2,bN H (.agg #[.bool f,.slice A1 m1 c1,.slice A2 m2 c2]) q N∧∀(j:Nat)(u:Value),[.bool f,.slice A1 m1 c1,.slice A2 m2 c2][j]? = some u→xs[i*3+j]? = some u:=by
 obtain⟨A,c,xs,h1,_,h3,h4⟩:=h
 refine⟨A,c,xs,h1,h3,fun i q hq=> ?_⟩
 obtain⟨vs,_,h5,h6⟩:=h4.get hq
 obtain⟨f,u,w,l1,l2,k1,k2,k3,_⟩:=id h5
 obtain⟨A1,c1,rfl,_⟩:=k2
 obtain⟨A2,c2,rfl,_⟩:=k3
 obtain rfl:=Bj k1
 exact⟨f,_,_,_,_,_,_,h5,h6⟩
def oO(p:Prg)(y:List Rat)(i j:Nat):Rat:=aV i (fun k=>fn y k*p.lp.a k j)
def wX(p:Prg)(y:List Rat)(i:Nat):Rat:=aV i (fun k=>fn y k*p.lp.b k)
theorem Ua(p:Prg)(y:List Rat)(i j:Nat):oO p y (i+1) j=oO p y i j+fn y i*p.lp.a i j:=rfl
theorem Ub(p:Prg)(y:List Rat)(i:Nat):wX p y (i+1)=wX p y i+fn y i*p.lp.b i:=rfl
theorem Prg.Uc{p:Prg}{M:Nat}(h:∀(i:Nat)(r:List Rat×Int×Rat),p.rows[i]? = some r→∀q,q∈r.1→aJ q≤M)(h1:1≤M)(k j:Nat)(hk:k<p.rows.length):aJ (p.lp.a k j)≤M:=by
 show aJ (fn (p.row k).1 j)≤M
 rw[Prg.gu (List.getElem?_eq_getElem hk)]
 by_cases hj:j<(p.rows[k]).1.length
 ·exact h k _ (List.getElem?_eq_getElem hk) _ (lI hj)
 ·rw[QY (by omega)];exact Nat.le_trans (show aJ (0:Rat)≤1 by decide) h1
theorem Fn.yes{P:Program}{f:FuncId}{args:Array Value}{H:Heap}{Q:Prop}(h:Fn P f args H (fun v H'=>Heap.le H H'∧∃b,v = .bool b∧(b=true↔Q)))(hq:Q):Fn P f args H (fun v H'=>Heap.le H H'∧v = .bool true):=
 h.mono fun v H' ⟨h1,b,h2,h3⟩=>⟨h1,by rw[h2,h3.2 hq]⟩
theorem Fn.no{P:Program}{f:FuncId}{args:Array Value}{H:Heap}{Q:Prop}(h:Fn P f args H (fun v H'=>Heap.le H H'∧∃b,v = .bool b∧(b=true↔Q)))(hq:¬Q):Fn P f args H (fun v H'=>Heap.le H H'∧v = .bool false):=
 h.mono fun v H' ⟨h1,b,h2,h3⟩=>⟨h1,by
  cases b with
  | false=>exact h2
  | true=>exact absurd (h3.1 rfl) hq⟩
structure RC where
 f:Bool
 A1:Option Addr
 m1:Nat
 c1:Nat
 A2:Option Addr
 m2:Nat
 c2:Nat
abbrev RC.v(t:RC):Value:= .agg #[.bool t.f,.slice t.A1 t.m1 t.c1,.slice t.A2 t.m2 t.c2]
theorem cJ.rc{H:Heap}{v:Value}{q:Rat}(h:cJ H v q):∃t:RC,v=t.v:=by
 obtain⟨u,w,rfl,hu,hw⟩:=h
 obtain⟨A1,c1,rfl,_⟩:=id hu
 obtain⟨A2,c2,rfl,_⟩:=id hw
 exact⟨⟨_,A1,_,c1,A2,_,c2⟩,rfl⟩
def B9(H:Heap)(q:Rat)(v:Value)(H':Heap):Prop:=Heap.le H H'∧∃t:RC,v=t.v∧cJ H' t.v q
theorem B9.le{H H':Heap}{q:Rat}{v:Value}(h:B9 H q v H'):Heap.le H H':=h.1
theorem Fn.rc{P:Program}{f:FuncId}{args:Array Value}{H:Heap}{q:Rat}(h:Fn P f args H (jZ H q)):Fn P f args H (B9 H q):=h.mono fun v H' ⟨h1,h2⟩=>by
 obtain⟨t,rfl⟩:=h2.rc
 exact⟨h1,t,rfl,h2⟩
theorem Ud{p q:Rat}:gQ p q≤0↔p≤q:=by unfold gQ;split;(constructor <;> intro <;> grind);split;(constructor <;> intro <;> grind);(constructor <;> intro <;> grind)
theorem ND{p q:Rat}:0≤gQ p q↔q≤p:=by unfold gQ;split;(constructor <;> intro <;> grind);split;(constructor <;> intro <;> grind);(constructor <;> intro <;> grind)
theorem Ca{p q:Rat}:gQ p q=0↔p=q:=by unfold gQ;split;(constructor <;> intro <;> grind);split;(constructor <;> intro <;> grind);(constructor <;> intro <;> grind)
theorem cN.ad1{N:Nat}{H:Heap}{v:Value}{p:Prg}(h:cN N H v p):∃Af cf Ar cr,v = .agg #[.slice Af p.free.length cf,.slice Ar p.rows.length cr]:=by
 obtain⟨fv,rv,rfl,⟨Af,cf,_,rfl,_⟩,Ar,cr,_,rfl,_⟩:=h
 exact⟨Af,cf,Ar,cr,rfl⟩
end Go.ay
namespace Go.ay
open Go.Proofs Num Lp
structure eA{α:Type}(P:Heap→List Value→α→Prop)(e sz:Nat)(Hb H:Heap)(v:Value)(l:List α)(xs:List Value):Prop where
 own:bU H v e sz l.length xs
 ka:bI (P (rem H (aB v))) sz xs l
 base:Heap.le Hb (rem H (aB v))
section
variable {α:Type} {P:Heap→List Value→α→Prop} {e sz:Nat} {Hb H H':Heap} {v v':Value} {l:List α} {xs:List Value}
theorem eA.le(h:eA P e sz Hb H v l xs):Heap.le Hb H:=h.base.trans (bG _ _)
theorem eA.sl(h:eA P e sz Hb H v l xs)(up:Up P):aC P sz H v l:=vT.sl ⟨xs,h.own,h.ka.mono fun vs a=>up _ _ vs a (bG _ _)⟩
theorem rC:aB (.slice none 0 0) = []:=rfl
theorem Cb(H:Heap):eA P e sz H H (.slice none 0 0) [] []:=⟨oY H e sz,tS,by rw[rC,gn];exact .refl _⟩
theorem ad2{g c:Nat}{zs:List Value}{z k:Int}(hg:H g=none)(hz:z.toNat=0)(hk:k.toNat=c)(hc:c≤maxLen):eA P e sz H (ins H g ⟨de zs (z.toNat*sz),k.toNat*sz,e,true⟩) (.slice (some ⟨g,0,none⟩) z.toNat k.toNat) [] []:=by
 rw[hk]
 refine⟨GO hz hc,tS,?_⟩
 show Heap.le H (rem _ [g])
 rw[se _ hg,gn];exact .refl _
theorem eA.mQ(h:eA P e sz Hb H v l xs):∀q,q∈aB v→H q≠none:=fun q hq=>by
 obtain⟨en,he⟩:=h.own.block (cV.1 hq)
 rw[he];simp
theorem eA.step(h:eA P e sz Hb H v l xs)(up:Up P)(hs:∀q,q∈aB v→H' q=H q)(hl:Heap.le (rem H (aB v)) (rem H' (aB v))):eA P e sz Hb H' v l xs:=
 ⟨h.own.same fun q hq=>hs q (cV.2 hq),h.ka.mono fun vs a=>up _ _ vs a hl,h.base.trans hl⟩
theorem eA.mm(h:eA P e sz Hb H v l xs)(up:Up P){bt:Value→Heap→Prop}{u:Value}(hf:vS (aB v) bt H u H')(hl:∀v' K,bt v' K→Heap.le (rem H (aB v)) K):eA P e sz Hb H' v l xs:=h.step up hf.same (hl _ _ hf.post)
theorem eA.ins(h:eA P e sz Hb H v l xs)(up:Up P){g:Nat}(en:aQ)(hg:H g=none):eA P e sz Hb (ins H g en) v l xs:=by
 have hn:¬g∈aB v:=fun hm=>h.mQ g hm hg
 refine h.step up (fun q hq=>bP _ _ fun e=>hn (e▸hq)) ?_
 rw[tR _ hn]
 exact Heap.bC _ (by rw[bY hn];exact hg)
theorem eA.call(h:eA P e sz Hb H v l xs){Q:Program}{f:FuncId}{args:Array Value}{bt:Value→Heap→Prop}(hc:Fn Q f args (rem H (aB v)) bt):Fn Q f args H (vS (aB v) bt H):=Fn.frame h.mQ hc
theorem eA.append(h:eA P e sz Hb H v l xs)(up:Up P){m:Nat}{ys:List Value}{k:List α}(hm:m=l.length+k.length)(ha:App H v e sz m (xs++ys) v' H')(hy:bI (P (rem H (aB v))) sz ys k):eA P e sz Hb H' v' (l++k) (xs++ys):=by
 have hl:Heap.le (rem H (aB v)) (rem H' (aB v')):=fun q en hq=>by
  by_cases hm:q∈aB v
  ·rw[rem_in hm]at hq;cases hq
  ·rw[bY hm]at hq
   have h1:=ha.same q en hq fun e=>hm (cV.2 e)
   have h2:¬q∈aB v':=fun h2=>by
    have h3:=cV.1 h2
    rcases ha.at_ with h4 | ⟨g,h4,h5⟩
    ·exact hm (cV.2 (h4▸h3))
    ·rw[h4]at h3;cases h3;rw[h5]at hq;cases hq
   exact⟨en,by rw[bY h2];exact h1,.refl _⟩
 refine⟨by rw[List.length_append,←hm];exact ha.own,?_,h.base.trans hl⟩
 exact(h.ka.mono fun vs a=>up _ _ vs a hl).append (hy.mono fun vs a=>up _ _ vs a hl)
theorem eA.form(h:eA P e sz Hb H v l xs):∃A c,v = .slice A l.length c:=h.own.form
end
theorem eA.zm{α:Type}{P:Heap→List Value→α→Prop}{e sz:Nat}{Hb H:Heap}{v:Value}{l:List α}{xs:List Value}(h:eA P e sz Hb H v l xs):eA P e sz (rem H (aB v)) H v l xs:=⟨h.own,h.ka,.refl _⟩
theorem eA.down{α:Type}{P:Heap→List Value→α→Prop}{e sz:Nat}{Hb Hc H:Heap}{v:Value}{l:List α}{xs:List Value}(h:eA P e sz Hb H v l xs)(hl:Heap.le Hc Hb):eA P e sz Hc H v l xs:=⟨h.own,h.ka,hl.trans h.base⟩
theorem FD(A0:Option Addr)(k0 c0:Nat)(z:Int)(f:Bool)(A A':Option Addr)(k c k' c':Nat):∀u,u∈[Value.slice A0 k0 c0,.int .i64 z,.bool f,.slice A k c,.slice A' k' c']→u.oneCell'=true:=fun u hu=>by
 simp only[List.mem_cons,List.not_mem_nil,or_false]at hu
 rcases hu with rfl | rfl | rfl | rfl | rfl <;> rfl
theorem tms{α β:Type}{f:α→β}{l:List α}{k:Nat}{z:α}(h:l[k]? = some z):(l.take (k+1)).map f=(l.take k).map f ++ [f z]:=by
 rw[List.take_add_one,h,List.map_append];rfl
theorem cJ.form{H:Heap}{v:Value}{q:Rat}(h:cJ H v q):∃f A1 m1 c1 A2 m2 c2,v = .agg #[.bool f,.slice A1 m1 c1,.slice A2 m2 c2]:=by
 obtain⟨u,w,rfl,hu,hw⟩:=h
 obtain⟨A1,c1,rfl,_⟩:=id hu
 obtain⟨A2,c2,rfl,_⟩:=id hw
 exact⟨_,_,_,_,_,_,_,rfl⟩
theorem Cc{α:Type}{l:List α}{k:Nat}{z:α}(h:l[k]? = some z):l.take (k+1)=l.take k ++ [z]:=by rw[List.take_add_one,h];rfl
end Go.ay
namespace Go.ay
open Go.Proofs Num Lp Go.RowKit
def gL(w:World):Heap:=fun g=>match w.heap[g]? with | some (.cells c t _)=>some ⟨c.toList,c.size,t,false⟩ | _=>none
theorem ad3{w:World}{g:Nat}{c:Array Value}{t:TypeId}{fz:Nat×Nat}(h:w.heap[g]? = some (.cells c t fz)):gL w g=some ⟨c.toList,c.size,t,false⟩:=by simp[gL,h]
theorem Ue{w:World}{g:Nat}{e:aQ}(h:gL w g=some e):∃c t fz,w.heap[g]? = some (.cells c t fz)∧e=⟨c.toList,c.size,t,false⟩:=by
 unfold gL at h
 split at h
 ·rename_i c t fz hc
  exact⟨c,t,fz,hc,by simpa using h.symm⟩
 ·cases h
theorem ad4(w:World):Den (gL w) w:=fun g e h=>by
 obtain⟨c,t,fz,h1,rfl⟩:=Ue h
 exact⟨_,h1,c,fz,rfl,rfl,(fun i v hv=>by simpa using hv),fun h=>by cases h⟩
theorem ad5{w:World}{a:Addr}{v:Value}(h:w.cell? a=some v):cell (gL w) a=some v:=by
 unfold World.cell? at h
 unfold cell
 cases hg:w.heap[a.block]? with
 | none=>rw[hg]at h;simp at h
 | some o=>
  cases o with
  | cells c t fz=>
   rw[ad3 hg]
   rw[hg]at h
   simpa using h
  | _=>rw[hg]at h;simp at h
theorem ad6{w w':World}{H':Heap}(hle:Heap.le (gL w) H')(hd:Den H' w')(hf:Fx (gL w) w H' w'):Below w.heap.size w w':=by
 refine⟨hf.os,hf.tape,hf.output,hf.size,fun k hk=> ?_⟩
 cases hg:gL w k with
 | none=>exact(hf.keep k hk hg).1
 | some e=>
  obtain⟨c,t,fz,h1,rfl⟩:=Ue hg
  obtain⟨e',h2,h3⟩:=hle k _ hg
  obtain⟨o,h4,c1,Xo,rfl,h5,h6,_⟩:=hd k e' h2
  obtain⟨c2,h7,h8⟩:=hf.form k c t fz h1
  rw[h4]at h7
  simp only[Option.some.injEq,Obj.cells.injEq]at h7
  obtain⟨rfl,h9,rfl⟩:=h7
  rw[h4,h1,h9]
  have:c1=c:=by
   apply Array.ext_getElem?
   intro i
   by_cases hi:i<c.size
   ·have iV:e'.xs[i]? = some c[i]:=JT h3.2.2.2 (by simp[hi])
    rw[h6 i _ iV];simp[hi]
   ·rw[Array.getElem?_eq_none (by omega),Array.getElem?_eq_none (by omega)]
  rw[this]
theorem Fn.law{P:Program}{f:FuncId}{args:Array Value}{w:World}(h:Fn P f args (gL w) (fun v H'=>Heap.le (gL w) H'∧v = .bool true)):Calls P f args w fun e w'=>e = .returned (.bool true)∧Below w.heap.size w w':=
 (h.run w (ad4 w)).mono fun _ _ ⟨v,he,H',⟨h1,h2⟩,h3,h4⟩=>⟨by rw[he,h2],ad6 h1 h3 h4⟩
section
variable {Hy:Type} {enc:TypeId×Value→Hy} {P:Program} {w:World} {spare:Nat→Bool} {held:Bool}
theorem ad7{α:Type}{Q:List Value→α→Prop}{sz:Nat}{xs cs:List Value}{l:List α}{b:α}(h:bI Q sz xs l)(hb:Q cs b)(hl:cs.length=sz):bI Q sz (xs++cs) (l ++ [b]):=h.append (jn hb hl)
theorem ad8{H:Heap}{a:Addr}{xs cs:List Value}(h:Rd H (some a) xs)(k:∀i v,cs[i]? = some v→cell H (a.add (xs.length+i))=some v):Rd H (some a) (xs++cs):=fun i v hv=>by
 by_cases hi:i<xs.length
 ·rw[List.getElem?_append_left hi]at hv;exact h i v hv
 ·rw[List.getElem?_append_right (by omega)]at hv
  have:=k _ _ hv
  rw[show xs.length+(i-xs.length)=i by omega]at this
  exact⟨a,rfl,this⟩
theorem FE{α:Type}{Q:Heap→List Value→α→Prop}{t e sz:Nat}(ht:P.underlying t=some (.slice e))(hc:P.cellsOf e=sz)(hp:0<sz)(hq:∀n cs x,cs.length=sz→DataW.trod enc P w 0 spare held n e cs=some x→∃a,Q (gL w) cs a)
  {n:Nat} {cs:List Value} {x:DataW Hy×List MemPlace} (h:DataW.trod enc P w 0 spare held n t cs=some x):∃v l,cs = [v]∧aC Q sz (gL w) v (l:List α)∧l.length≤maxLen:=by
 rcases Deep.open_slice ht h with ⟨rfl,_⟩ | ⟨a,len,cap,m,n',D,Pl,rfl,_,hl,hm,hmm,_,hx⟩
 ·exact⟨_,[],rfl,jB,Nat.zero_le _⟩
 ·have M1:len≤m:=by rw[hmm];split <;> omega
  rw[hc]at hx
  have key:∀k,k≤len→∃xs l,l.length=k∧bI (Q (gL w)) sz xs (l:List α)∧Rd (gL w) (some a) xs:=by
   intro k
   induction k with
   | zero=>exact fun _=>⟨[],[],rfl,tS,Rd.nil _ _⟩
   | succ k ih=>
    intro hk
    obtain⟨xs,l,h1,h2,h3⟩:=ih (by omega)
    obtain⟨cG,h4,h5⟩:=hx k (by omega)
    obtain⟨_,h6,h7⟩:=World.cells?_some h4
    obtain⟨b,hb⟩:=hq _ _ _ h6 h5
    refine⟨xs++cG,l ++ [b],by simp[h1],ad7 h2 hb h6,ad8 h3 fun i v hv=> ?_⟩
    have hi:=(List.getElem?_eq_some_iff.1 hv).1
    have h8:=h7 i (by omega)
    rw[hv,add_add]at h8
    rw[h2.len,h1];exact ad5 h8
  obtain⟨xs,l,h1,h2,h3⟩:=key len (Nat.le_refl _)
  refine⟨_,l,rfl,⟨some a,cap,xs,by rw[h1],by omega,h3,h2⟩,by omega⟩
theorem wf_u32{z:Int}(h:(Lit.int .u32 z).wf=true):0≤z∧z<4294967296:=by
 simp[Lit.wf,IntKind.min,IntKind.max,IntKind.signed,IntKind.bits]at h;omega
theorem Uf{t e:Nat}(ht:P.underlying t=some (.slice e))(he:P.underlying e=some (.int .u32))(hc:P.cellsOf e=1){n:Nat}{cs:List Value}{x:DataW Hy×List MemPlace}(h:DataW.trod enc P w 0 spare held n t cs=some x):
  ∃v l,cs = [v]∧iH (gL w) v l∧(∀y,y∈l→y<4294967296)∧l.length≤maxLen:=by
 obtain⟨v,l,rfl,⟨A,c,xs,rfl,h2,h3,h4⟩,h5⟩:=FE (α:=Nat) (Q:=fun _ vs a=>vs = [.int .u32 (Int.ofNat a)]∧a<4294967296) ht hc (by decide) (fun n cs x hl h=>by
  obtain⟨z,rfl,_,hz⟩:=DataW.trod_int he h
  obtain⟨h1,h2⟩:=wf_u32 hz
  exact⟨z.toNat,by rw[show Int.ofNat z.toNat=z from Int.toNat_of_nonneg h1],by omega⟩) h
 refine⟨_,l,rfl,⟨A,c,rfl,h2,?_⟩,fun y hy=> ?_,h5⟩
 ·have:xs=U l:=by
   apply List.ext_getElem?
   intro i
   by_cases hi:i<l.length
   ·obtain⟨u,h6,h7⟩:=h4.one (List.getElem?_eq_getElem hi)
    rw[h6,dA (List.getElem?_eq_getElem hi)]
    have:=h7.1
    simpa using this
   ·rw[List.getElem?_eq_none (by rw[h4.len];omega),List.getElem?_eq_none (by rw[xU];omega)]
  rw[←this];exact h3
 ·obtain⟨i,hi⟩:=List.getElem?_of_mem hy
  exact(h4.at_ i y hi).2
theorem aea{t f0 f1 lu:Nat}{F0 F1 F2:Field}(ht:P.underlying t=some (.struct #[F0,F1,F2]))(e0:F0.type=f0∧F0.offset=0)(e1:F1.type=f1∧F1.offset=1)(e2:F2.type=f1∧F2.offset=2)(hb:P.underlying f0=some .bool)(hl:P.underlying f1=some (.slice lu))(hu:P.underlying lu=some (.int .u32))(hc:P.cellsOf lu=1)(c0:P.cellsOf f0=1)(c1:P.cellsOf f1=1)
  {n:Nat} {cs:List Value} {x:DataW Hy×List MemPlace} (h:DataW.trod enc P w 0 spare held n t cs=some x) (fM:cs.length=3):∃q,aS maxLen (gL w) cs q:=by
 match cs,fM with
 | [a,b,c],_=>
  obtain⟨y0,y1,y2,m,_,_,h0,h1,h2⟩:=Deep.trod_struct3 ht h
  rw[e0.1,e0.2,c0]at h0
  rw[e1.1,e1.2,c1]at h1
  rw[e2.1,e2.2,c1]at h2
  obtain⟨f,k0,_⟩:=DataW.trod_bool hb h0
  obtain⟨u,l1,k1,k2,k3,k4⟩:=Uf hl hu hc h1
  obtain⟨v,l2,k5,k6,k7,k8⟩:=Uf hl hu hc h2
  simp at k0 k1 k5
  subst k0 k1 k5
  exact⟨_,_,_,_,l1,l2,rfl,k2,k6,k3,k7,k4,k8,rfl⟩
end
section
variable {Hy:Type} {enc:TypeId×Value→Hy} {w:World} {spare:Nat→Bool} {held:Bool}
theorem NF:Tryz.prog.cellsOf 31=3:=by kernel_rfl
theorem NG{n:Nat}{cs:List Value}{x:DataW Hy×List MemPlace}(h:DataW.trod enc Tryz.prog w 0 spare held n 31 cs=some x)(fM:cs.length=3):∃q,aS maxLen (gL w) cs q:=
 aea Tryz.underlying31 ⟨rfl,rfl⟩ ⟨rfl,rfl⟩ ⟨rfl,rfl⟩ Tryz.underlying4 Tryz.underlying29 Tryz.underlying121 (by kernel_rfl) (by kernel_rfl) (by kernel_rfl) h fM
theorem FF{n:Nat}{cs:List Value}{x:DataW Hy×List MemPlace}(h:DataW.trod enc Tryz.prog w 0 spare held n 26 cs=some x):∃v l,cs = [v]∧aC (aS maxLen) 3 (gL w) v l:=
 let ⟨v,l,h1,h2,_⟩:=FE (Q:=aS maxLen) Tryz.underlying26 NF (by decide) (fun _ _ _ hl h=>NG h hl) h
 ⟨v,l,h1,h2⟩
theorem aeb{n:Nat}{cs:List Value}{x:DataW Hy×List MemPlace}(h:DataW.trod enc Tryz.prog w 0 spare held n 78 cs=some x)(fM:cs.length=5):∃r,eZ maxLen (gL w) cs r:=by
 match cs,fM with
 | [a,b,c,d,e],_=>
  obtain⟨y0,y1,y2,m,_,_,h0,h1,h2⟩:=Deep.trod_struct3 Tryz.underlying78 h
  have c0:Tryz.prog.cellsOf 26=1:=by kernel_rfl
  have c1:Tryz.prog.cellsOf 3=1:=by kernel_rfl
  obtain⟨v,l,k0,k1⟩:=FF h0
  obtain⟨z,k2,_⟩:=DataW.trod_int Tryz.underlying3 h1
  simp only[c0,c1,NF]at k0 k2 h2
  simp at k0 k2
  subst k0 k2
  obtain⟨q,hq⟩:=NG h2 (by simp)
  have vp:bN (gL w) (.agg #[c,d,e]) q maxLen:=hq
  obtain⟨f,u,w',l1,l2,e1,hr⟩:=id vp
  have e2:=Bj (vs:=[c,d,e]) e1
  simp only[List.cons.injEq,and_true]at e2
  obtain⟨rfl,rfl,rfl⟩:=e2
  exact⟨(l,z,q),_,_,_,_,rfl,k1,vp⟩
set_option maxRecDepth 100000 in
theorem aec{v:Value}{d:DataW Hy}{ps:List MemPlace}{b0:Nat}{rr:Reach}(hv:Value.okWide Tryz.prog w rr b0 25 v)(h:DataW.Trod enc Tryz.prog w 0 spare held 25 v d ps):∃p,cN maxLen (gL w) v p:=by
 obtain⟨cs,rfl,cP⟩:=WideShapes.okWide_struct Tryz.underlying25 hv
 have hC:Tryz.prog.cellsOf 25=2:=by kernel_rfl
 obtain⟨cs,rfl⟩:∃l:List Value,cs=l.toArray:=⟨cs.toList,by simp⟩
 match cs,(show cs.length=2 by rw[hC]at cP;simpa using cP)with
 | [a,b],_=>
  obtain⟨fuel,hf⟩:=h
  obtain⟨y0,y1,m,_,_,h0,h1⟩:=ChangeShapes.trod_struct2 Tryz.underlying25 hf
  have c0:Tryz.prog.cellsOf 22=1:=by kernel_rfl
  have c1:Tryz.prog.cellsOf 23=1:=by kernel_rfl
  have c2:Tryz.prog.cellsOf 4=1:=by kernel_rfl
  have c3:Tryz.prog.cellsOf 78=5:=by kernel_rfl
  obtain⟨fv,fl,k0,k1,_⟩:=FE (α:=Bool) (Q:=pz) Tryz.underlying22 c2 (by decide) (fun n cs x hl h=>by
   obtain⟨b,rfl,_⟩:=DataW.trod_bool Tryz.underlying4 h
   exact⟨b,rfl⟩) h0
  obtain⟨rv,rl,k2,k3,_⟩:=FE (Q:=eZ maxLen) Tryz.underlying23 c3 (by decide) (fun n cs x hl h=>aeb h hl) h1
  simp only[c0,c1]at k0 k2
  simp[Value.cells]at k0 k2
  subst k0 k2
  exact⟨⟨fl,rl⟩,_,_,rfl,k1,k3⟩
theorem wf_u8{z:Int}(h:(Lit.int .u8 z).wf=true):0≤z∧z≤255:=by
 simp[Lit.wf,IntKind.min,IntKind.max,IntKind.signed,IntKind.bits]at h;omega
end
end Go.ay
