/- Part 10 of the proof: Smp1, Mz3, Min, Keep1, Eng14, Keep2, Gen, Grw, Br1. -/
import Derived.Test.YtgjimcieaecdkaaGreatA09
import Derived.Deep.Slices
import Derived.Deep.Strs
import Derived.Carry
import Derived.Below
set_option linter.unusedVariables false
namespace Go.ar
open Go.Proofs Num Lp
theorem Cd{H:Heap}{v:Value}{p:Prg}{N:Nat}(hp:dE N H v p):
 Fn Tryz.prog 22 #[v] H (fun v H'=>H'=H∧∃b,v = .bool b∧(b=true↔p.Ok)):=by
 obtain⟨fv,l7,rfl,eA,fa⟩:=hp
 obtain⟨Af,cf,xf,rfl,kF,kG⟩:=eA.one
 obtain⟨Ar,cr,xr,rfl,fQ,fA⟩:=fa.row;refine aW (args:=[_]) Tryz.func22 rfl rfl Tryz.ntmps22 rfl rfl fun w0=> ?_;refine aj [0] rfl ?_;refine af (bY rfl rfl (ab 1 rfl (ae [1] ?_)));refine aq ?_
 by_cases h1:400<(p.free.length:Int)
 ·
  skip
  refine af (ab 3 rfl (aS true rfl rfl (pO h1) (ab 6 rfl (ae [1,14] ?_))));refine eL rfl (af (ab 1 rfl (ae [2] ?_)));refine aw ⟨.inr rfl,_,.tmp rfl (.nil),?_⟩;exact⟨rfl,false,rfl,⟨(fun h=>by cases h),(fun h=>by have h8:=h.gu;have h9:=h.rows;omega)⟩⟩
 ·
  skip
  by_cases h2:800<(p.rows.length:Int)
  ·
   skip
   refine af (ab 3 rfl (aS false rfl rfl (lO (by omega)) (ab 4 rfl (aS true rfl rfl (pO h2) (ab 1 rfl (ae [1,14] ?_))))));refine eL rfl (af (ab 1 rfl (ae [2] ?_)));refine aw ⟨.inr rfl,_,.tmp rfl (.nil),?_⟩;exact⟨rfl,false,rfl,⟨(fun h=>by cases h),(fun h=>by have h8:=h.gu;have h9:=h.rows;omega)⟩⟩
  skip
  refine af (ab 3 rfl (aS false rfl rfl (lO (by omega)) (ab 4 rfl (aS false rfl rfl (lO (by omega)) (ab 1 rfl (ae [1,14] ?_))))));refine dG rfl (ax (aj [1] rfl ?_));refine aq (af (ab 4 rfl (ae [1,16,17,18] ?_)));refine aD (gj (fun(i:Nat)=>p.rows.length-i) (fun(i:Nat)=>put (put (put (put (emp) 1 (.box [.slice Af p.free.length cf,.slice Ar p.rows.length cr])) 16 (.val (.slice Ar p.rows.length cr))) 17 (.val (.int .i64 (p.rows.length:Int)))) 18 (.val (.int .i64 (i:Int)))) (fun(i:Nat) H'=>H'=H∧(∀(k:Nat)(r:List Rat×Int×Rat),k<i→p.rows[k]? = some r→NR p.free.length r)∧i≤p.rows.length) 0 (⟨rfl,(fun k r h=>by omega),Nat.zero_le _⟩) ay ?_);rintro i H1 ⟨e1,iB,hi⟩;rw[e1];refine af (ab 1 rfl (ae [1,16,17,18,19] ?_));refine aq (az rfl (fun hb=> ?_) (fun hb=> ?_))
  ·
   have dX:i<p.rows.length:=by simpa using hb
   obtain⟨r,hr⟩:∃r,p.rows[i]? = some r:=⟨_,List.getElem?_eq_getElem dX⟩;obtain⟨A0,c0,f,A1,m1,c1,A2,m2,c2,jm,jK⟩:=fA i r hr;refine ax (aj [1,16,17,18] rfl ?_);refine aq (aD (af (cS (vs:=[.slice A0 r.1.length c0,.int .i64 r.2.1,.bool f,.slice A1 m1 c1,.slice A2 m2 c2]) ag rfl rfl rfl rfl fQ rfl (by decide) jK (by omega) (by omega) fun _=>(bD gU rfl ?_))));obtain⟨ti,ak,al⟩:=ux;refine aM (.inl ⟨rfl,rfl⟩) rfl rfl rfl ak al rfl rfl rfl (ae [1,4,16,17,18] ?_);refine aq (af (ab 7 rfl (ae [1,4,16,17,18,28] ?_)));refine az rfl (fun hb=> ?_) (fun hb=> ?_)
   ·
    have bU:¬r.1.length=p.free.length:=by simpa [Int.natCast_inj]using hb
    refine af (ab 1 rfl (ae [2] ?_));refine aw ⟨.inr rfl,_,.tmp rfl (.nil),?_⟩;exact⟨rfl,false,rfl,⟨(fun h=>by cases h),fun h=>absurd (h.row i r hr).1 bU⟩⟩
   have bU:r.1.length=p.free.length:=by simpa [Int.natCast_inj]using hb
   refine ax (aj [1,4,16,17,18] rfl ?_)
   by_cases h1:r.2.1=1
   ·
    skip
    refine af (ab 2 rfl (aS false rfl rfl (wP h1) (ab 10 rfl (ae [1,16,17,18,41] ?_))));refine dG rfl (ax (aj [1,16,17,18] rfl ?_));refine aF rfl (aO rfl rfl ⟨by omega,by omega⟩ (ab 1 rfl (aA ?_)));exact⟨i+1,by omega,ay,rfl,(fun k r9 hk jt=>by by_cases h9:k<i;exact iB k r9 h9 jt;(obtain rfl:k=i:=by omega);rw[hr]at jt;cases jt;exact⟨bU,.inl h1⟩),by omega⟩
   skip
   by_cases h2:r.2.1=2
   ·
    skip
    refine af (ab 2 rfl (aS true rfl rfl (pL h1) (ab 3 rfl (aS false rfl rfl (wP h2) (ab 6 rfl (ae [1,16,17,18,41] ?_))))));refine dG rfl (ax (aj [1,16,17,18] rfl ?_));refine aF rfl (aO rfl rfl ⟨by omega,by omega⟩ (ab 1 rfl (aA ?_)));exact⟨i+1,by omega,ay,rfl,(fun k r9 hk jt=>by by_cases h9:k<i;exact iB k r9 h9 jt;(obtain rfl:k=i:=by omega);rw[hr]at jt;cases jt;exact⟨bU,.inr (.inl h2)⟩),by omega⟩
   skip
   by_cases h3:r.2.1=3
   ·
    skip
    refine af (ab 2 rfl (aS true rfl rfl (pL h1) (ab 3 rfl (aS true rfl rfl (pL h2) (ab 4 rfl (aS false rfl rfl (wP h3) (ab 1 rfl (ae [1,16,17,18,41] ?_))))))));refine dG rfl (ax (aj [1,16,17,18] rfl ?_));refine aF rfl (aO rfl rfl ⟨by omega,by omega⟩ (ab 1 rfl (aA ?_)));exact⟨i+1,by omega,ay,rfl,(fun k r9 hk jt=>by by_cases h9:k<i;exact iB k r9 h9 jt;(obtain rfl:k=i:=by omega);rw[hr]at jt;cases jt;exact⟨bU,.inr (.inr h3)⟩),by omega⟩
   skip
   refine af (ab 2 rfl (aS true rfl rfl (pL h1) (ab 3 rfl (aS true rfl rfl (pL h2) (ab 4 rfl (aS true rfl rfl (pL h3) (ab 1 rfl (ae [1,16,17,18,41] ?_))))))));refine eL rfl (af (ab 1 rfl (ae [2] ?_)));refine aw ⟨.inr rfl,_,.tmp rfl (.nil),?_⟩;exact⟨rfl,false,rfl,⟨(fun h=>by cases h),(fun h=>by have h9:=(h.row i r hr).2;omega)⟩⟩
  have hb:p.rows.length≤i:=by simpa using hb
  refine bC (aj [] rfl ?_);refine af (ab 1 rfl (ae [2] ?_));refine aw ⟨.inr rfl,_,.tmp rfl (.nil),?_⟩;exact⟨rfl,true,rfl,⟨fun _=>⟨by omega,by omega,fun k r hr=>iB k r (by have h9:=(List.getElem?_eq_some_iff.1 hr).1;omega) hr⟩,fun _=>rfl⟩⟩
end Go.ar
namespace Go.ar
open Go.Proofs Num Lp
def Ke(H:Heap)(v:Value)(S:mL):Prop:=∃f u w xv dv rv,v = .agg #[.int .i64 S.status,.bool f,u,w,xv,dv,rv]∧(dI H (.agg #[.bool f,u,w]) S.value∨(S.value=0∧f=false∧u = .slice none 0 0∧w = .slice none 0 0))∧aH fy 3 H xv S.x∧aH fy 3 H dv S.fw∧aH fy 3 H rv S.ray
def QJ(M:Nat)(S:mL):Prop:=∀q,q∈S.x∨q∈S.fw∨q∈S.ray∨q=S.value→aK q≤M
def QK:Value:= .agg #[.int .i64 0,.bool false,.slice none 0 0,.slice none 0 0,.slice none 0 0,.slice none 0 0,.slice none 0 0]
def FL(p:Prg)(c:List Rat)(S:mL):Prop:=S.status=1→∃T,I2 p c T∧S.value = -(T.c p.w)∧S.x=aN (cP.vec p.lay.pF p.lay.mF T.pt) p.lp.n
def FM(p:Prg)(c:List Rat)(M:Nat)(H:Heap)(v:Value)(H':Heap):Prop:=Heap.le H H'∧∃s e,v = .tuple #[s,.int .i64 e]∧
 ((¬p.Ok∧e=1∧s=QK)∨(p.Ok∧c.length≠p.free.length∧e=21∧s=QK)∨(p.Ok∧c.length=p.free.length∧e=0∧∃S,Ke H' s S∧nO p c S∧QJ (2*M+2) S∧FL p c S))
theorem jL{H:Heap}{α:Type}{P:Heap→List Value→α→Prop}{sz:Nat}:aH P sz H (.slice none 0 0) ([]:List α):=⟨none,0,[],rfl,Nat.le_refl _,(fun i v h=>by simp at h),sR⟩
theorem Ce{f:Nat→Rat}{n:Nat}{q:Rat}(h:q∈aN f n):∃j,j<n∧q=f j:=by
 unfold aN at h
 obtain⟨j,hj,e⟩:=List.mem_map.1 h
 exact⟨j,List.mem_range.1 hj,e.symm⟩
section
variable {p:Prg} {c:List Rat} {M:Nat} {T:ao} {H K:Heap}
theorem Kf{N n:Nat}{z:Nat→Rat}(h0:1≤N)(hz:∀j,j<p.w→aK (z j)≤N){j:Nat}(hj:j<p.lp.n):aK (cP.vec p.lay.pF p.lay.mF z j)≤2*N+1:=by
 have h1:=pV (z (p.lay.pF j)) (eS z (p.lay.mF j))
 have h2:=hz _ (kE.pw j hj)
 have h3:aK (eS z (p.lay.mF j))≤N:=by
  rw[ym hj]
  by_cases hf:p.lp.free j=true
  ·rw[if_pos hf]
   have:=yi p hj
   unfold jJ at this
   rw[if_pos hf]at this
   have:=oZ p
   have:=jr p
   exact hz _ (by omega)
  ·rw[if_neg hf];exact Nat.le_trans (show aK (0:Rat)≤1 by decide) h0
 unfold cP.vec;omega
theorem QL{N:Nat}{f g:Nat→Rat}(hf:∀j,j<p.w→aK (f j)≤N)(hg:∀j,j<p.w→aK (g j)≤N){i:Nat}(hi:i<p.lp.m):aK (p.lay.sF i*(f (p.lay.uF i)-g (p.lay.uF i)))≤2*N+2:=by
 have h1:=pU (p.lay.sF i) (f (p.lay.uF i)-g (p.lay.uF i))
 have h2:=pV (f (p.lay.uF i)) (g (p.lay.uF i))
 have h3:=kE.s1 i hi
 have h4:=hf _ (kE.uw i hi)
 have h5:=hg _ (kE.uw i hi)
 omega
theorem aat(a8:p.Ok)(gC:c.length=p.free.length)(hl:Fits p c M)(hle:Heap.le H K)(h:Inv p (pn p) T)(hn:∀j,j<p.u→0≤T.c j)(fN:T.c p.w<0){dv:Value}
  (hd:aH fy 3 K dv (aN (fun i=>p.lay.sF i*(pn p (p.lay.uF i)-T.c (p.lay.uF i))) p.lp.m)):FM p c M H (.tuple #[.agg #[.int .i64 2,.bool false,.slice none 0 0,.slice none 0 0,.slice none 0 0,dv,.slice none 0 0],.int .i64 0]) K:=by
 have hz:=hl.yw _ h
 refine⟨hle,_,_,rfl,.inr (.inr ⟨a8,gC,rfl,⟨2,0,[],_,[]⟩,⟨_,_,_,_,_,_,rfl,.inr ⟨rfl,rfl,rfl,rfl⟩,jL,hd,jL⟩,.inr (.inl ⟨rfl,rfl,rfl,rfl,gC,Zv a8 h hn fN⟩),fun q hq=> ?_,fun e=>by cases e⟩)⟩
 rcases hq with hq | hq | hq | hq
 ·cases hq
 ·obtain⟨i,hi,rfl⟩:=Ce hq
  exact QL (fun j _=>hl.pn j) (fun j hj=>hz.c j (by rw[h.rows.n];omega)) hi
 ·cases hq
 ·rw[hq];exact Nat.le_trans (show aK (0:Rat)≤2 by decide) (Nat.le_add_left 2 _)
theorem aau(a8:p.Ok)(gC:c.length=p.free.length)(hl:Fits p c M)(hle:Heap.le H K)(h:I2 p c T)(hn:∀j,j<p.u→0≤T.c j){f:Bool}{u w xv dv:Value}
  (hv:dI K (.agg #[.bool f,u,w]) (-(T.c p.w))) (hx:aH fy 3 K xv (aN (cP.vec p.lay.pF p.lay.mF T.pt) p.lp.n)) (hd:aH fy 3 K dv (aN (fun i=>p.lay.sF i*(js p c (p.lay.uF i)-T.c (p.lay.uF i))) p.lp.m)):
  FM p c M H (.tuple #[.agg #[.int .i64 1,.bool f,u,w,xv,dv,.slice none 0 0],.int .i64 0]) K:=by
 have hz:=hl.oE _ h.1
 have h1:=Zy a8 gC h hn
 refine⟨hle,_,_,rfl,.inr (.inr ⟨a8,gC,rfl,⟨1,-(T.c p.w),_,_,[]⟩,⟨_,_,_,_,_,_,rfl,.inl hv,hx,hd,jL⟩,.inl ⟨rfl,rfl,h1.1,h1.2⟩,fun q hq=> ?_,fun _=>⟨T,h,rfl,rfl⟩⟩)⟩
 have hb:=hl.one
 rcases hq with hq | hq | hq | hq
 ·obtain⟨j,hj,rfl⟩:=Ce hq
  exact Nat.le_trans (Kf (n:=0) hb (fun j hj=>JB h.1.wf hz hb (by rw[h.1.rows.n];exact hj)) hj) (by omega)
 ·obtain⟨i,hi,rfl⟩:=Ce hq
  exact QL (fun j _=>hl.js j) (fun j hj=>hz.c j (by rw[h.1.rows.n];omega)) hi
 ·cases hq
 ·rw[hq,xh]
  exact Nat.le_trans (hz.c p.w (by rw[h.1.rows.n];exact Nat.le_refl _)) (by omega)
theorem aav(a8:p.Ok)(gC:c.length=p.free.length)(hl:Fits p c M)(hle:Heap.le H K)(h:I2 p c T){s:Nat}(hs:s<p.u)(fN:T.c s<0)(hA:∀i,i<T.m→T.A i s≤0){xv rv:Value}
  (hx:aH fy 3 K xv (aN (cP.vec p.lay.pF p.lay.mF T.pt) p.lp.n)) (hr:aH fy 3 K rv (aN (cP.vec p.lay.pF p.lay.mF (T.dir s)) p.lp.n)):
  FM p c M H (.tuple #[.agg #[.int .i64 3,.bool false,.slice none 0 0,.slice none 0 0,xv,.slice none 0 0,rv],.int .i64 0]) K:=by
 have hz:=hl.oE _ h.1
 have hb:=hl.one
 have kz:=jr p
 refine⟨hle,_,_,rfl,.inr (.inr ⟨a8,gC,rfl,⟨3,0,_,[],_⟩,⟨_,_,_,_,_,_,rfl,.inr ⟨rfl,rfl,rfl,rfl⟩,hx,jL,hr⟩,.inr (.inr ⟨rfl,rfl,rfl,Zz a8 gC h hs fN hA⟩),fun q hq=> ?_,fun e=>by cases e⟩)⟩
 rcases hq with hq | hq | hq | hq
 ·obtain⟨j,hj,rfl⟩:=Ce hq
  exact Nat.le_trans (Kf (n:=0) hb (fun j hj=>JB h.1.wf hz hb (by rw[h.1.rows.n];exact hj)) hj) (by omega)
 ·cases hq
 ·obtain⟨j,hj,rfl⟩:=Ce hq
  exact Nat.le_trans (Kf (n:=0) hb (fun j hj=>PZ h.1.wf hz hb (by rw[h.1.rows.n];omega) (P0 h.1.wf fN)) hj) (by omega)
 ·rw[hq];exact Nat.le_trans (show aK (0:Rat)≤2 by decide) (Nat.le_add_left 2 _)
end
end Go.ar
namespace Go.ar
open Go.Proofs Num Lp
theorem aaw{H:Heap}{v cv:Value}{p:Prg}{c:List Rat}{M N:Nat}(hp:dE N H v p)(hc:aH (bJ N) 3 H cv c)(hl:Fits p c M)(hcN:(c.length:Int)≤1099511627776)(hN:(N:Int)≤549755813888)(adR:(M:Int)≤34359738368):
 Fn Tryz.prog 7 #[v,cv] H (FM p c M H):=by
 obtain⟨fv,l7,rfl,eA,fa⟩:=id hp
 obtain⟨Af,cf,xf,rfl,kF,kG⟩:=eA.one
 obtain⟨Ar,cr,xr,rfl,fQ,fA⟩:=fa.row
 obtain⟨Ac,cc,xc,rfl,ZU,te,IZ⟩:=id hc;refine aW (args:=[_,_]) Tryz.func7 rfl rfl Tryz.ntmps7 rfl rfl fun w0=> ?_;refine aj [0,1] rfl ?_;refine af (bY rfl rfl (bD pI rfl (ab 1 rfl (ae [1,2,4] ?_))));refine aq (af (ab 1 rfl (au rfl rfl (Cd hp) ?_)));rintro v1 H1 ⟨e1,b1,rfl,dZ⟩;rw[e1];refine ab 1 rfl (ae [1,2,4,13] ?_);refine az rfl (fun hb=> ?_) (fun hb=> ?_)
 ·
  have hb:¬p.Ok:=fun h=>by have h9:=dZ.2 h;rw[h9]at hb;simp at hb
  refine af (dH ag rfl pI rfl rfl ?_);obtain⟨ti,ak,al⟩:=lL;refine aM (.inl ⟨rfl,rfl⟩) rfl rfl rfl ak al rfl rfl rfl (ab 1 rfl (ae [4,5] ?_));obtain⟨bO,aI,aJ⟩:=lL;refine aw ⟨.inr rfl,_,.agg rfl Tryz.underlying35 aI aJ (.tmp rfl (.nil)),?_⟩;exact⟨.refl _,_,_,rfl,.inl ⟨hb,rfl,rfl⟩⟩
 ·
  have a8:p.Ok:=dZ.1 (by simpa using hb);have ep:=a8.gu;have rH:=a8.rows;have Qx:=PF p;have e1:p.lp.n=p.free.length:=rfl;have e2:p.lp.m=p.rows.length:=rfl
  have oa:(p.lay.w:Int)≤1000000:=by show ((p.w:Nat):Int)≤_;omega
  have QM:((p.ee.m:Nat):Int)≤1000000:=by show ((p.rows.length:Nat):Int)≤_;omega
  have QN:=hl.one;refine ax (aj [1,2,4] rfl ?_);refine aq (af (ab 6 rfl (ae [1,2,4,20] ?_)));refine az rfl (fun hb=> ?_) (fun hb=> ?_)
  ·
   have hb:c.length≠p.free.length:=by simpa [Int.natCast_inj]using hb
   refine af (dH ag rfl pI rfl rfl ?_);obtain⟨ti,ak,al⟩:=lL;refine aM (.inl ⟨rfl,rfl⟩) rfl rfl rfl ak al rfl rfl rfl (ab 1 rfl (ae [4,5] ?_));obtain⟨bO,aI,aJ⟩:=lL;refine aw ⟨.inr rfl,_,.agg rfl Tryz.underlying35 aI aJ (.tmp rfl (.nil)),?_⟩;exact⟨.refl _,_,_,rfl,.inr (.inl ⟨a8,hb,rfl,rfl⟩)⟩
  have gC:c.length=p.free.length:=by simpa [Int.natCast_inj]using hb
  refine ax (aj [1,2,4] rfl ?_);refine af (ab 1 rfl (au rfl rfl (ZG (n:=p.free.length) (m:=p.rows.length) hp a8 rfl rfl hN) ?_));rintro v5 H5 ⟨G,rfl,Ah,adS,fg⟩;refine ab 1 rfl (ae [1,4,6] ?_);refine af (ab 2 rfl (au rfl rfl (Ox Ah oa) ?_));rintro v6 H6 ⟨qb,iQ,JH⟩;refine au rfl rfl (OK (N:=2*M) (f:=pn p) (Ah.kept qb) JH (fun i hi=>rE p hi) (by omega) oa QM (fun j _=>Nat.le_trans (hl.pn j) (by omega)) (fun i hi j _=>Nat.le_trans (hl.tab i hi j) (by omega)) hl.P3) ?_;rintro _ H7 ⟨fB,fC,_,ht7,hc7,I1⟩;refine ae [1,4,6] ?_;refine af (ab 1 rfl (au rfl rfl (Oj (G:=(G.dh fB fC)) (N:=M) (I:=Inv p (pn p)) ht7 hc7 (Inv.base yv) (fun S r s h hb=>h.step (by rw[h.rows.n];exact jr p) hb) (fun S h=>⟨h.wf,h.cT,hl.yw _ h,h.rows.m,h.rows.n⟩) (by omega) oa QM) ?_));rintro v8 H8 ⟨T8,pb,Kg,I0,mS,kH⟩
  have Bi:∀j,j<p.u→0≤T8.c j:=by rcases kH with ⟨_,h⟩ | ⟨s,_,h1,h2,h3⟩;exact h;exact(Zx pb h1 h2 h3).elim
  have QO:=hl.yw _ pb;have adT:aK (T8.c p.lay.w)≤M:=QO.c _ (by rw[pb.rows.n];exact Nat.le_refl _)
  have aax:((T8.m:Nat):Int)≤1000000:=by rw[pb.rows.m];omega
  refine ae [1,4,6] ?_;refine aq (af (ab 1 rfl (au rfl rfl (Ow (G:=(G.dh fB fC)) Kg I0 (by omega)) ?_)));rintro v9 H9 ⟨kB,jI,n9,d9,b9,rfl,nY⟩;refine au rfl rfl (Fn.oV (kB.ne Kg.ne) (iK nY (by rw[xh];omega))) ?_;rintro v10 ES ⟨JP,m5,rfl⟩;have Kh:=kB.trans JP;have Ki:=Kg.kept Kh;have QP:=I0.kept Kh;have Kj:=((((fg.trans qb.le).trans I1).trans mS).trans Kh.le);refine ab 1 rfl (ae [1,4,6,33] ?_);refine az rfl (fun hb=> ?_) (fun hb=> ?_)
  ·
   have fN:T8.c p.w<0:=by have h9:=Oh.1 (show 0<fK (-(T8.c p.lay.w)) by simpa using hb);have h8:T8.c p.lay.w=T8.c p.w:=rfl;grind
   refine af (ab 2 rfl (au rfl rfl (Ox (G:=(G.dh fB fC)) Ki oa) ?_));rintro v11 mT ⟨Kk,yI,aay⟩;refine au rfl rfl (OI (G:=(G.dh fB fC)) (n:=p.lp.n) (m:=p.lp.m) (N:=M) (f:=pn p) (Ki.kept Kk) (QP.kept Kk) kE aay (fun j _=>hl.pn j) (fun j hj=>QO.c j (by rw[pb.rows.n];exact Nat.le_of_lt hj)) (by omega) oa (by omega)) ?_;rintro Pu dr ⟨E6,yg,A12,c12,x12,rfl,aaz,aaA,aaB⟩;refine dH ag rfl pI rfl rfl ?_;obtain⟨ti,ak,al⟩:=lL;refine aM (.inl ⟨rfl,rfl⟩) rfl rfl rfl ak al rfl rfl rfl (ab 1 rfl (ae [4,5] ?_));obtain⟨bO,aI,aJ⟩:=lL;refine aw ⟨.inr rfl,_,.agg rfl Tryz.underlying35 aI aJ (.tmp rfl (.nil)),?_⟩;exact aat a8 gC hl (((Kj.trans Kk.le).trans E6.le).trans (bn _ _)) pb Bi fN (aH.le ⟨_,_,_,rfl,aaz,aaA,aaB⟩ gZ (bn _ _))
  have fN:¬T8.c p.w<0:=fun h=>by have h9:¬0<fK (-(T8.c p.lay.w)):=(by simpa using hb);exact h9 (Oh.2 (by have h8:T8.c p.lay.w=T8.c p.w:=rfl;grind))
  refine ax (aj [1,4,6] rfl ?_);refine af (ab 1 rfl (au rfl rfl (XK (G:=(G.dh fB fC)) (N:=M) (J:=Jx p) Ki QP ⟨pb,Zw pb fN⟩ (fun k S h hk hd=>h.skip hd) (fun k S s h hk hu hs hp=>h.bP hk hu hs hp) (fun k S h=>⟨hl.yw _ h.1,by rw[h.1.rows.m,pb.rows.m],by rw[h.1.rows.n,pb.rows.n]⟩) (by omega) oa aax) ?_));rintro _ mT ⟨T11,Kl,rK,adU,QQ⟩;rw[pb.rows.m]at Kl;have rL:=Kl.1;refine ae [1,4,6] ?_;refine af (ab 2 rfl (a4 ag rfl rfl rfl (aQ ag rfl rfl rfl (rK.xR) (au rfl rfl (Az (gs:=(G.dh fB fC).gs) (n:=p.lay.w) rK.ne (by omega)) ?_))));rintro Pu dr ⟨yg,z,nQ,rfl,vI,aaC⟩;refine ab 1 rfl (ae [1,4,6,7] ?_);refine aq (af (ab 1 rfl (au rfl rfl (Fn.EC (gs:=(z::(G.dh fB fC).gs)) (vI.ne rK.ne) (Em (hc.le (cD N) ((Kj.trans QQ).trans vI.le)) (by omega) hcN)) ?_)));rintro Y0 mU ⟨E7,Bs,aaD⟩;have E8:=vI.kept E7;obtain⟨Av,cv,xv,rfl,jn,pA⟩:=aaD.num;obtain⟨Ap,cp,xp,qc,jm,vv⟩:=rK.self.plus.one;obtain⟨Am,cm,xm,qd,lq,AG⟩:=rK.self.minus.one;rw[kE.EE]at qc;rw[kE.EF]at qd;rw[gC];refine ab 2 rfl (ae [4,6,7,47,48,49] ?_);refine aD (jS (fun(k:Nat)(xs:List Value)=>p.free.length-k) (fun(k:Nat)(xs:List Value)=>put (put (put (put (put (put (emp) 4 (.box [.int .i64 0,.bool false,.slice none 0 0,.slice none 0 0,.slice none 0 0,.slice none 0 0,.slice none 0 0])) 6 (.val (.pointer (some ⟨G.g,0,none⟩)))) 7 (.val (.slice (some ⟨z,0,none⟩) p.lay.w p.lay.w))) 47 (.val (.slice Av p.free.length cv))) 48 (.val (.int .i64 (p.free.length:Int)))) 49 (.val (.int .i64 (k:Int)))) (fun(k:Nat)(xs:List Value) H'=>dJ (G.dh fB fC).gs mT H' z xs (p.lay.w*3) 61∧bg (aZ (rem H' (z::(G.dh fB fC).gs))) 3 xs (aN (g7 p.lay (fn c) 1 k) p.lay.w)∧Heap.le (rem mU (z::(G.dh fB fC).gs)) (rem H' (z::(G.dh fB fC).gs))∧k≤p.free.length) 0 nQ (⟨E8,aaC _,.refl _,Nat.zero_le _⟩) ay ?_)
  rintro k xs rJ ⟨rB,Km,Kn,adV⟩;have aaE:=rB.tab rK;have cj:=Km.len;rw[cE]at cj;refine af (ab 1 rfl (ae [4,6,7,47,48,49,50] ?_));refine aq (az rfl (fun hb=> ?_) (fun hb=> ?_))
  ·
   have ew:k<p.free.length:=by simpa using hb
   obtain⟨q,gA⟩:∃q,c[k]? = some q:=⟨_,List.getElem?_eq_getElem (by omega)⟩;obtain⟨n1,d1,b1,dB,dD⟩:=pA k q gA;have tt:fn c k=q:=iu gA;have E3:aK q≤N+2:=bL.size (IZ.at_ k q gA);obtain⟨up,AH,AI⟩:=vv k _ (kE.p ew);obtain⟨um,tg,AJ⟩:=AG k _ (kE.mi ew)
   cases AI
   cases AJ
   have YU:=kE.pw k ew;have YV:=kE.mw k ew;rw[←tt]at dB;refine ax (aj [4,6,7,47,48,49] rfl ?_);refine aq (aD (af (ab 1 rfl (cS (vs:=[.int .i64 n1,.int .i64 d1,.pointer b1]) ag rfl rfl rfl rfl ((jn.le Kn).le (bn _ _)) rfl (by decide) dD (by omega) (by omega) fun _=>(bD dd rfl (vr 1 ?_))))));obtain⟨ti,ak,al⟩:=bI;refine aM (.inl ⟨rfl,rfl⟩) rfl rfl rfl ak al rfl rfl rfl (ae [4,6,7,8,9,47,48,49] ?_);refine cg .fR [0,1,2,3,4,5,6,7,8,9,10] follows (by kernel_rfl) ?_;refine ab 3 rfl (a4 ag rfl rfl rfl (aQ ag rfl rfl rfl (show cell _ _=some (.slice Ap p.free.length cp)from by rw[←show (G.dh fB fC).pv = .slice Ap p.free.length cp from qc];exact aaE.cell 2 _ rfl) ?_));refine ab 1 rfl (a9 ag rfl rfl rfl rfl rfl (jm.le rB.hle) (by rw[Int.toNat_natCast];exact AH) (by omega) (by omega) fun _=> ?_);refine vr 1 ?_;obtain⟨ti,ak,al⟩:=bI;refine dP (.inr rfl) ag rfl rfl rfl (by omega) (by omega) (rB.aB) rfl (by show 0+p.lay.w*3≤xs.length;omega) ak al (fun _=>rfl) rfl rfl rfl fun _=> ?_;refine ae [4,6,7,8,9,47,48,49] ?_;have vS:dJ (G.dh fB fC).gs mT (ins rJ z {(⟨xs,p.lay.w*3,61,true⟩:aG)with xs:=aC xs (0+((p.lay.pF k:Nat):Int).toNat*3) [.int .i64 n1,.int .i64 d1,.pointer b1]}) z (aC xs (p.lay.pF k*3) [.int .i64 n1,.int .i64 d1,.pointer b1]) (p.lay.w*3) 61:=rB.set (by rw[Int.toNat_natCast];exact lr)
   have FN:bg (aZ (rem (ins rJ z {(⟨xs,p.lay.w*3,61,true⟩:aG)with xs:=aC xs (0+((p.lay.pF k:Nat):Int).toNat*3) [.int .i64 n1,.int .i64 d1,.pointer b1]}) (z::(G.dh fB fC).gs))) 3 (aC xs (p.lay.pF k*3) [.int .i64 n1,.int .i64 d1,.pointer b1]) (aN (ed (g7 p.lay (fn c) 1 k) (p.lay.pF k) (fn c k)) p.lay.w):=by
    rw[bZ _ (List.mem_cons_self ..)];exact nU Km (by omega) (dB.le Kn)
   have FO:Heap.le (rem mU (z::(G.dh fB fC).gs)) (rem (ins rJ z {(⟨xs,p.lay.w*3,61,true⟩:aG)with xs:=aC xs (0+((p.lay.pF k:Nat):Int).toNat*3) [.int .i64 n1,.int .i64 d1,.pointer b1]}) (z::(G.dh fB fC).gs)):=by rw[bZ _ (List.mem_cons_self ..)];exact Kn
   show VC _ _ _ _ _ _ _ (ins rJ z {(⟨xs,p.lay.w*3,61,true⟩:aG)with xs:=aC xs (0+((p.lay.pF k:Nat):Int).toNat*3) [.int .i64 n1,.int .i64 d1,.pointer b1]})
   generalize ins rJ z {(⟨xs,p.lay.w*3,61,true⟩:aG)with xs:=aC xs (0+((p.lay.pF k:Nat):Int).toNat*3) [.int .i64 n1,.int .i64 d1,.pointer b1]}=tF at vS FN FO⊢
   have QR:=vS.tab rK;have Jd:=FN.len;rw[cE]at Jd;refine af (ab 2 rfl (a4 ag rfl rfl rfl (aQ ag rfl rfl rfl (show cell _ _=some (.slice Am p.free.length cm)from by rw[←show (G.dh fB fC).mv = .slice Am p.free.length cm from qd];exact QR.cell 3 _ rfl) ?_)));refine ab 1 rfl (a9 ag rfl rfl rfl rfl rfl (lq.le vS.hle) (by rw[Int.toNat_natCast];exact tg) (by omega) (by omega) fun _=> ?_);refine ab 1 rfl (ae [4,6,7,8,9,47,48,49,71] ?_);refine az rfl (fun hb=> ?_) (fun hb=> ?_)
   ·
    have hb:0≤p.lay.mZ k:=by simpa using hb
    refine fc .fR [0,1,2,3,4,5,6,7,8,9,10,11] follows (by kernel_rfl) ?_;refine ab 3 rfl (a4 ag rfl rfl rfl (aQ ag rfl rfl rfl (show cell _ _=some (.slice Am p.free.length cm)from by rw[←show (G.dh fB fC).mv = .slice Am p.free.length cm from qd];exact QR.cell 3 _ rfl) ?_));refine ab 1 rfl (a9 ag rfl rfl rfl rfl rfl (lq.le vS.hle) (by rw[Int.toNat_natCast];exact tg) (by omega) (by omega) fun _=> ?_);refine ab 1 rfl (aT rfl rfl (Fn.iM (vS.ne rK.ne) (xn (dB.le FO) (by rw[tt];omega))) (fun _ _ h=>by first | exact h.le | exact h.1) ?_);rintro v17 H17 ⟨Ko,adW,n7,d7,b7,rfl,aaF⟩;have QS:=vS.kept Ko;obtain⟨ti,ak,al⟩:=bI;refine dP (.inr rfl) ag rfl rfl rfl (by omega) (by omega) (QS.aB) rfl (by show 0+p.lay.w*3≤(aC xs (p.lay.pF k*3) [.int .i64 n1,.int .i64 d1,.pointer b1]).length;omega) ak al (fun _=>rfl) rfl rfl rfl fun _=> ?_;refine aA ?_;have aaG:=QS.set (lr (xs:=aC xs (p.lay.pF k*3) [.int .i64 n1,.int .i64 d1,.pointer b1]) (vs:=[.int .i64 n7,.int .i64 d7,.pointer b7]) (k:=(p.lay.mZ k).toNat) (sz:=3));refine aj [4,6,7,47,48,49] rfl ?_;refine aF rfl (aO rfl rfl ⟨by omega,by omega⟩ (ab 1 rfl (aA ?_)));exact⟨k+1,_,by omega,ay,aaG,by rw[bZ _ (List.mem_cons_self ..),vG,if_pos hb,Rat.mul_one];exact nU (FN.mono fun vs a=>fi _ _ vs a Ko.le) (by omega) aaF,by rw[bZ _ (List.mem_cons_self ..)];exact FO.trans Ko.le,by omega⟩
   have hb:¬0≤p.lay.mZ k:=by simpa using hb
   refine ax (aj [4,6,7,47,48,49] rfl ?_);refine aF rfl (aO rfl rfl ⟨by omega,by omega⟩ (ab 1 rfl (aA ?_)));exact⟨k+1,_,by omega,ay,vS,by rw[vG,if_neg hb,Rat.mul_one];exact FN,FO,by omega⟩
  have hb:p.free.length≤k:=by simpa using hb
  obtain rfl:p.free.length=k:=by omega
  have jo:=rB.done;have fe:aH aZ 3 (rem rJ (G.dh fB fC).gs) (.slice (some ⟨z,0,none⟩) p.lay.w p.lay.w) (aN (js p c) p.lay.w):=⟨some ⟨z,0,none⟩,p.lay.w,xs,by rw[cE],by rw[cE];exact Nat.le_refl _,rB.rd,Km.mono fun vs a=>fi _ _ vs a jo.2⟩
  have QT:((T11.m:Nat):Int)≤1000000:=by rw[rL.rows.m];omega
  skip
  have vT:=hl.yw _ rL;refine bC (aj [4,6,7] rfl ?_);refine af (ab 2 rfl (au rfl rfl (OK (G:=(G.dh fB fC)) (N:=2*M) (f:=js p c) (rK.kept jo.1) fe (fun i hi=>by have h9:=rL.wf.lt i hi;rw[rL.rows.n]at h9;exact h9) (by omega) oa QT (fun j _=>Nat.le_trans (hl.js j) (by omega)) (fun i hi j hj=>Nat.le_trans (vT.A i hi j (by rw[rL.rows.n];exact hj)) (by omega)) (fun k hk j hj=>hl.P4 _ rL k hk j (by rw[rL.rows.n];exact hj))) ?_));rintro _ H19 ⟨vU,vV,_,aaH,aaI,QU⟩;refine ae [4,6,7] ?_;refine aq (af (ab 1 rfl (au rfl rfl (Oj (G:=((G.dh fB fC).dh vU vV)) (N:=M) (I:=I2 p c) aaH aaI (I2.start Kl) (fun S r s h hb=>h.step hb) (fun S h=>⟨h.1.wf,h.1.cT,hl.oE _ h.1,by rw[h.1.rows.m];exact rL.rows.m.symm,by rw[h.1.rows.n];exact rL.rows.n.symm⟩) (by omega) oa QT) ?_)));rintro v20 Qq ⟨Kp,lB,Cf,QV,QW,aaJ⟩;have Cg:=hl.oE _ lB.1;have adX:aK (Kp.c p.lay.w)≤M:=Cg.c _ (by rw[lB.1.rows.n];exact Nat.le_refl _)
  have Kq:((Kp.m:Nat):Int)≤1000000:=by rw[lB.1.rows.m];omega
  have aaK:=fe.le fi (QU.trans QW);have QX:=((Kj.trans QQ).trans jo.1.le).trans (QU.trans QW);have QY:∀j,j<p.lay.w→aK (Kp.pt j)≤M:=fun j hj=>JB lB.1.wf Cg QN (by rw[lB.1.rows.n];exact hj);refine ab 1 rfl (ae [4,6,7,10] ?_)
  rcases aaJ with ⟨rfl,aaL⟩ | ⟨s,rfl,qp,QZ,aaM⟩
  ·
   skip
   refine af (ab 1 rfl (aS false rfl rfl (Mt (by decide)) (ae [4,6,7,10,90] ?_)));refine dG rfl (ax (aj [4,6,7] rfl ?_));refine af (ab 1 rfl (au rfl rfl (Ow (G:=((G.dh fB fC).dh vU vV)) Cf QV (by omega)) ?_));rintro v23 H23 ⟨Q0,adY,n23,d23,b23,rfl,aaN⟩;refine au rfl rfl (Fn.frame (gs:=((G.dh fB fC).dh vU vV).gs) (Q0.ne Cf.ne) (Nj aaN (by rw[xh];omega))) ?_;rintro v24 H24 ⟨⟨aaO,Q3⟩,aaP⟩;have FP:=Q0.trans ⟨aaO,aaP⟩;have Q4:=Cf.kept FP;have aaQ:=QV.kept FP;obtain⟨u24,w24,rfl,aaR,aaS⟩:=id Q3;obtain⟨A27,c27,rfl,_,_⟩:=aaR;obtain⟨l8,ma,rfl,_,_⟩:=aaS;refine ab 1 rfl (au rfl rfl (OH (G:=((G.dh fB fC).dh vU vV)) Q4 lB.1.wf kE QY (by omega) oa (by omega) Kq) ?_);rintro v25 H25 ⟨tG,aaT,A25,c25,x25,rfl,Kr,Ks,Kt⟩;refine ab 2 rfl (au rfl rfl (OI (G:=((G.dh fB fC).dh vU vV)) (n:=p.lp.n) (m:=p.lp.m) (N:=M) (f:=js p c) (Q4.kept tG) (aaQ.kept tG) kE (aaK.le fi (FP.le.trans tG.le)) (fun j _=>hl.js j) (fun j hj=>Cg.c j (by rw[lB.1.rows.n];exact Nat.le_of_lt hj)) (by omega) oa (by omega)) ?_);rintro v26 H26 ⟨yJ,aaU,A26,c26,x26,rfl,Ku,Kv,Kw⟩;refine dH ag rfl pI rfl rfl ?_
   obtain⟨ti,ak,al⟩:=lL;refine aM (.inl ⟨rfl,rfl⟩) rfl rfl rfl ak al rfl rfl rfl (ab 1 rfl (ae [4,5] ?_));obtain⟨bO,aI,aJ⟩:=lL;refine aw ⟨.inr rfl,_,.agg rfl Tryz.underlying35 aI aJ (.tmp rfl (.nil)),?_⟩;exact aau a8 gC hl ((((QX.trans FP.le).trans tG.le).trans yJ.le).trans (bn _ _)) lB aaL (dI.le Q3 ((tG.le.trans yJ.le).trans (bn _ _))) (aH.le ⟨_,_,_,rfl,Kr,Ks,Kt⟩ gZ (yJ.le.trans (bn _ _))) (aH.le ⟨_,_,_,rfl,Ku,Kv,Kw⟩ gZ (bn _ _))
  skip
  refine af (ab 1 rfl (aS true rfl rfl (Ms (by omega)) (ae [4,6,7,10,90] ?_)));refine eL rfl (af (ab 1 rfl (au rfl rfl (OH (G:=((G.dh fB fC).dh vU vV)) Cf lB.1.wf kE QY (by omega) oa (by omega) Kq) ?_)));rintro v25 H25 ⟨tG,aaT,A25,c25,x25,rfl,Kr,Ks,Kt⟩;have kz:=jr p;have x5:=P0 lB.1.wf QZ;refine ab 2 rfl (au rfl rfl (XZ (G:=((G.dh fB fC).dh vU vV)) (N:=M) (s:=s) (Cf.kept tG) lB.1.wf kE (Nat.lt_of_lt_of_le qp kz) x5 (fun i hi=>Cg.A i hi s (by rw[lB.1.rows.n];exact Nat.le_of_lt (Nat.lt_of_lt_of_le qp kz))) (fun j _=>PZ lB.1.wf Cg QN (by rw[lB.1.rows.n];exact Nat.le_of_lt (Nat.lt_of_lt_of_le qp kz)) x5) (by omega) oa (by omega) Kq) ?_);rintro v26 H26 ⟨yJ,aaU,A26,c26,x26,rfl,Ku,Kv,Kw⟩;refine dH ag rfl pI rfl rfl ?_;obtain⟨ti,ak,al⟩:=lL;refine aM (.inl ⟨rfl,rfl⟩) rfl rfl rfl ak al rfl rfl rfl (ab 1 rfl (ae [4,5] ?_));obtain⟨bO,aI,aJ⟩:=lL;refine aw ⟨.inr rfl,_,.agg rfl Tryz.underlying35 aI aJ (.tmp rfl (.nil)),?_⟩;exact aav a8 gC hl (((QX.trans tG.le).trans yJ.le).trans (bn _ _)) lB qp QZ aaM (aH.le ⟨_,_,_,rfl,Kr,Ks,Kt⟩ gZ (yJ.le.trans (bn _ _))) (aH.le ⟨_,_,_,rfl,Ku,Kv,Kw⟩ gZ (bn _ _))
end Go.ar
namespace Go.ar
open Go.Proofs Num Lp
theorem Q5{H:Heap}{f:Bool}{A1 A2:Option Addr}{m1 c1 m2 c2:Nat}:
 Fn Tryz.prog 42 #[.agg #[.bool f,.slice A1 m1 c1,.slice A2 m2 c2]] H (nH H (.bool (decide (m1≤2∧m2≤2)))):=by
 refine aW (args:=[_]) Tryz.func42 rfl rfl Tryz.ntmps42 rfl rfl fun w0=> ?_;refine aj [0] rfl ?_;refine af (bY rfl rfl (ab 1 rfl (ae [1] ?_)))
 by_cases h1:m1≤2
 ·
  skip
  by_cases h2:m2≤2
  ·
   skip
   refine af (ab 3 rfl (aS true rfl rfl (pN (by omega)) (ab 4 rfl (aS true rfl rfl (pN (by omega)) (ab 2 rfl (ae [2] ?_))))));refine aw ⟨.inr rfl,_,.tmp rfl (.nil),?_⟩;exact⟨rfl,by rw[decide_eq_true ⟨h1,h2⟩];rfl⟩
  ·
   skip
   refine af (ab 3 rfl (aS true rfl rfl (pN (by omega)) (ab 4 rfl (aS false rfl rfl (wQ (by omega)) (ab 2 rfl (ae [2] ?_))))));refine aw ⟨.inr rfl,_,.tmp rfl (.nil),?_⟩;exact⟨rfl,by rw[decide_eq_false (fun h=>h2 h.2)];rfl⟩
 ·
  skip
  refine af (ab 3 rfl (aS false rfl rfl (wQ (by omega)) (ab 7 rfl (ae [2] ?_))));refine aw ⟨.inr rfl,_,.tmp rfl (.nil),?_⟩;exact⟨rfl,by rw[decide_eq_false (fun h=>h1 h.1)];rfl⟩
end Go.ar
namespace Go.ar
section
variable {P:Program} {n:Nat} {all:Array Oper} {md:Mode} {tb:Tb} {s:St} {H:Heap} {K:St→Heap→Prop} {r:List Oper} {ty:TypeId} {pos:String} {after:Array Edge} {gd:Option (Nat×Bool)}
theorem FQ(s:St)(d:Nat)(v:Value):ev (put s d (.val v)) (.tmp d)=some v:=by simp[ev,put]
theorem aaV{t t2 t3:TypeId}{x i:Operand}{A:Option Addr}{m c d1 d2 f o z:Nat}{vW:Option Nat}{oy Kx:TypeId}{oz Ky:String}{oA Kz:Array Edge}{kq Ch:Option (Nat×Bool)}{k:IntKind}{j:Int}{e sz oE:Nat}{ps:List (Nat×Nat)}{ti:Ti}{xs:List Value}{v:Value}
  (cY:ja P tb) (ht:tb[t]? = some (.sl e sz)) (fF:tb[t2]? = some (.st oE ps)) (hf:ps[f]? = some (o,z)) (vH:tb[t3]? = some ti) (h1:ub ti=true) (hx:ev s x=some (.slice A m c)) (hi:ev s i=some (.int k j)) (hr:Rd H A xs) (hv:xs[j.toNat*sz+o]? = some v) (h0:0≤j) (hm:j<m)
  (hk:∀a1 a2:Addr,aE P n all md r (aR (put (put s d1 (.val (.pointer (some a1)))) d2 (.val (.pointer (some a2)))) vW (.val v)) H K)
  (hg:bM all s gd=some true:=by rfl) (nb:md.nb s (some d1)=true:=by rfl)
  (dN:∀a1:Addr,bM all (put s d1 (.val (.pointer (some a1)))) kq=some true:=by exact fun _=>rfl) (uh:∀a1:Addr,md.nb (put s d1 (.val (.pointer (some a1)))) (some d2)=true:=by exact fun _=>rfl)
  (mA:∀a1 a2:Addr,bM all (put (put s d1 (.val (.pointer (some a1)))) d2 (.val (.pointer (some a2)))) Ch=some true:=by exact fun _ _=>rfl) (KA:∀a1 a2:Addr,md.nb (put (put s d1 (.val (.pointer (some a1)))) d2 (.val (.pointer (some a2)))) vW=true:=by exact fun _ _=>rfl):
  aE P n all md (⟨some d1,.indexAddr t x i,ty,pos,after,gd⟩::⟨some d2,.fieldAddr t2 (.tmp d1) f,oy,oz,oA,kq⟩::⟨vW,.load t3 (.tmp d2),Kx,Ky,Kz,Ch⟩::r) s H K:=by
 obtain⟨ad,rfl,hc⟩:=hr _ _ hv
 refine qJ cY ht hx hi h0 hm ?_ hg nb
 refine a4 (ad:=ad.add (j.toNat*sz)) cY fF hf (FQ _ _ _) ?_ (dN _) (uh _)
 refine aQ (ad:=(ad.add (j.toNat*sz)).add o) cY vH h1 (FQ _ _ _) (by rw[add_add];exact hc) ?_ (mA _ _) (KA _ _)
 exact hk _ _
theorem aaW{t t2 t3:TypeId}{x i:Operand}{A:Option Addr}{m c d1 d2 f o z:Nat}{vW:Option Nat}{oy Kx:TypeId}{oz Ky:String}{oA Kz:Array Edge}{kq Ch:Option (Nat×Bool)}{k:IntKind}{j:Int}{e sz oE oF:Nat}{ps uc:List (Nat×Nat)}{xs vs:List Value}
  (cY:ja P tb) (ht:tb[t]? = some (.sl e sz)) (fF:tb[t2]? = some (.st oE ps)) (hf:ps[f]? = some (o,z)) (vH:tb[t3]? = some (.st oF uc)) (hx:ev s x=some (.slice A m c)) (hi:ev s i=some (.int k j)) (hr:Rd H A xs) (hl:vs.length=oF) (hp:0<oF) (hv:∀(q:Nat)(v:Value),vs[q]? = some v→xs[j.toNat*sz+o+q]? = some v) (h0:0≤j) (hm:j<m)
  (hk:∀a1 a2:Addr,aE P n all md r (aR (put (put s d1 (.val (.pointer (some a1)))) d2 (.val (.pointer (some a2)))) vW (.val (.agg vs.toArray))) H K)
  (hg:bM all s gd=some true:=by rfl) (nb:md.nb s (some d1)=true:=by rfl)
  (dN:∀a1:Addr,bM all (put s d1 (.val (.pointer (some a1)))) kq=some true:=by exact fun _=>rfl) (uh:∀a1:Addr,md.nb (put s d1 (.val (.pointer (some a1)))) (some d2)=true:=by exact fun _=>rfl)
  (mA:∀a1 a2:Addr,bM all (put (put s d1 (.val (.pointer (some a1)))) d2 (.val (.pointer (some a2)))) Ch=some true:=by exact fun _ _=>rfl) (KA:∀a1 a2:Addr,md.nb (put (put s d1 (.val (.pointer (some a1)))) d2 (.val (.pointer (some a2)))) vW=true:=by exact fun _ _=>rfl):
  aE P n all md (⟨some d1,.indexAddr t x i,ty,pos,after,gd⟩::⟨some d2,.fieldAddr t2 (.tmp d1) f,oy,oz,oA,kq⟩::⟨vW,.load t3 (.tmp d2),Kx,Ky,Kz,Ch⟩::r) s H K:=by
 obtain⟨ad,rfl,hc⟩:=hr _ _ (hv 0 _ (List.getElem?_eq_getElem (by omega)))
 refine qJ cY ht hx hi h0 hm ?_ hg nb
 refine a4 (ad:=ad.add (j.toNat*sz)) cY fF hf (FQ _ _ _) ?_ (dN _) (uh _)
 refine wG (ad:=(ad.add (j.toNat*sz)).add o) (vs:=vs) cY vH (FQ _ _ _) hl (fun q v hq=>by
  obtain⟨L7,h1,h2⟩:=hr _ _ (hv q v hq)
  cases h1
  rw[add_add,add_add,←Nat.add_assoc];exact h2) ?_ (mA _ _) (KA _ _)
 exact hk _ _
end
end Go.ar
namespace Go.ar
open Go.Proofs Num Lp
theorem bL.small{N:Nat}{H:Heap}{q:Rat}{f:Bool}{A1 A2:Option Addr}{m1 c1 m2 c2:Nat}(h:bL H (.agg #[.bool f,.slice A1 m1 c1,.slice A2 m2 c2]) q N)(h1:m1≤2)(h2:m2≤2):bL H (.agg #[.bool f,.slice A1 m1 c1,.slice A2 m2 c2]) q 2:=by
 obtain⟨f',u,w,l1,l2,e,k1,k2,k3,k4,k5,k6,k7⟩:=h
 have e':=xN (vs:=[.bool f,.slice A1 m1 c1,.slice A2 m2 c2]) e
 simp only[List.cons.injEq,and_true]at e'
 obtain⟨e1,e2,e3⟩:=e'
 refine⟨f',u,w,l1,l2,e,k1,k2,k3,k4,?_,?_,k7⟩
 ·obtain⟨A,c,e4,_⟩:=k1
  rw[e4]at e2
  cases e2;exact h1
 ·obtain⟨A,c,e4,_⟩:=k2
  rw[e4]at e3
  cases e3;exact h2
theorem aH.qq{N:Nat}{H:Heap}{xs:List Value}{l:List Rat}(h:bg (bJ N H) 3 xs l){i:Nat}{q:Rat}(hq:l[i]? = some q):∃f A1 m1 c1 A2 m2 c2,ea xs i 3 = [.bool f,.slice A1 m1 c1,.slice A2 m2 c2]∧bL H (.agg #[.bool f,.slice A1 m1 c1,.slice A2 m2 c2]) q N∧∀(j:Nat)(u:Value),[.bool f,.slice A1 m1 c1,.slice A2 m2 c2][j]? = some u→xs[i*3+j]? = some u:=by
 have h1:=h.at_ i q hq
 obtain⟨f,A,m,c,A',m',c',e⟩:=bJ.cells h1
 refine⟨f,A,m,c,A',m',c',e,?_,fun j u hu=>HS (by rw[e];exact hu)⟩
 have h2:bL H (.agg (ea xs i 3).toArray) q N:=h1
 rwa [e]at h2
def Ci(N:Nat)(H:Heap)(vs:List Value)(ls:List (List Rat)):Prop:=vs.length=ls.length∧∀(i:Nat)(v:Value)(l:List Rat),vs[i]? = some v→ls[i]? = some l→aH (bJ N) 3 H v l
theorem aaX{xs:List Value}{k:Nat}{a b c d e:Value}(h:∀(j:Nat)(u:Value),[a,b,c,d,e][j]? = some u→xs[k+j]? = some u):∀(q:Nat)(v:Value),[c,d,e][q]? = some v→xs[k+2+q]? = some v:=fun q v hq=>by
 rw[Nat.add_assoc,Nat.add_comm 2 q];exact h (q+2) v hq
theorem aH.KB{N:Nat}{H:Heap}{xs:List Value}{l:List (List Rat×Int×Rat)}(h:bg (ez N H) 5 xs l){i:Nat}{r:List Rat×Int×Rat}(hq:l[i]? = some r):∃A0 c0 f A1 m1 c1 A2 m2 c2,ea xs i 5 = [.slice A0 r.1.length c0,.int .i64 r.2.1,.bool f,.slice A1 m1 c1,.slice A2 m2 c2]∧aH (bJ N) 3 H (.slice A0 r.1.length c0) r.1∧bL H (.agg #[.bool f,.slice A1 m1 c1,.slice A2 m2 c2]) r.2.2 N∧∀(j:Nat)(u:Value),[.slice A0 r.1.length c0,.int .i64 r.2.1,.bool f,.slice A1 m1 c1,.slice A2 m2 c2][j]? = some u→xs[i*5+j]? = some u:=by
 have h1:=h.at_ i r hq
 obtain⟨A0,c0,k,f,A1,m1,c1,A2,m2,c2,e,hk⟩:=h1.cells
 subst hk
 have h2:=h1
 rw[e]at h2
 obtain⟨c',f',u',w',e',h3,h4⟩:=id h2
 simp only[List.cons.injEq,and_true,true_and]at e'
 obtain⟨rfl,e1,rfl,rfl⟩:=e'
 exact⟨A0,c0,f,A1,m1,c1,A2,m2,c2,e,h3,h2.bound,fun j u hu=>HS (by rw[e];exact hu)⟩
structure Q6(H:Heap)(v:Value)(p:Prg)(n m:Nat):Prop where
 prog:dE 2 H v p
 gu:p.free.length≤n
 rows:p.rows.length≤m
 row:∀(i:Nat)(r:List Rat×Int×Rat),p.rows[i]? = some r→r.1.length≤n
theorem KC{H:Heap}{v:Value}{l:List Rat}{N n:Nat}(hv:aH (bJ N) 3 H v l)(hn:n≤1000):
 Fn Tryz.prog 11 #[v,.int .i64 (n:Int)] H (fun v' H'=>H'=H∧∃b,v' = .bool b∧(b=true→l.length≤n∧aH (bJ 2) 3 H v l)):=by
 obtain⟨A,c,xs,rfl,qK,hr,hx⟩:=hv;refine aW (args:=[_,_]) Tryz.func11 rfl rfl Tryz.ntmps11 rfl rfl fun w0=> ?_;refine aj [0,1] rfl ?_;refine af (ab 1 rfl (ae [0,1] ?_));refine aq (af (ab 4 rfl (ae [0,9] ?_)));refine az rfl (fun hb=> ?_) (fun hb=> ?_)
 ·
  skip
  refine af (ab 1 rfl (ae [4] ?_));refine aw ⟨.inr rfl,_,.tmp rfl (.nil),?_⟩;exact⟨rfl,false,rfl,fun h=>by cases h⟩
 ·
  have hb:l.length≤n:=by simpa using hb
  refine ax (aj [0] rfl ?_);refine aq (af (ab 3 rfl (ae [0,11,12] ?_)));refine aD (gj (fun(i:Nat)=>l.length-i) (fun(i:Nat)=>put (put (put (emp) 0 (.val (.slice A l.length c))) 11 (.val (.int .i64 (l.length:Int)))) 12 (.val (.int .i64 (i:Int)))) (fun(i:Nat) H'=>H'=H∧(∀(k:Nat)(q:Rat),k<i→l[k]? = some q→bJ 2 H (ea xs k 3) q)∧i≤l.length) 0 (⟨rfl,(fun k r h=>by omega),Nat.zero_le _⟩) ay ?_);rintro i H1 ⟨e1,iB,hi⟩;rw[e1];refine af (ab 1 rfl (ae [0,11,12,13] ?_));refine aq (az rfl (fun hb=> ?_) (fun hb=> ?_))
  ·
   have dX:i<l.length:=by simpa using hb
   obtain⟨q,hq⟩:∃q,l[i]? = some q:=⟨_,List.getElem?_eq_getElem dX⟩;obtain⟨f,A1,m1,c1,A2,m2,c2,jE,oc,KD⟩:=aH.qq hx hq;refine ax (aj [0,11,12] rfl ?_);refine aq (aD (af (ab 2 rfl (ae [0,5,11,12] ?_))));refine af (ab 2 rfl (cS ag rfl rfl rfl rfl (hr) rfl (by decide) (KD) (by omega) (by omega) fun _=>(au rfl rfl (Q5) ?_)));rintro v2 H2 ⟨e2,rfl⟩;rw[e2];refine ab 1 rfl (ae [0,11,12,20] ?_);refine az rfl (fun hb=> ?_) (fun hb=> ?_)
   ·
    skip
    refine af (ab 1 rfl (ae [4] ?_));refine aw ⟨.inr rfl,_,.tmp rfl (.nil),?_⟩;exact⟨rfl,false,rfl,fun h=>by cases h⟩
   have jY:m1≤2∧m2≤2:=by simpa using hb
   refine ax (aj [0,11,12] rfl ?_);refine aF rfl (aO rfl rfl ⟨by omega,by omega⟩ (ab 1 rfl (aA ?_)));exact⟨i+1,by omega,ay,rfl,(fun k q9 hk nY=>by by_cases h9:k<i;exact iB k q9 h9 nY;(obtain rfl:k=i:=by omega);rw[hq]at nY;cases nY;show bL _ _ _ _;rw[jE];exact oc.small jY.1 jY.2),by omega⟩
  have hb:l.length≤i:=by simpa using hb
  refine bC (aj [] rfl ?_);refine af (ab 1 rfl (ae [4] ?_));refine aw ⟨.inr rfl,_,.tmp rfl (.nil),?_⟩;exact⟨rfl,true,rfl,fun _=>⟨by omega,A,c,xs,rfl,qK,hr,hx.len,fun k q hq=>iB k q (by have h9:=(List.getElem?_eq_some_iff.1 hq).1;omega) hq⟩⟩
theorem aaY{H:Heap}{A:Option Addr}{k c:Nat}{vs:List Value}{ls:List (List Rat)}{N m n:Nat}(hr:Rd H A vs)(hk:k=ls.length)(hv:Ci N H vs ls)(hn:n≤1000)(hm:m≤1000):
 Fn Tryz.prog 41 #[.slice A k c,.int .i64 (m:Int),.int .i64 (n:Int)] H (fun v' H'=>H'=H∧∃b,v' = .bool b∧(b=true→Ci 2 H vs ls∧(∀l,l∈ls→l.length≤n)∧ls.length≤m)):=by
 refine aW (args:=[_,_,_]) Tryz.func41 rfl rfl Tryz.ntmps41 rfl rfl fun w0=> ?_;refine aj [0,1,2] rfl ?_;refine af (ab 1 rfl (ae [0,1,2] ?_));refine aq (af (ab 4 rfl (ae [0,2,11] ?_)));refine az rfl (fun hb=> ?_) (fun hb=> ?_)
 ·
  skip
  refine af (ab 1 rfl (ae [6] ?_));refine aw ⟨.inr rfl,_,.tmp rfl (.nil),?_⟩;exact⟨rfl,false,rfl,fun h=>by cases h⟩
 ·
  have hb:k≤m:=by simpa using hb
  refine ax (aj [0,2] rfl ?_);refine aq (af (ab 3 rfl (ae [0,2,13,14] ?_)));refine aD (gj (fun(i:Nat)=>k-i) (fun(i:Nat)=>put (put (put (put (emp) 0 (.val (.slice A k c))) 2 (.val (.int .i64 (n:Int)))) 13 (.val (.int .i64 (k:Int)))) 14 (.val (.int .i64 (i:Int)))) (fun(i:Nat) H'=>H'=H∧(∀(j:Nat)(v:Value)(l:List Rat),j<i→vs[j]? = some v→ls[j]? = some l→l.length≤n∧aH (bJ 2) 3 H v l)∧i≤k) 0 (⟨rfl,(fun j v l h=>by omega),Nat.zero_le _⟩) ay ?_);rintro i H1 ⟨e1,iB,hi⟩;rw[e1];refine af (ab 1 rfl (ae [0,2,13,14,15] ?_));refine aq (az rfl (fun hb=> ?_) (fun hb=> ?_))
  ·
   have dX:i<k:=by simpa using hb
   obtain⟨l,hle⟩:∃l,ls[i]? = some l:=⟨_,List.getElem?_eq_getElem (by omega)⟩;obtain⟨v,wZ⟩:∃v,vs[i]? = some v:=⟨_,List.getElem?_eq_getElem (by rw[hv.1];omega)⟩;have gw:=hv.2 i v l wZ hle;obtain⟨A0,c0,nQ,rfl,h0⟩:=id gw;refine ax (aj [0,2,13,14] rfl ?_);refine aq (aD (af (ab 2 rfl (ae [0,2,7,13,14] ?_))));refine af (ab 2 rfl (a9 ag rfl rfl rfl rfl rfl (hr) (wZ) (by omega) (by omega) fun _=>(ab 1 rfl (au rfl rfl (KC gw hn) ?_))));rintro v2 H2 ⟨e2,b2,rfl,bU⟩;rw[e2];refine ab 1 rfl (ae [0,2,13,14,23] ?_);refine az rfl (fun hb=> ?_) (fun hb=> ?_)
   ·
    skip
    refine af (ab 1 rfl (ae [6] ?_));refine aw ⟨.inr rfl,_,.tmp rfl (.nil),?_⟩;exact⟨rfl,false,rfl,fun h=>by cases h⟩
   have sW:b2=true:=by simpa using hb
   refine ax (aj [0,2,13,14] rfl ?_);refine aF rfl (aO rfl rfl ⟨by omega,by omega⟩ (ab 1 rfl (aA ?_)));exact⟨i+1,by omega,ay,rfl,(fun j v9 l9 hj BG jI=>by by_cases h9:j<i;exact iB j v9 l9 h9 BG jI;(obtain rfl:j=i:=by omega);rw[wZ]at BG;rw[hle]at jI;cases BG;cases jI;exact bU sW),by omega⟩
  have hb:k≤i:=by simpa using hb
  refine bC (aj [] rfl ?_);refine af (ab 1 rfl (ae [6] ?_));refine aw ⟨.inr rfl,_,.tmp rfl (.nil),?_⟩
  exact⟨rfl,true,rfl,fun _=>⟨⟨hv.1,fun j v l h1 h2=>(iB j v l (by have h9:=(List.getElem?_eq_some_iff.1 h2).1;omega) h1 h2).2⟩,(fun l hl=>by
   obtain⟨j,hj⟩:=List.getElem?_of_mem hl;have h9:=(List.getElem?_eq_some_iff.1 hj).1
   exact(iB j _ l (by omega) (List.getElem?_eq_getElem (by rw[hv.1];omega)) hj).1),by omega⟩⟩
theorem aaZ{H:Heap}{v:Value}{p:Prg}{N n m:Nat}(hp:dE N H v p)(hn:n≤1000)(hm:m≤1000):
 Fn Tryz.prog 40 #[v,.int .i64 (n:Int),.int .i64 (m:Int)] H (fun v' H'=>H'=H∧∃b,v' = .bool b∧(b=true→Q6 H v p n m)):=by
 obtain⟨fv,l7,rfl,eA,fa⟩:=id hp
 obtain⟨Af,cf,xf,rfl,kF,kG⟩:=eA.one
 obtain⟨Ar,cr,xr,rfl,iH,fQ,fA⟩:=fa;refine aW (args:=[_,_,_]) Tryz.func40 rfl rfl Tryz.ntmps40 rfl rfl fun w0=> ?_;refine aj [0,1,2] rfl ?_;refine af (bY rfl rfl (ab 1 rfl (ae [1,2,3] ?_)));refine aq ?_
 by_cases h1:(n:Int)<(p.free.length:Int)
 ·
  skip
  refine af (ab 4 rfl (aS true rfl rfl (pO h1) (ab 7 rfl (ae [1,3,19] ?_))));refine eL rfl (af (ab 1 rfl (ae [6] ?_)));refine aw ⟨.inr rfl,_,.tmp rfl (.nil),?_⟩;exact⟨rfl,false,rfl,fun h=>by cases h⟩
 ·
  skip
  by_cases h2:(m:Int)<(p.rows.length:Int)
  ·
   skip
   refine af (ab 4 rfl (aS false rfl rfl (lO (by omega)) (ab 5 rfl (aS true rfl rfl (pO h2) (ab 1 rfl (ae [1,3,19] ?_))))));refine eL rfl (af (ab 1 rfl (ae [6] ?_)));refine aw ⟨.inr rfl,_,.tmp rfl (.nil),?_⟩;exact⟨rfl,false,rfl,fun h=>by cases h⟩
  skip
  refine af (ab 4 rfl (aS false rfl rfl (lO (by omega)) (ab 5 rfl (aS false rfl rfl (lO (by omega)) (ab 1 rfl (ae [1,3,19] ?_))))));refine dG rfl (ax (aj [1,3] rfl ?_));refine aq (af (ab 4 rfl (ae [1,3,22,23] ?_)));refine aD (gj (fun(i:Nat)=>p.rows.length-i) (fun(i:Nat)=>put (put (put (put (emp) 1 (.val (.int .i64 (n:Int)))) 3 (.box [.slice Af p.free.length cf,.slice Ar p.rows.length cr])) 22 (.val (.int .i64 (p.rows.length:Int)))) 23 (.val (.int .i64 (i:Int)))) (fun(i:Nat) H'=>H'=H∧(∀(k:Nat)(r:List Rat×Int×Rat),k<i→p.rows[k]? = some r→r.1.length≤n∧ez 2 H (ea xr k 5) r)∧i≤p.rows.length) 0 (⟨rfl,(fun k r h=>by omega),Nat.zero_le _⟩) ay ?_);rintro i H1 ⟨e1,iB,hi⟩;rw[e1];refine af (ab 1 rfl (ae [1,3,22,23,24] ?_));refine aq (az rfl (fun hb=> ?_) (fun hb=> ?_))
  ·
   have dX:i<p.rows.length:=by simpa using hb
   obtain⟨r,hr⟩:∃r,p.rows[i]? = some r:=⟨_,List.getElem?_eq_getElem dX⟩;obtain⟨A0,c0,f,A1,m1,c1,A2,m2,c2,jE,gw,oc,jK⟩:=aH.KB fA hr;refine ax (aj [1,3,22,23] rfl ?_);refine aq (aD (af (ab 2 rfl (ae [1,3,7,22,23] ?_))));refine af (ab 3 rfl (aaV ag rfl rfl rfl rfl rfl rfl rfl (fQ) (jK 0 _ rfl) (by omega) (by omega) fun _ _=>(ab 1 rfl (au rfl rfl (KC gw hn) ?_))));rintro v2 H2 ⟨e2,b2,rfl,bU⟩;rw[e2]
   cases b2
   ·
    skip
    refine ab 11 rfl (ae [1,3,22,23,44] ?_);refine eL rfl (af (ab 1 rfl (ae [6] ?_)));refine aw ⟨.inr rfl,_,.tmp rfl (.nil),?_⟩;exact⟨rfl,false,rfl,fun h=>by cases h⟩
   skip
   refine ab 5 rfl (aaW ag rfl rfl rfl rfl rfl rfl (fQ) rfl (by decide) (aaX jK) (by omega) (by omega) fun _ _=>(au rfl rfl (Q5) ?_));rintro v3 H3 ⟨e3,rfl⟩;rw[e3];refine ab 2 rfl (ae [1,3,22,23,44] ?_);refine az rfl (fun hb=> ?_) (fun hb=> ?_)
   ·
    skip
    refine af (ab 1 rfl (ae [6] ?_));refine aw ⟨.inr rfl,_,.tmp rfl (.nil),?_⟩;exact⟨rfl,false,rfl,fun h=>by cases h⟩
   have h3:m1≤2∧m2≤2:=by simpa using hb
   refine ax (aj [1,3,22,23] rfl ?_);refine aF rfl (aO rfl rfl ⟨by omega,by omega⟩ (ab 1 rfl (aA ?_)));exact⟨i+1,by omega,ay,rfl,(fun k r9 hk jt=>by by_cases h9:k<i;exact iB k r9 h9 jt;(obtain rfl:k=i:=by omega);rw[hr]at jt;cases jt;exact⟨(bU rfl).1,_,_,_,_,jE,(bU rfl).2,oc.small h3.1 h3.2⟩),by omega⟩
  have hb:p.rows.length≤i:=by simpa using hb
  refine bC (aj [] rfl ?_);refine af (ab 1 rfl (ae [6] ?_));refine aw ⟨.inr rfl,_,.tmp rfl (.nil),?_⟩;exact⟨rfl,true,rfl,fun _=>⟨⟨_,_,rfl,eA,Ar,cr,xr,rfl,iH,fQ,fA.len,fun k r hr=>(iB k r (by have h9:=(List.getElem?_eq_some_iff.1 hr).1;omega) hr).2⟩,by omega,by omega,fun k r hr=>(iB k r (by have h9:=(List.getElem?_eq_some_iff.1 hr).1;omega) hr).1⟩⟩
end Go.ar
namespace Go.ar
open Go.Proofs Num Lp
theorem aH.Q7{N:Nat}{H:Heap}{v:Value}{l:List Rat}(h:aH (bJ N) 3 H v l):∀q,q∈l→aK q≤N+2:=fun q hq=>by
 obtain⟨A,cc,xs,_,_,_,h4⟩:=h
 obtain⟨k,hk⟩:=List.getElem?_of_mem hq
 exact bL.size (h4.at_ k q hk)
theorem KE{l:List Rat}{j:Nat}(h:j<l.length):fn l j∈l:=by
 rw[iu (List.getElem?_eq_getElem h)];exact List.getElem_mem h
theorem KF(f:Bool)(A A':Option Addr)(k c k' c':Nat):∀u,u∈[Value.bool f,.slice A k c,.slice A' k' c']→u.oneCell'=true:=fun u hu=>by
 simp only[List.mem_cons,List.not_mem_nil,or_false]at hu
 rcases hu with rfl | rfl | rfl <;> rfl
theorem KG{α:Type}{P:List Value→α→Prop}{sz:Nat}{vs xs:List Value}{a:α}{l:List α}(h:P vs a)(hl:vs.length=sz)(k:bg P sz xs l):bg P sz (vs++xs) (a::l):=(iq h hl).append k
theorem aH.Cj{H:Heap}{v:Value}{l:List Rat}{N:Nat}(h:aH fy 3 H v l)(hs:∀q,q∈l→aK q≤N):aH (bJ N) 3 H v l:=by
 obtain⟨A,c,xs,h1,h2,h3,h4⟩:=h
 exact⟨A,c,xs,h1,h2,h3,h4.len,fun i a ha=>fy.rat (h4.at_ i a ha) (hs a (List.mem_of_getElem? ha))⟩
theorem aH.mono{α:Type}{P P':Heap→List Value→α→Prop}{sz:Nat}{H:Heap}{v:Value}{l:List α}(h:aH P sz H v l)(hp:∀vs a,P H vs a→P' H vs a):aH P' sz H v l:=by
 obtain⟨A,c,xs,h1,h2,h3,h4⟩:=h
 exact⟨A,c,xs,h1,h2,h3,h4.mono hp⟩
theorem bJ.mono{N M:Nat}{H:Heap}{vs:List Value}{q:Rat}(h:bJ N H vs q)(hl:N≤M):bJ M H vs q:=bL.mono h hl
theorem dE.mono{N M:Nat}{H:Heap}{v:Value}{p:Prg}(h:dE N H v p)(hl:N≤M):dE M H v p:=by
 obtain⟨fv,rv,h1,h2,h3⟩:=h
 exact⟨fv,rv,h1,h2,h3.mono fun vs r ⟨c,f,u,w,k1,k2,k3⟩=>⟨c,f,u,w,k1,k2.mono fun _ _ h=>h.mono hl,k3.mono hl⟩⟩
theorem aa0(q:Rat):qV q q=0:=by unfold qV;simp
theorem KH{k:Nat}:∀{l:List Rat},(∀q,q∈l→ao.wt q≤k)→ao.cC l≤l.length*k
 | [],_=>Nat.zero_le _
 | q::l,h=>by
  have h1:=h q (List.mem_cons_self ..)
  have h2:=KH (l:=l) fun r hr=>h r (List.mem_cons_of_mem _ hr)
  simp only[ao.cC,List.length_cons,Nat.add_mul];omega
theorem KI{H:Heap}{N:Nat}:bL H (.agg #[.bool false,.slice none 0 0,.slice none 0 0]) 0 N:=
 ⟨false,_,_,[],[],rfl,⟨none,0,rfl,Nat.le_refl _,Rd.nil _ _⟩,⟨none,0,rfl,Nat.le_refl _,Rd.nil _ _⟩,(fun x h=>by cases h),(fun x h=>by cases h),Nat.zero_le _,Nat.zero_le _,by decide⟩
theorem ez.aa1{N:Nat}{H:Heap}{r:List Rat×Int×Rat}{v0:Value}{f:Bool}{u w:Value}(h:ez N H [v0,.int .i64 r.2.1,.bool f,u,w] r):aH (bJ N) 3 H v0 r.1:=by
 obtain⟨c,f',u',w',h1,h2,_⟩:=h
 simp only[List.cons.injEq]at h1
 rw[h1.1];exact h2
theorem ez.size{N:Nat}{H:Heap}{r:List Rat×Int×Rat}{vs:List Value}(h:ez N H vs r):∀q,q∈r.1→aK q≤N+2:=fun q hq=>by
 obtain⟨c,f',u',w',_,⟨A,cc,xs,_,_,_,h4⟩,_⟩:=h
 obtain⟨k,hk⟩:=List.getElem?_of_mem hq
 exact bL.size (h4.at_ k q hk)
theorem aa2{M:Nat}(n:Nat)(a b:Nat→Rat)(ha:∀j,j<n→aK (a j)≤M)(hb:∀j,j<n→aK (b j)≤M):aK (a5 n a b)≤n*(2*M+2)+1:=by
 unfold a5
 induction n with
 | zero=>rw[sT,Nat.zero_mul];exact(show aK (0:Rat)≤1 by decide)
 | succ n ih=>
  rw[eu,Nat.succ_mul]
  have h1:=HX (aP n (fun j=>a j*b j)) (a n*b n)
  have h2:=pU (a n) (b n)
  have h3:=ih (fun j hj=>ha j (by omega)) (fun j hj=>hb j (by omega))
  have h4:=ha n (by omega)
  have h5:=hb n (by omega)
  omega
theorem aH.rat{N:Nat}{H:Heap}{v:Value}{l:List Rat}(h:aH (bJ N) 3 H v l):∃A c xs,v = .slice A l.length c∧Rd H A xs∧∀(i:Nat)(q:Rat),l[i]? = some q→∃f A1 m1 c1 A2 m2 c2,bL H (.agg #[.bool f,.slice A1 m1 c1,.slice A2 m2 c2]) q N∧∀(j:Nat)(u:Value),[.bool f,.slice A1 m1 c1,.slice A2 m2 c2][j]? = some u→xs[i*3+j]? = some u:=by
 obtain⟨A,c,xs,h1,_,h3,h4⟩:=h
 refine⟨A,c,xs,h1,h3,fun i q hq=> ?_⟩
 obtain⟨vs,_,h5,h6⟩:=h4.get hq
 obtain⟨f,u,w,l1,l2,k1,k2,k3,_⟩:=id h5
 obtain⟨A1,c1,rfl,_⟩:=k2
 obtain⟨A2,c2,rfl,_⟩:=k3
 obtain rfl:=xN k1
 exact⟨f,_,_,_,_,_,_,h5,h6⟩
structure RC where
 f:Bool
 A1:Option Addr
 m1:Nat
 c1:Nat
 A2:Option Addr
 m2:Nat
 c2:Nat
abbrev RC.v(t:RC):Value:= .agg #[.bool t.f,.slice t.A1 t.m1 t.c1,.slice t.A2 t.m2 t.c2]
theorem dI.rc{H:Heap}{v:Value}{q:Rat}(h:dI H v q):∃t:RC,v=t.v:=by
 obtain⟨u,w,rfl,hu,hw⟩:=h
 obtain⟨A1,c1,rfl,_⟩:=id hu
 obtain⟨A2,c2,rfl,_⟩:=id hw
 exact⟨⟨_,A1,_,c1,A2,_,c2⟩,rfl⟩
def aa3(H:Heap)(q:Rat)(v:Value)(H':Heap):Prop:=Heap.le H H'∧∃t:RC,v=t.v∧dI H' t.v q
theorem Fn.rc{P:Program}{f:FuncId}{args:Array Value}{H:Heap}{q:Rat}(h:Fn P f args H (iI H q)):Fn P f args H (aa3 H q):=h.mono fun v H' ⟨h1,h2⟩=>by
 obtain⟨t,rfl⟩:=h2.rc
 exact⟨h1,t,rfl,h2⟩
theorem aa4{p q:Rat}:qV p q≤0↔p≤q:=by unfold qV;split;(constructor <;> intro <;> grind);split;(constructor <;> intro <;> grind);(constructor <;> intro <;> grind)
theorem aa5{p q:Rat}:qV p q=0↔p=q:=by unfold qV;split;(constructor <;> intro <;> grind);split;(constructor <;> intro <;> grind);(constructor <;> intro <;> grind)
theorem dE.Q8{N:Nat}{H:Heap}{v:Value}{p:Prg}(h:dE N H v p):∃Af cf Ar cr,v = .agg #[.slice Af p.free.length cf,.slice Ar p.rows.length cr]:=by
 obtain⟨fv,rv,rfl,⟨Af,cf,_,rfl,_⟩,Ar,cr,_,rfl,_⟩:=h
 exact⟨Af,cf,Ar,cr,rfl⟩
end Go.ar
namespace Go.ar
open Go.Proofs Num Lp
structure dL{α:Type}(P:Heap→List Value→α→Prop)(e sz:Nat)(Hb H:Heap)(v:Value)(l:List α)(xs:List Value):Prop where
 own:bE H v e sz l.length xs
 jM:bg (P (rem H (aB v))) sz xs l
 base:Heap.le Hb (rem H (aB v))
section
variable {α:Type} {P:Heap→List Value→α→Prop} {e sz:Nat} {Hb H H':Heap} {v v':Value} {l:List α} {xs:List Value}
theorem dL.le(h:dL P e sz Hb H v l xs):Heap.le Hb H:=h.base.trans (bn _ _)
theorem dL.sl(h:dL P e sz Hb H v l xs)(up:Up P):aH P sz H v l:=zS.sl ⟨xs,h.own,h.jM.mono fun vs a=>up _ _ vs a (bn _ _)⟩
theorem qt:aB (.slice none 0 0) = []:=rfl
theorem Ck(H:Heap):dL P e sz H H (.slice none 0 0) [] []:=⟨mu H e sz,sR,by rw[qt,pS];exact .refl _⟩
theorem dL.mf(h:dL P e sz Hb H v l xs):∀q,q∈aB v→H q≠none:=fun q hq=>by
 obtain⟨en,he⟩:=h.own.block (du.1 hq)
 rw[he];simp
theorem dL.step(h:dL P e sz Hb H v l xs)(up:Up P)(hs:∀q,q∈aB v→H' q=H q)(hl:Heap.le (rem H (aB v)) (rem H' (aB v))):dL P e sz Hb H' v l xs:=
 ⟨h.own.same fun q hq=>hs q (du.2 hq),h.jM.mono fun vs a=>up _ _ vs a hl,h.base.trans hl⟩
theorem dL.od(h:dL P e sz Hb H v l xs)(up:Up P){aX:Value→Heap→Prop}{u:Value}(hf:sQ (aB v) aX H u H')(hl:∀v' K,aX v' K→Heap.le (rem H (aB v)) K):dL P e sz Hb H' v l xs:=h.step up hf.same (hl _ _ hf.post)
theorem dL.ins(h:dL P e sz Hb H v l xs)(up:Up P){g:Nat}(en:aG)(hg:H g=none):dL P e sz Hb (ins H g en) v l xs:=by
 have hn:¬g∈aB v:=fun hm=>h.mf g hm hg
 refine h.step up (fun q hq=>bA _ _ fun e=>hn (e▸hq)) ?_
 rw[qZ _ hn]
 exact Heap.a0 _ (by rw[bo hn];exact hg)
theorem dL.call(h:dL P e sz Hb H v l xs){Q:Program}{f:FuncId}{args:Array Value}{aX:Value→Heap→Prop}(hc:Fn Q f args (rem H (aB v)) aX):Fn Q f args H (sQ (aB v) aX H):=Fn.frame h.mf hc
theorem dL.append(h:dL P e sz Hb H v l xs)(up:Up P){m:Nat}{ys:List Value}{k:List α}(hm:m=l.length+k.length)(ha:App H v e sz m (xs++ys) v' H')(hy:bg (P (rem H (aB v))) sz ys k):dL P e sz Hb H' v' (l++k) (xs++ys):=by
 have hl:Heap.le (rem H (aB v)) (rem H' (aB v')):=fun q en hq=>by
  by_cases hm:q∈aB v
  ·rw[rem_in hm]at hq;cases hq
  ·rw[bo hm]at hq
   have h1:=ha.same q en hq fun e=>hm (du.2 e)
   have h2:¬q∈aB v':=fun h2=>by
    have h3:=du.1 h2
    rcases ha.at_ with h4 | ⟨g,h4,h5⟩
    ·exact hm (du.2 (h4▸h3))
    ·rw[h4]at h3;cases h3;rw[h5]at hq;cases hq
   exact⟨en,by rw[bo h2];exact h1,.refl _⟩
 refine⟨by rw[List.length_append,←hm];exact ha.own,?_,h.base.trans hl⟩
 exact(h.jM.mono fun vs a=>up _ _ vs a hl).append (hy.mono fun vs a=>up _ _ vs a hl)
theorem dL.form(h:dL P e sz Hb H v l xs):∃A c,v = .slice A l.length c:=h.own.form
end
theorem dL.vX{α:Type}{P:Heap→List Value→α→Prop}{e sz:Nat}{Hb H:Heap}{v:Value}{l:List α}{xs:List Value}(h:dL P e sz Hb H v l xs):dL P e sz (rem H (aB v)) H v l xs:=⟨h.own,h.jM,.refl _⟩
theorem dL.down{α:Type}{P:Heap→List Value→α→Prop}{e sz:Nat}{Hb Hc H:Heap}{v:Value}{l:List α}{xs:List Value}(h:dL P e sz Hb H v l xs)(hl:Heap.le Hc Hb):dL P e sz Hc H v l xs:=⟨h.own,h.jM,hl.trans h.base⟩
theorem FR(A0:Option Addr)(k0 c0:Nat)(z:Int)(f:Bool)(A A':Option Addr)(k c k' c':Nat):∀u,u∈[Value.slice A0 k0 c0,.int .i64 z,.bool f,.slice A k c,.slice A' k' c']→u.oneCell'=true:=fun u hu=>by
 simp only[List.mem_cons,List.not_mem_nil,or_false]at hu
 rcases hu with rfl | rfl | rfl | rfl | rfl <;> rfl
theorem tms{α β:Type}{f:α→β}{l:List α}{k:Nat}{z:α}(h:l[k]? = some z):(l.take (k+1)).map f=(l.take k).map f ++ [f z]:=by
 rw[List.take_add_one,h,List.map_append];rfl
theorem dI.form{H:Heap}{v:Value}{q:Rat}(h:dI H v q):∃f A1 m1 c1 A2 m2 c2,v = .agg #[.bool f,.slice A1 m1 c1,.slice A2 m2 c2]:=by
 obtain⟨u,w,rfl,hu,hw⟩:=h
 obtain⟨A1,c1,rfl,_⟩:=id hu
 obtain⟨A2,c2,rfl,_⟩:=id hw
 exact⟨_,_,_,_,_,_,_,rfl⟩
theorem KJ{α:Type}{l:List α}{k:Nat}{z:α}(h:l[k]? = some z):l.take (k+1)=l.take k ++ [z]:=by rw[List.take_add_one,h];rfl
end Go.ar
namespace Go.ar
open Go.Proofs Num Lp Go.RowKit
def fk(w:World):Heap:=fun g=>match w.heap[g]? with | some (.cells c t _)=>some ⟨c.toList,c.size,t,false⟩ | _=>none
theorem aa6{w:World}{g:Nat}{c:Array Value}{t:TypeId}{fz:Nat×Nat}(h:w.heap[g]? = some (.cells c t fz)):fk w g=some ⟨c.toList,c.size,t,false⟩:=by simp[fk,h]
theorem Q9{w:World}{g:Nat}{e:aG}(h:fk w g=some e):∃c t fz,w.heap[g]? = some (.cells c t fz)∧e=⟨c.toList,c.size,t,false⟩:=by
 unfold fk at h
 split at h
 ·rename_i c t fz hc
  exact⟨c,t,fz,hc,by simpa using h.symm⟩
 ·cases h
theorem aa7(w:World):Den (fk w) w:=fun g e h=>by
 obtain⟨c,t,fz,h1,rfl⟩:=Q9 h
 exact⟨_,h1,c,fz,rfl,rfl,(fun i v hv=>by simpa using hv),fun h=>by cases h⟩
theorem aa8{w:World}{a:Addr}{v:Value}(h:w.cell? a=some v):cell (fk w) a=some v:=by
 unfold World.cell? at h
 unfold cell
 cases hg:w.heap[a.block]? with
 | none=>rw[hg]at h;simp at h
 | some o=>
  cases o with
  | cells c t fz=>
   rw[aa6 hg]
   rw[hg]at h
   simpa using h
  | _=>rw[hg]at h;simp at h
theorem aa9{w w':World}{H':Heap}(hle:Heap.le (fk w) H')(hd:Den H' w')(hf:Fx (fk w) w H' w'):Below w.heap.size w w':=by
 refine⟨hf.os,hf.tape,hf.output,hf.size,fun k hk=> ?_⟩
 cases hg:fk w k with
 | none=>exact(hf.ia k hk hg).1
 | some e=>
  obtain⟨c,t,fz,h1,rfl⟩:=Q9 hg
  obtain⟨e',h2,h3⟩:=hle k _ hg
  obtain⟨o,h4,c1,TI,rfl,h5,h6,_⟩:=hd k e' h2
  obtain⟨c2,h7,h8⟩:=hf.form k c t fz h1
  rw[h4]at h7
  simp only[Option.some.injEq,Obj.cells.injEq]at h7
  obtain⟨rfl,h9,rfl⟩:=h7
  rw[h4,h1,h9]
  have:c1=c:=by
   apply Array.ext_getElem?
   intro i
   by_cases hi:i<c.size
   ·have fV:e'.xs[i]? = some c[i]:=Gs h3.2.2.2 (by simp[hi])
    rw[h6 i _ fV];simp[hi]
   ·rw[Array.getElem?_eq_none (by omega),Array.getElem?_eq_none (by omega)]
  rw[this]
theorem Fn.law{P:Program}{f:FuncId}{args:Array Value}{w:World}(h:Fn P f args (fk w) (fun v H'=>Heap.le (fk w) H'∧v = .bool true)):Calls P f args w fun e w'=>e = .returned (.bool true)∧Below w.heap.size w w':=
 (h.run w (aa7 w)).mono fun _ _ ⟨v,he,H',⟨h1,h2⟩,h3,h4⟩=>⟨by rw[he,h2],aa9 h1 h3 h4⟩
section
variable {Hy:Type} {enc:TypeId×Value→Hy} {P:Program} {w:World} {spare:Nat→Bool} {held:Bool}
theorem aba{α:Type}{Q:List Value→α→Prop}{sz:Nat}{xs cs:List Value}{l:List α}{b:α}(h:bg Q sz xs l)(hb:Q cs b)(hl:cs.length=sz):bg Q sz (xs++cs) (l ++ [b]):=h.append (iq hb hl)
theorem abb{H:Heap}{a:Addr}{xs cs:List Value}(h:Rd H (some a) xs)(k:∀i v,cs[i]? = some v→cell H (a.add (xs.length+i))=some v):Rd H (some a) (xs++cs):=fun i v hv=>by
 by_cases hi:i<xs.length
 ·rw[List.getElem?_append_left hi]at hv;exact h i v hv
 ·rw[List.getElem?_append_right (by omega)]at hv
  have:=k _ _ hv
  rw[show xs.length+(i-xs.length)=i by omega]at this
  exact⟨a,rfl,this⟩
theorem FT{α:Type}{Q:Heap→List Value→α→Prop}{t e sz:Nat}(ht:P.underlying t=some (.slice e))(hc:P.cellsOf e=sz)(hp:0<sz)(hq:∀n cs x,cs.length=sz→DataW.trod enc P w 0 spare held n e cs=some x→∃a,Q (fk w) cs a)
  {n:Nat} {cs:List Value} {x:DataW Hy×List MemPlace} (h:DataW.trod enc P w 0 spare held n t cs=some x):∃v l,cs = [v]∧aH Q sz (fk w) v (l:List α)∧l.length≤maxLen:=by
 rcases Deep.open_slice ht h with ⟨rfl,_⟩ | ⟨a,len,cap,m,n',D,Pl,rfl,_,hl,hm,hmm,_,hx⟩
 ·exact⟨_,[],rfl,jL,Nat.zero_le _⟩
 ·have J6:len≤m:=by rw[hmm];split <;> omega
  rw[hc]at hx
  have key:∀k,k≤len→∃xs l,l.length=k∧bg (Q (fk w)) sz xs (l:List α)∧Rd (fk w) (some a) xs:=by
   intro k
   induction k with
   | zero=>exact fun _=>⟨[],[],rfl,sR,Rd.nil _ _⟩
   | succ k ih=>
    intro hk
    obtain⟨xs,l,h1,h2,h3⟩:=ih (by omega)
    obtain⟨bN,h4,h5⟩:=hx k (by omega)
    obtain⟨_,h6,h7⟩:=World.cells?_some h4
    obtain⟨b,hb⟩:=hq _ _ _ h6 h5
    refine⟨xs++bN,l ++ [b],by simp[h1],aba h2 hb h6,abb h3 fun i v hv=> ?_⟩
    have hi:=(List.getElem?_eq_some_iff.1 hv).1
    have h8:=h7 i (by omega)
    rw[hv,add_add]at h8
    rw[h2.len,h1];exact aa8 h8
  obtain⟨xs,l,h1,h2,h3⟩:=key len (Nat.le_refl _)
  refine⟨_,l,rfl,⟨some a,cap,xs,by rw[h1],by omega,h3,h2⟩,by omega⟩
theorem wf_u32{z:Int}(h:(Lit.int .u32 z).wf=true):0≤z∧z<4294967296:=by
 simp[Lit.wf,IntKind.min,IntKind.max,IntKind.signed,IntKind.bits]at h;omega
theorem Ra{t e:Nat}(ht:P.underlying t=some (.slice e))(he:P.underlying e=some (.int .u32))(hc:P.cellsOf e=1){n:Nat}{cs:List Value}{x:DataW Hy×List MemPlace}(h:DataW.trod enc P w 0 spare held n t cs=some x):
  ∃v l,cs = [v]∧fI (fk w) v l∧(∀y,y∈l→y<4294967296)∧l.length≤maxLen:=by
 obtain⟨v,l,rfl,⟨A,c,xs,rfl,h2,h3,h4⟩,h5⟩:=FT (α:=Nat) (Q:=fun _ vs a=>vs = [.int .u32 (Int.ofNat a)]∧a<4294967296) ht hc (by decide) (fun n cs x hl h=>by
  obtain⟨z,rfl,_,hz⟩:=DataW.trod_int he h
  obtain⟨h1,h2⟩:=wf_u32 hz
  exact⟨z.toNat,by rw[show Int.ofNat z.toNat=z from Int.toNat_of_nonneg h1],by omega⟩) h
 refine⟨_,l,rfl,⟨A,c,rfl,h2,?_⟩,fun y hy=> ?_,h5⟩
 ·have:xs=U l:=by
   apply List.ext_getElem?
   intro i
   by_cases hi:i<l.length
   ·obtain⟨u,h6,h7⟩:=h4.one (List.getElem?_eq_getElem hi)
    rw[h6,cH (List.getElem?_eq_getElem hi)]
    have:=h7.1
    simpa using this
   ·rw[List.getElem?_eq_none (by rw[h4.len];omega),List.getElem?_eq_none (by rw[uz];omega)]
  rw[←this];exact h3
 ·obtain⟨i,hi⟩:=List.getElem?_of_mem hy
  exact(h4.at_ i y hi).2
theorem abc{t f0 f1 lu:Nat}{F0 F1 F2:Field}(ht:P.underlying t=some (.struct #[F0,F1,F2]))(e0:F0.type=f0∧F0.offset=0)(e1:F1.type=f1∧F1.offset=1)(e2:F2.type=f1∧F2.offset=2)(hb:P.underlying f0=some .bool)(hl:P.underlying f1=some (.slice lu))(hu:P.underlying lu=some (.int .u32))(hc:P.cellsOf lu=1)(c0:P.cellsOf f0=1)(c1:P.cellsOf f1=1)
  {n:Nat} {cs:List Value} {x:DataW Hy×List MemPlace} (h:DataW.trod enc P w 0 spare held n t cs=some x) (fe:cs.length=3):∃q,bJ maxLen (fk w) cs q:=by
 match cs,fe with
 | [a,b,c],_=>
  obtain⟨y0,y1,y2,m,_,_,h0,h1,h2⟩:=Deep.trod_struct3 ht h
  rw[e0.1,e0.2,c0]at h0
  rw[e1.1,e1.2,c1]at h1
  rw[e2.1,e2.2,c1]at h2
  obtain⟨f,k0,_⟩:=DataW.trod_bool hb h0
  obtain⟨u,l1,k1,k2,k3,k4⟩:=Ra hl hu hc h1
  obtain⟨v,l2,k5,k6,k7,k8⟩:=Ra hl hu hc h2
  simp at k0 k1 k5
  subst k0 k1 k5
  exact⟨_,_,_,_,l1,l2,rfl,k2,k6,k3,k7,k4,k8,rfl⟩
end
section
variable {Hy:Type} {enc:TypeId×Value→Hy} {w:World} {spare:Nat→Bool} {held:Bool}
theorem Rb:Tryz.prog.cellsOf 29=3:=by kernel_rfl
theorem Rc{n:Nat}{cs:List Value}{x:DataW Hy×List MemPlace}(h:DataW.trod enc Tryz.prog w 0 spare held n 29 cs=some x)(fe:cs.length=3):∃q,bJ maxLen (fk w) cs q:=
 abc Tryz.underlying29 ⟨rfl,rfl⟩ ⟨rfl,rfl⟩ ⟨rfl,rfl⟩ Tryz.underlying4 Tryz.underlying27 Tryz.underlying92 (by kernel_rfl) (by kernel_rfl) (by kernel_rfl) h fe
theorem Re{n:Nat}{cs:List Value}{x:DataW Hy×List MemPlace}(h:DataW.trod enc Tryz.prog w 0 spare held n 26 cs=some x):∃v l,cs = [v]∧aH (bJ maxLen) 3 (fk w) v l:=
 let ⟨v,l,h1,h2,_⟩:=FT (Q:=bJ maxLen) Tryz.underlying26 Rb (by decide) (fun _ _ _ hl h=>Rc h hl) h
 ⟨v,l,h1,h2⟩
theorem Rf{n:Nat}{cs:List Value}{x:DataW Hy×List MemPlace}(h:DataW.trod enc Tryz.prog w 0 spare held n 31 cs=some x)(fe:cs.length=5):∃r,ez maxLen (fk w) cs r:=by
 match cs,fe with
 | [a,b,c,d,e],_=>
  obtain⟨y0,y1,y2,m,_,_,h0,h1,h2⟩:=Deep.trod_struct3 Tryz.underlying31 h
  have c0:Tryz.prog.cellsOf 26=1:=by kernel_rfl
  have c1:Tryz.prog.cellsOf 3=1:=by kernel_rfl
  obtain⟨v,l,k0,k1⟩:=Re h0
  obtain⟨z,k2,_⟩:=DataW.trod_int Tryz.underlying3 h1
  simp only[c0,c1,Rb]at k0 k2 h2
  simp at k0 k2
  subst k0 k2
  obtain⟨q,hq⟩:=Rc h2 (by simp)
  have r7:bL (fk w) (.agg #[c,d,e]) q maxLen:=hq
  obtain⟨f,u,w',l1,l2,e1,hr⟩:=id r7
  have e2:=xN (vs:=[c,d,e]) e1
  simp only[List.cons.injEq,and_true]at e2
  obtain⟨rfl,rfl,rfl⟩:=e2
  exact⟨(l,z,q),_,_,_,_,rfl,k1,r7⟩
set_option maxRecDepth 100000 in
theorem abd{v:Value}{d:DataW Hy}{ps:List MemPlace}{b0:Nat}{rr:Reach}(hv:Value.okWide Tryz.prog w rr b0 25 v)(h:DataW.Trod enc Tryz.prog w 0 spare held 25 v d ps):∃p,dE maxLen (fk w) v p:=by
 obtain⟨cs,rfl,bV⟩:=WideShapes.okWide_struct Tryz.underlying25 hv
 have hC:Tryz.prog.cellsOf 25=2:=by kernel_rfl
 obtain⟨cs,rfl⟩:∃l:List Value,cs=l.toArray:=⟨cs.toList,by simp⟩
 match cs,(show cs.length=2 by rw[hC]at bV;simpa using bV)with
 | [a,b],_=>
  obtain⟨fuel,hf⟩:=h
  obtain⟨y0,y1,m,_,_,h0,h1⟩:=ChangeShapes.trod_struct2 Tryz.underlying25 hf
  have c0:Tryz.prog.cellsOf 22=1:=by kernel_rfl
  have c1:Tryz.prog.cellsOf 23=1:=by kernel_rfl
  have c2:Tryz.prog.cellsOf 4=1:=by kernel_rfl
  have c3:Tryz.prog.cellsOf 31=5:=by kernel_rfl
  obtain⟨fv,fl,k0,k1,_⟩:=FT (α:=Bool) (Q:=mW) Tryz.underlying22 c2 (by decide) (fun n cs x hl h=>by
   obtain⟨b,rfl,_⟩:=DataW.trod_bool Tryz.underlying4 h
   exact⟨b,rfl⟩) h0
  obtain⟨rv,rl,k2,k3,_⟩:=FT (Q:=ez maxLen) Tryz.underlying23 c3 (by decide) (fun n cs x hl h=>Rf h hl) h1
  simp only[c0,c1]at k0 k2
  simp[Value.cells]at k0 k2
  subst k0 k2
  exact⟨⟨fl,rl⟩,_,_,rfl,k1,k3⟩
set_option maxRecDepth 100000 in
theorem abe{v:Value}{d:DataW Hy}{ps:List MemPlace}{b0:Nat}{rr:Reach}(hv:Value.okWide Tryz.prog w rr b0 26 v)(h:DataW.Trod enc Tryz.prog w 0 spare held 26 v d ps):∃l,aH (bJ maxLen) 3 (fk w) v l:=by
 obtain⟨a,len,cap,rfl⟩:=WideShapes.okWide_slice Tryz.underlying26 hv
 obtain⟨fuel,hf⟩:=h
 obtain⟨v',l,k0,k1⟩:=Re hf
 simp[Value.cells]at k0
 subst k0
 exact⟨l,k1⟩
set_option maxRecDepth 100000 in
theorem abf{v:Value}{d:DataW Hy}{ps:List MemPlace}{b0:Nat}{rr:Reach}(hv:Value.okWide Tryz.prog w rr b0 31 v)(h:DataW.Trod enc Tryz.prog w 0 spare held 31 v d ps):∃cs r,v = .agg (List.toArray cs)∧ez maxLen (fk w) cs r:=by
 obtain⟨cs,rfl,bV⟩:=WideShapes.okWide_struct Tryz.underlying31 hv
 have hC:Tryz.prog.cellsOf 31=5:=by kernel_rfl
 obtain⟨cs,rfl⟩:∃l:List Value,cs=l.toArray:=⟨cs.toList,by simp⟩
 have hl:cs.length=5:=by rw[hC]at bV;simpa using bV
 obtain⟨fuel,hf⟩:=h
 obtain⟨r,hr⟩:=Rf (cs:=cs) (by simpa [Value.cells]using hf) hl
 exact⟨cs,r,rfl,hr⟩
end
end Go.ar
