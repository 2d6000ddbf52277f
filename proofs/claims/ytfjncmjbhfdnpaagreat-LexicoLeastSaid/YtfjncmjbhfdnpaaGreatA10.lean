/- Part 10 of the proof: Smp1, Mz3, Min, Keep1, Eng14, Keep2, Gen, Grw, Br1, Eng16, Fr1, Grw2, Cat, Grw3, Ent, Ent2, Eng15, Lx0, Lnd, Srt. -/
import Derived.Test.YtfjncmjbhfdnpaaGreatA09
import Derived.Deep.Slices
import Derived.Deep.Strs
import Derived.Carry
import Derived.Below
import Derived.DataElems
import Derived.Lib.LazyBuf
import Derived.Shelf.Sort.AssemblyIn
import Derived.Shelf.Slices.In.SortNone
import Derived.Sort.EveryDepth
set_option linter.unusedVariables false
namespace Go.au
open Go.Proofs Num Lp
theorem R2{H:Heap}{v:Value}{p:Prg}{N:Nat}(hp:eH N H v p):
 Fn Tryz.prog 47 #[v] H (fun v H'=>H'=H∧∃b,v = .bool b∧(b=true↔p.Ok)):=by
 obtain⟨fv,gB,rfl,eI,fk⟩:=hp
 obtain⟨Af,cf,xf,rfl,jk,jl⟩:=eI.one
 obtain⟨Ar,cr,xr,rfl,fy,iE⟩:=fk.row;refine a7 (args:=[_]) Tryz.func47 rfl rfl Tryz.ntmps47 rfl rfl fun w0=> ?_;refine aj [0] rfl ?_;refine ag (bX rfl rfl (ab 1 rfl (ae [1] ?_)));refine ao ?_
 by_cases h1:400<(p.free.length:Int)
 ·
  skip
  refine ag (ab 3 rfl (aI true rfl rfl (nn h1) (ab 6 rfl (ae [1,14] ?_))));refine dN rfl (ag (ab 1 rfl (ae [2] ?_)));refine aD ⟨.inr rfl,_,.tmp rfl (.nil),?_⟩;exact⟨rfl,false,rfl,⟨(fun h=>by cases h),(fun h=>by have h8:=h.iu;have h9:=h.rows;omega)⟩⟩
 ·
  skip
  by_cases h2:800<(p.rows.length:Int)
  ·
   skip
   refine ag (ab 3 rfl (aI false rfl rfl (jw (by omega)) (ab 4 rfl (aI true rfl rfl (nn h2) (ab 1 rfl (ae [1,14] ?_))))));refine dN rfl (ag (ab 1 rfl (ae [2] ?_)));refine aD ⟨.inr rfl,_,.tmp rfl (.nil),?_⟩;exact⟨rfl,false,rfl,⟨(fun h=>by cases h),(fun h=>by have h8:=h.iu;have h9:=h.rows;omega)⟩⟩
  skip
  refine ag (ab 3 rfl (aI false rfl rfl (jw (by omega)) (ab 4 rfl (aI false rfl rfl (jw (by omega)) (ab 1 rfl (ae [1,14] ?_))))));refine dU rfl (aA (aj [1] rfl ?_));refine ao (ag (ab 4 rfl (ae [1,16,17,18] ?_)));refine aF (gG (fun(i:Nat)=>p.rows.length-i) (fun(i:Nat)=>put (put (put (put (emp) 1 (.box [.slice Af p.free.length cf,.slice Ar p.rows.length cr])) 16 (.val (.slice Ar p.rows.length cr))) 17 (.val (.int .i64 (p.rows.length:Int)))) 18 (.val (.int .i64 (i:Int)))) (fun(i:Nat) H'=>H'=H∧(∀(k:Nat)(r:List Rat×Int×Rat),k<i→p.rows[k]? = some r→P3 p.free.length r)∧i≤p.rows.length) 0 (⟨rfl,(fun k r h=>by omega),Nat.zero_le _⟩) ar ?_);rintro i H1 ⟨e1,mf,hi⟩;rw[e1];refine ag (ab 1 rfl (ae [1,16,17,18,19] ?_));refine ao (aC rfl (fun hb=> ?_) (fun hb=> ?_))
  ·
   have aT:i<p.rows.length:=by simpa using hb
   obtain⟨r,hr⟩:∃r,p.rows[i]? = some r:=⟨_,List.getElem?_eq_getElem aT⟩;obtain⟨A0,c0,f,A1,m1,c1,A2,m2,c2,l4,me⟩:=iE i r hr;refine aA (aj [1,16,17,18] rfl ?_);refine ao (aF (ag (ck (vs:=[.slice A0 r.1.length c0,.int .i64 r.2.1,.bool f,.slice A1 m1 c1,.slice A2 m2 c2]) ah rfl rfl rfl rfl fy rfl (by decide) me (by omega) (by omega) fun _=>(bt gY rfl ?_))));obtain⟨ti,ak,al⟩:=nM;refine aH (.inl ⟨rfl,rfl⟩) rfl rfl rfl ak al rfl rfl rfl (ae [1,4,16,17,18] ?_);refine ao (ag (ab 7 rfl (ae [1,4,16,17,18,28] ?_)));refine aC rfl (fun hb=> ?_) (fun hb=> ?_)
   ·
    have cD:¬r.1.length=p.free.length:=by simpa [Int.natCast_inj]using hb
    refine ag (ab 1 rfl (ae [2] ?_));refine aD ⟨.inr rfl,_,.tmp rfl (.nil),?_⟩;exact⟨rfl,false,rfl,⟨(fun h=>by cases h),fun h=>absurd (h.row i r hr).1 cD⟩⟩
   have cD:r.1.length=p.free.length:=by simpa [Int.natCast_inj]using hb
   refine aA (aj [1,4,16,17,18] rfl ?_)
   by_cases h1:r.2.1=1
   ·
    skip
    refine ag (ab 2 rfl (aI false rfl rfl (wo h1) (ab 10 rfl (ae [1,16,17,18,41] ?_))));refine dU rfl (aA (aj [1,16,17,18] rfl ?_));refine aB rfl (aG rfl rfl ⟨by omega,by omega⟩ (ab 1 rfl (aw ?_)));exact⟨i+1,by omega,ar,rfl,(fun k r9 hk jm=>by by_cases h9:k<i;exact mf k r9 h9 jm;(obtain rfl:k=i:=by omega);rw[hr]at jm;cases jm;exact⟨cD,.inl h1⟩),by omega⟩
   skip
   by_cases h2:r.2.1=2
   ·
    skip
    refine ag (ab 2 rfl (aI true rfl rfl (uQ h1) (ab 3 rfl (aI false rfl rfl (wo h2) (ab 6 rfl (ae [1,16,17,18,41] ?_))))));refine dU rfl (aA (aj [1,16,17,18] rfl ?_));refine aB rfl (aG rfl rfl ⟨by omega,by omega⟩ (ab 1 rfl (aw ?_)));exact⟨i+1,by omega,ar,rfl,(fun k r9 hk jm=>by by_cases h9:k<i;exact mf k r9 h9 jm;(obtain rfl:k=i:=by omega);rw[hr]at jm;cases jm;exact⟨cD,.inr (.inl h2)⟩),by omega⟩
   skip
   by_cases h3:r.2.1=3
   ·
    skip
    refine ag (ab 2 rfl (aI true rfl rfl (uQ h1) (ab 3 rfl (aI true rfl rfl (uQ h2) (ab 4 rfl (aI false rfl rfl (wo h3) (ab 1 rfl (ae [1,16,17,18,41] ?_))))))));refine dU rfl (aA (aj [1,16,17,18] rfl ?_));refine aB rfl (aG rfl rfl ⟨by omega,by omega⟩ (ab 1 rfl (aw ?_)));exact⟨i+1,by omega,ar,rfl,(fun k r9 hk jm=>by by_cases h9:k<i;exact mf k r9 h9 jm;(obtain rfl:k=i:=by omega);rw[hr]at jm;cases jm;exact⟨cD,.inr (.inr h3)⟩),by omega⟩
   skip
   refine ag (ab 2 rfl (aI true rfl rfl (uQ h1) (ab 3 rfl (aI true rfl rfl (uQ h2) (ab 4 rfl (aI true rfl rfl (uQ h3) (ab 1 rfl (ae [1,16,17,18,41] ?_))))))));refine dN rfl (ag (ab 1 rfl (ae [2] ?_)));refine aD ⟨.inr rfl,_,.tmp rfl (.nil),?_⟩;exact⟨rfl,false,rfl,⟨(fun h=>by cases h),(fun h=>by have h9:=(h.row i r hr).2;omega)⟩⟩
  have hb:p.rows.length≤i:=by simpa using hb
  refine aV (aj [] rfl ?_);refine ag (ab 1 rfl (ae [2] ?_));refine aD ⟨.inr rfl,_,.tmp rfl (.nil),?_⟩;exact⟨rfl,true,rfl,⟨fun _=>⟨by omega,by omega,fun k r hr=>mf k r (by have h9:=(List.getElem?_eq_some_iff.1 hr).1;omega) hr⟩,fun _=>rfl⟩⟩
end Go.au
namespace Go.au
open Go.Proofs Num Lp
def R3(H:Heap)(v:Value)(S:qE):Prop:=∃f u w xv dv rv,v = .agg #[.int .i64 S.status,.bool f,u,w,xv,dv,rv]∧(bJ H (.agg #[.bool f,u,w]) S.value∨(S.value=0∧f=false∧u = .slice none 0 0∧w = .slice none 0 0))∧aR bZ 3 H xv S.x∧aR bZ 3 H dv S.jg∧aR bZ 3 H rv S.ray
def ZB(M:Nat)(S:qE):Prop:=∀q,q∈S.x∨q∈S.jg∨q∈S.ray∨q=S.value→aO q≤M
def ZC:Value:= .agg #[.int .i64 0,.bool false,.slice none 0 0,.slice none 0 0,.slice none 0 0,.slice none 0 0,.slice none 0 0]
def Ce(p:Prg)(c:List Rat)(S:qE):Prop:=S.status=1→∃T,I2 p c T∧S.value = -(T.c p.w)∧S.x=aK (dB.vec p.lay.pF p.lay.mF T.pt) p.lp.n
def Mx(p:Prg)(c:List Rat)(M:Nat)(H:Heap)(v:Value)(H':Heap):Prop:=Heap.le H H'∧∃s e,v = .tuple #[s,.int .i64 e]∧
 ((¬p.Ok∧e=1∧s=ZC)∨(p.Ok∧c.length≠p.free.length∧e=21∧s=ZC)∨(p.Ok∧c.length=p.free.length∧e=0∧∃S,R3 H' s S∧rR p c S∧ZB (2*M+2) S∧Ce p c S))
theorem ki{H:Heap}{α:Type}{P:Heap→List Value→α→Prop}{sz:Nat}:aR P sz H (.slice none 0 0) ([]:List α):=⟨none,0,[],rfl,Nat.le_refl _,(fun i v h=>by simp at h),u6⟩
theorem Cf{f:Nat→Rat}{n:Nat}{q:Rat}(h:q∈aK f n):∃j,j<n∧q=f j:=by
 unfold aK at h
 obtain⟨j,hj,e⟩:=List.mem_map.1 h
 exact⟨j,List.mem_range.1 hj,e.symm⟩
section
variable {p:Prg} {c:List Rat} {M:Nat} {T:aq} {H K:Heap}
theorem R4{N n:Nat}{z:Nat→Rat}(h0:1≤N)(hz:∀j,j<p.w→aO (z j)≤N){j:Nat}(hj:j<p.lp.n):aO (dB.vec p.lay.pF p.lay.mF z j)≤2*N+1:=by
 have h1:=tv (z (p.lay.pF j)) (ia z (p.lay.mF j))
 have h2:=hz _ (nY.pw j hj)
 have h3:aO (ia z (p.lay.mF j))≤N:=by
  rw[B5 hj]
  by_cases hf:p.lp.free j=true
  ·rw[if_pos hf]
   have:=Em p hj
   unfold mN at this
   rw[if_pos hf]at this
   have:=mc p
   have:=fj p
   exact hz _ (by omega)
  ·rw[if_neg hf];exact Nat.le_trans (show aO (0:Rat)≤1 by decide) h0
 unfold dB.vec;omega
theorem ZD{N:Nat}{f g:Nat→Rat}(hf:∀j,j<p.w→aO (f j)≤N)(hg:∀j,j<p.w→aO (g j)≤N){i:Nat}(hi:i<p.lp.m):aO (p.lay.sF i*(f (p.lay.uF i)-g (p.lay.uF i)))≤2*N+2:=by
 have h1:=vc (p.lay.sF i) (f (p.lay.uF i)-g (p.lay.uF i))
 have h2:=tv (f (p.lay.uF i)) (g (p.lay.uF i))
 have h3:=nY.s1 i hi
 have h4:=hf _ (nY.uw i hi)
 have h5:=hg _ (nY.uw i hi)
 omega
theorem aii(a8:p.Ok)(fi:c.length=p.free.length)(hl:Fits p c M)(hle:Heap.le H K)(h:Inv p (pn p) T)(hn:∀j,j<p.u→0≤T.c j)(fY:T.c p.w<0){dv:Value}
  (hd:aR bZ 3 K dv (aK (fun i=>p.lay.sF i*(pn p (p.lay.uF i)-T.c (p.lay.uF i))) p.lp.m)):Mx p c M H (.tuple #[.agg #[.int .i64 2,.bool false,.slice none 0 0,.slice none 0 0,.slice none 0 0,dv,.slice none 0 0],.int .i64 0]) K:=by
 have hz:=hl.B7 _ h
 refine⟨hle,_,_,rfl,.inr (.inr ⟨a8,fi,rfl,⟨2,0,[],_,[]⟩,⟨_,_,_,_,_,_,rfl,.inr ⟨rfl,rfl,rfl,rfl⟩,ki,hd,ki⟩,.inr (.inl ⟨rfl,rfl,rfl,rfl,fi,YW a8 h hn fY⟩),fun q hq=> ?_,fun e=>by cases e⟩)⟩
 rcases hq with hq | hq | hq | hq
 ·cases hq
 ·obtain⟨i,hi,rfl⟩:=Cf hq
  exact ZD (fun j _=>hl.pn j) (fun j hj=>hz.c j (by rw[h.rows.n];omega)) hi
 ·cases hq
 ·rw[hq];exact Nat.le_trans (show aO (0:Rat)≤2 by decide) (Nat.le_add_left 2 _)
theorem aij(a8:p.Ok)(fi:c.length=p.free.length)(hl:Fits p c M)(hle:Heap.le H K)(h:I2 p c T)(hn:∀j,j<p.u→0≤T.c j){f:Bool}{u w xv dv:Value}
  (hv:bJ K (.agg #[.bool f,u,w]) (-(T.c p.w))) (hx:aR bZ 3 K xv (aK (dB.vec p.lay.pF p.lay.mF T.pt) p.lp.n)) (hd:aR bZ 3 K dv (aK (fun i=>p.lay.sF i*(kt p c (p.lay.uF i)-T.c (p.lay.uF i))) p.lp.m)):
  Mx p c M H (.tuple #[.agg #[.int .i64 1,.bool f,u,w,xv,dv,.slice none 0 0],.int .i64 0]) K:=by
 have hz:=hl.oE _ h.1
 have h1:=YZ a8 fi h hn
 refine⟨hle,_,_,rfl,.inr (.inr ⟨a8,fi,rfl,⟨1,-(T.c p.w),_,_,[]⟩,⟨_,_,_,_,_,_,rfl,.inl hv,hx,hd,ki⟩,.inl ⟨rfl,rfl,h1.1,h1.2⟩,fun q hq=> ?_,fun _=>⟨T,h,rfl,rfl⟩⟩)⟩
 have hb:=hl.one
 rcases hq with hq | hq | hq | hq
 ·obtain⟨j,hj,rfl⟩:=Cf hq
  exact Nat.le_trans (R4 (n:=0) hb (fun j hj=>Ro h.1.wf hz hb (by rw[h.1.rows.n];exact hj)) hj) (by omega)
 ·obtain⟨i,hi,rfl⟩:=Cf hq
  exact ZD (fun j _=>hl.kt j) (fun j hj=>hz.c j (by rw[h.1.rows.n];omega)) hi
 ·cases hq
 ·rw[hq,wP]
  exact Nat.le_trans (hz.c p.w (by rw[h.1.rows.n];exact Nat.le_refl _)) (by omega)
theorem aik(a8:p.Ok)(fi:c.length=p.free.length)(hl:Fits p c M)(hle:Heap.le H K)(h:I2 p c T){s:Nat}(hs:s<p.u)(fY:T.c s<0)(hA:∀i,i<T.m→T.A i s≤0){xv rv:Value}
  (hx:aR bZ 3 K xv (aK (dB.vec p.lay.pF p.lay.mF T.pt) p.lp.n)) (hr:aR bZ 3 K rv (aK (dB.vec p.lay.pF p.lay.mF (T.dir s)) p.lp.n)):
  Mx p c M H (.tuple #[.agg #[.int .i64 3,.bool false,.slice none 0 0,.slice none 0 0,xv,.slice none 0 0,rv],.int .i64 0]) K:=by
 have hz:=hl.oE _ h.1
 have hb:=hl.one
 have mL:=fj p
 refine⟨hle,_,_,rfl,.inr (.inr ⟨a8,fi,rfl,⟨3,0,_,[],_⟩,⟨_,_,_,_,_,_,rfl,.inr ⟨rfl,rfl,rfl,rfl⟩,hx,ki,hr⟩,.inr (.inr ⟨rfl,rfl,rfl,Y0 a8 fi h hs fY hA⟩),fun q hq=> ?_,fun e=>by cases e⟩)⟩
 rcases hq with hq | hq | hq | hq
 ·obtain⟨j,hj,rfl⟩:=Cf hq
  exact Nat.le_trans (R4 (n:=0) hb (fun j hj=>Ro h.1.wf hz hb (by rw[h.1.rows.n];exact hj)) hj) (by omega)
 ·cases hq
 ·obtain⟨j,hj,rfl⟩:=Cf hq
  exact Nat.le_trans (R4 (n:=0) hb (fun j hj=>Y1 h.1.wf hz hb (by rw[h.1.rows.n];omega) (Y2 h.1.wf fY)) hj) (by omega)
 ·rw[hq];exact Nat.le_trans (show aO (0:Rat)≤2 by decide) (Nat.le_add_left 2 _)
end
end Go.au
namespace Go.au
open Go.Proofs Num Lp
theorem ail{H:Heap}{v cv:Value}{p:Prg}{c:List Rat}{M N:Nat}(hp:eH N H v p)(hc:aR (bN N) 3 H cv c)(hl:Fits p c M)(hcN:(c.length:Int)≤1099511627776)(hN:(N:Int)≤549755813888)(ann:(M:Int)≤34359738368):
 Fn Tryz.prog 12 #[v,cv] H (Mx p c M H):=by
 obtain⟨fv,gB,rfl,eI,fk⟩:=id hp
 obtain⟨Af,cf,xf,rfl,jk,jl⟩:=eI.one
 obtain⟨Ar,cr,xr,rfl,fy,iE⟩:=fk.row
 obtain⟨Ac,cc,xc,rfl,Mp,nT,QH⟩:=id hc;refine a7 (args:=[_,_]) Tryz.func12 rfl rfl Tryz.ntmps12 rfl rfl fun w0=> ?_;refine aj [0,1] rfl ?_;refine ag (bX rfl rfl (bt uM rfl (ab 1 rfl (ae [1,2,4] ?_))));refine ao (ag (ab 1 rfl (aE rfl rfl (R2 hp) ?_)));rintro v1 H1 ⟨e1,b1,rfl,fE⟩;rw[e1];refine ab 1 rfl (ae [1,2,4,13] ?_);refine aC rfl (fun hb=> ?_) (fun hb=> ?_)
 ·
  have hb:¬p.Ok:=fun h=>by have h9:=fE.2 h;rw[h9]at hb;simp at hb
  refine ag (dy ah rfl uM rfl rfl ?_);obtain⟨ti,ak,al⟩:=pN;refine aH (.inl ⟨rfl,rfl⟩) rfl rfl rfl ak al rfl rfl rfl (ab 1 rfl (ae [4,5] ?_));obtain⟨bQ,aM,aN⟩:=pN;refine aD ⟨.inr rfl,_,.agg rfl Tryz.underlying33 aM aN (.tmp rfl (.nil)),?_⟩;exact⟨.refl _,_,_,rfl,.inl ⟨hb,rfl,rfl⟩⟩
 ·
  have a8:p.Ok:=fE.1 (by simpa using hb);have jf:=a8.iu;have vD:=a8.rows;have RT:=HO p;have e1:p.lp.n=p.free.length:=rfl;have e2:p.lp.m=p.rows.length:=rfl
  have sD:(p.lay.w:Int)≤1000000:=by show ((p.w:Nat):Int)≤_;omega
  have ZE:((p.dZ.m:Nat):Int)≤1000000:=by show ((p.rows.length:Nat):Int)≤_;omega
  have ZG:=hl.one;refine aA (aj [1,2,4] rfl ?_);refine ao (ag (ab 6 rfl (ae [1,2,4,20] ?_)));refine aC rfl (fun hb=> ?_) (fun hb=> ?_)
  ·
   have hb:c.length≠p.free.length:=by simpa [Int.natCast_inj]using hb
   refine ag (dy ah rfl uM rfl rfl ?_);obtain⟨ti,ak,al⟩:=pN;refine aH (.inl ⟨rfl,rfl⟩) rfl rfl rfl ak al rfl rfl rfl (ab 1 rfl (ae [4,5] ?_));obtain⟨bQ,aM,aN⟩:=pN;refine aD ⟨.inr rfl,_,.agg rfl Tryz.underlying33 aM aN (.tmp rfl (.nil)),?_⟩;exact⟨.refl _,_,_,rfl,.inr (.inl ⟨a8,hb,rfl,rfl⟩)⟩
  have fi:c.length=p.free.length:=by simpa [Int.natCast_inj]using hb
  refine aA (aj [1,2,4] rfl ?_);refine ag (ab 1 rfl (aE rfl rfl (ahy (n:=p.free.length) (m:=p.rows.length) hp a8 rfl rfl hN) ?_));rintro v5 H5 ⟨G,rfl,wZ,ano,iO⟩;refine ab 1 rfl (ae [1,4,6] ?_);refine ag (ab 2 rfl (aE rfl rfl (Xv wZ sD) ?_));rintro v6 H6 ⟨qK,rV,Ru⟩;refine aE rfl rfl (XJ (N:=2*M) (f:=pn p) (wZ.kept qK) Ru (fun i hi=>nX p hi) (by omega) sD ZE (fun j _=>Nat.le_trans (hl.pn j) (by omega)) (fun i hi j _=>Nat.le_trans (hl.tab i hi j) (by omega)) hl.Rp) ?_;rintro _ H7 ⟨jn,jo,_,sE,sG,QJ⟩;refine ae [1,4,6] ?_;refine ag (ab 1 rfl (aE rfl rfl (Xm (G:=(G.eR jn jo)) (N:=M) (I:=Inv p (pn p)) sE sG (Inv.base B6) (fun S r s h hb=>h.step (by rw[h.rows.n];exact fj p) hb) (fun S h=>⟨h.wf,h.cZ,hl.B7 _ h,h.rows.m,h.rows.n⟩) (by omega) sD ZE) ?_));rintro v8 H8 ⟨T8,ua,qU,QI,qM,nZ⟩
  have Hs:∀j,j<p.u→0≤T8.c j:=by rcases nZ with ⟨_,h⟩ | ⟨s,_,h1,h2,h3⟩;exact h;exact(YY ua h1 h2 h3).elim
  have R6:=hl.B7 _ ua;have anp:aO (T8.c p.lay.w)≤M:=R6.c _ (by rw[ua.rows.n];exact Nat.le_refl _)
  have aim:((T8.m:Nat):Int)≤1000000:=by rw[ua.rows.m];omega
  refine ae [1,4,6] ?_;refine ao (ag (ab 1 rfl (aE rfl rfl (Xu (G:=(G.eR jn jo)) qU QI (by omega)) ?_)));rintro v9 H9 ⟨gQ,ix,n9,d9,b9,rfl,fJ⟩;refine aE rfl rfl (Fn.l0 (gQ.ne qU.ne) (tE fJ (by rw[wP];omega))) ?_;rintro v10 vt ⟨HW,EE,rfl⟩;have qV:=gQ.trans HW;have IA:=qU.kept qV;have My:=QI.kept qV;have R7:=((((iO.trans qK.le).trans QJ).trans qM).trans qV.le);refine ab 1 rfl (ae [1,4,6,33] ?_);refine aC rfl (fun hb=> ?_) (fun hb=> ?_)
  ·
   have fY:T8.c p.w<0:=by have h9:=DW.1 (show 0<gZ (-(T8.c p.lay.w)) by simpa using hb);have h8:T8.c p.lay.w=T8.c p.w:=rfl;grind
   refine ag (ab 2 rfl (aE rfl rfl (Xv (G:=(G.eR jn jo)) IA sD) ?_));rintro v11 ks ⟨Cg,R8,ain⟩;refine aE rfl rfl (XI (G:=(G.eR jn jo)) (n:=p.lp.n) (m:=p.lp.m) (N:=M) (f:=pn p) (IA.kept Cg) (My.kept Cg) nY ain (fun j _=>hl.pn j) (fun j hj=>R6.c j (by rw[ua.rows.n];exact Nat.le_of_lt hj)) (by omega) sD (by omega)) ?_;rintro v12 dK ⟨zq,nE,A12,c12,x12,rfl,aio,aip,aiq⟩;refine dy ah rfl uM rfl rfl ?_;obtain⟨ti,ak,al⟩:=pN;refine aH (.inl ⟨rfl,rfl⟩) rfl rfl rfl ak al rfl rfl rfl (ab 1 rfl (ae [4,5] ?_));obtain⟨bQ,aM,aN⟩:=pN;refine aD ⟨.inr rfl,_,.agg rfl Tryz.underlying33 aM aN (.tmp rfl (.nil)),?_⟩;exact aii a8 fi hl (((R7.trans Cg.le).trans zq.le).trans (bE _ _)) ua Hs fY (aR.le ⟨_,_,_,rfl,aio,aip,aiq⟩ dY (bE _ _))
  have fY:¬T8.c p.w<0:=fun h=>by have h9:¬0<gZ (-(T8.c p.lay.w)):=(by simpa using hb);exact h9 (DW.2 (by have h8:T8.c p.lay.w=T8.c p.w:=rfl;grind))
  refine aA (aj [1,4,6] rfl ?_);refine ag (ab 1 rfl (aE rfl rfl (age (G:=(G.eR jn jo)) (N:=M) (J:=Jx p) IA My ⟨ua,YX ua fY⟩ (fun k S h hk hd=>h.skip hd) (fun k S s h hk hu hs hp=>h.pivot hk hu hs hp) (fun k S h=>⟨hl.B7 _ h.1,by rw[h.1.rows.m,ua.rows.m],by rw[h.1.rows.n,ua.rows.n]⟩) (by omega) sD aim) ?_));rintro _ ks ⟨T11,R9,sH,EK,IB⟩;rw[ua.rows.m]at R9;have xH:=R9.1;refine ae [1,4,6] ?_;refine ag (ab 2 rfl (aU ah rfl rfl rfl (aS ah rfl rfl rfl (sH.iR) (aE rfl rfl (GV (gs:=(G.eR jn jo).gs) (n:=p.lay.w) sH.ne (by omega)) ?_))));rintro v12 dK ⟨nE,z,qH,rfl,BV,air⟩;refine ab 1 rfl (ae [1,4,6,7] ?_);refine ao (ag (ab 1 rfl (aE rfl rfl (Fn.LC (gs:=(z::(G.eR jn jo).gs)) (BV.ne sH.ne) (W3 (hc.le (dI N) ((R7.trans IB).trans BV.le)) (by omega) hcN)) ?_)));rintro v13 ma ⟨xD,p3,ais⟩;have LZ:=BV.kept xD;obtain⟨Av,cv,xv,rfl,l5,uD⟩:=ais.num;obtain⟨Ap,cp,xp,rZ,l4,BB⟩:=sH.self.plus.one;obtain⟨Am,cm,xm,vn,j8,GZ⟩:=sH.self.minus.one;rw[nY.LF]at rZ;rw[nY.LG]at vn;rw[fi];refine ab 2 rfl (ae [4,6,7,47,48,49] ?_);refine aF (gX (fun(k:Nat)(xs:List Value)=>p.free.length-k) (fun(k:Nat)(xs:List Value)=>put (put (put (put (put (put (emp) 4 (.box [.int .i64 0,.bool false,.slice none 0 0,.slice none 0 0,.slice none 0 0,.slice none 0 0,.slice none 0 0])) 6 (.val (.pointer (some ⟨G.g,0,none⟩)))) 7 (.val (.slice (some ⟨z,0,none⟩) p.lay.w p.lay.w))) 47 (.val (.slice Av p.free.length cv))) 48 (.val (.int .i64 (p.free.length:Int)))) 49 (.val (.int .i64 (k:Int)))) (fun(k:Nat)(xs:List Value) H'=>ft (G.eR jn jo).gs ks H' z xs (p.lay.w*3) 90∧bC (bR (rem H' (z::(G.eR jn jo).gs))) 3 xs (aK (ke p.lay (fn c) 1 k) p.lay.w)∧Heap.le (rem ma (z::(G.eR jn jo).gs)) (rem H' (z::(G.eR jn jo).gs))∧k≤p.free.length) 0 qH (⟨LZ,air _,.refl _,Nat.zero_le _⟩) ar ?_)
  rintro k xs qb ⟨xE,Sa,Sb,anq⟩;have ait:=xE.tab sH;have cP:=Sa.len;rw[bg]at cP;refine ag (ab 1 rfl (ae [4,6,7,47,48,49,50] ?_));refine ao (aC rfl (fun hb=> ?_) (fun hb=> ?_))
  ·
   have gi:k<p.free.length:=by simpa using hb
   obtain⟨q,jN⟩:∃q,c[k]? = some q:=⟨_,List.getElem?_eq_getElem (by omega)⟩;obtain⟨n1,d1,b1,dg,eV⟩:=uD k q jN;have nD:fn c k=q:=kT jN;have QT:aO q≤N+2:=cn.size (QH.at_ k q jN);obtain⟨up,G6,G8⟩:=BB k _ (nY.p gi);obtain⟨um,zj,Hi⟩:=GZ k _ (nY.mi gi)
   cases G8
   cases Hi
   have ag2:=nY.pw k gi;have ag3:=nY.mw k gi;rw[←nD]at dg;refine aA (aj [4,6,7,47,48,49] rfl ?_);refine ao (aF (ag (ab 1 rfl (ck (vs:=[.int .i64 n1,.int .i64 d1,.pointer b1]) ah rfl rfl rfl rfl ((l5.le Sb).le (bE _ _)) rfl (by decide) eV (by omega) (by omega) fun _=>(bt fg rfl (vr 1 ?_))))));obtain⟨ti,ak,al⟩:=cI;refine aH (.inl ⟨rfl,rfl⟩) rfl rfl rfl ak al rfl rfl rfl (ae [4,6,7,8,9,47,48,49] ?_);refine bO .gD [0,1,2,3,4,5,6,7,8,9,10] follows (by kernel_rfl) ?_;refine ab 3 rfl (aU ah rfl rfl rfl (aS ah rfl rfl rfl (show cell _ _=some (.slice Ap p.free.length cp)from by rw[←show (G.eR jn jo).pv = .slice Ap p.free.length cp from rZ];exact ait.cell 2 _ rfl) ?_));refine ab 1 rfl (aQ ah rfl rfl rfl rfl rfl (l4.le xE.hle) (by rw[Int.toNat_natCast];exact G6) (by omega) (by omega) fun _=> ?_);refine vr 1 ?_;obtain⟨ti,ak,al⟩:=cI;refine cQ (.inr rfl) ah rfl rfl rfl (by omega) (by omega) (xE.az) rfl (by show 0+p.lay.w*3≤xs.length;omega) ak al (fun _=>rfl) rfl rfl rfl fun _=> ?_;refine ae [4,6,7,8,9,47,48,49] ?_;have Ch:ft (G.eR jn jo).gs ks (ins qb z {(⟨xs,p.lay.w*3,90,true⟩:Ent)with xs:=aL xs (0+((p.lay.pF k:Nat):Int).toNat*3) [.int .i64 n1,.int .i64 d1,.pointer b1]}) z (aL xs (p.lay.pF k*3) [.int .i64 n1,.int .i64 d1,.pointer b1]) (p.lay.w*3) 90:=xE.set (by rw[Int.toNat_natCast];exact pd)
   have MA:bC (bR (rem (ins qb z {(⟨xs,p.lay.w*3,90,true⟩:Ent)with xs:=aL xs (0+((p.lay.pF k:Nat):Int).toNat*3) [.int .i64 n1,.int .i64 d1,.pointer b1]}) (z::(G.eR jn jo).gs))) 3 (aL xs (p.lay.pF k*3) [.int .i64 n1,.int .i64 d1,.pointer b1]) (aK (bV (ke p.lay (fn c) 1 k) (p.lay.pF k) (fn c k)) p.lay.w):=by
    rw[cF _ (List.mem_cons_self ..)];exact rX Sa (by omega) (dg.le Sb)
   have MB:Heap.le (rem ma (z::(G.eR jn jo).gs)) (rem (ins qb z {(⟨xs,p.lay.w*3,90,true⟩:Ent)with xs:=aL xs (0+((p.lay.pF k:Nat):Int).toNat*3) [.int .i64 n1,.int .i64 d1,.pointer b1]}) (z::(G.eR jn jo).gs)):=by rw[cF _ (List.mem_cons_self ..)];exact Sb
   show VC _ _ _ _ _ _ _ (ins qb z {(⟨xs,p.lay.w*3,90,true⟩:Ent)with xs:=aL xs (0+((p.lay.pF k:Nat):Int).toNat*3) [.int .i64 n1,.int .i64 d1,.pointer b1]})
   generalize ins qb z {(⟨xs,p.lay.w*3,90,true⟩:Ent)with xs:=aL xs (0+((p.lay.pF k:Nat):Int).toNat*3) [.int .i64 n1,.int .i64 d1,.pointer b1]}=mP at Ch MA MB⊢
   have ZH:=Ch.tab sH;have QW:=MA.len;rw[bg]at QW;refine ag (ab 2 rfl (aU ah rfl rfl rfl (aS ah rfl rfl rfl (show cell _ _=some (.slice Am p.free.length cm)from by rw[←show (G.eR jn jo).mv = .slice Am p.free.length cm from vn];exact ZH.cell 3 _ rfl) ?_)));refine ab 1 rfl (aQ ah rfl rfl rfl rfl rfl (j8.le Ch.hle) (by rw[Int.toNat_natCast];exact zj) (by omega) (by omega) fun _=> ?_);refine ab 1 rfl (ae [4,6,7,8,9,47,48,49,71] ?_);refine aC rfl (fun hb=> ?_) (fun hb=> ?_)
   ·
    have hb:0≤p.lay.mZ k:=by simpa using hb
    refine eu .gD [0,1,2,3,4,5,6,7,8,9,10,11] follows (by kernel_rfl) ?_;refine ab 3 rfl (aU ah rfl rfl rfl (aS ah rfl rfl rfl (show cell _ _=some (.slice Am p.free.length cm)from by rw[←show (G.eR jn jo).mv = .slice Am p.free.length cm from vn];exact ZH.cell 3 _ rfl) ?_));refine ab 1 rfl (aQ ah rfl rfl rfl rfl rfl (j8.le Ch.hle) (by rw[Int.toNat_natCast];exact zj) (by omega) (by omega) fun _=> ?_);refine ab 1 rfl (bm rfl rfl (Fn.lB (Ch.ne sH.ne) (DJ (dg.le MB) (by rw[nD];omega))) (fun _ _ h=>by first | exact h.le | exact h.1) ?_);rintro v17 H17 ⟨EL,vH,n7,d7,b7,rfl,MC⟩;have ZI:=Ch.kept EL;obtain⟨ti,ak,al⟩:=cI;refine cQ (.inr rfl) ah rfl rfl rfl (by omega) (by omega) (ZI.az) rfl (by show 0+p.lay.w*3≤(aL xs (p.lay.pF k*3) [.int .i64 n1,.int .i64 d1,.pointer b1]).length;omega) ak al (fun _=>rfl) rfl rfl rfl fun _=> ?_;refine aw ?_;have aiu:=ZI.set (pd (xs:=aL xs (p.lay.pF k*3) [.int .i64 n1,.int .i64 d1,.pointer b1]) (vs:=[.int .i64 n7,.int .i64 d7,.pointer b7]) (k:=(p.lay.mZ k).toNat) (sz:=3));refine aj [4,6,7,47,48,49] rfl ?_;refine aB rfl (aG rfl rfl ⟨by omega,by omega⟩ (ab 1 rfl (aw ?_)));exact⟨k+1,_,by omega,ar,aiu,by rw[cF _ (List.mem_cons_self ..),BS,if_pos hb,Rat.mul_one];exact rX (MA.mono fun vs a=>jh _ _ vs a EL.le) (by omega) MC,by rw[cF _ (List.mem_cons_self ..)];exact MB.trans EL.le,by omega⟩
   have hb:¬0≤p.lay.mZ k:=by simpa using hb
   refine aA (aj [4,6,7,47,48,49] rfl ?_);refine aB rfl (aG rfl rfl ⟨by omega,by omega⟩ (ab 1 rfl (aw ?_)));exact⟨k+1,_,by omega,ar,Ch,by rw[BS,if_neg hb,Rat.mul_one];exact MA,MB,by omega⟩
  have hb:p.free.length≤k:=by simpa using hb
  obtain rfl:p.free.length=k:=by omega
  have l6:=xE.done;have iM:aR bR 3 (rem qb (G.eR jn jo).gs) (.slice (some ⟨z,0,none⟩) p.lay.w p.lay.w) (aK (kt p c) p.lay.w):=⟨some ⟨z,0,none⟩,p.lay.w,xs,by rw[bg],by rw[bg];exact Nat.le_refl _,xE.rd,Sa.mono fun vs a=>jh _ _ vs a l6.2⟩
  have ZJ:((T11.m:Nat):Int)≤1000000:=by rw[xH.rows.m];omega
  skip
  have ZK:=hl.B7 _ xH;refine aV (aj [4,6,7] rfl ?_);refine ag (ab 2 rfl (aE rfl rfl (XJ (G:=(G.eR jn jo)) (N:=2*M) (f:=kt p c) (sH.kept l6.1) iM (fun i hi=>by have h9:=xH.wf.lt i hi;rw[xH.rows.n]at h9;exact h9) (by omega) sD ZJ (fun j _=>Nat.le_trans (hl.kt j) (by omega)) (fun i hi j hj=>Nat.le_trans (ZK.A i hi j (by rw[xH.rows.n];exact hj)) (by omega)) (fun k hk j hj=>hl.Rq _ xH k hk j (by rw[xH.rows.n];exact hj))) ?_));rintro _ Sd ⟨Ci,Cj,_,aiv,aiw,ZL⟩;refine ae [4,6,7] ?_;refine ao (ag (ab 1 rfl (aE rfl rfl (Xm (G:=((G.eR jn jo).eR Ci Cj)) (N:=M) (I:=I2 p c) aiv aiw (I2.start R9) (fun S r s h hb=>h.step hb) (fun S h=>⟨h.1.wf,h.1.cZ,hl.oE _ h.1,by rw[h.1.rows.m];exact xH.rows.m.symm,by rw[h.1.rows.n];exact xH.rows.n.symm⟩) (by omega) sD ZJ) ?_)));rintro v20 Mr ⟨Se,po,IC,ZM,ZN,aix⟩;have ID:=hl.oE _ po.1;have anr:aO (Se.c p.lay.w)≤M:=ID.c _ (by rw[po.1.rows.n];exact Nat.le_refl _)
  have Sf:((Se.m:Nat):Int)≤1000000:=by rw[po.1.rows.m];omega
  have aiy:=iM.le jh (ZL.trans ZN);have ZO:=((R7.trans IB).trans l6.1.le).trans (ZL.trans ZN);have ZP:∀j,j<p.lay.w→aO (Se.pt j)≤M:=fun j hj=>Ro po.1.wf ID ZG (by rw[po.1.rows.n];exact hj);refine ab 1 rfl (ae [4,6,7,10] ?_)
  rcases aix with ⟨rfl,aiz⟩ | ⟨s,rfl,vF,ZQ,aiA⟩
  ·
   skip
   refine ag (ab 1 rfl (aI false rfl rfl (AK (by decide)) (ae [4,6,7,10,90] ?_)));refine dU rfl (aA (aj [4,6,7] rfl ?_));refine ag (ab 1 rfl (aE rfl rfl (Xu (G:=((G.eR jn jo).eR Ci Cj)) IC ZM (by omega)) ?_));rintro v23 H23 ⟨IE,ans,n23,d23,b23,rfl,aiB⟩;refine aE rfl rfl (Fn.frame (gs:=((G.eR jn jo).eR Ci Cj).gs) (IE.ne IC.ne) (Wu aiB (by rw[wP];omega))) ?_;rintro v24 H24 ⟨⟨aiC,ZR⟩,aiD⟩;have MD:=IE.trans ⟨aiC,aiD⟩;have ZS:=IC.kept MD;have aiE:=ZM.kept MD;obtain⟨u24,w24,rfl,aiF,aiG⟩:=id ZR;obtain⟨A27,c27,rfl,_,_⟩:=aiF;obtain⟨p6,p7,rfl,_,_⟩:=aiG;refine ab 1 rfl (aE rfl rfl (XH (G:=((G.eR jn jo).eR Ci Cj)) ZS po.1.wf nY ZP (by omega) sD (by omega) Sf) ?_);rintro v25 H25 ⟨zD,aiH,A25,c25,x25,rfl,Sg,Sh,Si⟩;refine ab 2 rfl (aE rfl rfl (XI (G:=((G.eR jn jo).eR Ci Cj)) (n:=p.lp.n) (m:=p.lp.m) (N:=M) (f:=kt p c) (ZS.kept zD) (aiE.kept zD) nY (aiy.le jh (MD.le.trans zD.le)) (fun j _=>hl.kt j) (fun j hj=>ID.c j (by rw[po.1.rows.n];exact Nat.le_of_lt hj)) (by omega) sD (by omega)) ?_);rintro v26 H26 ⟨EM,aiI,A26,c26,x26,rfl,Sj,Sk,Sm⟩;refine dy ah rfl uM rfl rfl ?_
   obtain⟨ti,ak,al⟩:=pN;refine aH (.inl ⟨rfl,rfl⟩) rfl rfl rfl ak al rfl rfl rfl (ab 1 rfl (ae [4,5] ?_));obtain⟨bQ,aM,aN⟩:=pN;refine aD ⟨.inr rfl,_,.agg rfl Tryz.underlying33 aM aN (.tmp rfl (.nil)),?_⟩;exact aij a8 fi hl ((((ZO.trans MD.le).trans zD.le).trans EM.le).trans (bE _ _)) po aiz (bJ.le ZR ((zD.le.trans EM.le).trans (bE _ _))) (aR.le ⟨_,_,_,rfl,Sg,Sh,Si⟩ dY (EM.le.trans (bE _ _))) (aR.le ⟨_,_,_,rfl,Sj,Sk,Sm⟩ dY (bE _ _))
  skip
  refine ag (ab 1 rfl (aI true rfl rfl (rH (by omega)) (ae [4,6,7,10,90] ?_)));refine dN rfl (ag (ab 1 rfl (aE rfl rfl (XH (G:=((G.eR jn jo).eR Ci Cj)) IC po.1.wf nY ZP (by omega) sD (by omega) Sf) ?_)));rintro v25 H25 ⟨zD,aiH,A25,c25,x25,rfl,Sg,Sh,Si⟩;have mL:=fj p;have D5:=Y2 po.1.wf ZQ;refine ab 2 rfl (aE rfl rfl (agp (G:=((G.eR jn jo).eR Ci Cj)) (N:=M) (s:=s) (IC.kept zD) po.1.wf nY (Nat.lt_of_lt_of_le vF mL) D5 (fun i hi=>ID.A i hi s (by rw[po.1.rows.n];exact Nat.le_of_lt (Nat.lt_of_lt_of_le vF mL))) (fun j _=>Y1 po.1.wf ID ZG (by rw[po.1.rows.n];exact Nat.le_of_lt (Nat.lt_of_lt_of_le vF mL)) D5) (by omega) sD (by omega) Sf) ?_);rintro v26 H26 ⟨EM,aiI,A26,c26,x26,rfl,Sj,Sk,Sm⟩;refine dy ah rfl uM rfl rfl ?_;obtain⟨ti,ak,al⟩:=pN;refine aH (.inl ⟨rfl,rfl⟩) rfl rfl rfl ak al rfl rfl rfl (ab 1 rfl (ae [4,5] ?_));obtain⟨bQ,aM,aN⟩:=pN;refine aD ⟨.inr rfl,_,.agg rfl Tryz.underlying33 aM aN (.tmp rfl (.nil)),?_⟩;exact aik a8 fi hl (((ZO.trans zD.le).trans EM.le).trans (bE _ _)) po vF ZQ aiA (aR.le ⟨_,_,_,rfl,Sg,Sh,Si⟩ dY (EM.le.trans (bE _ _))) (aR.le ⟨_,_,_,rfl,Sj,Sk,Sm⟩ dY (bE _ _))
end Go.au
namespace Go.au
open Go.Proofs Num Lp
theorem ZT{H:Heap}{f:Bool}{A1 A2:Option Addr}{m1 c1 m2 c2:Nat}:
 Fn Tryz.prog 28 #[.agg #[.bool f,.slice A1 m1 c1,.slice A2 m2 c2]] H (uY H (.bool (decide (m1≤2∧m2≤2)))):=by
 refine a7 (args:=[_]) Tryz.func28 rfl rfl Tryz.ntmps28 rfl rfl fun w0=> ?_;refine aj [0] rfl ?_;refine ag (bX rfl rfl (ab 1 rfl (ae [1] ?_)))
 by_cases h1:m1≤2
 ·
  skip
  by_cases h2:m2≤2
  ·
   skip
   refine ag (ab 3 rfl (aI true rfl rfl (pO (by omega)) (ab 4 rfl (aI true rfl rfl (pO (by omega)) (ab 2 rfl (ae [2] ?_))))));refine aD ⟨.inr rfl,_,.tmp rfl (.nil),?_⟩;exact⟨rfl,by rw[decide_eq_true ⟨h1,h2⟩];rfl⟩
  ·
   skip
   refine ag (ab 3 rfl (aI true rfl rfl (pO (by omega)) (ab 4 rfl (aI false rfl rfl (yH (by omega)) (ab 2 rfl (ae [2] ?_))))));refine aD ⟨.inr rfl,_,.tmp rfl (.nil),?_⟩;exact⟨rfl,by rw[decide_eq_false (fun h=>h2 h.2)];rfl⟩
 ·
  skip
  refine ag (ab 3 rfl (aI false rfl rfl (yH (by omega)) (ab 7 rfl (ae [2] ?_))));refine aD ⟨.inr rfl,_,.tmp rfl (.nil),?_⟩;exact⟨rfl,by rw[decide_eq_false (fun h=>h1 h.1)];rfl⟩
end Go.au
namespace Go.au
section
variable {P:Program} {n:Nat} {all:Array Oper} {md:Mode} {tb:Tb} {s:St} {H:Heap} {K:St→Heap→Prop} {r:List Oper} {ty:TypeId} {pos:String} {after:Array Edge} {gd:Option (Nat×Bool)}
theorem ME(s:St)(d:Nat)(v:Value):ev (put s d (.val v)) (.tmp d)=some v:=by simp[ev,put]
theorem px{t t2 t3:TypeId}{x i:Operand}{A:Option Addr}{m c d1 d2 f o z:Nat}{Ck:Option Nat}{m8 Sn:TypeId}{m9 Sq:String}{ng Sr:Array Edge}{jJ IF:Option (Nat×Bool)}{k:IntKind}{j:Int}{e sz oE:Nat}{ps:List (Nat×Nat)}{ti:Ti}{xs:List Value}{v:Value}
  (di:jU P tb) (ht:tb[t]? = some (.sl e sz)) (fe:tb[t2]? = some (.st oE ps)) (hf:ps[f]? = some (o,z)) (BT:tb[t3]? = some ti) (h1:yv ti=true) (hx:ev s x=some (.slice A m c)) (hi:ev s i=some (.int k j)) (hr:Rd H A xs) (hv:xs[j.toNat*sz+o]? = some v) (h0:0≤j) (hm:j<m)
  (hk:∀a1 a2:Addr,aP P n all md r (bn (put (put s d1 (.val (.pointer (some a1)))) d2 (.val (.pointer (some a2)))) Ck (.val v)) H K)
  (hg:b8 all s gd=some true:=by rfl) (nb:md.nb s (some d1)=true:=by rfl)
  (ed:∀a1:Addr,b8 all (put s d1 (.val (.pointer (some a1)))) jJ=some true:=by exact fun _=>rfl) (tf:∀a1:Addr,md.nb (put s d1 (.val (.pointer (some a1)))) (some d2)=true:=by exact fun _=>rfl)
  (lS:∀a1 a2:Addr,b8 all (put (put s d1 (.val (.pointer (some a1)))) d2 (.val (.pointer (some a2)))) IF=some true:=by exact fun _ _=>rfl) (Ss:∀a1 a2:Addr,md.nb (put (put s d1 (.val (.pointer (some a1)))) d2 (.val (.pointer (some a2)))) Ck=true:=by exact fun _ _=>rfl):
  aP P n all md (⟨some d1,.indexAddr t x i,ty,pos,after,gd⟩::⟨some d2,.fieldAddr t2 (.tmp d1) f,m8,m9,ng,jJ⟩::⟨Ck,.load t3 (.tmp d2),Sn,Sq,Sr,IF⟩::r) s H K:=by
 obtain⟨ad,rfl,hc⟩:=hr _ _ hv
 refine we di ht hx hi h0 hm ?_ hg nb
 refine aU (ad:=ad.add (j.toNat*sz)) di fe hf (ME _ _ _) ?_ (ed _) (tf _)
 refine aS (ad:=(ad.add (j.toNat*sz)).add o) di BT h1 (ME _ _ _) (by rw[add_add];exact hc) ?_ (lS _ _) (Ss _ _)
 exact hk _ _
theorem aiJ{t t2 t3:TypeId}{x i:Operand}{A:Option Addr}{m c d1 d2 f o z:Nat}{Ck:Option Nat}{m8 Sn:TypeId}{m9 Sq:String}{ng Sr:Array Edge}{jJ IF:Option (Nat×Bool)}{k:IntKind}{j:Int}{e sz oE pM:Nat}{ps tc:List (Nat×Nat)}{xs vs:List Value}
  (di:jU P tb) (ht:tb[t]? = some (.sl e sz)) (fe:tb[t2]? = some (.st oE ps)) (hf:ps[f]? = some (o,z)) (BT:tb[t3]? = some (.st pM tc)) (hx:ev s x=some (.slice A m c)) (hi:ev s i=some (.int k j)) (hr:Rd H A xs) (hl:vs.length=pM) (hp:0<pM) (hv:∀(q:Nat)(v:Value),vs[q]? = some v→xs[j.toNat*sz+o+q]? = some v) (h0:0≤j) (hm:j<m)
  (hk:∀a1 a2:Addr,aP P n all md r (bn (put (put s d1 (.val (.pointer (some a1)))) d2 (.val (.pointer (some a2)))) Ck (.val (.agg vs.toArray))) H K)
  (hg:b8 all s gd=some true:=by rfl) (nb:md.nb s (some d1)=true:=by rfl)
  (ed:∀a1:Addr,b8 all (put s d1 (.val (.pointer (some a1)))) jJ=some true:=by exact fun _=>rfl) (tf:∀a1:Addr,md.nb (put s d1 (.val (.pointer (some a1)))) (some d2)=true:=by exact fun _=>rfl)
  (lS:∀a1 a2:Addr,b8 all (put (put s d1 (.val (.pointer (some a1)))) d2 (.val (.pointer (some a2)))) IF=some true:=by exact fun _ _=>rfl) (Ss:∀a1 a2:Addr,md.nb (put (put s d1 (.val (.pointer (some a1)))) d2 (.val (.pointer (some a2)))) Ck=true:=by exact fun _ _=>rfl):
  aP P n all md (⟨some d1,.indexAddr t x i,ty,pos,after,gd⟩::⟨some d2,.fieldAddr t2 (.tmp d1) f,m8,m9,ng,jJ⟩::⟨Ck,.load t3 (.tmp d2),Sn,Sq,Sr,IF⟩::r) s H K:=by
 obtain⟨ad,rfl,hc⟩:=hr _ _ (hv 0 _ (List.getElem?_eq_getElem (by omega)))
 refine we di ht hx hi h0 hm ?_ hg nb
 refine aU (ad:=ad.add (j.toNat*sz)) di fe hf (ME _ _ _) ?_ (ed _) (tf _)
 refine yA (ad:=(ad.add (j.toNat*sz)).add o) (vs:=vs) di BT (ME _ _ _) hl (fun q v hq=>by
  obtain⟨FH,h1,h2⟩:=hr _ _ (hv q v hq)
  cases h1
  rw[add_add,add_add,←Nat.add_assoc];exact h2) ?_ (lS _ _) (Ss _ _)
 exact hk _ _
end
end Go.au
namespace Go.au
open Go.Proofs Num Lp
theorem cn.small{N:Nat}{H:Heap}{q:Rat}{f:Bool}{A1 A2:Option Addr}{m1 c1 m2 c2:Nat}(h:cn H (.agg #[.bool f,.slice A1 m1 c1,.slice A2 m2 c2]) q N)(h1:m1≤2)(h2:m2≤2):cn H (.agg #[.bool f,.slice A1 m1 c1,.slice A2 m2 c2]) q 2:=by
 obtain⟨f',u,w,l1,l2,e,k1,k2,k3,k4,k5,k6,k7⟩:=h
 have e':=y8 (vs:=[.bool f,.slice A1 m1 c1,.slice A2 m2 c2]) e
 simp only[List.cons.injEq,and_true]at e'
 obtain⟨e1,e2,e3⟩:=e'
 refine⟨f',u,w,l1,l2,e,k1,k2,k3,k4,?_,?_,k7⟩
 ·obtain⟨A,c,e4,_⟩:=k1
  rw[e4]at e2
  cases e2;exact h1
 ·obtain⟨A,c,e4,_⟩:=k2
  rw[e4]at e3
  cases e3;exact h2
theorem aR.qW{N:Nat}{H:Heap}{xs:List Value}{l:List Rat}(h:bC (bN N H) 3 xs l){i:Nat}{q:Rat}(hq:l[i]? = some q):∃f A1 m1 c1 A2 m2 c2,gy xs i 3 = [.bool f,.slice A1 m1 c1,.slice A2 m2 c2]∧cn H (.agg #[.bool f,.slice A1 m1 c1,.slice A2 m2 c2]) q N∧∀(j:Nat)(u:Value),[.bool f,.slice A1 m1 c1,.slice A2 m2 c2][j]? = some u→xs[i*3+j]? = some u:=by
 have h1:=h.at_ i q hq
 obtain⟨f,A,m,c,A',m',c',e⟩:=bN.cells h1
 refine⟨f,A,m,c,A',m',c',e,?_,fun j u hu=>PA (by rw[e];exact hu)⟩
 have h2:cn H (.agg (gy xs i 3).toArray) q N:=h1
 rwa [e]at h2
def IG(N:Nat)(H:Heap)(vs:List Value)(ls:List (List Rat)):Prop:=vs.length=ls.length∧∀(i:Nat)(v:Value)(l:List Rat),vs[i]? = some v→ls[i]? = some l→aR (bN N) 3 H v l
theorem aiK{xs:List Value}{k:Nat}{a b c d e:Value}(h:∀(j:Nat)(u:Value),[a,b,c,d,e][j]? = some u→xs[k+j]? = some u):∀(q:Nat)(v:Value),[c,d,e][q]? = some v→xs[k+2+q]? = some v:=fun q v hq=>by
 rw[Nat.add_assoc,Nat.add_comm 2 q];exact h (q+2) v hq
theorem aR.MF{N:Nat}{H:Heap}{xs:List Value}{l:List (List Rat×Int×Rat)}(h:bC (fu N H) 5 xs l){i:Nat}{r:List Rat×Int×Rat}(hq:l[i]? = some r):∃A0 c0 f A1 m1 c1 A2 m2 c2,gy xs i 5 = [.slice A0 r.1.length c0,.int .i64 r.2.1,.bool f,.slice A1 m1 c1,.slice A2 m2 c2]∧aR (bN N) 3 H (.slice A0 r.1.length c0) r.1∧cn H (.agg #[.bool f,.slice A1 m1 c1,.slice A2 m2 c2]) r.2.2 N∧∀(j:Nat)(u:Value),[.slice A0 r.1.length c0,.int .i64 r.2.1,.bool f,.slice A1 m1 c1,.slice A2 m2 c2][j]? = some u→xs[i*5+j]? = some u:=by
 have h1:=h.at_ i r hq
 obtain⟨A0,c0,k,f,A1,m1,c1,A2,m2,c2,e,hk⟩:=h1.cells
 subst hk
 have h2:=h1
 rw[e]at h2
 obtain⟨c',f',u',w',e',h3,h4⟩:=id h2
 simp only[List.cons.injEq,and_true,true_and]at e'
 obtain⟨rfl,e1,rfl,rfl⟩:=e'
 exact⟨A0,c0,f,A1,m1,c1,A2,m2,c2,e,h3,h2.bound,fun j u hu=>PA (by rw[e];exact hu)⟩
structure ZU(H:Heap)(v:Value)(p:Prg)(n m:Nat):Prop where
 prog:eH 2 H v p
 iu:p.free.length≤n
 rows:p.rows.length≤m
 row:∀(i:Nat)(r:List Rat×Int×Rat),p.rows[i]? = some r→r.1.length≤n
theorem ZV{H:Heap}{v:Value}{l:List Rat}{N n:Nat}(hv:aR (bN N) 3 H v l)(hn:n≤1000):
 Fn Tryz.prog 26 #[v,.int .i64 (n:Int)] H (fun v' H'=>H'=H∧∃b,v' = .bool b∧(b=true→l.length≤n∧aR (bN 2) 3 H v l)):=by
 obtain⟨A,c,xs,rfl,wg,hr,hx⟩:=hv;refine a7 (args:=[_,_]) Tryz.func26 rfl rfl Tryz.ntmps26 rfl rfl fun w0=> ?_;refine aj [0,1] rfl ?_;refine ag (ab 1 rfl (ae [0,1] ?_));refine ao (ag (ab 4 rfl (ae [0,9] ?_)));refine aC rfl (fun hb=> ?_) (fun hb=> ?_)
 ·
  skip
  refine ag (ab 1 rfl (ae [4] ?_));refine aD ⟨.inr rfl,_,.tmp rfl (.nil),?_⟩;exact⟨rfl,false,rfl,fun h=>by cases h⟩
 ·
  have hb:l.length≤n:=by simpa using hb
  refine aA (aj [0] rfl ?_);refine ao (ag (ab 3 rfl (ae [0,11,12] ?_)));refine aF (gG (fun(i:Nat)=>l.length-i) (fun(i:Nat)=>put (put (put (emp) 0 (.val (.slice A l.length c))) 11 (.val (.int .i64 (l.length:Int)))) 12 (.val (.int .i64 (i:Int)))) (fun(i:Nat) H'=>H'=H∧(∀(k:Nat)(q:Rat),k<i→l[k]? = some q→bN 2 H (gy xs k 3) q)∧i≤l.length) 0 (⟨rfl,(fun k r h=>by omega),Nat.zero_le _⟩) ar ?_);rintro i H1 ⟨e1,mf,hi⟩;rw[e1];refine ag (ab 1 rfl (ae [0,11,12,13] ?_));refine ao (aC rfl (fun hb=> ?_) (fun hb=> ?_))
  ·
   have aT:i<l.length:=by simpa using hb
   obtain⟨q,hq⟩:∃q,l[i]? = some q:=⟨_,List.getElem?_eq_getElem aT⟩;obtain⟨f,A1,m1,c1,A2,m2,c2,lX,qc,IH⟩:=aR.qW hx hq;refine aA (aj [0,11,12] rfl ?_);refine ao (aF (ag (ab 2 rfl (ae [0,5,11,12] ?_))));refine ag (ab 2 rfl (ck ah rfl rfl rfl rfl (hr) rfl (by decide) (IH) (by omega) (by omega) fun _=>(aE rfl rfl (ZT) ?_)));rintro v2 H2 ⟨e2,rfl⟩;rw[e2];refine ab 1 rfl (ae [0,11,12,20] ?_);refine aC rfl (fun hb=> ?_) (fun hb=> ?_)
   ·
    skip
    refine ag (ab 1 rfl (ae [4] ?_));refine aD ⟨.inr rfl,_,.tmp rfl (.nil),?_⟩;exact⟨rfl,false,rfl,fun h=>by cases h⟩
   have pT:m1≤2∧m2≤2:=by simpa using hb
   refine aA (aj [0,11,12] rfl ?_);refine aB rfl (aG rfl rfl ⟨by omega,by omega⟩ (ab 1 rfl (aw ?_)));exact⟨i+1,by omega,ar,rfl,(fun k q9 hk fJ=>by by_cases h9:k<i;exact mf k q9 h9 fJ;(obtain rfl:k=i:=by omega);rw[hq]at fJ;cases fJ;show cn _ _ _ _;rw[lX];exact qc.small pT.1 pT.2),by omega⟩
  have hb:l.length≤i:=by simpa using hb
  refine aV (aj [] rfl ?_);refine ag (ab 1 rfl (ae [4] ?_));refine aD ⟨.inr rfl,_,.tmp rfl (.nil),?_⟩;exact⟨rfl,true,rfl,fun _=>⟨by omega,A,c,xs,rfl,wg,hr,hx.len,fun k q hq=>mf k q (by have h9:=(List.getElem?_eq_some_iff.1 hq).1;omega) hq⟩⟩
theorem aiL{H:Heap}{A:Option Addr}{k c:Nat}{vs:List Value}{ls:List (List Rat)}{N m n:Nat}(hr:Rd H A vs)(hk:k=ls.length)(hv:IG N H vs ls)(hn:n≤1000)(hm:m≤1000):
 Fn Tryz.prog 27 #[.slice A k c,.int .i64 (m:Int),.int .i64 (n:Int)] H (fun v' H'=>H'=H∧∃b,v' = .bool b∧(b=true→IG 2 H vs ls∧(∀l,l∈ls→l.length≤n)∧ls.length≤m)):=by
 refine a7 (args:=[_,_,_]) Tryz.func27 rfl rfl Tryz.ntmps27 rfl rfl fun w0=> ?_;refine aj [0,1,2] rfl ?_;refine ag (ab 1 rfl (ae [0,1,2] ?_));refine ao (ag (ab 4 rfl (ae [0,2,11] ?_)));refine aC rfl (fun hb=> ?_) (fun hb=> ?_)
 ·
  skip
  refine ag (ab 1 rfl (ae [6] ?_));refine aD ⟨.inr rfl,_,.tmp rfl (.nil),?_⟩;exact⟨rfl,false,rfl,fun h=>by cases h⟩
 ·
  have hb:k≤m:=by simpa using hb
  refine aA (aj [0,2] rfl ?_);refine ao (ag (ab 3 rfl (ae [0,2,13,14] ?_)));refine aF (gG (fun(i:Nat)=>k-i) (fun(i:Nat)=>put (put (put (put (emp) 0 (.val (.slice A k c))) 2 (.val (.int .i64 (n:Int)))) 13 (.val (.int .i64 (k:Int)))) 14 (.val (.int .i64 (i:Int)))) (fun(i:Nat) H'=>H'=H∧(∀(j:Nat)(v:Value)(l:List Rat),j<i→vs[j]? = some v→ls[j]? = some l→l.length≤n∧aR (bN 2) 3 H v l)∧i≤k) 0 (⟨rfl,(fun j v l h=>by omega),Nat.zero_le _⟩) ar ?_);rintro i H1 ⟨e1,mf,hi⟩;rw[e1];refine ag (ab 1 rfl (ae [0,2,13,14,15] ?_));refine ao (aC rfl (fun hb=> ?_) (fun hb=> ?_))
  ·
   have aT:i<k:=by simpa using hb
   obtain⟨l,hle⟩:∃l,ls[i]? = some l:=⟨_,List.getElem?_eq_getElem (by omega)⟩;obtain⟨v,Ds⟩:∃v,vs[i]? = some v:=⟨_,List.getElem?_eq_getElem (by rw[hv.1];omega)⟩;have fH:=hv.2 i v l Ds hle;obtain⟨A0,c0,qH,rfl,h0⟩:=id fH;refine aA (aj [0,2,13,14] rfl ?_);refine ao (aF (ag (ab 2 rfl (ae [0,2,7,13,14] ?_))));refine ag (ab 2 rfl (aQ ah rfl rfl rfl rfl rfl (hr) (Ds) (by omega) (by omega) fun _=>(ab 1 rfl (aE rfl rfl (ZV fH hn) ?_))));rintro v2 H2 ⟨e2,b2,rfl,cD⟩;rw[e2];refine ab 1 rfl (ae [0,2,13,14,23] ?_);refine aC rfl (fun hb=> ?_) (fun hb=> ?_)
   ·
    skip
    refine ag (ab 1 rfl (ae [6] ?_));refine aD ⟨.inr rfl,_,.tmp rfl (.nil),?_⟩;exact⟨rfl,false,rfl,fun h=>by cases h⟩
   have pV:b2=true:=by simpa using hb
   refine aA (aj [0,2,13,14] rfl ?_);refine aB rfl (aG rfl rfl ⟨by omega,by omega⟩ (ab 1 rfl (aw ?_)));exact⟨i+1,by omega,ar,rfl,(fun j v9 l9 hj HT ix=>by by_cases h9:j<i;exact mf j v9 l9 h9 HT ix;(obtain rfl:j=i:=by omega);rw[Ds]at HT;rw[hle]at ix;cases HT;cases ix;exact cD pV),by omega⟩
  have hb:k≤i:=by simpa using hb
  refine aV (aj [] rfl ?_);refine ag (ab 1 rfl (ae [6] ?_));refine aD ⟨.inr rfl,_,.tmp rfl (.nil),?_⟩
  exact⟨rfl,true,rfl,fun _=>⟨⟨hv.1,fun j v l h1 h2=>(mf j v l (by have h9:=(List.getElem?_eq_some_iff.1 h2).1;omega) h1 h2).2⟩,(fun l hl=>by
   obtain⟨j,hj⟩:=List.getElem?_of_mem hl;have h9:=(List.getElem?_eq_some_iff.1 hj).1
   exact(mf j _ l (by omega) (List.getElem?_eq_getElem (by rw[hv.1];omega)) hj).1),by omega⟩⟩
theorem aiM{H:Heap}{v:Value}{p:Prg}{N n m:Nat}(hp:eH N H v p)(hn:n≤1000)(hm:m≤1000):
 Fn Tryz.prog 82 #[v,.int .i64 (n:Int),.int .i64 (m:Int)] H (fun v' H'=>H'=H∧∃b,v' = .bool b∧(b=true→ZU H v p n m)):=by
 obtain⟨fv,gB,rfl,eI,fk⟩:=id hp
 obtain⟨Af,cf,xf,rfl,jk,jl⟩:=eI.one
 obtain⟨Ar,cr,xr,rfl,jL,fy,iE⟩:=fk;refine a7 (args:=[_,_,_]) Tryz.func82 rfl rfl Tryz.ntmps82 rfl rfl fun w0=> ?_;refine aj [0,1,2] rfl ?_;refine ag (bX rfl rfl (ab 1 rfl (ae [1,2,3] ?_)));refine ao ?_
 by_cases h1:(n:Int)<(p.free.length:Int)
 ·
  skip
  refine ag (ab 4 rfl (aI true rfl rfl (nn h1) (ab 7 rfl (ae [1,3,19] ?_))));refine dN rfl (ag (ab 1 rfl (ae [6] ?_)));refine aD ⟨.inr rfl,_,.tmp rfl (.nil),?_⟩;exact⟨rfl,false,rfl,fun h=>by cases h⟩
 ·
  skip
  by_cases h2:(m:Int)<(p.rows.length:Int)
  ·
   skip
   refine ag (ab 4 rfl (aI false rfl rfl (jw (by omega)) (ab 5 rfl (aI true rfl rfl (nn h2) (ab 1 rfl (ae [1,3,19] ?_))))));refine dN rfl (ag (ab 1 rfl (ae [6] ?_)));refine aD ⟨.inr rfl,_,.tmp rfl (.nil),?_⟩;exact⟨rfl,false,rfl,fun h=>by cases h⟩
  skip
  refine ag (ab 4 rfl (aI false rfl rfl (jw (by omega)) (ab 5 rfl (aI false rfl rfl (jw (by omega)) (ab 1 rfl (ae [1,3,19] ?_))))));refine dU rfl (aA (aj [1,3] rfl ?_));refine ao (ag (ab 4 rfl (ae [1,3,22,23] ?_)));refine aF (gG (fun(i:Nat)=>p.rows.length-i) (fun(i:Nat)=>put (put (put (put (emp) 1 (.val (.int .i64 (n:Int)))) 3 (.box [.slice Af p.free.length cf,.slice Ar p.rows.length cr])) 22 (.val (.int .i64 (p.rows.length:Int)))) 23 (.val (.int .i64 (i:Int)))) (fun(i:Nat) H'=>H'=H∧(∀(k:Nat)(r:List Rat×Int×Rat),k<i→p.rows[k]? = some r→r.1.length≤n∧fu 2 H (gy xr k 5) r)∧i≤p.rows.length) 0 (⟨rfl,(fun k r h=>by omega),Nat.zero_le _⟩) ar ?_);rintro i H1 ⟨e1,mf,hi⟩;rw[e1];refine ag (ab 1 rfl (ae [1,3,22,23,24] ?_));refine ao (aC rfl (fun hb=> ?_) (fun hb=> ?_))
  ·
   have aT:i<p.rows.length:=by simpa using hb
   obtain⟨r,hr⟩:∃r,p.rows[i]? = some r:=⟨_,List.getElem?_eq_getElem aT⟩;obtain⟨A0,c0,f,A1,m1,c1,A2,m2,c2,lX,fH,qc,me⟩:=aR.MF iE hr;refine aA (aj [1,3,22,23] rfl ?_);refine ao (aF (ag (ab 2 rfl (ae [1,3,7,22,23] ?_))));refine ag (ab 3 rfl (px ah rfl rfl rfl rfl rfl rfl rfl (fy) (me 0 _ rfl) (by omega) (by omega) fun _ _=>(ab 1 rfl (aE rfl rfl (ZV fH hn) ?_))));rintro v2 H2 ⟨e2,b2,rfl,cD⟩;rw[e2]
   cases b2
   ·
    skip
    refine ab 11 rfl (ae [1,3,22,23,44] ?_);refine dN rfl (ag (ab 1 rfl (ae [6] ?_)));refine aD ⟨.inr rfl,_,.tmp rfl (.nil),?_⟩;exact⟨rfl,false,rfl,fun h=>by cases h⟩
   skip
   refine ab 5 rfl (aiJ ah rfl rfl rfl rfl rfl rfl (fy) rfl (by decide) (aiK me) (by omega) (by omega) fun _ _=>(aE rfl rfl (ZT) ?_));rintro v3 H3 ⟨e3,rfl⟩;rw[e3];refine ab 2 rfl (ae [1,3,22,23,44] ?_);refine aC rfl (fun hb=> ?_) (fun hb=> ?_)
   ·
    skip
    refine ag (ab 1 rfl (ae [6] ?_));refine aD ⟨.inr rfl,_,.tmp rfl (.nil),?_⟩;exact⟨rfl,false,rfl,fun h=>by cases h⟩
   have h3:m1≤2∧m2≤2:=by simpa using hb
   refine aA (aj [1,3,22,23] rfl ?_);refine aB rfl (aG rfl rfl ⟨by omega,by omega⟩ (ab 1 rfl (aw ?_)));exact⟨i+1,by omega,ar,rfl,(fun k r9 hk jm=>by by_cases h9:k<i;exact mf k r9 h9 jm;(obtain rfl:k=i:=by omega);rw[hr]at jm;cases jm;exact⟨(cD rfl).1,_,_,_,_,lX,(cD rfl).2,qc.small h3.1 h3.2⟩),by omega⟩
  have hb:p.rows.length≤i:=by simpa using hb
  refine aV (aj [] rfl ?_);refine ag (ab 1 rfl (ae [6] ?_));refine aD ⟨.inr rfl,_,.tmp rfl (.nil),?_⟩;exact⟨rfl,true,rfl,fun _=>⟨⟨_,_,rfl,eI,Ar,cr,xr,rfl,jL,fy,iE.len,fun k r hr=>(mf k r (by have h9:=(List.getElem?_eq_some_iff.1 hr).1;omega) hr).2⟩,by omega,by omega,fun k r hr=>(mf k r (by have h9:=(List.getElem?_eq_some_iff.1 hr).1;omega) hr).1⟩⟩
end Go.au
namespace Go.au
open Go.Proofs Num Lp
theorem aR.MG{N:Nat}{H:Heap}{v:Value}{l:List Rat}(h:aR (bN N) 3 H v l):∀q,q∈l→aO q≤N+2:=fun q hq=>by
 obtain⟨A,cc,xs,_,_,_,h4⟩:=h
 obtain⟨k,hk⟩:=List.getElem?_of_mem hq
 exact cn.size (h4.at_ k q hk)
theorem aiN{l:List Rat}{j:Nat}(h:j<l.length):fn l j∈l:=by
 rw[kT (List.getElem?_eq_getElem h)];exact List.getElem_mem h
theorem Cl(f:Bool)(A A':Option Addr)(k c k' c':Nat):∀u,u∈[Value.bool f,.slice A k c,.slice A' k' c']→u.oneCell'=true:=fun u hu=>by
 simp only[List.mem_cons,List.not_mem_nil,or_false]at hu
 rcases hu with rfl | rfl | rfl <;> rfl
theorem Su{α:Type}{P:List Value→α→Prop}{sz:Nat}{vs xs:List Value}{a:α}{l:List α}(h:P vs a)(hl:vs.length=sz)(k:bC P sz xs l):bC P sz (vs++xs) (a::l):=(iP h hl).append k
theorem aR.zE{H:Heap}{v:Value}{l:List Rat}{N:Nat}(h:aR bZ 3 H v l)(hs:∀q,q∈l→aO q≤N):aR (bN N) 3 H v l:=by
 obtain⟨A,c,xs,h1,h2,h3,h4⟩:=h
 exact⟨A,c,xs,h1,h2,h3,h4.len,fun i a ha=>bZ.rat (h4.at_ i a ha) (hs a (List.mem_of_getElem? ha))⟩
theorem aR.mono{α:Type}{P P':Heap→List Value→α→Prop}{sz:Nat}{H:Heap}{v:Value}{l:List α}(h:aR P sz H v l)(hp:∀vs a,P H vs a→P' H vs a):aR P' sz H v l:=by
 obtain⟨A,c,xs,h1,h2,h3,h4⟩:=h
 exact⟨A,c,xs,h1,h2,h3,h4.mono hp⟩
theorem bN.mono{N M:Nat}{H:Heap}{vs:List Value}{q:Rat}(h:bN N H vs q)(hl:N≤M):bN M H vs q:=cn.mono h hl
theorem eH.mono{N M:Nat}{H:Heap}{v:Value}{p:Prg}(h:eH N H v p)(hl:N≤M):eH M H v p:=by
 obtain⟨fv,rv,h1,h2,h3⟩:=h
 exact⟨fv,rv,h1,h2,h3.mono fun vs r ⟨c,f,u,w,k1,k2,k3⟩=>⟨c,f,u,w,k1,k2.mono fun _ _ h=>h.mono hl,k3.mono hl⟩⟩
theorem aiO(q:Rat):wC q q=0:=by unfold wC;simp
theorem II{k:Nat}:∀{l:List Rat},(∀q,q∈l→aq.wt q≤k)→aq.cT l≤l.length*k
 | [],_=>Nat.zero_le _
 | q::l,h=>by
  have h1:=h q (List.mem_cons_self ..)
  have h2:=II (l:=l) fun r hr=>h r (List.mem_cons_of_mem _ hr)
  simp only[aq.cT,List.length_cons,Nat.add_mul];omega
theorem IJ{H:Heap}{N:Nat}:cn H (.agg #[.bool false,.slice none 0 0,.slice none 0 0]) 0 N:=
 ⟨false,_,_,[],[],rfl,⟨none,0,rfl,Nat.le_refl _,Rd.nil _ _⟩,⟨none,0,rfl,Nat.le_refl _,Rd.nil _ _⟩,(fun x h=>by cases h),(fun x h=>by cases h),Nat.zero_le _,Nat.zero_le _,by decide⟩
theorem fu.ZW{N:Nat}{H:Heap}{r:List Rat×Int×Rat}{v0:Value}{f:Bool}{u w:Value}(h:fu N H [v0,.int .i64 r.2.1,.bool f,u,w] r):aR (bN N) 3 H v0 r.1:=by
 obtain⟨c,f',u',w',h1,h2,_⟩:=h
 simp only[List.cons.injEq]at h1
 rw[h1.1];exact h2
structure RC where
 f:Bool
 A1:Option Addr
 m1:Nat
 c1:Nat
 A2:Option Addr
 m2:Nat
 c2:Nat
abbrev RC.v(t:RC):Value:= .agg #[.bool t.f,.slice t.A1 t.m1 t.c1,.slice t.A2 t.m2 t.c2]
theorem bJ.rc{H:Heap}{v:Value}{q:Rat}(h:bJ H v q):∃t:RC,v=t.v:=by
 obtain⟨u,w,rfl,hu,hw⟩:=h
 obtain⟨A1,c1,rfl,_⟩:=id hu
 obtain⟨A2,c2,rfl,_⟩:=id hw
 exact⟨⟨_,A1,_,c1,A2,_,c2⟩,rfl⟩
def MH(H:Heap)(q:Rat)(v:Value)(H':Heap):Prop:=Heap.le H H'∧∃t:RC,v=t.v∧bJ H' t.v q
theorem MH.le{H H':Heap}{q:Rat}{v:Value}(h:MH H q v H'):Heap.le H H':=h.1
theorem Fn.rc{P:Program}{f:FuncId}{args:Array Value}{H:Heap}{q:Rat}(h:Fn P f args H (kp H q)):Fn P f args H (MH H q):=h.mono fun v H' ⟨h1,h2⟩=>by
 obtain⟨t,rfl⟩:=h2.rc
 exact⟨h1,t,rfl,h2⟩
theorem eH.aiP{N:Nat}{H:Heap}{v:Value}{p:Prg}(h:eH N H v p):∃Af cf Ar cr,v = .agg #[.slice Af p.free.length cf,.slice Ar p.rows.length cr]:=by
 obtain⟨fv,rv,rfl,⟨Af,cf,_,rfl,_⟩,Ar,cr,_,rfl,_⟩:=h
 exact⟨Af,cf,Ar,cr,rfl⟩
end Go.au
namespace Go.au
open Go.Proofs Num Lp
structure ea{α:Type}(P:Heap→List Value→α→Prop)(e sz:Nat)(Hb H:Heap)(v:Value)(l:List α)(xs:List Value):Prop where
 own:bW H v e sz l.length xs
 mg:bC (P (rem H (az v))) sz xs l
 base:Heap.le Hb (rem H (az v))
section
variable {α:Type} {P:Heap→List Value→α→Prop} {e sz:Nat} {Hb H H':Heap} {v v':Value} {l:List α} {xs:List Value}
theorem ea.le(h:ea P e sz Hb H v l xs):Heap.le Hb H:=h.base.trans (bE _ _)
theorem ea.sl(h:ea P e sz Hb H v l xs)(up:Up P):aR P sz H v l:=Gp.sl ⟨xs,h.own,h.mg.mono fun vs a=>up _ _ vs a (bE _ _)⟩
theorem vI:az (.slice none 0 0) = []:=rfl
theorem IK(H:Heap):ea P e sz H H (.slice none 0 0) [] []:=⟨lk H e sz,u6,by rw[vI,tt];exact .refl _⟩
theorem IL{g c:Nat}{zs:List Value}{z k:Int}(hg:H g=none)(hz:z.toNat=0)(hk:k.toNat=c)(hc:c≤maxLen):ea P e sz H (ins H g ⟨cg zs (z.toNat*sz),k.toNat*sz,e,true⟩) (.slice (some ⟨g,0,none⟩) z.toNat k.toNat) [] []:=by
 rw[hk]
 refine⟨Ky hz hc,u6,?_⟩
 show Heap.le H (rem _ [g])
 rw[rN _ hg,tt];exact .refl _
theorem ea.mQ(h:ea P e sz Hb H v l xs):∀q,q∈az v→H q≠none:=fun q hq=>by
 obtain⟨en,he⟩:=h.own.block (cM.1 hq)
 rw[he];simp
theorem ea.step(h:ea P e sz Hb H v l xs)(up:Up P)(hs:∀q,q∈az v→H' q=H q)(hl:Heap.le (rem H (az v)) (rem H' (az v))):ea P e sz Hb H' v l xs:=
 ⟨h.own.same fun q hq=>hs q (cM.2 hq),h.mg.mono fun vs a=>up _ _ vs a hl,h.base.trans hl⟩
theorem ea.kV(h:ea P e sz Hb H v l xs)(up:Up P){bF:Value→Heap→Prop}{u:Value}(hf:yU (az v) bF H u H')(hl:∀v' K,bF v' K→Heap.le (rem H (az v)) K):ea P e sz Hb H' v l xs:=h.step up hf.same (hl _ _ hf.post)
theorem ea.ins(h:ea P e sz Hb H v l xs)(up:Up P){g:Nat}(en:Ent)(hg:H g=none):ea P e sz Hb (ins H g en) v l xs:=by
 have hn:¬g∈az v:=fun hm=>h.mQ g hm hg
 refine h.step up (fun q hq=>a6 _ _ fun e=>hn (e▸hq)) ?_
 rw[rM _ hn]
 exact Heap.bB _ (by rw[bM hn];exact hg)
theorem ea.call(h:ea P e sz Hb H v l xs){Q:Program}{f:FuncId}{args:Array Value}{bF:Value→Heap→Prop}(hc:Fn Q f args (rem H (az v)) bF):Fn Q f args H (yU (az v) bF H):=Fn.frame h.mQ hc
theorem ea.append(h:ea P e sz Hb H v l xs)(up:Up P){m:Nat}{ys:List Value}{k:List α}(hm:m=l.length+k.length)(ha:App H v e sz m (xs++ys) v' H')(hy:bC (P (rem H (az v))) sz ys k):ea P e sz Hb H' v' (l++k) (xs++ys):=by
 have hl:Heap.le (rem H (az v)) (rem H' (az v')):=fun q en hq=>by
  by_cases hm:q∈az v
  ·rw[rem_in hm]at hq;cases hq
  ·rw[bM hm]at hq
   have h1:=ha.same q en hq fun e=>hm (cM.2 e)
   have h2:¬q∈az v':=fun h2=>by
    have h3:=cM.1 h2
    rcases ha.at_ with h4 | ⟨g,h4,h5⟩
    ·exact hm (cM.2 (h4▸h3))
    ·rw[h4]at h3;cases h3;rw[h5]at hq;cases hq
   exact⟨en,by rw[bM h2];exact h1,.refl _⟩
 refine⟨by rw[List.length_append,←hm];exact ha.own,?_,h.base.trans hl⟩
 exact(h.mg.mono fun vs a=>up _ _ vs a hl).append (hy.mono fun vs a=>up _ _ vs a hl)
theorem ea.form(h:ea P e sz Hb H v l xs):∃A c,v = .slice A l.length c:=h.own.form
end
theorem ea.od{α:Type}{P:Heap→List Value→α→Prop}{e sz:Nat}{Hb H:Heap}{v:Value}{l:List α}{xs:List Value}(h:ea P e sz Hb H v l xs):ea P e sz (rem H (az v)) H v l xs:=⟨h.own,h.mg,.refl _⟩
theorem ea.down{α:Type}{P:Heap→List Value→α→Prop}{e sz:Nat}{Hb Hc H:Heap}{v:Value}{l:List α}{xs:List Value}(h:ea P e sz Hb H v l xs)(hl:Heap.le Hc Hb):ea P e sz Hc H v l xs:=⟨h.own,h.mg,hl.trans h.base⟩
theorem IM(A0:Option Addr)(k0 c0:Nat)(z:Int)(f:Bool)(A A':Option Addr)(k c k' c':Nat):∀u,u∈[Value.slice A0 k0 c0,.int .i64 z,.bool f,.slice A k c,.slice A' k' c']→u.oneCell'=true:=fun u hu=>by
 simp only[List.mem_cons,List.not_mem_nil,or_false]at hu
 rcases hu with rfl | rfl | rfl | rfl | rfl <;> rfl
theorem IN{α β:Type}{f:α→β}{l:List α}{k:Nat}{z:α}(h:l[k]? = some z):(l.take (k+1)).map f=(l.take k).map f ++ [f z]:=by
 rw[List.take_add_one,h,List.map_append];rfl
theorem aiQ{α:Type}(f:Nat→α)(j:Nat):(List.range (j+1)).map f=(List.range j).map f ++ [f j]:=by rw[List.range_succ,List.map_append];rfl
theorem bJ.form{H:Heap}{v:Value}{q:Rat}(h:bJ H v q):∃f A1 m1 c1 A2 m2 c2,v = .agg #[.bool f,.slice A1 m1 c1,.slice A2 m2 c2]:=by
 obtain⟨u,w,rfl,hu,hw⟩:=h
 obtain⟨A1,c1,rfl,_⟩:=id hu
 obtain⟨A2,c2,rfl,_⟩:=id hw
 exact⟨_,_,_,_,_,_,_,rfl⟩
theorem SA{α:Type}{l:List α}{k:Nat}{z:α}(h:l[k]? = some z):l.take (k+1)=l.take k ++ [z]:=by rw[List.take_add_one,h];rfl
end Go.au
namespace Go.au
open Go.Proofs Num Lp Go.RowKit
def kz(w:World):Heap:=fun g=>match w.heap[g]? with | some (.cells c t _)=>some ⟨c.toList,c.size,t,false⟩ | _=>none
theorem aiR{w:World}{g:Nat}{c:Array Value}{t:TypeId}{fz:Nat×Nat}(h:w.heap[g]? = some (.cells c t fz)):kz w g=some ⟨c.toList,c.size,t,false⟩:=by simp[kz,h]
theorem ZX{w:World}{g:Nat}{e:Ent}(h:kz w g=some e):∃c t fz,w.heap[g]? = some (.cells c t fz)∧e=⟨c.toList,c.size,t,false⟩:=by
 unfold kz at h
 split at h
 ·rename_i c t fz hc
  exact⟨c,t,fz,hc,by simpa using h.symm⟩
 ·cases h
theorem aiS(w:World):Den (kz w) w:=fun g e h=>by
 obtain⟨c,t,fz,h1,rfl⟩:=ZX h
 exact⟨_,h1,c,fz,rfl,rfl,(fun i v hv=>by simpa using hv),fun h=>by cases h⟩
theorem aiT{w:World}{a:Addr}{v:Value}(h:w.cell? a=some v):cell (kz w) a=some v:=by
 unfold World.cell? at h
 unfold cell
 cases hg:w.heap[a.block]? with
 | none=>rw[hg]at h;simp at h
 | some o=>
  cases o with
  | cells c t fz=>
   rw[aiR hg]
   rw[hg]at h
   simpa using h
  | _=>rw[hg]at h;simp at h
theorem aiU{w w':World}{H':Heap}(hle:Heap.le (kz w) H')(hd:Den H' w')(hf:Fx (kz w) w H' w'):Below w.heap.size w w':=by
 refine⟨hf.os,hf.tape,hf.output,hf.size,fun k hk=> ?_⟩
 cases hg:kz w k with
 | none=>exact(hf.keep k hk hg).1
 | some e=>
  obtain⟨c,t,fz,h1,rfl⟩:=ZX hg
  obtain⟨e',h2,h3⟩:=hle k _ hg
  obtain⟨o,h4,c1,fz1,rfl,h5,h6,_⟩:=hd k e' h2
  obtain⟨c2,h7,h8⟩:=hf.form k c t fz h1
  rw[h4]at h7
  simp only[Option.some.injEq,Obj.cells.injEq]at h7
  obtain⟨rfl,h9,rfl⟩:=h7
  rw[h4,h1,h9]
  have:c1=c:=by
   apply Array.ext_getElem?
   intro i
   by_cases hi:i<c.size
   ·have jI:e'.xs[i]? = some c[i]:=Om h3.2.2.2 (by simp[hi])
    rw[h6 i _ jI];simp[hi]
   ·rw[Array.getElem?_eq_none (by omega),Array.getElem?_eq_none (by omega)]
  rw[this]
theorem Fn.law{P:Program}{f:FuncId}{args:Array Value}{w:World}(h:Fn P f args (kz w) (fun v H'=>Heap.le (kz w) H'∧v = .bool true)):Calls P f args w fun e w'=>e = .returned (.bool true)∧Below w.heap.size w w':=
 (h.run w (aiS w)).mono fun _ _ ⟨v,he,H',⟨h1,h2⟩,h3,h4⟩=>⟨by rw[he,h2],aiU h1 h3 h4⟩
section
variable {Hy:Type} {enc:TypeId×Value→Hy} {P:Program} {w:World} {spare:Nat→Bool} {held:Bool}
theorem aiV{α:Type}{Q:List Value→α→Prop}{sz:Nat}{xs cs:List Value}{l:List α}{b:α}(h:bC Q sz xs l)(hb:Q cs b)(hl:cs.length=sz):bC Q sz (xs++cs) (l ++ [b]):=h.append (iP hb hl)
theorem aiW{H:Heap}{a:Addr}{xs cs:List Value}(h:Rd H (some a) xs)(k:∀i v,cs[i]? = some v→cell H (a.add (xs.length+i))=some v):Rd H (some a) (xs++cs):=fun i v hv=>by
 by_cases hi:i<xs.length
 ·rw[List.getElem?_append_left hi]at hv;exact h i v hv
 ·rw[List.getElem?_append_right (by omega)]at hv
  have:=k _ _ hv
  rw[show xs.length+(i-xs.length)=i by omega]at this
  exact⟨a,rfl,this⟩
theorem MI{α:Type}{Q:Heap→List Value→α→Prop}{t e sz:Nat}(ht:P.underlying t=some (.slice e))(hc:P.cellsOf e=sz)(hp:0<sz)(hq:∀n cs x,cs.length=sz→DataW.trod enc P w 0 spare held n e cs=some x→∃a,Q (kz w) cs a)
  {n:Nat} {cs:List Value} {x:DataW Hy×List MemPlace} (h:DataW.trod enc P w 0 spare held n t cs=some x):∃v l,cs = [v]∧aR Q sz (kz w) v (l:List α)∧l.length≤maxLen:=by
 rcases Deep.open_slice ht h with ⟨rfl,_⟩ | ⟨a,len,cap,m,n',D,Pl,rfl,_,hl,hm,hmm,_,hx⟩
 ·exact⟨_,[],rfl,ki,Nat.zero_le _⟩
 ·have RU:len≤m:=by rw[hmm];split <;> omega
  rw[hc]at hx
  have key:∀k,k≤len→∃xs l,l.length=k∧bC (Q (kz w)) sz xs (l:List α)∧Rd (kz w) (some a) xs:=by
   intro k
   induction k with
   | zero=>exact fun _=>⟨[],[],rfl,u6,Rd.nil _ _⟩
   | succ k ih=>
    intro hk
    obtain⟨xs,l,h1,h2,h3⟩:=ih (by omega)
    obtain⟨cE,h4,h5⟩:=hx k (by omega)
    obtain⟨_,h6,h7⟩:=World.cells?_some h4
    obtain⟨b,hb⟩:=hq _ _ _ h6 h5
    refine⟨xs++cE,l ++ [b],by simp[h1],aiV h2 hb h6,aiW h3 fun i v hv=> ?_⟩
    have hi:=(List.getElem?_eq_some_iff.1 hv).1
    have h8:=h7 i (by omega)
    rw[hv,add_add]at h8
    rw[h2.len,h1];exact aiT h8
  obtain⟨xs,l,h1,h2,h3⟩:=key len (Nat.le_refl _)
  refine⟨_,l,rfl,⟨some a,cap,xs,by rw[h1],by omega,h3,h2⟩,by omega⟩
theorem wf_u32{z:Int}(h:(Lit.int .u32 z).wf=true):0≤z∧z<4294967296:=by
 simp[Lit.wf,IntKind.min,IntKind.max,IntKind.signed,IntKind.bits]at h;omega
theorem ZY{t e:Nat}(ht:P.underlying t=some (.slice e))(he:P.underlying e=some (.int .u32))(hc:P.cellsOf e=1){n:Nat}{cs:List Value}{x:DataW Hy×List MemPlace}(h:DataW.trod enc P w 0 spare held n t cs=some x):
  ∃v l,cs = [v]∧jx (kz w) v l∧(∀y,y∈l→y<4294967296)∧l.length≤maxLen:=by
 obtain⟨v,l,rfl,⟨A,c,xs,rfl,h2,h3,h4⟩,h5⟩:=MI (α:=Nat) (Q:=fun _ vs a=>vs = [.int .u32 (Int.ofNat a)]∧a<4294967296) ht hc (by decide) (fun n cs x hl h=>by
  obtain⟨z,rfl,_,hz⟩:=DataW.trod_int he h
  obtain⟨h1,h2⟩:=wf_u32 hz
  exact⟨z.toNat,by rw[show Int.ofNat z.toNat=z from Int.toNat_of_nonneg h1],by omega⟩) h
 refine⟨_,l,rfl,⟨A,c,rfl,h2,?_⟩,fun y hy=> ?_,h5⟩
 ·have:xs=U l:=by
   apply List.ext_getElem?
   intro i
   by_cases hi:i<l.length
   ·obtain⟨u,h6,h7⟩:=h4.one (List.getElem?_eq_getElem hi)
    rw[h6,dr (List.getElem?_eq_getElem hi)]
    have:=h7.1
    simpa using this
   ·rw[List.getElem?_eq_none (by rw[h4.len];omega),List.getElem?_eq_none (by rw[AL];omega)]
  rw[←this];exact h3
 ·obtain⟨i,hi⟩:=List.getElem?_of_mem hy
  exact(h4.at_ i y hi).2
theorem aiX{t f0 f1 lu:Nat}{F0 F1 F2:Field}(ht:P.underlying t=some (.struct #[F0,F1,F2]))(e0:F0.type=f0∧F0.offset=0)(e1:F1.type=f1∧F1.offset=1)(e2:F2.type=f1∧F2.offset=2)(hb:P.underlying f0=some .bool)(hl:P.underlying f1=some (.slice lu))(hu:P.underlying lu=some (.int .u32))(hc:P.cellsOf lu=1)(c0:P.cellsOf f0=1)(c1:P.cellsOf f1=1)
  {n:Nat} {cs:List Value} {x:DataW Hy×List MemPlace} (h:DataW.trod enc P w 0 spare held n t cs=some x) (iM:cs.length=3):∃q,bN maxLen (kz w) cs q:=by
 match cs,iM with
 | [a,b,c],_=>
  obtain⟨y0,y1,y2,m,_,_,h0,h1,h2⟩:=Deep.trod_struct3 ht h
  rw[e0.1,e0.2,c0]at h0
  rw[e1.1,e1.2,c1]at h1
  rw[e2.1,e2.2,c1]at h2
  obtain⟨f,k0,_⟩:=DataW.trod_bool hb h0
  obtain⟨u,l1,k1,k2,k3,k4⟩:=ZY hl hu hc h1
  obtain⟨v,l2,k5,k6,k7,k8⟩:=ZY hl hu hc h2
  simp at k0 k1 k5
  subst k0 k1 k5
  exact⟨_,_,_,_,l1,l2,rfl,k2,k6,k3,k7,k4,k8,rfl⟩
end
section
variable {Hy:Type} {enc:TypeId×Value→Hy} {w:World} {spare:Nat→Bool} {held:Bool}
theorem ZZ:Tryz.prog.cellsOf 31=3:=by kernel_rfl
theorem Z0{n:Nat}{cs:List Value}{x:DataW Hy×List MemPlace}(h:DataW.trod enc Tryz.prog w 0 spare held n 31 cs=some x)(iM:cs.length=3):∃q,bN maxLen (kz w) cs q:=
 aiX Tryz.underlying31 ⟨rfl,rfl⟩ ⟨rfl,rfl⟩ ⟨rfl,rfl⟩ Tryz.underlying4 Tryz.underlying29 Tryz.underlying121 (by kernel_rfl) (by kernel_rfl) (by kernel_rfl) h iM
theorem aiY{n:Nat}{cs:List Value}{x:DataW Hy×List MemPlace}(h:DataW.trod enc Tryz.prog w 0 spare held n 26 cs=some x):∃v l,cs = [v]∧aR (bN maxLen) 3 (kz w) v l:=
 let ⟨v,l,h1,h2,_⟩:=MI (Q:=bN maxLen) Tryz.underlying26 ZZ (by decide) (fun _ _ _ hl h=>Z0 h hl) h
 ⟨v,l,h1,h2⟩
theorem aiZ{n:Nat}{cs:List Value}{x:DataW Hy×List MemPlace}(h:DataW.trod enc Tryz.prog w 0 spare held n 78 cs=some x)(iM:cs.length=5):∃r,fu maxLen (kz w) cs r:=by
 match cs,iM with
 | [a,b,c,d,e],_=>
  obtain⟨y0,y1,y2,m,_,_,h0,h1,h2⟩:=Deep.trod_struct3 Tryz.underlying78 h
  have c0:Tryz.prog.cellsOf 26=1:=by kernel_rfl
  have c1:Tryz.prog.cellsOf 3=1:=by kernel_rfl
  obtain⟨v,l,k0,k1⟩:=aiY h0
  obtain⟨z,k2,_⟩:=DataW.trod_int Tryz.underlying3 h1
  simp only[c0,c1,ZZ]at k0 k2 h2
  simp at k0 k2
  subst k0 k2
  obtain⟨q,hq⟩:=Z0 h2 (by simp)
  have pK:cn (kz w) (.agg #[c,d,e]) q maxLen:=hq
  obtain⟨f,u,w',l1,l2,e1,hr⟩:=id pK
  have e2:=y8 (vs:=[c,d,e]) e1
  simp only[List.cons.injEq,and_true]at e2
  obtain⟨rfl,rfl,rfl⟩:=e2
  exact⟨(l,z,q),_,_,_,_,rfl,k1,pK⟩
set_option maxRecDepth 100000 in
theorem ai0{v:Value}{d:DataW Hy}{ps:List MemPlace}{b0:Nat}{rr:Reach}(hv:Value.okWide Tryz.prog w rr b0 25 v)(h:DataW.Trod enc Tryz.prog w 0 spare held 25 v d ps):∃p,eH maxLen (kz w) v p:=by
 obtain⟨cs,rfl,cK⟩:=WideShapes.okWide_struct Tryz.underlying25 hv
 have hC:Tryz.prog.cellsOf 25=2:=by kernel_rfl
 obtain⟨cs,rfl⟩:∃l:List Value,cs=l.toArray:=⟨cs.toList,by simp⟩
 match cs,(show cs.length=2 by rw[hC]at cK;simpa using cK)with
 | [a,b],_=>
  obtain⟨fuel,hf⟩:=h
  obtain⟨y0,y1,m,_,_,h0,h1⟩:=ChangeShapes.trod_struct2 Tryz.underlying25 hf
  have c0:Tryz.prog.cellsOf 22=1:=by kernel_rfl
  have c1:Tryz.prog.cellsOf 23=1:=by kernel_rfl
  have c2:Tryz.prog.cellsOf 4=1:=by kernel_rfl
  have c3:Tryz.prog.cellsOf 78=5:=by kernel_rfl
  obtain⟨fv,fl,k0,k1,_⟩:=MI (α:=Bool) (Q:=qO) Tryz.underlying22 c2 (by decide) (fun n cs x hl h=>by
   obtain⟨b,rfl,_⟩:=DataW.trod_bool Tryz.underlying4 h
   exact⟨b,rfl⟩) h0
  obtain⟨rv,rl,k2,k3,_⟩:=MI (Q:=fu maxLen) Tryz.underlying23 c3 (by decide) (fun n cs x hl h=>aiZ h hl) h1
  simp only[c0,c1]at k0 k2
  simp[Value.cells]at k0 k2
  subst k0 k2
  exact⟨⟨fl,rl⟩,_,_,rfl,k1,k3⟩
end
end Go.au
namespace Go.au
def MJ(ms:List Nat)(o:Oper):Nat:=o.after.toList.foldl (fun m e=>cond (Region.binds .any e) (m ||| (1 <<< e.on) ||| ms.getD e.on 0) m) 0
def MK(md:Mode)(l:List Oper)(ms:List Nat):List Nat→Bool
 | []=>true
 | i::r=>r.all (fun j=>Nat.testBit (ms.getD j 0) i||Sw md l.toArray (fc l i) (fc l j))&&MK md l ms r
def Z1(n:Nat)(md:Mode)(l:List Oper)(perm ms:List Nat):Bool:=
 !md.U3&&Fz n l&&Nat.beq perm.length l.length&&perm.all (fun i=>Nat.blt i l.length)&&FA perm&&MK md l ms perm&&(List.range l.length).all (fun i=>perm.contains i) &&
 ((List.range l.length).all fun i=>(fc l i).after.all fun e=> !Region.binds .any e||Nat.blt e.on i)&&(List.range l.length).all fun j=>Nat.beq (ms.getD j 0) (MJ ms (fc l j))
theorem Z2{ms:List Nat}{i:Nat}:∀(es:List Edge)(m:Nat),(es.foldl (fun m e=>cond (Region.binds .any e) (m ||| (1 <<< e.on) ||| ms.getD e.on 0) m) m).testBit i=true→m.testBit i=true∨∃e,e∈es∧Region.binds .any e=true∧(e.on=i∨(ms.getD e.on 0).testBit i=true)
 | [],m,h=> .inl h
 | e::es,m,h=>by
  rcases Z2 es _ h with h1 | ⟨e',h1,h2⟩
  ·cases hb:Region.binds .any e with
   | false=>dsimp only at h1;rw[hb]at h1;exact .inl h1
   | true=>
    dsimp only at h1
    rw[hb]at h1
    simp only[cond_true,Nat.testBit_or,Bool.or_eq_true]at h1
    rcases h1 with (h1 | h1) | h1
    ·exact .inl h1
    ·refine .inr ⟨e,List.mem_cons_self ..,hb,.inl ?_⟩
     rw[Nat.one_shiftLeft,Nat.testBit_two_pow]at h1
     simpa using h1
    ·exact .inr ⟨e,List.mem_cons_self ..,hb,.inr h1⟩
  ·exact .inr ⟨e',List.mem_cons_of_mem _ h1,h2⟩
theorem Z3{l:List Oper}:∀(f i j:Nat),pJ l f i j=true→pJ l (f+1) i j=true
 | 0,_,_,h=>by cases h
 | f+1,i,j,h=>by
  unfold pJ at h⊢
  rw[Array.any_eq_true]at h⊢
  obtain⟨k,hk,h⟩:=h
  refine⟨k,hk,?_⟩
  simp only[Bool.and_eq_true,Bool.or_eq_true]at h⊢
  exact⟨h.1,h.2.imp id fun h=>Z3 f i _ h⟩
theorem Z4{l:List Oper}{f g i j:Nat}(h:pJ l f i j=true)(hg:f≤g):pJ l g i j=true:=by
 obtain⟨k,rfl⟩:=Nat.le.dest hg
 clear hg
 induction k with
 | zero=>exact h
 | succ k ih=>exact Z3 _ _ _ ih
theorem ai1{l:List Oper}{ms:List Nat}(hb:∀i,i<l.length→∀e,e∈(fc l i).after→Region.binds .any e=true→e.on<i)(hm:∀j,j<l.length→ms.getD j 0=MJ ms (fc l j))(i:Nat):∀(k j:Nat),j<k→j<l.length→(ms.getD j 0).testBit i=true→pJ l (j+1) i j=true:=by
 intro k
 induction k with
 | zero=>intro j h;omega
 | succ k ih=>
  intro j hk hj h
  rw[hm j hj]at h
  rcases Z2 _ _ h with h1 | ⟨e,h1,h2,h3⟩
  ·simp at h1
  ·have FN:e∈(fc l j).after:=Array.mem_toList_iff.1 h1
   have bI:=hb j hj e FN h2
   unfold pJ
   rw[Array.any_eq_true]
   obtain⟨q,hq,e1⟩:=Array.mem_iff_getElem.1 FN
   refine⟨q,hq,?_⟩
   rw[e1]
   simp only[Bool.and_eq_true,Bool.or_eq_true]
   refine⟨h2,?_⟩
   rcases h3 with h3 | h3
   ·exact .inl (by rw[h3];exact Nat.beq_refl i)
   ·exact .inr (Z4 (ih e.on (by omega) (by omega) h3) (by omega))
theorem Z5{md:Mode}{l:List Oper}{ms:List Nat}(hb:∀i,i<l.length→∀e,e∈(fc l i).after→Region.binds .any e=true→e.on<i)(hm:∀j,j<l.length→ms.getD j 0=MJ ms (fc l j)):∀r:List Nat,(∀i,i∈r→i<l.length)→MK md l ms r=true→AD md l r=true
 | [],_,_=>rfl
 | i::r,hr,h=>by
  unfold MK at h
  unfold AD
  simp only[Bool.and_eq_true,List.all_eq_true,Bool.or_eq_true]at h⊢
  refine⟨fun j hj=> ?_,Z5 hb hm r (fun k hk=>hr k (List.mem_cons_of_mem _ hk)) h.2⟩
  have hl:=hr j (List.mem_cons_of_mem _ hj)
  exact(h.1 j hj).imp (fun h9=>Z4 (ai1 hb hm i _ j (Nat.lt_succ_self j) hl h9) (by omega)) id
theorem iz{n:Nat}{md:Mode}{l:List Oper}{perm:List Nat}(ms:List Nat)(h:Z1 n md l perm ms=true):C1 n md l perm=true:=by
 unfold Z1 at h
 simp only[Bool.and_eq_true]at h
 obtain⟨⟨⟨⟨⟨⟨⟨⟨h1,h2⟩,h3⟩,h4⟩,h5⟩,h6⟩,h7⟩,h8⟩,h9⟩:=h
 have hb:∀i,i<l.length→∀e,e∈(fc l i).after→Region.binds .any e=true→e.on<i:=fun i hi e he sI=>by
  have k1:=List.all_eq_true.1 h8 i (List.mem_range.2 hi)
  obtain⟨q,hq,e1⟩:=Array.mem_iff_getElem.1 he
  have k2:=Array.all_eq_true.1 k1 q hq
  rw[e1,sI]at k2
  simp only[Bool.not_true,Bool.false_or]at k2
  exact Fy k2
 have hm:∀j,j<l.length→ms.getD j 0=MJ ms (fc l j):=fun j hj=>Nat.eq_of_beq_eq_true (List.all_eq_true.1 h9 j (List.mem_range.2 hj))
 have hp:AD md l perm=true:=Z5 hb hm perm (fun i hi=>Fy (List.all_eq_true.1 h4 i hi)) h6
 unfold C1
 simp only[Bool.and_eq_true]
 exact⟨⟨⟨⟨⟨⟨⟨h1,h2⟩,h3⟩,h4⟩,h5⟩,hp⟩,h7⟩,h8⟩
end Go.au
namespace Go.au
open Go.Proofs Num Lp
def fA(vs:List Value)(q:Rat):Prop:=∃n d:Int,vs = [.int .i64 n,.int .i64 d]∧-1073741824≤n∧n≤1073741824∧1≤d∧d≤1073741824∧q=(n:Rat)/(d:Rat)
theorem EN:fA [.int .i64 0,.int .i64 1] 0:=⟨0,1,rfl,by decide,by decide,by decide,by decide,by grind⟩
theorem xI{a b:Int}(h1: -1073741824≤a)(h2:a≤1073741824)(h3: -1073741824≤b)(h4:b≤1073741824): -1152921504606846976≤a*b∧a*b≤1152921504606846976:=by
 have h5:(a*b).natAbs≤1073741824*1073741824:=by rw[Int.natAbs_mul];exact Nat.mul_le_mul (by omega) (by omega)
 omega
theorem ai2{n d a:Int}(ha:a≠0)(h1:a∣n)(h2:a∣d):((n.tdiv a:Int):Rat)/((d/a:Int):Rat)=(n:Rat)/(d:Rat):=by
 obtain⟨k,rfl⟩:=h1
 obtain⟨j,rfl⟩:=h2
 rw[Int.mul_tdiv_cancel_left _ ha,Int.mul_ediv_cancel_left _ ha]
 have h3:(a:Rat)≠0:=by exact_mod_cast ha
 by_cases hj:j=0
 ·subst hj;rw[Int.mul_zero];simp[Rat.div_def]
 ·have h4:(j:Rat)≠0:=by exact_mod_cast hj
  rw[Rat.intCast_mul,Rat.intCast_mul]
  rw[Rat.div_def,Rat.div_def,Rat.inv_mul_rev]
  grind
def SB(gs:List Nat)(g:Nat)(rv bv:Value)(o:Bool)(H:Heap)(q:Rat)(v:Value)(H':Heap):Prop:=
 fS gs g H H'∧∃(vs:List Value)(o':Bool)(q':Rat),v = .agg vs.toArray∧fA vs q'∧H' g=some ⟨[rv,bv,.bool o'],3,160,true⟩∧(o'=false→o=false∧q'=q)
theorem SC{H:Heap}{gs:List Nat}{g:Nat}{rv bv:Value}{o:Bool}(hg:g∈gs)(ht:H g=some ⟨[rv,bv,.bool o],3,160,true⟩){n d:Int}(h1: -4611686018427387904≤n)(h2:n≤4611686018427387904)(h3:1≤d)(h4:d≤4611686018427387904):
 Fn Tryz.prog 189 #[.pointer (some ⟨g,0,none⟩),.int .i64 n,.int .i64 d] H (SB gs g rv bv o H ((n:Rat)/(d:Rat))):=by
 refine a7 (args:=[_,_,_]) Tryz.func189 rfl rfl Tryz.ntmps189 rfl rfl fun w0=> ?_;refine aj [0,1,2] rfl ?_;refine ag (bt fO rfl (ae [0,1,2,6] ?_));refine ag (ab 4 rfl (ae [0,1,2,6,7,8] ?_));refine Dd (put (put (put (put (put (put (emp) 0 (.val (.pointer (some ⟨g,0,none⟩)))) 1 (.val (.int .i64 n))) 2 (.val (.int .i64 d))) 6 (.box [.int .i64 0,.int .i64 0])) 7 (.val (.int .i64 (n.natAbs:Int)))) 8 (.val (.int .i64 d))) (fun H'=>H'=H) ?_ ?_
 ·
  refine ag (ab 2 rfl (ae [0,1,2,6,7,8,12] ?_));refine aC rfl (fun hb=> ?_) (fun hb=> ?_)
  ·
   have hb:n<0:=by simpa using hb
   refine aB rfl (ab 1 rfl (te rfl ⟨by omega,by omega⟩ (ab 1 rfl (aw ?_))));exact⟨ar,rfl⟩
  ·
   have hb:0≤n:=by simpa using hb
   refine aA ?_;exact⟨ar,rfl⟩
 ·
  rintro H0 e0;rw[e0];clear e0 H0;refine ao (aF (gX (fun(a:Nat)(b:Nat)=>b) (fun(a:Nat)(b:Nat)=>put (put (put (put (put (put (emp) 0 (.val (.pointer (some ⟨g,0,none⟩)))) 1 (.val (.int .i64 n))) 2 (.val (.int .i64 d))) 6 (.box [.int .i64 0,.int .i64 0])) 7 (.val (.int .i64 (a:Int)))) 8 (.val (.int .i64 (b:Int)))) (fun(a:Nat)(b:Nat) H'=>H'=H∧Nat.gcd a b=Nat.gcd n.natAbs d.natAbs∧a≤9223372036854775807∧b≤9223372036854775807) n.natAbs d.natAbs (⟨rfl,rfl,by omega,by omega⟩) ar ?_));rintro a b H2 ⟨e2,j9,ha,lx⟩;refine ao (ag (ab 2 rfl (ae [0,1,2,6,7,8,16] ?_)));refine aC rfl (fun hb=> ?_) (fun hb=> ?_)
  ·
   have hb:0<b:=by simp at hb;omega
   refine aA (aj [0,1,2,6,7,8] rfl ?_);refine aF (eu .bL [0,1,2,3,4,5] follows (by kernel_rfl) ?_);refine ab 3 rfl (m7 rfl rfl (by omega) (by omega) (ab 2 rfl (aw ?_)));exact⟨b,a%b,Nat.mod_lt a hb,ar,e2,by rw[←j9,Nat.gcd_comm b,←Nat.gcd_rec,Nat.gcd_comm],lx,by have:=Nat.mod_lt a hb;omega⟩
  have hb:b=0:=by simp at hb;omega
  subst hb;rw[Nat.gcd_zero_right]at j9
  have ha0:0<a:=by rw[j9];exact Nat.gcd_pos_of_pos_right _ (by omega)
  have OR:(a:Int)∣n:=Int.ofNat_dvd_left.2 (by rw[j9];exact Nat.gcd_dvd_left _ _);have Z6:(a:Int)∣d:=Int.ofNat_dvd_left.2 (by rw[j9];exact Nat.gcd_dvd_right _ _)
  have Ht: -4611686018427387904≤n.tdiv a∧n.tdiv a≤4611686018427387904:=by
   have:(n.tdiv a).natAbs≤n.natAbs:=by rw[Int.natAbs_tdiv];exact Nat.div_le_self _ _
   omega
  have hd9:d/(a:Int)≤d:=Int.ediv_le_self _ (by omega)
  have hd8:1≤d/(a:Int):=by
   obtain⟨k,hk⟩:=Z6;rw[hk,Int.mul_ediv_cancel_left _ (by omega)]
   rcases Int.lt_or_le k 1 with h | h
   ·
    have:(a:Int)*k≤0:=Int.mul_nonpos_of_nonneg_of_nonpos (by omega) (by omega)
    omega
   ·exact h
  have ai3:=ai2 (show (a:Int)≠0 by omega) OR Z6;rw[e2];clear e2 j9 lx;refine aV (aj [0,1,2,6,7] rfl ?_);refine AJ (fun(x:Int)(y:Int)=>put (put (put (put (emp) 0 (.val (.pointer (some ⟨g,0,none⟩)))) 1 (.val (.int .i64 x))) 2 (.val (.int .i64 y))) 6 (.box [.int .i64 0,.int .i64 0])) (fun(x:Int)(y:Int) H'=>H'=H∧1≤y∧(-4611686018427387904≤x∧x≤4611686018427387904∧y≤4611686018427387904)∧(x:Rat)/(y:Rat)=(n:Rat)/(d:Rat)) ?_ ?_
  ·
   refine ag (ab 2 rfl (ae [0,1,2,6,7,22] ?_));refine aC rfl (fun hb=> ?_) (fun hb=> ?_)
   ·
    skip
    refine eu .bL [0,1,2,3,4,5,6,7] follows (by kernel_rfl) ?_;refine ab 2 rfl (Vt rfl rfl (by omega) ⟨by omega,by omega⟩ (ab 2 rfl (lP rfl rfl (by omega) (by omega) ⟨by omega,by omega⟩ (ab 2 rfl (aw ?_)))));exact⟨_,_,ar,rfl,hd8,⟨Ht.1,Ht.2,by omega⟩,ai3⟩
   skip
   refine aA ?_;exact⟨_,_,ar,rfl,h3,⟨h1,h2,h4⟩,rfl⟩
  rintro x y H3 ⟨rfl,tn,⟨eV,eP,Eg⟩,qy⟩;refine ao ?_
  by_cases g1:1073741824<x
  ·
   skip
   refine ag (ab 1 rfl (aI true rfl rfl (nn (by omega)) (ab 8 rfl (ae [0,1,2,6,38] ?_))));refine dN rfl (ag (ab 2 rfl (aU ah rfl rfl rfl ?_)));obtain⟨ti,ak,al⟩:=FU;refine lW (g:=g) (o:=2) (.inl rfl) rfl ht rfl (by show 2+1≤3;omega) ak al rfl rfl rfl rfl ?_;refine ae [6] ?_;refine ag (dy ah rfl fO rfl rfl ?_);obtain⟨ti,ak,al⟩:=eh;refine aH (.inl ⟨rfl,rfl⟩) rfl rfl rfl ak al rfl rfl rfl (ae [6] ?_);obtain⟨bQ,aM,aN⟩:=eh;refine aD ⟨.inr rfl,_,.agg rfl Tryz.underlying163 aM aN (.nil),?_⟩;exact⟨(Kept.refl _ _).iD g |>.ins hg _,_,true,0,rfl,EN,by rw[bD];rfl,fun h=>by cases h⟩
  skip
  by_cases g2:x < -1073741824
  ·
   skip
   refine ag (ab 1 rfl (aI false rfl rfl (jw (by omega)) (ab 2 rfl (aI true rfl rfl (jK (by omega)) (ab 5 rfl (ae [0,1,2,6,38] ?_))))));refine dN rfl (ag (ab 2 rfl (aU ah rfl rfl rfl ?_)));obtain⟨ti,ak,al⟩:=FU;refine lW (g:=g) (o:=2) (.inl rfl) rfl ht rfl (by show 2+1≤3;omega) ak al rfl rfl rfl rfl ?_;refine ae [6] ?_;refine ag (dy ah rfl fO rfl rfl ?_);obtain⟨ti,ak,al⟩:=eh;refine aH (.inl ⟨rfl,rfl⟩) rfl rfl rfl ak al rfl rfl rfl (ae [6] ?_);obtain⟨bQ,aM,aN⟩:=eh;refine aD ⟨.inr rfl,_,.agg rfl Tryz.underlying163 aM aN (.nil),?_⟩;exact⟨(Kept.refl _ _).iD g |>.ins hg _,_,true,0,rfl,EN,by rw[bD];rfl,fun h=>by cases h⟩
  skip
  by_cases g3:1073741824<y
  ·
   skip
   refine ag (ab 1 rfl (aI false rfl rfl (jw (by omega)) (ab 2 rfl (aI false rfl rfl (ik (by omega)) (ab 3 rfl (aI true rfl rfl (nn (by omega)) (ab 1 rfl (ae [0,1,2,6,38] ?_))))))));refine dN rfl (ag (ab 2 rfl (aU ah rfl rfl rfl ?_)));obtain⟨ti,ak,al⟩:=FU;refine lW (g:=g) (o:=2) (.inl rfl) rfl ht rfl (by show 2+1≤3;omega) ak al rfl rfl rfl rfl ?_;refine ae [6] ?_;refine ag (dy ah rfl fO rfl rfl ?_);obtain⟨ti,ak,al⟩:=eh;refine aH (.inl ⟨rfl,rfl⟩) rfl rfl rfl ak al rfl rfl rfl (ae [6] ?_);obtain⟨bQ,aM,aN⟩:=eh;refine aD ⟨.inr rfl,_,.agg rfl Tryz.underlying163 aM aN (.nil),?_⟩;exact⟨(Kept.refl _ _).iD g |>.ins hg _,_,true,0,rfl,EN,by rw[bD];rfl,fun h=>by cases h⟩
  skip
  refine ag (ab 1 rfl (aI false rfl rfl (jw (by omega)) (ab 2 rfl (aI false rfl rfl (ik (by omega)) (ab 3 rfl (aI false rfl rfl (jw (by omega)) (ab 1 rfl (ae [0,1,2,6,38] ?_))))))));refine dU rfl (aA (aj [1,2,6] rfl ?_));refine ag (ab 2 rfl (dy ah rfl fO rfl rfl ?_));obtain⟨ti,ak,al⟩:=eh;refine aH (.inl ⟨rfl,rfl⟩) rfl rfl rfl ak al rfl rfl rfl (ae [6] ?_);obtain⟨bQ,aM,aN⟩:=eh;refine aD ⟨.inr rfl,_,.agg rfl Tryz.underlying163 aM aN (.nil),?_⟩;exact⟨(Kept.refl _ _).iD g,_,o,_,rfl,⟨x,y,rfl,by omega,by omega,by omega,by omega,rfl⟩,ht,fun h=>⟨h,qy⟩⟩
theorem Z7{n d a b:Int}:((n*a:Int):Rat)/((d*b:Int):Rat)=(n:Rat)/(d:Rat)*((a:Rat)/(b:Rat)):=by
 rw[Rat.intCast_mul,Rat.intCast_mul,Rat.div_def,Rat.div_def,Rat.div_def,Rat.inv_mul_rev];grind
theorem Z8{n d a b:Int}(h1:1≤d)(h2:1≤b):((n*b-a*d:Int):Rat)/((d*b:Int):Rat)=(n:Rat)/(d:Rat)-(a:Rat)/(b:Rat):=by
 have h3:(d:Rat)≠0:=by exact_mod_cast (show d≠0 by omega)
 have h4:(b:Rat)≠0:=by exact_mod_cast (show b≠0 by omega)
 rw[Rat.intCast_sub,Rat.intCast_mul,Rat.intCast_mul,Rat.intCast_mul,Rat.div_def,Rat.div_def,Rat.div_def,Rat.inv_mul_rev]
 grind
theorem ML{a b:Int}(h1:1≤a)(h2:1≤b):1≤a*b:=by
 have:=Int.mul_le_mul h1 h2 (by omega) (by omega)
 omega
theorem SD{H:Heap}{gs:List Nat}{g:Nat}{rv bv:Value}{o:Bool}(hg:g∈gs)(ht:H g=some ⟨[rv,bv,.bool o],3,160,true⟩){xs ys:List Value}{p q:Rat}(hx:fA xs p)(hy:fA ys q):
 Fn Tryz.prog 191 #[.pointer (some ⟨g,0,none⟩),.agg xs.toArray,.agg ys.toArray] H (SB gs g rv bv o H (p*q)):=by
 obtain⟨n,d,rfl,h1,h2,h3,h4,rfl⟩:=hx
 obtain⟨a,b,rfl,g1,g2,g3,g4,rfl⟩:=hy
 have m1:=xI (a:=d) (b:=b) (by omega) h4 (by omega) g4
 have m2:=ML h3 g3
 have m3:=xI h1 h2 g1 g2;refine a7 (args:=[_,_,_]) Tryz.func191 rfl rfl Tryz.ntmps191 rfl rfl fun w0=> ?_;refine aj [0,1,2] rfl ?_;refine ag (bX rfl rfl (bX rfl rfl (bt fO rfl (ae [0,4,5,6] ?_))));refine ag (ab 5 rfl (gM rfl rfl ⟨by omega,by omega⟩ (ab 4 rfl (gM rfl rfl ⟨by omega,by omega⟩ (aE rfl rfl (SC hg ht (n:=n*a) (d:=d*b) (by omega) (by omega) (by omega) (by omega)) ?_)))));rintro v1 H1 ⟨k1,vs,o',q',rfl,j1,j2,j3⟩;obtain⟨x,y,rfl,i1⟩:=id j1;obtain⟨ti,ak,al⟩:=eh;refine aH (.inl ⟨rfl,rfl⟩) rfl rfl rfl ak al rfl rfl rfl (ae [6] ?_);obtain⟨bQ,aM,aN⟩:=eh;refine aD ⟨.inr rfl,_,.agg rfl Tryz.underlying163 aM aN (.nil),?_⟩;exact⟨k1,_,o',q',rfl,j1,j2,fun h=>⟨(j3 h).1,(j3 h).2.trans Z7⟩⟩
theorem SE{H:Heap}{gs:List Nat}{g:Nat}{rv bv:Value}{o:Bool}(hg:g∈gs)(ht:H g=some ⟨[rv,bv,.bool o],3,160,true⟩){xs ys:List Value}{p q:Rat}(hx:fA xs p)(hy:fA ys q):
 Fn Tryz.prog 137 #[.pointer (some ⟨g,0,none⟩),.agg xs.toArray,.agg ys.toArray] H (SB gs g rv bv o H (p-q)):=by
 obtain⟨n,d,rfl,h1,h2,h3,h4,rfl⟩:=hx
 obtain⟨a,b,rfl,g1,g2,g3,g4,rfl⟩:=hy
 have m1:=xI (a:=d) (b:=b) (by omega) h4 (by omega) g4
 have m2:=ML h3 g3
 have m3:=xI h1 h2 (show -1073741824≤b by omega) g4
 have m4:=xI g1 g2 (show -1073741824≤d by omega) h4;refine a7 (args:=[_,_,_]) Tryz.func137 rfl rfl Tryz.ntmps137 rfl rfl fun w0=> ?_;refine aj [0,1,2] rfl ?_;refine ag (bX rfl rfl (bX rfl rfl (bt fO rfl (ae [0,4,5,6] ?_))));refine ag (ab 5 rfl (gM rfl rfl ⟨by omega,by omega⟩ (ab 4 rfl (gM rfl rfl ⟨by omega,by omega⟩ (cV rfl rfl ⟨by omega,by omega⟩ (ab 4 rfl (gM rfl rfl ⟨by omega,by omega⟩ (aE rfl rfl (SC hg ht (n:=n*b-a*d) (d:=d*b) (by omega) (by omega) (by omega) (by omega)) ?_))))))));rintro v1 H1 ⟨k1,vs,o',q',rfl,j1,j2,j3⟩;obtain⟨x,y,rfl,i1⟩:=id j1;obtain⟨ti,ak,al⟩:=eh;refine aH (.inl ⟨rfl,rfl⟩) rfl rfl rfl ak al rfl rfl rfl (ae [6] ?_);obtain⟨bQ,aM,aN⟩:=eh;refine aD ⟨.inr rfl,_,.agg rfl Tryz.underlying163 aM aN (.nil),?_⟩;exact⟨k1,_,o',q',rfl,j1,j2,fun h=>⟨(j3 h).1,(j3 h).2.trans (Z8 h3 g3)⟩⟩
theorem Z9{x:Nat}(h:(an x).length=1):an x = [x]∧x<1000000000∧0<x:=by
 have h1:x<B^1:=jd.1 (by omega)
 have h2:0<x:=Nat.pos_of_ne_zero fun e=>by subst e;rw[qv]at h;cases h
 have h3:x<B:=by simpa using h1
 refine⟨?_,by rw[show B=1000000000 from rfl]at h3;exact h3,h2⟩
 rw[yF h2,Nat.mod_eq_of_lt h3,Nat.div_eq_of_lt h3,qv]
theorem aaa{H:Heap}{v:Value}{q:Rat}{N:Nat}(hv:cn H v q N)(hN:(N:Int)≤4398046511000):
 Fn Tryz.prog 136 #[v] H (fun v' H'=>Heap.le H H'∧∃(n d:Int)(b:Bool),v' = .tuple #[.agg #[.int .i64 n,.int .i64 d],.bool b]∧(b=true→fA [.int .i64 n,.int .i64 d] q)):=by
 obtain⟨bf,bu,bw,nP,nQ,rfl,fE,cD,nt,LU,X6,Eh,hb7⟩:=id hv;refine a7 (args:=[_]) Tryz.func136 rfl rfl Tryz.ntmps136 rfl rfl fun w0=> ?_;refine aj [0] rfl ?_;refine ag (bX rfl rfl (bt fO rfl (ab 1 rfl (ae [1,2] ?_))));refine ag (ab 1 rfl (aE rfl rfl (tM hv hN) ?_));rintro _ H1 ⟨cH,cB⟩
 unfold bJ at cB
 obtain⟨u,w,rfl,hu,hw⟩:=id cB;obtain⟨A,c,rfl,hc,hr⟩:=id hu;obtain⟨A2,c2,rfl,nu,mz⟩:=id hw;refine bt bY rfl ?_;obtain⟨ti,ak,al⟩:=aY;refine aH (.inl ⟨rfl,rfl⟩) rfl rfl rfl ak al rfl rfl rfl (ae [2,4] ?_);refine ao ?_
 by_cases g1:1<(an q.num.natAbs).length
 ·
  skip
  refine ag (ab 3 rfl (aI true rfl rfl (nn (by omega)) (ab 6 rfl (ae [2,4,17] ?_))));refine dN rfl (ag (dy ah rfl fO rfl rfl ?_));obtain⟨ti,ak,al⟩:=eh;refine aH (.inl ⟨rfl,rfl⟩) rfl rfl rfl ak al rfl rfl rfl (ab 1 rfl (ae [2,3] ?_));obtain⟨bQ,aM,aN⟩:=eh;refine aD ⟨.inr rfl,_,.agg rfl Tryz.underlying163 aM aN (.tmp rfl (.nil)),?_⟩;exact⟨cH,0,0,false,rfl,fun h=>by cases h⟩
 ·
  skip
  by_cases g2:¬(an q.den).length=1
  ·
   skip
   refine ag (ab 3 rfl (aI false rfl rfl (jw (by omega)) (ab 4 rfl (aI true rfl rfl (uQ (by omega)) (ab 1 rfl (ae [2,4,17] ?_))))));refine dN rfl (ag (dy ah rfl fO rfl rfl ?_));obtain⟨ti,ak,al⟩:=eh;refine aH (.inl ⟨rfl,rfl⟩) rfl rfl rfl ak al rfl rfl rfl (ab 1 rfl (ae [2,3] ?_));obtain⟨bQ,aM,aN⟩:=eh;refine aD ⟨.inr rfl,_,.agg rfl Tryz.underlying163 aM aN (.tmp rfl (.nil)),?_⟩;exact⟨cH,0,0,false,rfl,fun h=>by cases h⟩
  have g2:(an q.den).length=1:=by omega
  obtain⟨fa,ko,KW⟩:=Z9 g2;have An:(U (an q.den))[0]? = some (.int .u32 (q.den:Int)):=dr (by rw[fa];rfl)
  have Gq:q.num.natAbs<1000000000:=by
   have:=jd.1 (show (an q.num.natAbs).length≤1 by omega)
   rwa [Nat.pow_one,cj]at this
  refine ag (ab 3 rfl (aI false rfl rfl (jw (by omega)) (ab 4 rfl (aI false rfl rfl (wo (by omega)) (ab 1 rfl (ae [2,4,17] ?_))))));refine dU rfl (aA (aj [2,4] rfl ?_));refine ag (ab 2 rfl (aQ ah rfl rfl rfl rfl rfl (mz) (An) (by omega) (by omega) fun _=>(dd ah rfl rfl rfl ⟨by omega,by omega⟩ (dy ah rfl fO rfl rfl (bt fO rfl ?_)))));obtain⟨ti,ak,al⟩:=eh;refine aH (.inl ⟨rfl,rfl⟩) rfl rfl rfl ak al rfl rfl rfl (ae [2,4,5] ?_);refine Dd (put (put (put (emp) 2 (.box [.int .i64 0,.int .i64 0])) 4 (.box [.bool (decide (q.num<0)),.slice A (an q.num.natAbs).length c,.slice A2 (an q.den).length c2])) 5 (.box [.int .i64 (q.num.natAbs:Int),.int .i64 (q.den:Int)])) (fun H'=>H'=H1) ?_ ?_
  ·
   refine ag (ab 4 rfl (ae [2,4,5,28] ?_));refine aC rfl (fun hb=> ?_) (fun hb=> ?_)
   ·
    have hb:(an q.num.natAbs).length=1:=by simp at hb;omega
    obtain⟨dg,gN,jZ⟩:=Z9 hb;have hnx:(U (an q.num.natAbs))[0]? = some (.int .u32 (q.num.natAbs:Int)):=dr (by rw[dg];rfl);refine aB rfl (ab 2 rfl (aQ ah rfl rfl rfl rfl rfl (hr) (hnx) (by omega) (by omega) fun _=>(dd ah rfl rfl rfl ⟨by omega,by omega⟩ (vr 1 ?_))));obtain⟨ti,ak,al⟩:=oE;refine aH (.inr rfl) rfl rfl rfl ak al rfl rfl rfl (aw ?_);exact⟨ar,rfl⟩
   have hb:¬(an q.num.natAbs).length=1:=by simp at hb;omega
   have hz:q.num.natAbs=0:=jX.1 (by omega);rw[hz];refine aA ?_;exact⟨ar,rfl⟩
  rintro H0 e0;rw[e0];clear e0 H0;refine Dd (put (put (emp) 2 (.box [.int .i64 0,.int .i64 0])) 5 (.box [.int .i64 q.num,.int .i64 (q.den:Int)])) (fun H'=>H'=H1) ?_ ?_
  ·
   refine ag (ab 2 rfl (ae [2,5,36] ?_));refine aC rfl (fun hb=> ?_) (fun hb=> ?_)
   ·
    have hb:q.num<0:=by simpa using hb
    have e9: -((q.num.natAbs:Nat):Int)=q.num:=by omega
    refine aB rfl (ab 2 rfl (te rfl ⟨by omega,by omega⟩ ?_));rw[e9];refine vr 1 ?_;obtain⟨ti,ak,al⟩:=oE;refine aH (.inr rfl) rfl rfl rfl ak al rfl rfl rfl (aw ?_);exact⟨ar,rfl⟩
   have hb:0≤q.num:=by simpa using hb
   rw[show ((q.num.natAbs:Nat):Int)=q.num by omega];refine aA ?_;exact⟨ar,rfl⟩
  rintro H0 e0;rw[e0];clear e0 H0
  by_cases k1:q.num≤1073741824
  ·
   skip
   by_cases k2: -1073741824≤q.num
   ·
    skip
    by_cases k3:(q.den:Int)≤1073741824
    ·
     skip
     refine bO (.pE [2]) [0,1,2,3,4,5,6,7,8,9,10,11,12,13,14,15] follows (iz [0,0,2,6,14,30,62,126,254,510,1022,2046,4094,8190,1023,32767] (by kernel_rfl)) ?_;refine ab 3 rfl (aI true rfl rfl (pO (by omega)) (ab 3 rfl (aI true rfl rfl (rH (by omega)) (ab 4 rfl (aI true rfl rfl (pO (by omega)) (vr 1 ?_))))));obtain⟨ti,ak,al⟩:=eh;refine aH (.inl ⟨rfl,rfl⟩) rfl rfl rfl ak al rfl rfl rfl (ab 1 rfl (ae [2,3] ?_));obtain⟨bQ,aM,aN⟩:=eh;refine aD ⟨.inr rfl,_,.agg rfl Tryz.underlying163 aM aN (.tmp rfl (.nil)),?_⟩;exact⟨cH,_,_,true,rfl,fun _=>⟨_,_,rfl,k2,k1,by omega,k3,(tx q).symm⟩⟩
    skip
    refine bO (.pE [2]) [0,1,2,3,4,5,6,7,8,9,10,11,12,13,14,15] follows (iz [0,0,2,6,14,30,62,126,254,510,1022,2046,4094,8190,1023,32767] (by kernel_rfl)) ?_;refine ab 3 rfl (aI true rfl rfl (pO (by omega)) (ab 3 rfl (aI true rfl rfl (rH (by omega)) (ab 4 rfl (aI false rfl rfl (yH (by omega)) (vr 1 ?_))))));obtain⟨ti,ak,al⟩:=eh;refine aH (.inl ⟨rfl,rfl⟩) rfl rfl rfl ak al rfl rfl rfl (ab 1 rfl (ae [2,3] ?_));obtain⟨bQ,aM,aN⟩:=eh;refine aD ⟨.inr rfl,_,.agg rfl Tryz.underlying163 aM aN (.tmp rfl (.nil)),?_⟩;exact⟨cH,_,_,false,rfl,fun h=>by cases h⟩
   skip
   refine bO (.pE [2]) [0,1,2,3,4,5,6,7,8,9,10,11,12,13,14,15] follows (iz [0,0,2,6,14,30,62,126,254,510,1022,2046,4094,8190,1023,32767] (by kernel_rfl)) ?_;refine ab 3 rfl (aI true rfl rfl (pO (by omega)) (ab 3 rfl (aI false rfl rfl (AK (by omega)) (vr 6 ?_))));obtain⟨ti,ak,al⟩:=eh;refine aH (.inl ⟨rfl,rfl⟩) rfl rfl rfl ak al rfl rfl rfl (ab 1 rfl (ae [2,3] ?_));obtain⟨bQ,aM,aN⟩:=eh;refine aD ⟨.inr rfl,_,.agg rfl Tryz.underlying163 aM aN (.tmp rfl (.nil)),?_⟩;exact⟨cH,_,_,false,rfl,fun h=>by cases h⟩
  skip
  refine bO (.pE [2]) [0,1,2,3,4,5,6,7,8,9,10,11,12,13,14,15] follows (iz [0,0,2,6,14,30,62,126,254,510,1022,2046,4094,8190,1023,32767] (by kernel_rfl)) ?_;refine ab 3 rfl (aI false rfl rfl (yH (by omega)) (vr 10 ?_));obtain⟨ti,ak,al⟩:=eh;refine aH (.inl ⟨rfl,rfl⟩) rfl rfl rfl ak al rfl rfl rfl (ab 1 rfl (ae [2,3] ?_));obtain⟨bQ,aM,aN⟩:=eh;refine aD ⟨.inr rfl,_,.agg rfl Tryz.underlying163 aM aN (.tmp rfl (.nil)),?_⟩;exact⟨cH,_,_,false,rfl,fun h=>by cases h⟩
end Go.au
namespace Go.au
open Go.Proofs Num Lp
structure gL{α β:Type}(P:Heap→List Value→α→Prop)(e sz:Nat)(Q:Heap→List Value→β→Prop)(e' eS:Nat)(Hb H:Heap)(v:Value)(l:List α)(xs:List Value)(u:Value)(k:List β)(ys:List Value):Prop where
 own:bW H v e sz l.length xs
 vJ:bW H u e' eS k.length ys
 mg:bC (P (rem H (az v++az u))) sz xs l
 EO:bC (Q (rem H (az v++az u))) eS ys k
 base:Heap.le Hb (rem H (az v++az u))
 apart:∀q,q∈az v→¬q∈az u
theorem MM(H:Heap)(a b:List Nat):rem H (a++b)=rem H (b++a):=by
 funext q
 unfold rem
 simp only[List.mem_append,Or.comm]
theorem EP{H:Heap}{a b:List Nat}(h:∀q,q∈a→q∈b):Heap.le (rem H b) (rem H a):=fun q en hq=>by
 by_cases hm:q∈b
 ·rw[rem_in hm]at hq;cases hq
 ·rw[bM hm]at hq
  exact⟨en,by rw[bM (fun h'=>hm (h q h'))];exact hq,.refl _⟩
section
variable {α β:Type} {P:Heap→List Value→α→Prop} {e sz:Nat} {Q:Heap→List Value→β→Prop} {e' eS:Nat} {Hb H H':Heap} {v v' u u':Value} {l:List α} {xs:List Value} {k:List β} {ys:List Value}
theorem gL.swap(h:gL P e sz Q e' eS Hb H v l xs u k ys):gL Q e' eS P e sz Hb H u k ys v l xs:=
 ⟨h.vJ,h.own,by rw[MM];exact h.EO,by rw[MM];exact h.mg,by rw[MM];exact h.base,fun q h1 h2=>h.apart q h2 h1⟩
theorem gL.le(h:gL P e sz Q e' eS Hb H v l xs u k ys):Heap.le Hb H:=h.base.trans (bE _ _)
theorem gL.mQ(h:gL P e sz Q e' eS Hb H v l xs u k ys):∀q,q∈az v++az u→H q≠none:=fun q hq=>by
 rcases List.mem_append.1 hq with hq | hq
 ·obtain⟨en,he⟩:=h.own.block (cM.1 hq);rw[he];simp
 ·obtain⟨en,he⟩:=h.vJ.block (cM.1 hq);rw[he];simp
theorem ea.two(h:ea P e sz Hb H v l xs):gL P e sz Q e' eS Hb H v l xs (.slice none 0 0) [] []:=by
 have e1:az v++az (.slice none 0 0)=az v:=by rw[vI,List.append_nil]
 exact⟨h.own,lk H e' eS,by rw[e1];exact h.mg,u6,by rw[e1];exact h.base,fun q _ hq=>by rw[vI]at hq;cases hq⟩
theorem gL.one(h:gL P e sz Q e' eS Hb H v l xs u k ys)(up:Up P)(uq:Up Q):ea P e sz Hb H v l xs∧aR Q eS (rem H (az v)) u k:=by
 have h1:Heap.le (rem H (az v++az u)) (rem H (az v)):=EP fun q hq=>List.mem_append_left _ hq
 refine⟨⟨h.own,h.mg.mono fun vs a=>up _ _ vs a h1,h.base.trans h1⟩,?_⟩
 refine Gp.sl ⟨ys,h.vJ.same fun q hq=> ?_,h.EO.mono fun vs a=>uq _ _ vs a h1⟩
 exact bM fun hv=>h.apart q hv (cM.2 hq)
theorem gL.step(h:gL P e sz Q e' eS Hb H v l xs u k ys)(up:Up P)(uq:Up Q)(hs:∀q,q∈az v++az u→H' q=H q)(hl:Heap.le (rem H (az v++az u)) (rem H' (az v++az u))):gL P e sz Q e' eS Hb H' v l xs u k ys:=
 ⟨h.own.same fun q hq=>hs q (List.mem_append_left _ (cM.2 hq)),h.vJ.same fun q hq=>hs q (List.mem_append_right _ (cM.2 hq)),h.mg.mono fun vs a=>up _ _ vs a hl,h.EO.mono fun vs a=>uq _ _ vs a hl,h.base.trans hl,h.apart⟩
theorem gL.ins(h:gL P e sz Q e' eS Hb H v l xs u k ys)(up:Up P)(uq:Up Q){g:Nat}(en:Ent)(hg:H g=none):gL P e sz Q e' eS Hb (ins H g en) v l xs u k ys:=by
 have hn:¬g∈az v++az u:=fun hm=>h.mQ g hm hg
 refine h.step up uq (fun q hq=>a6 _ _ fun e=>hn (e▸hq)) ?_
 rw[rM _ hn]
 exact Heap.bB _ (by rw[bM hn];exact hg)
theorem gL.append(h:gL P e sz Q e' eS Hb H v l xs u k ys)(up:Up P)(uq:Up Q){m:Nat}{zs:List Value}{j:List α}(hm:m=l.length+j.length)(ha:App H v e sz m (xs++zs) v' H')(hz:bC (P (rem H (az v++az u))) sz zs j):gL P e sz Q e' eS Hb H' v' (l++j) (xs++zs) u k ys:=by
 have hvu:∀q,v.ownBlock=some q→¬u.ownBlock=some q:=fun q h1 h2=>h.apart q (cM.2 h1) (cM.2 h2)
 have new:∀q,q∈az v'→q∈az v∨H q=none:=fun q hq=>by
  rcases ha.at_ with h4 | ⟨g,h4,h5⟩
  ·exact .inl (cM.2 (h4▸cM.1 hq))
  ·have:=cM.1 hq;rw[h4]at this;cases this;exact .inr h5
 have ap:∀q,q∈az v'→¬q∈az u:=fun q hq hu=>by
  rcases new q hq with h1 | h1
  ·exact h.apart q h1 hu
  ·exact h.mQ q (List.mem_append_right _ hu) h1
 have hl:Heap.le (rem H (az v++az u)) (rem H' (az v'++az u)):=fun q en hq=>by
  by_cases hm:q∈az v++az u
  ·rw[rem_in hm]at hq;cases hq
  ·rw[bM hm]at hq
   have h1:=ha.same q en hq fun e=>hm (List.mem_append_left _ (cM.2 e))
   have h2:¬q∈az v'++az u:=fun h2=>by
    rcases List.mem_append.1 h2 with h3 | h3
    ·rcases new q h3 with h4 | h4
     ·exact hm (List.mem_append_left _ h4)
     ·rw[h4]at hq;cases hq
    ·exact hm (List.mem_append_right _ h3)
   exact⟨en,by rw[bM h2];exact h1,.refl _⟩
 refine⟨by rw[List.length_append,←hm];exact ha.own,h.vJ.same fun q hq=> ?_,(h.mg.mono fun vs a=>up _ _ vs a hl).append (hz.mono fun vs a=>up _ _ vs a hl),h.EO.mono fun vs a=>uq _ _ vs a hl,h.base.trans hl,ap⟩
 obtain⟨en,he⟩:=h.vJ.block hq
 rw[he]
 exact ha.same q en he fun h1=>hvu q h1 hq
theorem gL.ai4(h:gL P e sz Q e' eS Hb H v l xs u k ys)(up:Up P)(uq:Up Q){m:Nat}{zs:List Value}{j:List β}(hm:m=k.length+j.length)(ha:App H u e' eS m (ys++zs) u' H')(hz:bC (Q (rem H (az v++az u))) eS zs j):gL P e sz Q e' eS Hb H' v l xs u' (k++j) (ys++zs):=
 (h.swap.append uq up hm ha (by rw[MM];exact hz)).swap
theorem gL.form(h:gL P e sz Q e' eS Hb H v l xs u k ys):∃A c,v = .slice A l.length c:=h.own.form
theorem gL.aab(h:gL P e sz Q e' eS Hb H v l xs u k ys):∃A c,u = .slice A k.length c:=h.vJ.form
end
end Go.au
namespace Go.au
open Go.Proofs Num Lp
theorem Rd.drop{H:Heap}{A:Option Addr}{xs:List Value}(h:Rd H A xs)(k:Nat):Rd H (A.map (·.add k)) (xs.drop k):=fun i v hv=>by
 rw[List.getElem?_drop]at hv
 obtain⟨ad,h1,h2⟩:=h (k+i) v hv
 exact⟨ad.add k,by rw[h1];rfl,by rw[Addr.add_add];exact h2⟩
section
variable {α:Type} {P:Heap→List Value→α→Prop} {sz:Nat} {H:Heap} {A:Option Addr} {c:Nat} {l:List α}
theorem aR.cap{n:Nat}(h:aR P sz H (.slice A n c) l):n=l.length∧l.length≤c:=by
 obtain⟨A',c',xs,e,h1,_⟩:=h
 simp only[Value.slice.injEq]at e
 obtain⟨rfl,rfl,rfl⟩:=e
 exact⟨rfl,h1⟩
theorem aR.from(h:aR P sz H (.slice A l.length c) l){k:Nat}(hk:k≤l.length):aR P sz H (.slice (if c=k then A else A.map (·.add (k*sz))) (l.length-k) (c-k)) (l.drop k):=by
 obtain⟨A',c',xs,e,h1,h2,h3⟩:=h
 simp only[Value.slice.injEq]at e
 obtain⟨rfl,_,rfl⟩:=e
 by_cases e:c=k
 ·rw[if_pos e]
  have e2:l.drop k = []:=List.drop_eq_nil_of_le (by omega)
  rw[e2]
  exact⟨A,c-k,[],by rw[show l.length-k=0 by omega];rfl,Nat.zero_le _,Rd.nil _ _,u6⟩
 ·rw[if_neg e]
  exact⟨_,c-k,xs.drop (k*sz),by rw[List.length_drop],by rw[List.length_drop];omega,h2.drop _,h3.drop k⟩
end
def One{α:Type}(P:Heap→List Value→α→Prop):Prop:=∀H vs a,P H vs a→∀u,u∈vs→u.oneCell'=true
theorem ai5:One qO:=fun _ vs b h u hu=>by
 have h:vs = [.bool b]:=h
 subst h
 rw[List.mem_singleton]at hu;rw[hu];rfl
theorem ai6(N:Nat):One (fu N):=fun _ vs q h u hu=>by
 obtain⟨A,c,k,f,A1,m1,c1,A2,m2,c2,rfl,_⟩:=fu.cells h
 simp only[List.mem_cons,List.not_mem_nil,or_false]at hu
 rcases hu with rfl | rfl | rfl | rfl | rfl <;> rfl
theorem bC.aac{α:Type}{P:Heap→List Value→α→Prop}{sz:Nat}{H:Heap}{xs:List Value}{l:List α}(h:bC (P H) sz xs l)(o:One P)(hz:0<sz):∀u,u∈xs→u.oneCell'=true:=fun u hu=>by
 obtain⟨k,hk⟩:=List.getElem?_of_mem hu
 have PO:=(List.getElem?_eq_some_iff.1 hk).1
 have hd:=Nat.div_add_mod k sz
 have hm:=Nat.mod_lt k hz
 have bI:k/sz<l.length:=by
  rw[h.len]at PO
  exact(Nat.div_lt_iff_lt_mul hz).2 PO
 refine o H _ _ (h.at_ (k/sz) l[k/sz] (List.getElem?_eq_getElem bI)) u ?_
 apply List.mem_of_getElem? (i:=k%sz)
 unfold gy
 rw[List.getElem?_take,if_pos hm,List.getElem?_drop,←hk]
 congr 1
 rw[Nat.mul_comm];exact hd
theorem ai7{P:Program}{n:Nat}{all:Array Oper}{md:Mode}{r:List Oper}{s:St}{H Hb:Heap}{K:St→Heap→Prop}{dst:Option Nat}{ty:TypeId}{pos:String}{after:Array _}{gd:Option (Nat×Bool)}
  {α:Type} {Q:Heap→List Value→α→Prop} {t e sz bytes:Nat} {x y:Operand} {z v w:Value} {l k:List α} {xs:List Value} (up:Up Q) (one:One Q) (hz:0<sz) (ht:P.underlying t=some (.slice e)) (he:fU P e sz z bytes) (hx:ev s x=some v) (hy:ev s y=some w)
  (hG:ea Q e sz Hb H v l xs) (hs:aR Q sz (rem H (az v)) w k) (hb:(l.length+k.length)*bytes≤140737488355328) (qq:l.length+k.length≤9223372036854775807)
  (hk:∀v' H' ys,ea Q e sz Hb H' v' (l++k) ys→Heap.le (rem H (az v)) H'→aP P n all md r (bn s dst (.val v')) H' K) (hg:b8 all s gd=some true:=by rfl) (nb:md.nb s dst=true:=by rfl):aP P n all md (⟨dst,.call ⟨.builtin .append,#[x,y],#[t,t]⟩,ty,pos,after,gd⟩::r) s H K:=by
 obtain⟨A,c,news,rfl,h1,h2,h3⟩:=hs
 refine dR ht he hx hy hG.own (h2.le (bE _ _)) h3.len (h3.aac one hz) hb qq (fun v' H' ha=> ?_) hg nb
 have vp:=hG.od.append up rfl ha h3
 exact hk v' H' _ (vp.down hG.base) vp.le
end Go.au
namespace Go.au
open Go.Proofs Num Lp
structure gS{α:Type}(gs:List Nat)(H0:Heap)(P:Heap→List Value→α→Prop)(e sz:Nat)(H:Heap)(v:Value)(l:List α)(xs:List Value):Prop where
 own:bW H v e sz l.length xs
 mg:bC (P (rem H (gs++az v))) sz xs l
 base:Heap.le (rem H0 gs) (rem H (gs++az v))
 same:∀q,q∈gs→H q=H0 q
 live:∀q,q∈gs→H0 q≠none
 apart:∀q,q∈gs→¬q∈az v
section
variable {α:Type} {gs:List Nat} {H0 H H':Heap} {P:Heap→List Value→α→Prop} {e sz:Nat} {v v':Value} {l:List α} {xs:List Value}
theorem gS.le(h:gS gs H0 P e sz H v l xs):Heap.le H0 H:=fun q en hq=>by
 by_cases hm:q∈gs
 ·exact⟨en,by rw[h.same q hm];exact hq,.refl _⟩
 ·obtain⟨El,h1,h2⟩:=h.base q en (by rw[bM hm];exact hq)
  by_cases lq:q∈gs++az v
  ·rw[rem_in lq]at h1;cases h1
  ·rw[bM lq]at h1;exact⟨El,h1,h2⟩
theorem MN(hl:∀q,q∈gs→H q≠none):gS gs H P e sz H (.slice none 0 0) [] []:=⟨lk H e sz,u6,by rw[vI,List.append_nil];exact .refl _,fun _ _=>rfl,hl,fun q _ hq=>by rw[vI]at hq;cases hq⟩
theorem gS.form(h:gS gs H0 P e sz H v l xs):∃A c,v = .slice A l.length c:=h.own.form
theorem gS.mQ(h:gS gs H0 P e sz H v l xs):∀q,q∈gs++az v→H q≠none:=fun q hq=>by
 rcases List.mem_append.1 hq with hq | hq
 ·rw[h.same q hq];exact h.live q hq
 ·obtain⟨en,he⟩:=h.own.block (cM.1 hq);rw[he];simp
theorem gS.step(h:gS gs H0 P e sz H v l xs)(up:Up P)(hs:∀q,q∈gs++az v→H' q=H q)(hl:Heap.le (rem H (gs++az v)) (rem H' (gs++az v))):gS gs H0 P e sz H' v l xs:=
 ⟨h.own.same fun q hq=>hs q (List.mem_append_right _ (cM.2 hq)),h.mg.mono fun vs a=>up _ _ vs a hl,h.base.trans hl,fun q hq=>(hs q (List.mem_append_left _ hq)).trans (h.same q hq),h.live,h.apart⟩
theorem gS.kV(h:gS gs H0 P e sz H v l xs)(up:Up P){bF:Value→Heap→Prop}{r:Value}(hf:yU (gs++az v) bF H r H')(hl:∀v' K,bF v' K→Heap.le (rem H (gs++az v)) K):gS gs H0 P e sz H' v l xs:=h.step up hf.same (hl _ _ hf.post)
theorem gS.call(h:gS gs H0 P e sz H v l xs){R:Program}{f:FuncId}{args:Array Value}{bF:Value→Heap→Prop}(hc:Fn R f args (rem H (gs++az v)) bF):Fn R f args H (yU (gs++az v) bF H):=Fn.frame h.mQ hc
theorem gS.ins(h:gS gs H0 P e sz H v l xs)(up:Up P){g:Nat}(en:Ent)(hg:H g=none):gS gs H0 P e sz (ins H g en) v l xs:=by
 have hn:¬g∈gs++az v:=fun hm=>h.mQ g hm hg
 refine h.step up (fun q hq=>a6 _ _ fun e=>hn (e▸hq)) ?_
 rw[rM _ hn]
 exact Heap.bB _ (by rw[bM hn];exact hg)
theorem gS.append(h:gS gs H0 P e sz H v l xs)(up:Up P){m:Nat}{zs:List Value}{j:List α}(hm:m=l.length+j.length)(ha:App H v e sz m (xs++zs) v' H')(hz:bC (P (rem H (gs++az v))) sz zs j):gS gs H0 P e sz H' v' (l++j) (xs++zs):=by
 have new:∀q,q∈az v'→q∈az v∨H q=none:=fun q hq=>by
  rcases ha.at_ with h4 | ⟨g,h4,h5⟩
  ·exact .inl (cM.2 (h4▸cM.1 hq))
  ·have:=cM.1 hq;rw[h4]at this;cases this;exact .inr h5
 have ap:∀q,q∈gs→¬q∈az v':=fun q hg hq=>by
  rcases new q hq with h1 | h1
  ·exact h.apart q hg h1
  ·exact h.mQ q (List.mem_append_left _ hg) h1
 have hl:Heap.le (rem H (gs++az v)) (rem H' (gs++az v')):=fun q en hq=>by
  by_cases hm:q∈gs++az v
  ·rw[rem_in hm]at hq;cases hq
  ·rw[bM hm]at hq
   have h1:=ha.same q en hq fun e=>hm (List.mem_append_right _ (cM.2 e))
   have h2:¬q∈gs++az v':=fun h2=>by
    rcases List.mem_append.1 h2 with h3 | h3
    ·exact hm (List.mem_append_left _ h3)
    ·rcases new q h3 with h4 | h4
     ·exact hm (List.mem_append_right _ h4)
     ·rw[h4]at hq;cases hq
   exact⟨en,by rw[bM h2];exact h1,.refl _⟩
 refine⟨by rw[List.length_append,←hm];exact ha.own,(h.mg.mono fun vs a=>up _ _ vs a hl).append (hz.mono fun vs a=>up _ _ vs a hl),h.base.trans hl,fun q hq=> ?_,h.live,ap⟩
 rw[←h.same q hq]
 obtain⟨en,he⟩:=Option.ne_none_iff_exists'.1 (h.mQ q (List.mem_append_left _ hq))
 rw[he]
 exact ha.same q en he fun h1=>h.apart q hq (cM.2 h1)
theorem gS.sl(h:gS gs H0 P e sz H v l xs)(up:Up P):aR P sz (rem H gs) v l:=by
 have h1:Heap.le (rem H (gs++az v)) (rem H gs):=EP fun q hq=>List.mem_append_left _ hq
 exact Gp.sl ⟨xs,h.own.same fun q hq=>bM fun hg=>h.apart q hg (cM.2 hq),h.mg.mono fun vs a=>up _ _ vs a h1⟩
theorem gS.out(h:gS gs H0 P e sz H v l xs):Heap.le (rem H0 gs) (rem H gs):=h.base.trans (EP fun q hq=>List.mem_append_left _ hq)
end
structure Frz(gs:List Nat)(H H':Heap):Prop where
 same:∀q,q∈gs→H' q=H q
 le:Heap.le (rem H gs) (rem H' gs)
end Go.au
namespace Lp
end Lp
namespace Lp
end Lp
namespace Go.au
section
variable {P:Program} {n:Nat} {all:Array Oper} {s:St} {H:Heap} {md:Mode} {K:St→Heap→Prop} {r:List Oper} {dst:Option Nat} {ty:TypeId} {pos:String} {after:Array Edge} {gd:Option (Nat×Bool)}
theorem ai8{t t' e:TypeId}{x y:Operand}{A:Option Addr}{m c:Nat}(ht:P.underlying t=some (.slice e))(hx:ev s x=some (.slice A m c))(hy:ev s y=some (.slice none 0 0))
  (hk:aP P n all md r (bn s dst (.val (.bool A.isNone))) H K) (hg:b8 all s gd=some true:=by rfl) (nb:md.nb s dst=true:=by rfl):aP P n all md (⟨dst,.binOp .eql t x y t',ty,pos,after,gd⟩::r) s H K:=
 iY _ rfl hg nb (fun c' w hc _=>by
  have e:(eqGuard .eql t x y (.slice A m c) (.slice none 0 0)).run P w = .ok () w:=by simp[eqGuard]
  simp only[execOp,bS hc hx,bS hc hy,Sem.run_bind,e,run_eql_slice_nil w t _ A m c ht,Result.andThen_ok,Sem.run_pure]) hk
theorem ai9{t e sz bytes:Nat}{z:Value}(ht:P.underlying t=some (.slice e))(he:fU P e sz z bytes)
  (hk:∀g,H g=none→aP P n all md r (bn s dst (.val (.slice (some ⟨g,0,none⟩) 0 0))) (ins H g (whole [] e)) K) (hg:b8 all s gd=some true:=by rfl) (nb:md.nb s dst=true:=by rfl):
  aP P n all md (⟨dst,.buildSlice t 0 #[],ty,pos,after,gd⟩::r) s H K:=
 .fresh (fun g=> .slice (some ⟨g,0,none⟩) 0 0) [] e (.inl rfl) nb (fun a w ha=>by
  refine⟨jT ha (lj (o:=⟨dst,.buildSlice t 0 #[],ty,pos,after,gd⟩) hg),?_⟩
  obtain⟨i,hi,hz,cK,FM,Ki,Az⟩:=he
  simp[execOp,Instr.buildSlice,run_underlying ht,sizeOf,typeInfo,program,Sem.run,hi,Instr.fill,newRow,newObj]
  congr 2
  exact Array.eq_empty_of_size_eq_zero (by simp)) fun g hg _=>hk g hg
end
end Go.au
namespace Go.au
open Go.Proofs Num Lp
end Go.au
namespace Go.au
open Go.Proofs Num Lp
end Go.au
namespace Go.Proofs
open Go.Shelf
end Go.Proofs
namespace Go.au
open Go.Proofs Go.Sort
end Go.au
