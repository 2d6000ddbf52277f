/- Part 10 of the proof: Smp1, Mz3, Min, Keep1, Eng14, Keep2, Gen, Grw, Br1, Eng16, Fr1, Grw2, Cat, Grw3, Ent, Ent2, Eng15, Lx0, Lnd, Srt. -/
import Derived.Test.YtfjncmjbhfdnpaaGreatA09
import Derived.Deep.Slices
import Derived.Deep.Strs
import Derived.Carry
import Derived.Below
import Derived.DataElems
import Derived.Lib.LazyBuf
import Derived.Shelf.Sort.AssemblyIn
import Derived.Shelf.Slices.In.SortNone
import Derived.Sort.EveryDepth
set_option linter.unusedVariables false
namespace Go.aw
open Go.Proofs Num Lp
theorem RX{H:Heap}{v:Value}{p:Prg}{N:Nat}(hp:ea N H v p):
 Fn Tryz.prog 47 #[v] H (fun v H'=>H'=H∧∃b,v = .bool b∧(b=true↔p.Ok)):=by
 obtain⟨fv,fL,rfl,dO,eo⟩:=hp
 obtain⟨Af,cf,xf,rfl,iv,gS⟩:=dO.one
 obtain⟨Ar,cr,xr,rfl,eJ,gE⟩:=eo.row;refine aZ (args:=[_]) Tryz.func47 rfl rfl Tryz.ntmps47 rfl rfl fun w0=> ?_;refine aj [0] rfl ?_;refine ag (bW rfl rfl (ab 1 rfl (ae [1] ?_)));refine aq ?_
 by_cases h1:400<(p.free.length:Int)
 ·
  skip
  refine ag (ab 3 rfl (aJ true rfl rfl (mI h1) (ab 6 rfl (ae [1,14] ?_))));refine dJ rfl (ag (ab 1 rfl (ae [2] ?_)));refine aE ⟨.inr rfl,_,.tmp rfl (.nil),?_⟩;exact⟨rfl,false,rfl,⟨(fun h=>by cases h),(fun h=>by have h8:=h.iG;have h9:=h.rows;omega)⟩⟩
 ·
  skip
  by_cases h2:800<(p.rows.length:Int)
  ·
   skip
   refine ag (ab 3 rfl (aJ false rfl rfl (iW (by omega)) (ab 4 rfl (aJ true rfl rfl (mI h2) (ab 1 rfl (ae [1,14] ?_))))));refine dJ rfl (ag (ab 1 rfl (ae [2] ?_)));refine aE ⟨.inr rfl,_,.tmp rfl (.nil),?_⟩;exact⟨rfl,false,rfl,⟨(fun h=>by cases h),(fun h=>by have h8:=h.iG;have h9:=h.rows;omega)⟩⟩
  skip
  refine ag (ab 3 rfl (aJ false rfl rfl (iW (by omega)) (ab 4 rfl (aJ false rfl rfl (iW (by omega)) (ab 1 rfl (ae [1,14] ?_))))));refine dR rfl (aA (aj [1] rfl ?_));refine aq (ag (ab 4 rfl (ae [1,16,17,18] ?_)));refine aG (gK (fun(i:Nat)=>p.rows.length-i) (fun(i:Nat)=>put (put (put (put (emp) 1 (.box [.slice Af p.free.length cf,.slice Ar p.rows.length cr])) 16 (.val (.slice Ar p.rows.length cr))) 17 (.val (.int .i64 (p.rows.length:Int)))) 18 (.val (.int .i64 (i:Int)))) (fun(i:Nat) H'=>H'=H∧(∀(k:Nat)(r:List Rat×Int×Rat),k<i→p.rows[k]? = some r→PX p.free.length r)∧i≤p.rows.length) 0 (⟨rfl,(fun k r h=>by omega),Nat.zero_le _⟩) au ?_);rintro i H1 ⟨e1,mu,hi⟩;rw[e1];refine ag (ab 1 rfl (ae [1,16,17,18,19] ?_));refine aq (aD rfl (fun hb=> ?_) (fun hb=> ?_))
  ·
   have aU:i<p.rows.length:=by simpa using hb
   obtain⟨r,hr⟩:∃r,p.rows[i]? = some r:=⟨_,List.getElem?_eq_getElem aU⟩;obtain⟨A0,c0,f,A1,m1,c1,A2,m2,c2,mh,kC⟩:=gE i r hr;refine aA (aj [1,16,17,18] rfl ?_);refine aq (aG (ag (ck (vs:=[.slice A0 r.1.length c0,.int .i64 r.2.1,.bool f,.slice A1 m1 c1,.slice A2 m2 c2]) ah rfl rfl rfl rfl eJ rfl (by decide) kC (by omega) (by omega) fun _=>(bn gL rfl ?_))));obtain⟨ti,ak,al⟩:=nY;refine aI (.inl ⟨rfl,rfl⟩) rfl rfl rfl ak al rfl rfl rfl (ae [1,4,16,17,18] ?_);refine aq (ag (ab 7 rfl (ae [1,4,16,17,18,28] ?_)));refine aD rfl (fun hb=> ?_) (fun hb=> ?_)
   ·
    have bU:¬r.1.length=p.free.length:=by simpa [Int.natCast_inj]using hb
    refine ag (ab 1 rfl (ae [2] ?_));refine aE ⟨.inr rfl,_,.tmp rfl (.nil),?_⟩;exact⟨rfl,false,rfl,⟨(fun h=>by cases h),fun h=>absurd (h.row i r hr).1 bU⟩⟩
   have bU:r.1.length=p.free.length:=by simpa [Int.natCast_inj]using hb
   refine aA (aj [1,4,16,17,18] rfl ?_)
   by_cases h1:r.2.1=1
   ·
    skip
    refine ag (ab 2 rfl (aJ false rfl rfl (wq h1) (ab 10 rfl (ae [1,16,17,18,41] ?_))));refine dR rfl (aA (aj [1,16,17,18] rfl ?_));refine aC rfl (aH rfl rfl ⟨by omega,by omega⟩ (ab 1 rfl (az ?_)));exact⟨i+1,by omega,au,rfl,(fun k r9 hk jt=>by by_cases h9:k<i;exact mu k r9 h9 jt;(obtain rfl:k=i:=by omega);rw[hr]at jt;cases jt;exact⟨bU,.inl h1⟩),by omega⟩
   skip
   by_cases h2:r.2.1=2
   ·
    skip
    refine ag (ab 2 rfl (aJ true rfl rfl (u0 h1) (ab 3 rfl (aJ false rfl rfl (wq h2) (ab 6 rfl (ae [1,16,17,18,41] ?_))))));refine dR rfl (aA (aj [1,16,17,18] rfl ?_));refine aC rfl (aH rfl rfl ⟨by omega,by omega⟩ (ab 1 rfl (az ?_)));exact⟨i+1,by omega,au,rfl,(fun k r9 hk jt=>by by_cases h9:k<i;exact mu k r9 h9 jt;(obtain rfl:k=i:=by omega);rw[hr]at jt;cases jt;exact⟨bU,.inr (.inl h2)⟩),by omega⟩
   skip
   by_cases h3:r.2.1=3
   ·
    skip
    refine ag (ab 2 rfl (aJ true rfl rfl (u0 h1) (ab 3 rfl (aJ true rfl rfl (u0 h2) (ab 4 rfl (aJ false rfl rfl (wq h3) (ab 1 rfl (ae [1,16,17,18,41] ?_))))))));refine dR rfl (aA (aj [1,16,17,18] rfl ?_));refine aC rfl (aH rfl rfl ⟨by omega,by omega⟩ (ab 1 rfl (az ?_)));exact⟨i+1,by omega,au,rfl,(fun k r9 hk jt=>by by_cases h9:k<i;exact mu k r9 h9 jt;(obtain rfl:k=i:=by omega);rw[hr]at jt;cases jt;exact⟨bU,.inr (.inr h3)⟩),by omega⟩
   skip
   refine ag (ab 2 rfl (aJ true rfl rfl (u0 h1) (ab 3 rfl (aJ true rfl rfl (u0 h2) (ab 4 rfl (aJ true rfl rfl (u0 h3) (ab 1 rfl (ae [1,16,17,18,41] ?_))))))));refine dJ rfl (ag (ab 1 rfl (ae [2] ?_)));refine aE ⟨.inr rfl,_,.tmp rfl (.nil),?_⟩;exact⟨rfl,false,rfl,⟨(fun h=>by cases h),(fun h=>by have h9:=(h.row i r hr).2;omega)⟩⟩
  have hb:p.rows.length≤i:=by simpa using hb
  refine aW (aj [] rfl ?_);refine ag (ab 1 rfl (ae [2] ?_));refine aE ⟨.inr rfl,_,.tmp rfl (.nil),?_⟩;exact⟨rfl,true,rfl,⟨fun _=>⟨by omega,by omega,fun k r hr=>mu k r (by have h9:=(List.getElem?_eq_some_iff.1 hr).1;omega) hr⟩,fun _=>rfl⟩⟩
end Go.aw
namespace Go.aw
open Go.Proofs Num Lp
def RY(H:Heap)(v:Value)(S:qP):Prop:=∃f u w xv dv rv,v = .agg #[.int .i64 S.status,.bool f,u,w,xv,dv,rv]∧(bK H (.agg #[.bool f,u,w]) S.value∨(S.value=0∧f=false∧u = .slice none 0 0∧w = .slice none 0 0))∧aR bX 3 H xv S.x∧aR bX 3 H dv S.jq∧aR bX 3 H rv S.ray
def Zy(M:Nat)(S:qP):Prop:=∀q,q∈S.x∨q∈S.jq∨q∈S.ray∨q=S.value→aP q≤M
def Zz:Value:= .agg #[.int .i64 0,.bool false,.slice none 0 0,.slice none 0 0,.slice none 0 0,.slice none 0 0,.slice none 0 0]
def Cm(p:Prg)(c:List Rat)(S:qP):Prop:=S.status=1→∃T,I2 p c T∧S.value = -(T.c p.w)∧S.x=aL (dF.vec p.lay.pF p.lay.mF T.pt) p.lp.n
def MD(p:Prg)(c:List Rat)(M:Nat)(H:Heap)(v:Value)(H':Heap):Prop:=Heap.le H H'∧∃s e,v = .tuple #[s,.int .i64 e]∧
 ((¬p.Ok∧e=1∧s=Zz)∨(p.Ok∧c.length≠p.free.length∧e=21∧s=Zz)∨(p.Ok∧c.length=p.free.length∧e=0∧∃S,RY H' s S∧r7 p c S∧Zy (2*M+2) S∧Cm p c S))
theorem nQ{H:Heap}{α:Type}{P:Heap→List Value→α→Prop}{sz:Nat}:aR P sz H (.slice none 0 0) ([]:List α):=⟨none,0,[],rfl,Nat.le_refl _,(fun i v h=>by simp at h),vo⟩
theorem Cn{f:Nat→Rat}{n:Nat}{q:Rat}(h:q∈aL f n):∃j,j<n∧q=f j:=by
 unfold aL at h
 obtain⟨j,hj,e⟩:=List.mem_map.1 h
 exact⟨j,List.mem_range.1 hj,e.symm⟩
section
variable {p:Prg} {c:List Rat} {M:Nat} {T:ar} {H K:Heap}
theorem RZ{N n:Nat}{z:Nat→Rat}(h0:1≤N)(hz:∀j,j<p.w→aP (z j)≤N){j:Nat}(hj:j<p.lp.n):aP (dF.vec p.lay.pF p.lay.mF z j)≤2*N+1:=by
 have h1:=tC (z (p.lay.pF j)) (im z (p.lay.mF j))
 have h2:=hz _ (ox.pw j hj)
 have h3:aP (im z (p.lay.mF j))≤N:=by
  rw[Cd hj]
  by_cases hf:p.lp.free j=true
  ·rw[if_pos hf]
   have:=Ew p hj
   unfold mV at this
   rw[if_pos hf]at this
   have:=mr p
   have:=fp p
   exact hz _ (by omega)
  ·rw[if_neg hf];exact Nat.le_trans (show aP (0:Rat)≤1 by decide) h0
 unfold dF.vec;omega
theorem ZA{N:Nat}{f g:Nat→Rat}(hf:∀j,j<p.w→aP (f j)≤N)(hg:∀j,j<p.w→aP (g j)≤N){i:Nat}(hi:i<p.lp.m):aP (p.lay.sF i*(f (p.lay.uF i)-g (p.lay.uF i)))≤2*N+2:=by
 have h1:=vp (p.lay.sF i) (f (p.lay.uF i)-g (p.lay.uF i))
 have h2:=tC (f (p.lay.uF i)) (g (p.lay.uF i))
 have h3:=ox.s1 i hi
 have h4:=hf _ (ox.uw i hi)
 have h5:=hg _ (ox.uw i hi)
 omega
theorem aik(bx:p.Ok)(fo:c.length=p.free.length)(hl:Fits p c M)(hle:Heap.le H K)(h:Inv p (pn p) T)(hn:∀j,j<p.u→0≤T.c j)(gj:T.c p.w<0){dv:Value}
  (hd:aR bX 3 K dv (aL (fun i=>p.lay.sF i*(pn p (p.lay.uF i)-T.c (p.lay.uF i))) p.lp.m)):MD p c M H (.tuple #[.agg #[.int .i64 2,.bool false,.slice none 0 0,.slice none 0 0,.slice none 0 0,dv,.slice none 0 0],.int .i64 0]) K:=by
 have hz:=hl.Cf _ h
 refine⟨hle,_,_,rfl,.inr (.inr ⟨bx,fo,rfl,⟨2,0,[],_,[]⟩,⟨_,_,_,_,_,_,rfl,.inr ⟨rfl,rfl,rfl,rfl⟩,nQ,hd,nQ⟩,.inr (.inl ⟨rfl,rfl,rfl,rfl,fo,YT bx h hn gj⟩),fun q hq=> ?_,fun e=>by cases e⟩)⟩
 rcases hq with hq | hq | hq | hq
 ·cases hq
 ·obtain⟨i,hi,rfl⟩:=Cn hq
  exact ZA (fun j _=>hl.pn j) (fun j hj=>hz.c j (by rw[h.rows.n];omega)) hi
 ·cases hq
 ·rw[hq];exact Nat.le_trans (show aP (0:Rat)≤2 by decide) (Nat.le_add_left 2 _)
theorem ail(bx:p.Ok)(fo:c.length=p.free.length)(hl:Fits p c M)(hle:Heap.le H K)(h:I2 p c T)(hn:∀j,j<p.u→0≤T.c j){f:Bool}{u w xv dv:Value}
  (hv:bK K (.agg #[.bool f,u,w]) (-(T.c p.w))) (hx:aR bX 3 K xv (aL (dF.vec p.lay.pF p.lay.mF T.pt) p.lp.n)) (hd:aR bX 3 K dv (aL (fun i=>p.lay.sF i*(kA p c (p.lay.uF i)-T.c (p.lay.uF i))) p.lp.m)):
  MD p c M H (.tuple #[.agg #[.int .i64 1,.bool f,u,w,xv,dv,.slice none 0 0],.int .i64 0]) K:=by
 have hz:=hl.oV _ h.1
 have h1:=YW bx fo h hn
 refine⟨hle,_,_,rfl,.inr (.inr ⟨bx,fo,rfl,⟨1,-(T.c p.w),_,_,[]⟩,⟨_,_,_,_,_,_,rfl,.inl hv,hx,hd,nQ⟩,.inl ⟨rfl,rfl,h1.1,h1.2⟩,fun q hq=> ?_,fun _=>⟨T,h,rfl,rfl⟩⟩)⟩
 have hb:=hl.one
 rcases hq with hq | hq | hq | hq
 ·obtain⟨j,hj,rfl⟩:=Cn hq
  exact Nat.le_trans (RZ (n:=0) hb (fun j hj=>Rh h.1.wf hz hb (by rw[h.1.rows.n];exact hj)) hj) (by omega)
 ·obtain⟨i,hi,rfl⟩:=Cn hq
  exact ZA (fun j _=>hl.kA j) (fun j hj=>hz.c j (by rw[h.1.rows.n];omega)) hi
 ·cases hq
 ·rw[hq,wQ]
  exact Nat.le_trans (hz.c p.w (by rw[h.1.rows.n];exact Nat.le_refl _)) (by omega)
theorem aim(bx:p.Ok)(fo:c.length=p.free.length)(hl:Fits p c M)(hle:Heap.le H K)(h:I2 p c T){s:Nat}(hs:s<p.u)(gj:T.c s<0)(hA:∀i,i<T.m→T.A i s≤0){xv rv:Value}
  (hx:aR bX 3 K xv (aL (dF.vec p.lay.pF p.lay.mF T.pt) p.lp.n)) (hr:aR bX 3 K rv (aL (dF.vec p.lay.pF p.lay.mF (T.dir s)) p.lp.n)):
  MD p c M H (.tuple #[.agg #[.int .i64 3,.bool false,.slice none 0 0,.slice none 0 0,xv,.slice none 0 0,rv],.int .i64 0]) K:=by
 have hz:=hl.oV _ h.1
 have hb:=hl.one
 have mU:=fp p
 refine⟨hle,_,_,rfl,.inr (.inr ⟨bx,fo,rfl,⟨3,0,_,[],_⟩,⟨_,_,_,_,_,_,rfl,.inr ⟨rfl,rfl,rfl,rfl⟩,hx,nQ,hr⟩,.inr (.inr ⟨rfl,rfl,rfl,YX bx fo h hs gj hA⟩),fun q hq=> ?_,fun e=>by cases e⟩)⟩
 rcases hq with hq | hq | hq | hq
 ·obtain⟨j,hj,rfl⟩:=Cn hq
  exact Nat.le_trans (RZ (n:=0) hb (fun j hj=>Rh h.1.wf hz hb (by rw[h.1.rows.n];exact hj)) hj) (by omega)
 ·cases hq
 ·obtain⟨j,hj,rfl⟩:=Cn hq
  exact Nat.le_trans (RZ (n:=0) hb (fun j hj=>YY h.1.wf hz hb (by rw[h.1.rows.n];omega) (YZ h.1.wf gj)) hj) (by omega)
 ·rw[hq];exact Nat.le_trans (show aP (0:Rat)≤2 by decide) (Nat.le_add_left 2 _)
end
end Go.aw
namespace Go.aw
open Go.Proofs Num Lp
theorem ain{H:Heap}{v cv:Value}{p:Prg}{c:List Rat}{M N:Nat}(hp:ea N H v p)(hc:aR (bR N) 3 H cv c)(hl:Fits p c M)(hcN:(c.length:Int)≤1099511627776)(hN:(N:Int)≤549755813888)(anj:(M:Int)≤34359738368):
 Fn Tryz.prog 12 #[v,cv] H (MD p c M H):=by
 obtain⟨fv,fL,rfl,dO,eo⟩:=id hp
 obtain⟨Af,cf,xf,rfl,iv,gS⟩:=dO.one
 obtain⟨Ar,cr,xr,rfl,eJ,gE⟩:=eo.row
 obtain⟨Ac,cc,xc,rfl,Mu,om,QC⟩:=id hc;refine aZ (args:=[_,_]) Tryz.func12 rfl rfl Tryz.ntmps12 rfl rfl fun w0=> ?_;refine aj [0,1] rfl ?_;refine ag (bW rfl rfl (bn uV rfl (ab 1 rfl (ae [1,2,4] ?_))));refine aq (ag (ab 1 rfl (aF rfl rfl (RX hp) ?_)));rintro v1 H1 ⟨e1,b1,rfl,fa⟩;rw[e1];refine ab 1 rfl (ae [1,2,4,13] ?_);refine aD rfl (fun hb=> ?_) (fun hb=> ?_)
 ·
  have hb:¬p.Ok:=fun h=>by have h9:=fa.2 h;rw[h9]at hb;simp at hb
  refine ag (de ah rfl uV rfl rfl ?_);obtain⟨ti,ak,al⟩:=p6;refine aI (.inl ⟨rfl,rfl⟩) rfl rfl rfl ak al rfl rfl rfl (ab 1 rfl (ae [4,5] ?_));obtain⟨bQ,aN,aO⟩:=p6;refine aE ⟨.inr rfl,_,.agg rfl Tryz.underlying33 aN aO (.tmp rfl (.nil)),?_⟩;exact⟨.refl _,_,_,rfl,.inl ⟨hb,rfl,rfl⟩⟩
 ·
  have bx:p.Ok:=fa.1 (by simpa using hb);have jF:=bx.iG;have tZ:=bx.rows;have RO:=Ih p;have e1:p.lp.n=p.free.length:=rfl;have e2:p.lp.m=p.rows.length:=rfl
  have sO:(p.lay.w:Int)≤1000000:=by show ((p.w:Nat):Int)≤_;omega
  have ZB:((p.eh.m:Nat):Int)≤1000000:=by show ((p.rows.length:Nat):Int)≤_;omega
  have ZC:=hl.one;refine aA (aj [1,2,4] rfl ?_);refine aq (ag (ab 6 rfl (ae [1,2,4,20] ?_)));refine aD rfl (fun hb=> ?_) (fun hb=> ?_)
  ·
   have hb:c.length≠p.free.length:=by simpa [Int.natCast_inj]using hb
   refine ag (de ah rfl uV rfl rfl ?_);obtain⟨ti,ak,al⟩:=p6;refine aI (.inl ⟨rfl,rfl⟩) rfl rfl rfl ak al rfl rfl rfl (ab 1 rfl (ae [4,5] ?_));obtain⟨bQ,aN,aO⟩:=p6;refine aE ⟨.inr rfl,_,.agg rfl Tryz.underlying33 aN aO (.tmp rfl (.nil)),?_⟩;exact⟨.refl _,_,_,rfl,.inr (.inl ⟨bx,hb,rfl,rfl⟩)⟩
  have fo:c.length=p.free.length:=by simpa [Int.natCast_inj]using hb
  refine aA (aj [1,2,4] rfl ?_);refine ag (ab 1 rfl (aF rfl rfl (ahA (n:=p.free.length) (m:=p.rows.length) hp bx rfl rfl hN) ?_));rintro v5 H5 ⟨G,rfl,w9,ank,iY⟩;refine ab 1 rfl (ae [1,4,6] ?_);refine ag (ab 2 rfl (aF rfl rfl (Xs w9 sO) ?_));rintro v6 H6 ⟨qW,sj,Ro⟩;refine aF rfl rfl (XG (N:=2*M) (f:=pn p) (w9.kept qW) Ro (fun i hi=>ow p hi) (by omega) sO ZB (fun j _=>Nat.le_trans (hl.pn j) (by omega)) (fun i hi j _=>Nat.le_trans (hl.tab i hi j) (by omega)) hl.Ri) ?_;rintro _ H7 ⟨ju,jv,_,sP,sQ,HM⟩;refine ae [1,4,6] ?_;refine ag (ab 1 rfl (aF rfl rfl (Xj (G:=(G.eU ju jv)) (N:=M) (I:=Inv p (pn p)) sP sQ (Inv.base Ce) (fun S r s h hb=>h.step (by rw[h.rows.n];exact fp p) hb) (fun S h=>⟨h.wf,h.dd,hl.Cf _ h,h.rows.m,h.rows.n⟩) (by omega) sO ZB) ?_));rintro v8 H8 ⟨T8,uk,rh,QD,qY,oy⟩
  have HJ:∀j,j<p.u→0≤T8.c j:=by rcases oy with ⟨_,h⟩ | ⟨s,_,h1,h2,h3⟩;exact h;exact(YV uk h1 h2 h3).elim
  have R0:=hl.Cf _ uk;have anl:aP (T8.c p.lay.w)≤M:=R0.c _ (by rw[uk.rows.n];exact Nat.le_refl _)
  have aio:((T8.m:Nat):Int)≤1000000:=by rw[uk.rows.m];omega
  refine ae [1,4,6] ?_;refine aq (ag (ab 1 rfl (aF rfl rfl (Xr (G:=(G.eU ju jv)) rh QD (by omega)) ?_)));rintro v9 H9 ⟨gZ,iJ,n9,d9,b9,rfl,fK⟩;refine aF rfl rfl (Fn.mg (gZ.ne rh.ne) (tK fK (by rw[wQ];omega))) ?_;rintro v10 xC ⟨Iq,EM,rfl⟩;have rj:=gZ.trans Iq;have IT:=rh.kept rj;have ME:=QD.kept rj;have R1:=((((iY.trans qW.le).trans HM).trans qY).trans rj.le);refine ab 1 rfl (ae [1,4,6,33] ?_);refine aD rfl (fun hb=> ?_) (fun hb=> ?_)
  ·
   have gj:T8.c p.w<0:=by have h9:=Ea.1 (show 0<ik (-(T8.c p.lay.w)) by simpa using hb);have h8:T8.c p.lay.w=T8.c p.w:=rfl;grind
   refine ag (ab 2 rfl (aF rfl rfl (Xs (G:=(G.eU ju jv)) IT sO) ?_));rintro v11 kz ⟨Co,R2,aip⟩;refine aF rfl rfl (XF (G:=(G.eU ju jv)) (n:=p.lp.n) (m:=p.lp.m) (N:=M) (f:=pn p) (IT.kept Co) (ME.kept Co) ox aip (fun j _=>hl.pn j) (fun j hj=>R0.c j (by rw[uk.rows.n];exact Nat.le_of_lt hj)) (by omega) sO (by omega)) ?_;rintro v12 dN ⟨zz,nI,A12,c12,x12,rfl,aiq,air,ais⟩;refine de ah rfl uV rfl rfl ?_;obtain⟨ti,ak,al⟩:=p6;refine aI (.inl ⟨rfl,rfl⟩) rfl rfl rfl ak al rfl rfl rfl (ab 1 rfl (ae [4,5] ?_));obtain⟨bQ,aN,aO⟩:=p6;refine aE ⟨.inr rfl,_,.agg rfl Tryz.underlying33 aN aO (.tmp rfl (.nil)),?_⟩;exact aik bx fo hl (((R1.trans Co.le).trans zz.le).trans (bt _ _)) uk HJ gj (aR.le ⟨_,_,_,rfl,aiq,air,ais⟩ dL (bt _ _))
  have gj:¬T8.c p.w<0:=fun h=>by have h9:¬0<ik (-(T8.c p.lay.w)):=(by simpa using hb);exact h9 (Ea.2 (by have h8:T8.c p.lay.w=T8.c p.w:=rfl;grind))
  refine aA (aj [1,4,6] rfl ?_);refine ag (ab 1 rfl (aF rfl rfl (agh (G:=(G.eU ju jv)) (N:=M) (J:=Jx p) IT ME ⟨uk,YU uk gj⟩ (fun k S h hk hd=>h.skip hd) (fun k S s h hk hu hs hp=>h.pivot hk hu hs hp) (fun k S h=>⟨hl.Cf _ h.1,by rw[h.1.rows.m,uk.rows.m],by rw[h.1.rows.n,uk.rows.n]⟩) (by omega) sO aio) ?_));rintro _ kz ⟨T11,R3,sR,ET,IU⟩;rw[uk.rows.m]at R3;have xK:=R3.1;refine ae [1,4,6] ?_;refine ag (ab 2 rfl (aV ah rfl rfl rfl (aT ah rfl rfl rfl (sR.ja) (aF rfl rfl (Hp (gs:=(G.eU ju jv).gs) (n:=p.lay.w) sR.ne (by omega)) ?_))));rintro v12 dN ⟨nI,z,qT,rfl,B5,ait⟩;refine ab 1 rfl (ae [1,4,6,7] ?_);refine aq (ag (ab 1 rfl (aF rfl rfl (Fn.LI (gs:=(z::(G.eU ju jv).gs)) (B5.ne sR.ne) (W0 (hc.le (dz N) ((R1.trans IU).trans B5.le)) (by omega) hcN)) ?_)));rintro v13 mo ⟨xG,qj,aiu⟩;have L4:=B5.kept xG;obtain⟨Av,cv,xv,rfl,lr,uO⟩:=aiu.num;obtain⟨Ap,cp,xp,sq,mh,BL⟩:=sR.self.plus.one;obtain⟨Am,cm,xm,vz,kf,Ht⟩:=sR.self.minus.one;rw[ox.LK]at sq;rw[ox.LL]at vz;rw[fo];refine ab 2 rfl (ae [4,6,7,47,48,49] ?_);refine aG (ij (fun(k:Nat)(xs:List Value)=>p.free.length-k) (fun(k:Nat)(xs:List Value)=>put (put (put (put (put (put (emp) 4 (.box [.int .i64 0,.bool false,.slice none 0 0,.slice none 0 0,.slice none 0 0,.slice none 0 0,.slice none 0 0])) 6 (.val (.pointer (some ⟨G.g,0,none⟩)))) 7 (.val (.slice (some ⟨z,0,none⟩) p.lay.w p.lay.w))) 47 (.val (.slice Av p.free.length cv))) 48 (.val (.int .i64 (p.free.length:Int)))) 49 (.val (.int .i64 (k:Int)))) (fun(k:Nat)(xs:List Value) H'=>fy (G.eU ju jv).gs kz H' z xs (p.lay.w*3) 90∧bE (bS (rem H' (z::(G.eU ju jv).gs))) 3 xs (aL (kj p.lay (fn c) 1 k) p.lay.w)∧Heap.le (rem mo (z::(G.eU ju jv).gs)) (rem H' (z::(G.eU ju jv).gs))∧k≤p.free.length) 0 qT (⟨L4,ait _,.refl _,Nat.zero_le _⟩) au ?_)
  rintro k xs qu ⟨xH,R4,R5,anm⟩;have aiv:=xH.tab sR;have cP:=R4.len;rw[bh]at cP;refine ag (ab 1 rfl (ae [4,6,7,47,48,49,50] ?_));refine aq (aD rfl (fun hb=> ?_) (fun hb=> ?_))
  ·
   have gn:k<p.free.length:=by simpa using hb
   obtain⟨q,jU⟩:∃q,c[k]? = some q:=⟨_,List.getElem?_eq_getElem (by omega)⟩;obtain⟨n1,d1,b1,di,eP⟩:=uO k q jU;have nH:fn c k=q:=mb jU;have QN:aP q≤N+2:=ct.size (QC.at_ k q jU);obtain⟨up,Hu,Hv⟩:=BL k _ (ox.p gn);obtain⟨um,zr,Hw⟩:=Ht k _ (ox.mi gn)
   cases Hv
   cases Hw
   have ag4:=ox.pw k gn;have ag5:=ox.mw k gn;rw[←nH]at di;refine aA (aj [4,6,7,47,48,49] rfl ?_);refine aq (aG (ag (ab 1 rfl (ck (vs:=[.int .i64 n1,.int .i64 d1,.pointer b1]) ah rfl rfl rfl rfl ((lr.le R5).le (bt _ _)) rfl (by decide) eP (by omega) (by omega) fun _=>(bn fk rfl (vr 1 ?_))))));obtain⟨ti,ak,al⟩:=cJ;refine aI (.inl ⟨rfl,rfl⟩) rfl rfl rfl ak al rfl rfl rfl (ae [4,6,7,8,9,47,48,49] ?_);refine bP .gH [0,1,2,3,4,5,6,7,8,9,10] follows (by kernel_rfl) ?_;refine ab 3 rfl (aV ah rfl rfl rfl (aT ah rfl rfl rfl (show cell _ _=some (.slice Ap p.free.length cp)from by rw[←show (G.eU ju jv).pv = .slice Ap p.free.length cp from sq];exact aiv.cell 2 _ rfl) ?_));refine ab 1 rfl (aS ah rfl rfl rfl rfl rfl (mh.le xH.hle) (by rw[Int.toNat_natCast];exact Hu) (by omega) (by omega) fun _=> ?_);refine vr 1 ?_;obtain⟨ti,ak,al⟩:=cJ;refine cV (.inr rfl) ah rfl rfl rfl (by omega) (by omega) (xH.aB) rfl (by show 0+p.lay.w*3≤xs.length;omega) ak al (fun _=>rfl) rfl rfl rfl fun _=> ?_;refine ae [4,6,7,8,9,47,48,49] ?_;have Cp:fy (G.eU ju jv).gs kz (ins qu z {(⟨xs,p.lay.w*3,90,true⟩:Ent)with xs:=aM xs (0+((p.lay.pF k:Nat):Int).toNat*3) [.int .i64 n1,.int .i64 d1,.pointer b1]}) z (aM xs (p.lay.pF k*3) [.int .i64 n1,.int .i64 d1,.pointer b1]) (p.lay.w*3) 90:=xH.set (by rw[Int.toNat_natCast];exact pD)
   have MF:bE (bS (rem (ins qu z {(⟨xs,p.lay.w*3,90,true⟩:Ent)with xs:=aM xs (0+((p.lay.pF k:Nat):Int).toNat*3) [.int .i64 n1,.int .i64 d1,.pointer b1]}) (z::(G.eU ju jv).gs))) 3 (aM xs (p.lay.pF k*3) [.int .i64 n1,.int .i64 d1,.pointer b1]) (aL (bY (kj p.lay (fn c) 1 k) (p.lay.pF k) (fn c k)) p.lay.w):=by
    rw[cK _ (List.mem_cons_self ..)];exact sk R4 (by omega) (di.le R5)
   have MG:Heap.le (rem mo (z::(G.eU ju jv).gs)) (rem (ins qu z {(⟨xs,p.lay.w*3,90,true⟩:Ent)with xs:=aM xs (0+((p.lay.pF k:Nat):Int).toNat*3) [.int .i64 n1,.int .i64 d1,.pointer b1]}) (z::(G.eU ju jv).gs)):=by rw[cK _ (List.mem_cons_self ..)];exact R5
   show VC _ _ _ _ _ _ _ (ins qu z {(⟨xs,p.lay.w*3,90,true⟩:Ent)with xs:=aM xs (0+((p.lay.pF k:Nat):Int).toNat*3) [.int .i64 n1,.int .i64 d1,.pointer b1]})
   generalize ins qu z {(⟨xs,p.lay.w*3,90,true⟩:Ent)with xs:=aM xs (0+((p.lay.pF k:Nat):Int).toNat*3) [.int .i64 n1,.int .i64 d1,.pointer b1]}=mX at Cp MF MG⊢
   have ZD:=Cp.tab sR;have QO:=MF.len;rw[bh]at QO;refine ag (ab 2 rfl (aV ah rfl rfl rfl (aT ah rfl rfl rfl (show cell _ _=some (.slice Am p.free.length cm)from by rw[←show (G.eU ju jv).mv = .slice Am p.free.length cm from vz];exact ZD.cell 3 _ rfl) ?_)));refine ab 1 rfl (aS ah rfl rfl rfl rfl rfl (kf.le Cp.hle) (by rw[Int.toNat_natCast];exact zr) (by omega) (by omega) fun _=> ?_);refine ab 1 rfl (ae [4,6,7,8,9,47,48,49,71] ?_);refine aD rfl (fun hb=> ?_) (fun hb=> ?_)
   ·
    have hb:0≤p.lay.mZ k:=by simpa using hb
    refine ep .gH [0,1,2,3,4,5,6,7,8,9,10,11] follows (by kernel_rfl) ?_;refine ab 3 rfl (aV ah rfl rfl rfl (aT ah rfl rfl rfl (show cell _ _=some (.slice Am p.free.length cm)from by rw[←show (G.eU ju jv).mv = .slice Am p.free.length cm from vz];exact ZD.cell 3 _ rfl) ?_));refine ab 1 rfl (aS ah rfl rfl rfl rfl rfl (kf.le Cp.hle) (by rw[Int.toNat_natCast];exact zr) (by omega) (by omega) fun _=> ?_);refine ab 1 rfl (a8 rfl rfl (Fn.lK (Cp.ne sR.ne) (DS (di.le MG) (by rw[nH];omega))) (fun _ _ h=>by first | exact h.le | exact h.1) ?_);rintro v17 H17 ⟨EU,vO,n7,d7,b7,rfl,MH⟩;have ZE:=Cp.kept EU;obtain⟨ti,ak,al⟩:=cJ;refine cV (.inr rfl) ah rfl rfl rfl (by omega) (by omega) (ZE.aB) rfl (by show 0+p.lay.w*3≤(aM xs (p.lay.pF k*3) [.int .i64 n1,.int .i64 d1,.pointer b1]).length;omega) ak al (fun _=>rfl) rfl rfl rfl fun _=> ?_;refine az ?_;have aiw:=ZE.set (pD (xs:=aM xs (p.lay.pF k*3) [.int .i64 n1,.int .i64 d1,.pointer b1]) (vs:=[.int .i64 n7,.int .i64 d7,.pointer b7]) (k:=(p.lay.mZ k).toNat) (sz:=3));refine aj [4,6,7,47,48,49] rfl ?_;refine aC rfl (aH rfl rfl ⟨by omega,by omega⟩ (ab 1 rfl (az ?_)));exact⟨k+1,_,by omega,au,aiw,by rw[cK _ (List.mem_cons_self ..),B0,if_pos hb,Rat.mul_one];exact sk (MF.mono fun vs a=>jr _ _ vs a EU.le) (by omega) MH,by rw[cK _ (List.mem_cons_self ..)];exact MG.trans EU.le,by omega⟩
   have hb:¬0≤p.lay.mZ k:=by simpa using hb
   refine aA (aj [4,6,7,47,48,49] rfl ?_);refine aC rfl (aH rfl rfl ⟨by omega,by omega⟩ (ab 1 rfl (az ?_)));exact⟨k+1,_,by omega,au,Cp,by rw[B0,if_neg hb,Rat.mul_one];exact MF,MG,by omega⟩
  have hb:p.free.length≤k:=by simpa using hb
  obtain rfl:p.free.length=k:=by omega
  have mj:=xH.done;have iz:aR bS 3 (rem qu (G.eU ju jv).gs) (.slice (some ⟨z,0,none⟩) p.lay.w p.lay.w) (aL (kA p c) p.lay.w):=⟨some ⟨z,0,none⟩,p.lay.w,xs,by rw[bh],by rw[bh];exact Nat.le_refl _,xH.rd,R4.mono fun vs a=>jr _ _ vs a mj.2⟩
  have ZG:((T11.m:Nat):Int)≤1000000:=by rw[xK.rows.m];omega
  skip
  have ZH:=hl.Cf _ xK;refine aW (aj [4,6,7] rfl ?_);refine ag (ab 2 rfl (aF rfl rfl (XG (G:=(G.eU ju jv)) (N:=2*M) (f:=kA p c) (sR.kept mj.1) iz (fun i hi=>by have h9:=xK.wf.lt i hi;rw[xK.rows.n]at h9;exact h9) (by omega) sO ZG (fun j _=>Nat.le_trans (hl.kA j) (by omega)) (fun i hi j hj=>Nat.le_trans (ZH.A i hi j (by rw[xK.rows.n];exact hj)) (by omega)) (fun k hk j hj=>hl.Rj _ xK k hk j (by rw[xK.rows.n];exact hj))) ?_));rintro _ R6 ⟨Cq,Cr,_,aix,aiy,ZI⟩;refine ae [4,6,7] ?_;refine aq (ag (ab 1 rfl (aF rfl rfl (Xj (G:=((G.eU ju jv).eU Cq Cr)) (N:=M) (I:=I2 p c) aix aiy (I2.start R3) (fun S r s h hb=>h.step hb) (fun S h=>⟨h.1.wf,h.1.dd,hl.oV _ h.1,by rw[h.1.rows.m];exact xK.rows.m.symm,by rw[h.1.rows.n];exact xK.rows.n.symm⟩) (by omega) sO ZG) ?_)));rintro v20 Mx ⟨R7,pH,IV,ZJ,ZK,aiz⟩;have IW:=hl.oV _ pH.1;have ann:aP (R7.c p.lay.w)≤M:=IW.c _ (by rw[pH.1.rows.n];exact Nat.le_refl _)
  have R8:((R7.m:Nat):Int)≤1000000:=by rw[pH.1.rows.m];omega
  have aiA:=iz.le jr (ZI.trans ZK);have ZL:=((R1.trans IU).trans mj.1.le).trans (ZI.trans ZK);have ZM:∀j,j<p.lay.w→aP (R7.pt j)≤M:=fun j hj=>Rh pH.1.wf IW ZC (by rw[pH.1.rows.n];exact hj);refine ab 1 rfl (ae [4,6,7,10] ?_)
  rcases aiz with ⟨rfl,aiB⟩ | ⟨s,rfl,vM,ZN,aiC⟩
  ·
   skip
   refine ag (ab 1 rfl (aJ false rfl rfl (AV (by decide)) (ae [4,6,7,10,90] ?_)));refine dR rfl (aA (aj [4,6,7] rfl ?_));refine ag (ab 1 rfl (aF rfl rfl (Xr (G:=((G.eU ju jv).eU Cq Cr)) IV ZJ (by omega)) ?_));rintro v23 H23 ⟨IX,ano,n23,d23,b23,rfl,aiD⟩;refine aF rfl rfl (Fn.frame (gs:=((G.eU ju jv).eU Cq Cr).gs) (IX.ne IV.ne) (Wq aiD (by rw[wQ];omega))) ?_;rintro v24 H24 ⟨⟨aiE,ZO⟩,aiF⟩;have MI:=IX.trans ⟨aiE,aiF⟩;have ZP:=IV.kept MI;have aiG:=ZJ.kept MI;obtain⟨u24,w24,rfl,aiH,aiI⟩:=id ZO;obtain⟨A27,c27,rfl,_,_⟩:=aiH;obtain⟨qn,qo,rfl,_,_⟩:=aiI;refine ab 1 rfl (aF rfl rfl (XE (G:=((G.eU ju jv).eU Cq Cr)) ZP pH.1.wf ox ZM (by omega) sO (by omega) R8) ?_);rintro v25 H25 ⟨zL,aiJ,A25,c25,x25,rfl,R9,Sa,Sb⟩;refine ab 2 rfl (aF rfl rfl (XF (G:=((G.eU ju jv).eU Cq Cr)) (n:=p.lp.n) (m:=p.lp.m) (N:=M) (f:=kA p c) (ZP.kept zL) (aiG.kept zL) ox (aiA.le jr (MI.le.trans zL.le)) (fun j _=>hl.kA j) (fun j hj=>IW.c j (by rw[pH.1.rows.n];exact Nat.le_of_lt hj)) (by omega) sO (by omega)) ?_);rintro v26 H26 ⟨EW,aiK,A26,c26,x26,rfl,Sd,Se,Sf⟩;refine de ah rfl uV rfl rfl ?_
   obtain⟨ti,ak,al⟩:=p6;refine aI (.inl ⟨rfl,rfl⟩) rfl rfl rfl ak al rfl rfl rfl (ab 1 rfl (ae [4,5] ?_));obtain⟨bQ,aN,aO⟩:=p6;refine aE ⟨.inr rfl,_,.agg rfl Tryz.underlying33 aN aO (.tmp rfl (.nil)),?_⟩;exact ail bx fo hl ((((ZL.trans MI.le).trans zL.le).trans EW.le).trans (bt _ _)) pH aiB (bK.le ZO ((zL.le.trans EW.le).trans (bt _ _))) (aR.le ⟨_,_,_,rfl,R9,Sa,Sb⟩ dL (EW.le.trans (bt _ _))) (aR.le ⟨_,_,_,rfl,Sd,Se,Sf⟩ dL (bt _ _))
  skip
  refine ag (ab 1 rfl (aJ true rfl rfl (rS (by omega)) (ae [4,6,7,10,90] ?_)));refine dJ rfl (ag (ab 1 rfl (aF rfl rfl (XE (G:=((G.eU ju jv).eU Cq Cr)) IV pH.1.wf ox ZM (by omega) sO (by omega) R8) ?_)));rintro v25 H25 ⟨zL,aiJ,A25,c25,x25,rfl,R9,Sa,Sb⟩;have mU:=fp p;have Eh:=YZ pH.1.wf ZN;refine ab 2 rfl (aF rfl rfl (agr (G:=((G.eU ju jv).eU Cq Cr)) (N:=M) (s:=s) (IV.kept zL) pH.1.wf ox (Nat.lt_of_lt_of_le vM mU) Eh (fun i hi=>IW.A i hi s (by rw[pH.1.rows.n];exact Nat.le_of_lt (Nat.lt_of_lt_of_le vM mU))) (fun j _=>YY pH.1.wf IW ZC (by rw[pH.1.rows.n];exact Nat.le_of_lt (Nat.lt_of_lt_of_le vM mU)) Eh) (by omega) sO (by omega) R8) ?_);rintro v26 H26 ⟨EW,aiK,A26,c26,x26,rfl,Sd,Se,Sf⟩;refine de ah rfl uV rfl rfl ?_;obtain⟨ti,ak,al⟩:=p6;refine aI (.inl ⟨rfl,rfl⟩) rfl rfl rfl ak al rfl rfl rfl (ab 1 rfl (ae [4,5] ?_));obtain⟨bQ,aN,aO⟩:=p6;refine aE ⟨.inr rfl,_,.agg rfl Tryz.underlying33 aN aO (.tmp rfl (.nil)),?_⟩;exact aim bx fo hl (((ZL.trans zL.le).trans EW.le).trans (bt _ _)) pH vM ZN aiC (aR.le ⟨_,_,_,rfl,R9,Sa,Sb⟩ dL (EW.le.trans (bt _ _))) (aR.le ⟨_,_,_,rfl,Sd,Se,Sf⟩ dL (bt _ _))
end Go.aw
namespace Go.aw
open Go.Proofs Num Lp
theorem ZQ{H:Heap}{f:Bool}{A1 A2:Option Addr}{m1 c1 m2 c2:Nat}:
 Fn Tryz.prog 28 #[.agg #[.bool f,.slice A1 m1 c1,.slice A2 m2 c2]] H (vj H (.bool (decide (m1≤2∧m2≤2)))):=by
 refine aZ (args:=[_]) Tryz.func28 rfl rfl Tryz.ntmps28 rfl rfl fun w0=> ?_;refine aj [0] rfl ?_;refine ag (bW rfl rfl (ab 1 rfl (ae [1] ?_)))
 by_cases h1:m1≤2
 ·
  skip
  by_cases h2:m2≤2
  ·
   skip
   refine ag (ab 3 rfl (aJ true rfl rfl (p7 (by omega)) (ab 4 rfl (aJ true rfl rfl (p7 (by omega)) (ab 2 rfl (ae [2] ?_))))));refine aE ⟨.inr rfl,_,.tmp rfl (.nil),?_⟩;exact⟨rfl,by rw[decide_eq_true ⟨h1,h2⟩];rfl⟩
  ·
   skip
   refine ag (ab 3 rfl (aJ true rfl rfl (p7 (by omega)) (ab 4 rfl (aJ false rfl rfl (yN (by omega)) (ab 2 rfl (ae [2] ?_))))));refine aE ⟨.inr rfl,_,.tmp rfl (.nil),?_⟩;exact⟨rfl,by rw[decide_eq_false (fun h=>h2 h.2)];rfl⟩
 ·
  skip
  refine ag (ab 3 rfl (aJ false rfl rfl (yN (by omega)) (ab 7 rfl (ae [2] ?_))));refine aE ⟨.inr rfl,_,.tmp rfl (.nil),?_⟩;exact⟨rfl,by rw[decide_eq_false (fun h=>h1 h.1)];rfl⟩
end Go.aw
namespace Go.aw
section
variable {P:Program} {n:Nat} {all:Array Oper} {md:Mode} {tb:Tb} {s:St} {H:Heap} {K:St→Heap→Prop} {r:List Oper} {ty:TypeId} {pos:String} {after:Array Edge} {gd:Option (Nat×Bool)}
theorem MJ(s:St)(d:Nat)(v:Value):ev (put s d (.val v)) (.tmp d)=some v:=by simp[ev,put]
theorem nR{t t2 t3:TypeId}{x i:Operand}{A:Option Addr}{m c d1 d2 f o z:Nat}{Cs:Option Nat}{ni Sg:TypeId}{nn Sh:String}{nr Si:Array Edge}{jQ IY:Option (Nat×Bool)}{k:IntKind}{j:Int}{e sz oV:Nat}{ps:List (Nat×Nat)}{ti:Ti}{xs:List Value}{v:Value}
  (dt:jZ P tb) (ht:tb[t]? = some (.sl e sz)) (fj:tb[t2]? = some (.st oV ps)) (hf:ps[f]? = some (o,z)) (B3:tb[t3]? = some ti) (h1:yC ti=true) (hx:ev s x=some (.slice A m c)) (hi:ev s i=some (.int k j)) (hr:Rd H A xs) (hv:xs[j.toNat*sz+o]? = some v) (h0:0≤j) (hm:j<m)
  (hk:∀a1 a2:Addr,aQ P n all md r (bA (put (put s d1 (.val (.pointer (some a1)))) d2 (.val (.pointer (some a2)))) Cs (.val v)) H K)
  (hg:cj all s gd=some true:=by rfl) (nb:md.nb s (some d1)=true:=by rfl)
  (eu:∀a1:Addr,cj all (put s d1 (.val (.pointer (some a1)))) jQ=some true:=by exact fun _=>rfl) (tm:∀a1:Addr,md.nb (put s d1 (.val (.pointer (some a1)))) (some d2)=true:=by exact fun _=>rfl)
  (l5:∀a1 a2:Addr,cj all (put (put s d1 (.val (.pointer (some a1)))) d2 (.val (.pointer (some a2)))) IY=some true:=by exact fun _ _=>rfl) (Sj:∀a1 a2:Addr,md.nb (put (put s d1 (.val (.pointer (some a1)))) d2 (.val (.pointer (some a2)))) Cs=true:=by exact fun _ _=>rfl):
  aQ P n all md (⟨some d1,.indexAddr t x i,ty,pos,after,gd⟩::⟨some d2,.fieldAddr t2 (.tmp d1) f,ni,nn,nr,jQ⟩::⟨Cs,.load t3 (.tmp d2),Sg,Sh,Si,IY⟩::r) s H K:=by
 obtain⟨ad,rfl,hc⟩:=hr _ _ hv
 refine wi dt ht hx hi h0 hm ?_ hg nb
 refine aV (ad:=ad.add (j.toNat*sz)) dt fj hf (MJ _ _ _) ?_ (eu _) (tm _)
 refine aT (ad:=(ad.add (j.toNat*sz)).add o) dt B3 h1 (MJ _ _ _) (by rw[add_add];exact hc) ?_ (l5 _ _) (Sj _ _)
 exact hk _ _
theorem ZR{t t2 t3:TypeId}{x i:Operand}{A:Option Addr}{m c d1 d2 f o z:Nat}{Cs:Option Nat}{ni Sg:TypeId}{nn Sh:String}{nr Si:Array Edge}{jQ IY:Option (Nat×Bool)}{k:IntKind}{j:Int}{e sz oV p3:Nat}{ps tj:List (Nat×Nat)}{xs vs:List Value}
  (dt:jZ P tb) (ht:tb[t]? = some (.sl e sz)) (fj:tb[t2]? = some (.st oV ps)) (hf:ps[f]? = some (o,z)) (B3:tb[t3]? = some (.st p3 tj)) (hx:ev s x=some (.slice A m c)) (hi:ev s i=some (.int k j)) (hr:Rd H A xs) (hl:vs.length=p3) (hp:0<p3) (hv:∀(q:Nat)(v:Value),vs[q]? = some v→xs[j.toNat*sz+o+q]? = some v) (h0:0≤j) (hm:j<m)
  (hk:∀a1 a2:Addr,aQ P n all md r (bA (put (put s d1 (.val (.pointer (some a1)))) d2 (.val (.pointer (some a2)))) Cs (.val (.agg vs.toArray))) H K)
  (hg:cj all s gd=some true:=by rfl) (nb:md.nb s (some d1)=true:=by rfl)
  (eu:∀a1:Addr,cj all (put s d1 (.val (.pointer (some a1)))) jQ=some true:=by exact fun _=>rfl) (tm:∀a1:Addr,md.nb (put s d1 (.val (.pointer (some a1)))) (some d2)=true:=by exact fun _=>rfl)
  (l5:∀a1 a2:Addr,cj all (put (put s d1 (.val (.pointer (some a1)))) d2 (.val (.pointer (some a2)))) IY=some true:=by exact fun _ _=>rfl) (Sj:∀a1 a2:Addr,md.nb (put (put s d1 (.val (.pointer (some a1)))) d2 (.val (.pointer (some a2)))) Cs=true:=by exact fun _ _=>rfl):
  aQ P n all md (⟨some d1,.indexAddr t x i,ty,pos,after,gd⟩::⟨some d2,.fieldAddr t2 (.tmp d1) f,ni,nn,nr,jQ⟩::⟨Cs,.load t3 (.tmp d2),Sg,Sh,Si,IY⟩::r) s H K:=by
 obtain⟨ad,rfl,hc⟩:=hr _ _ (hv 0 _ (List.getElem?_eq_getElem (by omega)))
 refine wi dt ht hx hi h0 hm ?_ hg nb
 refine aV (ad:=ad.add (j.toNat*sz)) dt fj hf (MJ _ _ _) ?_ (eu _) (tm _)
 refine yG (ad:=(ad.add (j.toNat*sz)).add o) (vs:=vs) dt B3 (MJ _ _ _) hl (fun q v hq=>by
  obtain⟨FT,h1,h2⟩:=hr _ _ (hv q v hq)
  cases h1
  rw[add_add,add_add,←Nat.add_assoc];exact h2) ?_ (l5 _ _) (Sj _ _)
 exact hk _ _
end
end Go.aw
namespace Go.aw
open Go.Proofs Num Lp
theorem ct.small{N:Nat}{H:Heap}{q:Rat}{f:Bool}{A1 A2:Option Addr}{m1 c1 m2 c2:Nat}(h:ct H (.agg #[.bool f,.slice A1 m1 c1,.slice A2 m2 c2]) q N)(h1:m1≤2)(h2:m2≤2):ct H (.agg #[.bool f,.slice A1 m1 c1,.slice A2 m2 c2]) q 2:=by
 obtain⟨f',u,w,l1,l2,e,k1,k2,k3,k4,k5,k6,k7⟩:=h
 have e':=zf (vs:=[.bool f,.slice A1 m1 c1,.slice A2 m2 c2]) e
 simp only[List.cons.injEq,and_true]at e'
 obtain⟨e1,e2,e3⟩:=e'
 refine⟨f',u,w,l1,l2,e,k1,k2,k3,k4,?_,?_,k7⟩
 ·obtain⟨A,c,e4,_⟩:=k1
  rw[e4]at e2
  cases e2;exact h1
 ·obtain⟨A,c,e4,_⟩:=k2
  rw[e4]at e3
  cases e3;exact h2
theorem aR.pI{N:Nat}{H:Heap}{xs:List Value}{l:List Rat}(h:bE (bR N H) 3 xs l){i:Nat}{q:Rat}(hq:l[i]? = some q):∃f A1 m1 c1 A2 m2 c2,gC xs i 3 = [.bool f,.slice A1 m1 c1,.slice A2 m2 c2]∧ct H (.agg #[.bool f,.slice A1 m1 c1,.slice A2 m2 c2]) q N∧∀(j:Nat)(u:Value),[.bool f,.slice A1 m1 c1,.slice A2 m2 c2][j]? = some u→xs[i*3+j]? = some u:=by
 have h1:=h.at_ i q hq
 obtain⟨f,A,m,c,A',m',c',e⟩:=bR.cells h1
 refine⟨f,A,m,c,A',m',c',e,?_,fun j u hu=>Pw (by rw[e];exact hu)⟩
 have h2:ct H (.agg (gC xs i 3).toArray) q N:=h1
 rwa [e]at h2
def IZ(N:Nat)(H:Heap)(vs:List Value)(ls:List (List Rat)):Prop:=vs.length=ls.length∧∀(i:Nat)(v:Value)(l:List Rat),vs[i]? = some v→ls[i]? = some l→aR (bR N) 3 H v l
theorem ZS{xs:List Value}{k:Nat}{a b c d e:Value}(h:∀(j:Nat)(u:Value),[a,b,c,d,e][j]? = some u→xs[k+j]? = some u):∀(q:Nat)(v:Value),[c,d,e][q]? = some v→xs[k+2+q]? = some v:=fun q v hq=>by
 rw[Nat.add_assoc,Nat.add_comm 2 q];exact h (q+2) v hq
theorem aR.I0{N:Nat}{H:Heap}{xs:List Value}{l:List (List Rat×Int×Rat)}(h:bE (fA N H) 5 xs l){i:Nat}{r:List Rat×Int×Rat}(hq:l[i]? = some r):∃A0 c0 f A1 m1 c1 A2 m2 c2,gC xs i 5 = [.slice A0 r.1.length c0,.int .i64 r.2.1,.bool f,.slice A1 m1 c1,.slice A2 m2 c2]∧aR (bR N) 3 H (.slice A0 r.1.length c0) r.1∧ct H (.agg #[.bool f,.slice A1 m1 c1,.slice A2 m2 c2]) r.2.2 N∧∀(j:Nat)(u:Value),[.slice A0 r.1.length c0,.int .i64 r.2.1,.bool f,.slice A1 m1 c1,.slice A2 m2 c2][j]? = some u→xs[i*5+j]? = some u:=by
 have h1:=h.at_ i r hq
 obtain⟨A0,c0,k,f,A1,m1,c1,A2,m2,c2,e,hk⟩:=h1.cells
 subst hk
 have h2:=h1
 rw[e]at h2
 obtain⟨c',f',u',w',e',h3,h4⟩:=id h2
 simp only[List.cons.injEq,and_true,true_and]at e'
 obtain⟨rfl,e1,rfl,rfl⟩:=e'
 exact⟨A0,c0,f,A1,m1,c1,A2,m2,c2,e,h3,h2.bound,fun j u hu=>Pw (by rw[e];exact hu)⟩
structure ZT(H:Heap)(v:Value)(p:Prg)(n m:Nat):Prop where
 prog:ea 2 H v p
 iG:p.free.length≤n
 rows:p.rows.length≤m
 row:∀(i:Nat)(r:List Rat×Int×Rat),p.rows[i]? = some r→r.1.length≤n
theorem ZU{H:Heap}{v:Value}{l:List Rat}{N n:Nat}(hv:aR (bR N) 3 H v l)(hn:n≤1000):
 Fn Tryz.prog 26 #[v,.int .i64 (n:Int)] H (fun v' H'=>H'=H∧∃b,v' = .bool b∧(b=true→l.length≤n∧aR (bR 2) 3 H v l)):=by
 obtain⟨A,c,xs,rfl,wj,hr,hx⟩:=hv;refine aZ (args:=[_,_]) Tryz.func26 rfl rfl Tryz.ntmps26 rfl rfl fun w0=> ?_;refine aj [0,1] rfl ?_;refine ag (ab 1 rfl (ae [0,1] ?_));refine aq (ag (ab 4 rfl (ae [0,9] ?_)));refine aD rfl (fun hb=> ?_) (fun hb=> ?_)
 ·
  skip
  refine ag (ab 1 rfl (ae [4] ?_));refine aE ⟨.inr rfl,_,.tmp rfl (.nil),?_⟩;exact⟨rfl,false,rfl,fun h=>by cases h⟩
 ·
  have hb:l.length≤n:=by simpa using hb
  refine aA (aj [0] rfl ?_);refine aq (ag (ab 3 rfl (ae [0,11,12] ?_)));refine aG (gK (fun(i:Nat)=>l.length-i) (fun(i:Nat)=>put (put (put (emp) 0 (.val (.slice A l.length c))) 11 (.val (.int .i64 (l.length:Int)))) 12 (.val (.int .i64 (i:Int)))) (fun(i:Nat) H'=>H'=H∧(∀(k:Nat)(q:Rat),k<i→l[k]? = some q→bR 2 H (gC xs k 3) q)∧i≤l.length) 0 (⟨rfl,(fun k r h=>by omega),Nat.zero_le _⟩) au ?_);rintro i H1 ⟨e1,mu,hi⟩;rw[e1];refine ag (ab 1 rfl (ae [0,11,12,13] ?_));refine aq (aD rfl (fun hb=> ?_) (fun hb=> ?_))
  ·
   have aU:i<l.length:=by simpa using hb
   obtain⟨q,hq⟩:∃q,l[i]? = some q:=⟨_,List.getElem?_eq_getElem aU⟩;obtain⟨f,A1,m1,c1,A2,m2,c2,ln,lS,Ct⟩:=aR.pI hx hq;refine aA (aj [0,11,12] rfl ?_);refine aq (aG (ag (ab 2 rfl (ae [0,5,11,12] ?_))));refine ag (ab 2 rfl (ck ah rfl rfl rfl rfl (hr) rfl (by decide) (Ct) (by omega) (by omega) fun _=>(aF rfl rfl (ZQ) ?_)));rintro v2 H2 ⟨e2,rfl⟩;rw[e2];refine ab 1 rfl (ae [0,11,12,20] ?_);refine aD rfl (fun hb=> ?_) (fun hb=> ?_)
   ·
    skip
    refine ag (ab 1 rfl (ae [4] ?_));refine aE ⟨.inr rfl,_,.tmp rfl (.nil),?_⟩;exact⟨rfl,false,rfl,fun h=>by cases h⟩
   have oc:m1≤2∧m2≤2:=by simpa using hb
   refine aA (aj [0,11,12] rfl ?_);refine aC rfl (aH rfl rfl ⟨by omega,by omega⟩ (ab 1 rfl (az ?_)));exact⟨i+1,by omega,au,rfl,(fun k q9 hk fK=>by by_cases h9:k<i;exact mu k q9 h9 fK;(obtain rfl:k=i:=by omega);rw[hq]at fK;cases fK;show ct _ _ _ _;rw[ln];exact lS.small oc.1 oc.2),by omega⟩
  have hb:l.length≤i:=by simpa using hb
  refine aW (aj [] rfl ?_);refine ag (ab 1 rfl (ae [4] ?_));refine aE ⟨.inr rfl,_,.tmp rfl (.nil),?_⟩;exact⟨rfl,true,rfl,fun _=>⟨by omega,A,c,xs,rfl,wj,hr,hx.len,fun k q hq=>mu k q (by have h9:=(List.getElem?_eq_some_iff.1 hq).1;omega) hq⟩⟩
theorem aiL{H:Heap}{A:Option Addr}{k c:Nat}{vs:List Value}{ls:List (List Rat)}{N m n:Nat}(hr:Rd H A vs)(hk:k=ls.length)(hv:IZ N H vs ls)(hn:n≤1000)(hm:m≤1000):
 Fn Tryz.prog 27 #[.slice A k c,.int .i64 (m:Int),.int .i64 (n:Int)] H (fun v' H'=>H'=H∧∃b,v' = .bool b∧(b=true→IZ 2 H vs ls∧(∀l,l∈ls→l.length≤n)∧ls.length≤m)):=by
 refine aZ (args:=[_,_,_]) Tryz.func27 rfl rfl Tryz.ntmps27 rfl rfl fun w0=> ?_;refine aj [0,1,2] rfl ?_;refine ag (ab 1 rfl (ae [0,1,2] ?_));refine aq (ag (ab 4 rfl (ae [0,2,11] ?_)));refine aD rfl (fun hb=> ?_) (fun hb=> ?_)
 ·
  skip
  refine ag (ab 1 rfl (ae [6] ?_));refine aE ⟨.inr rfl,_,.tmp rfl (.nil),?_⟩;exact⟨rfl,false,rfl,fun h=>by cases h⟩
 ·
  have hb:k≤m:=by simpa using hb
  refine aA (aj [0,2] rfl ?_);refine aq (ag (ab 3 rfl (ae [0,2,13,14] ?_)));refine aG (gK (fun(i:Nat)=>k-i) (fun(i:Nat)=>put (put (put (put (emp) 0 (.val (.slice A k c))) 2 (.val (.int .i64 (n:Int)))) 13 (.val (.int .i64 (k:Int)))) 14 (.val (.int .i64 (i:Int)))) (fun(i:Nat) H'=>H'=H∧(∀(j:Nat)(v:Value)(l:List Rat),j<i→vs[j]? = some v→ls[j]? = some l→l.length≤n∧aR (bR 2) 3 H v l)∧i≤k) 0 (⟨rfl,(fun j v l h=>by omega),Nat.zero_le _⟩) au ?_);rintro i H1 ⟨e1,mu,hi⟩;rw[e1];refine ag (ab 1 rfl (ae [0,2,13,14,15] ?_));refine aq (aD rfl (fun hb=> ?_) (fun hb=> ?_))
  ·
   have aU:i<k:=by simpa using hb
   obtain⟨l,hle⟩:∃l,ls[i]? = some l:=⟨_,List.getElem?_eq_getElem (by omega)⟩;obtain⟨v,DB⟩:∃v,vs[i]? = some v:=⟨_,List.getElem?_eq_getElem (by rw[hv.1];omega)⟩;have eT:=hv.2 i v l DB hle;obtain⟨A0,c0,qT,rfl,h0⟩:=id eT;refine aA (aj [0,2,13,14] rfl ?_);refine aq (aG (ag (ab 2 rfl (ae [0,2,7,13,14] ?_))));refine ag (ab 2 rfl (aS ah rfl rfl rfl rfl rfl (hr) (DB) (by omega) (by omega) fun _=>(ab 1 rfl (aF rfl rfl (ZU eT hn) ?_))));rintro v2 H2 ⟨e2,b2,rfl,bU⟩;rw[e2];refine ab 1 rfl (ae [0,2,13,14,23] ?_);refine aD rfl (fun hb=> ?_) (fun hb=> ?_)
   ·
    skip
    refine ag (ab 1 rfl (ae [6] ?_));refine aE ⟨.inr rfl,_,.tmp rfl (.nil),?_⟩;exact⟨rfl,false,rfl,fun h=>by cases h⟩
   have qd:b2=true:=by simpa using hb
   refine aA (aj [0,2,13,14] rfl ?_);refine aC rfl (aH rfl rfl ⟨by omega,by omega⟩ (ab 1 rfl (az ?_)));exact⟨i+1,by omega,au,rfl,(fun j v9 l9 hj Im iJ=>by by_cases h9:j<i;exact mu j v9 l9 h9 Im iJ;(obtain rfl:j=i:=by omega);rw[DB]at Im;rw[hle]at iJ;cases Im;cases iJ;exact bU qd),by omega⟩
  have hb:k≤i:=by simpa using hb
  refine aW (aj [] rfl ?_);refine ag (ab 1 rfl (ae [6] ?_));refine aE ⟨.inr rfl,_,.tmp rfl (.nil),?_⟩
  exact⟨rfl,true,rfl,fun _=>⟨⟨hv.1,fun j v l h1 h2=>(mu j v l (by have h9:=(List.getElem?_eq_some_iff.1 h2).1;omega) h1 h2).2⟩,(fun l hl=>by
   obtain⟨j,hj⟩:=List.getElem?_of_mem hl;have h9:=(List.getElem?_eq_some_iff.1 hj).1
   exact(mu j _ l (by omega) (List.getElem?_eq_getElem (by rw[hv.1];omega)) hj).1),by omega⟩⟩
theorem aiM{H:Heap}{v:Value}{p:Prg}{N n m:Nat}(hp:ea N H v p)(hn:n≤1000)(hm:m≤1000):
 Fn Tryz.prog 82 #[v,.int .i64 (n:Int),.int .i64 (m:Int)] H (fun v' H'=>H'=H∧∃b,v' = .bool b∧(b=true→ZT H v p n m)):=by
 obtain⟨fv,fL,rfl,dO,eo⟩:=id hp
 obtain⟨Af,cf,xf,rfl,iv,gS⟩:=dO.one
 obtain⟨Ar,cr,xr,rfl,iM,eJ,gE⟩:=eo;refine aZ (args:=[_,_,_]) Tryz.func82 rfl rfl Tryz.ntmps82 rfl rfl fun w0=> ?_;refine aj [0,1,2] rfl ?_;refine ag (bW rfl rfl (ab 1 rfl (ae [1,2,3] ?_)));refine aq ?_
 by_cases h1:(n:Int)<(p.free.length:Int)
 ·
  skip
  refine ag (ab 4 rfl (aJ true rfl rfl (mI h1) (ab 7 rfl (ae [1,3,19] ?_))));refine dJ rfl (ag (ab 1 rfl (ae [6] ?_)));refine aE ⟨.inr rfl,_,.tmp rfl (.nil),?_⟩;exact⟨rfl,false,rfl,fun h=>by cases h⟩
 ·
  skip
  by_cases h2:(m:Int)<(p.rows.length:Int)
  ·
   skip
   refine ag (ab 4 rfl (aJ false rfl rfl (iW (by omega)) (ab 5 rfl (aJ true rfl rfl (mI h2) (ab 1 rfl (ae [1,3,19] ?_))))));refine dJ rfl (ag (ab 1 rfl (ae [6] ?_)));refine aE ⟨.inr rfl,_,.tmp rfl (.nil),?_⟩;exact⟨rfl,false,rfl,fun h=>by cases h⟩
  skip
  refine ag (ab 4 rfl (aJ false rfl rfl (iW (by omega)) (ab 5 rfl (aJ false rfl rfl (iW (by omega)) (ab 1 rfl (ae [1,3,19] ?_))))));refine dR rfl (aA (aj [1,3] rfl ?_));refine aq (ag (ab 4 rfl (ae [1,3,22,23] ?_)));refine aG (gK (fun(i:Nat)=>p.rows.length-i) (fun(i:Nat)=>put (put (put (put (emp) 1 (.val (.int .i64 (n:Int)))) 3 (.box [.slice Af p.free.length cf,.slice Ar p.rows.length cr])) 22 (.val (.int .i64 (p.rows.length:Int)))) 23 (.val (.int .i64 (i:Int)))) (fun(i:Nat) H'=>H'=H∧(∀(k:Nat)(r:List Rat×Int×Rat),k<i→p.rows[k]? = some r→r.1.length≤n∧fA 2 H (gC xr k 5) r)∧i≤p.rows.length) 0 (⟨rfl,(fun k r h=>by omega),Nat.zero_le _⟩) au ?_);rintro i H1 ⟨e1,mu,hi⟩;rw[e1];refine ag (ab 1 rfl (ae [1,3,22,23,24] ?_));refine aq (aD rfl (fun hb=> ?_) (fun hb=> ?_))
  ·
   have aU:i<p.rows.length:=by simpa using hb
   obtain⟨r,hr⟩:∃r,p.rows[i]? = some r:=⟨_,List.getElem?_eq_getElem aU⟩;obtain⟨A0,c0,f,A1,m1,c1,A2,m2,c2,ln,eT,lS,kC⟩:=aR.I0 gE hr;refine aA (aj [1,3,22,23] rfl ?_);refine aq (aG (ag (ab 2 rfl (ae [1,3,7,22,23] ?_))));refine ag (ab 3 rfl (nR ah rfl rfl rfl rfl rfl rfl rfl (eJ) (kC 0 _ rfl) (by omega) (by omega) fun _ _=>(ab 1 rfl (aF rfl rfl (ZU eT hn) ?_))));rintro v2 H2 ⟨e2,b2,rfl,bU⟩;rw[e2]
   cases b2
   ·
    skip
    refine ab 11 rfl (ae [1,3,22,23,44] ?_);refine dJ rfl (ag (ab 1 rfl (ae [6] ?_)));refine aE ⟨.inr rfl,_,.tmp rfl (.nil),?_⟩;exact⟨rfl,false,rfl,fun h=>by cases h⟩
   skip
   refine ab 5 rfl (ZR ah rfl rfl rfl rfl rfl rfl (eJ) rfl (by decide) (ZS kC) (by omega) (by omega) fun _ _=>(aF rfl rfl (ZQ) ?_));rintro v3 H3 ⟨e3,rfl⟩;rw[e3];refine ab 2 rfl (ae [1,3,22,23,44] ?_);refine aD rfl (fun hb=> ?_) (fun hb=> ?_)
   ·
    skip
    refine ag (ab 1 rfl (ae [6] ?_));refine aE ⟨.inr rfl,_,.tmp rfl (.nil),?_⟩;exact⟨rfl,false,rfl,fun h=>by cases h⟩
   have h3:m1≤2∧m2≤2:=by simpa using hb
   refine aA (aj [1,3,22,23] rfl ?_);refine aC rfl (aH rfl rfl ⟨by omega,by omega⟩ (ab 1 rfl (az ?_)));exact⟨i+1,by omega,au,rfl,(fun k r9 hk jt=>by by_cases h9:k<i;exact mu k r9 h9 jt;(obtain rfl:k=i:=by omega);rw[hr]at jt;cases jt;exact⟨(bU rfl).1,_,_,_,_,ln,(bU rfl).2,lS.small h3.1 h3.2⟩),by omega⟩
  have hb:p.rows.length≤i:=by simpa using hb
  refine aW (aj [] rfl ?_);refine ag (ab 1 rfl (ae [6] ?_));refine aE ⟨.inr rfl,_,.tmp rfl (.nil),?_⟩;exact⟨rfl,true,rfl,fun _=>⟨⟨_,_,rfl,dO,Ar,cr,xr,rfl,iM,eJ,gE.len,fun k r hr=>(mu k r (by have h9:=(List.getElem?_eq_some_iff.1 hr).1;omega) hr).2⟩,by omega,by omega,fun k r hr=>(mu k r (by have h9:=(List.getElem?_eq_some_iff.1 hr).1;omega) hr).1⟩⟩
end Go.aw
namespace Go.aw
open Go.Proofs Num Lp
theorem aR.I1{N:Nat}{H:Heap}{v:Value}{l:List Rat}(h:aR (bR N) 3 H v l):∀q,q∈l→aP q≤N+2:=fun q hq=>by
 obtain⟨A,cc,xs,_,_,_,h4⟩:=h
 obtain⟨k,hk⟩:=List.getElem?_of_mem hq
 exact ct.size (h4.at_ k q hk)
theorem aiN{l:List Rat}{j:Nat}(h:j<l.length):fn l j∈l:=by
 rw[mb (List.getElem?_eq_getElem h)];exact List.getElem_mem h
theorem zM(f:Bool)(A A':Option Addr)(k c k' c':Nat):∀u,u∈[Value.bool f,.slice A k c,.slice A' k' c']→u.oneCell'=true:=fun u hu=>by
 simp only[List.mem_cons,List.not_mem_nil,or_false]at hu
 rcases hu with rfl | rfl | rfl <;> rfl
theorem Sk{α:Type}{P:List Value→α→Prop}{sz:Nat}{vs xs:List Value}{a:α}{l:List α}(h:P vs a)(hl:vs.length=sz)(k:bE P sz xs l):bE P sz (vs++xs) (a::l):=(iE h hl).append k
theorem aR.xL{H:Heap}{v:Value}{l:List Rat}{N:Nat}(h:aR bX 3 H v l)(hs:∀q,q∈l→aP q≤N):aR (bR N) 3 H v l:=by
 obtain⟨A,c,xs,h1,h2,h3,h4⟩:=h
 exact⟨A,c,xs,h1,h2,h3,h4.len,fun i a ha=>bX.rat (h4.at_ i a ha) (hs a (List.mem_of_getElem? ha))⟩
theorem aR.mono{α:Type}{P P':Heap→List Value→α→Prop}{sz:Nat}{H:Heap}{v:Value}{l:List α}(h:aR P sz H v l)(hp:∀vs a,P H vs a→P' H vs a):aR P' sz H v l:=by
 obtain⟨A,c,xs,h1,h2,h3,h4⟩:=h
 exact⟨A,c,xs,h1,h2,h3,h4.mono hp⟩
theorem bR.mono{N M:Nat}{H:Heap}{vs:List Value}{q:Rat}(h:bR N H vs q)(hl:N≤M):bR M H vs q:=ct.mono h hl
theorem ea.mono{N M:Nat}{H:Heap}{v:Value}{p:Prg}(h:ea N H v p)(hl:N≤M):ea M H v p:=by
 obtain⟨fv,rv,h1,h2,h3⟩:=h
 exact⟨fv,rv,h1,h2,h3.mono fun vs r ⟨c,f,u,w,k1,k2,k3⟩=>⟨c,f,u,w,k1,k2.mono fun _ _ h=>h.mono hl,k3.mono hl⟩⟩
theorem aiO(q:Rat):wD q q=0:=by unfold wD;simp
theorem Sm{k:Nat}:∀{l:List Rat},(∀q,q∈l→ar.wt q≤k)→ar.dA l≤l.length*k
 | [],_=>Nat.zero_le _
 | q::l,h=>by
  have h1:=h q (List.mem_cons_self ..)
  have h2:=Sm (l:=l) fun r hr=>h r (List.mem_cons_of_mem _ hr)
  simp only[ar.dA,List.length_cons,Nat.add_mul];omega
theorem Sn{H:Heap}{N:Nat}:ct H (.agg #[.bool false,.slice none 0 0,.slice none 0 0]) 0 N:=
 ⟨false,_,_,[],[],rfl,⟨none,0,rfl,Nat.le_refl _,Rd.nil _ _⟩,⟨none,0,rfl,Nat.le_refl _,Rd.nil _ _⟩,(fun x h=>by cases h),(fun x h=>by cases h),Nat.zero_le _,Nat.zero_le _,by decide⟩
theorem fA.ZV{N:Nat}{H:Heap}{r:List Rat×Int×Rat}{v0:Value}{f:Bool}{u w:Value}(h:fA N H [v0,.int .i64 r.2.1,.bool f,u,w] r):aR (bR N) 3 H v0 r.1:=by
 obtain⟨c,f',u',w',h1,h2,_⟩:=h
 simp only[List.cons.injEq]at h1
 rw[h1.1];exact h2
structure RC where
 f:Bool
 A1:Option Addr
 m1:Nat
 c1:Nat
 A2:Option Addr
 m2:Nat
 c2:Nat
abbrev RC.v(t:RC):Value:= .agg #[.bool t.f,.slice t.A1 t.m1 t.c1,.slice t.A2 t.m2 t.c2]
theorem bK.rc{H:Heap}{v:Value}{q:Rat}(h:bK H v q):∃t:RC,v=t.v:=by
 obtain⟨u,w,rfl,hu,hw⟩:=h
 obtain⟨A1,c1,rfl,_⟩:=id hu
 obtain⟨A2,c2,rfl,_⟩:=id hw
 exact⟨⟨_,A1,_,c1,A2,_,c2⟩,rfl⟩
def MK(H:Heap)(q:Rat)(v:Value)(H':Heap):Prop:=Heap.le H H'∧∃t:RC,v=t.v∧bK H' t.v q
theorem MK.le{H H':Heap}{q:Rat}{v:Value}(h:MK H q v H'):Heap.le H H':=h.1
theorem Fn.rc{P:Program}{f:FuncId}{args:Array Value}{H:Heap}{q:Rat}(h:Fn P f args H (kt H q)):Fn P f args H (MK H q):=h.mono fun v H' ⟨h1,h2⟩=>by
 obtain⟨t,rfl⟩:=h2.rc
 exact⟨h1,t,rfl,h2⟩
theorem ea.aiP{N:Nat}{H:Heap}{v:Value}{p:Prg}(h:ea N H v p):∃Af cf Ar cr,v = .agg #[.slice Af p.free.length cf,.slice Ar p.rows.length cr]:=by
 obtain⟨fv,rv,rfl,⟨Af,cf,_,rfl,_⟩,Ar,cr,_,rfl,_⟩:=h
 exact⟨Af,cf,Ar,cr,rfl⟩
end Go.aw
namespace Go.aw
open Go.Proofs Num Lp
structure ed{α:Type}(P:Heap→List Value→α→Prop)(e sz:Nat)(Hb H:Heap)(v:Value)(l:List α)(xs:List Value):Prop where
 own:cg H v e sz l.length xs
 lT:bE (P (rem H (aB v))) sz xs l
 base:Heap.le Hb (rem H (aB v))
section
variable {α:Type} {P:Heap→List Value→α→Prop} {e sz:Nat} {Hb H H':Heap} {v v':Value} {l:List α} {xs:List Value}
theorem ed.le(h:ed P e sz Hb H v l xs):Heap.le Hb H:=h.base.trans (bt _ _)
theorem ed.sl(h:ed P e sz Hb H v l xs)(up:Up P):aR P sz H v l:=GC.sl ⟨xs,h.own,h.lT.mono fun vs a=>up _ _ vs a (bt _ _)⟩
theorem xM:aB (.slice none 0 0) = []:=rfl
theorem EX(H:Heap):ed P e sz H H (.slice none 0 0) [] []:=⟨lB H e sz,vo,by rw[xM,tz];exact .refl _⟩
theorem I3{g c:Nat}{zs:List Value}{z k:Int}(hg:H g=none)(hz:z.toNat=0)(hk:k.toNat=c)(hc:c≤maxLen):ed P e sz H (ins H g ⟨cD zs (z.toNat*sz),k.toNat*sz,e,true⟩) (.slice (some ⟨g,0,none⟩) z.toNat k.toNat) [] []:=by
 rw[hk]
 refine⟨KG hz hc,vo,?_⟩
 show Heap.le H (rem _ [g])
 rw[tA _ hg,tz];exact .refl _
theorem ed.nS(h:ed P e sz Hb H v l xs):∀q,q∈aB v→H q≠none:=fun q hq=>by
 obtain⟨en,he⟩:=h.own.block (cM.1 hq)
 rw[he];simp
theorem ed.step(h:ed P e sz Hb H v l xs)(up:Up P)(hs:∀q,q∈aB v→H' q=H q)(hl:Heap.le (rem H (aB v)) (rem H' (aB v))):ed P e sz Hb H' v l xs:=
 ⟨h.own.same fun q hq=>hs q (cM.2 hq),h.lT.mono fun vs a=>up _ _ vs a hl,h.base.trans hl⟩
theorem ed.jK(h:ed P e sz Hb H v l xs)(up:Up P){bG:Value→Heap→Prop}{u:Value}(hf:y5 (aB v) bG H u H')(hl:∀v' K,bG v' K→Heap.le (rem H (aB v)) K):ed P e sz Hb H' v l xs:=h.step up hf.same (hl _ _ hf.post)
theorem ed.ins(h:ed P e sz Hb H v l xs)(up:Up P){g:Nat}(en:Ent)(hg:H g=none):ed P e sz Hb (ins H g en) v l xs:=by
 have hn:¬g∈aB v:=fun hm=>h.nS g hm hg
 refine h.step up (fun q hq=>bg _ _ fun e=>hn (e▸hq)) ?_
 rw[rY _ hn]
 exact Heap.bC _ (by rw[bM hn];exact hg)
theorem ed.call(h:ed P e sz Hb H v l xs){Q:Program}{f:FuncId}{args:Array Value}{bG:Value→Heap→Prop}(hc:Fn Q f args (rem H (aB v)) bG):Fn Q f args H (y5 (aB v) bG H):=Fn.frame h.nS hc
theorem ed.append(h:ed P e sz Hb H v l xs)(up:Up P){m:Nat}{ys:List Value}{k:List α}(hm:m=l.length+k.length)(ha:App H v e sz m (xs++ys) v' H')(hy:bE (P (rem H (aB v))) sz ys k):ed P e sz Hb H' v' (l++k) (xs++ys):=by
 have hl:Heap.le (rem H (aB v)) (rem H' (aB v')):=fun q en hq=>by
  by_cases hm:q∈aB v
  ·rw[rem_in hm]at hq;cases hq
  ·rw[bM hm]at hq
   have h1:=ha.same q en hq fun e=>hm (cM.2 e)
   have h2:¬q∈aB v':=fun h2=>by
    have h3:=cM.1 h2
    rcases ha.at_ with h4 | ⟨g,h4,h5⟩
    ·exact hm (cM.2 (h4▸h3))
    ·rw[h4]at h3;cases h3;rw[h5]at hq;cases hq
   exact⟨en,by rw[bM h2];exact h1,.refl _⟩
 refine⟨by rw[List.length_append,←hm];exact ha.own,?_,h.base.trans hl⟩
 exact(h.lT.mono fun vs a=>up _ _ vs a hl).append (hy.mono fun vs a=>up _ _ vs a hl)
theorem ed.form(h:ed P e sz Hb H v l xs):∃A c,v = .slice A l.length c:=h.own.form
end
theorem ed.pJ{α:Type}{P:Heap→List Value→α→Prop}{e sz:Nat}{Hb H:Heap}{v:Value}{l:List α}{xs:List Value}(h:ed P e sz Hb H v l xs):ed P e sz (rem H (aB v)) H v l xs:=⟨h.own,h.lT,.refl _⟩
theorem ed.down{α:Type}{P:Heap→List Value→α→Prop}{e sz:Nat}{Hb Hc H:Heap}{v:Value}{l:List α}{xs:List Value}(h:ed P e sz Hb H v l xs)(hl:Heap.le Hc Hb):ed P e sz Hc H v l xs:=⟨h.own,h.lT,hl.trans h.base⟩
theorem EY(A0:Option Addr)(k0 c0:Nat)(z:Int)(f:Bool)(A A':Option Addr)(k c k' c':Nat):∀u,u∈[Value.slice A0 k0 c0,.int .i64 z,.bool f,.slice A k c,.slice A' k' c']→u.oneCell'=true:=fun u hu=>by
 simp only[List.mem_cons,List.not_mem_nil,or_false]at hu
 rcases hu with rfl | rfl | rfl | rfl | rfl <;> rfl
theorem I4{α β:Type}{f:α→β}{l:List α}{k:Nat}{z:α}(h:l[k]? = some z):(l.take (k+1)).map f=(l.take k).map f ++ [f z]:=by
 rw[List.take_add_one,h,List.map_append];rfl
theorem aiQ{α:Type}(f:Nat→α)(j:Nat):(List.range (j+1)).map f=(List.range j).map f ++ [f j]:=by rw[List.range_succ,List.map_append];rfl
theorem bK.form{H:Heap}{v:Value}{q:Rat}(h:bK H v q):∃f A1 m1 c1 A2 m2 c2,v = .agg #[.bool f,.slice A1 m1 c1,.slice A2 m2 c2]:=by
 obtain⟨u,w,rfl,hu,hw⟩:=h
 obtain⟨A1,c1,rfl,_⟩:=id hu
 obtain⟨A2,c2,rfl,_⟩:=id hw
 exact⟨_,_,_,_,_,_,_,rfl⟩
theorem EZ{α:Type}{l:List α}{k:Nat}{z:α}(h:l[k]? = some z):l.take (k+1)=l.take k ++ [z]:=by rw[List.take_add_one,h];rfl
end Go.aw
namespace Go.aw
open Go.Proofs Num Lp Go.RowKit
def jL(w:World):Heap:=fun g=>match w.heap[g]? with | some (.cells c t _)=>some ⟨c.toList,c.size,t,false⟩ | _=>none
theorem aiR{w:World}{g:Nat}{c:Array Value}{t:TypeId}{fz:Nat×Nat}(h:w.heap[g]? = some (.cells c t fz)):jL w g=some ⟨c.toList,c.size,t,false⟩:=by simp[jL,h]
theorem ZW{w:World}{g:Nat}{e:Ent}(h:jL w g=some e):∃c t fz,w.heap[g]? = some (.cells c t fz)∧e=⟨c.toList,c.size,t,false⟩:=by
 unfold jL at h
 split at h
 ·rename_i c t fz hc
  exact⟨c,t,fz,hc,by simpa using h.symm⟩
 ·cases h
theorem aiS(w:World):Den (jL w) w:=fun g e h=>by
 obtain⟨c,t,fz,h1,rfl⟩:=ZW h
 exact⟨_,h1,c,fz,rfl,rfl,(fun i v hv=>by simpa using hv),fun h=>by cases h⟩
theorem aiT{w:World}{a:Addr}{v:Value}(h:w.cell? a=some v):cell (jL w) a=some v:=by
 unfold World.cell? at h
 unfold cell
 cases hg:w.heap[a.block]? with
 | none=>rw[hg]at h;simp at h
 | some o=>
  cases o with
  | cells c t fz=>
   rw[aiR hg]
   rw[hg]at h
   simpa using h
  | _=>rw[hg]at h;simp at h
theorem aiU{w w':World}{H':Heap}(hle:Heap.le (jL w) H')(hd:Den H' w')(hf:Fx (jL w) w H' w'):Below w.heap.size w w':=by
 refine⟨hf.os,hf.tape,hf.output,hf.size,fun k hk=> ?_⟩
 cases hg:jL w k with
 | none=>exact(hf.keep k hk hg).1
 | some e=>
  obtain⟨c,t,fz,h1,rfl⟩:=ZW hg
  obtain⟨e',h2,h3⟩:=hle k _ hg
  obtain⟨o,h4,c1,fz1,rfl,h5,h6,_⟩:=hd k e' h2
  obtain⟨c2,h7,h8⟩:=hf.form k c t fz h1
  rw[h4]at h7
  simp only[Option.some.injEq,Obj.cells.injEq]at h7
  obtain⟨rfl,h9,rfl⟩:=h7
  rw[h4,h1,h9]
  have:c1=c:=by
   apply Array.ext_getElem?
   intro i
   by_cases hi:i<c.size
   ·have jP:e'.xs[i]? = some c[i]:=Oh h3.2.2.2 (by simp[hi])
    rw[h6 i _ jP];simp[hi]
   ·rw[Array.getElem?_eq_none (by omega),Array.getElem?_eq_none (by omega)]
  rw[this]
theorem Fn.law{P:Program}{f:FuncId}{args:Array Value}{w:World}(h:Fn P f args (jL w) (fun v H'=>Heap.le (jL w) H'∧v = .bool true)):Calls P f args w fun e w'=>e = .returned (.bool true)∧Below w.heap.size w w':=
 (h.run w (aiS w)).mono fun _ _ ⟨v,he,H',⟨h1,h2⟩,h3,h4⟩=>⟨by rw[he,h2],aiU h1 h3 h4⟩
section
variable {Hy:Type} {enc:TypeId×Value→Hy} {P:Program} {w:World} {spare:Nat→Bool} {held:Bool}
theorem aiV{α:Type}{Q:List Value→α→Prop}{sz:Nat}{xs cs:List Value}{l:List α}{b:α}(h:bE Q sz xs l)(hb:Q cs b)(hl:cs.length=sz):bE Q sz (xs++cs) (l ++ [b]):=h.append (iE hb hl)
theorem aiW{H:Heap}{a:Addr}{xs cs:List Value}(h:Rd H (some a) xs)(k:∀i v,cs[i]? = some v→cell H (a.add (xs.length+i))=some v):Rd H (some a) (xs++cs):=fun i v hv=>by
 by_cases hi:i<xs.length
 ·rw[List.getElem?_append_left hi]at hv;exact h i v hv
 ·rw[List.getElem?_append_right (by omega)]at hv
  have:=k _ _ hv
  rw[show xs.length+(i-xs.length)=i by omega]at this
  exact⟨a,rfl,this⟩
theorem I5{α:Type}{Q:Heap→List Value→α→Prop}{t e sz:Nat}(ht:P.underlying t=some (.slice e))(hc:P.cellsOf e=sz)(hp:0<sz)(hq:∀n cs x,cs.length=sz→DataW.trod enc P w 0 spare held n e cs=some x→∃a,Q (jL w) cs a)
  {n:Nat} {cs:List Value} {x:DataW Hy×List MemPlace} (h:DataW.trod enc P w 0 spare held n t cs=some x):∃v l,cs = [v]∧aR Q sz (jL w) v (l:List α)∧l.length≤maxLen:=by
 rcases Deep.open_slice ht h with ⟨rfl,_⟩ | ⟨a,len,cap,m,n',D,Pl,rfl,_,hl,hm,hmm,_,hx⟩
 ·exact⟨_,[],rfl,nQ,Nat.zero_le _⟩
 ·have RP:len≤m:=by rw[hmm];split <;> omega
  rw[hc]at hx
  have key:∀k,k≤len→∃xs l,l.length=k∧bE (Q (jL w)) sz xs (l:List α)∧Rd (jL w) (some a) xs:=by
   intro k
   induction k with
   | zero=>exact fun _=>⟨[],[],rfl,vo,Rd.nil _ _⟩
   | succ k ih=>
    intro hk
    obtain⟨xs,l,h1,h2,h3⟩:=ih (by omega)
    obtain⟨cG,h4,h5⟩:=hx k (by omega)
    obtain⟨_,h6,h7⟩:=World.cells?_some h4
    obtain⟨b,hb⟩:=hq _ _ _ h6 h5
    refine⟨xs++cG,l ++ [b],by simp[h1],aiV h2 hb h6,aiW h3 fun i v hv=> ?_⟩
    have hi:=(List.getElem?_eq_some_iff.1 hv).1
    have h8:=h7 i (by omega)
    rw[hv,add_add]at h8
    rw[h2.len,h1];exact aiT h8
  obtain⟨xs,l,h1,h2,h3⟩:=key len (Nat.le_refl _)
  refine⟨_,l,rfl,⟨some a,cap,xs,by rw[h1],by omega,h3,h2⟩,by omega⟩
theorem wf_u32{z:Int}(h:(Lit.int .u32 z).wf=true):0≤z∧z<4294967296:=by
 simp[Lit.wf,IntKind.min,IntKind.max,IntKind.signed,IntKind.bits]at h;omega
theorem ZX{t e:Nat}(ht:P.underlying t=some (.slice e))(he:P.underlying e=some (.int .u32))(hc:P.cellsOf e=1){n:Nat}{cs:List Value}{x:DataW Hy×List MemPlace}(h:DataW.trod enc P w 0 spare held n t cs=some x):
  ∃v l,cs = [v]∧jB (jL w) v l∧(∀y,y∈l→y<4294967296)∧l.length≤maxLen:=by
 obtain⟨v,l,rfl,⟨A,c,xs,rfl,h2,h3,h4⟩,h5⟩:=I5 (α:=Nat) (Q:=fun _ vs a=>vs = [.int .u32 (Int.ofNat a)]∧a<4294967296) ht hc (by decide) (fun n cs x hl h=>by
  obtain⟨z,rfl,_,hz⟩:=DataW.trod_int he h
  obtain⟨h1,h2⟩:=wf_u32 hz
  exact⟨z.toNat,by rw[show Int.ofNat z.toNat=z from Int.toNat_of_nonneg h1],by omega⟩) h
 refine⟨_,l,rfl,⟨A,c,rfl,h2,?_⟩,fun y hy=> ?_,h5⟩
 ·have:xs=U l:=by
   apply List.ext_getElem?
   intro i
   by_cases hi:i<l.length
   ·obtain⟨u,h6,h7⟩:=h4.one (List.getElem?_eq_getElem hi)
    rw[h6,du (List.getElem?_eq_getElem hi)]
    have:=h7.1
    simpa using this
   ·rw[List.getElem?_eq_none (by rw[h4.len];omega),List.getElem?_eq_none (by rw[AW];omega)]
  rw[←this];exact h3
 ·obtain⟨i,hi⟩:=List.getElem?_of_mem hy
  exact(h4.at_ i y hi).2
theorem aiX{t f0 f1 lu:Nat}{F0 F1 F2:Field}(ht:P.underlying t=some (.struct #[F0,F1,F2]))(e0:F0.type=f0∧F0.offset=0)(e1:F1.type=f1∧F1.offset=1)(e2:F2.type=f1∧F2.offset=2)(hb:P.underlying f0=some .bool)(hl:P.underlying f1=some (.slice lu))(hu:P.underlying lu=some (.int .u32))(hc:P.cellsOf lu=1)(c0:P.cellsOf f0=1)(c1:P.cellsOf f1=1)
  {n:Nat} {cs:List Value} {x:DataW Hy×List MemPlace} (h:DataW.trod enc P w 0 spare held n t cs=some x) (iz:cs.length=3):∃q,bR maxLen (jL w) cs q:=by
 match cs,iz with
 | [a,b,c],_=>
  obtain⟨y0,y1,y2,m,_,_,h0,h1,h2⟩:=Deep.trod_struct3 ht h
  rw[e0.1,e0.2,c0]at h0
  rw[e1.1,e1.2,c1]at h1
  rw[e2.1,e2.2,c1]at h2
  obtain⟨f,k0,_⟩:=DataW.trod_bool hb h0
  obtain⟨u,l1,k1,k2,k3,k4⟩:=ZX hl hu hc h1
  obtain⟨v,l2,k5,k6,k7,k8⟩:=ZX hl hu hc h2
  simp at k0 k1 k5
  subst k0 k1 k5
  exact⟨_,_,_,_,l1,l2,rfl,k2,k6,k3,k7,k4,k8,rfl⟩
end
section
variable {Hy:Type} {enc:TypeId×Value→Hy} {w:World} {spare:Nat→Bool} {held:Bool}
theorem ZY:Tryz.prog.cellsOf 31=3:=by kernel_rfl
theorem ZZ{n:Nat}{cs:List Value}{x:DataW Hy×List MemPlace}(h:DataW.trod enc Tryz.prog w 0 spare held n 31 cs=some x)(iz:cs.length=3):∃q,bR maxLen (jL w) cs q:=
 aiX Tryz.underlying31 ⟨rfl,rfl⟩ ⟨rfl,rfl⟩ ⟨rfl,rfl⟩ Tryz.underlying4 Tryz.underlying29 Tryz.underlying121 (by kernel_rfl) (by kernel_rfl) (by kernel_rfl) h iz
theorem Z0{n:Nat}{cs:List Value}{x:DataW Hy×List MemPlace}(h:DataW.trod enc Tryz.prog w 0 spare held n 26 cs=some x):∃v l,cs = [v]∧aR (bR maxLen) 3 (jL w) v l:=
 let ⟨v,l,h1,h2,_⟩:=I5 (Q:=bR maxLen) Tryz.underlying26 ZY (by decide) (fun _ _ _ hl h=>ZZ h hl) h
 ⟨v,l,h1,h2⟩
theorem aiY{n:Nat}{cs:List Value}{x:DataW Hy×List MemPlace}(h:DataW.trod enc Tryz.prog w 0 spare held n 78 cs=some x)(iz:cs.length=5):∃r,fA maxLen (jL w) cs r:=by
 match cs,iz with
 | [a,b,c,d,e],_=>
  obtain⟨y0,y1,y2,m,_,_,h0,h1,h2⟩:=Deep.trod_struct3 Tryz.underlying78 h
  have c0:Tryz.prog.cellsOf 26=1:=by kernel_rfl
  have c1:Tryz.prog.cellsOf 3=1:=by kernel_rfl
  obtain⟨v,l,k0,k1⟩:=Z0 h0
  obtain⟨z,k2,_⟩:=DataW.trod_int Tryz.underlying3 h1
  simp only[c0,c1,ZY]at k0 k2 h2
  simp at k0 k2
  subst k0 k2
  obtain⟨q,hq⟩:=ZZ h2 (by simp)
  have pY:ct (jL w) (.agg #[c,d,e]) q maxLen:=hq
  obtain⟨f,u,w',l1,l2,e1,hr⟩:=id pY
  have e2:=zf (vs:=[c,d,e]) e1
  simp only[List.cons.injEq,and_true]at e2
  obtain⟨rfl,rfl,rfl⟩:=e2
  exact⟨(l,z,q),_,_,_,_,rfl,k1,pY⟩
set_option maxRecDepth 100000 in
theorem aiZ{v:Value}{d:DataW Hy}{ps:List MemPlace}{b0:Nat}{rr:Reach}(hv:Value.okWide Tryz.prog w rr b0 25 v)(h:DataW.Trod enc Tryz.prog w 0 spare held 25 v d ps):∃p,ea maxLen (jL w) v p:=by
 obtain⟨cs,rfl,cQ⟩:=WideShapes.okWide_struct Tryz.underlying25 hv
 have hC:Tryz.prog.cellsOf 25=2:=by kernel_rfl
 obtain⟨cs,rfl⟩:∃l:List Value,cs=l.toArray:=⟨cs.toList,by simp⟩
 match cs,(show cs.length=2 by rw[hC]at cQ;simpa using cQ)with
 | [a,b],_=>
  obtain⟨fuel,hf⟩:=h
  obtain⟨y0,y1,m,_,_,h0,h1⟩:=ChangeShapes.trod_struct2 Tryz.underlying25 hf
  have c0:Tryz.prog.cellsOf 22=1:=by kernel_rfl
  have c1:Tryz.prog.cellsOf 23=1:=by kernel_rfl
  have c2:Tryz.prog.cellsOf 4=1:=by kernel_rfl
  have c3:Tryz.prog.cellsOf 78=5:=by kernel_rfl
  obtain⟨fv,fl,k0,k1,_⟩:=I5 (α:=Bool) (Q:=ql) Tryz.underlying22 c2 (by decide) (fun n cs x hl h=>by
   obtain⟨b,rfl,_⟩:=DataW.trod_bool Tryz.underlying4 h
   exact⟨b,rfl⟩) h0
  obtain⟨rv,rl,k2,k3,_⟩:=I5 (Q:=fA maxLen) Tryz.underlying23 c3 (by decide) (fun n cs x hl h=>aiY h hl) h1
  simp only[c0,c1]at k0 k2
  simp[Value.cells]at k0 k2
  subst k0 k2
  exact⟨⟨fl,rl⟩,_,_,rfl,k1,k3⟩
end
end Go.aw
namespace Go.aw
def ML(ms:List Nat)(o:Oper):Nat:=o.after.toList.foldl (fun m e=>cond (Region.binds .any e) (m ||| (1 <<< e.on) ||| ms.getD e.on 0) m) 0
def MM(md:Mode)(l:List Oper)(ms:List Nat):List Nat→Bool
 | []=>true
 | i::r=>r.all (fun j=>Nat.testBit (ms.getD j 0) i||Sw md l.toArray (fi l i) (fi l j))&&MM md l ms r
def Z1(n:Nat)(md:Mode)(l:List Oper)(perm ms:List Nat):Bool:=
 !md.UX&&FK n l&&Nat.beq perm.length l.length&&perm.all (fun i=>Nat.blt i l.length)&&FL perm&&MM md l ms perm&&(List.range l.length).all (fun i=>perm.contains i) &&
 ((List.range l.length).all fun i=>(fi l i).after.all fun e=> !Region.binds .any e||Nat.blt e.on i)&&(List.range l.length).all fun j=>Nat.beq (ms.getD j 0) (ML ms (fi l j))
theorem Z2{ms:List Nat}{i:Nat}:∀(es:List Edge)(m:Nat),(es.foldl (fun m e=>cond (Region.binds .any e) (m ||| (1 <<< e.on) ||| ms.getD e.on 0) m) m).testBit i=true→m.testBit i=true∨∃e,e∈es∧Region.binds .any e=true∧(e.on=i∨(ms.getD e.on 0).testBit i=true)
 | [],m,h=> .inl h
 | e::es,m,h=>by
  rcases Z2 es _ h with h1 | ⟨e',h1,h2⟩
  ·cases hb:Region.binds .any e with
   | false=>dsimp only at h1;rw[hb]at h1;exact .inl h1
   | true=>
    dsimp only at h1
    rw[hb]at h1
    simp only[cond_true,Nat.testBit_or,Bool.or_eq_true]at h1
    rcases h1 with (h1 | h1) | h1
    ·exact .inl h1
    ·refine .inr ⟨e,List.mem_cons_self ..,hb,.inl ?_⟩
     rw[Nat.one_shiftLeft,Nat.testBit_two_pow]at h1
     simpa using h1
    ·exact .inr ⟨e,List.mem_cons_self ..,hb,.inr h1⟩
  ·exact .inr ⟨e',List.mem_cons_of_mem _ h1,h2⟩
theorem Z3{l:List Oper}:∀(f i j:Nat),pX l f i j=true→pX l (f+1) i j=true
 | 0,_,_,h=>by cases h
 | f+1,i,j,h=>by
  unfold pX at h⊢
  rw[Array.any_eq_true]at h⊢
  obtain⟨k,hk,h⟩:=h
  refine⟨k,hk,?_⟩
  simp only[Bool.and_eq_true,Bool.or_eq_true]at h⊢
  exact⟨h.1,h.2.imp id fun h=>Z3 f i _ h⟩
theorem Z4{l:List Oper}{f g i j:Nat}(h:pX l f i j=true)(hg:f≤g):pX l g i j=true:=by
 obtain⟨k,rfl⟩:=Nat.le.dest hg
 clear hg
 induction k with
 | zero=>exact h
 | succ k ih=>exact Z3 _ _ _ ih
theorem ai0{l:List Oper}{ms:List Nat}(hb:∀i,i<l.length→∀e,e∈(fi l i).after→Region.binds .any e=true→e.on<i)(hm:∀j,j<l.length→ms.getD j 0=ML ms (fi l j))(i:Nat):∀(k j:Nat),j<k→j<l.length→(ms.getD j 0).testBit i=true→pX l (j+1) i j=true:=by
 intro k
 induction k with
 | zero=>intro j h;omega
 | succ k ih=>
  intro j hk hj h
  rw[hm j hj]at h
  rcases Z2 _ _ h with h1 | ⟨e,h1,h2,h3⟩
  ·simp at h1
  ·have FZ:e∈(fi l j).after:=Array.mem_toList_iff.1 h1
   have bL:=hb j hj e FZ h2
   unfold pX
   rw[Array.any_eq_true]
   obtain⟨q,hq,e1⟩:=Array.mem_iff_getElem.1 FZ
   refine⟨q,hq,?_⟩
   rw[e1]
   simp only[Bool.and_eq_true,Bool.or_eq_true]
   refine⟨h2,?_⟩
   rcases h3 with h3 | h3
   ·exact .inl (by rw[h3];exact Nat.beq_refl i)
   ·exact .inr (Z4 (ih e.on (by omega) (by omega) h3) (by omega))
theorem Z5{md:Mode}{l:List Oper}{ms:List Nat}(hb:∀i,i<l.length→∀e,e∈(fi l i).after→Region.binds .any e=true→e.on<i)(hm:∀j,j<l.length→ms.getD j 0=ML ms (fi l j)):∀r:List Nat,(∀i,i∈r→i<l.length)→MM md l ms r=true→AM md l r=true
 | [],_,_=>rfl
 | i::r,hr,h=>by
  unfold MM at h
  unfold AM
  simp only[Bool.and_eq_true,List.all_eq_true,Bool.or_eq_true]at h⊢
  refine⟨fun j hj=> ?_,Z5 hb hm r (fun k hk=>hr k (List.mem_cons_of_mem _ hk)) h.2⟩
  have hl:=hr j (List.mem_cons_of_mem _ hj)
  exact(h.1 j hj).imp (fun h9=>Z4 (ai0 hb hm i _ j (Nat.lt_succ_self j) hl h9) (by omega)) id
theorem ia{n:Nat}{md:Mode}{l:List Oper}{perm:List Nat}(ms:List Nat)(h:Z1 n md l perm ms=true):Da n md l perm=true:=by
 unfold Z1 at h
 simp only[Bool.and_eq_true]at h
 obtain⟨⟨⟨⟨⟨⟨⟨⟨h1,h2⟩,h3⟩,h4⟩,h5⟩,h6⟩,h7⟩,h8⟩,h9⟩:=h
 have hb:∀i,i<l.length→∀e,e∈(fi l i).after→Region.binds .any e=true→e.on<i:=fun i hi e he sS=>by
  have k1:=List.all_eq_true.1 h8 i (List.mem_range.2 hi)
  obtain⟨q,hq,e1⟩:=Array.mem_iff_getElem.1 he
  have k2:=Array.all_eq_true.1 k1 q hq
  rw[e1,sS]at k2
  simp only[Bool.not_true,Bool.false_or]at k2
  exact FJ k2
 have hm:∀j,j<l.length→ms.getD j 0=ML ms (fi l j):=fun j hj=>Nat.eq_of_beq_eq_true (List.all_eq_true.1 h9 j (List.mem_range.2 hj))
 have hp:AM md l perm=true:=Z5 hb hm perm (fun i hi=>FJ (List.all_eq_true.1 h4 i hi)) h6
 unfold Da
 simp only[Bool.and_eq_true]
 exact⟨⟨⟨⟨⟨⟨⟨h1,h2⟩,h3⟩,h4⟩,h5⟩,hp⟩,h7⟩,h8⟩
end Go.aw
namespace Go.aw
open Go.Proofs Num Lp
def fD(vs:List Value)(q:Rat):Prop:=∃n d:Int,vs = [.int .i64 n,.int .i64 d]∧-1073741824≤n∧n≤1073741824∧1≤d∧d≤1073741824∧q=(n:Rat)/(d:Rat)
theorem E0:fD [.int .i64 0,.int .i64 1] 0:=⟨0,1,rfl,by decide,by decide,by decide,by decide,by grind⟩
theorem xN{a b:Int}(h1: -1073741824≤a)(h2:a≤1073741824)(h3: -1073741824≤b)(h4:b≤1073741824): -1152921504606846976≤a*b∧a*b≤1152921504606846976:=by
 have h5:(a*b).natAbs≤1073741824*1073741824:=by rw[Int.natAbs_mul];exact Nat.mul_le_mul (by omega) (by omega)
 omega
theorem ai1{n d a:Int}(ha:a≠0)(h1:a∣n)(h2:a∣d):((n.tdiv a:Int):Rat)/((d/a:Int):Rat)=(n:Rat)/(d:Rat):=by
 obtain⟨k,rfl⟩:=h1
 obtain⟨j,rfl⟩:=h2
 rw[Int.mul_tdiv_cancel_left _ ha,Int.mul_ediv_cancel_left _ ha]
 have h3:(a:Rat)≠0:=by exact_mod_cast ha
 by_cases hj:j=0
 ·subst hj;rw[Int.mul_zero];simp[Rat.div_def]
 ·have h4:(j:Rat)≠0:=by exact_mod_cast hj
  rw[Rat.intCast_mul,Rat.intCast_mul]
  rw[Rat.div_def,Rat.div_def,Rat.inv_mul_rev]
  grind
def Sq(gs:List Nat)(g:Nat)(rv bv:Value)(o:Bool)(H:Heap)(q:Rat)(v:Value)(H':Heap):Prop:=
 fT gs g H H'∧∃(vs:List Value)(o':Bool)(q':Rat),v = .agg vs.toArray∧fD vs q'∧H' g=some ⟨[rv,bv,.bool o'],3,160,true⟩∧(o'=false→o=false∧q'=q)
theorem Sr{H:Heap}{gs:List Nat}{g:Nat}{rv bv:Value}{o:Bool}(hg:g∈gs)(ht:H g=some ⟨[rv,bv,.bool o],3,160,true⟩){n d:Int}(h1: -4611686018427387904≤n)(h2:n≤4611686018427387904)(h3:1≤d)(h4:d≤4611686018427387904):
 Fn Tryz.prog 189 #[.pointer (some ⟨g,0,none⟩),.int .i64 n,.int .i64 d] H (Sq gs g rv bv o H ((n:Rat)/(d:Rat))):=by
 refine aZ (args:=[_,_,_]) Tryz.func189 rfl rfl Tryz.ntmps189 rfl rfl fun w0=> ?_;refine aj [0,1,2] rfl ?_;refine ag (bn fP rfl (ae [0,1,2,6] ?_));refine ag (ab 4 rfl (ae [0,1,2,6,7,8] ?_));refine Dl (put (put (put (put (put (put (emp) 0 (.val (.pointer (some ⟨g,0,none⟩)))) 1 (.val (.int .i64 n))) 2 (.val (.int .i64 d))) 6 (.box [.int .i64 0,.int .i64 0])) 7 (.val (.int .i64 (n.natAbs:Int)))) 8 (.val (.int .i64 d))) (fun H'=>H'=H) ?_ ?_
 ·
  refine ag (ab 2 rfl (ae [0,1,2,6,7,8,12] ?_));refine aD rfl (fun hb=> ?_) (fun hb=> ?_)
  ·
   have hb:n<0:=by simpa using hb
   refine aC rfl (ab 1 rfl (tl rfl ⟨by omega,by omega⟩ (ab 1 rfl (az ?_))));exact⟨au,rfl⟩
  ·
   have hb:0≤n:=by simpa using hb
   refine aA ?_;exact⟨au,rfl⟩
 ·
  rintro H0 e0;rw[e0];clear e0 H0;refine aq (aG (ij (fun(a:Nat)(b:Nat)=>b) (fun(a:Nat)(b:Nat)=>put (put (put (put (put (put (emp) 0 (.val (.pointer (some ⟨g,0,none⟩)))) 1 (.val (.int .i64 n))) 2 (.val (.int .i64 d))) 6 (.box [.int .i64 0,.int .i64 0])) 7 (.val (.int .i64 (a:Int)))) 8 (.val (.int .i64 (b:Int)))) (fun(a:Nat)(b:Nat) H'=>H'=H∧Nat.gcd a b=Nat.gcd n.natAbs d.natAbs∧a≤9223372036854775807∧b≤9223372036854775807) n.natAbs d.natAbs (⟨rfl,rfl,by omega,by omega⟩) au ?_));rintro a b H2 ⟨e2,kg,ha,lH⟩;refine aq (ag (ab 2 rfl (ae [0,1,2,6,7,8,16] ?_)));refine aD rfl (fun hb=> ?_) (fun hb=> ?_)
  ·
   have hb:0<b:=by simp at hb;omega
   refine aA (aj [0,1,2,6,7,8] rfl ?_);refine aG (ep .bJ [0,1,2,3,4,5] follows (by kernel_rfl) ?_);refine ab 3 rfl (nh rfl rfl (by omega) (by omega) (ab 2 rfl (az ?_)));exact⟨b,a%b,Nat.mod_lt a hb,au,e2,by rw[←kg,Nat.gcd_comm b,←Nat.gcd_rec,Nat.gcd_comm],lH,by have:=Nat.mod_lt a hb;omega⟩
  have hb:b=0:=by simp at hb;omega
  subst hb;rw[Nat.gcd_zero_right]at kg
  have ha0:0<a:=by rw[kg];exact Nat.gcd_pos_of_pos_right _ (by omega)
  have ON:(a:Int)∣n:=Int.ofNat_dvd_left.2 (by rw[kg];exact Nat.gcd_dvd_left _ _);have Z6:(a:Int)∣d:=Int.ofNat_dvd_left.2 (by rw[kg];exact Nat.gcd_dvd_right _ _)
  have HK: -4611686018427387904≤n.tdiv a∧n.tdiv a≤4611686018427387904:=by
   have:(n.tdiv a).natAbs≤n.natAbs:=by rw[Int.natAbs_tdiv];exact Nat.div_le_self _ _
   omega
  have hd9:d/(a:Int)≤d:=Int.ediv_le_self _ (by omega)
  have hd8:1≤d/(a:Int):=by
   obtain⟨k,hk⟩:=Z6;rw[hk,Int.mul_ediv_cancel_left _ (by omega)]
   rcases Int.lt_or_le k 1 with h | h
   ·
    have:(a:Int)*k≤0:=Int.mul_nonpos_of_nonneg_of_nonpos (by omega) (by omega)
    omega
   ·exact h
  have ai2:=ai1 (show (a:Int)≠0 by omega) ON Z6;rw[e2];clear e2 kg lH;refine aW (aj [0,1,2,6,7] rfl ?_);refine AU (fun(x:Int)(y:Int)=>put (put (put (put (emp) 0 (.val (.pointer (some ⟨g,0,none⟩)))) 1 (.val (.int .i64 x))) 2 (.val (.int .i64 y))) 6 (.box [.int .i64 0,.int .i64 0])) (fun(x:Int)(y:Int) H'=>H'=H∧1≤y∧(-4611686018427387904≤x∧x≤4611686018427387904∧y≤4611686018427387904)∧(x:Rat)/(y:Rat)=(n:Rat)/(d:Rat)) ?_ ?_
  ·
   refine ag (ab 2 rfl (ae [0,1,2,6,7,22] ?_));refine aD rfl (fun hb=> ?_) (fun hb=> ?_)
   ·
    skip
    refine ep .bJ [0,1,2,3,4,5,6,7] follows (by kernel_rfl) ?_;refine ab 2 rfl (Vp rfl rfl (by omega) ⟨by omega,by omega⟩ (ab 2 rfl (l0 rfl rfl (by omega) (by omega) ⟨by omega,by omega⟩ (ab 2 rfl (az ?_)))));exact⟨_,_,au,rfl,hd8,⟨HK.1,HK.2,by omega⟩,ai2⟩
   skip
   refine aA ?_;exact⟨_,_,au,rfl,h3,⟨h1,h2,h4⟩,rfl⟩
  rintro x y H3 ⟨rfl,tw,⟨eP,eR,Ep⟩,qK⟩;refine aq ?_
  by_cases g1:1073741824<x
  ·
   skip
   refine ag (ab 1 rfl (aJ true rfl rfl (mI (by omega)) (ab 8 rfl (ae [0,1,2,6,38] ?_))));refine dJ rfl (ag (ab 2 rfl (aV ah rfl rfl rfl ?_)));obtain⟨ti,ak,al⟩:=Gc;refine ma (g:=g) (o:=2) (.inl rfl) rfl ht rfl (by show 2+1≤3;omega) ak al rfl rfl rfl rfl ?_;refine ae [6] ?_;refine ag (de ah rfl fP rfl rfl ?_);obtain⟨ti,ak,al⟩:=eE;refine aI (.inl ⟨rfl,rfl⟩) rfl rfl rfl ak al rfl rfl rfl (ae [6] ?_);obtain⟨bQ,aN,aO⟩:=eE;refine aE ⟨.inr rfl,_,.agg rfl Tryz.underlying163 aN aO (.nil),?_⟩;exact⟨(Kept.refl _ _).iO g |>.ins hg _,_,true,0,rfl,E0,by rw[bF];rfl,fun h=>by cases h⟩
  skip
  by_cases g2:x < -1073741824
  ·
   skip
   refine ag (ab 1 rfl (aJ false rfl rfl (iW (by omega)) (ab 2 rfl (aJ true rfl rfl (jS (by omega)) (ab 5 rfl (ae [0,1,2,6,38] ?_))))));refine dJ rfl (ag (ab 2 rfl (aV ah rfl rfl rfl ?_)));obtain⟨ti,ak,al⟩:=Gc;refine ma (g:=g) (o:=2) (.inl rfl) rfl ht rfl (by show 2+1≤3;omega) ak al rfl rfl rfl rfl ?_;refine ae [6] ?_;refine ag (de ah rfl fP rfl rfl ?_);obtain⟨ti,ak,al⟩:=eE;refine aI (.inl ⟨rfl,rfl⟩) rfl rfl rfl ak al rfl rfl rfl (ae [6] ?_);obtain⟨bQ,aN,aO⟩:=eE;refine aE ⟨.inr rfl,_,.agg rfl Tryz.underlying163 aN aO (.nil),?_⟩;exact⟨(Kept.refl _ _).iO g |>.ins hg _,_,true,0,rfl,E0,by rw[bF];rfl,fun h=>by cases h⟩
  skip
  by_cases g3:1073741824<y
  ·
   skip
   refine ag (ab 1 rfl (aJ false rfl rfl (iW (by omega)) (ab 2 rfl (aJ false rfl rfl (iC (by omega)) (ab 3 rfl (aJ true rfl rfl (mI (by omega)) (ab 1 rfl (ae [0,1,2,6,38] ?_))))))));refine dJ rfl (ag (ab 2 rfl (aV ah rfl rfl rfl ?_)));obtain⟨ti,ak,al⟩:=Gc;refine ma (g:=g) (o:=2) (.inl rfl) rfl ht rfl (by show 2+1≤3;omega) ak al rfl rfl rfl rfl ?_;refine ae [6] ?_;refine ag (de ah rfl fP rfl rfl ?_);obtain⟨ti,ak,al⟩:=eE;refine aI (.inl ⟨rfl,rfl⟩) rfl rfl rfl ak al rfl rfl rfl (ae [6] ?_);obtain⟨bQ,aN,aO⟩:=eE;refine aE ⟨.inr rfl,_,.agg rfl Tryz.underlying163 aN aO (.nil),?_⟩;exact⟨(Kept.refl _ _).iO g |>.ins hg _,_,true,0,rfl,E0,by rw[bF];rfl,fun h=>by cases h⟩
  skip
  refine ag (ab 1 rfl (aJ false rfl rfl (iW (by omega)) (ab 2 rfl (aJ false rfl rfl (iC (by omega)) (ab 3 rfl (aJ false rfl rfl (iW (by omega)) (ab 1 rfl (ae [0,1,2,6,38] ?_))))))));refine dR rfl (aA (aj [1,2,6] rfl ?_));refine ag (ab 2 rfl (de ah rfl fP rfl rfl ?_));obtain⟨ti,ak,al⟩:=eE;refine aI (.inl ⟨rfl,rfl⟩) rfl rfl rfl ak al rfl rfl rfl (ae [6] ?_);obtain⟨bQ,aN,aO⟩:=eE;refine aE ⟨.inr rfl,_,.agg rfl Tryz.underlying163 aN aO (.nil),?_⟩;exact⟨(Kept.refl _ _).iO g,_,o,_,rfl,⟨x,y,rfl,by omega,by omega,by omega,by omega,rfl⟩,ht,fun h=>⟨h,qK⟩⟩
theorem Z7{n d a b:Int}:((n*a:Int):Rat)/((d*b:Int):Rat)=(n:Rat)/(d:Rat)*((a:Rat)/(b:Rat)):=by
 rw[Rat.intCast_mul,Rat.intCast_mul,Rat.div_def,Rat.div_def,Rat.div_def,Rat.inv_mul_rev];grind
theorem Z8{n d a b:Int}(h1:1≤d)(h2:1≤b):((n*b-a*d:Int):Rat)/((d*b:Int):Rat)=(n:Rat)/(d:Rat)-(a:Rat)/(b:Rat):=by
 have h3:(d:Rat)≠0:=by exact_mod_cast (show d≠0 by omega)
 have h4:(b:Rat)≠0:=by exact_mod_cast (show b≠0 by omega)
 rw[Rat.intCast_sub,Rat.intCast_mul,Rat.intCast_mul,Rat.intCast_mul,Rat.div_def,Rat.div_def,Rat.div_def,Rat.inv_mul_rev]
 grind
theorem MN{a b:Int}(h1:1≤a)(h2:1≤b):1≤a*b:=by
 have:=Int.mul_le_mul h1 h2 (by omega) (by omega)
 omega
theorem Ss{H:Heap}{gs:List Nat}{g:Nat}{rv bv:Value}{o:Bool}(hg:g∈gs)(ht:H g=some ⟨[rv,bv,.bool o],3,160,true⟩){xs ys:List Value}{p q:Rat}(hx:fD xs p)(hy:fD ys q):
 Fn Tryz.prog 191 #[.pointer (some ⟨g,0,none⟩),.agg xs.toArray,.agg ys.toArray] H (Sq gs g rv bv o H (p*q)):=by
 obtain⟨n,d,rfl,h1,h2,h3,h4,rfl⟩:=hx
 obtain⟨a,b,rfl,g1,g2,g3,g4,rfl⟩:=hy
 have m1:=xN (a:=d) (b:=b) (by omega) h4 (by omega) g4
 have m2:=MN h3 g3
 have m3:=xN h1 h2 g1 g2;refine aZ (args:=[_,_,_]) Tryz.func191 rfl rfl Tryz.ntmps191 rfl rfl fun w0=> ?_;refine aj [0,1,2] rfl ?_;refine ag (bW rfl rfl (bW rfl rfl (bn fP rfl (ae [0,4,5,6] ?_))));refine ag (ab 5 rfl (gW rfl rfl ⟨by omega,by omega⟩ (ab 4 rfl (gW rfl rfl ⟨by omega,by omega⟩ (aF rfl rfl (Sr hg ht (n:=n*a) (d:=d*b) (by omega) (by omega) (by omega) (by omega)) ?_)))));rintro v1 H1 ⟨k1,vs,o',q',rfl,j1,j2,j3⟩;obtain⟨x,y,rfl,i1⟩:=id j1;obtain⟨ti,ak,al⟩:=eE;refine aI (.inl ⟨rfl,rfl⟩) rfl rfl rfl ak al rfl rfl rfl (ae [6] ?_);obtain⟨bQ,aN,aO⟩:=eE;refine aE ⟨.inr rfl,_,.agg rfl Tryz.underlying163 aN aO (.nil),?_⟩;exact⟨k1,_,o',q',rfl,j1,j2,fun h=>⟨(j3 h).1,(j3 h).2.trans Z7⟩⟩
theorem Su{H:Heap}{gs:List Nat}{g:Nat}{rv bv:Value}{o:Bool}(hg:g∈gs)(ht:H g=some ⟨[rv,bv,.bool o],3,160,true⟩){xs ys:List Value}{p q:Rat}(hx:fD xs p)(hy:fD ys q):
 Fn Tryz.prog 137 #[.pointer (some ⟨g,0,none⟩),.agg xs.toArray,.agg ys.toArray] H (Sq gs g rv bv o H (p-q)):=by
 obtain⟨n,d,rfl,h1,h2,h3,h4,rfl⟩:=hx
 obtain⟨a,b,rfl,g1,g2,g3,g4,rfl⟩:=hy
 have m1:=xN (a:=d) (b:=b) (by omega) h4 (by omega) g4
 have m2:=MN h3 g3
 have m3:=xN h1 h2 (show -1073741824≤b by omega) g4
 have m4:=xN g1 g2 (show -1073741824≤d by omega) h4;refine aZ (args:=[_,_,_]) Tryz.func137 rfl rfl Tryz.ntmps137 rfl rfl fun w0=> ?_;refine aj [0,1,2] rfl ?_;refine ag (bW rfl rfl (bW rfl rfl (bn fP rfl (ae [0,4,5,6] ?_))));refine ag (ab 5 rfl (gW rfl rfl ⟨by omega,by omega⟩ (ab 4 rfl (gW rfl rfl ⟨by omega,by omega⟩ (cY rfl rfl ⟨by omega,by omega⟩ (ab 4 rfl (gW rfl rfl ⟨by omega,by omega⟩ (aF rfl rfl (Sr hg ht (n:=n*b-a*d) (d:=d*b) (by omega) (by omega) (by omega) (by omega)) ?_))))))));rintro v1 H1 ⟨k1,vs,o',q',rfl,j1,j2,j3⟩;obtain⟨x,y,rfl,i1⟩:=id j1;obtain⟨ti,ak,al⟩:=eE;refine aI (.inl ⟨rfl,rfl⟩) rfl rfl rfl ak al rfl rfl rfl (ae [6] ?_);obtain⟨bQ,aN,aO⟩:=eE;refine aE ⟨.inr rfl,_,.agg rfl Tryz.underlying163 aN aO (.nil),?_⟩;exact⟨k1,_,o',q',rfl,j1,j2,fun h=>⟨(j3 h).1,(j3 h).2.trans (Z8 h3 g3)⟩⟩
theorem Z9{x:Nat}(h:(ao x).length=1):ao x = [x]∧x<1000000000∧0<x:=by
 have h1:x<B^1:=jn.1 (by omega)
 have h2:0<x:=Nat.pos_of_ne_zero fun e=>by subst e;rw[qI]at h;cases h
 have h3:x<B:=by simpa using h1
 refine⟨?_,by rw[show B=1000000000 from rfl]at h3;exact h3,h2⟩
 rw[yL h2,Nat.mod_eq_of_lt h3,Nat.div_eq_of_lt h3,qI]
theorem aaa{H:Heap}{v:Value}{q:Rat}{N:Nat}(hv:ct H v q N)(hN:(N:Int)≤4398046511000):
 Fn Tryz.prog 136 #[v] H (fun v' H'=>Heap.le H H'∧∃(n d:Int)(b:Bool),v' = .tuple #[.agg #[.int .i64 n,.int .i64 d],.bool b]∧(b=true→fD [.int .i64 n,.int .i64 d] q)):=by
 obtain⟨bf,bu,bw,od,oe,rfl,fa,bU,ny,LZ,X3,Er,hb7⟩:=id hv;refine aZ (args:=[_]) Tryz.func136 rfl rfl Tryz.ntmps136 rfl rfl fun w0=> ?_;refine aj [0] rfl ?_;refine ag (bW rfl rfl (bn fP rfl (ab 1 rfl (ae [1,2] ?_))));refine ag (ab 1 rfl (aF rfl rfl (qg hv hN) ?_));rintro _ H1 ⟨cH,cC⟩
 unfold bK at cC
 obtain⟨u,w,rfl,hu,hw⟩:=id cC;obtain⟨A,c,rfl,hc,hr⟩:=id hu;obtain⟨A2,c2,rfl,nz,mJ⟩:=id hw;refine bn bZ rfl ?_;obtain⟨ti,ak,al⟩:=a6;refine aI (.inl ⟨rfl,rfl⟩) rfl rfl rfl ak al rfl rfl rfl (ae [2,4] ?_);refine aq ?_
 by_cases g1:1<(ao q.num.natAbs).length
 ·
  skip
  refine ag (ab 3 rfl (aJ true rfl rfl (mI (by omega)) (ab 6 rfl (ae [2,4,17] ?_))));refine dJ rfl (ag (de ah rfl fP rfl rfl ?_));obtain⟨ti,ak,al⟩:=eE;refine aI (.inl ⟨rfl,rfl⟩) rfl rfl rfl ak al rfl rfl rfl (ab 1 rfl (ae [2,3] ?_));obtain⟨bQ,aN,aO⟩:=eE;refine aE ⟨.inr rfl,_,.agg rfl Tryz.underlying163 aN aO (.tmp rfl (.nil)),?_⟩;exact⟨cH,0,0,false,rfl,fun h=>by cases h⟩
 ·
  skip
  by_cases g2:¬(ao q.den).length=1
  ·
   skip
   refine ag (ab 3 rfl (aJ false rfl rfl (iW (by omega)) (ab 4 rfl (aJ true rfl rfl (u0 (by omega)) (ab 1 rfl (ae [2,4,17] ?_))))));refine dJ rfl (ag (de ah rfl fP rfl rfl ?_));obtain⟨ti,ak,al⟩:=eE;refine aI (.inl ⟨rfl,rfl⟩) rfl rfl rfl ak al rfl rfl rfl (ab 1 rfl (ae [2,3] ?_));obtain⟨bQ,aN,aO⟩:=eE;refine aE ⟨.inr rfl,_,.agg rfl Tryz.underlying163 aN aO (.tmp rfl (.nil)),?_⟩;exact⟨cH,0,0,false,rfl,fun h=>by cases h⟩
  have g2:(ao q.den).length=1:=by omega
  obtain⟨fh,ks,K5⟩:=Z9 g2;have AF:(U (ao q.den))[0]? = some (.int .u32 (q.den:Int)):=du (by rw[fh];rfl)
  have GD:q.num.natAbs<1000000000:=by
   have:=jn.1 (show (ao q.num.natAbs).length≤1 by omega)
   rwa [Nat.pow_one,cn]at this
  refine ag (ab 3 rfl (aJ false rfl rfl (iW (by omega)) (ab 4 rfl (aJ false rfl rfl (wq (by omega)) (ab 1 rfl (ae [2,4,17] ?_))))));refine dR rfl (aA (aj [2,4] rfl ?_));refine ag (ab 2 rfl (aS ah rfl rfl rfl rfl rfl (mJ) (AF) (by omega) (by omega) fun _=>(dg ah rfl rfl rfl ⟨by omega,by omega⟩ (de ah rfl fP rfl rfl (bn fP rfl ?_)))));obtain⟨ti,ak,al⟩:=eE;refine aI (.inl ⟨rfl,rfl⟩) rfl rfl rfl ak al rfl rfl rfl (ae [2,4,5] ?_);refine Dl (put (put (put (emp) 2 (.box [.int .i64 0,.int .i64 0])) 4 (.box [.bool (decide (q.num<0)),.slice A (ao q.num.natAbs).length c,.slice A2 (ao q.den).length c2])) 5 (.box [.int .i64 (q.num.natAbs:Int),.int .i64 (q.den:Int)])) (fun H'=>H'=H1) ?_ ?_
  ·
   refine ag (ab 4 rfl (ae [2,4,5,28] ?_));refine aD rfl (fun hb=> ?_) (fun hb=> ?_)
   ·
    have hb:(ao q.num.natAbs).length=1:=by simp at hb;omega
    obtain⟨di,gX,j7⟩:=Z9 hb;have hnx:(U (ao q.num.natAbs))[0]? = some (.int .u32 (q.num.natAbs:Int)):=du (by rw[di];rfl);refine aC rfl (ab 2 rfl (aS ah rfl rfl rfl rfl rfl (hr) (hnx) (by omega) (by omega) fun _=>(dg ah rfl rfl rfl ⟨by omega,by omega⟩ (vr 1 ?_))));obtain⟨ti,ak,al⟩:=oV;refine aI (.inr rfl) rfl rfl rfl ak al rfl rfl rfl (az ?_);exact⟨au,rfl⟩
   have hb:¬(ao q.num.natAbs).length=1:=by simp at hb;omega
   have hz:q.num.natAbs=0:=j6.1 (by omega);rw[hz];refine aA ?_;exact⟨au,rfl⟩
  rintro H0 e0;rw[e0];clear e0 H0;refine Dl (put (put (emp) 2 (.box [.int .i64 0,.int .i64 0])) 5 (.box [.int .i64 q.num,.int .i64 (q.den:Int)])) (fun H'=>H'=H1) ?_ ?_
  ·
   refine ag (ab 2 rfl (ae [2,5,36] ?_));refine aD rfl (fun hb=> ?_) (fun hb=> ?_)
   ·
    have hb:q.num<0:=by simpa using hb
    have e9: -((q.num.natAbs:Nat):Int)=q.num:=by omega
    refine aC rfl (ab 2 rfl (tl rfl ⟨by omega,by omega⟩ ?_));rw[e9];refine vr 1 ?_;obtain⟨ti,ak,al⟩:=oV;refine aI (.inr rfl) rfl rfl rfl ak al rfl rfl rfl (az ?_);exact⟨au,rfl⟩
   have hb:0≤q.num:=by simpa using hb
   rw[show ((q.num.natAbs:Nat):Int)=q.num by omega];refine aA ?_;exact⟨au,rfl⟩
  rintro H0 e0;rw[e0];clear e0 H0
  by_cases k1:q.num≤1073741824
  ·
   skip
   by_cases k2: -1073741824≤q.num
   ·
    skip
    by_cases k3:(q.den:Int)≤1073741824
    ·
     skip
     refine bP (.pT [2]) [0,1,2,3,4,5,6,7,8,9,10,11,12,13,14,15] follows (ia [0,0,2,6,14,30,62,126,254,510,1022,2046,4094,8190,1023,32767] (by kernel_rfl)) ?_;refine ab 3 rfl (aJ true rfl rfl (p7 (by omega)) (ab 3 rfl (aJ true rfl rfl (rS (by omega)) (ab 4 rfl (aJ true rfl rfl (p7 (by omega)) (vr 1 ?_))))));obtain⟨ti,ak,al⟩:=eE;refine aI (.inl ⟨rfl,rfl⟩) rfl rfl rfl ak al rfl rfl rfl (ab 1 rfl (ae [2,3] ?_));obtain⟨bQ,aN,aO⟩:=eE;refine aE ⟨.inr rfl,_,.agg rfl Tryz.underlying163 aN aO (.tmp rfl (.nil)),?_⟩;exact⟨cH,_,_,true,rfl,fun _=>⟨_,_,rfl,k2,k1,by omega,k3,(tE q).symm⟩⟩
    skip
    refine bP (.pT [2]) [0,1,2,3,4,5,6,7,8,9,10,11,12,13,14,15] follows (ia [0,0,2,6,14,30,62,126,254,510,1022,2046,4094,8190,1023,32767] (by kernel_rfl)) ?_;refine ab 3 rfl (aJ true rfl rfl (p7 (by omega)) (ab 3 rfl (aJ true rfl rfl (rS (by omega)) (ab 4 rfl (aJ false rfl rfl (yN (by omega)) (vr 1 ?_))))));obtain⟨ti,ak,al⟩:=eE;refine aI (.inl ⟨rfl,rfl⟩) rfl rfl rfl ak al rfl rfl rfl (ab 1 rfl (ae [2,3] ?_));obtain⟨bQ,aN,aO⟩:=eE;refine aE ⟨.inr rfl,_,.agg rfl Tryz.underlying163 aN aO (.tmp rfl (.nil)),?_⟩;exact⟨cH,_,_,false,rfl,fun h=>by cases h⟩
   skip
   refine bP (.pT [2]) [0,1,2,3,4,5,6,7,8,9,10,11,12,13,14,15] follows (ia [0,0,2,6,14,30,62,126,254,510,1022,2046,4094,8190,1023,32767] (by kernel_rfl)) ?_;refine ab 3 rfl (aJ true rfl rfl (p7 (by omega)) (ab 3 rfl (aJ false rfl rfl (AV (by omega)) (vr 6 ?_))));obtain⟨ti,ak,al⟩:=eE;refine aI (.inl ⟨rfl,rfl⟩) rfl rfl rfl ak al rfl rfl rfl (ab 1 rfl (ae [2,3] ?_));obtain⟨bQ,aN,aO⟩:=eE;refine aE ⟨.inr rfl,_,.agg rfl Tryz.underlying163 aN aO (.tmp rfl (.nil)),?_⟩;exact⟨cH,_,_,false,rfl,fun h=>by cases h⟩
  skip
  refine bP (.pT [2]) [0,1,2,3,4,5,6,7,8,9,10,11,12,13,14,15] follows (ia [0,0,2,6,14,30,62,126,254,510,1022,2046,4094,8190,1023,32767] (by kernel_rfl)) ?_;refine ab 3 rfl (aJ false rfl rfl (yN (by omega)) (vr 10 ?_));obtain⟨ti,ak,al⟩:=eE;refine aI (.inl ⟨rfl,rfl⟩) rfl rfl rfl ak al rfl rfl rfl (ab 1 rfl (ae [2,3] ?_));obtain⟨bQ,aN,aO⟩:=eE;refine aE ⟨.inr rfl,_,.agg rfl Tryz.underlying163 aN aO (.tmp rfl (.nil)),?_⟩;exact⟨cH,_,_,false,rfl,fun h=>by cases h⟩
end Go.aw
namespace Go.aw
open Go.Proofs Num Lp
structure gT{α β:Type}(P:Heap→List Value→α→Prop)(e sz:Nat)(Q:Heap→List Value→β→Prop)(e' eV:Nat)(Hb H:Heap)(v:Value)(l:List α)(xs:List Value)(u:Value)(k:List β)(ys:List Value):Prop where
 own:cg H v e sz l.length xs
 vP:cg H u e' eV k.length ys
 lT:bE (P (rem H (aB v++aB u))) sz xs l
 E2:bE (Q (rem H (aB v++aB u))) eV ys k
 base:Heap.le Hb (rem H (aB v++aB u))
 apart:∀q,q∈aB v→¬q∈aB u
theorem MO(H:Heap)(a b:List Nat):rem H (a++b)=rem H (b++a):=by
 funext q
 unfold rem
 simp only[List.mem_append,Or.comm]
theorem E3{H:Heap}{a b:List Nat}(h:∀q,q∈a→q∈b):Heap.le (rem H b) (rem H a):=fun q en hq=>by
 by_cases hm:q∈b
 ·rw[rem_in hm]at hq;cases hq
 ·rw[bM hm]at hq
  exact⟨en,by rw[bM (fun h'=>hm (h q h'))];exact hq,.refl _⟩
section
variable {α β:Type} {P:Heap→List Value→α→Prop} {e sz:Nat} {Q:Heap→List Value→β→Prop} {e' eV:Nat} {Hb H H':Heap} {v v' u u':Value} {l:List α} {xs:List Value} {k:List β} {ys:List Value}
theorem gT.swap(h:gT P e sz Q e' eV Hb H v l xs u k ys):gT Q e' eV P e sz Hb H u k ys v l xs:=
 ⟨h.vP,h.own,by rw[MO];exact h.E2,by rw[MO];exact h.lT,by rw[MO];exact h.base,fun q h1 h2=>h.apart q h2 h1⟩
theorem gT.le(h:gT P e sz Q e' eV Hb H v l xs u k ys):Heap.le Hb H:=h.base.trans (bt _ _)
theorem gT.nS(h:gT P e sz Q e' eV Hb H v l xs u k ys):∀q,q∈aB v++aB u→H q≠none:=fun q hq=>by
 rcases List.mem_append.1 hq with hq | hq
 ·obtain⟨en,he⟩:=h.own.block (cM.1 hq);rw[he];simp
 ·obtain⟨en,he⟩:=h.vP.block (cM.1 hq);rw[he];simp
theorem ed.two(h:ed P e sz Hb H v l xs):gT P e sz Q e' eV Hb H v l xs (.slice none 0 0) [] []:=by
 have e1:aB v++aB (.slice none 0 0)=aB v:=by rw[xM,List.append_nil]
 exact⟨h.own,lB H e' eV,by rw[e1];exact h.lT,vo,by rw[e1];exact h.base,fun q _ hq=>by rw[xM]at hq;cases hq⟩
theorem gT.one(h:gT P e sz Q e' eV Hb H v l xs u k ys)(up:Up P)(uq:Up Q):ed P e sz Hb H v l xs∧aR Q eV (rem H (aB v)) u k:=by
 have h1:Heap.le (rem H (aB v++aB u)) (rem H (aB v)):=E3 fun q hq=>List.mem_append_left _ hq
 refine⟨⟨h.own,h.lT.mono fun vs a=>up _ _ vs a h1,h.base.trans h1⟩,?_⟩
 refine GC.sl ⟨ys,h.vP.same fun q hq=> ?_,h.E2.mono fun vs a=>uq _ _ vs a h1⟩
 exact bM fun hv=>h.apart q hv (cM.2 hq)
theorem gT.step(h:gT P e sz Q e' eV Hb H v l xs u k ys)(up:Up P)(uq:Up Q)(hs:∀q,q∈aB v++aB u→H' q=H q)(hl:Heap.le (rem H (aB v++aB u)) (rem H' (aB v++aB u))):gT P e sz Q e' eV Hb H' v l xs u k ys:=
 ⟨h.own.same fun q hq=>hs q (List.mem_append_left _ (cM.2 hq)),h.vP.same fun q hq=>hs q (List.mem_append_right _ (cM.2 hq)),h.lT.mono fun vs a=>up _ _ vs a hl,h.E2.mono fun vs a=>uq _ _ vs a hl,h.base.trans hl,h.apart⟩
theorem gT.ins(h:gT P e sz Q e' eV Hb H v l xs u k ys)(up:Up P)(uq:Up Q){g:Nat}(en:Ent)(hg:H g=none):gT P e sz Q e' eV Hb (ins H g en) v l xs u k ys:=by
 have hn:¬g∈aB v++aB u:=fun hm=>h.nS g hm hg
 refine h.step up uq (fun q hq=>bg _ _ fun e=>hn (e▸hq)) ?_
 rw[rY _ hn]
 exact Heap.bC _ (by rw[bM hn];exact hg)
theorem gT.append(h:gT P e sz Q e' eV Hb H v l xs u k ys)(up:Up P)(uq:Up Q){m:Nat}{zs:List Value}{j:List α}(hm:m=l.length+j.length)(ha:App H v e sz m (xs++zs) v' H')(hz:bE (P (rem H (aB v++aB u))) sz zs j):gT P e sz Q e' eV Hb H' v' (l++j) (xs++zs) u k ys:=by
 have hvu:∀q,v.ownBlock=some q→¬u.ownBlock=some q:=fun q h1 h2=>h.apart q (cM.2 h1) (cM.2 h2)
 have new:∀q,q∈aB v'→q∈aB v∨H q=none:=fun q hq=>by
  rcases ha.at_ with h4 | ⟨g,h4,h5⟩
  ·exact .inl (cM.2 (h4▸cM.1 hq))
  ·have:=cM.1 hq;rw[h4]at this;cases this;exact .inr h5
 have ap:∀q,q∈aB v'→¬q∈aB u:=fun q hq hu=>by
  rcases new q hq with h1 | h1
  ·exact h.apart q h1 hu
  ·exact h.nS q (List.mem_append_right _ hu) h1
 have hl:Heap.le (rem H (aB v++aB u)) (rem H' (aB v'++aB u)):=fun q en hq=>by
  by_cases hm:q∈aB v++aB u
  ·rw[rem_in hm]at hq;cases hq
  ·rw[bM hm]at hq
   have h1:=ha.same q en hq fun e=>hm (List.mem_append_left _ (cM.2 e))
   have h2:¬q∈aB v'++aB u:=fun h2=>by
    rcases List.mem_append.1 h2 with h3 | h3
    ·rcases new q h3 with h4 | h4
     ·exact hm (List.mem_append_left _ h4)
     ·rw[h4]at hq;cases hq
    ·exact hm (List.mem_append_right _ h3)
   exact⟨en,by rw[bM h2];exact h1,.refl _⟩
 refine⟨by rw[List.length_append,←hm];exact ha.own,h.vP.same fun q hq=> ?_,(h.lT.mono fun vs a=>up _ _ vs a hl).append (hz.mono fun vs a=>up _ _ vs a hl),h.E2.mono fun vs a=>uq _ _ vs a hl,h.base.trans hl,ap⟩
 obtain⟨en,he⟩:=h.vP.block hq
 rw[he]
 exact ha.same q en he fun h1=>hvu q h1 hq
theorem gT.ai3(h:gT P e sz Q e' eV Hb H v l xs u k ys)(up:Up P)(uq:Up Q){m:Nat}{zs:List Value}{j:List β}(hm:m=k.length+j.length)(ha:App H u e' eV m (ys++zs) u' H')(hz:bE (Q (rem H (aB v++aB u))) eV zs j):gT P e sz Q e' eV Hb H' v l xs u' (k++j) (ys++zs):=
 (h.swap.append uq up hm ha (by rw[MO];exact hz)).swap
theorem gT.form(h:gT P e sz Q e' eV Hb H v l xs u k ys):∃A c,v = .slice A l.length c:=h.own.form
theorem gT.aab(h:gT P e sz Q e' eV Hb H v l xs u k ys):∃A c,u = .slice A k.length c:=h.vP.form
end
end Go.aw
namespace Go.aw
open Go.Proofs Num Lp
theorem Rd.drop{H:Heap}{A:Option Addr}{xs:List Value}(h:Rd H A xs)(k:Nat):Rd H (A.map (·.add k)) (xs.drop k):=fun i v hv=>by
 rw[List.getElem?_drop]at hv
 obtain⟨ad,h1,h2⟩:=h (k+i) v hv
 exact⟨ad.add k,by rw[h1];rfl,by rw[Addr.add_add];exact h2⟩
section
variable {α:Type} {P:Heap→List Value→α→Prop} {sz:Nat} {H:Heap} {A:Option Addr} {c:Nat} {l:List α}
theorem aR.cap{n:Nat}(h:aR P sz H (.slice A n c) l):n=l.length∧l.length≤c:=by
 obtain⟨A',c',xs,e,h1,_⟩:=h
 simp only[Value.slice.injEq]at e
 obtain⟨rfl,rfl,rfl⟩:=e
 exact⟨rfl,h1⟩
theorem aR.from(h:aR P sz H (.slice A l.length c) l){k:Nat}(hk:k≤l.length):aR P sz H (.slice (if c=k then A else A.map (·.add (k*sz))) (l.length-k) (c-k)) (l.drop k):=by
 obtain⟨A',c',xs,e,h1,h2,h3⟩:=h
 simp only[Value.slice.injEq]at e
 obtain⟨rfl,_,rfl⟩:=e
 by_cases e:c=k
 ·rw[if_pos e]
  have e2:l.drop k = []:=List.drop_eq_nil_of_le (by omega)
  rw[e2]
  exact⟨A,c-k,[],by rw[show l.length-k=0 by omega];rfl,Nat.zero_le _,Rd.nil _ _,vo⟩
 ·rw[if_neg e]
  exact⟨_,c-k,xs.drop (k*sz),by rw[List.length_drop],by rw[List.length_drop];omega,h2.drop _,h3.drop k⟩
end
def One{α:Type}(P:Heap→List Value→α→Prop):Prop:=∀H vs a,P H vs a→∀u,u∈vs→u.oneCell'=true
theorem aac:One ql:=fun _ vs b h u hu=>by
 have h:vs = [.bool b]:=h
 subst h
 rw[List.mem_singleton]at hu;rw[hu];rfl
theorem bE.aad{α:Type}{P:Heap→List Value→α→Prop}{sz:Nat}{H:Heap}{xs:List Value}{l:List α}(h:bE (P H) sz xs l)(o:One P)(hz:0<sz):∀u,u∈xs→u.oneCell'=true:=fun u hu=>by
 obtain⟨k,hk⟩:=List.getElem?_of_mem hu
 have PK:=(List.getElem?_eq_some_iff.1 hk).1
 have hd:=Nat.div_add_mod k sz
 have hm:=Nat.mod_lt k hz
 have bL:k/sz<l.length:=by
  rw[h.len]at PK
  exact(Nat.div_lt_iff_lt_mul hz).2 PK
 refine o H _ _ (h.at_ (k/sz) l[k/sz] (List.getElem?_eq_getElem bL)) u ?_
 apply List.mem_of_getElem? (i:=k%sz)
 unfold gC
 rw[List.getElem?_take,if_pos hm,List.getElem?_drop,←hk]
 congr 1
 rw[Nat.mul_comm];exact hd
theorem ai4{P:Program}{n:Nat}{all:Array Oper}{md:Mode}{r:List Oper}{s:St}{H Hb:Heap}{K:St→Heap→Prop}{dst:Option Nat}{ty:TypeId}{pos:String}{after:Array _}{gd:Option (Nat×Bool)}
  {α:Type} {Q:Heap→List Value→α→Prop} {t e sz bytes:Nat} {x y:Operand} {z v w:Value} {l k:List α} {xs:List Value} (up:Up Q) (one:One Q) (hz:0<sz) (ht:P.underlying t=some (.slice e)) (he:fX P e sz z bytes) (hx:ev s x=some v) (hy:ev s y=some w)
  (hG:ed Q e sz Hb H v l xs) (hs:aR Q sz (rem H (aB v)) w k) (hb:(l.length+k.length)*bytes≤140737488355328) (rO:l.length+k.length≤9223372036854775807)
  (hk:∀v' H' ys,ed Q e sz Hb H' v' (l++k) ys→Heap.le (rem H (aB v)) H'→aQ P n all md r (bA s dst (.val v')) H' K) (hg:cj all s gd=some true:=by rfl) (nb:md.nb s dst=true:=by rfl):aQ P n all md (⟨dst,.call ⟨.builtin .append,#[x,y],#[t,t]⟩,ty,pos,after,gd⟩::r) s H K:=by
 obtain⟨A,c,news,rfl,h1,h2,h3⟩:=hs
 refine dK ht he hx hy hG.own (h2.le (bt _ _)) h3.len (h3.aad one hz) hb rO (fun v' H' ha=> ?_) hg nb
 have vA:=hG.pJ.append up rfl ha h3
 exact hk v' H' _ (vA.down hG.base) vA.le
end Go.aw
namespace Go.aw
open Go.Proofs Num Lp
structure gF{α:Type}(gs:List Nat)(H0:Heap)(P:Heap→List Value→α→Prop)(e sz:Nat)(H:Heap)(v:Value)(l:List α)(xs:List Value):Prop where
 own:cg H v e sz l.length xs
 lT:bE (P (rem H (gs++aB v))) sz xs l
 base:Heap.le (rem H0 gs) (rem H (gs++aB v))
 same:∀q,q∈gs→H q=H0 q
 live:∀q,q∈gs→H0 q≠none
 apart:∀q,q∈gs→¬q∈aB v
section
variable {α:Type} {gs:List Nat} {H0 H H':Heap} {P:Heap→List Value→α→Prop} {e sz:Nat} {v v':Value} {l:List α} {xs:List Value}
theorem gF.le(h:gF gs H0 P e sz H v l xs):Heap.le H0 H:=fun q en hq=>by
 by_cases hm:q∈gs
 ·exact⟨en,by rw[h.same q hm];exact hq,.refl _⟩
 ·obtain⟨Ev,h1,h2⟩:=h.base q en (by rw[bM hm];exact hq)
  by_cases lF:q∈gs++aB v
  ·rw[rem_in lF]at h1;cases h1
  ·rw[bM lF]at h1;exact⟨Ev,h1,h2⟩
theorem I6(hl:∀q,q∈gs→H q≠none):gF gs H P e sz H (.slice none 0 0) [] []:=⟨lB H e sz,vo,by rw[xM,List.append_nil];exact .refl _,fun _ _=>rfl,hl,fun q _ hq=>by rw[xM]at hq;cases hq⟩
theorem gF.form(h:gF gs H0 P e sz H v l xs):∃A c,v = .slice A l.length c:=h.own.form
theorem gF.nS(h:gF gs H0 P e sz H v l xs):∀q,q∈gs++aB v→H q≠none:=fun q hq=>by
 rcases List.mem_append.1 hq with hq | hq
 ·rw[h.same q hq];exact h.live q hq
 ·obtain⟨en,he⟩:=h.own.block (cM.1 hq);rw[he];simp
theorem gF.step(h:gF gs H0 P e sz H v l xs)(up:Up P)(hs:∀q,q∈gs++aB v→H' q=H q)(hl:Heap.le (rem H (gs++aB v)) (rem H' (gs++aB v))):gF gs H0 P e sz H' v l xs:=
 ⟨h.own.same fun q hq=>hs q (List.mem_append_right _ (cM.2 hq)),h.lT.mono fun vs a=>up _ _ vs a hl,h.base.trans hl,fun q hq=>(hs q (List.mem_append_left _ hq)).trans (h.same q hq),h.live,h.apart⟩
theorem gF.jK(h:gF gs H0 P e sz H v l xs)(up:Up P){bG:Value→Heap→Prop}{r:Value}(hf:y5 (gs++aB v) bG H r H')(hl:∀v' K,bG v' K→Heap.le (rem H (gs++aB v)) K):gF gs H0 P e sz H' v l xs:=h.step up hf.same (hl _ _ hf.post)
theorem gF.call(h:gF gs H0 P e sz H v l xs){R:Program}{f:FuncId}{args:Array Value}{bG:Value→Heap→Prop}(hc:Fn R f args (rem H (gs++aB v)) bG):Fn R f args H (y5 (gs++aB v) bG H):=Fn.frame h.nS hc
theorem gF.ins(h:gF gs H0 P e sz H v l xs)(up:Up P){g:Nat}(en:Ent)(hg:H g=none):gF gs H0 P e sz (ins H g en) v l xs:=by
 have hn:¬g∈gs++aB v:=fun hm=>h.nS g hm hg
 refine h.step up (fun q hq=>bg _ _ fun e=>hn (e▸hq)) ?_
 rw[rY _ hn]
 exact Heap.bC _ (by rw[bM hn];exact hg)
theorem gF.append(h:gF gs H0 P e sz H v l xs)(up:Up P){m:Nat}{zs:List Value}{j:List α}(hm:m=l.length+j.length)(ha:App H v e sz m (xs++zs) v' H')(hz:bE (P (rem H (gs++aB v))) sz zs j):gF gs H0 P e sz H' v' (l++j) (xs++zs):=by
 have new:∀q,q∈aB v'→q∈aB v∨H q=none:=fun q hq=>by
  rcases ha.at_ with h4 | ⟨g,h4,h5⟩
  ·exact .inl (cM.2 (h4▸cM.1 hq))
  ·have:=cM.1 hq;rw[h4]at this;cases this;exact .inr h5
 have ap:∀q,q∈gs→¬q∈aB v':=fun q hg hq=>by
  rcases new q hq with h1 | h1
  ·exact h.apart q hg h1
  ·exact h.nS q (List.mem_append_left _ hg) h1
 have hl:Heap.le (rem H (gs++aB v)) (rem H' (gs++aB v')):=fun q en hq=>by
  by_cases hm:q∈gs++aB v
  ·rw[rem_in hm]at hq;cases hq
  ·rw[bM hm]at hq
   have h1:=ha.same q en hq fun e=>hm (List.mem_append_right _ (cM.2 e))
   have h2:¬q∈gs++aB v':=fun h2=>by
    rcases List.mem_append.1 h2 with h3 | h3
    ·exact hm (List.mem_append_left _ h3)
    ·rcases new q h3 with h4 | h4
     ·exact hm (List.mem_append_right _ h4)
     ·rw[h4]at hq;cases hq
   exact⟨en,by rw[bM h2];exact h1,.refl _⟩
 refine⟨by rw[List.length_append,←hm];exact ha.own,(h.lT.mono fun vs a=>up _ _ vs a hl).append (hz.mono fun vs a=>up _ _ vs a hl),h.base.trans hl,fun q hq=> ?_,h.live,ap⟩
 rw[←h.same q hq]
 obtain⟨en,he⟩:=Option.ne_none_iff_exists'.1 (h.nS q (List.mem_append_left _ hq))
 rw[he]
 exact ha.same q en he fun h1=>h.apart q hq (cM.2 h1)
theorem gF.sl(h:gF gs H0 P e sz H v l xs)(up:Up P):aR P sz (rem H gs) v l:=by
 have h1:Heap.le (rem H (gs++aB v)) (rem H gs):=E3 fun q hq=>List.mem_append_left _ hq
 exact GC.sl ⟨xs,h.own.same fun q hq=>bM fun hg=>h.apart q hg (cM.2 hq),h.lT.mono fun vs a=>up _ _ vs a h1⟩
theorem gF.out(h:gF gs H0 P e sz H v l xs):Heap.le (rem H0 gs) (rem H gs):=h.base.trans (E3 fun q hq=>List.mem_append_left _ hq)
end
structure Frz(gs:List Nat)(H H':Heap):Prop where
 same:∀q,q∈gs→H' q=H q
 le:Heap.le (rem H gs) (rem H' gs)
end Go.aw
namespace Lp
end Lp
namespace Lp
end Lp
namespace Go.aw
section
variable {P:Program} {n:Nat} {all:Array Oper} {s:St} {H:Heap} {md:Mode} {K:St→Heap→Prop} {r:List Oper} {dst:Option Nat} {ty:TypeId} {pos:String} {after:Array Edge} {gd:Option (Nat×Bool)}
theorem ai5{t t' e:TypeId}{x y:Operand}{A:Option Addr}{m c:Nat}(ht:P.underlying t=some (.slice e))(hx:ev s x=some (.slice A m c))(hy:ev s y=some (.slice none 0 0))
  (hk:aQ P n all md r (bA s dst (.val (.bool A.isNone))) H K) (hg:cj all s gd=some true:=by rfl) (nb:md.nb s dst=true:=by rfl):aQ P n all md (⟨dst,.binOp .eql t x y t',ty,pos,after,gd⟩::r) s H K:=
 jh _ rfl hg nb (fun c' w hc _=>by
  have e:(eqGuard .eql t x y (.slice A m c) (.slice none 0 0)).run P w = .ok () w:=by simp[eqGuard]
  simp only[execOp,bT hc hx,bT hc hy,Sem.run_bind,e,run_eql_slice_nil w t _ A m c ht,Result.andThen_ok,Sem.run_pure]) hk
theorem ai6{t e sz bytes:Nat}{z:Value}(ht:P.underlying t=some (.slice e))(he:fX P e sz z bytes)
  (hk:∀g,H g=none→aQ P n all md r (bA s dst (.val (.slice (some ⟨g,0,none⟩) 0 0))) (ins H g (whole [] e)) K) (hg:cj all s gd=some true:=by rfl) (nb:md.nb s dst=true:=by rfl):
  aQ P n all md (⟨dst,.buildSlice t 0 #[],ty,pos,after,gd⟩::r) s H K:=
 .fresh (fun g=> .slice (some ⟨g,0,none⟩) 0 0) [] e (.inl rfl) nb (fun a w ha=>by
  refine⟨jY ha (lA (o:=⟨dst,.buildSlice t 0 #[],ty,pos,after,gd⟩) hg),?_⟩
  obtain⟨i,hi,hz,cQ,FY,Ks,AJ⟩:=he
  simp[execOp,Instr.buildSlice,run_underlying ht,sizeOf,typeInfo,program,Sem.run,hi,Instr.fill,newRow,newObj]
  congr 2
  exact Array.eq_empty_of_size_eq_zero (by simp)) fun g hg _=>hk g hg
end
end Go.aw
namespace Go.aw
open Go.Proofs Num Lp
end Go.aw
namespace Go.aw
open Go.Proofs Num Lp
end Go.aw
namespace Go.Proofs
open Go.Shelf
end Go.Proofs
namespace Go.aw
open Go.Proofs Go.Sort
end Go.aw
