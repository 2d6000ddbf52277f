/- Part 10 of the proof: Smp1, Mz3, Min, Keep1, Eng14, Keep2, Gen, Grw, Br1, Eng16, Fr1, Grw2, Cat, Grw3, Ent, Ent2, Eng15, Lx0, Lnd. -/
import Derived.Test.YtdjoookebbbjkaaGreatA09
import Derived.Deep.Slices
import Derived.Deep.Strs
import Derived.Carry
import Derived.Below
import Derived.DataElems
import Derived.Lib.LazyBuf
set_option linter.unusedVariables false
namespace Go.aq
open Go.Proofs Num Lp
theorem aic{H:Heap}{v:Value}{p:Prg}{N:Nat}(hp:m7 N H v p):
 Fn Tryz.prog 81 #[v] H (fun v H'=>H'=H∧∃b,v = .bool b∧(b=true↔p.Ok)):=by
 obtain⟨fv,kE,rfl,ng,nh⟩:=hp
 obtain⟨Af,cf,xf,rfl,pX,pY⟩:=ng.one
 obtain⟨Ar,cr,xr,rfl,kF,sP⟩:=nh.row;refine aZ (args:=[_]) Tryz.func81 rfl rfl Tryz.ntmps81 rfl rfl fun w0=> ?_;refine ah [0] rfl ?_;refine ae (bY rfl rfl (aa 1 rfl (ab [1] ?_)));refine ao ?_
 by_cases h1:400<(p.free.length:Int)
 ·
  skip
  refine ae (aa 3 rfl (aG true rfl rfl (ov h1) (aa 6 rfl (ab [1,14] ?_))));refine cK rfl (ae (aa 1 rfl (ab [2] ?_)));refine aB ⟨.inr rfl,_,.tmp rfl (.nil),?_⟩;exact⟨rfl,false,rfl,⟨(fun h=>by cases h),(fun h=>by have h8:=h.pM;have h9:=h.rows;omega)⟩⟩
 ·
  skip
  by_cases h2:800<(p.rows.length:Int)
  ·
   skip
   refine ae (aa 3 rfl (aG false rfl rfl (kt (by omega)) (aa 4 rfl (aG true rfl rfl (ov h2) (aa 1 rfl (ab [1,14] ?_))))));refine cK rfl (ae (aa 1 rfl (ab [2] ?_)));refine aB ⟨.inr rfl,_,.tmp rfl (.nil),?_⟩;exact⟨rfl,false,rfl,⟨(fun h=>by cases h),(fun h=>by have h8:=h.pM;have h9:=h.rows;omega)⟩⟩
  skip
  refine ae (aa 3 rfl (aG false rfl rfl (kt (by omega)) (aa 4 rfl (aG false rfl rfl (kt (by omega)) (aa 1 rfl (ab [1,14] ?_))))));refine dh rfl (az (ah [1] rfl ?_));refine ao (ae (aa 4 rfl (ab [1,16,17,18] ?_)));refine aE (fY (fun(i:Nat)=>p.rows.length-i) (fun(i:Nat)=>put (put (put (put (emp) 1 (.box [.slice Af p.free.length cf,.slice Ar p.rows.length cr])) 16 (.val (.slice Ar p.rows.length cr))) 17 (.val (.int .i64 (p.rows.length:Int)))) 18 (.val (.int .i64 (i:Int)))) (fun(i:Nat) H'=>H'=H∧(∀(k:Nat)(r:List Rat×Int×Rat),k<i→p.rows[k]? = some r→Wm p.free.length r)∧i≤p.rows.length) 0 (⟨rfl,(fun k r h=>by omega),Nat.zero_le _⟩) ar ?_);rintro i H1 ⟨e1,Ma,hi⟩;rw[e1];refine ae (aa 1 rfl (ab [1,16,17,18,19] ?_));refine ao (aD rfl (fun hb=> ?_) (fun hb=> ?_))
  ·
   have aP:i<p.rows.length:=by simpa using hb
   obtain⟨r,hr⟩:∃r,p.rows[i]? = some r:=⟨_,List.getElem?_eq_getElem aP⟩;obtain⟨A0,c0,f,A1,m1,c1,A2,m2,c2,jr,xO⟩:=sP i r hr;refine az (ah [1,16,17,18] rfl ?_);refine ao (aE (ae (cj (vs:=[.slice A0 r.1.length c0,.int .i64 r.2.1,.bool f,.slice A1 m1 c1,.slice A2 m2 c2]) ag rfl rfl rfl rfl kF rfl (by decide) xO (by omega) (by omega) fun _=>(bh jx rfl ?_))));obtain⟨ti,aj,ak⟩:=nB;refine aH (.inl ⟨rfl,rfl⟩) rfl rfl rfl aj ak rfl rfl rfl (ab [1,4,16,17,18] ?_);refine ao (ae (aa 7 rfl (ab [1,4,16,17,18,28] ?_)));refine aD rfl (fun hb=> ?_) (fun hb=> ?_)
   ·
    have de:¬r.1.length=p.free.length:=by simpa [Int.natCast_inj]using hb
    refine ae (aa 1 rfl (ab [2] ?_));refine aB ⟨.inr rfl,_,.tmp rfl (.nil),?_⟩;exact⟨rfl,false,rfl,⟨(fun h=>by cases h),fun h=>absurd (h.row i r hr).1 de⟩⟩
   have de:r.1.length=p.free.length:=by simpa [Int.natCast_inj]using hb
   refine az (ah [1,4,16,17,18] rfl ?_)
   by_cases h1:r.2.1=1
   ·
    skip
    refine ae (aa 2 rfl (aG false rfl rfl (vi h1) (aa 10 rfl (ab [1,16,17,18,41] ?_))));refine dh rfl (az (ah [1,16,17,18] rfl ?_));refine aA rfl (aF rfl rfl ⟨by omega,by omega⟩ (aa 1 rfl (au ?_)));exact⟨i+1,by omega,ar,rfl,(fun k r9 hk nt=>by by_cases h9:k<i;exact Ma k r9 h9 nt;(obtain rfl:k=i:=by omega);rw[hr]at nt;cases nt;exact⟨de,.inl h1⟩),by omega⟩
   skip
   by_cases h2:r.2.1=2
   ·
    skip
    refine ae (aa 2 rfl (aG true rfl rfl (vh h1) (aa 3 rfl (aG false rfl rfl (vi h2) (aa 6 rfl (ab [1,16,17,18,41] ?_))))));refine dh rfl (az (ah [1,16,17,18] rfl ?_));refine aA rfl (aF rfl rfl ⟨by omega,by omega⟩ (aa 1 rfl (au ?_)));exact⟨i+1,by omega,ar,rfl,(fun k r9 hk nt=>by by_cases h9:k<i;exact Ma k r9 h9 nt;(obtain rfl:k=i:=by omega);rw[hr]at nt;cases nt;exact⟨de,.inr (.inl h2)⟩),by omega⟩
   skip
   by_cases h3:r.2.1=3
   ·
    skip
    refine ae (aa 2 rfl (aG true rfl rfl (vh h1) (aa 3 rfl (aG true rfl rfl (vh h2) (aa 4 rfl (aG false rfl rfl (vi h3) (aa 1 rfl (ab [1,16,17,18,41] ?_))))))));refine dh rfl (az (ah [1,16,17,18] rfl ?_));refine aA rfl (aF rfl rfl ⟨by omega,by omega⟩ (aa 1 rfl (au ?_)));exact⟨i+1,by omega,ar,rfl,(fun k r9 hk nt=>by by_cases h9:k<i;exact Ma k r9 h9 nt;(obtain rfl:k=i:=by omega);rw[hr]at nt;cases nt;exact⟨de,.inr (.inr h3)⟩),by omega⟩
   skip
   refine ae (aa 2 rfl (aG true rfl rfl (vh h1) (aa 3 rfl (aG true rfl rfl (vh h2) (aa 4 rfl (aG true rfl rfl (vh h3) (aa 1 rfl (ab [1,16,17,18,41] ?_))))))));refine cK rfl (ae (aa 1 rfl (ab [2] ?_)));refine aB ⟨.inr rfl,_,.tmp rfl (.nil),?_⟩;exact⟨rfl,false,rfl,⟨(fun h=>by cases h),(fun h=>by have h9:=(h.row i r hr).2;omega)⟩⟩
  have hb:p.rows.length≤i:=by simpa using hb
  refine aX (ah [] rfl ?_);refine ae (aa 1 rfl (ab [2] ?_));refine aB ⟨.inr rfl,_,.tmp rfl (.nil),?_⟩;exact⟨rfl,true,rfl,⟨fun _=>⟨by omega,by omega,fun k r hr=>Ma k r (by have h9:=(List.getElem?_eq_some_iff.1 hr).1;omega) hr⟩,fun _=>rfl⟩⟩
end Go.aq
namespace Go.aq
open Go.Proofs Num Lp
def Rp(H:Heap)(v:Value)(S:vC):Prop:=∃f u w xv dv rv,v = .agg #[.int .i64 S.status,.bool f,u,w,xv,dv,rv]∧(bH H (.agg #[.bool f,u,w]) S.value∨(S.value=0∧f=false∧u = .slice none 0 0∧w = .slice none 0 0))∧aQ bV 3 H xv S.x∧aQ bV 3 H dv S.r7∧aQ bV 3 H rv S.oM
def Y7(M:Nat)(S:vC):Prop:=∀q,q∈S.x∨q∈S.r7∨q∈S.oM∨q=S.value→aN q≤M
def Y8:Value:= .agg #[.int .i64 0,.bool false,.slice none 0 0,.slice none 0 0,.slice none 0 0,.slice none 0 0,.slice none 0 0]
def Y9(p:Prg)(c:List Rat)(S:vC):Prop:=S.status=1→∃T,I2 p c T∧S.value = -(T.c p.w)∧S.x=aK (dL.vec p.lay.pF p.lay.mF T.pt) p.lp.n
def Mb(p:Prg)(c:List Rat)(M:Nat)(H:Heap)(v:Value)(H':Heap):Prop:=Heap.le H H'∧∃s e,v = .tuple #[s,.int .i64 e]∧
 ((¬p.Ok∧e=1∧s=Y8)∨(p.Ok∧c.length≠p.free.length∧e=21∧s=Y8)∨(p.Ok∧c.length=p.free.length∧e=0∧∃S,Rp H' s S∧zh p c S∧Y7 (2*M+2) S∧Y9 p c S))
theorem Ip{H:Heap}{α:Type}{P:Heap→List Value→α→Prop}{sz:Nat}:aQ P sz H (.slice none 0 0) ([]:List α):=⟨none,0,[],rfl,Nat.le_refl _,(fun i v h=>by simp at h),qx⟩
theorem Ce{f:Nat→Rat}{n:Nat}{q:Rat}(h:q∈aK f n):∃j,j<n∧q=f j:=by
 unfold aK at h
 obtain⟨j,hj,e⟩:=List.mem_map.1 h
 exact⟨j,List.mem_range.1 hj,e.symm⟩
section
variable {p:Prg} {c:List Rat} {M:Nat} {T:av} {H K:Heap}
theorem Rq{N n:Nat}{z:Nat→Rat}(h0:1≤N)(hz:∀j,j<p.w→aN (z j)≤N){j:Nat}(hj:j<p.lp.n):aN (dL.vec p.lay.pF p.lay.mF z j)≤2*N+1:=by
 have h1:=rU (z (p.lay.pF j)) (iq z (p.lay.mF j))
 have h2:=hz _ (oW.pw j hj)
 have h3:aN (iq z (p.lay.mF j))≤N:=by
  rw[Es hj]
  by_cases hf:p.lp.free j=true
  ·rw[if_pos hf]
   have:=HB p hj
   unfold m6 at this
   rw[if_pos hf]at this
   have:=mC p
   have:=ft p
   exact hz _ (by omega)
  ·rw[if_neg hf];exact Nat.le_trans (show aN (0:Rat)≤1 by decide) h0
 unfold dL.vec;omega
theorem Za{N:Nat}{f g:Nat→Rat}(hf:∀j,j<p.w→aN (f j)≤N)(hg:∀j,j<p.w→aN (g j)≤N){i:Nat}(hi:i<p.lp.m):aN (p.lay.sF i*(f (p.lay.uF i)-g (p.lay.uF i)))≤2*N+2:=by
 have h1:=vx (p.lay.sF i) (f (p.lay.uF i)-g (p.lay.uF i))
 have h2:=rU (f (p.lay.uF i)) (g (p.lay.uF i))
 have h3:=oW.s1 i hi
 have h4:=hf _ (oW.uw i hi)
 have h5:=hg _ (oW.uw i hi)
 omega
theorem aid(bO:p.Ok)(fh:c.length=p.free.length)(hl:Fits p c M)(hle:Heap.le H K)(h:Inv p (pn p) T)(hn:∀j,j<p.u→0≤T.c j)(fV:T.c p.w<0){dv:Value}
  (hd:aQ bV 3 K dv (aK (fun i=>p.lay.sF i*(pn p (p.lay.uF i)-T.c (p.lay.uF i))) p.lp.m)):Mb p c M H (.tuple #[.agg #[.int .i64 2,.bool false,.slice none 0 0,.slice none 0 0,.slice none 0 0,dv,.slice none 0 0],.int .i64 0]) K:=by
 have hz:=hl.B7 _ h
 refine⟨hle,_,_,rfl,.inr (.inr ⟨bO,fh,rfl,⟨2,0,[],_,[]⟩,⟨_,_,_,_,_,_,rfl,.inr ⟨rfl,rfl,rfl,rfl⟩,Ip,hd,Ip⟩,.inr (.inl ⟨rfl,rfl,rfl,rfl,fh,Yr bO h hn fV⟩),fun q hq=> ?_,fun e=>by cases e⟩)⟩
 rcases hq with hq | hq | hq | hq
 ·cases hq
 ·obtain⟨i,hi,rfl⟩:=Ce hq
  exact Za (fun j _=>hl.pn j) (fun j hj=>hz.c j (by rw[h.rows.n];omega)) hi
 ·cases hq
 ·rw[hq];exact Nat.le_trans (show aN (0:Rat)≤2 by decide) (Nat.le_add_left 2 _)
theorem aie(bO:p.Ok)(fh:c.length=p.free.length)(hl:Fits p c M)(hle:Heap.le H K)(h:I2 p c T)(hn:∀j,j<p.u→0≤T.c j){f:Bool}{u w xv dv:Value}
  (hv:bH K (.agg #[.bool f,u,w]) (-(T.c p.w))) (hx:aQ bV 3 K xv (aK (dL.vec p.lay.pF p.lay.mF T.pt) p.lp.n)) (hd:aQ bV 3 K dv (aK (fun i=>p.lay.sF i*(kf p c (p.lay.uF i)-T.c (p.lay.uF i))) p.lp.m)):
  Mb p c M H (.tuple #[.agg #[.int .i64 1,.bool f,u,w,xv,dv,.slice none 0 0],.int .i64 0]) K:=by
 have hz:=hl.qj _ h.1
 have h1:=Yu bO fh h hn
 refine⟨hle,_,_,rfl,.inr (.inr ⟨bO,fh,rfl,⟨1,-(T.c p.w),_,_,[]⟩,⟨_,_,_,_,_,_,rfl,.inl hv,hx,hd,Ip⟩,.inl ⟨rfl,rfl,h1.1,h1.2⟩,fun q hq=> ?_,fun _=>⟨T,h,rfl,rfl⟩⟩)⟩
 have hb:=hl.one
 rcases hq with hq | hq | hq | hq
 ·obtain⟨j,hj,rfl⟩:=Ce hq
  exact Nat.le_trans (Rq (n:=0) hb (fun j hj=>QF h.1.wf hz hb (by rw[h.1.rows.n];exact hj)) hj) (by omega)
 ·obtain⟨i,hi,rfl⟩:=Ce hq
  exact Za (fun j _=>hl.kf j) (fun j hj=>hz.c j (by rw[h.1.rows.n];omega)) hi
 ·cases hq
 ·rw[hq,wZ]
  exact Nat.le_trans (hz.c p.w (by rw[h.1.rows.n];exact Nat.le_refl _)) (by omega)
theorem aif(bO:p.Ok)(fh:c.length=p.free.length)(hl:Fits p c M)(hle:Heap.le H K)(h:I2 p c T){s:Nat}(hs:s<p.u)(fV:T.c s<0)(hA:∀i,i<T.m→T.A i s≤0){xv rv:Value}
  (hx:aQ bV 3 K xv (aK (dL.vec p.lay.pF p.lay.mF T.pt) p.lp.n)) (hr:aQ bV 3 K rv (aK (dL.vec p.lay.pF p.lay.mF (T.dir s)) p.lp.n)):
  Mb p c M H (.tuple #[.agg #[.int .i64 3,.bool false,.slice none 0 0,.slice none 0 0,xv,.slice none 0 0,rv],.int .i64 0]) K:=by
 have hz:=hl.qj _ h.1
 have hb:=hl.one
 have mA:=ft p
 refine⟨hle,_,_,rfl,.inr (.inr ⟨bO,fh,rfl,⟨3,0,_,[],_⟩,⟨_,_,_,_,_,_,rfl,.inr ⟨rfl,rfl,rfl,rfl⟩,hx,Ip,hr⟩,.inr (.inr ⟨rfl,rfl,rfl,Yv bO fh h hs fV hA⟩),fun q hq=> ?_,fun e=>by cases e⟩)⟩
 rcases hq with hq | hq | hq | hq
 ·obtain⟨j,hj,rfl⟩:=Ce hq
  exact Nat.le_trans (Rq (n:=0) hb (fun j hj=>QF h.1.wf hz hb (by rw[h.1.rows.n];exact hj)) hj) (by omega)
 ·cases hq
 ·obtain⟨j,hj,rfl⟩:=Ce hq
  exact Nat.le_trans (Rq (n:=0) hb (fun j hj=>Yw h.1.wf hz hb (by rw[h.1.rows.n];omega) (Yx h.1.wf fV)) hj) (by omega)
 ·rw[hq];exact Nat.le_trans (show aN (0:Rat)≤2 by decide) (Nat.le_add_left 2 _)
end
end Go.aq
namespace Go.aq
open Go.Proofs Num Lp
theorem aih{H:Heap}{v cv:Value}{p:Prg}{c:List Rat}{M N:Nat}(hp:m7 N H v p)(hc:aQ (dI N) 3 H cv c)(hl:Fits p c M)(hcN:(c.length:Int)≤1099511627776)(hN:(N:Int)≤549755813888)(anA:(M:Int)≤34359738368):
 Fn Tryz.prog 52 #[v,cv] H (Mb p c M H):=by
 obtain⟨fv,kE,rfl,ng,nh⟩:=id hp
 obtain⟨Af,cf,xf,rfl,pX,pY⟩:=ng.one
 obtain⟨Ar,cr,xr,rfl,kF,sP⟩:=nh.row
 obtain⟨Ac,cc,xc,rfl,L3,nK,PY⟩:=id hc;refine aZ (args:=[_,_]) Tryz.func52 rfl rfl Tryz.ntmps52 rfl rfl fun w0=> ?_;refine ah [0,1] rfl ?_;refine ae (bY rfl rfl (bh vd rfl (aa 1 rfl (ab [1,2,4] ?_))));refine ao (ae (aa 1 rfl (aC rfl rfl (aic hp) ?_)));rintro v1 H1 ⟨e1,b1,rfl,dY⟩;rw[e1];refine aa 1 rfl (ab [1,2,4,13] ?_);refine aD rfl (fun hb=> ?_) (fun hb=> ?_)
 ·
  have hb:¬p.Ok:=fun h=>by have h9:=dY.2 h;rw[h9]at hb;simp at hb
  refine ae (cL ag rfl vd rfl rfl ?_);obtain⟨ti,aj,ak⟩:=pD;refine aH (.inl ⟨rfl,rfl⟩) rfl rfl rfl aj ak rfl rfl rfl (aa 1 rfl (ab [4,5] ?_));obtain⟨bP,aL,aM⟩:=pD;refine aB ⟨.inr rfl,_,.agg rfl Tryz.underlying65 aL aM (.tmp rfl (.nil)),?_⟩;exact⟨.refl _,_,_,rfl,.inl ⟨hb,rfl,rfl⟩⟩
 ·
  have bO:p.Ok:=dY.1 (by simpa using hb);have mh:=bO.pM;have QK:=bO.rows;have Rg:=HC p;have e1:p.lp.n=p.free.length:=rfl;have e2:p.lp.m=p.rows.length:=rfl
  have sU:(p.lay.w:Int)≤1000000:=by show ((p.w:Nat):Int)≤_;omega
  have Zb:((p.eh.m:Nat):Int)≤1000000:=by show ((p.rows.length:Nat):Int)≤_;omega
  have Zc:=hl.one;refine az (ah [1,2,4] rfl ?_);refine ao (ae (aa 6 rfl (ab [1,2,4,20] ?_)));refine aD rfl (fun hb=> ?_) (fun hb=> ?_)
  ·
   have hb:c.length≠p.free.length:=by simpa [Int.natCast_inj]using hb
   refine ae (cL ag rfl vd rfl rfl ?_);obtain⟨ti,aj,ak⟩:=pD;refine aH (.inl ⟨rfl,rfl⟩) rfl rfl rfl aj ak rfl rfl rfl (aa 1 rfl (ab [4,5] ?_));obtain⟨bP,aL,aM⟩:=pD;refine aB ⟨.inr rfl,_,.agg rfl Tryz.underlying65 aL aM (.tmp rfl (.nil)),?_⟩;exact⟨.refl _,_,_,rfl,.inr (.inl ⟨bO,hb,rfl,rfl⟩)⟩
  have fh:c.length=p.free.length:=by simpa [Int.natCast_inj]using hb
  refine az (ah [1,2,4] rfl ?_);refine ae (aa 1 rfl (aC rfl rfl (ahw (n:=p.free.length) (m:=p.rows.length) hp bO rfl rfl hN) ?_));rintro v5 H5 ⟨G,rfl,xx,anB,iM⟩;refine aa 1 rfl (ab [1,4,6] ?_);refine ae (aa 2 rfl (aC rfl rfl (WZ xx sU) ?_));rintro v6 H6 ⟨qD,iy,B8⟩;refine aC rfl rfl (Xj (N:=2*M) (f:=pn p) (xx.kept qD) B8 (fun i hi=>nO p hi) (by omega) sU Zb (fun j _=>Nat.le_trans (hl.pn j) (by omega)) (fun i hi j _=>Nat.le_trans (hl.tab i hi j) (by omega)) hl.QG) ?_;rintro _ H7 ⟨jg,jh,_,sV,sW,P0⟩;refine ab [1,4,6] ?_;refine ae (aa 1 rfl (aC rfl rfl (WQ (G:=(G.eU jg jh)) (N:=M) (I:=Inv p (pn p)) sV sW (Inv.base B6) (fun S r s h hb=>h.step (by rw[h.rows.n];exact ft p) hb) (fun S h=>⟨h.wf,h.fm,hl.B7 _ h,h.rows.m,h.rows.n⟩) (by omega) sU Zb) ?_));rintro v8 H8 ⟨T8,uC,qT,PZ,qH,sQ⟩
  have G6:∀j,j<p.u→0≤T8.c j:=by rcases sQ with ⟨_,h⟩ | ⟨s,_,h1,h2,h3⟩;exact h;exact(Yt uC h1 h2 h3).elim
  have Mc:=hl.B7 _ uC;have anC:aN (T8.c p.lay.w)≤M:=Mc.c _ (by rw[uC.rows.n];exact Nat.le_refl _)
  have aii:((T8.m:Nat):Int)≤1000000:=by rw[uC.rows.m];omega
  refine ab [1,4,6] ?_;refine ao (ae (aa 1 rfl (aC rfl rfl (WY (G:=(G.eU jg jh)) qT PZ (by omega)) ?_)));rintro v9 H9 ⟨gw,eT,n9,d9,b9,rfl,fW⟩;refine aC rfl rfl (Fn.lR (gw.ne qT.ne) (tO fW (by rw[wZ];omega))) ?_;rintro v10 lW ⟨HL,qO,rfl⟩;have qU:=gw.trans HL;have Iq:=qT.kept qU;have Md:=PZ.kept qU;have Rr:=((((iM.trans qD.le).trans P0).trans qH).trans qU.le);refine aa 1 rfl (ab [1,4,6,33] ?_);refine aD rfl (fun hb=> ?_) (fun hb=> ?_)
  ·
   have fV:T8.c p.w<0:=by have h9:=D4.1 (show 0<fI (-(T8.c p.lay.w)) by simpa using hb);have h8:T8.c p.lay.w=T8.c p.w:=rfl;grind
   refine ae (aa 2 rfl (aC rfl rfl (WZ (G:=(G.eU jg jh)) Iq sU) ?_));rintro v11 je ⟨Cf,vS,aij⟩;refine aC rfl rfl (Xi (G:=(G.eU jg jh)) (n:=p.lp.n) (m:=p.lp.m) (N:=M) (f:=pn p) (Iq.kept Cf) (Md.kept Cf) oW aij (fun j _=>hl.pn j) (fun j hj=>Mc.c j (by rw[uC.rows.n];exact Nat.le_of_lt hj)) (by omega) sU (by omega)) ?_;rintro v12 dC ⟨zw,kV,A12,c12,x12,rfl,aik,ail,aim⟩;refine cL ag rfl vd rfl rfl ?_;obtain⟨ti,aj,ak⟩:=pD;refine aH (.inl ⟨rfl,rfl⟩) rfl rfl rfl aj ak rfl rfl rfl (aa 1 rfl (ab [4,5] ?_));obtain⟨bP,aL,aM⟩:=pD;refine aB ⟨.inr rfl,_,.agg rfl Tryz.underlying65 aL aM (.tmp rfl (.nil)),?_⟩;exact aid bO fh hl (((Rr.trans Cf.le).trans zw.le).trans (bD _ _)) uC G6 fV (aQ.le ⟨_,_,_,rfl,aik,ail,aim⟩ cX (bD _ _))
  have fV:¬T8.c p.w<0:=fun h=>by have h9:¬0<fI (-(T8.c p.lay.w)):=(by simpa using hb);exact h9 (D4.2 (by have h8:T8.c p.lay.w=T8.c p.w:=rfl;grind))
  refine az (ah [1,4,6] rfl ?_);refine ae (aa 1 rfl (aC rfl rfl (agb (G:=(G.eU jg jh)) (N:=M) (J:=Jx p) Iq Md ⟨uC,Ys uC fV⟩ (fun k S h hk hd=>h.skip hd) (fun k S s h hk hu hs hp=>h.pivot hk hu hs hp) (fun k S h=>⟨hl.B7 _ h.1,by rw[h.1.rows.m,uC.rows.m],by rw[h.1.rows.n,uC.rows.n]⟩) (by omega) sU aii) ?_));rintro _ je ⟨T11,Rs,sX,EE,Ir⟩;rw[uC.rows.m]at Rs;have xQ:=Rs.1;refine ab [1,4,6] ?_;refine ae (aa 2 rfl (aW ag rfl rfl rfl (aR ag rfl rfl rfl (sX.iP) (aC rfl rfl (GF (gs:=(G.eU jg jh).gs) (n:=p.lay.w) sX.ne (by omega)) ?_))));rintro v12 dC ⟨kV,z,sh,rfl,BW,ain⟩;refine aa 1 rfl (ab [1,4,6,7] ?_);refine ao (ae (aa 1 rfl (aC rfl rfl (Fn.Le (gs:=(z::(G.eU jg jh).gs)) (BW.ne sX.ne) (Ww (hc.le (r8 N) ((Rr.trans Ir).trans BW.le)) (by omega) hcN)) ?_)));rintro Qd kW ⟨xM,mB,aio⟩;have LB:=BW.kept xM;obtain⟨Av,cv,xv,rfl,ka,ny⟩:=aio.num;obtain⟨Ap,cp,xp,sw,jr,oS⟩:=sX.self.plus.one;obtain⟨Am,cm,xm,vG,kz,xC⟩:=sX.self.minus.one;rw[oW.Lf]at sw;rw[oW.Lg]at vG;rw[fh];refine aa 2 rfl (ab [4,6,7,47,48,49] ?_);refine aE (gn (fun(k:Nat)(xs:List Value)=>p.free.length-k) (fun(k:Nat)(xs:List Value)=>put (put (put (put (put (put (emp) 4 (.box [.int .i64 0,.bool false,.slice none 0 0,.slice none 0 0,.slice none 0 0,.slice none 0 0,.slice none 0 0])) 6 (.val (.pointer (some ⟨G.g,0,none⟩)))) 7 (.val (.slice (some ⟨z,0,none⟩) p.lay.w p.lay.w))) 47 (.val (.slice Av p.free.length cv))) 48 (.val (.int .i64 (p.free.length:Int)))) 49 (.val (.int .i64 (k:Int)))) (fun(k:Nat)(xs:List Value) H'=>fp (G.eU jg jh).gs je H' z xs (p.lay.w*3) 121∧bA (bS (rem H' (z::(G.eU jg jh).gs))) 3 xs (aK (jS p.lay (fn c) 1 k) p.lay.w)∧Heap.le (rem kW (z::(G.eU jg jh).gs)) (rem H' (z::(G.eU jg jh).gs))∧k≤p.free.length) 0 sh (⟨LB,ain _,.refl _,Nat.zero_le _⟩) ar ?_)
  rintro k xs p7 ⟨xN,Rt,Ru,anD⟩;have aip:=xN.tab sX;have cZ:=Rt.len;rw[bB]at cZ;refine ae (aa 1 rfl (ab [4,6,7,47,48,49,50] ?_));refine ao (aD rfl (fun hb=> ?_) (fun hb=> ?_))
  ·
   have ga:k<p.free.length:=by simpa using hb
   obtain⟨q,ie⟩:∃q,c[k]? = some q:=⟨_,List.getElem?_eq_getElem (by omega)⟩;obtain⟨n1,d1,b1,dt,fH⟩:=ny k q ie;have kC:fn c k=q:=oN ie;have P9:aN q≤N+2:=cT.size (PY.at_ k q ie);obtain⟨up,GK,GL⟩:=oS k _ (oW.p ga);obtain⟨um,zo,GM⟩:=xC k _ (oW.mi ga)
   cases GL
   cases GM
   have agX:=oW.pw k ga;have agY:=oW.mw k ga;rw[←kC]at dt;refine az (ah [4,6,7,47,48,49] rfl ?_);refine ao (aE (ae (aa 1 rfl (cj (vs:=[.int .i64 n1,.int .i64 d1,.pointer b1]) ag rfl rfl rfl rfl ((ka.le Ru).le (bD _ _)) rfl (by decide) fH (by omega) (by omega) fun _=>(bh ff rfl (vr 1 ?_))))));obtain⟨ti,aj,ak⟩:=cH;refine aH (.inl ⟨rfl,rfl⟩) rfl rfl rfl aj ak rfl rfl rfl (ab [4,6,7,8,9,47,48,49] ?_);refine bM .gB [0,1,2,3,4,5,6,7,8,9,10] follows (by kernel_rfl) ?_;refine aa 3 rfl (aW ag rfl rfl rfl (aR ag rfl rfl rfl (show cell _ _=some (.slice Ap p.free.length cp)from by rw[←show (G.eU jg jh).pv = .slice Ap p.free.length cp from sw];exact aip.cell 2 _ rfl) ?_));refine aa 1 rfl (aS ag rfl rfl rfl rfl rfl (jr.le xN.hle) (by rw[Int.toNat_natCast];exact GK) (by omega) (by omega) fun _=> ?_);refine vr 1 ?_;obtain⟨ti,aj,ak⟩:=cH;refine cV (.inr rfl) ag rfl rfl rfl (by omega) (by omega) (xN.aw) rfl (by show 0+p.lay.w*3≤xs.length;omega) aj ak (fun _=>rfl) rfl rfl rfl fun _=> ?_;refine ab [4,6,7,8,9,47,48,49] ?_;have Cg:fp (G.eU jg jh).gs je (ins p7 z {(⟨xs,p.lay.w*3,121,true⟩:Ent)with xs:=aJ xs (0+((p.lay.pF k:Nat):Int).toNat*3) [.int .i64 n1,.int .i64 d1,.pointer b1]}) z (aJ xs (p.lay.pF k*3) [.int .i64 n1,.int .i64 d1,.pointer b1]) (p.lay.w*3) 121:=xN.set (by rw[Int.toNat_natCast];exact oT)
   have Me:bA (bS (rem (ins p7 z {(⟨xs,p.lay.w*3,121,true⟩:Ent)with xs:=aJ xs (0+((p.lay.pF k:Nat):Int).toNat*3) [.int .i64 n1,.int .i64 d1,.pointer b1]}) (z::(G.eU jg jh).gs))) 3 (aJ xs (p.lay.pF k*3) [.int .i64 n1,.int .i64 d1,.pointer b1]) (aK (bZ (jS p.lay (fn c) 1 k) (p.lay.pF k) (fn c k)) p.lay.w):=by
    rw[cE _ (List.mem_cons_self ..)];exact so Rt (by omega) (dt.le Ru)
   have Mf:Heap.le (rem kW (z::(G.eU jg jh).gs)) (rem (ins p7 z {(⟨xs,p.lay.w*3,121,true⟩:Ent)with xs:=aJ xs (0+((p.lay.pF k:Nat):Int).toNat*3) [.int .i64 n1,.int .i64 d1,.pointer b1]}) (z::(G.eU jg jh).gs)):=by rw[cE _ (List.mem_cons_self ..)];exact Ru
   show VC _ _ _ _ _ _ _ (ins p7 z {(⟨xs,p.lay.w*3,121,true⟩:Ent)with xs:=aJ xs (0+((p.lay.pF k:Nat):Int).toNat*3) [.int .i64 n1,.int .i64 d1,.pointer b1]})
   generalize ins p7 z {(⟨xs,p.lay.w*3,121,true⟩:Ent)with xs:=aJ xs (0+((p.lay.pF k:Nat):Int).toNat*3) [.int .i64 n1,.int .i64 d1,.pointer b1]}=mE at Cg Me Mf⊢
   have Zd:=Cg.tab sX;have Qa:=Me.len;rw[bB]at Qa;refine ae (aa 2 rfl (aW ag rfl rfl rfl (aR ag rfl rfl rfl (show cell _ _=some (.slice Am p.free.length cm)from by rw[←show (G.eU jg jh).mv = .slice Am p.free.length cm from vG];exact Zd.cell 3 _ rfl) ?_)));refine aa 1 rfl (aS ag rfl rfl rfl rfl rfl (kz.le Cg.hle) (by rw[Int.toNat_natCast];exact zo) (by omega) (by omega) fun _=> ?_);refine aa 1 rfl (ab [4,6,7,8,9,47,48,49,71] ?_);refine aD rfl (fun hb=> ?_) (fun hb=> ?_)
   ·
    have hb:0≤p.lay.mZ k:=by simpa using hb
    refine eo .gB [0,1,2,3,4,5,6,7,8,9,10,11] follows (by kernel_rfl) ?_;refine aa 3 rfl (aW ag rfl rfl rfl (aR ag rfl rfl rfl (show cell _ _=some (.slice Am p.free.length cm)from by rw[←show (G.eU jg jh).mv = .slice Am p.free.length cm from vG];exact Zd.cell 3 _ rfl) ?_));refine aa 1 rfl (aS ag rfl rfl rfl rfl rfl (kz.le Cg.hle) (by rw[Int.toNat_natCast];exact zo) (by omega) (by omega) fun _=> ?_);refine aa 1 rfl (aY rfl rfl (Fn.lr (Cg.ne sX.ne) (DK (dt.le Mf) (by rw[kC];omega))) (fun _ _ h=>by first | exact h.le | exact h.1) ?_);rintro v17 H17 ⟨EF,vT,n7,d7,b7,rfl,Mg⟩;have Ze:=Cg.kept EF;obtain⟨ti,aj,ak⟩:=cH;refine cV (.inr rfl) ag rfl rfl rfl (by omega) (by omega) (Ze.aw) rfl (by show 0+p.lay.w*3≤(aJ xs (p.lay.pF k*3) [.int .i64 n1,.int .i64 d1,.pointer b1]).length;omega) aj ak (fun _=>rfl) rfl rfl rfl fun _=> ?_;refine au ?_;have aiq:=Ze.set (oT (xs:=aJ xs (p.lay.pF k*3) [.int .i64 n1,.int .i64 d1,.pointer b1]) (vs:=[.int .i64 n7,.int .i64 d7,.pointer b7]) (k:=(p.lay.mZ k).toNat) (sz:=3));refine ah [4,6,7,47,48,49] rfl ?_;refine aA rfl (aF rfl rfl ⟨by omega,by omega⟩ (aa 1 rfl (au ?_)));exact⟨k+1,_,by omega,ar,aiq,by rw[cE _ (List.mem_cons_self ..),BV,if_pos hb,Rat.mul_one];exact so (Me.mono fun vs a=>jc _ _ vs a EF.le) (by omega) Mg,by rw[cE _ (List.mem_cons_self ..)];exact Mf.trans EF.le,by omega⟩
   have hb:¬0≤p.lay.mZ k:=by simpa using hb
   refine az (ah [4,6,7,47,48,49] rfl ?_);refine aA rfl (aF rfl rfl ⟨by omega,by omega⟩ (aa 1 rfl (au ?_)));exact⟨k+1,_,by omega,ar,Cg,by rw[BV,if_neg hb,Rat.mul_one];exact Me,Mf,by omega⟩
  have hb:p.free.length≤k:=by simpa using hb
  obtain rfl:p.free.length=k:=by omega
  have lT:=xN.done;have lg:aQ bS 3 (rem p7 (G.eU jg jh).gs) (.slice (some ⟨z,0,none⟩) p.lay.w p.lay.w) (aK (kf p c) p.lay.w):=⟨some ⟨z,0,none⟩,p.lay.w,xs,by rw[bB],by rw[bB];exact Nat.le_refl _,xN.rd,Rt.mono fun vs a=>jc _ _ vs a lT.2⟩
  have Zf:((T11.m:Nat):Int)≤1000000:=by rw[xQ.rows.m];omega
  skip
  have Zg:=hl.B7 _ xQ;refine aX (ah [4,6,7] rfl ?_);refine ae (aa 2 rfl (aC rfl rfl (Xj (G:=(G.eU jg jh)) (N:=2*M) (f:=kf p c) (sX.kept lT.1) lg (fun i hi=>by have h9:=xQ.wf.lt i hi;rw[xQ.rows.n]at h9;exact h9) (by omega) sU Zf (fun j _=>Nat.le_trans (hl.kf j) (by omega)) (fun i hi j hj=>Nat.le_trans (Zg.A i hi j (by rw[xQ.rows.n];exact hj)) (by omega)) (fun k hk j hj=>hl.QH _ xQ k hk j (by rw[xQ.rows.n];exact hj))) ?_));rintro _ Rv ⟨Ch,Ci,_,air,ais,Zh⟩;refine ab [4,6,7] ?_;refine ao (ae (aa 1 rfl (aC rfl rfl (WQ (G:=((G.eU jg jh).eU Ch Ci)) (N:=M) (I:=I2 p c) air ais (I2.start Rs) (fun S r s h hb=>h.step hb) (fun S h=>⟨h.1.wf,h.1.fm,hl.qj _ h.1,by rw[h.1.rows.m];exact xQ.rows.m.symm,by rw[h.1.rows.n];exact xQ.rows.n.symm⟩) (by omega) sU Zf) ?_)));rintro v20 zB ⟨Rw,oY,Is,Zi,Zj,ait⟩;have It:=hl.qj _ oY.1;have anE:aN (Rw.c p.lay.w)≤M:=It.c _ (by rw[oY.1.rows.n];exact Nat.le_refl _)
  have Rx:((Rw.m:Nat):Int)≤1000000:=by rw[oY.1.rows.m];omega
  have aiu:=lg.le jc (Zh.trans Zj);have Zk:=((Rr.trans Ir).trans lT.1.le).trans (Zh.trans Zj);have Zl:∀j,j<p.lay.w→aN (Rw.pt j)≤M:=fun j hj=>QF oY.1.wf It Zc (by rw[oY.1.rows.n];exact hj);refine aa 1 rfl (ab [4,6,7,10] ?_)
  rcases ait with ⟨rfl,aiv⟩ | ⟨s,rfl,vR,Zm,aiw⟩
  ·
   skip
   refine ae (aa 1 rfl (aG false rfl rfl (ql (by decide)) (ab [4,6,7,10,90] ?_)));refine dh rfl (az (ah [4,6,7] rfl ?_));refine ae (aa 1 rfl (aC rfl rfl (WY (G:=((G.eU jg jh).eU Ch Ci)) Is Zi (by omega)) ?_));rintro v23 H23 ⟨Iu,anF,n23,d23,b23,rfl,aix⟩;refine aC rfl rfl (Fn.frame (gs:=((G.eU jg jh).eU Ch Ci).gs) (Iu.ne Is.ne) (VM aix (by rw[wZ];omega))) ?_;rintro v24 H24 ⟨⟨aiy,Zn⟩,aiz⟩;have Mh:=Iu.trans ⟨aiy,aiz⟩;have Zo:=Is.kept Mh;have aiA:=Zi.kept Mh;obtain⟨u24,w24,rfl,aiB,aiC⟩:=id Zn;obtain⟨A27,c27,rfl,_,_⟩:=aiB;obtain⟨pZ,p3,rfl,_,_⟩:=aiC;refine aa 1 rfl (aC rfl rfl (Xh (G:=((G.eU jg jh).eU Ch Ci)) Zo oY.1.wf oW Zl (by omega) sU (by omega) Rx) ?_);rintro v25 H25 ⟨zJ,aiD,A25,c25,x25,rfl,Ry,Rz,RA⟩;refine aa 2 rfl (aC rfl rfl (Xi (G:=((G.eU jg jh).eU Ch Ci)) (n:=p.lp.n) (m:=p.lp.m) (N:=M) (f:=kf p c) (Zo.kept zJ) (aiA.kept zJ) oW (aiu.le jc (Mh.le.trans zJ.le)) (fun j _=>hl.kf j) (fun j hj=>It.c j (by rw[oY.1.rows.n];exact Nat.le_of_lt hj)) (by omega) sU (by omega)) ?_);rintro v26 H26 ⟨EG,aiE,A26,c26,x26,rfl,RB,RD,RE⟩;refine cL ag rfl vd rfl rfl ?_
   obtain⟨ti,aj,ak⟩:=pD;refine aH (.inl ⟨rfl,rfl⟩) rfl rfl rfl aj ak rfl rfl rfl (aa 1 rfl (ab [4,5] ?_));obtain⟨bP,aL,aM⟩:=pD;refine aB ⟨.inr rfl,_,.agg rfl Tryz.underlying65 aL aM (.tmp rfl (.nil)),?_⟩;exact aie bO fh hl ((((Zk.trans Mh.le).trans zJ.le).trans EG.le).trans (bD _ _)) oY aiv (bH.le Zn ((zJ.le.trans EG.le).trans (bD _ _))) (aQ.le ⟨_,_,_,rfl,Ry,Rz,RA⟩ cX (EG.le.trans (bD _ _))) (aQ.le ⟨_,_,_,rfl,RB,RD,RE⟩ cX (bD _ _))
  skip
  refine ae (aa 1 rfl (aG true rfl rfl (me (by omega)) (ab [4,6,7,10,90] ?_)));refine cK rfl (ae (aa 1 rfl (aC rfl rfl (Xh (G:=((G.eU jg jh).eU Ch Ci)) Is oY.1.wf oW Zl (by omega) sU (by omega) Rx) ?_)));rintro v25 H25 ⟨zJ,aiD,A25,c25,x25,rfl,Ry,Rz,RA⟩;have mA:=ft p;have Ea:=Yx oY.1.wf Zm;refine aa 2 rfl (aC rfl rfl (agl (G:=((G.eU jg jh).eU Ch Ci)) (N:=M) (s:=s) (Is.kept zJ) oY.1.wf oW (Nat.lt_of_lt_of_le vR mA) Ea (fun i hi=>It.A i hi s (by rw[oY.1.rows.n];exact Nat.le_of_lt (Nat.lt_of_lt_of_le vR mA))) (fun j _=>Yw oY.1.wf It Zc (by rw[oY.1.rows.n];exact Nat.le_of_lt (Nat.lt_of_lt_of_le vR mA)) Ea) (by omega) sU (by omega) Rx) ?_);rintro v26 H26 ⟨EG,aiE,A26,c26,x26,rfl,RB,RD,RE⟩;refine cL ag rfl vd rfl rfl ?_;obtain⟨ti,aj,ak⟩:=pD;refine aH (.inl ⟨rfl,rfl⟩) rfl rfl rfl aj ak rfl rfl rfl (aa 1 rfl (ab [4,5] ?_));obtain⟨bP,aL,aM⟩:=pD;refine aB ⟨.inr rfl,_,.agg rfl Tryz.underlying65 aL aM (.tmp rfl (.nil)),?_⟩;exact aif bO fh hl (((Zk.trans zJ.le).trans EG.le).trans (bD _ _)) oY vR Zm aiw (aQ.le ⟨_,_,_,rfl,Ry,Rz,RA⟩ cX (EG.le.trans (bD _ _))) (aQ.le ⟨_,_,_,rfl,RB,RD,RE⟩ cX (bD _ _))
end Go.aq
namespace Go.aq
open Go.Proofs Num Lp
end Go.aq
namespace Go.aq
section
variable {P:Program} {n:Nat} {all:Array Oper} {md:Mode} {tb:Tb} {s:St} {H:Heap} {K:St→Heap→Prop} {r:List Oper} {ty:TypeId} {pos:String} {after:Array Edge} {gd:Option (Nat×Bool)}
theorem Zp(s:St)(d:Nat)(v:Value):ev (put s d (.val v)) (.tmp d)=some v:=by simp[ev,put]
theorem ki{t t2 t3:TypeId}{x i:Operand}{A:Option Addr}{m c d1 d2 f o z:Nat}{RF:Option Nat}{om ty3:TypeId}{oo aiF:String}{ot aiG:Array Edge}{kp Zq:Option (Nat×Bool)}{k:IntKind}{j:Int}{e sz qj:Nat}{ps:List (Nat×Nat)}{ti:Ti}{xs:List Value}{v:Value}
  (dJ:jX P tb) (ht:tb[t]? = some (.sl e sz)) (fy:tb[t2]? = some (.st qj ps)) (hf:ps[f]? = some (o,z)) (Hm:tb[t3]? = some ti) (h1:yB ti=true) (hx:ev s x=some (.slice A m c)) (hi:ev s i=some (.int k j)) (hr:Rd H A xs) (hv:xs[j.toNat*sz+o]? = some v) (h0:0≤j) (hm:j<m)
  (hk:∀a1 a2:Addr,aT P n all md r (bE (put (put s d1 (.val (.pointer (some a1)))) d2 (.val (.pointer (some a2)))) RF (.val v)) H K)
  (hg:cn all s gd=some true:=by rfl) (nb:md.nb s (some d1)=true:=by rfl)
  (ep:∀a1:Addr,cn all (put s d1 (.val (.pointer (some a1)))) kp=some true:=by exact fun _=>rfl) (wC:∀a1:Addr,md.nb (put s d1 (.val (.pointer (some a1)))) (some d2)=true:=by exact fun _=>rfl)
  (lI:∀a1 a2:Addr,cn all (put (put s d1 (.val (.pointer (some a1)))) d2 (.val (.pointer (some a2)))) Zq=some true:=by exact fun _ _=>rfl) (nb3:∀a1 a2:Addr,md.nb (put (put s d1 (.val (.pointer (some a1)))) d2 (.val (.pointer (some a2)))) RF=true:=by exact fun _ _=>rfl):
  aT P n all md (⟨some d1,.indexAddr t x i,ty,pos,after,gd⟩::⟨some d2,.fieldAddr t2 (.tmp d1) f,om,oo,ot,kp⟩::⟨RF,.load t3 (.tmp d2),ty3,aiF,aiG,Zq⟩::r) s H K:=by
 obtain⟨ad,rfl,hc⟩:=hr _ _ hv
 refine yF dJ ht hx hi h0 hm ?_ hg nb
 refine aW (ad:=ad.add (j.toNat*sz)) dJ fy hf (Zp _ _ _) ?_ (ep _) (wC _)
 refine aR (ad:=(ad.add (j.toNat*sz)).add o) dJ Hm h1 (Zp _ _ _) (by rw[add_add];exact hc) ?_ (lI _ _) (nb3 _ _)
 exact hk _ _
end
end Go.aq
namespace Go.aq
open Go.Proofs Num Lp
theorem aQ.Cj{N:Nat}{H:Heap}{xs:List Value}{l:List Rat}(h:bA (dI N H) 3 xs l){i:Nat}{q:Rat}(hq:l[i]? = some q):∃f A1 m1 c1 A2 m2 c2,fZ xs i 3 = [.bool f,.slice A1 m1 c1,.slice A2 m2 c2]∧cT H (.agg #[.bool f,.slice A1 m1 c1,.slice A2 m2 c2]) q N∧∀(j:Nat)(u:Value),[.bool f,.slice A1 m1 c1,.slice A2 m2 c2][j]? = some u→xs[i*3+j]? = some u:=by
 have h1:=h.at_ i q hq
 obtain⟨f,A,m,c,A',m',c',e⟩:=dI.cells h1
 refine⟨f,A,m,c,A',m',c',e,?_,fun j u hu=>Ge (by rw[e];exact hu)⟩
 have h2:cT H (.agg (fZ xs i 3).toArray) q N:=h1
 rwa [e]at h2
theorem aQ.aiH{N:Nat}{H:Heap}{xs:List Value}{l:List (List Rat×Int×Rat)}(h:bA (fK N H) 5 xs l){i:Nat}{r:List Rat×Int×Rat}(hq:l[i]? = some r):∃A0 c0 f A1 m1 c1 A2 m2 c2,fZ xs i 5 = [.slice A0 r.1.length c0,.int .i64 r.2.1,.bool f,.slice A1 m1 c1,.slice A2 m2 c2]∧aQ (dI N) 3 H (.slice A0 r.1.length c0) r.1∧cT H (.agg #[.bool f,.slice A1 m1 c1,.slice A2 m2 c2]) r.2.2 N∧∀(j:Nat)(u:Value),[.slice A0 r.1.length c0,.int .i64 r.2.1,.bool f,.slice A1 m1 c1,.slice A2 m2 c2][j]? = some u→xs[i*5+j]? = some u:=by
 have h1:=h.at_ i r hq
 obtain⟨A0,c0,k,f,A1,m1,c1,A2,m2,c2,e,hk⟩:=h1.cells
 subst hk
 have h2:=h1
 rw[e]at h2
 obtain⟨c',f',u',w',e',h3,h4⟩:=id h2
 simp only[List.cons.injEq,and_true,true_and]at e'
 obtain⟨rfl,e1,rfl,rfl⟩:=e'
 exact⟨A0,c0,f,A1,m1,c1,A2,m2,c2,e,h3,h2.bound,fun j u hu=>Ge (by rw[e];exact hu)⟩
end Go.aq
namespace Go.aq
open Go.Proofs Num Lp
theorem aQ.EH{N:Nat}{H:Heap}{v:Value}{l:List Rat}(h:aQ (dI N) 3 H v l):∀q,q∈l→aN q≤N+2:=fun q hq=>by
 obtain⟨A,cc,xs,_,_,_,h4⟩:=h
 obtain⟨k,hk⟩:=List.getElem?_of_mem hq
 exact cT.size (h4.at_ k q hk)
theorem zK(f:Bool)(A A':Option Addr)(k c k' c':Nat):∀u,u∈[Value.bool f,.slice A k c,.slice A' k' c']→u.oneCell'=true:=fun u hu=>by
 simp only[List.mem_cons,List.not_mem_nil,or_false]at hu
 rcases hu with rfl | rfl | rfl <;> rfl
theorem EI{α:Type}{P:Heap→List Value→α→Prop}{H:Heap}{g e sz k:Nat}{xs:List Value}{l:List α}(hk:k=l.length)(h:bA (P (ins H g (whole xs e))) sz xs l):aQ P sz (ins H g (whole xs e)) (.slice (some ⟨g,0,none⟩) k k) l:=by
 subst hk;exact⟨_,_,xs,rfl,Nat.le_refl _,ea _ _ _ _ _ _,h⟩
theorem RG{α:Type}{P:List Value→α→Prop}{sz:Nat}{vs xs:List Value}{a:α}{l:List α}(h:P vs a)(hl:vs.length=sz)(k:bA P sz xs l):bA P sz (vs++xs) (a::l):=(iE h hl).append k
theorem aQ.zL{H:Heap}{v:Value}{l:List Rat}{N:Nat}(h:aQ bV 3 H v l)(hs:∀q,q∈l→aN q≤N):aQ (dI N) 3 H v l:=by
 obtain⟨A,c,xs,h1,h2,h3,h4⟩:=h
 exact⟨A,c,xs,h1,h2,h3,h4.len,fun i a ha=>bV.rat (h4.at_ i a ha) (hs a (List.mem_of_getElem? ha))⟩
theorem aQ.mono{α:Type}{P P':Heap→List Value→α→Prop}{sz:Nat}{H:Heap}{v:Value}{l:List α}(h:aQ P sz H v l)(hp:∀vs a,P H vs a→P' H vs a):aQ P' sz H v l:=by
 obtain⟨A,c,xs,h1,h2,h3,h4⟩:=h
 exact⟨A,c,xs,h1,h2,h3,h4.mono hp⟩
theorem dI.mono{N M:Nat}{H:Heap}{vs:List Value}{q:Rat}(h:dI N H vs q)(hl:N≤M):dI M H vs q:=cT.mono h hl
theorem aiI(q:Rat):wM q q=0:=by unfold wM;simp
theorem Zr{k:Nat}:∀{l:List Rat},(∀q,q∈l→av.wt q≤k)→av.ig l≤l.length*k
 | [],_=>Nat.zero_le _
 | q::l,h=>by
  have h1:=h q (List.mem_cons_self ..)
  have h2:=Zr (l:=l) fun r hr=>h r (List.mem_cons_of_mem _ hr)
  simp only[av.ig,List.length_cons,Nat.add_mul];omega
def nums(p:Prg)(c:List Rat):List Rat:=0::(p.rows.flatMap (fun r=>r.2.2::r.1)++c)
theorem Zs{l:List Rat}{k:List Rat}(h:∀q,q∈l→q∈k)(h0:0∈k)(j:Nat):fn l j∈k:=by
 by_cases hj:j<l.length
 ·rw[oN (List.getElem?_eq_getElem hj)];exact h _ (List.getElem_mem hj)
 ·rw[afv (by omega)];exact h0
theorem Zt{p:Prg}{c:List Rat}{i:Nat}(hi:i<p.rows.length):(∀q,q∈(p.row i).1→q∈nums p c)∧(p.row i).2.2∈nums p c:=by
 rw[Prg.r6 (List.getElem?_eq_getElem hi)]
 have hm:p.rows[i]∈p.rows:=List.getElem_mem hi
 refine⟨fun q hq=> ?_,?_⟩
 ·exact List.mem_cons_of_mem _ (List.mem_append_left _ (List.mem_flatMap.2 ⟨_,hm,List.mem_cons_of_mem _ hq⟩))
 ·exact List.mem_cons_of_mem _ (List.mem_append_left _ (List.mem_flatMap.2 ⟨_,hm,List.mem_cons_self ..⟩))
theorem aiJ(p:Prg)(c:List Rat):In (nums p c) p:=fun i hi j _=>Zs (Zt hi).1 (List.mem_cons_self ..) j
theorem aiK(p:Prg)(c:List Rat):∀j,j<p.lp.n→fn c j∈nums p c:=fun j _=>Zs (fun q hq=>List.mem_cons_of_mem _ (List.mem_append_right _ hq)) (List.mem_cons_self ..) j
theorem Zu{k:Nat}:∀{l:List (List Rat×Int×Rat)},(∀r,r∈l→r.1.length≤k)→(l.flatMap (fun r=>r.2.2::r.1)).length≤l.length*(k+1)
 | [],_=>Nat.zero_le _
 | r::l,h=>by
  have h1:=h r (List.mem_cons_self ..)
  have h2:=Zu (l:=l) fun r hr=>h r (List.mem_cons_of_mem _ hr)
  simp only[List.flatMap_cons,List.length_append,List.length_cons,Nat.add_mul]at *;omega
theorem Ck{H:Heap}{N:Nat}:cT H (.agg #[.bool false,.slice none 0 0,.slice none 0 0]) 0 N:=
 ⟨false,_,_,[],[],rfl,⟨none,0,rfl,Nat.le_refl _,Rd.nil _ _⟩,⟨none,0,rfl,Nat.le_refl _,Rd.nil _ _⟩,(fun x h=>by cases h),(fun x h=>by cases h),Nat.zero_le _,Nat.zero_le _,by decide⟩
theorem fK.bN{N:Nat}{H:Heap}{r:List Rat×Int×Rat}{v0:Value}{f:Bool}{u w:Value}(h:fK N H [v0,.int .i64 r.2.1,.bool f,u,w] r):aQ (dI N) 3 H v0 r.1:=by
 obtain⟨c,f',u',w',h1,h2,_⟩:=h
 simp only[List.cons.injEq]at h1
 rw[h1.1];exact h2
theorem Fn.yes{P:Program}{f:FuncId}{args:Array Value}{H:Heap}{Q:Prop}(h:Fn P f args H (fun v H'=>Heap.le H H'∧∃b,v = .bool b∧(b=true↔Q)))(hq:Q):Fn P f args H (fun v H'=>Heap.le H H'∧v = .bool true):=
 h.mono fun v H' ⟨h1,b,h2,h3⟩=>⟨h1,by rw[h2,h3.2 hq]⟩
structure RC where
 f:Bool
 A1:Option Addr
 m1:Nat
 c1:Nat
 A2:Option Addr
 m2:Nat
 c2:Nat
abbrev RC.v(t:RC):Value:= .agg #[.bool t.f,.slice t.A1 t.m1 t.c1,.slice t.A2 t.m2 t.c2]
theorem bH.rc{H:Heap}{v:Value}{q:Rat}(h:bH H v q):∃t:RC,v=t.v:=by
 obtain⟨u,w,rfl,hu,hw⟩:=h
 obtain⟨A1,c1,rfl,_⟩:=id hu
 obtain⟨A2,c2,rfl,_⟩:=id hw
 exact⟨⟨_,A1,_,c1,A2,_,c2⟩,rfl⟩
def Iv(H:Heap)(q:Rat)(v:Value)(H':Heap):Prop:=Heap.le H H'∧∃t:RC,v=t.v∧bH H' t.v q
theorem Iv.le{H H':Heap}{q:Rat}{v:Value}(h:Iv H q v H'):Heap.le H H':=h.1
theorem Fn.rc{P:Program}{f:FuncId}{args:Array Value}{H:Heap}{q:Rat}(h:Fn P f args H (j0 H q)):Fn P f args H (Iv H q):=h.mono fun v H' ⟨h1,h2⟩=>by
 obtain⟨t,rfl⟩:=h2.rc
 exact⟨h1,t,rfl,h2⟩
end Go.aq
namespace Go.aq
open Go.Proofs Num Lp
structure dU{α:Type}(P:Heap→List Value→α→Prop)(e sz:Nat)(Hb H:Heap)(v:Value)(l:List α)(xs:List Value):Prop where
 own:bR H v e sz l.length xs
 jD:bA (P (rem H (aw v))) sz xs l
 base:Heap.le Hb (rem H (aw v))
section
variable {α:Type} {P:Heap→List Value→α→Prop} {e sz:Nat} {Hb H H':Heap} {v v':Value} {l:List α} {xs:List Value}
theorem dU.le(h:dU P e sz Hb H v l xs):Heap.le Hb H:=h.base.trans (bD _ _)
theorem dU.sl(h:dU P e sz Hb H v l xs)(up:Up P):aQ P sz H v l:=DI.sl ⟨xs,h.own,h.jD.mono fun vs a=>up _ _ vs a (bD _ _)⟩
theorem zM:aw (.slice none 0 0) = []:=rfl
theorem xR(H:Heap):dU P e sz H H (.slice none 0 0) [] []:=⟨kL H e sz,qx,by rw[zM,qv];exact .refl _⟩
theorem Mi{g c:Nat}{zs:List Value}{z k:Int}(hg:H g=none)(hz:z.toNat=0)(hk:k.toNat=c)(hc:c≤maxLen):dU P e sz H (ins H g ⟨dd zs (z.toNat*sz),k.toNat*sz,e,true⟩) (.slice (some ⟨g,0,none⟩) z.toNat k.toNat) [] []:=by
 rw[hk]
 refine⟨Kh hz hc,qx,?_⟩
 show Heap.le H (rem _ [g])
 rw[tF _ hg,qv];exact .refl _
theorem dU.nT(h:dU P e sz Hb H v l xs):∀q,q∈aw v→H q≠none:=fun q hq=>by
 obtain⟨en,he⟩:=h.own.block (cF.1 hq)
 rw[he];simp
theorem dU.step(h:dU P e sz Hb H v l xs)(up:Up P)(hs:∀q,q∈aw v→H' q=H q)(hl:Heap.le (rem H (aw v)) (rem H' (aw v))):dU P e sz Hb H' v l xs:=
 ⟨h.own.same fun q hq=>hs q (cF.2 hq),h.jD.mono fun vs a=>up _ _ vs a hl,h.base.trans hl⟩
theorem dU.kX(h:dU P e sz Hb H v l xs)(up:Up P){bF:Value→Heap→Prop}{u:Value}(hf:qw (aw v) bF H u H')(hl:∀v' K,bF v' K→Heap.le (rem H (aw v)) K):dU P e sz Hb H' v l xs:=h.step up hf.same (hl _ _ hf.post)
theorem dU.ins(h:dU P e sz Hb H v l xs)(up:Up P){g:Nat}(en:Ent)(hg:H g=none):dU P e sz Hb (ins H g en) v l xs:=by
 have hn:¬g∈aw v:=fun hm=>h.nT g hm hg
 refine h.step up (fun q hq=>bg _ _ fun e=>hn (e▸hq)) ?_
 rw[vw _ hn]
 exact Heap.bG _ (by rw[bL hn];exact hg)
theorem dU.call(h:dU P e sz Hb H v l xs){Q:Program}{f:FuncId}{args:Array Value}{bF:Value→Heap→Prop}(hc:Fn Q f args (rem H (aw v)) bF):Fn Q f args H (qw (aw v) bF H):=Fn.frame h.nT hc
theorem dU.append(h:dU P e sz Hb H v l xs)(up:Up P){m:Nat}{ys:List Value}{k:List α}(hm:m=l.length+k.length)(ha:App H v e sz m (xs++ys) v' H')(hy:bA (P (rem H (aw v))) sz ys k):dU P e sz Hb H' v' (l++k) (xs++ys):=by
 have hl:Heap.le (rem H (aw v)) (rem H' (aw v')):=fun q en hq=>by
  by_cases hm:q∈aw v
  ·rw[rem_in hm]at hq;cases hq
  ·rw[bL hm]at hq
   have h1:=ha.same q en hq fun e=>hm (cF.2 e)
   have h2:¬q∈aw v':=fun h2=>by
    have h3:=cF.1 h2
    rcases ha.at_ with h4 | ⟨g,h4,h5⟩
    ·exact hm (cF.2 (h4▸h3))
    ·rw[h4]at h3;cases h3;rw[h5]at hq;cases hq
   exact⟨en,by rw[bL h2];exact h1,.refl _⟩
 refine⟨by rw[List.length_append,←hm];exact ha.own,?_,h.base.trans hl⟩
 exact(h.jD.mono fun vs a=>up _ _ vs a hl).append (hy.mono fun vs a=>up _ _ vs a hl)
theorem dU.form(h:dU P e sz Hb H v l xs):∃A c,v = .slice A l.length c:=h.own.form
end
theorem dU.vU{α:Type}{P:Heap→List Value→α→Prop}{e sz:Nat}{Hb H:Heap}{v:Value}{l:List α}{xs:List Value}(h:dU P e sz Hb H v l xs):dU P e sz (rem H (aw v)) H v l xs:=⟨h.own,h.jD,.refl _⟩
theorem dU.down{α:Type}{P:Heap→List Value→α→Prop}{e sz:Nat}{Hb Hc H:Heap}{v:Value}{l:List α}{xs:List Value}(h:dU P e sz Hb H v l xs)(hl:Heap.le Hc Hb):dU P e sz Hc H v l xs:=⟨h.own,h.jD,hl.trans h.base⟩
theorem aiL(b:Bool):∀u,u∈[Value.bool b]→u.oneCell'=true:=fun u hu=>by rw[List.mem_singleton]at hu;rw[hu];rfl
theorem Zv(A0:Option Addr)(k0 c0:Nat)(z:Int)(f:Bool)(A A':Option Addr)(k c k' c':Nat):∀u,u∈[Value.slice A0 k0 c0,.int .i64 z,.bool f,.slice A k c,.slice A' k' c']→u.oneCell'=true:=fun u hu=>by
 simp only[List.mem_cons,List.not_mem_nil,or_false]at hu
 rcases hu with rfl | rfl | rfl | rfl | rfl <;> rfl
theorem oZ{α β:Type}{f:α→β}{l:List α}{k:Nat}{z:α}(h:l[k]? = some z):(l.take (k+1)).map f=(l.take k).map f ++ [f z]:=by
 rw[List.take_add_one,h,List.map_append];rfl
theorem aiM{α:Type}(f:Nat→α)(j:Nat):(List.range (j+1)).map f=(List.range j).map f ++ [f j]:=by rw[List.range_succ,List.map_append];rfl
theorem aiN{α:Type}{l:List α}{k:Nat}{z:α}(h:l[k]? = some z):l.take (k+1)=l.take k ++ [z]:=by rw[List.take_add_one,h];rfl
end Go.aq
namespace Go.aq
open Go.Proofs Num Lp Go.RowKit
def kH(w:World):Heap:=fun g=>match w.heap[g]? with | some (.cells c t _)=>some ⟨c.toList,c.size,t,false⟩ | _=>none
theorem aiO{w:World}{g:Nat}{c:Array Value}{t:TypeId}{fz:Nat×Nat}(h:w.heap[g]? = some (.cells c t fz)):kH w g=some ⟨c.toList,c.size,t,false⟩:=by simp[kH,h]
theorem Zw{w:World}{g:Nat}{e:Ent}(h:kH w g=some e):∃c t fz,w.heap[g]? = some (.cells c t fz)∧e=⟨c.toList,c.size,t,false⟩:=by
 unfold kH at h
 split at h
 ·rename_i c t fz hc
  exact⟨c,t,fz,hc,by simpa using h.symm⟩
 ·cases h
theorem aiP(w:World):Den (kH w) w:=fun g e h=>by
 obtain⟨c,t,fz,h1,rfl⟩:=Zw h
 exact⟨_,h1,c,fz,rfl,rfl,(fun i v hv=>by simpa using hv),fun h=>by cases h⟩
theorem aiQ{w:World}{a:Addr}{v:Value}(h:w.cell? a=some v):cell (kH w) a=some v:=by
 unfold World.cell? at h
 unfold cell
 cases hg:w.heap[a.block]? with
 | none=>rw[hg]at h;simp at h
 | some o=>
  cases o with
  | cells c t fz=>
   rw[aiO hg]
   rw[hg]at h
   simpa using h
  | _=>rw[hg]at h;simp at h
theorem aiR{w w':World}{H':Heap}(hle:Heap.le (kH w) H')(hd:Den H' w')(hf:Fx (kH w) w H' w'):Below w.heap.size w w':=by
 refine⟨hf.os,hf.tape,hf.output,hf.size,fun k hk=> ?_⟩
 cases hg:kH w k with
 | none=>exact(hf.keep k hk hg).1
 | some e=>
  obtain⟨c,t,fz,h1,rfl⟩:=Zw hg
  obtain⟨e',h2,h3⟩:=hle k _ hg
  obtain⟨o,h4,c1,fz1,rfl,h5,h6,_⟩:=hd k e' h2
  obtain⟨c2,h7,h8⟩:=hf.form k c t fz h1
  rw[h4]at h7
  simp only[Option.some.injEq,Obj.cells.injEq]at h7
  obtain⟨rfl,h9,rfl⟩:=h7
  rw[h4,h1,h9]
  have:c1=c:=by
   apply Array.ext_getElem?
   intro i
   by_cases hi:i<c.size
   ·have gE:e'.xs[i]? = some c[i]:=NJ h3.2.2.2 (by simp[hi])
    rw[h6 i _ gE];simp[hi]
   ·rw[Array.getElem?_eq_none (by omega),Array.getElem?_eq_none (by omega)]
  rw[this]
theorem Fn.law{P:Program}{f:FuncId}{args:Array Value}{w:World}(h:Fn P f args (kH w) (fun v H'=>Heap.le (kH w) H'∧v = .bool true)):Calls P f args w fun e w'=>e = .returned (.bool true)∧Below w.heap.size w w':=
 (h.run w (aiP w)).mono fun _ _ ⟨v,he,H',⟨h1,h2⟩,h3,h4⟩=>⟨by rw[he,h2],aiR h1 h3 h4⟩
section
variable {Hy:Type} {enc:TypeId×Value→Hy} {P:Program} {w:World} {spare:Nat→Bool} {held:Bool}
theorem aiS{α:Type}{Q:List Value→α→Prop}{sz:Nat}{xs cs:List Value}{l:List α}{b:α}(h:bA Q sz xs l)(hb:Q cs b)(hl:cs.length=sz):bA Q sz (xs++cs) (l ++ [b]):=h.append (iE hb hl)
theorem aiT{H:Heap}{a:Addr}{xs cs:List Value}(h:Rd H (some a) xs)(k:∀i v,cs[i]? = some v→cell H (a.add (xs.length+i))=some v):Rd H (some a) (xs++cs):=fun i v hv=>by
 by_cases hi:i<xs.length
 ·rw[List.getElem?_append_left hi]at hv;exact h i v hv
 ·rw[List.getElem?_append_right (by omega)]at hv
  have:=k _ _ hv
  rw[show xs.length+(i-xs.length)=i by omega]at this
  exact⟨a,rfl,this⟩
theorem Zx{α:Type}{Q:Heap→List Value→α→Prop}{t e sz:Nat}(ht:P.underlying t=some (.slice e))(hc:P.cellsOf e=sz)(hp:0<sz)(hq:∀n cs x,cs.length=sz→DataW.trod enc P w 0 spare held n e cs=some x→∃a,Q (kH w) cs a)
  {n:Nat} {cs:List Value} {x:DataW Hy×List MemPlace} (h:DataW.trod enc P w 0 spare held n t cs=some x):∃v l,cs = [v]∧aQ Q sz (kH w) v (l:List α)∧l.length≤maxLen:=by
 rcases Deep.open_slice ht h with ⟨rfl,_⟩ | ⟨a,len,cap,m,n',D,Pl,rfl,_,hl,hm,hmm,_,hx⟩
 ·exact⟨_,[],rfl,Ip,Nat.zero_le _⟩
 ·have EA:len≤m:=by rw[hmm];split <;> omega
  rw[hc]at hx
  have key:∀k,k≤len→∃xs l,l.length=k∧bA (Q (kH w)) sz xs (l:List α)∧Rd (kH w) (some a) xs:=by
   intro k
   induction k with
   | zero=>exact fun _=>⟨[],[],rfl,qx,Rd.nil _ _⟩
   | succ k ih=>
    intro hk
    obtain⟨xs,l,h1,h2,h3⟩:=ih (by omega)
    obtain⟨cG,h4,h5⟩:=hx k (by omega)
    obtain⟨_,h6,h7⟩:=World.cells?_some h4
    obtain⟨b,hb⟩:=hq _ _ _ h6 h5
    refine⟨xs++cG,l ++ [b],by simp[h1],aiS h2 hb h6,aiT h3 fun i v hv=> ?_⟩
    have hi:=(List.getElem?_eq_some_iff.1 hv).1
    have h8:=h7 i (by omega)
    rw[hv,add_add]at h8
    rw[h2.len,h1];exact aiQ h8
  obtain⟨xs,l,h1,h2,h3⟩:=key len (Nat.le_refl _)
  refine⟨_,l,rfl,⟨some a,cap,xs,by rw[h1],by omega,h3,h2⟩,by omega⟩
end
end Go.aq
namespace Go.aq
def Mj(ms:List Nat)(o:Oper):Nat:=o.after.toList.foldl (fun m e=>cond (Region.binds .any e) (m ||| (1 <<< e.on) ||| ms.getD e.on 0) m) 0
def Mk(md:Mode)(l:List Oper)(ms:List Nat):List Nat→Bool
 | []=>true
 | i::r=>r.all (fun j=>Nat.testBit (ms.getD j 0) i||Sw md l.toArray (fe l i) (fe l j))&&Mk md l ms r
def Zy(n:Nat)(md:Mode)(l:List Oper)(perm ms:List Nat):Bool:=
 !md.Ug&&Ft n l&&Nat.beq perm.length l.length&&perm.all (fun i=>Nat.blt i l.length)&&Fu perm&&Mk md l ms perm&&(List.range l.length).all (fun i=>perm.contains i) &&
 ((List.range l.length).all fun i=>(fe l i).after.all fun e=> !Region.binds .any e||Nat.blt e.on i)&&(List.range l.length).all fun j=>Nat.beq (ms.getD j 0) (Mj ms (fe l j))
theorem Zz{ms:List Nat}{i:Nat}:∀(es:List Edge)(m:Nat),(es.foldl (fun m e=>cond (Region.binds .any e) (m ||| (1 <<< e.on) ||| ms.getD e.on 0) m) m).testBit i=true→m.testBit i=true∨∃e,e∈es∧Region.binds .any e=true∧(e.on=i∨(ms.getD e.on 0).testBit i=true)
 | [],m,h=> .inl h
 | e::es,m,h=>by
  rcases Zz es _ h with h1 | ⟨e',h1,h2⟩
  ·cases hb:Region.binds .any e with
   | false=>dsimp only at h1;rw[hb]at h1;exact .inl h1
   | true=>
    dsimp only at h1
    rw[hb]at h1
    simp only[cond_true,Nat.testBit_or,Bool.or_eq_true]at h1
    rcases h1 with (h1 | h1) | h1
    ·exact .inl h1
    ·refine .inr ⟨e,List.mem_cons_self ..,hb,.inl ?_⟩
     rw[Nat.one_shiftLeft,Nat.testBit_two_pow]at h1
     simpa using h1
    ·exact .inr ⟨e,List.mem_cons_self ..,hb,.inr h1⟩
  ·exact .inr ⟨e',List.mem_cons_of_mem _ h1,h2⟩
theorem ZA{l:List Oper}:∀(f i j:Nat),pz l f i j=true→pz l (f+1) i j=true
 | 0,_,_,h=>by cases h
 | f+1,i,j,h=>by
  unfold pz at h⊢
  rw[Array.any_eq_true]at h⊢
  obtain⟨k,hk,h⟩:=h
  refine⟨k,hk,?_⟩
  simp only[Bool.and_eq_true,Bool.or_eq_true]at h⊢
  exact⟨h.1,h.2.imp id fun h=>ZA f i _ h⟩
theorem ZB{l:List Oper}{f g i j:Nat}(h:pz l f i j=true)(hg:f≤g):pz l g i j=true:=by
 obtain⟨k,rfl⟩:=Nat.le.dest hg
 clear hg
 induction k with
 | zero=>exact h
 | succ k ih=>exact ZA _ _ _ ih
theorem aiU{l:List Oper}{ms:List Nat}(hb:∀i,i<l.length→∀e,e∈(fe l i).after→Region.binds .any e=true→e.on<i)(hm:∀j,j<l.length→ms.getD j 0=Mj ms (fe l j))(i:Nat):∀(k j:Nat),j<k→j<l.length→(ms.getD j 0).testBit i=true→pz l (j+1) i j=true:=by
 intro k
 induction k with
 | zero=>intro j h;omega
 | succ k ih=>
  intro j hk hj h
  rw[hm j hj]at h
  rcases Zz _ _ h with h1 | ⟨e,h1,h2,h3⟩
  ·simp at h1
  ·have FK:e∈(fe l j).after:=Array.mem_toList_iff.1 h1
   have bX:=hb j hj e FK h2
   unfold pz
   rw[Array.any_eq_true]
   obtain⟨q,hq,e1⟩:=Array.mem_iff_getElem.1 FK
   refine⟨q,hq,?_⟩
   rw[e1]
   simp only[Bool.and_eq_true,Bool.or_eq_true]
   refine⟨h2,?_⟩
   rcases h3 with h3 | h3
   ·exact .inl (by rw[h3];exact Nat.beq_refl i)
   ·exact .inr (ZB (ih e.on (by omega) (by omega) h3) (by omega))
theorem ZC{md:Mode}{l:List Oper}{ms:List Nat}(hb:∀i,i<l.length→∀e,e∈(fe l i).after→Region.binds .any e=true→e.on<i)(hm:∀j,j<l.length→ms.getD j 0=Mj ms (fe l j)):∀r:List Nat,(∀i,i∈r→i<l.length)→Mk md l ms r=true→AN md l r=true
 | [],_,_=>rfl
 | i::r,hr,h=>by
  unfold Mk at h
  unfold AN
  simp only[Bool.and_eq_true,List.all_eq_true,Bool.or_eq_true]at h⊢
  refine⟨fun j hj=> ?_,ZC hb hm r (fun k hk=>hr k (List.mem_cons_of_mem _ hk)) h.2⟩
  have hl:=hr j (List.mem_cons_of_mem _ hj)
  exact(h.1 j hj).imp (fun h9=>ZB (aiU hb hm i _ j (Nat.lt_succ_self j) hl h9) (by omega)) id
theorem gL{n:Nat}{md:Mode}{l:List Oper}{perm:List Nat}(ms:List Nat)(h:Zy n md l perm ms=true):C0 n md l perm=true:=by
 unfold Zy at h
 simp only[Bool.and_eq_true]at h
 obtain⟨⟨⟨⟨⟨⟨⟨⟨h1,h2⟩,h3⟩,h4⟩,h5⟩,h6⟩,h7⟩,h8⟩,h9⟩:=h
 have hb:∀i,i<l.length→∀e,e∈(fe l i).after→Region.binds .any e=true→e.on<i:=fun i hi e he sY=>by
  have k1:=List.all_eq_true.1 h8 i (List.mem_range.2 hi)
  obtain⟨q,hq,e1⟩:=Array.mem_iff_getElem.1 he
  have k2:=Array.all_eq_true.1 k1 q hq
  rw[e1,sY]at k2
  simp only[Bool.not_true,Bool.false_or]at k2
  exact Fs k2
 have hm:∀j,j<l.length→ms.getD j 0=Mj ms (fe l j):=fun j hj=>Nat.eq_of_beq_eq_true (List.all_eq_true.1 h9 j (List.mem_range.2 hj))
 have hp:AN md l perm=true:=ZC hb hm perm (fun i hi=>Fs (List.all_eq_true.1 h4 i hi)) h6
 unfold C0
 simp only[Bool.and_eq_true]
 exact⟨⟨⟨⟨⟨⟨⟨h1,h2⟩,h3⟩,h4⟩,h5⟩,hp⟩,h7⟩,h8⟩
end Go.aq
namespace Go.aq
open Go.Proofs Num Lp
def fu(vs:List Value)(q:Rat):Prop:=∃n d:Int,vs = [.int .i64 n,.int .i64 d]∧-1073741824≤n∧n≤1073741824∧1≤d∧d≤1073741824∧q=(n:Rat)/(d:Rat)
theorem EJ:fu [.int .i64 0,.int .i64 1] 0:=⟨0,1,rfl,by decide,by decide,by decide,by decide,by grind⟩
theorem xS{a b:Int}(h1: -1073741824≤a)(h2:a≤1073741824)(h3: -1073741824≤b)(h4:b≤1073741824): -1152921504606846976≤a*b∧a*b≤1152921504606846976:=by
 have h5:(a*b).natAbs≤1073741824*1073741824:=by rw[Int.natAbs_mul];exact Nat.mul_le_mul (by omega) (by omega)
 omega
theorem aiV{n d a:Int}(ha:a≠0)(h1:a∣n)(h2:a∣d):((n.tdiv a:Int):Rat)/((d/a:Int):Rat)=(n:Rat)/(d:Rat):=by
 obtain⟨k,rfl⟩:=h1
 obtain⟨j,rfl⟩:=h2
 rw[Int.mul_tdiv_cancel_left _ ha,Int.mul_ediv_cancel_left _ ha]
 have h3:(a:Rat)≠0:=by exact_mod_cast ha
 by_cases hj:j=0
 ·subst hj;rw[Int.mul_zero];simp[Rat.div_def]
 ·have h4:(j:Rat)≠0:=by exact_mod_cast hj
  rw[Rat.intCast_mul,Rat.intCast_mul]
  rw[Rat.div_def,Rat.div_def,Rat.inv_mul_rev]
  grind
def RH(gs:List Nat)(g:Nat)(rv bv:Value)(o:Bool)(H:Heap)(q:Rat)(v:Value)(H':Heap):Prop:=
 fR gs g H H'∧∃(vs:List Value)(o':Bool)(q':Rat),v = .agg vs.toArray∧fu vs q'∧H' g=some ⟨[rv,bv,.bool o'],3,135,true⟩∧(o'=false→o=false∧q'=q)
theorem RI{H:Heap}{gs:List Nat}{g:Nat}{rv bv:Value}{o:Bool}(hg:g∈gs)(ht:H g=some ⟨[rv,bv,.bool o],3,135,true⟩){n d:Int}(h1: -4611686018427387904≤n)(h2:n≤4611686018427387904)(h3:1≤d)(h4:d≤4611686018427387904):
 Fn Tryz.prog 135 #[.pointer (some ⟨g,0,none⟩),.int .i64 n,.int .i64 d] H (RH gs g rv bv o H ((n:Rat)/(d:Rat))):=by
 refine aZ (args:=[_,_,_]) Tryz.func135 rfl rfl Tryz.ntmps135 rfl rfl fun w0=> ?_;refine ah [0,1,2] rfl ?_;refine ae (bh fO rfl (ab [0,1,2,6] ?_));refine ae (aa 4 rfl (ab [0,1,2,6,7,8] ?_));refine Dc (put (put (put (put (put (put (emp) 0 (.val (.pointer (some ⟨g,0,none⟩)))) 1 (.val (.int .i64 n))) 2 (.val (.int .i64 d))) 6 (.box [.int .i64 0,.int .i64 0])) 7 (.val (.int .i64 (n.natAbs:Int)))) 8 (.val (.int .i64 d))) (fun H'=>H'=H) ?_ ?_
 ·
  refine ae (aa 2 rfl (ab [0,1,2,6,7,8,12] ?_));refine aD rfl (fun hb=> ?_) (fun hb=> ?_)
  ·
   have hb:n<0:=by simpa using hb
   refine aA rfl (aa 1 rfl (rH rfl ⟨by omega,by omega⟩ (aa 1 rfl (au ?_))));exact⟨ar,rfl⟩
  ·
   have hb:0≤n:=by simpa using hb
   refine az ?_;exact⟨ar,rfl⟩
 ·
  rintro H0 e0;rw[e0];clear e0 H0;refine ao (aE (gn (fun(a:Nat)(b:Nat)=>b) (fun(a:Nat)(b:Nat)=>put (put (put (put (put (put (emp) 0 (.val (.pointer (some ⟨g,0,none⟩)))) 1 (.val (.int .i64 n))) 2 (.val (.int .i64 d))) 6 (.box [.int .i64 0,.int .i64 0])) 7 (.val (.int .i64 (a:Int)))) 8 (.val (.int .i64 (b:Int)))) (fun(a:Nat)(b:Nat) H'=>H'=H∧Nat.gcd a b=Nat.gcd n.natAbs d.natAbs∧a≤9223372036854775807∧b≤9223372036854775807) n.natAbs d.natAbs (⟨rfl,rfl,by omega,by omega⟩) ar ?_));rintro a b H2 ⟨e2,kB,ha,ll⟩;refine ao (ae (aa 2 rfl (ab [0,1,2,6,7,8,16] ?_)));refine aD rfl (fun hb=> ?_) (fun hb=> ?_)
  ·
   have hb:0<b:=by simp at hb;omega
   refine az (ah [0,1,2,6,7,8] rfl ?_);refine aE (eo .bJ [0,1,2,3,4,5] follows (by kernel_rfl) ?_);refine aa 3 rfl (mP rfl rfl (by omega) (by omega) (aa 2 rfl (au ?_)));exact⟨b,a%b,Nat.mod_lt a hb,ar,e2,by rw[←kB,Nat.gcd_comm b,←Nat.gcd_rec,Nat.gcd_comm],ll,by have:=Nat.mod_lt a hb;omega⟩
  have hb:b=0:=by simp at hb;omega
  subst hb;rw[Nat.gcd_zero_right]at kB
  have ha0:0<a:=by rw[kB];exact Nat.gcd_pos_of_pos_right _ (by omega)
  have Oc:(a:Int)∣n:=Int.ofNat_dvd_left.2 (by rw[kB];exact Nat.gcd_dvd_left _ _);have ZD:(a:Int)∣d:=Int.ofNat_dvd_left.2 (by rw[kB];exact Nat.gcd_dvd_right _ _)
  have G8: -4611686018427387904≤n.tdiv a∧n.tdiv a≤4611686018427387904:=by
   have:(n.tdiv a).natAbs≤n.natAbs:=by rw[Int.natAbs_tdiv];exact Nat.div_le_self _ _
   omega
  have hd9:d/(a:Int)≤d:=Int.ediv_le_self _ (by omega)
  have hd8:1≤d/(a:Int):=by
   obtain⟨k,hk⟩:=ZD;rw[hk,Int.mul_ediv_cancel_left _ (by omega)]
   rcases Int.lt_or_le k 1 with h | h
   ·
    have:(a:Int)*k≤0:=Int.mul_nonpos_of_nonneg_of_nonpos (by omega) (by omega)
    omega
   ·exact h
  have aiW:=aiV (show (a:Int)≠0 by omega) Oc ZD;rw[e2];clear e2 kB ll;refine aX (ah [0,1,2,6,7] rfl ?_);refine AW (fun(x:Int)(y:Int)=>put (put (put (put (emp) 0 (.val (.pointer (some ⟨g,0,none⟩)))) 1 (.val (.int .i64 x))) 2 (.val (.int .i64 y))) 6 (.box [.int .i64 0,.int .i64 0])) (fun(x:Int)(y:Int) H'=>H'=H∧1≤y∧(-4611686018427387904≤x∧x≤4611686018427387904∧y≤4611686018427387904)∧(x:Rat)/(y:Rat)=(n:Rat)/(d:Rat)) ?_ ?_
  ·
   refine ae (aa 2 rfl (ab [0,1,2,6,7,22] ?_));refine aD rfl (fun hb=> ?_) (fun hb=> ?_)
   ·
    skip
    refine eo .bJ [0,1,2,3,4,5,6,7] follows (by kernel_rfl) ?_;refine aa 2 rfl (UH rfl rfl (by omega) ⟨by omega,by omega⟩ (aa 2 rfl (lG rfl rfl (by omega) (by omega) ⟨by omega,by omega⟩ (aa 2 rfl (au ?_)))));exact⟨_,_,ar,rfl,hd8,⟨G8.1,G8.2,by omega⟩,aiW⟩
   skip
   refine az ?_;exact⟨_,_,ar,rfl,h3,⟨h1,h2,h4⟩,rfl⟩
  rintro x y H3 ⟨rfl,tD,⟨fH,eS,Lr⟩,qp⟩;refine ao ?_
  by_cases g1:1073741824<x
  ·
   skip
   refine ae (aa 1 rfl (aG true rfl rfl (ov (by omega)) (aa 8 rfl (ab [0,1,2,6,38] ?_))));refine cK rfl (ae (aa 2 rfl (aW ag rfl rfl rfl ?_)));obtain⟨ti,aj,ak⟩:=Dd;refine j6 (g:=g) (o:=2) (.inl rfl) rfl ht rfl (by show 2+1≤3;omega) aj ak rfl rfl rfl rfl ?_;refine ab [6] ?_;refine ae (cL ag rfl fO rfl rfl ?_);obtain⟨ti,aj,ak⟩:=eD;refine aH (.inl ⟨rfl,rfl⟩) rfl rfl rfl aj ak rfl rfl rfl (ab [6] ?_);obtain⟨bP,aL,aM⟩:=eD;refine aB ⟨.inr rfl,_,.agg rfl Tryz.underlying138 aL aM (.nil),?_⟩;exact⟨(Kept.refl _ _).iF g |>.ins hg _,_,true,0,rfl,EJ,by rw[bn];rfl,fun h=>by cases h⟩
  skip
  by_cases g2:x < -1073741824
  ·
   skip
   refine ae (aa 1 rfl (aG false rfl rfl (kt (by omega)) (aa 2 rfl (aG true rfl rfl (ja (by omega)) (aa 5 rfl (ab [0,1,2,6,38] ?_))))));refine cK rfl (ae (aa 2 rfl (aW ag rfl rfl rfl ?_)));obtain⟨ti,aj,ak⟩:=Dd;refine j6 (g:=g) (o:=2) (.inl rfl) rfl ht rfl (by show 2+1≤3;omega) aj ak rfl rfl rfl rfl ?_;refine ab [6] ?_;refine ae (cL ag rfl fO rfl rfl ?_);obtain⟨ti,aj,ak⟩:=eD;refine aH (.inl ⟨rfl,rfl⟩) rfl rfl rfl aj ak rfl rfl rfl (ab [6] ?_);obtain⟨bP,aL,aM⟩:=eD;refine aB ⟨.inr rfl,_,.agg rfl Tryz.underlying138 aL aM (.nil),?_⟩;exact⟨(Kept.refl _ _).iF g |>.ins hg _,_,true,0,rfl,EJ,by rw[bn];rfl,fun h=>by cases h⟩
  skip
  by_cases g3:1073741824<y
  ·
   skip
   refine ae (aa 1 rfl (aG false rfl rfl (kt (by omega)) (aa 2 rfl (aG false rfl rfl (ia (by omega)) (aa 3 rfl (aG true rfl rfl (ov (by omega)) (aa 1 rfl (ab [0,1,2,6,38] ?_))))))));refine cK rfl (ae (aa 2 rfl (aW ag rfl rfl rfl ?_)));obtain⟨ti,aj,ak⟩:=Dd;refine j6 (g:=g) (o:=2) (.inl rfl) rfl ht rfl (by show 2+1≤3;omega) aj ak rfl rfl rfl rfl ?_;refine ab [6] ?_;refine ae (cL ag rfl fO rfl rfl ?_);obtain⟨ti,aj,ak⟩:=eD;refine aH (.inl ⟨rfl,rfl⟩) rfl rfl rfl aj ak rfl rfl rfl (ab [6] ?_);obtain⟨bP,aL,aM⟩:=eD;refine aB ⟨.inr rfl,_,.agg rfl Tryz.underlying138 aL aM (.nil),?_⟩;exact⟨(Kept.refl _ _).iF g |>.ins hg _,_,true,0,rfl,EJ,by rw[bn];rfl,fun h=>by cases h⟩
  skip
  refine ae (aa 1 rfl (aG false rfl rfl (kt (by omega)) (aa 2 rfl (aG false rfl rfl (ia (by omega)) (aa 3 rfl (aG false rfl rfl (kt (by omega)) (aa 1 rfl (ab [0,1,2,6,38] ?_))))))));refine dh rfl (az (ah [1,2,6] rfl ?_));refine ae (aa 2 rfl (cL ag rfl fO rfl rfl ?_));obtain⟨ti,aj,ak⟩:=eD;refine aH (.inl ⟨rfl,rfl⟩) rfl rfl rfl aj ak rfl rfl rfl (ab [6] ?_);obtain⟨bP,aL,aM⟩:=eD;refine aB ⟨.inr rfl,_,.agg rfl Tryz.underlying138 aL aM (.nil),?_⟩;exact⟨(Kept.refl _ _).iF g,_,o,_,rfl,⟨x,y,rfl,by omega,by omega,by omega,by omega,rfl⟩,ht,fun h=>⟨h,qp⟩⟩
theorem ZE{n d a b:Int}:((n*a:Int):Rat)/((d*b:Int):Rat)=(n:Rat)/(d:Rat)*((a:Rat)/(b:Rat)):=by
 rw[Rat.intCast_mul,Rat.intCast_mul,Rat.div_def,Rat.div_def,Rat.div_def,Rat.inv_mul_rev];grind
theorem ZF{n d a b:Int}(h1:1≤d)(h2:1≤b):((n*b-a*d:Int):Rat)/((d*b:Int):Rat)=(n:Rat)/(d:Rat)-(a:Rat)/(b:Rat):=by
 have h3:(d:Rat)≠0:=by exact_mod_cast (show d≠0 by omega)
 have h4:(b:Rat)≠0:=by exact_mod_cast (show b≠0 by omega)
 rw[Rat.intCast_sub,Rat.intCast_mul,Rat.intCast_mul,Rat.intCast_mul,Rat.div_def,Rat.div_def,Rat.div_def,Rat.inv_mul_rev]
 grind
theorem Ml{a b:Int}(h1:1≤a)(h2:1≤b):1≤a*b:=by
 have:=Int.mul_le_mul h1 h2 (by omega) (by omega)
 omega
theorem RJ{H:Heap}{gs:List Nat}{g:Nat}{rv bv:Value}{o:Bool}(hg:g∈gs)(ht:H g=some ⟨[rv,bv,.bool o],3,135,true⟩){xs ys:List Value}{p q:Rat}(hx:fu xs p)(hy:fu ys q):
 Fn Tryz.prog 137 #[.pointer (some ⟨g,0,none⟩),.agg xs.toArray,.agg ys.toArray] H (RH gs g rv bv o H (p*q)):=by
 obtain⟨n,d,rfl,h1,h2,h3,h4,rfl⟩:=hx
 obtain⟨a,b,rfl,g1,g2,g3,g4,rfl⟩:=hy
 have m1:=xS (a:=d) (b:=b) (by omega) h4 (by omega) g4
 have m2:=Ml h3 g3
 have m3:=xS h1 h2 g1 g2;refine aZ (args:=[_,_,_]) Tryz.func137 rfl rfl Tryz.ntmps137 rfl rfl fun w0=> ?_;refine ah [0,1,2] rfl ?_;refine ae (bY rfl rfl (bY rfl rfl (bh fO rfl (ab [0,4,5,6] ?_))));refine ae (aa 5 rfl (gO rfl rfl ⟨by omega,by omega⟩ (aa 4 rfl (gO rfl rfl ⟨by omega,by omega⟩ (aC rfl rfl (RI hg ht (n:=n*a) (d:=d*b) (by omega) (by omega) (by omega) (by omega)) ?_)))));rintro v1 H1 ⟨k1,vs,o',q',rfl,j1,j2,j3⟩;obtain⟨x,y,rfl,i1⟩:=id j1;obtain⟨ti,aj,ak⟩:=eD;refine aH (.inl ⟨rfl,rfl⟩) rfl rfl rfl aj ak rfl rfl rfl (ab [6] ?_);obtain⟨bP,aL,aM⟩:=eD;refine aB ⟨.inr rfl,_,.agg rfl Tryz.underlying138 aL aM (.nil),?_⟩;exact⟨k1,_,o',q',rfl,j1,j2,fun h=>⟨(j3 h).1,(j3 h).2.trans ZE⟩⟩
theorem RK{H:Heap}{gs:List Nat}{g:Nat}{rv bv:Value}{o:Bool}(hg:g∈gs)(ht:H g=some ⟨[rv,bv,.bool o],3,135,true⟩){xs ys:List Value}{p q:Rat}(hx:fu xs p)(hy:fu ys q):
 Fn Tryz.prog 98 #[.pointer (some ⟨g,0,none⟩),.agg xs.toArray,.agg ys.toArray] H (RH gs g rv bv o H (p-q)):=by
 obtain⟨n,d,rfl,h1,h2,h3,h4,rfl⟩:=hx
 obtain⟨a,b,rfl,g1,g2,g3,g4,rfl⟩:=hy
 have m1:=xS (a:=d) (b:=b) (by omega) h4 (by omega) g4
 have m2:=Ml h3 g3
 have m3:=xS h1 h2 (show -1073741824≤b by omega) g4
 have m4:=xS g1 g2 (show -1073741824≤d by omega) h4;refine aZ (args:=[_,_,_]) Tryz.func98 rfl rfl Tryz.ntmps98 rfl rfl fun w0=> ?_;refine ah [0,1,2] rfl ?_;refine ae (bY rfl rfl (bY rfl rfl (bh fO rfl (ab [0,4,5,6] ?_))));refine ae (aa 5 rfl (gO rfl rfl ⟨by omega,by omega⟩ (aa 4 rfl (gO rfl rfl ⟨by omega,by omega⟩ (cQ rfl rfl ⟨by omega,by omega⟩ (aa 4 rfl (gO rfl rfl ⟨by omega,by omega⟩ (aC rfl rfl (RI hg ht (n:=n*b-a*d) (d:=d*b) (by omega) (by omega) (by omega) (by omega)) ?_))))))));rintro v1 H1 ⟨k1,vs,o',q',rfl,j1,j2,j3⟩;obtain⟨x,y,rfl,i1⟩:=id j1;obtain⟨ti,aj,ak⟩:=eD;refine aH (.inl ⟨rfl,rfl⟩) rfl rfl rfl aj ak rfl rfl rfl (ab [6] ?_);obtain⟨bP,aL,aM⟩:=eD;refine aB ⟨.inr rfl,_,.agg rfl Tryz.underlying138 aL aM (.nil),?_⟩;exact⟨k1,_,o',q',rfl,j1,j2,fun h=>⟨(j3 h).1,(j3 h).2.trans (ZF h3 g3)⟩⟩
theorem ZG{x:Nat}(h:(al x).length=1):al x = [x]∧x<1000000000∧0<x:=by
 have h1:x<B^1:=iZ.1 (by omega)
 have h2:0<x:=Nat.pos_of_ne_zero fun e=>by subst e;rw[qk]at h;cases h
 have h3:x<B:=by simpa using h1
 refine⟨?_,by rw[show B=1000000000 from rfl]at h3;exact h3,h2⟩
 rw[yN h2,Nat.mod_eq_of_lt h3,Nat.div_eq_of_lt h3,qk]
theorem ZH{H:Heap}{v:Value}{q:Rat}{N:Nat}(hv:cT H v q N)(hN:(N:Int)≤4398046511000):
 Fn Tryz.prog 97 #[v] H (fun v' H'=>Heap.le H H'∧∃(n d:Int)(b:Bool),v' = .tuple #[.agg #[.int .i64 n,.int .i64 d],.bool b]∧(b=true→fu [.int .i64 n,.int .i64 d] q)):=by
 obtain⟨bf,bu,bw,nG,nH,rfl,dY,de,gG,xJ,XF,pR,hb7⟩:=id hv;refine aZ (args:=[_]) Tryz.func97 rfl rfl Tryz.ntmps97 rfl rfl fun w0=> ?_;refine ah [0] rfl ?_;refine ae (bY rfl rfl (bh fO rfl (aa 1 rfl (ab [1,2] ?_))));refine ae (aa 1 rfl (aC rfl rfl (tY hv hN) ?_));rintro _ H1 ⟨bx,b8⟩
 unfold bH at b8
 obtain⟨u,w,rfl,hu,hw⟩:=id b8;obtain⟨A,c,rfl,hc,hr⟩:=id hu;obtain⟨A2,c2,rfl,mU,kQ⟩:=id hw;refine bh bQ rfl ?_;obtain⟨ti,aj,ak⟩:=aU;refine aH (.inl ⟨rfl,rfl⟩) rfl rfl rfl aj ak rfl rfl rfl (ab [2,4] ?_);refine ao ?_
 by_cases g1:1<(al q.num.natAbs).length
 ·
  skip
  refine ae (aa 3 rfl (aG true rfl rfl (ov (by omega)) (aa 6 rfl (ab [2,4,17] ?_))));refine cK rfl (ae (cL ag rfl fO rfl rfl ?_));obtain⟨ti,aj,ak⟩:=eD;refine aH (.inl ⟨rfl,rfl⟩) rfl rfl rfl aj ak rfl rfl rfl (aa 1 rfl (ab [2,3] ?_));obtain⟨bP,aL,aM⟩:=eD;refine aB ⟨.inr rfl,_,.agg rfl Tryz.underlying138 aL aM (.tmp rfl (.nil)),?_⟩;exact⟨bx,0,0,false,rfl,fun h=>by cases h⟩
 ·
  skip
  by_cases g2:¬(al q.den).length=1
  ·
   skip
   refine ae (aa 3 rfl (aG false rfl rfl (kt (by omega)) (aa 4 rfl (aG true rfl rfl (vh (by omega)) (aa 1 rfl (ab [2,4,17] ?_))))));refine cK rfl (ae (cL ag rfl fO rfl rfl ?_));obtain⟨ti,aj,ak⟩:=eD;refine aH (.inl ⟨rfl,rfl⟩) rfl rfl rfl aj ak rfl rfl rfl (aa 1 rfl (ab [2,3] ?_));obtain⟨bP,aL,aM⟩:=eD;refine aB ⟨.inr rfl,_,.agg rfl Tryz.underlying138 aL aM (.tmp rfl (.nil)),?_⟩;exact⟨bx,0,0,false,rfl,fun h=>by cases h⟩
  have g2:(al q.den).length=1:=by omega
  obtain⟨fc,jZ,KE⟩:=ZG g2;have AG:(U (al q.den))[0]? = some (.int .u32 (q.den:Int)):=dB (by rw[fc];rfl)
  have Gf:q.num.natAbs<1000000000:=by
   have:=iZ.1 (show (al q.num.natAbs).length≤1 by omega)
   rwa [Nat.pow_one,cg]at this
  refine ae (aa 3 rfl (aG false rfl rfl (kt (by omega)) (aa 4 rfl (aG false rfl rfl (vi (by omega)) (aa 1 rfl (ab [2,4,17] ?_))))));refine dh rfl (az (ah [2,4] rfl ?_));refine ae (aa 2 rfl (aS ag rfl rfl rfl rfl rfl (kQ) (AG) (by omega) (by omega) fun _=>(di ag rfl rfl rfl ⟨by omega,by omega⟩ (cL ag rfl fO rfl rfl (bh fO rfl ?_)))));obtain⟨ti,aj,ak⟩:=eD;refine aH (.inl ⟨rfl,rfl⟩) rfl rfl rfl aj ak rfl rfl rfl (ab [2,4,5] ?_);refine Dc (put (put (put (emp) 2 (.box [.int .i64 0,.int .i64 0])) 4 (.box [.bool (decide (q.num<0)),.slice A (al q.num.natAbs).length c,.slice A2 (al q.den).length c2])) 5 (.box [.int .i64 (q.num.natAbs:Int),.int .i64 (q.den:Int)])) (fun H'=>H'=H1) ?_ ?_
  ·
   refine ae (aa 4 rfl (ab [2,4,5,28] ?_));refine aD rfl (fun hb=> ?_) (fun hb=> ?_)
   ·
    have hb:(al q.num.natAbs).length=1:=by simp at hb;omega
    obtain⟨dt,gQ,jN⟩:=ZG hb;have hnx:(U (al q.num.natAbs))[0]? = some (.int .u32 (q.num.natAbs:Int)):=dB (by rw[dt];rfl);refine aA rfl (aa 2 rfl (aS ag rfl rfl rfl rfl rfl (hr) (hnx) (by omega) (by omega) fun _=>(di ag rfl rfl rfl ⟨by omega,by omega⟩ (vr 1 ?_))));obtain⟨ti,aj,ak⟩:=qj;refine aH (.inr rfl) rfl rfl rfl aj ak rfl rfl rfl (au ?_);exact⟨ar,rfl⟩
   have hb:¬(al q.num.natAbs).length=1:=by simp at hb;omega
   have hz:q.num.natAbs=0:=jL.1 (by omega);rw[hz];refine az ?_;exact⟨ar,rfl⟩
  rintro H0 e0;rw[e0];clear e0 H0;refine Dc (put (put (emp) 2 (.box [.int .i64 0,.int .i64 0])) 5 (.box [.int .i64 q.num,.int .i64 (q.den:Int)])) (fun H'=>H'=H1) ?_ ?_
  ·
   refine ae (aa 2 rfl (ab [2,5,36] ?_));refine aD rfl (fun hb=> ?_) (fun hb=> ?_)
   ·
    have hb:q.num<0:=by simpa using hb
    have e9: -((q.num.natAbs:Nat):Int)=q.num:=by omega
    refine aA rfl (aa 2 rfl (rH rfl ⟨by omega,by omega⟩ ?_));rw[e9];refine vr 1 ?_;obtain⟨ti,aj,ak⟩:=qj;refine aH (.inr rfl) rfl rfl rfl aj ak rfl rfl rfl (au ?_);exact⟨ar,rfl⟩
   have hb:0≤q.num:=by simpa using hb
   rw[show ((q.num.natAbs:Nat):Int)=q.num by omega];refine az ?_;exact⟨ar,rfl⟩
  rintro H0 e0;rw[e0];clear e0 H0
  by_cases k1:q.num≤1073741824
  ·
   skip
   by_cases k2: -1073741824≤q.num
   ·
    skip
    by_cases k3:(q.den:Int)≤1073741824
    ·
     skip
     refine bM (.pg [2]) [0,1,2,3,4,5,6,7,8,9,10,11,12,13,14,15] follows (gL [0,0,2,6,14,30,62,126,254,510,1022,2046,4094,8190,1023,32767] (by kernel_rfl)) ?_;refine aa 3 rfl (aG true rfl rfl (rN (by omega)) (aa 3 rfl (aG true rfl rfl (me (by omega)) (aa 4 rfl (aG true rfl rfl (rN (by omega)) (vr 1 ?_))))));obtain⟨ti,aj,ak⟩:=eD;refine aH (.inl ⟨rfl,rfl⟩) rfl rfl rfl aj ak rfl rfl rfl (aa 1 rfl (ab [2,3] ?_));obtain⟨bP,aL,aM⟩:=eD;refine aB ⟨.inr rfl,_,.agg rfl Tryz.underlying138 aL aM (.tmp rfl (.nil)),?_⟩;exact⟨bx,_,_,true,rfl,fun _=>⟨_,_,rfl,k2,k1,by omega,k3,(tI q).symm⟩⟩
    skip
    refine bM (.pg [2]) [0,1,2,3,4,5,6,7,8,9,10,11,12,13,14,15] follows (gL [0,0,2,6,14,30,62,126,254,510,1022,2046,4094,8190,1023,32767] (by kernel_rfl)) ?_;refine aa 3 rfl (aG true rfl rfl (rN (by omega)) (aa 3 rfl (aG true rfl rfl (me (by omega)) (aa 4 rfl (aG false rfl rfl (AY (by omega)) (vr 1 ?_))))));obtain⟨ti,aj,ak⟩:=eD;refine aH (.inl ⟨rfl,rfl⟩) rfl rfl rfl aj ak rfl rfl rfl (aa 1 rfl (ab [2,3] ?_));obtain⟨bP,aL,aM⟩:=eD;refine aB ⟨.inr rfl,_,.agg rfl Tryz.underlying138 aL aM (.tmp rfl (.nil)),?_⟩;exact⟨bx,_,_,false,rfl,fun h=>by cases h⟩
   skip
   refine bM (.pg [2]) [0,1,2,3,4,5,6,7,8,9,10,11,12,13,14,15] follows (gL [0,0,2,6,14,30,62,126,254,510,1022,2046,4094,8190,1023,32767] (by kernel_rfl)) ?_;refine aa 3 rfl (aG true rfl rfl (rN (by omega)) (aa 3 rfl (aG false rfl rfl (ql (by omega)) (vr 6 ?_))));obtain⟨ti,aj,ak⟩:=eD;refine aH (.inl ⟨rfl,rfl⟩) rfl rfl rfl aj ak rfl rfl rfl (aa 1 rfl (ab [2,3] ?_));obtain⟨bP,aL,aM⟩:=eD;refine aB ⟨.inr rfl,_,.agg rfl Tryz.underlying138 aL aM (.tmp rfl (.nil)),?_⟩;exact⟨bx,_,_,false,rfl,fun h=>by cases h⟩
  skip
  refine bM (.pg [2]) [0,1,2,3,4,5,6,7,8,9,10,11,12,13,14,15] follows (gL [0,0,2,6,14,30,62,126,254,510,1022,2046,4094,8190,1023,32767] (by kernel_rfl)) ?_;refine aa 3 rfl (aG false rfl rfl (AY (by omega)) (vr 10 ?_));obtain⟨ti,aj,ak⟩:=eD;refine aH (.inl ⟨rfl,rfl⟩) rfl rfl rfl aj ak rfl rfl rfl (aa 1 rfl (ab [2,3] ?_));obtain⟨bP,aL,aM⟩:=eD;refine aB ⟨.inr rfl,_,.agg rfl Tryz.underlying138 aL aM (.tmp rfl (.nil)),?_⟩;exact⟨bx,_,_,false,rfl,fun h=>by cases h⟩
end Go.aq
namespace Go.aq
open Go.Proofs Num Lp
structure gV{α β:Type}(P:Heap→List Value→α→Prop)(e sz:Nat)(Q:Heap→List Value→β→Prop)(e' fk:Nat)(Hb H:Heap)(v:Value)(l:List α)(xs:List Value)(u:Value)(k:List β)(ys:List Value):Prop where
 own:bR H v e sz l.length xs
 zN:bR H u e' fk k.length ys
 jD:bA (P (rem H (aw v++aw u))) sz xs l
 Mm:bA (Q (rem H (aw v++aw u))) fk ys k
 base:Heap.le Hb (rem H (aw v++aw u))
 apart:∀q,q∈aw v→¬q∈aw u
theorem Mn(H:Heap)(a b:List Nat):rem H (a++b)=rem H (b++a):=by
 funext q
 unfold rem
 simp only[List.mem_append,Or.comm]
theorem vV{H:Heap}{a b:List Nat}(h:∀q,q∈a→q∈b):Heap.le (rem H b) (rem H a):=fun q en hq=>by
 by_cases hm:q∈b
 ·rw[rem_in hm]at hq;cases hq
 ·rw[bL hm]at hq
  exact⟨en,by rw[bL (fun h'=>hm (h q h'))];exact hq,.refl _⟩
section
variable {α β:Type} {P:Heap→List Value→α→Prop} {e sz:Nat} {Q:Heap→List Value→β→Prop} {e' fk:Nat} {Hb H H':Heap} {v v' u u':Value} {l:List α} {xs:List Value} {k:List β} {ys:List Value}
theorem gV.swap(h:gV P e sz Q e' fk Hb H v l xs u k ys):gV Q e' fk P e sz Hb H u k ys v l xs:=
 ⟨h.zN,h.own,by rw[Mn];exact h.Mm,by rw[Mn];exact h.jD,by rw[Mn];exact h.base,fun q h1 h2=>h.apart q h2 h1⟩
theorem gV.le(h:gV P e sz Q e' fk Hb H v l xs u k ys):Heap.le Hb H:=h.base.trans (bD _ _)
theorem gV.nT(h:gV P e sz Q e' fk Hb H v l xs u k ys):∀q,q∈aw v++aw u→H q≠none:=fun q hq=>by
 rcases List.mem_append.1 hq with hq | hq
 ·obtain⟨en,he⟩:=h.own.block (cF.1 hq);rw[he];simp
 ·obtain⟨en,he⟩:=h.zN.block (cF.1 hq);rw[he];simp
theorem dU.two(h:dU P e sz Hb H v l xs):gV P e sz Q e' fk Hb H v l xs (.slice none 0 0) [] []:=by
 have e1:aw v++aw (.slice none 0 0)=aw v:=by rw[zM,List.append_nil]
 exact⟨h.own,kL H e' fk,by rw[e1];exact h.jD,qx,by rw[e1];exact h.base,fun q _ hq=>by rw[zM]at hq;cases hq⟩
theorem gV.one(h:gV P e sz Q e' fk Hb H v l xs u k ys)(up:Up P)(uq:Up Q):dU P e sz Hb H v l xs∧aQ Q fk (rem H (aw v)) u k:=by
 have h1:Heap.le (rem H (aw v++aw u)) (rem H (aw v)):=vV fun q hq=>List.mem_append_left _ hq
 refine⟨⟨h.own,h.jD.mono fun vs a=>up _ _ vs a h1,h.base.trans h1⟩,?_⟩
 refine DI.sl ⟨ys,h.zN.same fun q hq=> ?_,h.Mm.mono fun vs a=>uq _ _ vs a h1⟩
 exact bL fun hv=>h.apart q hv (cF.2 hq)
theorem gV.step(h:gV P e sz Q e' fk Hb H v l xs u k ys)(up:Up P)(uq:Up Q)(hs:∀q,q∈aw v++aw u→H' q=H q)(hl:Heap.le (rem H (aw v++aw u)) (rem H' (aw v++aw u))):gV P e sz Q e' fk Hb H' v l xs u k ys:=
 ⟨h.own.same fun q hq=>hs q (List.mem_append_left _ (cF.2 hq)),h.zN.same fun q hq=>hs q (List.mem_append_right _ (cF.2 hq)),h.jD.mono fun vs a=>up _ _ vs a hl,h.Mm.mono fun vs a=>uq _ _ vs a hl,h.base.trans hl,h.apart⟩
theorem gV.kX(h:gV P e sz Q e' fk Hb H v l xs u k ys)(up:Up P)(uq:Up Q){bF:Value→Heap→Prop}{r:Value}(hf:qw (aw v++aw u) bF H r H')(hl:∀v' K,bF v' K→Heap.le (rem H (aw v++aw u)) K):gV P e sz Q e' fk Hb H' v l xs u k ys:=h.step up uq hf.same (hl _ _ hf.post)
theorem gV.ins(h:gV P e sz Q e' fk Hb H v l xs u k ys)(up:Up P)(uq:Up Q){g:Nat}(en:Ent)(hg:H g=none):gV P e sz Q e' fk Hb (ins H g en) v l xs u k ys:=by
 have hn:¬g∈aw v++aw u:=fun hm=>h.nT g hm hg
 refine h.step up uq (fun q hq=>bg _ _ fun e=>hn (e▸hq)) ?_
 rw[vw _ hn]
 exact Heap.bG _ (by rw[bL hn];exact hg)
theorem gV.call(h:gV P e sz Q e' fk Hb H v l xs u k ys){R:Program}{f:FuncId}{args:Array Value}{bF:Value→Heap→Prop}(hc:Fn R f args (rem H (aw v++aw u)) bF):Fn R f args H (qw (aw v++aw u) bF H):=Fn.frame h.nT hc
theorem gV.append(h:gV P e sz Q e' fk Hb H v l xs u k ys)(up:Up P)(uq:Up Q){m:Nat}{zs:List Value}{j:List α}(hm:m=l.length+j.length)(ha:App H v e sz m (xs++zs) v' H')(hz:bA (P (rem H (aw v++aw u))) sz zs j):gV P e sz Q e' fk Hb H' v' (l++j) (xs++zs) u k ys:=by
 have hvu:∀q,v.ownBlock=some q→¬u.ownBlock=some q:=fun q h1 h2=>h.apart q (cF.2 h1) (cF.2 h2)
 have new:∀q,q∈aw v'→q∈aw v∨H q=none:=fun q hq=>by
  rcases ha.at_ with h4 | ⟨g,h4,h5⟩
  ·exact .inl (cF.2 (h4▸cF.1 hq))
  ·have:=cF.1 hq;rw[h4]at this;cases this;exact .inr h5
 have ap:∀q,q∈aw v'→¬q∈aw u:=fun q hq hu=>by
  rcases new q hq with h1 | h1
  ·exact h.apart q h1 hu
  ·exact h.nT q (List.mem_append_right _ hu) h1
 have hl:Heap.le (rem H (aw v++aw u)) (rem H' (aw v'++aw u)):=fun q en hq=>by
  by_cases hm:q∈aw v++aw u
  ·rw[rem_in hm]at hq;cases hq
  ·rw[bL hm]at hq
   have h1:=ha.same q en hq fun e=>hm (List.mem_append_left _ (cF.2 e))
   have h2:¬q∈aw v'++aw u:=fun h2=>by
    rcases List.mem_append.1 h2 with h3 | h3
    ·rcases new q h3 with h4 | h4
     ·exact hm (List.mem_append_left _ h4)
     ·rw[h4]at hq;cases hq
    ·exact hm (List.mem_append_right _ h3)
   exact⟨en,by rw[bL h2];exact h1,.refl _⟩
 refine⟨by rw[List.length_append,←hm];exact ha.own,h.zN.same fun q hq=> ?_,(h.jD.mono fun vs a=>up _ _ vs a hl).append (hz.mono fun vs a=>up _ _ vs a hl),h.Mm.mono fun vs a=>uq _ _ vs a hl,h.base.trans hl,ap⟩
 obtain⟨en,he⟩:=h.zN.block hq
 rw[he]
 exact ha.same q en he fun h1=>hvu q h1 hq
theorem gV.aiX(h:gV P e sz Q e' fk Hb H v l xs u k ys)(up:Up P)(uq:Up Q){m:Nat}{zs:List Value}{j:List β}(hm:m=k.length+j.length)(ha:App H u e' fk m (ys++zs) u' H')(hz:bA (Q (rem H (aw v++aw u))) fk zs j):gV P e sz Q e' fk Hb H' v l xs u' (k++j) (ys++zs):=
 (h.swap.append uq up hm ha (by rw[Mn];exact hz)).swap
theorem gV.form(h:gV P e sz Q e' fk Hb H v l xs u k ys):∃A c,v = .slice A l.length c:=h.own.form
theorem gV.ZI(h:gV P e sz Q e' fk Hb H v l xs u k ys):∃A c,u = .slice A k.length c:=h.zN.form
end
end Go.aq
namespace Go.aq
open Go.Proofs Num Lp
theorem Rd.drop{H:Heap}{A:Option Addr}{xs:List Value}(h:Rd H A xs)(k:Nat):Rd H (A.map (·.add k)) (xs.drop k):=fun i v hv=>by
 rw[List.getElem?_drop]at hv
 obtain⟨ad,h1,h2⟩:=h (k+i) v hv
 exact⟨ad.add k,by rw[h1];rfl,by rw[Addr.add_add];exact h2⟩
section
variable {α:Type} {P:Heap→List Value→α→Prop} {sz:Nat} {H:Heap} {A:Option Addr} {c:Nat} {l:List α}
theorem aQ.from(h:aQ P sz H (.slice A l.length c) l){k:Nat}(hk:k≤l.length):aQ P sz H (.slice (if c=k then A else A.map (·.add (k*sz))) (l.length-k) (c-k)) (l.drop k):=by
 obtain⟨A',c',xs,e,h1,h2,h3⟩:=h
 simp only[Value.slice.injEq]at e
 obtain⟨rfl,_,rfl⟩:=e
 by_cases e:c=k
 ·rw[if_pos e]
  have e2:l.drop k = []:=List.drop_eq_nil_of_le (by omega)
  rw[e2]
  exact⟨A,c-k,[],by rw[show l.length-k=0 by omega];rfl,Nat.zero_le _,Rd.nil _ _,qx⟩
 ·rw[if_neg e]
  exact⟨_,c-k,xs.drop (k*sz),by rw[List.length_drop],by rw[List.length_drop];omega,h2.drop _,h3.drop k⟩
theorem aQ.upto(h:aQ P sz H (.slice A l.length c) l){k:Nat}(hk:k≤l.length):aQ P sz H (.slice (if c=0 then A else A.map (·.add (0*sz))) (k-0) (c-0)) (l.take k):=by
 obtain⟨A',c',xs,e,h1,h2,h3⟩:=h
 simp only[Value.slice.injEq]at e
 obtain⟨rfl,_,rfl⟩:=e
 rw[yQ]
 exact⟨A,c,xs.take (k*sz),by rw[List.length_take,Nat.min_eq_left hk];rfl,by rw[List.length_take];omega,h2.take _,h3.take hk⟩
end
def One{α:Type}(P:Heap→List Value→α→Prop):Prop:=∀H vs a,P H vs a→∀u,u∈vs→u.oneCell'=true
theorem ZJ(N:Nat):One (fK N):=fun _ vs q h u hu=>by
 obtain⟨A,c,k,f,A1,m1,c1,A2,m2,c2,rfl,_⟩:=fK.cells h
 simp only[List.mem_cons,List.not_mem_nil,or_false]at hu
 rcases hu with rfl | rfl | rfl | rfl | rfl <;> rfl
theorem bA.aiY{α:Type}{P:Heap→List Value→α→Prop}{sz:Nat}{H:Heap}{xs:List Value}{l:List α}(h:bA (P H) sz xs l)(o:One P)(hz:0<sz):∀u,u∈xs→u.oneCell'=true:=fun u hu=>by
 obtain⟨k,hk⟩:=List.getElem?_of_mem hu
 have Pe:=(List.getElem?_eq_some_iff.1 hk).1
 have hd:=Nat.div_add_mod k sz
 have hm:=Nat.mod_lt k hz
 have bX:k/sz<l.length:=by
  rw[h.len]at Pe
  exact(Nat.div_lt_iff_lt_mul hz).2 Pe
 refine o H _ _ (h.at_ (k/sz) l[k/sz] (List.getElem?_eq_getElem bX)) u ?_
 apply List.mem_of_getElem? (i:=k%sz)
 unfold fZ
 rw[List.getElem?_take,if_pos hm,List.getElem?_drop,←hk]
 congr 1
 rw[Nat.mul_comm];exact hd
theorem EK{P:Program}{n:Nat}{all:Array Oper}{md:Mode}{r:List Oper}{s:St}{H Hb:Heap}{K:St→Heap→Prop}{dst:Option Nat}{ty:TypeId}{pos:String}{after:Array _}{gd:Option (Nat×Bool)}
  {α:Type} {Q:Heap→List Value→α→Prop} {t e sz bytes:Nat} {x y:Operand} {z v w:Value} {l k:List α} {xs:List Value} (up:Up Q) (one:One Q) (hz:0<sz) (ht:P.underlying t=some (.slice e)) (he:fA P e sz z bytes) (hx:ev s x=some v) (hy:ev s y=some w)
  (hG:dU Q e sz Hb H v l xs) (hs:aQ Q sz (rem H (aw v)) w k) (hb:(l.length+k.length)*bytes≤140737488355328) (pB:l.length+k.length≤9223372036854775807)
  (hk:∀v' H' ys,dU Q e sz Hb H' v' (l++k) ys→Heap.le (rem H (aw v)) H'→aT P n all md r (bE s dst (.val v')) H' K) (hg:cn all s gd=some true:=by rfl) (nb:md.nb s dst=true:=by rfl):aT P n all md (⟨dst,.call ⟨.builtin .append,#[x,y],#[t,t]⟩,ty,pos,after,gd⟩::r) s H K:=by
 obtain⟨A,c,news,rfl,h1,h2,h3⟩:=hs
 refine dW ht he hx hy hG.own (h2.le (bD _ _)) h3.len (h3.aiY one hz) hb pB (fun v' H' ha=> ?_) hg nb
 have vH:=hG.vU.append up rfl ha h3
 exact hk v' H' _ (vH.down hG.base) vH.le
end Go.aq
namespace Go.aq
open Go.Proofs Num Lp
structure fE{α:Type}(gs:List Nat)(H0:Heap)(P:Heap→List Value→α→Prop)(e sz:Nat)(H:Heap)(v:Value)(l:List α)(xs:List Value):Prop where
 own:bR H v e sz l.length xs
 jD:bA (P (rem H (gs++aw v))) sz xs l
 base:Heap.le (rem H0 gs) (rem H (gs++aw v))
 same:∀q,q∈gs→H q=H0 q
 live:∀q,q∈gs→H0 q≠none
 apart:∀q,q∈gs→¬q∈aw v
section
variable {α:Type} {gs:List Nat} {H0 H H':Heap} {P:Heap→List Value→α→Prop} {e sz:Nat} {v v':Value} {l:List α} {xs:List Value}
theorem fE.le(h:fE gs H0 P e sz H v l xs):Heap.le H0 H:=fun q en hq=>by
 by_cases hm:q∈gs
 ·exact⟨en,by rw[h.same q hm];exact hq,.refl _⟩
 ·obtain⟨Ek,h1,h2⟩:=h.base q en (by rw[bL hm];exact hq)
  by_cases jo:q∈gs++aw v
  ·rw[rem_in jo]at h1;cases h1
  ·rw[bL jo]at h1;exact⟨Ek,h1,h2⟩
theorem Mo(hl:∀q,q∈gs→H q≠none):fE gs H P e sz H (.slice none 0 0) [] []:=⟨kL H e sz,qx,by rw[zM,List.append_nil];exact .refl _,fun _ _=>rfl,hl,fun q _ hq=>by rw[zM]at hq;cases hq⟩
theorem fE.form(h:fE gs H0 P e sz H v l xs):∃A c,v = .slice A l.length c:=h.own.form
theorem fE.nT(h:fE gs H0 P e sz H v l xs):∀q,q∈gs++aw v→H q≠none:=fun q hq=>by
 rcases List.mem_append.1 hq with hq | hq
 ·rw[h.same q hq];exact h.live q hq
 ·obtain⟨en,he⟩:=h.own.block (cF.1 hq);rw[he];simp
theorem fE.step(h:fE gs H0 P e sz H v l xs)(up:Up P)(hs:∀q,q∈gs++aw v→H' q=H q)(hl:Heap.le (rem H (gs++aw v)) (rem H' (gs++aw v))):fE gs H0 P e sz H' v l xs:=
 ⟨h.own.same fun q hq=>hs q (List.mem_append_right _ (cF.2 hq)),h.jD.mono fun vs a=>up _ _ vs a hl,h.base.trans hl,fun q hq=>(hs q (List.mem_append_left _ hq)).trans (h.same q hq),h.live,h.apart⟩
theorem fE.kX(h:fE gs H0 P e sz H v l xs)(up:Up P){bF:Value→Heap→Prop}{r:Value}(hf:qw (gs++aw v) bF H r H')(hl:∀v' K,bF v' K→Heap.le (rem H (gs++aw v)) K):fE gs H0 P e sz H' v l xs:=h.step up hf.same (hl _ _ hf.post)
theorem fE.call(h:fE gs H0 P e sz H v l xs){R:Program}{f:FuncId}{args:Array Value}{bF:Value→Heap→Prop}(hc:Fn R f args (rem H (gs++aw v)) bF):Fn R f args H (qw (gs++aw v) bF H):=Fn.frame h.nT hc
theorem fE.ins(h:fE gs H0 P e sz H v l xs)(up:Up P){g:Nat}(en:Ent)(hg:H g=none):fE gs H0 P e sz (ins H g en) v l xs:=by
 have hn:¬g∈gs++aw v:=fun hm=>h.nT g hm hg
 refine h.step up (fun q hq=>bg _ _ fun e=>hn (e▸hq)) ?_
 rw[vw _ hn]
 exact Heap.bG _ (by rw[bL hn];exact hg)
theorem fE.append(h:fE gs H0 P e sz H v l xs)(up:Up P){m:Nat}{zs:List Value}{j:List α}(hm:m=l.length+j.length)(ha:App H v e sz m (xs++zs) v' H')(hz:bA (P (rem H (gs++aw v))) sz zs j):fE gs H0 P e sz H' v' (l++j) (xs++zs):=by
 have new:∀q,q∈aw v'→q∈aw v∨H q=none:=fun q hq=>by
  rcases ha.at_ with h4 | ⟨g,h4,h5⟩
  ·exact .inl (cF.2 (h4▸cF.1 hq))
  ·have:=cF.1 hq;rw[h4]at this;cases this;exact .inr h5
 have ap:∀q,q∈gs→¬q∈aw v':=fun q hg hq=>by
  rcases new q hq with h1 | h1
  ·exact h.apart q hg h1
  ·exact h.nT q (List.mem_append_left _ hg) h1
 have hl:Heap.le (rem H (gs++aw v)) (rem H' (gs++aw v')):=fun q en hq=>by
  by_cases hm:q∈gs++aw v
  ·rw[rem_in hm]at hq;cases hq
  ·rw[bL hm]at hq
   have h1:=ha.same q en hq fun e=>hm (List.mem_append_right _ (cF.2 e))
   have h2:¬q∈gs++aw v':=fun h2=>by
    rcases List.mem_append.1 h2 with h3 | h3
    ·exact hm (List.mem_append_left _ h3)
    ·rcases new q h3 with h4 | h4
     ·exact hm (List.mem_append_right _ h4)
     ·rw[h4]at hq;cases hq
   exact⟨en,by rw[bL h2];exact h1,.refl _⟩
 refine⟨by rw[List.length_append,←hm];exact ha.own,(h.jD.mono fun vs a=>up _ _ vs a hl).append (hz.mono fun vs a=>up _ _ vs a hl),h.base.trans hl,fun q hq=> ?_,h.live,ap⟩
 rw[←h.same q hq]
 obtain⟨en,he⟩:=Option.ne_none_iff_exists'.1 (h.nT q (List.mem_append_left _ hq))
 rw[he]
 exact ha.same q en he fun h1=>h.apart q hq (cF.2 h1)
theorem fE.sl(h:fE gs H0 P e sz H v l xs)(up:Up P):aQ P sz (rem H gs) v l:=by
 have h1:Heap.le (rem H (gs++aw v)) (rem H gs):=vV fun q hq=>List.mem_append_left _ hq
 exact DI.sl ⟨xs,h.own.same fun q hq=>bL fun hg=>h.apart q hg (cF.2 hq),h.jD.mono fun vs a=>up _ _ vs a h1⟩
theorem fE.out(h:fE gs H0 P e sz H v l xs):Heap.le (rem H0 gs) (rem H gs):=h.base.trans (vV fun q hq=>List.mem_append_left _ hq)
end
end Go.aq
namespace Lp
structure aO where
 c:Int
 ts:List (Int×Int)
def nu:aO:=⟨0,[]⟩
def qV:List (Int×Int)→Int→Int
 | [],_=>0
 | t::l,v=>if t.1=v then t.2 else qV l v
def aO.bN(l:aO)(v:Int):Int:=qV l.ts v
def aO.vars(l:aO):List Int:=l.ts.map (·.1)
def nth(fs:List aO)(i:Nat):aO:=fs.getD i nu
theorem aiZ{fs:List aO}{i:Nat}{f:aO}(h:fs[i]? = some f):nth fs i=f:=by simp[nth,List.getD,h]
theorem ZK:∀{l:List (Int×Int)}{v:Int},¬v∈l.map (·.1)→qV l v=0
 | [],_,_=>rfl
 | t::l,v,h=>by
  simp only[List.map_cons,List.mem_cons,not_or]at h
  simp only[qV]
  rw[if_neg (fun e=>h.1 e.symm)]
  exact ZK h.2
theorem RL{f:aO}{v:Int}(h:¬v∈f.vars):f.bN v=0:=ZK h
theorem ZL:∀{l:List (Int×Int)}{v:Int},qV l v=0∨∃t,t∈l∧t.1=v∧qV l v=t.2
 | [],_=> .inl rfl
 | t::l,v=>by
  simp only[qV]
  split
  ·exact .inr ⟨t,by simp,by assumption,rfl⟩
  ·rcases ZL (l:=l) (v:=v)with h | ⟨u,h1,h2,h3⟩
   ·exact .inl h
   ·exact .inr ⟨u,by simp[h1],h2,h3⟩
structure eK(l:aO):Prop where
 const: -1048576≤l.c∧l.c≤1048576
 len:l.ts.length≤16
 term:∀(i:Nat)(t:Int×Int),l.ts[i]? = some t→t.2≠0∧-1048576≤t.2∧t.2≤1048576∧-1≤t.1∧t.1<3000
 Iw:∀(i:Nat)(a b:Int×Int),l.ts[i]? = some a→l.ts[i+1]? = some b→a.1<b.1
theorem eK.kY{f:aO}(h:eK f)(v:Int): -1048576≤f.bN v∧f.bN v≤1048576:=by
 rcases ZL (l:=f.ts) (v:=v)with e | ⟨t,h1,h2,h3⟩
 ·unfold aO.bN;rw[e];decide
 ·obtain⟨i,hi⟩:=List.getElem?_of_mem h1
  have:=h.term i t hi
  unfold aO.bN;rw[h3];exact⟨this.2.1,this.2.2.1⟩
theorem ZM:eK nu:=⟨by decide,by decide,fun i t h=>by simp[nu]at h,fun i a b h=>by simp[nu]at h⟩
def jE:List Int→Int→List Int
 | [],x=>[x]
 | y::l,x=>if y<x then y::jE l x else if y=x then y::l else x::y::l
def uD(l:List Int):Prop:=l.Pairwise (· < ·)
theorem RM{x v:Int}:∀{l:List Int},v∈jE l x↔v=x∨v∈l
 | []=>by simp[jE]
 | y::l=>by
  unfold jE
  split
  ·rw[List.mem_cons,RM,List.mem_cons]
   constructor
   ·rintro(h | h | h) <;> simp[h]
   ·rintro(h | h | h) <;> simp[h]
  ·split
   ·rename_i e;rw[List.mem_cons,e]
    constructor
    ·rintro(h | h) <;> simp[h]
    ·rintro(h | h | h) <;> simp[h]
   ·rw[List.mem_cons]
theorem ZN{x:Int}:∀{l:List Int},uD l→uD (jE l x)
 | [],_=>by simp[jE,uD]
 | y::l,h=>by
  have h1:=List.pairwise_cons.1 h
  unfold jE
  split
  ·rename_i hy
   refine List.pairwise_cons.2 ⟨fun v hv=> ?_,ZN h1.2⟩
   rcases RM.1 hv with rfl | hv
   ·exact hy
   ·exact h1.1 v hv
  ·split
   ·exact h
   ·refine List.pairwise_cons.2 ⟨fun v hv=> ?_,h⟩
    rcases List.mem_cons.1 hv with rfl | hv
    ·omega
    ·have:=h1.1 v hv;omega
theorem ZO:∀{l k:List Int},uD l→uD k→(∀v,v∈l↔v∈k)→l=k
 | [],[],_,_,_=>rfl
 | [],y::k,_,_,h=>by have:=(h y).2 (by simp);cases this
 | x::l,[],_,_,h=>by have:=(h x).1 (by simp);cases this
 | x::l,y::k,hl,hk,h=>by
  have h1:=List.pairwise_cons.1 hl
  have h2:=List.pairwise_cons.1 hk
  have e:x=y:=by
   have a:=(h x).1 (by simp)
   have b:=(h y).2 (by simp)
   rcases List.mem_cons.1 a with a | a
   ·exact a
   ·rcases List.mem_cons.1 b with b | b
    ·exact b.symm
    ·have:=h1.1 y b;have:=h2.1 x a;omega
  subst e
  congr 1
  refine ZO h1.2 h2.2 fun v=> ?_
  have h3:=h v
  simp only[List.mem_cons]at h3
  constructor
  ·intro hv
   have h4:=h1.1 v hv
   rcases h3.1 (.inr hv)with e | e
   ·omega
   ·exact e
  ·intro hv
   have h4:=h2.1 v hv
   rcases h3.2 (.inr hv)with e | e
   ·omega
   ·exact e
theorem ZP(x:Int):∀l:List Int,(jE l x).length≤l.length+1
 | []=>by simp[jE]
 | y::l=>by
  unfold jE
  split
  ·have:=ZP x l;simp;omega
  ·split <;> simp
theorem RN:∀(k l:List Int),(k.foldl jE l).length≤l.length+k.length
 | [],l=>by simp
 | x::k,l=>by have:=RN k (jE l x);have:=ZP x l;simp;omega
theorem RO{v:Int}:∀{k l:List Int},v∈k.foldl jE l↔v∈l∨v∈k
 | [],l=>by simp
 | x::k,l=>by
  rw[List.foldl_cons,RO,RM,List.mem_cons]
  constructor
  ·rintro((h | h) | h) <;> simp[h]
  ·rintro(h | h | h) <;> simp[h]
theorem ZQ:∀{k l:List Int},uD l→uD (k.foldl jE l)
 | [],l,h=>h
 | x::k,l,h=>ZQ (k:=k) (ZN h)
def gM(fs:List aO):List Int:=fs.flatMap aO.vars
def dg(fs:List aO):List Int:=(gM fs).foldl jE []
theorem xT{fs:List aO}{v:Int}:v∈dg fs↔∃f,f∈fs∧v∈f.vars:=by
 unfold dg gM;rw[RO,List.mem_flatMap];simp
theorem ai0(fs:List aO):uD (dg fs):=ZQ List.Pairwise.nil
theorem ai1{fs:List aO}{l:List Int}(h:uD l)(hm:∀v,v∈l↔v∈gM fs):l=dg fs:=
 ZO h (ai0 fs) fun v=>by rw[hm v];unfold dg;rw[RO];simp
theorem ZR(fs:List aO):(dg fs).length≤(gM fs).length:=by have:=RN (gM fs) [];simpa [dg]using this
theorem Ix{k:Nat}:∀{fs:List aO},(∀f,f∈fs→f.ts.length≤k)→(gM fs).length≤fs.length*k
 | [],_=>by simp[gM]
 | f::fs,h=>by
  have h1:=h f (by simp)
  have h2:=Ix (fs:=fs) fun g hg=>h g (by simp[hg])
  simp only[gM,List.flatMap_cons,List.length_append,List.length_cons]at h2⊢
  have:f.vars.length=f.ts.length:=by simp[aO.vars]
  rw[Nat.add_mul];omega
theorem ai2{fs:List aO}{i:Nat}{f:aO}(h:fs[i]? = some f){v:Int}(hv:v∈f.vars):v∈dg fs:=xT.2 ⟨f,List.mem_of_getElem? h,hv⟩
structure lA(fs:List aO):Prop where
 len:fs.length≤200
 ok:∀(i:Nat)(f:aO),fs[i]? = some f→eK f
 vars:(dg fs).length≤100
def comb(fs:List aO)(x:Nat→Rat)(v:Int):Rat:=a7 fs.length (fun i=>x i*(((nth fs i).bN v:Int):Rat))
def qW(fs:List aO)(x:Nat→Rat):Rat:=a7 fs.length (fun i=>x i*(((nth fs i).c:Int):Rat))
def xU(n:Nat)(x:Nat→Rat):Prop:=∀i,i<n→0≤x i
structure Ent(fs:List aO)(g:aO)(x:Nat→Rat):Prop where
 pos:xU fs.length x
 bN:∀v,comb fs x v=((g.bN v:Int):Rat)
 const:qW fs x≤((g.c:Int):Rat)
structure Ref(fs:List aO)(x:Nat→Rat):Prop where
 pos:xU fs.length x
 bN:∀v,comb fs x v=0
 const:qW fs x<0
def RP(fs:List aO)(g:aO):Prop:=(∃x,Ent fs g x)∨∃x,Ref fs x
theorem RQ{fs:List aO}{x:Nat→Rat}{v:Int}(h:¬v∈dg fs):comb fs x v=0:=by
 refine lM fun i hi=> ?_
 have h0:fs[i]? = some (nth fs i):=by rw[nth,List.getD,List.getElem?_eq_getElem hi];rfl
 rw[RL fun hv=>h (ai2 h0 hv)];grind
theorem RR{fs:List aO}{i:Nat}(hi:i<fs.length):fs[i]? = some (nth fs i):=by rw[nth,List.getD,List.getElem?_eq_getElem hi];rfl
theorem ai3{α:Type}{d:α}(h:α→Rat){l:List α}{j:Nat}(hj:j<l.length):fn (l.map h) j=h (l.getD j d):=by
 simp[fn,List.getD,List.getElem?_map,List.getElem?_eq_getElem hj]
def cN(fs:List aO)(vs:List Int)(g:aO)(b:Int):Prg:=⟨List.replicate fs.length false,vs.map (fun v=>(fs.map (fun f=>((f.bN v:Int):Rat)),(2:Int),((g.bN v:Int):Rat))) ++ [(fs.map (fun f=>((f.c:Int):Rat)),(1:Int),(b:Rat))]⟩
theorem ai4{fs:List aO}{vs:List Int}(g:aO)(b:Int)(h1:fs.length≤400)(h2:vs.length≤799):(cN fs vs g b).Ok:=by
 refine⟨by simp[cN];exact h1,by simp[cN];omega,fun i r hr=> ?_⟩
 simp only[cN]at hr
 by_cases hi:i<vs.length
 ·rw[List.getElem?_append_left (by simpa using hi),List.getElem?_map,List.getElem?_eq_getElem hi]at hr
  cases hr
  exact⟨by simp[cN],.inr (.inl rfl)⟩
 ·rw[List.getElem?_append_right (by simpa using hi)]at hr
  have:=(List.getElem?_eq_some_iff.1 hr).1
  simp at this
  rw[show i-(vs.map (fun v=>(fs.map (fun f=>((f.bN v:Int):Rat)),(2:Int),((g.bN v:Int):Rat)))).length=0 by simp;omega]at hr
  cases hr
  exact⟨by simp[cN],.inl rfl⟩
theorem ZS{fs:List aO}{vs:List Int}{g:aO}{b:Int}{i:Nat}{v:Int}(h:vs[i]? = some v):(cN fs vs g b).row i=(fs.map (fun f=>((f.bN v:Int):Rat)),(2:Int),((g.bN v:Int):Rat)):=by
 have hi:=(List.getElem?_eq_some_iff.1 h).1
 refine Prg.r6 ?_
 simp only[cN]
 rw[List.getElem?_append_left (by simpa using hi),List.getElem?_map,h];rfl
theorem ai5{fs:List aO}{vs:List Int}{g:aO}{b:Int}:(cN fs vs g b).row vs.length=(fs.map (fun f=>((f.c:Int):Rat)),(1:Int),(b:Rat)):=by
 refine Prg.r6 ?_
 simp only[cN]
 rw[List.getElem?_append_right (by simp)];simp
theorem Mp{fs:List aO}{vs:List Int}{g:aO}{b:Int}{x:Nat→Rat}:(cN fs vs g b).lp.ib 1 x↔xU fs.length x∧(∀v,v∈vs→comb fs x v=((g.bN v:Int):Rat))∧qW fs x≤(b:Rat):=by
 have hn:(cN fs vs g b).lp.n=fs.length:=by simp[Prg.lp,cN]
 have hm:(cN fs vs g b).lp.m=vs.length+1:=by simp[Prg.lp,cN]
 have uV:∀j,(cN fs vs g b).lp.free j=false:=fun j=>by
  simp only[Prg.lp,cN,List.getD,List.getElem?_replicate]
  split <;> rfl
 have hd:∀h:aO→Rat,cJ fs.length (fn (fs.map h)) x=a7 fs.length (fun i=>x i*h (nth fs i)):=fun h=>
  eM fun j hj=>by rw[ai3 (d:=nu) h hj];exact Rat.mul_comm _ _
 have px:∀i v,vs[i]? = some v→(vA ((cN fs vs g b).lp.rel i) (cJ (cN fs vs g b).lp.n ((cN fs vs g b).lp.a i) x-(cN fs vs g b).lp.b i*1)↔comb fs x v=((g.bN v:Int):Rat)):=fun i v hv=>by
  rw[hn]
  show vA ((cN fs vs g b).row i).2.1 (cJ fs.length (fn ((cN fs vs g b).row i).1) x-((cN fs vs g b).row i).2.2*1)↔_
  rw[ZS hv,hd]
  constructor
  ·intro h
   have:=h.2.1 rfl
   show a7 _ _=_
   grind
  ·intro h
   refine⟨fun e=>absurd e (show ¬(2:Int)=1 by decide),fun _=> ?_,fun e=>absurd e (show ¬(2:Int)=3 by decide)⟩
   have h':a7 fs.length (fun i=>x i*(((nth fs i).bN v:Int):Rat))=((g.bN v:Int):Rat):=h
   show a7 fs.length (fun i=>x i*(((nth fs i).bN v:Int):Rat))-((g.bN v:Int):Rat)*1=0
   grind
 have kQ:vA ((cN fs vs g b).lp.rel vs.length) (cJ (cN fs vs g b).lp.n ((cN fs vs g b).lp.a vs.length) x-(cN fs vs g b).lp.b vs.length*1)↔qW fs x≤(b:Rat):=by
  rw[hn]
  show vA ((cN fs vs g b).row vs.length).2.1 (cJ fs.length (fn ((cN fs vs g b).row vs.length).1) x-((cN fs vs g b).row vs.length).2.2*1)↔_
  rw[ai5,hd]
  constructor
  ·intro h
   have:=h.1 rfl
   show a7 _ _≤_
   grind
  ·intro h
   refine⟨fun _=> ?_,fun e=>absurd e (show ¬(1:Int)=2 by decide),fun e=>absurd e (show ¬(1:Int)=3 by decide)⟩
   have h':a7 fs.length (fun i=>x i*(((nth fs i).c:Int):Rat))≤(b:Rat):=h
   show a7 fs.length (fun i=>x i*(((nth fs i).c:Int):Rat))-(b:Rat)*1≤0
   grind
 constructor
 ·intro h
  refine⟨fun i hi=>h.1 i (by rw[hn];exact hi) (uV i),fun v hv=> ?_,?_⟩
  ·obtain⟨i,hi⟩:=List.getElem?_of_mem hv
   exact(px i v hi).1 (h.2 i (by rw[hm];have:=(List.getElem?_eq_some_iff.1 hi).1;omega))
  ·exact kQ.1 (h.2 vs.length (by rw[hm];omega))
 ·rintro⟨h1,h2,h3⟩
  refine⟨fun j hj _=>h1 j (by rw[hn]at hj;exact hj),fun i hi=> ?_⟩
  rw[hm]at hi
  by_cases e:i<vs.length
  ·exact(px i _ (List.getElem?_eq_getElem e)).2 (h2 _ (List.getElem_mem e))
  ·obtain rfl:i=vs.length:=by omega
   exact kQ.2 h3
theorem ai6{fs:List aO}{g:aO}{x:Nat→Rat}(h:(cN fs (dg (fs ++ [g])) g g.c).lp.ib 1 x):Ent fs g x:=by
 obtain⟨h1,h2,h3⟩:=Mp.1 h
 refine⟨h1,fun v=> ?_,h3⟩
 by_cases hv:v∈dg (fs ++ [g])
 ·exact h2 v hv
 ·rw[RQ fun h=>hv ?_,RL fun h=>hv (xT.2 ⟨g,by simp,h⟩)]
  ·rfl
  ·obtain⟨f,h4,h5⟩:=xT.1 h
   exact xT.2 ⟨f,by simp[h4],h5⟩
theorem Ent.RS{fs:List aO}{g:aO}{x:Nat→Rat}(h:Ent fs g x)(vs:List Int):(cN fs vs g g.c).lp.ib 1 x:=
 Mp.2 ⟨h.pos,fun v _=>h.bN v,h.const⟩
theorem ai7(v:Int):nu.bN v=0:=rfl
theorem ai8{fs:List aO}{x:Nat→Rat}(h:(cN fs (dg (fs ++ [nu])) nu (-1)).lp.ib 1 x):Ref fs x:=by
 obtain⟨h1,h2,h3⟩:=Mp.1 h
 have h9:((-1:Int):Rat) = -1:=rfl
 refine⟨h1,fun v=> ?_,by rw[h9]at h3;grind⟩
 by_cases hv:v∈dg fs
 ·have:=h2 v (by obtain⟨f,h4,h5⟩:=xT.1 hv;exact xT.2 ⟨f,by simp[h4],h5⟩)
  rw[this];rfl
 ·exact RQ hv
theorem ai9(fs:List aO)(x:Nat→Rat)(k:Rat)(v:Int):comb fs (fun i=>k*x i) v=k*comb fs x v:=by
 unfold comb;rw[←tP];exact eM fun i _=>by grind
theorem aja(fs:List aO)(x:Nat→Rat)(k:Rat):qW fs (fun i=>k*x i)=k*qW fs x:=by
 unfold qW;rw[←tP];exact eM fun i _=>by grind
theorem Ref.RS{fs:List aO}{x:Nat→Rat}(h:Ref fs x)(vs:List Int):∃y,(cN fs vs nu (-1)).lp.ib 1 y:=by
 have h0:=h.const
 have hk:0<(- qW fs x)⁻¹:=Rat.inv_pos.2 (by grind)
 refine⟨fun i=>(- qW fs x)⁻¹*x i,Mp.2 ⟨fun i hi=>Rat.mul_nonneg (by grind) (h.pos i hi),fun v _=> ?_,?_⟩⟩
 ·rw[ai9,h.bN v,ai7];grind
 ·rw[aja]
  have:(- qW fs x)⁻¹*(- qW fs x)=1:=Rat.inv_mul_cancel _ (by grind)
  have h9:((-1:Int):Rat) = -1:=rfl
  rw[h9];grind
def mG(fs:List aO)(vs:List Int):Prg:=⟨vs.map (fun _=>true),fs.map (fun f=>(vs.map (fun v=>((f.bN v:Int):Rat)),(3:Int),((-f.c:Int):Rat)))⟩
def vW(g:aO)(vs:List Int):List Rat:=vs.map (fun v=>((g.bN v:Int):Rat))
theorem ZT{fs:List aO}{vs:List Int}(h1:fs.length≤800)(h2:vs.length≤400):(mG fs vs).Ok:=by
 refine⟨by simp[mG];exact h2,by simp[mG];exact h1,fun i r hr=> ?_⟩
 simp only[mG,List.getElem?_map]at hr
 cases hf:fs[i]? with
 | none=>rw[hf]at hr;cases hr
 | some f=>rw[hf]at hr;cases hr;exact⟨by simp[mG],.inr (.inr rfl)⟩
end Lp
namespace Lp
def ajb(fs:List aO)(x:Nat→Rat)(w:aO→Rat):Rat:=a7 fs.length (fun i=>x i*w (nth fs i))
end Lp
namespace Go.aq
section
variable {P:Program} {n:Nat} {all:Array Oper} {s:St} {H:Heap} {md:Mode} {K:St→Heap→Prop} {r:List Oper} {dst:Option Nat} {ty:TypeId} {pos:String} {after:Array Edge} {gd:Option (Nat×Bool)}
theorem ajc{t t' e:TypeId}{x y:Operand}{A:Option Addr}{m c:Nat}(ht:P.underlying t=some (.slice e))(hx:ev s x=some (.slice A m c))(hy:ev s y=some (.slice none 0 0))
  (hk:aT P n all md r (bE s dst (.val (.bool A.isNone))) H K) (hg:cn all s gd=some true:=by rfl) (nb:md.nb s dst=true:=by rfl):aT P n all md (⟨dst,.binOp .eql t x y t',ty,pos,after,gd⟩::r) s H K:=
 iW _ rfl hg nb (fun c' w hc _=>by
  have e:(eqGuard .eql t x y (.slice A m c) (.slice none 0 0)).run P w = .ok () w:=by simp[eqGuard]
  simp only[execOp,bT hc hx,bT hc hy,Sem.run_bind,e,run_eql_slice_nil w t _ A m c ht,Result.andThen_ok,Sem.run_pure]) hk
theorem ajd{t e sz bytes:Nat}{z:Value}(ht:P.underlying t=some (.slice e))(he:fA P e sz z bytes)
  (hk:∀g,H g=none→aT P n all md r (bE s dst (.val (.slice (some ⟨g,0,none⟩) 0 0))) (ins H g (whole [] e)) K) (hg:cn all s gd=some true:=by rfl) (nb:md.nb s dst=true:=by rfl):
  aT P n all md (⟨dst,.buildSlice t 0 #[],ty,pos,after,gd⟩::r) s H K:=
 .fresh (fun g=> .slice (some ⟨g,0,none⟩) 0 0) [] e (.inl rfl) nb (fun a w ha=>by
  refine⟨jJ ha (lf (o:=⟨dst,.buildSlice t 0 #[],ty,pos,after,gd⟩) hg),?_⟩
  obtain⟨i,hi,hz,cP,FH,J1,AK⟩:=he
  simp[execOp,Instr.buildSlice,run_underlying ht,sizeOf,typeInfo,program,Sem.run,hi,Instr.fill,newRow,newObj]
  congr 2
  exact Array.eq_empty_of_size_eq_zero (by simp)) fun g hg _=>hk g hg
end
end Go.aq
namespace Go.aq
open Go.Proofs Num Lp
theorem aje{α:Type}{P:Heap→List Value→α→Prop}{e sz:Nat}{H:Heap}{g:Nat}(hg:H g=none):dU P e sz H (ins H g (whole [] e)) (.slice (some ⟨g,0,none⟩) 0 0) [] []:=by
 refine⟨⟨by simp,.inr ⟨g,0,rfl,by rw[bn];simp[whole],Nat.le_refl _,Nat.zero_le _⟩⟩,qx,?_⟩
 show Heap.le H (rem _ [g])
 rw[tF _ hg,qv];exact .refl _
end Go.aq
namespace Go.aq
open Go.Proofs Num Lp
def gy(_:Heap)(vs:List Value)(t:Int×Int):Prop:=vs = [.int .i64 t.1,.int .i64 t.2]
theorem eZ:Up gy:=fun _ _ _ _ _ h=>h
def o0(H:Heap)(vs:List Value)(f:aO):Prop:=∃A c,vs = [.int .i64 f.c,.slice A f.ts.length c]∧aQ gy 2 H (.slice A f.ts.length c) f.ts
theorem iz:Up o0:=fun _ _ _ _ hl ⟨A,c,h1,h2⟩=>⟨A,c,h1,h2.le eZ hl⟩
theorem EL:One o0:=fun _ vs f ⟨A,c,h,_⟩ u hu=>by
 subst h
 simp only[List.mem_cons,List.not_mem_nil,or_false]at hu
 rcases hu with rfl | rfl <;> rfl
theorem Cl:One j8:=fun _ vs z h u hu=>by
 have h:vs = [.int .i64 z]:=h
 subst h
 rw[List.mem_singleton]at hu;rw[hu];rfl
abbrev jV(H:Heap)(v:Value)(fs:List aO):Prop:=aQ o0 2 H v fs
section
variable {H:Heap} {xs:List Value} {i:Nat}
theorem xV{l:List (Int×Int)}{t:Int×Int}(h:bA (gy H) 2 xs l)(hi:l[i]? = some t):∀(j:Nat)(u:Value),[.int .i64 t.1,.int .i64 t.2][j]? = some u→xs[i*2+j]? = some u:=fun j u hu=>by
 have h1:fZ xs i 2 = [.int .i64 t.1,.int .i64 t.2]:=h.at_ i t hi
 exact Ge (by rw[h1];exact hu)
theorem vX{fs:List aO}{f:aO}(h:bA (o0 H) 2 xs fs)(hi:fs[i]? = some f):∃A c,aQ gy 2 H (.slice A f.ts.length c) f.ts∧∀(j:Nat)(u:Value),[.int .i64 f.c,.slice A f.ts.length c][j]? = some u→xs[i*2+j]? = some u:=by
 obtain⟨A,c,h1,h2⟩:=h.at_ i f hi
 exact⟨A,c,h2,fun j u hu=>Ge (by rw[h1];exact hu)⟩
theorem zO{l:List Int}{z:Int}(h:bA (j8 H) 1 xs l)(hi:l[i]? = some z):xs[i]? = some (.int .i64 z):=by
 obtain⟨v,h1,h2⟩:=h.one hi
 have h2: [v] = [.int .i64 z]:=h2
 cases h2;exact h1
end
theorem Fn.bt{P:Program}{k:FuncId}{args:Array Value}{H:Heap}{b:Bool}(h:Fn P k args H (j5 H (.bool b)))(e:b=true):Fn P k args H (j5 H (.bool true)):=by subst e;exact h
theorem Fn.bf{P:Program}{k:FuncId}{args:Array Value}{H:Heap}{b:Bool}(h:Fn P k args H (j5 H (.bool b)))(e:b=false):Fn P k args H (j5 H (.bool false)):=by subst e;exact h
theorem ZU{fs:List aO}{i:Nat}{f:aO}(h:fs[i]? = some f):gM (fs.take (i+1))=gM (fs.take i)++f.vars:=by
 rw[aiN h];simp[gM]
theorem ZV{i:Nat}(h:0<i):((i:Int)-1).toNat=i-1:=by omega
theorem ZW{fs:List aO}{k:Nat}(h:∀f,f∈fs→f.ts.length≤k)(i:Nat):(gM (fs.take i)).length≤fs.length*k:=by
 have h1:=Ix (fs:=fs.take i) (k:=k) fun f hf=>h f (List.mem_of_mem_take hf)
 have h2:(fs.take i).length≤fs.length:=by rw[List.length_take];omega
 exact Nat.le_trans h1 (Nat.mul_le_mul_right _ h2)
end Go.aq
