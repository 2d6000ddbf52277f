/- Part 10 of the proof: Smp1, Mz3, Min, Keep1, Eng14, Keep2, Gen, Grw, Br1, Eng16, Fr1, Grw2, Cat, Grw3, Ent, Ent2, Eng15, Lx0, Lnd. -/
import Derived.Test.YtdjoookebbbjkaaGreatA09
import Derived.Deep.Slices
import Derived.Deep.Strs
import Derived.Carry
import Derived.Below
import Derived.DataElems
import Derived.Lib.LazyBuf
set_option linter.unusedVariables false
namespace Go.aq
open Go.Proofs Num Lp
theorem aiw{H:Heap}{v:Value}{p:Prg}{N:Nat}(hp:nt N H v p):
 Fn Tryz.prog 81 #[v] H (fun v H'=>H'=H∧∃b,v = .bool b∧(b=true↔p.Ok)):=by
 obtain⟨fv,kK,rfl,nx,ny⟩:=hp
 obtain⟨Af,cf,xf,rfl,p3,p4⟩:=nx.one
 obtain⟨Ar,cr,xr,rfl,kL,sX⟩:=ny.row;refine aY (args:=[_]) Tryz.func81 rfl rfl Tryz.ntmps81 rfl rfl fun w0=> ?_;refine ah [0] rfl ?_;refine ae (bZ rfl rfl (aa 1 rfl (ab [1] ?_)));refine ao ?_
 by_cases h1:400<(p.free.length:Int)
 ·
  skip
  refine ae (aa 3 rfl (aG true rfl rfl (oB h1) (aa 6 rfl (ab [1,14] ?_))));refine cI rfl (ae (aa 1 rfl (ab [2] ?_)));refine az ⟨.inr rfl,_,.tmp rfl (.nil),?_⟩;exact⟨rfl,false,rfl,⟨(fun h=>by cases h),(fun h=>by have h8:=h.pP;have h9:=h.rows;omega)⟩⟩
 ·
  skip
  by_cases h2:800<(p.rows.length:Int)
  ·
   skip
   refine ae (aa 3 rfl (aG false rfl rfl (kA (by omega)) (aa 4 rfl (aG true rfl rfl (oB h2) (aa 1 rfl (ab [1,14] ?_))))));refine cI rfl (ae (aa 1 rfl (ab [2] ?_)));refine az ⟨.inr rfl,_,.tmp rfl (.nil),?_⟩;exact⟨rfl,false,rfl,⟨(fun h=>by cases h),(fun h=>by have h8:=h.pP;have h9:=h.rows;omega)⟩⟩
  skip
  refine ae (aa 3 rfl (aG false rfl rfl (kA (by omega)) (aa 4 rfl (aG false rfl rfl (kA (by omega)) (aa 1 rfl (ab [1,14] ?_))))));refine dd rfl (aw (ah [1] rfl ?_));refine ao (ae (aa 4 rfl (ab [1,16,17,18] ?_)));refine aE (fI (fun(i:Nat)=>p.rows.length-i) (fun(i:Nat)=>put (put (put (put (emp) 1 (.box [.slice Af p.free.length cf,.slice Ar p.rows.length cr])) 16 (.val (.slice Ar p.rows.length cr))) 17 (.val (.int .i64 (p.rows.length:Int)))) 18 (.val (.int .i64 (i:Int)))) (fun(i:Nat) H'=>H'=H∧(∀(k:Nat)(r:List Rat×Int×Rat),k<i→p.rows[k]? = some r→Wv p.free.length r)∧i≤p.rows.length) 0 (⟨rfl,(fun k r h=>by omega),Nat.zero_le _⟩) ar ?_);rintro i H1 ⟨e1,L8,hi⟩;rw[e1];refine ae (aa 1 rfl (ab [1,16,17,18,19] ?_));refine ao (aD rfl (fun hb=> ?_) (fun hb=> ?_))
  ·
   have aO:i<p.rows.length:=by simpa using hb
   obtain⟨r,hr⟩:∃r,p.rows[i]? = some r:=⟨_,List.getElem?_eq_getElem aO⟩;obtain⟨A0,c0,f,A1,m1,c1,A2,m2,c2,gT,xI⟩:=sX i r hr;refine aw (ah [1,16,17,18] rfl ?_);refine ao (aE (ae (bY (vs:=[.slice A0 r.1.length c0,.int .i64 r.2.1,.bool f,.slice A1 m1 c1,.slice A2 m2 c2]) ag rfl rfl rfl rfl kL rfl (by decide) xI (by omega) (by omega) fun _=>(bm kU rfl ?_))));obtain⟨ti,aj,ak⟩:=oA;refine aI (.inl ⟨rfl,rfl⟩) rfl rfl rfl aj ak rfl rfl rfl (ab [1,4,16,17,18] ?_);refine ao (ae (aa 7 rfl (ab [1,4,16,17,18,28] ?_)));refine aD rfl (fun hb=> ?_) (fun hb=> ?_)
   ·
    have dg:¬r.1.length=p.free.length:=by simpa [Int.natCast_inj]using hb
    refine ae (aa 1 rfl (ab [2] ?_));refine az ⟨.inr rfl,_,.tmp rfl (.nil),?_⟩;exact⟨rfl,false,rfl,⟨(fun h=>by cases h),fun h=>absurd (h.row i r hr).1 dg⟩⟩
   have dg:r.1.length=p.free.length:=by simpa [Int.natCast_inj]using hb
   refine aw (ah [1,4,16,17,18] rfl ?_)
   by_cases h1:r.2.1=1
   ·
    skip
    refine ae (aa 2 rfl (aG false rfl rfl (wE h1) (aa 10 rfl (ab [1,16,17,18,41] ?_))));refine dd rfl (aw (ah [1,16,17,18] rfl ?_));refine aA rfl (aF rfl rfl ⟨by omega,by omega⟩ (aa 1 rfl (au ?_)));exact⟨i+1,by omega,ar,rfl,(fun k r9 hk nC=>by by_cases h9:k<i;exact L8 k r9 h9 nC;(obtain rfl:k=i:=by omega);rw[hr]at nC;cases nC;exact⟨dg,.inl h1⟩),by omega⟩
   skip
   by_cases h2:r.2.1=2
   ·
    skip
    refine ae (aa 2 rfl (aG true rfl rfl (vx h1) (aa 3 rfl (aG false rfl rfl (wE h2) (aa 6 rfl (ab [1,16,17,18,41] ?_))))));refine dd rfl (aw (ah [1,16,17,18] rfl ?_));refine aA rfl (aF rfl rfl ⟨by omega,by omega⟩ (aa 1 rfl (au ?_)));exact⟨i+1,by omega,ar,rfl,(fun k r9 hk nC=>by by_cases h9:k<i;exact L8 k r9 h9 nC;(obtain rfl:k=i:=by omega);rw[hr]at nC;cases nC;exact⟨dg,.inr (.inl h2)⟩),by omega⟩
   skip
   by_cases h3:r.2.1=3
   ·
    skip
    refine ae (aa 2 rfl (aG true rfl rfl (vx h1) (aa 3 rfl (aG true rfl rfl (vx h2) (aa 4 rfl (aG false rfl rfl (wE h3) (aa 1 rfl (ab [1,16,17,18,41] ?_))))))));refine dd rfl (aw (ah [1,16,17,18] rfl ?_));refine aA rfl (aF rfl rfl ⟨by omega,by omega⟩ (aa 1 rfl (au ?_)));exact⟨i+1,by omega,ar,rfl,(fun k r9 hk nC=>by by_cases h9:k<i;exact L8 k r9 h9 nC;(obtain rfl:k=i:=by omega);rw[hr]at nC;cases nC;exact⟨dg,.inr (.inr h3)⟩),by omega⟩
   skip
   refine ae (aa 2 rfl (aG true rfl rfl (vx h1) (aa 3 rfl (aG true rfl rfl (vx h2) (aa 4 rfl (aG true rfl rfl (vx h3) (aa 1 rfl (ab [1,16,17,18,41] ?_))))))));refine cI rfl (ae (aa 1 rfl (ab [2] ?_)));refine az ⟨.inr rfl,_,.tmp rfl (.nil),?_⟩;exact⟨rfl,false,rfl,⟨(fun h=>by cases h),(fun h=>by have h9:=(h.row i r hr).2;omega)⟩⟩
  have hb:p.rows.length≤i:=by simpa using hb
  refine aU (ah [] rfl ?_);refine ae (aa 1 rfl (ab [2] ?_));refine az ⟨.inr rfl,_,.tmp rfl (.nil),?_⟩;exact⟨rfl,true,rfl,⟨fun _=>⟨by omega,by omega,fun k r hr=>L8 k r (by have h9:=(List.getElem?_eq_some_iff.1 hr).1;omega) hr⟩,fun _=>rfl⟩⟩
end Go.aq
namespace Go.aq
open Go.Proofs Num Lp
def Re(H:Heap)(v:Value)(S:xg):Prop:=∃f u w xv dv rv,v = .agg #[.int .i64 S.status,.bool f,u,w,xv,dv,rv]∧(bH H (.agg #[.bool f,u,w]) S.value∨(S.value=0∧f=false∧u = .slice none 0 0∧w = .slice none 0 0))∧aN cg 3 H xv S.x∧aN cg 3 H dv S.sy∧aN cg 3 H rv S.oR
def Zf(M:Nat)(S:xg):Prop:=∀q,q∈S.x∨q∈S.sy∨q∈S.oR∨q=S.value→aM q≤M
def Zg:Value:= .agg #[.int .i64 0,.bool false,.slice none 0 0,.slice none 0 0,.slice none 0 0,.slice none 0 0,.slice none 0 0]
def Zh(p:Prg)(c:List Rat)(S:xg):Prop:=S.status=1→∃T,I2 p c T∧S.value = -(T.c p.w)∧S.x=aK (dL.vec p.lay.pF p.lay.mF T.pt) p.lp.n
def L9(p:Prg)(c:List Rat)(M:Nat)(H:Heap)(v:Value)(H':Heap):Prop:=Heap.le H H'∧∃s e,v = .tuple #[s,.int .i64 e]∧
 ((¬p.Ok∧e=1∧s=Zg)∨(p.Ok∧c.length≠p.free.length∧e=21∧s=Zg)∨(p.Ok∧c.length=p.free.length∧e=0∧∃S,Re H' s S∧Bi p c S∧Zf (2*M+2) S∧Zh p c S))
theorem Ip{H:Heap}{α:Type}{P:Heap→List Value→α→Prop}{sz:Nat}:aN P sz H (.slice none 0 0) ([]:List α):=⟨none,0,[],rfl,Nat.le_refl _,(fun i v h=>by simp at h),sj⟩
theorem B0{f:Nat→Rat}{n:Nat}{q:Rat}(h:q∈aK f n):∃j,j<n∧q=f j:=by
 unfold aK at h
 obtain⟨j,hj,e⟩:=List.mem_map.1 h
 exact⟨j,List.mem_range.1 hj,e.symm⟩
section
variable {p:Prg} {c:List Rat} {M:Nat} {T:av} {H K:Heap}
theorem Rf{N n:Nat}{z:Nat→Rat}(h0:1≤N)(hz:∀j,j<p.w→aM (z j)≤N){j:Nat}(hj:j<p.lp.n):aM (dL.vec p.lay.pF p.lay.mF z j)≤2*N+1:=by
 have h1:=so (z (p.lay.pF j)) (iB z (p.lay.mF j))
 have h2:=hz _ (oX.pw j hj)
 have h3:aM (iB z (p.lay.mF j))≤N:=by
  rw[El hj]
  by_cases hf:p.lp.free j=true
  ·rw[if_pos hf]
   have:=HC p hj
   unfold nr at this
   rw[if_pos hf]at this
   have:=mI p
   have:=fy p
   exact hz _ (by omega)
  ·rw[if_neg hf];exact Nat.le_trans (show aM (0:Rat)≤1 by decide) h0
 unfold dL.vec;omega
theorem Zi{N:Nat}{f g:Nat→Rat}(hf:∀j,j<p.w→aM (f j)≤N)(hg:∀j,j<p.w→aM (g j)≤N){i:Nat}(hi:i<p.lp.m):aM (p.lay.sF i*(f (p.lay.uF i)-g (p.lay.uF i)))≤2*N+2:=by
 have h1:=sk (p.lay.sF i) (f (p.lay.uF i)-g (p.lay.uF i))
 have h2:=so (f (p.lay.uF i)) (g (p.lay.uF i))
 have h3:=oX.s1 i hi
 have h4:=hf _ (oX.uw i hi)
 have h5:=hg _ (oX.uw i hi)
 omega
theorem aix(bO:p.Ok)(fj:c.length=p.free.length)(hl:Fits p c M)(hle:Heap.le H K)(h:Inv p (pn p) T)(hn:∀j,j<p.u→0≤T.c j)(gg:T.c p.w<0){dv:Value}
  (hd:aN cg 3 K dv (aK (fun i=>p.lay.sF i*(pn p (p.lay.uF i)-T.c (p.lay.uF i))) p.lp.m)):L9 p c M H (.tuple #[.agg #[.int .i64 2,.bool false,.slice none 0 0,.slice none 0 0,.slice none 0 0,dv,.slice none 0 0],.int .i64 0]) K:=by
 have hz:=hl.BU _ h
 refine⟨hle,_,_,rfl,.inr (.inr ⟨bO,fj,rfl,⟨2,0,[],_,[]⟩,⟨_,_,_,_,_,_,rfl,.inr ⟨rfl,rfl,rfl,rfl⟩,Ip,hd,Ip⟩,.inr (.inl ⟨rfl,rfl,rfl,rfl,fj,YA bO h hn gg⟩),fun q hq=> ?_,fun e=>by cases e⟩)⟩
 rcases hq with hq | hq | hq | hq
 ·cases hq
 ·obtain⟨i,hi,rfl⟩:=B0 hq
  exact Zi (fun j _=>hl.pn j) (fun j hj=>hz.c j (by rw[h.rows.n];omega)) hi
 ·cases hq
 ·rw[hq];exact Nat.le_trans (show aM (0:Rat)≤2 by decide) (Nat.le_add_left 2 _)
theorem aiy(bO:p.Ok)(fj:c.length=p.free.length)(hl:Fits p c M)(hle:Heap.le H K)(h:I2 p c T)(hn:∀j,j<p.u→0≤T.c j){f:Bool}{u w xv dv:Value}
  (hv:bH K (.agg #[.bool f,u,w]) (-(T.c p.w))) (hx:aN cg 3 K xv (aK (dL.vec p.lay.pF p.lay.mF T.pt) p.lp.n)) (hd:aN cg 3 K dv (aK (fun i=>p.lay.sF i*(ki p c (p.lay.uF i)-T.c (p.lay.uF i))) p.lp.m)):
  L9 p c M H (.tuple #[.agg #[.int .i64 1,.bool f,u,w,xv,dv,.slice none 0 0],.int .i64 0]) K:=by
 have hz:=hl.qq _ h.1
 have h1:=YD bO fj h hn
 refine⟨hle,_,_,rfl,.inr (.inr ⟨bO,fj,rfl,⟨1,-(T.c p.w),_,_,[]⟩,⟨_,_,_,_,_,_,rfl,.inl hv,hx,hd,Ip⟩,.inl ⟨rfl,rfl,h1.1,h1.2⟩,fun q hq=> ?_,fun _=>⟨T,h,rfl,rfl⟩⟩)⟩
 have hb:=hl.one
 rcases hq with hq | hq | hq | hq
 ·obtain⟨j,hj,rfl⟩:=B0 hq
  exact Nat.le_trans (Rf (n:=0) hb (fun j hj=>Qu h.1.wf hz hb (by rw[h.1.rows.n];exact hj)) hj) (by omega)
 ·obtain⟨i,hi,rfl⟩:=B0 hq
  exact Zi (fun j _=>hl.ki j) (fun j hj=>hz.c j (by rw[h.1.rows.n];omega)) hi
 ·cases hq
 ·rw[hq,wX]
  exact Nat.le_trans (hz.c p.w (by rw[h.1.rows.n];exact Nat.le_refl _)) (by omega)
theorem aiz(bO:p.Ok)(fj:c.length=p.free.length)(hl:Fits p c M)(hle:Heap.le H K)(h:I2 p c T){s:Nat}(hs:s<p.u)(gg:T.c s<0)(hA:∀i,i<T.m→T.A i s≤0){xv rv:Value}
  (hx:aN cg 3 K xv (aK (dL.vec p.lay.pF p.lay.mF T.pt) p.lp.n)) (hr:aN cg 3 K rv (aK (dL.vec p.lay.pF p.lay.mF (T.dir s)) p.lp.n)):
  L9 p c M H (.tuple #[.agg #[.int .i64 3,.bool false,.slice none 0 0,.slice none 0 0,xv,.slice none 0 0,rv],.int .i64 0]) K:=by
 have hz:=hl.qq _ h.1
 have hb:=hl.one
 have mG:=fy p
 refine⟨hle,_,_,rfl,.inr (.inr ⟨bO,fj,rfl,⟨3,0,_,[],_⟩,⟨_,_,_,_,_,_,rfl,.inr ⟨rfl,rfl,rfl,rfl⟩,hx,Ip,hr⟩,.inr (.inr ⟨rfl,rfl,rfl,YE bO fj h hs gg hA⟩),fun q hq=> ?_,fun e=>by cases e⟩)⟩
 rcases hq with hq | hq | hq | hq
 ·obtain⟨j,hj,rfl⟩:=B0 hq
  exact Nat.le_trans (Rf (n:=0) hb (fun j hj=>Qu h.1.wf hz hb (by rw[h.1.rows.n];exact hj)) hj) (by omega)
 ·cases hq
 ·obtain⟨j,hj,rfl⟩:=B0 hq
  exact Nat.le_trans (Rf (n:=0) hb (fun j hj=>YF h.1.wf hz hb (by rw[h.1.rows.n];omega) (YG h.1.wf gg)) hj) (by omega)
 ·rw[hq];exact Nat.le_trans (show aM (0:Rat)≤2 by decide) (Nat.le_add_left 2 _)
end
end Go.aq
namespace Go.aq
open Go.Proofs Num Lp
theorem aiA{H:Heap}{v cv:Value}{p:Prg}{c:List Rat}{M N:Nat}(hp:nt N H v p)(hc:aN (dA N) 3 H cv c)(hl:Fits p c M)(hcN:(c.length:Int)≤1099511627776)(hN:(N:Int)≤549755813888)(anL:(M:Int)≤34359738368):
 Fn Tryz.prog 52 #[v,cv] H (L9 p c M H):=by
 obtain⟨fv,kK,rfl,nx,ny⟩:=id hp
 obtain⟨Af,cf,xf,rfl,p3,p4⟩:=nx.one
 obtain⟨Ar,cr,xr,rfl,kL,sX⟩:=ny.row
 obtain⟨Ac,cc,xc,rfl,L1,nP,PO⟩:=id hc;refine aY (args:=[_,_]) Tryz.func52 rfl rfl Tryz.ntmps52 rfl rfl fun w0=> ?_;refine ah [0,1] rfl ?_;refine ae (bZ rfl rfl (bm yC rfl (aa 1 rfl (ab [1,2,4] ?_))));refine ao (ae (aa 1 rfl (aB rfl rfl (aiw hp) ?_)));rintro v1 H1 ⟨e1,b1,rfl,dU⟩;rw[e1];refine aa 1 rfl (ab [1,2,4,13] ?_);refine aD rfl (fun hb=> ?_) (fun hb=> ?_)
 ·
  have hb:¬p.Ok:=fun h=>by have h9:=dU.2 h;rw[h9]at hb;simp at hb
  refine ae (di ag rfl yC rfl rfl ?_);obtain⟨ti,aj,ak⟩:=tG;refine aI (.inl ⟨rfl,rfl⟩) rfl rfl rfl aj ak rfl rfl rfl (aa 1 rfl (ab [4,5] ?_));obtain⟨b8,aP,aQ⟩:=tG;refine az ⟨.inr rfl,_,.agg rfl Tryz.underlying65 aP aQ (.tmp rfl (.nil)),?_⟩;exact⟨.refl _,_,_,rfl,.inl ⟨hb,rfl,rfl⟩⟩
 ·
  have bO:p.Ok:=dU.1 (by simpa using hb);have mr:=bO.pP;have QA:=bO.rows;have Q5:=HD p;have e1:p.lp.n=p.free.length:=rfl;have e2:p.lp.m=p.rows.length:=rfl
  have s4:(p.lay.w:Int)≤1000000:=by show ((p.w:Nat):Int)≤_;omega
  have Zj:((p.eh.m:Nat):Int)≤1000000:=by show ((p.rows.length:Nat):Int)≤_;omega
  have Zk:=hl.one;refine aw (ah [1,2,4] rfl ?_);refine ao (ae (aa 6 rfl (ab [1,2,4,20] ?_)));refine aD rfl (fun hb=> ?_) (fun hb=> ?_)
  ·
   have hb:c.length≠p.free.length:=by simpa [Int.natCast_inj]using hb
   refine ae (di ag rfl yC rfl rfl ?_);obtain⟨ti,aj,ak⟩:=tG;refine aI (.inl ⟨rfl,rfl⟩) rfl rfl rfl aj ak rfl rfl rfl (aa 1 rfl (ab [4,5] ?_));obtain⟨b8,aP,aQ⟩:=tG;refine az ⟨.inr rfl,_,.agg rfl Tryz.underlying65 aP aQ (.tmp rfl (.nil)),?_⟩;exact⟨.refl _,_,_,rfl,.inr (.inl ⟨bO,hb,rfl,rfl⟩)⟩
  have fj:c.length=p.free.length:=by simpa [Int.natCast_inj]using hb
  refine aw (ah [1,2,4] rfl ?_);refine ae (aa 1 rfl (aB rfl rfl (ahP (n:=p.free.length) (m:=p.rows.length) hp bO rfl rfl hN) ?_));rintro v5 H5 ⟨G,rfl,xo,anM,iP⟩;refine aa 1 rfl (ab [1,4,6] ?_);refine ae (aa 2 rfl (aB rfl rfl (Xe xo s4) ?_));rintro v6 H6 ⟨qI,fM,vU⟩;refine aB rfl rfl (Xs (N:=2*M) (f:=pn p) (xo.kept qI) vU (fun i hi=>nU p hi) (by omega) s4 Zj (fun j _=>Nat.le_trans (hl.pn j) (by omega)) (fun i hi j _=>Nat.le_trans (hl.tab i hi j) (by omega)) hl.Qw) ?_;rintro _ H7 ⟨ji,jk,_,s5,qY,PR⟩;refine ab [1,4,6] ?_;refine ae (aa 1 rfl (aB rfl rfl (WX (G:=(G.eU ji jk)) (N:=M) (I:=Inv p (pn p)) s5 qY (Inv.base BT) (fun S r s h hb=>h.step (by rw[h.rows.n];exact fy p) hb) (fun S h=>⟨h.wf,h.fp,hl.BU _ h,h.rows.m,h.rows.n⟩) (by omega) s4 Zj) ?_));rintro v8 H8 ⟨T8,uJ,qZ,PQ,qM,sY⟩
  have Hd:∀j,j<p.u→0≤T8.c j:=by rcases sY with ⟨_,h⟩ | ⟨s,_,h1,h2,h3⟩;exact h;exact(YC uJ h1 h2 h3).elim
  have Rg:=hl.BU _ uJ;have anN:aM (T8.c p.lay.w)≤M:=Rg.c _ (by rw[uJ.rows.n];exact Nat.le_refl _)
  have aiB:((T8.m:Nat):Int)≤1000000:=by rw[uJ.rows.m];omega
  refine ab [1,4,6] ?_;refine ao (ae (aa 1 rfl (aB rfl rfl (Xd (G:=(G.eU ji jk)) qZ PQ (by omega)) ?_)));rintro v9 H9 ⟨gG,ea,n9,d9,b9,rfl,fu⟩;refine aB rfl rfl (Fn.l0 (gG.ne qZ.ne) (tU fu (by rw[wX];omega))) ?_;rintro v10 nh ⟨HL,mJ,rfl⟩;have q3:=gG.trans HL;have Iq:=qZ.kept q3;have Ma:=PQ.kept q3;have Rh:=((((iP.trans qI.le).trans PR).trans qM).trans q3.le);refine aa 1 rfl (ab [1,4,6,33] ?_);refine aD rfl (fun hb=> ?_) (fun hb=> ?_)
  ·
   have gg:T8.c p.w<0:=by have h9:=DT.1 (show 0<eY (-(T8.c p.lay.w)) by simpa using hb);have h8:T8.c p.lay.w=T8.c p.w:=rfl;grind
   refine ae (aa 2 rfl (aB rfl rfl (Xe (G:=(G.eU ji jk)) Iq s4) ?_));rintro v11 ju ⟨B3,vX,aiC⟩;refine aB rfl rfl (Xr (G:=(G.eU ji jk)) (n:=p.lp.n) (m:=p.lp.m) (N:=M) (f:=pn p) (Iq.kept B3) (Ma.kept B3) oX aiC (fun j _=>hl.pn j) (fun j hj=>Rg.c j (by rw[uJ.rows.n];exact Nat.le_of_lt hj)) (by omega) s4 (by omega)) ?_;rintro v12 dG ⟨zo,lh,A12,c12,x12,rfl,aiD,aiE,aiF⟩;refine di ag rfl yC rfl rfl ?_;obtain⟨ti,aj,ak⟩:=tG;refine aI (.inl ⟨rfl,rfl⟩) rfl rfl rfl aj ak rfl rfl rfl (aa 1 rfl (ab [4,5] ?_));obtain⟨b8,aP,aQ⟩:=tG;refine az ⟨.inr rfl,_,.agg rfl Tryz.underlying65 aP aQ (.tmp rfl (.nil)),?_⟩;exact aix bO fj hl (((Rh.trans B3.le).trans zo.le).trans (bF _ _)) uJ Hd gg (aN.le ⟨_,_,_,rfl,aiD,aiE,aiF⟩ ef (bF _ _))
  have gg:¬T8.c p.w<0:=fun h=>by have h9:¬0<eY (-(T8.c p.lay.w)):=(by simpa using hb);exact h9 (DT.2 (by have h8:T8.c p.lay.w=T8.c p.w:=rfl;grind))
  refine aw (ah [1,4,6] rfl ?_);refine ae (aa 1 rfl (aB rfl rfl (agv (G:=(G.eU ji jk)) (N:=M) (J:=Jx p) Iq Ma ⟨uJ,YB uJ gg⟩ (fun k S h hk hd=>h.skip hd) (fun k S s h hk hu hs hp=>h.pivot hk hu hs hp) (fun k S h=>⟨hl.BU _ h.1,by rw[h.1.rows.m,uJ.rows.m],by rw[h.1.rows.n,uJ.rows.n]⟩) (by omega) s4 aiB) ?_));rintro _ ju ⟨T11,Ri,s6,EA,Ir⟩;rw[uJ.rows.m]at Ri;have xK:=Ri.1;refine ab [1,4,6] ?_;refine ae (aa 2 rfl (aV ag rfl rfl rfl (aR ag rfl rfl rfl (s6.iS) (aB rfl rfl (GJ (gs:=(G.eU ji jk).gs) (n:=p.lay.w) s6.ne (by omega)) ?_))));rintro v12 dG ⟨lh,z,sB,rfl,BL,aiG⟩;refine aa 1 rfl (ab [1,4,6,7] ?_);refine ao (ae (aa 1 rfl (aB rfl rfl (Fn.Lb (gs:=(z::(G.eU ji jk).gs)) (BL.ne s6.ne) (WD (hc.le (pS N) ((Rh.trans Ir).trans BL.le)) (by omega) hcN)) ?_)));rintro Yd lH ⟨xG,mH,aiH⟩;have Ly:=BL.kept xG;obtain⟨Av,cv,xv,rfl,lg,po⟩:=aiH.num;obtain⟨Ap,cp,xp,sG,gT,ld⟩:=s6.self.plus.one;obtain⟨Am,cm,xm,vJ,kG,xx⟩:=s6.self.minus.one;rw[oX.Ld]at sG;rw[oX.Le]at vJ;rw[fj];refine aa 2 rfl (ab [4,6,7,47,48,49] ?_);refine aE (fX (fun(k:Nat)(xs:List Value)=>p.free.length-k) (fun(k:Nat)(xs:List Value)=>put (put (put (put (put (put (emp) 4 (.box [.int .i64 0,.bool false,.slice none 0 0,.slice none 0 0,.slice none 0 0,.slice none 0 0,.slice none 0 0])) 6 (.val (.pointer (some ⟨G.g,0,none⟩)))) 7 (.val (.slice (some ⟨z,0,none⟩) p.lay.w p.lay.w))) 47 (.val (.slice Av p.free.length cv))) 48 (.val (.int .i64 (p.free.length:Int)))) 49 (.val (.int .i64 (k:Int)))) (fun(k:Nat)(xs:List Value) H'=>ft (G.eU ji jk).gs ju H' z xs (p.lay.w*3) 121∧bG (bQ (rem H' (z::(G.eU ji jk).gs))) 3 xs (aK (jT p.lay (fn c) 1 k) p.lay.w)∧Heap.le (rem lH (z::(G.eU ji jk).gs)) (rem H' (z::(G.eU ji jk).gs))∧k≤p.free.length) 0 sB (⟨Ly,aiG _,.refl _,Nat.zero_le _⟩) ar ?_)
  rintro k xs qa ⟨xH,Rj,Rk,anO⟩;have aiI:=xH.tab s6;have cY:=Rj.len;rw[bh]at cY;refine ae (aa 1 rfl (ab [4,6,7,47,48,49,50] ?_));refine ao (aD rfl (fun hb=> ?_) (fun hb=> ?_))
  ·
   have gw:k<p.free.length:=by simpa using hb
   obtain⟨q,fT⟩:∃q,c[k]? = some q:=⟨_,List.getElem?_eq_getElem (by omega)⟩;obtain⟨n1,d1,b1,du,fK⟩:=po k q fT;have iU:fn c k=q:=m8 fT;have PZ:aM q≤N+2:=cW.size (PO.at_ k q fT);obtain⟨up,GN,GO⟩:=ld k _ (oX.p gw);obtain⟨um,zd,GP⟩:=xx k _ (oX.mi gw)
   cases GO
   cases GP
   have ahg:=oX.pw k gw;have ahh:=oX.mw k gw;rw[←iU]at du;refine aw (ah [4,6,7,47,48,49] rfl ?_);refine ao (aE (ae (aa 1 rfl (bY (vs:=[.int .i64 n1,.int .i64 d1,.pointer b1]) ag rfl rfl rfl rfl ((lg.le Rk).le (bF _ _)) rfl (by decide) fK (by omega) (by omega) fun _=>(bm fh rfl (vr 1 ?_))))));obtain⟨ti,aj,ak⟩:=cL;refine aI (.inl ⟨rfl,rfl⟩) rfl rfl rfl aj ak rfl rfl rfl (ab [4,6,7,8,9,47,48,49] ?_);refine bN .gD [0,1,2,3,4,5,6,7,8,9,10] follows (by kernel_rfl) ?_;refine aa 3 rfl (aV ag rfl rfl rfl (aR ag rfl rfl rfl (show cell _ _=some (.slice Ap p.free.length cp)from by rw[←show (G.eU ji jk).pv = .slice Ap p.free.length cp from sG];exact aiI.cell 2 _ rfl) ?_));refine aa 1 rfl (aS ag rfl rfl rfl rfl rfl (gT.le xH.hle) (by rw[Int.toNat_natCast];exact GN) (by omega) (by omega) fun _=> ?_);refine vr 1 ?_;obtain⟨ti,aj,ak⟩:=cL;refine cT (.inr rfl) ag rfl rfl rfl (by omega) (by omega) (xH.aC) rfl (by show 0+p.lay.w*3≤xs.length;omega) aj ak (fun _=>rfl) rfl rfl rfl fun _=> ?_;refine ab [4,6,7,8,9,47,48,49] ?_;have B4:ft (G.eU ji jk).gs ju (ins qa z {(⟨xs,p.lay.w*3,121,true⟩:Ent)with xs:=aL xs (0+((p.lay.pF k:Nat):Int).toNat*3) [.int .i64 n1,.int .i64 d1,.pointer b1]}) z (aL xs (p.lay.pF k*3) [.int .i64 n1,.int .i64 d1,.pointer b1]) (p.lay.w*3) 121:=xH.set (by rw[Int.toNat_natCast];exact oW)
   have Mb:bG (bQ (rem (ins qa z {(⟨xs,p.lay.w*3,121,true⟩:Ent)with xs:=aL xs (0+((p.lay.pF k:Nat):Int).toNat*3) [.int .i64 n1,.int .i64 d1,.pointer b1]}) (z::(G.eU ji jk).gs))) 3 (aL xs (p.lay.pF k*3) [.int .i64 n1,.int .i64 d1,.pointer b1]) (aK (bT (jT p.lay (fn c) 1 k) (p.lay.pF k) (fn c k)) p.lay.w):=by
    rw[cJ _ (List.mem_cons_self ..)];exact sE Rj (by omega) (du.le Rk)
   have Mc:Heap.le (rem lH (z::(G.eU ji jk).gs)) (rem (ins qa z {(⟨xs,p.lay.w*3,121,true⟩:Ent)with xs:=aL xs (0+((p.lay.pF k:Nat):Int).toNat*3) [.int .i64 n1,.int .i64 d1,.pointer b1]}) (z::(G.eU ji jk).gs)):=by rw[cJ _ (List.mem_cons_self ..)];exact Rk
   show VC _ _ _ _ _ _ _ (ins qa z {(⟨xs,p.lay.w*3,121,true⟩:Ent)with xs:=aL xs (0+((p.lay.pF k:Nat):Int).toNat*3) [.int .i64 n1,.int .i64 d1,.pointer b1]})
   generalize ins qa z {(⟨xs,p.lay.w*3,121,true⟩:Ent)with xs:=aL xs (0+((p.lay.pF k:Nat):Int).toNat*3) [.int .i64 n1,.int .i64 d1,.pointer b1]}=mL at B4 Mb Mc⊢
   have Zl:=B4.tab s6;have P0:=Mb.len;rw[bh]at P0;refine ae (aa 2 rfl (aV ag rfl rfl rfl (aR ag rfl rfl rfl (show cell _ _=some (.slice Am p.free.length cm)from by rw[←show (G.eU ji jk).mv = .slice Am p.free.length cm from vJ];exact Zl.cell 3 _ rfl) ?_)));refine aa 1 rfl (aS ag rfl rfl rfl rfl rfl (kG.le B4.hle) (by rw[Int.toNat_natCast];exact zd) (by omega) (by omega) fun _=> ?_);refine aa 1 rfl (ab [4,6,7,8,9,47,48,49,71] ?_);refine aD rfl (fun hb=> ?_) (fun hb=> ?_)
   ·
    have hb:0≤p.lay.mZ k:=by simpa using hb
    refine eK .gD [0,1,2,3,4,5,6,7,8,9,10,11] follows (by kernel_rfl) ?_;refine aa 3 rfl (aV ag rfl rfl rfl (aR ag rfl rfl rfl (show cell _ _=some (.slice Am p.free.length cm)from by rw[←show (G.eU ji jk).mv = .slice Am p.free.length cm from vJ];exact Zl.cell 3 _ rfl) ?_));refine aa 1 rfl (aS ag rfl rfl rfl rfl rfl (kG.le B4.hle) (by rw[Int.toNat_natCast];exact zd) (by omega) (by omega) fun _=> ?_);refine aa 1 rfl (aW rfl rfl (Fn.lD (B4.ne s6.ne) (DC (du.le Mc) (by rw[iU];omega))) (fun _ _ h=>by first | exact h.le | exact h.1) ?_);rintro v17 H17 ⟨EB,vY,n7,d7,b7,rfl,Md⟩;have Zm:=B4.kept EB;obtain⟨ti,aj,ak⟩:=cL;refine cT (.inr rfl) ag rfl rfl rfl (by omega) (by omega) (Zm.aC) rfl (by show 0+p.lay.w*3≤(aL xs (p.lay.pF k*3) [.int .i64 n1,.int .i64 d1,.pointer b1]).length;omega) aj ak (fun _=>rfl) rfl rfl rfl fun _=> ?_;refine au ?_;have aiJ:=Zm.set (oW (xs:=aL xs (p.lay.pF k*3) [.int .i64 n1,.int .i64 d1,.pointer b1]) (vs:=[.int .i64 n7,.int .i64 d7,.pointer b7]) (k:=(p.lay.mZ k).toNat) (sz:=3));refine ah [4,6,7,47,48,49] rfl ?_;refine aA rfl (aF rfl rfl ⟨by omega,by omega⟩ (aa 1 rfl (au ?_)));exact⟨k+1,_,by omega,ar,aiJ,by rw[cJ _ (List.mem_cons_self ..),BK,if_pos hb,Rat.mul_one];exact sE (Mb.mono fun vs a=>jg _ _ vs a EB.le) (by omega) Md,by rw[cJ _ (List.mem_cons_self ..)];exact Mc.trans EB.le,by omega⟩
   have hb:¬0≤p.lay.mZ k:=by simpa using hb
   refine aw (ah [4,6,7,47,48,49] rfl ?_);refine aA rfl (aF rfl rfl ⟨by omega,by omega⟩ (aa 1 rfl (au ?_)));exact⟨k+1,_,by omega,ar,B4,by rw[BK,if_neg hb,Rat.mul_one];exact Mb,Mc,by omega⟩
  have hb:p.free.length≤k:=by simpa using hb
  obtain rfl:p.free.length=k:=by omega
  have l5:=xH.done;have lu:aN bQ 3 (rem qa (G.eU ji jk).gs) (.slice (some ⟨z,0,none⟩) p.lay.w p.lay.w) (aK (ki p c) p.lay.w):=⟨some ⟨z,0,none⟩,p.lay.w,xs,by rw[bh],by rw[bh];exact Nat.le_refl _,xH.rd,Rj.mono fun vs a=>jg _ _ vs a l5.2⟩
  have Zn:((T11.m:Nat):Int)≤1000000:=by rw[xK.rows.m];omega
  skip
  have Zo:=hl.BU _ xK;refine aU (ah [4,6,7] rfl ?_);refine ae (aa 2 rfl (aB rfl rfl (Xs (G:=(G.eU ji jk)) (N:=2*M) (f:=ki p c) (s6.kept l5.1) lu (fun i hi=>by have h9:=xK.wf.lt i hi;rw[xK.rows.n]at h9;exact h9) (by omega) s4 Zn (fun j _=>Nat.le_trans (hl.ki j) (by omega)) (fun i hi j hj=>Nat.le_trans (Zo.A i hi j (by rw[xK.rows.n];exact hj)) (by omega)) (fun k hk j hj=>hl.Qx _ xK k hk j (by rw[xK.rows.n];exact hj))) ?_));rintro _ Rm ⟨B5,B6,_,aiK,aiL,Zp⟩;refine ab [4,6,7] ?_;refine ao (ae (aa 1 rfl (aB rfl rfl (WX (G:=((G.eU ji jk).eU B5 B6)) (N:=M) (I:=I2 p c) aiK aiL (I2.start Ri) (fun S r s h hb=>h.step hb) (fun S h=>⟨h.1.wf,h.1.fp,hl.qq _ h.1,by rw[h.1.rows.m];exact xK.rows.m.symm,by rw[h.1.rows.n];exact xK.rows.n.symm⟩) (by omega) s4 Zn) ?_)));rintro v20 Et ⟨Rn,oZ,Is,Zq,Zr,aiM⟩;have It:=hl.qq _ oZ.1;have anP:aM (Rn.c p.lay.w)≤M:=It.c _ (by rw[oZ.1.rows.n];exact Nat.le_refl _)
  have Ro:((Rn.m:Nat):Int)≤1000000:=by rw[oZ.1.rows.m];omega
  have aiN:=lu.le jg (Zp.trans Zr);have Zs:=((Rh.trans Ir).trans l5.1.le).trans (Zp.trans Zr);have Zt:∀j,j<p.lay.w→aM (Rn.pt j)≤M:=fun j hj=>Qu oZ.1.wf It Zk (by rw[oZ.1.rows.n];exact hj);refine aa 1 rfl (ab [4,6,7,10] ?_)
  rcases aiM with ⟨rfl,aiO⟩ | ⟨s,rfl,vW,Zu,aiP⟩
  ·
   skip
   refine ae (aa 1 rfl (aG false rfl rfl (pE (by decide)) (ab [4,6,7,10,90] ?_)));refine dd rfl (aw (ah [4,6,7] rfl ?_));refine ae (aa 1 rfl (aB rfl rfl (Xd (G:=((G.eU ji jk).eU B5 B6)) Is Zq (by omega)) ?_));rintro v23 H23 ⟨Iu,anQ,n23,d23,b23,rfl,aiQ⟩;refine aB rfl rfl (Fn.frame (gs:=((G.eU ji jk).eU B5 B6).gs) (Iu.ne Is.ne) (VY aiQ (by rw[wX];omega))) ?_;rintro v24 H24 ⟨⟨aiR,Zv⟩,aiS⟩;have Me:=Iu.trans ⟨aiR,aiS⟩;have Zw:=Is.kept Me;have aiT:=Zq.kept Me;obtain⟨u24,w24,rfl,aiU,aiV⟩:=id Zv;obtain⟨A27,c27,rfl,_,_⟩:=aiU;obtain⟨p5,p6,rfl,_,_⟩:=aiV;refine aa 1 rfl (aB rfl rfl (Xq (G:=((G.eU ji jk).eU B5 B6)) Zw oZ.1.wf oX Zt (by omega) s4 (by omega) Ro) ?_);rintro v25 H25 ⟨zB,aiW,A25,c25,x25,rfl,Rp,Rq,Rr⟩;refine aa 2 rfl (aB rfl rfl (Xr (G:=((G.eU ji jk).eU B5 B6)) (n:=p.lp.n) (m:=p.lp.m) (N:=M) (f:=ki p c) (Zw.kept zB) (aiT.kept zB) oX (aiN.le jg (Me.le.trans zB.le)) (fun j _=>hl.ki j) (fun j hj=>It.c j (by rw[oZ.1.rows.n];exact Nat.le_of_lt hj)) (by omega) s4 (by omega)) ?_);rintro v26 H26 ⟨EC,aiX,A26,c26,x26,rfl,Rs,Rt,Ru⟩;refine di ag rfl yC rfl rfl ?_
   obtain⟨ti,aj,ak⟩:=tG;refine aI (.inl ⟨rfl,rfl⟩) rfl rfl rfl aj ak rfl rfl rfl (aa 1 rfl (ab [4,5] ?_));obtain⟨b8,aP,aQ⟩:=tG;refine az ⟨.inr rfl,_,.agg rfl Tryz.underlying65 aP aQ (.tmp rfl (.nil)),?_⟩;exact aiy bO fj hl ((((Zs.trans Me.le).trans zB.le).trans EC.le).trans (bF _ _)) oZ aiO (bH.le Zv ((zB.le.trans EC.le).trans (bF _ _))) (aN.le ⟨_,_,_,rfl,Rp,Rq,Rr⟩ ef (EC.le.trans (bF _ _))) (aN.le ⟨_,_,_,rfl,Rs,Rt,Ru⟩ ef (bF _ _))
  skip
  refine ae (aa 1 rfl (aG true rfl rfl (lT (by omega)) (ab [4,6,7,10,90] ?_)));refine cI rfl (ae (aa 1 rfl (aB rfl rfl (Xq (G:=((G.eU ji jk).eU B5 B6)) Is oZ.1.wf oX Zt (by omega) s4 (by omega) Ro) ?_)));rintro v25 H25 ⟨zB,aiW,A25,c25,x25,rfl,Rp,Rq,Rr⟩;have mG:=fy p;have DZ:=YG oZ.1.wf Zu;refine aa 2 rfl (aB rfl rfl (agF (G:=((G.eU ji jk).eU B5 B6)) (N:=M) (s:=s) (Is.kept zB) oZ.1.wf oX (Nat.lt_of_lt_of_le vW mG) DZ (fun i hi=>It.A i hi s (by rw[oZ.1.rows.n];exact Nat.le_of_lt (Nat.lt_of_lt_of_le vW mG))) (fun j _=>YF oZ.1.wf It Zk (by rw[oZ.1.rows.n];exact Nat.le_of_lt (Nat.lt_of_lt_of_le vW mG)) DZ) (by omega) s4 (by omega) Ro) ?_);rintro v26 H26 ⟨EC,aiX,A26,c26,x26,rfl,Rs,Rt,Ru⟩;refine di ag rfl yC rfl rfl ?_;obtain⟨ti,aj,ak⟩:=tG;refine aI (.inl ⟨rfl,rfl⟩) rfl rfl rfl aj ak rfl rfl rfl (aa 1 rfl (ab [4,5] ?_));obtain⟨b8,aP,aQ⟩:=tG;refine az ⟨.inr rfl,_,.agg rfl Tryz.underlying65 aP aQ (.tmp rfl (.nil)),?_⟩;exact aiz bO fj hl (((Zs.trans zB.le).trans EC.le).trans (bF _ _)) oZ vW Zu aiP (aN.le ⟨_,_,_,rfl,Rp,Rq,Rr⟩ ef (EC.le.trans (bF _ _))) (aN.le ⟨_,_,_,rfl,Rs,Rt,Ru⟩ ef (bF _ _))
end Go.aq
namespace Go.aq
open Go.Proofs Num Lp
end Go.aq
namespace Go.aq
section
variable {P:Program} {n:Nat} {all:Array Oper} {md:Mode} {tb:Tb} {s:St} {H:Heap} {K:St→Heap→Prop} {r:List Oper} {ty:TypeId} {pos:String} {after:Array Edge} {gd:Option (Nat×Bool)}
theorem Zx(s:St)(d:Nat)(v:Value):ev (put s d (.val v)) (.tmp d)=some v:=by simp[ev,put]
theorem jW{t t2 t3:TypeId}{x i:Operand}{A:Option Addr}{m c d1 d2 f o z:Nat}{Rv:Option Nat}{ow ty3:TypeId}{ox aiY:String}{oy aiZ:Array Edge}{kv Zy:Option (Nat×Bool)}{k:IntKind}{j:Int}{e sz qq:Nat}{ps:List (Nat×Nat)}{ti:Ti}{xs:List Value}{v:Value}
  (dI:j0 P tb) (ht:tb[t]? = some (.sl e sz)) (fC:tb[t2]? = some (.st qq ps)) (hf:ps[f]? = some (o,z)) (Hn:tb[t3]? = some ti) (h1:yq ti=true) (hx:ev s x=some (.slice A m c)) (hi:ev s i=some (.int k j)) (hr:Rd H A xs) (hv:xs[j.toNat*sz+o]? = some v) (h0:0≤j) (hm:j<m)
  (hk:∀a1 a2:Addr,aT P n all md r (bD (put (put s d1 (.val (.pointer (some a1)))) d2 (.val (.pointer (some a2)))) Rv (.val v)) H K)
  (hg:cC all s gd=some true:=by rfl) (nb:md.nb s (some d1)=true:=by rfl)
  (eu:∀a1:Addr,cC all (put s d1 (.val (.pointer (some a1)))) kv=some true:=by exact fun _=>rfl) (wB:∀a1:Addr,md.nb (put s d1 (.val (.pointer (some a1)))) (some d2)=true:=by exact fun _=>rfl)
  (lV:∀a1 a2:Addr,cC all (put (put s d1 (.val (.pointer (some a1)))) d2 (.val (.pointer (some a2)))) Zy=some true:=by exact fun _ _=>rfl) (nb3:∀a1 a2:Addr,md.nb (put (put s d1 (.val (.pointer (some a1)))) d2 (.val (.pointer (some a2)))) Rv=true:=by exact fun _ _=>rfl):
  aT P n all md (⟨some d1,.indexAddr t x i,ty,pos,after,gd⟩::⟨some d2,.fieldAddr t2 (.tmp d1) f,ow,ox,oy,kv⟩::⟨Rv,.load t3 (.tmp d2),ty3,aiY,aiZ,Zy⟩::r) s H K:=by
 obtain⟨ad,rfl,hc⟩:=hr _ _ hv
 refine yv dI ht hx hi h0 hm ?_ hg nb
 refine aV (ad:=ad.add (j.toNat*sz)) dI fC hf (Zx _ _ _) ?_ (eu _) (wB _)
 refine aR (ad:=(ad.add (j.toNat*sz)).add o) dI Hn h1 (Zx _ _ _) (by rw[add_add];exact hc) ?_ (lV _ _) (nb3 _ _)
 exact hk _ _
end
end Go.aq
namespace Go.aq
open Go.Proofs Num Lp
theorem aN.s7{N:Nat}{H:Heap}{xs:List Value}{l:List Rat}(h:bG (dA N H) 3 xs l){i:Nat}{q:Rat}(hq:l[i]? = some q):∃f A1 m1 c1 A2 m2 c2,gj xs i 3 = [.bool f,.slice A1 m1 c1,.slice A2 m2 c2]∧cW H (.agg #[.bool f,.slice A1 m1 c1,.slice A2 m2 c2]) q N∧∀(j:Nat)(u:Value),[.bool f,.slice A1 m1 c1,.slice A2 m2 c2][j]? = some u→xs[i*3+j]? = some u:=by
 have h1:=h.at_ i q hq
 obtain⟨f,A,m,c,A',m',c',e⟩:=dA.cells h1
 refine⟨f,A,m,c,A',m',c',e,?_,fun j u hu=>Gc (by rw[e];exact hu)⟩
 have h2:cW H (.agg (gj xs i 3).toArray) q N:=h1
 rwa [e]at h2
theorem aN.ai0{N:Nat}{H:Heap}{xs:List Value}{l:List (List Rat×Int×Rat)}(h:bG (gB N H) 5 xs l){i:Nat}{r:List Rat×Int×Rat}(hq:l[i]? = some r):∃A0 c0 f A1 m1 c1 A2 m2 c2,gj xs i 5 = [.slice A0 r.1.length c0,.int .i64 r.2.1,.bool f,.slice A1 m1 c1,.slice A2 m2 c2]∧aN (dA N) 3 H (.slice A0 r.1.length c0) r.1∧cW H (.agg #[.bool f,.slice A1 m1 c1,.slice A2 m2 c2]) r.2.2 N∧∀(j:Nat)(u:Value),[.slice A0 r.1.length c0,.int .i64 r.2.1,.bool f,.slice A1 m1 c1,.slice A2 m2 c2][j]? = some u→xs[i*5+j]? = some u:=by
 have h1:=h.at_ i r hq
 obtain⟨A0,c0,k,f,A1,m1,c1,A2,m2,c2,e,hk⟩:=h1.cells
 subst hk
 have h2:=h1
 rw[e]at h2
 obtain⟨c',f',u',w',e',h3,h4⟩:=id h2
 simp only[List.cons.injEq,and_true,true_and]at e'
 obtain⟨rfl,e1,rfl,rfl⟩:=e'
 exact⟨A0,c0,f,A1,m1,c1,A2,m2,c2,e,h3,h2.bound,fun j u hu=>Gc (by rw[e];exact hu)⟩
end Go.aq
namespace Go.aq
open Go.Proofs Num Lp
theorem aN.B7{N:Nat}{H:Heap}{v:Value}{l:List Rat}(h:aN (dA N) 3 H v l):∀q,q∈l→aM q≤N+2:=fun q hq=>by
 obtain⟨A,cc,xs,_,_,_,h4⟩:=h
 obtain⟨k,hk⟩:=List.getElem?_of_mem hq
 exact cW.size (h4.at_ k q hk)
theorem ED(f:Bool)(A A':Option Addr)(k c k' c':Nat):∀u,u∈[Value.bool f,.slice A k c,.slice A' k' c']→u.oneCell'=true:=fun u hu=>by
 simp only[List.mem_cons,List.not_mem_nil,or_false]at hu
 rcases hu with rfl | rfl | rfl <;> rfl
theorem EE{α:Type}{P:Heap→List Value→α→Prop}{H:Heap}{g e sz k:Nat}{xs:List Value}{l:List α}(hk:k=l.length)(h:bG (P (ins H g (whole xs e))) sz xs l):aN P sz (ins H g (whole xs e)) (.slice (some ⟨g,0,none⟩) k k) l:=by
 subst hk;exact⟨_,_,xs,rfl,Nat.le_refl _,eN _ _ _ _ _ _,h⟩
theorem Rw{α:Type}{P:List Value→α→Prop}{sz:Nat}{vs xs:List Value}{a:α}{l:List α}(h:P vs a)(hl:vs.length=sz)(k:bG P sz xs l):bG P sz (vs++xs) (a::l):=(jq h hl).append k
theorem aN.zC{H:Heap}{v:Value}{l:List Rat}{N:Nat}(h:aN cg 3 H v l)(hs:∀q,q∈l→aM q≤N):aN (dA N) 3 H v l:=by
 obtain⟨A,c,xs,h1,h2,h3,h4⟩:=h
 exact⟨A,c,xs,h1,h2,h3,h4.len,fun i a ha=>cg.rat (h4.at_ i a ha) (hs a (List.mem_of_getElem? ha))⟩
theorem aN.mono{α:Type}{P P':Heap→List Value→α→Prop}{sz:Nat}{H:Heap}{v:Value}{l:List α}(h:aN P sz H v l)(hp:∀vs a,P H vs a→P' H vs a):aN P' sz H v l:=by
 obtain⟨A,c,xs,h1,h2,h3,h4⟩:=h
 exact⟨A,c,xs,h1,h2,h3,h4.mono hp⟩
theorem dA.mono{N M:Nat}{H:Heap}{vs:List Value}{q:Rat}(h:dA N H vs q)(hl:N≤M):dA M H vs q:=cW.mono h hl
theorem Zz{k:Nat}:∀{l:List Rat},(∀q,q∈l→av.wt q≤k)→av.ix l≤l.length*k
 | [],_=>Nat.zero_le _
 | q::l,h=>by
  have h1:=h q (List.mem_cons_self ..)
  have h2:=Zz (l:=l) fun r hr=>h r (List.mem_cons_of_mem _ hr)
  simp only[av.ix,List.length_cons,Nat.add_mul];omega
def nums(p:Prg)(c:List Rat):List Rat:=0::(p.rows.flatMap (fun r=>r.2.2::r.1)++c)
theorem ZA{l:List Rat}{k:List Rat}(h:∀q,q∈l→q∈k)(h0:0∈k)(j:Nat):fn l j∈k:=by
 by_cases hj:j<l.length
 ·rw[m8 (List.getElem?_eq_getElem hj)];exact h _ (List.getElem_mem hj)
 ·rw[afP (by omega)];exact h0
theorem ZB{p:Prg}{c:List Rat}{i:Nat}(hi:i<p.rows.length):(∀q,q∈(p.row i).1→q∈nums p c)∧(p.row i).2.2∈nums p c:=by
 rw[Prg.qF (List.getElem?_eq_getElem hi)]
 have hm:p.rows[i]∈p.rows:=List.getElem_mem hi
 refine⟨fun q hq=> ?_,?_⟩
 ·exact List.mem_cons_of_mem _ (List.mem_append_left _ (List.mem_flatMap.2 ⟨_,hm,List.mem_cons_of_mem _ hq⟩))
 ·exact List.mem_cons_of_mem _ (List.mem_append_left _ (List.mem_flatMap.2 ⟨_,hm,List.mem_cons_self ..⟩))
theorem ai1(p:Prg)(c:List Rat):In (nums p c) p:=fun i hi j _=>ZA (ZB hi).1 (List.mem_cons_self ..) j
theorem ai2(p:Prg)(c:List Rat):∀j,j<p.lp.n→fn c j∈nums p c:=fun j _=>ZA (fun q hq=>List.mem_cons_of_mem _ (List.mem_append_right _ hq)) (List.mem_cons_self ..) j
theorem ZC{k:Nat}:∀{l:List (List Rat×Int×Rat)},(∀r,r∈l→r.1.length≤k)→(l.flatMap (fun r=>r.2.2::r.1)).length≤l.length*(k+1)
 | [],_=>Nat.zero_le _
 | r::l,h=>by
  have h1:=h r (List.mem_cons_self ..)
  have h2:=ZC (l:=l) fun r hr=>h r (List.mem_cons_of_mem _ hr)
  simp only[List.flatMap_cons,List.length_append,List.length_cons,Nat.add_mul]at *;omega
theorem Mf{H:Heap}{N:Nat}:cW H (.agg #[.bool false,.slice none 0 0,.slice none 0 0]) 0 N:=
 ⟨false,_,_,[],[],rfl,⟨none,0,rfl,Nat.le_refl _,Rd.nil _ _⟩,⟨none,0,rfl,Nat.le_refl _,Rd.nil _ _⟩,(fun x h=>by cases h),(fun x h=>by cases h),Nat.zero_le _,Nat.zero_le _,by decide⟩
theorem gB.bU{N:Nat}{H:Heap}{r:List Rat×Int×Rat}{v0:Value}{f:Bool}{u w:Value}(h:gB N H [v0,.int .i64 r.2.1,.bool f,u,w] r):aN (dA N) 3 H v0 r.1:=by
 obtain⟨c,f',u',w',h1,h2,_⟩:=h
 simp only[List.cons.injEq]at h1
 rw[h1.1];exact h2
theorem Fn.yes{P:Program}{f:FuncId}{args:Array Value}{H:Heap}{Q:Prop}(h:Fn P f args H (fun v H'=>Heap.le H H'∧∃b,v = .bool b∧(b=true↔Q)))(hq:Q):Fn P f args H (fun v H'=>Heap.le H H'∧v = .bool true):=
 h.mono fun v H' ⟨h1,b,h2,h3⟩=>⟨h1,by rw[h2,h3.2 hq]⟩
structure RC where
 f:Bool
 A1:Option Addr
 m1:Nat
 c1:Nat
 A2:Option Addr
 m2:Nat
 c2:Nat
abbrev RC.v(t:RC):Value:= .agg #[.bool t.f,.slice t.A1 t.m1 t.c1,.slice t.A2 t.m2 t.c2]
theorem bH.rc{H:Heap}{v:Value}{q:Rat}(h:bH H v q):∃t:RC,v=t.v:=by
 obtain⟨u,w,rfl,hu,hw⟩:=h
 obtain⟨A1,c1,rfl,_⟩:=id hu
 obtain⟨A2,c2,rfl,_⟩:=id hw
 exact⟨⟨_,A1,_,c1,A2,_,c2⟩,rfl⟩
def Iv(H:Heap)(q:Rat)(v:Value)(H':Heap):Prop:=Heap.le H H'∧∃t:RC,v=t.v∧bH H' t.v q
theorem Iv.le{H H':Heap}{q:Rat}{v:Value}(h:Iv H q v H'):Heap.le H H':=h.1
theorem Fn.rc{P:Program}{f:FuncId}{args:Array Value}{H:Heap}{q:Rat}(h:Fn P f args H (j7 H q)):Fn P f args H (Iv H q):=h.mono fun v H' ⟨h1,h2⟩=>by
 obtain⟨t,rfl⟩:=h2.rc
 exact⟨h1,t,rfl,h2⟩
theorem ZD{p q:Rat}:0≤nJ p q↔q≤p:=by unfold nJ;split;(constructor <;> intro <;> grind);split;(constructor <;> intro <;> grind);(constructor <;> intro <;> grind)
theorem ZE{p q:Rat}:nJ p q=0↔p=q:=by unfold nJ;split;(constructor <;> intro <;> grind);split;(constructor <;> intro <;> grind);(constructor <;> intro <;> grind)
end Go.aq
namespace Go.aq
open Go.Proofs Num Lp
structure eo{α:Type}(P:Heap→List Value→α→Prop)(e sz:Nat)(Hb H:Heap)(v:Value)(l:List α)(xs:List Value):Prop where
 own:bW H v e sz l.length xs
 jG:bG (P (rem H (aC v))) sz xs l
 base:Heap.le Hb (rem H (aC v))
section
variable {α:Type} {P:Heap→List Value→α→Prop} {e sz:Nat} {Hb H H':Heap} {v v':Value} {l:List α} {xs:List Value}
theorem eo.le(h:eo P e sz Hb H v l xs):Heap.le Hb H:=h.base.trans (bF _ _)
theorem eo.sl(h:eo P e sz Hb H v l xs)(up:Up P):aN P sz H v l:=Ge.sl ⟨xs,h.own,h.jG.mono fun vs a=>up _ _ vs a (bF _ _)⟩
theorem B8:aC (.slice none 0 0) = []:=rfl
theorem zD(H:Heap):eo P e sz H H (.slice none 0 0) [] []:=⟨lv H e sz,sj,by rw[B8,oO];exact .refl _⟩
theorem Iw{g c:Nat}{zs:List Value}{z k:Int}(hg:H g=none)(hz:z.toNat=0)(hk:k.toNat=c)(hc:c≤maxLen):eo P e sz H (ins H g ⟨cR zs (z.toNat*sz),k.toNat*sz,e,true⟩) (.slice (some ⟨g,0,none⟩) z.toNat k.toNat) [] []:=by
 rw[hk]
 refine⟨Kf hz hc,sj,?_⟩
 show Heap.le H (rem _ [g])
 rw[sh _ hg,oO];exact .refl _
theorem eo.uK(h:eo P e sz Hb H v l xs):∀q,q∈aC v→H q≠none:=fun q hq=>by
 obtain⟨en,he⟩:=h.own.block (dh.1 hq)
 rw[he];simp
theorem eo.step(h:eo P e sz Hb H v l xs)(up:Up P)(hs:∀q,q∈aC v→H' q=H q)(hl:Heap.le (rem H (aC v)) (rem H' (aC v))):eo P e sz Hb H' v l xs:=
 ⟨h.own.same fun q hq=>hs q (dh.2 hq),h.jG.mono fun vs a=>up _ _ vs a hl,h.base.trans hl⟩
theorem eo.km(h:eo P e sz Hb H v l xs)(up:Up P){bE:Value→Heap→Prop}{u:Value}(hf:qB (aC v) bE H u H')(hl:∀v' K,bE v' K→Heap.le (rem H (aC v)) K):eo P e sz Hb H' v l xs:=h.step up hf.same (hl _ _ hf.post)
theorem eo.ins(h:eo P e sz Hb H v l xs)(up:Up P){g:Nat}(en:Ent)(hg:H g=none):eo P e sz Hb (ins H g en) v l xs:=by
 have hn:¬g∈aC v:=fun hm=>h.uK g hm hg
 refine h.step up (fun q hq=>bn _ _ fun e=>hn (e▸hq)) ?_
 rw[wW _ hn]
 exact Heap.bI _ (by rw[bM hn];exact hg)
theorem eo.call(h:eo P e sz Hb H v l xs){Q:Program}{f:FuncId}{args:Array Value}{bE:Value→Heap→Prop}(hc:Fn Q f args (rem H (aC v)) bE):Fn Q f args H (qB (aC v) bE H):=Fn.frame h.uK hc
theorem eo.append(h:eo P e sz Hb H v l xs)(up:Up P){m:Nat}{ys:List Value}{k:List α}(hm:m=l.length+k.length)(ha:App H v e sz m (xs++ys) v' H')(hy:bG (P (rem H (aC v))) sz ys k):eo P e sz Hb H' v' (l++k) (xs++ys):=by
 have hl:Heap.le (rem H (aC v)) (rem H' (aC v')):=fun q en hq=>by
  by_cases hm:q∈aC v
  ·rw[rem_in hm]at hq;cases hq
  ·rw[bM hm]at hq
   have h1:=ha.same q en hq fun e=>hm (dh.2 e)
   have h2:¬q∈aC v':=fun h2=>by
    have h3:=dh.1 h2
    rcases ha.at_ with h4 | ⟨g,h4,h5⟩
    ·exact hm (dh.2 (h4▸h3))
    ·rw[h4]at h3;cases h3;rw[h5]at hq;cases hq
   exact⟨en,by rw[bM h2];exact h1,.refl _⟩
 refine⟨by rw[List.length_append,←hm];exact ha.own,?_,h.base.trans hl⟩
 exact(h.jG.mono fun vs a=>up _ _ vs a hl).append (hy.mono fun vs a=>up _ _ vs a hl)
theorem eo.form(h:eo P e sz Hb H v l xs):∃A c,v = .slice A l.length c:=h.own.form
end
theorem eo.vZ{α:Type}{P:Heap→List Value→α→Prop}{e sz:Nat}{Hb H:Heap}{v:Value}{l:List α}{xs:List Value}(h:eo P e sz Hb H v l xs):eo P e sz (rem H (aC v)) H v l xs:=⟨h.own,h.jG,.refl _⟩
theorem eo.down{α:Type}{P:Heap→List Value→α→Prop}{e sz:Nat}{Hb Hc H:Heap}{v:Value}{l:List α}{xs:List Value}(h:eo P e sz Hb H v l xs)(hl:Heap.le Hc Hb):eo P e sz Hc H v l xs:=⟨h.own,h.jG,hl.trans h.base⟩
theorem ZF(A0:Option Addr)(k0 c0:Nat)(z:Int)(f:Bool)(A A':Option Addr)(k c k' c':Nat):∀u,u∈[Value.slice A0 k0 c0,.int .i64 z,.bool f,.slice A k c,.slice A' k' c']→u.oneCell'=true:=fun u hu=>by
 simp only[List.mem_cons,List.not_mem_nil,or_false]at hu
 rcases hu with rfl | rfl | rfl | rfl | rfl <;> rfl
theorem uL{α β:Type}{f:α→β}{l:List α}{k:Nat}{z:α}(h:l[k]? = some z):(l.take (k+1)).map f=(l.take k).map f ++ [f z]:=by
 rw[List.take_add_one,h,List.map_append];rfl
theorem ai3{α:Type}(f:Nat→α)(j:Nat):(List.range (j+1)).map f=(List.range j).map f ++ [f j]:=by rw[List.range_succ,List.map_append];rfl
theorem ai4{α:Type}{l:List α}{k:Nat}{z:α}(h:l[k]? = some z):l.take (k+1)=l.take k ++ [z]:=by rw[List.take_add_one,h];rfl
end Go.aq
namespace Go.aq
open Go.Proofs Num Lp Go.RowKit
def kN(w:World):Heap:=fun g=>match w.heap[g]? with | some (.cells c t _)=>some ⟨c.toList,c.size,t,false⟩ | _=>none
theorem ai5{w:World}{g:Nat}{c:Array Value}{t:TypeId}{fz:Nat×Nat}(h:w.heap[g]? = some (.cells c t fz)):kN w g=some ⟨c.toList,c.size,t,false⟩:=by simp[kN,h]
theorem ZG{w:World}{g:Nat}{e:Ent}(h:kN w g=some e):∃c t fz,w.heap[g]? = some (.cells c t fz)∧e=⟨c.toList,c.size,t,false⟩:=by
 unfold kN at h
 split at h
 ·rename_i c t fz hc
  exact⟨c,t,fz,hc,by simpa using h.symm⟩
 ·cases h
theorem ai6(w:World):Den (kN w) w:=fun g e h=>by
 obtain⟨c,t,fz,h1,rfl⟩:=ZG h
 exact⟨_,h1,c,fz,rfl,rfl,(fun i v hv=>by simpa using hv),fun h=>by cases h⟩
theorem ai7{w:World}{a:Addr}{v:Value}(h:w.cell? a=some v):cell (kN w) a=some v:=by
 unfold World.cell? at h
 unfold cell
 cases hg:w.heap[a.block]? with
 | none=>rw[hg]at h;simp at h
 | some o=>
  cases o with
  | cells c t fz=>
   rw[ai5 hg]
   rw[hg]at h
   simpa using h
  | _=>rw[hg]at h;simp at h
theorem ai8{w w':World}{H':Heap}(hle:Heap.le (kN w) H')(hd:Den H' w')(hf:Fx (kN w) w H' w'):Below w.heap.size w w':=by
 refine⟨hf.os,hf.tape,hf.output,hf.size,fun k hk=> ?_⟩
 cases hg:kN w k with
 | none=>exact(hf.keep k hk hg).1
 | some e=>
  obtain⟨c,t,fz,h1,rfl⟩:=ZG hg
  obtain⟨e',h2,h3⟩:=hle k _ hg
  obtain⟨o,h4,c1,fz1,rfl,h5,h6,_⟩:=hd k e' h2
  obtain⟨c2,h7,h8⟩:=hf.form k c t fz h1
  rw[h4]at h7
  simp only[Option.some.injEq,Obj.cells.injEq]at h7
  obtain⟨rfl,h9,rfl⟩:=h7
  rw[h4,h1,h9]
  have:c1=c:=by
   apply Array.ext_getElem?
   intro i
   by_cases hi:i<c.size
   ·have gN:e'.xs[i]? = some c[i]:=NF h3.2.2.2 (by simp[hi])
    rw[h6 i _ gN];simp[hi]
   ·rw[Array.getElem?_eq_none (by omega),Array.getElem?_eq_none (by omega)]
  rw[this]
theorem Fn.law{P:Program}{f:FuncId}{args:Array Value}{w:World}(h:Fn P f args (kN w) (fun v H'=>Heap.le (kN w) H'∧v = .bool true)):Calls P f args w fun e w'=>e = .returned (.bool true)∧Below w.heap.size w w':=
 (h.run w (ai6 w)).mono fun _ _ ⟨v,he,H',⟨h1,h2⟩,h3,h4⟩=>⟨by rw[he,h2],ai8 h1 h3 h4⟩
section
variable {Hy:Type} {enc:TypeId×Value→Hy} {P:Program} {w:World} {spare:Nat→Bool} {held:Bool}
theorem ai9{α:Type}{Q:List Value→α→Prop}{sz:Nat}{xs cs:List Value}{l:List α}{b:α}(h:bG Q sz xs l)(hb:Q cs b)(hl:cs.length=sz):bG Q sz (xs++cs) (l ++ [b]):=h.append (jq hb hl)
theorem aja{H:Heap}{a:Addr}{xs cs:List Value}(h:Rd H (some a) xs)(k:∀i v,cs[i]? = some v→cell H (a.add (xs.length+i))=some v):Rd H (some a) (xs++cs):=fun i v hv=>by
 by_cases hi:i<xs.length
 ·rw[List.getElem?_append_left hi]at hv;exact h i v hv
 ·rw[List.getElem?_append_right (by omega)]at hv
  have:=k _ _ hv
  rw[show xs.length+(i-xs.length)=i by omega]at this
  exact⟨a,rfl,this⟩
theorem ZH{α:Type}{Q:Heap→List Value→α→Prop}{t e sz:Nat}(ht:P.underlying t=some (.slice e))(hc:P.cellsOf e=sz)(hp:0<sz)(hq:∀n cs x,cs.length=sz→DataW.trod enc P w 0 spare held n e cs=some x→∃a,Q (kN w) cs a)
  {n:Nat} {cs:List Value} {x:DataW Hy×List MemPlace} (h:DataW.trod enc P w 0 spare held n t cs=some x):∃v l,cs = [v]∧aN Q sz (kN w) v (l:List α)∧l.length≤maxLen:=by
 rcases Deep.open_slice ht h with ⟨rfl,_⟩ | ⟨a,len,cap,m,n',D,Pl,rfl,_,hl,hm,hmm,_,hx⟩
 ·exact⟨_,[],rfl,Ip,Nat.zero_le _⟩
 ·have Ew:len≤m:=by rw[hmm];split <;> omega
  rw[hc]at hx
  have key:∀k,k≤len→∃xs l,l.length=k∧bG (Q (kN w)) sz xs (l:List α)∧Rd (kN w) (some a) xs:=by
   intro k
   induction k with
   | zero=>exact fun _=>⟨[],[],rfl,sj,Rd.nil _ _⟩
   | succ k ih=>
    intro hk
    obtain⟨xs,l,h1,h2,h3⟩:=ih (by omega)
    obtain⟨cK,h4,h5⟩:=hx k (by omega)
    obtain⟨_,h6,h7⟩:=World.cells?_some h4
    obtain⟨b,hb⟩:=hq _ _ _ h6 h5
    refine⟨xs++cK,l ++ [b],by simp[h1],ai9 h2 hb h6,aja h3 fun i v hv=> ?_⟩
    have hi:=(List.getElem?_eq_some_iff.1 hv).1
    have h8:=h7 i (by omega)
    rw[hv,add_add]at h8
    rw[h2.len,h1];exact ai7 h8
  obtain⟨xs,l,h1,h2,h3⟩:=key len (Nat.le_refl _)
  refine⟨_,l,rfl,⟨some a,cap,xs,by rw[h1],by omega,h3,h2⟩,by omega⟩
end
end Go.aq
namespace Go.aq
def Mg(ms:List Nat)(o:Oper):Nat:=o.after.toList.foldl (fun m e=>cond (Region.binds .any e) (m ||| (1 <<< e.on) ||| ms.getD e.on 0) m) 0
def Mh(md:Mode)(l:List Oper)(ms:List Nat):List Nat→Bool
 | []=>true
 | i::r=>r.all (fun j=>Nat.testBit (ms.getD j 0) i||Sw md l.toArray (fg l i) (fg l j))&&Mh md l ms r
def ZI(n:Nat)(md:Mode)(l:List Oper)(perm ms:List Nat):Bool:=
 !md.Uq&&Fo n l&&Nat.beq perm.length l.length&&perm.all (fun i=>Nat.blt i l.length)&&Fp perm&&Mh md l ms perm&&(List.range l.length).all (fun i=>perm.contains i) &&
 ((List.range l.length).all fun i=>(fg l i).after.all fun e=> !Region.binds .any e||Nat.blt e.on i)&&(List.range l.length).all fun j=>Nat.beq (ms.getD j 0) (Mg ms (fg l j))
theorem ZJ{ms:List Nat}{i:Nat}:∀(es:List Edge)(m:Nat),(es.foldl (fun m e=>cond (Region.binds .any e) (m ||| (1 <<< e.on) ||| ms.getD e.on 0) m) m).testBit i=true→m.testBit i=true∨∃e,e∈es∧Region.binds .any e=true∧(e.on=i∨(ms.getD e.on 0).testBit i=true)
 | [],m,h=> .inl h
 | e::es,m,h=>by
  rcases ZJ es _ h with h1 | ⟨e',h1,h2⟩
  ·cases hb:Region.binds .any e with
   | false=>dsimp only at h1;rw[hb]at h1;exact .inl h1
   | true=>
    dsimp only at h1
    rw[hb]at h1
    simp only[cond_true,Nat.testBit_or,Bool.or_eq_true]at h1
    rcases h1 with (h1 | h1) | h1
    ·exact .inl h1
    ·refine .inr ⟨e,List.mem_cons_self ..,hb,.inl ?_⟩
     rw[Nat.one_shiftLeft,Nat.testBit_two_pow]at h1
     simpa using h1
    ·exact .inr ⟨e,List.mem_cons_self ..,hb,.inr h1⟩
  ·exact .inr ⟨e',List.mem_cons_of_mem _ h1,h2⟩
theorem ZK{l:List Oper}:∀(f i j:Nat),pB l f i j=true→pB l (f+1) i j=true
 | 0,_,_,h=>by cases h
 | f+1,i,j,h=>by
  unfold pB at h⊢
  rw[Array.any_eq_true]at h⊢
  obtain⟨k,hk,h⟩:=h
  refine⟨k,hk,?_⟩
  simp only[Bool.and_eq_true,Bool.or_eq_true]at h⊢
  exact⟨h.1,h.2.imp id fun h=>ZK f i _ h⟩
theorem ZL{l:List Oper}{f g i j:Nat}(h:pB l f i j=true)(hg:f≤g):pB l g i j=true:=by
 obtain⟨k,rfl⟩:=Nat.le.dest hg
 clear hg
 induction k with
 | zero=>exact h
 | succ k ih=>exact ZK _ _ _ ih
theorem ajb{l:List Oper}{ms:List Nat}(hb:∀i,i<l.length→∀e,e∈(fg l i).after→Region.binds .any e=true→e.on<i)(hm:∀j,j<l.length→ms.getD j 0=Mg ms (fg l j))(i:Nat):∀(k j:Nat),j<k→j<l.length→(ms.getD j 0).testBit i=true→pB l (j+1) i j=true:=by
 intro k
 induction k with
 | zero=>intro j h;omega
 | succ k ih=>
  intro j hk hj h
  rw[hm j hj]at h
  rcases ZJ _ _ h with h1 | ⟨e,h1,h2,h3⟩
  ·simp at h1
  ·have FI:e∈(fg l j).after:=Array.mem_toList_iff.1 h1
   have bP:=hb j hj e FI h2
   unfold pB
   rw[Array.any_eq_true]
   obtain⟨q,hq,e1⟩:=Array.mem_iff_getElem.1 FI
   refine⟨q,hq,?_⟩
   rw[e1]
   simp only[Bool.and_eq_true,Bool.or_eq_true]
   refine⟨h2,?_⟩
   rcases h3 with h3 | h3
   ·exact .inl (by rw[h3];exact Nat.beq_refl i)
   ·exact .inr (ZL (ih e.on (by omega) (by omega) h3) (by omega))
theorem ZM{md:Mode}{l:List Oper}{ms:List Nat}(hb:∀i,i<l.length→∀e,e∈(fg l i).after→Region.binds .any e=true→e.on<i)(hm:∀j,j<l.length→ms.getD j 0=Mg ms (fg l j)):∀r:List Nat,(∀i,i∈r→i<l.length)→Mh md l ms r=true→Ay md l r=true
 | [],_,_=>rfl
 | i::r,hr,h=>by
  unfold Mh at h
  unfold Ay
  simp only[Bool.and_eq_true,List.all_eq_true,Bool.or_eq_true]at h⊢
  refine⟨fun j hj=> ?_,ZM hb hm r (fun k hk=>hr k (List.mem_cons_of_mem _ hk)) h.2⟩
  have hl:=hr j (List.mem_cons_of_mem _ hj)
  exact(h.1 j hj).imp (fun h9=>ZL (ajb hb hm i _ j (Nat.lt_succ_self j) hl h9) (by omega)) id
theorem gV{n:Nat}{md:Mode}{l:List Oper}{perm:List Nat}(ms:List Nat)(h:ZI n md l perm ms=true):CQ n md l perm=true:=by
 unfold ZI at h
 simp only[Bool.and_eq_true]at h
 obtain⟨⟨⟨⟨⟨⟨⟨⟨h1,h2⟩,h3⟩,h4⟩,h5⟩,h6⟩,h7⟩,h8⟩,h9⟩:=h
 have hb:∀i,i<l.length→∀e,e∈(fg l i).after→Region.binds .any e=true→e.on<i:=fun i hi e he s8=>by
  have k1:=List.all_eq_true.1 h8 i (List.mem_range.2 hi)
  obtain⟨q,hq,e1⟩:=Array.mem_iff_getElem.1 he
  have k2:=Array.all_eq_true.1 k1 q hq
  rw[e1,s8]at k2
  simp only[Bool.not_true,Bool.false_or]at k2
  exact Fm k2
 have hm:∀j,j<l.length→ms.getD j 0=Mg ms (fg l j):=fun j hj=>Nat.eq_of_beq_eq_true (List.all_eq_true.1 h9 j (List.mem_range.2 hj))
 have hp:Ay md l perm=true:=ZM hb hm perm (fun i hi=>Fm (List.all_eq_true.1 h4 i hi)) h6
 unfold CQ
 simp only[Bool.and_eq_true]
 exact⟨⟨⟨⟨⟨⟨⟨h1,h2⟩,h3⟩,h4⟩,h5⟩,hp⟩,h7⟩,h8⟩
end Go.aq
namespace Go.aq
open Go.Proofs Num Lp
def fA(vs:List Value)(q:Rat):Prop:=∃n d:Int,vs = [.int .i64 n,.int .i64 d]∧-1073741824≤n∧n≤1073741824∧1≤d∧d≤1073741824∧q=(n:Rat)/(d:Rat)
theorem EF:fA [.int .i64 0,.int .i64 1] 0:=⟨0,1,rfl,by decide,by decide,by decide,by decide,by grind⟩
theorem xL{a b:Int}(h1: -1073741824≤a)(h2:a≤1073741824)(h3: -1073741824≤b)(h4:b≤1073741824): -1152921504606846976≤a*b∧a*b≤1152921504606846976:=by
 have h5:(a*b).natAbs≤1073741824*1073741824:=by rw[Int.natAbs_mul];exact Nat.mul_le_mul (by omega) (by omega)
 omega
theorem ajc{n d a:Int}(ha:a≠0)(h1:a∣n)(h2:a∣d):((n.tdiv a:Int):Rat)/((d/a:Int):Rat)=(n:Rat)/(d:Rat):=by
 obtain⟨k,rfl⟩:=h1
 obtain⟨j,rfl⟩:=h2
 rw[Int.mul_tdiv_cancel_left _ ha,Int.mul_ediv_cancel_left _ ha]
 have h3:(a:Rat)≠0:=by exact_mod_cast ha
 by_cases hj:j=0
 ·subst hj;rw[Int.mul_zero];simp[Rat.div_def]
 ·have h4:(j:Rat)≠0:=by exact_mod_cast hj
  rw[Rat.intCast_mul,Rat.intCast_mul]
  rw[Rat.div_def,Rat.div_def,Rat.inv_mul_rev]
  grind
def Rx(gs:List Nat)(g:Nat)(rv bv:Value)(o:Bool)(H:Heap)(q:Rat)(v:Value)(H':Heap):Prop:=
 fU gs g H H'∧∃(vs:List Value)(o':Bool)(q':Rat),v = .agg vs.toArray∧fA vs q'∧H' g=some ⟨[rv,bv,.bool o'],3,135,true⟩∧(o'=false→o=false∧q'=q)
theorem Ry{H:Heap}{gs:List Nat}{g:Nat}{rv bv:Value}{o:Bool}(hg:g∈gs)(ht:H g=some ⟨[rv,bv,.bool o],3,135,true⟩){n d:Int}(h1: -4611686018427387904≤n)(h2:n≤4611686018427387904)(h3:1≤d)(h4:d≤4611686018427387904):
 Fn Tryz.prog 135 #[.pointer (some ⟨g,0,none⟩),.int .i64 n,.int .i64 d] H (Rx gs g rv bv o H ((n:Rat)/(d:Rat))):=by
 refine aY (args:=[_,_,_]) Tryz.func135 rfl rfl Tryz.ntmps135 rfl rfl fun w0=> ?_;refine ah [0,1,2] rfl ?_;refine ae (bm fQ rfl (ab [0,1,2,6] ?_));refine ae (aa 4 rfl (ab [0,1,2,6,7,8] ?_));refine C3 (put (put (put (put (put (put (emp) 0 (.val (.pointer (some ⟨g,0,none⟩)))) 1 (.val (.int .i64 n))) 2 (.val (.int .i64 d))) 6 (.box [.int .i64 0,.int .i64 0])) 7 (.val (.int .i64 (n.natAbs:Int)))) 8 (.val (.int .i64 d))) (fun H'=>H'=H) ?_ ?_
 ·
  refine ae (aa 2 rfl (ab [0,1,2,6,7,8,12] ?_));refine aD rfl (fun hb=> ?_) (fun hb=> ?_)
  ·
   have hb:n<0:=by simpa using hb
   refine aA rfl (aa 1 rfl (tD rfl ⟨by omega,by omega⟩ (aa 1 rfl (au ?_))));exact⟨ar,rfl⟩
  ·
   have hb:0≤n:=by simpa using hb
   refine aw ?_;exact⟨ar,rfl⟩
 ·
  rintro H0 e0;rw[e0];clear e0 H0;refine ao (aE (fX (fun(a:Nat)(b:Nat)=>b) (fun(a:Nat)(b:Nat)=>put (put (put (put (put (put (emp) 0 (.val (.pointer (some ⟨g,0,none⟩)))) 1 (.val (.int .i64 n))) 2 (.val (.int .i64 d))) 6 (.box [.int .i64 0,.int .i64 0])) 7 (.val (.int .i64 (a:Int)))) 8 (.val (.int .i64 (b:Int)))) (fun(a:Nat)(b:Nat) H'=>H'=H∧Nat.gcd a b=Nat.gcd n.natAbs d.natAbs∧a≤9223372036854775807∧b≤9223372036854775807) n.natAbs d.natAbs (⟨rfl,rfl,by omega,by omega⟩) ar ?_));rintro a b H2 ⟨e2,kI,ha,lz⟩;refine ao (ae (aa 2 rfl (ab [0,1,2,6,7,8,16] ?_)));refine aD rfl (fun hb=> ?_) (fun hb=> ?_)
  ·
   have hb:0<b:=by simp at hb;omega
   refine aw (ah [0,1,2,6,7,8] rfl ?_);refine aE (eK .bK [0,1,2,3,4,5] follows (by kernel_rfl) ?_);refine aa 3 rfl (mT rfl rfl (by omega) (by omega) (aa 2 rfl (au ?_)));exact⟨b,a%b,Nat.mod_lt a hb,ar,e2,by rw[←kI,Nat.gcd_comm b,←Nat.gcd_rec,Nat.gcd_comm],lz,by have:=Nat.mod_lt a hb;omega⟩
  have hb:b=0:=by simp at hb;omega
  subst hb;rw[Nat.gcd_zero_right]at kI
  have ha0:0<a:=by rw[kI];exact Nat.gcd_pos_of_pos_right _ (by omega)
  have N7:(a:Int)∣n:=Int.ofNat_dvd_left.2 (by rw[kI];exact Nat.gcd_dvd_left _ _);have ZN:(a:Int)∣d:=Int.ofNat_dvd_left.2 (by rw[kI];exact Nat.gcd_dvd_right _ _)
  have He: -4611686018427387904≤n.tdiv a∧n.tdiv a≤4611686018427387904:=by
   have:(n.tdiv a).natAbs≤n.natAbs:=by rw[Int.natAbs_tdiv];exact Nat.div_le_self _ _
   omega
  have hd9:d/(a:Int)≤d:=Int.ediv_le_self _ (by omega)
  have hd8:1≤d/(a:Int):=by
   obtain⟨k,hk⟩:=ZN;rw[hk,Int.mul_ediv_cancel_left _ (by omega)]
   rcases Int.lt_or_le k 1 with h | h
   ·
    have:(a:Int)*k≤0:=Int.mul_nonpos_of_nonneg_of_nonpos (by omega) (by omega)
    omega
   ·exact h
  have ajd:=ajc (show (a:Int)≠0 by omega) N7 ZN;rw[e2];clear e2 kI lz;refine aU (ah [0,1,2,6,7] rfl ?_);refine AI (fun(x:Int)(y:Int)=>put (put (put (put (emp) 0 (.val (.pointer (some ⟨g,0,none⟩)))) 1 (.val (.int .i64 x))) 2 (.val (.int .i64 y))) 6 (.box [.int .i64 0,.int .i64 0])) (fun(x:Int)(y:Int) H'=>H'=H∧1≤y∧(-4611686018427387904≤x∧x≤4611686018427387904∧y≤4611686018427387904)∧(x:Rat)/(y:Rat)=(n:Rat)/(d:Rat)) ?_ ?_
  ·
   refine ae (aa 2 rfl (ab [0,1,2,6,7,22] ?_));refine aD rfl (fun hb=> ?_) (fun hb=> ?_)
   ·
    skip
    refine eK .bK [0,1,2,3,4,5,6,7] follows (by kernel_rfl) ?_;refine aa 2 rfl (UQ rfl rfl (by omega) ⟨by omega,by omega⟩ (aa 2 rfl (lS rfl rfl (by omega) (by omega) ⟨by omega,by omega⟩ (aa 2 rfl (au ?_)))));exact⟨_,_,ar,rfl,hd8,⟨He.1,He.2,by omega⟩,ajd⟩
   skip
   refine aw ?_;exact⟨_,_,ar,rfl,h3,⟨h1,h2,h4⟩,rfl⟩
  rintro x y H3 ⟨rfl,rZ,⟨fK,eT,Ln⟩,qx⟩;refine ao ?_
  by_cases g1:1073741824<x
  ·
   skip
   refine ae (aa 1 rfl (aG true rfl rfl (oB (by omega)) (aa 8 rfl (ab [0,1,2,6,38] ?_))));refine cI rfl (ae (aa 2 rfl (aV ag rfl rfl rfl ?_)));obtain⟨ti,aj,ak⟩:=FO;refine j9 (g:=g) (o:=2) (.inl rfl) rfl ht rfl (by show 2+1≤3;omega) aj ak rfl rfl rfl rfl ?_;refine ab [6] ?_;refine ae (di ag rfl fQ rfl rfl ?_);obtain⟨ti,aj,ak⟩:=eF;refine aI (.inl ⟨rfl,rfl⟩) rfl rfl rfl aj ak rfl rfl rfl (ab [6] ?_);obtain⟨b8,aP,aQ⟩:=eF;refine az ⟨.inr rfl,_,.agg rfl Tryz.underlying138 aP aQ (.nil),?_⟩;exact⟨(Kept.refl _ _).iI g |>.ins hg _,_,true,0,rfl,EF,by rw[bC];rfl,fun h=>by cases h⟩
  skip
  by_cases g2:x < -1073741824
  ·
   skip
   refine ae (aa 1 rfl (aG false rfl rfl (kA (by omega)) (aa 2 rfl (aG true rfl rfl (je (by omega)) (aa 5 rfl (ab [0,1,2,6,38] ?_))))));refine cI rfl (ae (aa 2 rfl (aV ag rfl rfl rfl ?_)));obtain⟨ti,aj,ak⟩:=FO;refine j9 (g:=g) (o:=2) (.inl rfl) rfl ht rfl (by show 2+1≤3;omega) aj ak rfl rfl rfl rfl ?_;refine ab [6] ?_;refine ae (di ag rfl fQ rfl rfl ?_);obtain⟨ti,aj,ak⟩:=eF;refine aI (.inl ⟨rfl,rfl⟩) rfl rfl rfl aj ak rfl rfl rfl (ab [6] ?_);obtain⟨b8,aP,aQ⟩:=eF;refine az ⟨.inr rfl,_,.agg rfl Tryz.underlying138 aP aQ (.nil),?_⟩;exact⟨(Kept.refl _ _).iI g |>.ins hg _,_,true,0,rfl,EF,by rw[bC];rfl,fun h=>by cases h⟩
  skip
  by_cases g3:1073741824<y
  ·
   skip
   refine ae (aa 1 rfl (aG false rfl rfl (kA (by omega)) (aa 2 rfl (aG false rfl rfl (iq (by omega)) (aa 3 rfl (aG true rfl rfl (oB (by omega)) (aa 1 rfl (ab [0,1,2,6,38] ?_))))))));refine cI rfl (ae (aa 2 rfl (aV ag rfl rfl rfl ?_)));obtain⟨ti,aj,ak⟩:=FO;refine j9 (g:=g) (o:=2) (.inl rfl) rfl ht rfl (by show 2+1≤3;omega) aj ak rfl rfl rfl rfl ?_;refine ab [6] ?_;refine ae (di ag rfl fQ rfl rfl ?_);obtain⟨ti,aj,ak⟩:=eF;refine aI (.inl ⟨rfl,rfl⟩) rfl rfl rfl aj ak rfl rfl rfl (ab [6] ?_);obtain⟨b8,aP,aQ⟩:=eF;refine az ⟨.inr rfl,_,.agg rfl Tryz.underlying138 aP aQ (.nil),?_⟩;exact⟨(Kept.refl _ _).iI g |>.ins hg _,_,true,0,rfl,EF,by rw[bC];rfl,fun h=>by cases h⟩
  skip
  refine ae (aa 1 rfl (aG false rfl rfl (kA (by omega)) (aa 2 rfl (aG false rfl rfl (iq (by omega)) (aa 3 rfl (aG false rfl rfl (kA (by omega)) (aa 1 rfl (ab [0,1,2,6,38] ?_))))))));refine dd rfl (aw (ah [1,2,6] rfl ?_));refine ae (aa 2 rfl (di ag rfl fQ rfl rfl ?_));obtain⟨ti,aj,ak⟩:=eF;refine aI (.inl ⟨rfl,rfl⟩) rfl rfl rfl aj ak rfl rfl rfl (ab [6] ?_);obtain⟨b8,aP,aQ⟩:=eF;refine az ⟨.inr rfl,_,.agg rfl Tryz.underlying138 aP aQ (.nil),?_⟩;exact⟨(Kept.refl _ _).iI g,_,o,_,rfl,⟨x,y,rfl,by omega,by omega,by omega,by omega,rfl⟩,ht,fun h=>⟨h,qx⟩⟩
theorem ZO{n d a b:Int}:((n*a:Int):Rat)/((d*b:Int):Rat)=(n:Rat)/(d:Rat)*((a:Rat)/(b:Rat)):=by
 rw[Rat.intCast_mul,Rat.intCast_mul,Rat.div_def,Rat.div_def,Rat.div_def,Rat.inv_mul_rev];grind
theorem ZP{n d a b:Int}(h1:1≤d)(h2:1≤b):((n*b-a*d:Int):Rat)/((d*b:Int):Rat)=(n:Rat)/(d:Rat)-(a:Rat)/(b:Rat):=by
 have h3:(d:Rat)≠0:=by exact_mod_cast (show d≠0 by omega)
 have h4:(b:Rat)≠0:=by exact_mod_cast (show b≠0 by omega)
 rw[Rat.intCast_sub,Rat.intCast_mul,Rat.intCast_mul,Rat.intCast_mul,Rat.div_def,Rat.div_def,Rat.div_def,Rat.inv_mul_rev]
 grind
theorem Mi{a b:Int}(h1:1≤a)(h2:1≤b):1≤a*b:=by
 have:=Int.mul_le_mul h1 h2 (by omega) (by omega)
 omega
theorem Rz{H:Heap}{gs:List Nat}{g:Nat}{rv bv:Value}{o:Bool}(hg:g∈gs)(ht:H g=some ⟨[rv,bv,.bool o],3,135,true⟩){xs ys:List Value}{p q:Rat}(hx:fA xs p)(hy:fA ys q):
 Fn Tryz.prog 137 #[.pointer (some ⟨g,0,none⟩),.agg xs.toArray,.agg ys.toArray] H (Rx gs g rv bv o H (p*q)):=by
 obtain⟨n,d,rfl,h1,h2,h3,h4,rfl⟩:=hx
 obtain⟨a,b,rfl,g1,g2,g3,g4,rfl⟩:=hy
 have m1:=xL (a:=d) (b:=b) (by omega) h4 (by omega) g4
 have m2:=Mi h3 g3
 have m3:=xL h1 h2 g1 g2;refine aY (args:=[_,_,_]) Tryz.func137 rfl rfl Tryz.ntmps137 rfl rfl fun w0=> ?_;refine ah [0,1,2] rfl ?_;refine ae (bZ rfl rfl (bZ rfl rfl (bm fQ rfl (ab [0,4,5,6] ?_))));refine ae (aa 5 rfl (gZ rfl rfl ⟨by omega,by omega⟩ (aa 4 rfl (gZ rfl rfl ⟨by omega,by omega⟩ (aB rfl rfl (Ry hg ht (n:=n*a) (d:=d*b) (by omega) (by omega) (by omega) (by omega)) ?_)))));rintro v1 H1 ⟨k1,vs,o',q',rfl,j1,j2,j3⟩;obtain⟨x,y,rfl,i1⟩:=id j1;obtain⟨ti,aj,ak⟩:=eF;refine aI (.inl ⟨rfl,rfl⟩) rfl rfl rfl aj ak rfl rfl rfl (ab [6] ?_);obtain⟨b8,aP,aQ⟩:=eF;refine az ⟨.inr rfl,_,.agg rfl Tryz.underlying138 aP aQ (.nil),?_⟩;exact⟨k1,_,o',q',rfl,j1,j2,fun h=>⟨(j3 h).1,(j3 h).2.trans ZO⟩⟩
theorem RA{H:Heap}{gs:List Nat}{g:Nat}{rv bv:Value}{o:Bool}(hg:g∈gs)(ht:H g=some ⟨[rv,bv,.bool o],3,135,true⟩){xs ys:List Value}{p q:Rat}(hx:fA xs p)(hy:fA ys q):
 Fn Tryz.prog 98 #[.pointer (some ⟨g,0,none⟩),.agg xs.toArray,.agg ys.toArray] H (Rx gs g rv bv o H (p-q)):=by
 obtain⟨n,d,rfl,h1,h2,h3,h4,rfl⟩:=hx
 obtain⟨a,b,rfl,g1,g2,g3,g4,rfl⟩:=hy
 have m1:=xL (a:=d) (b:=b) (by omega) h4 (by omega) g4
 have m2:=Mi h3 g3
 have m3:=xL h1 h2 (show -1073741824≤b by omega) g4
 have m4:=xL g1 g2 (show -1073741824≤d by omega) h4;refine aY (args:=[_,_,_]) Tryz.func98 rfl rfl Tryz.ntmps98 rfl rfl fun w0=> ?_;refine ah [0,1,2] rfl ?_;refine ae (bZ rfl rfl (bZ rfl rfl (bm fQ rfl (ab [0,4,5,6] ?_))));refine ae (aa 5 rfl (gZ rfl rfl ⟨by omega,by omega⟩ (aa 4 rfl (gZ rfl rfl ⟨by omega,by omega⟩ (cQ rfl rfl ⟨by omega,by omega⟩ (aa 4 rfl (gZ rfl rfl ⟨by omega,by omega⟩ (aB rfl rfl (Ry hg ht (n:=n*b-a*d) (d:=d*b) (by omega) (by omega) (by omega) (by omega)) ?_))))))));rintro v1 H1 ⟨k1,vs,o',q',rfl,j1,j2,j3⟩;obtain⟨x,y,rfl,i1⟩:=id j1;obtain⟨ti,aj,ak⟩:=eF;refine aI (.inl ⟨rfl,rfl⟩) rfl rfl rfl aj ak rfl rfl rfl (ab [6] ?_);obtain⟨b8,aP,aQ⟩:=eF;refine az ⟨.inr rfl,_,.agg rfl Tryz.underlying138 aP aQ (.nil),?_⟩;exact⟨k1,_,o',q',rfl,j1,j2,fun h=>⟨(j3 h).1,(j3 h).2.trans (ZP h3 g3)⟩⟩
theorem ZQ{x:Nat}(h:(al x).length=1):al x = [x]∧x<1000000000∧0<x:=by
 have h1:x<B^1:=jd.1 (by omega)
 have h2:0<x:=Nat.pos_of_ne_zero fun e=>by subst e;rw[qt]at h;cases h
 have h3:x<B:=by simpa using h1
 refine⟨?_,by rw[show B=1000000000 from rfl]at h3;exact h3,h2⟩
 rw[yE h2,Nat.mod_eq_of_lt h3,Nat.div_eq_of_lt h3,qt]
theorem ZR{H:Heap}{v:Value}{q:Rat}{N:Nat}(hv:cW H v q N)(hN:(N:Int)≤4398046511000):
 Fn Tryz.prog 97 #[v] H (fun v' H'=>Heap.le H H'∧∃(n d:Int)(b:Bool),v' = .tuple #[.agg #[.int .i64 n,.int .i64 d],.bool b]∧(b=true→fA [.int .i64 n,.int .i64 d] q)):=by
 obtain⟨bf,bu,bw,nL,nM,rfl,dU,dg,fZ,xF,BJ,ni,RB⟩:=id hv;refine aY (args:=[_]) Tryz.func97 rfl rfl Tryz.ntmps97 rfl rfl fun w0=> ?_;refine ah [0] rfl ?_;refine ae (bZ rfl rfl (bm fQ rfl (aa 1 rfl (ab [1,2] ?_))));refine ae (aa 1 rfl (aB rfl rfl (uj hv hN) ?_));rintro _ H1 ⟨bg,bX⟩
 unfold bH at bX
 obtain⟨u,w,rfl,hu,hw⟩:=id bX;obtain⟨A,c,rfl,hc,hr⟩:=id hu;obtain⟨A2,c2,rfl,m0,kY⟩:=id hw;refine bm cj rfl ?_;obtain⟨ti,aj,ak⟩:=aX;refine aI (.inl ⟨rfl,rfl⟩) rfl rfl rfl aj ak rfl rfl rfl (ab [2,4] ?_);refine ao ?_
 by_cases g1:1<(al q.num.natAbs).length
 ·
  skip
  refine ae (aa 3 rfl (aG true rfl rfl (oB (by omega)) (aa 6 rfl (ab [2,4,17] ?_))));refine cI rfl (ae (di ag rfl fQ rfl rfl ?_));obtain⟨ti,aj,ak⟩:=eF;refine aI (.inl ⟨rfl,rfl⟩) rfl rfl rfl aj ak rfl rfl rfl (aa 1 rfl (ab [2,3] ?_));obtain⟨b8,aP,aQ⟩:=eF;refine az ⟨.inr rfl,_,.agg rfl Tryz.underlying138 aP aQ (.tmp rfl (.nil)),?_⟩;exact⟨bg,0,0,false,rfl,fun h=>by cases h⟩
 ·
  skip
  by_cases g2:¬(al q.den).length=1
  ·
   skip
   refine ae (aa 3 rfl (aG false rfl rfl (kA (by omega)) (aa 4 rfl (aG true rfl rfl (vx (by omega)) (aa 1 rfl (ab [2,4,17] ?_))))));refine cI rfl (ae (di ag rfl fQ rfl rfl ?_));obtain⟨ti,aj,ak⟩:=eF;refine aI (.inl ⟨rfl,rfl⟩) rfl rfl rfl aj ak rfl rfl rfl (aa 1 rfl (ab [2,3] ?_));obtain⟨b8,aP,aQ⟩:=eF;refine az ⟨.inr rfl,_,.agg rfl Tryz.underlying138 aP aQ (.tmp rfl (.nil)),?_⟩;exact⟨bg,0,0,false,rfl,fun h=>by cases h⟩
  have g2:(al q.den).length=1:=by omega
  obtain⟨ff,j6,KB⟩:=ZQ g2;have Ai:(U (al q.den))[0]? = some (.int .u32 (q.den:Int)):=dC (by rw[ff];rfl)
  have Gf:q.num.natAbs<1000000000:=by
   have:=jd.1 (show (al q.num.natAbs).length≤1 by omega)
   rwa [Nat.pow_one,ck]at this
  refine ae (aa 3 rfl (aG false rfl rfl (kA (by omega)) (aa 4 rfl (aG false rfl rfl (wE (by omega)) (aa 1 rfl (ab [2,4,17] ?_))))));refine dd rfl (aw (ah [2,4] rfl ?_));refine ae (aa 2 rfl (aS ag rfl rfl rfl rfl rfl (kY) (Ai) (by omega) (by omega) fun _=>(dr ag rfl rfl rfl ⟨by omega,by omega⟩ (di ag rfl fQ rfl rfl (bm fQ rfl ?_)))));obtain⟨ti,aj,ak⟩:=eF;refine aI (.inl ⟨rfl,rfl⟩) rfl rfl rfl aj ak rfl rfl rfl (ab [2,4,5] ?_);refine C3 (put (put (put (emp) 2 (.box [.int .i64 0,.int .i64 0])) 4 (.box [.bool (decide (q.num<0)),.slice A (al q.num.natAbs).length c,.slice A2 (al q.den).length c2])) 5 (.box [.int .i64 (q.num.natAbs:Int),.int .i64 (q.den:Int)])) (fun H'=>H'=H1) ?_ ?_
  ·
   refine ae (aa 4 rfl (ab [2,4,5,28] ?_));refine aD rfl (fun hb=> ?_) (fun hb=> ?_)
   ·
    have hb:(al q.num.natAbs).length=1:=by simp at hb;omega
    obtain⟨du,ia,jP⟩:=ZQ hb;have hnx:(U (al q.num.natAbs))[0]? = some (.int .u32 (q.num.natAbs:Int)):=dC (by rw[du];rfl);refine aA rfl (aa 2 rfl (aS ag rfl rfl rfl rfl rfl (hr) (hnx) (by omega) (by omega) fun _=>(dr ag rfl rfl rfl ⟨by omega,by omega⟩ (vr 1 ?_))));obtain⟨ti,aj,ak⟩:=qq;refine aI (.inr rfl) rfl rfl rfl aj ak rfl rfl rfl (au ?_);exact⟨ar,rfl⟩
   have hb:¬(al q.num.natAbs).length=1:=by simp at hb;omega
   have hz:q.num.natAbs=0:=jO.1 (by omega);rw[hz];refine aw ?_;exact⟨ar,rfl⟩
  rintro H0 e0;rw[e0];clear e0 H0;refine C3 (put (put (emp) 2 (.box [.int .i64 0,.int .i64 0])) 5 (.box [.int .i64 q.num,.int .i64 (q.den:Int)])) (fun H'=>H'=H1) ?_ ?_
  ·
   refine ae (aa 2 rfl (ab [2,5,36] ?_));refine aD rfl (fun hb=> ?_) (fun hb=> ?_)
   ·
    have hb:q.num<0:=by simpa using hb
    have e9: -((q.num.natAbs:Nat):Int)=q.num:=by omega
    refine aA rfl (aa 2 rfl (tD rfl ⟨by omega,by omega⟩ ?_));rw[e9];refine vr 1 ?_;obtain⟨ti,aj,ak⟩:=qq;refine aI (.inr rfl) rfl rfl rfl aj ak rfl rfl rfl (au ?_);exact⟨ar,rfl⟩
   have hb:0≤q.num:=by simpa using hb
   rw[show ((q.num.natAbs:Nat):Int)=q.num by omega];refine aw ?_;exact⟨ar,rfl⟩
  rintro H0 e0;rw[e0];clear e0 H0
  by_cases k1:q.num≤1073741824
  ·
   skip
   by_cases k2: -1073741824≤q.num
   ·
    skip
    by_cases k3:(q.den:Int)≤1073741824
    ·
     skip
     refine bN (.qh [2]) [0,1,2,3,4,5,6,7,8,9,10,11,12,13,14,15] follows (gV [0,0,2,6,14,30,62,126,254,510,1022,2046,4094,8190,1023,32767] (by kernel_rfl)) ?_;refine aa 3 rfl (aG true rfl rfl (rW (by omega)) (aa 3 rfl (aG true rfl rfl (lT (by omega)) (aa 4 rfl (aG true rfl rfl (rW (by omega)) (vr 1 ?_))))));obtain⟨ti,aj,ak⟩:=eF;refine aI (.inl ⟨rfl,rfl⟩) rfl rfl rfl aj ak rfl rfl rfl (aa 1 rfl (ab [2,3] ?_));obtain⟨b8,aP,aQ⟩:=eF;refine az ⟨.inr rfl,_,.agg rfl Tryz.underlying138 aP aQ (.tmp rfl (.nil)),?_⟩;exact⟨bg,_,_,true,rfl,fun _=>⟨_,_,rfl,k2,k1,by omega,k3,(tO q).symm⟩⟩
    skip
    refine bN (.qh [2]) [0,1,2,3,4,5,6,7,8,9,10,11,12,13,14,15] follows (gV [0,0,2,6,14,30,62,126,254,510,1022,2046,4094,8190,1023,32767] (by kernel_rfl)) ?_;refine aa 3 rfl (aG true rfl rfl (rW (by omega)) (aa 3 rfl (aG true rfl rfl (lT (by omega)) (aa 4 rfl (aG false rfl rfl (AL (by omega)) (vr 1 ?_))))));obtain⟨ti,aj,ak⟩:=eF;refine aI (.inl ⟨rfl,rfl⟩) rfl rfl rfl aj ak rfl rfl rfl (aa 1 rfl (ab [2,3] ?_));obtain⟨b8,aP,aQ⟩:=eF;refine az ⟨.inr rfl,_,.agg rfl Tryz.underlying138 aP aQ (.tmp rfl (.nil)),?_⟩;exact⟨bg,_,_,false,rfl,fun h=>by cases h⟩
   skip
   refine bN (.qh [2]) [0,1,2,3,4,5,6,7,8,9,10,11,12,13,14,15] follows (gV [0,0,2,6,14,30,62,126,254,510,1022,2046,4094,8190,1023,32767] (by kernel_rfl)) ?_;refine aa 3 rfl (aG true rfl rfl (rW (by omega)) (aa 3 rfl (aG false rfl rfl (pE (by omega)) (vr 6 ?_))));obtain⟨ti,aj,ak⟩:=eF;refine aI (.inl ⟨rfl,rfl⟩) rfl rfl rfl aj ak rfl rfl rfl (aa 1 rfl (ab [2,3] ?_));obtain⟨b8,aP,aQ⟩:=eF;refine az ⟨.inr rfl,_,.agg rfl Tryz.underlying138 aP aQ (.tmp rfl (.nil)),?_⟩;exact⟨bg,_,_,false,rfl,fun h=>by cases h⟩
  skip
  refine bN (.qh [2]) [0,1,2,3,4,5,6,7,8,9,10,11,12,13,14,15] follows (gV [0,0,2,6,14,30,62,126,254,510,1022,2046,4094,8190,1023,32767] (by kernel_rfl)) ?_;refine aa 3 rfl (aG false rfl rfl (AL (by omega)) (vr 10 ?_));obtain⟨ti,aj,ak⟩:=eF;refine aI (.inl ⟨rfl,rfl⟩) rfl rfl rfl aj ak rfl rfl rfl (aa 1 rfl (ab [2,3] ?_));obtain⟨b8,aP,aQ⟩:=eF;refine az ⟨.inr rfl,_,.agg rfl Tryz.underlying138 aP aQ (.tmp rfl (.nil)),?_⟩;exact⟨bg,_,_,false,rfl,fun h=>by cases h⟩
end Go.aq
namespace Go.aq
open Go.Proofs Num Lp
theorem xM{H:Heap}{a b:List Nat}(h:∀q,q∈a→q∈b):Heap.le (rem H b) (rem H a):=fun q en hq=>by
 by_cases hm:q∈b
 ·rw[rem_in hm]at hq;cases hq
 ·rw[bM hm]at hq
  exact⟨en,by rw[bM (fun h'=>hm (h q h'))];exact hq,.refl _⟩
end Go.aq
namespace Go.aq
open Go.Proofs Num Lp
theorem Rd.drop{H:Heap}{A:Option Addr}{xs:List Value}(h:Rd H A xs)(k:Nat):Rd H (A.map (·.add k)) (xs.drop k):=fun i v hv=>by
 rw[List.getElem?_drop]at hv
 obtain⟨ad,h1,h2⟩:=h (k+i) v hv
 exact⟨ad.add k,by rw[h1];rfl,by rw[Addr.add_add];exact h2⟩
section
variable {α:Type} {P:Heap→List Value→α→Prop} {sz:Nat} {H:Heap} {A:Option Addr} {c:Nat} {l:List α}
theorem aN.from(h:aN P sz H (.slice A l.length c) l){k:Nat}(hk:k≤l.length):aN P sz H (.slice (if c=k then A else A.map (·.add (k*sz))) (l.length-k) (c-k)) (l.drop k):=by
 obtain⟨A',c',xs,e,h1,h2,h3⟩:=h
 simp only[Value.slice.injEq]at e
 obtain⟨rfl,_,rfl⟩:=e
 by_cases e:c=k
 ·rw[if_pos e]
  have e2:l.drop k = []:=List.drop_eq_nil_of_le (by omega)
  rw[e2]
  exact⟨A,c-k,[],by rw[show l.length-k=0 by omega];rfl,Nat.zero_le _,Rd.nil _ _,sj⟩
 ·rw[if_neg e]
  exact⟨_,c-k,xs.drop (k*sz),by rw[List.length_drop],by rw[List.length_drop];omega,h2.drop _,h3.drop k⟩
theorem aN.upto(h:aN P sz H (.slice A l.length c) l){k:Nat}(hk:k≤l.length):aN P sz H (.slice (if c=0 then A else A.map (·.add (0*sz))) (k-0) (c-0)) (l.take k):=by
 obtain⟨A',c',xs,e,h1,h2,h3⟩:=h
 simp only[Value.slice.injEq]at e
 obtain⟨rfl,_,rfl⟩:=e
 rw[yH]
 exact⟨A,c,xs.take (k*sz),by rw[List.length_take,Nat.min_eq_left hk];rfl,by rw[List.length_take];omega,h2.take _,h3.take hk⟩
end
def One{α:Type}(P:Heap→List Value→α→Prop):Prop:=∀H vs a,P H vs a→∀u,u∈vs→u.oneCell'=true
theorem aje(N:Nat):One (gB N):=fun _ vs q h u hu=>by
 obtain⟨A,c,k,f,A1,m1,c1,A2,m2,c2,rfl,_⟩:=gB.cells h
 simp only[List.mem_cons,List.not_mem_nil,or_false]at hu
 rcases hu with rfl | rfl | rfl | rfl | rfl <;> rfl
theorem bG.ajf{α:Type}{P:Heap→List Value→α→Prop}{sz:Nat}{H:Heap}{xs:List Value}{l:List α}(h:bG (P H) sz xs l)(o:One P)(hz:0<sz):∀u,u∈xs→u.oneCell'=true:=fun u hu=>by
 obtain⟨k,hk⟩:=List.getElem?_of_mem hu
 have O6:=(List.getElem?_eq_some_iff.1 hk).1
 have hd:=Nat.div_add_mod k sz
 have hm:=Nat.mod_lt k hz
 have bP:k/sz<l.length:=by
  rw[h.len]at O6
  exact(Nat.div_lt_iff_lt_mul hz).2 O6
 refine o H _ _ (h.at_ (k/sz) l[k/sz] (List.getElem?_eq_getElem bP)) u ?_
 apply List.mem_of_getElem? (i:=k%sz)
 unfold gj
 rw[List.getElem?_take,if_pos hm,List.getElem?_drop,←hk]
 congr 1
 rw[Nat.mul_comm];exact hd
theorem B9{P:Program}{n:Nat}{all:Array Oper}{md:Mode}{r:List Oper}{s:St}{H Hb:Heap}{K:St→Heap→Prop}{dst:Option Nat}{ty:TypeId}{pos:String}{after:Array _}{gd:Option (Nat×Bool)}
  {α:Type} {Q:Heap→List Value→α→Prop} {t e sz bytes:Nat} {x y:Operand} {z v w:Value} {l k:List α} {xs:List Value} (up:Up Q) (one:One Q) (hz:0<sz) (ht:P.underlying t=some (.slice e)) (he:fH P e sz z bytes) (hx:ev s x=some v) (hy:ev s y=some w)
  (hG:eo Q e sz Hb H v l xs) (hs:aN Q sz (rem H (aC v)) w k) (hb:(l.length+k.length)*bytes≤140737488355328) (pD:l.length+k.length≤9223372036854775807)
  (hk:∀v' H' ys,eo Q e sz Hb H' v' (l++k) ys→Heap.le (rem H (aC v)) H'→aT P n all md r (bD s dst (.val v')) H' K) (hg:cC all s gd=some true:=by rfl) (nb:md.nb s dst=true:=by rfl):aT P n all md (⟨dst,.call ⟨.builtin .append,#[x,y],#[t,t]⟩,ty,pos,after,gd⟩::r) s H K:=by
 obtain⟨A,c,news,rfl,h1,h2,h3⟩:=hs
 refine eD ht he hx hy hG.own (h2.le (bF _ _)) h3.len (h3.ajf one hz) hb pD (fun v' H' ha=> ?_) hg nb
 have vK:=hG.vZ.append up rfl ha h3
 exact hk v' H' _ (vK.down hG.base) vK.le
end Go.aq
namespace Go.aq
open Go.Proofs Num Lp
structure gH{α:Type}(gs:List Nat)(H0:Heap)(P:Heap→List Value→α→Prop)(e sz:Nat)(H:Heap)(v:Value)(l:List α)(xs:List Value):Prop where
 own:bW H v e sz l.length xs
 jG:bG (P (rem H (gs++aC v))) sz xs l
 base:Heap.le (rem H0 gs) (rem H (gs++aC v))
 same:∀q,q∈gs→H q=H0 q
 live:∀q,q∈gs→H0 q≠none
 apart:∀q,q∈gs→¬q∈aC v
section
variable {α:Type} {gs:List Nat} {H0 H H':Heap} {P:Heap→List Value→α→Prop} {e sz:Nat} {v v':Value} {l:List α} {xs:List Value}
theorem gH.le(h:gH gs H0 P e sz H v l xs):Heap.le H0 H:=fun q en hq=>by
 by_cases hm:q∈gs
 ·exact⟨en,by rw[h.same q hm];exact hq,.refl _⟩
 ·obtain⟨Ef,h1,h2⟩:=h.base q en (by rw[bM hm];exact hq)
  by_cases kD:q∈gs++aC v
  ·rw[rem_in kD]at h1;cases h1
  ·rw[bM kD]at h1;exact⟨Ef,h1,h2⟩
theorem RD(hl:∀q,q∈gs→H q≠none):gH gs H P e sz H (.slice none 0 0) [] []:=⟨lv H e sz,sj,by rw[B8,List.append_nil];exact .refl _,fun _ _=>rfl,hl,fun q _ hq=>by rw[B8]at hq;cases hq⟩
theorem gH.form(h:gH gs H0 P e sz H v l xs):∃A c,v = .slice A l.length c:=h.own.form
theorem gH.uK(h:gH gs H0 P e sz H v l xs):∀q,q∈gs++aC v→H q≠none:=fun q hq=>by
 rcases List.mem_append.1 hq with hq | hq
 ·rw[h.same q hq];exact h.live q hq
 ·obtain⟨en,he⟩:=h.own.block (dh.1 hq);rw[he];simp
theorem gH.step(h:gH gs H0 P e sz H v l xs)(up:Up P)(hs:∀q,q∈gs++aC v→H' q=H q)(hl:Heap.le (rem H (gs++aC v)) (rem H' (gs++aC v))):gH gs H0 P e sz H' v l xs:=
 ⟨h.own.same fun q hq=>hs q (List.mem_append_right _ (dh.2 hq)),h.jG.mono fun vs a=>up _ _ vs a hl,h.base.trans hl,fun q hq=>(hs q (List.mem_append_left _ hq)).trans (h.same q hq),h.live,h.apart⟩
theorem gH.km(h:gH gs H0 P e sz H v l xs)(up:Up P){bE:Value→Heap→Prop}{r:Value}(hf:qB (gs++aC v) bE H r H')(hl:∀v' K,bE v' K→Heap.le (rem H (gs++aC v)) K):gH gs H0 P e sz H' v l xs:=h.step up hf.same (hl _ _ hf.post)
theorem gH.call(h:gH gs H0 P e sz H v l xs){R:Program}{f:FuncId}{args:Array Value}{bE:Value→Heap→Prop}(hc:Fn R f args (rem H (gs++aC v)) bE):Fn R f args H (qB (gs++aC v) bE H):=Fn.frame h.uK hc
theorem gH.ins(h:gH gs H0 P e sz H v l xs)(up:Up P){g:Nat}(en:Ent)(hg:H g=none):gH gs H0 P e sz (ins H g en) v l xs:=by
 have hn:¬g∈gs++aC v:=fun hm=>h.uK g hm hg
 refine h.step up (fun q hq=>bn _ _ fun e=>hn (e▸hq)) ?_
 rw[wW _ hn]
 exact Heap.bI _ (by rw[bM hn];exact hg)
theorem gH.append(h:gH gs H0 P e sz H v l xs)(up:Up P){m:Nat}{zs:List Value}{j:List α}(hm:m=l.length+j.length)(ha:App H v e sz m (xs++zs) v' H')(hz:bG (P (rem H (gs++aC v))) sz zs j):gH gs H0 P e sz H' v' (l++j) (xs++zs):=by
 have new:∀q,q∈aC v'→q∈aC v∨H q=none:=fun q hq=>by
  rcases ha.at_ with h4 | ⟨g,h4,h5⟩
  ·exact .inl (dh.2 (h4▸dh.1 hq))
  ·have:=dh.1 hq;rw[h4]at this;cases this;exact .inr h5
 have ap:∀q,q∈gs→¬q∈aC v':=fun q hg hq=>by
  rcases new q hq with h1 | h1
  ·exact h.apart q hg h1
  ·exact h.uK q (List.mem_append_left _ hg) h1
 have hl:Heap.le (rem H (gs++aC v)) (rem H' (gs++aC v')):=fun q en hq=>by
  by_cases hm:q∈gs++aC v
  ·rw[rem_in hm]at hq;cases hq
  ·rw[bM hm]at hq
   have h1:=ha.same q en hq fun e=>hm (List.mem_append_right _ (dh.2 e))
   have h2:¬q∈gs++aC v':=fun h2=>by
    rcases List.mem_append.1 h2 with h3 | h3
    ·exact hm (List.mem_append_left _ h3)
    ·rcases new q h3 with h4 | h4
     ·exact hm (List.mem_append_right _ h4)
     ·rw[h4]at hq;cases hq
   exact⟨en,by rw[bM h2];exact h1,.refl _⟩
 refine⟨by rw[List.length_append,←hm];exact ha.own,(h.jG.mono fun vs a=>up _ _ vs a hl).append (hz.mono fun vs a=>up _ _ vs a hl),h.base.trans hl,fun q hq=> ?_,h.live,ap⟩
 rw[←h.same q hq]
 obtain⟨en,he⟩:=Option.ne_none_iff_exists'.1 (h.uK q (List.mem_append_left _ hq))
 rw[he]
 exact ha.same q en he fun h1=>h.apart q hq (dh.2 h1)
theorem gH.sl(h:gH gs H0 P e sz H v l xs)(up:Up P):aN P sz (rem H gs) v l:=by
 have h1:Heap.le (rem H (gs++aC v)) (rem H gs):=xM fun q hq=>List.mem_append_left _ hq
 exact Ge.sl ⟨xs,h.own.same fun q hq=>bM fun hg=>h.apart q hg (dh.2 hq),h.jG.mono fun vs a=>up _ _ vs a h1⟩
theorem gH.out(h:gH gs H0 P e sz H v l xs):Heap.le (rem H0 gs) (rem H gs):=h.base.trans (xM fun q hq=>List.mem_append_left _ hq)
end
end Go.aq
namespace Lp
structure aJ where
 c:Int
 ts:List (Int×Int)
def jX:aJ:=⟨0,[]⟩
def q6:List (Int×Int)→Int→Int
 | [],_=>0
 | t::l,v=>if t.1=v then t.2 else q6 l v
def aJ.bU(l:aJ)(v:Int):Int:=q6 l.ts v
def aJ.vars(l:aJ):List Int:=l.ts.map (·.1)
def nth(fs:List aJ)(i:Nat):aJ:=fs.getD i jX
theorem ZS{fs:List aJ}{i:Nat}{f:aJ}(h:fs[i]? = some f):nth fs i=f:=by simp[nth,List.getD,h]
theorem ZT:∀{l:List (Int×Int)}{v:Int},¬v∈l.map (·.1)→q6 l v=0
 | [],_,_=>rfl
 | t::l,v,h=>by
  simp only[List.map_cons,List.mem_cons,not_or]at h
  simp only[q6]
  rw[if_neg (fun e=>h.1 e.symm)]
  exact ZT h.2
theorem RE{f:aJ}{v:Int}(h:¬v∈f.vars):f.bU v=0:=ZT h
theorem ZU:∀{l:List (Int×Int)}{v:Int},q6 l v=0∨∃t,t∈l∧t.1=v∧q6 l v=t.2
 | [],_=> .inl rfl
 | t::l,v=>by
  simp only[q6]
  split
  ·exact .inr ⟨t,by simp,by assumption,rfl⟩
  ·rcases ZU (l:=l) (v:=v)with h | ⟨u,h1,h2,h3⟩
   ·exact .inl h
   ·exact .inr ⟨u,by simp[h1],h2,h3⟩
structure eV(l:aJ):Prop where
 const: -1048576≤l.c∧l.c≤1048576
 len:l.ts.length≤16
 term:∀(i:Nat)(t:Int×Int),l.ts[i]? = some t→t.2≠0∧-1048576≤t.2∧t.2≤1048576∧-1≤t.1∧t.1<3000
 Ix:∀(i:Nat)(a b:Int×Int),l.ts[i]? = some a→l.ts[i+1]? = some b→a.1<b.1
theorem eV.o0{f:aJ}(h:eV f)(v:Int): -1048576≤f.bU v∧f.bU v≤1048576:=by
 rcases ZU (l:=f.ts) (v:=v)with e | ⟨t,h1,h2,h3⟩
 ·unfold aJ.bU;rw[e];decide
 ·obtain⟨i,hi⟩:=List.getElem?_of_mem h1
  have:=h.term i t hi
  unfold aJ.bU;rw[h3];exact⟨this.2.1,this.2.2.1⟩
theorem Mj:eV jX:=⟨by decide,by decide,fun i t h=>by simp[jX]at h,fun i a b h=>by simp[jX]at h⟩
def jH:List Int→Int→List Int
 | [],x=>[x]
 | y::l,x=>if y<x then y::jH l x else if y=x then y::l else x::y::l
def uM(l:List Int):Prop:=l.Pairwise (· < ·)
theorem RF{x v:Int}:∀{l:List Int},v∈jH l x↔v=x∨v∈l
 | []=>by simp[jH]
 | y::l=>by
  unfold jH
  split
  ·rw[List.mem_cons,RF,List.mem_cons]
   constructor
   ·rintro(h | h | h) <;> simp[h]
   ·rintro(h | h | h) <;> simp[h]
  ·split
   ·rename_i e;rw[List.mem_cons,e]
    constructor
    ·rintro(h | h) <;> simp[h]
    ·rintro(h | h | h) <;> simp[h]
   ·rw[List.mem_cons]
theorem ZV{x:Int}:∀{l:List Int},uM l→uM (jH l x)
 | [],_=>by simp[jH,uM]
 | y::l,h=>by
  have h1:=List.pairwise_cons.1 h
  unfold jH
  split
  ·rename_i hy
   refine List.pairwise_cons.2 ⟨fun v hv=> ?_,ZV h1.2⟩
   rcases RF.1 hv with rfl | hv
   ·exact hy
   ·exact h1.1 v hv
  ·split
   ·exact h
   ·refine List.pairwise_cons.2 ⟨fun v hv=> ?_,h⟩
    rcases List.mem_cons.1 hv with rfl | hv
    ·omega
    ·have:=h1.1 v hv;omega
theorem ZW:∀{l k:List Int},uM l→uM k→(∀v,v∈l↔v∈k)→l=k
 | [],[],_,_,_=>rfl
 | [],y::k,_,_,h=>by have:=(h y).2 (by simp);cases this
 | x::l,[],_,_,h=>by have:=(h x).1 (by simp);cases this
 | x::l,y::k,hl,hk,h=>by
  have h1:=List.pairwise_cons.1 hl
  have h2:=List.pairwise_cons.1 hk
  have e:x=y:=by
   have a:=(h x).1 (by simp)
   have b:=(h y).2 (by simp)
   rcases List.mem_cons.1 a with a | a
   ·exact a
   ·rcases List.mem_cons.1 b with b | b
    ·exact b.symm
    ·have:=h1.1 y b;have:=h2.1 x a;omega
  subst e
  congr 1
  refine ZW h1.2 h2.2 fun v=> ?_
  have h3:=h v
  simp only[List.mem_cons]at h3
  constructor
  ·intro hv
   have h4:=h1.1 v hv
   rcases h3.1 (.inr hv)with e | e
   ·omega
   ·exact e
  ·intro hv
   have h4:=h2.1 v hv
   rcases h3.2 (.inr hv)with e | e
   ·omega
   ·exact e
theorem ZX(x:Int):∀l:List Int,(jH l x).length≤l.length+1
 | []=>by simp[jH]
 | y::l=>by
  unfold jH
  split
  ·have:=ZX x l;simp;omega
  ·split <;> simp
theorem RG:∀(k l:List Int),(k.foldl jH l).length≤l.length+k.length
 | [],l=>by simp
 | x::k,l=>by have:=RG k (jH l x);have:=ZX x l;simp;omega
theorem RH{v:Int}:∀{k l:List Int},v∈k.foldl jH l↔v∈l∨v∈k
 | [],l=>by simp
 | x::k,l=>by
  rw[List.foldl_cons,RH,RF,List.mem_cons]
  constructor
  ·rintro((h | h) | h) <;> simp[h]
  ·rintro(h | h | h) <;> simp[h]
theorem ZY:∀{k l:List Int},uM l→uM (k.foldl jH l)
 | [],l,h=>h
 | x::k,l,h=>ZY (k:=k) (ZV h)
def gW(fs:List aJ):List Int:=fs.flatMap aJ.vars
def ct(fs:List aJ):List Int:=(gW fs).foldl jH []
theorem xN{fs:List aJ}{v:Int}:v∈ct fs↔∃f,f∈fs∧v∈f.vars:=by
 unfold ct gW;rw[RH,List.mem_flatMap];simp
theorem ajg(fs:List aJ):uM (ct fs):=ZY List.Pairwise.nil
theorem ajh{fs:List aJ}{l:List Int}(h:uM l)(hm:∀v,v∈l↔v∈gW fs):l=ct fs:=
 ZW h (ajg fs) fun v=>by rw[hm v];unfold ct;rw[RH];simp
theorem ZZ(fs:List aJ):(ct fs).length≤(gW fs).length:=by have:=RG (gW fs) [];simpa [ct]using this
theorem Iy{k:Nat}:∀{fs:List aJ},(∀f,f∈fs→f.ts.length≤k)→(gW fs).length≤fs.length*k
 | [],_=>by simp[gW]
 | f::fs,h=>by
  have h1:=h f (by simp)
  have h2:=Iy (fs:=fs) fun g hg=>h g (by simp[hg])
  simp only[gW,List.flatMap_cons,List.length_append,List.length_cons]at h2⊢
  have:f.vars.length=f.ts.length:=by simp[aJ.vars]
  rw[Nat.add_mul];omega
theorem aji{fs:List aJ}{i:Nat}{f:aJ}(h:fs[i]? = some f){v:Int}(hv:v∈f.vars):v∈ct fs:=xN.2 ⟨f,List.mem_of_getElem? h,hv⟩
structure lj(fs:List aJ):Prop where
 len:fs.length≤200
 ok:∀(i:Nat)(f:aJ),fs[i]? = some f→eV f
 vars:(ct fs).length≤100
def comb(fs:List aJ)(x:Nat→Rat)(v:Int):Rat:=aZ fs.length (fun i=>x i*(((nth fs i).bU v:Int):Rat))
def gI(fs:List aJ)(x:Nat→Rat):Rat:=aZ fs.length (fun i=>x i*(((nth fs i).c:Int):Rat))
def uN(n:Nat)(x:Nat→Rat):Prop:=∀i,i<n→0≤x i
structure Ent(fs:List aJ)(g:aJ)(x:Nat→Rat):Prop where
 pos:uN fs.length x
 bU:∀v,comb fs x v=((g.bU v:Int):Rat)
 const:gI fs x≤((g.c:Int):Rat)
structure Ref(fs:List aJ)(x:Nat→Rat):Prop where
 pos:uN fs.length x
 bU:∀v,comb fs x v=0
 const:gI fs x<0
def zE(fs:List aJ)(g:aJ):Prop:=(∃x,Ent fs g x)∨∃x,Ref fs x
theorem Mk{fs:List aJ}{x:Nat→Rat}{v:Int}(h:¬v∈ct fs):comb fs x v=0:=by
 refine lA fun i hi=> ?_
 have h0:fs[i]? = some (nth fs i):=by rw[nth,List.getD,List.getElem?_eq_getElem hi];rfl
 rw[RE fun hv=>h (aji h0 hv)];grind
theorem Iz{fs:List aJ}{i:Nat}(hi:i<fs.length):fs[i]? = some (nth fs i):=by rw[nth,List.getD,List.getElem?_eq_getElem hi];rfl
theorem Z0{α:Type}{d:α}(h:α→Rat){l:List α}{j:Nat}(hj:j<l.length):fn (l.map h) j=h (l.getD j d):=by
 simp[fn,List.getD,List.getElem?_map,List.getElem?_eq_getElem hj]
def cN(fs:List aJ)(vs:List Int)(g:aJ)(b:Int):Prg:=⟨List.replicate fs.length false,vs.map (fun v=>(fs.map (fun f=>((f.bU v:Int):Rat)),(2:Int),((g.bU v:Int):Rat))) ++ [(fs.map (fun f=>((f.c:Int):Rat)),(1:Int),(b:Rat))]⟩
theorem ajj{fs:List aJ}{vs:List Int}(g:aJ)(b:Int)(h1:fs.length≤400)(h2:vs.length≤799):(cN fs vs g b).Ok:=by
 refine⟨by simp[cN];exact h1,by simp[cN];omega,fun i r hr=> ?_⟩
 simp only[cN]at hr
 by_cases hi:i<vs.length
 ·rw[List.getElem?_append_left (by simpa using hi),List.getElem?_map,List.getElem?_eq_getElem hi]at hr
  cases hr
  exact⟨by simp[cN],.inr (.inl rfl)⟩
 ·rw[List.getElem?_append_right (by simpa using hi)]at hr
  have:=(List.getElem?_eq_some_iff.1 hr).1
  simp at this
  rw[show i-(vs.map (fun v=>(fs.map (fun f=>((f.bU v:Int):Rat)),(2:Int),((g.bU v:Int):Rat)))).length=0 by simp;omega]at hr
  cases hr
  exact⟨by simp[cN],.inl rfl⟩
theorem Z1{fs:List aJ}{vs:List Int}{g:aJ}{b:Int}{i:Nat}{v:Int}(h:vs[i]? = some v):(cN fs vs g b).row i=(fs.map (fun f=>((f.bU v:Int):Rat)),(2:Int),((g.bU v:Int):Rat)):=by
 have hi:=(List.getElem?_eq_some_iff.1 h).1
 refine Prg.qF ?_
 simp only[cN]
 rw[List.getElem?_append_left (by simpa using hi),List.getElem?_map,h];rfl
theorem ajk{fs:List aJ}{vs:List Int}{g:aJ}{b:Int}:(cN fs vs g b).row vs.length=(fs.map (fun f=>((f.c:Int):Rat)),(1:Int),(b:Rat)):=by
 refine Prg.qF ?_
 simp only[cN]
 rw[List.getElem?_append_right (by simp)];simp
theorem IA{fs:List aJ}{vs:List Int}{g:aJ}{b:Int}{x:Nat→Rat}:(cN fs vs g b).lp.gq 1 x↔uN fs.length x∧(∀v,v∈vs→comb fs x v=((g.bU v:Int):Rat))∧gI fs x≤(b:Rat):=by
 have hn:(cN fs vs g b).lp.n=fs.length:=by simp[Prg.lp,cN]
 have hm:(cN fs vs g b).lp.m=vs.length+1:=by simp[Prg.lp,cN]
 have vh:∀j,(cN fs vs g b).lp.free j=false:=fun j=>by
  simp only[Prg.lp,cN,List.getD,List.getElem?_replicate]
  split <;> rfl
 have hd:∀h:aJ→Rat,cH fs.length (fn (fs.map h)) x=aZ fs.length (fun i=>x i*h (nth fs i)):=fun h=>
  eG fun j hj=>by rw[Z0 (d:=jX) h hj];exact Rat.mul_comm _ _
 have pA:∀i v,vs[i]? = some v→(qE ((cN fs vs g b).lp.rel i) (cH (cN fs vs g b).lp.n ((cN fs vs g b).lp.a i) x-(cN fs vs g b).lp.b i*1)↔comb fs x v=((g.bU v:Int):Rat)):=fun i v hv=>by
  rw[hn]
  show qE ((cN fs vs g b).row i).2.1 (cH fs.length (fn ((cN fs vs g b).row i).1) x-((cN fs vs g b).row i).2.2*1)↔_
  rw[Z1 hv,hd]
  constructor
  ·intro h
   have:=h.2.1 rfl
   show aZ _ _=_
   grind
  ·intro h
   refine⟨fun e=>absurd e (show ¬(2:Int)=1 by decide),fun _=> ?_,fun e=>absurd e (show ¬(2:Int)=3 by decide)⟩
   have h':aZ fs.length (fun i=>x i*(((nth fs i).bU v:Int):Rat))=((g.bU v:Int):Rat):=h
   show aZ fs.length (fun i=>x i*(((nth fs i).bU v:Int):Rat))-((g.bU v:Int):Rat)*1=0
   grind
 have kY:qE ((cN fs vs g b).lp.rel vs.length) (cH (cN fs vs g b).lp.n ((cN fs vs g b).lp.a vs.length) x-(cN fs vs g b).lp.b vs.length*1)↔gI fs x≤(b:Rat):=by
  rw[hn]
  show qE ((cN fs vs g b).row vs.length).2.1 (cH fs.length (fn ((cN fs vs g b).row vs.length).1) x-((cN fs vs g b).row vs.length).2.2*1)↔_
  rw[ajk,hd]
  constructor
  ·intro h
   have:=h.1 rfl
   show aZ _ _≤_
   grind
  ·intro h
   refine⟨fun _=> ?_,fun e=>absurd e (show ¬(1:Int)=2 by decide),fun e=>absurd e (show ¬(1:Int)=3 by decide)⟩
   have h':aZ fs.length (fun i=>x i*(((nth fs i).c:Int):Rat))≤(b:Rat):=h
   show aZ fs.length (fun i=>x i*(((nth fs i).c:Int):Rat))-(b:Rat)*1≤0
   grind
 constructor
 ·intro h
  refine⟨fun i hi=>h.1 i (by rw[hn];exact hi) (vh i),fun v hv=> ?_,?_⟩
  ·obtain⟨i,hi⟩:=List.getElem?_of_mem hv
   exact(pA i v hi).1 (h.2 i (by rw[hm];have:=(List.getElem?_eq_some_iff.1 hi).1;omega))
  ·exact kY.1 (h.2 vs.length (by rw[hm];omega))
 ·rintro⟨h1,h2,h3⟩
  refine⟨fun j hj _=>h1 j (by rw[hn]at hj;exact hj),fun i hi=> ?_⟩
  rw[hm]at hi
  by_cases e:i<vs.length
  ·exact(pA i _ (List.getElem?_eq_getElem e)).2 (h2 _ (List.getElem_mem e))
  ·obtain rfl:i=vs.length:=by omega
   exact kY.2 h3
theorem Z2{fs:List aJ}{g:aJ}{x:Nat→Rat}(h:(cN fs (ct (fs ++ [g])) g g.c).lp.gq 1 x):Ent fs g x:=by
 obtain⟨h1,h2,h3⟩:=IA.1 h
 refine⟨h1,fun v=> ?_,h3⟩
 by_cases hv:v∈ct (fs ++ [g])
 ·exact h2 v hv
 ·rw[Mk fun h=>hv ?_,RE fun h=>hv (xN.2 ⟨g,by simp,h⟩)]
  ·rfl
  ·obtain⟨f,h4,h5⟩:=xN.1 h
   exact xN.2 ⟨f,by simp[h4],h5⟩
theorem Ent.RI{fs:List aJ}{g:aJ}{x:Nat→Rat}(h:Ent fs g x)(vs:List Int):(cN fs vs g g.c).lp.gq 1 x:=
 IA.2 ⟨h.pos,fun v _=>h.bU v,h.const⟩
theorem Z3(v:Int):jX.bU v=0:=rfl
theorem ajl{fs:List aJ}{x:Nat→Rat}(h:(cN fs (ct (fs ++ [jX])) jX (-1)).lp.gq 1 x):Ref fs x:=by
 obtain⟨h1,h2,h3⟩:=IA.1 h
 have h9:((-1:Int):Rat) = -1:=rfl
 refine⟨h1,fun v=> ?_,by rw[h9]at h3;grind⟩
 by_cases hv:v∈ct fs
 ·have:=h2 v (by obtain⟨f,h4,h5⟩:=xN.1 hv;exact xN.2 ⟨f,by simp[h4],h5⟩)
  rw[this];rfl
 ·exact Mk hv
theorem Z4(fs:List aJ)(x:Nat→Rat)(k:Rat)(v:Int):comb fs (fun i=>k*x i) v=k*comb fs x v:=by
 unfold comb;rw[←tV];exact eG fun i _=>by grind
theorem Z5(fs:List aJ)(x:Nat→Rat)(k:Rat):gI fs (fun i=>k*x i)=k*gI fs x:=by
 unfold gI;rw[←tV];exact eG fun i _=>by grind
theorem Ref.RI{fs:List aJ}{x:Nat→Rat}(h:Ref fs x)(vs:List Int):∃y,(cN fs vs jX (-1)).lp.gq 1 y:=by
 have h0:=h.const
 have hk:0<(- gI fs x)⁻¹:=Rat.inv_pos.2 (by grind)
 refine⟨fun i=>(- gI fs x)⁻¹*x i,IA.2 ⟨fun i hi=>Rat.mul_nonneg (by grind) (h.pos i hi),fun v _=> ?_,?_⟩⟩
 ·rw[Z4,h.bU v,Z3];grind
 ·rw[Z5]
  have:(- gI fs x)⁻¹*(- gI fs x)=1:=Rat.inv_mul_cancel _ (by grind)
  have h9:((-1:Int):Rat) = -1:=rfl
  rw[h9];grind
section
variable {fs:List aJ} {vs:List Int} {g:aJ}
theorem ajm{v:Int}(h:v∈vs):∃j,j<vs.length∧vs.getD j 0=v:=by
 obtain⟨j,hj⟩:=List.getElem?_of_mem h
 exact⟨j,(List.getElem?_eq_some_iff.1 hj).1,by simp[List.getD,hj]⟩
end
end Lp
namespace Lp
def ajn(fs:List aJ)(x:Nat→Rat)(w:aJ→Rat):Rat:=aZ fs.length (fun i=>x i*w (nth fs i))
end Lp
namespace Go.aq
section
variable {P:Program} {n:Nat} {all:Array Oper} {s:St} {H:Heap} {md:Mode} {K:St→Heap→Prop} {r:List Oper} {dst:Option Nat} {ty:TypeId} {pos:String} {after:Array Edge} {gd:Option (Nat×Bool)}
theorem ajo{t t' e:TypeId}{x y:Operand}{A:Option Addr}{m c:Nat}(ht:P.underlying t=some (.slice e))(hx:ev s x=some (.slice A m c))(hy:ev s y=some (.slice none 0 0))
  (hk:aT P n all md r (bD s dst (.val (.bool A.isNone))) H K) (hg:cC all s gd=some true:=by rfl) (nb:md.nb s dst=true:=by rfl):aT P n all md (⟨dst,.binOp .eql t x y t',ty,pos,after,gd⟩::r) s H K:=
 ja _ rfl hg nb (fun c' w hc _=>by
  have e:(eqGuard .eql t x y (.slice A m c) (.slice none 0 0)).run P w = .ok () w:=by simp[eqGuard]
  simp only[execOp,bR hc hx,bR hc hy,Sem.run_bind,e,run_eql_slice_nil w t _ A m c ht,Result.andThen_ok,Sem.run_pure]) hk
theorem ajp{t e sz bytes:Nat}{z:Value}(ht:P.underlying t=some (.slice e))(he:fH P e sz z bytes)
  (hk:∀g,H g=none→aT P n all md r (bD s dst (.val (.slice (some ⟨g,0,none⟩) 0 0))) (ins H g (whole [] e)) K) (hg:cC all s gd=some true:=by rfl) (nb:md.nb s dst=true:=by rfl):
  aT P n all md (⟨dst,.buildSlice t 0 #[],ty,pos,after,gd⟩::r) s H K:=
 .fresh (fun g=> .slice (some ⟨g,0,none⟩) 0 0) [] e (.inl rfl) nb (fun a w ha=>by
  refine⟨jM ha (lr (o:=⟨dst,.buildSlice t 0 #[],ty,pos,after,gd⟩) hg),?_⟩
  obtain⟨i,hi,hz,cP,FD,FG,An⟩:=he
  simp[execOp,Instr.buildSlice,run_underlying ht,sizeOf,typeInfo,program,Sem.run,hi,Instr.fill,newRow,newObj]
  congr 2
  exact Array.eq_empty_of_size_eq_zero (by simp)) fun g hg _=>hk g hg
end
end Go.aq
namespace Go.aq
open Go.Proofs Num Lp
theorem ajq{α:Type}{P:Heap→List Value→α→Prop}{e sz:Nat}{H:Heap}{g:Nat}(hg:H g=none):eo P e sz H (ins H g (whole [] e)) (.slice (some ⟨g,0,none⟩) 0 0) [] []:=by
 refine⟨⟨by simp,.inr ⟨g,0,rfl,by rw[bC];simp[whole],Nat.le_refl _,Nat.zero_le _⟩⟩,sj,?_⟩
 show Heap.le H (rem _ [g])
 rw[sh _ hg,oO];exact .refl _
end Go.aq
namespace Go.aq
open Go.Proofs Num Lp
def gX(_:Heap)(vs:List Value)(t:Int×Int):Prop:=vs = [.int .i64 t.1,.int .i64 t.2]
theorem fc:Up gX:=fun _ _ _ _ _ h=>h
def o6(H:Heap)(vs:List Value)(f:aJ):Prop:=∃A c,vs = [.int .i64 f.c,.slice A f.ts.length c]∧aN gX 2 H (.slice A f.ts.length c) f.ts
theorem gJ:Up o6:=fun _ _ _ _ hl ⟨A,c,h1,h2⟩=>⟨A,c,h1,h2.le fc hl⟩
theorem Ca:One o6:=fun _ vs f ⟨A,c,h,_⟩ u hu=>by
 subst h
 simp only[List.mem_cons,List.not_mem_nil,or_false]at hu
 rcases hu with rfl | rfl <;> rfl
theorem Cb:One ke:=fun _ vs z h u hu=>by
 have h:vs = [.int .i64 z]:=h
 subst h
 rw[List.mem_singleton]at hu;rw[hu];rfl
abbrev kn(H:Heap)(v:Value)(fs:List aJ):Prop:=aN o6 2 H v fs
section
variable {H:Heap} {xs:List Value} {i:Nat}
theorem xO{l:List (Int×Int)}{t:Int×Int}(h:bG (gX H) 2 xs l)(hi:l[i]? = some t):∀(j:Nat)(u:Value),[.int .i64 t.1,.int .i64 t.2][j]? = some u→xs[i*2+j]? = some u:=fun j u hu=>by
 have h1:gj xs i 2 = [.int .i64 t.1,.int .i64 t.2]:=h.at_ i t hi
 exact Gc (by rw[h1];exact hu)
theorem uO{fs:List aJ}{f:aJ}(h:bG (o6 H) 2 xs fs)(hi:fs[i]? = some f):∃A c,aN gX 2 H (.slice A f.ts.length c) f.ts∧∀(j:Nat)(u:Value),[.int .i64 f.c,.slice A f.ts.length c][j]? = some u→xs[i*2+j]? = some u:=by
 obtain⟨A,c,h1,h2⟩:=h.at_ i f hi
 exact⟨A,c,h2,fun j u hu=>Gc (by rw[h1];exact hu)⟩
theorem Cc{l:List Int}{z:Int}(h:bG (ke H) 1 xs l)(hi:l[i]? = some z):xs[i]? = some (.int .i64 z):=by
 obtain⟨v,h1,h2⟩:=h.one hi
 have h2: [v] = [.int .i64 z]:=h2
 cases h2;exact h1
end
theorem Fn.bt{P:Program}{k:FuncId}{args:Array Value}{H:Heap}{b:Bool}(h:Fn P k args H (j8 H (.bool b)))(e:b=true):Fn P k args H (j8 H (.bool true)):=by subst e;exact h
theorem Fn.bf{P:Program}{k:FuncId}{args:Array Value}{H:Heap}{b:Bool}(h:Fn P k args H (j8 H (.bool b)))(e:b=false):Fn P k args H (j8 H (.bool false)):=by subst e;exact h
theorem Z6{fs:List aJ}{i:Nat}{f:aJ}(h:fs[i]? = some f):gW (fs.take (i+1))=gW (fs.take i)++f.vars:=by
 rw[ai4 h];simp[gW]
theorem Z7{i:Nat}(h:0<i):((i:Int)-1).toNat=i-1:=by omega
theorem Z8{fs:List aJ}{k:Nat}(h:∀f,f∈fs→f.ts.length≤k)(i:Nat):(gW (fs.take i)).length≤fs.length*k:=by
 have h1:=Iy (fs:=fs.take i) (k:=k) fun f hf=>h f (List.mem_of_mem_take hf)
 have h2:(fs.take i).length≤fs.length:=by rw[List.length_take];omega
 exact Nat.le_trans h1 (Nat.mul_le_mul_right _ h2)
end Go.aq
