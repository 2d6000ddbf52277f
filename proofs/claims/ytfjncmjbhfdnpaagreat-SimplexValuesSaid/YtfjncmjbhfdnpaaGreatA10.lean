/- Part 10 of the proof: Smp1, Mz3, Min, Keep1, Eng14, Keep2, Gen, Grw, Br1, Eng16, Fr1, Grw2, Cat. -/
import Derived.Test.YtfjncmjbhfdnpaaGreatA09
import Derived.Deep.Slices
import Derived.Deep.Strs
import Derived.Carry
import Derived.Below
import Derived.DataElems
set_option linter.unusedVariables false
namespace Go.ar
open Go.Proofs Num Lp
theorem PT{H:Heap}{v:Value}{p:Prg}{N:Nat}(hp:eJ N H v p):
 Fn Tryz.prog 47 #[v] H (fun v H'=>H'=H∧∃b,v = .bool b∧(b=true↔p.Ok)):=by
 obtain⟨fv,fN,rfl,eo,ep⟩:=hp
 obtain⟨Af,cf,xf,rfl,gZ,hO⟩:=eo.one
 obtain⟨Ar,cr,xr,rfl,eK,fO⟩:=ep.row;refine aZ (args:=[_]) Tryz.func47 rfl rfl Tryz.ntmps47 rfl rfl fun w0=> ?_;refine ag [0] rfl ?_;refine ab ?_;refine bS rfl rfl ?_;refine vr 1 ?_;refine aa [1] ?_;refine al ?_
 by_cases h1:400<(p.free.length:Int)
 ·
  skip
  refine ab ?_;refine vr 3 ?_;refine aA true rfl rfl (kS h1) ?_;refine vr 6 ?_;refine aa [1,14] ?_;refine cD rfl ?_;refine ab ?_;refine vr 1 ?_;refine aa [2] ?_;refine az ⟨.inr rfl,_,.tmp rfl (.nil),?_⟩;exact⟨rfl,false,rfl,⟨(fun h=>by cases h),(fun h=>by have h8:=h.gM;have h9:=h.rows;omega)⟩⟩
 ·
  skip
  by_cases h2:800<(p.rows.length:Int)
  ·
   skip
   refine ab ?_;refine vr 3 ?_;refine aA false rfl rfl (gA (by omega)) ?_;refine vr 4 ?_;refine aA true rfl rfl (kS h2) ?_;refine vr 1 ?_;refine aa [1,14] ?_;refine cD rfl ?_;refine ab ?_;refine vr 1 ?_;refine aa [2] ?_;refine az ⟨.inr rfl,_,.tmp rfl (.nil),?_⟩;exact⟨rfl,false,rfl,⟨(fun h=>by cases h),(fun h=>by have h8:=h.gM;have h9:=h.rows;omega)⟩⟩
  ·
   skip
   refine ab ?_;refine vr 3 ?_;refine aA false rfl rfl (gA (by omega)) ?_;refine vr 4 ?_;refine aA false rfl rfl (gA (by omega)) ?_;refine vr 1 ?_;refine aa [1,14] ?_;refine cU rfl ?_;refine au ?_;refine ag [1] rfl ?_;refine al ?_;refine ab ?_;refine vr 4 ?_;refine aa [1,16,17,18] ?_;refine aC ?_;refine fZ (fun(i:Nat)=>p.rows.length-i) (fun(i:Nat)=>put (put (put (put (emp) 1 (.box [.slice Af p.free.length cf,.slice Ar p.rows.length cr])) 16 (.val (.slice Ar p.rows.length cr))) 17 (.val (.int .i64 (p.rows.length:Int)))) 18 (.val (.int .i64 (i:Int)))) (fun(i:Nat) H'=>H'=H∧(∀(k:Nat)(r:List Rat×Int×Rat),k<i→p.rows[k]? = some r→NX p.free.length r)∧i≤p.rows.length) 0 (⟨rfl,(fun k r h=>by omega),Nat.zero_le _⟩) an ?_;rintro i H1 ⟨e1,fT,hi⟩;rw[e1];refine ab ?_;refine vr 1 ?_;refine aa [1,16,17,18,19] ?_;refine al ?_;refine aB rfl (fun hb=> ?_) (fun hb=> ?_)
   ·
    have aQ:i<p.rows.length:=by simpa using hb
    obtain⟨r,hr⟩:∃r,p.rows[i]? = some r:=⟨_,List.getElem?_eq_getElem aQ⟩;obtain⟨A0,c0,f,A1,m1,c1,A2,m2,c2,fS,jV⟩:=fO i r hr;refine au ?_;refine ag [1,16,17,18] rfl ?_;refine al ?_;refine aC ?_;refine ab ?_;refine bR (vs:=[.slice A0 r.1.length c0,.int .i64 r.2.1,.bool f,.slice A1 m1 c1,.slice A2 m2 c2]) ae rfl rfl rfl rfl eK rfl (by decide) jV (by omega) (by omega) fun _=> ?_;refine bt kR rfl ?_;obtain⟨ti,aj,ak⟩:=mq;refine aJ (.inl ⟨rfl,rfl⟩) rfl rfl rfl aj ak rfl rfl rfl ?_;refine aa [1,4,16,17,18] ?_;refine al ?_;refine ab ?_;refine vr 7 ?_;refine aa [1,4,16,17,18,28] ?_;refine aB rfl (fun hb=> ?_) (fun hb=> ?_)
    ·
     have cS:¬r.1.length=p.free.length:=by simpa [Int.natCast_inj]using hb
     refine ab ?_;refine vr 1 ?_;refine aa [2] ?_;refine az ⟨.inr rfl,_,.tmp rfl (.nil),?_⟩;exact⟨rfl,false,rfl,⟨(fun h=>by cases h),fun h=>absurd (h.row i r hr).1 cS⟩⟩
    ·
     have cS:r.1.length=p.free.length:=by simpa [Int.natCast_inj]using hb
     refine au ?_;refine ag [1,4,16,17,18] rfl ?_
     by_cases h1:r.2.1=1
     ·
      skip
      refine ab ?_;refine vr 2 ?_;refine aA false rfl rfl (mV h1) ?_;refine vr 10 ?_;refine aa [1,16,17,18,41] ?_;refine cU rfl ?_;refine au ?_;refine ag [1,16,17,18] rfl ?_;refine av rfl ?_;refine aD rfl rfl ⟨by omega,by omega⟩ ?_;refine vr 1 ?_;refine aq ?_;exact⟨i+1,by omega,an,rfl,(fun k r9 hk jE=>by by_cases h9:k<i;exact fT k r9 h9 jE;(obtain rfl:k=i:=by omega);rw[hr]at jE;cases jE;exact⟨cS,.inl h1⟩),by omega⟩
     ·
      skip
      by_cases h2:r.2.1=2
      ·
       skip
       refine ab ?_;refine vr 2 ?_;refine aA true rfl rfl (my h1) ?_;refine vr 3 ?_;refine aA false rfl rfl (mV h2) ?_;refine vr 6 ?_;refine aa [1,16,17,18,41] ?_;refine cU rfl ?_;refine au ?_;refine ag [1,16,17,18] rfl ?_;refine av rfl ?_;refine aD rfl rfl ⟨by omega,by omega⟩ ?_;refine vr 1 ?_;refine aq ?_;exact⟨i+1,by omega,an,rfl,(fun k r9 hk jE=>by by_cases h9:k<i;exact fT k r9 h9 jE;(obtain rfl:k=i:=by omega);rw[hr]at jE;cases jE;exact⟨cS,.inr (.inl h2)⟩),by omega⟩
      ·
       skip
       by_cases h3:r.2.1=3
       ·
        skip
        refine ab ?_;refine vr 2 ?_;refine aA true rfl rfl (my h1) ?_;refine vr 3 ?_;refine aA true rfl rfl (my h2) ?_;refine vr 4 ?_;refine aA false rfl rfl (mV h3) ?_;refine vr 1 ?_;refine aa [1,16,17,18,41] ?_;refine cU rfl ?_;refine au ?_;refine ag [1,16,17,18] rfl ?_;refine av rfl ?_;refine aD rfl rfl ⟨by omega,by omega⟩ ?_;refine vr 1 ?_;refine aq ?_;exact⟨i+1,by omega,an,rfl,(fun k r9 hk jE=>by by_cases h9:k<i;exact fT k r9 h9 jE;(obtain rfl:k=i:=by omega);rw[hr]at jE;cases jE;exact⟨cS,.inr (.inr h3)⟩),by omega⟩
       ·
        skip
        refine ab ?_;refine vr 2 ?_;refine aA true rfl rfl (my h1) ?_;refine vr 3 ?_;refine aA true rfl rfl (my h2) ?_;refine vr 4 ?_;refine aA true rfl rfl (my h3) ?_;refine vr 1 ?_;refine aa [1,16,17,18,41] ?_;refine cD rfl ?_;refine ab ?_;refine vr 1 ?_;refine aa [2] ?_;refine az ⟨.inr rfl,_,.tmp rfl (.nil),?_⟩;exact⟨rfl,false,rfl,⟨(fun h=>by cases h),(fun h=>by have h9:=(h.row i r hr).2;omega)⟩⟩
   ·
    have hb:p.rows.length≤i:=by simpa using hb
    refine aU ?_;refine ag [] rfl ?_;refine ab ?_;refine vr 1 ?_;refine aa [2] ?_;refine az ⟨.inr rfl,_,.tmp rfl (.nil),?_⟩;exact⟨rfl,true,rfl,⟨fun _=>⟨by omega,by omega,fun k r hr=>fT k r (by have h9:=(List.getElem?_eq_some_iff.1 hr).1;omega) hr⟩,fun _=>rfl⟩⟩
end Go.ar
namespace Go.ar
open Go.Proofs Num Lp
def PU(H:Heap)(v:Value)(S:q3):Prop:=∃f u w xv dv rv,v = .agg #[.int .i64 S.status,.bool f,u,w,xv,dv,rv]∧(bK H (.agg #[.bool f,u,w]) S.value∨(S.value=0∧f=false∧u = .slice none 0 0∧w = .slice none 0 0))∧aR bT 3 H xv S.x∧aR bT 3 H dv S.m9∧aR bT 3 H rv S.kV
def PV(M:Nat)(S:q3):Prop:=∀q,q∈S.x∨q∈S.m9∨q∈S.kV∨q=S.value→aG q≤M
def KI:Value:= .agg #[.int .i64 0,.bool false,.slice none 0 0,.slice none 0 0,.slice none 0 0,.slice none 0 0,.slice none 0 0]
def agD(p:Prg)(c:List Rat)(S:q3):Prop:=S.status=1→∃T,I2 p c T∧S.value = -(T.c p.w)∧S.x=aH (dE.vec p.lay.pF p.lay.mF T.pt) p.lp.n
def GM(p:Prg)(c:List Rat)(M:Nat)(H:Heap)(v:Value)(H':Heap):Prop:=Heap.le H H'∧∃s e,v = .tuple #[s,.int .i64 e]∧
 ((¬p.Ok∧e=1∧s=KI)∨(p.Ok∧c.length≠p.free.length∧e=21∧s=KI)∨(p.Ok∧c.length=p.free.length∧e=0∧∃S,PU H' s S∧iC p c S∧PV (2*M+2) S∧agD p c S))
theorem GN{H:Heap}{α:Type}{P:Heap→List Value→α→Prop}{sz:Nat}:aR P sz H (.slice none 0 0) ([]:List α):=⟨none,0,[],rfl,Nat.le_refl _,(fun i v h=>by simp at h),sI⟩
theorem Bc{f:Nat→Rat}{n:Nat}{q:Rat}(h:q∈aH f n):∃j,j<n∧q=f j:=by
 unfold aH at h
 obtain⟨j,hj,e⟩:=List.mem_map.1 h
 exact⟨j,List.mem_range.1 hj,e.symm⟩
section
variable {p:Prg} {c:List Rat} {M:Nat} {T:ao} {H K:Heap}
theorem PW{N n:Nat}{z:Nat→Rat}(h0:1≤N)(hz:∀j,j<p.w→aG (z j)≤N){j:Nat}(hj:j<p.lp.n):aG (dE.vec p.lay.pF p.lay.mF z j)≤2*N+1:=by
 have h1:=om (z (p.lay.pF j)) (gY z (p.lay.mF j))
 have h2:=hz _ (oD.pw j hj)
 have h3:aG (gY z (p.lay.mF j))≤N:=by
  rw[C8 hj]
  by_cases hf:p.lp.free j=true
  ·rw[if_pos hf]
   have:=F6 p hj
   unfold mM at this
   rw[if_pos hf]at this
   have:=l5 p
   have:=fg p
   exact hz _ (by omega)
  ·rw[if_neg hf];exact Nat.le_trans (show aG (0:Rat)≤1 by decide) h0
 unfold dE.vec;omega
theorem Xw{N:Nat}{f g:Nat→Rat}(hf:∀j,j<p.w→aG (f j)≤N)(hg:∀j,j<p.w→aG (g j)≤N){i:Nat}(hi:i<p.lp.m):aG (p.lay.sF i*(f (p.lay.uF i)-g (p.lay.uF i)))≤2*N+2:=by
 have h1:=pc (p.lay.sF i) (f (p.lay.uF i)-g (p.lay.uF i))
 have h2:=om (f (p.lay.uF i)) (g (p.lay.uF i))
 have h3:=oD.s1 i hi
 have h4:=hf _ (oD.uw i hi)
 have h5:=hg _ (oD.uw i hi)
 omega
theorem agE(bg:p.Ok)(dA:c.length=p.free.length)(hl:Fits p c M)(hle:Heap.le H K)(h:Inv p (pn p) T)(hn:∀j,j<p.u→0≤T.c j)(fI:T.c p.w<0){dv:Value}
  (hd:aR bT 3 K dv (aH (fun i=>p.lay.sF i*(pn p (p.lay.uF i)-T.c (p.lay.uF i))) p.lp.m)):GM p c M H (.tuple #[.agg #[.int .i64 2,.bool false,.slice none 0 0,.slice none 0 0,.slice none 0 0,dv,.slice none 0 0],.int .i64 0]) K:=by
 have hz:=hl.AV _ h
 refine⟨hle,_,_,rfl,.inr (.inr ⟨bg,dA,rfl,⟨2,0,[],_,[]⟩,⟨_,_,_,_,_,_,rfl,.inr ⟨rfl,rfl,rfl,rfl⟩,GN,hd,GN⟩,.inr (.inl ⟨rfl,rfl,rfl,rfl,dA,WO bg h hn fI⟩),fun q hq=> ?_,fun e=>by cases e⟩)⟩
 rcases hq with hq | hq | hq | hq
 ·cases hq
 ·obtain⟨i,hi,rfl⟩:=Bc hq
  exact Xw (fun j _=>hl.pn j) (fun j hj=>hz.c j (by rw[h.rows.n];omega)) hi
 ·cases hq
 ·rw[hq];exact Nat.le_trans (show aG (0:Rat)≤2 by decide) (Nat.le_add_left 2 _)
theorem agF(bg:p.Ok)(dA:c.length=p.free.length)(hl:Fits p c M)(hle:Heap.le H K)(h:I2 p c T)(hn:∀j,j<p.u→0≤T.c j){f:Bool}{u w xv dv:Value}
  (hv:bK K (.agg #[.bool f,u,w]) (-(T.c p.w))) (hx:aR bT 3 K xv (aH (dE.vec p.lay.pF p.lay.mF T.pt) p.lp.n)) (hd:aR bT 3 K dv (aH (fun i=>p.lay.sF i*(j9 p c (p.lay.uF i)-T.c (p.lay.uF i))) p.lp.m)):
  GM p c M H (.tuple #[.agg #[.int .i64 1,.bool f,u,w,xv,dv,.slice none 0 0],.int .i64 0]) K:=by
 have hz:=hl.nO _ h.1
 have h1:=WS bg dA h hn
 refine⟨hle,_,_,rfl,.inr (.inr ⟨bg,dA,rfl,⟨1,-(T.c p.w),_,_,[]⟩,⟨_,_,_,_,_,_,rfl,.inl hv,hx,hd,GN⟩,.inl ⟨rfl,rfl,h1.1,h1.2⟩,fun q hq=> ?_,fun _=>⟨T,h,rfl,rfl⟩⟩)⟩
 have hb:=hl.one
 rcases hq with hq | hq | hq | hq
 ·obtain⟨j,hj,rfl⟩:=Bc hq
  exact Nat.le_trans (PW (n:=0) hb (fun j hj=>Pd h.1.wf hz hb (by rw[h.1.rows.n];exact hj)) hj) (by omega)
 ·obtain⟨i,hi,rfl⟩:=Bc hq
  exact Xw (fun j _=>hl.j9 j) (fun j hj=>hz.c j (by rw[h.1.rows.n];omega)) hi
 ·cases hq
 ·rw[hq,vF]
  exact Nat.le_trans (hz.c p.w (by rw[h.1.rows.n];exact Nat.le_refl _)) (by omega)
theorem agG(bg:p.Ok)(dA:c.length=p.free.length)(hl:Fits p c M)(hle:Heap.le H K)(h:I2 p c T){s:Nat}(hs:s<p.u)(fI:T.c s<0)(hA:∀i,i<T.m→T.A i s≤0){xv rv:Value}
  (hx:aR bT 3 K xv (aH (dE.vec p.lay.pF p.lay.mF T.pt) p.lp.n)) (hr:aR bT 3 K rv (aH (dE.vec p.lay.pF p.lay.mF (T.dir s)) p.lp.n)):
  GM p c M H (.tuple #[.agg #[.int .i64 3,.bool false,.slice none 0 0,.slice none 0 0,xv,.slice none 0 0,rv],.int .i64 0]) K:=by
 have hz:=hl.nO _ h.1
 have hb:=hl.one
 have l4:=fg p
 refine⟨hle,_,_,rfl,.inr (.inr ⟨bg,dA,rfl,⟨3,0,_,[],_⟩,⟨_,_,_,_,_,_,rfl,.inr ⟨rfl,rfl,rfl,rfl⟩,hx,GN,hr⟩,.inr (.inr ⟨rfl,rfl,rfl,WT bg dA h hs fI hA⟩),fun q hq=> ?_,fun e=>by cases e⟩)⟩
 rcases hq with hq | hq | hq | hq
 ·obtain⟨j,hj,rfl⟩:=Bc hq
  exact Nat.le_trans (PW (n:=0) hb (fun j hj=>Pd h.1.wf hz hb (by rw[h.1.rows.n];exact hj)) hj) (by omega)
 ·cases hq
 ·obtain⟨j,hj,rfl⟩:=Bc hq
  exact Nat.le_trans (PW (n:=0) hb (fun j hj=>WU h.1.wf hz hb (by rw[h.1.rows.n];omega) (WV h.1.wf fI)) hj) (by omega)
 ·rw[hq];exact Nat.le_trans (show aG (0:Rat)≤2 by decide) (Nat.le_add_left 2 _)
end
end Go.ar
namespace Go.ar
open Go.Proofs Num Lp
theorem Xx{H:Heap}{v cv:Value}{p:Prg}{c:List Rat}{M N:Nat}(hp:eJ N H v p)(hc:aR (ck N) 3 H cv c)(hl:Fits p c M)(hcN:(c.length:Int)≤1099511627776)(hN:(N:Int)≤549755813888)(ak2:(M:Int)≤34359738368):
 Fn Tryz.prog 12 #[v,cv] H (GM p c M H):=by
 obtain⟨fv,fN,rfl,eo,ep⟩:=id hp
 obtain⟨Af,cf,xf,rfl,gZ,hO⟩:=eo.one
 obtain⟨Ar,cr,xr,rfl,eK,fO⟩:=ep.row
 obtain⟨Ac,cc,xc,rfl,De,l0,FE⟩:=id hc;refine aZ (args:=[_,_]) Tryz.func12 rfl rfl Tryz.ntmps12 rfl rfl fun w0=> ?_;refine ag [0,1] rfl ?_;refine ab ?_;refine bS rfl rfl ?_;refine bt vp rfl ?_;refine vr 1 ?_;refine aa [1,2,4] ?_;refine al ?_;refine ab ?_;refine vr 1 ?_;refine aw rfl rfl (PT hp) ?_;rintro v1 H1 ⟨e1,b1,rfl,ij⟩;rw[e1];refine vr 1 ?_;refine aa [1,2,4,13] ?_;refine aB rfl (fun hb=> ?_) (fun hb=> ?_)
 ·
  have hb:¬p.Ok:=fun h=>by have h9:=ij.2 h;rw[h9]at hb;simp at hb
  refine ab ?_;refine dS ae rfl vp rfl rfl ?_;obtain⟨ti,aj,ak⟩:=qQ;refine aJ (.inl ⟨rfl,rfl⟩) rfl rfl rfl aj ak rfl rfl rfl ?_;refine vr 1 ?_;refine aa [4,5] ?_;obtain⟨bX,aK,aL⟩:=qQ;refine az ⟨.inr rfl,_,.agg rfl Tryz.underlying33 aK aL (.tmp rfl (.nil)),?_⟩;exact⟨.refl _,_,_,rfl,.inl ⟨hb,rfl,rfl⟩⟩
 ·
  have bg:p.Ok:=ij.1 (by simpa using hb);have gL:=bg.gM;have uL:=bg.rows;have PJ:=F8 p;have e1:p.lp.n=p.free.length:=rfl;have e2:p.lp.m=p.rows.length:=rfl
  have rI:(p.lay.w:Int)≤1000000:=by show ((p.w:Nat):Int)≤_;omega
  have Xy:((p.dP.m:Nat):Int)≤1000000:=by show ((p.rows.length:Nat):Int)≤_;omega
  have Xz:=hl.one;refine au ?_;refine ag [1,2,4] rfl ?_;refine al ?_;refine ab ?_;refine vr 6 ?_;refine aa [1,2,4,20] ?_;refine aB rfl (fun hb=> ?_) (fun hb=> ?_)
  ·
   have hb:c.length≠p.free.length:=by simpa [Int.natCast_inj]using hb
   refine ab ?_;refine dS ae rfl vp rfl rfl ?_;obtain⟨ti,aj,ak⟩:=qQ;refine aJ (.inl ⟨rfl,rfl⟩) rfl rfl rfl aj ak rfl rfl rfl ?_;refine vr 1 ?_;refine aa [4,5] ?_;obtain⟨bX,aK,aL⟩:=qQ;refine az ⟨.inr rfl,_,.agg rfl Tryz.underlying33 aK aL (.tmp rfl (.nil)),?_⟩;exact⟨.refl _,_,_,rfl,.inr (.inl ⟨bg,hb,rfl,rfl⟩)⟩
  ·
   have dA:c.length=p.free.length:=by simpa [Int.natCast_inj]using hb
   refine au ?_;refine ag [1,2,4] rfl ?_;refine ab ?_;refine vr 1 ?_;refine aw rfl rfl (afU (n:=p.free.length) (m:=p.rows.length) hp bg rfl rfl hN) ?_;rintro v5 H5 ⟨G,rfl,vP,ak3,gU⟩;refine vr 1 ?_;refine aa [1,4,6] ?_;refine ab ?_;refine vr 2 ?_;refine aw rfl rfl (Vr vP rI) ?_;rintro v6 H6 ⟨qf,jr,Gf⟩;refine aw rfl rfl (VH (N:=2*M) (f:=pn p) (vP.kept qf) Gf (fun i hi=>nx p hi) (by omega) rI Xy (fun j _=>Nat.le_trans (hl.pn j) (by omega)) (fun i hi j _=>Nat.le_trans (hl.tab i hi j) (by omega)) hl.Pe) ?_;rintro _ H7 ⟨iY,iZ,_,rJ,rK,OD⟩;refine aa [1,4,6] ?_;refine ab ?_;refine vr 1 ?_;refine aw rfl rfl (Vi (G:=(G.eG iY iZ)) (N:=M) (I:=Inv p (pn p)) rJ rK (Inv.base AU) (fun S r s h hb=>h.step (by rw[h.rows.n];exact fg p) hb) (fun S h=>⟨h.wf,h.eF,hl.AV _ h,h.rows.m,h.rows.n⟩) (by omega) rI Xy) ?_;rintro v8 H8 ⟨T8,tk,qv,OC,qj,rF⟩
   have vV:∀j,j<p.u→0≤T8.c j:=by rcases rF with ⟨_,h⟩ | ⟨s,_,h1,h2,h3⟩;exact h;exact(WR tk h1 h2 h3).elim
   have PX:=hl.AV _ tk;have ak4:aG (T8.c p.lay.w)≤M:=PX.c _ (by rw[tk.rows.n];exact Nat.le_refl _)
   have agH:((T8.m:Nat):Int)≤1000000:=by rw[tk.rows.m];omega
   refine aa [1,4,6] ?_;refine al ?_;refine ab ?_;refine vr 1 ?_;refine aw rfl rfl (Vq (G:=(G.eG iY iZ)) qv OC (by omega)) ?_;rintro v9 H9 ⟨fM,dX,n9,d9,b9,rfl,eW⟩;refine aw rfl rfl (Fn.kX (fM.ne qv.ne) (iT eW (by rw[vF];omega))) ?_;rintro v10 pj ⟨uN,oE,rfl⟩;have l7:=fM.trans uN;have GO:=qv.kept l7;have Dk:=OC.kept l7;have PY:=((((gU.trans qf.le).trans OD).trans qj).trans l7.le);refine vr 1 ?_;refine aa [1,4,6,33] ?_;refine aB rfl (fun hb=> ?_) (fun hb=> ?_)
   ·
    have fI:T8.c p.w<0:=by have h9:=Ai.1 (show 0<fo (-(T8.c p.lay.w)) by simpa using hb);have h8:T8.c p.lay.w=T8.c p.w:=rfl;grind
    refine ab ?_;refine vr 2 ?_;refine aw rfl rfl (Vr (G:=(G.eG iY iZ)) GO rI) ?_;rintro v11 im ⟨tl,rL,agI⟩;refine aw rfl rfl (VF (G:=(G.eG iY iZ)) (n:=p.lp.n) (m:=p.lp.m) (N:=M) (f:=pn p) (GO.kept tl) (Dk.kept tl) oD agI (fun j _=>hl.pn j) (fun j hj=>PX.c j (by rw[tk.rows.n];exact Nat.le_of_lt hj)) (by omega) rI (by omega)) ?_;rintro v12 cV ⟨s3,iX,A12,c12,x12,rfl,agJ,agK,agL⟩;refine dS ae rfl vp rfl rfl ?_;obtain⟨ti,aj,ak⟩:=qQ;refine aJ (.inl ⟨rfl,rfl⟩) rfl rfl rfl aj ak rfl rfl rfl ?_;refine vr 1 ?_;refine aa [4,5] ?_;obtain⟨bX,aK,aL⟩:=qQ;refine az ⟨.inr rfl,_,.agg rfl Tryz.underlying33 aK aL (.tmp rfl (.nil)),?_⟩;exact agE bg dA hl (((PY.trans tl.le).trans s3.le).trans (bG _ _)) tk vV fI (aR.le ⟨_,_,_,rfl,agJ,agK,agL⟩ fK (bG _ _))
   ·
    have fI:¬T8.c p.w<0:=fun h=>by have h9:¬0<fo (-(T8.c p.lay.w)):=(by simpa using hb);exact h9 (Ai.2 (by have h8:T8.c p.lay.w=T8.c p.w:=rfl;grind))
    refine au ?_;refine ag [1,4,6] rfl ?_;refine ab ?_;refine vr 1 ?_;refine aw rfl rfl (aez (G:=(G.eG iY iZ)) (N:=M) (J:=Jx p) GO Dk ⟨tk,WQ tk fI⟩ (fun k S h hk hd=>h.skip hd) (fun k S s h hk hu hs hp=>h.pivot hk hu hs hp) (fun k S h=>⟨hl.AV _ h.1,by rw[h.1.rows.m,tk.rows.m],by rw[h.1.rows.n,tk.rows.n]⟩) (by omega) rI agH) ?_;rintro _ im ⟨T11,PZ,rM,Dl,GP⟩;rw[tk.rows.m]at PZ;have we:=PZ.1;refine aa [1,4,6] ?_;refine ab ?_;refine vr 2 ?_;refine aS ae rfl rfl rfl ?_;refine aN ae rfl rfl rfl (rM.iF) ?_;refine aw rfl rfl (CP (gs:=(G.eG iY iZ).gs) (n:=p.lay.w) rM.ne (by omega)) ?_;rintro v12 cV ⟨iX,z,ox,rfl,AM,agM⟩;refine vr 1 ?_;refine aa [1,4,6,7] ?_;refine al ?_;refine ab ?_;refine vr 1 ?_;refine aw rfl rfl (Fn.JT (gs:=(z::(G.eG iY iZ).gs)) (AM.ne rM.ne) (ui (hc.le (ik N) ((PY.trans GP).trans AM.le)) (by omega) hcN)) ?_;rintro OP kN ⟨vZ,jT,agN⟩;have C3:=AM.kept vZ;obtain⟨Av,cv,xv,rfl,mL,tF⟩:=agN.num;obtain⟨Ap,cp,xp,rf,fS,Ae⟩:=rM.self.plus.one;obtain⟨Am,cm,xm,ux,kt,Fo⟩:=rM.self.minus.one;rw[oD.JU]at rf;rw[oD.JV]at ux;rw[dA];refine vr 2 ?_;refine aa [4,6,7,47,48,49] ?_;refine aC ?_
    refine gy (fun(k:Nat)(xs:List Value)=>p.free.length-k) (fun(k:Nat)(xs:List Value)=>put (put (put (put (put (put (emp) 4 (.box [.int .i64 0,.bool false,.slice none 0 0,.slice none 0 0,.slice none 0 0,.slice none 0 0,.slice none 0 0])) 6 (.val (.pointer (some ⟨G.g,0,none⟩)))) 7 (.val (.slice (some ⟨z,0,none⟩) p.lay.w p.lay.w))) 47 (.val (.slice Av p.free.length cv))) 48 (.val (.int .i64 (p.free.length:Int)))) 49 (.val (.int .i64 (k:Int)))) (fun(k:Nat)(xs:List Value) H'=>eH (G.eG iY iZ).gs im H' z xs (p.lay.w*3) 90∧bC (bE (rem H' (z::(G.eG iY iZ).gs))) 3 xs (aH (jS p.lay (fn c) 1 k) p.lay.w)∧Heap.le (rem kN (z::(G.eG iY iZ).gs)) (rem H' (z::(G.eG iY iZ).gs))∧k≤p.free.length) 0 ox (⟨C3,agM _,.refl _,Nat.zero_le _⟩) an ?_;rintro k xs pH ⟨wa,P0,P1,ak5⟩;have agO:=wa.tab rM;have cB:=P0.len;rw[aW]at cB;refine ab ?_;refine vr 1 ?_;refine aa [4,6,7,47,48,49,50] ?_;refine al ?_;refine aB rfl (fun hb=> ?_) (fun hb=> ?_)
    ·
     have fR:k<p.free.length:=by simpa using hb
     obtain⟨q,dL⟩:∃q,c[k]? = some q:=⟨_,List.getElem?_eq_getElem (by omega)⟩;obtain⟨n1,d1,b1,cK,eD⟩:=tF k q dL;have gp:fn c k=q:=jC dL;have uD:aG q≤N+2:=cH.size (FE.at_ k q dL);obtain⟨up,Fp,Fq⟩:=Ae k _ (oD.p fR);obtain⟨um,yd,Fs⟩:=Fo k _ (oD.mi fR)
     cases Fq
     cases Fs
     have afl:=oD.pw k fR;have afm:=oD.mw k fR;rw[←gp]at cK;refine au ?_;refine ag [4,6,7,47,48,49] rfl ?_;refine al ?_;refine aC ?_;refine ab ?_;refine vr 1 ?_;refine bR (vs:=[.int .i64 n1,.int .i64 d1,.pointer b1]) ae rfl rfl rfl rfl ((mL.le P1).le (bG _ _)) rfl (by decide) eD (by omega) (by omega) fun _=> ?_;refine bt dM rfl ?_;refine vr 1 ?_;obtain⟨ti,aj,ak⟩:=bV;refine aJ (.inl ⟨rfl,rfl⟩) rfl rfl rfl aj ak rfl rfl rfl ?_;refine aa [4,6,7,8,9,47,48,49] ?_;refine bJ .fV [0,1,2,3,4,5,6,7,8,9,10] follows (by kernel_rfl) ?_;refine vr 3 ?_;refine aS ae rfl rfl rfl ?_;refine aN ae rfl rfl rfl (show cell _ _=some (.slice Ap p.free.length cp)from by rw[←show (G.eG iY iZ).pv = .slice Ap p.free.length cp from rf];exact agO.cell 2 _ rfl) ?_;refine vr 1 ?_;refine aM ae rfl rfl rfl rfl rfl (fS.le wa.hle) (by rw[Int.toNat_natCast];exact Fp) (by omega) (by omega) fun _=> ?_;refine vr 1 ?_;obtain⟨ti,aj,ak⟩:=bV;refine cM (.inr rfl) ae rfl rfl rfl (by omega) (by omega) (wa.aE) rfl (by show 0+p.lay.w*3≤xs.length;omega) aj ak (fun _=>rfl) rfl rfl rfl fun _=> ?_;refine aa [4,6,7,8,9,47,48,49] ?_;have Be:eH (G.eG iY iZ).gs im (ins pH z {(⟨xs,p.lay.w*3,90,true⟩:Ent)with xs:=aI xs (0+((p.lay.pF k:Nat):Int).toNat*3) [.int .i64 n1,.int .i64 d1,.pointer b1]}) z (aI xs (p.lay.pF k*3) [.int .i64 n1,.int .i64 d1,.pointer b1]) (p.lay.w*3) 90:=wa.set (by rw[Int.toNat_natCast];exact nn)
     have KJ:bC (bE (rem (ins pH z {(⟨xs,p.lay.w*3,90,true⟩:Ent)with xs:=aI xs (0+((p.lay.pF k:Nat):Int).toNat*3) [.int .i64 n1,.int .i64 d1,.pointer b1]}) (z::(G.eG iY iZ).gs))) 3 (aI xs (p.lay.pF k*3) [.int .i64 n1,.int .i64 d1,.pointer b1]) (aH (bQ (jS p.lay (fn c) 1 k) (p.lay.pF k) (fn c k)) p.lay.w):=by
      rw[cC _ (List.mem_cons_self ..)];exact re P0 (by omega) (cK.le P1)
     have KK:Heap.le (rem kN (z::(G.eG iY iZ).gs)) (rem (ins pH z {(⟨xs,p.lay.w*3,90,true⟩:Ent)with xs:=aI xs (0+((p.lay.pF k:Nat):Int).toNat*3) [.int .i64 n1,.int .i64 d1,.pointer b1]}) (z::(G.eG iY iZ).gs)):=by rw[cC _ (List.mem_cons_self ..)];exact P1
     show VC _ _ _ _ _ _ _ (ins pH z {(⟨xs,p.lay.w*3,90,true⟩:Ent)with xs:=aI xs (0+((p.lay.pF k:Nat):Int).toNat*3) [.int .i64 n1,.int .i64 d1,.pointer b1]})
     generalize ins pH z {(⟨xs,p.lay.w*3,90,true⟩:Ent)with xs:=aI xs (0+((p.lay.pF k:Nat):Int).toNat*3) [.int .i64 n1,.int .i64 d1,.pointer b1]}=lf at Be KJ KK⊢
     have XA:=Be.tab rM;have ON:=KJ.len;rw[aW]at ON;refine ab ?_;refine vr 2 ?_;refine aS ae rfl rfl rfl ?_;refine aN ae rfl rfl rfl (show cell _ _=some (.slice Am p.free.length cm)from by rw[←show (G.eG iY iZ).mv = .slice Am p.free.length cm from ux];exact XA.cell 3 _ rfl) ?_;refine vr 1 ?_;refine aM ae rfl rfl rfl rfl rfl (kt.le Be.hle) (by rw[Int.toNat_natCast];exact yd) (by omega) (by omega) fun _=> ?_;refine vr 1 ?_;refine aa [4,6,7,8,9,47,48,49,71] ?_;refine aB rfl (fun hb=> ?_) (fun hb=> ?_)
     ·
      have hb:0≤p.lay.mZ k:=by simpa using hb
      refine dZ .fV [0,1,2,3,4,5,6,7,8,9,10,11] follows (by kernel_rfl) ?_;refine vr 3 ?_;refine aS ae rfl rfl rfl ?_;refine aN ae rfl rfl rfl (show cell _ _=some (.slice Am p.free.length cm)from by rw[←show (G.eG iY iZ).mv = .slice Am p.free.length cm from ux];exact XA.cell 3 _ rfl) ?_;refine vr 1 ?_;refine aM ae rfl rfl rfl rfl rfl (kt.le Be.hle) (by rw[Int.toNat_natCast];exact yd) (by omega) (by omega) fun _=> ?_;refine vr 1 ?_;refine aO rfl rfl (Fn.iU (Be.ne rM.ne) (Cv (cK.le KK) (by rw[gp];omega))) (fun _ _ h=>by first | exact h.le | exact h.1) ?_;rintro v17 H17 ⟨Dm,uQ,n7,d7,b7,rfl,KL⟩;have XB:=Be.kept Dm;obtain⟨ti,aj,ak⟩:=bV;refine cM (.inr rfl) ae rfl rfl rfl (by omega) (by omega) (XB.aE) rfl (by show 0+p.lay.w*3≤(aI xs (p.lay.pF k*3) [.int .i64 n1,.int .i64 d1,.pointer b1]).length;omega) aj ak (fun _=>rfl) rfl rfl rfl fun _=> ?_;refine aq ?_;have agP:=XB.set (nn (xs:=aI xs (p.lay.pF k*3) [.int .i64 n1,.int .i64 d1,.pointer b1]) (vs:=[.int .i64 n7,.int .i64 d7,.pointer b7]) (k:=(p.lay.mZ k).toNat) (sz:=3));refine ag [4,6,7,47,48,49] rfl ?_;refine av rfl ?_;refine aD rfl rfl ⟨by omega,by omega⟩ ?_;refine vr 1 ?_;refine aq ?_;exact⟨k+1,_,by omega,an,agP,by rw[cC _ (List.mem_cons_self ..),AJ,if_pos hb,Rat.mul_one];exact re (KJ.mono fun vs a=>fJ _ _ vs a Dm.le) (by omega) KL,by rw[cC _ (List.mem_cons_self ..)];exact KK.trans Dm.le,by omega⟩
     ·
      have hb:¬0≤p.lay.mZ k:=by simpa using hb
      refine au ?_;refine ag [4,6,7,47,48,49] rfl ?_;refine av rfl ?_;refine aD rfl rfl ⟨by omega,by omega⟩ ?_;refine vr 1 ?_;refine aq ?_;exact⟨k+1,_,by omega,an,Be,by rw[AJ,if_neg hb,Rat.mul_one];exact KJ,KK,by omega⟩
    ·
     have hb:p.free.length≤k:=by simpa using hb
     obtain rfl:p.free.length=k:=by omega
     have lB:=wa.done;have je:aR bE 3 (rem pH (G.eG iY iZ).gs) (.slice (some ⟨z,0,none⟩) p.lay.w p.lay.w) (aH (j9 p c) p.lay.w):=⟨some ⟨z,0,none⟩,p.lay.w,xs,by rw[aW],by rw[aW];exact Nat.le_refl _,wa.rd,P0.mono fun vs a=>fJ _ _ vs a lB.2⟩
     have XC:((T11.m:Nat):Int)≤1000000:=by rw[we.rows.m];omega
     skip
     have XD:=hl.AV _ we;refine aU ?_;refine ag [4,6,7] rfl ?_;refine ab ?_;refine vr 2 ?_;refine aw rfl rfl (VH (G:=(G.eG iY iZ)) (N:=2*M) (f:=j9 p c) (rM.kept lB.1) je (fun i hi=>by have h9:=we.wf.lt i hi;rw[we.rows.n]at h9;exact h9) (by omega) rI XC (fun j _=>Nat.le_trans (hl.j9 j) (by omega)) (fun i hi j hj=>Nat.le_trans (XD.A i hi j (by rw[we.rows.n];exact hj)) (by omega)) (fun k hk j hj=>hl.Pf _ we k hk j (by rw[we.rows.n];exact hj))) ?_;rintro _ P2 ⟨Bf,Bg,_,agQ,agR,XE⟩;refine aa [4,6,7] ?_;refine al ?_;refine ab ?_;refine vr 1 ?_;refine aw rfl rfl (Vi (G:=((G.eG iY iZ).eG Bf Bg)) (N:=M) (I:=I2 p c) agQ agR (I2.start PZ) (fun S r s h hb=>h.step hb) (fun S h=>⟨h.1.wf,h.1.eF,hl.nO _ h.1,by rw[h.1.rows.m];exact we.rows.m.symm,by rw[h.1.rows.n];exact we.rows.n.symm⟩) (by omega) rI XC) ?_;rintro v20 KE ⟨P3,oG,GQ,XF,XG,agS⟩;have GR:=hl.nO _ oG.1;have ak6:aG (P3.c p.lay.w)≤M:=GR.c _ (by rw[oG.1.rows.n];exact Nat.le_refl _)
     have P4:((P3.m:Nat):Int)≤1000000:=by rw[oG.1.rows.m];omega
     have agT:=je.le fJ (XE.trans XG);have XH:=((PY.trans GP).trans lB.1.le).trans (XE.trans XG);have XI:∀j,j<p.lay.w→aG (P3.pt j)≤M:=fun j hj=>Pd oG.1.wf GR Xz (by rw[oG.1.rows.n];exact hj);refine vr 1 ?_;refine aa [4,6,7,10] ?_
     rcases agS with ⟨rfl,agU⟩ | ⟨s,rfl,uO,XJ,agV⟩
     ·
      skip
      refine ab ?_;refine vr 1 ?_;refine aA false rfl rfl (zu (by decide)) ?_;refine aa [4,6,7,10,90] ?_;refine cU rfl ?_;refine au ?_;refine ag [4,6,7] rfl ?_;refine ab ?_;refine vr 1 ?_;refine aw rfl rfl (Vq (G:=((G.eG iY iZ).eG Bf Bg)) GQ XF (by omega)) ?_;rintro v23 H23 ⟨GS,ak7,n23,d23,b23,rfl,agW⟩;refine aw rfl rfl (Fn.frame (gs:=((G.eG iY iZ).eG Bf Bg).gs) (GS.ne GQ.ne) (Uk agW (by rw[vF];omega))) ?_;rintro v24 H24 ⟨⟨agX,XK⟩,agY⟩;have KM:=GS.trans ⟨agX,agY⟩;have XL:=GQ.kept KM;have agZ:=XF.kept KM;obtain⟨u24,w24,rfl,ag0,ag1⟩:=id XK;obtain⟨A27,c27,rfl,_,_⟩:=ag0;obtain⟨pB,pC,rfl,_,_⟩:=ag1;refine vr 1 ?_;refine aw rfl rfl (VE (G:=((G.eG iY iZ).eG Bf Bg)) XL oG.1.wf oD XI (by omega) rI (by omega) P4) ?_;rintro v25 H25 ⟨yC,ag2,A25,c25,x25,rfl,P5,P6,P7⟩;refine vr 2 ?_;refine aw rfl rfl (VF (G:=((G.eG iY iZ).eG Bf Bg)) (n:=p.lp.n) (m:=p.lp.m) (N:=M) (f:=j9 p c) (XL.kept yC) (agZ.kept yC) oD (agT.le fJ (KM.le.trans yC.le)) (fun j _=>hl.j9 j) (fun j hj=>GR.c j (by rw[oG.1.rows.n];exact Nat.le_of_lt hj)) (by omega) rI (by omega)) ?_;rintro v26 H26 ⟨Dn,ag3,A26,c26,x26,rfl,P8,P9,Qa⟩;refine dS ae rfl vp rfl rfl ?_
      obtain⟨ti,aj,ak⟩:=qQ;refine aJ (.inl ⟨rfl,rfl⟩) rfl rfl rfl aj ak rfl rfl rfl ?_;refine vr 1 ?_;refine aa [4,5] ?_;obtain⟨bX,aK,aL⟩:=qQ;refine az ⟨.inr rfl,_,.agg rfl Tryz.underlying33 aK aL (.tmp rfl (.nil)),?_⟩;exact agF bg dA hl ((((XH.trans KM.le).trans yC.le).trans Dn.le).trans (bG _ _)) oG agU (bK.le XK ((yC.le.trans Dn.le).trans (bG _ _))) (aR.le ⟨_,_,_,rfl,P5,P6,P7⟩ fK (Dn.le.trans (bG _ _))) (aR.le ⟨_,_,_,rfl,P8,P9,Qa⟩ fK (bG _ _))
     ·
      skip
      refine ab ?_;refine vr 1 ?_;refine aA true rfl rfl (qT (by omega)) ?_;refine aa [4,6,7,10,90] ?_;refine cD rfl ?_;refine ab ?_;refine vr 1 ?_;refine aw rfl rfl (VE (G:=((G.eG iY iZ).eG Bf Bg)) GQ oG.1.wf oD XI (by omega) rI (by omega) P4) ?_;rintro v25 H25 ⟨yC,ag2,A25,c25,x25,rfl,P5,P6,P7⟩;have l4:=fg p;have rj:=WV oG.1.wf XJ;refine vr 2 ?_;refine aw rfl rfl (aeJ (G:=((G.eG iY iZ).eG Bf Bg)) (N:=M) (s:=s) (GQ.kept yC) oG.1.wf oD (Nat.lt_of_lt_of_le uO l4) rj (fun i hi=>GR.A i hi s (by rw[oG.1.rows.n];exact Nat.le_of_lt (Nat.lt_of_lt_of_le uO l4))) (fun j _=>WU oG.1.wf GR Xz (by rw[oG.1.rows.n];exact Nat.le_of_lt (Nat.lt_of_lt_of_le uO l4)) rj) (by omega) rI (by omega) P4) ?_;rintro v26 H26 ⟨Dn,ag3,A26,c26,x26,rfl,P8,P9,Qa⟩;refine dS ae rfl vp rfl rfl ?_;obtain⟨ti,aj,ak⟩:=qQ;refine aJ (.inl ⟨rfl,rfl⟩) rfl rfl rfl aj ak rfl rfl rfl ?_;refine vr 1 ?_;refine aa [4,5] ?_;obtain⟨bX,aK,aL⟩:=qQ;refine az ⟨.inr rfl,_,.agg rfl Tryz.underlying33 aK aL (.tmp rfl (.nil)),?_⟩;exact agG bg dA hl (((XH.trans yC.le).trans Dn.le).trans (bG _ _)) oG uO XJ agV (aR.le ⟨_,_,_,rfl,P5,P6,P7⟩ fK (Dn.le.trans (bG _ _))) (aR.le ⟨_,_,_,rfl,P8,P9,Qa⟩ fK (bG _ _))
end Go.ar
namespace Go.ar
open Go.Proofs Num Lp
theorem XM{H:Heap}{f:Bool}{A1 A2:Option Addr}{m1 c1 m2 c2:Nat}:
 Fn Tryz.prog 28 #[.agg #[.bool f,.slice A1 m1 c1,.slice A2 m2 c2]] H (qX H (.bool (decide (m1≤2∧m2≤2)))):=by
 refine aZ (args:=[_]) Tryz.func28 rfl rfl Tryz.ntmps28 rfl rfl fun w0=> ?_;refine ag [0] rfl ?_;refine ab ?_;refine bS rfl rfl ?_;refine vr 1 ?_;refine aa [1] ?_
 by_cases h1:m1≤2
 ·
  skip
  by_cases h2:m2≤2
  ·
   skip
   refine ab ?_;refine vr 3 ?_;refine aA true rfl rfl (oX (by omega)) ?_;refine vr 4 ?_;refine aA true rfl rfl (oX (by omega)) ?_;refine vr 2 ?_;refine aa [2] ?_;refine az ⟨.inr rfl,_,.tmp rfl (.nil),?_⟩;exact⟨rfl,by rw[decide_eq_true ⟨h1,h2⟩];rfl⟩
  ·
   skip
   refine ab ?_;refine vr 3 ?_;refine aA true rfl rfl (oX (by omega)) ?_;refine vr 4 ?_;refine aA false rfl rfl (xh (by omega)) ?_;refine vr 2 ?_;refine aa [2] ?_;refine az ⟨.inr rfl,_,.tmp rfl (.nil),?_⟩;exact⟨rfl,by rw[decide_eq_false (fun h=>h2 h.2)];rfl⟩
 ·
  skip
  refine ab ?_;refine vr 3 ?_;refine aA false rfl rfl (xh (by omega)) ?_;refine vr 7 ?_;refine aa [2] ?_;refine az ⟨.inr rfl,_,.tmp rfl (.nil),?_⟩;exact⟨rfl,by rw[decide_eq_false (fun h=>h1 h.1)];rfl⟩
end Go.ar
namespace Go.ar
section
variable {P:Program} {n:Nat} {all:Array Oper} {md:Mode} {tb:Tb} {s:St} {H:Heap} {K:St→Heap→Prop} {r:List Oper} {ty:TypeId} {pos:String} {after:Array Edge} {gd:Option (Nat×Bool)}
theorem KN(s:St)(d:Nat)(v:Value):ev (put s d (.val v)) (.tmp d)=some v:=by simp[ev,put]
theorem oH{t t2 t3:TypeId}{x i:Operand}{A:Option Addr}{m c d1 d2 f o z:Nat}{Bh:Option Nat}{ml Qb:TypeId}{mm Qd:String}{mo Qe:Array Edge}{jx GV:Option (Nat×Bool)}{k:IntKind}{j:Int}{e sz nO:Nat}{ps:List (Nat×Nat)}{ti:Ti}{xs:List Value}{v:Value}
  (cZ:jK P tb) (ht:tb[t]? = some (.sl e sz)) (eS:tb[t2]? = some (.st nO ps)) (hf:ps[f]? = some (o,z)) (AK:tb[t3]? = some ti) (h1:wS ti=true) (hx:ev s x=some (.slice A m c)) (hi:ev s i=some (.int k j)) (hr:Rd H A xs) (hv:xs[j.toNat*sz+o]? = some v) (h0:0≤j) (hm:j<m)
  (hk:∀a1 a2:Addr,aP P n all md r (bn (put (put s d1 (.val (.pointer (some a1)))) d2 (.val (.pointer (some a2)))) Bh (.val v)) H K)
  (hg:ca all s gd=some true:=by rfl) (nb:md.nb s (some d1)=true:=by rfl)
  (dQ:∀a1:Addr,ca all (put s d1 (.val (.pointer (some a1)))) jx=some true:=by exact fun _=>rfl) (sy:∀a1:Addr,md.nb (put s d1 (.val (.pointer (some a1)))) (some d2)=true:=by exact fun _=>rfl)
  (lv:∀a1 a2:Addr,ca all (put (put s d1 (.val (.pointer (some a1)))) d2 (.val (.pointer (some a2)))) GV=some true:=by exact fun _ _=>rfl) (Qf:∀a1 a2:Addr,md.nb (put (put s d1 (.val (.pointer (some a1)))) d2 (.val (.pointer (some a2)))) Bh=true:=by exact fun _ _=>rfl):
  aP P n all md (⟨some d1,.indexAddr t x i,ty,pos,after,gd⟩::⟨some d2,.fieldAddr t2 (.tmp d1) f,ml,mm,mo,jx⟩::⟨Bh,.load t3 (.tmp d2),Qb,Qd,Qe,GV⟩::r) s H K:=by
 obtain⟨ad,rfl,hc⟩:=hr _ _ hv
 refine vi cZ ht hx hi h0 hm ?_ hg nb
 refine aS (ad:=ad.add (j.toNat*sz)) cZ eS hf (KN _ _ _) ?_ (dQ _) (sy _)
 refine aN (ad:=(ad.add (j.toNat*sz)).add o) cZ AK h1 (KN _ _ _) (by rw[add_add];exact hc) ?_ (lv _ _) (Qf _ _)
 exact hk _ _
theorem ag4{t t2 t3:TypeId}{x i:Operand}{A:Option Addr}{m c d1 d2 f o z:Nat}{Bh:Option Nat}{ml Qb:TypeId}{mm Qd:String}{mo Qe:Array Edge}{jx GV:Option (Nat×Bool)}{k:IntKind}{j:Int}{e sz nO qP:Nat}{ps sq:List (Nat×Nat)}{xs vs:List Value}
  (cZ:jK P tb) (ht:tb[t]? = some (.sl e sz)) (eS:tb[t2]? = some (.st nO ps)) (hf:ps[f]? = some (o,z)) (AK:tb[t3]? = some (.st qP sq)) (hx:ev s x=some (.slice A m c)) (hi:ev s i=some (.int k j)) (hr:Rd H A xs) (hl:vs.length=qP) (hp:0<qP) (hv:∀(q:Nat)(v:Value),vs[q]? = some v→xs[j.toNat*sz+o+q]? = some v) (h0:0≤j) (hm:j<m)
  (hk:∀a1 a2:Addr,aP P n all md r (bn (put (put s d1 (.val (.pointer (some a1)))) d2 (.val (.pointer (some a2)))) Bh (.val (.agg vs.toArray))) H K)
  (hg:ca all s gd=some true:=by rfl) (nb:md.nb s (some d1)=true:=by rfl)
  (dQ:∀a1:Addr,ca all (put s d1 (.val (.pointer (some a1)))) jx=some true:=by exact fun _=>rfl) (sy:∀a1:Addr,md.nb (put s d1 (.val (.pointer (some a1)))) (some d2)=true:=by exact fun _=>rfl)
  (lv:∀a1 a2:Addr,ca all (put (put s d1 (.val (.pointer (some a1)))) d2 (.val (.pointer (some a2)))) GV=some true:=by exact fun _ _=>rfl) (Qf:∀a1 a2:Addr,md.nb (put (put s d1 (.val (.pointer (some a1)))) d2 (.val (.pointer (some a2)))) Bh=true:=by exact fun _ _=>rfl):
  aP P n all md (⟨some d1,.indexAddr t x i,ty,pos,after,gd⟩::⟨some d2,.fieldAddr t2 (.tmp d1) f,ml,mm,mo,jx⟩::⟨Bh,.load t3 (.tmp d2),Qb,Qd,Qe,GV⟩::r) s H K:=by
 obtain⟨ad,rfl,hc⟩:=hr _ _ (hv 0 _ (List.getElem?_eq_getElem (by omega)))
 refine vi cZ ht hx hi h0 hm ?_ hg nb
 refine aS (ad:=ad.add (j.toNat*sz)) cZ eS hf (KN _ _ _) ?_ (dQ _) (sy _)
 refine wV (ad:=(ad.add (j.toNat*sz)).add o) (vs:=vs) cZ AK (KN _ _ _) hl (fun q v hq=>by
  obtain⟨D7,h1,h2⟩:=hr _ _ (hv q v hq)
  cases h1
  rw[add_add,add_add,←Nat.add_assoc];exact h2) ?_ (lv _ _) (Qf _ _)
 exact hk _ _
end
end Go.ar
namespace Go.ar
open Go.Proofs Num Lp
theorem cH.small{N:Nat}{H:Heap}{q:Rat}{f:Bool}{A1 A2:Option Addr}{m1 c1 m2 c2:Nat}(h:cH H (.agg #[.bool f,.slice A1 m1 c1,.slice A2 m2 c2]) q N)(h1:m1≤2)(h2:m2≤2):cH H (.agg #[.bool f,.slice A1 m1 c1,.slice A2 m2 c2]) q 2:=by
 obtain⟨f',u,w,l1,l2,e,k1,k2,k3,k4,k5,k6,k7⟩:=h
 have e':=uh (vs:=[.bool f,.slice A1 m1 c1,.slice A2 m2 c2]) e
 simp only[List.cons.injEq,and_true]at e'
 obtain⟨e1,e2,e3⟩:=e'
 refine⟨f',u,w,l1,l2,e,k1,k2,k3,k4,?_,?_,k7⟩
 ·obtain⟨A,c,e4,_⟩:=k1
  rw[e4]at e2
  cases e2;exact h1
 ·obtain⟨A,c,e4,_⟩:=k2
  rw[e4]at e3
  cases e3;exact h2
theorem aR.Dp{N:Nat}{H:Heap}{xs:List Value}{l:List Rat}(h:bC (ck N H) 3 xs l){i:Nat}{q:Rat}(hq:l[i]? = some q):∃f A1 m1 c1 A2 m2 c2,gX xs i 3 = [.bool f,.slice A1 m1 c1,.slice A2 m2 c2]∧cH H (.agg #[.bool f,.slice A1 m1 c1,.slice A2 m2 c2]) q N∧∀(j:Nat)(u:Value),[.bool f,.slice A1 m1 c1,.slice A2 m2 c2][j]? = some u→xs[i*3+j]? = some u:=by
 have h1:=h.at_ i q hq
 obtain⟨f,A,m,c,A',m',c',e⟩:=ck.cells h1
 refine⟨f,A,m,c,A',m',c',e,?_,fun j u hu=>NA (by rw[e];exact hu)⟩
 have h2:cH H (.agg (gX xs i 3).toArray) q N:=h1
 rwa [e]at h2
def uR(N:Nat)(H:Heap)(vs:List Value)(ls:List (List Rat)):Prop:=vs.length=ls.length∧∀(i:Nat)(v:Value)(l:List Rat),vs[i]? = some v→ls[i]? = some l→aR (ck N) 3 H v l
theorem ag5(N:Nat)(H:Heap):uR N H [] []:=⟨rfl,fun i v l h=>by simp at h⟩
theorem uR.cons{N:Nat}{H:Heap}{v:Value}{l:List Rat}{vs:List Value}{ls:List (List Rat)}(h:aR (ck N) 3 H v l)(k:uR N H vs ls):uR N H (v::vs) (l::ls):=
 ⟨by simp[k.1],fun i v' l' h1 h2=>by
  cases i with
  | zero=>simp only[List.getElem?_cons_zero,Option.some.injEq]at h1 h2;subst h1;subst h2;exact h
  | succ i=>exact k.2 i v' l' (by simpa using h1) (by simpa using h2)⟩
theorem uR.head{N:Nat}{H:Heap}{v:Value}{l:List Rat}{vs:List Value}{ls:List (List Rat)}(h:uR N H (v::vs) (l::ls)):aR (ck N) 3 H v l:=h.2 0 v l rfl rfl
theorem ag6{xs:List Value}{k:Nat}{a b c d e:Value}(h:∀(j:Nat)(u:Value),[a,b,c,d,e][j]? = some u→xs[k+j]? = some u):∀(q:Nat)(v:Value),[c,d,e][q]? = some v→xs[k+2+q]? = some v:=fun q v hq=>by
 rw[Nat.add_assoc,Nat.add_comm 2 q];exact h (q+2) v hq
theorem aR.XN{N:Nat}{H:Heap}{xs:List Value}{l:List (List Rat×Int×Rat)}(h:bC (eV N H) 5 xs l){i:Nat}{r:List Rat×Int×Rat}(hq:l[i]? = some r):∃A0 c0 f A1 m1 c1 A2 m2 c2,gX xs i 5 = [.slice A0 r.1.length c0,.int .i64 r.2.1,.bool f,.slice A1 m1 c1,.slice A2 m2 c2]∧aR (ck N) 3 H (.slice A0 r.1.length c0) r.1∧cH H (.agg #[.bool f,.slice A1 m1 c1,.slice A2 m2 c2]) r.2.2 N∧∀(j:Nat)(u:Value),[.slice A0 r.1.length c0,.int .i64 r.2.1,.bool f,.slice A1 m1 c1,.slice A2 m2 c2][j]? = some u→xs[i*5+j]? = some u:=by
 have h1:=h.at_ i r hq
 obtain⟨A0,c0,k,f,A1,m1,c1,A2,m2,c2,e,hk⟩:=h1.cells
 subst hk
 have h2:=h1
 rw[e]at h2
 obtain⟨c',f',u',w',e',h3,h4⟩:=id h2
 simp only[List.cons.injEq,and_true,true_and]at e'
 obtain⟨rfl,e1,rfl,rfl⟩:=e'
 exact⟨A0,c0,f,A1,m1,c1,A2,m2,c2,e,h3,h2.bound,fun j u hu=>NA (by rw[e];exact hu)⟩
structure Qg(H:Heap)(v:Value)(p:Prg)(n m:Nat):Prop where
 prog:eJ 2 H v p
 gM:p.free.length≤n
 rows:p.rows.length≤m
 row:∀(i:Nat)(r:List Rat×Int×Rat),p.rows[i]? = some r→r.1.length≤n
theorem XO{H:Heap}{v:Value}{l:List Rat}{N n:Nat}(hv:aR (ck N) 3 H v l)(hn:n≤1000):
 Fn Tryz.prog 26 #[v,.int .i64 (n:Int)] H (fun v' H'=>H'=H∧∃b,v' = .bool b∧(b=true→l.length≤n∧aR (ck 2) 3 H v l)):=by
 obtain⟨A,c,xs,rfl,vj,hr,hx⟩:=hv;refine aZ (args:=[_,_]) Tryz.func26 rfl rfl Tryz.ntmps26 rfl rfl fun w0=> ?_;refine ag [0,1] rfl ?_;refine ab ?_;refine vr 1 ?_;refine aa [0,1] ?_;refine al ?_;refine ab ?_;refine vr 4 ?_;refine aa [0,9] ?_;refine aB rfl (fun hb=> ?_) (fun hb=> ?_)
 ·
  skip
  refine ab ?_;refine vr 1 ?_;refine aa [4] ?_;refine az ⟨.inr rfl,_,.tmp rfl (.nil),?_⟩;exact⟨rfl,false,rfl,fun h=>by cases h⟩
 ·
  have hb:l.length≤n:=by simpa using hb
  refine au ?_;refine ag [0] rfl ?_;refine al ?_;refine ab ?_;refine vr 3 ?_;refine aa [0,11,12] ?_;refine aC ?_;refine fZ (fun(i:Nat)=>l.length-i) (fun(i:Nat)=>put (put (put (emp) 0 (.val (.slice A l.length c))) 11 (.val (.int .i64 (l.length:Int)))) 12 (.val (.int .i64 (i:Int)))) (fun(i:Nat) H'=>H'=H∧(∀(k:Nat)(q:Rat),k<i→l[k]? = some q→ck 2 H (gX xs k 3) q)∧i≤l.length) 0 (⟨rfl,(fun k r h=>by omega),Nat.zero_le _⟩) an ?_;rintro i H1 ⟨e1,fT,hi⟩;rw[e1];refine ab ?_;refine vr 1 ?_;refine aa [0,11,12,13] ?_;refine al ?_;refine aB rfl (fun hb=> ?_) (fun hb=> ?_)
  ·
   have aQ:i<l.length:=by simpa using hb
   obtain⟨q,hq⟩:∃q,l[i]? = some q:=⟨_,List.getElem?_eq_getElem aQ⟩;obtain⟨f,A1,m1,c1,A2,m2,c2,jo,tm,wg⟩:=aR.Dp hx hq;refine au ?_;refine ag [0,11,12] rfl ?_;refine al ?_;refine aC ?_;refine ab ?_;refine vr 2 ?_;refine aa [0,5,11,12] ?_;refine ab ?_;refine vr 2 ?_;refine bR ae rfl rfl rfl rfl (hr) rfl (by decide) (wg) (by omega) (by omega) fun _=> ?_;refine aw rfl rfl (XM) ?_;rintro v2 H2 ⟨e2,rfl⟩;rw[e2];refine vr 1 ?_;refine aa [0,11,12,20] ?_;refine aB rfl (fun hb=> ?_) (fun hb=> ?_)
   ·
    skip
    refine ab ?_;refine vr 1 ?_;refine aa [4] ?_;refine az ⟨.inr rfl,_,.tmp rfl (.nil),?_⟩;exact⟨rfl,false,rfl,fun h=>by cases h⟩
   ·
    have jn:m1≤2∧m2≤2:=by simpa using hb
    refine au ?_;refine ag [0,11,12] rfl ?_;refine av rfl ?_;refine aD rfl rfl ⟨by omega,by omega⟩ ?_;refine vr 1 ?_;refine aq ?_;exact⟨i+1,by omega,an,rfl,(fun k q9 hk eW=>by by_cases h9:k<i;exact fT k q9 h9 eW;(obtain rfl:k=i:=by omega);rw[hq]at eW;cases eW;show cH _ _ _ _;rw[jo];exact tm.small jn.1 jn.2),by omega⟩
  ·
   have hb:l.length≤i:=by simpa using hb
   refine aU ?_;refine ag [] rfl ?_;refine ab ?_;refine vr 1 ?_;refine aa [4] ?_;refine az ⟨.inr rfl,_,.tmp rfl (.nil),?_⟩;exact⟨rfl,true,rfl,fun _=>⟨by omega,A,c,xs,rfl,vj,hr,hx.len,fun k q hq=>fT k q (by have h9:=(List.getElem?_eq_some_iff.1 hq).1;omega) hq⟩⟩
theorem ag7{H:Heap}{A:Option Addr}{k c:Nat}{vs:List Value}{ls:List (List Rat)}{N m n:Nat}(hr:Rd H A vs)(hk:k=ls.length)(hv:uR N H vs ls)(hn:n≤1000)(hm:m≤1000):
 Fn Tryz.prog 27 #[.slice A k c,.int .i64 (m:Int),.int .i64 (n:Int)] H (fun v' H'=>H'=H∧∃b,v' = .bool b∧(b=true→uR 2 H vs ls∧(∀l,l∈ls→l.length≤n)∧ls.length≤m)):=by
 refine aZ (args:=[_,_,_]) Tryz.func27 rfl rfl Tryz.ntmps27 rfl rfl fun w0=> ?_;refine ag [0,1,2] rfl ?_;refine ab ?_;refine vr 1 ?_;refine aa [0,1,2] ?_;refine al ?_;refine ab ?_;refine vr 4 ?_;refine aa [0,2,11] ?_;refine aB rfl (fun hb=> ?_) (fun hb=> ?_)
 ·
  skip
  refine ab ?_;refine vr 1 ?_;refine aa [6] ?_;refine az ⟨.inr rfl,_,.tmp rfl (.nil),?_⟩;exact⟨rfl,false,rfl,fun h=>by cases h⟩
 ·
  have hb:k≤m:=by simpa using hb
  refine au ?_;refine ag [0,2] rfl ?_;refine al ?_;refine ab ?_;refine vr 3 ?_;refine aa [0,2,13,14] ?_;refine aC ?_;refine fZ (fun(i:Nat)=>k-i) (fun(i:Nat)=>put (put (put (put (emp) 0 (.val (.slice A k c))) 2 (.val (.int .i64 (n:Int)))) 13 (.val (.int .i64 (k:Int)))) 14 (.val (.int .i64 (i:Int)))) (fun(i:Nat) H'=>H'=H∧(∀(j:Nat)(v:Value)(l:List Rat),j<i→vs[j]? = some v→ls[j]? = some l→l.length≤n∧aR (ck 2) 3 H v l)∧i≤k) 0 (⟨rfl,(fun j v l h=>by omega),Nat.zero_le _⟩) an ?_;rintro i H1 ⟨e1,fT,hi⟩;rw[e1];refine ab ?_;refine vr 1 ?_;refine aa [0,2,13,14,15] ?_;refine al ?_;refine aB rfl (fun hb=> ?_) (fun hb=> ?_)
  ·
   have aQ:i<k:=by simpa using hb
   obtain⟨l,hle⟩:∃l,ls[i]? = some l:=⟨_,List.getElem?_eq_getElem (by omega)⟩;obtain⟨v,Cn⟩:∃v,vs[i]? = some v:=⟨_,List.getElem?_eq_getElem (by rw[hv.1];omega)⟩;have iB:=hv.2 i v l Cn hle;obtain⟨A0,c0,ox,rfl,h0⟩:=id iB;refine au ?_;refine ag [0,2,13,14] rfl ?_;refine al ?_;refine aC ?_;refine ab ?_;refine vr 2 ?_;refine aa [0,2,7,13,14] ?_;refine ab ?_;refine vr 2 ?_;refine aM ae rfl rfl rfl rfl rfl (hr) (Cn) (by omega) (by omega) fun _=> ?_;refine vr 1 ?_;refine aw rfl rfl (XO iB hn) ?_;rintro v2 H2 ⟨e2,b2,rfl,cS⟩;rw[e2];refine vr 1 ?_;refine aa [0,2,13,14,23] ?_;refine aB rfl (fun hb=> ?_) (fun hb=> ?_)
   ·
    skip
    refine ab ?_;refine vr 1 ?_;refine aa [6] ?_;refine az ⟨.inr rfl,_,.tmp rfl (.nil),?_⟩;exact⟨rfl,false,rfl,fun h=>by cases h⟩
   ·
    have CA:b2=true:=by simpa using hb
    refine au ?_;refine ag [0,2,13,14] rfl ?_;refine av rfl ?_;refine aD rfl rfl ⟨by omega,by omega⟩ ?_;refine vr 1 ?_;refine aq ?_;exact⟨i+1,by omega,an,rfl,(fun j v9 l9 hj Gh dX=>by by_cases h9:j<i;exact fT j v9 l9 h9 Gh dX;(obtain rfl:j=i:=by omega);rw[Cn]at Gh;rw[hle]at dX;cases Gh;cases dX;exact cS CA),by omega⟩
  ·
   have hb:k≤i:=by simpa using hb
   refine aU ?_;refine ag [] rfl ?_;refine ab ?_;refine vr 1 ?_;refine aa [6] ?_;refine az ⟨.inr rfl,_,.tmp rfl (.nil),?_⟩
   exact⟨rfl,true,rfl,fun _=>⟨⟨hv.1,fun j v l h1 h2=>(fT j v l (by have h9:=(List.getElem?_eq_some_iff.1 h2).1;omega) h1 h2).2⟩,(fun l hl=>by
    obtain⟨j,hj⟩:=List.getElem?_of_mem hl;have h9:=(List.getElem?_eq_some_iff.1 hj).1
    exact(fT j _ l (by omega) (List.getElem?_eq_getElem (by rw[hv.1];omega)) hj).1),by omega⟩⟩
theorem ag8{H:Heap}{v:Value}{p:Prg}{N n m:Nat}(hp:eJ N H v p)(hn:n≤1000)(hm:m≤1000):
 Fn Tryz.prog 82 #[v,.int .i64 (n:Int),.int .i64 (m:Int)] H (fun v' H'=>H'=H∧∃b,v' = .bool b∧(b=true→Qg H v p n m)):=by
 obtain⟨fv,fN,rfl,eo,ep⟩:=id hp
 obtain⟨Af,cf,xf,rfl,gZ,hO⟩:=eo.one
 obtain⟨Ar,cr,xr,rfl,mW,eK,fO⟩:=ep;refine aZ (args:=[_,_,_]) Tryz.func82 rfl rfl Tryz.ntmps82 rfl rfl fun w0=> ?_;refine ag [0,1,2] rfl ?_;refine ab ?_;refine bS rfl rfl ?_;refine vr 1 ?_;refine aa [1,2,3] ?_;refine al ?_
 by_cases h1:(n:Int)<(p.free.length:Int)
 ·
  skip
  refine ab ?_;refine vr 4 ?_;refine aA true rfl rfl (kS h1) ?_;refine vr 7 ?_;refine aa [1,3,19] ?_;refine cD rfl ?_;refine ab ?_;refine vr 1 ?_;refine aa [6] ?_;refine az ⟨.inr rfl,_,.tmp rfl (.nil),?_⟩;exact⟨rfl,false,rfl,fun h=>by cases h⟩
 ·
  skip
  by_cases h2:(m:Int)<(p.rows.length:Int)
  ·
   skip
   refine ab ?_;refine vr 4 ?_;refine aA false rfl rfl (gA (by omega)) ?_;refine vr 5 ?_;refine aA true rfl rfl (kS h2) ?_;refine vr 1 ?_;refine aa [1,3,19] ?_;refine cD rfl ?_;refine ab ?_;refine vr 1 ?_;refine aa [6] ?_;refine az ⟨.inr rfl,_,.tmp rfl (.nil),?_⟩;exact⟨rfl,false,rfl,fun h=>by cases h⟩
  ·
   skip
   refine ab ?_;refine vr 4 ?_;refine aA false rfl rfl (gA (by omega)) ?_;refine vr 5 ?_;refine aA false rfl rfl (gA (by omega)) ?_;refine vr 1 ?_;refine aa [1,3,19] ?_;refine cU rfl ?_;refine au ?_;refine ag [1,3] rfl ?_;refine al ?_;refine ab ?_;refine vr 4 ?_;refine aa [1,3,22,23] ?_;refine aC ?_;refine fZ (fun(i:Nat)=>p.rows.length-i) (fun(i:Nat)=>put (put (put (put (emp) 1 (.val (.int .i64 (n:Int)))) 3 (.box [.slice Af p.free.length cf,.slice Ar p.rows.length cr])) 22 (.val (.int .i64 (p.rows.length:Int)))) 23 (.val (.int .i64 (i:Int)))) (fun(i:Nat) H'=>H'=H∧(∀(k:Nat)(r:List Rat×Int×Rat),k<i→p.rows[k]? = some r→r.1.length≤n∧eV 2 H (gX xr k 5) r)∧i≤p.rows.length) 0 (⟨rfl,(fun k r h=>by omega),Nat.zero_le _⟩) an ?_;rintro i H1 ⟨e1,fT,hi⟩;rw[e1];refine ab ?_;refine vr 1 ?_;refine aa [1,3,22,23,24] ?_;refine al ?_;refine aB rfl (fun hb=> ?_) (fun hb=> ?_)
   ·
    have aQ:i<p.rows.length:=by simpa using hb
    obtain⟨r,hr⟩:∃r,p.rows[i]? = some r:=⟨_,List.getElem?_eq_getElem aQ⟩;obtain⟨A0,c0,f,A1,m1,c1,A2,m2,c2,jo,iB,tm,jV⟩:=aR.XN fO hr;refine au ?_;refine ag [1,3,22,23] rfl ?_;refine al ?_;refine aC ?_;refine ab ?_;refine vr 2 ?_;refine aa [1,3,7,22,23] ?_;refine ab ?_;refine vr 3 ?_;refine oH ae rfl rfl rfl rfl rfl rfl rfl (eK) (jV 0 _ rfl) (by omega) (by omega) fun _ _=> ?_;refine vr 1 ?_;refine aw rfl rfl (XO iB hn) ?_;rintro v2 H2 ⟨e2,b2,rfl,cS⟩;rw[e2]
    cases b2
    ·
     skip
     refine vr 11 ?_;refine aa [1,3,22,23,44] ?_;refine cD rfl ?_;refine ab ?_;refine vr 1 ?_;refine aa [6] ?_;refine az ⟨.inr rfl,_,.tmp rfl (.nil),?_⟩;exact⟨rfl,false,rfl,fun h=>by cases h⟩
    ·
     skip
     refine vr 5 ?_;refine ag4 ae rfl rfl rfl rfl rfl rfl (eK) rfl (by decide) (ag6 jV) (by omega) (by omega) fun _ _=> ?_;refine aw rfl rfl (XM) ?_;rintro v3 H3 ⟨e3,rfl⟩;rw[e3];refine vr 2 ?_;refine aa [1,3,22,23,44] ?_;refine aB rfl (fun hb=> ?_) (fun hb=> ?_)
     ·
      skip
      refine ab ?_;refine vr 1 ?_;refine aa [6] ?_;refine az ⟨.inr rfl,_,.tmp rfl (.nil),?_⟩;exact⟨rfl,false,rfl,fun h=>by cases h⟩
     ·
      have h3:m1≤2∧m2≤2:=by simpa using hb
      refine au ?_;refine ag [1,3,22,23] rfl ?_;refine av rfl ?_;refine aD rfl rfl ⟨by omega,by omega⟩ ?_;refine vr 1 ?_;refine aq ?_;exact⟨i+1,by omega,an,rfl,(fun k r9 hk jE=>by by_cases h9:k<i;exact fT k r9 h9 jE;(obtain rfl:k=i:=by omega);rw[hr]at jE;cases jE;exact⟨(cS rfl).1,_,_,_,_,jo,(cS rfl).2,tm.small h3.1 h3.2⟩),by omega⟩
   ·
    have hb:p.rows.length≤i:=by simpa using hb
    refine aU ?_;refine ag [] rfl ?_;refine ab ?_;refine vr 1 ?_;refine aa [6] ?_;refine az ⟨.inr rfl,_,.tmp rfl (.nil),?_⟩;exact⟨rfl,true,rfl,fun _=>⟨⟨_,_,rfl,eo,Ar,cr,xr,rfl,mW,eK,fO.len,fun k r hr=>(fT k r (by have h9:=(List.getElem?_eq_some_iff.1 hr).1;omega) hr).2⟩,by omega,by omega,fun k r hr=>(fT k r (by have h9:=(List.getElem?_eq_some_iff.1 hr).1;omega) hr).1⟩⟩
end Go.ar
namespace Go.ar
open Go.Proofs Num Lp
theorem aR.jF{N:Nat}{H:Heap}{v:Value}{l:List Rat}(h:aR (ck N) 3 H v l):∀q,q∈l→aG q≤N+2:=fun q hq=>by
 obtain⟨A,cc,xs,_,_,_,h4⟩:=h
 obtain⟨k,hk⟩:=List.getElem?_of_mem hq
 exact cH.size (h4.at_ k q hk)
theorem qw{l:List Rat}{j:Nat}(h:j<l.length):fn l j∈l:=by
 rw[jC (List.getElem?_eq_getElem h)];exact List.getElem_mem h
theorem KO(f:Bool)(A A':Option Addr)(k c k' c':Nat):∀u,u∈[Value.bool f,.slice A k c,.slice A' k' c']→u.oneCell'=true:=fun u hu=>by
 simp only[List.mem_cons,List.not_mem_nil,or_false]at hu
 rcases hu with rfl | rfl | rfl <;> rfl
theorem ag9{H:Heap}{v:Value}{e sz n:Nat}{xs:List Value}(h:bP H v e sz n xs):∀q,q∈aE v→H q≠none:=fun q hq=>by
 obtain⟨en,he⟩:=h.block (dg.1 hq)
 rw[he];simp
theorem Qh{α:Type}{P:Heap→List Value→α→Prop}{H:Heap}{g e sz k:Nat}{xs:List Value}{l:List α}(hk:k=l.length)(h:bC (P (ins H g (whole xs e))) sz xs l):aR P sz (ins H g (whole xs e)) (.slice (some ⟨g,0,none⟩) k k) l:=by
 subst hk;exact⟨_,_,xs,rfl,Nat.le_refl _,eZ _ _ _ _ _ _,h⟩
theorem Dq{α:Type}{P:List Value→α→Prop}{sz:Nat}{vs xs:List Value}{a:α}{l:List α}(h:P vs a)(hl:vs.length=sz)(k:bC P sz xs l):bC P sz (vs++xs) (a::l):=(pb h hl).append k
theorem KP{H:Heap}{g e:Nat}(a b:Int):aR uk 1 (ins H g (whole (eT [.int .i64 a,.int .i64 b]) e)) (.slice (some ⟨g,0,none⟩) 2 2) [a,b]:=
 Qh (l:=[a,b]) rfl (Dq (vs:=[.int .i64 a]) rfl rfl (Dq (vs:=[.int .i64 b]) rfl rfl sI))
theorem aR.qx{H:Heap}{v:Value}{l:List Rat}{N:Nat}(h:aR bT 3 H v l)(hs:∀q,q∈l→aG q≤N):aR (ck N) 3 H v l:=by
 obtain⟨A,c,xs,h1,h2,h3,h4⟩:=h
 exact⟨A,c,xs,h1,h2,h3,h4.len,fun i a ha=>bT.rat (h4.at_ i a ha) (hs a (List.mem_of_getElem? ha))⟩
theorem XP{H:Heap}{n:Int}(h1: -9223372036854775808≤n)(h2:n≤9223372036854775807):
  Fn Tryz.prog 20 #[.int .i64 n] H (fun v H'=>Heap.le H H'∧∃f A1 m1 c1 A2 m2 c2,v = .agg #[.bool f,.slice A1 m1 c1,.slice A2 m2 c2]∧bK H' (.agg #[.bool f,.slice A1 m1 c1,.slice A2 m2 c2]) (n:Rat)):=
 (ry h1 h2).mono fun v H' ⟨hl,hq⟩=>by
  obtain⟨u,w,rfl,hu,hw⟩:=id hq
  obtain⟨A1,c1,rfl,_⟩:=id hu
  obtain⟨A2,c2,rfl,_⟩:=id hw
  exact⟨hl,_,_,_,_,_,_,_,rfl,hq⟩
theorem aR.mono{α:Type}{P P':Heap→List Value→α→Prop}{sz:Nat}{H:Heap}{v:Value}{l:List α}(h:aR P sz H v l)(hp:∀vs a,P H vs a→P' H vs a):aR P' sz H v l:=by
 obtain⟨A,c,xs,h1,h2,h3,h4⟩:=h
 exact⟨A,c,xs,h1,h2,h3,h4.mono hp⟩
theorem ck.mono{N M:Nat}{H:Heap}{vs:List Value}{q:Rat}(h:ck N H vs q)(hl:N≤M):ck M H vs q:=cH.mono h hl
theorem eJ.mono{N M:Nat}{H:Heap}{v:Value}{p:Prg}(h:eJ N H v p)(hl:N≤M):eJ M H v p:=by
 obtain⟨fv,rv,h1,h2,h3⟩:=h
 exact⟨fv,rv,h1,h2,h3.mono fun vs r ⟨c,f,u,w,k1,k2,k3⟩=>⟨c,f,u,w,k1,k2.mono fun _ _ h=>h.mono hl,k3.mono hl⟩⟩
theorem XQ(q:Rat):vz q q=0:=by unfold vz;simp
theorem XR{x s:Nat}(h:x<B^s):x.log2≤30*s:=by
 by_cases h0:x=0
 ·subst h0;simp
 ·have h1:x<2^(30*s):=by
   refine Nat.lt_of_lt_of_le h ?_
   rw[Nat.pow_mul]
   exact Nat.pow_le_pow_left (by decide) s
  have:=(Nat.log2_lt h0).2 h1
  omega
theorem aha{q:Rat}{s:Nat}(h:aG q≤s):ao.wt q≤60*s+2:=by
 obtain⟨h1,h2⟩:=Ji.1 h
 have:=XR h1
 have:=XR h2
 unfold ao.wt;omega
theorem XS{k:Nat}:∀{l:List Rat},(∀q,q∈l→ao.wt q≤k)→ao.fL l≤l.length*k
 | [],_=>Nat.zero_le _
 | q::l,h=>by
  have h1:=h q (List.mem_cons_self ..)
  have h2:=XS (l:=l) fun r hr=>h r (List.mem_cons_of_mem _ hr)
  simp only[ao.fL,List.length_cons,Nat.add_mul];omega
def nums(p:Prg)(c:List Rat):List Rat:=0::(p.rows.flatMap (fun r=>r.2.2::r.1)++c)
theorem XT{l:List Rat}{k:List Rat}(h:∀q,q∈l→q∈k)(h0:0∈k)(j:Nat):fn l j∈k:=by
 by_cases hj:j<l.length
 ·rw[jC (List.getElem?_eq_getElem hj)];exact h _ (List.getElem_mem hj)
 ·rw[UT (by omega)];exact h0
theorem Qj{p:Prg}{c:List Rat}{i:Nat}(hi:i<p.rows.length):(∀q,q∈(p.row i).1→q∈nums p c)∧(p.row i).2.2∈nums p c:=by
 rw[Prg.m8 (List.getElem?_eq_getElem hi)]
 have hm:p.rows[i]∈p.rows:=List.getElem_mem hi
 refine⟨fun q hq=> ?_,?_⟩
 ·exact List.mem_cons_of_mem _ (List.mem_append_left _ (List.mem_flatMap.2 ⟨_,hm,List.mem_cons_of_mem _ hq⟩))
 ·exact List.mem_cons_of_mem _ (List.mem_append_left _ (List.mem_flatMap.2 ⟨_,hm,List.mem_cons_self ..⟩))
theorem XU(p:Prg)(c:List Rat):In (nums p c) p:=fun i hi j _=>XT (Qj hi).1 (List.mem_cons_self ..) j
theorem XV(p:Prg)(c:List Rat):∀j,j<p.lp.n→fn c j∈nums p c:=fun j _=>XT (fun q hq=>List.mem_cons_of_mem _ (List.mem_append_right _ hq)) (List.mem_cons_self ..) j
theorem XW{k:Nat}:∀{l:List (List Rat×Int×Rat)},(∀r,r∈l→r.1.length≤k)→(l.flatMap (fun r=>r.2.2::r.1)).length≤l.length*(k+1)
 | [],_=>Nat.zero_le _
 | r::l,h=>by
  have h1:=h r (List.mem_cons_self ..)
  have h2:=XW (l:=l) fun r hr=>h r (List.mem_cons_of_mem _ hr)
  simp only[List.flatMap_cons,List.length_append,List.length_cons,Nat.add_mul]at *;omega
structure Bi(N:Nat)(H:Heap)(v cv:Value)(p:Prg)(c:List Rat):Prop where
 prog:eJ N H v p
 vec:aR (ck N) 3 H cv c
 XX:N≤20
 gM:c.length≤7
 rows:p.rows.length≤7
 row:∀r,r∈p.rows→r.1.length≤7
theorem eJ.jF{N:Nat}{H:Heap}{v:Value}{p:Prg}(h:eJ N H v p):∀r,r∈p.rows→(∀q,q∈r.1→aG q≤N+2)∧aG r.2.2≤N+2:=fun r hr=>by
 obtain⟨fv,rv,_,_,h3⟩:=h
 obtain⟨A,c,xs,_,_,_,h4⟩:=h3
 obtain⟨i,hi⟩:=List.getElem?_of_mem hr
 obtain⟨c',f,u,w,_,k2,k3⟩:=h4.at_ i r hi
 exact⟨k2.jF,cH.size k3⟩
theorem Bi.bits{N:Nat}{H:Heap}{v cv:Value}{p:Prg}{c:List Rat}(h:Bi N H v cv p c):bits (nums p c) p.lp.m p.lp.m (2*ao.fL (nums p c))≤49999998:=by
 have hb:=h.XX
 have h1:∀q,q∈nums p c→ao.wt q≤1322:=fun q hq=>by
  have h2:aG q≤22:=by
   rcases List.mem_cons.1 hq with rfl | hq
   ·decide
   ·rcases List.mem_append.1 hq with hq | hq
    ·obtain⟨r,hr,hq⟩:=List.mem_flatMap.1 hq
     obtain⟨k1,k2⟩:=h.prog.jF r hr
     rcases List.mem_cons.1 hq with rfl | hq
     ·omega
     ·have:=k1 q hq;omega
    ·have:=h.vec.jF q hq;omega
  have:=aha h2;omega
 have h2:=XS h1
 have h3:=XW h.row
 have h4:(nums p c).length≤64:=by
  have:=h.rows
  have:=h.gM
  simp only[nums,List.length_cons,List.length_append];omega
 have h5:ao.fL (nums p c)≤64*1322:=Nat.le_trans h2 (Nat.mul_le_mul_right _ h4)
 have h6:p.lp.m≤7:=h.rows
 unfold ar.bits s7
 have h7:=Nat.mul_le_mul (Nat.pow_le_pow_right (n:=2) (by decide) h6) (show 4*ao.fL (nums p c)+p.lp.m+1≤4*(64*1322)+7+1 by omega)
 have h8:2^7*(4*(64*1322)+7+1)=43320320:=by decide
 omega
abbrev MX:Nat:=100000000
def XY(H:Heap)(s:Value)(S:q3):Prop:=∃f A1 m1 c1 A2 m2 c2 Ax kx cx Ad kd cd Ar kr cr,s = .agg #[.int .i64 S.status,.bool f,.slice A1 m1 c1,.slice A2 m2 c2,.slice Ax kx cx,.slice Ad kd cd,.slice Ar kr cr]∧cH H (.agg #[.bool f,.slice A1 m1 c1,.slice A2 m2 c2]) S.value MX∧aR (ck MX) 3 H (.slice Ax kx cx) S.x∧aR (ck MX) 3 H (.slice Ad kd cd) S.m9∧aR (ck MX) 3 H (.slice Ar kr cr) S.kV
theorem ahb{H:Heap}{N:Nat}:cH H (.agg #[.bool false,.slice none 0 0,.slice none 0 0]) 0 N:=
 ⟨false,_,_,[],[],rfl,⟨none,0,rfl,Nat.le_refl _,Rd.nil _ _⟩,⟨none,0,rfl,Nat.le_refl _,Rd.nil _ _⟩,(fun x h=>by cases h),(fun x h=>by cases h),Nat.zero_le _,Nat.zero_le _,by decide⟩
theorem PU.r{H:Heap}{s:Value}{S:q3}(h:PU H s S)(hz:PV MX S):XY H s S:=by
 obtain⟨f,u,w,xv,dv,rv,rfl,h4,h5,h6,h7⟩:=h
 obtain⟨Ax,cx,_,rfl,_⟩:=id h5
 obtain⟨Ad,cd,_,rfl,_⟩:=id h6
 obtain⟨Ar,cr,_,rfl,_⟩:=id h7
 have hx:=h5.qx fun q hq=>hz q (.inl hq)
 have hd:=h6.qx fun q hq=>hz q (.inr (.inl hq))
 have hr:=h7.qx fun q hq=>hz q (.inr (.inr (.inl hq)))
 rcases h4 with h4 | ⟨h4,rfl,rfl,rfl⟩
 ·obtain⟨u',w',e,hu,hw⟩:=id h4
  have e':=uh (vs:=[.bool f,u,w]) e
  simp only[List.cons.injEq,and_true]at e'
  obtain⟨_,rfl,rfl⟩:=e'
  obtain⟨A1,c1,rfl,_⟩:=id hu
  obtain⟨A2,c2,rfl,_⟩:=id hw
  exact⟨_,_,_,_,_,_,_,_,_,_,_,_,_,_,_,_,rfl,(bK.raw h4).mono (hz _ (.inr (.inr (.inr rfl)))),hx,hd,hr⟩
 ·exact⟨_,_,_,_,_,_,_,_,_,_,_,_,_,_,_,_,rfl,by rw[h4];exact ahb,hx,hd,hr⟩
def ahc(p:Prg)(c:List Rat)(H:Heap)(v:Value)(H':Heap):Prop:=Heap.le H H'∧∃s e,v = .tuple #[s,.int .i64 e]∧
 ((¬p.Ok∧e=1∧s=KI)∨(p.Ok∧c.length≠p.free.length∧e=21∧s=KI)∨(p.Ok∧c.length=p.free.length∧e=0∧∃S,XY H' s S∧iC p c S))
theorem ahd{N:Nat}{H:Heap}{v cv:Value}{p:Prg}{c:List Rat}(h:Bi N H v cv p c):Fn Tryz.prog 12 #[v,cv] H (ahc p c H):=by
 have hb:=h.bits
 have h1:=h.gM
 have h2:=h.XX
 refine(Xx h.prog h.vec (Pg (XU p c) (XV p c) fun i hi=>(Qj hi).2) (by omega) (by omega) (by omega)).mono ?_
 rintro v' H' ⟨hl,s,e,rfl,h3⟩
 refine⟨hl,s,e,rfl,?_⟩
 rcases h3 with h3 | h3 | ⟨k1,k2,k3,S,k4,k5,k6,_⟩
 ·exact .inl h3
 ·exact .inr (.inl h3)
 ·exact .inr (.inr ⟨k1,k2,k3,S,k4.r fun q hq=>Nat.le_trans (k6 q hq) (by show _≤100000000;omega),k5⟩)
def ahe(p:Prg)(c:List Rat)(H:Heap)(v:Value)(H':Heap):Prop:=Heap.le H H'∧∃S f A1 m1 c1 A2 m2 c2 Ax kx cx Ad kd cd Ar kr cr,v = .tuple #[.agg #[.int .i64 S.status,.bool f,.slice A1 m1 c1,.slice A2 m2 c2,.slice Ax kx cx,.slice Ad kd cd,.slice Ar kr cr],.int .i64 0]∧iC p c S∧cH H' (.agg #[.bool f,.slice A1 m1 c1,.slice A2 m2 c2]) S.value MX∧aR (ck MX) 3 H' (.slice Ax kx cx) S.x∧aR (ck MX) 3 H' (.slice Ad kd cd) S.m9∧aR (ck MX) 3 H' (.slice Ar kr cr) S.kV
theorem ahf{N:Nat}{H:Heap}{v cv:Value}{p:Prg}{c:List Rat}(h:Bi N H v cv p c)(bg:p.Ok)(hlen:c.length=p.free.length):Fn Tryz.prog 12 #[v,cv] H (ahe p c H):=
 (ahd h).mono fun v' H' ⟨hl,s,e,h1,h2⟩=>by
  rcases h2 with h2 | h2 | ⟨_,_,rfl,S,⟨f,A1,m1,c1,A2,m2,c2,Ax,kx,cx,Ad,kd,cd,Ar,kr,cr,rfl,h3⟩,h4⟩
  ·exact absurd bg h2.1
  ·exact absurd hlen h2.2.1
  ·exact⟨hl,S,f,A1,m1,c1,A2,m2,c2,Ax,kx,cx,Ad,kd,cd,Ar,kr,cr,h1,h4,h3⟩
theorem eV.KR{N:Nat}{H:Heap}{r:List Rat×Int×Rat}{v0:Value}{f:Bool}{u w:Value}(h:eV N H [v0,.int .i64 r.2.1,.bool f,u,w] r):aR (ck N) 3 H v0 r.1:=by
 obtain⟨c,f',u',w',h1,h2,_⟩:=h
 simp only[List.cons.injEq]at h1
 rw[h1.1];exact h2
theorem eV.size{N:Nat}{H:Heap}{r:List Rat×Int×Rat}{vs:List Value}(h:eV N H vs r):∀q,q∈r.1→aG q≤N+2:=fun q hq=>by
 obtain⟨c,f',u',w',_,⟨A,cc,xs,_,_,_,h4⟩,_⟩:=h
 obtain⟨k,hk⟩:=List.getElem?_of_mem hq
 exact cH.size (h4.at_ k q hk)
theorem yD{M:Nat}(n:Nat)(a b:Nat→Rat)(ha:∀j,j<n→aG (a j)≤M)(hb:∀j,j<n→aG (b j)≤M):aG (cj n a b)≤n*(2*M+2)+1:=by
 unfold cj
 induction n with
 | zero=>rw[Cw,Nat.zero_mul];exact(show aG (0:Rat)≤1 by decide)
 | succ n ih=>
  rw[fG,Nat.succ_mul]
  have h1:=NC (aX n (fun j=>a j*b j)) (a n*b n)
  have h2:=pc (a n) (b n)
  have h3:=ih (fun j hj=>ha j (by omega)) (fun j hj=>hb j (by omega))
  have h4:=ha n (by omega)
  have h5:=hb n (by omega)
  omega
theorem aR.rat{N:Nat}{H:Heap}{v:Value}{l:List Rat}(h:aR (ck N) 3 H v l):∃A c xs,v = .slice A l.length c∧Rd H A xs∧∀(i:Nat)(q:Rat),l[i]? = some q→∃f A1 m1 c1 A2 m2 c2,cH H (.agg #[.bool f,.slice A1 m1 c1,.slice A2 m2 c2]) q N∧∀(j:Nat)(u:Value),[.bool f,.slice A1 m1 c1,.slice A2 m2 c2][j]? = some u→xs[i*3+j]? = some u:=by
 obtain⟨A,c,xs,h1,_,h3,h4⟩:=h
 refine⟨A,c,xs,h1,h3,fun i q hq=> ?_⟩
 obtain⟨vs,_,h5,h6⟩:=h4.get hq
 obtain⟨f,u,w,l1,l2,k1,k2,k3,_⟩:=id h5
 obtain⟨A1,c1,rfl,_⟩:=k2
 obtain⟨A2,c2,rfl,_⟩:=k3
 obtain rfl:=uh k1
 exact⟨f,_,_,_,_,_,_,h5,h6⟩
def pI(p:Prg)(y:List Rat)(i j:Nat):Rat:=aX i (fun k=>fn y k*p.lp.a k j)
def yE(p:Prg)(y:List Rat)(i:Nat):Rat:=aX i (fun k=>fn y k*p.lp.b k)
theorem XZ(p:Prg)(y:List Rat)(i j:Nat):pI p y (i+1) j=pI p y i j+fn y i*p.lp.a i j:=rfl
theorem X0(p:Prg)(y:List Rat)(i:Nat):yE p y (i+1)=yE p y i+fn y i*p.lp.b i:=rfl
theorem Prg.X1{p:Prg}{M:Nat}(h:∀(i:Nat)(r:List Rat×Int×Rat),p.rows[i]? = some r→∀q,q∈r.1→aG q≤M)(h1:1≤M)(k j:Nat)(hk:k<p.rows.length):aG (p.lp.a k j)≤M:=by
 show aG (fn (p.row k).1 j)≤M
 rw[Prg.m8 (List.getElem?_eq_getElem hk)]
 by_cases hj:j<(p.rows[k]).1.length
 ·exact h k _ (List.getElem?_eq_getElem hk) _ (qw hj)
 ·rw[UT (by omega)];exact Nat.le_trans (show aG (0:Rat)≤1 by decide) h1
theorem Fn.yes{P:Program}{f:FuncId}{args:Array Value}{H:Heap}{Q:Prop}(h:Fn P f args H (fun v H'=>Heap.le H H'∧∃b,v = .bool b∧(b=true↔Q)))(hq:Q):Fn P f args H (fun v H'=>Heap.le H H'∧v = .bool true):=
 h.mono fun v H' ⟨h1,b,h2,h3⟩=>⟨h1,by rw[h2,h3.2 hq]⟩
theorem Fn.no{P:Program}{f:FuncId}{args:Array Value}{H:Heap}{Q:Prop}(h:Fn P f args H (fun v H'=>Heap.le H H'∧∃b,v = .bool b∧(b=true↔Q)))(hq:¬Q):Fn P f args H (fun v H'=>Heap.le H H'∧v = .bool false):=
 h.mono fun v H' ⟨h1,b,h2,h3⟩=>⟨h1,by
  cases b with
  | false=>exact h2
  | true=>exact absurd (h3.1 rfl) hq⟩
structure RC where
 f:Bool
 A1:Option Addr
 m1:Nat
 c1:Nat
 A2:Option Addr
 m2:Nat
 c2:Nat
abbrev RC.v(t:RC):Value:= .agg #[.bool t.f,.slice t.A1 t.m1 t.c1,.slice t.A2 t.m2 t.c2]
theorem bK.rc{H:Heap}{v:Value}{q:Rat}(h:bK H v q):∃t:RC,v=t.v:=by
 obtain⟨u,w,rfl,hu,hw⟩:=h
 obtain⟨A1,c1,rfl,_⟩:=id hu
 obtain⟨A2,c2,rfl,_⟩:=id hw
 exact⟨⟨_,A1,_,c1,A2,_,c2⟩,rfl⟩
def KS(H:Heap)(q:Rat)(v:Value)(H':Heap):Prop:=Heap.le H H'∧∃t:RC,v=t.v∧bK H' t.v q
theorem KS.le{H H':Heap}{q:Rat}{v:Value}(h:KS H q v H'):Heap.le H H':=h.1
theorem Fn.rc{P:Program}{f:FuncId}{args:Array Value}{H:Heap}{q:Rat}(h:Fn P f args H (kp H q)):Fn P f args H (KS H q):=h.mono fun v H' ⟨h1,h2⟩=>by
 obtain⟨t,rfl⟩:=h2.rc
 exact⟨h1,t,rfl,h2⟩
end Go.ar
namespace Go.ar
open Go.Proofs Num Lp
structure ia{α:Type}(P:Heap→List Value→α→Prop)(e sz:Nat)(Hb H:Heap)(v:Value)(l:List α)(xs:List Value):Prop where
 own:bP H v e sz l.length xs
 yF:bC (P (rem H (aE v))) sz xs l
 base:Heap.le Hb (rem H (aE v))
section
variable {α:Type} {P:Heap→List Value→α→Prop} {e sz:Nat} {Hb H H':Heap} {v v':Value} {l:List α} {xs:List Value}
theorem ia.le(h:ia P e sz Hb H v l xs):Heap.le Hb H:=h.base.trans (bG _ _)
theorem ia.sl(h:ia P e sz Hb H v l xs)(up:Up P):aR P sz H v l:=Jh.sl ⟨xs,h.own,h.yF.mono fun vs a=>up _ _ vs a (bG _ _)⟩
theorem Qk:aE (.slice none 0 0) = []:=rfl
theorem ahg(H:Heap):ia P e sz H H (.slice none 0 0) [] []:=⟨lQ H e sz,sI,by rw[Qk,vD];exact .refl _⟩
theorem KT{g c:Nat}{zs:List Value}{z k:Int}(hg:H g=none)(hz:z.toNat=0)(hk:k.toNat=c)(hc:c≤maxLen):ia P e sz H (ins H g ⟨du zs (z.toNat*sz),k.toNat*sz,e,true⟩) (.slice (some ⟨g,0,none⟩) z.toNat k.toNat) [] []:=by
 rw[hk]
 refine⟨IT hz hc,sI,?_⟩
 show Heap.le H (rem _ [g])
 rw[vE _ hg,vD];exact .refl _
theorem ia.yG(h:ia P e sz Hb H v l xs):∀q,q∈aE v→H q≠none:=fun q hq=>by
 obtain⟨en,he⟩:=h.own.block (dg.1 hq)
 rw[he];simp
theorem ia.step(h:ia P e sz Hb H v l xs)(up:Up P)(hs:∀q,q∈aE v→H' q=H q)(hl:Heap.le (rem H (aE v)) (rem H' (aE v))):ia P e sz Hb H' v l xs:=
 ⟨h.own.same fun q hq=>hs q (dg.2 hq),h.yF.mono fun vs a=>up _ _ vs a hl,h.base.trans hl⟩
theorem ia.wh(h:ia P e sz Hb H v l xs)(up:Up P){bx:Value→Heap→Prop}{u:Value}(hf:xO (aE v) bx H u H')(hl:∀v' K,bx v' K→Heap.le (rem H (aE v)) K):ia P e sz Hb H' v l xs:=h.step up hf.same (hl _ _ hf.post)
theorem ia.ins(h:ia P e sz Hb H v l xs)(up:Up P){g:Nat}(en:Ent)(hg:H g=none):ia P e sz Hb (ins H g en) v l xs:=by
 have hn:¬g∈aE v:=fun hm=>h.yG g hm hg
 refine h.step up (fun q hq=>a7 _ _ fun e=>hn (e▸hq)) ?_
 rw[xN _ hn]
 exact Heap.bI _ (by rw[bL hn];exact hg)
theorem ia.call(h:ia P e sz Hb H v l xs){Q:Program}{f:FuncId}{args:Array Value}{bx:Value→Heap→Prop}(hc:Fn Q f args (rem H (aE v)) bx):Fn Q f args H (xO (aE v) bx H):=Fn.frame h.yG hc
theorem ia.append(h:ia P e sz Hb H v l xs)(up:Up P){m:Nat}{ys:List Value}{k:List α}(hm:m=l.length+k.length)(ha:App H v e sz m (xs++ys) v' H')(hy:bC (P (rem H (aE v))) sz ys k):ia P e sz Hb H' v' (l++k) (xs++ys):=by
 have hl:Heap.le (rem H (aE v)) (rem H' (aE v')):=fun q en hq=>by
  by_cases hm:q∈aE v
  ·rw[rem_in hm]at hq;cases hq
  ·rw[bL hm]at hq
   have h1:=ha.same q en hq fun e=>hm (dg.2 e)
   have h2:¬q∈aE v':=fun h2=>by
    have h3:=dg.1 h2
    rcases ha.at_ with h4 | ⟨g,h4,h5⟩
    ·exact hm (dg.2 (h4▸h3))
    ·rw[h4]at h3;cases h3;rw[h5]at hq;cases hq
   exact⟨en,by rw[bL h2];exact h1,.refl _⟩
 refine⟨by rw[List.length_append,←hm];exact ha.own,?_,h.base.trans hl⟩
 exact(h.yF.mono fun vs a=>up _ _ vs a hl).append (hy.mono fun vs a=>up _ _ vs a hl)
theorem ia.form(h:ia P e sz Hb H v l xs):∃A c,v = .slice A l.length c:=h.own.form
end
theorem ahh(A0:Option Addr)(k0 c0:Nat)(z:Int)(f:Bool)(A A':Option Addr)(k c k' c':Nat):∀u,u∈[Value.slice A0 k0 c0,.int .i64 z,.bool f,.slice A k c,.slice A' k' c']→u.oneCell'=true:=fun u hu=>by
 simp only[List.mem_cons,List.not_mem_nil,or_false]at hu
 rcases hu with rfl | rfl | rfl | rfl | rfl <;> rfl
theorem KU{α β:Type}{f:α→β}{l:List α}{k:Nat}{z:α}(h:l[k]? = some z):(l.take (k+1)).map f=(l.take k).map f ++ [f z]:=by
 rw[List.take_add_one,h,List.map_append];rfl
theorem ahi{α:Type}(f:Nat→α)(j:Nat):(List.range (j+1)).map f=(List.range j).map f ++ [f j]:=by rw[List.range_succ,List.map_append];rfl
end Go.ar
namespace Go.ar
open Go.Proofs Num Lp Go.RowKit
def jG(w:World):Heap:=fun g=>match w.heap[g]? with | some (.cells c t _)=>some ⟨c.toList,c.size,t,false⟩ | _=>none
theorem ahj{w:World}{g:Nat}{c:Array Value}{t:TypeId}{fz:Nat×Nat}(h:w.heap[g]? = some (.cells c t fz)):jG w g=some ⟨c.toList,c.size,t,false⟩:=by simp[jG,h]
theorem X2{w:World}{g:Nat}{e:Ent}(h:jG w g=some e):∃c t fz,w.heap[g]? = some (.cells c t fz)∧e=⟨c.toList,c.size,t,false⟩:=by
 unfold jG at h
 split at h
 ·rename_i c t fz hc
  exact⟨c,t,fz,hc,by simpa using h.symm⟩
 ·cases h
theorem ahk(w:World):Den (jG w) w:=fun g e h=>by
 obtain⟨c,t,fz,h1,rfl⟩:=X2 h
 exact⟨_,h1,c,fz,rfl,rfl,(fun i v hv=>by simpa using hv),fun h=>by cases h⟩
theorem ahl{w:World}{a:Addr}{v:Value}(h:w.cell? a=some v):cell (jG w) a=some v:=by
 unfold World.cell? at h
 unfold cell
 cases hg:w.heap[a.block]? with
 | none=>rw[hg]at h;simp at h
 | some o=>
  cases o with
  | cells c t fz=>
   rw[ahj hg]
   rw[hg]at h
   simpa using h
  | _=>rw[hg]at h;simp at h
theorem ahm{w w':World}{H':Heap}(hle:Heap.le (jG w) H')(hd:Den H' w')(hf:Fx (jG w) w H' w'):Below w.heap.size w w':=by
 refine⟨hf.os,hf.tape,hf.output,hf.size,fun k hk=> ?_⟩
 cases hg:jG w k with
 | none=>exact(hf.keep k hk hg).1
 | some e=>
  obtain⟨c,t,fz,h1,rfl⟩:=X2 hg
  obtain⟨e',h2,h3⟩:=hle k _ hg
  obtain⟨o,h4,c1,fz1,rfl,h5,h6,_⟩:=hd k e' h2
  obtain⟨c2,h7,h8⟩:=hf.form k c t fz h1
  rw[h4]at h7
  simp only[Option.some.injEq,Obj.cells.injEq]at h7
  obtain⟨rfl,h9,rfl⟩:=h7
  rw[h4,h1,h9]
  have:c1=c:=by
   apply Array.ext_getElem?
   intro i
   by_cases hi:i<c.size
   ·have jw:e'.xs[i]? = some c[i]:=Me h3.2.2.2 (by simp[hi])
    rw[h6 i _ jw];simp[hi]
   ·rw[Array.getElem?_eq_none (by omega),Array.getElem?_eq_none (by omega)]
  rw[this]
theorem Fn.law{P:Program}{f:FuncId}{args:Array Value}{w:World}(h:Fn P f args (jG w) (fun v H'=>Heap.le (jG w) H'∧v = .bool true)):Calls P f args w fun e w'=>e = .returned (.bool true)∧Below w.heap.size w w':=
 (h.run w (ahk w)).mono fun _ _ ⟨v,he,H',⟨h1,h2⟩,h3,h4⟩=>⟨by rw[he,h2],ahm h1 h3 h4⟩
section
variable {Hy:Type} {enc:TypeId×Value→Hy} {P:Program} {w:World} {spare:Nat→Bool} {held:Bool}
theorem ahn{α:Type}{Q:List Value→α→Prop}{sz:Nat}{xs cs:List Value}{l:List α}{b:α}(h:bC Q sz xs l)(hb:Q cs b)(hl:cs.length=sz):bC Q sz (xs++cs) (l ++ [b]):=h.append (pb hb hl)
theorem aho{H:Heap}{a:Addr}{xs cs:List Value}(h:Rd H (some a) xs)(k:∀i v,cs[i]? = some v→cell H (a.add (xs.length+i))=some v):Rd H (some a) (xs++cs):=fun i v hv=>by
 by_cases hi:i<xs.length
 ·rw[List.getElem?_append_left hi]at hv;exact h i v hv
 ·rw[List.getElem?_append_right (by omega)]at hv
  have:=k _ _ hv
  rw[show xs.length+(i-xs.length)=i by omega]at this
  exact⟨a,rfl,this⟩
theorem KV{α:Type}{Q:Heap→List Value→α→Prop}{t e sz:Nat}(ht:P.underlying t=some (.slice e))(hc:P.cellsOf e=sz)(hp:0<sz)(hq:∀n cs x,cs.length=sz→DataW.trod enc P w 0 spare held n e cs=some x→∃a,Q (jG w) cs a)
  {n:Nat} {cs:List Value} {x:DataW Hy×List MemPlace} (h:DataW.trod enc P w 0 spare held n t cs=some x):∃v l,cs = [v]∧aR Q sz (jG w) v (l:List α)∧l.length≤maxLen:=by
 rcases Deep.open_slice ht h with ⟨rfl,_⟩ | ⟨a,len,cap,m,n',D,Pl,rfl,_,hl,hm,hmm,_,hx⟩
 ·exact⟨_,[],rfl,GN,Nat.zero_le _⟩
 ·have PK:len≤m:=by rw[hmm];split <;> omega
  rw[hc]at hx
  have key:∀k,k≤len→∃xs l,l.length=k∧bC (Q (jG w)) sz xs (l:List α)∧Rd (jG w) (some a) xs:=by
   intro k
   induction k with
   | zero=>exact fun _=>⟨[],[],rfl,sI,Rd.nil _ _⟩
   | succ k ih=>
    intro hk
    obtain⟨xs,l,h1,h2,h3⟩:=ih (by omega)
    obtain⟨cA,h4,h5⟩:=hx k (by omega)
    obtain⟨_,h6,h7⟩:=World.cells?_some h4
    obtain⟨b,hb⟩:=hq _ _ _ h6 h5
    refine⟨xs++cA,l ++ [b],by simp[h1],ahn h2 hb h6,aho h3 fun i v hv=> ?_⟩
    have hi:=(List.getElem?_eq_some_iff.1 hv).1
    have h8:=h7 i (by omega)
    rw[hv,add_add]at h8
    rw[h2.len,h1];exact ahl h8
  obtain⟨xs,l,h1,h2,h3⟩:=key len (Nat.le_refl _)
  refine⟨_,l,rfl,⟨some a,cap,xs,by rw[h1],by omega,h3,h2⟩,by omega⟩
theorem wf_u32{z:Int}(h:(Lit.int .u32 z).wf=true):0≤z∧z<4294967296:=by
 simp[Lit.wf,IntKind.min,IntKind.max,IntKind.signed,IntKind.bits]at h;omega
theorem X3{t e:Nat}(ht:P.underlying t=some (.slice e))(he:P.underlying e=some (.int .u32))(hc:P.cellsOf e=1){n:Nat}{cs:List Value}{x:DataW Hy×List MemPlace}(h:DataW.trod enc P w 0 spare held n t cs=some x):
  ∃v l,cs = [v]∧jh (jG w) v l∧(∀y,y∈l→y<4294967296)∧l.length≤maxLen:=by
 obtain⟨v,l,rfl,⟨A,c,xs,rfl,h2,h3,h4⟩,h5⟩:=KV (α:=Nat) (Q:=fun _ vs a=>vs = [.int .u32 (Int.ofNat a)]∧a<4294967296) ht hc (by decide) (fun n cs x hl h=>by
  obtain⟨z,rfl,_,hz⟩:=DataW.trod_int he h
  obtain⟨h1,h2⟩:=wf_u32 hz
  exact⟨z.toNat,by rw[show Int.ofNat z.toNat=z from Int.toNat_of_nonneg h1],by omega⟩) h
 refine⟨_,l,rfl,⟨A,c,rfl,h2,?_⟩,fun y hy=> ?_,h5⟩
 ·have:xs=U l:=by
   apply List.ext_getElem?
   intro i
   by_cases hi:i<l.length
   ·obtain⟨u,h6,h7⟩:=h4.one (List.getElem?_eq_getElem hi)
    rw[h6,dd (List.getElem?_eq_getElem hi)]
    have:=h7.1
    simpa using this
   ·rw[List.getElem?_eq_none (by rw[h4.len];omega),List.getElem?_eq_none (by rw[zv];omega)]
  rw[←this];exact h3
 ·obtain⟨i,hi⟩:=List.getElem?_of_mem hy
  exact(h4.at_ i y hi).2
theorem ahp{t f0 f1 lu:Nat}{F0 F1 F2:Field}(ht:P.underlying t=some (.struct #[F0,F1,F2]))(e0:F0.type=f0∧F0.offset=0)(e1:F1.type=f1∧F1.offset=1)(e2:F2.type=f1∧F2.offset=2)(hb:P.underlying f0=some .bool)(hl:P.underlying f1=some (.slice lu))(hu:P.underlying lu=some (.int .u32))(hc:P.cellsOf lu=1)(c0:P.cellsOf f0=1)(c1:P.cellsOf f1=1)
  {n:Nat} {cs:List Value} {x:DataW Hy×List MemPlace} (h:DataW.trod enc P w 0 spare held n t cs=some x) (je:cs.length=3):∃q,ck maxLen (jG w) cs q:=by
 match cs,je with
 | [a,b,c],_=>
  obtain⟨y0,y1,y2,m,_,_,h0,h1,h2⟩:=Deep.trod_struct3 ht h
  rw[e0.1,e0.2,c0]at h0
  rw[e1.1,e1.2,c1]at h1
  rw[e2.1,e2.2,c1]at h2
  obtain⟨f,k0,_⟩:=DataW.trod_bool hb h0
  obtain⟨u,l1,k1,k2,k3,k4⟩:=X3 hl hu hc h1
  obtain⟨v,l2,k5,k6,k7,k8⟩:=X3 hl hu hc h2
  simp at k0 k1 k5
  subst k0 k1 k5
  exact⟨_,_,_,_,l1,l2,rfl,k2,k6,k3,k7,k4,k8,rfl⟩
end
section
variable {Hy:Type} {enc:TypeId×Value→Hy} {w:World} {spare:Nat→Bool} {held:Bool}
theorem X4:Tryz.prog.cellsOf 31=3:=by kernel_rfl
theorem X5{n:Nat}{cs:List Value}{x:DataW Hy×List MemPlace}(h:DataW.trod enc Tryz.prog w 0 spare held n 31 cs=some x)(je:cs.length=3):∃q,ck maxLen (jG w) cs q:=
 ahp Tryz.underlying31 ⟨rfl,rfl⟩ ⟨rfl,rfl⟩ ⟨rfl,rfl⟩ Tryz.underlying4 Tryz.underlying29 Tryz.underlying121 (by kernel_rfl) (by kernel_rfl) (by kernel_rfl) h je
theorem X6{n:Nat}{cs:List Value}{x:DataW Hy×List MemPlace}(h:DataW.trod enc Tryz.prog w 0 spare held n 26 cs=some x):∃v l,cs = [v]∧aR (ck maxLen) 3 (jG w) v l:=
 let ⟨v,l,h1,h2,_⟩:=KV (Q:=ck maxLen) Tryz.underlying26 X4 (by decide) (fun _ _ _ hl h=>X5 h hl) h
 ⟨v,l,h1,h2⟩
theorem ahq{n:Nat}{cs:List Value}{x:DataW Hy×List MemPlace}(h:DataW.trod enc Tryz.prog w 0 spare held n 78 cs=some x)(je:cs.length=5):∃r,eV maxLen (jG w) cs r:=by
 match cs,je with
 | [a,b,c,d,e],_=>
  obtain⟨y0,y1,y2,m,_,_,h0,h1,h2⟩:=Deep.trod_struct3 Tryz.underlying78 h
  have c0:Tryz.prog.cellsOf 26=1:=by kernel_rfl
  have c1:Tryz.prog.cellsOf 3=1:=by kernel_rfl
  obtain⟨v,l,k0,k1⟩:=X6 h0
  obtain⟨z,k2,_⟩:=DataW.trod_int Tryz.underlying3 h1
  simp only[c0,c1,X4]at k0 k2 h2
  simp at k0 k2
  subst k0 k2
  obtain⟨q,hq⟩:=X5 h2 (by simp)
  have oV:cH (jG w) (.agg #[c,d,e]) q maxLen:=hq
  obtain⟨f,u,w',l1,l2,e1,hr⟩:=id oV
  have e2:=uh (vs:=[c,d,e]) e1
  simp only[List.cons.injEq,and_true]at e2
  obtain⟨rfl,rfl,rfl⟩:=e2
  exact⟨(l,z,q),_,_,_,_,rfl,k1,oV⟩
set_option maxRecDepth 100000 in
theorem ahr{v:Value}{d:DataW Hy}{ps:List MemPlace}{b0:Nat}{rr:Reach}(hv:Value.okWide Tryz.prog w rr b0 25 v)(h:DataW.Trod enc Tryz.prog w 0 spare held 25 v d ps):∃p,eJ maxLen (jG w) v p:=by
 obtain⟨cs,rfl,cO⟩:=WideShapes.okWide_struct Tryz.underlying25 hv
 have hC:Tryz.prog.cellsOf 25=2:=by kernel_rfl
 obtain⟨cs,rfl⟩:∃l:List Value,cs=l.toArray:=⟨cs.toList,by simp⟩
 match cs,(show cs.length=2 by rw[hC]at cO;simpa using cO)with
 | [a,b],_=>
  obtain⟨fuel,hf⟩:=h
  obtain⟨y0,y1,m,_,_,h0,h1⟩:=ChangeShapes.trod_struct2 Tryz.underlying25 hf
  have c0:Tryz.prog.cellsOf 22=1:=by kernel_rfl
  have c1:Tryz.prog.cellsOf 23=1:=by kernel_rfl
  have c2:Tryz.prog.cellsOf 4=1:=by kernel_rfl
  have c3:Tryz.prog.cellsOf 78=5:=by kernel_rfl
  obtain⟨fv,fl,k0,k1,_⟩:=KV (α:=Bool) (Q:=FW) Tryz.underlying22 c2 (by decide) (fun n cs x hl h=>by
   obtain⟨b,rfl,_⟩:=DataW.trod_bool Tryz.underlying4 h
   exact⟨b,rfl⟩) h0
  obtain⟨rv,rl,k2,k3,_⟩:=KV (Q:=eV maxLen) Tryz.underlying23 c3 (by decide) (fun n cs x hl h=>ahq h hl) h1
  simp only[c0,c1]at k0 k2
  simp[Value.cells]at k0 k2
  subst k0 k2
  exact⟨⟨fl,rl⟩,_,_,rfl,k1,k3⟩
set_option maxRecDepth 100000 in
theorem ahs{v:Value}{d:DataW Hy}{ps:List MemPlace}{b0:Nat}{rr:Reach}(hv:Value.okWide Tryz.prog w rr b0 26 v)(h:DataW.Trod enc Tryz.prog w 0 spare held 26 v d ps):∃l,aR (ck maxLen) 3 (jG w) v l:=by
 obtain⟨a,len,cap,rfl⟩:=WideShapes.okWide_slice Tryz.underlying26 hv
 obtain⟨fuel,hf⟩:=h
 obtain⟨v',l,k0,k1⟩:=X6 hf
 simp[Value.cells]at k0
 subst k0
 exact⟨l,k1⟩
end
end Go.ar
namespace Go.ar
def KW(ms:List Nat)(o:Oper):Nat:=o.after.toList.foldl (fun m e=>cond (Region.binds .any e) (m ||| (1 <<< e.on) ||| ms.getD e.on 0) m) 0
def KX(md:Mode)(l:List Oper)(ms:List Nat):List Nat→Bool
 | []=>true
 | i::r=>r.all (fun j=>Nat.testBit (ms.getD j 0) i||Sw md l.toArray (eR l i) (eR l j))&&KX md l ms r
def X7(n:Nat)(md:Mode)(l:List Oper)(perm ms:List Nat):Bool:=
 !md.Su&&DV n l&&Nat.beq perm.length l.length&&perm.all (fun i=>Nat.blt i l.length)&&DW perm&&KX md l ms perm&&(List.range l.length).all (fun i=>perm.contains i) &&
 ((List.range l.length).all fun i=>(eR l i).after.all fun e=> !Region.binds .any e||Nat.blt e.on i)&&(List.range l.length).all fun j=>Nat.beq (ms.getD j 0) (KW ms (eR l j))
theorem X8{ms:List Nat}{i:Nat}:∀(es:List Edge)(m:Nat),(es.foldl (fun m e=>cond (Region.binds .any e) (m ||| (1 <<< e.on) ||| ms.getD e.on 0) m) m).testBit i=true→m.testBit i=true∨∃e,e∈es∧Region.binds .any e=true∧(e.on=i∨(ms.getD e.on 0).testBit i=true)
 | [],m,h=> .inl h
 | e::es,m,h=>by
  rcases X8 es _ h with h1 | ⟨e',h1,h2⟩
  ·cases hb:Region.binds .any e with
   | false=>dsimp only at h1;rw[hb]at h1;exact .inl h1
   | true=>
    dsimp only at h1
    rw[hb]at h1
    simp only[cond_true,Nat.testBit_or,Bool.or_eq_true]at h1
    rcases h1 with (h1 | h1) | h1
    ·exact .inl h1
    ·refine .inr ⟨e,List.mem_cons_self ..,hb,.inl ?_⟩
     rw[Nat.one_shiftLeft,Nat.testBit_two_pow]at h1
     simpa using h1
    ·exact .inr ⟨e,List.mem_cons_self ..,hb,.inr h1⟩
  ·exact .inr ⟨e',List.mem_cons_of_mem _ h1,h2⟩
theorem X9{l:List Oper}:∀(f i j:Nat),oU l f i j=true→oU l (f+1) i j=true
 | 0,_,_,h=>by cases h
 | f+1,i,j,h=>by
  unfold oU at h⊢
  rw[Array.any_eq_true]at h⊢
  obtain⟨k,hk,h⟩:=h
  refine⟨k,hk,?_⟩
  simp only[Bool.and_eq_true,Bool.or_eq_true]at h⊢
  exact⟨h.1,h.2.imp id fun h=>X9 f i _ h⟩
theorem Ya{l:List Oper}{f g i j:Nat}(h:oU l f i j=true)(hg:f≤g):oU l g i j=true:=by
 obtain⟨k,rfl⟩:=Nat.le.dest hg
 clear hg
 induction k with
 | zero=>exact h
 | succ k ih=>exact X9 _ _ _ ih
theorem aht{l:List Oper}{ms:List Nat}(hb:∀i,i<l.length→∀e,e∈(eR l i).after→Region.binds .any e=true→e.on<i)(hm:∀j,j<l.length→ms.getD j 0=KW ms (eR l j))(i:Nat):∀(k j:Nat),j<k→j<l.length→(ms.getD j 0).testBit i=true→oU l (j+1) i j=true:=by
 intro k
 induction k with
 | zero=>intro j h;omega
 | succ k ih=>
  intro j hk hj h
  rw[hm j hj]at h
  rcases X8 _ _ h with h1 | ⟨e,h1,h2,h3⟩
  ·simp at h1
  ·have Ed:e∈(eR l j).after:=Array.mem_toList_iff.1 h1
   have bU:=hb j hj e Ed h2
   unfold oU
   rw[Array.any_eq_true]
   obtain⟨q,hq,e1⟩:=Array.mem_iff_getElem.1 Ed
   refine⟨q,hq,?_⟩
   rw[e1]
   simp only[Bool.and_eq_true,Bool.or_eq_true]
   refine⟨h2,?_⟩
   rcases h3 with h3 | h3
   ·exact .inl (by rw[h3];exact Nat.beq_refl i)
   ·exact .inr (Ya (ih e.on (by omega) (by omega) h3) (by omega))
theorem Yb{md:Mode}{l:List Oper}{ms:List Nat}(hb:∀i,i<l.length→∀e,e∈(eR l i).after→Region.binds .any e=true→e.on<i)(hm:∀j,j<l.length→ms.getD j 0=KW ms (eR l j)):∀r:List Nat,(∀i,i∈r→i<l.length)→KX md l ms r=true→zi md l r=true
 | [],_,_=>rfl
 | i::r,hr,h=>by
  unfold KX at h
  unfold zi
  simp only[Bool.and_eq_true,List.all_eq_true,Bool.or_eq_true]at h⊢
  refine⟨fun j hj=> ?_,Yb hb hm r (fun k hk=>hr k (List.mem_cons_of_mem _ hk)) h.2⟩
  have hl:=hr j (List.mem_cons_of_mem _ hj)
  exact(h.1 j hj).imp (fun h9=>Ya (aht hb hm i _ j (Nat.lt_succ_self j) hl h9) (by omega)) id
theorem ib{n:Nat}{md:Mode}{l:List Oper}{perm:List Nat}(ms:List Nat)(h:X7 n md l perm ms=true):BW n md l perm=true:=by
 unfold X7 at h
 simp only[Bool.and_eq_true]at h
 obtain⟨⟨⟨⟨⟨⟨⟨⟨h1,h2⟩,h3⟩,h4⟩,h5⟩,h6⟩,h7⟩,h8⟩,h9⟩:=h
 have hb:∀i,i<l.length→∀e,e∈(eR l i).after→Region.binds .any e=true→e.on<i:=fun i hi e he rN=>by
  have k1:=List.all_eq_true.1 h8 i (List.mem_range.2 hi)
  obtain⟨q,hq,e1⟩:=Array.mem_iff_getElem.1 he
  have k2:=Array.all_eq_true.1 k1 q hq
  rw[e1,rN]at k2
  simp only[Bool.not_true,Bool.false_or]at k2
  exact DU k2
 have hm:∀j,j<l.length→ms.getD j 0=KW ms (eR l j):=fun j hj=>Nat.eq_of_beq_eq_true (List.all_eq_true.1 h9 j (List.mem_range.2 hj))
 have hp:zi md l perm=true:=Yb hb hm perm (fun i hi=>DU (List.all_eq_true.1 h4 i hi)) h6
 unfold BW
 simp only[Bool.and_eq_true]
 exact⟨⟨⟨⟨⟨⟨⟨h1,h2⟩,h3⟩,h4⟩,h5⟩,hp⟩,h7⟩,h8⟩
end Go.ar
namespace Go.ar
open Go.Proofs Num Lp
def fh(vs:List Value)(q:Rat):Prop:=∃n d:Int,vs = [.int .i64 n,.int .i64 d]∧-1073741824≤n∧n≤1073741824∧1≤d∧d≤1073741824∧q=(n:Rat)/(d:Rat)
theorem Dr:fh [.int .i64 0,.int .i64 1] 0:=⟨0,1,rfl,by decide,by decide,by decide,by decide,by grind⟩
theorem wi{a b:Int}(h1: -1073741824≤a)(h2:a≤1073741824)(h3: -1073741824≤b)(h4:b≤1073741824): -1152921504606846976≤a*b∧a*b≤1152921504606846976:=by
 have h5:(a*b).natAbs≤1073741824*1073741824:=by rw[Int.natAbs_mul];exact Nat.mul_le_mul (by omega) (by omega)
 omega
theorem ahu{n d a:Int}(ha:a≠0)(h1:a∣n)(h2:a∣d):((n.tdiv a:Int):Rat)/((d/a:Int):Rat)=(n:Rat)/(d:Rat):=by
 obtain⟨k,rfl⟩:=h1
 obtain⟨j,rfl⟩:=h2
 rw[Int.mul_tdiv_cancel_left _ ha,Int.mul_ediv_cancel_left _ ha]
 have h3:(a:Rat)≠0:=by exact_mod_cast ha
 by_cases hj:j=0
 ·subst hj;rw[Int.mul_zero];simp[Rat.div_def]
 ·have h4:(j:Rat)≠0:=by exact_mod_cast hj
  rw[Rat.intCast_mul,Rat.intCast_mul]
  rw[Rat.div_def,Rat.div_def,Rat.inv_mul_rev]
  grind
def Qm(gs:List Nat)(g:Nat)(rv bv:Value)(o:Bool)(H:Heap)(q:Rat)(v:Value)(H':Heap):Prop:=
 fE gs g H H'∧∃(vs:List Value)(o':Bool)(q':Rat),v = .agg vs.toArray∧fh vs q'∧H' g=some ⟨[rv,bv,.bool o'],3,160,true⟩∧(o'=false→o=false∧q'=q)
theorem Qn{H:Heap}{gs:List Nat}{g:Nat}{rv bv:Value}{o:Bool}(hg:g∈gs)(ht:H g=some ⟨[rv,bv,.bool o],3,160,true⟩){n d:Int}(h1: -4611686018427387904≤n)(h2:n≤4611686018427387904)(h3:1≤d)(h4:d≤4611686018427387904):
 Fn Tryz.prog 189 #[.pointer (some ⟨g,0,none⟩),.int .i64 n,.int .i64 d] H (Qm gs g rv bv o H ((n:Rat)/(d:Rat))):=by
 refine aZ (args:=[_,_,_]) Tryz.func189 rfl rfl Tryz.ntmps189 rfl rfl fun w0=> ?_;refine ag [0,1,2] rfl ?_;refine ab ?_;refine bt fB rfl ?_;refine aa [0,1,2,6] ?_;refine ab ?_;refine vr 4 ?_;refine aa [0,1,2,6,7,8] ?_;refine B9 (put (put (put (put (put (put (emp) 0 (.val (.pointer (some ⟨g,0,none⟩)))) 1 (.val (.int .i64 n))) 2 (.val (.int .i64 d))) 6 (.box [.int .i64 0,.int .i64 0])) 7 (.val (.int .i64 (n.natAbs:Int)))) 8 (.val (.int .i64 d))) (fun H'=>H'=H) ?_ ?_
 ·
  refine ab ?_;refine vr 2 ?_;refine aa [0,1,2,6,7,8,12] ?_;refine aB rfl (fun hb=> ?_) (fun hb=> ?_)
  ·
   have hb:n<0:=by simpa using hb
   refine av rfl ?_;refine vr 1 ?_;refine sx rfl ⟨by omega,by omega⟩ ?_;refine vr 1 ?_;refine aq ?_;exact⟨an,rfl⟩
  ·
   have hb:0≤n:=by simpa using hb
   refine au ?_;exact⟨an,rfl⟩
 ·
  rintro H0 e0;rw[e0];clear e0 H0;refine al ?_;refine aC ?_;refine gy (fun(a:Nat)(b:Nat)=>b) (fun(a:Nat)(b:Nat)=>put (put (put (put (put (put (emp) 0 (.val (.pointer (some ⟨g,0,none⟩)))) 1 (.val (.int .i64 n))) 2 (.val (.int .i64 d))) 6 (.box [.int .i64 0,.int .i64 0])) 7 (.val (.int .i64 (a:Int)))) 8 (.val (.int .i64 (b:Int)))) (fun(a:Nat)(b:Nat) H'=>H'=H∧Nat.gcd a b=Nat.gcd n.natAbs d.natAbs∧a≤9223372036854775807∧b≤9223372036854775807) n.natAbs d.natAbs (⟨rfl,rfl,by omega,by omega⟩) an ?_;rintro a b H2 ⟨e2,lC,ha,kU⟩;refine al ?_;refine ab ?_;refine vr 2 ?_;refine aa [0,1,2,6,7,8,16] ?_;refine aB rfl (fun hb=> ?_) (fun hb=> ?_)
  ·
   have hb:0<b:=by simp at hb;omega
   refine au ?_;refine ag [0,1,2,6,7,8] rfl ?_;refine aC ?_;refine dZ .bF [0,1,2,3,4,5] follows (by kernel_rfl) ?_;refine vr 3 ?_;refine mj rfl rfl (by omega) (by omega) ?_;refine vr 2 ?_;refine aq ?_;exact⟨b,a%b,Nat.mod_lt a hb,an,e2,by rw[←lC,Nat.gcd_comm b,←Nat.gcd_rec,Nat.gcd_comm],kU,by have:=Nat.mod_lt a hb;omega⟩
  ·
   have hb:b=0:=by simp at hb;omega
   subst hb;rw[Nat.gcd_zero_right]at lC
   have ha0:0<a:=by rw[lC];exact Nat.gcd_pos_of_pos_right _ (by omega)
   have MI:(a:Int)∣n:=Int.ofNat_dvd_left.2 (by rw[lC];exact Nat.gcd_dvd_left _ _);have Yc:(a:Int)∣d:=Int.ofNat_dvd_left.2 (by rw[lC];exact Nat.gcd_dvd_right _ _)
   have FG: -4611686018427387904≤n.tdiv a∧n.tdiv a≤4611686018427387904:=by
    have:(n.tdiv a).natAbs≤n.natAbs:=by rw[Int.natAbs_tdiv];exact Nat.div_le_self _ _
    omega
   have hd9:d/(a:Int)≤d:=Int.ediv_le_self _ (by omega)
   have hd8:1≤d/(a:Int):=by
    obtain⟨k,hk⟩:=Yc;rw[hk,Int.mul_ediv_cancel_left _ (by omega)]
    rcases Int.lt_or_le k 1 with h | h
    ·
     have:(a:Int)*k≤0:=Int.mul_nonpos_of_nonneg_of_nonpos (by omega) (by omega)
     omega
    ·exact h
   have ahv:=ahu (show (a:Int)≠0 by omega) MI Yc;rw[e2];clear e2 lC kU;refine aU ?_;refine ag [0,1,2,6,7] rfl ?_;refine zt (fun(x:Int)(y:Int)=>put (put (put (put (emp) 0 (.val (.pointer (some ⟨g,0,none⟩)))) 1 (.val (.int .i64 x))) 2 (.val (.int .i64 y))) 6 (.box [.int .i64 0,.int .i64 0])) (fun(x:Int)(y:Int) H'=>H'=H∧1≤y∧(-4611686018427387904≤x∧x≤4611686018427387904∧y≤4611686018427387904)∧(x:Rat)/(y:Rat)=(n:Rat)/(d:Rat)) ?_ ?_
   ·
    refine ab ?_;refine vr 2 ?_;refine aa [0,1,2,6,7,22] ?_;refine aB rfl (fun hb=> ?_) (fun hb=> ?_)
    ·
     skip
     refine dZ .bF [0,1,2,3,4,5,6,7] follows (by kernel_rfl) ?_;refine vr 2 ?_;refine S0 rfl rfl (by omega) ⟨by omega,by omega⟩ ?_;refine vr 2 ?_;refine lq rfl rfl (by omega) (by omega) ⟨by omega,by omega⟩ ?_;refine vr 2 ?_;refine aq ?_;exact⟨_,_,an,rfl,hd8,⟨FG.1,FG.2,by omega⟩,ahv⟩
    ·
     skip
     refine au ?_;exact⟨_,_,an,rfl,h3,⟨h1,h2,h4⟩,rfl⟩
   ·
    rintro x y H3 ⟨rfl,sE,⟨eD,eE,J3⟩,p5⟩;refine al ?_
    by_cases g1:1073741824<x
    ·
     skip
     refine ab ?_;refine vr 1 ?_;refine aA true rfl rfl (kS (by omega)) ?_;refine vr 8 ?_;refine aa [0,1,2,6,38] ?_;refine cD rfl ?_;refine ab ?_;refine vr 2 ?_;refine aS ae rfl rfl rfl ?_;obtain⟨ti,aj,ak⟩:=IG;refine ly (g:=g) (o:=2) (.inl rfl) rfl ht rfl (by show 2+1≤3;omega) aj ak rfl rfl rfl rfl ?_;refine aa [6] ?_;refine ab ?_;refine dS ae rfl fB rfl rfl ?_;obtain⟨ti,aj,ak⟩:=dT;refine aJ (.inl ⟨rfl,rfl⟩) rfl rfl rfl aj ak rfl rfl rfl ?_;refine aa [6] ?_;obtain⟨bX,aK,aL⟩:=dT;refine az ⟨.inr rfl,_,.agg rfl Tryz.underlying163 aK aL (.nil),?_⟩;exact⟨(Kept.refl _ _).il g |>.ins hg _,_,true,0,rfl,Dr,by rw[bo];rfl,fun h=>by cases h⟩
    ·
     skip
     by_cases g2:x < -1073741824
     ·
      skip
      refine ab ?_;refine vr 1 ?_;refine aA false rfl rfl (gA (by omega)) ?_;refine vr 2 ?_;refine aA true rfl rfl (iz (by omega)) ?_;refine vr 5 ?_;refine aa [0,1,2,6,38] ?_;refine cD rfl ?_;refine ab ?_;refine vr 2 ?_;refine aS ae rfl rfl rfl ?_;obtain⟨ti,aj,ak⟩:=IG;refine ly (g:=g) (o:=2) (.inl rfl) rfl ht rfl (by show 2+1≤3;omega) aj ak rfl rfl rfl rfl ?_;refine aa [6] ?_;refine ab ?_;refine dS ae rfl fB rfl rfl ?_;obtain⟨ti,aj,ak⟩:=dT;refine aJ (.inl ⟨rfl,rfl⟩) rfl rfl rfl aj ak rfl rfl rfl ?_;refine aa [6] ?_;obtain⟨bX,aK,aL⟩:=dT;refine az ⟨.inr rfl,_,.agg rfl Tryz.underlying163 aK aL (.nil),?_⟩;exact⟨(Kept.refl _ _).il g |>.ins hg _,_,true,0,rfl,Dr,by rw[bo];rfl,fun h=>by cases h⟩
     ·
      skip
      by_cases g3:1073741824<y
      ·
       skip
       refine ab ?_;refine vr 1 ?_;refine aA false rfl rfl (gA (by omega)) ?_;refine vr 2 ?_;refine aA false rfl rfl (fQ (by omega)) ?_;refine vr 3 ?_;refine aA true rfl rfl (kS (by omega)) ?_;refine vr 1 ?_;refine aa [0,1,2,6,38] ?_;refine cD rfl ?_;refine ab ?_;refine vr 2 ?_;refine aS ae rfl rfl rfl ?_;obtain⟨ti,aj,ak⟩:=IG;refine ly (g:=g) (o:=2) (.inl rfl) rfl ht rfl (by show 2+1≤3;omega) aj ak rfl rfl rfl rfl ?_;refine aa [6] ?_;refine ab ?_;refine dS ae rfl fB rfl rfl ?_;obtain⟨ti,aj,ak⟩:=dT;refine aJ (.inl ⟨rfl,rfl⟩) rfl rfl rfl aj ak rfl rfl rfl ?_;refine aa [6] ?_;obtain⟨bX,aK,aL⟩:=dT;refine az ⟨.inr rfl,_,.agg rfl Tryz.underlying163 aK aL (.nil),?_⟩;exact⟨(Kept.refl _ _).il g |>.ins hg _,_,true,0,rfl,Dr,by rw[bo];rfl,fun h=>by cases h⟩
      ·
       skip
       refine ab ?_;refine vr 1 ?_;refine aA false rfl rfl (gA (by omega)) ?_;refine vr 2 ?_;refine aA false rfl rfl (fQ (by omega)) ?_;refine vr 3 ?_;refine aA false rfl rfl (gA (by omega)) ?_;refine vr 1 ?_;refine aa [0,1,2,6,38] ?_;refine cU rfl ?_;refine au ?_;refine ag [1,2,6] rfl ?_;refine ab ?_;refine vr 2 ?_;refine dS ae rfl fB rfl rfl ?_;obtain⟨ti,aj,ak⟩:=dT;refine aJ (.inl ⟨rfl,rfl⟩) rfl rfl rfl aj ak rfl rfl rfl ?_;refine aa [6] ?_;obtain⟨bX,aK,aL⟩:=dT;refine az ⟨.inr rfl,_,.agg rfl Tryz.underlying163 aK aL (.nil),?_⟩;exact⟨(Kept.refl _ _).il g,_,o,_,rfl,⟨x,y,rfl,by omega,by omega,by omega,by omega,rfl⟩,ht,fun h=>⟨h,p5⟩⟩
theorem Yd{n d a b:Int}:((n*a:Int):Rat)/((d*b:Int):Rat)=(n:Rat)/(d:Rat)*((a:Rat)/(b:Rat)):=by
 rw[Rat.intCast_mul,Rat.intCast_mul,Rat.div_def,Rat.div_def,Rat.div_def,Rat.inv_mul_rev];grind
theorem Ye{n d a b:Int}(h1:1≤d)(h2:1≤b):((n*b-a*d:Int):Rat)/((d*b:Int):Rat)=(n:Rat)/(d:Rat)-(a:Rat)/(b:Rat):=by
 have h3:(d:Rat)≠0:=by exact_mod_cast (show d≠0 by omega)
 have h4:(b:Rat)≠0:=by exact_mod_cast (show b≠0 by omega)
 rw[Rat.intCast_sub,Rat.intCast_mul,Rat.intCast_mul,Rat.intCast_mul,Rat.div_def,Rat.div_def,Rat.div_def,Rat.inv_mul_rev]
 grind
theorem KY{a b:Int}(h1:1≤a)(h2:1≤b):1≤a*b:=by
 have:=Int.mul_le_mul h1 h2 (by omega) (by omega)
 omega
theorem Qo{H:Heap}{gs:List Nat}{g:Nat}{rv bv:Value}{o:Bool}(hg:g∈gs)(ht:H g=some ⟨[rv,bv,.bool o],3,160,true⟩){xs ys:List Value}{p q:Rat}(hx:fh xs p)(hy:fh ys q):
 Fn Tryz.prog 191 #[.pointer (some ⟨g,0,none⟩),.agg xs.toArray,.agg ys.toArray] H (Qm gs g rv bv o H (p*q)):=by
 obtain⟨n,d,rfl,h1,h2,h3,h4,rfl⟩:=hx
 obtain⟨a,b,rfl,g1,g2,g3,g4,rfl⟩:=hy
 have m1:=wi (a:=d) (b:=b) (by omega) h4 (by omega) g4
 have m2:=KY h3 g3
 have m3:=wi h1 h2 g1 g2;refine aZ (args:=[_,_,_]) Tryz.func191 rfl rfl Tryz.ntmps191 rfl rfl fun w0=> ?_;refine ag [0,1,2] rfl ?_;refine ab ?_;refine bS rfl rfl ?_;refine bS rfl rfl ?_;refine bt fB rfl ?_;refine aa [0,4,5,6] ?_;refine ab ?_;refine vr 5 ?_;refine gq rfl rfl ⟨by omega,by omega⟩ ?_;refine vr 4 ?_;refine gq rfl rfl ⟨by omega,by omega⟩ ?_;refine aw rfl rfl (Qn hg ht (n:=n*a) (d:=d*b) (by omega) (by omega) (by omega) (by omega)) ?_;rintro v1 H1 ⟨k1,vs,o',q',rfl,j1,j2,j3⟩;obtain⟨x,y,rfl,i1⟩:=id j1;obtain⟨ti,aj,ak⟩:=dT;refine aJ (.inl ⟨rfl,rfl⟩) rfl rfl rfl aj ak rfl rfl rfl ?_;refine aa [6] ?_;obtain⟨bX,aK,aL⟩:=dT;refine az ⟨.inr rfl,_,.agg rfl Tryz.underlying163 aK aL (.nil),?_⟩;exact⟨k1,_,o',q',rfl,j1,j2,fun h=>⟨(j3 h).1,(j3 h).2.trans Yd⟩⟩
theorem Qr{H:Heap}{gs:List Nat}{g:Nat}{rv bv:Value}{o:Bool}(hg:g∈gs)(ht:H g=some ⟨[rv,bv,.bool o],3,160,true⟩){xs ys:List Value}{p q:Rat}(hx:fh xs p)(hy:fh ys q):
 Fn Tryz.prog 137 #[.pointer (some ⟨g,0,none⟩),.agg xs.toArray,.agg ys.toArray] H (Qm gs g rv bv o H (p-q)):=by
 obtain⟨n,d,rfl,h1,h2,h3,h4,rfl⟩:=hx
 obtain⟨a,b,rfl,g1,g2,g3,g4,rfl⟩:=hy
 have m1:=wi (a:=d) (b:=b) (by omega) h4 (by omega) g4
 have m2:=KY h3 g3
 have m3:=wi h1 h2 (show -1073741824≤b by omega) g4
 have m4:=wi g1 g2 (show -1073741824≤d by omega) h4;refine aZ (args:=[_,_,_]) Tryz.func137 rfl rfl Tryz.ntmps137 rfl rfl fun w0=> ?_;refine ag [0,1,2] rfl ?_;refine ab ?_;refine bS rfl rfl ?_;refine bS rfl rfl ?_;refine bt fB rfl ?_;refine aa [0,4,5,6] ?_;refine ab ?_;refine vr 5 ?_;refine gq rfl rfl ⟨by omega,by omega⟩ ?_;refine vr 4 ?_;refine gq rfl rfl ⟨by omega,by omega⟩ ?_;refine cP rfl rfl ⟨by omega,by omega⟩ ?_;refine vr 4 ?_;refine gq rfl rfl ⟨by omega,by omega⟩ ?_;refine aw rfl rfl (Qn hg ht (n:=n*b-a*d) (d:=d*b) (by omega) (by omega) (by omega) (by omega)) ?_;rintro v1 H1 ⟨k1,vs,o',q',rfl,j1,j2,j3⟩;obtain⟨x,y,rfl,i1⟩:=id j1;obtain⟨ti,aj,ak⟩:=dT;refine aJ (.inl ⟨rfl,rfl⟩) rfl rfl rfl aj ak rfl rfl rfl ?_;refine aa [6] ?_;obtain⟨bX,aK,aL⟩:=dT;refine az ⟨.inr rfl,_,.agg rfl Tryz.underlying163 aK aL (.nil),?_⟩;exact⟨k1,_,o',q',rfl,j1,j2,fun h=>⟨(j3 h).1,(j3 h).2.trans (Ye h3 g3)⟩⟩
theorem Yf{x:Nat}(h:(ah x).length=1):ah x = [x]∧x<1000000000∧0<x:=by
 have h1:x<B^1:=iQ.1 (by omega)
 have h2:0<x:=Nat.pos_of_ne_zero fun e=>by subst e;rw[pY]at h;cases h
 have h3:x<B:=by simpa using h1
 refine⟨?_,by rw[show B=1000000000 from rfl]at h3;exact h3,h2⟩
 rw[xe h2,Nat.mod_eq_of_lt h3,Nat.div_eq_of_lt h3,pY]
theorem Yg{H:Heap}{v:Value}{q:Rat}{N:Nat}(hv:cH H v q N)(hN:(N:Int)≤4398046511000):
 Fn Tryz.prog 136 #[v] H (fun v' H'=>Heap.le H H'∧∃(n d:Int)(b:Bool),v' = .tuple #[.agg #[.int .i64 n,.int .i64 d],.bool b]∧(b=true→fh [.int .i64 n,.int .i64 d] q)):=by
 obtain⟨bf,bu,bw,nX,nY,rfl,ij,cS,jl,AI,V4,CZ,hb7⟩:=id hv;refine aZ (args:=[_]) Tryz.func136 rfl rfl Tryz.ntmps136 rfl rfl fun w0=> ?_;refine ag [0] rfl ?_;refine ab ?_;refine bS rfl rfl ?_;refine bt fB rfl ?_;refine vr 1 ?_;refine aa [1,2] ?_;refine ab ?_;refine vr 1 ?_;refine aw rfl rfl (sX hv hN) ?_;rintro _ H1 ⟨bH,bW⟩
 unfold bK at bW
 obtain⟨u,w,rfl,hu,hw⟩:=id bW;obtain⟨A,c,rfl,hc,hr⟩:=id hu;obtain⟨A2,c2,rfl,lS,lx⟩:=id hw;refine bt cR rfl ?_;obtain⟨ti,aj,ak⟩:=a8;refine aJ (.inl ⟨rfl,rfl⟩) rfl rfl rfl aj ak rfl rfl rfl ?_;refine aa [2,4] ?_;refine al ?_
 by_cases g1:1<(ah q.num.natAbs).length
 ·
  skip
  refine ab ?_;refine vr 3 ?_;refine aA true rfl rfl (kS (by omega)) ?_;refine vr 6 ?_;refine aa [2,4,17] ?_;refine cD rfl ?_;refine ab ?_;refine dS ae rfl fB rfl rfl ?_;obtain⟨ti,aj,ak⟩:=dT;refine aJ (.inl ⟨rfl,rfl⟩) rfl rfl rfl aj ak rfl rfl rfl ?_;refine vr 1 ?_;refine aa [2,3] ?_;obtain⟨bX,aK,aL⟩:=dT;refine az ⟨.inr rfl,_,.agg rfl Tryz.underlying163 aK aL (.tmp rfl (.nil)),?_⟩;exact⟨bH,0,0,false,rfl,fun h=>by cases h⟩
 ·
  skip
  by_cases g2:¬(ah q.den).length=1
  ·
   skip
   refine ab ?_;refine vr 3 ?_;refine aA false rfl rfl (gA (by omega)) ?_;refine vr 4 ?_;refine aA true rfl rfl (my (by omega)) ?_;refine vr 1 ?_;refine aa [2,4,17] ?_;refine cD rfl ?_;refine ab ?_;refine dS ae rfl fB rfl rfl ?_;obtain⟨ti,aj,ak⟩:=dT;refine aJ (.inl ⟨rfl,rfl⟩) rfl rfl rfl aj ak rfl rfl rfl ?_;refine vr 1 ?_;refine aa [2,3] ?_;obtain⟨bX,aK,aL⟩:=dT;refine az ⟨.inr rfl,_,.agg rfl Tryz.underlying163 aK aL (.tmp rfl (.nil)),?_⟩;exact⟨bH,0,0,false,rfl,fun h=>by cases h⟩
  ·
   have g2:(ah q.den).length=1:=by omega
   obtain⟨fj,kH,Ua⟩:=Yf g2;have zb:(U (ah q.den))[0]? = some (.int .u32 (q.den:Int)):=dd (by rw[fj];rfl)
   have ET:q.num.natAbs<1000000000:=by
    have:=iQ.1 (show (ah q.num.natAbs).length≤1 by omega)
    rwa [Nat.pow_one,bY]at this
   refine ab ?_;refine vr 3 ?_;refine aA false rfl rfl (gA (by omega)) ?_;refine vr 4 ?_;refine aA false rfl rfl (mV (by omega)) ?_;refine vr 1 ?_;refine aa [2,4,17] ?_;refine cU rfl ?_;refine au ?_;refine ag [2,4] rfl ?_;refine ab ?_;refine vr 2 ?_;refine aM ae rfl rfl rfl rfl rfl (lx) (zb) (by omega) (by omega) fun _=> ?_;refine cW ae rfl rfl rfl ⟨by omega,by omega⟩ ?_;refine dS ae rfl fB rfl rfl ?_;refine bt fB rfl ?_;obtain⟨ti,aj,ak⟩:=dT;refine aJ (.inl ⟨rfl,rfl⟩) rfl rfl rfl aj ak rfl rfl rfl ?_;refine aa [2,4,5] ?_;refine B9 (put (put (put (emp) 2 (.box [.int .i64 0,.int .i64 0])) 4 (.box [.bool (decide (q.num<0)),.slice A (ah q.num.natAbs).length c,.slice A2 (ah q.den).length c2])) 5 (.box [.int .i64 (q.num.natAbs:Int),.int .i64 (q.den:Int)])) (fun H'=>H'=H1) ?_ ?_
   ·
    refine ab ?_;refine vr 4 ?_;refine aa [2,4,5,28] ?_;refine aB rfl (fun hb=> ?_) (fun hb=> ?_)
    ·
     have hb:(ah q.num.natAbs).length=1:=by simp at hb;omega
     obtain⟨cK,gB,iR⟩:=Yf hb;have hnx:(U (ah q.num.natAbs))[0]? = some (.int .u32 (q.num.natAbs:Int)):=dd (by rw[cK];rfl);refine av rfl ?_;refine vr 2 ?_;refine aM ae rfl rfl rfl rfl rfl (hr) (hnx) (by omega) (by omega) fun _=> ?_;refine cW ae rfl rfl rfl ⟨by omega,by omega⟩ ?_;refine vr 1 ?_;obtain⟨ti,aj,ak⟩:=nO;refine aJ (.inr rfl) rfl rfl rfl aj ak rfl rfl rfl ?_;refine aq ?_;exact⟨an,rfl⟩
    ·
     have hb:¬(ah q.num.natAbs).length=1:=by simp at hb;omega
     have hz:q.num.natAbs=0:=jM.1 (by omega);rw[hz];refine au ?_;exact⟨an,rfl⟩
   ·
    rintro H0 e0;rw[e0];clear e0 H0;refine B9 (put (put (emp) 2 (.box [.int .i64 0,.int .i64 0])) 5 (.box [.int .i64 q.num,.int .i64 (q.den:Int)])) (fun H'=>H'=H1) ?_ ?_
    ·
     refine ab ?_;refine vr 2 ?_;refine aa [2,5,36] ?_;refine aB rfl (fun hb=> ?_) (fun hb=> ?_)
     ·
      have hb:q.num<0:=by simpa using hb
      have e9: -((q.num.natAbs:Nat):Int)=q.num:=by omega
      refine av rfl ?_;refine vr 2 ?_;refine sx rfl ⟨by omega,by omega⟩ ?_;rw[e9];refine vr 1 ?_;obtain⟨ti,aj,ak⟩:=nO;refine aJ (.inr rfl) rfl rfl rfl aj ak rfl rfl rfl ?_;refine aq ?_;exact⟨an,rfl⟩
     ·
      have hb:0≤q.num:=by simpa using hb
      rw[show ((q.num.natAbs:Nat):Int)=q.num by omega];refine au ?_;exact⟨an,rfl⟩
    ·
     rintro H0 e0;rw[e0];clear e0 H0
     by_cases k1:q.num≤1073741824
     ·
      skip
      by_cases k2: -1073741824≤q.num
      ·
       skip
       by_cases k3:(q.den:Int)≤1073741824
       ·
        skip
        refine bJ (.pM [2]) [0,1,2,3,4,5,6,7,8,9,10,11,12,13,14,15] follows (ib [0,0,2,6,14,30,62,126,254,510,1022,2046,4094,8190,1023,32767] (by kernel_rfl)) ?_;refine vr 3 ?_;refine aA true rfl rfl (oX (by omega)) ?_;refine vr 3 ?_;refine aA true rfl rfl (qT (by omega)) ?_;refine vr 4 ?_;refine aA true rfl rfl (oX (by omega)) ?_;refine vr 1 ?_;obtain⟨ti,aj,ak⟩:=dT;refine aJ (.inl ⟨rfl,rfl⟩) rfl rfl rfl aj ak rfl rfl rfl ?_;refine vr 1 ?_;refine aa [2,3] ?_;obtain⟨bX,aK,aL⟩:=dT;refine az ⟨.inr rfl,_,.agg rfl Tryz.underlying163 aK aL (.tmp rfl (.nil)),?_⟩;exact⟨bH,_,_,true,rfl,fun _=>⟨_,_,rfl,k2,k1,by omega,k3,(sK q).symm⟩⟩
       ·
        skip
        refine bJ (.pM [2]) [0,1,2,3,4,5,6,7,8,9,10,11,12,13,14,15] follows (ib [0,0,2,6,14,30,62,126,254,510,1022,2046,4094,8190,1023,32767] (by kernel_rfl)) ?_;refine vr 3 ?_;refine aA true rfl rfl (oX (by omega)) ?_;refine vr 3 ?_;refine aA true rfl rfl (qT (by omega)) ?_;refine vr 4 ?_;refine aA false rfl rfl (xh (by omega)) ?_;refine vr 1 ?_;obtain⟨ti,aj,ak⟩:=dT;refine aJ (.inl ⟨rfl,rfl⟩) rfl rfl rfl aj ak rfl rfl rfl ?_;refine vr 1 ?_;refine aa [2,3] ?_;obtain⟨bX,aK,aL⟩:=dT;refine az ⟨.inr rfl,_,.agg rfl Tryz.underlying163 aK aL (.tmp rfl (.nil)),?_⟩;exact⟨bH,_,_,false,rfl,fun h=>by cases h⟩
      ·
       skip
       refine bJ (.pM [2]) [0,1,2,3,4,5,6,7,8,9,10,11,12,13,14,15] follows (ib [0,0,2,6,14,30,62,126,254,510,1022,2046,4094,8190,1023,32767] (by kernel_rfl)) ?_;refine vr 3 ?_;refine aA true rfl rfl (oX (by omega)) ?_;refine vr 3 ?_;refine aA false rfl rfl (zu (by omega)) ?_;refine vr 6 ?_;obtain⟨ti,aj,ak⟩:=dT;refine aJ (.inl ⟨rfl,rfl⟩) rfl rfl rfl aj ak rfl rfl rfl ?_;refine vr 1 ?_;refine aa [2,3] ?_;obtain⟨bX,aK,aL⟩:=dT;refine az ⟨.inr rfl,_,.agg rfl Tryz.underlying163 aK aL (.tmp rfl (.nil)),?_⟩;exact⟨bH,_,_,false,rfl,fun h=>by cases h⟩
     ·
      skip
      refine bJ (.pM [2]) [0,1,2,3,4,5,6,7,8,9,10,11,12,13,14,15] follows (ib [0,0,2,6,14,30,62,126,254,510,1022,2046,4094,8190,1023,32767] (by kernel_rfl)) ?_;refine vr 3 ?_;refine aA false rfl rfl (xh (by omega)) ?_;refine vr 10 ?_;obtain⟨ti,aj,ak⟩:=dT;refine aJ (.inl ⟨rfl,rfl⟩) rfl rfl rfl aj ak rfl rfl rfl ?_;refine vr 1 ?_;refine aa [2,3] ?_;obtain⟨bX,aK,aL⟩:=dT;refine az ⟨.inr rfl,_,.agg rfl Tryz.underlying163 aK aL (.tmp rfl (.nil)),?_⟩;exact⟨bH,_,_,false,rfl,fun h=>by cases h⟩
end Go.ar
namespace Go.ar
open Go.Proofs Num Lp
theorem GW{H:Heap}{a b:List Nat}(h:∀q,q∈a→q∈b):Heap.le (rem H b) (rem H a):=fun q en hq=>by
 by_cases hm:q∈b
 ·rw[rem_in hm]at hq;cases hq
 ·rw[bL hm]at hq
  exact⟨en,by rw[bL (fun h'=>hm (h q h'))];exact hq,.refl _⟩
end Go.ar
namespace Go.ar
open Go.Proofs Num Lp
end Go.ar
