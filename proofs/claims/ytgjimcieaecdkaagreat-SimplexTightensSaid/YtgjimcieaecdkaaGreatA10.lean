/- Part 10 of the proof: Smp1, Mz3, Min, Keep1, Eng14, Keep2, Gen, Grw, Br1. -/
import Derived.Test.YtgjimcieaecdkaaGreatA09
import Derived.Deep.Slices
import Derived.Deep.Strs
import Derived.Carry
import Derived.Below
set_option linter.unusedVariables false
namespace Go.au
open Go.Proofs Num Lp
theorem Ij{H:Heap}{v:Value}{p:Prg}{N:Nat}(hp:dN N H v p):
 Fn Tryz.prog 22 #[v] H (fun v H'=>H'=H∧∃b,v = .bool b∧(b=true↔p.Ok)):=by
 obtain⟨fv,j8,rfl,eu,ew⟩:=hp
 obtain⟨Af,cf,xf,rfl,iR,iS⟩:=eu.one
 obtain⟨Ar,cr,xr,rfl,fy,eW⟩:=ew.row;refine aU (args:=[_]) Tryz.func22 rfl rfl Tryz.ntmps22 rfl rfl fun w0=> ?_;refine ah [0] rfl ?_;refine ae (bR rfl rfl (aa 1 rfl (ab [1] ?_)));refine ao ?_
 by_cases h1:400<(p.free.length:Int)
 ·
  skip
  refine ae (aa 3 rfl (ax true rfl rfl (jU h1) (aa 6 rfl (ab [1,14] ?_))));refine cI rfl (ae (aa 1 rfl (ab [2] ?_)));refine ar ⟨.inr rfl,_,.tmp rfl (.nil),?_⟩;exact⟨rfl,false,rfl,⟨(fun h=>by cases h),(fun h=>by have h8:=h.eZ;have h9:=h.rows;omega)⟩⟩
 ·
  skip
  by_cases h2:800<(p.rows.length:Int)
  ·
   skip
   refine ae (aa 3 rfl (ax false rfl rfl (gD (by omega)) (aa 4 rfl (ax true rfl rfl (jU h2) (aa 1 rfl (ab [1,14] ?_))))));refine cI rfl (ae (aa 1 rfl (ab [2] ?_)));refine ar ⟨.inr rfl,_,.tmp rfl (.nil),?_⟩;exact⟨rfl,false,rfl,⟨(fun h=>by cases h),(fun h=>by have h8:=h.eZ;have h9:=h.rows;omega)⟩⟩
  skip
  refine ae (aa 3 rfl (ax false rfl rfl (gD (by omega)) (aa 4 rfl (ax false rfl rfl (gD (by omega)) (aa 1 rfl (ab [1,14] ?_))))));refine cP rfl (aw (ah [1] rfl ?_));refine ao (ae (aa 4 rfl (ab [1,16,17,18] ?_)));refine aD (gm (fun(i:Nat)=>p.rows.length-i) (fun(i:Nat)=>put (put (put (put (emp) 1 (.box [.slice Af p.free.length cf,.slice Ar p.rows.length cr])) 16 (.val (.slice Ar p.rows.length cr))) 17 (.val (.int .i64 (p.rows.length:Int)))) 18 (.val (.int .i64 (i:Int)))) (fun(i:Nat) H'=>H'=H∧(∀(k:Nat)(r:List Rat×Int×Rat),k<i→p.rows[k]? = some r→F9 p.free.length r)∧i≤p.rows.length) 0 (⟨rfl,(fun k r h=>by omega),Nat.zero_le _⟩) av ?_);rintro i H1 ⟨e1,ec,hi⟩;rw[e1];refine ae (aa 1 rfl (ab [1,16,17,18,19] ?_));refine ao (az rfl (fun hb=> ?_) (fun hb=> ?_))
  ·
   have dS:i<p.rows.length:=by simpa using hb
   obtain⟨r,hr⟩:∃r,p.rows[i]? = some r:=⟨_,List.getElem?_eq_getElem dS⟩;obtain⟨A0,c0,f,A1,m1,c1,A2,m2,c2,eH,gS⟩:=eW i r hr;refine aw (ah [1,16,17,18] rfl ?_);refine ao (aD (ae (cQ (vs:=[.slice A0 r.1.length c0,.int .i64 r.2.1,.bool f,.slice A1 m1 c1,.slice A2 m2 c2]) ag rfl rfl rfl rfl fy rfl (by decide) gS (by omega) (by omega) fun _=>(bG ko rfl ?_))));obtain⟨ti,aj,ak⟩:=q7;refine aO (.inl ⟨rfl,rfl⟩) rfl rfl rfl aj ak rfl rfl rfl (ab [1,4,16,17,18] ?_);refine ao (ae (aa 7 rfl (ab [1,4,16,17,18,28] ?_)));refine az rfl (fun hb=> ?_) (fun hb=> ?_)
   ·
    have cD:¬r.1.length=p.free.length:=by simpa [Int.natCast_inj]using hb
    refine ae (aa 1 rfl (ab [2] ?_));refine ar ⟨.inr rfl,_,.tmp rfl (.nil),?_⟩;exact⟨rfl,false,rfl,⟨(fun h=>by cases h),fun h=>absurd (h.row i r hr).1 cD⟩⟩
   have cD:r.1.length=p.free.length:=by simpa [Int.natCast_inj]using hb
   refine aw (ah [1,4,16,17,18] rfl ?_)
   by_cases h1:r.2.1=1
   ·
    skip
    refine ae (aa 2 rfl (ax false rfl rfl (la h1) (aa 10 rfl (ab [1,16,17,18,41] ?_))));refine cP rfl (aw (ah [1,16,17,18] rfl ?_));refine aB rfl (aJ rfl rfl ⟨by omega,by omega⟩ (aa 1 rfl (ay ?_)));exact⟨i+1,by omega,av,rfl,(fun k r9 hk iT=>by by_cases h9:k<i;exact ec k r9 h9 iT;(obtain rfl:k=i:=by omega);rw[hr]at iT;cases iT;exact⟨cD,.inl h1⟩),by omega⟩
   skip
   by_cases h2:r.2.1=2
   ·
    skip
    refine ae (aa 2 rfl (ax true rfl rfl (kq h1) (aa 3 rfl (ax false rfl rfl (la h2) (aa 6 rfl (ab [1,16,17,18,41] ?_))))));refine cP rfl (aw (ah [1,16,17,18] rfl ?_));refine aB rfl (aJ rfl rfl ⟨by omega,by omega⟩ (aa 1 rfl (ay ?_)));exact⟨i+1,by omega,av,rfl,(fun k r9 hk iT=>by by_cases h9:k<i;exact ec k r9 h9 iT;(obtain rfl:k=i:=by omega);rw[hr]at iT;cases iT;exact⟨cD,.inr (.inl h2)⟩),by omega⟩
   skip
   by_cases h3:r.2.1=3
   ·
    skip
    refine ae (aa 2 rfl (ax true rfl rfl (kq h1) (aa 3 rfl (ax true rfl rfl (kq h2) (aa 4 rfl (ax false rfl rfl (la h3) (aa 1 rfl (ab [1,16,17,18,41] ?_))))))));refine cP rfl (aw (ah [1,16,17,18] rfl ?_));refine aB rfl (aJ rfl rfl ⟨by omega,by omega⟩ (aa 1 rfl (ay ?_)));exact⟨i+1,by omega,av,rfl,(fun k r9 hk iT=>by by_cases h9:k<i;exact ec k r9 h9 iT;(obtain rfl:k=i:=by omega);rw[hr]at iT;cases iT;exact⟨cD,.inr (.inr h3)⟩),by omega⟩
   skip
   refine ae (aa 2 rfl (ax true rfl rfl (kq h1) (aa 3 rfl (ax true rfl rfl (kq h2) (aa 4 rfl (ax true rfl rfl (kq h3) (aa 1 rfl (ab [1,16,17,18,41] ?_))))))));refine cI rfl (ae (aa 1 rfl (ab [2] ?_)));refine ar ⟨.inr rfl,_,.tmp rfl (.nil),?_⟩;exact⟨rfl,false,rfl,⟨(fun h=>by cases h),(fun h=>by have h9:=(h.row i r hr).2;omega)⟩⟩
  have hb:p.rows.length≤i:=by simpa using hb
  refine bA (ah [] rfl ?_);refine ae (aa 1 rfl (ab [2] ?_));refine ar ⟨.inr rfl,_,.tmp rfl (.nil),?_⟩;exact⟨rfl,true,rfl,⟨fun _=>⟨by omega,by omega,fun k r hr=>ec k r (by have h9:=(List.getElem?_eq_some_iff.1 hr).1;omega) hr⟩,fun _=>rfl⟩⟩
end Go.au
namespace Go.au
open Go.Proofs Num Lp
def Ik(H:Heap)(v:Value)(S:mX):Prop:=∃f u w xv dv rv,v = .agg #[.int .i64 S.status,.bool f,u,w,xv,dv,rv]∧(du H (.agg #[.bool f,u,w]) S.value∨(S.value=0∧f=false∧u = .slice none 0 0∧w = .slice none 0 0))∧aM fe 3 H xv S.x∧aM fe 3 H dv S.j0∧aM fe 3 H rv S.ik
def Il(M:Nat)(S:mX):Prop:=∀q,q∈S.x∨q∈S.j0∨q∈S.ik∨q=S.value→aC q≤M
def DV:Value:= .agg #[.int .i64 0,.bool false,.slice none 0 0,.slice none 0 0,.slice none 0 0,.slice none 0 0,.slice none 0 0]
def XK(p:Prg)(c:List Rat)(S:mX):Prop:=S.status=1→∃T,I2 p c T∧S.value = -(T.c p.w)∧S.x=aH (cL.vec p.lay.pF p.lay.mF T.pt) p.lp.n
def AI(p:Prg)(c:List Rat)(M:Nat)(H:Heap)(v:Value)(H':Heap):Prop:=Heap.le H H'∧∃s e,v = .tuple #[s,.int .i64 e]∧
 ((¬p.Ok∧e=1∧s=DV)∨(p.Ok∧c.length≠p.free.length∧e=21∧s=DV)∨(p.Ok∧c.length=p.free.length∧e=0∧∃S,Ik H' s S∧fc p c S∧Il (2*M+2) S∧XK p c S))
theorem AJ{H:Heap}{α:Type}{P:Heap→List Value→α→Prop}{sz:Nat}:aM P sz H (.slice none 0 0) ([]:List α):=⟨none,0,[],rfl,Nat.le_refl _,(fun i v h=>by simp at h),rz⟩
theorem AK{f:Nat→Rat}{n:Nat}{q:Rat}(h:q∈aH f n):∃j,j<n∧q=f j:=by
 unfold aH at h
 obtain⟨j,hj,e⟩:=List.mem_map.1 h
 exact⟨j,List.mem_range.1 hj,e.symm⟩
section
variable {p:Prg} {c:List Rat} {M:Nat} {T:al} {H K:Heap}
theorem Im{N n:Nat}{z:Nat→Rat}(h0:1≤N)(hz:∀j,j<p.w→aC (z j)≤N){j:Nat}(hj:j<p.lp.n):aC (cL.vec p.lay.pF p.lay.mF z j)≤2*N+1:=by
 have h1:=l5 (z (p.lay.pF j)) (eU z (p.lay.mF j))
 have h2:=hz _ (kU.pw j hj)
 have h3:aC (eU z (p.lay.mF j))≤N:=by
  rw[zQ hj]
  by_cases hf:p.lp.free j=true
  ·rw[if_pos hf]
   have:=zN p hj
   unfold jK at this
   rw[if_pos hf]at this
   have:=pC p
   have:=jo p
   exact hz _ (by omega)
  ·rw[if_neg hf];exact Nat.le_trans (show aC (0:Rat)≤1 by decide) h0
 unfold cL.vec;omega
theorem Oj{N:Nat}{f g:Nat→Rat}(hf:∀j,j<p.w→aC (f j)≤N)(hg:∀j,j<p.w→aC (g j)≤N){i:Nat}(hi:i<p.lp.m):aC (p.lay.sF i*(f (p.lay.uF i)-g (p.lay.uF i)))≤2*N+2:=by
 have h1:=nN (p.lay.sF i) (f (p.lay.uF i)-g (p.lay.uF i))
 have h2:=l5 (f (p.lay.uF i)) (g (p.lay.uF i))
 have h3:=kU.s1 i hi
 have h4:=hf _ (kU.uw i hi)
 have h5:=hg _ (kU.uw i hi)
 omega
theorem XL(bx:p.Ok)(dJ:c.length=p.free.length)(hl:Fits p c M)(hle:Heap.le H K)(h:Inv p (pn p) T)(hn:∀j,j<p.u→0≤T.c j)(fO:T.c p.w<0){dv:Value}
  (hd:aM fe 3 K dv (aH (fun i=>p.lay.sF i*(pn p (p.lay.uF i)-T.c (p.lay.uF i))) p.lp.m)):AI p c M H (.tuple #[.agg #[.int .i64 2,.bool false,.slice none 0 0,.slice none 0 0,.slice none 0 0,dv,.slice none 0 0],.int .i64 0]) K:=by
 have hz:=hl.wL _ h
 refine⟨hle,_,_,rfl,.inr (.inr ⟨bx,dJ,rfl,⟨2,0,[],_,[]⟩,⟨_,_,_,_,_,_,rfl,.inr ⟨rfl,rfl,rfl,rfl⟩,AJ,hd,AJ⟩,.inr (.inl ⟨rfl,rfl,rfl,rfl,dJ,WK bx h hn fO⟩),fun q hq=> ?_,fun e=>by cases e⟩)⟩
 rcases hq with hq | hq | hq | hq
 ·cases hq
 ·obtain⟨i,hi,rfl⟩:=AK hq
  exact Oj (fun j _=>hl.pn j) (fun j hj=>hz.c j (by rw[h.rows.n];omega)) hi
 ·cases hq
 ·rw[hq];exact Nat.le_trans (show aC (0:Rat)≤2 by decide) (Nat.le_add_left 2 _)
theorem XM(bx:p.Ok)(dJ:c.length=p.free.length)(hl:Fits p c M)(hle:Heap.le H K)(h:I2 p c T)(hn:∀j,j<p.u→0≤T.c j){f:Bool}{u w xv dv:Value}
  (hv:du K (.agg #[.bool f,u,w]) (-(T.c p.w))) (hx:aM fe 3 K xv (aH (cL.vec p.lay.pF p.lay.mF T.pt) p.lp.n)) (hd:aM fe 3 K dv (aH (fun i=>p.lay.sF i*(iQ p c (p.lay.uF i)-T.c (p.lay.uF i))) p.lp.m)):
  AI p c M H (.tuple #[.agg #[.int .i64 1,.bool f,u,w,xv,dv,.slice none 0 0],.int .i64 0]) K:=by
 have hz:=hl.nI _ h.1
 have h1:=WN bx dJ h hn
 refine⟨hle,_,_,rfl,.inr (.inr ⟨bx,dJ,rfl,⟨1,-(T.c p.w),_,_,[]⟩,⟨_,_,_,_,_,_,rfl,.inl hv,hx,hd,AJ⟩,.inl ⟨rfl,rfl,h1.1,h1.2⟩,fun q hq=> ?_,fun _=>⟨T,h,rfl,rfl⟩⟩)⟩
 have hb:=hl.one
 rcases hq with hq | hq | hq | hq
 ·obtain⟨j,hj,rfl⟩:=AK hq
  exact Nat.le_trans (Im (n:=0) hb (fun j hj=>Hv h.1.wf hz hb (by rw[h.1.rows.n];exact hj)) hj) (by omega)
 ·obtain⟨i,hi,rfl⟩:=AK hq
  exact Oj (fun j _=>hl.iQ j) (fun j hj=>hz.c j (by rw[h.1.rows.n];omega)) hi
 ·cases hq
 ·rw[hq,vT]
  exact Nat.le_trans (hz.c p.w (by rw[h.1.rows.n];exact Nat.le_refl _)) (by omega)
theorem XN(bx:p.Ok)(dJ:c.length=p.free.length)(hl:Fits p c M)(hle:Heap.le H K)(h:I2 p c T){s:Nat}(hs:s<p.u)(fO:T.c s<0)(hA:∀i,i<T.m→T.A i s≤0){xv rv:Value}
  (hx:aM fe 3 K xv (aH (cL.vec p.lay.pF p.lay.mF T.pt) p.lp.n)) (hr:aM fe 3 K rv (aH (cL.vec p.lay.pF p.lay.mF (T.dir s)) p.lp.n)):
  AI p c M H (.tuple #[.agg #[.int .i64 3,.bool false,.slice none 0 0,.slice none 0 0,xv,.slice none 0 0,rv],.int .i64 0]) K:=by
 have hz:=hl.nI _ h.1
 have hb:=hl.one
 have lA:=jo p
 refine⟨hle,_,_,rfl,.inr (.inr ⟨bx,dJ,rfl,⟨3,0,_,[],_⟩,⟨_,_,_,_,_,_,rfl,.inr ⟨rfl,rfl,rfl,rfl⟩,hx,AJ,hr⟩,.inr (.inr ⟨rfl,rfl,rfl,WO bx dJ h hs fO hA⟩),fun q hq=> ?_,fun e=>by cases e⟩)⟩
 rcases hq with hq | hq | hq | hq
 ·obtain⟨j,hj,rfl⟩:=AK hq
  exact Nat.le_trans (Im (n:=0) hb (fun j hj=>Hv h.1.wf hz hb (by rw[h.1.rows.n];exact hj)) hj) (by omega)
 ·cases hq
 ·obtain⟨j,hj,rfl⟩:=AK hq
  exact Nat.le_trans (Im (n:=0) hb (fun j hj=>Ny h.1.wf hz hb (by rw[h.1.rows.n];omega) (Nz h.1.wf fO)) hj) (by omega)
 ·rw[hq];exact Nat.le_trans (show aC (0:Rat)≤2 by decide) (Nat.le_add_left 2 _)
end
end Go.au
namespace Go.au
open Go.Proofs Num Lp
theorem Ol{H:Heap}{v cv:Value}{p:Prg}{c:List Rat}{M N:Nat}(hp:dN N H v p)(hc:aM (ca N) 3 H cv c)(hl:Fits p c M)(XO:(c.length:Int)≤1099511627776)(hN:(N:Int)≤549755813888)(abh:(M:Int)≤34359738368):
 Fn Tryz.prog 7 #[v,cv] H (AI p c M H):=by
 obtain⟨fv,j8,rfl,eu,ew⟩:=id hp
 obtain⟨Af,cf,xf,rfl,iR,iS⟩:=eu.one
 obtain⟨Ar,cr,xr,rfl,fy,eW⟩:=ew.row
 obtain⟨Ac,cc,xc,rfl,HG,o9,zm⟩:=id hc;refine aU (args:=[_,_]) Tryz.func7 rfl rfl Tryz.ntmps7 rfl rfl fun w0=> ?_;refine ah [0,1] rfl ?_;refine ae (bR rfl rfl (bG oK rfl (aa 1 rfl (ab [1,2,4] ?_))));refine ao (ae (aa 1 rfl (aq rfl rfl (Ij hp) ?_)));rintro v1 H1 ⟨e1,b1,rfl,e8⟩;rw[e1];refine aa 1 rfl (ab [1,2,4,13] ?_);refine az rfl (fun hb=> ?_) (fun hb=> ?_)
 ·
  have hb:¬p.Ok:=fun h=>by have h9:=e8.2 h;rw[h9]at hb;simp at hb
  refine ae (eC ag rfl oK rfl rfl ?_);obtain⟨ti,aj,ak⟩:=lQ;refine aO (.inl ⟨rfl,rfl⟩) rfl rfl rfl aj ak rfl rfl rfl (aa 1 rfl (ab [4,5] ?_));obtain⟨bU,aK,aL⟩:=lQ;refine ar ⟨.inr rfl,_,.agg rfl Tryz.underlying35 aK aL (.tmp rfl (.nil)),?_⟩;exact⟨.refl _,_,_,rfl,.inl ⟨hb,rfl,rfl⟩⟩
 ·
  have bx:p.Ok:=e8.1 (by simpa using hb);have eT:=bx.eZ;have qD:=bx.rows;have N7:=Nc p;have e1:p.lp.n=p.free.length:=rfl;have e2:p.lp.m=p.rows.length:=rfl
  have nn:(p.lay.w:Int)≤1000000:=by show ((p.w:Nat):Int)≤_;omega
  have Om:((p.dV.m:Nat):Int)≤1000000:=by show ((p.rows.length:Nat):Int)≤_;omega
  have On:=hl.one;refine aw (ah [1,2,4] rfl ?_);refine ao (ae (aa 6 rfl (ab [1,2,4,20] ?_)));refine az rfl (fun hb=> ?_) (fun hb=> ?_)
  ·
   have hb:c.length≠p.free.length:=by simpa [Int.natCast_inj]using hb
   refine ae (eC ag rfl oK rfl rfl ?_);obtain⟨ti,aj,ak⟩:=lQ;refine aO (.inl ⟨rfl,rfl⟩) rfl rfl rfl aj ak rfl rfl rfl (aa 1 rfl (ab [4,5] ?_));obtain⟨bU,aK,aL⟩:=lQ;refine ar ⟨.inr rfl,_,.agg rfl Tryz.underlying35 aK aL (.tmp rfl (.nil)),?_⟩;exact⟨.refl _,_,_,rfl,.inr (.inl ⟨bx,hb,rfl,rfl⟩)⟩
  have dJ:c.length=p.free.length:=by simpa [Int.natCast_inj]using hb
  refine aw (ah [1,2,4] rfl ?_);refine ae (aa 1 rfl (aq rfl rfl (WW (n:=p.free.length) (m:=p.rows.length) hp bx rfl rfl hN) ?_));rintro v5 H5 ⟨G,rfl,yI,abi,eR⟩;refine aa 1 rfl (ab [1,4,6] ?_);refine ae (aa 2 rfl (aq rfl rfl (L0 yI nn) ?_));rintro v6 H6 ⟨pb,gg,zW⟩;refine aq rfl rfl (Me (N:=2*M) (f:=pn p) (yI.kept pb) zW (fun i hi=>qA p hi) (by omega) nn Om (fun j _=>Nat.le_trans (hl.pn j) (by omega)) (fun i hi j _=>Nat.le_trans (hl.tab i hi j) (by omega)) hl.NA) ?_;rintro _ H7 ⟨fA,fB,_,XP,XQ,GO⟩;refine ab [1,4,6] ?_;refine ae (aa 1 rfl (aq rfl rfl (LQ (G:=(G.cX fA fB)) (N:=M) (I:=Inv p (pn p)) XP XQ (Inv.base wK) (fun S r s h hb=>h.step (by rw[h.rows.n];exact jo p) hb) (fun S h=>⟨h.wf,h.ej,hl.wL _ h,h.rows.m,h.rows.n⟩) (by omega) nn Om) ?_));rintro v8 H8 ⟨T8,ow,Io,GM,mj,ni⟩
  have qq:∀j,j<p.u→0≤T8.c j:=by rcases ni with ⟨_,h⟩ | ⟨s,_,h1,h2,h3⟩;exact h;exact(WM ow h1 h2 h3).elim
  have Oo:=hl.wL _ ow;have abj:aC (T8.c p.lay.w)≤M:=Oo.c _ (by rw[ow.rows.n];exact Nat.le_refl _)
  have XR:((T8.m:Nat):Int)≤1000000:=by rw[ow.rows.m];omega
  refine ab [1,4,6] ?_;refine ao (ae (aa 1 rfl (aq rfl rfl (LZ (G:=(G.cX fA fB)) Io GM (by omega)) ?_)));rintro v9 H9 ⟨ix,eo,n9,d9,b9,rfl,kR⟩;refine aq rfl rfl (Fn.m0 (ix.ne Io.ne) (fq kR (by rw[vT];omega))) ?_;rintro v10 uy ⟨r6,pE,rfl⟩;have so:=ix.trans r6;have Ip:=Io.kept so;have DW:=GM.kept so;have Iq:=((((eR.trans pb.le).trans GO).trans mj).trans so.le);refine aa 1 rfl (ab [1,4,6,33] ?_);refine az rfl (fun hb=> ?_) (fun hb=> ?_)
  ·
   have fO:T8.c p.w<0:=by have h9:=Gs.1 (show 0<eE (-(T8.c p.lay.w)) by simpa using hb);have h8:T8.c p.lay.w=T8.c p.w:=rfl;grind
   refine ae (aa 2 rfl (aq rfl rfl (L0 (G:=(G.cX fA fB)) Ip nn) ?_));rintro v11 jJ ⟨uR,qG,XS⟩;refine aq rfl rfl (Mb (G:=(G.cX fA fB)) (n:=p.lp.n) (m:=p.lp.m) (N:=M) (f:=pn p) (Ip.kept uR) (DW.kept uR) kU XS (fun j _=>hl.pn j) (fun j hj=>Oo.c j (by rw[ow.rows.n];exact Nat.le_of_lt hj)) (by omega) nn (by omega)) ?_;rintro zC cS ⟨uE,ng,A12,c12,x12,rfl,XT,XU,XV⟩;refine eC ag rfl oK rfl rfl ?_;obtain⟨ti,aj,ak⟩:=lQ;refine aO (.inl ⟨rfl,rfl⟩) rfl rfl rfl aj ak rfl rfl rfl (aa 1 rfl (ab [4,5] ?_));obtain⟨bU,aK,aL⟩:=lQ;refine ar ⟨.inr rfl,_,.agg rfl Tryz.underlying35 aK aL (.tmp rfl (.nil)),?_⟩;exact XL bx dJ hl (((Iq.trans uR.le).trans uE.le).trans (bE _ _)) ow qq fO (aM.le ⟨_,_,_,rfl,XT,XU,XV⟩ qi (bE _ _))
  have fO:¬T8.c p.w<0:=fun h=>by have h9:¬0<eE (-(T8.c p.lay.w)):=(by simpa using hb);exact h9 (Gs.2 (by have h8:T8.c p.lay.w=T8.c p.w:=rfl;grind))
  refine aw (ah [1,4,6] rfl ?_);refine ae (aa 1 rfl (aq rfl rfl (US (G:=(G.cX fA fB)) (N:=M) (J:=Jx p) Ip DW ⟨ow,WL ow fO⟩ (fun k S h hk hd=>h.skip hd) (fun k S s h hk hu hs hp=>h.bM hk hu hs hp) (fun k S h=>⟨hl.wL _ h.1,by rw[h.1.rows.m,ow.rows.m],by rw[h.1.rows.n,ow.rows.n]⟩) (by omega) nn XR) ?_));rintro _ jJ ⟨XW,Ir,qH,abk,Oq⟩;rw[ow.rows.m]at Ir;have qI:=Ir.1;refine ab [1,4,6] ?_;refine ae (aa 2 rfl (aX ag rfl rfl rfl (aP ag rfl rfl rfl (qH.wj) (aq rfl rfl (wu (gs:=(G.cX fA fB).gs) (n:=p.lay.w) qH.ne (by omega)) ?_))));rintro zC cS ⟨ng,z,ly,rfl,uG,XX⟩;refine aa 1 rfl (ab [1,4,6,7] ?_);refine ao (ae (aa 1 rfl (aq rfl rfl (Fn.C0 (gs:=(z::(G.cX fA fB).gs)) (uG.ne qH.ne) (o4 (hc.le (fu N) ((Iq.trans Oq).trans uG.le)) (by omega) XO)) ?_)));rintro GY kS ⟨Dl,kT,XY⟩;have wD:=uG.kept Dl;obtain⟨Av,cv,xv,rfl,jI,oB⟩:=XY.num;obtain⟨Ap,cp,xp,pc,eH,ub⟩:=qH.self.plus.one;obtain⟨Am,cm,xm,pd,mf,yX⟩:=qH.self.minus.one;rw[kU.C1]at pc;rw[kU.C2]at pd;rw[dJ];refine aa 2 rfl (ab [4,6,7,47,48,49] ?_);refine aD (jb (fun(k:Nat)(xs:List Value)=>p.free.length-k) (fun(k:Nat)(xs:List Value)=>put (put (put (put (put (put (emp) 4 (.box [.int .i64 0,.bool false,.slice none 0 0,.slice none 0 0,.slice none 0 0,.slice none 0 0,.slice none 0 0])) 6 (.val (.pointer (some ⟨G.g,0,none⟩)))) 7 (.val (.slice (some ⟨z,0,none⟩) p.lay.w p.lay.w))) 47 (.val (.slice Av p.free.length cv))) 48 (.val (.int .i64 (p.free.length:Int)))) 49 (.val (.int .i64 (k:Int)))) (fun(k:Nat)(xs:List Value) H'=>c7 (G.cX fA fB).gs jJ H' z xs (p.lay.w*3) 61∧bF (aT (rem H' (z::(G.cX fA fB).gs))) 3 xs (aH (gQ p.lay (fn c) 1 k) p.lay.w)∧Heap.le (rem kS (z::(G.cX fA fB).gs)) (rem H' (z::(G.cX fA fB).gs))∧k≤p.free.length) 0 ly (⟨wD,XX _,.refl _,Nat.zero_le _⟩) av ?_)
  rintro k xs qF ⟨qx,Is,It,abl⟩;have XZ:=qx.tab qH;have ck:=Is.len;rw[bV]at ck;refine ae (aa 1 rfl (ab [4,6,7,47,48,49,50] ?_));refine ao (az rfl (fun hb=> ?_) (fun hb=> ?_))
  ·
   have ea:k<p.free.length:=by simpa using hb
   obtain⟨q,dI⟩:∃q,c[k]? = some q:=⟨_,List.getElem?_eq_getElem (by omega)⟩;obtain⟨n1,d1,b1,cM,di⟩:=oB k q dI;have ia:fn c k=q:=jl dI;have po:aC q≤N+2:=cj.size (zm.at_ k q dI);obtain⟨up,yY,yZ⟩:=ub k _ (kU.p ea);obtain⟨um,rJ,y3⟩:=yX k _ (kU.mi ea)
   cases yZ
   cases y3
   have V9:=kU.pw k ea;have Wa:=kU.mw k ea;rw[←ia]at cM;refine aw (ah [4,6,7,47,48,49] rfl ?_);refine ao (aD (ae (aa 1 rfl (cQ (vs:=[.int .i64 n1,.int .i64 d1,.pointer b1]) ag rfl rfl rfl rfl ((jI.le It).le (bE _ _)) rfl (by decide) di (by omega) (by omega) fun _=>(bG cN rfl (vr 1 ?_))))));obtain⟨ti,aj,ak⟩:=a9;refine aO (.inl ⟨rfl,rfl⟩) rfl rfl rfl aj ak rfl rfl rfl (ab [4,6,7,8,9,47,48,49] ?_);refine bT .fC [0,1,2,3,4,5,6,7,8,9,10] follows (by kernel_rfl) ?_;refine aa 3 rfl (aX ag rfl rfl rfl (aP ag rfl rfl rfl (show cell _ _=some (.slice Ap p.free.length cp)from by rw[←show (G.cX fA fB).pv = .slice Ap p.free.length cp from pc];exact XZ.cell 2 _ rfl) ?_));refine aa 1 rfl (a5 ag rfl rfl rfl rfl rfl (eH.le qx.hle) (by rw[Int.toNat_natCast];exact yY) (by omega) (by omega) fun _=> ?_);refine vr 1 ?_;obtain⟨ti,aj,ak⟩:=a9;refine dE (.inr rfl) ag rfl rfl rfl (by omega) (by omega) (qx.a6) rfl (by show 0+p.lay.w*3≤xs.length;omega) aj ak (fun _=>rfl) rfl rfl rfl fun _=> ?_;refine ab [4,6,7,8,9,47,48,49] ?_;have uS:c7 (G.cX fA fB).gs jJ (ins qF z {(⟨xs,p.lay.w*3,61,true⟩:aG)with xs:=aA xs (0+((p.lay.pF k:Nat):Int).toNat*3) [.int .i64 n1,.int .i64 d1,.pointer b1]}) z (aA xs (p.lay.pF k*3) [.int .i64 n1,.int .i64 d1,.pointer b1]) (p.lay.w*3) 61:=qx.set (by rw[Int.toNat_natCast];exact j4)
   have DX:bF (aT (rem (ins qF z {(⟨xs,p.lay.w*3,61,true⟩:aG)with xs:=aA xs (0+((p.lay.pF k:Nat):Int).toNat*3) [.int .i64 n1,.int .i64 d1,.pointer b1]}) (z::(G.cX fA fB).gs))) 3 (aA xs (p.lay.pF k*3) [.int .i64 n1,.int .i64 d1,.pointer b1]) (aH (dU (gQ p.lay (fn c) 1 k) (p.lay.pF k) (fn c k)) p.lay.w):=by
    rw[bY _ (List.mem_cons_self ..)];exact m8 Is (by omega) (cM.le It)
   have DY:Heap.le (rem kS (z::(G.cX fA fB).gs)) (rem (ins qF z {(⟨xs,p.lay.w*3,61,true⟩:aG)with xs:=aA xs (0+((p.lay.pF k:Nat):Int).toNat*3) [.int .i64 n1,.int .i64 d1,.pointer b1]}) (z::(G.cX fA fB).gs)):=by rw[bY _ (List.mem_cons_self ..)];exact It
   show VC _ _ _ _ _ _ _ (ins qF z {(⟨xs,p.lay.w*3,61,true⟩:aG)with xs:=aA xs (0+((p.lay.pF k:Nat):Int).toNat*3) [.int .i64 n1,.int .i64 d1,.pointer b1]})
   generalize ins qF z {(⟨xs,p.lay.w*3,61,true⟩:aG)with xs:=aA xs (0+((p.lay.pF k:Nat):Int).toNat*3) [.int .i64 n1,.int .i64 d1,.pointer b1]}=pH at uS DX DY⊢
   have Ot:=uS.tab qH;have GW:=DX.len;rw[bV]at GW;refine ae (aa 2 rfl (aX ag rfl rfl rfl (aP ag rfl rfl rfl (show cell _ _=some (.slice Am p.free.length cm)from by rw[←show (G.cX fA fB).mv = .slice Am p.free.length cm from pd];exact Ot.cell 3 _ rfl) ?_)));refine aa 1 rfl (a5 ag rfl rfl rfl rfl rfl (mf.le uS.hle) (by rw[Int.toNat_natCast];exact rJ) (by omega) (by omega) fun _=> ?_);refine aa 1 rfl (ab [4,6,7,8,9,47,48,49,71] ?_);refine az rfl (fun hb=> ?_) (fun hb=> ?_)
   ·
    have hb:0≤p.lay.mZ k:=by simpa using hb
    refine fk .fC [0,1,2,3,4,5,6,7,8,9,10,11] follows (by kernel_rfl) ?_;refine aa 3 rfl (aX ag rfl rfl rfl (aP ag rfl rfl rfl (show cell _ _=some (.slice Am p.free.length cm)from by rw[←show (G.cX fA fB).mv = .slice Am p.free.length cm from pd];exact Ot.cell 3 _ rfl) ?_));refine aa 1 rfl (a5 ag rfl rfl rfl rfl rfl (mf.le uS.hle) (by rw[Int.toNat_natCast];exact rJ) (by omega) (by omega) fun _=> ?_);refine aa 1 rfl (aI rfl rfl (Fn.fw (uS.ne qH.ne) (vV (cM.le DY) (by rw[ia];omega))) (fun _ _ h=>by first | exact h.le | exact h.1) ?_);rintro v17 H17 ⟨Iu,abm,n7,d7,b7,rfl,X0⟩;have Ou:=uS.kept Iu;obtain⟨ti,aj,ak⟩:=a9;refine dE (.inr rfl) ag rfl rfl rfl (by omega) (by omega) (Ou.a6) rfl (by show 0+p.lay.w*3≤(aA xs (p.lay.pF k*3) [.int .i64 n1,.int .i64 d1,.pointer b1]).length;omega) aj ak (fun _=>rfl) rfl rfl rfl fun _=> ?_;refine ay ?_;have X1:=Ou.set (j4 (xs:=aA xs (p.lay.pF k*3) [.int .i64 n1,.int .i64 d1,.pointer b1]) (vs:=[.int .i64 n7,.int .i64 d7,.pointer b7]) (k:=(p.lay.mZ k).toNat) (sz:=3));refine ah [4,6,7,47,48,49] rfl ?_;refine aB rfl (aJ rfl rfl ⟨by omega,by omega⟩ (aa 1 rfl (ay ?_)));exact⟨k+1,_,by omega,av,X1,by rw[bY _ (List.mem_cons_self ..),uC,if_pos hb,Rat.mul_one];exact m8 (DX.mono fun vs a=>dT _ _ vs a Iu.le) (by omega) X0,by rw[bY _ (List.mem_cons_self ..)];exact DY.trans Iu.le,by omega⟩
   have hb:¬0≤p.lay.mZ k:=by simpa using hb
   refine aw (ah [4,6,7,47,48,49] rfl ?_);refine aB rfl (aJ rfl rfl ⟨by omega,by omega⟩ (aa 1 rfl (ay ?_)));exact⟨k+1,_,by omega,av,uS,by rw[uC,if_neg hb,Rat.mul_one];exact DX,DY,by omega⟩
  have hb:p.free.length≤k:=by simpa using hb
  obtain rfl:p.free.length=k:=by omega
  have iO:=qx.done;have e7:aM aT 3 (rem qF (G.cX fA fB).gs) (.slice (some ⟨z,0,none⟩) p.lay.w p.lay.w) (aH (iQ p c) p.lay.w):=⟨some ⟨z,0,none⟩,p.lay.w,xs,by rw[bV],by rw[bV];exact Nat.le_refl _,qx.rd,Is.mono fun vs a=>dT _ _ vs a iO.2⟩
  have Ov:((XW.m:Nat):Int)≤1000000:=by rw[qI.rows.m];omega
  skip
  have X2:=hl.wL _ qI;refine bA (ah [4,6,7] rfl ?_);refine ae (aa 2 rfl (aq rfl rfl (Me (G:=(G.cX fA fB)) (N:=2*M) (f:=iQ p c) (qH.kept iO.1) e7 (fun i hi=>by have h9:=qI.wf.lt i hi;rw[qI.rows.n]at h9;exact h9) (by omega) nn Ov (fun j _=>Nat.le_trans (hl.iQ j) (by omega)) (fun i hi j hj=>Nat.le_trans (X2.A i hi j (by rw[qI.rows.n];exact hj)) (by omega)) (fun k hk j hj=>hl.NB _ qI k hk j (by rw[qI.rows.n];exact hj))) ?_));rintro _ H19 ⟨uT,uU,_,X3,X4,Ow⟩;refine ab [4,6,7] ?_;refine ao (ae (aa 1 rfl (aq rfl rfl (LQ (G:=((G.cX fA fB).cX uT uU)) (N:=M) (I:=I2 p c) X3 X4 (I2.start Ir) (fun S r s h hb=>h.step hb) (fun S h=>⟨h.1.wf,h.1.ej,hl.nI _ h.1,by rw[h.1.rows.m];exact qI.rows.m.symm,by rw[h.1.rows.n];exact qI.rows.n.symm⟩) (by omega) nn Ov) ?_)));rintro v20 N0 ⟨Iv,kV,AL,Ox,Oy,X5⟩;have AM:=hl.nI _ kV.1;have abn:aC (Iv.c p.lay.w)≤M:=AM.c _ (by rw[kV.1.rows.n];exact Nat.le_refl _)
  have Iw:((Iv.m:Nat):Int)≤1000000:=by rw[kV.1.rows.m];omega
  have X6:=e7.le dT (Ow.trans Oy);have Oz:=((Iq.trans Oq).trans iO.1.le).trans (Ow.trans Oy);have OA:∀j,j<p.lay.w→aC (Iv.pt j)≤M:=fun j hj=>Hv kV.1.wf AM On (by rw[kV.1.rows.n];exact hj);refine aa 1 rfl (ab [4,6,7,10] ?_)
  rcases X5 with ⟨rfl,X7⟩ | ⟨s,rfl,pG,OB,X8⟩
  ·
   skip
   refine ae (aa 1 rfl (ax false rfl rfl (JW (by decide)) (ab [4,6,7,10,90] ?_)));refine cP rfl (aw (ah [4,6,7] rfl ?_));refine ae (aa 1 rfl (aq rfl rfl (LZ (G:=((G.cX fA fB).cX uT uU)) AL Ox (by omega)) ?_));rintro v23 H23 ⟨OC,abo,n23,d23,b23,rfl,X9⟩;refine aq rfl rfl (Fn.frame (gs:=((G.cX fA fB).cX uT uU).gs) (OC.ne AL.ne) (KP X9 (by rw[vT];omega))) ?_;rintro v24 H24 ⟨⟨Ya,OD⟩,Yb⟩;have DZ:=OC.trans ⟨Ya,Yb⟩;have OE:=AL.kept DZ;have Yc:=Ox.kept DZ;obtain⟨u24,w24,rfl,Yd,Ye⟩:=id OD;obtain⟨A27,c27,rfl,_,_⟩:=Yd;obtain⟨lD,lE,rfl,_,_⟩:=Ye;refine aa 1 rfl (aq rfl rfl (Ma (G:=((G.cX fA fB).cX uT uU)) OE kV.1.wf kU OA (by omega) nn (by omega) Iw) ?_);rintro Yf Yg ⟨sq,Yh,Yi,Yj,Yk,rfl,Ix,Iy,Iz⟩;refine aa 2 rfl (aq rfl rfl (Mb (G:=((G.cX fA fB).cX uT uU)) (n:=p.lp.n) (m:=p.lp.m) (N:=M) (f:=iQ p c) (OE.kept sq) (Yc.kept sq) kU (X6.le dT (DZ.le.trans sq.le)) (fun j _=>hl.iQ j) (fun j hj=>AM.c j (by rw[kV.1.rows.n];exact Nat.le_of_lt hj)) (by omega) nn (by omega)) ?_);rintro Yl Ym ⟨wX,Yn,Yo,Yp,Yq,rfl,IA,IB,IC⟩;refine eC ag rfl oK rfl rfl ?_
   obtain⟨ti,aj,ak⟩:=lQ;refine aO (.inl ⟨rfl,rfl⟩) rfl rfl rfl aj ak rfl rfl rfl (aa 1 rfl (ab [4,5] ?_));obtain⟨bU,aK,aL⟩:=lQ;refine ar ⟨.inr rfl,_,.agg rfl Tryz.underlying35 aK aL (.tmp rfl (.nil)),?_⟩;exact XM bx dJ hl ((((Oz.trans DZ.le).trans sq.le).trans wX.le).trans (bE _ _)) kV X7 (du.le OD ((sq.le.trans wX.le).trans (bE _ _))) (aM.le ⟨_,_,_,rfl,Ix,Iy,Iz⟩ qi (wX.le.trans (bE _ _))) (aM.le ⟨_,_,_,rfl,IA,IB,IC⟩ qi (bE _ _))
  skip
  refine ae (aa 1 rfl (ax true rfl rfl (E5 (by omega)) (ab [4,6,7,10,90] ?_)));refine cI rfl (ae (aa 1 rfl (aq rfl rfl (Ma (G:=((G.cX fA fB).cX uT uU)) AL kV.1.wf kU OA (by omega) nn (by omega) Iw) ?_)));rintro Yf Yg ⟨sq,Yh,Yi,Yj,Yk,rfl,Ix,Iy,Iz⟩;have lA:=jo p;have m9:=Nz kV.1.wf OB;refine aa 2 rfl (aq rfl rfl (U9 (G:=((G.cX fA fB).cX uT uU)) (N:=M) (s:=s) (AL.kept sq) kV.1.wf kU (Nat.lt_of_lt_of_le pG lA) m9 (fun i hi=>AM.A i hi s (by rw[kV.1.rows.n];exact Nat.le_of_lt (Nat.lt_of_lt_of_le pG lA))) (fun j _=>Ny kV.1.wf AM On (by rw[kV.1.rows.n];exact Nat.le_of_lt (Nat.lt_of_lt_of_le pG lA)) m9) (by omega) nn (by omega) Iw) ?_);rintro Yl Ym ⟨wX,Yn,Yo,Yp,Yq,rfl,IA,IB,IC⟩;refine eC ag rfl oK rfl rfl ?_;obtain⟨ti,aj,ak⟩:=lQ;refine aO (.inl ⟨rfl,rfl⟩) rfl rfl rfl aj ak rfl rfl rfl (aa 1 rfl (ab [4,5] ?_));obtain⟨bU,aK,aL⟩:=lQ;refine ar ⟨.inr rfl,_,.agg rfl Tryz.underlying35 aK aL (.tmp rfl (.nil)),?_⟩;exact XN bx dJ hl (((Oz.trans sq.le).trans wX.le).trans (bE _ _)) kV pG OB X8 (aM.le ⟨_,_,_,rfl,Ix,Iy,Iz⟩ qi (wX.le.trans (bE _ _))) (aM.le ⟨_,_,_,rfl,IA,IB,IC⟩ qi (bE _ _))
end Go.au
namespace Go.au
open Go.Proofs Num Lp
theorem OF{H:Heap}{f:Bool}{A1 A2:Option Addr}{m1 c1 m2 c2:Nat}:
 Fn Tryz.prog 42 #[.agg #[.bool f,.slice A1 m1 c1,.slice A2 m2 c2]] H (mU H (.bool (decide (m1≤2∧m2≤2)))):=by
 refine aU (args:=[_]) Tryz.func42 rfl rfl Tryz.ntmps42 rfl rfl fun w0=> ?_;refine ah [0] rfl ?_;refine ae (bR rfl rfl (aa 1 rfl (ab [1] ?_)))
 by_cases h1:m1≤2
 ·
  skip
  by_cases h2:m2≤2
  ·
   skip
   refine ae (aa 3 rfl (ax true rfl rfl (oN (by omega)) (aa 4 rfl (ax true rfl rfl (oN (by omega)) (aa 2 rfl (ab [2] ?_))))));refine ar ⟨.inr rfl,_,.tmp rfl (.nil),?_⟩;exact⟨rfl,by rw[decide_eq_true ⟨h1,h2⟩];rfl⟩
  ·
   skip
   refine ae (aa 3 rfl (ax true rfl rfl (oN (by omega)) (aa 4 rfl (ax false rfl rfl (vA (by omega)) (aa 2 rfl (ab [2] ?_))))));refine ar ⟨.inr rfl,_,.tmp rfl (.nil),?_⟩;exact⟨rfl,by rw[decide_eq_false (fun h=>h2 h.2)];rfl⟩
 ·
  skip
  refine ae (aa 3 rfl (ax false rfl rfl (vA (by omega)) (aa 7 rfl (ab [2] ?_))));refine ar ⟨.inr rfl,_,.tmp rfl (.nil),?_⟩;exact⟨rfl,by rw[decide_eq_false (fun h=>h1 h.1)];rfl⟩
end Go.au
namespace Go.au
section
variable {P:Program} {n:Nat} {all:Array Oper} {md:Mode} {tb:Tb} {s:St} {H:Heap} {K:St→Heap→Prop} {r:List Oper} {ty:TypeId} {pos:String} {after:Array Edge} {gd:Option (Nat×Bool)}
theorem D3(s:St)(d:Nat)(v:Value):ev (put s d (.val v)) (.tmp d)=some v:=by simp[ev,put]
theorem Yr{t t2 t3:TypeId}{x i:Operand}{A:Option Addr}{m c d1 d2 f o z:Nat}{uV:Option Nat}{nD ID:TypeId}{nE IE:String}{nF IF:Array Edge}{jS AN:Option (Nat×Bool)}{k:IntKind}{j:Int}{e sz nI:Nat}{ps:List (Nat×Nat)}{ti:Ti}{xs:List Value}{v:Value}
  (cT:iH P tb) (ht:tb[t]? = some (.sl e sz)) (fG:tb[t2]? = some (.st nI ps)) (hf:ps[f]? = some (o,z)) (uD:tb[t3]? = some ti) (h1:sR ti=true) (hx:ev s x=some (.slice A m c)) (hi:ev s i=some (.int k j)) (hr:Rd H A xs) (hv:xs[j.toNat*sz+o]? = some v) (h0:0≤j) (hm:j<m)
  (hk:∀a1 a2:Addr,aE P n all md r (aQ (put (put s d1 (.val (.pointer (some a1)))) d2 (.val (.pointer (some a2)))) uV (.val v)) H K)
  (hg:bI all s gd=some true:=by rfl) (nb:md.nb s (some d1)=true:=by rfl)
  (dC:∀a1:Addr,bI all (put s d1 (.val (.pointer (some a1)))) jS=some true:=by exact fun _=>rfl) (sV:∀a1:Addr,md.nb (put s d1 (.val (.pointer (some a1)))) (some d2)=true:=by exact fun _=>rfl)
  (lU:∀a1 a2:Addr,bI all (put (put s d1 (.val (.pointer (some a1)))) d2 (.val (.pointer (some a2)))) AN=some true:=by exact fun _ _=>rfl) (IG:∀a1 a2:Addr,md.nb (put (put s d1 (.val (.pointer (some a1)))) d2 (.val (.pointer (some a2)))) uV=true:=by exact fun _ _=>rfl):
  aE P n all md (⟨some d1,.indexAddr t x i,ty,pos,after,gd⟩::⟨some d2,.fieldAddr t2 (.tmp d1) f,nD,nE,nF,jS⟩::⟨uV,.load t3 (.tmp d2),ID,IE,IF,AN⟩::r) s H K:=by
 obtain⟨ad,rfl,hc⟩:=hr _ _ hv
 refine pQ cT ht hx hi h0 hm ?_ hg nb
 refine aX (ad:=ad.add (j.toNat*sz)) cT fG hf (D3 _ _ _) ?_ (dC _) (sV _)
 refine aP (ad:=(ad.add (j.toNat*sz)).add o) cT uD h1 (D3 _ _ _) (by rw[add_add];exact hc) ?_ (lU _ _) (IG _ _)
 exact hk _ _
theorem Ys{t t2 t3:TypeId}{x i:Operand}{A:Option Addr}{m c d1 d2 f o z:Nat}{uV:Option Nat}{nD ID:TypeId}{nE IE:String}{nF IF:Array Edge}{jS AN:Option (Nat×Bool)}{k:IntKind}{j:Int}{e sz nI pT:Nat}{ps sS:List (Nat×Nat)}{xs vs:List Value}
  (cT:iH P tb) (ht:tb[t]? = some (.sl e sz)) (fG:tb[t2]? = some (.st nI ps)) (hf:ps[f]? = some (o,z)) (uD:tb[t3]? = some (.st pT sS)) (hx:ev s x=some (.slice A m c)) (hi:ev s i=some (.int k j)) (hr:Rd H A xs) (hl:vs.length=pT) (hp:0<pT) (hv:∀(q:Nat)(v:Value),vs[q]? = some v→xs[j.toNat*sz+o+q]? = some v) (h0:0≤j) (hm:j<m)
  (hk:∀a1 a2:Addr,aE P n all md r (aQ (put (put s d1 (.val (.pointer (some a1)))) d2 (.val (.pointer (some a2)))) uV (.val (.agg vs.toArray))) H K)
  (hg:bI all s gd=some true:=by rfl) (nb:md.nb s (some d1)=true:=by rfl)
  (dC:∀a1:Addr,bI all (put s d1 (.val (.pointer (some a1)))) jS=some true:=by exact fun _=>rfl) (sV:∀a1:Addr,md.nb (put s d1 (.val (.pointer (some a1)))) (some d2)=true:=by exact fun _=>rfl)
  (lU:∀a1 a2:Addr,bI all (put (put s d1 (.val (.pointer (some a1)))) d2 (.val (.pointer (some a2)))) AN=some true:=by exact fun _ _=>rfl) (IG:∀a1 a2:Addr,md.nb (put (put s d1 (.val (.pointer (some a1)))) d2 (.val (.pointer (some a2)))) uV=true:=by exact fun _ _=>rfl):
  aE P n all md (⟨some d1,.indexAddr t x i,ty,pos,after,gd⟩::⟨some d2,.fieldAddr t2 (.tmp d1) f,nD,nE,nF,jS⟩::⟨uV,.load t3 (.tmp d2),ID,IE,IF,AN⟩::r) s H K:=by
 obtain⟨ad,rfl,hc⟩:=hr _ _ (hv 0 _ (List.getElem?_eq_getElem (by omega)))
 refine pQ cT ht hx hi h0 hm ?_ hg nb
 refine aX (ad:=ad.add (j.toNat*sz)) cT fG hf (D3 _ _ _) ?_ (dC _) (sV _)
 refine vp (ad:=(ad.add (j.toNat*sz)).add o) (vs:=vs) cT uD (D3 _ _ _) hl (fun q v hq=>by
  obtain⟨JA,h1,h2⟩:=hr _ _ (hv q v hq)
  cases h1
  rw[add_add,add_add,←Nat.add_assoc];exact h2) ?_ (lU _ _) (IG _ _)
 exact hk _ _
end
end Go.au
namespace Go.au
open Go.Proofs Num Lp
theorem cj.small{N:Nat}{H:Heap}{q:Rat}{f:Bool}{A1 A2:Option Addr}{m1 c1 m2 c2:Nat}(h:cj H (.agg #[.bool f,.slice A1 m1 c1,.slice A2 m2 c2]) q N)(h1:m1≤2)(h2:m2≤2):cj H (.agg #[.bool f,.slice A1 m1 c1,.slice A2 m2 c2]) q 2:=by
 obtain⟨f',u,w,l1,l2,e,k1,k2,k3,k4,k5,k6,k7⟩:=h
 have e':=tV (vs:=[.bool f,.slice A1 m1 c1,.slice A2 m2 c2]) e
 simp only[List.cons.injEq,and_true]at e'
 obtain⟨e1,e2,e3⟩:=e'
 refine⟨f',u,w,l1,l2,e,k1,k2,k3,k4,?_,?_,k7⟩
 ·obtain⟨A,c,e4,_⟩:=k1
  rw[e4]at e2
  cases e2;exact h1
 ·obtain⟨A,c,e4,_⟩:=k2
  rw[e4]at e3
  cases e3;exact h2
theorem aM.Yt{N:Nat}{H:Heap}{xs:List Value}{l:List Rat}(h:bF (ca N H) 3 xs l){i:Nat}{q:Rat}(hq:l[i]? = some q):∃f A1 m1 c1 A2 m2 c2,eM xs i 3 = [.bool f,.slice A1 m1 c1,.slice A2 m2 c2]∧cj H (.agg #[.bool f,.slice A1 m1 c1,.slice A2 m2 c2]) q N∧∀(j:Nat)(u:Value),[.bool f,.slice A1 m1 c1,.slice A2 m2 c2][j]? = some u→xs[i*3+j]? = some u:=by
 have h1:=h.at_ i q hq
 obtain⟨f,A,m,c,A',m',c',e⟩:=ca.cells h1
 refine⟨f,A,m,c,A',m',c',e,?_,fun j u hu=>FK (by rw[e];exact hu)⟩
 have h2:cj H (.agg (eM xs i 3).toArray) q N:=h1
 rwa [e]at h2
def pI(N:Nat)(H:Heap)(vs:List Value)(ls:List (List Rat)):Prop:=vs.length=ls.length∧∀(i:Nat)(v:Value)(l:List Rat),vs[i]? = some v→ls[i]? = some l→aM (ca N) 3 H v l
theorem Yu(N:Nat)(H:Heap):pI N H [] []:=⟨rfl,fun i v l h=>by simp at h⟩
theorem pI.cons{N:Nat}{H:Heap}{v:Value}{l:List Rat}{vs:List Value}{ls:List (List Rat)}(h:aM (ca N) 3 H v l)(k:pI N H vs ls):pI N H (v::vs) (l::ls):=
 ⟨by simp[k.1],fun i v' l' h1 h2=>by
  cases i with
  | zero=>simp only[List.getElem?_cons_zero,Option.some.injEq]at h1 h2;subst h1;subst h2;exact h
  | succ i=>exact k.2 i v' l' (by simpa using h1) (by simpa using h2)⟩
theorem pI.head{N:Nat}{H:Heap}{v:Value}{l:List Rat}{vs:List Value}{ls:List (List Rat)}(h:pI N H (v::vs) (l::ls)):aM (ca N) 3 H v l:=h.2 0 v l rfl rfl
theorem Yv{xs:List Value}{k:Nat}{a b c d e:Value}(h:∀(j:Nat)(u:Value),[a,b,c,d,e][j]? = some u→xs[k+j]? = some u):∀(q:Nat)(v:Value),[c,d,e][q]? = some v→xs[k+2+q]? = some v:=fun q v hq=>by
 rw[Nat.add_assoc,Nat.add_comm 2 q];exact h (q+2) v hq
theorem aM.Yw{N:Nat}{H:Heap}{xs:List Value}{l:List (List Rat×Int×Rat)}(h:bF (ep N H) 5 xs l){i:Nat}{r:List Rat×Int×Rat}(hq:l[i]? = some r):∃A0 c0 f A1 m1 c1 A2 m2 c2,eM xs i 5 = [.slice A0 r.1.length c0,.int .i64 r.2.1,.bool f,.slice A1 m1 c1,.slice A2 m2 c2]∧aM (ca N) 3 H (.slice A0 r.1.length c0) r.1∧cj H (.agg #[.bool f,.slice A1 m1 c1,.slice A2 m2 c2]) r.2.2 N∧∀(j:Nat)(u:Value),[.slice A0 r.1.length c0,.int .i64 r.2.1,.bool f,.slice A1 m1 c1,.slice A2 m2 c2][j]? = some u→xs[i*5+j]? = some u:=by
 have h1:=h.at_ i r hq
 obtain⟨A0,c0,k,f,A1,m1,c1,A2,m2,c2,e,hk⟩:=h1.cells
 subst hk
 have h2:=h1
 rw[e]at h2
 obtain⟨c',f',u',w',e',h3,h4⟩:=id h2
 simp only[List.cons.injEq,and_true,true_and]at e'
 obtain⟨rfl,e1,rfl,rfl⟩:=e'
 exact⟨A0,c0,f,A1,m1,c1,A2,m2,c2,e,h3,h2.bound,fun j u hu=>FK (by rw[e];exact hu)⟩
structure wY(H:Heap)(v:Value)(p:Prg)(n m:Nat):Prop where
 prog:dN 2 H v p
 eZ:p.free.length≤n
 rows:p.rows.length≤m
 row:∀(i:Nat)(r:List Rat×Int×Rat),p.rows[i]? = some r→r.1.length≤n
theorem wY.le{H H':Heap}{v:Value}{p:Prg}{n m:Nat}(h:wY H v p n m)(hl:Heap.le H H'):wY H' v p n m:=⟨h.prog.le hl,h.eZ,h.rows,h.row⟩
theorem OG{H:Heap}{v:Value}{l:List Rat}{N n:Nat}(hv:aM (ca N) 3 H v l)(hn:n≤1000):
 Fn Tryz.prog 11 #[v,.int .i64 (n:Int)] H (fun v' H'=>H'=H∧∃b,v' = .bool b∧(b=true→l.length≤n∧aM (ca 2) 3 H v l)):=by
 obtain⟨A,c,xs,rfl,pR,hr,hx⟩:=hv;refine aU (args:=[_,_]) Tryz.func11 rfl rfl Tryz.ntmps11 rfl rfl fun w0=> ?_;refine ah [0,1] rfl ?_;refine ae (aa 1 rfl (ab [0,1] ?_));refine ao (ae (aa 4 rfl (ab [0,9] ?_)));refine az rfl (fun hb=> ?_) (fun hb=> ?_)
 ·
  skip
  refine ae (aa 1 rfl (ab [4] ?_));refine ar ⟨.inr rfl,_,.tmp rfl (.nil),?_⟩;exact⟨rfl,false,rfl,fun h=>by cases h⟩
 ·
  have hb:l.length≤n:=by simpa using hb
  refine aw (ah [0] rfl ?_);refine ao (ae (aa 3 rfl (ab [0,11,12] ?_)));refine aD (gm (fun(i:Nat)=>l.length-i) (fun(i:Nat)=>put (put (put (emp) 0 (.val (.slice A l.length c))) 11 (.val (.int .i64 (l.length:Int)))) 12 (.val (.int .i64 (i:Int)))) (fun(i:Nat) H'=>H'=H∧(∀(k:Nat)(q:Rat),k<i→l[k]? = some q→ca 2 H (eM xs k 3) q)∧i≤l.length) 0 (⟨rfl,(fun k r h=>by omega),Nat.zero_le _⟩) av ?_);rintro i H1 ⟨e1,ec,hi⟩;rw[e1];refine ae (aa 1 rfl (ab [0,11,12,13] ?_));refine ao (az rfl (fun hb=> ?_) (fun hb=> ?_))
  ·
   have dS:i<l.length:=by simpa using hb
   obtain⟨q,hq⟩:∃q,l[i]? = some q:=⟨_,List.getElem?_eq_getElem dS⟩;obtain⟨f,A1,m1,c1,A2,m2,c2,ga,qJ,uW⟩:=aM.Yt hx hq;refine aw (ah [0,11,12] rfl ?_);refine ao (aD (ae (aa 2 rfl (ab [0,5,11,12] ?_))));refine ae (aa 2 rfl (cQ ag rfl rfl rfl rfl (hr) rfl (by decide) (uW) (by omega) (by omega) fun _=>(aq rfl rfl (OF) ?_)));rintro v2 H2 ⟨e2,rfl⟩;rw[e2];refine aa 1 rfl (ab [0,11,12,20] ?_);refine az rfl (fun hb=> ?_) (fun hb=> ?_)
   ·
    skip
    refine ae (aa 1 rfl (ab [4] ?_));refine ar ⟨.inr rfl,_,.tmp rfl (.nil),?_⟩;exact⟨rfl,false,rfl,fun h=>by cases h⟩
   have fN:m1≤2∧m2≤2:=by simpa using hb
   refine aw (ah [0,11,12] rfl ?_);refine aB rfl (aJ rfl rfl ⟨by omega,by omega⟩ (aa 1 rfl (ay ?_)));exact⟨i+1,by omega,av,rfl,(fun k q9 hk kR=>by by_cases h9:k<i;exact ec k q9 h9 kR;(obtain rfl:k=i:=by omega);rw[hq]at kR;cases kR;show cj _ _ _ _;rw[ga];exact qJ.small fN.1 fN.2),by omega⟩
  have hb:l.length≤i:=by simpa using hb
  refine bA (ah [] rfl ?_);refine ae (aa 1 rfl (ab [4] ?_));refine ar ⟨.inr rfl,_,.tmp rfl (.nil),?_⟩;exact⟨rfl,true,rfl,fun _=>⟨by omega,A,c,xs,rfl,pR,hr,hx.len,fun k q hq=>ec k q (by have h9:=(List.getElem?_eq_some_iff.1 hq).1;omega) hq⟩⟩
theorem Yx{H:Heap}{A:Option Addr}{k c:Nat}{vs:List Value}{ls:List (List Rat)}{N m n:Nat}(hr:Rd H A vs)(hk:k=ls.length)(hv:pI N H vs ls)(hn:n≤1000)(hm:m≤1000):
 Fn Tryz.prog 41 #[.slice A k c,.int .i64 (m:Int),.int .i64 (n:Int)] H (fun v' H'=>H'=H∧∃b,v' = .bool b∧(b=true→pI 2 H vs ls∧(∀l,l∈ls→l.length≤n)∧ls.length≤m)):=by
 refine aU (args:=[_,_,_]) Tryz.func41 rfl rfl Tryz.ntmps41 rfl rfl fun w0=> ?_;refine ah [0,1,2] rfl ?_;refine ae (aa 1 rfl (ab [0,1,2] ?_));refine ao (ae (aa 4 rfl (ab [0,2,11] ?_)));refine az rfl (fun hb=> ?_) (fun hb=> ?_)
 ·
  skip
  refine ae (aa 1 rfl (ab [6] ?_));refine ar ⟨.inr rfl,_,.tmp rfl (.nil),?_⟩;exact⟨rfl,false,rfl,fun h=>by cases h⟩
 ·
  have hb:k≤m:=by simpa using hb
  refine aw (ah [0,2] rfl ?_);refine ao (ae (aa 3 rfl (ab [0,2,13,14] ?_)));refine aD (gm (fun(i:Nat)=>k-i) (fun(i:Nat)=>put (put (put (put (emp) 0 (.val (.slice A k c))) 2 (.val (.int .i64 (n:Int)))) 13 (.val (.int .i64 (k:Int)))) 14 (.val (.int .i64 (i:Int)))) (fun(i:Nat) H'=>H'=H∧(∀(j:Nat)(v:Value)(l:List Rat),j<i→vs[j]? = some v→ls[j]? = some l→l.length≤n∧aM (ca 2) 3 H v l)∧i≤k) 0 (⟨rfl,(fun j v l h=>by omega),Nat.zero_le _⟩) av ?_);rintro i H1 ⟨e1,ec,hi⟩;rw[e1];refine ae (aa 1 rfl (ab [0,2,13,14,15] ?_));refine ao (az rfl (fun hb=> ?_) (fun hb=> ?_))
  ·
   have dS:i<k:=by simpa using hb
   obtain⟨l,hle⟩:∃l,ls[i]? = some l:=⟨_,List.getElem?_eq_getElem (by omega)⟩;obtain⟨v,vL⟩:∃v,vs[i]? = some v:=⟨_,List.getElem?_eq_getElem (by rw[hv.1];omega)⟩;have lv:=hv.2 i v l vL hle;obtain⟨A0,c0,ly,rfl,h0⟩:=id lv;refine aw (ah [0,2,13,14] rfl ?_);refine ao (aD (ae (aa 2 rfl (ab [0,2,7,13,14] ?_))));refine ae (aa 2 rfl (a5 ag rfl rfl rfl rfl rfl (hr) (vL) (by omega) (by omega) fun _=>(aa 1 rfl (aq rfl rfl (OG lv hn) ?_))));rintro v2 H2 ⟨e2,b2,rfl,cD⟩;rw[e2];refine aa 1 rfl (ab [0,2,13,14,23] ?_);refine az rfl (fun hb=> ?_) (fun hb=> ?_)
   ·
    skip
    refine ae (aa 1 rfl (ab [6] ?_));refine ar ⟨.inr rfl,_,.tmp rfl (.nil),?_⟩;exact⟨rfl,false,rfl,fun h=>by cases h⟩
   have KY:b2=true:=by simpa using hb
   refine aw (ah [0,2,13,14] rfl ?_);refine aB rfl (aJ rfl rfl ⟨by omega,by omega⟩ (aa 1 rfl (ay ?_)));exact⟨i+1,by omega,av,rfl,(fun j v9 l9 hj zY eo=>by by_cases h9:j<i;exact ec j v9 l9 h9 zY eo;(obtain rfl:j=i:=by omega);rw[vL]at zY;rw[hle]at eo;cases zY;cases eo;exact cD KY),by omega⟩
  have hb:k≤i:=by simpa using hb
  refine bA (ah [] rfl ?_);refine ae (aa 1 rfl (ab [6] ?_));refine ar ⟨.inr rfl,_,.tmp rfl (.nil),?_⟩
  exact⟨rfl,true,rfl,fun _=>⟨⟨hv.1,fun j v l h1 h2=>(ec j v l (by have h9:=(List.getElem?_eq_some_iff.1 h2).1;omega) h1 h2).2⟩,(fun l hl=>by
   obtain⟨j,hj⟩:=List.getElem?_of_mem hl;have h9:=(List.getElem?_eq_some_iff.1 hj).1
   exact(ec j _ l (by omega) (List.getElem?_eq_getElem (by rw[hv.1];omega)) hj).1),by omega⟩⟩
theorem Yy{H:Heap}{v:Value}{p:Prg}{N n m:Nat}(hp:dN N H v p)(hn:n≤1000)(hm:m≤1000):
 Fn Tryz.prog 40 #[v,.int .i64 (n:Int),.int .i64 (m:Int)] H (fun v' H'=>H'=H∧∃b,v' = .bool b∧(b=true→wY H v p n m)):=by
 obtain⟨fv,j8,rfl,eu,ew⟩:=id hp
 obtain⟨Af,cf,xf,rfl,iR,iS⟩:=eu.one
 obtain⟨Ar,cr,xr,rfl,nK,fy,eW⟩:=ew;refine aU (args:=[_,_,_]) Tryz.func40 rfl rfl Tryz.ntmps40 rfl rfl fun w0=> ?_;refine ah [0,1,2] rfl ?_;refine ae (bR rfl rfl (aa 1 rfl (ab [1,2,3] ?_)));refine ao ?_
 by_cases h1:(n:Int)<(p.free.length:Int)
 ·
  skip
  refine ae (aa 4 rfl (ax true rfl rfl (jU h1) (aa 7 rfl (ab [1,3,19] ?_))));refine cI rfl (ae (aa 1 rfl (ab [6] ?_)));refine ar ⟨.inr rfl,_,.tmp rfl (.nil),?_⟩;exact⟨rfl,false,rfl,fun h=>by cases h⟩
 ·
  skip
  by_cases h2:(m:Int)<(p.rows.length:Int)
  ·
   skip
   refine ae (aa 4 rfl (ax false rfl rfl (gD (by omega)) (aa 5 rfl (ax true rfl rfl (jU h2) (aa 1 rfl (ab [1,3,19] ?_))))));refine cI rfl (ae (aa 1 rfl (ab [6] ?_)));refine ar ⟨.inr rfl,_,.tmp rfl (.nil),?_⟩;exact⟨rfl,false,rfl,fun h=>by cases h⟩
  skip
  refine ae (aa 4 rfl (ax false rfl rfl (gD (by omega)) (aa 5 rfl (ax false rfl rfl (gD (by omega)) (aa 1 rfl (ab [1,3,19] ?_))))));refine cP rfl (aw (ah [1,3] rfl ?_));refine ao (ae (aa 4 rfl (ab [1,3,22,23] ?_)));refine aD (gm (fun(i:Nat)=>p.rows.length-i) (fun(i:Nat)=>put (put (put (put (emp) 1 (.val (.int .i64 (n:Int)))) 3 (.box [.slice Af p.free.length cf,.slice Ar p.rows.length cr])) 22 (.val (.int .i64 (p.rows.length:Int)))) 23 (.val (.int .i64 (i:Int)))) (fun(i:Nat) H'=>H'=H∧(∀(k:Nat)(r:List Rat×Int×Rat),k<i→p.rows[k]? = some r→r.1.length≤n∧ep 2 H (eM xr k 5) r)∧i≤p.rows.length) 0 (⟨rfl,(fun k r h=>by omega),Nat.zero_le _⟩) av ?_);rintro i H1 ⟨e1,ec,hi⟩;rw[e1];refine ae (aa 1 rfl (ab [1,3,22,23,24] ?_));refine ao (az rfl (fun hb=> ?_) (fun hb=> ?_))
  ·
   have dS:i<p.rows.length:=by simpa using hb
   obtain⟨r,hr⟩:∃r,p.rows[i]? = some r:=⟨_,List.getElem?_eq_getElem dS⟩;obtain⟨A0,c0,f,A1,m1,c1,A2,m2,c2,ga,lv,qJ,gS⟩:=aM.Yw eW hr;refine aw (ah [1,3,22,23] rfl ?_);refine ao (aD (ae (aa 2 rfl (ab [1,3,7,22,23] ?_))));refine ae (aa 3 rfl (Yr ag rfl rfl rfl rfl rfl rfl rfl (fy) (gS 0 _ rfl) (by omega) (by omega) fun _ _=>(aa 1 rfl (aq rfl rfl (OG lv hn) ?_))));rintro v2 H2 ⟨e2,b2,rfl,cD⟩;rw[e2]
   cases b2
   ·
    skip
    refine aa 11 rfl (ab [1,3,22,23,44] ?_);refine cI rfl (ae (aa 1 rfl (ab [6] ?_)));refine ar ⟨.inr rfl,_,.tmp rfl (.nil),?_⟩;exact⟨rfl,false,rfl,fun h=>by cases h⟩
   skip
   refine aa 5 rfl (Ys ag rfl rfl rfl rfl rfl rfl (fy) rfl (by decide) (Yv gS) (by omega) (by omega) fun _ _=>(aq rfl rfl (OF) ?_));rintro v3 H3 ⟨e3,rfl⟩;rw[e3];refine aa 2 rfl (ab [1,3,22,23,44] ?_);refine az rfl (fun hb=> ?_) (fun hb=> ?_)
   ·
    skip
    refine ae (aa 1 rfl (ab [6] ?_));refine ar ⟨.inr rfl,_,.tmp rfl (.nil),?_⟩;exact⟨rfl,false,rfl,fun h=>by cases h⟩
   have h3:m1≤2∧m2≤2:=by simpa using hb
   refine aw (ah [1,3,22,23] rfl ?_);refine aB rfl (aJ rfl rfl ⟨by omega,by omega⟩ (aa 1 rfl (ay ?_)));exact⟨i+1,by omega,av,rfl,(fun k r9 hk iT=>by by_cases h9:k<i;exact ec k r9 h9 iT;(obtain rfl:k=i:=by omega);rw[hr]at iT;cases iT;exact⟨(cD rfl).1,_,_,_,_,ga,(cD rfl).2,qJ.small h3.1 h3.2⟩),by omega⟩
  have hb:p.rows.length≤i:=by simpa using hb
  refine bA (ah [] rfl ?_);refine ae (aa 1 rfl (ab [6] ?_));refine ar ⟨.inr rfl,_,.tmp rfl (.nil),?_⟩;exact⟨rfl,true,rfl,fun _=>⟨⟨_,_,rfl,eu,Ar,cr,xr,rfl,nK,fy,eW.len,fun k r hr=>(ec k r (by have h9:=(List.getElem?_eq_some_iff.1 hr).1;omega) hr).2⟩,by omega,by omega,fun k r hr=>(ec k r (by have h9:=(List.getElem?_eq_some_iff.1 hr).1;omega) hr).1⟩⟩
end Go.au
namespace Go.au
open Go.Proofs Num Lp
theorem aM.gT{N:Nat}{H:Heap}{v:Value}{l:List Rat}(h:aM (ca N) 3 H v l):∀q,q∈l→aC q≤N+2:=fun q hq=>by
 obtain⟨A,cc,xs,_,_,_,h4⟩:=h
 obtain⟨k,hk⟩:=List.getElem?_of_mem hq
 exact cj.size (h4.at_ k q hk)
theorem my{l:List Rat}{j:Nat}(h:j<l.length):fn l j∈l:=by
 rw[jl (List.getElem?_eq_getElem h)];exact List.getElem_mem h
theorem Yz(f:Bool)(A A':Option Addr)(k c k' c':Nat):∀u,u∈[Value.bool f,.slice A k c,.slice A' k' c']→u.oneCell'=true:=fun u hu=>by
 simp only[List.mem_cons,List.not_mem_nil,or_false]at hu
 rcases hu with rfl | rfl | rfl <;> rfl
theorem YA{H:Heap}{v:Value}{e sz n:Nat}{xs:List Value}(h:bm H v e sz n xs):∀q,q∈a6 v→H q≠none:=fun q hq=>by
 obtain⟨en,he⟩:=h.block (fP.1 hq)
 rw[he];simp
theorem IH{α:Type}{P:Heap→List Value→α→Prop}{H:Heap}{g e sz k:Nat}{xs:List Value}{l:List α}(hk:k=l.length)(h:bF (P (ins H g (whole xs e))) sz xs l):aM P sz (ins H g (whole xs e)) (.slice (some ⟨g,0,none⟩) k k) l:=by
 subst hk;exact⟨_,_,xs,rfl,Nat.le_refl _,g5 _ _ _ _ _ _,h⟩
theorem wZ{α:Type}{P:List Value→α→Prop}{sz:Nat}{vs xs:List Value}{a:α}{l:List α}(h:P vs a)(hl:vs.length=sz)(k:bF P sz xs l):bF P sz (vs++xs) (a::l):=(p8 h hl).append k
theorem D4{H:Heap}{g e:Nat}(a b:Int):aM o6 1 (ins H g (whole (eB [.int .i64 a,.int .i64 b]) e)) (.slice (some ⟨g,0,none⟩) 2 2) [a,b]:=
 IH (l:=[a,b]) rfl (wZ (vs:=[.int .i64 a]) rfl rfl (wZ (vs:=[.int .i64 b]) rfl rfl rz))
theorem aM.pJ{H:Heap}{v:Value}{l:List Rat}{N:Nat}(h:aM fe 3 H v l)(hs:∀q,q∈l→aC q≤N):aM (ca N) 3 H v l:=by
 obtain⟨A,c,xs,h1,h2,h3,h4⟩:=h
 exact⟨A,c,xs,h1,h2,h3,h4.len,fun i a ha=>fe.rat (h4.at_ i a ha) (hs a (List.mem_of_getElem? ha))⟩
theorem OH{H:Heap}{n:Int}(h1: -9223372036854775808≤n)(h2:n≤9223372036854775807):
  Fn Tryz.prog 17 #[.int .i64 n] H (fun v H'=>Heap.le H H'∧∃f A1 m1 c1 A2 m2 c2,v = .agg #[.bool f,.slice A1 m1 c1,.slice A2 m2 c2]∧du H' (.agg #[.bool f,.slice A1 m1 c1,.slice A2 m2 c2]) (n:Rat)):=
 (zt h1 h2).mono fun v H' ⟨hl,hq⟩=>by
  obtain⟨u,w,rfl,hu,hw⟩:=id hq
  obtain⟨A1,c1,rfl,_⟩:=id hu
  obtain⟨A2,c2,rfl,_⟩:=id hw
  exact⟨hl,_,_,_,_,_,_,_,rfl,hq⟩
theorem aM.mono{α:Type}{P P':Heap→List Value→α→Prop}{sz:Nat}{H:Heap}{v:Value}{l:List α}(h:aM P sz H v l)(hp:∀vs a,P H vs a→P' H vs a):aM P' sz H v l:=by
 obtain⟨A,c,xs,h1,h2,h3,h4⟩:=h
 exact⟨A,c,xs,h1,h2,h3,h4.mono hp⟩
theorem ca.mono{N M:Nat}{H:Heap}{vs:List Value}{q:Rat}(h:ca N H vs q)(hl:N≤M):ca M H vs q:=cj.mono h hl
theorem dN.mono{N M:Nat}{H:Heap}{v:Value}{p:Prg}(h:dN N H v p)(hl:N≤M):dN M H v p:=by
 obtain⟨fv,rv,h1,h2,h3⟩:=h
 exact⟨fv,rv,h1,h2,h3.mono fun vs r ⟨c,f,u,w,k1,k2,k3⟩=>⟨c,f,u,w,k1,k2.mono fun _ _ h=>h.mono hl,k3.mono hl⟩⟩
theorem YB(q:Rat):tm q q=0:=by unfold tm;simp
theorem OI{x s:Nat}(h:x<B^s):x.log2≤30*s:=by
 by_cases h0:x=0
 ·subst h0;simp
 ·have h1:x<2^(30*s):=by
   refine Nat.lt_of_lt_of_le h ?_
   rw[Nat.pow_mul]
   exact Nat.pow_le_pow_left (by decide) s
  have:=(Nat.log2_lt h0).2 h1
  omega
theorem YC{q:Rat}{s:Nat}(h:aC q≤s):al.wt q≤60*s+2:=by
 obtain⟨h1,h2⟩:=FN.1 h
 have:=OI h1
 have:=OI h2
 unfold al.wt;omega
theorem OJ{k:Nat}:∀{l:List Rat},(∀q,q∈l→al.wt q≤k)→al.dZ l≤l.length*k
 | [],_=>Nat.zero_le _
 | q::l,h=>by
  have h1:=h q (List.mem_cons_self ..)
  have h2:=OJ (l:=l) fun r hr=>h r (List.mem_cons_of_mem _ hr)
  simp only[al.dZ,List.length_cons,Nat.add_mul];omega
def nums(p:Prg)(c:List Rat):List Rat:=0::(p.rows.flatMap (fun r=>r.2.2::r.1)++c)
theorem OK{l:List Rat}{k:List Rat}(h:∀q,q∈l→q∈k)(h0:0∈k)(j:Nat):fn l j∈k:=by
 by_cases hj:j<l.length
 ·rw[jl (List.getElem?_eq_getElem hj)];exact h _ (List.getElem_mem hj)
 ·rw[Ln (by omega)];exact h0
theorem OL{p:Prg}{c:List Rat}{i:Nat}(hi:i<p.rows.length):(∀q,q∈(p.row i).1→q∈nums p c)∧(p.row i).2.2∈nums p c:=by
 rw[Prg.l7 (List.getElem?_eq_getElem hi)]
 have hm:p.rows[i]∈p.rows:=List.getElem_mem hi
 refine⟨fun q hq=> ?_,?_⟩
 ·exact List.mem_cons_of_mem _ (List.mem_append_left _ (List.mem_flatMap.2 ⟨_,hm,List.mem_cons_of_mem _ hq⟩))
 ·exact List.mem_cons_of_mem _ (List.mem_append_left _ (List.mem_flatMap.2 ⟨_,hm,List.mem_cons_self ..⟩))
theorem YD(p:Prg)(c:List Rat):In (nums p c) p:=fun i hi j _=>OK (OL hi).1 (List.mem_cons_self ..) j
theorem YE(p:Prg)(c:List Rat):∀j,j<p.lp.n→fn c j∈nums p c:=fun j _=>OK (fun q hq=>List.mem_cons_of_mem _ (List.mem_append_right _ hq)) (List.mem_cons_self ..) j
theorem OM{k:Nat}:∀{l:List (List Rat×Int×Rat)},(∀r,r∈l→r.1.length≤k)→(l.flatMap (fun r=>r.2.2::r.1)).length≤l.length*(k+1)
 | [],_=>Nat.zero_le _
 | r::l,h=>by
  have h1:=h r (List.mem_cons_self ..)
  have h2:=OM (l:=l) fun r hr=>h r (List.mem_cons_of_mem _ hr)
  simp only[List.flatMap_cons,List.length_append,List.length_cons,Nat.add_mul]at *;omega
structure AO(N:Nat)(H:Heap)(v cv:Value)(p:Prg)(c:List Rat):Prop where
 prog:dN N H v p
 vec:aM (ca N) 3 H cv c
 ON:N≤20
 eZ:c.length≤7
 rows:p.rows.length≤7
 row:∀r,r∈p.rows→r.1.length≤7
theorem dN.gT{N:Nat}{H:Heap}{v:Value}{p:Prg}(h:dN N H v p):∀r,r∈p.rows→(∀q,q∈r.1→aC q≤N+2)∧aC r.2.2≤N+2:=fun r hr=>by
 obtain⟨fv,rv,_,_,h3⟩:=h
 obtain⟨A,c,xs,_,_,_,h4⟩:=h3
 obtain⟨i,hi⟩:=List.getElem?_of_mem hr
 obtain⟨c',f,u,w,_,k2,k3⟩:=h4.at_ i r hi
 exact⟨k2.gT,cj.size k3⟩
theorem AO.bits{N:Nat}{H:Heap}{v cv:Value}{p:Prg}{c:List Rat}(h:AO N H v cv p c):bits (nums p c) p.lp.m p.lp.m (2*al.dZ (nums p c))≤49999998:=by
 have hb:=h.ON
 have h1:∀q,q∈nums p c→al.wt q≤1322:=fun q hq=>by
  have h2:aC q≤22:=by
   rcases List.mem_cons.1 hq with rfl | hq
   ·decide
   ·rcases List.mem_append.1 hq with hq | hq
    ·obtain⟨r,hr,hq⟩:=List.mem_flatMap.1 hq
     obtain⟨k1,k2⟩:=h.prog.gT r hr
     rcases List.mem_cons.1 hq with rfl | hq
     ·omega
     ·have:=k1 q hq;omega
    ·have:=h.vec.gT q hq;omega
  have:=YC h2;omega
 have h2:=OJ h1
 have h3:=OM h.row
 have h4:(nums p c).length≤64:=by
  have:=h.rows
  have:=h.eZ
  simp only[nums,List.length_cons,List.length_append];omega
 have h5:al.dZ (nums p c)≤64*1322:=Nat.le_trans h2 (Nat.mul_le_mul_right _ h4)
 have h6:p.lp.m≤7:=h.rows
 unfold au.bits og
 have h7:=Nat.mul_le_mul (Nat.pow_le_pow_right (n:=2) (by decide) h6) (show 4*al.dZ (nums p c)+p.lp.m+1≤4*(64*1322)+7+1 by omega)
 have h8:2^7*(4*(64*1322)+7+1)=43320320:=by decide
 omega
abbrev MX:Nat:=100000000
def OO(H:Heap)(s:Value)(S:mX):Prop:=∃f A1 m1 c1 A2 m2 c2 Ax kx cx Ad kd cd Ar kr cr,s = .agg #[.int .i64 S.status,.bool f,.slice A1 m1 c1,.slice A2 m2 c2,.slice Ax kx cx,.slice Ad kd cd,.slice Ar kr cr]∧cj H (.agg #[.bool f,.slice A1 m1 c1,.slice A2 m2 c2]) S.value MX∧aM (ca MX) 3 H (.slice Ax kx cx) S.x∧aM (ca MX) 3 H (.slice Ad kd cd) S.j0∧aM (ca MX) 3 H (.slice Ar kr cr) S.ik
theorem YF{H:Heap}{N:Nat}:cj H (.agg #[.bool false,.slice none 0 0,.slice none 0 0]) 0 N:=
 ⟨false,_,_,[],[],rfl,⟨none,0,rfl,Nat.le_refl _,Rd.nil _ _⟩,⟨none,0,rfl,Nat.le_refl _,Rd.nil _ _⟩,(fun x h=>by cases h),(fun x h=>by cases h),Nat.zero_le _,Nat.zero_le _,by decide⟩
theorem Ik.r{H:Heap}{s:Value}{S:mX}(h:Ik H s S)(hz:Il MX S):OO H s S:=by
 obtain⟨f,u,w,xv,dv,rv,rfl,h4,h5,h6,h7⟩:=h
 obtain⟨Ax,cx,_,rfl,_⟩:=id h5
 obtain⟨Ad,cd,_,rfl,_⟩:=id h6
 obtain⟨Ar,cr,_,rfl,_⟩:=id h7
 have hx:=h5.pJ fun q hq=>hz q (.inl hq)
 have hd:=h6.pJ fun q hq=>hz q (.inr (.inl hq))
 have hr:=h7.pJ fun q hq=>hz q (.inr (.inr (.inl hq)))
 rcases h4 with h4 | ⟨h4,rfl,rfl,rfl⟩
 ·obtain⟨u',w',e,hu,hw⟩:=id h4
  have e':=tV (vs:=[.bool f,u,w]) e
  simp only[List.cons.injEq,and_true]at e'
  obtain⟨_,rfl,rfl⟩:=e'
  obtain⟨A1,c1,rfl,_⟩:=id hu
  obtain⟨A2,c2,rfl,_⟩:=id hw
  exact⟨_,_,_,_,_,_,_,_,_,_,_,_,_,_,_,_,rfl,(du.raw h4).mono (hz _ (.inr (.inr (.inr rfl)))),hx,hd,hr⟩
 ·exact⟨_,_,_,_,_,_,_,_,_,_,_,_,_,_,_,_,rfl,by rw[h4];exact YF,hx,hd,hr⟩
def YG(p:Prg)(c:List Rat)(H:Heap)(v:Value)(H':Heap):Prop:=Heap.le H H'∧∃s e,v = .tuple #[s,.int .i64 e]∧
 ((¬p.Ok∧e=1∧s=DV)∨(p.Ok∧c.length≠p.free.length∧e=21∧s=DV)∨(p.Ok∧c.length=p.free.length∧e=0∧∃S,OO H' s S∧fc p c S))
theorem YH{N:Nat}{H:Heap}{v cv:Value}{p:Prg}{c:List Rat}(h:AO N H v cv p c):Fn Tryz.prog 7 #[v,cv] H (YG p c H):=by
 have hb:=h.bits
 have h1:=h.eZ
 have h2:=h.ON
 refine(Ol h.prog h.vec (NC (YD p c) (YE p c) fun i hi=>(OL hi).2) (by omega) (by omega) (by omega)).mono ?_
 rintro v' H' ⟨hl,s,e,rfl,h3⟩
 refine⟨hl,s,e,rfl,?_⟩
 rcases h3 with h3 | h3 | ⟨k1,k2,k3,S,k4,k5,k6,_⟩
 ·exact .inl h3
 ·exact .inr (.inl h3)
 ·exact .inr (.inr ⟨k1,k2,k3,S,k4.r fun q hq=>Nat.le_trans (k6 q hq) (by show _≤100000000;omega),k5⟩)
def YI(p:Prg)(c:List Rat)(H:Heap)(v:Value)(H':Heap):Prop:=Heap.le H H'∧∃S f A1 m1 c1 A2 m2 c2 Ax kx cx Ad kd cd Ar kr cr,v = .tuple #[.agg #[.int .i64 S.status,.bool f,.slice A1 m1 c1,.slice A2 m2 c2,.slice Ax kx cx,.slice Ad kd cd,.slice Ar kr cr],.int .i64 0]∧fc p c S∧cj H' (.agg #[.bool f,.slice A1 m1 c1,.slice A2 m2 c2]) S.value MX∧aM (ca MX) 3 H' (.slice Ax kx cx) S.x∧aM (ca MX) 3 H' (.slice Ad kd cd) S.j0∧aM (ca MX) 3 H' (.slice Ar kr cr) S.ik
theorem OP{N:Nat}{H:Heap}{v cv:Value}{p:Prg}{c:List Rat}(h:AO N H v cv p c)(bx:p.Ok)(hlen:c.length=p.free.length):Fn Tryz.prog 7 #[v,cv] H (YI p c H):=
 (YH h).mono fun v' H' ⟨hl,s,e,h1,h2⟩=>by
  rcases h2 with h2 | h2 | ⟨_,_,rfl,S,⟨f,A1,m1,c1,A2,m2,c2,Ax,kx,cx,Ad,kd,cd,Ar,kr,cr,rfl,h3⟩,h4⟩
  ·exact absurd bx h2.1
  ·exact absurd hlen h2.2.1
  ·exact⟨hl,S,f,A1,m1,c1,A2,m2,c2,Ax,kx,cx,Ad,kd,cd,Ar,kr,cr,h1,h4,h3⟩
theorem ep.OQ{N:Nat}{H:Heap}{r:List Rat×Int×Rat}{v0:Value}{f:Bool}{u w:Value}(h:ep N H [v0,.int .i64 r.2.1,.bool f,u,w] r):aM (ca N) 3 H v0 r.1:=by
 obtain⟨c,f',u',w',h1,h2,_⟩:=h
 simp only[List.cons.injEq]at h1
 rw[h1.1];exact h2
theorem ep.size{N:Nat}{H:Heap}{r:List Rat×Int×Rat}{vs:List Value}(h:ep N H vs r):∀q,q∈r.1→aC q≤N+2:=fun q hq=>by
 obtain⟨c,f',u',w',_,⟨A,cc,xs,_,_,_,h4⟩,_⟩:=h
 obtain⟨k,hk⟩:=List.getElem?_of_mem hq
 exact cj.size (h4.at_ k q hk)
theorem sw{M:Nat}(n:Nat)(a b:Nat→Rat)(ha:∀j,j<n→aC (a j)≤M)(hb:∀j,j<n→aC (b j)≤M):aC (bL n a b)≤n*(2*M+2)+1:=by
 unfold bL
 induction n with
 | zero=>rw[vW,Nat.zero_mul];exact(show aC (0:Rat)≤1 by decide)
 | succ n ih=>
  rw[eG,Nat.succ_mul]
  have h1:=FO (aN n (fun j=>a j*b j)) (a n*b n)
  have h2:=nN (a n) (b n)
  have h3:=ih (fun j hj=>ha j (by omega)) (fun j hj=>hb j (by omega))
  have h4:=ha n (by omega)
  have h5:=hb n (by omega)
  omega
theorem aM.rat{N:Nat}{H:Heap}{v:Value}{l:List Rat}(h:aM (ca N) 3 H v l):∃A c xs,v = .slice A l.length c∧Rd H A xs∧∀(i:Nat)(q:Rat),l[i]? = some q→∃f A1 m1 c1 A2 m2 c2,cj H (.agg #[.bool f,.slice A1 m1 c1,.slice A2 m2 c2]) q N∧∀(j:Nat)(u:Value),[.bool f,.slice A1 m1 c1,.slice A2 m2 c2][j]? = some u→xs[i*3+j]? = some u:=by
 obtain⟨A,c,xs,h1,_,h3,h4⟩:=h
 refine⟨A,c,xs,h1,h3,fun i q hq=> ?_⟩
 obtain⟨vs,_,h5,h6⟩:=h4.get hq
 obtain⟨f,u,w,l1,l2,k1,k2,k3,_⟩:=id h5
 obtain⟨A1,c1,rfl,_⟩:=k2
 obtain⟨A2,c2,rfl,_⟩:=k3
 obtain rfl:=tV k1
 exact⟨f,_,_,_,_,_,_,h5,h6⟩
def lI(p:Prg)(y:List Rat)(i j:Nat):Rat:=aN i (fun k=>fn y k*p.lp.a k j)
def sx(p:Prg)(y:List Rat)(i:Nat):Rat:=aN i (fun k=>fn y k*p.lp.b k)
theorem OR(p:Prg)(y:List Rat)(i j:Nat):lI p y (i+1) j=lI p y i j+fn y i*p.lp.a i j:=rfl
theorem OS(p:Prg)(y:List Rat)(i:Nat):sx p y (i+1)=sx p y i+fn y i*p.lp.b i:=rfl
theorem Prg.OT{p:Prg}{M:Nat}(h:∀(i:Nat)(r:List Rat×Int×Rat),p.rows[i]? = some r→∀q,q∈r.1→aC q≤M)(h1:1≤M)(k j:Nat)(hk:k<p.rows.length):aC (p.lp.a k j)≤M:=by
 show aC (fn (p.row k).1 j)≤M
 rw[Prg.l7 (List.getElem?_eq_getElem hk)]
 by_cases hj:j<(p.rows[k]).1.length
 ·exact h k _ (List.getElem?_eq_getElem hk) _ (my hj)
 ·rw[Ln (by omega)];exact Nat.le_trans (show aC (0:Rat)≤1 by decide) h1
theorem Fn.yes{P:Program}{f:FuncId}{args:Array Value}{H:Heap}{Q:Prop}(h:Fn P f args H (fun v H'=>Heap.le H H'∧∃b,v = .bool b∧(b=true↔Q)))(hq:Q):Fn P f args H (fun v H'=>Heap.le H H'∧v = .bool true):=
 h.mono fun v H' ⟨h1,b,h2,h3⟩=>⟨h1,by rw[h2,h3.2 hq]⟩
theorem Fn.no{P:Program}{f:FuncId}{args:Array Value}{H:Heap}{Q:Prop}(h:Fn P f args H (fun v H'=>Heap.le H H'∧∃b,v = .bool b∧(b=true↔Q)))(hq:¬Q):Fn P f args H (fun v H'=>Heap.le H H'∧v = .bool false):=
 h.mono fun v H' ⟨h1,b,h2,h3⟩=>⟨h1,by
  cases b with
  | false=>exact h2
  | true=>exact absurd (h3.1 rfl) hq⟩
theorem dN.YJ{N:Nat}{H:Heap}{v:Value}{p:Prg}(h:dN N H v p):∃Af cf Ar cr,v = .agg #[.slice Af p.free.length cf,.slice Ar p.rows.length cr]:=by
 obtain⟨fv,rv,rfl,⟨Af,cf,_,rfl,_⟩,Ar,cr,_,rfl,_⟩:=h
 exact⟨Af,cf,Ar,cr,rfl⟩
end Go.au
namespace Go.au
open Go.Proofs Num Lp
structure fR{α:Type}(P:Heap→List Value→α→Prop)(e sz:Nat)(Hb H:Heap)(v:Value)(l:List α)(xs:List Value):Prop where
 own:bm H v e sz l.length xs
 AP:bF (P (rem H (a6 v))) sz xs l
 base:Heap.le Hb (rem H (a6 v))
section
variable {α:Type} {P:Heap→List Value→α→Prop} {e sz:Nat} {Hb H H':Heap} {v v':Value} {l:List α} {xs:List Value}
theorem fR.le(h:fR P e sz Hb H v l xs):Heap.le Hb H:=h.base.trans (bE _ _)
theorem fR.sl(h:fR P e sz Hb H v l xs)(up:Up P):aM P sz H v l:=FM.sl ⟨xs,h.own,h.AP.mono fun vs a=>up _ _ vs a (bE _ _)⟩
theorem OU:a6 (.slice none 0 0) = []:=rfl
theorem YK(H:Heap):fR P e sz H H (.slice none 0 0) [] []:=⟨oG H e sz,rz,by rw[OU,ry];exact .refl _⟩
theorem fR.YL(h:fR P e sz Hb H v l xs):∀q,q∈a6 v→H q≠none:=fun q hq=>by
 obtain⟨en,he⟩:=h.own.block (fP.1 hq)
 rw[he];simp
theorem fR.step(h:fR P e sz Hb H v l xs)(up:Up P)(hs:∀q,q∈a6 v→H' q=H q)(hl:Heap.le (rem H (a6 v)) (rem H' (a6 v))):fR P e sz Hb H' v l xs:=
 ⟨h.own.same fun q hq=>hs q (fP.2 hq),h.AP.mono fun vs a=>up _ _ vs a hl,h.base.trans hl⟩
theorem fR.ins(h:fR P e sz Hb H v l xs)(up:Up P){g:Nat}(en:aG)(hg:H g=none):fR P e sz Hb (ins H g en) v l xs:=by
 have hn:¬g∈a6 v:=fun hm=>h.YL g hm hg
 refine h.step up (fun q hq=>bD _ _ fun e=>hn (e▸hq)) ?_
 rw[yk _ hn]
 exact Heap.bh _ (by rw[bK hn];exact hg)
theorem fR.append(h:fR P e sz Hb H v l xs)(up:Up P){m:Nat}{ys:List Value}{k:List α}(hm:m=l.length+k.length)(ha:App H v e sz m (xs++ys) v' H')(hy:bF (P (rem H (a6 v))) sz ys k):fR P e sz Hb H' v' (l++k) (xs++ys):=by
 have hl:Heap.le (rem H (a6 v)) (rem H' (a6 v')):=fun q en hq=>by
  by_cases hm:q∈a6 v
  ·rw[rem_in hm]at hq;cases hq
  ·rw[bK hm]at hq
   have h1:=ha.same q en hq fun e=>hm (fP.2 e)
   have h2:¬q∈a6 v':=fun h2=>by
    have h3:=fP.1 h2
    rcases ha.at_ with h4 | ⟨g,h4,h5⟩
    ·exact hm (fP.2 (h4▸h3))
    ·rw[h4]at h3;cases h3;rw[h5]at hq;cases hq
   exact⟨en,by rw[bK h2];exact h1,.refl _⟩
 refine⟨by rw[List.length_append,←hm];exact ha.own,?_,h.base.trans hl⟩
 exact(h.AP.mono fun vs a=>up _ _ vs a hl).append (hy.mono fun vs a=>up _ _ vs a hl)
theorem fR.form(h:fR P e sz Hb H v l xs):∃A c,v = .slice A l.length c:=h.own.form
end
theorem fR.YM{α:Type}{P:Heap→List Value→α→Prop}{e sz:Nat}{Hb H:Heap}{v:Value}{l:List α}{xs:List Value}(h:fR P e sz Hb H v l xs):fR P e sz (rem H (a6 v)) H v l xs:=⟨h.own,h.AP,.refl _⟩
theorem fR.down{α:Type}{P:Heap→List Value→α→Prop}{e sz:Nat}{Hb Hc H:Heap}{v:Value}{l:List α}{xs:List Value}(h:fR P e sz Hb H v l xs)(hl:Heap.le Hc Hb):fR P e sz Hc H v l xs:=⟨h.own,h.AP,hl.trans h.base⟩
theorem YN(A0:Option Addr)(k0 c0:Nat)(z:Int)(f:Bool)(A A':Option Addr)(k c k' c':Nat):∀u,u∈[Value.slice A0 k0 c0,.int .i64 z,.bool f,.slice A k c,.slice A' k' c']→u.oneCell'=true:=fun u hu=>by
 simp only[List.mem_cons,List.not_mem_nil,or_false]at hu
 rcases hu with rfl | rfl | rfl | rfl | rfl <;> rfl
end Go.au
namespace Go.au
open Go.Proofs Num Lp Go.RowKit
def fh(w:World):Heap:=fun g=>match w.heap[g]? with | some (.cells c t _)=>some ⟨c.toList,c.size,t,false⟩ | _=>none
theorem YO{w:World}{g:Nat}{c:Array Value}{t:TypeId}{fz:Nat×Nat}(h:w.heap[g]? = some (.cells c t fz)):fh w g=some ⟨c.toList,c.size,t,false⟩:=by simp[fh,h]
theorem OV{w:World}{g:Nat}{e:aG}(h:fh w g=some e):∃c t fz,w.heap[g]? = some (.cells c t fz)∧e=⟨c.toList,c.size,t,false⟩:=by
 unfold fh at h
 split at h
 ·rename_i c t fz hc
  exact⟨c,t,fz,hc,by simpa using h.symm⟩
 ·cases h
theorem YP(w:World):Den (fh w) w:=fun g e h=>by
 obtain⟨c,t,fz,h1,rfl⟩:=OV h
 exact⟨_,h1,c,fz,rfl,rfl,(fun i v hv=>by simpa using hv),fun h=>by cases h⟩
theorem YQ{w:World}{a:Addr}{v:Value}(h:w.cell? a=some v):cell (fh w) a=some v:=by
 unfold World.cell? at h
 unfold cell
 cases hg:w.heap[a.block]? with
 | none=>rw[hg]at h;simp at h
 | some o=>
  cases o with
  | cells c t fz=>
   rw[YO hg]
   rw[hg]at h
   simpa using h
  | _=>rw[hg]at h;simp at h
theorem YR{w w':World}{H':Heap}(hle:Heap.le (fh w) H')(hd:Den H' w')(hf:Fx (fh w) w H' w'):Below w.heap.size w w':=by
 refine⟨hf.os,hf.tape,hf.output,hf.size,fun k hk=> ?_⟩
 cases hg:fh w k with
 | none=>exact(hf.gU k hk hg).1
 | some e=>
  obtain⟨c,t,fz,h1,rfl⟩:=OV hg
  obtain⟨e',h2,h3⟩:=hle k _ hg
  obtain⟨o,h4,c1,QM,rfl,h5,h6,_⟩:=hd k e' h2
  obtain⟨c2,h7,h8⟩:=hf.form k c t fz h1
  rw[h4]at h7
  simp only[Option.some.injEq,Obj.cells.injEq]at h7
  obtain⟨rfl,h9,rfl⟩:=h7
  rw[h4,h1,h9]
  have:c1=c:=by
   apply Array.ext_getElem?
   intro i
   by_cases hi:i<c.size
   ·have fU:e'.xs[i]? = some c[i]:=Et h3.2.2.2 (by simp[hi])
    rw[h6 i _ fU];simp[hi]
   ·rw[Array.getElem?_eq_none (by omega),Array.getElem?_eq_none (by omega)]
  rw[this]
theorem Fn.law{P:Program}{f:FuncId}{args:Array Value}{w:World}(h:Fn P f args (fh w) (fun v H'=>Heap.le (fh w) H'∧v = .bool true)):Calls P f args w fun e w'=>e = .returned (.bool true)∧Below w.heap.size w w':=
 (h.run w (YP w)).mono fun _ _ ⟨v,he,H',⟨h1,h2⟩,h3,h4⟩=>⟨by rw[he,h2],YR h1 h3 h4⟩
section
variable {Hy:Type} {enc:TypeId×Value→Hy} {P:Program} {w:World} {spare:Nat→Bool} {held:Bool}
theorem YS{α:Type}{Q:List Value→α→Prop}{sz:Nat}{xs cs:List Value}{l:List α}{b:α}(h:bF Q sz xs l)(hb:Q cs b)(hl:cs.length=sz):bF Q sz (xs++cs) (l ++ [b]):=h.append (p8 hb hl)
theorem YT{H:Heap}{a:Addr}{xs cs:List Value}(h:Rd H (some a) xs)(k:∀i v,cs[i]? = some v→cell H (a.add (xs.length+i))=some v):Rd H (some a) (xs++cs):=fun i v hv=>by
 by_cases hi:i<xs.length
 ·rw[List.getElem?_append_left hi]at hv;exact h i v hv
 ·rw[List.getElem?_append_right (by omega)]at hv
  have:=k _ _ hv
  rw[show xs.length+(i-xs.length)=i by omega]at this
  exact⟨a,rfl,this⟩
theorem D5{α:Type}{Q:Heap→List Value→α→Prop}{t e sz:Nat}(ht:P.underlying t=some (.slice e))(hc:P.cellsOf e=sz)(hp:0<sz)(hq:∀n cs x,cs.length=sz→DataW.trod enc P w 0 spare held n e cs=some x→∃a,Q (fh w) cs a)
  {n:Nat} {cs:List Value} {x:DataW Hy×List MemPlace} (h:DataW.trod enc P w 0 spare held n t cs=some x):∃v l,cs = [v]∧aM Q sz (fh w) v (l:List α)∧l.length≤maxLen:=by
 rcases Deep.open_slice ht h with ⟨rfl,_⟩ | ⟨a,len,cap,m,n',D,Pl,rfl,_,hl,hm,YU,_,hx⟩
 ·exact⟨_,[],rfl,AJ,Nat.zero_le _⟩
 ·have HZ:len≤m:=by rw[YU];split <;> omega
  rw[hc]at hx
  have key:∀k,k≤len→∃xs l,l.length=k∧bF (Q (fh w)) sz xs (l:List α)∧Rd (fh w) (some a) xs:=by
   intro k
   induction k with
   | zero=>exact fun _=>⟨[],[],rfl,rz,Rd.nil _ _⟩
   | succ k ih=>
    intro hk
    obtain⟨xs,l,h1,h2,h3⟩:=ih (by omega)
    obtain⟨bH,h4,h5⟩:=hx k (by omega)
    obtain⟨_,h6,h7⟩:=World.cells?_some h4
    obtain⟨b,hb⟩:=hq _ _ _ h6 h5
    refine⟨xs++bH,l ++ [b],by simp[h1],YS h2 hb h6,YT h3 fun i v hv=> ?_⟩
    have hi:=(List.getElem?_eq_some_iff.1 hv).1
    have h8:=h7 i (by omega)
    rw[hv,add_add]at h8
    rw[h2.len,h1];exact YQ h8
  obtain⟨xs,l,h1,h2,h3⟩:=key len (Nat.le_refl _)
  refine⟨_,l,rfl,⟨some a,cap,xs,by rw[h1],by omega,h3,h2⟩,by omega⟩
theorem wf_u32{z:Int}(h:(Lit.int .u32 z).wf=true):0≤z∧z<4294967296:=by
 simp[Lit.wf,IntKind.min,IntKind.max,IntKind.signed,IntKind.bits]at h;omega
theorem OW{t e:Nat}(ht:P.underlying t=some (.slice e))(he:P.underlying e=some (.int .u32))(hc:P.cellsOf e=1){n:Nat}{cs:List Value}{x:DataW Hy×List MemPlace}(h:DataW.trod enc P w 0 spare held n t cs=some x):
  ∃v l,cs = [v]∧fI (fh w) v l∧(∀y,y∈l→y<4294967296)∧l.length≤maxLen:=by
 obtain⟨v,l,rfl,⟨A,c,xs,rfl,h2,h3,h4⟩,h5⟩:=D5 (α:=Nat) (Q:=fun _ vs a=>vs = [.int .u32 (Int.ofNat a)]∧a<4294967296) ht hc (by decide) (fun n cs x hl h=>by
  obtain⟨z,rfl,_,hz⟩:=DataW.trod_int he h
  obtain⟨h1,h2⟩:=wf_u32 hz
  exact⟨z.toNat,by rw[show Int.ofNat z.toNat=z from Int.toNat_of_nonneg h1],by omega⟩) h
 refine⟨_,l,rfl,⟨A,c,rfl,h2,?_⟩,fun y hy=> ?_,h5⟩
 ·have:xs=U l:=by
   apply List.ext_getElem?
   intro i
   by_cases hi:i<l.length
   ·obtain⟨u,h6,h7⟩:=h4.one (List.getElem?_eq_getElem hi)
    rw[h6,cA (List.getElem?_eq_getElem hi)]
    have:=h7.1
    simpa using this
   ·rw[List.getElem?_eq_none (by rw[h4.len];omega),List.getElem?_eq_none (by rw[s5];omega)]
  rw[←this];exact h3
 ·obtain⟨i,hi⟩:=List.getElem?_of_mem hy
  exact(h4.at_ i y hi).2
theorem YV{t f0 f1 lu:Nat}{F0 F1 F2:Field}(ht:P.underlying t=some (.struct #[F0,F1,F2]))(e0:F0.type=f0∧F0.offset=0)(e1:F1.type=f1∧F1.offset=1)(e2:F2.type=f1∧F2.offset=2)(hb:P.underlying f0=some .bool)(hl:P.underlying f1=some (.slice lu))(hu:P.underlying lu=some (.int .u32))(hc:P.cellsOf lu=1)(c0:P.cellsOf f0=1)(c1:P.cellsOf f1=1)
  {n:Nat} {cs:List Value} {x:DataW Hy×List MemPlace} (h:DataW.trod enc P w 0 spare held n t cs=some x) (e7:cs.length=3):∃q,ca maxLen (fh w) cs q:=by
 match cs,e7 with
 | [a,b,c],_=>
  obtain⟨y0,y1,y2,m,_,_,h0,h1,h2⟩:=Deep.trod_struct3 ht h
  rw[e0.1,e0.2,c0]at h0
  rw[e1.1,e1.2,c1]at h1
  rw[e2.1,e2.2,c1]at h2
  obtain⟨f,k0,_⟩:=DataW.trod_bool hb h0
  obtain⟨u,l1,k1,k2,k3,k4⟩:=OW hl hu hc h1
  obtain⟨v,l2,k5,k6,k7,k8⟩:=OW hl hu hc h2
  simp at k0 k1 k5
  subst k0 k1 k5
  exact⟨_,_,_,_,l1,l2,rfl,k2,k6,k3,k7,k4,k8,rfl⟩
end
section
variable {Hy:Type} {enc:TypeId×Value→Hy} {w:World} {spare:Nat→Bool} {held:Bool}
theorem OX:Tryz.prog.cellsOf 29=3:=by kernel_rfl
theorem OY{n:Nat}{cs:List Value}{x:DataW Hy×List MemPlace}(h:DataW.trod enc Tryz.prog w 0 spare held n 29 cs=some x)(e7:cs.length=3):∃q,ca maxLen (fh w) cs q:=
 YV Tryz.underlying29 ⟨rfl,rfl⟩ ⟨rfl,rfl⟩ ⟨rfl,rfl⟩ Tryz.underlying4 Tryz.underlying27 Tryz.underlying92 (by kernel_rfl) (by kernel_rfl) (by kernel_rfl) h e7
theorem OZ{n:Nat}{cs:List Value}{x:DataW Hy×List MemPlace}(h:DataW.trod enc Tryz.prog w 0 spare held n 26 cs=some x):∃v l,cs = [v]∧aM (ca maxLen) 3 (fh w) v l:=
 let ⟨v,l,h1,h2,_⟩:=D5 (Q:=ca maxLen) Tryz.underlying26 OX (by decide) (fun _ _ _ hl h=>OY h hl) h
 ⟨v,l,h1,h2⟩
theorem O0{n:Nat}{cs:List Value}{x:DataW Hy×List MemPlace}(h:DataW.trod enc Tryz.prog w 0 spare held n 31 cs=some x)(e7:cs.length=5):∃r,ep maxLen (fh w) cs r:=by
 match cs,e7 with
 | [a,b,c,d,e],_=>
  obtain⟨y0,y1,y2,m,_,_,h0,h1,h2⟩:=Deep.trod_struct3 Tryz.underlying31 h
  have c0:Tryz.prog.cellsOf 26=1:=by kernel_rfl
  have c1:Tryz.prog.cellsOf 3=1:=by kernel_rfl
  obtain⟨v,l,k0,k1⟩:=OZ h0
  obtain⟨z,k2,_⟩:=DataW.trod_int Tryz.underlying3 h1
  simp only[c0,c1,OX]at k0 k2 h2
  simp at k0 k2
  subst k0 k2
  obtain⟨q,hq⟩:=OY h2 (by simp)
  have qS:cj (fh w) (.agg #[c,d,e]) q maxLen:=hq
  obtain⟨f,u,w',l1,l2,e1,hr⟩:=id qS
  have e2:=tV (vs:=[c,d,e]) e1
  simp only[List.cons.injEq,and_true]at e2
  obtain⟨rfl,rfl,rfl⟩:=e2
  exact⟨(l,z,q),_,_,_,_,rfl,k1,qS⟩
set_option maxRecDepth 100000 in
theorem YW{v:Value}{d:DataW Hy}{ps:List MemPlace}{b0:Nat}{rr:Reach}(hv:Value.okWide Tryz.prog w rr b0 25 v)(h:DataW.Trod enc Tryz.prog w 0 spare held 25 v d ps):∃p,dN maxLen (fh w) v p:=by
 obtain⟨cs,rfl,bZ⟩:=WideShapes.okWide_struct Tryz.underlying25 hv
 have hC:Tryz.prog.cellsOf 25=2:=by kernel_rfl
 obtain⟨cs,rfl⟩:∃l:List Value,cs=l.toArray:=⟨cs.toList,by simp⟩
 match cs,(show cs.length=2 by rw[hC]at bZ;simpa using bZ)with
 | [a,b],_=>
  obtain⟨fuel,hf⟩:=h
  obtain⟨y0,y1,m,_,_,h0,h1⟩:=ChangeShapes.trod_struct2 Tryz.underlying25 hf
  have c0:Tryz.prog.cellsOf 22=1:=by kernel_rfl
  have c1:Tryz.prog.cellsOf 23=1:=by kernel_rfl
  have c2:Tryz.prog.cellsOf 4=1:=by kernel_rfl
  have c3:Tryz.prog.cellsOf 31=5:=by kernel_rfl
  obtain⟨fv,fl,k0,k1,_⟩:=D5 (α:=Bool) (Q:=zH) Tryz.underlying22 c2 (by decide) (fun n cs x hl h=>by
   obtain⟨b,rfl,_⟩:=DataW.trod_bool Tryz.underlying4 h
   exact⟨b,rfl⟩) h0
  obtain⟨rv,rl,k2,k3,_⟩:=D5 (Q:=ep maxLen) Tryz.underlying23 c3 (by decide) (fun n cs x hl h=>O0 h hl) h1
  simp only[c0,c1]at k0 k2
  simp[Value.cells]at k0 k2
  subst k0 k2
  exact⟨⟨fl,rl⟩,_,_,rfl,k1,k3⟩
set_option maxRecDepth 100000 in
theorem YX{v:Value}{d:DataW Hy}{ps:List MemPlace}{b0:Nat}{rr:Reach}(hv:Value.okWide Tryz.prog w rr b0 26 v)(h:DataW.Trod enc Tryz.prog w 0 spare held 26 v d ps):∃l,aM (ca maxLen) 3 (fh w) v l:=by
 obtain⟨a,len,cap,rfl⟩:=WideShapes.okWide_slice Tryz.underlying26 hv
 obtain⟨fuel,hf⟩:=h
 obtain⟨v',l,k0,k1⟩:=OZ hf
 simp[Value.cells]at k0
 subst k0
 exact⟨l,k1⟩
set_option maxRecDepth 100000 in
theorem YY{v:Value}{d:DataW Hy}{ps:List MemPlace}{b0:Nat}{rr:Reach}(hv:Value.okWide Tryz.prog w rr b0 31 v)(h:DataW.Trod enc Tryz.prog w 0 spare held 31 v d ps):∃cs r,v = .agg (List.toArray cs)∧ep maxLen (fh w) cs r:=by
 obtain⟨cs,rfl,bZ⟩:=WideShapes.okWide_struct Tryz.underlying31 hv
 have hC:Tryz.prog.cellsOf 31=5:=by kernel_rfl
 obtain⟨cs,rfl⟩:∃l:List Value,cs=l.toArray:=⟨cs.toList,by simp⟩
 have hl:cs.length=5:=by rw[hC]at bZ;simpa using bZ
 obtain⟨fuel,hf⟩:=h
 obtain⟨r,hr⟩:=O0 (cs:=cs) (by simpa [Value.cells]using hf) hl
 exact⟨cs,r,rfl,hr⟩
end
end Go.au
