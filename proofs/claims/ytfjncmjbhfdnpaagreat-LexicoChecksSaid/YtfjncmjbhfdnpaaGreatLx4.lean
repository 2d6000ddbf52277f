/- Walks over package lexico, part 4: fix. -/
import Derived.Test.YtfjncmjbhfdnpaaGreatA10
import Derived.Test.YtfjncmjbhfdnpaaGreatLx3
import Derived.Test.YtfjncmjbhfdnpaaGreatLsz
import Derived.Test.YtfjncmjbhfdnpaaGreatRat4
set_option linter.unusedVariables false
namespace Go.ay
open Go.Proofs Num Lp
theorem afm{H:Heap}{v:Value}{t:RC}{p:Prg}{q:Rat}{N M:Nat}(hp:cN N H v p)(hq:bN H t.v q N)(aP:p.Ok)(hn:0<p.free.length)(hN:N≤400000000)(VD:N≤M)(hM:∀r,r∈p.rows→aJ (r.2.2-fn r.1 0*q)≤M):
 Fn Tryz.prog 87 #[v,t.v] H (fun v' H'=>Heap.le H H'∧∃A1 k1 c1 A2 k2 c2,v' = .agg #[.slice A1 k1 c1,.slice A2 k2 c2]∧cN M H' v' (gC p q)):=by
 obtain⟨fv,fG,rfl,cB,cF⟩:=id hp
 obtain⟨Af,cf,xf,rfl,ea,eH⟩:=cB.one
 obtain⟨Ar,cr,xr,rfl,fO,cL,du⟩:=id cF
 have dY:=aP.dR
 have iQ:=aP.rows
 have hcF:=aC.cap cB
 have hzq:=hq.size;refine aU (args:=[_,_]) Tryz.func87 rfl rfl Tryz.ntmps87 rfl rfl fun w0=> ?_;refine ag [0,1] rfl ?_;refine ae ?_;refine bF rfl rfl ?_;refine bF rfl rfl ?_;refine bh lA rfl ?_;refine ab [2,3,4] ?_;refine ae ?_;refine vr 2 ?_;refine pP (l:=1) (h:=p.free.length) af rfl rfl (.inr ⟨_,_,rfl,rfl⟩) (.inl ⟨rfl,rfl⟩) (by omega) (by omega) ?_;refine ar rfl rfl (Vo (cB.from (k:=1) (by omega)) (by rw[List.length_drop];omega)) ?_;rintro _ H1 ⟨aI,zx⟩;obtain⟨E1,d1,_,rfl,_⟩:=id zx;refine dW af rfl lA rfl rfl ?_;refine bh lA rfl ?_;obtain⟨ti,aj,ak⟩:=jU;refine aG (.inl ⟨rfl,rfl⟩) rfl rfl rfl aj ak rfl rfl rfl ?_;refine ab [2,3,4,5] ?_;refine al ?_;refine ae ?_;refine vr 4 ?_;refine ab [3,4,5,15,16,17] ?_;refine aD ?_;refine jv (fun(i:Nat)(w:Value)(ys:List Value)=>p.rows.length-i) (fun(i:Nat)(w:Value)(ys:List Value)=>put (put (put (put (put (put (emp) 3 (.box [.bool t.f,.slice t.A1 t.m1 t.c1,.slice t.A2 t.m2 t.c2])) 4 (.box [.slice none 0 0,.slice none 0 0])) 5 (.box [.slice E1 (p.free.drop 1).length d1,w])) 15 (.val (.slice Ar p.rows.length cr))) 16 (.val (.int .i64 (p.rows.length:Int)))) 17 (.val (.int .i64 (i:Int)))) (fun(i:Nat)(w:Value)(ys:List Value) H'=>eA (eZ M) 78 5 H1 H' w ((p.rows.take i).map (fun r:List Rat×Int×Rat=>(r.1.drop 1,r.2.1,r.2.2-fn r.1 0*q))) ys∧i≤p.rows.length) 0 (.slice none 0 0) [] (⟨Cb H1,Nat.zero_le _⟩) au ?_
 rintro i w ys H2 ⟨hG,hi⟩;obtain⟨W,cw,rfl⟩:=hG.form
 have kH:((p.rows.take i).map (fun r:List Rat×Int×Rat=>(r.1.drop 1,r.2.1,r.2.2-fn r.1 0*q))).length=i:=by rw[List.length_map,List.length_take];omega
 have aW:=aI.trans hG.base;refine ae ?_;refine vr 1 ?_;refine ab [3,4,5,15,16,17,18] ?_;refine al ?_;refine az rfl (fun hb=> ?_) (fun hb=> ?_)
 ·
  have cQ:i<p.rows.length:=by simpa using hb
  obtain⟨r,hr⟩:∃r,p.rows[i]? = some r:=⟨_,List.getElem?_eq_getElem cQ⟩;have nD:=List.mem_of_getElem? hr;have uj:=(aP.row i r hr).1;obtain⟨A0,c0,f,A1,m1,c1,A2,m2,c2,eC,dS,eI,dL⟩:=aC.uL du hr;have pb:=dS.cap;obtain⟨NL,NM,x0,e0,ahe,oV,Ag⟩:=id dS
  cases e0
  obtain⟨a,Cq⟩:∃a,r.1[0]? = some a:=⟨_,List.getElem?_eq_getElem (by omega)⟩;have l0:fn r.1 0=a:=gq Cq;obtain⟨g6,G1,n1,o1,G2,n2,o2,NI,s0,FJ⟩:=aC.jP Ag Cq;have jI:=s0.size;have iK:=eI.size;have q6:=nx a q;refine aw ?_;refine ag [3,4,5,15,16,17] rfl ?_;refine al ?_;refine aD ?_;refine ae ?_;refine cI (vs:=[.slice A0 r.1.length c0,.int .i64 r.2.1,.bool f,.slice A1 m1 c1,.slice A2 m2 c2]) af rfl rfl rfl rfl (cL.le (aI.trans hG.le)) rfl (by decide) dL (by omega) (by omega) fun _=> ?_;refine bh gY rfl ?_;obtain⟨ti,aj,ak⟩:=rU;refine aG (.inl ⟨rfl,rfl⟩) rfl rfl rfl aj ak rfl rfl rfl ?_;refine ab [3,4,5,7,15,16,17] ?_;refine bL .bn [0,1,2,3,4,5,6,7,8,9,10] follows (by kernel_rfl) ?_;refine vr 4 ?_;refine cI (vs:=[.bool g6,.slice G1 n1 o1,.slice G2 n2 o2]) af rfl rfl rfl rfl (oV.le (aI.trans hG.le)) rfl (by decide) FJ (by omega) (by omega) fun _=> ?_;refine vr 1 ?_;refine aH rfl rfl (hG.call (K1 (N:=N) (s0.le aW) (hq.le aW) (by omega))) (fun _ _ h=>h.le fun _ _ h=>h.1) ?_;rintro _ H5 iD;have ij:=hG.mm (gK M) iD fun _ _ h=>h.1;obtain⟨⟨_,ja⟩,_⟩:=iD;obtain⟨f5,UP,UQ,UR,US,UT,UU,rfl⟩:=ja.form;refine aH rfl rfl (ij.call (afn (N:=2*N+4) ((eI.mono (by omega)).le (aI.trans ij.base)) ((cJ.raw ja).mono (by omega)) (by omega))) (fun _ _ h=>h.le fun _ _ h=>h.1) ?_
  rintro _ H6 mr;have iR:=ij.mm (gK M) mr fun _ _ h=>h.1;obtain⟨⟨_,kY⟩,_⟩:=mr;obtain⟨f6,mT,mU,mV,mW,mX,mY,rfl⟩:=kY.form;have uU:eZ M (rem H6 (aB (.slice W ((p.rows.take i).map (fun r:List Rat×Int×Rat=>(r.1.drop 1,r.2.1,r.2.2-fn r.1 0*q))).length cw))) [.slice (if c0=1 then A0 else A0.map (·.add (1*3))) (r.1.length-1) (c0-1),.int .i64 r.2.1,.bool f6,.slice mT mU mV,.slice mW mX mY] (r.1.drop 1,r.2.1,r.2.2-fn r.1 0*q):=⟨_,_,_,_,rfl,((dS.le (a8 N) (aI.trans iR.base)).from (k:=1) (by omega)).mono fun _ _ h=>aS.mono h VD,by rw[l0];exact(cJ.raw kY).mono (by have h9:=hM r nD;rwa [l0]at h9)⟩;refine bh cM rfl ?_;obtain⟨ti,aj,ak⟩:=bM;refine aG (.inl ⟨rfl,rfl⟩) rfl rfl rfl aj ak rfl rfl rfl ?_;refine ab [3,4,5,7,8,15,16,17] ?_;refine eT .bn [0,1,2,3,4,5,6,7,8,9,10,11,12] follows (by kernel_rfl) ?_;refine vr 4 ?_;refine pP (l:=1) (h:=r.1.length) af rfl rfl (.inr ⟨_,_,rfl,rfl⟩) (.inl ⟨rfl,rfl⟩) (by omega) (by omega) ?_;refine vr 3 ?_;refine dW af rfl gY rfl rfl ?_;refine dM Tryz.underlying23 gY rfl rfl rfl rfl rfl rfl rfl ?_;intro gd iW;have gW:=iR.ins (gK M) (whole (cT [.agg #[.slice (if c0=1 then A0 else A0.map (·.add (1*3))) (r.1.length-1) (c0-1),.int .i64 r.2.1,.bool f6,.slice mT mU mV,.slice mW mX mY]]) 78) iW
  refine eW Tryz.underlying23 gY rfl rfl gW.own (fu _ _ _ _ _ _) rfl (FD _ _ _ _ _ _ _ _ _ _ _) (by rw[kH];omega) (by rw[kH];omega) ?_;intro v8 H8 qu;have iz:=gW.append (gK M) (k:=[(r.1.drop 1,r.2.1,r.2.2-fn r.1 0*q)]) (by simp) qu (jn (gK M _ _ _ _ (r8 _ (Heap.bC _ iW)) uU) rfl);obtain⟨F8,g8,rfl⟩:=iz.form;refine vr 1 ?_;obtain⟨ti,aj,ak⟩:=C2;refine aG (.inr rfl) rfl rfl rfl aj ak rfl rfl rfl ?_;refine aA ?_;refine ag [3,4,5,15,16,17] rfl ?_;refine aE rfl ?_;refine aN rfl rfl ⟨by omega,by omega⟩ ?_;refine vr 1 ?_;refine aA ?_;exact⟨i+1,_,_,by omega,au,by rw[tms hr];exact iz,by omega⟩
 ·
  have hb:p.rows.length≤i:=by simpa using hb
  obtain rfl:i=p.rows.length:=by omega
  have hR:=hG.sl (gK M);rw[List.take_length]at hR⊢;refine bB ?_;refine ag [4,5] rfl ?_;refine ae ?_;refine vr 1 ?_;obtain⟨ti,aj,ak⟩:=jU;refine aG (.inl ⟨rfl,rfl⟩) rfl rfl rfl aj ak rfl rfl rfl ?_;refine ab [4] ?_;obtain⟨bX,aK,aL⟩:=jU;refine aq ⟨.inr rfl,_,.agg rfl Tryz.underlying25 aK aL (.nil),?_⟩;exact⟨aI.trans hG.le,_,_,_,_,_,_,rfl,_,_,rfl,zx.le qt hG.le,hR⟩
end Go.ay
