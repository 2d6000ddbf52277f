/- Part 16 of the proof: En6, Law1, Sane1, Smp2, Smp3, Smp4, Smp5, Smp6, Smp7, Smp8, Sane2, Law2, Law3, Vl, En7, Lw1, Lst, Lsz, Lx4, Lx5, Sn3, Same, Lw2, Lw7, Lw3, Chk2, Lw8, Smp9, Lw9, Spo, Plc, Lw10, Cmx, Lw12, Ep, Ep2, Ef1, Ef2, El. -/
import Derived.Test.YtdjoookebbbjkaaGreatA15
set_option linter.unusedVariables false
namespace Go.aq
open Go.Proofs Num Lp
def mK(vs:List Int)(f:aO):List Rat×Int×Rat:=(vs.map (fun v=>((f.bN v:Int):Rat)),(3:Int),((-f.c:Int):Rat))
theorem NG{α:Type}{H:Heap}{v:Value}{l:List α}{g:α→Int}(h:aQ bV 3 H v (l.map (fun a=>((g a:Int):Rat))))(hg:∀a,a∈l→-1048576≤g a∧g a≤1048576):aQ (dI 1) 3 H v (l.map (fun a=>((g a:Int):Rat))):=h.zL fun q hq=>by
 obtain⟨a,h1,rfl⟩:=List.mem_map.1 hq
 exact uH (hg a h1)
theorem alT{H:Heap}{v vv:Value}{fs:List aO}{vs:List Int}{goal:aO}{A0:Option Addr}{c0:Nat}(hv:jV H v fs)(ma:aQ j8 1 H vv vs)(eG:aQ gy 2 H (.slice A0 goal.ts.length c0) goal.ts)(bO:∀(i:Nat)(f:aO),fs[i]? = some f→eK f)(dF:eK goal)(lh:fs.length≤6)(wm:vs.length≤100):
 Fn Tryz.prog 32 #[v,vv,.agg #[.int .i64 goal.c,.slice A0 goal.ts.length c0]] H (NC (mG fs vs) (vW goal vs) H):=by
 obtain⟨A,c,xs,rfl,hc,hr,hx⟩:=id hv
 obtain⟨Av,cv,xv,rfl,bm,ka,ny⟩:=id ma
 have Ji:=dF.len;refine aZ (args:=[_,_,_]) Tryz.func32 rfl rfl Tryz.ntmps32 rfl rfl fun w0=> ?_;refine ah [0,1,2] rfl ?_;refine ae (bY rfl rfl (bh vd rfl (aa 1 rfl (ab [0,1,5,6] ?_))));refine ae (cL ag rfl wF rfl rfl (bh wF rfl ?_));obtain⟨ti,aj,ak⟩:=De;refine aH (.inl ⟨rfl,rfl⟩) rfl rfl rfl aj ak rfl rfl rfl (ab [0,1,5,6,8] ?_);refine ae (aa 1 rfl (ab [0,1,5,6,8,9] ?_));refine ao (ae (aa 3 rfl (ab [0,1,5,6,8,9,18,19,20] ?_)));refine aE (pC (fun(i:Nat)(w:Value×Value)(xs:List Value)(ys:List Value)=>vs.length-i) (fun(i:Nat)(w:Value×Value)(xs:List Value)(ys:List Value)=>put (put (put (put (put (put (put (put (put (emp) 0 (.val (.slice A fs.length c))) 1 (.val (.slice Av vs.length cv))) 5 (.box [.int .i64 goal.c,.slice A0 goal.ts.length c0])) 6 (.box [.int .i64 0,.bool false,.slice none 0 0,.slice none 0 0,.slice none 0 0,.slice none 0 0,.slice none 0 0])) 8 (.box [w.1,.slice none 0 0])) 9 (.val (w.2))) 18 (.val (.slice Av vs.length cv))) 19 (.val (.int .i64 (vs.length:Int)))) 20 (.val (.int .i64 (i:Int)))) (fun(i:Nat)(w:Value×Value)(xs:List Value)(ys:List Value) H'=>gV pV 4 1 bV 38 3 H H' w.1 ((vs.take i).map (fun _=>true)) xs w.2 ((vs.take i).map (fun v=>((goal.bN v:Int):Rat))) ys∧i≤vs.length) 0 (.slice none 0 0,.slice none 0 0) [] [] (⟨(xR H).two,Nat.zero_le _⟩) ar ?_)
 rintro i w xs ys H1 ⟨hG,hi⟩;obtain⟨w1,w2⟩:=w
 simp only at hG
 obtain⟨W,cw,rfl⟩:=hG.form;obtain⟨U,cu,rfl⟩:=hG.ZI
 have abI:((vs.take i).map (fun _=>true)).length=i:=by rw[List.length_map,List.length_take];omega
 have Lh:((vs.take i).map (fun v=>((goal.bN v:Int):Rat))).length=i:=by rw[List.length_map,List.length_take];omega
 refine ae (aa 1 rfl (ab [0,1,5,6,8,9,18,19,20,21] ?_));refine ao (aD rfl (fun hb=> ?_) (fun hb=> ?_))
 ·
  have aP:i<vs.length:=by simpa using hb
  obtain⟨x,tf⟩:∃x,vs[i]? = some x:=⟨_,List.getElem?_eq_getElem aP⟩;refine az (ah [0,1,5,6,8,9,18,19,20] rfl ?_);refine ao (aE (ae (aS ag rfl rfl rfl rfl rfl (ka.le hG.le) (by rw[Int.toNat_natCast];exact zO ny tf) (by omega) (by omega) fun _=> ?_)));refine aa 1 rfl (ab [0,1,5,6,8,9,11,18,19,20] ?_);refine ae (aa 2 rfl (cI Tryz.underlying52 FQ rfl rfl rfl rfl rfl rfl rfl ?_));intro gb aV;have nU:=hG.ins ug cX (whole (dS [.bool true]) 4) aV;refine dW Tryz.underlying52 FQ rfl rfl nU.own (ea _ _ _ _ _ _) rfl (aiL _) (by rw[abI];omega) (by rw[abI];omega) ?_;intro v4 H4 ha4;have kZ:=nU.append ug cX (j:=[true]) (by simp) ha4 (iE (show pV _ [_] true from rfl) rfl);obtain⟨W4,cw4,rfl⟩:=kZ.form;refine vr 1 ?_;obtain⟨ti,aj,ak⟩:=ad3;refine aH (.inr rfl) rfl rfl rfl aj ak rfl rfl rfl (ab [0,1,5,6,8,9,11,18,19,20] ?_);refine aA rfl (aa 3 rfl (aC rfl rfl (Jl (v:=x) (eG.le eZ kZ.le) (by omega)) ?_));rintro _ _ ⟨e5,rfl⟩;rw[e5];refine aC rfl rfl (kZ.call (vu (n:=goal.bN x) (by have:=dF.kY x;omega) (by have:=dF.kY x;omega)).rc) ?_;rintro _ H5 yn;have tg:=kZ.kX ug cX yn fun _ _ h=>h.1;obtain⟨⟨_,t5,rfl,dZ⟩,_⟩:=yn
  refine cI Tryz.underlying28 bQ rfl rfl rfl rfl rfl rfl rfl ?_;intro gb2 tV;have gU:=tg.ins ug cX (whole (dS [t5.v]) 38) tV;refine dW Tryz.underlying28 bQ rfl rfl gU.zN (ea _ _ _ _ _ _) rfl (zK _ _ _ _ _ _ _) (by rw[Lh];omega) (by rw[Lh];omega) ?_;intro v7 H7 re;have l0:=gU.aiX ug cX (j:=[((goal.bN x:Int):Rat)]) (by simp) re (iE (cX _ _ _ _ (pK _ (Heap.bG _ tV)) (show bV _ [_,_,_] _ from dZ)) rfl);obtain⟨U7,cu7,rfl⟩:=l0.ZI;refine aa 1 rfl (au (ah [0,1,5,6,8,9,18,19,20] rfl ?_));refine aA rfl (aF rfl rfl ⟨by omega,by omega⟩ (aa 1 rfl (au ?_)));exact⟨i+1,(_,_),_,_,by omega,ar,by rw[oZ tf,oZ tf];exact l0,by omega⟩
 ·
  have hb:vs.length≤i:=by simpa using hb
  obtain rfl:i=vs.length:=by omega
  obtain⟨hGa,Nh⟩:=hG.one ug cX
  have CA:aQ pV 1 H1 (.slice W ((vs.take vs.length).map (fun _=>true)).length cw) (vs.map (fun _=>true)):=by have h9:=hGa.sl ug;rw[List.take_length]at h9⊢;exact h9
  have zY:aQ (dI 1) 3 H1 (.slice U ((vs.take vs.length).map (fun v=>((goal.bN v:Int):Rat))).length cu) (vs.map (fun v=>((goal.bN v:Int):Rat))):=by have h9:=NG (g:=fun v=>goal.bN v) (Nh.le cX (bD _ _)) (fun v _=>dF.kY v);rw[List.take_length]at h9⊢;exact h9
  have Jr:=hG.le;refine aX (ah [0,1,6,8,9] rfl ?_);refine ao (ae (aa 3 rfl (ab [1,6,8,9,37,38,39] ?_)));refine aE (fB (fun(i:Nat)(rv:Value)(xs:List Value)=>fs.length-i) (fun(i:Nat)(rv:Value)(xs:List Value)=>put (put (put (put (put (put (put (emp) 1 (.val (.slice Av vs.length cv))) 6 (.box [.int .i64 0,.bool false,.slice none 0 0,.slice none 0 0,.slice none 0 0,.slice none 0 0,.slice none 0 0])) 8 (.box [.slice W ((vs.take vs.length).map (fun _=>true)).length cw,rv])) 9 (.val (.slice U ((vs.take vs.length).map (fun v=>((goal.bN v:Int):Rat))).length cu))) 37 (.val (.slice A fs.length c))) 38 (.val (.int .i64 (fs.length:Int)))) 39 (.val (.int .i64 (i:Int)))) (fun(i:Nat)(rv:Value)(xs:List Value) H'=>dU (fK 1) 80 5 H1 H' rv ((fs.take i).map (mK vs)) xs∧i≤fs.length) 0 (.slice none 0 0) [] (⟨xR H1,Nat.zero_le _⟩) ar ?_);rintro i rv xs H8 ⟨hR,hi⟩;obtain⟨Ar,cr,rfl⟩:=hR.form
  have pQ:((fs.take i).map (mK vs)).length=i:=by rw[List.length_map,List.length_take];omega
  have Js:=Jr.trans hR.le;refine ae (aa 1 rfl (ab [1,6,8,9,37,38,39,40] ?_));refine ao (aD rfl (fun hb=> ?_) (fun hb=> ?_))
  ·
   have aP:i<fs.length:=by simpa using hb
   obtain⟨f,hf⟩:∃f,fs[i]? = some f:=⟨_,List.getElem?_eq_getElem aP⟩;obtain⟨B,cb,nX,lb⟩:=vX hx hf;have dy:=bO i f hf;have TJ:=dy.len;have hfc:=dy.const;refine az (ah [1,6,8,9,37,38,39] rfl ?_);refine ao (aE (ae (cj ag rfl rfl rfl rfl (hr.le Js) rfl (by decide) (lb) (by omega) (by omega) fun _=>(bh il rfl ?_))));obtain⟨ti,aj,ak⟩:=yL;refine aH (.inl ⟨rfl,rfl⟩) rfl rfl rfl aj ak rfl rfl rfl (ab [1,6,8,9,13,37,38,39] ?_);refine ae (aa 2 rfl (rH rfl ⟨by omega,by omega⟩ (aC rfl rfl (hR.call (vu (n:= -f.c) (by omega) (by omega)).rc) ?_)));rintro _ H9 Jt;have Ay:=hR.kX (jC 1) Jt fun _ _ h=>h.1;obtain⟨⟨eT,t9,rfl,fW⟩,_⟩:=Jt;have TW:=Jr.trans Ay.base;refine cL ag rfl jx rfl rfl (bh jx rfl ?_);obtain⟨ti,aj,ak⟩:=nB;refine aH (.inl ⟨rfl,rfl⟩) rfl rfl rfl aj ak rfl rfl rfl (ab [1,6,8,9,13,14,37,38,39] ?_);refine ao (ae (aa 3 rfl (ab [1,6,8,9,13,14,37,38,39,48,49,50] ?_)));refine aE (fB (fun(k:Nat)(rp:Value)(zs:List Value)=>vs.length-k) (fun(k:Nat)(rp:Value)(zs:List Value)=>put (put (put (put (put (put (put (put (put (put (put (put (emp) 1 (.val (.slice Av vs.length cv))) 6 (.box [.int .i64 0,.bool false,.slice none 0 0,.slice none 0 0,.slice none 0 0,.slice none 0 0,.slice none 0 0])) 8 (.box [.slice W ((vs.take vs.length).map (fun _=>true)).length cw,.slice Ar ((fs.take i).map (mK vs)).length cr])) 9 (.val (.slice U ((vs.take vs.length).map (fun v=>((goal.bN v:Int):Rat))).length cu))) 37 (.val (.slice A fs.length c))) 38 (.val (.int .i64 (fs.length:Int)))) 39 (.val (.int .i64 (i:Int)))) 13 (.box [.int .i64 f.c,.slice B f.ts.length cb])) 14 (.box [rp,.int .i64 3,.bool t9.f,.slice t9.A1 t9.m1 t9.c1,.slice t9.A2 t9.m2 t9.c2])) 48 (.val (.slice Av vs.length cv))) 49 (.val (.int .i64 (vs.length:Int)))) 50 (.val (.int .i64 (k:Int)))) (fun(k:Nat)(rp:Value)(zs:List Value) H'=>fE (aw (.slice Ar ((fs.take i).map (mK vs)).length cr)) H9 bV 38 3 H' rp ((vs.take k).map (fun v=>((f.bN v:Int):Rat))) zs∧k≤vs.length) 0 (.slice none 0 0) [] (⟨Mo Ay.nT,Nat.zero_le _⟩) ar ?_)
   rintro k rp zs lW ⟨hX,hk⟩;obtain⟨V,Ju,rfl⟩:=hX.form
   have wK:((vs.take k).map (fun v=>((f.bN v:Int):Rat))).length=k:=by rw[List.length_map,List.length_take];omega
   have Jv:=TW.trans hX.base;refine ae (aa 1 rfl (ab [1,6,8,9,13,14,37,38,39,48,49,50,51] ?_));refine ao (aD rfl (fun hb=> ?_) (fun hb=> ?_))
   ·
    have iQ:k<vs.length:=by simpa using hb
    obtain⟨x,vF⟩:∃x,vs[k]? = some x:=⟨_,List.getElem?_eq_getElem iQ⟩;refine az (ah [1,6,8,9,13,14,37,38,39,48,49,50] rfl ?_);refine ao (aE (ae (aS ag rfl rfl rfl rfl rfl (ka.le (Jv.trans (bD _ _))) (by rw[Int.toNat_natCast];exact zO ny vF) (by omega) (by omega) fun _=> ?_)));refine aa 1 rfl (ab [1,6,8,9,13,14,16,37,38,39,48,49,50] ?_);refine eo .bJ [0,1,2,3,4,5,6,7,8,9] follows (by kernel_rfl) ?_;refine aa 4 rfl (aY rfl rfl (Jl (v:=x) (nX.le eZ (Jv.trans (bD _ _))) (by omega)) (fun _ _ h=>by first | exact h.le | exact h.1) ?_);rintro _ _ ⟨e5,rfl⟩;rw[e5];refine aY rfl rfl (hX.call (vu (n:=f.bN x) (by have:=dy.kY x;omega) (by have:=dy.kY x;omega)).rc) (fun _ _ h=>h.le fun _ _ k=>k.1) ?_;rintro _ je Jw;have TX:=hX.kX cX Jw fun _ _ h=>h.1;obtain⟨⟨_,t11,rfl,uL⟩,_⟩:=Jw;refine cI Tryz.underlying28 bQ rfl rfl rfl rfl rfl rfl rfl ?_;intro gb aV;have Jy:=TX.ins cX (whole (dS [t11.v]) 38) aV;refine dW Tryz.underlying28 bQ rfl rfl Jy.own (ea _ _ _ _ _ _) rfl (zK _ _ _ _ _ _ _) (by rw[wK];omega) (by rw[wK];omega) ?_;intro v12 dC TY;have Jz:=Jy.append cX (j:=[((f.bN x:Int):Rat)]) (by simp) TY (iE (cX _ _ _ _ (pK _ (Heap.bG _ aV)) (show bV _ [_,_,_] _ from uL)) rfl)
    obtain⟨V12,alU,rfl⟩:=Jz.form;refine vr 1 ?_;obtain⟨ti,aj,ak⟩:=J5;refine aH (.inr rfl) rfl rfl rfl aj ak rfl rfl rfl (au (ah [1,6,8,9,13,14,37,38,39,48,49,50] rfl ?_));refine aA rfl (aF rfl rfl ⟨by omega,by omega⟩ (aa 1 rfl (au ?_)));exact⟨k+1,_,_,by omega,ar,by rw[oZ vF];exact Jz,by omega⟩
   have hb:vs.length≤k:=by simpa using hb
   obtain rfl:k=vs.length:=by omega
   have Jm:(vs.take vs.length).map (fun v=>((f.bN v:Int):Rat))=vs.map (fun v=>((f.bN v:Int):Rat)):=by rw[List.take_length]
   have TZ:=Ay.step (jC 1) hX.same hX.out
   have oy:aQ (dI 1) 3 (rem lW (aw (.slice Ar ((fs.take i).map (mK vs)).length cr))) (.slice V ((vs.take vs.length).map (fun v=>((f.bN v:Int):Rat))).length Ju) (vs.map (fun v=>((f.bN v:Int):Rat))):=by have h9:=NG (g:=fun v=>f.bN v) (hX.sl cX) (fun v _=>dy.kY v);rw[Jm]at h9⊢;exact h9
   have xo:fK 1 (rem lW (aw (.slice Ar ((fs.take i).map (mK vs)).length cr))) [.slice V ((vs.take vs.length).map (fun v=>((f.bN v:Int):Rat))).length Ju,.int .i64 3,.bool t9.f,.slice t9.A1 t9.m1 t9.c1,.slice t9.A2 t9.m2 t9.c2] (mK vs f):=⟨_,_,_,_,rfl,oy,TP (by omega) (bH.le fW hX.out)⟩;refine aX (ah [1,6,8,9,14,37,38,39] rfl ?_);refine aA rfl (aa 3 rfl (cI Tryz.underlying53 jx rfl rfl rfl rfl rfl rfl rfl ?_));intro gb aV;refine zP (jC 1) (ZJ 1) Tryz.underlying53 jx rfl rfl TZ aV xo rfl (by rw[pQ];omega) (by rw[pQ];omega) ?_;intro Qd kW y13 JA _;obtain⟨A13,c13,rfl⟩:=JA.form;refine vr 1 ?_;obtain⟨ti,aj,ak⟩:=Og;refine aH (.inr rfl) rfl rfl rfl aj ak rfl rfl rfl (au (ah [1,6,8,9,37,38,39] rfl ?_));refine aA rfl (aF rfl rfl ⟨by omega,by omega⟩ (aa 1 rfl (au ?_)));exact⟨i+1,_,_,by omega,ar,by rw[oZ hf];exact JA,by omega⟩
  have hb:fs.length≤i:=by simpa using hb
  obtain rfl:i=fs.length:=by omega
  have T1:aQ (fK 1) 5 H8 (.slice Ar ((fs.take fs.length).map (mK vs)).length cr) (fs.map (mK vs)):=by have h9:=hR.sl (jC 1);rw[List.take_length]at h9⊢;exact h9
  obtain⟨M,AT,hM⟩:=abF (vs:=vs) bO dF lh wm;refine aX (ah [6,8,9] rfl ?_);refine ae (aa 2 rfl (aC rfl rfl (abz (N:=1) (p:=mG fs vs) (c:=vW goal vs) ⟨_,_,rfl,CA.le ug hR.le,T1⟩ (zY.le (r8 1) hR.le) (by decide) (ZT (by omega) (by omega)) (by simp[mG,vW]) AT hM) ?_));rintro _ zB ⟨Al,S,f20,B1,m1,e1,B2,m2,e2,Bx,ex,Bd,ed,Br,er,rfl,Aw,TU,rX,NF,TV,Gz⟩;refine vr 2 ?_;obtain⟨ti,aj,ak⟩:=pD;refine aH (.inl ⟨rfl,rfl⟩) rfl rfl rfl aj ak rfl rfl rfl (aa 1 rfl (ab [6,7] ?_));obtain⟨bP,aL,aM⟩:=pD;refine aB ⟨.inr rfl,_,.agg rfl Tryz.underlying65 aL aM (.tmp rfl (.nil)),?_⟩;exact⟨Js.trans Al,S,f20,B1,m1,e1,B2,m2,e2,Bx,ex,Bd,ed,Br,er,rfl,Aw,TU,rX,NF,TV,Gz⟩
abbrev wo:RC:=⟨false,none,0,0,none,0,0⟩
def alV(fs:List aO)(g:aO)(H:Heap)(v:Value)(H':Heap):Prop:=Heap.le H H'∧∃(t:RC)(st e:Int),v = .tuple #[t.v,.int .i64 st,.int .i64 e]∧
 ((¬(lA fs∧eK g)∧e=1∧st=0∧t=wo)∨
  (lA fs∧eK g∧e=0∧∃S:vC,zh (mG fs (dg (fs ++ [g]))) (vW g (dg (fs ++ [g]))) S∧st=S.status∧((st=1∧bH H' t.v (S.value+((g.c:Int):Rat))∧aN (S.value+((g.c:Int):Rat))≤1000000000000)∨(st≠1∧t=wo))))
theorem alW{H:Heap}{v:Value}{fs:List aO}{goal:aO}{A0:Option Addr}{c0:Nat}(hv:jV H v fs)(eG:aQ gy 2 H (.slice A0 goal.ts.length c0) goal.ts)(wk:Jq fs goal):
 Fn Tryz.prog 12 #[v,.agg #[.int .i64 goal.c,.slice A0 goal.ts.length c0]] H (alV fs goal H):=by
 obtain⟨A,c,xs,rfl,hc,hr,hx⟩:=id hv;refine aZ (args:=[_,_]) Tryz.func12 rfl rfl Tryz.ntmps12 rfl rfl fun w0=> ?_;refine ah [0,1] rfl ?_;refine ae (bY rfl rfl (bh bQ rfl (aa 2 rfl (ab [0,3,4] ?_))));refine ao (ae (aa 1 rfl (aC rfl rfl (Ny hv) ?_)));rintro _ H1 ⟨bx,b1,rfl,dY⟩
 cases b1
 ·
  skip
  refine aa 6 rfl (ab [0,3,4,17] ?_);refine cK rfl (ae (cL ag rfl bQ rfl rfl ?_));obtain⟨ti,aj,ak⟩:=aU;refine aH (.inl ⟨rfl,rfl⟩) rfl rfl rfl aj ak rfl rfl rfl (aa 2 rfl (ab [4,5,6] ?_));obtain⟨bP,aL,aM⟩:=aU;refine aB ⟨.inr rfl,_,.agg rfl Tryz.underlying38 aL aM (.tmp rfl (.tmp rfl (.nil))),?_⟩;exact⟨bx,wo,_,_,rfl,.inl ⟨fun h=>(by have h9:=dY.2 h.1;cases h9),rfl,rfl,rfl⟩⟩
 ·
  skip
  refine aa 3 rfl (aC rfl rfl (Nw (eG.le eZ bx)) ?_);rintro _ H2 ⟨e2,b2,rfl,de⟩;rw[e2]
  cases b2
  ·
   skip
   refine aa 2 rfl (ab [0,3,4,17] ?_);refine cK rfl (ae (cL ag rfl bQ rfl rfl ?_));obtain⟨ti,aj,ak⟩:=aU;refine aH (.inl ⟨rfl,rfl⟩) rfl rfl rfl aj ak rfl rfl rfl (aa 2 rfl (ab [4,5,6] ?_));obtain⟨bP,aL,aM⟩:=aU;refine aB ⟨.inr rfl,_,.agg rfl Tryz.underlying38 aL aM (.tmp rfl (.tmp rfl (.nil))),?_⟩;exact⟨bx,wo,_,_,rfl,.inl ⟨fun h=>(by have h9:=de.2 h.2;cases h9),rfl,rfl,rfl⟩⟩
  have dy:=dY.1 rfl;have dF:=de.1 rfl;obtain⟨lh,wm⟩:=wk dy dF;have Ji:=dF.len;have kB:=dF.const;refine aa 2 rfl (ab [0,3,4,17] ?_);refine dh rfl (az (ah [0,3,4] rfl ?_));refine bM .bJ [0,2,1,3,4,5] follows (by kernel_rfl) ?_;refine aa 2 rfl (aY rfl rfl (TH (hv.le iz bx) (by omega)) (fun _ _ h=>by first | exact h.le | exact h.1) ?_);rintro v1 H2 ⟨y1,CR⟩;obtain⟨W,cw,rfl⟩:=CR.form;refine cI Tryz.underlying22 il rfl rfl rfl rfl rfl rfl rfl ?_;intro gb aV;refine zP iz EL Tryz.underlying22 il rfl rfl CR aV (show o0 _ [_,_] goal from⟨A0,c0,rfl,eG.le eZ (bx.trans CR.base)⟩) rfl (by omega) (by omega) ?_;intro v4 H4 y4 kZ _;obtain⟨W4,cw4,rfl⟩:=kZ.form;have zq:=kZ.sl iz;have cM:=bx.trans kZ.le;refine aa 1 rfl (ab [0,3,4,7] ?_);refine bM .bJ [0,1,3,2,4,5,6,7,8,9,10] follows (by kernel_rfl) ?_;refine aa 3 rfl (aY rfl rfl (Nx zq (by rw[List.length_append,List.length_singleton];omega) (TM dy dF)) (fun _ _ h=>by first | exact h.le | exact h.1) ?_);rintro _ H5 ⟨eI,A5,c5,rfl,CS⟩;have te:=cM.trans eI;refine aY rfl rfl (alT (hv.le iz te) CS (eG.le eZ te) dy.ok dF lh wm) (fun _ _ h=>by first | exact h.le | exact h.1) ?_;rintro _ zB ⟨Al,S,f20,B1,m1,e1,B2,m2,e2,Bx,ex,Bd,ed,Br,er,rfl,Aw,TU,rX,NF,TV,Gz⟩
  have Jp:=te.trans Al;refine aa 3 rfl (bh vd rfl ?_);obtain⟨ti,aj,ak⟩:=pD;refine aH (.inl ⟨rfl,rfl⟩) rfl rfl rfl aj ak rfl rfl rfl (aa 1 rfl (ab [3,4,8,9] ?_));refine ao (ae (aa 1 rfl (aG false rfl rfl (vi rfl) (ab [3,4,8,9,33] ?_))));refine dh rfl (az (ah [3,4,8] rfl ?_));refine ao (ae (aa 3 rfl (ab [3,4,8,38] ?_)));refine aD rfl (fun hb=> ?_) (fun hb=> ?_)
  ·
   have dG:¬S.status=1:=by simpa using hb
   refine bM (.pg [4]) [0,1,2,3,4,5] follows (by kernel_rfl) ?_;refine cL ag rfl bQ rfl rfl (vr 2 ?_);obtain⟨ti,aj,ak⟩:=aU;refine aH (.inl ⟨rfl,rfl⟩) rfl rfl rfl aj ak rfl rfl rfl (aa 2 rfl (ab [4,5,6] ?_));obtain⟨bP,aL,aM⟩:=aU;refine aB ⟨.inr rfl,_,.agg rfl Tryz.underlying38 aL aM (.tmp rfl (.tmp rfl (.nil))),?_⟩;exact⟨Jp,wo,_,_,rfl,.inr ⟨dy,dF,rfl,S,Aw,rfl,.inr ⟨dG,rfl⟩⟩⟩
  have dG:S.status=1:=by simpa using hb
  have ue:=O3 S.value ((goal.c:Int):Rat);have E0:=uH kB;have Mc:=cT.size rX;have hKX:KX=200000000:=rfl;refine az (ah [3,4,8] rfl ?_);refine bM .bJ [0,1,2,3,4,5,6,7,8] follows (by kernel_rfl) ?_;refine aa 4 rfl (aY rfl rfl ((vu (n:=goal.c) (by omega) (by omega)).rc) (fun _ _ h=>by first | exact h.le | exact h.1) ?_);rintro _ YR ⟨abJ,t21,rfl,alX⟩;refine aY rfl rfl ((OX (N:=KX) (rX.le abJ) ((bH.raw alX).mono (by omega)) (by decide)).rc) (fun _ _ h=>by first | exact h.le | exact h.1) ?_;rintro _ H22 ⟨alY,t22,rfl,alZ⟩;obtain⟨ti,aj,ak⟩:=aU;refine aH (.inl ⟨rfl,rfl⟩) rfl rfl rfl aj ak rfl rfl rfl (aa 2 rfl (ab [4,5,6] ?_));obtain⟨bP,aL,aM⟩:=aU;refine aB ⟨.inr rfl,_,.agg rfl Tryz.underlying38 aL aM (.tmp rfl (.tmp rfl (.nil))),?_⟩;exact⟨(Jp.trans abJ).trans alY,t22,_,_,rfl,.inr ⟨dy,dF,rfl,S,Aw,dG.symm,.inl ⟨rfl,alZ,by omega⟩⟩⟩
end Go.aq
namespace Go.aq
open Go.Proofs Num Lp
end Go.aq
namespace Go.aq
open Go.Proofs Num Lp
end Go.aq
namespace Go.aq
open Go.Proofs Num Lp
end Go.aq
namespace Go.aq
open Go.Proofs Num Lp
end Go.aq
namespace Go.aq
open Go.Proofs Num Lp
end Go.aq
namespace Go.aq
open Go.Proofs Num Lp
end Go.aq
namespace Go.aq
open Go.Proofs Num Lp
end Go.aq
namespace Go.aq
open Go.Proofs Num Lp
end Go.aq
namespace Go.aq
open Go.Proofs Num Lp
end Go.aq
namespace Go.aq
open Go.Proofs Num Lp
end Go.aq
namespace Go.aq
open Go.Proofs Num Lp
end Go.aq
namespace Go.aq
open Go.Proofs Num Lp
end Go.aq
namespace Go.aq
open Go.Proofs Num Lp
theorem qb.KZ{p:Prg}{c:List Rat}{st:Int}{v:Rat}(h:qb p c st v):(st=1∧p.lp.rY (fn c) v)∨(st=2∧p.lp.pN∧v=0)∨(st=3∧p.lp.vB (fn c)∧v=0):=by
 rcases h with ⟨h1,h2,_⟩ | h | h
 ·exact .inl ⟨h1,h2⟩
 ·exact .inr (.inl h)
 ·exact .inr (.inr h)
end Go.aq
namespace Go.aq
open Go.Proofs Num Lp
theorem T4{x:Int}:∀{l:List Int}{i:Nat},i≤l.length→(∀(j:Nat)(y:Int),j<i→l[j]? = some y→y<x)→jE l x=l.take i++jE (l.drop i) x
 | l,0,_,_=>rfl
 | [],i+1,h,_=>by simp at h
 | y::l,i+1,h,hl=>by
  have h1:y<x:=hl 0 y (by omega) rfl
  have ih:=T4 (x:=x) (l:=l) (i:=i) (by simpa using h) fun j z hj hz=>hl (j+1) z (by omega) (by simpa using hz)
  rw[jE,if_pos h1,ih];rfl
theorem abK{x:Int}{l:List Int}{i:Nat}(h:i≤l.length)(hl:∀(j:Nat)(y:Int),j<i→l[j]? = some y→y<x)(h2:∀y,l[i]? = some y→x<y):jE l x=(l.take i ++ [x])++l.drop i:=by
 rw[T4 h hl,List.append_assoc]
 congr 1
 by_cases e:i<l.length
 ·rw[List.drop_eq_getElem_cons e]
  have:=h2 _ (List.getElem?_eq_getElem e)
  rw[jE,if_neg (by omega),if_neg (by omega)];rfl
 ·rw[List.drop_eq_nil_of_le (by omega)];rfl
theorem al0{x:Int}{l:List Int}{i:Nat}(hl:∀(j:Nat)(y:Int),j<i→l[j]? = some y→y<x)(h2:l[i]? = some x):jE l x=l:=by
 have e:=(List.getElem?_eq_some_iff.1 h2).1
 have h3:jE (l.drop i) x=l.drop i:=by
  rw[List.drop_eq_getElem_cons e,(List.getElem?_eq_some_iff.1 h2).2,jE,if_neg (Int.lt_irrefl _),if_pos rfl]
 rw[T4 (by omega) hl,h3,List.take_append_drop]
theorem JB{H:Heap}{n:Int}:
 Fn Tryz.prog 23 #[.int .i64 n] H (j5 H (.bool (decide (-1048576≤n∧n≤1048576)))):=by
 refine aZ (args:=[_]) Tryz.func23 rfl rfl Tryz.ntmps23 rfl rfl fun w0=> ?_;refine ah [0] rfl ?_;refine ae (aa 1 rfl (ab [0] ?_))
 by_cases h1: -1048576≤n
 ·
  skip
  refine ae (aa 1 rfl (aG true rfl rfl (me h1) (aa 5 rfl (ab [2] ?_))));refine aB ⟨.inr rfl,_,.tmp rfl (.nil),?_⟩;exact⟨rfl,congrArg Value.bool (by simp[h1])⟩
 ·
  skip
  refine ae (aa 1 rfl (aG false rfl rfl (ql (by omega)) (aa 5 rfl (ab [2] ?_))));refine aB ⟨.inr rfl,_,.tmp rfl (.nil),?_⟩;exact⟨rfl,congrArg Value.bool (by simp[h1])⟩
theorem abL{H:Heap}{f:aO}{A:Option Addr}{c:Nat}(hf:aQ gy 2 H (.slice A f.ts.length c) f.ts):
 Fn Tryz.prog 9 #[.agg #[.int .i64 f.c,.slice A f.ts.length c]] H (fun v' H'=>H'=H∧∃b,v' = .bool b∧(b=true↔eK f)):=by
 obtain⟨A',c',xs,e,hc,hr,hx⟩:=id hf
 cases e
 refine aZ (args:=[_]) Tryz.func9 rfl rfl Tryz.ntmps9 rfl rfl fun w0=> ?_;refine ah [0] rfl ?_;refine ae (bY rfl rfl (aa 1 rfl (ab [1] ?_)));refine ao ?_
 by_cases h1: -1048576≤f.c∧f.c≤1048576
 ·
  skip
  by_cases h2:(16:Int)<(f.ts.length:Int)
  ·
   skip
   refine ae (aa 2 rfl (aC rfl rfl (JB.bt (decide_eq_true h1)) ?_));rintro _ H2 ⟨e2,rfl⟩;rw[e2];refine aa 5 rfl (aG true rfl rfl (ov h2) (aa 1 rfl (ab [1,14] ?_)));refine cK rfl (ae (aa 1 rfl (ab [2] ?_)));refine aB ⟨.inr rfl,_,.tmp rfl (.nil),?_⟩;exact⟨rfl,false,rfl,⟨(fun h=>by cases h),fun h=>absurd h.len (by omega)⟩⟩
  ·
   skip
   refine ae (aa 2 rfl (aC rfl rfl (JB.bt (decide_eq_true h1)) ?_));rintro _ H2 ⟨e2,rfl⟩;rw[e2];refine aa 5 rfl (aG false rfl rfl (kt (by omega)) (aa 1 rfl (ab [1,14] ?_)));refine dh rfl (az (ah [1] rfl ?_));refine ao (ae (aa 4 rfl (ab [1,17,18] ?_)));refine aE (fY (fun(i:Nat)=>f.ts.length-i) (fun(i:Nat)=>put (put (put (emp) 1 (.box [.int .i64 f.c,.slice A f.ts.length c])) 17 (.val (.int .i64 (f.ts.length:Int)))) 18 (.val (.int .i64 (i:Int)))) (fun(i:Nat) H'=>H'=H∧i≤f.ts.length∧An f.ts i) 0 (⟨rfl,Nat.zero_le _,abp _⟩) ar ?_);rintro i H1 ⟨e1,hi,hk⟩;rw[e1];refine ae (aa 1 rfl (ab [1,17,18,19] ?_));refine ao (aD rfl (fun hb=> ?_) (fun hb=> ?_))
   ·
    have aP:i<f.ts.length:=by simpa using hb
    obtain⟨t,ht⟩:∃t,f.ts[i]? = some t:=⟨_,List.getElem?_eq_getElem aP⟩;refine az (ah [1,17,18] rfl ?_);refine ao (aE (ae (aa 2 rfl (ab [1,3,17,18] ?_))));refine ae (aa 3 rfl (cj ag rfl rfl rfl rfl (hr) rfl (by decide) (xV hx ht) (by omega) (by omega) fun _=>(bh rK rfl ?_)));obtain⟨ti,aj,ak⟩:=J6;refine aH (.inl ⟨rfl,rfl⟩) rfl rfl rfl aj ak rfl rfl rfl (ab [1,3,4,17,18] ?_);refine bM .bJ [0,1,2,3,4,5,6,7,8,9,10,11,12,13,14,15,16,17,18,19,20,21,22,23,24,25,26,27,28,29,30,31,32,33,34] follows (gL [0,1,3,7,15,31,63,127,255,511,1023,2047,4095,8191,16383,32767,65535,131071,262143,524287,1048575,2097151,4194303,8388607,16777215,8388607,41943039,134217727,268435455,536870911,8388607,1082130431,4294967295,8589934591,17179869183] (by kernel_rfl)) ?_;refine vr 2 ?_
    by_cases v2:t.2=0
    ·
     skip
     refine aG true rfl rfl (iL v2) (aa 32 rfl (ab [1,17,18,60] ?_));refine cK rfl (ae (aa 1 rfl (ab [2] ?_)));refine aB ⟨.inr rfl,_,.tmp rfl (.nil),?_⟩;exact⟨rfl,false,rfl,⟨(fun h=>by cases h),fun h=>absurd v2 (h.term i t ht).1⟩⟩
    skip
    refine aG false rfl rfl (ks v2) (vr 3 ?_)
    by_cases v3: -1048576≤t.2∧t.2≤1048576
    ·
     skip
     refine aY rfl rfl (JB.bt (decide_eq_true v3)) (fun _ _ h=>by first | exact h.le | exact h.1) ?_;rintro _ H2 ⟨e2,rfl⟩;rw[e2];refine vr 5 ?_
     by_cases v1a:t.1 < -1
     ·
      skip
      refine aG true rfl rfl (ja v1a) (aa 22 rfl (ab [1,17,18,60] ?_));refine cK rfl (ae (aa 1 rfl (ab [2] ?_)));refine aB ⟨.inr rfl,_,.tmp rfl (.nil),?_⟩;exact⟨rfl,false,rfl,⟨(fun h=>by cases h),fun h=>absurd (h.term i t ht).2.2.2.1 (by omega)⟩⟩
     skip
     refine aG false rfl rfl (ia (by omega)) (vr 4 ?_)
     by_cases v1b:3000≤t.1
     ·
      skip
      refine aG true rfl rfl (me v1b) (aa 17 rfl (ab [1,17,18,60] ?_));refine cK rfl (ae (aa 1 rfl (ab [2] ?_)));refine aB ⟨.inr rfl,_,.tmp rfl (.nil),?_⟩;exact⟨rfl,false,rfl,⟨(fun h=>by cases h),fun h=>absurd (h.term i t ht).2.2.2.2 (by omega)⟩⟩
     skip
     refine aG false rfl rfl (ql (by omega)) (vr 3 ?_)
     by_cases v4:i=0
     ·
      skip
      refine aG false rfl rfl (kt (by omega)) (aa 13 rfl (ab [1,17,18,60] ?_));refine dh rfl (az (ah [1,17,18] rfl ?_));refine aA rfl (aF rfl rfl ⟨by omega,by omega⟩ (aa 1 rfl (au ?_)));exact⟨i+1,by omega,ar,rfl,by omega,hk.next ht ⟨by omega,by omega⟩ v2 v3 fun j a hj ha=>by omega⟩
     obtain⟨a,ha⟩:∃a,f.ts[i-1]? = some a:=⟨_,List.getElem?_eq_getElem (by omega)⟩;have TF:=xV hx ha;refine aG true rfl rfl (ov (by omega)) (aa 4 rfl (cQ rfl rfl ⟨by omega,by omega⟩ (ki ag rfl rfl rfl rfl rfl rfl rfl (hr) (by rw[ZV (by omega)];exact TF 0 _ rfl) (by omega) (by omega) fun _ _=> ?_)));refine vr 2 ?_
     by_cases v5:a.1<t.1
     ·
      skip
      refine aG false rfl rfl (ql v5) (aa 2 rfl (ab [1,17,18,60] ?_));refine dh rfl (az (ah [1,17,18] rfl ?_));refine aA rfl (aF rfl rfl ⟨by omega,by omega⟩ (aa 1 rfl (au ?_)));exact⟨i+1,by omega,ar,rfl,by omega,hk.next ht ⟨by omega,by omega⟩ v2 v3 fun j b hj Jk=>by(obtain rfl:j=i-1:=by omega);rw[ha]at Jk;cases Jk;exact v5⟩
     skip
     refine aG true rfl rfl (me (by omega)) (aa 2 rfl (ab [1,17,18,60] ?_));refine cK rfl (ae (aa 1 rfl (ab [2] ?_)));refine aB ⟨.inr rfl,_,.tmp rfl (.nil),?_⟩;exact⟨rfl,false,rfl,⟨(fun h=>by cases h),fun h=>absurd (h.Iw (i-1) a t ha (by rw[show i-1+1=i by omega];exact ht)) v5⟩⟩
    skip
    refine aY rfl rfl (JB.bf (decide_eq_false v3)) (fun _ _ h=>by first | exact h.le | exact h.1) ?_;rintro _ H2 ⟨e2,rfl⟩;rw[e2];refine aa 28 rfl (ab [1,17,18,60] ?_);refine cK rfl (ae (aa 1 rfl (ab [2] ?_)));refine aB ⟨.inr rfl,_,.tmp rfl (.nil),?_⟩;exact⟨rfl,false,rfl,⟨(fun h=>by cases h),fun h=>absurd ⟨(h.term i t ht).2.1,(h.term i t ht).2.2.1⟩ v3⟩⟩
   have hb:f.ts.length≤i:=by simpa using hb
   refine aX (ah [] rfl ?_);refine ae (aa 1 rfl (ab [2] ?_));refine aB ⟨.inr rfl,_,.tmp rfl (.nil),?_⟩
   obtain rfl:i=f.ts.length:=by omega
   exact⟨rfl,true,rfl,⟨fun _=>hk.lin h1 (by omega),fun _=>rfl⟩⟩
 ·
  skip
  refine ae (aa 2 rfl (aC rfl rfl (JB.bf (decide_eq_false h1)) ?_));rintro _ H2 ⟨e2,rfl⟩;rw[e2];refine aa 7 rfl (ab [1,14] ?_);refine cK rfl (ae (aa 1 rfl (ab [2] ?_)));refine aB ⟨.inr rfl,_,.tmp rfl (.nil),?_⟩;exact⟨rfl,false,rfl,⟨(fun h=>by cases h),fun h=>absurd h.const h1⟩⟩
theorem abM{H:Heap}{f:aO}{A:Option Addr}{c:Nat}{v:Int}(hf:aQ gy 2 H (.slice A f.ts.length c) f.ts)(hl:f.ts.length≤1000000):
 Fn Tryz.prog 30 #[.agg #[.int .i64 f.c,.slice A f.ts.length c],.int .i64 v] H (j5 H (.int .i64 (f.bN v))):=by
 obtain⟨A',c',xs,e,hc,hr,hx⟩:=id hf
 cases e
 refine aZ (args:=[_,_]) Tryz.func30 rfl rfl Tryz.ntmps30 rfl rfl fun w0=> ?_;refine ah [0,1] rfl ?_;refine ae (bY rfl rfl (aa 1 rfl (ab [1,2] ?_)));refine ao (ae (aa 4 rfl (ab [1,2,8,9] ?_)));refine aE (fY (fun(i:Nat)=>f.ts.length-i) (fun(i:Nat)=>put (put (put (put (emp) 1 (.val (.int .i64 v))) 2 (.box [.int .i64 f.c,.slice A f.ts.length c])) 8 (.val (.int .i64 (f.ts.length:Int)))) 9 (.val (.int .i64 (i:Int)))) (fun(i:Nat) H'=>H'=H∧i≤f.ts.length∧f.bN v=qV (f.ts.drop i) v) 0 (⟨rfl,Nat.zero_le _,rfl⟩) ar ?_);rintro i H1 ⟨e1,hi,hk⟩;rw[e1];refine ae (aa 1 rfl (ab [1,2,8,9,10] ?_));refine ao (aD rfl (fun hb=> ?_) (fun hb=> ?_))
 ·
  have aP:i<f.ts.length:=by simpa using hb
  obtain⟨t,ht⟩:∃t,f.ts[i]? = some t:=⟨_,List.getElem?_eq_getElem aP⟩
  have hd:f.ts.drop i=t::f.ts.drop (i+1):=by rw[List.drop_eq_getElem_cons aP,(List.getElem?_eq_some_iff.1 ht).2]
  refine az (ah [1,2,8,9] rfl ?_);refine ao (aE (ae (aa 2 rfl (ab [1,2,5,8,9] ?_))));refine ae (aa 3 rfl (ki ag rfl rfl rfl rfl rfl rfl rfl (hr) (xV hx ht 0 _ rfl) (by omega) (by omega) fun _ _=>(aa 2 rfl (ab [1,2,5,8,9,19] ?_))));refine aD rfl (fun hb=> ?_) (fun hb=> ?_)
  ·
   have h2:t.1=v:=by simpa using hb
   refine ae (aa 3 rfl (ki ag rfl rfl rfl rfl rfl rfl rfl (hr) (xV hx ht 1 _ rfl) (by omega) (by omega) fun _ _=>(aa 1 rfl (ab [4] ?_))));refine aB ⟨.inr rfl,_,.tmp rfl (.nil),?_⟩;exact⟨rfl,by rw[hk,hd,qV,if_pos h2];rfl⟩
  ·
   have h2:¬t.1=v:=by simpa using hb
   refine az (ah [1,2,8,9] rfl ?_);refine aA rfl (aF rfl rfl ⟨by omega,by omega⟩ (aa 1 rfl (au ?_)));exact⟨i+1,by omega,ar,rfl,by omega,by rw[hk,hd,qV,if_neg h2]⟩
 ·
  have hb:f.ts.length≤i:=by simpa using hb
  refine aX (ah [] rfl ?_);refine ae (aa 1 rfl (ab [4] ?_));refine aB ⟨.inr rfl,_,.tmp rfl (.nil),?_⟩;exact⟨rfl,by rw[hk,List.drop_eq_nil_of_le hb];rfl⟩
theorem al1{H:Heap}{l:List Int}{A:Option Addr}{c:Nat}{x:Int}(hv:aQ j8 1 H (.slice A l.length c) l)(hl:l.length≤2000000):
 Fn Tryz.prog 53 #[.slice A l.length c,.int .i64 x] H (Iz (jE l x) H):=by
 obtain⟨A',c',xs,e,hc,hr,hx⟩:=id hv
 cases e
 refine aZ (args:=[_,_]) Tryz.func53 rfl rfl Tryz.ntmps53 rfl rfl fun w0=> ?_;refine ah [0,1] rfl ?_;refine ae (aa 1 rfl (ab [0,1] ?_));refine ae (aa 1 rfl (ab [0,1,5] ?_));refine ao (aE (fY (fun(i:Nat)=>l.length-i) (fun(i:Nat)=>put (put (put (emp) 0 (.val (.slice A l.length c))) 1 (.val (.int .i64 x))) 5 (.val (.int .i64 (i:Int)))) (fun(i:Nat) H'=>H'=H∧i≤l.length∧∀(j:Nat)(y:Int),j<i→l[j]? = some y→y<x) 0 (⟨rfl,Nat.zero_le _,fun j y h=>by omega⟩) ar ?_));rintro i H1 ⟨e1,hi,hk⟩;rw[e1];refine ao ?_
 by_cases aP:i<l.length
 ·
  obtain⟨y,hy⟩:∃y,l[i]? = some y:=⟨_,List.getElem?_eq_getElem aP⟩;refine ae (aa 3 rfl (aG true rfl rfl (ja (by omega)) (aa 3 rfl (aS ag rfl rfl rfl rfl rfl (hr) (by rw[Int.toNat_natCast];exact zO hx hy) (by omega) (by omega) fun _=> ?_))));refine aa 3 rfl (ab [0,1,5,17] ?_);refine aD rfl (fun hb=> ?_) (fun hb=> ?_)
  ·
   have h2:y<x:=by simpa using hb
   refine az (ah [0,1,5] rfl ?_);refine aE (aA rfl (aa 1 rfl (aF rfl rfl ⟨by omega,by omega⟩ (aa 1 rfl (au ?_)))));exact⟨i+1,by omega,ar,rfl,by omega,fun j y9 hj T6=>by by_cases e:j<i;exact hk j y9 e T6;(obtain rfl:j=i:=by omega);rw[hy]at T6;cases T6;exact h2⟩
  ·
   have h2:¬y<x:=by simpa using hb
   refine aX (ah [0,1,5] rfl ?_);refine ao (ae (aa 3 rfl (aG true rfl rfl (ja (by omega)) (aa 3 rfl (aS ag rfl rfl rfl rfl rfl (hr) (by rw[Int.toNat_natCast];exact zO hx hy) (by omega) (by omega) fun _=> ?_)))));refine aa 3 rfl (ab [0,1,5,31] ?_);refine aD rfl (fun hb=> ?_) (fun hb=> ?_)
   ·
    have h3:y=x:=by simpa using hb
    refine ae (aa 2 rfl (ab [4] ?_));refine aB ⟨.inr rfl,_,.tmp rfl (.nil),?_⟩;subst h3;exact⟨.refl _,by rw[al0 hk hy];exact⟨A,c,rfl,hv⟩⟩
   have h3:¬y=x:=by simpa using hb
   refine az (ah [0,1,5] rfl ?_);refine bM .bJ [0,1,2,4,7,8,9,3,5,6,10,11] follows (by kernel_rfl) ?_;refine aa 2 rfl (rJ ag rfl rfl (.inl ⟨rfl,rfl⟩) (.inr ⟨_,_,rfl,rfl⟩) (by omega) (by omega) (aa 3 rfl (rJ ag rfl rfl (.inr ⟨_,_,rfl,rfl⟩) (.inl ⟨rfl,rfl⟩) (by omega) (by omega) (EK kS Cl (by decide) Tryz.underlying49 fC rfl rfl (xR H) (by rw[zM,qv];exact hv.upto hi) (by rw[List.length_nil,List.length_take];omega) (by rw[List.length_nil,List.length_take];omega) ?_))));intro v3 H3 y3 uG _;rw[List.nil_append]at uG;refine cI Tryz.underlying49 fC rfl rfl rfl rfl rfl rfl rfl ?_;intro gb aV;refine zP kS Cl Tryz.underlying49 fC rfl rfl uG aV (show j8 _ [_] x from rfl) rfl (by rw[List.length_take];omega) (by rw[List.length_take];omega) ?_;intro v6 H6 y6 gU _;refine EK kS Cl (by decide) Tryz.underlying49 fC rfl rfl gU ((hv.le kS gU.base).from hi) (by rw[List.length_append,List.length_take,List.length_drop,List.length_singleton];omega) (by rw[List.length_append,List.length_take,List.length_drop,List.length_singleton];omega) ?_;intro v10 lW y10 nx _;have nx:=nx.cast (abK hi hk fun z hz=>by rw[hy]at hz;cases hz;omega).symm;obtain⟨T7,T9,qJ⟩:=nx.form;refine aa 1 rfl (ab [4] ?_);refine aB ⟨.inr rfl,_,.tmp rfl (.nil),?_⟩
   exact⟨nx.le,T7,T9,qJ,by rw[←qJ];exact nx.sl kS⟩
 ·
  skip
  refine ae (aa 3 rfl (aG false rfl rfl (ia (by omega)) (aa 8 rfl (ab [0,1,5,17] ?_))));refine dh rfl (aX (ah [0,1,5] rfl ?_));refine ao (ae (aa 3 rfl (aG false rfl rfl (ia (by omega)) (aa 8 rfl (ab [0,1,5,31] ?_)))));refine dh rfl (az (ah [0,1,5] rfl ?_));refine bM .bJ [0,1,2,4,7,8,9,3,5,6,10,11] follows (by kernel_rfl) ?_;refine aa 2 rfl (rJ ag rfl rfl (.inl ⟨rfl,rfl⟩) (.inr ⟨_,_,rfl,rfl⟩) (by omega) (by omega) (aa 3 rfl (rJ ag rfl rfl (.inr ⟨_,_,rfl,rfl⟩) (.inl ⟨rfl,rfl⟩) (by omega) (by omega) (EK kS Cl (by decide) Tryz.underlying49 fC rfl rfl (xR H) (by rw[zM,qv];exact hv.upto hi) (by rw[List.length_nil,List.length_take];omega) (by rw[List.length_nil,List.length_take];omega) ?_))));intro v3 H3 y3 uG _;rw[List.nil_append]at uG;refine cI Tryz.underlying49 fC rfl rfl rfl rfl rfl rfl rfl ?_;intro gb aV;refine zP kS Cl Tryz.underlying49 fC rfl rfl uG aV (show j8 _ [_] x from rfl) rfl (by rw[List.length_take];omega) (by rw[List.length_take];omega) ?_;intro v6 H6 y6 gU _;refine EK kS Cl (by decide) Tryz.underlying49 fC rfl rfl gU ((hv.le kS gU.base).from hi) (by rw[List.length_append,List.length_take,List.length_drop,List.length_singleton];omega) (by rw[List.length_append,List.length_take,List.length_drop,List.length_singleton];omega) ?_
  intro v10 lW y10 nx _;have nx:=nx.cast (abK hi hk fun z hz=>by have:=(List.getElem?_eq_some_iff.1 hz).1;omega).symm;obtain⟨T7,T9,qJ⟩:=nx.form;refine aa 1 rfl (ab [4] ?_);refine aB ⟨.inr rfl,_,.tmp rfl (.nil),?_⟩;exact⟨nx.le,T7,T9,qJ,by rw[←qJ];exact nx.sl kS⟩
theorem abN{H:Heap}{v:Value}{fs:List aO}(hv:jV H v fs)(h1:fs.length≤1000)(h2:∀f,f∈fs→f.ts.length≤1000):
 Fn Tryz.prog 22 #[v] H (Iz (dg fs) H):=by
 obtain⟨A,c,xs,rfl,hc,hr,hx⟩:=id hv
 have hmul:fs.length*1000≤1000*1000:=Nat.mul_le_mul_right _ h1;refine aZ (args:=[_]) Tryz.func22 rfl rfl Tryz.ntmps22 rfl rfl fun w0=> ?_;refine ah [0] rfl ?_;refine ae (aa 1 rfl (ab [0] ?_));refine ae (aa 1 rfl (ab [0,3] ?_));refine ao (ae (aa 3 rfl (ab [0,3,7,8] ?_)));refine aE (gn (fun(i:Nat)(w:Option Addr×Nat×List Int)=>fs.length-i) (fun(i:Nat)(w:Option Addr×Nat×List Int)=>put (put (put (put (emp) 0 (.val (.slice A fs.length c))) 3 (.val (.slice w.1 w.2.2.length w.2.1))) 7 (.val (.int .i64 (fs.length:Int)))) 8 (.val (.int .i64 (i:Int)))) (fun(i:Nat)(w:Option Addr×Nat×List Int) H'=>Heap.le H H'∧w.2.2=dg (fs.take i)∧aQ j8 1 H' (.slice w.1 w.2.2.length w.2.1) w.2.2∧i≤fs.length) 0 (none,0,[]) (⟨.refl _,rfl,aQ.nil,Nat.zero_le _⟩) ar ?_);rintro i w H1 ⟨bx,hw,hs,hi⟩;obtain⟨W,cw,l⟩:=w
 simp only at hw hs
 refine ae (aa 1 rfl (ab [0,3,7,8,9] ?_));refine ao (aD rfl (fun hb=> ?_) (fun hb=> ?_))
 ·
  have aP:i<fs.length:=by simpa using hb
  obtain⟨f,hf⟩:∃f,fs[i]? = some f:=⟨_,List.getElem?_eq_getElem aP⟩;have jF:=h2 f (List.mem_of_getElem? hf);obtain⟨B,cb,nX,lb⟩:=vX hx hf;obtain⟨B',ES,xb,e,D3,fG,wy⟩:=id nX
  cases e
  have hlv:=ZW h2 i
  have an4:(f.ts.map (·.1)).length=f.ts.length:=by rw[List.length_map]
  refine az (ah [0,3,7,8] rfl ?_);refine ao (aE (ae (aa 2 rfl (ab [0,3,4,7,8] ?_))));refine ae (aa 2 rfl (ki ag rfl rfl rfl rfl rfl rfl rfl (hr.le bx) (lb 1 _ rfl) (by omega) (by omega) fun _ _=>(aa 2 rfl (ab [0,3,4,7,8,16,17] ?_))));refine aE (gn (fun(k:Nat)(w:Option Addr×Nat×List Int)=>f.ts.length-k) (fun(k:Nat)(w:Option Addr×Nat×List Int)=>put (put (put (put (put (put (put (emp) 0 (.val (.slice A fs.length c))) 3 (.val (.slice w.1 w.2.2.length w.2.1))) 4 (.val (.int .i64 (i:Int)))) 7 (.val (.int .i64 (fs.length:Int)))) 8 (.val (.int .i64 (i:Int)))) 16 (.val (.int .i64 (f.ts.length:Int)))) 17 (.val (.int .i64 (k:Int)))) (fun(k:Nat)(w:Option Addr×Nat×List Int) H'=>Heap.le H H'∧w.2.2=(gM (fs.take i)++(f.ts.take k).map (·.1)).foldl jE []∧aQ j8 1 H' (.slice w.1 w.2.2.length w.2.1) w.2.2∧k≤f.ts.length) 0 (W,cw,l) (⟨bx,by rw[hw,show (f.ts.take 0).map (·.1) = []from rfl,List.append_nil];rfl,hs,Nat.zero_le _⟩) ar ?_);rintro k w H2 ⟨cD,jA,lJ,hk⟩;obtain⟨W2,rp,l2⟩:=w
  simp only at jA lJ
  have tA:l2.length≤1002000:=by
   have h9:=RN (gM (fs.take i)++(f.ts.take k).map (·.1)) [];rw[←jA,List.length_append,List.length_map,List.length_take]at h9
   simp at h9;omega
  refine ae (aa 1 rfl (ab [0,3,4,7,8,16,17,18] ?_));refine ao (aD rfl (fun hb=> ?_) (fun hb=> ?_))
  ·
   have iQ:k<f.ts.length:=by simpa using hb
   obtain⟨t,ht⟩:∃t,f.ts[k]? = some t:=⟨_,List.getElem?_eq_getElem iQ⟩;refine az (ah [0,3,4,7,8,16,17] rfl ?_);refine ao (aE (ae (aa 2 rfl (ab [0,3,4,5,7,8,16,17] ?_))));refine aA rfl (aa 3 rfl (ki ag rfl rfl rfl rfl rfl rfl rfl (hr.le cD) (lb 1 _ rfl) (by omega) (by omega) fun _ _=>(aa 1 rfl (ki ag rfl rfl rfl rfl rfl rfl rfl (fG.le cD) (xV wy ht 0 _ rfl) (by omega) (by omega) fun _ _=>(aC rfl rfl (al1 (l:=l2) (x:=t.1) lJ (by omega)) ?_)))));rintro _ H3 ⟨eF,W3,cw3,rfl,GQ⟩;refine aa 1 rfl (au (ah [0,3,4,7,8,16,17] rfl ?_));refine aA rfl (aF rfl rfl ⟨by omega,by omega⟩ (aa 1 rfl (au ?_)));exact⟨k+1,(_,_,_),by omega,ar,cD.trans eF,by rw[oZ ht,←List.append_assoc,List.foldl_append,←jA];rfl,GQ,by omega⟩
  ·
   have hb:f.ts.length≤k:=by simpa using hb
   obtain rfl:k=f.ts.length:=by omega
   rw[List.take_length,show f.ts.map (·.1)=f.vars from rfl,←ZU hf]at jA;refine aX (ah [0,3,7,8] rfl ?_);refine aA rfl (aF rfl rfl ⟨by omega,by omega⟩ (aa 1 rfl (au ?_)));exact⟨i+1,(_,_,_),by omega,ar,cD,by rw[jA];rfl,lJ,by omega⟩
 ·
  have hb:fs.length≤i:=by simpa using hb
  obtain rfl:i=fs.length:=by omega
  rw[List.take_length]at hw;subst hw;refine aX (ah [3] rfl ?_);refine ae (aa 2 rfl (ab [2] ?_));refine aB ⟨.inr rfl,_,.tmp rfl (.nil),?_⟩;exact⟨bx,W,cw,rfl,hs⟩
theorem al2{H:Heap}{v:Value}{fs:List aO}(hv:jV H v fs):
 Fn Tryz.prog 8 #[v] H (fun v' H'=>Heap.le H H'∧∃b,v' = .bool b∧(b=true↔lA fs)):=by
 obtain⟨A,c,xs,rfl,hc,hr,hx⟩:=id hv;refine aZ (args:=[_]) Tryz.func8 rfl rfl Tryz.ntmps8 rfl rfl fun w0=> ?_;refine ah [0] rfl ?_;refine ae (aa 1 rfl (ab [0] ?_));refine ao (ae (aa 3 rfl (ab [0,6] ?_)));refine aD rfl (fun hb=> ?_) (fun hb=> ?_)
 ·
  have h1:¬fs.length≤200:=by have h9:(200:Int)<fs.length:=(by simpa using hb);omega
  refine ae (aa 1 rfl (ab [2] ?_));refine aB ⟨.inr rfl,_,.tmp rfl (.nil),?_⟩;exact⟨.refl _,false,rfl,⟨(fun h=>by cases h),fun h=>absurd h.len h1⟩⟩
 ·
  have h1:fs.length≤200:=by have h9:(fs.length:Int)≤200:=(by simpa using hb);omega
  refine az (ah [0] rfl ?_);refine ao (ae (aa 3 rfl (ab [0,8,9] ?_)));refine aE (fY (fun(i:Nat)=>fs.length-i) (fun(i:Nat)=>put (put (put (emp) 0 (.val (.slice A fs.length c))) 8 (.val (.int .i64 (fs.length:Int)))) 9 (.val (.int .i64 (i:Int)))) (fun(i:Nat) H'=>H'=H∧i≤fs.length∧∀(k:Nat)(f:aO),k<i→fs[k]? = some f→eK f) 0 (⟨rfl,Nat.zero_le _,fun k f h=>by omega⟩) ar ?_);rintro i H1 ⟨e1,hi,hk⟩;rw[e1];refine ae (aa 1 rfl (ab [0,8,9,10] ?_));refine ao (aD rfl (fun hb=> ?_) (fun hb=> ?_))
  ·
   have aP:i<fs.length:=by simpa using hb
   obtain⟨f,hf⟩:∃f,fs[i]? = some f:=⟨_,List.getElem?_eq_getElem aP⟩;obtain⟨B,cb,nX,lb⟩:=vX hx hf;refine az (ah [0,8,9] rfl ?_);refine ao (aE (ae (aa 2 rfl (ab [0,3,8,9] ?_))));refine ae (aa 2 rfl (cj ag rfl rfl rfl rfl (hr) rfl (by decide) (lb) (by omega) (by omega) fun _=>(aC rfl rfl (abL nX) ?_)));rintro _ H3 ⟨e3,b3,rfl,gG⟩;rw[e3];refine aa 1 rfl (ab [0,8,9,17] ?_);refine aD rfl (fun hb=> ?_) (fun hb=> ?_)
   ·
    have rW:¬b3=true:=by simpa using hb
    refine ae (aa 1 rfl (ab [2] ?_));refine aB ⟨.inr rfl,_,.tmp rfl (.nil),?_⟩;exact⟨.refl _,false,rfl,⟨(fun h=>by cases h),fun h=>absurd (gG.2 (h.ok i f hf)) rW⟩⟩
   have rW:b3=true:=by simpa using hb
   refine az (ah [0,8,9] rfl ?_);refine aA rfl (aF rfl rfl ⟨by omega,by omega⟩ (aa 1 rfl (au ?_)));exact⟨i+1,by omega,ar,rfl,by omega,fun k f9 h9 q6=>by by_cases e:k<i;exact hk k f9 e q6;(obtain rfl:k=i:=by omega);rw[hf]at q6;cases q6;exact gG.1 rW⟩
  have hb:fs.length≤i:=by simpa using hb
  have fT:∀(k:Nat)(f:aO),fs[k]? = some f→eK f:=fun k f h=>hk k f (by have:=(List.getElem?_eq_some_iff.1 h).1;omega) h;refine aX (ah [0] rfl ?_);refine ae (aa 1 rfl (aC rfl rfl (abN hv (by omega) (fun f hf=>by obtain⟨k,h9⟩:=List.getElem?_of_mem hf;have:=(fT k f h9).len;omega)) ?_));rintro _ H4 ⟨cM,A4,c4,rfl,zq⟩;refine aa 3 rfl (ab [2] ?_);refine aB ⟨.inr rfl,_,.tmp rfl (.nil),?_⟩;exact⟨cM,_,rfl,⟨fun h=>⟨h1,fT,by have h9:((dg fs).length:Int)≤100:=(by simpa using h);omega⟩,fun h=>by have h9:=h.vars;simp;omega⟩⟩
end Go.aq
namespace Go.aq
open Go.Proofs Num Lp
end Go.aq
namespace Lp
end Lp
namespace Go.aq
open Go.Proofs Num Lp
end Go.aq
namespace Go.aq
open Go.Proofs Num Lp
end Go.aq
namespace Go.aq
open Go.Proofs Num Lp
end Go.aq
namespace Go.aq
open Go.Proofs Num Lp
end Go.aq
namespace Go.aq
open Go.Proofs Num Lp
end Go.aq
namespace Go.aq
open Go.Proofs Num Lp
end Go.aq
namespace Go.aq
open Go.Proofs Num Lp
end Go.aq
namespace Go.aq
open Go.Proofs Num Lp
end Go.aq
namespace Go.aq
open Go.Proofs Num Lp
end Go.aq
namespace Go.aq
open Go.Proofs Num Lp
end Go.aq
namespace Go.aq
open Go.Proofs Num Lp
end Go.aq
namespace Go.aq
open Go.Proofs Num Lp
end Go.aq
namespace Go.aq
open Go.Proofs Num Lp
end Go.aq
namespace Go.aq
open Go.Proofs Num Lp
end Go.aq
namespace Go.aq
open Go.Proofs Num Lp
end Go.aq
namespace Go.aq
open Go.Proofs Num Lp
end Go.aq
namespace Go.aq
open Go.Proofs Num Lp
theorem fE.al3{α:Type}{gs:List Nat}{H0 H:Heap}{P:Heap→List Value→α→Prop}{e sz:Nat}{v:Value}{l:List α}{xs:List Value}(h:fE gs H0 P e sz H v l xs){g:Nat}(hg:g∈gs)(en:Ent):fE gs (aq.ins H0 g en) P e sz (aq.ins H g en) v l xs where
 own:=h.own.same fun q hq=>bg _ _ fun e=>h.apart g hg (by rw[←e];exact cF.2 hq)
 jD:=by rw[cE _ (List.mem_append_left _ hg)];exact h.jD
 base:=by rw[cE _ hg,cE _ (List.mem_append_left _ hg)];exact h.base
 same:=fun q hq=>by
  by_cases e:q=g
  ·rw[e,bn,bn]
  ·rw[bg _ _ e,bg _ _ e];exact h.same q hq
 live:=fun q hq=>by
  by_cases e:q=g
  ·rw[e,bn];simp
  ·rw[bg _ _ e];exact h.live q hq
 apart:=h.apart
end Go.aq
namespace Go.aq
open Go.Proofs Num Lp
def wq(n i:Nat):List Bool:=List.replicate i true++List.replicate (n-i) false
theorem NH{n i:Nat}(h:i≤n):(wq n i).length=n:=by simp[wq];omega
theorem al4{n i:Nat}(h:i<n):(wq n i).set i true=wq n (i+1):=by
 unfold wq
 rw[List.set_append_right _ _ (by rw[List.length_replicate];exact Nat.le_refl _),List.length_replicate,Nat.sub_self,show n-i=(n-(i+1))+1 by omega,List.replicate_succ,List.set_cons_zero,List.replicate_succ',List.append_assoc];rfl
theorem al5{n:Nat}:wq n n=List.replicate n true:=by
 unfold wq
 rw[Nat.sub_self,List.replicate_zero,List.append_nil]
theorem al6{xs vs:List Value}{s e k:Nat}:({(⟨xs,s,e,true⟩:Ent)with xs:=aJ xs (0+k*1) vs}:Ent)=⟨aJ xs (k*1) vs,s,e,true⟩:=by rw[Nat.zero_add]
def al7(fs:List aO)(g:aO)(vs:List Int)(H:Heap)(v:Value)(H':Heap):Prop:=Heap.le H H'∧∃A1 k1 c1 A2 k2 c2 A3 k3 c3,v = .tuple #[.agg #[.slice A1 k1 c1,.slice A2 k2 c2],.slice A3 k3 c3]∧m7 1 H' (.agg #[.slice A1 k1 c1,.slice A2 k2 c2]) (mG fs vs)∧aQ (dI 1) 3 H' (.slice A3 k3 c3) (vW g vs)
theorem al8{H:Heap}{v:Value}{fs:List aO}{goal:aO}{A0:Option Addr}{c0:Nat}(hv:jV H v fs)(eG:aQ gy 2 H (.slice A0 goal.ts.length c0) goal.ts)(dy:lA fs)(dF:eK goal)(lh:fs.length≤6)(wm:(dg (fs ++ [goal])).length≤100):
 Fn Tryz.prog 36 #[v,.agg #[.int .i64 goal.c,.slice A0 goal.ts.length c0]] H (al7 fs goal (dg (fs ++ [goal])) H):=by
 obtain⟨A,c,xs,rfl,hc,hr,hx⟩:=id hv
 have Ji:=dF.len;refine aZ (args:=[_,_]) Tryz.func36 rfl rfl Tryz.ntmps36 rfl rfl fun w0=> ?_;refine ah [0,1] rfl ?_;refine ae (bY rfl rfl (bh wF rfl (aa 1 rfl (ab [0,3,4] ?_))));refine bM .bJ [0,2,1,3,4,5,6] follows (by kernel_rfl) ?_;refine aa 2 rfl (EK iz EL (by decide) Tryz.underlying22 il rfl rfl (xR H) (by rw[zM,qv];exact hv) (by rw[List.length_nil];omega) (by rw[List.length_nil];omega) ?_);intro v4 H4 y4 kZ _;rw[List.nil_append]at kZ;refine cI Tryz.underlying22 il rfl rfl rfl rfl rfl rfl rfl ?_;intro gb aV;refine zP iz EL Tryz.underlying22 il rfl rfl kZ aV (show o0 _ [_,_] goal from⟨A0,c0,rfl,eG.le eZ kZ.base⟩) rfl (by omega) (by omega) ?_;intro v5 H5 y5 tg _;obtain⟨W5,cw5,rfl⟩:=tg.form;refine aY rfl rfl (abN (tg.sl iz) (by rw[List.length_append,List.length_singleton];omega) (TM dy dF)) (fun _ _ h=>by first | exact h.le | exact h.1) ?_;rintro _ H1 ⟨bx,Av,cv,rfl,ma⟩;have Jr:=tg.le.trans bx;obtain⟨vs,al9⟩:∃vs,vs=dg (fs ++ [goal]):=⟨_,rfl⟩;rw[←al9]at ma wm⊢;obtain⟨_,_,xv,e6,bm,ka,ny⟩:=id ma
 cases e6
 refine aa 1 rfl (ab [0,3,4,6] ?_);refine ae (aa 2 rfl (gP Tryz.underlying52 FQ rfl rfl rfl (by omega) (by omega) (by omega) (by omega) ?_));intro gm qG;rw[Int.toNat_natCast];refine cL ag rfl wF rfl rfl (bh wF rfl ?_);obtain⟨ti,aj,ak⟩:=De;refine aH (.inl ⟨rfl,rfl⟩) rfl rfl rfl aj ak rfl rfl rfl (ab [0,3,4,6,7] ?_);refine ae (aa 2 rfl (gP Tryz.underlying28 bQ rfl rfl rfl (by omega) (by omega) (by omega) (by omega) ?_));intro gx lO
 have PB:∀q,q∈[gm]→(ins H1 gm ⟨dd [.bool false] (vs.length*1),vs.length*1,4,true⟩) q≠none:=fun q hq=>by rw[List.mem_singleton.1 hq,bn];simp
 have sO:=aaE (P:=bV) (e:=38) (sz:=3) (zs:=[.bool false,.slice none 0 0,.slice none 0 0]) (z:=0) (k:=(vs.length:Int)) (c:=vs.length) lO rfl (Int.toNat_natCast _) (by unfold maxLen;omega) PB;rw[Int.toNat_natCast]at sO⊢;have IU:bA (pV H1) 1 (dd [.bool false] (vs.length*1)) (wq vs.length 0):=KK (P:=pV H1) rfl rfl vs.length;refine aa 1 rfl (ab [0,3,4,6,7,8] ?_);refine ao (ae (aa 3 rfl (ab [0,3,4,6,7,8,27,28] ?_)));refine aE (pC (fun(i:Nat)(w:Value)(ys:List Value)(bs:List Value)=>vs.length-i) (fun(i:Nat)(w:Value)(ys:List Value)(bs:List Value)=>put (put (put (put (put (put (put (put (emp) 0 (.val (.slice A fs.length c))) 3 (.box [.int .i64 goal.c,.slice A0 goal.ts.length c0])) 4 (.box [.slice none 0 0,.slice none 0 0])) 6 (.val (.slice Av vs.length cv))) 7 (.box [.slice (some ⟨gm,0,none⟩) vs.length vs.length,.slice none 0 0])) 8 (.val (w))) 27 (.val (.int .i64 (vs.length:Int)))) 28 (.val (.int .i64 (i:Int)))) (fun(i:Nat)(w:Value)(ys:List Value)(bs:List Value) H'=>fE [gm] (ins H1 gm ⟨bs,vs.length*1,4,true⟩) bV 38 3 H' w ((vs.take i).map (fun v=>((goal.bN v:Int):Rat))) ys∧bA (pV H1) 1 bs (wq vs.length i)∧i≤vs.length) 0 _ _ _ (⟨sO,IU,Nat.zero_le _⟩) ar ?_);rintro i w ys bs H2 ⟨hX,hE,hi⟩;obtain⟨U,cu,rfl⟩:=hX.form
 have hlu:((vs.take i).map (fun v=>((goal.bN v:Int):Rat))).length=i:=by rw[List.length_map,List.length_take];omega
 have jo:H2 gm=some ⟨bs,vs.length*1,4,true⟩:=(hX.same gm (List.mem_singleton.2 rfl)).trans (bn _ _ _)
 have jM:bs.length=vs.length*1:=by rw[hE.len,NH hi]
 refine ae (aa 1 rfl (ab [0,3,4,6,7,8,27,28,29] ?_));refine ao (aD rfl (fun hb=> ?_) (fun hb=> ?_))
 ·
  have aP:i<vs.length:=by simpa using hb
  obtain⟨x,tf⟩:∃x,vs[i]? = some x:=⟨_,List.getElem?_eq_getElem aP⟩
  have hE3:bA (pV H1) 1 (aJ bs (i*1) [.bool true]) (wq vs.length (i+1)):=by
   rw[←al4 aP];exact hE.set (by rw[NH hi];exact aP) (show pV H1 [_] true from rfl) rfl
  refine az (ah [0,3,4,6,7,8,27,28] rfl ?_);refine ao (aE (ae (aa 2 rfl (ab [0,3,4,6,7,8,9,27,28] ?_))));refine ae (vr 3 ?_);obtain⟨ti,aj,ak⟩:=Dd;refine cV (.inl rfl) ag rfl rfl rfl (by omega) (by omega) (jo) rfl (by show 0+vs.length*1≤bs.length;omega) aj ak (fun _=>rfl) rfl rfl rfl fun _=> ?_;refine ab [0,3,4,6,7,8,9,27,28] ?_;rw[al6,Int.toNat_natCast];have Fc:=hX.al3 (g:=gm) (List.mem_singleton.2 rfl) ⟨aJ bs (i*1) [.bool true],vs.length*1,4,true⟩;rw[mO]at Fc;have gH:Heap.le H1 (ins H2 gm ⟨aJ bs (i*1) [.bool true],vs.length*1,4,true⟩):=(Heap.bG _ qG).trans Fc.le;refine eo .bJ [0,1,2,3,4,5,6,7,8,9,10] follows (by kernel_rfl) ?_;refine aa 4 rfl (aS ag rfl rfl rfl rfl rfl (ka.le gH) (by rw[Int.toNat_natCast];exact zO ny tf) (by omega) (by omega) fun _=> ?_);refine aY rfl rfl (abM (v:=x) (eG.le eZ (Jr.trans gH)) (by omega)) (fun _ _ h=>by first | exact h.le | exact h.1) ?_;rintro _ _ ⟨e5,rfl⟩;rw[e5];refine aY rfl rfl (Fc.call (oU (n:=goal.bN x) (by have:=dF.kY x;omega) (by have:=dF.kY x;omega)).rc) (fun _ _ h=>h.le fun _ _ k=>k.1) ?_;rintro _ H5 yn;have hX5:=Fc.kX cX yn fun _ _ h=>h.1;obtain⟨⟨_,t5,rfl,dZ⟩,_⟩:=yn
  refine cI Tryz.underlying28 bQ rfl rfl rfl rfl rfl rfl rfl ?_;intro gb2 tV;have wh:=hX5.ins cX (whole (dS [t5.v]) 38) tV;refine dW Tryz.underlying28 bQ rfl rfl wh.own (ea _ _ _ _ _ _) rfl (zK _ _ _ _ _ _ _) (by rw[hlu];omega) (by rw[hlu];omega) ?_;intro v7 H7 re;have Aa:=wh.append cX (j:=[((goal.bN x:Int):Rat)]) (by simp) re (iE (cX _ _ _ _ (pK _ (Heap.bG _ tV)) (show bV _ [_,_,_] _ from dZ)) rfl);obtain⟨U7,cu7,rfl⟩:=Aa.form;refine aa 1 rfl (au (ah [0,3,4,6,7,8,27,28] rfl ?_));refine aA rfl (aF rfl rfl ⟨by omega,by omega⟩ (aa 1 rfl (au ?_)));exact⟨i+1,_,_,_,by omega,ar,by rw[oZ tf];exact Aa,hE3,by omega⟩
 ·
  have hb:vs.length≤i:=by simpa using hb
  obtain rfl:i=vs.length:=by omega
  have kV:=hX.le;have nY:Heap.le H H2:=Jr.trans ((Heap.bG _ qG).trans hX.le)
  have CA:aQ pV 1 H2 (.slice (some ⟨gm,0,none⟩) vs.length vs.length) (mG fs vs).free:=by
   show aQ pV 1 H2 _ (vs.map fun _=>true)
   rw[List.map_const',←al5];exact⟨some ⟨gm,0,none⟩,vs.length,bs,by rw[NH (Nat.le_refl _)],by rw[NH (Nat.le_refl _)];exact Nat.le_refl _,dQ jo,hE⟩
  have zY:aQ (dI 1) 3 H2 (.slice U ((vs.take vs.length).map (fun v=>((goal.bN v:Int):Rat))).length cu) (vW goal vs):=by have h9:=NG (g:=fun v=>goal.bN v) ((hX.sl cX).le cX (bD _ _)) (fun v _=>dF.kY v);rw[List.take_length]at h9⊢;exact h9
  clear hX hE jo jM;refine aX (ah [0,4,6,7,8] rfl ?_);refine ao (ae (aa 3 rfl (ab [0,4,6,7,8,47,48] ?_)));refine aE (fB (fun(i:Nat)(rv:Value)(zs:List Value)=>fs.length-i) (fun(i:Nat)(rv:Value)(zs:List Value)=>put (put (put (put (put (put (put (emp) 0 (.val (.slice A fs.length c))) 4 (.box [.slice none 0 0,.slice none 0 0])) 6 (.val (.slice Av vs.length cv))) 7 (.box [.slice (some ⟨gm,0,none⟩) vs.length vs.length,rv])) 8 (.val (.slice U ((vs.take vs.length).map (fun v=>((goal.bN v:Int):Rat))).length cu))) 47 (.val (.int .i64 (fs.length:Int)))) 48 (.val (.int .i64 (i:Int)))) (fun(i:Nat)(rv:Value)(zs:List Value) H'=>dU (fK 1) 80 5 H2 H' rv ((fs.take i).map (mK vs)) zs∧i≤fs.length) 0 (.slice none 0 0) [] (⟨xR H2,Nat.zero_le _⟩) ar ?_);rintro i rv zs H8 ⟨hR,hi⟩;obtain⟨Ar,cr,rfl⟩:=hR.form
  have pQ:((fs.take i).map (mK vs)).length=i:=by rw[List.length_map,List.length_take];omega
  have Js:=nY.trans hR.le;refine ae (aa 1 rfl (ab [0,4,6,7,8,47,48,49] ?_));refine ao (aD rfl (fun hb=> ?_) (fun hb=> ?_))
  ·
   have aP:i<fs.length:=by simpa using hb
   obtain⟨f,hf⟩:∃f,fs[i]? = some f:=⟨_,List.getElem?_eq_getElem aP⟩;obtain⟨B,cb,nX,lb⟩:=vX hx hf;have JC:=dy.ok i f hf;have TJ:=JC.len;have hfc:=JC.const;refine az (ah [0,4,6,7,8,47,48] rfl ?_);refine ao (aE (ae (aa 2 rfl (ab [0,4,6,7,8,10,47,48] ?_))));refine ae (aa 2 rfl (ki ag rfl rfl rfl rfl rfl rfl rfl (hr.le Js) (lb 0 _ rfl) (by omega) (by omega) fun _ _=>(aC rfl rfl (hR.call (oU (n:=f.c) (by omega) (by omega)).rc) ?_)));rintro _ H7 EY;have hR7:=hR.kX (jC 1) EY fun _ _ h=>h.1;obtain⟨⟨kT,t7,rfl,jf⟩,_⟩:=EY;have E0:=uH (n:=f.c) (by omega);refine aC rfl rfl (hR7.call (BU (N:=1) ((bH.raw jf).mono E0) (by decide)).rc) ?_;rintro _ H9 Jt;have Ay:=hR7.kX (jC 1) Jt fun _ _ h=>h.1;obtain⟨⟨eT,t9,rfl,fW⟩,_⟩:=Jt;rw[←Rat.intCast_neg]at fW;have TW:=nY.trans Ay.base;refine cL ag rfl jx rfl rfl (bh jx rfl ?_);obtain⟨ti,aj,ak⟩:=nB;refine aH (.inl ⟨rfl,rfl⟩) rfl rfl rfl aj ak rfl rfl rfl (ab [0,4,6,7,8,10,11,47,48] ?_);refine ao (ae (aa 3 rfl (ab [0,4,6,7,8,10,11,47,48,60,61] ?_)));refine aE (fB (fun(k:Nat)(rp:Value)(ys:List Value)=>vs.length-k) (fun(k:Nat)(rp:Value)(ys:List Value)=>put (put (put (put (put (put (put (put (put (put (put (emp) 0 (.val (.slice A fs.length c))) 4 (.box [.slice none 0 0,.slice none 0 0])) 6 (.val (.slice Av vs.length cv))) 7 (.box [.slice (some ⟨gm,0,none⟩) vs.length vs.length,.slice Ar ((fs.take i).map (mK vs)).length cr])) 8 (.val (.slice U ((vs.take vs.length).map (fun v=>((goal.bN v:Int):Rat))).length cu))) 10 (.val (.int .i64 (i:Int)))) 11 (.box [rp,.int .i64 3,.bool t9.f,.slice t9.A1 t9.m1 t9.c1,.slice t9.A2 t9.m2 t9.c2])) 47 (.val (.int .i64 (fs.length:Int)))) 48 (.val (.int .i64 (i:Int)))) 60 (.val (.int .i64 (vs.length:Int)))) 61 (.val (.int .i64 (k:Int)))) (fun(k:Nat)(rp:Value)(ys:List Value) H'=>fE (aw (.slice Ar ((fs.take i).map (mK vs)).length cr)) H9 bV 38 3 H' rp ((vs.take k).map (fun v=>((f.bN v:Int):Rat))) ys∧k≤vs.length) 0 (.slice none 0 0) [] (⟨Mo Ay.nT,Nat.zero_le _⟩) ar ?_)
   rintro k rp ys lW ⟨hX,hk⟩;obtain⟨V,Ju,rfl⟩:=hX.form
   have wK:((vs.take k).map (fun v=>((f.bN v:Int):Rat))).length=k:=by rw[List.length_map,List.length_take];omega
   have Jv:=TW.trans hX.base;refine ae (aa 1 rfl (ab [0,4,6,7,8,10,11,47,48,60,61,62] ?_));refine ao (aD rfl (fun hb=> ?_) (fun hb=> ?_))
   ·
    have iQ:k<vs.length:=by simpa using hb
    obtain⟨x,vF⟩:∃x,vs[k]? = some x:=⟨_,List.getElem?_eq_getElem iQ⟩;have ama:Heap.le H1 lW:=((Heap.bG _ qG).trans kV).trans (Ay.le.trans hX.le);refine az (ah [0,4,6,7,8,10,11,47,48,60,61] rfl ?_);refine ao (aE (ae (aa 2 rfl (ab [0,4,6,7,8,10,11,12,47,48,60,61] ?_))));refine eo .bJ [0,1,2,3,4,5,6,7,8,9,10,11,12,13,14,15] follows (gL [0,1,0,0,12,28,0,0,192,448,1020,2044,4092,8191,16383,32767] (by kernel_rfl)) ?_;refine aa 4 rfl (cj ag rfl rfl rfl rfl (hr.le (Jv.trans (bD _ _))) rfl (by decide) (lb) (by omega) (by omega) fun _=>(aa 2 rfl (aS ag rfl rfl rfl rfl rfl (ka.le ama) (by rw[Int.toNat_natCast];exact zO ny vF) (by omega) (by omega) fun _=> ?_)));refine aY rfl rfl (abM (v:=x) (nX.le eZ (Jv.trans (bD _ _))) (by omega)) (fun _ _ h=>by first | exact h.le | exact h.1) ?_;rintro _ _ ⟨e5,rfl⟩;rw[e5];refine aY rfl rfl (hX.call (oU (n:=f.bN x) (by have:=JC.kY x;omega) (by have:=JC.kY x;omega)).rc) (fun _ _ h=>h.le fun _ _ k=>k.1) ?_;rintro _ je Jw;have TX:=hX.kX cX Jw fun _ _ h=>h.1;obtain⟨⟨_,t11,rfl,uL⟩,_⟩:=Jw;refine cI Tryz.underlying28 bQ rfl rfl rfl rfl rfl rfl rfl ?_;intro gb aV;have Jy:=TX.ins cX (whole (dS [t11.v]) 38) aV
    refine dW Tryz.underlying28 bQ rfl rfl Jy.own (ea _ _ _ _ _ _) rfl (zK _ _ _ _ _ _ _) (by rw[wK];omega) (by rw[wK];omega) ?_;intro v12 dC TY;have Jz:=Jy.append cX (j:=[((f.bN x:Int):Rat)]) (by simp) TY (iE (cX _ _ _ _ (pK _ (Heap.bG _ aV)) (show bV _ [_,_,_] _ from uL)) rfl);obtain⟨V12,alU,rfl⟩:=Jz.form;refine vr 1 ?_;obtain⟨ti,aj,ak⟩:=J5;refine aH (.inr rfl) rfl rfl rfl aj ak rfl rfl rfl (au (ah [0,4,6,7,8,10,11,47,48,60,61] rfl ?_));refine aA rfl (aF rfl rfl ⟨by omega,by omega⟩ (aa 1 rfl (au ?_)));exact⟨k+1,_,_,by omega,ar,by rw[oZ vF];exact Jz,by omega⟩
   have hb:vs.length≤k:=by simpa using hb
   obtain rfl:k=vs.length:=by omega
   have Jm:(vs.take vs.length).map (fun v=>((f.bN v:Int):Rat))=vs.map (fun v=>((f.bN v:Int):Rat)):=by rw[List.take_length]
   have TZ:=Ay.step (jC 1) hX.same hX.out
   have oy:aQ (dI 1) 3 (rem lW (aw (.slice Ar ((fs.take i).map (mK vs)).length cr))) (.slice V ((vs.take vs.length).map (fun v=>((f.bN v:Int):Rat))).length Ju) (vs.map (fun v=>((f.bN v:Int):Rat))):=by have h9:=NG (g:=fun v=>f.bN v) (hX.sl cX) (fun v _=>JC.kY v);rw[Jm]at h9⊢;exact h9
   have xo:fK 1 (rem lW (aw (.slice Ar ((fs.take i).map (mK vs)).length cr))) [.slice V ((vs.take vs.length).map (fun v=>((f.bN v:Int):Rat))).length Ju,.int .i64 3,.bool t9.f,.slice t9.A1 t9.m1 t9.c1,.slice t9.A2 t9.m2 t9.c2] (mK vs f):=⟨_,_,_,_,rfl,oy,TP (by omega) (bH.le fW hX.out)⟩;refine aX (ah [0,4,6,7,8,11,47,48] rfl ?_);refine aA rfl (aa 3 rfl (cI Tryz.underlying53 jx rfl rfl rfl rfl rfl rfl rfl ?_));intro gb aV;refine zP (jC 1) (ZJ 1) Tryz.underlying53 jx rfl rfl TZ aV xo rfl (by rw[pQ];omega) (by rw[pQ];omega) ?_;intro Qd kW y13 JA _;obtain⟨A13,c13,rfl⟩:=JA.form;refine vr 1 ?_;obtain⟨ti,aj,ak⟩:=Og;refine aH (.inr rfl) rfl rfl rfl aj ak rfl rfl rfl (au (ah [0,4,6,7,8,47,48] rfl ?_));refine aA rfl (aF rfl rfl ⟨by omega,by omega⟩ (aa 1 rfl (au ?_)));exact⟨i+1,_,_,by omega,ar,by rw[oZ hf];exact JA,by omega⟩
  have hb:fs.length≤i:=by simpa using hb
  obtain rfl:i=fs.length:=by omega
  have T1:aQ (fK 1) 5 H8 (.slice Ar ((fs.take fs.length).map (mK vs)).length cr) (fs.map (mK vs)):=by have h9:=hR.sl (jC 1);rw[List.take_length]at h9⊢;exact h9
  refine aX (ah [4,7,8] rfl ?_);refine ae (vr 2 ?_);obtain⟨ti,aj,ak⟩:=De;refine aH (.inl ⟨rfl,rfl⟩) rfl rfl rfl aj ak rfl rfl rfl (aa 1 rfl (ab [4,5] ?_));obtain⟨bP,aL,aM⟩:=De;refine aB ⟨.inr rfl,_,.agg rfl Tryz.underlying55 aL aM (.tmp rfl (.nil)),?_⟩;exact⟨Js,_,_,_,_,_,_,_,_,_,rfl,⟨_,_,rfl,CA.le ug hR.le,T1⟩,zY.le (r8 1) hR.le⟩
end Go.aq
namespace Go.aq
open Go.Proofs Num Lp
def LfQ(fs:List aO)(g:aO)(H:Heap)(v:Value)(H':Heap):Prop:=Heap.le H H'∧∃(t:RC)(st e:Int),v = .tuple #[t.v,.int .i64 st,.int .i64 e]∧
 ((¬(lA fs∧eK g)∧e=1∧st=0∧t=wo)∨
  (lA fs∧eK g∧e=0∧∃q:Rat,qb (mG fs (dg (fs ++ [g]))) (vW g (dg (fs ++ [g]))) st q∧((st=1∧bH H' t.v (q+((g.c:Int):Rat))∧aN q≤99999998)∨(st≠1∧t=wo))))
theorem amb{H:Heap}{v:Value}{fs:List aO}{goal:aO}{A0:Option Addr}{c0:Nat}(hv:jV H v fs)(eG:aQ gy 2 H (.slice A0 goal.ts.length c0) goal.ts)(wk:Jq fs goal):
 Fn Tryz.prog 13 #[v,.agg #[.int .i64 goal.c,.slice A0 goal.ts.length c0]] H (LfQ fs goal H):=by
 obtain⟨A,c,xs,rfl,hc,hr,hx⟩:=id hv;refine aZ (args:=[_,_]) Tryz.func13 rfl rfl Tryz.ntmps13 rfl rfl fun w0=> ?_;refine ah [0,1] rfl ?_;refine ae (bY rfl rfl (bh bQ rfl (aa 2 rfl (ab [0,3,4] ?_))));refine ao (ae (aa 1 rfl (aC rfl rfl (al2 hv) ?_)));rintro _ H1 ⟨bx,b1,rfl,dY⟩
 cases b1
 ·
  skip
  refine aa 6 rfl (ab [0,3,4,19] ?_);refine cK rfl (ae (cL ag rfl bQ rfl rfl ?_));obtain⟨ti,aj,ak⟩:=aU;refine aH (.inl ⟨rfl,rfl⟩) rfl rfl rfl aj ak rfl rfl rfl (aa 2 rfl (ab [4,5,6] ?_));obtain⟨bP,aL,aM⟩:=aU;refine aB ⟨.inr rfl,_,.agg rfl Tryz.underlying38 aL aM (.tmp rfl (.tmp rfl (.nil))),?_⟩;exact⟨bx,wo,_,_,rfl,.inl ⟨fun h=>(by have h9:=dY.2 h.1;cases h9),rfl,rfl,rfl⟩⟩
 ·
  skip
  refine aa 3 rfl (aC rfl rfl (abL (eG.le eZ bx)) ?_);rintro _ H2 ⟨e2,b2,rfl,de⟩;rw[e2]
  cases b2
  ·
   skip
   refine aa 2 rfl (ab [0,3,4,19] ?_);refine cK rfl (ae (cL ag rfl bQ rfl rfl ?_));obtain⟨ti,aj,ak⟩:=aU;refine aH (.inl ⟨rfl,rfl⟩) rfl rfl rfl aj ak rfl rfl rfl (aa 2 rfl (ab [4,5,6] ?_));obtain⟨bP,aL,aM⟩:=aU;refine aB ⟨.inr rfl,_,.agg rfl Tryz.underlying38 aL aM (.tmp rfl (.tmp rfl (.nil))),?_⟩;exact⟨bx,wo,_,_,rfl,.inl ⟨fun h=>(by have h9:=de.2 h.2;cases h9),rfl,rfl,rfl⟩⟩
  have dy:=dY.1 rfl;have dF:=de.1 rfl;obtain⟨lh,wm⟩:=wk dy dF;have Ji:=dF.len;have kB:=dF.const;refine aa 2 rfl (ab [0,3,4,19] ?_);refine dh rfl (az (ah [0,3,4] rfl ?_));refine ae (aa 2 rfl (aC rfl rfl (al8 (hv.le iz bx) (eG.le eZ bx) dy dF lh wm) ?_));rintro _ H3 ⟨eF,A1,k1,c1,A2,k2,c2,A3,k3,c3,rfl,ef,rR⟩;obtain⟨M,AT,hM⟩:=abF (vs:=dg (fs ++ [goal])) dy.ok dF lh wm;have uP:=bx.trans eF;refine aa 3 rfl (bh wF rfl ?_);obtain⟨ti,aj,ak⟩:=De;refine aH (.inl ⟨rfl,rfl⟩) rfl rfl rfl aj ak rfl rfl rfl (aa 1 rfl (ab [3,4,7,8] ?_));refine ae (aa 2 rfl (aC rfl rfl (ala (ZT (by omega) (by omega)) (by simp[mG,vW]) ef rR (by decide) AT hM) ?_));rintro _ H4 ⟨cM,st,t4,xv,q,rfl,yq,ct,I3,_⟩;have l6:=uP.trans cM;refine aa 4 rfl (bh bQ rfl (vr 1 ?_));obtain⟨ti,aj,ak⟩:=aU;refine aH (.inl ⟨rfl,rfl⟩) rfl rfl rfl aj ak rfl rfl rfl (aa 1 rfl (ab [3,4,9,10] ?_));refine ao (ae (aa 2 rfl (ab [3,4,9,10,35] ?_)));refine aD rfl (fun hb=> ?_) (fun hb=> ?_)
  ·
   have dG:¬st=1:=by simpa using hb
   refine ae (cL ag rfl bQ rfl rfl (vr 1 ?_));obtain⟨ti,aj,ak⟩:=aU;refine aH (.inl ⟨rfl,rfl⟩) rfl rfl rfl aj ak rfl rfl rfl (aa 2 rfl (ab [4,5,6] ?_));obtain⟨bP,aL,aM⟩:=aU;refine aB ⟨.inr rfl,_,.agg rfl Tryz.underlying38 aL aM (.tmp rfl (.tmp rfl (.nil))),?_⟩;exact⟨l6,wo,st,0,rfl,.inr ⟨dy,dF,rfl,q,yq,.inr ⟨dG,rfl⟩⟩⟩
  have dG:st=1:=by simpa using hb
  refine az (ah [3,4,9,10] rfl ?_);refine bM .bJ [0,1,2,5,3,4,6,7,8] follows (by kernel_rfl) ?_;refine aa 4 rfl (aY rfl rfl ((oU (n:=goal.c) (by omega) (by omega)).rc) (fun _ _ h=>by first | exact h.le | exact h.1) ?_);rintro _ H5 ⟨eI,t5,rfl,dZ⟩;have uc:=uH (n:=goal.c) (by omega);refine aY rfl rfl ((P3 (N:=99999998) ((bH.raw (ct.le eI)).mono (by omega)) ((bH.raw dZ).mono (by omega)) (by decide)).rc) (fun _ _ h=>by first | exact h.le | exact h.1) ?_;rintro _ H6 ⟨iy,t6,rfl,oV⟩;obtain⟨ti,aj,ak⟩:=aU;refine aH (.inl ⟨rfl,rfl⟩) rfl rfl rfl aj ak rfl rfl rfl (aa 2 rfl (ab [4,5,6] ?_));obtain⟨bP,aL,aM⟩:=aU;refine aB ⟨.inr rfl,_,.agg rfl Tryz.underlying38 aL aM (.tmp rfl (.tmp rfl (.nil))),?_⟩;exact⟨l6.trans (eI.trans iy),t6,st,0,rfl,.inr ⟨dy,dF,rfl,q,yq,.inl ⟨dG,oV,by omega⟩⟩⟩
end Go.aq
namespace Go.aq
open Go.Proofs Num Lp
def Ua(m n:Nat)(fs:List aO):Prop:=fs.length≤m∧∀f,f∈fs→f.ts.length≤n
theorem amc{fs:List aO}{g:aO}(h:Ua 6 4 fs)(hg:eK g):fs.length≤6∧(dg (fs ++ [g])).length≤100:=by
 refine⟨h.1,?_⟩
 have h1:=ZR (fs ++ [g])
 have h2:(gM (fs ++ [g])).length=(gM fs).length+(gM [g]).length:=by unfold gM;rw[List.flatMap_append,List.length_append]
 have h3:=Ix h.2
 have h4:=Ix (fs:=[g]) (k:=16) fun f hf=>by rw[List.mem_singleton.1 hf];exact hg.len
 have h5:=h.1
 simp only[List.length_singleton]at h4
 omega
theorem abO{H:Heap}{gb:Nat}(aV:H gb=none){a:aO}{A:Option Addr}{ca:Nat}(ha:aQ gy 2 H (.slice A a.ts.length ca) a.ts):Heap.le H (ins H gb (whole (dS [.agg #[.int .i64 a.c,.slice A a.ts.length ca]]) 25))∧jV (ins H gb (whole (dS [.agg #[.int .i64 a.c,.slice A a.ts.length ca]]) 25)) (.slice (some ⟨gb,0,none⟩) 1 1) [a]:=by
 have bx:=Heap.bG (whole (dS [.agg #[.int .i64 a.c,.slice A a.ts.length ca]]) 25) aV
 exact⟨bx,EI rfl (iE (show o0 _ [_,_] a from⟨A,ca,rfl,ha.le eZ bx⟩) rfl)⟩
theorem abP{H:Heap}{gb:Nat}(aV:H gb=none){a b:aO}{A B:Option Addr}{ca cb:Nat}(ha:aQ gy 2 H (.slice A a.ts.length ca) a.ts)(hb:aQ gy 2 H (.slice B b.ts.length cb) b.ts):Heap.le H (ins H gb (whole (dS [.agg #[.int .i64 a.c,.slice A a.ts.length ca],.agg #[.int .i64 b.c,.slice B b.ts.length cb]]) 25))∧jV (ins H gb (whole (dS [.agg #[.int .i64 a.c,.slice A a.ts.length ca],.agg #[.int .i64 b.c,.slice B b.ts.length cb]]) 25)) (.slice (some ⟨gb,0,none⟩) 2 2) [a,b]:=by
 have bx:=Heap.bG (whole (dS [.agg #[.int .i64 a.c,.slice A a.ts.length ca],.agg #[.int .i64 b.c,.slice B b.ts.length cb]]) 25) aV
 exact⟨bx,EI rfl (RG (show o0 _ [_,_] a from⟨A,ca,rfl,ha.le eZ bx⟩) rfl (iE (show o0 _ [_,_] b from⟨B,cb,rfl,hb.le eZ bx⟩) rfl))⟩
theorem amd{H:Heap}{v gv:Value}{fs gs:List aO}(hv:jV H v fs)(hg:jV H gv gs):
 Fn Tryz.prog 6 #[v,gv] H (fun v' H'=>H'=H∧∃b,v' = .bool b∧(b=true↔Ua 6 4 fs∧Ua 4 4 gs)):=by
 obtain⟨A,c,xs,rfl,hc,hr,hx⟩:=id hv
 obtain⟨B,d,ys,rfl,hd,hs,hy⟩:=id hg;refine aZ (args:=[_,_]) Tryz.func6 rfl rfl Tryz.ntmps6 rfl rfl fun w0=> ?_;refine ah [0,1] rfl ?_;refine ae (aa 1 rfl (ab [0,1] ?_));refine ae (aa 1 rfl (aC rfl rfl (abr (m:=6) (n:=4) hv (by omega)) ?_));rintro _ H2 ⟨e2,b2,rfl,de⟩;rw[e2]
 cases b2
 ·
  skip
  refine aa 5 rfl (ab [4] ?_);refine aB ⟨.inr rfl,_,.tmp rfl (.nil),?_⟩;exact⟨rfl,false,rfl,⟨(fun h=>by cases h),fun h=>(by have h9:=de.2 h.1;cases h9)⟩⟩
 ·
  skip
  refine aa 2 rfl (aC rfl rfl (abr (m:=4) (n:=4) hg (by omega)) ?_);rintro _ H3 ⟨e3,b3,rfl,gG⟩;rw[e3];refine aa 2 rfl (ab [4] ?_);refine aB ⟨.inr rfl,_,.tmp rfl (.nil),?_⟩;exact⟨rfl,b3,rfl,gG.trans ⟨fun h=>⟨de.1 rfl,h⟩,fun h=>h.2⟩⟩
end Go.aq
namespace Go.aq
open Go.Proofs Num Lp
def uQ:aO:=⟨0,[(0,1)]⟩
def CT:aO:=⟨-1,[(1,1)]⟩
def ru:aO:=⟨-2,[(0,-1),(1,1)]⟩
def CU:aO:=⟨-1,[]⟩
theorem abQ{c v a:Int}(hc: -1048576≤c∧c≤1048576)(h:a≠0∧-1048576≤a∧a≤1048576∧-1≤v∧v<3000):eK ⟨c,[(v,a)]⟩:=
 ⟨hc,by show 1≤16;decide,fun i t ht=>by
  match i,ht with
  | 0,ht=>cases ht;exact h
  | i+1,ht=>simp at ht,fun i x y _ hy=>by simp at hy⟩
theorem ame:eK uQ:=abQ (by decide) (by decide)
theorem abR:eK CT:=abQ (by decide) (by decide)
theorem amf:eK CU:=⟨by decide,by decide,fun i t h=>by simp[CU]at h,fun i a b h=>by simp[CU]at h⟩
theorem amg:eK ru:=by
 refine⟨by decide,by decide,fun i t ht=> ?_,fun i a b ha hb=> ?_⟩
 ·match i,ht with
  | 0,ht=>cases ht;decide
  | 1,ht=>cases ht;decide
  | i+2,ht=>simp[ru]at ht
 ·match i,ha,hb with
  | 0,ha,hb=>cases ha;cases hb;decide
  | i+1,ha,hb=>simp[ru]at hb
theorem abS:lA [uQ,ru]:=by
 refine⟨by decide,fun i f hf=> ?_,by decide⟩
 match i,hf with
 | 0,hf=>cases hf;exact ame
 | 1,hf=>cases hf;exact amg
 | i+2,hf=>simp at hf
theorem amh:lA [CU]:=by
 refine⟨by decide,fun i f hf=> ?_,by decide⟩
 match i,hf with
 | 0,hf=>cases hf;exact amf
 | i+1,hf=>simp at hf
theorem Ub{x:Nat→Rat}(h0:x 0=1)(h1:x 1=1):Lp.Ent [uQ,ru] CT x:=by
 refine⟨fun i hi=> ?_,fun v=> ?_,?_⟩
 ·match i,hi with
  | 0,_=>rw[h0];decide
  | 1,_=>rw[h1];decide
 ·show 0+x 0*(((nth [uQ,ru] 0).bN v:Int):Rat)+x 1*(((nth [uQ,ru] 1).bN v:Int):Rat)=_
  have e0:(nth [uQ,ru] 0).bN v=if (0:Int)=v then 1 else 0:=rfl
  have e1:(nth [uQ,ru] 1).bN v=if (0:Int)=v then -1 else if (1:Int)=v then 1 else 0:=rfl
  have e2:CT.bN v=if (1:Int)=v then 1 else 0:=rfl
  rw[h0,h1,e0,e1,e2]
  by_cases k0:(0:Int)=v
  ·subst k0;decide +kernel
  ·by_cases k1:(1:Int)=v
   ·subst k1;decide +kernel
   ·rw[if_neg k0,if_neg k0,if_neg k1];decide +kernel
 ·show 0+x 0*((0:Int):Rat)+x 1*((-2:Int):Rat)≤((-1:Int):Rat)
  rw[h0,h1];decide +kernel
theorem ami:RP [uQ,ru] CT:= .inl ⟨fun _=>1,Ub rfl rfl⟩
theorem amj:abx [uQ,ru] CT [1,1]:=⟨abS,abR,⟨rfl,(Ub (x:=fn [1,1]) rfl rfl).pos⟩,.inl (Ub rfl rfl)⟩
theorem amk:aby [CU] [1]:=by
 have hp:xU 1 (fn [1]):=fun i hi=>by
  obtain rfl:i=0:=by omega
  decide +kernel
 refine⟨amh,⟨rfl,hp⟩,hp,fun v=> ?_,?_⟩
 ·show 0+(1:Rat)*((0:Int):Rat)=0
  decide +kernel
 ·show 0+(1:Rat)*((-1:Int):Rat)<0
  decide +kernel
theorem abT{H:Heap}{g:Nat}(hg:H g=none)(v a:Int):Heap.le H (ins H g (whole (dS [.agg #[.int .i64 v,.int .i64 a]]) 43))∧aQ gy 2 (ins H g (whole (dS [.agg #[.int .i64 v,.int .i64 a]]) 43)) (.slice (some ⟨g,0,none⟩) 1 1) [(v,a)]:=
 ⟨Heap.bG _ hg,EI rfl (iE (show gy _ [_,_] (v,a)from rfl) rfl)⟩
theorem aml{H:Heap}{g:Nat}(hg:H g=none)(v a w b:Int):Heap.le H (ins H g (whole (dS [.agg #[.int .i64 v,.int .i64 a],.agg #[.int .i64 w,.int .i64 b]]) 43))∧aQ gy 2 (ins H g (whole (dS [.agg #[.int .i64 v,.int .i64 a],.agg #[.int .i64 w,.int .i64 b]]) 43)) (.slice (some ⟨g,0,none⟩) 2 2) [(v,a),(w,b)]:=
 ⟨Heap.bG _ hg,EI rfl (RG (show gy _ [_,_] (v,a)from rfl) rfl (iE (show gy _ [_,_] (w,b)from rfl) rfl))⟩
theorem amm{H:Heap}{g N:Nat}{t:RC}{q:Rat}(hg:H g=none)(h:cT H t.v q N):Heap.le H (ins H g (whole (dS [t.v]) 38))∧aQ (dI N) 3 (ins H g (whole (dS [t.v]) 38)) (.slice (some ⟨g,0,none⟩) 1 1) [q]:=
 ⟨Heap.bG _ hg,EI rfl (iE (show dI N _ [_,_,_] q from h.le (Heap.bG _ hg)) rfl)⟩
theorem amn{H:Heap}{g N:Nat}{t:RC}{q:Rat}(hg:H g=none)(h:cT H t.v q N):Heap.le H (ins H g (whole (dS [t.v,t.v]) 38))∧aQ (dI N) 3 (ins H g (whole (dS [t.v,t.v]) 38)) (.slice (some ⟨g,0,none⟩) 2 2) [q,q]:=
 ⟨Heap.bG _ hg,EI rfl (RG (show dI N _ [_,_,_] q from h.le (Heap.bG _ hg)) rfl (iE (show dI N _ [_,_,_] q from h.le (Heap.bG _ hg)) rfl))⟩
def amo(fs:List aO)(g:aO)(H:Heap)(v:Value)(H':Heap):Prop:=Heap.le H H'∧∃A k c b,v = .tuple #[.slice A k c,.bool b,.int .i64 0]∧(b=true↔RP fs g)
theorem amp{H:Heap}{v:Value}{fs:List aO}{goal:aO}{A0:Option Addr}{c0:Nat}(hv:jV H v fs)(eG:aQ gy 2 H (.slice A0 goal.ts.length c0) goal.ts)(dy:lA fs)(dF:eK goal)(wk:Jq fs goal):Fn Tryz.prog 7 #[v,.agg #[.int .i64 goal.c,.slice A0 goal.ts.length c0]] H (amo fs goal H):=by
 refine(alR hv eG wk).mono ?_
 rintro v' H' ⟨hl,A,k,c,b,e,rfl,h⟩
 rcases h with ⟨h1,_⟩ | ⟨_,_,rfl,⟨rfl,x,_,_,_,h⟩ | ⟨rfl,_,_,_,h⟩⟩
 ·exact absurd ⟨dy,dF⟩ h1
 ·exact⟨hl,A,k,c,true,rfl,⟨fun _=>h.elim (fun h=> .inl ⟨_,h⟩) (fun h=> .inr ⟨_,h⟩),fun _=>rfl⟩⟩
 ·exact⟨hl,A,k,c,false,rfl,⟨(fun h=>by cases h),fun h9=>absurd h9 h⟩⟩
theorem amq{H:Heap}:
 Fn Tryz.prog 5 #[] H (fun v H'=>Heap.le H H'∧v = .bool true):=by
 refine aZ (args:=[]) Tryz.func5 rfl rfl Tryz.ntmps5 rfl rfl fun w0=> ?_;refine ah [] rfl ?_;refine ae (aa 1 rfl (ab [] ?_));refine ae (cL ag rfl rK rfl rfl (cI Tryz.underlying23 rK rfl rfl rfl rfl rfl rfl rfl ?_));intro g1 mT;obtain⟨bx,hX1⟩:=abT mT 0 1;refine cL ag rfl il rfl rfl (cL ag rfl rK rfl rfl (cI Tryz.underlying23 rK rfl rfl rfl rfl rfl rfl rfl ?_));intro g2 ep;obtain⟨cD,hY2⟩:=abT ep 1 1;have hX2:=hX1.le eZ cD;have nY:=bx.trans cD;refine cL ag rfl il rfl rfl (bh il rfl (bh il rfl ?_));obtain⟨ti,aj,ak⟩:=yL;refine aH (.inl ⟨rfl,rfl⟩) rfl rfl rfl aj ak rfl rfl rfl ?_;obtain⟨ti,aj,ak⟩:=yL;refine aH (.inl ⟨rfl,rfl⟩) rfl rfl rfl aj ak rfl rfl rfl (ab [1,2] ?_);refine ae (cL ag rfl rK rfl rfl (cL ag rfl rK rfl rfl (cI Tryz.underlying23 rK rfl rfl rfl rfl rfl rfl rfl ?_)));intro g3 lI;obtain⟨eF,hZ3⟩:=aml lI 0 (-1) 1 1;have Fc:=hX2.le eZ eF;have hY3:=hY2.le eZ eF;have uP:=nY.trans eF;refine cL ag rfl il rfl rfl (bh il rfl ?_);obtain⟨ti,aj,ak⟩:=yL;refine aH (.inl ⟨rfl,rfl⟩) rfl rfl rfl aj ak rfl rfl rfl (ab [1,2,3] ?_);refine ae (aC rfl rfl ((oU (n:=1) (by decide) (by decide)).rc) ?_)
 rintro _ H4 ⟨cM,t4,rfl,ct⟩;have hX4:=Fc.le eZ cM;have hY4:=hY3.le eZ cM;have hZ4:=hZ3.le eZ cM;have l6:=uP.trans cM;have rS:cT H4 t4.v 1 1:=(bH.raw (show bH H4 t4.v 1 from ct)).mono (by decide);refine bh bQ rfl ?_;obtain⟨ti,aj,ak⟩:=aU;refine aH (.inl ⟨rfl,rfl⟩) rfl rfl rfl aj ak rfl rfl rfl (ab [1,2,3,4] ?_);refine ae (aa 2 rfl (cI Tryz.underlying22 il rfl rfl rfl rfl rfl rfl rfl ?_));intro g5 sD;obtain⟨eI,hm5⟩:=abP (a:=uQ) (b:=ru) sD hX4 hZ4;refine aa 1 rfl (aC rfl rfl (amp (goal:=CT) hm5 (hY4.le eZ eI) abS abR (fun _ _=>⟨by decide,by decide⟩)) ?_);rintro _ H6 ⟨iy,A6,k6,c6,b6,rfl,pR⟩;obtain rfl:=pR.2 ami;have Fe:=eI.trans iy;have wh:=hX4.le eZ Fe;have hY6:=hY4.le eZ Fe;have Ns:=hZ4.le eZ Fe;have Fb:=l6.trans Fe;refine aa 7 rfl (ab [1,2,3,4,6,7] ?_);refine ae (aa 1 rfl (aG true rfl rfl (iL rfl) (aa 6 rfl (cI Tryz.underlying22 il rfl rfl rfl rfl rfl rfl rfl ?_))));intro g7 L6;obtain⟨kT,hm7⟩:=abP (a:=uQ) (b:=ru) L6 wh Ns;refine aa 3 rfl (cI Tryz.underlying28 bQ rfl rfl rfl rfl rfl rfl rfl ?_);intro g8 mY;obtain⟨jQ,Jn⟩:=amn mY ((rS.le Fe).le kT);have ND:=(Fe.trans kT).trans jQ
 refine aC rfl rfl ((alu (goal:=CT) ⟨hm7.le iz jQ,Jn,by decide⟩ ((hY6.le eZ kT).le eZ jQ)).yes amj) ?_;rintro _ H9 ⟨eT,rfl⟩;refine aa 2 rfl (cL ag rfl il rfl rfl (cI Tryz.underlying22 il rfl rfl rfl rfl rfl rfl rfl ?_));intro g10 qI;obtain⟨qO,amr⟩:=abO (a:=CU) (A:=none) (ca:=0) qI aQ.nil;refine aa 1 rfl (cI Tryz.underlying28 bQ rfl rfl rfl rfl rfl rfl rfl ?_);intro g11 zv;obtain⟨vS,Hf⟩:=amm zv (rS.le ((ND.trans eT).trans qO));refine aC rfl rfl ((alw (fs:=[CU]) ⟨amr.le iz vS,Hf,by decide⟩).yes amk) ?_;rintro _ dC ⟨kV,rfl⟩;refine aa 2 rfl (ab [0] ?_);refine aB ⟨.inr rfl,_,.tmp rfl (.nil),?_⟩;exact⟨((((((Fb.trans kT).trans jQ).trans eT).trans qO).trans vS).trans kV),rfl⟩
end Go.aq
namespace Go.aq
open Go.Proofs Num Lp
theorem ams{H:Heap}{v:Value}{fs:List aO}{goal:aO}{A0:Option Addr}{c0:Nat}(hv:jV H v fs)(eG:aQ gy 2 H (.slice A0 goal.ts.length c0) goal.ts):
 Fn Tryz.prog 4 #[v,.agg #[.int .i64 goal.c,.slice A0 goal.ts.length c0]] H (fun v' H'=>Heap.le H H'∧v' = .bool true):=by
 obtain⟨A,c,xs,rfl,hc,hr,hx⟩:=id hv;refine aZ (args:=[_,_]) Tryz.func4 rfl rfl Tryz.ntmps4 rfl rfl fun w0=> ?_;refine ah [0,1] rfl ?_;refine ae (bY rfl rfl (aa 1 rfl (ab [0,3] ?_)));refine ao (ae (aC rfl rfl (amq) ?_));rintro _ H1 ⟨bx,rfl⟩;refine aa 1 rfl (ab [0,3,12] ?_);refine dh rfl (az (ah [0,3] rfl ?_));refine ao (ae (aa 2 rfl (cI Tryz.underlying22 il rfl rfl rfl rfl rfl rfl rfl ?_)));intro gb aV;obtain⟨cD,jo⟩:=abO aV (eG.le eZ bx);have nY:=bx.trans cD;refine aC rfl rfl (amd (gs:=[goal]) (hv.le iz nY) jo) ?_;rintro _ H3 ⟨e3,b3,rfl,gG⟩;rw[e3];refine aa 1 rfl (ab [0,3,17] ?_);refine aD rfl (fun hb=> ?_) (fun hb=> ?_)
 ·
  skip
  refine ae (aa 1 rfl (ab [4] ?_));refine aB ⟨.inr rfl,_,.tmp rfl (.nil),?_⟩;exact⟨nY,rfl⟩
 ·
  have hk:=gG.1 (by simpa using hb);have wk:Jq fs goal:=fun _ hg=>amc hk.1 hg;refine az (ah [0,3] rfl ?_);refine ae (aa 2 rfl (aC rfl rfl (alW (hv.le iz nY) (eG.le eZ nY) wk) ?_));rintro _ H4 ⟨cM,t4,s4,e4,rfl,ct⟩;refine aa 4 rfl (bh bQ rfl ?_);obtain⟨ti,aj,ak⟩:=aU;refine aH (.inl ⟨rfl,rfl⟩) rfl rfl rfl aj ak rfl rfl rfl (aa 2 rfl (ab [0,3,5,6,7] ?_));refine ae (aa 2 rfl (aC rfl rfl (amb ((hv.le iz nY).le iz cM) ((eG.le eZ nY).le eZ cM) wk) ?_));rintro _ H5 ⟨eI,t5,s5,e5,rfl,dZ⟩
  obtain⟨ee,es,q,rS,nD⟩:e4=e5∧s4=s5∧∃q,cT H5 t4.v q 1000000000000∧cT H5 t5.v q 1000000000000:=by
   rcases ct with ⟨k1,k2,k3,k4⟩ | ⟨k1,k1',k2,S,k3,k4,k5⟩
   ·
    rcases dZ with ⟨j1,j2,j3,j4⟩ | ⟨j1,j1',_⟩
    ·exact⟨k2.trans j2.symm,k3.trans j3.symm,0,by rw[k4];exact Ck,by rw[j4];exact Ck⟩
    ·exact absurd ⟨j1,j1'⟩ k1
   ·
    rcases dZ with ⟨j1,_⟩ | ⟨_,_,j2,q,j3,j4⟩
    ·exact absurd ⟨k1,k1'⟩ j1
    ·
     obtain⟨e1,e2⟩:=afy Iff.rfl (fun _ h=>h) id k3.KZ (qb.KZ j3);have es:s4=s5:=k4.trans e1;refine⟨k2.trans j2.symm,es,?_⟩
     rcases k5 with ⟨a1,a2,a3⟩ | ⟨a1,a2⟩
     ·
      rcases j4 with ⟨b1,b2,b3⟩ | ⟨b1,_⟩
      ·
       rw[e2]at a2 a3;exact⟨_,((bH.raw a2).mono a3).le eI,(bH.raw b2).mono a3⟩
      ·omega
     ·
      rcases j4 with ⟨b1,_⟩ | ⟨_,b2⟩
      ·omega
      ·exact⟨0,by rw[a2];exact Ck,by rw[b2];exact Ck⟩
  subst ee;subst es;have te:=nY.trans (cM.trans eI);refine aa 4 rfl (bh bQ rfl ?_);obtain⟨ti,aj,ak⟩:=aU;refine aH (.inl ⟨rfl,rfl⟩) rfl rfl rfl aj ak rfl rfl rfl (aa 2 rfl (ab [5,6,7,8,9,10] ?_));refine ae (aa 2 rfl (aG true rfl rfl (iL rfl) (aa 3 rfl (aG true rfl rfl (iL rfl) (aa 4 rfl (aC rfl rfl ((XS rS nD (by decide)).mono fun v H' h=>(⟨h.1,by rw[h.2,aiI]⟩:Heap.le H5 H'∧v = .int .i64 0)) ?_))))));rintro _ H6 ⟨iy,rfl⟩;refine aG true rfl rfl (iL rfl) (aa 2 rfl (ab [4] ?_));refine aB ⟨.inr rfl,_,.tmp rfl (.nil),?_⟩;exact⟨te.trans iy,rfl⟩
end Go.aq
