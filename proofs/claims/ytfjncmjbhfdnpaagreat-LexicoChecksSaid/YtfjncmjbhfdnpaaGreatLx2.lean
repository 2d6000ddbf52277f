/- Walks over package lexico, part 2: extend, refusal. -/
import Derived.Test.YtfjncmjbhfdnpaaGreatA10
import Derived.Test.YtfjncmjbhfdnpaaGreatLx1
import Derived.Test.YtfjncmjbhfdnpaaGreatGrw3
set_option linter.unusedVariables false
namespace Go.ay
open Go.Proofs Num Lp
def ZF(x:List Rat×Rat):List Rat×Int×Rat:=(x.1,2,x.2)
theorem afb(p:Prg)(os:List (List Rat))(vs:List Rat):(cg p os vs).rows=p.rows++(os.zip vs).map ZF:=rfl
def zu(p:Prg)(os:List (List Rat))(e:Int):Prop:=(¬p.Ok∧e=1)∨(p.Ok∧(¬∀o,o∈os→o.length=p.free.length)∧e=21)∨(p.Ok∧(∀o,o∈os→o.length=p.free.length)∧(40<os.length∨800<p.rows.length+os.length)∧e=9)∨(te p os∧e=0)
theorem Jv{p:Prg}{os:List (List Rat)}{e e':Int}(h:zu p os e)(h':zu p os e'):e=e':=by
 rcases h with ⟨h1,h2⟩ | ⟨h1,h2,h3⟩ | ⟨h1,h2,h3,h4⟩ | ⟨h1,h2⟩ <;> rcases h' with ⟨k1,k2⟩ | ⟨k1,k2,k3⟩ | ⟨k1,k2,k3,k4⟩ | ⟨k1,k2⟩ <;>
  first | omega | exact absurd k1 h1 | exact absurd h1 k1 | exact absurd k1.ok h1 | exact absurd h1.ok k1 | exact absurd k2 h2 | exact absurd h2 k2 | exact absurd k1.vec h2 | exact absurd h1.vec k2 | (have a1:=k1.tf;have a2:=k1.rows;omega) | (have a1:=h1.tf;have a2:=h1.rows;omega)
theorem zu.Jw{p:Prg}{os:List (List Rat)}(h:zu p os 0):te p os:=by
 rcases h with ⟨_,h⟩ | ⟨_,_,h⟩ | ⟨_,_,_,h⟩ | ⟨h,_⟩
 ·cases h
 ·cases h
 ·cases h
 ·exact h
theorem Oi{gs:List Nat}{H:Heap}{v ov:Value}{Av:Option Addr}{cv:Nat}{xv:List Value}{p:Prg}{os:List (List Rat)}{vs:List Rat}{N:Nat}(rI:∀q,q∈gs→H q≠none)(hp:cN N (rem H gs) v p)(ho:gB N (rem H gs) ov os)(j6:Rd H Av xv)(wz:bI (aS N (rem H gs)) 3 xv vs)(iu:vs.length≤os.length)(dY:p.free.length≤400)(iQ:p.rows.length≤800)(r7:∀r,r∈p.rows→r.1.length≤1000)(zw:∀o,o∈os→o.length≤1000)(mN:vs.length≤800)(hN:(N:Int)≤1099511627776):
 Fn Tryz.prog 73 #[v,ov,.slice Av vs.length cv] H (fun v' H'=>Frz gs H H'∧∃A1 k1 c1 A2 k2 c2,v' = .agg #[.slice A1 k1 c1,.slice A2 k2 c2]∧cN (N+2) (rem H' gs) v' (cg p os vs)):=by
 obtain⟨fv,fG,rfl,cB,cF⟩:=id hp
 obtain⟨Af,cf,xf,rfl,ea,eH⟩:=cB.one
 obtain⟨Ar,cr,xr,rfl,fO,cL,du⟩:=id cF
 obtain⟨Ao,co,xo,rfl,jl,fI,jQ⟩:=id ho;refine aU (args:=[_,_,_]) Tryz.func73 rfl rfl Tryz.ntmps73 rfl rfl fun w0=> ?_;refine ag [0,1,2] rfl ?_;refine ae ?_;refine bF rfl rfl ?_;refine bh lA rfl ?_;refine ab [1,2,3,6] ?_;refine ae ?_;refine vr 2 ?_;refine ar rfl rfl (Fn.frame rI (Vo cB (by omega))) ?_;rintro _ H1 ⟨⟨aI,zx⟩,fw⟩;obtain⟨E1,d1,_,rfl,_⟩:=id zx
 have afc:∀q,q∈gs→H1 q≠none:=fun q hq=>by rw[fw q hq];exact rI q hq
 have fk:Heap.le H H1:=(NQ (α:=Bool) (P:=pz) (e:=0) (sz:=1) rI).step qt (fun q hq=>fw q (by rw[rC,List.append_nil]at hq;exact hq)) (by rw[rC,List.append_nil];exact aI) |>.le;refine dW af rfl lA rfl rfl ?_;refine bh lA rfl ?_;obtain⟨ti,aj,ak⟩:=jU;refine aG (.inl ⟨rfl,rfl⟩) rfl rfl rfl aj ak rfl rfl rfl ?_;refine ab [1,2,3,6,7] ?_;refine al ?_;refine ae ?_;refine vr 4 ?_;refine ab [1,2,6,7,17,18,19] ?_;refine aD ?_;refine jv (fun(i:Nat)(w:Value)(ys:List Value)=>p.rows.length-i) (fun(i:Nat)(w:Value)(ys:List Value)=>put (put (put (put (put (put (put (emp) 1 (.val (.slice Ao os.length co))) 2 (.val (.slice Av vs.length cv))) 6 (.box [.slice none 0 0,.slice none 0 0])) 7 (.box [.slice E1 p.free.length d1,w])) 17 (.val (.slice Ar p.rows.length cr))) 18 (.val (.int .i64 (p.rows.length:Int)))) 19 (.val (.int .i64 (i:Int)))) (fun(i:Nat)(w:Value)(ys:List Value) H'=>fW gs H1 (eZ (N+2)) 78 5 H' w (p.rows.take i) ys∧i≤p.rows.length) 0 (.slice none 0 0) [] (⟨NQ afc,Nat.zero_le _⟩) au ?_;rintro i w ys H2 ⟨hG,hi⟩;obtain⟨W,cw,rfl⟩:=hG.form
 have kH:(p.rows.take i).length=i:=by rw[List.length_take];omega
 have aW:=aI.trans hG.base;refine ae ?_;refine vr 1 ?_;refine ab [1,2,6,7,17,18,19,20] ?_;refine al ?_;refine az rfl (fun hb=> ?_) (fun hb=> ?_)
 ·
  have cQ:i<p.rows.length:=by simpa using hb
  obtain⟨r,hr⟩:∃r,p.rows[i]? = some r:=⟨_,List.getElem?_eq_getElem cQ⟩;have p6:=r7 r (List.mem_of_getElem? hr);obtain⟨A0,c0,f,A1,m1,c1,A2,m2,c2,eC,dS,eI,dL⟩:=aC.uL du hr;have Og:=eI.size;refine aw ?_;refine ag [1,2,6,7,17,18,19] rfl ?_;refine al ?_;refine aD ?_;refine ae ?_;refine cI (vs:=[.slice A0 r.1.length c0,.int .i64 r.2.1,.bool f,.slice A1 m1 c1,.slice A2 m2 c2]) af rfl rfl rfl rfl ((cL.le aW).le (bG _ _)) rfl (by decide) dL (by omega) (by omega) fun _=> ?_;refine bh gY rfl ?_;obtain⟨ti,aj,ak⟩:=rU;refine aG (.inl ⟨rfl,rfl⟩) rfl rfl rfl aj ak rfl rfl rfl ?_;refine ab [1,2,6,7,9,17,18,19] ?_;refine eT .bn [0,1,2,3,5,6,7,8,4,9,10,11,12,13,14] follows (by kernel_rfl) ?_;refine vr 8 ?_;refine aH rfl rfl (hG.call (Vp (dS.le (a8 N) aW) (by omega) (by omega))) (fun _ _ h=>h.le fun _ _ h=>h.1) ?_;rintro _ H5 iD;have ij:=hG.mm (gK (N+2)) iD fun _ _ h=>h.1;obtain⟨⟨_,A5,c5,rfl,uT⟩,_⟩:=iD;refine aH rfl rfl (ij.call (AE (eI.le (aI.trans ij.base)) (by omega))) (fun _ _ h=>h.le fun _ _ h=>h.1) ?_;rintro _ H6 mr;have iR:=ij.mm (gK (N+2)) mr fun _ _ h=>h.1;obtain⟨⟨zy,kY⟩,_⟩:=mr;obtain⟨f6,mT,mU,mV,mW,mX,mY,rfl⟩:=kY.form;have uU:eZ (N+2) (rem H6 (gs++aB (.slice W (p.rows.take i).length cw))) [.slice A5 r.1.length c5,.int .i64 r.2.1,.bool f6,.slice mT mU mV,.slice mW mX mY] r:=⟨_,_,_,_,rfl,uT.le (a8 (N+2)) zy,(cJ.raw kY).mono (by omega)⟩
  refine dW af rfl gY rfl rfl ?_;refine dM Tryz.underlying23 gY rfl rfl rfl rfl rfl rfl rfl ?_;intro gd iW;have gW:=iR.ins (gK (N+2)) (whole (cT [.agg #[.slice A5 r.1.length c5,.int .i64 r.2.1,.bool f6,.slice mT mU mV,.slice mW mX mY]]) 78) iW;refine eW Tryz.underlying23 gY rfl rfl gW.own (fu _ _ _ _ _ _) rfl (FD _ _ _ _ _ _ _ _ _ _ _) (by rw[kH];omega) (by rw[kH];omega) ?_;intro v8 H8 qu;have iz:=gW.append (gK (N+2)) (j:=[r]) (by simp) qu (jn (gK (N+2) _ _ _ _ (r8 _ (Heap.bC _ iW)) uU) rfl);obtain⟨F8,g8,rfl⟩:=iz.form;refine vr 1 ?_;obtain⟨ti,aj,ak⟩:=C2;refine aG (.inr rfl) rfl rfl rfl aj ak rfl rfl rfl ?_;refine aA ?_;refine ag [1,2,6,7,17,18,19] rfl ?_;refine aE rfl ?_;refine aN rfl rfl ⟨by omega,by omega⟩ ?_;refine vr 1 ?_;refine aA ?_;exact⟨i+1,_,_,by omega,au,by rw[Cc hr];exact iz,by omega⟩
 ·
  have hb:p.rows.length≤i:=by simpa using hb
  obtain rfl:i=p.rows.length:=by omega
  rw[List.take_length]at hG;rw[List.take_length];refine bB ?_;refine ag [1,2,6,7] rfl ?_;refine al ?_;refine ae ?_;refine vr 3 ?_;refine ab [1,6,7,38,39,40] ?_;refine aD ?_;refine jv (fun(i:Nat)(w:Value)(zs:List Value)=>vs.length-i) (fun(i:Nat)(w:Value)(zs:List Value)=>put (put (put (put (put (put (emp) 1 (.val (.slice Ao os.length co))) 6 (.box [.slice none 0 0,.slice none 0 0])) 7 (.box [.slice E1 p.free.length d1,w])) 38 (.val (.slice Av vs.length cv))) 39 (.val (.int .i64 (vs.length:Int)))) 40 (.val (.int .i64 (i:Int)))) (fun(i:Nat)(w:Value)(zs:List Value) H'=>fW gs H1 (eZ (N+2)) 78 5 H' w (p.rows++((os.zip vs).map ZF).take i) zs∧i≤vs.length) 0 _ _ (⟨by rw[List.take_zero,List.append_nil];exact hG,Nat.zero_le _⟩) au ?_;rintro i w zs H3 ⟨hG,hi⟩;obtain⟨W,cw,rfl⟩:=hG.form
  have kH:(p.rows++((os.zip vs).map ZF).take i).length=p.rows.length+i:=by rw[List.length_append,List.length_take,List.length_map,List.length_zip];omega
  have aW:=aI.trans hG.base;refine ae ?_;refine vr 1 ?_;refine ab [1,6,7,38,39,40,41] ?_;refine al ?_;refine az rfl (fun hb=> ?_) (fun hb=> ?_)
  ·
   have zz:i<vs.length:=by simpa using hb
   obtain⟨q,hq⟩:∃q,vs[i]? = some q:=⟨_,List.getElem?_eq_getElem zz⟩;obtain⟨o,eR⟩:∃o,os[i]? = some o:=⟨_,List.getElem?_eq_getElem (by omega)⟩
   have hz:((os.zip vs).map ZF)[i]? = some (o,2,q):=by rw[List.getElem?_map,NR eR hq];rfl
   have ho5:=zw o (List.mem_of_getElem? eR);obtain⟨f1,B1,k1,e1,B2,k2,e2,eC,eI,gA⟩:=aC.jP wz hq;obtain⟨Bo,cb,gN,dS⟩:=nP jQ eR;have Og:=eI.size;refine aw ?_;refine ag [1,6,7,38,39,40] rfl ?_;refine al ?_;refine aD ?_;refine ae ?_;refine vr 1 ?_;refine cI (vs:=[.bool f1,.slice B1 k1 e1,.slice B2 k2 e2]) af rfl rfl rfl rfl (j6.le (fk.trans hG.le)) rfl (by decide) gA (by omega) (by omega) fun _=> ?_;refine bh cM rfl ?_;refine vr 1 ?_;obtain⟨ti,aj,ak⟩:=bM;refine aG (.inl ⟨rfl,rfl⟩) rfl rfl rfl aj ak rfl rfl rfl ?_;refine ab [1,6,7,10,11,38,39,40] ?_;refine eT .bn [0,1,2,3,4,5,7,6,8,9,10,11,12,13] follows (by kernel_rfl) ?_;refine vr 4 ?_;refine a6 af rfl rfl rfl rfl rfl ((fI.le aW).le (bG _ _)) (by rw[Int.toNat_natCast];exact gN) (by omega) (by omega) fun _=> ?_;refine vr 1 ?_;refine aH rfl rfl (hG.call (Vp (dS.le (a8 N) aW) (by omega) (by omega))) (fun _ _ h=>h.le fun _ _ h=>h.1) ?_;rintro _ H5 iD;have ij:=hG.mm (gK (N+2)) iD fun _ _ h=>h.1;obtain⟨⟨_,A5,c5,rfl,uT⟩,_⟩:=iD;refine aH rfl rfl (ij.call (AE (eI.le (aI.trans ij.base)) (by omega))) (fun _ _ h=>h.le fun _ _ h=>h.1) ?_;rintro _ H6 mr;have iR:=ij.mm (gK (N+2)) mr fun _ _ h=>h.1;obtain⟨⟨zy,kY⟩,_⟩:=mr
   obtain⟨f6,mT,mU,mV,mW,mX,mY,rfl⟩:=kY.form;have uU:eZ (N+2) (rem H6 (gs++aB (.slice W (p.rows++((os.zip vs).map ZF).take i).length cw))) [.slice A5 o.length c5,.int .i64 2,.bool f6,.slice mT mU mV,.slice mW mX mY] (o,2,q):=⟨_,_,_,_,rfl,uT.le (a8 (N+2)) zy,(cJ.raw kY).mono (by omega)⟩;refine dW af rfl gY rfl rfl ?_;refine dM Tryz.underlying23 gY rfl rfl rfl rfl rfl rfl rfl ?_;intro gd iW;have gW:=iR.ins (gK (N+2)) (whole (cT [.agg #[.slice A5 o.length c5,.int .i64 2,.bool f6,.slice mT mU mV,.slice mW mX mY]]) 78) iW;refine eW Tryz.underlying23 gY rfl rfl gW.own (fu _ _ _ _ _ _) rfl (FD _ _ _ _ _ _ _ _ _ _ _) (by rw[kH];omega) (by rw[kH];omega) ?_;intro v8 H8 qu;have iz:=gW.append (gK (N+2)) (j:=[(o,2,q)]) (by simp) qu (jn (gK (N+2) _ _ _ _ (r8 _ (Heap.bC _ iW)) uU) rfl);obtain⟨F8,g8,rfl⟩:=iz.form;refine vr 1 ?_;obtain⟨ti,aj,ak⟩:=C2;refine aG (.inr rfl) rfl rfl rfl aj ak rfl rfl rfl ?_;refine aA ?_;refine ag [1,6,7,38,39,40] rfl ?_;refine aE rfl ?_;refine aN rfl rfl ⟨by omega,by omega⟩ ?_;refine vr 1 ?_;refine aA ?_;exact⟨i+1,_,_,by omega,au,by rw[Cc hz,←List.append_assoc];exact iz,by omega⟩
  ·
   have hb:vs.length≤i:=by simpa using hb
   obtain rfl:i=vs.length:=by omega
   have CT:((os.zip vs).map ZF).length=vs.length:=by rw[List.length_map,List.length_zip];omega
   have hR:=hG.sl (gK (N+2));have e9:((os.zip vs).map ZF).take vs.length=(os.zip vs).map ZF:=List.take_of_length_le (by omega);rw[e9]at hR⊢;have GA:=hG.out;refine bB ?_;refine ag [6,7] rfl ?_;refine ae ?_;refine vr 1 ?_;obtain⟨ti,aj,ak⟩:=jU;refine aG (.inl ⟨rfl,rfl⟩) rfl rfl rfl aj ak rfl rfl rfl ?_;refine ab [6] ?_;obtain⟨bX,aK,aL⟩:=jU;refine aq ⟨.inr rfl,_,.agg rfl Tryz.underlying25 aK aL (.nil),?_⟩;exact⟨⟨fun q hq=>(hG.same q hq).trans (fw q hq),aI.trans GA⟩,_,_,_,_,_,_,rfl,_,_,rfl,zx.le qt GA,by rw[afb];exact hR⟩
theorem Vn{H:Heap}{v ov:Value}{p:Prg}{os:List (List Rat)}{N:Nat}(hp:cN N H v p)(ho:gB N H ov os)(cH:os.length≤9223372036854775807):
 Fn Tryz.prog 71 #[v,ov] H (fun v' H'=>H'=H∧∃e,v' = .int .i64 e∧zu p os e):=by
 obtain⟨fv,fG,rfl,cB,cF⟩:=id hp
 obtain⟨Af,cf,xf,rfl,ea,eH⟩:=cB.one
 obtain⟨Ar,cr,xr,rfl,fO,cL,du⟩:=id cF
 obtain⟨Ao,co,xo,rfl,jl,fI,jQ⟩:=id ho;refine aU (args:=[_,_]) Tryz.func71 rfl rfl Tryz.ntmps71 rfl rfl fun w0=> ?_;refine ag [0,1] rfl ?_;refine ae ?_;refine bF rfl rfl ?_;refine vr 1 ?_;refine ab [1,2] ?_;refine al ?_;refine aD ?_;refine ae ?_;refine vr 1 ?_;refine ar rfl rfl (Fu hp) ?_;rintro _ H1 ⟨e1,b1,rfl,di⟩;rw[e1];refine vr 2 ?_;refine ab [1,2,5] ?_;refine az rfl (fun hb=> ?_) (fun hb=> ?_)
 ·
  have gV:b1=false:=by simpa using hb
  subst gV;refine ae ?_;refine vr 1 ?_;refine ab [4] ?_;refine aq ⟨.inr rfl,_,.tmp rfl (.nil),?_⟩;exact⟨rfl,1,rfl,.inl ⟨fun h=>(by have h9:=di.2 h;cases h9),rfl⟩⟩
 ·
  have jK:b1=true:=by simpa using hb
  have aP:=di.1 jK;have iQ:=aP.rows;refine ae ?_;refine vr 2 ?_;refine ar rfl rfl (afa hp ho cH) ?_;rintro _ H2 ⟨e2,b2,rfl,aW⟩;rw[e2];refine vr 2 ?_;refine ab [1,2,9] ?_;refine az rfl (fun hb=> ?_) (fun hb=> ?_)
  ·
   have gV:b2=false:=by simpa using hb
   subst gV;refine ae ?_;refine vr 1 ?_;refine ab [4] ?_;refine aq ⟨.inr rfl,_,.tmp rfl (.nil),?_⟩;exact⟨rfl,21,rfl,.inr (.inl ⟨aP,fun h=>(by have h9:=aW.2 h;cases h9),rfl⟩)⟩
  ·
   have FP:b2=true:=by simpa using hb
   have rG:=aW.1 FP
   by_cases h4:40<os.length
   ·
    skip
    refine ae ?_;refine vr 2 ?_;refine ax true rfl rfl (iG (by omega)) ?_;refine vr 10 ?_;refine ab [14] ?_;refine cD rfl ?_;refine ae ?_;refine vr 1 ?_;refine ab [4] ?_;refine aq ⟨.inr rfl,_,.tmp rfl (.nil),?_⟩;exact⟨rfl,9,rfl,.inr (.inr (.inl ⟨aP,rG,.inl h4,rfl⟩))⟩
   ·
    skip
    refine ae ?_;refine vr 2 ?_;refine ax false rfl rfl (fN (by omega)) ?_;refine vr 6 ?_;refine aN rfl rfl ⟨by omega,by omega⟩ ?_;refine vr 3 ?_;refine ab [14] ?_;refine az rfl (fun hb=> ?_) (fun hb=> ?_)
    ·
     have FQ:(800:Int)<(p.rows.length:Int)+(os.length:Int):=by simpa using hb
     refine ae ?_;refine vr 1 ?_;refine ab [4] ?_;refine aq ⟨.inr rfl,_,.tmp rfl (.nil),?_⟩;exact⟨rfl,9,rfl,.inr (.inr (.inl ⟨aP,rG,.inr (by omega),rfl⟩))⟩
    ·
     have FQ:(p.rows.length:Int)+(os.length:Int)≤800:=by simpa using hb
     refine aw ?_;refine ag [] rfl ?_;refine ae ?_;refine vr 1 ?_;refine ab [4] ?_;refine aq ⟨.inr rfl,_,.tmp rfl (.nil),?_⟩;exact⟨rfl,0,rfl,.inr (.inr (.inr ⟨⟨aP,rG,by omega,by omega⟩,rfl⟩))⟩
end Go.ay
