/- Walks over package lexico, part 2: extend, refusal. -/
import Derived.Test.YtfjncmjbhfdnpaaGreatA14
import Derived.Test.YtfjncmjbhfdnpaaGreatLx1
set_option linter.unusedVariables false
namespace Go.aw
open Go.Proofs Num Lp
def ZF(x:List Rat×Rat):List Rat×Int×Rat:=(x.1,2,x.2)
theorem abF(p:Prg)(os:List (List Rat))(vs:List Rat):(b8 p os vs).rows=p.rows++(os.zip vs).map ZF:=rfl
def ym(p:Prg)(os:List (List Rat))(e:Int):Prop:=(¬p.Ok∧e=1)∨(p.Ok∧(¬∀o,o∈os→o.length=p.free.length)∧e=21)∨(p.Ok∧(∀o,o∈os→o.length=p.free.length)∧(40<os.length∨800<p.rows.length+os.length)∧e=9)∨(Aj p os∧e=0)
theorem abN{p:Prg}{os:List (List Rat)}{e e':Int}(h:ym p os e)(h':ym p os e'):e=e':=by
 rcases h with ⟨h1,h2⟩ | ⟨h1,h2,h3⟩ | ⟨h1,h2,h3,h4⟩ | ⟨h1,h2⟩ <;> rcases h' with ⟨k1,k2⟩ | ⟨k1,k2,k3⟩ | ⟨k1,k2,k3,k4⟩ | ⟨k1,k2⟩ <;>
  first | omega | exact absurd k1 h1 | exact absurd h1 k1 | exact absurd k1.ok h1 | exact absurd h1.ok k1 | exact absurd k2 h2 | exact absurd h2 k2 | exact absurd k1.vec h2 | exact absurd h1.vec k2 | (have a1:=k1.pQ;have a2:=k1.rows;omega) | (have a1:=h1.pQ;have a2:=h1.rows;omega)
theorem ym.abL{p:Prg}{os:List (List Rat)}(h:ym p os 0):Aj p os:=by
 rcases h with ⟨_,h⟩ | ⟨_,_,h⟩ | ⟨_,_,_,h⟩ | ⟨h,_⟩
 ·cases h
 ·cases h
 ·cases h
 ·exact h
theorem alO{gs:List Nat}{H:Heap}{v ov:Value}{Av:Option Addr}{cv:Nat}{xv:List Value}{p:Prg}{os:List (List Rat)}{vs:List Rat}{N:Nat}(vZ:∀q,q∈gs→H q≠none)(hp:ea N (rem H gs) v p)(ho:jw N (rem H gs) ov os)(lr:Rd H Av xv)(zu:bE (bR N (rem H gs)) 3 xv vs)(ig:vs.length≤os.length)(jF:p.free.length≤400)(tZ:p.rows.length≤800)(DA:∀r,r∈p.rows→r.1.length≤1000)(Um:∀o,o∈os→o.length≤1000)(oy:vs.length≤800)(hN:(N:Int)≤1099511627776):
 Fn Tryz.prog 73 #[v,ov,.slice Av vs.length cv] H (fun v' H'=>Frz gs H H'∧∃A1 k1 c1 A2 k2 c2,v' = .agg #[.slice A1 k1 c1,.slice A2 k2 c2]∧ea (N+2) (rem H' gs) v' (b8 p os vs)):=by
 obtain⟨fv,fL,rfl,dO,eo⟩:=id hp
 obtain⟨Af,cf,xf,rfl,iv,gS⟩:=dO.one
 obtain⟨Ar,cr,xr,rfl,iM,eJ,gE⟩:=id eo
 obtain⟨Ao,co,xo,rfl,lk,kK,nU⟩:=id ho;refine aZ (args:=[_,_,_]) Tryz.func73 rfl rfl Tryz.ntmps73 rfl rfl fun w0=> ?_;refine aj [0,1,2] rfl ?_;refine ag (bW rfl rfl (bn p4 rfl (ae [1,2,3,6] ?_)));refine ag (ab 2 rfl (aF rfl rfl (Fn.frame vZ (abP dO (by omega))) ?_));rintro _ H1 ⟨⟨cH,CY⟩,lE⟩;obtain⟨E1,d1,_,rfl,_⟩:=id CY
 have alP:∀q,q∈gs→H1 q≠none:=fun q hq=>by rw[lE q hq];exact vZ q hq
 have fm:Heap.le H H1:=(I6 (α:=Bool) (P:=ql) (e:=0) (sz:=1) vZ).step sK (fun q hq=>lE q (by rw[xM,List.append_nil]at hq;exact hq)) (by rw[xM,List.append_nil];exact cH) |>.le;refine de ah rfl p4 rfl rfl (bn p4 rfl ?_);obtain⟨ti,ak,al⟩:=p5;refine aI (.inl ⟨rfl,rfl⟩) rfl rfl rfl ak al rfl rfl rfl (ae [1,2,3,6,7] ?_);refine aq (ag (ab 4 rfl (ae [1,2,6,7,17,18,19] ?_)));refine aG (fG (fun(i:Nat)(w:Value)(ys:List Value)=>p.rows.length-i) (fun(i:Nat)(w:Value)(ys:List Value)=>put (put (put (put (put (put (put (emp) 1 (.val (.slice Ao os.length co))) 2 (.val (.slice Av vs.length cv))) 6 (.box [.slice none 0 0,.slice none 0 0])) 7 (.box [.slice E1 p.free.length d1,w])) 17 (.val (.slice Ar p.rows.length cr))) 18 (.val (.int .i64 (p.rows.length:Int)))) 19 (.val (.int .i64 (i:Int)))) (fun(i:Nat)(w:Value)(ys:List Value) H'=>gF gs H1 (fA (N+2)) 78 5 H' w (p.rows.take i) ys∧i≤p.rows.length) 0 (.slice none 0 0) [] (⟨I6 alP,Nat.zero_le _⟩) au ?_);rintro i w ys H2 ⟨hG,hi⟩;obtain⟨W,cw,rfl⟩:=hG.form
 have gm:(p.rows.take i).length=i:=by rw[List.length_take];omega
 have bU:=cH.trans hG.base;refine ag (ab 1 rfl (ae [1,2,6,7,17,18,19,20] ?_));refine aq (aD rfl (fun hb=> ?_) (fun hb=> ?_))
 ·
  have aU:i<p.rows.length:=by simpa using hb
  obtain⟨r,hr⟩:∃r,p.rows[i]? = some r:=⟨_,List.getElem?_eq_getElem aU⟩;have rV:=DA r (List.mem_of_getElem? hr);obtain⟨A0,c0,f,A1,m1,c1,A2,m2,c2,ln,eT,lS,kC⟩:=aR.I0 gE hr;have Ff:=lS.size;refine aA (aj [1,2,6,7,17,18,19] rfl ?_);refine aq (aG (ag (ck (vs:=[.slice A0 r.1.length c0,.int .i64 r.2.1,.bool f,.slice A1 m1 c1,.slice A2 m2 c2]) ah rfl rfl rfl rfl ((eJ.le bU).le (bt _ _)) rfl (by decide) kC (by omega) (by omega) fun _=>(bn gL rfl ?_))));obtain⟨ti,ak,al⟩:=nY;refine aI (.inl ⟨rfl,rfl⟩) rfl rfl rfl ak al rfl rfl rfl (ae [1,2,6,7,9,17,18,19] ?_);refine ep .bJ [0,1,2,3,5,6,7,8,4,9,10,11,12,13,14] follows (by kernel_rfl) ?_;refine ab 8 rfl (a8 rfl rfl (hG.call (abQ (eT.le (dz N) bU) (by omega) (by omega))) (fun _ _ h=>h.le fun _ _ h=>h.1) ?_);rintro _ H5 kR;have gV:=hG.jK (fJ (N+2)) kR fun _ _ h=>h.1;obtain⟨⟨_,A5,c5,rfl,CZ⟩,_⟩:=kR;refine a8 rfl rfl (gV.call (DG (lS.le (cH.trans gV.base)) (by omega))) (fun _ _ h=>h.le fun _ _ h=>h.1) ?_;rintro _ H6 gw;have fC:=gV.jK (fJ (N+2)) gw fun _ _ h=>h.1;obtain⟨⟨C0,iu⟩,_⟩:=gw;obtain⟨f6,oE,oF,oG,oH,oI,oJ,rfl⟩:=iu.form;have yl:fA (N+2) (rem H6 (gs++aB (.slice W (p.rows.take i).length cw))) [.slice A5 r.1.length c5,.int .i64 r.2.1,.bool f6,.slice oE oF oG,.slice oH oI oJ] r:=⟨_,_,_,_,rfl,CZ.le (dz (N+2)) C0,(bK.raw iu).mono (by omega)⟩
  refine de ah rfl gL rfl rfl (cR Tryz.underlying23 gL rfl rfl rfl rfl rfl rfl rfl ?_);intro gd iA;have fW:=fC.ins (fJ (N+2)) (whole (cF [.agg #[.slice A5 r.1.length c5,.int .i64 r.2.1,.bool f6,.slice oE oF oG,.slice oH oI oJ]]) 78) iA;refine dK Tryz.underlying23 gL rfl rfl fW.own (dE _ _ _ _ _ _) rfl (EY _ _ _ _ _ _ _ _ _ _ _) (by rw[gm];omega) (by rw[gm];omega) ?_;intro v8 H8 jJ;have fV:=fW.append (fJ (N+2)) (j:=[r]) (by simp) jJ (iE (fJ (N+2) _ _ _ _ (og _ (Heap.bC _ iA)) yl) rfl);obtain⟨F8,g8,rfl⟩:=fV.form;refine vr 1 ?_;obtain⟨ti,ak,al⟩:=Gd;refine aI (.inr rfl) rfl rfl rfl ak al rfl rfl rfl (az (aj [1,2,6,7,17,18,19] rfl ?_));refine aC rfl (aH rfl rfl ⟨by omega,by omega⟩ (ab 1 rfl (az ?_)));exact⟨i+1,_,_,by omega,au,by rw[EZ hr];exact fV,by omega⟩
 ·
  have hb:p.rows.length≤i:=by simpa using hb
  obtain rfl:i=p.rows.length:=by omega
  rw[List.take_length]at hG;rw[List.take_length];refine aW (aj [1,2,6,7] rfl ?_);refine aq (ag (ab 3 rfl (ae [1,6,7,38,39,40] ?_)));refine aG (fG (fun(i:Nat)(w:Value)(zs:List Value)=>vs.length-i) (fun(i:Nat)(w:Value)(zs:List Value)=>put (put (put (put (put (put (emp) 1 (.val (.slice Ao os.length co))) 6 (.box [.slice none 0 0,.slice none 0 0])) 7 (.box [.slice E1 p.free.length d1,w])) 38 (.val (.slice Av vs.length cv))) 39 (.val (.int .i64 (vs.length:Int)))) 40 (.val (.int .i64 (i:Int)))) (fun(i:Nat)(w:Value)(zs:List Value) H'=>gF gs H1 (fA (N+2)) 78 5 H' w (p.rows++((os.zip vs).map ZF).take i) zs∧i≤vs.length) 0 _ _ (⟨by rw[List.take_zero,List.append_nil];exact hG,Nat.zero_le _⟩) au ?_);rintro i w zs H3 ⟨hG,hi⟩;obtain⟨W,cw,rfl⟩:=hG.form
  have gm:(p.rows++((os.zip vs).map ZF).take i).length=p.rows.length+i:=by rw[List.length_append,List.length_take,List.length_map,List.length_zip];omega
  have bU:=cH.trans hG.base;refine ag (ab 1 rfl (ae [1,6,7,38,39,40,41] ?_));refine aq (aD rfl (fun hb=> ?_) (fun hb=> ?_))
  ·
   have Un:i<vs.length:=by simpa using hb
   obtain⟨q,hq⟩:∃q,vs[i]? = some q:=⟨_,List.getElem?_eq_getElem Un⟩;obtain⟨o,jx⟩:∃o,os[i]? = some o:=⟨_,List.getElem?_eq_getElem (by omega)⟩
   have hz:((os.zip vs).map ZF)[i]? = some (o,2,q):=by rw[List.getElem?_map,Uh jx hq];rfl
   have ho5:=Um o (List.mem_of_getElem? jx);obtain⟨f1,B1,k1,e1,B2,k2,e2,ln,lS,Ct⟩:=aR.pI zu hq;obtain⟨Bo,cb,kT,eT⟩:=Ak nU jx;have Ff:=lS.size;refine aA (aj [1,6,7,38,39,40] rfl ?_);refine aq (aG (ag (ab 1 rfl (ck (vs:=[.bool f1,.slice B1 k1 e1,.slice B2 k2 e2]) ah rfl rfl rfl rfl (lr.le (fm.trans hG.le)) rfl (by decide) Ct (by omega) (by omega) fun _=>(bn bZ rfl (vr 1 ?_))))));obtain⟨ti,ak,al⟩:=a6;refine aI (.inl ⟨rfl,rfl⟩) rfl rfl rfl ak al rfl rfl rfl (ae [1,6,7,10,11,38,39,40] ?_);refine ep .bJ [0,1,2,3,4,5,7,6,8,9,10,11,12,13] follows (by kernel_rfl) ?_;refine ab 4 rfl (aS ah rfl rfl rfl rfl rfl ((kK.le bU).le (bt _ _)) (by rw[Int.toNat_natCast];exact kT) (by omega) (by omega) fun _=> ?_);refine ab 1 rfl (a8 rfl rfl (hG.call (abQ (eT.le (dz N) bU) (by omega) (by omega))) (fun _ _ h=>h.le fun _ _ h=>h.1) ?_);rintro _ H5 kR;have gV:=hG.jK (fJ (N+2)) kR fun _ _ h=>h.1;obtain⟨⟨_,A5,c5,rfl,CZ⟩,_⟩:=kR;refine a8 rfl rfl (gV.call (DG (lS.le (cH.trans gV.base)) (by omega))) (fun _ _ h=>h.le fun _ _ h=>h.1) ?_;rintro _ H6 gw;have fC:=gV.jK (fJ (N+2)) gw fun _ _ h=>h.1;obtain⟨⟨C0,iu⟩,_⟩:=gw
   obtain⟨f6,oE,oF,oG,oH,oI,oJ,rfl⟩:=iu.form;have yl:fA (N+2) (rem H6 (gs++aB (.slice W (p.rows++((os.zip vs).map ZF).take i).length cw))) [.slice A5 o.length c5,.int .i64 2,.bool f6,.slice oE oF oG,.slice oH oI oJ] (o,2,q):=⟨_,_,_,_,rfl,CZ.le (dz (N+2)) C0,(bK.raw iu).mono (by omega)⟩;refine de ah rfl gL rfl rfl (cR Tryz.underlying23 gL rfl rfl rfl rfl rfl rfl rfl ?_);intro gd iA;have fW:=fC.ins (fJ (N+2)) (whole (cF [.agg #[.slice A5 o.length c5,.int .i64 2,.bool f6,.slice oE oF oG,.slice oH oI oJ]]) 78) iA;refine dK Tryz.underlying23 gL rfl rfl fW.own (dE _ _ _ _ _ _) rfl (EY _ _ _ _ _ _ _ _ _ _ _) (by rw[gm];omega) (by rw[gm];omega) ?_;intro v8 H8 jJ;have fV:=fW.append (fJ (N+2)) (j:=[(o,2,q)]) (by simp) jJ (iE (fJ (N+2) _ _ _ _ (og _ (Heap.bC _ iA)) yl) rfl);obtain⟨F8,g8,rfl⟩:=fV.form;refine vr 1 ?_;obtain⟨ti,ak,al⟩:=Gd;refine aI (.inr rfl) rfl rfl rfl ak al rfl rfl rfl (az (aj [1,6,7,38,39,40] rfl ?_));refine aC rfl (aH rfl rfl ⟨by omega,by omega⟩ (ab 1 rfl (az ?_)));exact⟨i+1,_,_,by omega,au,by rw[EZ hz,←List.append_assoc];exact fV,by omega⟩
  have hb:vs.length≤i:=by simpa using hb
  obtain rfl:i=vs.length:=by omega
  have AR:((os.zip vs).map ZF).length=vs.length:=by rw[List.length_map,List.length_zip];omega
  have hR:=hG.sl (fJ (N+2));have e9:((os.zip vs).map ZF).take vs.length=(os.zip vs).map ZF:=List.take_of_length_le (by omega);rw[e9]at hR⊢;have AQ:=hG.out;refine aW (aj [6,7] rfl ?_);refine ag (vr 1 ?_);obtain⟨ti,ak,al⟩:=p5;refine aI (.inl ⟨rfl,rfl⟩) rfl rfl rfl ak al rfl rfl rfl (ae [6] ?_);obtain⟨bQ,aN,aO⟩:=p5;refine aE ⟨.inr rfl,_,.agg rfl Tryz.underlying25 aN aO (.nil),?_⟩;exact⟨⟨fun q hq=>(hG.same q hq).trans (lE q hq),cH.trans AQ⟩,_,_,_,_,_,_,rfl,_,_,rfl,CY.le sK AQ,by rw[abF];exact hR⟩
theorem alQ{H:Heap}{v ov:Value}{p:Prg}{os:List (List Rat)}{N:Nat}(hp:ea N H v p)(ho:jw N H ov os)(cT:os.length≤9223372036854775807):
 Fn Tryz.prog 71 #[v,ov] H (fun v' H'=>H'=H∧∃e,v' = .int .i64 e∧ym p os e):=by
 obtain⟨fv,fL,rfl,dO,eo⟩:=id hp
 obtain⟨Af,cf,xf,rfl,iv,gS⟩:=dO.one
 obtain⟨Ar,cr,xr,rfl,iM,eJ,gE⟩:=id eo
 obtain⟨Ao,co,xo,rfl,lk,kK,nU⟩:=id ho;refine aZ (args:=[_,_]) Tryz.func71 rfl rfl Tryz.ntmps71 rfl rfl fun w0=> ?_;refine aj [0,1] rfl ?_;refine ag (bW rfl rfl (ab 1 rfl (ae [1,2] ?_)));refine aq (aG (ag (ab 1 rfl (aF rfl rfl (RX hp) ?_))));rintro _ H1 ⟨e1,b1,rfl,fa⟩;rw[e1];refine ab 2 rfl (ae [1,2,5] ?_);refine aD rfl (fun hb=> ?_) (fun hb=> ?_)
 ·
  have pO:b1=false:=by simpa using hb
  subst pO;refine ag (ab 1 rfl (ae [4] ?_));refine aE ⟨.inr rfl,_,.tmp rfl (.nil),?_⟩;exact⟨rfl,1,rfl,.inl ⟨fun h=>(by have h9:=fa.2 h;cases h9),rfl⟩⟩
 ·
  have qd:b1=true:=by simpa using hb
  have bx:=fa.1 qd;have tZ:=bx.rows;refine ag (ab 2 rfl (aF rfl rfl (alN hp ho cT) ?_));rintro _ H2 ⟨e2,b2,rfl,bU⟩;rw[e2];refine ab 2 rfl (ae [1,2,9] ?_);refine aD rfl (fun hb=> ?_) (fun hb=> ?_)
  ·
   have pO:b2=false:=by simpa using hb
   subst pO;refine ag (ab 1 rfl (ae [4] ?_));refine aE ⟨.inr rfl,_,.tmp rfl (.nil),?_⟩;exact⟨rfl,21,rfl,.inr (.inl ⟨bx,fun h=>(by have h9:=bU.2 h;cases h9),rfl⟩)⟩
  have yh:b2=true:=by simpa using hb
  have wa:=bU.1 yh
  by_cases h4:40<os.length
  ·
   skip
   refine ag (ab 2 rfl (aJ true rfl rfl (mI (by omega)) (ab 10 rfl (ae [14] ?_))));refine dJ rfl (ag (ab 1 rfl (ae [4] ?_)));refine aE ⟨.inr rfl,_,.tmp rfl (.nil),?_⟩;exact⟨rfl,9,rfl,.inr (.inr (.inl ⟨bx,wa,.inl h4,rfl⟩))⟩
  skip
  refine ag (ab 2 rfl (aJ false rfl rfl (iW (by omega)) (ab 6 rfl (aH rfl rfl ⟨by omega,by omega⟩ (ab 3 rfl (ae [14] ?_))))));refine aD rfl (fun hb=> ?_) (fun hb=> ?_)
  ·
   have NU:(800:Int)<(p.rows.length:Int)+(os.length:Int):=by simpa using hb
   refine ag (ab 1 rfl (ae [4] ?_));refine aE ⟨.inr rfl,_,.tmp rfl (.nil),?_⟩;exact⟨rfl,9,rfl,.inr (.inr (.inl ⟨bx,wa,.inr (by omega),rfl⟩))⟩
  have NU:(p.rows.length:Int)+(os.length:Int)≤800:=by simpa using hb
  refine aA (aj [] rfl ?_);refine ag (ab 1 rfl (ae [4] ?_));refine aE ⟨.inr rfl,_,.tmp rfl (.nil),?_⟩;exact⟨rfl,0,rfl,.inr (.inr (.inr ⟨⟨bx,wa,by omega,by omega⟩,rfl⟩))⟩
end Go.aw
