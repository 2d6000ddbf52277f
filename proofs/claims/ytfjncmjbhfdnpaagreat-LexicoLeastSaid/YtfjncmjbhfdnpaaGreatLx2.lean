/- Walks over package lexico, part 2: extend, refusal. -/
import Derived.Test.YtfjncmjbhfdnpaaGreatA14
import Derived.Test.YtfjncmjbhfdnpaaGreatLx1
set_option linter.unusedVariables false
namespace Go.au
open Go.Proofs Num Lp
def ZF(x:List Rat×Rat):List Rat×Int×Rat:=(x.1,2,x.2)
theorem alR(p:Prg)(os:List (List Rat))(vs:List Rat):(bP p os vs).rows=p.rows++(os.zip vs).map ZF:=rfl
def Fi(p:Prg)(os:List (List Rat))(e:Int):Prop:=(¬p.Ok∧e=1)∨(p.Ok∧(¬∀o,o∈os→o.length=p.free.length)∧e=21)∨(p.Ok∧(∀o,o∈os→o.length=p.free.length)∧(40<os.length∨800<p.rows.length+os.length)∧e=9)∨(NY p os∧e=0)
theorem alG{p:Prg}{os:List (List Rat)}{e e':Int}(h:Fi p os e)(h':Fi p os e'):e=e':=by
 rcases h with ⟨h1,h2⟩ | ⟨h1,h2,h3⟩ | ⟨h1,h2,h3,h4⟩ | ⟨h1,h2⟩ <;> rcases h' with ⟨k1,k2⟩ | ⟨k1,k2,k3⟩ | ⟨k1,k2,k3,k4⟩ | ⟨k1,k2⟩ <;>
  first | omega | exact absurd k1 h1 | exact absurd h1 k1 | exact absurd k1.ok h1 | exact absurd h1.ok k1 | exact absurd k2 h2 | exact absurd h2 k2 | exact absurd k1.vec h2 | exact absurd h1.vec k2 | (have a1:=k1.uk;have a2:=k1.rows;omega) | (have a1:=h1.uk;have a2:=h1.rows;omega)
theorem Fi.alS{p:Prg}{os:List (List Rat)}(h:Fi p os 0):NY p os:=by
 rcases h with ⟨_,h⟩ | ⟨_,_,h⟩ | ⟨_,_,_,h⟩ | ⟨h,_⟩
 ·cases h
 ·cases h
 ·cases h
 ·exact h
theorem alT{gs:List Nat}{H:Heap}{v ov:Value}{Av:Option Addr}{cv:Nat}{xv:List Value}{p:Prg}{os:List (List Rat)}{vs:List Rat}{N:Nat}(CR:∀q,q∈gs→H q≠none)(hp:eH N (rem H gs) v p)(ho:qh N (rem H gs) ov os)(l5:Rd H Av xv)(D9:bC (bN N (rem H gs)) 3 xv vs)(iC:vs.length≤os.length)(jf:p.free.length≤400)(vD:p.rows.length≤800)(KO:∀r,r∈p.rows→r.1.length≤1000)(ho4:∀o,o∈os→o.length≤1000)(nZ:vs.length≤800)(hN:(N:Int)≤1099511627776):
 Fn Tryz.prog 73 #[v,ov,.slice Av vs.length cv] H (fun v' H'=>Frz gs H H'∧∃A1 k1 c1 A2 k2 c2,v' = .agg #[.slice A1 k1 c1,.slice A2 k2 c2]∧eH (N+2) (rem H' gs) v' (bP p os vs)):=by
 obtain⟨fv,gB,rfl,eI,fk⟩:=id hp
 obtain⟨Af,cf,xf,rfl,jk,jl⟩:=eI.one
 obtain⟨Ar,cr,xr,rfl,jL,fy,iE⟩:=id fk
 obtain⟨Ao,co,xo,rfl,oJ,qw,z7⟩:=id ho;refine a7 (args:=[_,_,_]) Tryz.func73 rfl rfl Tryz.ntmps73 rfl rfl fun w0=> ?_;refine aj [0,1,2] rfl ?_;refine ag (bX rfl rfl (bt uL rfl (ae [1,2,3,6] ?_)));refine ag (ab 2 rfl (aE rfl rfl (Fn.frame CR (abQ eI (by omega))) ?_));rintro _ H1 ⟨⟨cH,JS⟩,lR⟩;obtain⟨E1,d1,_,rfl,_⟩:=id JS
 have alU:∀q,q∈gs→H1 q≠none:=fun q hq=>by rw[lR q hq];exact CR q hq
 have fh:Heap.le H H1:=(MN (α:=Bool) (P:=qO) (e:=0) (sz:=1) CR).step qP (fun q hq=>lR q (by rw[vI,List.append_nil]at hq;exact hq)) (by rw[vI,List.append_nil];exact cH) |>.le;refine dy ah rfl uL rfl rfl (bt uL rfl ?_);obtain⟨ti,ak,al⟩:=wk;refine aH (.inl ⟨rfl,rfl⟩) rfl rfl rfl ak al rfl rfl rfl (ae [1,2,3,6,7] ?_);refine ao (ag (ab 4 rfl (ae [1,2,6,7,17,18,19] ?_)));refine aF (fZ (fun(i:Nat)(w:Value)(ys:List Value)=>p.rows.length-i) (fun(i:Nat)(w:Value)(ys:List Value)=>put (put (put (put (put (put (put (emp) 1 (.val (.slice Ao os.length co))) 2 (.val (.slice Av vs.length cv))) 6 (.box [.slice none 0 0,.slice none 0 0])) 7 (.box [.slice E1 p.free.length d1,w])) 17 (.val (.slice Ar p.rows.length cr))) 18 (.val (.int .i64 (p.rows.length:Int)))) 19 (.val (.int .i64 (i:Int)))) (fun(i:Nat)(w:Value)(ys:List Value) H'=>gS gs H1 (fu (N+2)) 78 5 H' w (p.rows.take i) ys∧i≤p.rows.length) 0 (.slice none 0 0) [] (⟨MN alU,Nat.zero_le _⟩) ar ?_);rintro i w ys H2 ⟨hG,hi⟩;obtain⟨W,cw,rfl⟩:=hG.form
 have jq:(p.rows.take i).length=i:=by rw[List.length_take];omega
 have cD:=cH.trans hG.base;refine ag (ab 1 rfl (ae [1,2,6,7,17,18,19,20] ?_));refine ao (aC rfl (fun hb=> ?_) (fun hb=> ?_))
 ·
  have aT:i<p.rows.length:=by simpa using hb
  obtain⟨r,hr⟩:∃r,p.rows[i]? = some r:=⟨_,List.getElem?_eq_getElem aT⟩;have tq:=KO r (List.mem_of_getElem? hr);obtain⟨A0,c0,f,A1,m1,c1,A2,m2,c2,lX,fH,qc,me⟩:=aR.MF iE hr;have Nx:=qc.size;refine aA (aj [1,2,6,7,17,18,19] rfl ?_);refine ao (aF (ag (ck (vs:=[.slice A0 r.1.length c0,.int .i64 r.2.1,.bool f,.slice A1 m1 c1,.slice A2 m2 c2]) ah rfl rfl rfl rfl ((fy.le cD).le (bE _ _)) rfl (by decide) me (by omega) (by omega) fun _=>(bt gY rfl ?_))));obtain⟨ti,ak,al⟩:=nM;refine aH (.inl ⟨rfl,rfl⟩) rfl rfl rfl ak al rfl rfl rfl (ae [1,2,6,7,9,17,18,19] ?_);refine eu .bL [0,1,2,3,5,6,7,8,4,9,10,11,12,13,14] follows (by kernel_rfl) ?_;refine ab 8 rfl (bm rfl rfl (hG.call (abR (fH.le (dI N) cD) (by omega) (by omega))) (fun _ _ h=>h.le fun _ _ h=>h.1) ?_);rintro _ H5 mV;have jQ:=hG.kV (gm (N+2)) mV fun _ _ h=>h.1;obtain⟨⟨_,A5,c5,rfl,Fe⟩,_⟩:=mV;refine bm rfl rfl (jQ.call (Dx (qc.le (cH.trans jQ.base)) (by omega))) (fun _ _ h=>h.le fun _ _ h=>h.1) ?_;rintro _ H6 iH;have fK:=jQ.kV (gm (N+2)) iH fun _ _ h=>h.1;obtain⟨⟨UG,jO⟩,_⟩:=iH;obtain⟨f6,vT,vU,vV,vW,vX,vY,rfl⟩:=jO.form;have CQ:fu (N+2) (rem H6 (gs++az (.slice W (p.rows.take i).length cw))) [.slice A5 r.1.length c5,.int .i64 r.2.1,.bool f6,.slice vT vU vV,.slice vW vX vY] r:=⟨_,_,_,_,rfl,Fe.le (dI (N+2)) UG,(bJ.raw jO).mono (by omega)⟩
  refine dy ah rfl gY rfl rfl (cW Tryz.underlying23 gY rfl rfl rfl rfl rfl rfl rfl ?_);intro gd ju;have iI:=fK.ins (gm (N+2)) (whole (cG [.agg #[.slice A5 r.1.length c5,.int .i64 r.2.1,.bool f6,.slice vT vU vV,.slice vW vX vY]]) 78) ju;refine dR Tryz.underlying23 gY rfl rfl iI.own (dD _ _ _ _ _ _) rfl (IM _ _ _ _ _ _ _ _ _ _ _) (by rw[jq];omega) (by rw[jq];omega) ?_;intro v8 H8 kL;have gn:=iI.append (gm (N+2)) (j:=[r]) (by simp) kL (iP (gm (N+2) _ _ _ _ (qB _ (Heap.bB _ ju)) CQ) rfl);obtain⟨F8,g8,rfl⟩:=gn.form;refine vr 1 ?_;obtain⟨ti,ak,al⟩:=Ko;refine aH (.inr rfl) rfl rfl rfl ak al rfl rfl rfl (aw (aj [1,2,6,7,17,18,19] rfl ?_));refine aB rfl (aG rfl rfl ⟨by omega,by omega⟩ (ab 1 rfl (aw ?_)));exact⟨i+1,_,_,by omega,ar,by rw[SA hr];exact gn,by omega⟩
 ·
  have hb:p.rows.length≤i:=by simpa using hb
  obtain rfl:i=p.rows.length:=by omega
  rw[List.take_length]at hG;rw[List.take_length];refine aV (aj [1,2,6,7] rfl ?_);refine ao (ag (ab 3 rfl (ae [1,6,7,38,39,40] ?_)));refine aF (fZ (fun(i:Nat)(w:Value)(zs:List Value)=>vs.length-i) (fun(i:Nat)(w:Value)(zs:List Value)=>put (put (put (put (put (put (emp) 1 (.val (.slice Ao os.length co))) 6 (.box [.slice none 0 0,.slice none 0 0])) 7 (.box [.slice E1 p.free.length d1,w])) 38 (.val (.slice Av vs.length cv))) 39 (.val (.int .i64 (vs.length:Int)))) 40 (.val (.int .i64 (i:Int)))) (fun(i:Nat)(w:Value)(zs:List Value) H'=>gS gs H1 (fu (N+2)) 78 5 H' w (p.rows++((os.zip vs).map ZF).take i) zs∧i≤vs.length) 0 _ _ (⟨by rw[List.take_zero,List.append_nil];exact hG,Nat.zero_le _⟩) ar ?_);rintro i w zs H3 ⟨hG,hi⟩;obtain⟨W,cw,rfl⟩:=hG.form
  have jq:(p.rows++((os.zip vs).map ZF).take i).length=p.rows.length+i:=by rw[List.length_append,List.length_take,List.length_map,List.length_zip];omega
  have cD:=cH.trans hG.base;refine ag (ab 1 rfl (ae [1,6,7,38,39,40,41] ?_));refine ao (aC rfl (fun hb=> ?_) (fun hb=> ?_))
  ·
   have hiv:i<vs.length:=by simpa using hb
   obtain⟨q,hq⟩:∃q,vs[i]? = some q:=⟨_,List.getElem?_eq_getElem hiv⟩;obtain⟨o,om⟩:∃o,os[i]? = some o:=⟨_,List.getElem?_eq_getElem (by omega)⟩
   have hz:((os.zip vs).map ZF)[i]? = some (o,2,q):=by rw[List.getElem?_map,abK om hq];rfl
   have ho5:=ho4 o (List.mem_of_getElem? om);obtain⟨f1,B1,k1,e1,B2,k2,e2,lX,qc,IH⟩:=aR.qW D9 hq;obtain⟨Bo,cb,oo,fH⟩:=N7 z7 om;have Nx:=qc.size;refine aA (aj [1,6,7,38,39,40] rfl ?_);refine ao (aF (ag (ab 1 rfl (ck (vs:=[.bool f1,.slice B1 k1 e1,.slice B2 k2 e2]) ah rfl rfl rfl rfl (l5.le (fh.trans hG.le)) rfl (by decide) IH (by omega) (by omega) fun _=>(bt bY rfl (vr 1 ?_))))));obtain⟨ti,ak,al⟩:=aY;refine aH (.inl ⟨rfl,rfl⟩) rfl rfl rfl ak al rfl rfl rfl (ae [1,6,7,10,11,38,39,40] ?_);refine eu .bL [0,1,2,3,4,5,7,6,8,9,10,11,12,13] follows (by kernel_rfl) ?_;refine ab 4 rfl (aQ ah rfl rfl rfl rfl rfl ((qw.le cD).le (bE _ _)) (by rw[Int.toNat_natCast];exact oo) (by omega) (by omega) fun _=> ?_);refine ab 1 rfl (bm rfl rfl (hG.call (abR (fH.le (dI N) cD) (by omega) (by omega))) (fun _ _ h=>h.le fun _ _ h=>h.1) ?_);rintro _ H5 mV;have jQ:=hG.kV (gm (N+2)) mV fun _ _ h=>h.1;obtain⟨⟨_,A5,c5,rfl,Fe⟩,_⟩:=mV;refine bm rfl rfl (jQ.call (Dx (qc.le (cH.trans jQ.base)) (by omega))) (fun _ _ h=>h.le fun _ _ h=>h.1) ?_;rintro _ H6 iH;have fK:=jQ.kV (gm (N+2)) iH fun _ _ h=>h.1;obtain⟨⟨UG,jO⟩,_⟩:=iH
   obtain⟨f6,vT,vU,vV,vW,vX,vY,rfl⟩:=jO.form;have CQ:fu (N+2) (rem H6 (gs++az (.slice W (p.rows++((os.zip vs).map ZF).take i).length cw))) [.slice A5 o.length c5,.int .i64 2,.bool f6,.slice vT vU vV,.slice vW vX vY] (o,2,q):=⟨_,_,_,_,rfl,Fe.le (dI (N+2)) UG,(bJ.raw jO).mono (by omega)⟩;refine dy ah rfl gY rfl rfl (cW Tryz.underlying23 gY rfl rfl rfl rfl rfl rfl rfl ?_);intro gd ju;have iI:=fK.ins (gm (N+2)) (whole (cG [.agg #[.slice A5 o.length c5,.int .i64 2,.bool f6,.slice vT vU vV,.slice vW vX vY]]) 78) ju;refine dR Tryz.underlying23 gY rfl rfl iI.own (dD _ _ _ _ _ _) rfl (IM _ _ _ _ _ _ _ _ _ _ _) (by rw[jq];omega) (by rw[jq];omega) ?_;intro v8 H8 kL;have gn:=iI.append (gm (N+2)) (j:=[(o,2,q)]) (by simp) kL (iP (gm (N+2) _ _ _ _ (qB _ (Heap.bB _ ju)) CQ) rfl);obtain⟨F8,g8,rfl⟩:=gn.form;refine vr 1 ?_;obtain⟨ti,ak,al⟩:=Ko;refine aH (.inr rfl) rfl rfl rfl ak al rfl rfl rfl (aw (aj [1,6,7,38,39,40] rfl ?_));refine aB rfl (aG rfl rfl ⟨by omega,by omega⟩ (ab 1 rfl (aw ?_)));exact⟨i+1,_,_,by omega,ar,by rw[SA hz,←List.append_assoc];exact gn,by omega⟩
  have hb:vs.length≤i:=by simpa using hb
  obtain rfl:i=vs.length:=by omega
  have Da:((os.zip vs).map ZF).length=vs.length:=by rw[List.length_map,List.length_zip];omega
  have hR:=hG.sl (gm (N+2));have e9:((os.zip vs).map ZF).take vs.length=(os.zip vs).map ZF:=List.take_of_length_le (by omega);rw[e9]at hR⊢;have Kg:=hG.out;refine aV (aj [6,7] rfl ?_);refine ag (vr 1 ?_);obtain⟨ti,ak,al⟩:=wk;refine aH (.inl ⟨rfl,rfl⟩) rfl rfl rfl ak al rfl rfl rfl (ae [6] ?_);obtain⟨bQ,aM,aN⟩:=wk;refine aD ⟨.inr rfl,_,.agg rfl Tryz.underlying25 aM aN (.nil),?_⟩;exact⟨⟨fun q hq=>(hG.same q hq).trans (lR q hq),cH.trans Kg⟩,_,_,_,_,_,_,rfl,_,_,rfl,JS.le qP Kg,by rw[alR];exact hR⟩
theorem alV{H:Heap}{v ov:Value}{p:Prg}{os:List (List Rat)}{N:Nat}(hp:eH N H v p)(ho:qh N H ov os)(dA:os.length≤9223372036854775807):
 Fn Tryz.prog 71 #[v,ov] H (fun v' H'=>H'=H∧∃e,v' = .int .i64 e∧Fi p os e):=by
 obtain⟨fv,gB,rfl,eI,fk⟩:=id hp
 obtain⟨Af,cf,xf,rfl,jk,jl⟩:=eI.one
 obtain⟨Ar,cr,xr,rfl,jL,fy,iE⟩:=id fk
 obtain⟨Ao,co,xo,rfl,oJ,qw,z7⟩:=id ho;refine a7 (args:=[_,_]) Tryz.func71 rfl rfl Tryz.ntmps71 rfl rfl fun w0=> ?_;refine aj [0,1] rfl ?_;refine ag (bX rfl rfl (ab 1 rfl (ae [1,2] ?_)));refine ao (aF (ag (ab 1 rfl (aE rfl rfl (R2 hp) ?_))));rintro _ H1 ⟨e1,b1,rfl,fE⟩;rw[e1];refine ab 2 rfl (ae [1,2,5] ?_);refine aC rfl (fun hb=> ?_) (fun hb=> ?_)
 ·
  have re:b1=false:=by simpa using hb
  subst re;refine ag (ab 1 rfl (ae [4] ?_));refine aD ⟨.inr rfl,_,.tmp rfl (.nil),?_⟩;exact⟨rfl,1,rfl,.inl ⟨fun h=>(by have h9:=fE.2 h;cases h9),rfl⟩⟩
 ·
  have pV:b1=true:=by simpa using hb
  have a8:=fE.1 pV;have vD:=a8.rows;refine ag (ab 2 rfl (aE rfl rfl (alQ hp ho dA) ?_));rintro _ H2 ⟨e2,b2,rfl,cD⟩;rw[e2];refine ab 2 rfl (ae [1,2,9] ?_);refine aC rfl (fun hb=> ?_) (fun hb=> ?_)
  ·
   have re:b2=false:=by simpa using hb
   subst re;refine ag (ab 1 rfl (ae [4] ?_));refine aD ⟨.inr rfl,_,.tmp rfl (.nil),?_⟩;exact⟨rfl,21,rfl,.inr (.inl ⟨a8,fun h=>(by have h9:=cD.2 h;cases h9),rfl⟩)⟩
  have CL:b2=true:=by simpa using hb
  have UH:=cD.1 CL
  by_cases h4:40<os.length
  ·
   skip
   refine ag (ab 2 rfl (aI true rfl rfl (nn (by omega)) (ab 10 rfl (ae [14] ?_))));refine dN rfl (ag (ab 1 rfl (ae [4] ?_)));refine aD ⟨.inr rfl,_,.tmp rfl (.nil),?_⟩;exact⟨rfl,9,rfl,.inr (.inr (.inl ⟨a8,UH,.inl h4,rfl⟩))⟩
  skip
  refine ag (ab 2 rfl (aI false rfl rfl (jw (by omega)) (ab 6 rfl (aG rfl rfl ⟨by omega,by omega⟩ (ab 3 rfl (ae [14] ?_))))));refine aC rfl (fun hb=> ?_) (fun hb=> ?_)
  ·
   have h8i:(800:Int)<(p.rows.length:Int)+(os.length:Int):=by simpa using hb
   refine ag (ab 1 rfl (ae [4] ?_));refine aD ⟨.inr rfl,_,.tmp rfl (.nil),?_⟩;exact⟨rfl,9,rfl,.inr (.inr (.inl ⟨a8,UH,.inr (by omega),rfl⟩))⟩
  have h8i:(p.rows.length:Int)+(os.length:Int)≤800:=by simpa using hb
  refine aA (aj [] rfl ?_);refine ag (ab 1 rfl (ae [4] ?_));refine aD ⟨.inr rfl,_,.tmp rfl (.nil),?_⟩;exact⟨rfl,0,rfl,.inr (.inr (.inr ⟨⟨a8,UH,by omega,by omega⟩,rfl⟩))⟩
end Go.au
