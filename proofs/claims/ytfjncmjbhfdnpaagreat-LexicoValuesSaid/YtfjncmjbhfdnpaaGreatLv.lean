/- ref22.Extend beside blocks of its own, ref22.Levels; LexicoValues: the law's walk. -/
import Derived.Test.YtfjncmjbhfdnpaaGreatA14
import Derived.Test.YtfjncmjbhfdnpaaGreatVl
import Derived.Test.YtfjncmjbhfdnpaaGreatLw7
import Derived.Test.YtfjncmjbhfdnpaaGreatLw3
set_option linter.unusedVariables false
namespace Go.aw
open Go.Proofs Num Lp
theorem ale{p:Prg}{os:List (List Rat)}:uD p os []:=⟨Nat.zero_le _,fun i o v _ h=>by simp at h⟩
theorem alf{p:Prg}{os:List (List Rat)}{vs:List Rat}{o:List Rat}{v:Rat}(h:uD p os vs)(hl:vs.length<os.length)(ho:os[vs.length]? = some o)(hv:(b8 p os vs).lp.vv (fn o) v):uD p os (vs ++ [v]):=by
 refine⟨by rw[List.length_append,List.length_singleton];omega,fun i o' v' h1 h2=> ?_⟩
 by_cases hi:i<vs.length
 ·rw[List.getElem?_append_left hi]at h2
  rw[List.take_append_of_le_length (by omega)]
  exact h.2 i o' v' h1 h2
 ·have h3:=(List.getElem?_eq_some_iff.1 h2).1
  rw[List.length_append,List.length_singleton]at h3
  obtain rfl:i=vs.length:=by omega
  rw[List.getElem?_append_right (Nat.le_refl _),Nat.sub_self]at h2
  cases h2
  rw[ho]at h1;cases h1
  rw[List.take_append_of_le_length (Nat.le_refl _),List.take_length];exact hv
theorem alg{q:LP}{c:Nat→Rat}(hc:∀j,c j=0)(h:q.zd c):False:=by
 obtain⟨_,k2⟩:=h
 obtain⟨x,hx,bL⟩:=k2 0
 have e:bN q.n c x=0:=by
  unfold bN
  rw[eS (g:=fun _=>0) fun i _=>by rw[hc i];grind]
  generalize q.n=k
  induction k with
  | zero=>rfl
  | succ k ih=>rw[fZ,ih];grind
 have bL:bN q.n c x<0:=bL
 grind
theorem Cm.of{p:Prg}{c:List Rat}{q:Rat}{T:ar}(hT:I2 p c T)(e:q = -(T.c p.w)):Cm p c ⟨1,q,aL (dF.vec p.lay.pF p.lay.mF T.pt) p.lp.n,[],[]⟩:=fun _=>⟨T,hT,e,rfl⟩
theorem alh{gs:List Nat}{H:Heap}{v ov:Value}{Av:Option Addr}{cv:Nat}{xv:List Value}{p:Prg}{os:List (List Rat)}{vs:List Rat}{N:Nat}(vZ:∀q,q∈gs→H q≠none)(hp:ea N (rem H gs) v p)(ho:jw N (rem H gs) ov os)(lr:Rd H Av xv)(zu:bE (bR N (rem H gs)) 3 xv vs)(bx:p.Ok)(wa:∀o,o∈os→o.length=p.free.length)(ig:vs.length≤os.length)(h8:p.rows.length+vs.length≤800)(cT:os.length≤9223372036854775807)(hN:(N:Int)≤1099511627776):
 Fn Tryz.prog 74 #[v,ov,.slice Av vs.length cv] H (fun v' H'=>Frz gs H H'∧∃A1 k1 c1 A2 k2 c2,v' = .tuple #[.agg #[.slice A1 k1 c1,.slice A2 k2 c2],.int .i64 0]∧ea (N+2) (rem H' gs) (.agg #[.slice A1 k1 c1,.slice A2 k2 c2]) (b8 p os vs)):=by
 obtain⟨fv,fL,rfl,dO,eo⟩:=id hp
 obtain⟨Af,cf,xf,rfl,CL,iv,gS⟩:=id dO
 obtain⟨Ar,cr,xr,rfl,iM,eJ,gE⟩:=id eo
 obtain⟨Ao,co,xo,rfl,lk,kK,nU⟩:=id ho
 have tZ:=bx.rows
 have jF:=bx.iG
 have Um:∀o,o∈os→o.length≤1000:=fun o h=>by have:=wa o h;omega
 have DA:∀r,r∈p.rows→r.1.length≤1000:=fun r hr=>by obtain⟨i,hi⟩:=List.getElem?_of_mem hr;have:=(bx.row i r hi).1;omega
 refine aZ (args:=[_,_,_]) Tryz.func74 rfl rfl Tryz.ntmps74 rfl rfl fun w0=> ?_;refine aj [0,1,2] rfl ?_;refine ag (bW rfl rfl (bn p4 rfl (ab 1 rfl (ae [1,2,3,6] ?_))));refine aq (ag (ab 1 rfl (aF rfl rfl (aaV (hp.le (bt _ _))) ?_)));rintro _ H1 ⟨e1,b1,rfl,fa⟩;rw[e1];have fa:=fa.2 bx;subst fa;refine ab 1 rfl (ae [1,2,3,6,13] ?_);refine dR rfl (aA (aj [1,2,3,6] rfl ?_));refine aq (ag (ab 2 rfl (aF rfl rfl (abD (hp.le (bt _ _)) (ho.le (nV N) (bt _ _)) cT) ?_)));rintro _ H2 ⟨e2,b2,rfl,bU⟩;rw[e2];have bU:=bU.2 wa;subst bU;refine ab 6 rfl (aJ false rfl rfl (iW (by omega)) (ab 1 rfl (ae [1,2,3,6,25] ?_)));refine dR rfl (aA (aj [1,2,3,6] rfl ?_));refine aq (ag (ab 5 rfl (aH rfl rfl ⟨by omega,by omega⟩ (ab 1 rfl (ae [1,2,3,6,33] ?_)))));refine aD rfl (fun hb=> ?_) (fun hb=> ?_)
 ·
  have NU:(800:Int)<(p.rows.length:Int)+(vs.length:Int):=by simpa using hb
  have h9:False:=by omega
  refine ag (de ah rfl p4 rfl rfl ?_);obtain⟨ti,ak,al⟩:=p5;refine aI (.inl ⟨rfl,rfl⟩) rfl rfl rfl ak al rfl rfl rfl (ab 1 rfl (ae [6,7] ?_));obtain⟨bQ,aN,aO⟩:=p5;refine aE ⟨.inr rfl,_,.agg rfl Tryz.underlying25 aN aO (.tmp rfl (.nil)),?_⟩;exact h9.elim
 ·
  skip
  refine aA (aj [1,2,3,6] rfl ?_);refine ag (ab 2 rfl (dK Tryz.underlying22 Gb rfl rfl (lB H 4 1) (iv.le (bt _ _)) gS.len (gS.aad aac (by decide)) (by omega) (by omega) ?_));intro v7 H7 qx;have CX:=(I6 (P:=ql) (e:=4) (sz:=1) vZ).append sK (j:=p.free) (by simp) qx (gS.mono fun vs a=>id);rw[List.nil_append]at CX;have vY:=CX.out;have CY:=CX.sl sK;have JV:=CX.same;have HM:=CX.le;obtain⟨E1,d1,rfl⟩:=CX.form
  have ali:∀q,q∈gs→H7 q≠none:=fun q hq=>by rw[JV q hq];exact vZ q hq
  clear CX qx;refine de ah rfl p4 rfl rfl (bn p4 rfl ?_);obtain⟨ti,ak,al⟩:=p5;refine aI (.inl ⟨rfl,rfl⟩) rfl rfl rfl ak al rfl rfl rfl (ae [1,2,3,6,8] ?_);refine aq (ag (ab 4 rfl (ae [1,2,3,6,8,41,42] ?_)));refine aG (fG (fun(i:Nat)(w:Value)(ys:List Value)=>p.rows.length-i) (fun(i:Nat)(w:Value)(ys:List Value)=>put (put (put (put (put (put (put (emp) 1 (.val (.slice Ao os.length co))) 2 (.val (.slice Av vs.length cv))) 3 (.box [.slice Af p.free.length cf,.slice Ar p.rows.length cr])) 6 (.box [.slice none 0 0,.slice none 0 0])) 8 (.box [.slice E1 p.free.length d1,w])) 41 (.val (.int .i64 (p.rows.length:Int)))) 42 (.val (.int .i64 (i:Int)))) (fun(i:Nat)(w:Value)(ys:List Value) H'=>gF gs H7 (fA (N+2)) 78 5 H' w (p.rows.take i) ys∧i≤p.rows.length) 0 (.slice none 0 0) [] (⟨I6 ali,Nat.zero_le _⟩) au ?_);rintro i w ys H2 ⟨hG,hi⟩;obtain⟨W,cw,rfl⟩:=hG.form
  have gm:(p.rows.take i).length=i:=by rw[List.length_take];omega
  have bU:=vY.trans hG.base;refine ag (ab 1 rfl (ae [1,2,3,6,8,41,42,43] ?_));refine aq (aD rfl (fun hb=> ?_) (fun hb=> ?_))
  ·
   have aU:i<p.rows.length:=by simpa using hb
   obtain⟨r,hr⟩:∃r,p.rows[i]? = some r:=⟨_,List.getElem?_eq_getElem aU⟩;have rV:=DA r (List.mem_of_getElem? hr);obtain⟨A0,c0,f,A1,m1,c1,A2,m2,c2,ln,eT,lS,kC⟩:=aR.I0 gE hr;have Ff:=lS.size;refine aA (aj [1,2,3,6,8,41,42] rfl ?_);refine aq (aG (ag (ab 2 rfl (ae [1,2,3,6,8,9,41,42] ?_))));refine ep .bJ [0,1,2,3,4,5,6,7,9,10,11,12,13,14,15,16,17,18,19,20,8,21,22,23,24,25,26] follows (ia [0,1,0,4,0,28,60,124,252,0,512,0,3584,7680,15872,0,32768,0,229376,491520,1015808,2064892,4194300,8388604,16777215,33554431,67108863] (by kernel_rfl)) ?_;refine ab 5 rfl (nR ah rfl rfl rfl rfl rfl rfl rfl ((eJ.le bU).le (bt _ _)) (kC 0 _ rfl) (by omega) (by omega) fun _ _=>(ab 3 rfl (nR ah rfl rfl rfl rfl rfl rfl rfl ((eJ.le bU).le (bt _ _)) (kC 1 _ rfl) (by omega) (by omega) fun _ _=>(ab 3 rfl (ZR ah rfl rfl rfl rfl rfl rfl ((eJ.le bU).le (bt _ _)) rfl (by decide) (ZS kC) (by omega) (by omega) fun _ _=>(a8 rfl rfl (hG.call (abE (eT.le (dz N) bU) (by omega) (by omega))) (fun _ _ h=>h.le fun _ _ h=>h.1) ?_))))));rintro _ H5 kR;have gV:=hG.jK (fJ (N+2)) kR fun _ _ h=>h.1;obtain⟨⟨_,A5,c5,rfl,CZ⟩,_⟩:=kR;refine a8 rfl rfl (gV.call (qg (lS.le (vY.trans gV.base)) (by omega))) (fun _ _ h=>h.le fun _ _ h=>h.1) ?_
   rintro _ H6 gw;have fC:=gV.jK (fJ (N+2)) gw fun _ _ h=>h.1;obtain⟨⟨C0,iu⟩,_⟩:=gw;obtain⟨f6,oE,oF,oG,oH,oI,oJ,rfl⟩:=iu.form;have yl:fA (N+2) (rem H6 (gs++aB (.slice W (p.rows.take i).length cw))) [.slice A5 r.1.length c5,.int .i64 r.2.1,.bool f6,.slice oE oF oG,.slice oH oI oJ] r:=⟨_,_,_,_,rfl,CZ.le (dz (N+2)) C0,(bK.raw iu).mono (by omega)⟩;refine de ah rfl gL rfl rfl (cR Tryz.underlying23 gL rfl rfl rfl rfl rfl rfl rfl ?_);intro gd iA;have fW:=fC.ins (fJ (N+2)) (whole (cF [.agg #[.slice A5 r.1.length c5,.int .i64 r.2.1,.bool f6,.slice oE oF oG,.slice oH oI oJ]]) 78) iA;refine dK Tryz.underlying23 gL rfl rfl fW.own (dE _ _ _ _ _ _) rfl (EY _ _ _ _ _ _ _ _ _ _ _) (by rw[gm];omega) (by rw[gm];omega) ?_;intro v8 H8 jJ;have fV:=fW.append (fJ (N+2)) (j:=[r]) (by simp) jJ (iE (fJ (N+2) _ _ _ _ (og _ (Heap.bC _ iA)) yl) rfl);obtain⟨F8,g8,rfl⟩:=fV.form;refine vr 1 ?_;obtain⟨ti,ak,al⟩:=Gd;refine aI (.inr rfl) rfl rfl rfl ak al rfl rfl rfl (az (aj [1,2,3,6,8,41,42] rfl ?_));refine aC rfl (aH rfl rfl ⟨by omega,by omega⟩ (ab 1 rfl (az ?_)));exact⟨i+1,_,_,by omega,au,by rw[EZ hr];exact fV,by omega⟩
  have hb:p.rows.length≤i:=by simpa using hb
  obtain rfl:i=p.rows.length:=by omega
  rw[List.take_length]at hG;rw[List.take_length];refine aW (aj [1,2,6,8] rfl ?_);refine aq (ag (ab 3 rfl (ae [1,2,6,8,73,74] ?_)));refine aG (fG (fun(i:Nat)(w:Value)(zs:List Value)=>vs.length-i) (fun(i:Nat)(w:Value)(zs:List Value)=>put (put (put (put (put (put (emp) 1 (.val (.slice Ao os.length co))) 2 (.val (.slice Av vs.length cv))) 6 (.box [.slice none 0 0,.slice none 0 0])) 8 (.box [.slice E1 p.free.length d1,w])) 73 (.val (.int .i64 (vs.length:Int)))) 74 (.val (.int .i64 (i:Int)))) (fun(i:Nat)(w:Value)(zs:List Value) H'=>gF gs H7 (fA (N+2)) 78 5 H' w (p.rows++((os.zip vs).map ZF).take i) zs∧i≤vs.length) 0 _ _ (⟨by rw[List.take_zero,List.append_nil];exact hG,Nat.zero_le _⟩) au ?_);rintro i w zs H3 ⟨hG,hi⟩;obtain⟨W,cw,rfl⟩:=hG.form
  have gm:(p.rows++((os.zip vs).map ZF).take i).length=p.rows.length+i:=by rw[List.length_append,List.length_take,List.length_map,List.length_zip];omega
  have bU:=vY.trans hG.base;refine ag (ab 1 rfl (ae [1,2,6,8,73,74,75] ?_));refine aq (aD rfl (fun hb=> ?_) (fun hb=> ?_))
  ·
   have Un:i<vs.length:=by simpa using hb
   obtain⟨q,hq⟩:∃q,vs[i]? = some q:=⟨_,List.getElem?_eq_getElem Un⟩;obtain⟨o,jx⟩:∃o,os[i]? = some o:=⟨_,List.getElem?_eq_getElem (by omega)⟩
   have hz:((os.zip vs).map ZF)[i]? = some (o,2,q):=by rw[List.getElem?_map,Uh jx hq];rfl
   have ho5:=Um o (List.mem_of_getElem? jx);obtain⟨f1,B1,k1,e1,B2,k2,e2,ln,lS,Ct⟩:=aR.pI zu hq;obtain⟨Bo,cb,kT,eT⟩:=Ak nU jx;have Ff:=lS.size;refine aA (aj [1,2,6,8,73,74] rfl ?_);refine aq (aG (ag (ab 2 rfl (ae [1,2,6,8,10,73,74] ?_))));refine ep .bJ [0,1,2,3,4,5,7,8,9,10,6,11,12,13,14,15,16] follows (ia [0,1,0,0,12,28,60,0,0,384,896,2044,4092,8188,16383,32767,65535] (by kernel_rfl)) ?_;refine ab 4 rfl (aS ah rfl rfl rfl rfl rfl ((kK.le bU).le (bt _ _)) (by rw[Int.toNat_natCast];exact kT) (by omega) (by omega) fun _=> ?_);refine ab 2 rfl (ck (vs:=[.bool f1,.slice B1 k1 e1,.slice B2 k2 e2]) ah rfl rfl rfl rfl (lr.le (HM.trans hG.le)) rfl (by decide) Ct (by omega) (by omega) fun _=>(a8 rfl rfl (hG.call (abE (eT.le (dz N) bU) (by omega) (by omega))) (fun _ _ h=>h.le fun _ _ h=>h.1) ?_));rintro _ H5 kR;have gV:=hG.jK (fJ (N+2)) kR fun _ _ h=>h.1;obtain⟨⟨_,A5,c5,rfl,CZ⟩,_⟩:=kR;refine a8 rfl rfl (gV.call (qg (lS.le (vY.trans gV.base)) (by omega))) (fun _ _ h=>h.le fun _ _ h=>h.1) ?_;rintro _ H6 gw;have fC:=gV.jK (fJ (N+2)) gw fun _ _ h=>h.1;obtain⟨⟨C0,iu⟩,_⟩:=gw;obtain⟨f6,oE,oF,oG,oH,oI,oJ,rfl⟩:=iu.form
   have yl:fA (N+2) (rem H6 (gs++aB (.slice W (p.rows++((os.zip vs).map ZF).take i).length cw))) [.slice A5 o.length c5,.int .i64 2,.bool f6,.slice oE oF oG,.slice oH oI oJ] (o,2,q):=⟨_,_,_,_,rfl,CZ.le (dz (N+2)) C0,(bK.raw iu).mono (by omega)⟩;refine de ah rfl gL rfl rfl (cR Tryz.underlying23 gL rfl rfl rfl rfl rfl rfl rfl ?_);intro gd iA;have fW:=fC.ins (fJ (N+2)) (whole (cF [.agg #[.slice A5 o.length c5,.int .i64 2,.bool f6,.slice oE oF oG,.slice oH oI oJ]]) 78) iA;refine dK Tryz.underlying23 gL rfl rfl fW.own (dE _ _ _ _ _ _) rfl (EY _ _ _ _ _ _ _ _ _ _ _) (by rw[gm];omega) (by rw[gm];omega) ?_;intro v8 H8 jJ;have fV:=fW.append (fJ (N+2)) (j:=[(o,2,q)]) (by simp) jJ (iE (fJ (N+2) _ _ _ _ (og _ (Heap.bC _ iA)) yl) rfl);obtain⟨F8,g8,rfl⟩:=fV.form;refine vr 1 ?_;obtain⟨ti,ak,al⟩:=Gd;refine aI (.inr rfl) rfl rfl rfl ak al rfl rfl rfl (az (aj [1,2,6,8,73,74] rfl ?_));refine aC rfl (aH rfl rfl ⟨by omega,by omega⟩ (ab 1 rfl (az ?_)));exact⟨i+1,_,_,by omega,au,by rw[EZ hz,←List.append_assoc];exact fV,by omega⟩
  have hb:vs.length≤i:=by simpa using hb
  obtain rfl:i=vs.length:=by omega
  have AR:((os.zip vs).map ZF).length=vs.length:=by rw[List.length_map,List.length_zip];omega
  have hR:=hG.sl (fJ (N+2));have e9:((os.zip vs).map ZF).take vs.length=(os.zip vs).map ZF:=List.take_of_length_le (by omega);rw[e9]at hR⊢;have AQ:=hG.out;refine aW (aj [6,8] rfl ?_);refine ag (vr 1 ?_);obtain⟨ti,ak,al⟩:=p5;refine aI (.inl ⟨rfl,rfl⟩) rfl rfl rfl ak al rfl rfl rfl (ab 1 rfl (ae [6,7] ?_));obtain⟨bQ,aN,aO⟩:=p5;refine aE ⟨.inr rfl,_,.agg rfl Tryz.underlying25 aN aO (.tmp rfl (.nil)),?_⟩;exact⟨⟨fun q hq=>(hG.same q hq).trans (JV q hq),vY.trans AQ⟩,_,_,_,_,_,_,rfl,_,_,rfl,CY.le sK AQ,by rw[abF];exact hR⟩
def alj(p:Prg)(os:List (List Rat))(H:Heap)(v:Value)(H':Heap):Prop:=Heap.le H H'∧∃(st:Int)(A:Option Addr)(k c:Nat)(vs:List Rat),v = .tuple #[.int .i64 st,.slice A k c]∧CW p os st vs∧aR (bR KX) 3 H' (.slice A k c) vs
structure alk(p:Prg)(os:List (List Rat))(E f0:Nat)(H H':Heap)(i:Nat)(w:Value)(z:List Value)(vs:List Rat):Prop where
 JW:ed (bR KX) 31 3 H H' w vs z
 il:i≤os.length+1
 vl:(i≤os.length→vs.length=i)∧(os.length≤i→vs.length=os.length)
 pQ:uD p os vs
 dd:0<i→∃x,(b8 p os vs).lp.dY 1 x
 bin:∃D,kP D (f0+vs.length*E) (b8 p os vs)
theorem alm{H:Heap}{v ov:Value}{p:Prg}{os:List (List Rat)}{N E f0:Nat}(hp:ea N H v p)(ho:jw N H ov os)(hN:N≤KX)(hf:Aj p os)(hz:uH p os E f0):
 Fn Tryz.prog 18 #[v,ov] H (alj p os H):=by
 have Uo:=hp.mono hN
 have Uq:=ho.mono hN
 obtain⟨fv,fL,rfl,dO,eo⟩:=id hp
 obtain⟨Af,cf,xf,rfl,CL,iv,gS⟩:=id dO
 obtain⟨Ar,cr,xr,rfl,iM,eJ,gE⟩:=id eo
 obtain⟨Ao,co,xo,rfl,lk,kK,nU⟩:=id ho
 have bx:=hf.ok
 have abG:=hf.pQ
 have Ec:=hf.rows
 have NV:=hz.JX
 have jF:=bx.iG
 have Ur:∀o,o∈os→o.length=p.free.length:=hf.vec;refine aZ (args:=[_,_]) Tryz.func18 rfl rfl Tryz.ntmps18 rfl rfl fun w0=> ?_;refine aj [0,1] rfl ?_;refine ag (bW rfl rfl (ab 2 rfl (ae [1,2] ?_)));refine ag (ab 1 rfl (ae [1,2,6] ?_));refine aq (ag (ab 1 rfl (ae [1,2,6,7] ?_)));refine aG (oU (fun(i:Nat)(w:Value)(z:List Value)(vs:List Rat)=>os.length+1-i) (fun(i:Nat)(w:Value)(z:List Value)(vs:List Rat)=>put (put (put (put (emp) 1 (.val (.slice Ao os.length co))) 2 (.box [.slice Af p.free.length cf,.slice Ar p.rows.length cr])) 6 (.val (w))) 7 (.val (.int .i64 (i:Int)))) (fun(i:Nat)(w:Value)(z:List Value)(vs:List Rat) H'=>alk p os E f0 H H' i w z vs) 0 (.slice none 0 0) [] [] (⟨EX H,Nat.zero_le _,⟨fun _=>rfl,fun h=>(Nat.le_zero.1 h).symm⟩,ale,(fun h=>absurd h (Nat.not_lt_zero _)),by obtain⟨D,hD⟩:=hz.bin;exact⟨D,by rw[ext_nil,List.length_nil,Nat.zero_mul,Nat.add_zero];exact hD⟩⟩) au ?_);rintro i w z vs H1 hI;have hG:=hI.JW;obtain⟨W,cw,rfl⟩:=hG.form;have vy:vs.length≤os.length:=hI.pQ.1;refine aq (ag (ab 4 rfl (ae [1,2,6,7,17] ?_)));refine aD rfl (fun hb=> ?_) (fun hb=> ?_)
 ·
  have lZ:i≤os.length:=by simpa using hb
  have hvi:=hI.vl.1 lZ;obtain⟨D,hD⟩:=hI.bin
  have hEf:E+(f0+vs.length*E)≤99999998:=by
   have h1:=Nat.mul_le_mul_right E (show vs.length+1≤os.length+1 by omega);rw[Nat.add_mul]at h1;omega
  refine aA (aj [1,2,6,7] rfl ?_);refine aq (aG (ag (ab 3 rfl (aF rfl rfl (alh hG.nS (Uo.le hG.base) (Uq.le (nV KX) hG.base) hG.own.rd hG.lT bx Ur vy (by omega) (by omega) (by decide)) ?_))));rintro _ H2 ⟨⟨oc,dC⟩,Q1,k1,d1,Q2,k2,d2,rfl,bO⟩;have wb:=hG.step (dz KX) oc dC;refine ab 3 rfl (bn p4 rfl ?_);obtain⟨ti,ak,al⟩:=p5;refine aI (.inl ⟨rfl,rfl⟩) rfl rfl rfl ak al rfl rfl rfl (ab 1 rfl (ae [1,2,6,7,8] ?_));refine ag (ab 3 rfl (gJ Tryz.underlying26 bZ rfl rfl rfl (by omega) (by omega) (by omega) (by omega) ?_));intro gz xt;have qy:=wb.ins (dz KX) ⟨cD [.bool false,.slice none 0 0,.slice none 0 0] ((p.free.length:Int).toNat*3),(p.free.length:Int).toNat*3,31,true⟩ xt;have hmz:=Us (N:=KX+2) (H:=rem H2 (aB (.slice W vs.length cw))) (g:=gz) (k:=p.free.length);have hgo:¬gz∈aB (.slice W vs.length cw):=fun hm=>wb.nS _ hm xt;rw[←rY _ hgo]at hmz;have iN:=bO.le (og (aB (.slice W vs.length cw)) (Heap.bC ⟨cD [.bool false,.slice none 0 0,.slice none 0 0] ((p.free.length:Int).toNat*3),(p.free.length:Int).toNat*3,31,true⟩ xt));refine ab 1 rfl (ae [1,2,6,7,8,10] ?_);refine kI (fun(NW:Value)=>put (put (put (put (put (put (emp) 1 (.val (.slice Ao os.length co))) 2 (.box [.slice Af p.free.length cf,.slice Ar p.rows.length cr])) 6 (.val (.slice W vs.length cw))) 7 (.val (.int .i64 (i:Int)))) 8 (.box [.slice Q1 k1 d1,.slice Q2 k2 d2])) 10 (.val (NW))) (fun(NW:Value) H'=>ed (bR KX) 31 3 H H' (.slice W vs.length cw) vs z∧ea (KX+2) (rem H' (aB (.slice W vs.length cw))) (.agg #[.slice Q1 k1 d1,.slice Q2 k2 d2]) (b8 p os vs)∧∃o,aR (bR (KX+2)) 3 (rem H' (aB (.slice W vs.length cw))) NW o∧o.length=p.free.length∧((os[i]? = some o∧i<os.length)∨(i=os.length∧∀j,fn o j=0))) ?_ ?_
  ·
   refine ag (ab 4 rfl (ae [1,2,6,7,8,10,34] ?_));refine aD rfl (fun hb=> ?_) (fun hb=> ?_)
   ·
    have Ft:i<os.length:=by simpa using hb
    obtain⟨o,jx⟩:∃o,os[i]? = some o:=⟨_,List.getElem?_eq_getElem Ft⟩;obtain⟨Bo,cb,kT,eT⟩:=Ak nU jx;refine aC rfl (ab 2 rfl (aS ah rfl rfl rfl rfl rfl (kK.le qy.le) (by rw[Int.toNat_natCast];exact kT) (by omega) (by omega) fun _=> ?_));refine ab 1 rfl (az ?_);exact⟨_,au,qy,iN,o,(eT.le (dz N) qy.base).T7 (Nat.le_trans hN (by decide)),Ur o (List.mem_of_getElem? jx),.inl ⟨jx,by omega⟩⟩
   have Ft:os.length≤i:=by simpa using hb
   refine aA ?_;exact⟨_,au,qy,iN,_,hmz,List.length_replicate,.inr ⟨by omega,NX _⟩⟩
  ·
   rintro NW H4 ⟨rG,cI,o,aln,alo,Ut⟩
   skip
   refine ag (vr 2 ?_);obtain⟨M,uU,hM⟩:=hz.fit (vs:=vs) (o:=o) vy (by rcases Ut with ⟨h1,_⟩ | ⟨_,h1⟩;exact .inl (List.mem_of_getElem? h1);exact .inr h1) hD;refine aF rfl rfl (rG.call (akT (abz bx Ur (by omega)) alo cI aln (by decide) uU (by omega))) ?_;rintro _ H5 kR;have gV:=rG.jK (dz KX) kR fun _ _ h=>h.1;obtain⟨⟨_,st,t8,xv,q,rfl,hS5,eW,vD,_⟩,_⟩:=kR;refine ab 4 rfl (bn bZ rfl (vr 1 ?_));obtain⟨ti,ak,al⟩:=a6;refine aI (.inl ⟨rfl,rfl⟩) rfl rfl rfl ak al rfl rfl rfl (ab 1 rfl (ae [1,2,6,7,11,12] ?_));refine aq (ag (ab 2 rfl (ae [1,2,6,7,11,12,47] ?_)));refine aD rfl (fun hb=> ?_) (fun hb=> ?_)
   ·
    have dS:¬st=1:=by simpa using hb
    have NY:CW p os st vs:=by
     rcases hS5 with ⟨h1,_⟩ | ⟨h1,h2,_⟩ | ⟨h1,h2,_⟩
     ·exact absurd h1 dS
     ·
      by_cases Nq:0<i
      ·
       obtain⟨x,hx⟩:=hI.dd Nq;exact(h2 x hx).elim
      ·
       have:vs = []:=List.eq_nil_of_length_eq_zero (by omega);subst this;rw[ext_nil]at h2;exact .inr (.inl ⟨h1,rfl,h2⟩)
     ·
      rcases Ut with ⟨h3,h4⟩ | ⟨_,h3⟩
      ·exact .inr (.inr ⟨h1,hI.pQ,o,by rw[show vs.length=i by omega];exact h3,h2⟩)
      ·exact(alg h3 h2).elim
    refine ag (ab 4 rfl (ae [4,5] ?_));refine aE ⟨.inr rfl,_,.tmp rfl (.tmp rfl (.nil)),?_⟩;exact⟨gV.le,st,W,vs.length,cw,vs,rfl,NY,gV.sl (dz KX)⟩
   have dS:st=1:=by simpa using hb
   obtain⟨JY,T,hT,hqT⟩:(b8 p os vs).lp.vv (fn o) q∧∃T,I2 (b8 p os vs) o T∧q = -(T.c (b8 p os vs).w):=by
    rcases hS5 with ⟨_,h1⟩ | ⟨h1,_⟩ | ⟨h1,_⟩
    ·exact h1
    ·omega
    ·omega
   refine aA (aj [1,2,6,7,12] rfl ?_);refine ag (ab 4 rfl (ae [1,2,6,7,12,53] ?_));refine aD rfl (fun hb=> ?_) (fun hb=> ?_)
   ·
    have Ft:i<os.length:=by simpa using hb
    have jx:os[vs.length]? = some o:=by
     rcases Ut with ⟨h3,h4⟩ | ⟨h3,_⟩
     ·rw[show vs.length=i by omega];exact h3
     ·omega
    refine aC rfl (ab 2 rfl (cR Tryz.underlying26 bZ rfl rfl rfl rfl rfl rfl rfl ?_));intro gb bo;have fC:=gV.ins (dz KX) (whole (cF [t8.v]) 31) bo;refine dK Tryz.underlying26 bZ rfl rfl fC.own (dE _ _ _ _ _ _) rfl (zM _ _ _ _ _ _ _) (by omega) (by omega) ?_;intro v7 H7 qx;have fV:=fC.append (dz KX) (k:=[q]) (by simp) qx (iE (show bR KX _ [_,_,_] _ from((bK.raw eW).mono (by show _≤200000000;omega)).le (og _ (Heap.bC _ bo))) rfl);obtain⟨F7,f7,rfl⟩:=fV.form;refine ab 1 rfl (az (aj [1,2,6,7] rfl ?_));refine aC rfl (ab 1 rfl (aH rfl rfl ⟨by omega,by omega⟩ (ab 1 rfl (az ?_))))
    exact⟨i+1,_,_,vs ++ [q],by omega,au,⟨fV,by omega,by rw[List.length_append,List.length_singleton];exact⟨fun _=>by omega,fun _=>by omega⟩,alf hI.pQ (by omega) jx JY,fun _=>by
     obtain⟨⟨x,hx,Oo⟩,_⟩:=JY
     exact⟨x,abC (by omega) jx hx Oo⟩,by
     rw[List.length_append,List.length_singleton,show f0+(vs.length+1)*E=E+(f0+vs.length*E) by rw[Nat.add_mul];omega]
     exact hz.step (S:=⟨1,q,_,[],[]⟩) (by omega) (List.mem_of_getElem? jx) hD (Cm.of hT hqT) rfl⟩⟩
   have Ft:os.length≤i:=by simpa using hb
   have fW:=gV;refine aA (aj [1,2,6,7] rfl ?_);refine aC rfl (ab 1 rfl (aH rfl rfl ⟨by omega,by omega⟩ (ab 1 rfl (az ?_))))
   exact⟨i+1,_,_,vs,by omega,au,⟨fW,by omega,⟨fun _=>by omega,fun _=>by omega⟩,hI.pQ,fun _=>by
    obtain⟨⟨x,hx,_⟩,_⟩:=JY
    exact⟨x,hx⟩,hI.bin⟩⟩
 ·
  have lZ:i=os.length+1:=by
   have:=hI.il
   simp at hb;omega
  have wy:vs.length=os.length:=hI.vl.2 (by omega);obtain⟨x,hx⟩:=hI.dd (by omega);refine aW (aj [6] rfl ?_);refine ag (ab 3 rfl (ae [4,5] ?_));refine aE ⟨.inr rfl,_,.tmp rfl (.tmp rfl (.nil)),?_⟩;exact⟨hG.le,1,W,vs.length,cw,vs,rfl,.inl ⟨rfl,wy,hI.pQ,x,((Ai vy).1 hx).1⟩,hG.sl (dz KX)⟩
end Go.aw
