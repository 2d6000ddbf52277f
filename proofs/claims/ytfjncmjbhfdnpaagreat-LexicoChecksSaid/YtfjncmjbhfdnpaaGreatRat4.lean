/- Walks over package rational, part 4: Sub and Cmp (not for a seat that does not reach them). -/
import Derived.Test.YtfjncmjbhfdnpaaGreatA10
set_option linter.unusedVariables false
namespace Go.ay
open Go.Proofs Num
theorem afn{H:Heap}{v v2:Value}{q q2:Rat}{N:Nat}(hv:bN H v q N)(dI:bN H v2 q2 N)(hN:(N:Int)≤1099511627776):
 Fn Tryz.prog 157 #[v,v2] H (jZ H (q-q2)):=by
 obtain⟨bf,bu,bw,lW,lX,rfl,_⟩:=id hv
 obtain⟨cf,cu,cw,vQ,vR,rfl,_⟩:=id dI;refine aU (args:=[_,_]) Tryz.func157 rfl rfl Tryz.ntmps157 rfl rfl fun w0=> ?_;refine ag [0,1] rfl ?_;refine ae ?_;refine bF rfl rfl ?_;refine bF rfl rfl ?_;refine bh cM rfl ?_;refine ab [2,3,4] ?_;refine ae ?_;refine vr 1 ?_;refine ar rfl rfl (o6 dI (by omega)) ?_;rintro v2 H2 ⟨dU,f2,n2,d2,qP,jH,rfl,aM,lR⟩;obtain⟨AF,AG,rfl,kS,kq⟩:=id qP;obtain⟨yh,yi,rfl,AH,AI⟩:=id kS;obtain⟨yj,yk,rfl,AJ,AK⟩:=id kq;have afF:p7 H2 (.agg #[.bool (!f2),.slice yh (ah n2).length yi,.slice yj (ah d2).length yk]) (!f2) n2 d2:=⟨_,_,rfl,kS,kq⟩;refine bh iX rfl ?_;obtain⟨ti,aj,ak⟩:=gP;refine aG (.inl ⟨rfl,rfl⟩) rfl rfl rfl aj ak rfl rfl rfl ?_;refine ab [2,4,5] ?_;refine ae ?_;refine vr 4 ?_;obtain⟨ti,aj,ak⟩:=Pw;refine aG (.inr rfl) rfl rfl rfl aj ak rfl rfl rfl ?_;refine ab [2,4,5] ?_;refine bL .bn [0,2,1,3,4,5] follows (by kernel_rfl) ?_;refine vr 2 ?_;refine aH rfl rfl (o6 (hv.le dU) (by omega)) (fun _ _ h=>h.le) ?_;rintro v1 H1 ⟨fk,f1,n1,d1,kp,eJ,rfl,aI,p9⟩;obtain⟨tH,tI,rfl,gm,gH⟩:=id kp;obtain⟨tJ,tK,rfl,tL,tM⟩:=id gm;obtain⟨tN,tO,rfl,tP,tQ⟩:=id gH;refine aH rfl rfl (Qe (K:=N+1) kp (afF.le fk) eJ jH aI p9 aM lR (by omega)) (fun _ _ h=>h.le) ?_
 rintro v3 H3 ⟨ib,f3,n3,d3,Dp,KZ,ou,a7,KN⟩;obtain⟨ZV,ZW,rfl,ZX,ZY⟩:=id Dp;rw[←KK,←Rat.sub_eq_add_neg]at ou;refine aH rfl rfl (vP Dp KZ (by omega) (by omega)) (fun _ _ h=>h.le) ?_;rintro w4 G4 ⟨jx,bR⟩;rw[ou]at bR;obtain⟨u4,x4,rfl,qQ,mC⟩:=id bR;obtain⟨Hn,Ho,rfl,Hp,Hq⟩:=id qQ;obtain⟨Dq,Dr,rfl,Ds,Dt⟩:=id mC;obtain⟨ti,aj,ak⟩:=bM;refine aG (.inl ⟨rfl,rfl⟩) rfl rfl rfl aj ak rfl rfl rfl ?_;refine ab [4] ?_;obtain⟨bX,aK,aL⟩:=bM;refine aq ⟨.inr rfl,_,.agg rfl Tryz.underlying31 aK aL (.nil),?_⟩;exact⟨((dU.trans fk).trans ib).trans jx,bR⟩
theorem ae3{H:Heap}{v v2:Value}{q q2:Rat}{N:Nat}(hv:bN H v q N)(dI:bN H v2 q2 N)(hN:(N:Int)≤1099511627776):
 Fn Tryz.prog 161 #[v,v2] H (fun v H'=>Heap.le H H'∧v = .int .i64 (gQ q q2)):=by
 obtain⟨bf,bu,bw,lW,lX,rfl,_⟩:=id hv
 obtain⟨cf,cu,cw,vQ,vR,rfl,_⟩:=id dI;refine aU (args:=[_,_]) Tryz.func161 rfl rfl Tryz.ntmps161 rfl rfl fun w0=> ?_;refine ag [0,1] rfl ?_;refine ae ?_;refine bF rfl rfl ?_;refine bF rfl rfl ?_;refine vr 1 ?_;refine ab [2,3] ?_;refine bL .bn [0,2,1,3,4,5,6,7] follows (by kernel_rfl) ?_;refine vr 2 ?_;refine aH rfl rfl (o6 hv (by omega)) (fun _ _ h=>h.le) ?_;rintro v1 H1 ⟨fk,f1,n1,d1,kp,eJ,rfl,aI,p9⟩;obtain⟨tH,tI,rfl,gm,gH⟩:=id kp;obtain⟨tJ,tK,rfl,tL,tM⟩:=id gm;obtain⟨tN,tO,rfl,tP,tQ⟩:=id gH;refine aH rfl rfl (o6 (dI.le fk) (by omega)) (fun _ _ h=>h.le) ?_;rintro v2 H2 ⟨dU,f2,n2,d2,qP,jH,rfl,aM,lR⟩;obtain⟨AF,AG,rfl,kS,kq⟩:=id qP;obtain⟨yh,yi,rfl,AH,AI⟩:=id kS;obtain⟨yj,yk,rfl,AJ,AK⟩:=id kq;have jI:=nv n1 d2;have iK:=nv n2 d1;have lM:=ZP (f:=f1) (g:=f2) (n:=n1) (m:=n2) eJ jH;refine bh iX rfl ?_;refine bh iX rfl ?_;obtain⟨ti,aj,ak⟩:=gP;refine aG (.inl ⟨rfl,rfl⟩) rfl rfl rfl aj ak rfl rfl rfl ?_;obtain⟨ti,aj,ak⟩:=gP;refine aG (.inl ⟨rfl,rfl⟩) rfl rfl rfl aj ak rfl rfl rfl ?_;refine ab [5,6] ?_;refine bL .bn [0,2,1,3,4,5] follows (by kernel_rfl) ?_;refine vr 2 ?_
 refine aH rfl rfl (KM (kp.le dU) eJ) (fun _ _ h=>h.le) ?_;rintro v3 H3 ⟨rfl,rfl⟩;refine aH rfl rfl (KM qP jH) (fun _ _ h=>h.le) ?_;rintro v3 H3 ⟨rfl,rfl⟩;refine vr 2 ?_;refine ab [5,6,7,8] ?_;refine al ?_;refine aD ?_;refine ae ?_;refine vr 4 ?_;refine ab [5,6,7,8,17] ?_;refine az rfl (fun hb=> ?_) (fun hb=> ?_)
 ·
  have hb:dF (bS f1 n1 d1)<dF (bS f2 n2 d2):=by simpa using hb
  rw[if_pos hb]at lM;refine ae ?_;refine vr 1 ?_;refine ab [4] ?_;refine aq ⟨.inr rfl,_,.tmp rfl (.nil),?_⟩;exact⟨fk.trans dU,by rw[lM];rfl⟩
 ·
  have hb:¬dF (bS f1 n1 d1)<dF (bS f2 n2 d2):=by simpa using hb
  rw[if_neg hb]at lM;refine ae ?_;refine vr 4 ?_;refine ab [5,6,7,21] ?_;refine az rfl (fun hb=> ?_) (fun hb=> ?_)
  ·
   have hb:dF (bS f1 n1 d1)>dF (bS f2 n2 d2):=by simpa using hb
   rw[if_pos hb]at lM;refine ae ?_;refine vr 1 ?_;refine ab [4] ?_;refine aq ⟨.inr rfl,_,.tmp rfl (.nil),?_⟩;exact⟨fk.trans dU,by rw[lM];rfl⟩
  ·
   have hb:¬dF (bS f1 n1 d1)>dF (bS f2 n2 d2):=by simpa using hb
   rw[if_neg hb]at lM;refine aw ?_;refine ag [5,6,7] rfl ?_;refine bL .bn [0,1,2,3,4,6,7,8,9,5,10,11,12,13] follows (by kernel_rfl) ?_;refine vr 9 ?_;refine aH rfl rfl (tC (gm.le dU) kq (by omega) (by omega)) (fun _ _ h=>h.le) ?_;intro v3 H3 ew;refine aH rfl rfl (tC (kS.le ew.le) (gH.le (dU.trans ew.le)) (by omega) (by omega)) (fun _ _ h=>h.le) ?_;intro v4 H4 fy;refine aH rfl rfl (Qa (ew.nat.le fy.le) fy.nat (by omega)) (fun _ _ h=>h.le) ?_;rintro v5 H5 ⟨rfl,rfl⟩;refine jh rfl rfl (by rw[←lM];exact ZT _ _) ?_;refine vr 1 ?_;refine ab [4] ?_;refine aq ⟨.inr rfl,_,.tmp rfl (.nil),?_⟩;exact⟨((fk.trans dU).trans ew.le).trans fy.le,by rw[lM];rfl⟩
end Go.ay
