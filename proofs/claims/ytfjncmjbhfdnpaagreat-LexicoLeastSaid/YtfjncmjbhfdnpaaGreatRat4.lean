/- Walks over package rational, part 4: Sub and Cmp (not for a seat that does not reach them). -/
import Derived.Test.YtfjncmjbhfdnpaaGreatA14
set_option linter.unusedVariables false
namespace Go.au
open Go.Proofs Num
theorem al6{H:Heap}{v v2:Value}{q q2:Rat}{N:Nat}(hv:cn H v q N)(dF:cn H v2 q2 N)(hN:(N:Int)≤1099511627776):
 Fn Tryz.prog 157 #[v,v2] H (kp H (q-q2)):=by
 obtain⟨bf,bu,bw,nP,nQ,rfl,_⟩:=id hv
 obtain⟨cf,cu,cw,yR,yS,rfl,_⟩:=id dF;refine a7 (args:=[_,_]) Tryz.func157 rfl rfl Tryz.ntmps157 rfl rfl fun w0=> ?_;refine aj [0,1] rfl ?_;refine ag (bX rfl rfl (bX rfl rfl (bt bY rfl (ae [2,3,4] ?_))));refine ag (ab 1 rfl (aE rfl rfl (tr dF (by omega)) ?_));rintro v2 H2 ⟨eW,f2,n2,d2,yT,ko,rfl,dG,lq⟩;obtain⟨Dy,Dz,rfl,lU,lr⟩:=id yT;obtain⟨AV,AW,rfl,DA,DB⟩:=id lU;obtain⟨AY,AZ,rfl,DC,DD⟩:=id lr;have amk:rK H2 (.agg #[.bool (!f2),.slice AV (an n2).length AW,.slice AY (an d2).length AZ]) (!f2) n2 d2:=⟨_,_,rfl,lU,lr⟩;refine bt kn rfl ?_;obtain⟨ti,ak,al⟩:=jc;refine aH (.inl ⟨rfl,rfl⟩) rfl rfl rfl ak al rfl rfl rfl (ae [2,4,5] ?_);refine ag (vr 4 ?_);obtain⟨ti,ak,al⟩:=FU;refine aH (.inr rfl) rfl rfl rfl ak al rfl rfl rfl (ae [2,4,5] ?_);refine bO .bL [0,2,1,3,4,5] follows (by kernel_rfl) ?_;refine ab 2 rfl (bm rfl rfl (tr (hv.le eW) (by omega)) (fun _ _ h=>h.le) ?_);rintro v1 H1 ⟨fh,f1,n1,d1,nv,fa,rfl,cH,rL⟩;obtain⟨wE,wF,rfl,gH,gP⟩:=id nv;obtain⟨wG,wH,rfl,wI,wJ⟩:=id gH;obtain⟨wK,wL,rfl,wM,wN⟩:=id gP;refine bm rfl rfl (Wd (K:=N+1) nv (amk.le fh) fa ko cH rL dG lq (by omega)) (fun _ _ h=>h.le) ?_
 rintro v3 H3 ⟨im,f3,n3,d3,Gm,KW,KY,gO,Pp⟩;obtain⟨un3,ud3,rfl,ae7,ae8⟩:=id Gm;rw[←Pm,←Rat.sub_eq_add_neg]at KY;refine bm rfl rfl (yQ Gm KW (by omega) (by omega)) (fun _ _ h=>h.le) ?_;rintro w4 G4 ⟨kS,cJ⟩;rw[KY]at cJ;obtain⟨u4,x4,rfl,wO,lV⟩:=id cJ;obtain⟨KZ,K1,rfl,K2,K3⟩:=id wO;obtain⟨DE,DF,rfl,DG,DH⟩:=id lV;obtain⟨ti,ak,al⟩:=aY;refine aH (.inl ⟨rfl,rfl⟩) rfl rfl rfl ak al rfl rfl rfl (ae [4] ?_);obtain⟨bQ,aM,aN⟩:=aY;refine aD ⟨.inr rfl,_,.agg rfl Tryz.underlying31 aM aN (.nil),?_⟩;exact⟨((eW.trans fh).trans im).trans kS,cJ⟩
end Go.au
