/- Walks over package rational, part 4: Sub and Cmp (not for a seat that does not reach them). -/
import Derived.Test.YtgjimcieaecdkaaGreatA10
set_option linter.unusedVariables false
namespace Go.ar
open Go.Proofs Num
theorem acm{H:Heap}{v v2:Value}{q q2:Rat}{N:Nat}(hv:bL H v q N)(de:bL H v2 q2 N)(hN:(N:Int)≤1099511627776):
 Fn Tryz.prog 82 #[v,v2] H (iI H (q-q2)):=by
 obtain⟨bf,bu,bw,mE,mG,rfl,_⟩:=id hv
 obtain⟨cf,cu,cw,xe,xg,rfl,_⟩:=id de;refine aW (args:=[_,_]) Tryz.func82 rfl rfl Tryz.ntmps82 rfl rfl fun w0=> ?_;refine aj [0,1] rfl ?_;refine af (bY rfl rfl (bY rfl rfl (bD cZ rfl (ae [2,3,4] ?_))));refine af (ab 1 rfl (au rfl rfl (oM de (by omega)) ?_));rintro v2 H2 ⟨dA,f2,n2,d2,sP,jW,rfl,ct,kZ⟩;obtain⟨DG,DH,rfl,mH,l0⟩:=id sP;obtain⟨zN,zO,rfl,DI,DJ⟩:=id mH;obtain⟨zP,zQ,rfl,DK,DL⟩:=id l0;have acG:nF H2 (.agg #[.bool (!f2),.slice zN (ah n2).length zO,.slice zP (ah d2).length zQ]) (!f2) n2 d2:=⟨_,_,rfl,mH,l0⟩;refine bD gH rfl ?_;obtain⟨ti,ak,al⟩:=ft;refine aM (.inl ⟨rfl,rfl⟩) rfl rfl rfl ak al rfl rfl rfl (ae [2,4,5] ?_);refine af (vr 4 ?_);obtain⟨ti,ak,al⟩:=Mj;refine aM (.inr rfl) rfl rfl rfl ak al rfl rfl rfl (ae [2,4,5] ?_);refine cg .bR [0,2,1,3,4,5] follows (by kernel_rfl) ?_;refine ab 2 rfl (aT rfl rfl (oM (hv.le dA) (by omega)) (fun _ _ h=>h.le) ?_);rintro v1 H1 ⟨eM,f1,n1,d1,j3,ej,rfl,cn,pR⟩;obtain⟨uO,uP,rfl,gI,gX⟩:=id j3;obtain⟨uQ,uR,rfl,uS,uT⟩:=id gI;obtain⟨uU,uV,rfl,uW,uX⟩:=id gX;refine aT rfl rfl (M1 (K:=N+1) j3 (acG.le eM) ej jW cn pR ct kZ (by omega)) (fun _ _ h=>h.le) ?_
 rintro v3 H3 ⟨fL,f3,n3,d3,zR,HQ,DM,fu,HG⟩;obtain⟨V5,V6,rfl,V7,V8⟩:=id zR;rw[←HF,←Rat.sub_eq_add_neg]at DM;refine aT rfl rfl (sO zR HQ (by omega) (by omega)) (fun _ _ h=>h.le) ?_;rintro w4 G4 ⟨gK,cJ⟩;rw[DM]at cJ;obtain⟨u4,x4,rfl,qY,mI⟩:=id cJ;obtain⟨DN,DO,rfl,DP,DQ⟩:=id qY;obtain⟨DR,DS,rfl,DT,DU⟩:=id mI;obtain⟨ti,ak,al⟩:=bT;refine aM (.inl ⟨rfl,rfl⟩) rfl rfl rfl ak al rfl rfl rfl (ae [4] ?_);obtain⟨bO,aI,aJ⟩:=bT;refine aw ⟨.inr rfl,_,.agg rfl Tryz.underlying29 aI aJ (.nil),?_⟩;exact⟨((dA.trans eM).trans fL).trans gK,cJ⟩
end Go.ar
