/- Walks over package rational, part 4: Sub and Cmp (not for a seat that does not reach them). -/
import Derived.Test.YtfjncmjbhfdnpaaGreatA14
set_option linter.unusedVariables false
namespace Go.aw
open Go.Proofs Num
theorem al1{H:Heap}{v v2:Value}{q q2:Rat}{N:Nat}(hv:ct H v q N)(dI:ct H v2 q2 N)(hN:(N:Int)≤1099511627776):
 Fn Tryz.prog 157 #[v,v2] H (kt H (q-q2)):=by
 obtain⟨bf,bu,bw,od,oe,rfl,_⟩:=id hv
 obtain⟨cf,cu,cw,yX,yY,rfl,_⟩:=id dI;refine aZ (args:=[_,_]) Tryz.func157 rfl rfl Tryz.ntmps157 rfl rfl fun w0=> ?_;refine aj [0,1] rfl ?_;refine ag (bW rfl rfl (bW rfl rfl (bn bZ rfl (ae [2,3,4] ?_))));refine ag (ab 1 rfl (aF rfl rfl (tx dI (by omega)) ?_));rintro v2 H2 ⟨fc,f2,n2,d2,yZ,ks,rfl,dC,lF⟩;obtain⟨DH,DI,rfl,l7,lG⟩:=id yZ;obtain⟨Bi,Bj,rfl,DJ,DK⟩:=id l7;obtain⟨Bk,Bl,rfl,DL,DM⟩:=id lG;have amg:rW H2 (.agg #[.bool (!f2),.slice Bi (ao n2).length Bj,.slice Bk (ao d2).length Bl]) (!f2) n2 d2:=⟨_,_,rfl,l7,lG⟩;refine bn kr rfl ?_;obtain⟨ti,ak,al⟩:=jm;refine aI (.inl ⟨rfl,rfl⟩) rfl rfl rfl ak al rfl rfl rfl (ae [2,4,5] ?_);refine ag (vr 4 ?_);obtain⟨ti,ak,al⟩:=Gc;refine aI (.inr rfl) rfl rfl rfl ak al rfl rfl rfl (ae [2,4,5] ?_);refine bP .bJ [0,2,1,3,4,5] follows (by kernel_rfl) ?_;refine ab 2 rfl (a8 rfl rfl (tx (hv.le fc) (by omega)) (fun _ _ h=>h.le) ?_);rintro v1 H1 ⟨fm,f1,n1,d1,nA,fh,rfl,cH,rX⟩;obtain⟨wF,wG,rfl,gM,gY⟩:=id nA;obtain⟨wH,wI,rfl,wJ,wK⟩:=id gM;obtain⟨wL,wM,rfl,wN,wO⟩:=id gY;refine a8 rfl rfl (V9 (K:=N+1) nA (amg.le fm) fh ks cH rX dC lF (by omega)) (fun _ _ h=>h.le) ?_
 rintro v3 H3 ⟨iD,f3,n3,d3,GA,K5,K6,gN,Pk⟩;obtain⟨un3,ud3,rfl,ae8,ae9⟩:=id GA;rw[←Pg,←Rat.sub_eq_add_neg]at K6;refine a8 rfl rfl (yW GA K5 (by omega) (by omega)) (fun _ _ h=>h.le) ?_;rintro w4 G4 ⟨ll,cI⟩;rw[K6]at cI;obtain⟨u4,x4,rfl,wP,l8⟩:=id cI;obtain⟨K7,K8,rfl,K9,La⟩:=id wP;obtain⟨DN,DO,rfl,DP,DQ⟩:=id l8;obtain⟨ti,ak,al⟩:=a6;refine aI (.inl ⟨rfl,rfl⟩) rfl rfl rfl ak al rfl rfl rfl (ae [4] ?_);obtain⟨bQ,aN,aO⟩:=a6;refine aE ⟨.inr rfl,_,.agg rfl Tryz.underlying31 aN aO (.nil),?_⟩;exact⟨((fc.trans fm).trans iD).trans ll,cI⟩
end Go.aw
