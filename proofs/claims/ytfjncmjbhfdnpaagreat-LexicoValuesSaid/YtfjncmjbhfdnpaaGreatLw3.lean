/- LexicoFirst: the law's walk. -/
import Derived.Test.YtfjncmjbhfdnpaaGreatA14
import Derived.Test.YtfjncmjbhfdnpaaGreatLw2
set_option linter.unusedVariables false
namespace Go.aw
open Go.Proofs Num Lp
def alI(p:Prg)(os:List (List Rat))(H:Heap)(v:Value)(H':Heap):Prop:=Heap.le H H'∧∃(S:Fq)(A1:Option Addr)(c1:Nat)(A2:Option Addr)(c2:Nat)(A3:Option Addr)(c3:Nat)(A4:Option Addr)(c4:Nat),v = .tuple #[.agg #[.int .i64 S.status,.slice A1 S.values.length c1,.slice A2 S.x.length c2,.slice A3 S.uC.length c3,.slice A4 S.ray.length c4],.int .i64 0]∧JU p os S∧aR (bR KX) 3 H' (.slice A1 S.values.length c1) S.values∧aR (bR KX) 3 H' (.slice A2 S.x.length c2) S.x∧jw KX H' (.slice A3 S.uC.length c3) S.uC∧aR (bR KX) 3 H' (.slice A4 S.ray.length c4) S.ray
theorem als{N E f0:Nat}{H:Heap}{v ov:Value}{p:Prg}{os:List (List Rat)}(hp:ea N H v p)(ho:jw N H ov os)(hN:N≤KX)(hf:Aj p os)(hz:uH p os E f0):Fn Tryz.prog 17 #[v,ov] H (alI p os H):=by
 have hl:=hf.pQ
 refine(abM hp ho hN (by omega) (fun _=>hz)).mono ?_
 rintro v' H' ⟨dV,s,e,rfl,hE,iz⟩
 have he:=abN hE (.inr (.inr (.inr ⟨hf,rfl⟩)))
 subst he
 rcases iz with ⟨h9,_⟩ | ⟨_,S,⟨A1,c1,A2,c2,A3,c3,A4,c4,rfl,h⟩,kS⟩
 ·exact absurd rfl h9
 ·exact⟨dV,S,A1,c1,A2,c2,A3,c3,A4,c4,rfl,kS,h⟩
end Go.aw
