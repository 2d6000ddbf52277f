/- keep2.Place, at any length. -/
import Derived.Test.YtfjncmjbhfdnpaaGreatA10
set_option linter.unusedVariables false
namespace Go.ay
open Go.Proofs Num Lp
theorem N0{H:Heap}{x:Int}{n:Nat}(hx:0≤x)(fm:x≤255)(hn:n≤1000000):
 Fn Tryz.prog 97 #[.int .u8 x,.int .i64 (n:Int)] H (fun v H'=>Heap.le H H'∧H'=H∧∃k:Nat,v = .int .i64 (k:Int)∧k≤n∧(0<n→k<n)):=by
 refine aU (args:=[_,_]) Tryz.func97 rfl rfl Tryz.ntmps97 rfl rfl fun w0=> ?_;refine ag [0,1] rfl ?_;refine ae ?_;refine vr 1 ?_;refine ab [0,1] ?_;refine al ?_;refine ae ?_;refine vr 2 ?_;refine ab [0,1,6] ?_;refine az rfl (fun hb=> ?_) (fun hb=> ?_)
 ·
  have hb:(n:Int)<1:=by simpa using hb
  refine ae ?_;refine vr 1 ?_;refine ab [4] ?_;refine aq ⟨.inr rfl,_,.tmp rfl (.nil),?_⟩;exact⟨.refl _,rfl,0,rfl,Nat.zero_le _,fun h=>by omega⟩
 ·
  have hb:1≤(n:Int):=by simpa using hb
  refine aw ?_;refine ag [0,1] rfl ?_;refine ae ?_;refine vr 1 ?_;refine dr af rfl rfl rfl ⟨by omega,by omega⟩ ?_;refine vr 1 ?_;refine gj rfl rfl (by omega) (by omega) ?_;refine vr 1 ?_;refine ab [4] ?_;refine aq ⟨.inr rfl,_,.tmp rfl (.nil),?_⟩;have h1:0≤x%(n:Int):=Int.emod_nonneg _ (by omega);have h2:x%(n:Int)<n:=Int.emod_lt_of_pos _ (by omega);exact⟨.refl _,rfl,(x%(n:Int)).toNat,by rw[Int.toNat_of_nonneg h1];rfl,by omega,fun _=>by omega⟩
end Go.ay
