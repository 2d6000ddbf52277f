/- The engine, part 15: a slice against nil; an empty slice written out. -/
import Derived.Test.YtgjimcieaecdkaaGreatA10
import Derived.Lib.LazyBuf
set_option linter.unusedVariables false
namespace Go.ar
section
variable {P:Program} {n:Nat} {all:Array Oper} {s:St} {H:Heap} {md:Mode} {K:St→Heap→Prop} {r:List Oper} {dst:Option Nat} {ty:TypeId} {pos:String} {after:Array Edge} {gd:Option (Nat×Bool)}
theorem abo{t t' e:TypeId}{x y:Operand}{A:Option Addr}{m c:Nat}(ht:P.underlying t=some (.slice e))(hx:ev s x=some (.slice A m c))(hy:ev s y=some (.slice none 0 0))
  (hk:aE P n all md r (aR s dst (.val (.bool A.isNone))) H K) (hg:bM all s gd=some true:=by rfl) (nb:md.nb s dst=true:=by rfl):aE P n all md (⟨dst,.binOp .eql t x y t',ty,pos,after,gd⟩::r) s H K:=
 fp _ rfl hg nb (fun c' w hc _=>by
  have e:(eqGuard .eql t x y (.slice A m c) (.slice none 0 0)).run P w = .ok () w:=by simp[eqGuard]
  simp only[execOp,bm hc hx,bm hc hy,Sem.run_bind,e,run_eql_slice_nil w t _ A m c ht,Result.andThen_ok,Sem.run_pure]) hk
theorem abp{t e sz bytes:Nat}{z:Value}(ht:P.underlying t=some (.slice e))(he:eR P e sz z bytes)
  (hk:∀g,H g=none→aE P n all md r (aR s dst (.val (.slice (some ⟨g,0,none⟩) 0 0))) (ins H g (whole [] e)) K) (hg:bM all s gd=some true:=by rfl) (nb:md.nb s dst=true:=by rfl):
  aE P n all md (⟨dst,.buildSlice t 0 #[],ty,pos,after,gd⟩::r) s H K:=
 .fresh (fun g=> .slice (some ⟨g,0,none⟩) 0 0) [] e (.inl rfl) nb (fun a w ha=>by
  refine⟨fZ ha (iD (o:=⟨dst,.buildSlice t 0 #[],ty,pos,after,gd⟩) hg),?_⟩
  obtain⟨i,hi,hz,bV,zi,C3,y7⟩:=he
  simp[execOp,Instr.buildSlice,run_underlying ht,sizeOf,typeInfo,program,Sem.run,hi,Instr.fill,newRow,newObj]
  congr 2
  exact Array.eq_empty_of_size_eq_zero (by simp)) fun g hg _=>hk g hg
end
end Go.ar
