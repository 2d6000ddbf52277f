/- Walks over package simplex, simplex.go, part 9: Value. -/
import Derived.Test.YtfjncmjbhfdnpaaGreatA10
import Derived.Test.YtfjncmjbhfdnpaaGreatSmp7
set_option linter.unusedVariables false
namespace Go.ay
open Go.Proofs Num Lp
def JG(c x:List Rat)(H:Heap)(v:Value)(H':Heap):Prop:=Heap.le H H'∧∃s e,v = .tuple #[s,.int .i64 e]∧((c.length≠x.length∧e=21∧s = .agg #[.bool false,.slice none 0 0,.slice none 0 0])∨(c.length=x.length∧e=0∧cJ H' s (aX c.length (fn c) (fn x))))
theorem ae2{H:Heap}{cv xv:Value}{c x:List Rat}{N:Nat}(hc:aC (aS N) 3 H cv c)(hx:aC (aS N) 3 H xv x)(hN:N≤400000000)(TN:c.length≤1000):
 Fn Tryz.prog 160 #[cv,xv] H (JG c x H):=by
 obtain⟨Ac,cc,xc,rfl,Cd,Ce⟩:=hc.rat
 obtain⟨Ax,cx,xx,rfl,mR,mS⟩:=hx.rat;refine aU (args:=[_,_]) Tryz.func160 rfl rfl Tryz.ntmps160 rfl rfl fun w0=> ?_;refine ag [0,1] rfl ?_;refine ae ?_;refine bh cM rfl ?_;refine vr 1 ?_;refine ab [0,1,4] ?_;refine al ?_;refine ae ?_;refine vr 5 ?_;refine ab [0,1,4,10] ?_;refine az rfl (fun hb=> ?_) (fun hb=> ?_)
 ·
  have hb:c.length≠x.length:=by simpa [Int.natCast_inj]using hb
  refine ae ?_;refine dW af rfl cM rfl rfl ?_;obtain⟨ti,aj,ak⟩:=bM;refine aG (.inl ⟨rfl,rfl⟩) rfl rfl rfl aj ak rfl rfl rfl ?_;refine vr 1 ?_;refine ab [4,5] ?_;obtain⟨bX,aK,aL⟩:=bM;refine aq ⟨.inr rfl,_,.agg rfl Tryz.underlying31 aK aL (.tmp rfl (.nil)),?_⟩;exact⟨.refl _,_,_,rfl,.inl ⟨hb,rfl,rfl⟩⟩
 ·
  have ej:c.length=x.length:=by simpa [Int.natCast_inj]using hb
  refine aw ?_;refine ag [0,1,4] rfl ?_;refine ae ?_;refine vr 1 ?_;refine ar rfl rfl (sE hc (by omega) (by omega)) ?_;rintro v8 H8 ⟨jt,wL⟩;refine vr 1 ?_;refine ar rfl rfl (sE (hx.le (a8 N) jt) (by omega) (by omega)) ?_;rintro v9 H9 ⟨gJ,nF⟩;refine ar rfl rfl (HK (s:=N+2) (wL.le fD gJ) nF (by omega) hc.ec hx.ec (by have h9:((c.length:Int)+2)*(2*((N+2:Nat):Int)+2)≤1002*(2*((N+2:Nat):Int)+2):=Int.mul_le_mul_of_nonneg_right (by omega) (by omega);omega)) ?_;rintro _ Et ⟨zb,afO,rfl,Gd⟩;obtain⟨OM,d10,FU,rfl⟩:=Gd.cells;have afP:=sZ (M:=N+2) c.length (fn c) (fn x) (fun j hj=>hc.ec _ (lI hj)) (fun j hj=>hx.ec _ (lI (by omega)));have afQ:c.length*(2*(N+2)+2)≤1000*(2*(N+2)+2):=Nat.mul_le_mul_right _ (by omega);refine ar rfl rfl (K7 Gd (by omega)) ?_;rintro v11 oG ⟨Fw,JP⟩;obtain⟨u2,w2,rfl,eY,jY⟩:=id JP;obtain⟨A2,c2,rfl,o7,lQ⟩:=id eY;obtain⟨A3,c3,rfl,mB,iY⟩:=id jY;obtain⟨ti,aj,ak⟩:=bM;refine aG (.inl ⟨rfl,rfl⟩) rfl rfl rfl aj ak rfl rfl rfl ?_;refine vr 1 ?_;refine ab [4,5] ?_;obtain⟨bX,aK,aL⟩:=bM;refine aq ⟨.inr rfl,_,.agg rfl Tryz.underlying31 aK aL (.tmp rfl (.nil)),?_⟩;exact⟨((jt.trans gJ).trans zb).trans Fw,_,_,rfl,.inr ⟨ej,rfl,JP⟩⟩
end Go.ay
