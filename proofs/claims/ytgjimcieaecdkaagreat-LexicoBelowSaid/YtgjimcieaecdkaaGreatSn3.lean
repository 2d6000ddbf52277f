/- The program that law23's sane solves (plain). -/
import Derived.Test.YtgjimcieaecdkaaGreatA10
import Derived.Test.YtgjimcieaecdkaaGreatLsz
import Derived.Test.YtgjimcieaecdkaaGreatLx5
set_option linter.unusedVariables false
namespace Go.ar
open Go.Proofs Num Lp
def gE:Prg:=⟨[false,false],[([1,1],3,2)]⟩
def pe:List (List Rat):=[[1,0],[0,1]]
theorem RD:gE.Ok:=by
 refine⟨by decide,by decide,fun i r h=> ?_⟩
 match i,h with
 | 0,h=>cases h;exact⟨rfl,.inr (.inr rfl)⟩
 | i+1,h=>simp[gE]at h
theorem abO:FX gE pe:=⟨RD,fun o ho=>by simp[pe]at ho;rcases ho with rfl | rfl <;> rfl,by decide,by decide⟩
theorem Gp(x:Nat→Rat):gE.lp.cO 1 x↔0≤x 0∧0≤x 1∧2≤x 0+x 1:=by
 constructor
 ·intro h
  have h2:0≤0+1*x 0+1*x 1-2*1:=(h.2 0 (by decide)).2.2 rfl
  exact⟨h.1 0 (by decide) rfl,h.1 1 (by decide) rfl,by grind⟩
 ·intro⟨h1,h2,h3⟩
  refine⟨fun j hj _=> ?_,fun i hi=> ?_⟩
  ·match j,hj with
   | 0,_=>exact h1
   | 1,_=>exact h2
  ·match i,hi with
   | 0,_=>exact⟨(fun e=>by cases e),(fun e=>by cases e),(fun _=>by show 0≤0+1*x 0+1*x 1-2*1;grind)⟩
theorem Gq(x:Nat→Rat):a5 2 (fn [1,0]) x=x 0:=by show 0+1*x 0+0*x 1=_;grind
theorem Sp(x:Nat→Rat):a5 2 (fn [0,1]) x=x 1:=by show 0+0*x 0+1*x 1=_;grind
theorem yP:gE.lp.cO 1 (fn [0,2]):=(Gp _).2 ⟨by show (0:Rat)≤0;decide,by show (0:Rat)≤2;decide,by show (2:Rat)≤0+2;grind⟩
theorem abP:FZ gE pe 1 [0,2]:=by
 refine .inl ⟨rfl,rfl,⟨Nat.le_refl _,fun i o v h1 h2=> ?_⟩,_,yP⟩
 match i,h1,h2 with
 | 0,h1,h2=>
  cases h1;cases h2
  rw[List.take_zero,ext_nil]
  refine⟨⟨_,yP,Gq _⟩,fun x hx=> ?_⟩
  have e:a5 gE.lp.n (fn [1,0]) x=x 0:=Gq x
  rw[e];exact((Gp x).1 hx).1
 | 1,h1,h2=>
  cases h1;cases h2
  have hm:∀x,(bK gE pe [0]).lp.cO 1 x↔gE.lp.cO 1 x∧x 0=0:=fun x=>by
   rw[vY (by decide)]
   constructor
   ·intro⟨g1,g2⟩
    have:=g2 0 _ _ rfl rfl
    have e:a5 gE.free.length (fn [1,0]) x=x 0:=Gq x
    rw[e]at this
    exact⟨g1,by grind⟩
   ·intro⟨g1,g2⟩
    refine⟨g1,fun i o v k1 k2=> ?_⟩
    match i,k1,k2 with
    | 0,k1,k2=>
     cases k1;cases k2
     have e:a5 gE.free.length (fn [1,0]) x=x 0:=Gq x
     rw[e,g2];grind
    | i+1,_,k2=>simp at k2
  show (bK gE pe [0]).lp.vd (fn [0,1]) 2
  refine⟨⟨_,(hm _).2 ⟨yP,rfl⟩,Sp _⟩,fun x hx=> ?_⟩
  obtain⟨g1,g2⟩:=(hm x).1 hx
  have g3:=(Gp x).1 g1
  have e:a5 (bK gE pe [0]).lp.n (fn [0,1]) x=x 1:=Sp x
  rw[e]
  rw[g2]at g3
  grind
 | i+2,_,h2=>simp at h2
theorem abR:pd gE [0,2]:=by
 refine⟨rfl,yP,fun x hx=> ?_⟩
 have h:=(Gp x).1 hx
 show Cp 2 _ _
 by_cases h0:x 0=0
 ·by_cases h1:x 1=2
  ·refine .inl fun j hj=> ?_
   match j,hj with
   | 0,_=>exact h0.symm
   | 1,_=>exact h1.symm
  ·refine .inr ⟨1,by decide,fun i hi=> ?_,?_⟩
   ·obtain rfl:i=0:=by omega
    exact h0.symm
   ·show (2:Rat)<x 1;grind
 ·exact .inr ⟨0,by decide,fun i hi=>absurd hi (Nat.not_lt_zero _),by show (0:Rat)<x 0;grind⟩
theorem abM:wg gE pe 1000 6:=by
 refine⟨⟨_,KW gE⟩,fun vs hv=> ?_,by decide⟩
 have hv:vs.length≤2:=hv
 have hm:(bK gE pe vs).lp.m=1+vs.length:=yL hv
 refine⟨1+vs.length,.inl (by rw[hm];exact Nat.le_refl _),?_⟩
 rw[hm]
 unfold e7
 have h1:2^(1+vs.length)≤8:=by
  have:2^(1+vs.length)≤2^3:=Nat.pow_le_pow_right (by decide) (by omega)
  simpa using this
 have h2:ao.cC (tM gE pe)=14:=by decide
 have h3:=Nat.mul_le_mul h1 (show 4*ao.cC (tM gE pe)+(1+vs.length)+1≤60 by omega)
 omega
theorem abQ:Gb gE [0,1] 100 6:=by
 refine⟨fun i hi j hj=> ?_,by simp,by simp,⟨_,KW gE⟩,by decide,by decide⟩
 match i,hi,j,hj with
 | 0,_,0,_=>show (1:Rat)∈[0,1];simp
 | 0,_,1,_=>show (1:Rat)∈[0,1];simp
end Go.ar
