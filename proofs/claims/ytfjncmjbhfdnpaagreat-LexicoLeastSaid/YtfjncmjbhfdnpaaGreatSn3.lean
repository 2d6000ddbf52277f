/- The program that law23's sane solves (plain). -/
import Derived.Test.YtfjncmjbhfdnpaaGreatA14
import Derived.Test.YtfjncmjbhfdnpaaGreatLsz
import Derived.Test.YtfjncmjbhfdnpaaGreatLx5
set_option linter.unusedVariables false
namespace Go.au
open Go.Proofs Num Lp
def km:Prg:=⟨[false,false],[([1,1],3,2)]⟩
def uy:List (List Rat):=[[1,0],[0,1]]
theorem abP:km.Ok:=by
 refine⟨by decide,by decide,fun i r h=> ?_⟩
 match i,h with
 | 0,h=>cases h;exact⟨rfl,.inr (.inr rfl)⟩
 | i+1,h=>simp[km]at h
theorem alH:NY km uy:=⟨abP,fun o ho=>by simp[uy]at ho;rcases ho with rfl | rfl <;> rfl,by decide,by decide⟩
theorem Oi(x:Nat→Rat):km.lp.dH 1 x↔0≤x 0∧0≤x 1∧2≤x 0+x 1:=by
 constructor
 ·intro h
  have h2:0≤0+1*x 0+1*x 1-2*1:=(h.2 0 (by decide)).2.2 rfl
  exact⟨h.1 0 (by decide) rfl,h.1 1 (by decide) rfl,by grind⟩
 ·intro⟨h1,h2,h3⟩
  refine⟨fun j hj _=> ?_,fun i hi=> ?_⟩
  ·match j,hj with
   | 0,_=>exact h1
   | 1,_=>exact h2
  ·match i,hi with
   | 0,_=>exact⟨(fun e=>by cases e),(fun e=>by cases e),(fun _=>by show 0≤0+1*x 0+1*x 1-2*1;grind)⟩
theorem Oj(x:Nat→Rat):bK 2 (fn [1,0]) x=x 0:=by show 0+1*x 0+0*x 1=_;grind
theorem ab2(x:Nat→Rat):bK 2 (fn [0,1]) x=x 1:=by show 0+0*x 0+1*x 1=_;grind
theorem Fh:km.lp.dH 1 (fn [0,2]):=(Oi _).2 ⟨by show (0:Rat)≤0;decide,by show (0:Rat)≤2;decide,by show (2:Rat)≤0+2;grind⟩
theorem alI:N2 km uy 1 [0,2]:=by
 refine .inl ⟨rfl,rfl,⟨Nat.le_refl _,fun i o v h1 h2=> ?_⟩,_,Fh⟩
 match i,h1,h2 with
 | 0,h1,h2=>
  cases h1;cases h2
  rw[List.take_zero,ext_nil]
  refine⟨⟨_,Fh,Oj _⟩,fun x hx=> ?_⟩
  have e:bK km.lp.n (fn [1,0]) x=x 0:=Oj x
  rw[e];exact((Oi x).1 hx).1
 | 1,h1,h2=>
  cases h1;cases h2
  have hm:∀x,(bP km uy [0]).lp.dH 1 x↔km.lp.dH 1 x∧x 0=0:=fun x=>by
   rw[yf (by decide)]
   constructor
   ·intro⟨g1,g2⟩
    have:=g2 0 _ _ rfl rfl
    have e:bK km.free.length (fn [1,0]) x=x 0:=Oj x
    rw[e]at this
    exact⟨g1,by grind⟩
   ·intro⟨g1,g2⟩
    refine⟨g1,fun i o v k1 k2=> ?_⟩
    match i,k1,k2 with
    | 0,k1,k2=>
     cases k1;cases k2
     have e:bK km.free.length (fn [1,0]) x=x 0:=Oj x
     rw[e,g2];grind
    | i+1,_,k2=>simp at k2
  show (bP km uy [0]).lp.vi (fn [0,1]) 2
  refine⟨⟨_,(hm _).2 ⟨Fh,rfl⟩,ab2 _⟩,fun x hx=> ?_⟩
  obtain⟨g1,g2⟩:=(hm x).1 hx
  have g3:=(Oi x).1 g1
  have e:bK (bP km uy [0]).lp.n (fn [0,1]) x=x 1:=ab2 x
  rw[e]
  rw[g2]at g3
  grind
 | i+2,_,h2=>simp at h2
theorem alK:qg km [0,2]:=by
 refine⟨rfl,Fh,fun x hx=> ?_⟩
 have h:=(Oi x).1 hx
 show N5 2 _ _
 by_cases h0:x 0=0
 ·by_cases h1:x 1=2
  ·refine .inl fun j hj=> ?_
   match j,hj with
   | 0,_=>exact h0.symm
   | 1,_=>exact h1.symm
  ·refine .inr ⟨1,by decide,fun i hi=> ?_,?_⟩
   ·obtain rfl:i=0:=by omega
    exact h0.symm
   ·show (2:Rat)<x 1;grind
 ·exact .inr ⟨0,by decide,fun i hi=>absurd hi (Nat.not_lt_zero _),by show (0:Rat)<x 0;grind⟩
theorem alF:vS km uy 1000 6:=by
 refine⟨⟨_,N8 km⟩,fun vs hv=> ?_,by decide⟩
 have hv:vs.length≤2:=hv
 have hm:(bP km uy vs).lp.m=1+vs.length:=sU hv
 refine⟨1+vs.length,.inl (by rw[hm];exact Nat.le_refl _),?_⟩
 rw[hm]
 unfold iy
 have h1:2^(1+vs.length)≤8:=by
  have:2^(1+vs.length)≤2^3:=Nat.pow_le_pow_right (by decide) (by omega)
  simpa using this
 have h2:aq.cT (ux km uy)=14:=by decide
 have h3:=Nat.mul_le_mul h1 (show 4*aq.cT (ux km uy)+(1+vs.length)+1≤60 by omega)
 omega
theorem alJ:Oa km [0,1] 100 6:=by
 refine⟨fun i hi j hj=> ?_,by simp,by simp,⟨_,N8 km⟩,by decide,by decide⟩
 match i,hi,j,hj with
 | 0,_,0,_=>show (1:Rat)∈[0,1];simp
 | 0,_,1,_=>show (1:Rat)∈[0,1];simp
end Go.au
