/- ref22.Extend beside blocks of its own, ref22.Levels; LexicoValues: the law's walk. -/
import Derived.Test.YtfjncmjbhfdnpaaGreatA14
import Derived.Test.YtfjncmjbhfdnpaaGreatVl
import Derived.Test.YtfjncmjbhfdnpaaGreatLw7
import Derived.Test.YtfjncmjbhfdnpaaGreatLw3
set_option linter.unusedVariables false
namespace Go.au
open Go.Proofs Num Lp
theorem alb{p:Prg}{os:List (List Rat)}:sT p os []:=⟨Nat.zero_le _,fun i o v _ h=>by simp at h⟩
theorem ali{p:Prg}{os:List (List Rat)}{vs:List Rat}{o:List Rat}{v:Rat}(h:sT p os vs)(hl:vs.length<os.length)(ho:os[vs.length]? = some o)(hv:(bP p os vs).lp.vi (fn o) v):sT p os (vs ++ [v]):=by
 refine⟨by rw[List.length_append,List.length_singleton];omega,fun i o' v' h1 h2=> ?_⟩
 by_cases hi:i<vs.length
 ·rw[List.getElem?_append_left hi]at h2
  rw[List.take_append_of_le_length (by omega)]
  exact h.2 i o' v' h1 h2
 ·have h3:=(List.getElem?_eq_some_iff.1 h2).1
  rw[List.length_append,List.length_singleton]at h3
  obtain rfl:i=vs.length:=by omega
  rw[List.getElem?_append_right (Nat.le_refl _),Nat.sub_self]at h2
  cases h2
  rw[ho]at h1;cases h1
  rw[List.take_append_of_le_length (Nat.le_refl _),List.take_length];exact hv
theorem alg{q:LP}{c:Nat→Rat}(hc:∀j,c j=0)(h:q.wW c):False:=by
 obtain⟨_,k2⟩:=h
 obtain⟨x,hx,bI⟩:=k2 0
 have e:bK q.n c x=0:=by
  unfold bK
  rw[eK (g:=fun _=>0) fun i _=>by rw[hc i];grind]
  generalize q.n=k
  induction k with
  | zero=>rfl
  | succ k ih=>rw[fW,ih];grind
 have bI:bK q.n c x<0:=bI
 grind
theorem Ce.of{p:Prg}{c:List Rat}{q:Rat}{T:aq}(hT:I2 p c T)(e:q = -(T.c p.w)):Ce p c ⟨1,q,aK (dB.vec p.lay.pF p.lay.mF T.pt) p.lp.n,[],[]⟩:=fun _=>⟨T,hT,e,rfl⟩
end Go.au
