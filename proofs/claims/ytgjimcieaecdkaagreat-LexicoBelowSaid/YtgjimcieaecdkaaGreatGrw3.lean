/- A slice that grows by append, while other blocks stay as they are. -/
import Derived.Test.YtgjimcieaecdkaaGreatA10
import Derived.Test.YtgjimcieaecdkaaGreatCat
set_option linter.unusedVariables false
namespace Go.ar
open Go.Proofs Num Lp
structure fD{α:Type}(gs:List Nat)(H0:Heap)(P:Heap→List Value→α→Prop)(e sz:Nat)(H:Heap)(v:Value)(l:List α)(xs:List Value):Prop where
 own:bE H v e sz l.length xs
 jM:bg (P (rem H (gs++aB v))) sz xs l
 base:Heap.le (rem H0 gs) (rem H (gs++aB v))
 same:∀q,q∈gs→H q=H0 q
 live:∀q,q∈gs→H0 q≠none
 apart:∀q,q∈gs→¬q∈aB v
section
variable {α:Type} {gs:List Nat} {H0 H H':Heap} {P:Heap→List Value→α→Prop} {e sz:Nat} {v v':Value} {l:List α} {xs:List Value}
theorem fD.le(h:fD gs H0 P e sz H v l xs):Heap.le H0 H:=fun q en hq=>by
 by_cases hm:q∈gs
 ·exact⟨en,by rw[h.same q hm];exact hq,.refl _⟩
 ·obtain⟨Fb,h1,h2⟩:=h.base q en (by rw[bo hm];exact hq)
  by_cases kZ:q∈gs++aB v
  ·rw[rem_in kZ]at h1;cases h1
  ·rw[bo kZ]at h1;exact⟨Fb,h1,h2⟩
theorem Rp(hl:∀q,q∈gs→H q≠none):fD gs H P e sz H (.slice none 0 0) [] []:=⟨mu H e sz,sR,by rw[qt,List.append_nil];exact .refl _,fun _ _=>rfl,hl,fun q _ hq=>by rw[qt]at hq;cases hq⟩
theorem fD.form(h:fD gs H0 P e sz H v l xs):∃A c,v = .slice A l.length c:=h.own.form
theorem fD.mf(h:fD gs H0 P e sz H v l xs):∀q,q∈gs++aB v→H q≠none:=fun q hq=>by
 rcases List.mem_append.1 hq with hq | hq
 ·rw[h.same q hq];exact h.live q hq
 ·obtain⟨en,he⟩:=h.own.block (du.1 hq);rw[he];simp
theorem fD.step(h:fD gs H0 P e sz H v l xs)(up:Up P)(hs:∀q,q∈gs++aB v→H' q=H q)(hl:Heap.le (rem H (gs++aB v)) (rem H' (gs++aB v))):fD gs H0 P e sz H' v l xs:=
 ⟨h.own.same fun q hq=>hs q (List.mem_append_right _ (du.2 hq)),h.jM.mono fun vs a=>up _ _ vs a hl,h.base.trans hl,fun q hq=>(hs q (List.mem_append_left _ hq)).trans (h.same q hq),h.live,h.apart⟩
theorem fD.od(h:fD gs H0 P e sz H v l xs)(up:Up P){aX:Value→Heap→Prop}{r:Value}(hf:sQ (gs++aB v) aX H r H')(hl:∀v' K,aX v' K→Heap.le (rem H (gs++aB v)) K):fD gs H0 P e sz H' v l xs:=h.step up hf.same (hl _ _ hf.post)
theorem fD.call(h:fD gs H0 P e sz H v l xs){R:Program}{f:FuncId}{args:Array Value}{aX:Value→Heap→Prop}(hc:Fn R f args (rem H (gs++aB v)) aX):Fn R f args H (sQ (gs++aB v) aX H):=Fn.frame h.mf hc
theorem fD.ins(h:fD gs H0 P e sz H v l xs)(up:Up P){g:Nat}(en:aG)(hg:H g=none):fD gs H0 P e sz (ins H g en) v l xs:=by
 have hn:¬g∈gs++aB v:=fun hm=>h.mf g hm hg
 refine h.step up (fun q hq=>bA _ _ fun e=>hn (e▸hq)) ?_
 rw[qZ _ hn]
 exact Heap.a0 _ (by rw[bo hn];exact hg)
theorem fD.append(h:fD gs H0 P e sz H v l xs)(up:Up P){m:Nat}{zs:List Value}{j:List α}(hm:m=l.length+j.length)(ha:App H v e sz m (xs++zs) v' H')(hz:bg (P (rem H (gs++aB v))) sz zs j):fD gs H0 P e sz H' v' (l++j) (xs++zs):=by
 have new:∀q,q∈aB v'→q∈aB v∨H q=none:=fun q hq=>by
  rcases ha.at_ with h4 | ⟨g,h4,h5⟩
  ·exact .inl (du.2 (h4▸du.1 hq))
  ·have:=du.1 hq;rw[h4]at this;cases this;exact .inr h5
 have ap:∀q,q∈gs→¬q∈aB v':=fun q hg hq=>by
  rcases new q hq with h1 | h1
  ·exact h.apart q hg h1
  ·exact h.mf q (List.mem_append_left _ hg) h1
 have hl:Heap.le (rem H (gs++aB v)) (rem H' (gs++aB v')):=fun q en hq=>by
  by_cases hm:q∈gs++aB v
  ·rw[rem_in hm]at hq;cases hq
  ·rw[bo hm]at hq
   have h1:=ha.same q en hq fun e=>hm (List.mem_append_right _ (du.2 e))
   have h2:¬q∈gs++aB v':=fun h2=>by
    rcases List.mem_append.1 h2 with h3 | h3
    ·exact hm (List.mem_append_left _ h3)
    ·rcases new q h3 with h4 | h4
     ·exact hm (List.mem_append_right _ h4)
     ·rw[h4]at hq;cases hq
   exact⟨en,by rw[bo h2];exact h1,.refl _⟩
 refine⟨by rw[List.length_append,←hm];exact ha.own,(h.jM.mono fun vs a=>up _ _ vs a hl).append (hz.mono fun vs a=>up _ _ vs a hl),h.base.trans hl,fun q hq=> ?_,h.live,ap⟩
 rw[←h.same q hq]
 obtain⟨en,he⟩:=Option.ne_none_iff_exists'.1 (h.mf q (List.mem_append_left _ hq))
 rw[he]
 exact ha.same q en he fun h1=>h.apart q hq (du.2 h1)
theorem fD.sl(h:fD gs H0 P e sz H v l xs)(up:Up P):aH P sz (rem H gs) v l:=by
 have h1:Heap.le (rem H (gs++aB v)) (rem H gs):=KN fun q hq=>List.mem_append_left _ hq
 exact zS.sl ⟨xs,h.own.same fun q hq=>bo fun hg=>h.apart q hg (du.2 hq),h.jM.mono fun vs a=>up _ _ vs a h1⟩
theorem fD.out(h:fD gs H0 P e sz H v l xs):Heap.le (rem H0 gs) (rem H gs):=h.base.trans (KN fun q hq=>List.mem_append_left _ hq)
end
structure Frz(gs:List Nat)(H H':Heap):Prop where
 same:∀q,q∈gs→H' q=H q
 le:Heap.le (rem H gs) (rem H' gs)
end Go.ar
