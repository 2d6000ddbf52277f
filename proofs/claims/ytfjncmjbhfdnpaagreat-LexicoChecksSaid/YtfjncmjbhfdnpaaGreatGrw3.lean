/- A slice that grows by append, while other blocks stay as they are. -/
import Derived.Test.YtfjncmjbhfdnpaaGreatA10
import Derived.Test.YtfjncmjbhfdnpaaGreatCat
set_option linter.unusedVariables false
namespace Go.ay
open Go.Proofs Num Lp
structure fW{α:Type}(gs:List Nat)(H0:Heap)(P:Heap→List Value→α→Prop)(e sz:Nat)(H:Heap)(v:Value)(l:List α)(xs:List Value):Prop where
 own:bU H v e sz l.length xs
 ka:bI (P (rem H (gs++aB v))) sz xs l
 base:Heap.le (rem H0 gs) (rem H (gs++aB v))
 same:∀q,q∈gs→H q=H0 q
 live:∀q,q∈gs→H0 q≠none
 apart:∀q,q∈gs→¬q∈aB v
section
variable {α:Type} {gs:List Nat} {H0 H H':Heap} {P:Heap→List Value→α→Prop} {e sz:Nat} {v v':Value} {l:List α} {xs:List Value}
theorem fW.le(h:fW gs H0 P e sz H v l xs):Heap.le H0 H:=fun q en hq=>by
 by_cases hm:q∈gs
 ·exact⟨en,by rw[h.same q hm];exact hq,.refl _⟩
 ·obtain⟨IA,h1,h2⟩:=h.base q en (by rw[bY hm];exact hq)
  by_cases lR:q∈gs++aB v
  ·rw[rem_in lR]at h1;cases h1
  ·rw[bY lR]at h1;exact⟨IA,h1,h2⟩
theorem NQ(hl:∀q,q∈gs→H q≠none):fW gs H P e sz H (.slice none 0 0) [] []:=⟨oY H e sz,tS,by rw[rC,List.append_nil];exact .refl _,fun _ _=>rfl,hl,fun q _ hq=>by rw[rC]at hq;cases hq⟩
theorem fW.form(h:fW gs H0 P e sz H v l xs):∃A c,v = .slice A l.length c:=h.own.form
theorem fW.mQ(h:fW gs H0 P e sz H v l xs):∀q,q∈gs++aB v→H q≠none:=fun q hq=>by
 rcases List.mem_append.1 hq with hq | hq
 ·rw[h.same q hq];exact h.live q hq
 ·obtain⟨en,he⟩:=h.own.block (cV.1 hq);rw[he];simp
theorem fW.step(h:fW gs H0 P e sz H v l xs)(up:Up P)(hs:∀q,q∈gs++aB v→H' q=H q)(hl:Heap.le (rem H (gs++aB v)) (rem H' (gs++aB v))):fW gs H0 P e sz H' v l xs:=
 ⟨h.own.same fun q hq=>hs q (List.mem_append_right _ (cV.2 hq)),h.ka.mono fun vs a=>up _ _ vs a hl,h.base.trans hl,fun q hq=>(hs q (List.mem_append_left _ hq)).trans (h.same q hq),h.live,h.apart⟩
theorem fW.mm(h:fW gs H0 P e sz H v l xs)(up:Up P){bt:Value→Heap→Prop}{r:Value}(hf:vS (gs++aB v) bt H r H')(hl:∀v' K,bt v' K→Heap.le (rem H (gs++aB v)) K):fW gs H0 P e sz H' v l xs:=h.step up hf.same (hl _ _ hf.post)
theorem fW.call(h:fW gs H0 P e sz H v l xs){R:Program}{f:FuncId}{args:Array Value}{bt:Value→Heap→Prop}(hc:Fn R f args (rem H (gs++aB v)) bt):Fn R f args H (vS (gs++aB v) bt H):=Fn.frame h.mQ hc
theorem fW.ins(h:fW gs H0 P e sz H v l xs)(up:Up P){g:Nat}(en:aQ)(hg:H g=none):fW gs H0 P e sz (ins H g en) v l xs:=by
 have hn:¬g∈gs++aB v:=fun hm=>h.mQ g hm hg
 refine h.step up (fun q hq=>bP _ _ fun e=>hn (e▸hq)) ?_
 rw[tR _ hn]
 exact Heap.bC _ (by rw[bY hn];exact hg)
theorem fW.append(h:fW gs H0 P e sz H v l xs)(up:Up P){m:Nat}{zs:List Value}{j:List α}(hm:m=l.length+j.length)(ha:App H v e sz m (xs++zs) v' H')(hz:bI (P (rem H (gs++aB v))) sz zs j):fW gs H0 P e sz H' v' (l++j) (xs++zs):=by
 have new:∀q,q∈aB v'→q∈aB v∨H q=none:=fun q hq=>by
  rcases ha.at_ with h4 | ⟨g,h4,h5⟩
  ·exact .inl (cV.2 (h4▸cV.1 hq))
  ·have:=cV.1 hq;rw[h4]at this;cases this;exact .inr h5
 have ap:∀q,q∈gs→¬q∈aB v':=fun q hg hq=>by
  rcases new q hq with h1 | h1
  ·exact h.apart q hg h1
  ·exact h.mQ q (List.mem_append_left _ hg) h1
 have hl:Heap.le (rem H (gs++aB v)) (rem H' (gs++aB v')):=fun q en hq=>by
  by_cases hm:q∈gs++aB v
  ·rw[rem_in hm]at hq;cases hq
  ·rw[bY hm]at hq
   have h1:=ha.same q en hq fun e=>hm (List.mem_append_right _ (cV.2 e))
   have h2:¬q∈gs++aB v':=fun h2=>by
    rcases List.mem_append.1 h2 with h3 | h3
    ·exact hm (List.mem_append_left _ h3)
    ·rcases new q h3 with h4 | h4
     ·exact hm (List.mem_append_right _ h4)
     ·rw[h4]at hq;cases hq
   exact⟨en,by rw[bY h2];exact h1,.refl _⟩
 refine⟨by rw[List.length_append,←hm];exact ha.own,(h.ka.mono fun vs a=>up _ _ vs a hl).append (hz.mono fun vs a=>up _ _ vs a hl),h.base.trans hl,fun q hq=> ?_,h.live,ap⟩
 rw[←h.same q hq]
 obtain⟨en,he⟩:=Option.ne_none_iff_exists'.1 (h.mQ q (List.mem_append_left _ hq))
 rw[he]
 exact ha.same q en he fun h1=>h.apart q hq (cV.2 h1)
theorem fW.sl(h:fW gs H0 P e sz H v l xs)(up:Up P):aC P sz (rem H gs) v l:=by
 have h1:Heap.le (rem H (gs++aB v)) (rem H gs):=NP fun q hq=>List.mem_append_left _ hq
 exact vT.sl ⟨xs,h.own.same fun q hq=>bY fun hg=>h.apart q hg (cV.2 hq),h.ka.mono fun vs a=>up _ _ vs a h1⟩
theorem fW.out(h:fW gs H0 P e sz H v l xs):Heap.le (rem H0 gs) (rem H gs):=h.base.trans (NP fun q hq=>List.mem_append_left _ hq)
end
structure Frz(gs:List Nat)(H H':Heap):Prop where
 same:∀q,q∈gs→H' q=H q
 le:Heap.le (rem H gs) (rem H' gs)
end Go.ay
