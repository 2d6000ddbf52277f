/- Two slices that grow by append, over a heap that stays. -/
import Derived.Test.YtfjncmjbhfdnpaaGreatA10
set_option linter.unusedVariables false
namespace Go.ay
open Go.Proofs Num Lp
structure fS{α β:Type}(P:Heap→List Value→α→Prop)(e sz:Nat)(Q:Heap→List Value→β→Prop)(e' fa:Nat)(Hb H:Heap)(v:Value)(l:List α)(xs:List Value)(u:Value)(k:List β)(ys:List Value):Prop where
 own:bU H v e sz l.length xs
 tc:bU H u e' fa k.length ys
 ka:bI (P (rem H (aB v++aB u))) sz xs l
 Cg:bI (Q (rem H (aB v++aB u))) fa ys k
 base:Heap.le Hb (rem H (aB v++aB u))
 apart:∀q,q∈aB v→¬q∈aB u
theorem Jl(H:Heap)(a b:List Nat):rem H (a++b)=rem H (b++a):=by
 funext q
 unfold rem
 simp only[List.mem_append,Or.comm]
theorem NP{H:Heap}{a b:List Nat}(h:∀q,q∈a→q∈b):Heap.le (rem H b) (rem H a):=fun q en hq=>by
 by_cases hm:q∈b
 ·rw[rem_in hm]at hq;cases hq
 ·rw[bY hm]at hq
  exact⟨en,by rw[bY (fun h'=>hm (h q h'))];exact hq,.refl _⟩
section
variable {α β:Type} {P:Heap→List Value→α→Prop} {e sz:Nat} {Q:Heap→List Value→β→Prop} {e' fa:Nat} {Hb H H':Heap} {v v' u u':Value} {l:List α} {xs:List Value} {k:List β} {ys:List Value}
theorem fS.swap(h:fS P e sz Q e' fa Hb H v l xs u k ys):fS Q e' fa P e sz Hb H u k ys v l xs:=
 ⟨h.tc,h.own,by rw[Jl];exact h.Cg,by rw[Jl];exact h.ka,by rw[Jl];exact h.base,fun q h1 h2=>h.apart q h2 h1⟩
theorem fS.le(h:fS P e sz Q e' fa Hb H v l xs u k ys):Heap.le Hb H:=h.base.trans (bG _ _)
theorem fS.mQ(h:fS P e sz Q e' fa Hb H v l xs u k ys):∀q,q∈aB v++aB u→H q≠none:=fun q hq=>by
 rcases List.mem_append.1 hq with hq | hq
 ·obtain⟨en,he⟩:=h.own.block (cV.1 hq);rw[he];simp
 ·obtain⟨en,he⟩:=h.tc.block (cV.1 hq);rw[he];simp
theorem eA.two(h:eA P e sz Hb H v l xs):fS P e sz Q e' fa Hb H v l xs (.slice none 0 0) [] []:=by
 have e1:aB v++aB (.slice none 0 0)=aB v:=by rw[rC,List.append_nil]
 exact⟨h.own,oY H e' fa,by rw[e1];exact h.ka,tS,by rw[e1];exact h.base,fun q _ hq=>by rw[rC]at hq;cases hq⟩
theorem fS.one(h:fS P e sz Q e' fa Hb H v l xs u k ys)(up:Up P)(uq:Up Q):eA P e sz Hb H v l xs∧aC Q fa (rem H (aB v)) u k:=by
 have h1:Heap.le (rem H (aB v++aB u)) (rem H (aB v)):=NP fun q hq=>List.mem_append_left _ hq
 refine⟨⟨h.own,h.ka.mono fun vs a=>up _ _ vs a h1,h.base.trans h1⟩,?_⟩
 refine vT.sl ⟨ys,h.tc.same fun q hq=> ?_,h.Cg.mono fun vs a=>uq _ _ vs a h1⟩
 exact bY fun hv=>h.apart q hv (cV.2 hq)
theorem fS.step(h:fS P e sz Q e' fa Hb H v l xs u k ys)(up:Up P)(uq:Up Q)(hs:∀q,q∈aB v++aB u→H' q=H q)(hl:Heap.le (rem H (aB v++aB u)) (rem H' (aB v++aB u))):fS P e sz Q e' fa Hb H' v l xs u k ys:=
 ⟨h.own.same fun q hq=>hs q (List.mem_append_left _ (cV.2 hq)),h.tc.same fun q hq=>hs q (List.mem_append_right _ (cV.2 hq)),h.ka.mono fun vs a=>up _ _ vs a hl,h.Cg.mono fun vs a=>uq _ _ vs a hl,h.base.trans hl,h.apart⟩
theorem fS.ins(h:fS P e sz Q e' fa Hb H v l xs u k ys)(up:Up P)(uq:Up Q){g:Nat}(en:aQ)(hg:H g=none):fS P e sz Q e' fa Hb (ins H g en) v l xs u k ys:=by
 have hn:¬g∈aB v++aB u:=fun hm=>h.mQ g hm hg
 refine h.step up uq (fun q hq=>bP _ _ fun e=>hn (e▸hq)) ?_
 rw[tR _ hn]
 exact Heap.bC _ (by rw[bY hn];exact hg)
theorem fS.append(h:fS P e sz Q e' fa Hb H v l xs u k ys)(up:Up P)(uq:Up Q){m:Nat}{zs:List Value}{j:List α}(hm:m=l.length+j.length)(ha:App H v e sz m (xs++zs) v' H')(hz:bI (P (rem H (aB v++aB u))) sz zs j):fS P e sz Q e' fa Hb H' v' (l++j) (xs++zs) u k ys:=by
 have hvu:∀q,v.ownBlock=some q→¬u.ownBlock=some q:=fun q h1 h2=>h.apart q (cV.2 h1) (cV.2 h2)
 have new:∀q,q∈aB v'→q∈aB v∨H q=none:=fun q hq=>by
  rcases ha.at_ with h4 | ⟨g,h4,h5⟩
  ·exact .inl (cV.2 (h4▸cV.1 hq))
  ·have:=cV.1 hq;rw[h4]at this;cases this;exact .inr h5
 have ap:∀q,q∈aB v'→¬q∈aB u:=fun q hq hu=>by
  rcases new q hq with h1 | h1
  ·exact h.apart q h1 hu
  ·exact h.mQ q (List.mem_append_right _ hu) h1
 have hl:Heap.le (rem H (aB v++aB u)) (rem H' (aB v'++aB u)):=fun q en hq=>by
  by_cases hm:q∈aB v++aB u
  ·rw[rem_in hm]at hq;cases hq
  ·rw[bY hm]at hq
   have h1:=ha.same q en hq fun e=>hm (List.mem_append_left _ (cV.2 e))
   have h2:¬q∈aB v'++aB u:=fun h2=>by
    rcases List.mem_append.1 h2 with h3 | h3
    ·rcases new q h3 with h4 | h4
     ·exact hm (List.mem_append_left _ h4)
     ·rw[h4]at hq;cases hq
    ·exact hm (List.mem_append_right _ h3)
   exact⟨en,by rw[bY h2];exact h1,.refl _⟩
 refine⟨by rw[List.length_append,←hm];exact ha.own,h.tc.same fun q hq=> ?_,(h.ka.mono fun vs a=>up _ _ vs a hl).append (hz.mono fun vs a=>up _ _ vs a hl),h.Cg.mono fun vs a=>uq _ _ vs a hl,h.base.trans hl,ap⟩
 obtain⟨en,he⟩:=h.tc.block hq
 rw[he]
 exact ha.same q en he fun h1=>hvu q h1 hq
theorem fS.aer(h:fS P e sz Q e' fa Hb H v l xs u k ys)(up:Up P)(uq:Up Q){m:Nat}{zs:List Value}{j:List β}(hm:m=k.length+j.length)(ha:App H u e' fa m (ys++zs) u' H')(hz:bI (Q (rem H (aB v++aB u))) fa zs j):fS P e sz Q e' fa Hb H' v l xs u' (k++j) (ys++zs):=
 (h.swap.append uq up hm ha (by rw[Jl];exact hz)).swap
theorem fS.form(h:fS P e sz Q e' fa Hb H v l xs u k ys):∃A c,v = .slice A l.length c:=h.own.form
theorem fS.UC(h:fS P e sz Q e' fa Hb H v l xs u k ys):∃A c,u = .slice A k.length c:=h.tc.form
end
end Go.ay
