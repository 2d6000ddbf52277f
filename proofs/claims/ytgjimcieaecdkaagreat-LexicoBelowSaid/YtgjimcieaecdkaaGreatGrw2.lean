/- Two slices that grow by append, over a heap that stays. -/
import Derived.Test.YtgjimcieaecdkaaGreatA10
set_option linter.unusedVariables false
namespace Go.ar
open Go.Proofs Num Lp
structure eK{α β:Type}(P:Heap→List Value→α→Prop)(e sz:Nat)(Q:Heap→List Value→β→Prop)(e' dS:Nat)(Hb H:Heap)(v:Value)(l:List α)(xs:List Value)(u:Value)(k:List β)(ys:List Value):Prop where
 own:bE H v e sz l.length xs
 qu:bE H u e' dS k.length ys
 jM:bg (P (rem H (aB v++aB u))) sz xs l
 yK:bg (Q (rem H (aB v++aB u))) dS ys k
 base:Heap.le Hb (rem H (aB v++aB u))
 apart:∀q,q∈aB v→¬q∈aB u
theorem FW(H:Heap)(a b:List Nat):rem H (a++b)=rem H (b++a):=by
 funext q
 unfold rem
 simp only[List.mem_append,Or.comm]
theorem KN{H:Heap}{a b:List Nat}(h:∀q,q∈a→q∈b):Heap.le (rem H b) (rem H a):=fun q en hq=>by
 by_cases hm:q∈b
 ·rw[rem_in hm]at hq;cases hq
 ·rw[bo hm]at hq
  exact⟨en,by rw[bo (fun h'=>hm (h q h'))];exact hq,.refl _⟩
section
variable {α β:Type} {P:Heap→List Value→α→Prop} {e sz:Nat} {Q:Heap→List Value→β→Prop} {e' dS:Nat} {Hb H H':Heap} {v v' u u':Value} {l:List α} {xs:List Value} {k:List β} {ys:List Value}
theorem eK.swap(h:eK P e sz Q e' dS Hb H v l xs u k ys):eK Q e' dS P e sz Hb H u k ys v l xs:=
 ⟨h.qu,h.own,by rw[FW];exact h.yK,by rw[FW];exact h.jM,by rw[FW];exact h.base,fun q h1 h2=>h.apart q h2 h1⟩
theorem eK.le(h:eK P e sz Q e' dS Hb H v l xs u k ys):Heap.le Hb H:=h.base.trans (bn _ _)
theorem eK.mf(h:eK P e sz Q e' dS Hb H v l xs u k ys):∀q,q∈aB v++aB u→H q≠none:=fun q hq=>by
 rcases List.mem_append.1 hq with hq | hq
 ·obtain⟨en,he⟩:=h.own.block (du.1 hq);rw[he];simp
 ·obtain⟨en,he⟩:=h.qu.block (du.1 hq);rw[he];simp
theorem dL.two(h:dL P e sz Hb H v l xs):eK P e sz Q e' dS Hb H v l xs (.slice none 0 0) [] []:=by
 have e1:aB v++aB (.slice none 0 0)=aB v:=by rw[qt,List.append_nil]
 exact⟨h.own,mu H e' dS,by rw[e1];exact h.jM,sR,by rw[e1];exact h.base,fun q _ hq=>by rw[qt]at hq;cases hq⟩
theorem eK.one(h:eK P e sz Q e' dS Hb H v l xs u k ys)(up:Up P)(uq:Up Q):dL P e sz Hb H v l xs∧aH Q dS (rem H (aB v)) u k:=by
 have h1:Heap.le (rem H (aB v++aB u)) (rem H (aB v)):=KN fun q hq=>List.mem_append_left _ hq
 refine⟨⟨h.own,h.jM.mono fun vs a=>up _ _ vs a h1,h.base.trans h1⟩,?_⟩
 refine zS.sl ⟨ys,h.qu.same fun q hq=> ?_,h.yK.mono fun vs a=>uq _ _ vs a h1⟩
 exact bo fun hv=>h.apart q hv (du.2 hq)
theorem eK.step(h:eK P e sz Q e' dS Hb H v l xs u k ys)(up:Up P)(uq:Up Q)(hs:∀q,q∈aB v++aB u→H' q=H q)(hl:Heap.le (rem H (aB v++aB u)) (rem H' (aB v++aB u))):eK P e sz Q e' dS Hb H' v l xs u k ys:=
 ⟨h.own.same fun q hq=>hs q (List.mem_append_left _ (du.2 hq)),h.qu.same fun q hq=>hs q (List.mem_append_right _ (du.2 hq)),h.jM.mono fun vs a=>up _ _ vs a hl,h.yK.mono fun vs a=>uq _ _ vs a hl,h.base.trans hl,h.apart⟩
theorem eK.ins(h:eK P e sz Q e' dS Hb H v l xs u k ys)(up:Up P)(uq:Up Q){g:Nat}(en:aG)(hg:H g=none):eK P e sz Q e' dS Hb (ins H g en) v l xs u k ys:=by
 have hn:¬g∈aB v++aB u:=fun hm=>h.mf g hm hg
 refine h.step up uq (fun q hq=>bA _ _ fun e=>hn (e▸hq)) ?_
 rw[qZ _ hn]
 exact Heap.a0 _ (by rw[bo hn];exact hg)
theorem eK.append(h:eK P e sz Q e' dS Hb H v l xs u k ys)(up:Up P)(uq:Up Q){m:Nat}{zs:List Value}{j:List α}(hm:m=l.length+j.length)(ha:App H v e sz m (xs++zs) v' H')(hz:bg (P (rem H (aB v++aB u))) sz zs j):eK P e sz Q e' dS Hb H' v' (l++j) (xs++zs) u k ys:=by
 have hvu:∀q,v.ownBlock=some q→¬u.ownBlock=some q:=fun q h1 h2=>h.apart q (du.2 h1) (du.2 h2)
 have new:∀q,q∈aB v'→q∈aB v∨H q=none:=fun q hq=>by
  rcases ha.at_ with h4 | ⟨g,h4,h5⟩
  ·exact .inl (du.2 (h4▸du.1 hq))
  ·have:=du.1 hq;rw[h4]at this;cases this;exact .inr h5
 have ap:∀q,q∈aB v'→¬q∈aB u:=fun q hq hu=>by
  rcases new q hq with h1 | h1
  ·exact h.apart q h1 hu
  ·exact h.mf q (List.mem_append_right _ hu) h1
 have hl:Heap.le (rem H (aB v++aB u)) (rem H' (aB v'++aB u)):=fun q en hq=>by
  by_cases hm:q∈aB v++aB u
  ·rw[rem_in hm]at hq;cases hq
  ·rw[bo hm]at hq
   have h1:=ha.same q en hq fun e=>hm (List.mem_append_left _ (du.2 e))
   have h2:¬q∈aB v'++aB u:=fun h2=>by
    rcases List.mem_append.1 h2 with h3 | h3
    ·rcases new q h3 with h4 | h4
     ·exact hm (List.mem_append_left _ h4)
     ·rw[h4]at hq;cases hq
    ·exact hm (List.mem_append_right _ h3)
   exact⟨en,by rw[bo h2];exact h1,.refl _⟩
 refine⟨by rw[List.length_append,←hm];exact ha.own,h.qu.same fun q hq=> ?_,(h.jM.mono fun vs a=>up _ _ vs a hl).append (hz.mono fun vs a=>up _ _ vs a hl),h.yK.mono fun vs a=>uq _ _ vs a hl,h.base.trans hl,ap⟩
 obtain⟨en,he⟩:=h.qu.block hq
 rw[he]
 exact ha.same q en he fun h1=>hvu q h1 hq
theorem eK.abq(h:eK P e sz Q e' dS Hb H v l xs u k ys)(up:Up P)(uq:Up Q){m:Nat}{zs:List Value}{j:List β}(hm:m=k.length+j.length)(ha:App H u e' dS m (ys++zs) u' H')(hz:bg (Q (rem H (aB v++aB u))) dS zs j):eK P e sz Q e' dS Hb H' v l xs u' (k++j) (ys++zs):=
 (h.swap.append uq up hm ha (by rw[FW];exact hz)).swap
theorem eK.form(h:eK P e sz Q e' dS Hb H v l xs u k ys):∃A c,v = .slice A l.length c:=h.own.form
theorem eK.Ro(h:eK P e sz Q e' dS Hb H v l xs u k ys):∃A c,u = .slice A k.length c:=h.qu.form
end
end Go.ar
