/- Parts of slices, and slices put behind others. -/
import Derived.Test.YtfjncmjbhfdnpaaGreatA10
import Derived.Test.YtfjncmjbhfdnpaaGreatGrw2
import Derived.DataElems
set_option linter.unusedVariables false
namespace Go.ay
open Go.Proofs Num Lp
theorem Rd.drop{H:Heap}{A:Option Addr}{xs:List Value}(h:Rd H A xs)(k:Nat):Rd H (A.map (·.add k)) (xs.drop k):=fun i v hv=>by
 rw[List.getElem?_drop]at hv
 obtain⟨ad,h1,h2⟩:=h (k+i) v hv
 exact⟨ad.add k,by rw[h1];rfl,by rw[Addr.add_add];exact h2⟩
section
variable {α:Type} {P:Heap→List Value→α→Prop} {sz:Nat} {H:Heap} {A:Option Addr} {c:Nat} {l:List α}
theorem aC.cap{n:Nat}(h:aC P sz H (.slice A n c) l):n=l.length∧l.length≤c:=by
 obtain⟨A',c',xs,e,h1,_⟩:=h
 simp only[Value.slice.injEq]at e
 obtain⟨rfl,rfl,rfl⟩:=e
 exact⟨rfl,h1⟩
theorem aC.from(h:aC P sz H (.slice A l.length c) l){k:Nat}(hk:k≤l.length):aC P sz H (.slice (if c=k then A else A.map (·.add (k*sz))) (l.length-k) (c-k)) (l.drop k):=by
 obtain⟨A',c',xs,e,h1,h2,h3⟩:=h
 simp only[Value.slice.injEq]at e
 obtain⟨rfl,_,rfl⟩:=e
 by_cases e:c=k
 ·rw[if_pos e]
  have e2:l.drop k = []:=List.drop_eq_nil_of_le (by omega)
  rw[e2]
  exact⟨A,c-k,[],by rw[show l.length-k=0 by omega];rfl,Nat.zero_le _,Rd.nil _ _,tS⟩
 ·rw[if_neg e]
  exact⟨_,c-k,xs.drop (k*sz),by rw[List.length_drop],by rw[List.length_drop];omega,h2.drop _,h3.drop k⟩
theorem aC.upto(h:aC P sz H (.slice A l.length c) l){k:Nat}(hk:k≤l.length):aC P sz H (.slice (if c=0 then A else A.map (·.add (0*sz))) (k-0) (c-0)) (l.take k):=by
 obtain⟨A',c',xs,e,h1,h2,h3⟩:=h
 simp only[Value.slice.injEq]at e
 obtain⟨rfl,_,rfl⟩:=e
 rw[Aa]
 exact⟨A,c,xs.take (k*sz),by rw[List.length_take,Nat.min_eq_left hk];rfl,by rw[List.length_take];omega,h2.take _,h3.take hk⟩
end
def One{α:Type}(P:Heap→List Value→α→Prop):Prop:=∀H vs a,P H vs a→∀u,u∈vs→u.oneCell'=true
theorem Uh:One pz:=fun _ vs b h u hu=>by
 have h:vs = [.bool b]:=h
 subst h
 rw[List.mem_singleton]at hu;rw[hu];rfl
theorem NH(N:Nat):One (aS N):=fun _ vs q h u hu=>by
 obtain⟨f,A,m,c,A',m',c',rfl⟩:=aS.cells h
 exact B7 _ _ _ _ _ _ _ u hu
theorem bI.Ui{α:Type}{P:Heap→List Value→α→Prop}{sz:Nat}{H:Heap}{xs:List Value}{l:List α}(h:bI (P H) sz xs l)(o:One P)(hz:0<sz):∀u,u∈xs→u.oneCell'=true:=fun u hu=>by
 obtain⟨k,hk⟩:=List.getElem?_of_mem hu
 have Lg:=(List.getElem?_eq_some_iff.1 hk).1
 have hd:=Nat.div_add_mod k sz
 have hm:=Nat.mod_lt k hz
 have bH:k/sz<l.length:=by
  rw[h.len]at Lg
  exact(Nat.div_lt_iff_lt_mul hz).2 Lg
 refine o H _ _ (h.at_ (k/sz) l[k/sz] (List.getElem?_eq_getElem bH)) u ?_
 apply List.mem_of_getElem? (i:=k%sz)
 unfold fA
 rw[List.getElem?_take,if_pos hm,List.getElem?_drop,←hk]
 congr 1
 rw[Nat.mul_comm];exact hd
theorem Uj{P:Program}{n:Nat}{all:Array Oper}{md:Mode}{r:List Oper}{s:St}{H Hb:Heap}{K:St→Heap→Prop}{dst:Option Nat}{ty:TypeId}{pos:String}{after:Array _}{gd:Option (Nat×Bool)}
  {α:Type} {Q:Heap→List Value→α→Prop} {t e sz bytes:Nat} {x y:Operand} {z v w:Value} {l k:List α} {xs:List Value} (up:Up Q) (one:One Q) (hz:0<sz) (ht:P.underlying t=some (.slice e)) (he:fT P e sz z bytes) (hx:ev s x=some v) (hy:ev s y=some w)
  (hG:eA Q e sz Hb H v l xs) (hs:aC Q sz (rem H (aB v)) w k) (hb:(l.length+k.length)*bytes≤140737488355328) (nW:l.length+k.length≤9223372036854775807)
  (hk:∀v' H' ys,eA Q e sz Hb H' v' (l++k) ys→Heap.le (rem H (aB v)) H'→aO P n all md r (aY s dst (.val v')) H' K) (hg:cE all s gd=some true:=by rfl) (nb:md.nb s dst=true:=by rfl):aO P n all md (⟨dst,.call ⟨.builtin .append,#[x,y],#[t,t]⟩,ty,pos,after,gd⟩::r) s H K:=by
 obtain⟨A,c,news,rfl,h1,h2,h3⟩:=hs
 refine eW ht he hx hy hG.own (h2.le (bG _ _)) h3.len (h3.Ui one hz) hb nW (fun v' H' ha=> ?_) hg nb
 have sN:=hG.zm.append up rfl ha h3
 exact hk v' H' _ (sN.down hG.base) sN.le
end Go.ay
