/- Parts of slices, and slices put behind others. -/
import Derived.Test.YtgjimcieaecdkaaGreatA10
import Derived.Test.YtgjimcieaecdkaaGreatGrw2
import Derived.DataElems
set_option linter.unusedVariables false
namespace Go.ar
open Go.Proofs Num Lp
theorem Rd.drop{H:Heap}{A:Option Addr}{xs:List Value}(h:Rd H A xs)(k:Nat):Rd H (A.map (·.add k)) (xs.drop k):=fun i v hv=>by
 rw[List.getElem?_drop]at hv
 obtain⟨ad,h1,h2⟩:=h (k+i) v hv
 exact⟨ad.add k,by rw[h1];rfl,by rw[Addr.add_add];exact h2⟩
section
variable {α:Type} {P:Heap→List Value→α→Prop} {sz:Nat} {H:Heap} {A:Option Addr} {c:Nat} {l:List α}
theorem aH.cap{n:Nat}(h:aH P sz H (.slice A n c) l):n=l.length∧l.length≤c:=by
 obtain⟨A',c',xs,e,h1,_⟩:=h
 simp only[Value.slice.injEq]at e
 obtain⟨rfl,rfl,rfl⟩:=e
 exact⟨rfl,h1⟩
theorem aH.from(h:aH P sz H (.slice A l.length c) l){k:Nat}(hk:k≤l.length):aH P sz H (.slice (if c=k then A else A.map (·.add (k*sz))) (l.length-k) (c-k)) (l.drop k):=by
 obtain⟨A',c',xs,e,h1,h2,h3⟩:=h
 simp only[Value.slice.injEq]at e
 obtain⟨rfl,_,rfl⟩:=e
 by_cases e:c=k
 ·rw[if_pos e]
  have e2:l.drop k = []:=List.drop_eq_nil_of_le (by omega)
  rw[e2]
  exact⟨A,c-k,[],by rw[show l.length-k=0 by omega];rfl,Nat.zero_le _,Rd.nil _ _,sR⟩
 ·rw[if_neg e]
  exact⟨_,c-k,xs.drop (k*sz),by rw[List.length_drop],by rw[List.length_drop];omega,h2.drop _,h3.drop k⟩
end
def One{α:Type}(P:Heap→List Value→α→Prop):Prop:=∀H vs a,P H vs a→∀u,u∈vs→u.oneCell'=true
theorem abj:One mW:=fun _ vs b h u hu=>by
 have h:vs = [.bool b]:=h
 subst h
 rw[List.mem_singleton]at hu;rw[hu];rfl
theorem abk(N:Nat):One (ez N):=fun _ vs q h u hu=>by
 obtain⟨A,c,k,f,A1,m1,c1,A2,m2,c2,rfl,_⟩:=ez.cells h
 simp only[List.mem_cons,List.not_mem_nil,or_false]at hu
 rcases hu with rfl | rfl | rfl | rfl | rfl <;> rfl
theorem bg.Rj{α:Type}{P:Heap→List Value→α→Prop}{sz:Nat}{H:Heap}{xs:List Value}{l:List α}(h:bg (P H) sz xs l)(o:One P)(hz:0<sz):∀u,u∈xs→u.oneCell'=true:=fun u hu=>by
 obtain⟨k,hk⟩:=List.getElem?_of_mem hu
 have Ij:=(List.getElem?_eq_some_iff.1 hk).1
 have hd:=Nat.div_add_mod k sz
 have hm:=Nat.mod_lt k hz
 have a7:k/sz<l.length:=by
  rw[h.len]at Ij
  exact(Nat.div_lt_iff_lt_mul hz).2 Ij
 refine o H _ _ (h.at_ (k/sz) l[k/sz] (List.getElem?_eq_getElem a7)) u ?_
 apply List.mem_of_getElem? (i:=k%sz)
 unfold ea
 rw[List.getElem?_take,if_pos hm,List.getElem?_drop,←hk]
 congr 1
 rw[Nat.mul_comm];exact hd
theorem abl{P:Program}{n:Nat}{all:Array Oper}{md:Mode}{r:List Oper}{s:St}{H Hb:Heap}{K:St→Heap→Prop}{dst:Option Nat}{ty:TypeId}{pos:String}{after:Array _}{gd:Option (Nat×Bool)}
  {α:Type} {Q:Heap→List Value→α→Prop} {t e sz bytes:Nat} {x y:Operand} {z v w:Value} {l k:List α} {xs:List Value} (up:Up Q) (one:One Q) (hz:0<sz) (ht:P.underlying t=some (.slice e)) (he:eR P e sz z bytes) (hx:ev s x=some v) (hy:ev s y=some w)
  (hG:dL Q e sz Hb H v l xs) (hs:aH Q sz (rem H (aB v)) w k) (hb:(l.length+k.length)*bytes≤140737488355328) (ny:l.length+k.length≤9223372036854775807)
  (hk:∀v' H' ys,dL Q e sz Hb H' v' (l++k) ys→Heap.le (rem H (aB v)) H'→aE P n all md r (aR s dst (.val v')) H' K) (hg:bM all s gd=some true:=by rfl) (nb:md.nb s dst=true:=by rfl):aE P n all md (⟨dst,.call ⟨.builtin .append,#[x,y],#[t,t]⟩,ty,pos,after,gd⟩::r) s H K:=by
 obtain⟨A,c,news,rfl,h1,h2,h3⟩:=hs
 refine dY ht he hx hy hG.own (h2.le (bn _ _)) h3.len (h3.Rj one hz) hb ny (fun v' H' ha=> ?_) hg nb
 have qe:=hG.vX.append up rfl ha h3
 exact hk v' H' _ (qe.down hG.base) qe.le
end Go.ar
