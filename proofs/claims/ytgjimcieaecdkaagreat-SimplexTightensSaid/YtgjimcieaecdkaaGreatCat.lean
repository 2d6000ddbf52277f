/- Parts of slices, and slices put behind others. -/
import Derived.Test.YtgjimcieaecdkaaGreatA10
import Derived.Test.YtgjimcieaecdkaaGreatGrw2
import Derived.DataElems
set_option linter.unusedVariables false
namespace Go.au
open Go.Proofs Num Lp
def One{α:Type}(P:Heap→List Value→α→Prop):Prop:=∀H vs a,P H vs a→∀u,u∈vs→u.oneCell'=true
theorem Y1(N:Nat):One (ep N):=fun _ vs q h u hu=>by
 obtain⟨A,c,k,f,A1,m1,c1,A2,m2,c2,rfl,_⟩:=ep.cells h
 simp only[List.mem_cons,List.not_mem_nil,or_false]at hu
 rcases hu with rfl | rfl | rfl | rfl | rfl <;> rfl
theorem bF.Y2{α:Type}{P:Heap→List Value→α→Prop}{sz:Nat}{H:Heap}{xs:List Value}{l:List α}(h:bF (P H) sz xs l)(o:One P)(hz:0<sz):∀u,u∈xs→u.oneCell'=true:=fun u hu=>by
 obtain⟨k,hk⟩:=List.getElem?_of_mem hu
 have FZ:=(List.getElem?_eq_some_iff.1 hk).1
 have hd:=Nat.div_add_mod k sz
 have hm:=Nat.mod_lt k hz
 have a8:k/sz<l.length:=by
  rw[h.len]at FZ
  exact(Nat.div_lt_iff_lt_mul hz).2 FZ
 refine o H _ _ (h.at_ (k/sz) l[k/sz] (List.getElem?_eq_getElem a8)) u ?_
 apply List.mem_of_getElem? (i:=k%sz)
 unfold eM
 rw[List.getElem?_take,if_pos hm,List.getElem?_drop,←hk]
 congr 1
 rw[Nat.mul_comm];exact hd
theorem Y3{P:Program}{n:Nat}{all:Array Oper}{md:Mode}{r:List Oper}{s:St}{H Hb:Heap}{K:St→Heap→Prop}{dst:Option Nat}{ty:TypeId}{pos:String}{after:Array _}{gd:Option (Nat×Bool)}
  {α:Type} {Q:Heap→List Value→α→Prop} {t e sz bytes:Nat} {x y:Operand} {z v w:Value} {l k:List α} {xs:List Value} (up:Up Q) (one:One Q) (hz:0<sz) (ht:P.underlying t=some (.slice e)) (he:fm P e sz z bytes) (hx:ev s x=some v) (hy:ev s y=some w)
  (hG:fR Q e sz Hb H v l xs) (hs:aM Q sz (rem H (a6 v)) w k) (hb:(l.length+k.length)*bytes≤140737488355328) (mM:l.length+k.length≤9223372036854775807)
  (hk:∀v' H' ys,fR Q e sz Hb H' v' (l++k) ys→Heap.le (rem H (a6 v)) H'→aE P n all md r (aQ s dst (.val v')) H' K) (hg:bI all s gd=some true:=by rfl) (nb:md.nb s dst=true:=by rfl):aE P n all md (⟨dst,.call ⟨.builtin .append,#[x,y],#[t,t]⟩,ty,pos,after,gd⟩::r) s H K:=by
 obtain⟨A,c,news,rfl,h1,h2,h3⟩:=hs
 refine eX ht he hx hy hG.own (h2.le (bE _ _)) h3.len (h3.Y2 one hz) hb mM (fun v' H' ha=> ?_) hg nb
 have pe:=hG.YM.append up rfl ha h3
 exact hk v' H' _ (pe.down hG.base) pe.le
end Go.au
