/- Walks over packages amortcostref22 (vectors, LexicoError) and amortcostlaw23 (kept, solvable). -/
import Derived.Test.YtgjimcieaecdkaaGreatA10
import Derived.Test.YtgjimcieaecdkaaGreatLx3
import Derived.Test.YtgjimcieaecdkaaGreatVal2
set_option linter.unusedVariables false
namespace Go.ar
open Go.Proofs Num Lp
theorem mg.abE{N:Nat}{H:Heap}{xs:List Value}{ls:List (List Rat)}(h:bg (m9 N H) 1 xs ls):Ci N H xs ls:=by
 refine⟨by rw[h.len,Nat.mul_one],fun i v l hv hl=> ?_⟩
 obtain⟨A,c,h1,h2⟩:=F5 h hl
 rw[h1]at hv
 cases hv;exact h2
theorem Ci.ls{N:Nat}{H:Heap}{xs:List Value}{ls:List (List Rat)}(h:Ci N H xs ls):bg (m9 N H) 1 xs ls:=by
 refine⟨by rw[h.1,Nat.mul_one],fun i l hl=> ?_⟩
 have hi:=(List.getElem?_eq_some_iff.1 hl).1
 have hx:xs[i]? = some (xs[i]'(by rw[h.1];exact hi)):=List.getElem?_eq_getElem _
 have h2:=h.2 i _ l hx hl
 rw[HU hx]
 obtain⟨A,c,_,e,_⟩:=id h2
 exact⟨A,c,by rw[e],by rw[←e];exact h2⟩
structure Kpt(H:Heap)(v ov:Value)(p:Prg)(os:List (List Rat)):Prop where
 Cq:Q6 H v p 4 5
 obj:mg 2 H ov os
 len:os.length≤4
 vec:∀o,o∈os→o.length≤5
theorem Rt{k:Nat}:∀{l:List (List Rat×Int×Rat)},(∀r,r∈l→r.1.length≤k)→(l.flatMap (·.1)).length≤l.length*k
 | [],_=>Nat.zero_le _
 | r::l,h=>by
  have h1:=h r (List.mem_cons_self ..)
  have h2:=Rt (l:=l) fun r hr=>h r (List.mem_cons_of_mem _ hr)
  simp only[List.flatMap_cons,List.length_append,List.length_cons,Nat.add_mul]at *;omega
theorem Ru{x:Nat}(h:x<2^63):x.log2≤62:=by
 by_cases h0:x=0
 ·subst h0;decide
 ·have:=(Nat.log2_lt h0).2 h;omega
theorem Rv{l:List Nat}(h:l.length≤2)(h1:∀x,x∈l→x<4294967296):val l<2^63:=by
 match l,h with
 | [],_=>decide
 | [a],_=>
  have:=h1 a (by simp)
  simp[val];omega
 | [a,b],_=>
  have:=h1 a (by simp)
  have:=h1 b (by simp)
  simp only[fH]
  rw[show val []=0 from rfl,show B=1000000000 from rfl];omega
theorem abF{f:Bool}{n d k:Nat}(hk:0<k)(hn:n<k)(hd:d<k)(h1:1<k):(bS f n d).num.natAbs<k∧(bS f n d).den<k:=by
 by_cases h0:d=0
 ·subst h0;rw[zJ];exact⟨hk,h1⟩
 ·have hp:0<d:=by omega
  rw[uM hp,sL hp]
  exact⟨Nat.lt_of_le_of_lt (Nat.div_le_self _ _) hn,Nat.lt_of_le_of_lt (Nat.div_le_self _ _) hd⟩
theorem bL.two{H:Heap}{v:Value}{q:Rat}(h:bL H v q 2):q.num.natAbs<2^63∧q.den<2^63:=by
 obtain⟨f,u,w,l1,l2,_,_,_,h3,h4,h5,h6,rfl⟩:=h
 exact abF (by decide) (Rv h5 h3) (Rv h6 h4) (by decide)
theorem Rw{q:Rat}(h:q.num.natAbs<2^63∧q.den<2^63):ao.wt q≤126:=by
 have h1:=Ru h.1
 have h2:=Ru h.2
 unfold ao.wt;omega
theorem aH.two{H:Heap}{v:Value}{l:List Rat}(h:aH (bJ 2) 3 H v l):∀q,q∈l→q.num.natAbs<2^63∧q.den<2^63:=fun q hq=>by
 obtain⟨A,cc,xs,_,_,_,h4⟩:=h
 obtain⟨k,hk⟩:=List.getElem?_of_mem hq
 exact bL.two (h4.at_ k q hk)
theorem dE.two{H:Heap}{v:Value}{p:Prg}(h:dE 2 H v p):∀r,r∈p.rows→(∀q,q∈r.1→q.num.natAbs<2^63∧q.den<2^63)∧(r.2.2.num.natAbs<2^63∧r.2.2.den<2^63):=fun r hr=>by
 obtain⟨fv,rv,_,_,h3⟩:=h
 obtain⟨A,c,xs,_,_,_,h4⟩:=h3
 obtain⟨i,hi⟩:=List.getElem?_of_mem hr
 obtain⟨c',f,u,w,_,k2,k3⟩:=h4.at_ i r hi
 exact⟨k2.two,bL.two k3⟩
theorem abG{H:Heap}{v ov:Value}{p:Prg}{os:List (List Rat)}{N:Nat}(hp:dE N H v p)(ho:mg N H ov os):
 Fn Tryz.prog 10 #[v,ov] H (fun v' H'=>H'=H∧∃b,v' = .bool b∧(b=true→Kpt H v ov p os)):=by
 obtain⟨fv,l7,rfl,eA,fa⟩:=id hp
 obtain⟨Af,cf,xf,rfl,kF,kG⟩:=eA.one
 obtain⟨Ar,cr,xr,rfl,iH,fQ,fA⟩:=id fa
 obtain⟨Ao,co,xo,rfl,lQ,je,tI⟩:=id ho;refine aW (args:=[_,_]) Tryz.func10 rfl rfl Tryz.ntmps10 rfl rfl fun w0=> ?_;refine aj [0,1] rfl ?_;refine af (bY rfl rfl (ab 1 rfl (ae [1,2] ?_)));refine af (ab 1 rfl (au rfl rfl (aaZ (n:=4) (m:=5) hp (by omega) (by omega)) ?_));rintro _ H2 ⟨e2,b2,rfl,bU⟩;rw[e2]
 cases b2
 ·
  skip
  refine ab 5 rfl (ae [4] ?_);refine aw ⟨.inr rfl,_,.tmp rfl (.nil),?_⟩;exact⟨rfl,false,rfl,fun h=>by cases h⟩
 ·
  skip
  refine ab 2 rfl (au rfl rfl (aaY (m:=4) (n:=5) je rfl (mg.abE tI) (by omega) (by omega)) ?_);rintro _ H3 ⟨e3,b3,rfl,jD⟩;rw[e3];refine ab 2 rfl (ae [4] ?_);refine aw ⟨.inr rfl,_,.tmp rfl (.nil),?_⟩;exact⟨rfl,b3,rfl,fun h=>⟨bU rfl,⟨Ao,co,xo,rfl,lQ,je,(jD h).1.ls⟩,(jD h).2.2,(jD h).2.1⟩⟩
end Go.ar
