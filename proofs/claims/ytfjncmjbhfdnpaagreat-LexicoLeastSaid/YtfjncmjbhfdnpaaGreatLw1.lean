/- Walks over packages amortcostref22 (vectors, LexicoError) and amortcostlaw23 (kept, solvable). -/
import Derived.Test.YtfjncmjbhfdnpaaGreatA14
import Derived.Test.YtfjncmjbhfdnpaaGreatLx3
set_option linter.unusedVariables false
namespace Go.au
open Go.Proofs Num Lp
theorem qh.alz{N:Nat}{H:Heap}{xs:List Value}{ls:List (List Rat)}(h:bC (sV N H) 1 xs ls):IG N H xs ls:=by
 refine⟨by rw[h.len,Nat.mul_one],fun i v l hv hl=> ?_⟩
 obtain⟨A,c,h1,h2⟩:=N7 h hl
 rw[h1]at hv
 cases hv;exact h2
theorem IG.ls{N:Nat}{H:Heap}{xs:List Value}{ls:List (List Rat)}(h:IG N H xs ls):bC (sV N H) 1 xs ls:=by
 refine⟨by rw[h.1,Nat.mul_one],fun i l hl=> ?_⟩
 have hi:=(List.getElem?_eq_some_iff.1 hl).1
 have hx:xs[i]? = some (xs[i]'(by rw[h.1];exact hi)):=List.getElem?_eq_getElem _
 have h2:=h.2 i _ l hx hl
 rw[PB hx]
 obtain⟨A,c,_,e,_⟩:=id h2
 exact⟨A,c,by rw[e],by rw[←e];exact h2⟩
structure Ut(H:Heap)(v ov:Value)(p:Prg)(os:List (List Rat)):Prop where
 zZ:ZU H v p 4 5
 obj:qh 2 H ov os
 len:os.length≤4
 vec:∀o,o∈os→o.length≤5
theorem Uz{k:Nat}:∀{l:List (List Rat×Int×Rat)},(∀r,r∈l→r.1.length≤k)→(l.flatMap (·.1)).length≤l.length*k
 | [],_=>Nat.zero_le _
 | r::l,h=>by
  have h1:=h r (List.mem_cons_self ..)
  have h2:=Uz (l:=l) fun r hr=>h r (List.mem_cons_of_mem _ hr)
  simp only[List.flatMap_cons,List.length_append,List.length_cons,Nat.add_mul]at *;omega
theorem abM{k:Nat}:∀{l:List (List Rat)},(∀r,r∈l→r.length≤k)→l.flatten.length≤l.length*k
 | [],_=>Nat.zero_le _
 | r::l,h=>by
  have h1:=h r (List.mem_cons_self ..)
  have h2:=abM (l:=l) fun r hr=>h r (List.mem_cons_of_mem _ hr)
  simp only[List.flatten_cons,List.length_append,List.length_cons,Nat.add_mul]at *;omega
theorem abN{x:Nat}(h:x<2^63):x.log2≤62:=by
 by_cases h0:x=0
 ·subst h0;decide
 ·have:=(Nat.log2_lt h0).2 h;omega
theorem abO{l:List Nat}(h:l.length≤2)(h1:∀x,x∈l→x<4294967296):val l<2^63:=by
 match l,h with
 | [],_=>decide
 | [a],_=>
  have:=h1 a (by simp)
  simp[val];omega
 | [a,b],_=>
  have:=h1 a (by simp)
  have:=h1 b (by simp)
  simp only[jv]
  rw[show val []=0 from rfl,show B=1000000000 from rfl];omega
theorem alA{f:Bool}{n d k:Nat}(hk:0<k)(hn:n<k)(hd:d<k)(h1:1<k):(cL f n d).num.natAbs<k∧(cL f n d).den<k:=by
 by_cases h0:d=0
 ·subst h0;rw[Gi];exact⟨hk,h1⟩
 ·have hp:0<d:=by omega
  rw[AU hp,yO hp]
  exact⟨Nat.lt_of_le_of_lt (Nat.div_le_self _ _) hn,Nat.lt_of_le_of_lt (Nat.div_le_self _ _) hd⟩
theorem cn.two{H:Heap}{v:Value}{q:Rat}(h:cn H v q 2):q.num.natAbs<2^63∧q.den<2^63:=by
 obtain⟨f,u,w,l1,l2,_,_,_,h3,h4,h5,h6,rfl⟩:=h
 exact alA (by decide) (abO h5 h3) (abO h6 h4) (by decide)
theorem NX{q:Rat}(h:q.num.natAbs<2^63∧q.den<2^63):aq.wt q≤126:=by
 have h1:=abN h.1
 have h2:=abN h.2
 unfold aq.wt;omega
theorem aR.two{H:Heap}{v:Value}{l:List Rat}(h:aR (bN 2) 3 H v l):∀q,q∈l→q.num.natAbs<2^63∧q.den<2^63:=fun q hq=>by
 obtain⟨A,cc,xs,_,_,_,h4⟩:=h
 obtain⟨k,hk⟩:=List.getElem?_of_mem hq
 exact cn.two (h4.at_ k q hk)
theorem eH.two{H:Heap}{v:Value}{p:Prg}(h:eH 2 H v p):∀r,r∈p.rows→(∀q,q∈r.1→q.num.natAbs<2^63∧q.den<2^63)∧(r.2.2.num.natAbs<2^63∧r.2.2.den<2^63):=fun r hr=>by
 obtain⟨fv,rv,_,_,h3⟩:=h
 obtain⟨A,c,xs,_,_,_,h4⟩:=h3
 obtain⟨i,hi⟩:=List.getElem?_of_mem hr
 obtain⟨c',f,u,w,_,k2,k3⟩:=h4.at_ i r hi
 exact⟨k2.two,cn.two k3⟩
theorem alj{p:Prg}{os:List (List Rat)}(hm:p.rows.length≤5)(hr:∀r,r∈p.rows→r.1.length≤4)(ho:os.length≤4)(hv:∀o,o∈os→o.length≤4)(h1:∀r,r∈p.rows→(∀q,q∈r.1→aq.wt q≤263)∧aq.wt r.2.2≤263)(h2:∀o,o∈os→∀q,q∈o→aq.wt q≤263):vS p os 19934208 (2*aq.cT (p.rows.map (·.2.2))):=by
 have hc:aq.cT (ux p os)≤37*263:=by
  refine Nat.le_trans (II (k:=263) fun q hq=> ?_) (Nat.mul_le_mul_right _ ?_)
  ·rcases List.mem_cons.1 hq with rfl | hq
   ·decide
   ·rcases List.mem_append.1 hq with hq | hq
    ·obtain⟨r,hr,hq⟩:=List.mem_flatMap.1 hq
     exact(h1 r hr).1 q hq
    ·obtain⟨o,ho,hq⟩:=List.mem_flatten.1 hq
     exact h2 o ho q hq
  ·have a1:=Uz hr
   have a2:=abM hv
   have a3:p.rows.length*4≤5*4:=Nat.mul_le_mul_right _ hm
   have a4:os.length*4≤4*4:=Nat.mul_le_mul_right _ ho
   simp only[ux,List.length_cons,List.length_append];omega
 have hb:aq.cT (p.rows.map (·.2.2))≤5*263:=by
  refine Nat.le_trans (II (k:=263) fun q hq=> ?_) (Nat.mul_le_mul_right _ (by rw[List.length_map];exact hm))
  obtain⟨r,hr,rfl⟩:=List.mem_map.1 hq
  exact(h1 r hr).2
 refine⟨⟨_,N8 p⟩,fun vs lO=>⟨p.rows.length+vs.length,?_,?_⟩,?_⟩
 ·exact .inl (by have e:(bP p os vs).lp.m=p.rows.length+vs.length:=sU lO
                 omega)
 ·have e:(bP p os vs).lp.m=p.rows.length+vs.length:=sU lO
  rw[e]
  unfold iy
  have h9:2^(p.rows.length+vs.length)≤2^9:=Nat.pow_le_pow_right (by decide) (by omega)
  have h8:=Nat.mul_le_mul h9 (show 4*aq.cT (ux p os)+(p.rows.length+vs.length)+1≤4*(37*263)+9+1 by omega)
  have h7:2^9*(4*(37*263)+9+1)=19934208:=by decide
  omega
 ·have h9:(os.length+1)*19934208≤5*19934208:=Nat.mul_le_mul_right _ (by omega)
  omega
theorem aln{H:Heap}{v ov:Value}{p:Prg}{os:List (List Rat)}{N:Nat}(hp:eH N H v p)(ho:qh N H ov os):
 Fn Tryz.prog 23 #[v,ov] H (fun v' H'=>H'=H∧∃b,v' = .bool b∧(b=true→Ut H v ov p os)):=by
 obtain⟨fv,gB,rfl,eI,fk⟩:=id hp
 obtain⟨Af,cf,xf,rfl,jk,jl⟩:=eI.one
 obtain⟨Ar,cr,xr,rfl,jL,fy,iE⟩:=id fk
 obtain⟨Ao,co,xo,rfl,oJ,qw,z7⟩:=id ho;refine a7 (args:=[_,_]) Tryz.func23 rfl rfl Tryz.ntmps23 rfl rfl fun w0=> ?_;refine aj [0,1] rfl ?_;refine ag (bX rfl rfl (ab 1 rfl (ae [1,2] ?_)));refine ag (ab 1 rfl (aE rfl rfl (aiM (n:=4) (m:=5) hp (by omega) (by omega)) ?_));rintro _ H2 ⟨e2,b2,rfl,cD⟩;rw[e2]
 cases b2
 ·
  skip
  refine ab 5 rfl (ae [4] ?_);refine aD ⟨.inr rfl,_,.tmp rfl (.nil),?_⟩;exact⟨rfl,false,rfl,fun h=>by cases h⟩
 ·
  skip
  refine ab 2 rfl (aE rfl rfl (aiL (m:=4) (n:=5) qw rfl (qh.alz z7) (by omega) (by omega)) ?_);rintro _ H3 ⟨e3,b3,rfl,nt⟩;rw[e3];refine ab 2 rfl (ae [4] ?_);refine aD ⟨.inr rfl,_,.tmp rfl (.nil),?_⟩;exact⟨rfl,b3,rfl,fun h=>⟨cD rfl,⟨Ao,co,xo,rfl,oJ,qw,(nt h).1.ls⟩,(nt h).2.2,(nt h).2.1⟩⟩
end Go.au
