/- Walks over packages amortcostref22 (vectors, LexicoError) and amortcostlaw23 (kept, solvable). -/
import Derived.Test.YtfjncmjbhfdnpaaGreatA14
import Derived.Test.YtfjncmjbhfdnpaaGreatLx3
set_option linter.unusedVariables false
namespace Go.aw
open Go.Proofs Num Lp
theorem jw.alu{N:Nat}{H:Heap}{xs:List Value}{ls:List (List Rat)}(h:bE (rF N H) 1 xs ls):IZ N H xs ls:=by
 refine⟨by rw[h.len,Nat.mul_one],fun i v l hv hl=> ?_⟩
 obtain⟨A,c,h1,h2⟩:=Ak h hl
 rw[h1]at hv
 cases hv;exact h2
theorem IZ.ls{N:Nat}{H:Heap}{xs:List Value}{ls:List (List Rat)}(h:IZ N H xs ls):bE (rF N H) 1 xs ls:=by
 refine⟨by rw[h.1,Nat.mul_one],fun i l hl=> ?_⟩
 have hi:=(List.getElem?_eq_some_iff.1 hl).1
 have hx:xs[i]? = some (xs[i]'(by rw[h.1];exact hi)):=List.getElem?_eq_getElem _
 have h2:=h.2 i _ l hx hl
 rw[Px hx]
 obtain⟨A,c,_,e,_⟩:=id h2
 exact⟨A,c,by rw[e],by rw[←e];exact h2⟩
structure NZ(H:Heap)(v ov:Value)(p:Prg)(os:List (List Rat)):Prop where
 JZ:ZT H v p 4 5
 obj:jw 2 H ov os
 len:os.length≤4
 vec:∀o,o∈os→o.length≤5
theorem abH{k:Nat}:∀{l:List (List Rat×Int×Rat)},(∀r,r∈l→r.1.length≤k)→(l.flatMap (·.1)).length≤l.length*k
 | [],_=>Nat.zero_le _
 | r::l,h=>by
  have h1:=h r (List.mem_cons_self ..)
  have h2:=abH (l:=l) fun r hr=>h r (List.mem_cons_of_mem _ hr)
  simp only[List.flatMap_cons,List.length_append,List.length_cons,Nat.add_mul]at *;omega
theorem abI{k:Nat}:∀{l:List (List Rat)},(∀r,r∈l→r.length≤k)→l.flatten.length≤l.length*k
 | [],_=>Nat.zero_le _
 | r::l,h=>by
  have h1:=h r (List.mem_cons_self ..)
  have h2:=abI (l:=l) fun r hr=>h r (List.mem_cons_of_mem _ hr)
  simp only[List.flatten_cons,List.length_append,List.length_cons,Nat.add_mul]at *;omega
theorem abJ{x:Nat}(h:x<2^63):x.log2≤62:=by
 by_cases h0:x=0
 ·subst h0;decide
 ·have:=(Nat.log2_lt h0).2 h;omega
theorem abK{l:List Nat}(h:l.length≤2)(h1:∀x,x∈l→x<4294967296):val l<2^63:=by
 match l,h with
 | [],_=>decide
 | [a],_=>
  have:=h1 a (by simp)
  simp[val];omega
 | [a,b],_=>
  have:=h1 a (by simp)
  have:=h1 b (by simp)
  simp only[jA]
  rw[show val []=0 from rfl,show B=1000000000 from rfl];omega
theorem alv{f:Bool}{n d k:Nat}(hk:0<k)(hn:n<k)(hd:d<k)(h1:1<k):(cL f n d).num.natAbs<k∧(cL f n d).den<k:=by
 by_cases h0:d=0
 ·subst h0;rw[Gw];exact⟨hk,h1⟩
 ·have hp:0<d:=by omega
  rw[Bh hp,yU hp]
  exact⟨Nat.lt_of_le_of_lt (Nat.div_le_self _ _) hn,Nat.lt_of_le_of_lt (Nat.div_le_self _ _) hd⟩
theorem ct.two{H:Heap}{v:Value}{q:Rat}(h:ct H v q 2):q.num.natAbs<2^63∧q.den<2^63:=by
 obtain⟨f,u,w,l1,l2,_,_,_,h3,h4,h5,h6,rfl⟩:=h
 exact alv (by decide) (abK h5 h3) (abK h6 h4) (by decide)
theorem Uv{q:Rat}(h:q.num.natAbs<2^63∧q.den<2^63):ar.wt q≤126:=by
 have h1:=abJ h.1
 have h2:=abJ h.2
 unfold ar.wt;omega
theorem aR.two{H:Heap}{v:Value}{l:List Rat}(h:aR (bR 2) 3 H v l):∀q,q∈l→q.num.natAbs<2^63∧q.den<2^63:=fun q hq=>by
 obtain⟨A,cc,xs,_,_,_,h4⟩:=h
 obtain⟨k,hk⟩:=List.getElem?_of_mem hq
 exact ct.two (h4.at_ k q hk)
theorem ea.two{H:Heap}{v:Value}{p:Prg}(h:ea 2 H v p):∀r,r∈p.rows→(∀q,q∈r.1→q.num.natAbs<2^63∧q.den<2^63)∧(r.2.2.num.natAbs<2^63∧r.2.2.den<2^63):=fun r hr=>by
 obtain⟨fv,rv,_,_,h3⟩:=h
 obtain⟨A,c,xs,_,_,_,h4⟩:=h3
 obtain⟨i,hi⟩:=List.getElem?_of_mem hr
 obtain⟨c',f,u,w,_,k2,k3⟩:=h4.at_ i r hi
 exact⟨k2.two,ct.two k3⟩
theorem jw.two{H:Heap}{v:Value}{ls:List (List Rat)}(h:jw 2 H v ls):∀o,o∈ls→∀q,q∈o→q.num.natAbs<2^63∧q.den<2^63:=fun o ho=>by
 obtain⟨A,c,xs,_,_,_,h4⟩:=h
 obtain⟨i,hi⟩:=List.getElem?_of_mem ho
 obtain⟨A',c',_,k⟩:=Ak h4 hi
 exact k.two
theorem alw{p:Prg}{os:List (List Rat)}(hm:p.rows.length≤5)(hr:∀r,r∈p.rows→r.1.length≤4)(ho:os.length≤4)(hv:∀o,o∈os→o.length≤4)(h1:∀r,r∈p.rows→(∀q,q∈r.1→ar.wt q≤263)∧ar.wt r.2.2≤263)(h2:∀o,o∈os→∀q,q∈o→ar.wt q≤263):uH p os 19934208 (2*ar.dA (p.rows.map (·.2.2))):=by
 have hc:ar.dA (uI p os)≤37*263:=by
  refine Nat.le_trans (Sm (k:=263) fun q hq=> ?_) (Nat.mul_le_mul_right _ ?_)
  ·rcases List.mem_cons.1 hq with rfl | hq
   ·decide
   ·rcases List.mem_append.1 hq with hq | hq
    ·obtain⟨r,hr,hq⟩:=List.mem_flatMap.1 hq
     exact(h1 r hr).1 q hq
    ·obtain⟨o,ho,hq⟩:=List.mem_flatten.1 hq
     exact h2 o ho q hq
  ·have a1:=abH hr
   have a2:=abI hv
   have a3:p.rows.length*4≤5*4:=Nat.mul_le_mul_right _ hm
   have a4:os.length*4≤4*4:=Nat.mul_le_mul_right _ ho
   simp only[uI,List.length_cons,List.length_append];omega
 have hb:ar.dA (p.rows.map (·.2.2))≤5*263:=by
  refine Nat.le_trans (Sm (k:=263) fun q hq=> ?_) (Nat.mul_le_mul_right _ (by rw[List.length_map];exact hm))
  obtain⟨r,hr,rfl⟩:=List.mem_map.1 hq
  exact(h1 r hr).2
 refine⟨⟨_,Uw p⟩,fun vs kW=>⟨p.rows.length+vs.length,?_,?_⟩,?_⟩
 ·exact .inl (by have e:(b8 p os vs).lp.m=p.rows.length+vs.length:=Ah kW
                 omega)
 ·have e:(b8 p os vs).lp.m=p.rows.length+vs.length:=Ah kW
  rw[e]
  unfold iP
  have h9:2^(p.rows.length+vs.length)≤2^9:=Nat.pow_le_pow_right (by decide) (by omega)
  have h8:=Nat.mul_le_mul h9 (show 4*ar.dA (uI p os)+(p.rows.length+vs.length)+1≤4*(37*263)+9+1 by omega)
  have h7:2^9*(4*(37*263)+9+1)=19934208:=by decide
  omega
 ·have h9:(os.length+1)*19934208≤5*19934208:=Nat.mul_le_mul_right _ (by omega)
  omega
theorem NZ.sz{H:Heap}{v ov:Value}{p:Prg}{os:List (List Rat)}(h:NZ H v ov p os)(hf:Aj p os):uH p os 19934208 (2*ar.dA (p.rows.map (·.2.2))):=by
 have hn:=h.JZ.iG
 refine alw h.JZ.rows (fun r hr=> ?_) h.len (fun o ho=>by have:=hf.vec o ho;omega) (fun r hr=> ?_) (fun o ho q hq=>by have:=Uv (h.obj.two o ho q hq);omega)
 ·obtain⟨i,hi⟩:=List.getElem?_of_mem hr
  have:=(hf.ok.row i r hi).1;omega
 ·have h2:=h.JZ.prog.two r hr
  exact⟨fun q hq=>by have:=Uv (h2.1 q hq);omega,by have:=Uv h2.2;omega⟩
theorem abD{H:Heap}{v ov:Value}{p:Prg}{os:List (List Rat)}{N:Nat}(hp:ea N H v p)(ho:jw N H ov os)(cT:os.length≤9223372036854775807):
 Fn Tryz.prog 96 #[v,ov] H (fun v' H'=>H'=H∧∃b,v' = .bool b∧(b=true↔∀o,o∈os→o.length=p.free.length)):=by
 obtain⟨fv,fL,rfl,dO,eo⟩:=id hp
 obtain⟨Af,cf,xf,rfl,iv,gS⟩:=dO.one
 obtain⟨Ar,cr,xr,rfl,iM,eJ,gE⟩:=id eo
 obtain⟨Ao,co,xo,rfl,lk,kK,nU⟩:=id ho;refine aZ (args:=[_,_]) Tryz.func96 rfl rfl Tryz.ntmps96 rfl rfl fun w0=> ?_;refine aj [0,1] rfl ?_;refine ag (bW rfl rfl (ab 1 rfl (ae [1,2] ?_)));refine aq (ag (ab 3 rfl (ae [1,2,7,8] ?_)));refine aG (gK (fun(i:Nat)=>os.length-i) (fun(i:Nat)=>put (put (put (put (emp) 1 (.val (.slice Ao os.length co))) 2 (.box [.slice Af p.free.length cf,.slice Ar p.rows.length cr])) 7 (.val (.int .i64 (os.length:Int)))) 8 (.val (.int .i64 (i:Int)))) (fun(i:Nat) H'=>H'=H∧i≤os.length∧∀(j:Nat)(o:List Rat),j<i→os[j]? = some o→o.length=p.free.length) 0 (⟨rfl,Nat.zero_le _,fun j o h=>by omega⟩) au ?_);rintro i H1 ⟨e1,hi,hn⟩;rw[e1];refine ag (ab 1 rfl (ae [1,2,7,8,9] ?_));refine aq (aD rfl (fun hb=> ?_) (fun hb=> ?_))
 ·
  have aU:i<os.length:=by simpa using hb
  obtain⟨o,jx⟩:∃o,os[i]? = some o:=⟨_,List.getElem?_eq_getElem aU⟩;obtain⟨B,cb,kT,Az⟩:=Ak nU jx;refine aA (aj [1,2,7,8] rfl ?_);refine aq (aG (ag (ab 2 rfl (ae [1,2,5,7,8] ?_))));refine bP .bJ [0,1,2,3,4,5,6,7,8] follows (by kernel_rfl) ?_;refine ab 2 rfl (aS ah rfl rfl rfl rfl rfl (kK) (by rw[Int.toNat_natCast];exact kT) (by omega) (by omega) fun _=> ?_);refine ab 5 rfl (ae [1,2,7,8,19] ?_);refine aD rfl (fun hb=> ?_) (fun hb=> ?_)
  ·
   have h2:¬o.length=p.free.length:=by simpa [Int.natCast_inj]using hb
   refine ag (ab 1 rfl (ae [4] ?_));refine aE ⟨.inr rfl,_,.tmp rfl (.nil),?_⟩;exact⟨rfl,false,rfl,⟨(fun h=>by cases h),fun h=>absurd (h o (List.mem_of_getElem? jx)) h2⟩⟩
  ·
   have h2:o.length=p.free.length:=by simpa [Int.natCast_inj]using hb
   refine aA (aj [1,2,7,8] rfl ?_);refine aC rfl (aH rfl rfl ⟨by omega,by omega⟩ (ab 1 rfl (az ?_)));exact⟨i+1,by omega,au,rfl,by omega,fun j o9 hj C1=>by by_cases h9:j<i;exact hn j o9 h9 C1;(obtain rfl:j=i:=by omega);rw[jx]at C1;cases C1;exact h2⟩
 ·
  have hb:os.length≤i:=by simpa using hb
  refine aW (aj [] rfl ?_);refine ag (ab 1 rfl (ae [4] ?_));refine aE ⟨.inr rfl,_,.tmp rfl (.nil),?_⟩;exact⟨rfl,true,rfl,⟨fun _ o h=>by obtain⟨j,hj⟩:=List.getElem?_of_mem h;exact hn j o (by have:=(List.getElem?_eq_some_iff.1 hj).1;omega) hj,fun _=>rfl⟩⟩
theorem alx{H:Heap}{v ov:Value}{p:Prg}{os:List (List Rat)}{N:Nat}(hp:ea N H v p)(ho:jw N H ov os)(cT:os.length≤9223372036854775807):
 Fn Tryz.prog 31 #[v,ov] H (fun v' H'=>H'=H∧∃e,v' = .int .i64 e∧ym p os e):=by
 obtain⟨fv,fL,rfl,dO,eo⟩:=id hp
 obtain⟨Af,cf,xf,rfl,iv,gS⟩:=dO.one
 obtain⟨Ar,cr,xr,rfl,iM,eJ,gE⟩:=id eo
 obtain⟨Ao,co,xo,rfl,lk,kK,nU⟩:=id ho;refine aZ (args:=[_,_]) Tryz.func31 rfl rfl Tryz.ntmps31 rfl rfl fun w0=> ?_;refine aj [0,1] rfl ?_;refine ag (bW rfl rfl (ab 1 rfl (ae [1,2] ?_)));refine aq (ag (ab 1 rfl (aF rfl rfl (aaV hp) ?_)));rintro _ H1 ⟨e1,b1,rfl,fa⟩;rw[e1];refine ab 1 rfl (ae [1,2,7] ?_);refine aD rfl (fun hb=> ?_) (fun hb=> ?_)
 ·
  have pO:b1=false:=by simpa using hb
  subst pO;refine ag (ab 1 rfl (ae [4] ?_));refine aE ⟨.inr rfl,_,.tmp rfl (.nil),?_⟩;exact⟨rfl,1,rfl,.inl ⟨fun h=>(by have h9:=fa.2 h;cases h9),rfl⟩⟩
 ·
  have qd:b1=true:=by simpa using hb
  have bx:=fa.1 qd;have tZ:=bx.rows;refine aA (aj [1,2] rfl ?_);refine aq (ag (ab 2 rfl (aF rfl rfl (abD hp ho cT) ?_)));rintro _ H2 ⟨e2,b2,rfl,bU⟩;rw[e2];refine ab 1 rfl (ae [1,2,11] ?_);refine aD rfl (fun hb=> ?_) (fun hb=> ?_)
  ·
   have pO:b2=false:=by simpa using hb
   subst pO;refine ag (ab 1 rfl (ae [4] ?_));refine aE ⟨.inr rfl,_,.tmp rfl (.nil),?_⟩;exact⟨rfl,21,rfl,.inr (.inl ⟨bx,fun h=>(by have h9:=bU.2 h;cases h9),rfl⟩)⟩
  have yh:b2=true:=by simpa using hb
  have wa:=bU.1 yh;refine aA (aj [1,2] rfl ?_);refine aq ?_
  by_cases h4:40<os.length
  ·
   skip
   refine ag (ab 2 rfl (aJ true rfl rfl (mI (by omega)) (ab 9 rfl (ae [23] ?_))));refine dJ rfl (ag (ab 1 rfl (ae [4] ?_)));refine aE ⟨.inr rfl,_,.tmp rfl (.nil),?_⟩;exact⟨rfl,9,rfl,.inr (.inr (.inl ⟨bx,wa,.inl h4,rfl⟩))⟩
  skip
  refine ag (ab 2 rfl (aJ false rfl rfl (iW (by omega)) (ab 6 rfl (aH rfl rfl ⟨by omega,by omega⟩ (ab 2 rfl (ae [23] ?_))))));refine aD rfl (fun hb=> ?_) (fun hb=> ?_)
  ·
   have NU:(800:Int)<(p.rows.length:Int)+(os.length:Int):=by simpa using hb
   refine ag (ab 1 rfl (ae [4] ?_));refine aE ⟨.inr rfl,_,.tmp rfl (.nil),?_⟩;exact⟨rfl,9,rfl,.inr (.inr (.inl ⟨bx,wa,.inr (by omega),rfl⟩))⟩
  have NU:(p.rows.length:Int)+(os.length:Int)≤800:=by simpa using hb
  refine aA (aj [] rfl ?_);refine ag (ab 1 rfl (ae [4] ?_));refine aE ⟨.inr rfl,_,.tmp rfl (.nil),?_⟩;exact⟨rfl,0,rfl,.inr (.inr (.inr ⟨⟨bx,wa,by omega,by omega⟩,rfl⟩))⟩
theorem aly{H:Heap}{v ov:Value}{p:Prg}{os:List (List Rat)}{N:Nat}(hp:ea N H v p)(ho:jw N H ov os):
 Fn Tryz.prog 23 #[v,ov] H (fun v' H'=>H'=H∧∃b,v' = .bool b∧(b=true→NZ H v ov p os)):=by
 obtain⟨fv,fL,rfl,dO,eo⟩:=id hp
 obtain⟨Af,cf,xf,rfl,iv,gS⟩:=dO.one
 obtain⟨Ar,cr,xr,rfl,iM,eJ,gE⟩:=id eo
 obtain⟨Ao,co,xo,rfl,lk,kK,nU⟩:=id ho;refine aZ (args:=[_,_]) Tryz.func23 rfl rfl Tryz.ntmps23 rfl rfl fun w0=> ?_;refine aj [0,1] rfl ?_;refine ag (bW rfl rfl (ab 1 rfl (ae [1,2] ?_)));refine ag (ab 1 rfl (aF rfl rfl (aiM (n:=4) (m:=5) hp (by omega) (by omega)) ?_));rintro _ H2 ⟨e2,b2,rfl,bU⟩;rw[e2]
 cases b2
 ·
  skip
  refine ab 5 rfl (ae [4] ?_);refine aE ⟨.inr rfl,_,.tmp rfl (.nil),?_⟩;exact⟨rfl,false,rfl,fun h=>by cases h⟩
 ·
  skip
  refine ab 2 rfl (aF rfl rfl (aiL (m:=4) (n:=5) kK rfl (jw.alu nU) (by omega) (by omega)) ?_);rintro _ H3 ⟨e3,b3,rfl,ny⟩;rw[e3];refine ab 2 rfl (ae [4] ?_);refine aE ⟨.inr rfl,_,.tmp rfl (.nil),?_⟩;exact⟨rfl,b3,rfl,fun h=>⟨bU rfl,⟨Ao,co,xo,rfl,lk,kK,(ny h).1.ls⟩,(ny h).2.2,(ny h).2.1⟩⟩
theorem alr{H:Heap}{v ov:Value}{p:Prg}{os:List (List Rat)}{N:Nat}(hp:ea N H v p)(ho:jw N H ov os)(cT:os.length≤9223372036854775807):
 Fn Tryz.prog 16 #[v,ov] H (fun v' H'=>H'=H∧∃b,v' = .bool b∧(b=true→NZ H v ov p os∧Aj p os)):=by
 obtain⟨fv,fL,rfl,dO,eo⟩:=id hp
 obtain⟨Af,cf,xf,rfl,iv,gS⟩:=dO.one
 obtain⟨Ar,cr,xr,rfl,iM,eJ,gE⟩:=id eo
 obtain⟨Ao,co,xo,rfl,lk,kK,nU⟩:=id ho;refine aZ (args:=[_,_]) Tryz.func16 rfl rfl Tryz.ntmps16 rfl rfl fun w0=> ?_;refine aj [0,1] rfl ?_;refine ag (bW rfl rfl (ab 1 rfl (ae [1,2] ?_)));refine ag (ab 2 rfl (aF rfl rfl (aly hp ho) ?_));rintro _ H2 ⟨e2,b2,rfl,bU⟩;rw[e2]
 cases b2
 ·
  skip
  refine ab 7 rfl (ae [4] ?_);refine aE ⟨.inr rfl,_,.tmp rfl (.nil),?_⟩;exact⟨rfl,false,rfl,fun h=>by cases h⟩
 ·
  skip
  refine ab 3 rfl (aF rfl rfl (alx hp ho cT) ?_);rintro _ H3 ⟨e3,er,rfl,hE⟩;rw[e3];refine ab 3 rfl (ae [4] ?_);refine aE ⟨.inr rfl,_,.tmp rfl (.nil),?_⟩;exact⟨rfl,_,rfl,fun h=>⟨bU rfl,ym.abL (show ym p os 0 from(show er=0 by simpa using h)▸hE)⟩⟩
end Go.aw
