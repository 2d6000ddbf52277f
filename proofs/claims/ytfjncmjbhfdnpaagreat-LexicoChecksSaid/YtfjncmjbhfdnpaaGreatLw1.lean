/- Walks over packages amortcostref22 (vectors, LexicoError) and amortcostlaw23 (kept, solvable). -/
import Derived.Test.YtfjncmjbhfdnpaaGreatA10
import Derived.Test.YtfjncmjbhfdnpaaGreatLx3
import Derived.Test.YtfjncmjbhfdnpaaGreatVal2
set_option linter.unusedVariables false
namespace Go.ay
open Go.Proofs Num Lp
theorem gB.UF{N:Nat}{H:Heap}{xs:List Value}{ls:List (List Rat)}(h:bI (jC N H) 1 xs ls):FB N H xs ls:=by
 refine⟨by rw[h.len,Nat.mul_one],fun i v l hv hl=> ?_⟩
 obtain⟨A,c,h1,h2⟩:=nP h hl
 rw[h1]at hv
 cases hv;exact h2
theorem FB.ls{N:Nat}{H:Heap}{xs:List Value}{ls:List (List Rat)}(h:FB N H xs ls):bI (jC N H) 1 xs ls:=by
 refine⟨by rw[h.1,Nat.mul_one],fun i l hl=> ?_⟩
 have hi:=(List.getElem?_eq_some_iff.1 hl).1
 have hx:xs[i]? = some (xs[i]'(by rw[h.1];exact hi)):=List.getElem?_eq_getElem _
 have h2:=h.2 i _ l hx hl
 rw[K4 hx]
 obtain⟨A,c,_,e,_⟩:=id h2
 exact⟨A,c,by rw[e],by rw[←e];exact h2⟩
structure NW(H:Heap)(v ov:Value)(p:Prg)(os:List (List Rat)):Prop where
 qx:T6 H v p 4 5
 obj:gB 2 H ov os
 len:os.length≤4
 vec:∀o,o∈os→o.length≤5
theorem UG{k:Nat}:∀{l:List (List Rat×Int×Rat)},(∀r,r∈l→r.1.length≤k)→(l.flatMap (·.1)).length≤l.length*k
 | [],_=>Nat.zero_le _
 | r::l,h=>by
  have h1:=h r (List.mem_cons_self ..)
  have h2:=UG (l:=l) fun r hr=>h r (List.mem_cons_of_mem _ hr)
  simp only[List.flatMap_cons,List.length_append,List.length_cons,Nat.add_mul]at *;omega
theorem UH{k:Nat}:∀{l:List (List Rat)},(∀r,r∈l→r.length≤k)→l.flatten.length≤l.length*k
 | [],_=>Nat.zero_le _
 | r::l,h=>by
  have h1:=h r (List.mem_cons_self ..)
  have h2:=UH (l:=l) fun r hr=>h r (List.mem_cons_of_mem _ hr)
  simp only[List.flatten_cons,List.length_append,List.length_cons,Nat.add_mul]at *;omega
theorem UI{x:Nat}(h:x<2^63):x.log2≤62:=by
 by_cases h0:x=0
 ·subst h0;decide
 ·have:=(Nat.log2_lt h0).2 h;omega
theorem UJ{l:List Nat}(h:l.length≤2)(h1:∀x,x∈l→x<4294967296):val l<2^63:=by
 match l,h with
 | [],_=>decide
 | [a],_=>
  have:=h1 a (by simp)
  simp[val];omega
 | [a,b],_=>
  have:=h1 a (by simp)
  have:=h1 b (by simp)
  simp only[iF]
  rw[show val []=0 from rfl,show B=1000000000 from rfl];omega
theorem aeF{f:Bool}{n d k:Nat}(hk:0<k)(hn:n<k)(hd:d<k)(h1:1<k):(bS f n d).num.natAbs<k∧(bS f n d).den<k:=by
 by_cases h0:d=0
 ·subst h0;rw[Dk];exact⟨hk,h1⟩
 ·have hp:0<d:=by omega
  rw[ye hp,vN hp]
  exact⟨Nat.lt_of_le_of_lt (Nat.div_le_self _ _) hn,Nat.lt_of_le_of_lt (Nat.div_le_self _ _) hd⟩
theorem bN.two{H:Heap}{v:Value}{q:Rat}(h:bN H v q 2):q.num.natAbs<2^63∧q.den<2^63:=by
 obtain⟨f,u,w,l1,l2,_,_,_,h3,h4,h5,h6,rfl⟩:=h
 exact aeF (by decide) (UJ h5 h3) (UJ h6 h4) (by decide)
theorem NX{q:Rat}(h:q.num.natAbs<2^63∧q.den<2^63):ao.wt q≤126:=by
 have h1:=UI h.1
 have h2:=UI h.2
 unfold ao.wt;omega
theorem aC.two{H:Heap}{v:Value}{l:List Rat}(h:aC (aS 2) 3 H v l):∀q,q∈l→q.num.natAbs<2^63∧q.den<2^63:=fun q hq=>by
 obtain⟨A,cc,xs,_,_,_,h4⟩:=h
 obtain⟨k,hk⟩:=List.getElem?_of_mem hq
 exact bN.two (h4.at_ k q hk)
theorem cN.two{H:Heap}{v:Value}{p:Prg}(h:cN 2 H v p):∀r,r∈p.rows→(∀q,q∈r.1→q.num.natAbs<2^63∧q.den<2^63)∧(r.2.2.num.natAbs<2^63∧r.2.2.den<2^63):=fun r hr=>by
 obtain⟨fv,rv,_,_,h3⟩:=h
 obtain⟨A,c,xs,_,_,_,h4⟩:=h3
 obtain⟨i,hi⟩:=List.getElem?_of_mem hr
 obtain⟨c',f,u,w,_,k2,k3⟩:=h4.at_ i r hi
 exact⟨k2.two,bN.two k3⟩
theorem gB.two{H:Heap}{v:Value}{ls:List (List Rat)}(h:gB 2 H v ls):∀o,o∈ls→∀q,q∈o→q.num.natAbs<2^63∧q.den<2^63:=fun o ho=>by
 obtain⟨A,c,xs,_,_,_,h4⟩:=h
 obtain⟨i,hi⟩:=List.getElem?_of_mem ho
 obtain⟨A',c',_,k⟩:=nP h4 hi
 exact k.two
theorem aeG{p:Prg}{os:List (List Rat)}(hm:p.rows.length≤5)(hr:∀r,r∈p.rows→r.1.length≤4)(ho:os.length≤4)(hv:∀o,o∈os→o.length≤4)(h1:∀r,r∈p.rows→(∀q,q∈r.1→ao.wt q≤263)∧ao.wt r.2.2≤263)(h2:∀o,o∈os→∀q,q∈o→ao.wt q≤263):uQ p os 19934208 (2*ao.dt (p.rows.map (·.2.2))):=by
 have hc:ao.dt (rF p os)≤37*263:=by
  refine Nat.le_trans (NB (k:=263) fun q hq=> ?_) (Nat.mul_le_mul_right _ ?_)
  ·rcases List.mem_cons.1 hq with rfl | hq
   ·decide
   ·rcases List.mem_append.1 hq with hq | hq
    ·obtain⟨r,hr,hq⟩:=List.mem_flatMap.1 hq
     exact(h1 r hr).1 q hq
    ·obtain⟨o,ho,hq⟩:=List.mem_flatten.1 hq
     exact h2 o ho q hq
  ·have a1:=UG hr
   have a2:=UH hv
   have a3:p.rows.length*4≤5*4:=Nat.mul_le_mul_right _ hm
   have a4:os.length*4≤4*4:=Nat.mul_le_mul_right _ ho
   simp only[rF,List.length_cons,List.length_append];omega
 have hb:ao.dt (p.rows.map (·.2.2))≤5*263:=by
  refine Nat.le_trans (NB (k:=263) fun q hq=> ?_) (Nat.mul_le_mul_right _ (by rw[List.length_map];exact hm))
  obtain⟨r,hr,rfl⟩:=List.mem_map.1 hq
  exact(h1 r hr).2
 refine⟨⟨_,NY p⟩,fun vs kM=>⟨p.rows.length+vs.length,?_,?_⟩,?_⟩
 ·exact .inl (by have e:(cg p os vs).lp.m=p.rows.length+vs.length:=uO kM
                 omega)
 ·have e:(cg p os vs).lp.m=p.rows.length+vs.length:=uO kM
  rw[e]
  unfold gU
  have h9:2^(p.rows.length+vs.length)≤2^9:=Nat.pow_le_pow_right (by decide) (by omega)
  have h8:=Nat.mul_le_mul h9 (show 4*ao.dt (rF p os)+(p.rows.length+vs.length)+1≤4*(37*263)+9+1 by omega)
  have h7:2^9*(4*(37*263)+9+1)=19934208:=by decide
  omega
 ·have h9:(os.length+1)*19934208≤5*19934208:=Nat.mul_le_mul_right _ (by omega)
  omega
theorem NW.sz{H:Heap}{v ov:Value}{p:Prg}{os:List (List Rat)}(h:NW H v ov p os)(hf:te p os):uQ p os 19934208 (2*ao.dt (p.rows.map (·.2.2))):=by
 have hn:=h.qx.dR
 refine aeG h.qx.rows (fun r hr=> ?_) h.len (fun o ho=>by have:=hf.vec o ho;omega) (fun r hr=> ?_) (fun o ho q hq=>by have:=NX (h.obj.two o ho q hq);omega)
 ·obtain⟨i,hi⟩:=List.getElem?_of_mem hr
  have:=(hf.ok.row i r hi).1;omega
 ·have h2:=h.qx.prog.two r hr
  exact⟨fun q hq=>by have:=NX (h2.1 q hq);omega,by have:=NX h2.2;omega⟩
theorem UK{H:Heap}{v ov:Value}{p:Prg}{os:List (List Rat)}{N:Nat}(hp:cN N H v p)(ho:gB N H ov os)(cH:os.length≤9223372036854775807):
 Fn Tryz.prog 96 #[v,ov] H (fun v' H'=>H'=H∧∃b,v' = .bool b∧(b=true↔∀o,o∈os→o.length=p.free.length)):=by
 obtain⟨fv,fG,rfl,cB,cF⟩:=id hp
 obtain⟨Af,cf,xf,rfl,ea,eH⟩:=cB.one
 obtain⟨Ar,cr,xr,rfl,fO,cL,du⟩:=id cF
 obtain⟨Ao,co,xo,rfl,jl,fI,jQ⟩:=id ho;refine aU (args:=[_,_]) Tryz.func96 rfl rfl Tryz.ntmps96 rfl rfl fun w0=> ?_;refine ag [0,1] rfl ?_;refine ae ?_;refine bF rfl rfl ?_;refine vr 1 ?_;refine ab [1,2] ?_;refine al ?_;refine ae ?_;refine vr 3 ?_;refine ab [1,2,7,8] ?_;refine aD ?_;refine ft (fun(i:Nat)=>os.length-i) (fun(i:Nat)=>put (put (put (put (emp) 1 (.val (.slice Ao os.length co))) 2 (.box [.slice Af p.free.length cf,.slice Ar p.rows.length cr])) 7 (.val (.int .i64 (os.length:Int)))) 8 (.val (.int .i64 (i:Int)))) (fun(i:Nat) H'=>H'=H∧i≤os.length∧∀(j:Nat)(o:List Rat),j<i→os[j]? = some o→o.length=p.free.length) 0 (⟨rfl,Nat.zero_le _,fun j o h=>by omega⟩) au ?_;rintro i H1 ⟨e1,hi,hn⟩;rw[e1];refine ae ?_;refine vr 1 ?_;refine ab [1,2,7,8,9] ?_;refine al ?_;refine az rfl (fun hb=> ?_) (fun hb=> ?_)
 ·
  have cQ:i<os.length:=by simpa using hb
  obtain⟨o,eR⟩:∃o,os[i]? = some o:=⟨_,List.getElem?_eq_getElem cQ⟩;obtain⟨B,cb,gN,tm⟩:=nP jQ eR;refine aw ?_;refine ag [1,2,7,8] rfl ?_;refine al ?_;refine aD ?_;refine ae ?_;refine vr 2 ?_;refine ab [1,2,5,7,8] ?_;refine bL .bn [0,1,2,3,4,5,6,7,8] follows (by kernel_rfl) ?_;refine vr 2 ?_;refine a6 af rfl rfl rfl rfl rfl (fI) (by rw[Int.toNat_natCast];exact gN) (by omega) (by omega) fun _=> ?_;refine vr 5 ?_;refine ab [1,2,7,8,19] ?_;refine az rfl (fun hb=> ?_) (fun hb=> ?_)
  ·
   have h2:¬o.length=p.free.length:=by simpa [Int.natCast_inj]using hb
   refine ae ?_;refine vr 1 ?_;refine ab [4] ?_;refine aq ⟨.inr rfl,_,.tmp rfl (.nil),?_⟩;exact⟨rfl,false,rfl,⟨(fun h=>by cases h),fun h=>absurd (h o (List.mem_of_getElem? eR)) h2⟩⟩
  ·
   have h2:o.length=p.free.length:=by simpa [Int.natCast_inj]using hb
   refine aw ?_;refine ag [1,2,7,8] rfl ?_;refine aE rfl ?_;refine aN rfl rfl ⟨by omega,by omega⟩ ?_;refine vr 1 ?_;refine aA ?_;exact⟨i+1,by omega,au,rfl,by omega,fun j o9 hj zt=>by by_cases h9:j<i;exact hn j o9 h9 zt;(obtain rfl:j=i:=by omega);rw[eR]at zt;cases zt;exact h2⟩
 ·
  have hb:os.length≤i:=by simpa using hb
  refine bB ?_;refine ag [] rfl ?_;refine ae ?_;refine vr 1 ?_;refine ab [4] ?_;refine aq ⟨.inr rfl,_,.tmp rfl (.nil),?_⟩;exact⟨rfl,true,rfl,⟨fun _ o h=>by obtain⟨j,hj⟩:=List.getElem?_of_mem h;exact hn j o (by have:=(List.getElem?_eq_some_iff.1 hj).1;omega) hj,fun _=>rfl⟩⟩
theorem UL{H:Heap}{v ov:Value}{p:Prg}{os:List (List Rat)}{N:Nat}(hp:cN N H v p)(ho:gB N H ov os)(cH:os.length≤9223372036854775807):
 Fn Tryz.prog 31 #[v,ov] H (fun v' H'=>H'=H∧∃e,v' = .int .i64 e∧zu p os e):=by
 obtain⟨fv,fG,rfl,cB,cF⟩:=id hp
 obtain⟨Af,cf,xf,rfl,ea,eH⟩:=cB.one
 obtain⟨Ar,cr,xr,rfl,fO,cL,du⟩:=id cF
 obtain⟨Ao,co,xo,rfl,jl,fI,jQ⟩:=id ho;refine aU (args:=[_,_]) Tryz.func31 rfl rfl Tryz.ntmps31 rfl rfl fun w0=> ?_;refine ag [0,1] rfl ?_;refine ae ?_;refine bF rfl rfl ?_;refine vr 1 ?_;refine ab [1,2] ?_;refine al ?_;refine ae ?_;refine vr 1 ?_;refine ar rfl rfl (Jh hp) ?_;rintro _ H1 ⟨e1,b1,rfl,di⟩;rw[e1];refine vr 1 ?_;refine ab [1,2,7] ?_;refine az rfl (fun hb=> ?_) (fun hb=> ?_)
 ·
  have gV:b1=false:=by simpa using hb
  subst gV;refine ae ?_;refine vr 1 ?_;refine ab [4] ?_;refine aq ⟨.inr rfl,_,.tmp rfl (.nil),?_⟩;exact⟨rfl,1,rfl,.inl ⟨fun h=>(by have h9:=di.2 h;cases h9),rfl⟩⟩
 ·
  have jK:b1=true:=by simpa using hb
  have aP:=di.1 jK;have iQ:=aP.rows;refine aw ?_;refine ag [1,2] rfl ?_;refine al ?_;refine ae ?_;refine vr 2 ?_;refine ar rfl rfl (UK hp ho cH) ?_;rintro _ H2 ⟨e2,b2,rfl,aW⟩;rw[e2];refine vr 1 ?_;refine ab [1,2,11] ?_;refine az rfl (fun hb=> ?_) (fun hb=> ?_)
  ·
   have gV:b2=false:=by simpa using hb
   subst gV;refine ae ?_;refine vr 1 ?_;refine ab [4] ?_;refine aq ⟨.inr rfl,_,.tmp rfl (.nil),?_⟩;exact⟨rfl,21,rfl,.inr (.inl ⟨aP,fun h=>(by have h9:=aW.2 h;cases h9),rfl⟩)⟩
  ·
   have FP:b2=true:=by simpa using hb
   have rG:=aW.1 FP;refine aw ?_;refine ag [1,2] rfl ?_;refine al ?_
   by_cases h4:40<os.length
   ·
    skip
    refine ae ?_;refine vr 2 ?_;refine ax true rfl rfl (iG (by omega)) ?_;refine vr 9 ?_;refine ab [23] ?_;refine cD rfl ?_;refine ae ?_;refine vr 1 ?_;refine ab [4] ?_;refine aq ⟨.inr rfl,_,.tmp rfl (.nil),?_⟩;exact⟨rfl,9,rfl,.inr (.inr (.inl ⟨aP,rG,.inl h4,rfl⟩))⟩
   ·
    skip
    refine ae ?_;refine vr 2 ?_;refine ax false rfl rfl (fN (by omega)) ?_;refine vr 6 ?_;refine aN rfl rfl ⟨by omega,by omega⟩ ?_;refine vr 2 ?_;refine ab [23] ?_;refine az rfl (fun hb=> ?_) (fun hb=> ?_)
    ·
     have FQ:(800:Int)<(p.rows.length:Int)+(os.length:Int):=by simpa using hb
     refine ae ?_;refine vr 1 ?_;refine ab [4] ?_;refine aq ⟨.inr rfl,_,.tmp rfl (.nil),?_⟩;exact⟨rfl,9,rfl,.inr (.inr (.inl ⟨aP,rG,.inr (by omega),rfl⟩))⟩
    ·
     have FQ:(p.rows.length:Int)+(os.length:Int)≤800:=by simpa using hb
     refine aw ?_;refine ag [] rfl ?_;refine ae ?_;refine vr 1 ?_;refine ab [4] ?_;refine aq ⟨.inr rfl,_,.tmp rfl (.nil),?_⟩;exact⟨rfl,0,rfl,.inr (.inr (.inr ⟨⟨aP,rG,by omega,by omega⟩,rfl⟩))⟩
theorem aeH{H:Heap}{v ov:Value}{p:Prg}{os:List (List Rat)}{N:Nat}(hp:cN N H v p)(ho:gB N H ov os):
 Fn Tryz.prog 23 #[v,ov] H (fun v' H'=>H'=H∧∃b,v' = .bool b∧(b=true→NW H v ov p os)):=by
 obtain⟨fv,fG,rfl,cB,cF⟩:=id hp
 obtain⟨Af,cf,xf,rfl,ea,eH⟩:=cB.one
 obtain⟨Ar,cr,xr,rfl,fO,cL,du⟩:=id cF
 obtain⟨Ao,co,xo,rfl,jl,fI,jQ⟩:=id ho;refine aU (args:=[_,_]) Tryz.func23 rfl rfl Tryz.ntmps23 rfl rfl fun w0=> ?_;refine ag [0,1] rfl ?_;refine ae ?_;refine bF rfl rfl ?_;refine vr 1 ?_;refine ab [1,2] ?_;refine ae ?_;refine vr 1 ?_;refine ar rfl rfl (adZ (n:=4) (m:=5) hp (by omega) (by omega)) ?_;rintro _ H2 ⟨e2,b2,rfl,aW⟩;rw[e2]
 cases b2
 ·
  skip
  refine vr 5 ?_;refine ab [4] ?_;refine aq ⟨.inr rfl,_,.tmp rfl (.nil),?_⟩;exact⟨rfl,false,rfl,fun h=>by cases h⟩
 ·
  skip
  refine vr 2 ?_;refine ar rfl rfl (T7 (m:=4) (n:=5) fI rfl (gB.UF jQ) (by omega) (by omega)) ?_;rintro _ H3 ⟨e3,b3,rfl,iL⟩;rw[e3];refine vr 2 ?_;refine ab [4] ?_;refine aq ⟨.inr rfl,_,.tmp rfl (.nil),?_⟩;exact⟨rfl,b3,rfl,fun h=>⟨aW rfl,⟨Ao,co,xo,rfl,jl,fI,(iL h).1.ls⟩,(iL h).2.2,(iL h).2.1⟩⟩
end Go.ay
