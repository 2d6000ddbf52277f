/- LexicoLeast: the law's walk. -/
import Derived.Test.YtfjncmjbhfdnpaaGreatA14
import Derived.Test.YtfjncmjbhfdnpaaGreatLe
set_option linter.unusedVariables false
namespace Go.au
open Go.Proofs Num Lp
theorem Ut.usz{H:Heap}{v ov:Value}{p:Prg}{os:List (List Rat)}(h:Ut H v ov p os)(a8:p.Ok):vS p (eG p.free.length) 19934208 (2*aq.cT (p.rows.map (·.2.2))):=by
 have hn:=h.zZ.iu
 refine alj h.zZ.rows (fun r hr=> ?_) (by rw[CP];exact hn) (fun o ho=>by obtain⟨i,_,rfl⟩:=Uj ho;rw[Fc];exact hn) (fun r hr=> ?_) (fun o ho q hq=> ?_)
 ·obtain⟨i,hi⟩:=List.getElem?_of_mem hr
  have:=(a8.row i r hi).1;omega
 ·have h2:=h.zZ.prog.two r hr
  exact⟨fun q hq=>by have:=NX (h2.1 q hq);omega,by have:=NX h2.2;omega⟩
 ·obtain⟨i,_,rfl⟩:=Uj ho
  obtain⟨j,_,rfl⟩:=List.mem_map.1 hq
  by_cases e:j=i
  ·rw[if_pos e];decide
  ·rw[if_neg e];decide
theorem alk{p:Prg}{H3 H4:Heap}{A3 A4:Option Addr}{k3 c3 k4 c4:Nat}{e3 e4:Int}(hl:Heap.le H3 H4)
  (h3:(¬p.Ok∧e3=1∧A3=none∧k3=0∧c3=0)∨(p.Ok∧(∃j:Nat,p.free[j]? = some true)∧e3=7∧A3=none∧k3=0∧c3=0)∨(p.Ok∧(¬∃j:Nat,p.free[j]? = some true)∧p.lp.rQ∧e3=17∧A3=none∧k3=0∧c3=0)∨(p.Ok∧(¬∃j:Nat,p.free[j]? = some true)∧e3=0∧∃y,qg p y∧aR (bN KX) 3 H3 (.slice A3 k3 c3) y))
  (h4:(¬p.Ok∧e4=1∧A4=none∧k4=0∧c4=0)∨(p.Ok∧(∃j:Nat,p.free[j]? = some true)∧e4=7∧A4=none∧k4=0∧c4=0)∨(p.Ok∧(¬∃j:Nat,p.free[j]? = some true)∧p.lp.rQ∧e4=17∧A4=none∧k4=0∧c4=0)∨(p.Ok∧(¬∃j:Nat,p.free[j]? = some true)∧e4=0∧∃y,qg p y∧aR (bN KX) 3 H4 (.slice A4 k4 c4) y)):
  e3=e4∧∃y,aR (bN KX) 3 H4 (.slice A3 k3 c3) y∧aR (bN KX) 3 H4 (.slice A4 k4 c4) y∧y.length≤p.free.length:=by
 rcases h3 with ⟨a1,a2,rfl,rfl,rfl⟩ | ⟨a1,a2,a3,rfl,rfl,rfl⟩ | ⟨a1,a2,a3,a4,rfl,rfl,rfl⟩ | ⟨a1,a2,a3,y,a4,a5⟩
 ·rcases h4 with ⟨b1,b2,rfl,rfl,rfl⟩ | ⟨b1,_⟩ | ⟨b1,_⟩ | ⟨b1,_⟩
  ·exact⟨a2.trans b2.symm,[],ki,ki,Nat.zero_le _⟩
  ·exact absurd b1 a1
  ·exact absurd b1 a1
  ·exact absurd b1 a1
 ·rcases h4 with ⟨b1,_⟩ | ⟨b1,b2,b3,rfl,rfl,rfl⟩ | ⟨_,b1,_⟩ | ⟨_,b1,_⟩
  ·exact absurd a1 b1
  ·exact⟨a3.trans b3.symm,[],ki,ki,Nat.zero_le _⟩
  ·exact absurd a2 b1
  ·exact absurd a2 b1
 ·rcases h4 with ⟨b1,_⟩ | ⟨_,b1,_⟩ | ⟨_,_,_,b4,rfl,rfl,rfl⟩ | ⟨_,_,_,y,b1,_⟩
  ·exact absurd a1 b1
  ·exact absurd b1 a2
  ·exact⟨a4.trans b4.symm,[],ki,ki,Nat.zero_le _⟩
  ·exact(a3 _ b1.meets).elim
 ·rcases h4 with ⟨b1,_⟩ | ⟨_,b1,_⟩ | ⟨_,_,b1,_⟩ | ⟨_,_,b3,z,b4,b5⟩
  ·exact absurd a1 b1
  ·exact absurd b1 a2
  ·exact(b1 _ a4.meets).elim
  ·obtain rfl:=abI a4 b4 rfl a4.meets b4.meets
   exact⟨a3.trans b3.symm,y,a5.le (dI KX) hl,b5,Nat.le_of_eq a4.len⟩
theorem ak4{H:Heap}{v:Value}{p:Prg}{N:Nat}(hp:eH N H v p):
 Fn Tryz.prog 6 #[v] H (fun v H'=>Heap.le H H'∧v = .bool true):=by
 obtain⟨fv,gB,rfl,eI,fk⟩:=id hp
 obtain⟨Af,cf,xf,rfl,jk,jl⟩:=eI.one
 obtain⟨Ar,cr,xr,rfl,jL,fy,iE⟩:=id fk;refine a7 (args:=[_]) Tryz.func6 rfl rfl Tryz.ntmps6 rfl rfl fun w0=> ?_;refine aj [0] rfl ?_;refine ag (bX rfl rfl (ab 1 rfl (ae [1] ?_)));refine ao (ag (aE rfl rfl (alm) ?_));rintro _ H1 ⟨cH,rfl⟩;refine ab 1 rfl (ae [1,8] ?_);refine dU rfl (aA (aj [1] rfl ?_));refine ao (ag (ab 1 rfl (aE rfl rfl (aln (os:=[]) (hp.le cH) ki) ?_)));rintro _ H2 ⟨e2,b2,rfl,cD⟩;rw[e2];refine ab 1 rfl (ae [1,11] ?_);refine aC rfl (fun hb=> ?_) (fun hb=> ?_)
 ·
  skip
  refine ag (ab 1 rfl (ae [2] ?_));refine aD ⟨.inr rfl,_,.tmp rfl (.nil),?_⟩;exact⟨cH,rfl⟩
 ·
  have hk:=cD (by simpa using hb);have jf:=hk.zZ.iu;have NV:=hk.zZ.rows;refine aA (aj [1] rfl ?_);refine ag (ab 1 rfl (aE rfl rfl (abJ (N:=2) (l:=rh p) hk.zZ.prog (by decide) (fun a8=>hk.zZ.prog.lsz a8 jf NV)) ?_));rintro _ H3 ⟨gO,A3,k3,c3,e3,rfl,hL3⟩;refine ab 5 rfl (ae [1,3,4] ?_);refine ag (ab 1 rfl (aE rfl rfl (ala (N:=2) (hk.zZ.prog.le gO) (by decide) (by omega) (fun a8=>hk.usz a8)) ?_));rintro _ H4 ⟨dW,A4,k4,c4,e4,rfl,hL4⟩;obtain⟨rfl,y,BK,BR,kD⟩:=alk dW hL3 hL4;have h04:=cH.trans (gO.trans dW);refine ab 5 rfl (ae [3,4,5,6] ?_);refine ag (ab 2 rfl (aI true rfl rfl (jY rfl) (ab 3 rfl (aE rfl rfl (Uu (N:=KX) BK BR (by omega) (by decide)) ?_))));rintro _ H5 ⟨fI,rfl⟩;refine ab 2 rfl (ae [2] ?_);refine aD ⟨.inr rfl,_,.tmp rfl (.nil),?_⟩;exact⟨h04.trans fI,rfl⟩
end Go.au
