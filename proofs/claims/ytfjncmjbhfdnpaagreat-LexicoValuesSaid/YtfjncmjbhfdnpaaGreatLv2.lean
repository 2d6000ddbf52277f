/- LexicoValues: the law's walk. -/
import Derived.Test.YtfjncmjbhfdnpaaGreatA14
import Derived.Test.YtfjncmjbhfdnpaaGreatLv
set_option linter.unusedVariables false
namespace Go.aw
open Go.Proofs Num Lp
theorem alp{p:Prg}{os:List (List Rat)}{st:Int}{vs:List Rat}(h:CW p os st vs):vs.length≤os.length:=by
 rcases h with ⟨_,h,_⟩ | ⟨_,h,_⟩ | ⟨_,h,_⟩
 ·omega
 ·subst h;exact Nat.zero_le _
 ·exact h.1
theorem ak3{H:Heap}{v ov:Value}{p:Prg}{os:List (List Rat)}{N:Nat}(hp:ea N H v p)(ho:jw N H ov os)(cT:os.length≤9223372036854775807):
 Fn Tryz.prog 4 #[v,ov] H (fun v H'=>Heap.le H H'∧v = .bool true):=by
 obtain⟨fv,fL,rfl,dO,eo⟩:=id hp
 obtain⟨Af,cf,xf,rfl,iv,gS⟩:=dO.one
 obtain⟨Ar,cr,xr,rfl,iM,eJ,gE⟩:=id eo
 obtain⟨Ao,co,xo,rfl,lk,kK,nU⟩:=id ho;refine aZ (args:=[_,_]) Tryz.func4 rfl rfl Tryz.ntmps4 rfl rfl fun w0=> ?_;refine aj [0,1] rfl ?_;refine ag (bW rfl rfl (ab 1 rfl (ae [1,2] ?_)));refine aq (ag (aF rfl rfl (alq) ?_));rintro _ H1 ⟨cH,rfl⟩;refine ab 1 rfl (ae [1,2,10] ?_);refine dR rfl (aA (aj [1,2] rfl ?_));refine aq (ag (ab 2 rfl (aF rfl rfl (alr (hp.le cH) (ho.le (nV N) cH) cT) ?_)));rintro _ H2 ⟨e2,b2,rfl,bU⟩;rw[e2];refine ab 1 rfl (ae [1,2,14] ?_);refine aD rfl (fun hb=> ?_) (fun hb=> ?_)
 ·
  skip
  refine ag (ab 1 rfl (ae [4] ?_));refine aE ⟨.inr rfl,_,.tmp rfl (.nil),?_⟩;exact⟨cH,rfl⟩
 ·
  obtain⟨hk,hf⟩:=bU (by simpa using hb);have abG:=hf.pQ;refine aA (aj [1,2] rfl ?_);refine ag (ab 2 rfl (aF rfl rfl (als (N:=2) hk.JZ.prog hk.obj (by decide) hf (hk.sz hf)) ?_));rintro _ H3 ⟨gN,S,A1,c1,A2,c2,A3,c3,A4,c4,rfl,kS,nx,_⟩;refine ab 3 rfl (bn uW rfl ?_);obtain⟨ti,ak,al⟩:=nX;refine aI (.inl ⟨rfl,rfl⟩) rfl rfl rfl ak al rfl rfl rfl (ab 1 rfl (ae [1,2,5,6] ?_));refine ag (ab 2 rfl (aF rfl rfl (alm (N:=2) (hk.JZ.prog.le gN) (hk.obj.le (nV 2) gN) (by decide) hf (hk.sz hf)) ?_));rintro _ H4 ⟨dV,st,A5,k5,c5,vs,rfl,NY,kW⟩;obtain⟨e1,e3⟩:=abA kS.GO NY;subst e3;have ig:=alp NY;have h04:=cH.trans (gN.trans dV);refine ab 5 rfl (ae [5,6,7,8] ?_);refine ag (ab 1 rfl (aJ true rfl rfl (jR rfl) (ab 4 rfl (aJ true rfl rfl (jR e1) (ab 5 rfl (aF rfl rfl (Uu (N:=KX) (nx.le (dz KX) dV) kW (by omega) (by decide)) ?_))))));rintro _ H5 ⟨gq,rfl⟩;refine ab 2 rfl (ae [4] ?_);refine aE ⟨.inr rfl,_,.tmp rfl (.nil),?_⟩;exact⟨h04.trans gq,rfl⟩
end Go.aw
