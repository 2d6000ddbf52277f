/- SimplexValues: the law's walk. -/
import Derived.Test.YtfjncmjbhfdnpaaGreatA15
import Derived.Test.YtfjncmjbhfdnpaaGreatTgh
set_option linter.unusedVariables false
namespace Go.ar
open Go.Proofs Num Lp
theorem rS.Jw{p:Prg}{c:List Rat}{st:Int}{v:Rat}(h:rS p c st v):(st=1∧p.lp.qa (fn c) v)∨(st=2∧p.lp.p9∧v=0)∨(st=3∧p.lp.uc (fn c)∧v=0):=by
 rcases h with ⟨h1,h2,_⟩ | h | h
 ·exact .inl ⟨h1,h2⟩
 ·exact .inr (.inl h)
 ·exact .inr (.inr h)
theorem Bi.fit{N:Nat}{H:Heap}{v cv:Value}{p:Prg}{c:List Rat}(h:Bi N H v cv p c):Fits p c (ar.bits (nums p c) p.lp.m p.lp.m (2*ao.fL (nums p c))):=Pg (XU p c) (XV p c) fun i hi=>(Qj hi).2
theorem ajr{H:Heap}{v cv:Value}{p:Prg}{c:List Rat}{N:Nat}(hp:eJ N H v p)(hc:aR (ck N) 3 H cv c):
 Fn Tryz.prog 3 #[v,cv] H (fun v H'=>Heap.le H H'∧v = .bool true):=by
 obtain⟨fv,fN,rfl,eo,ep⟩:=id hp
 obtain⟨Af,cf,xf,rfl,gZ,hO⟩:=eo.one
 obtain⟨Ar,cr,xr,rfl,mW,eK,fO⟩:=id ep
 obtain⟨Ac,cc,xc,rfl,De,l0,FE⟩:=id hc;refine aZ (args:=[_,_]) Tryz.func3 rfl rfl Tryz.ntmps3 rfl rfl fun w0=> ?_;refine ag [0,1] rfl ?_;refine ab ?_;refine bS rfl rfl ?_;refine vr 1 ?_;refine aa [1,2] ?_;refine al ?_;refine ab ?_;refine aw rfl rfl (ajE) ?_;rintro _ H1 ⟨bH,rfl⟩;refine vr 1 ?_;refine aa [1,2,11] ?_;refine cU rfl ?_;refine au ?_;refine ag [1,2] rfl ?_;refine al ?_;refine ab ?_;refine vr 2 ?_;refine aw rfl rfl (ajx (hp.le bH) (hc.le (ik N) bH)) ?_;rintro _ H2 ⟨bh,b2,rfl,cS⟩;have DH:=bH.trans bh;refine vr 1 ?_;refine aa [1,2,15] ?_;refine aB rfl (fun hb=> ?_) (fun hb=> ?_)
 ·
  skip
  refine ab ?_;refine vr 1 ?_;refine aa [4] ?_;refine az ⟨.inr rfl,_,.tmp rfl (.nil),?_⟩;exact⟨DH,rfl⟩
 ·
  have hs:=cS (by simpa using hb);refine au ?_;refine ag [1,2] rfl ?_;refine ab ?_;refine vr 2 ?_;refine aw rfl rfl (ahf hs.LY hs.ok hs.len) ?_;rintro _ H3 ⟨dC,S,f3,B31,HW,e31,B32,m32,e32,B3x,k3x,e3x,B3d,k3d,e3d,B3r,k3r,e3r,rfl,ajX,ajY,alD,alE,alF⟩;refine vr 3 ?_;refine bt vp rfl ?_;obtain⟨ti,aj,ak⟩:=qQ;refine aJ (.inl ⟨rfl,rfl⟩) rfl rfl rfl aj ak rfl rfl rfl ?_;refine vr 1 ?_;refine aa [1,2,5,6] ?_;refine ab ?_;refine vr 2 ?_;refine aw rfl rfl (ajk hs.ok hs.len (hs.HV.prog.le dC) (hs.vec.le (ik 2) dC) (by decide) hs.LY.fit (by have:=hs.LY.bits;omega)) ?_;rintro _ H4 ⟨cE,st,t4,xv,q,rfl,yY,ct,Lw,_⟩;obtain⟨e1,e2⟩:=adW Iff.rfl (fun _ h=>h) id ajX.Jw yY.Jw;have uB:=hs.LY.bits;have h04:=DH.trans (dC.trans cE);subst e2;refine vr 4 ?_;refine bt cR rfl ?_;refine vr 1 ?_;obtain⟨ti,aj,ak⟩:=a8;refine aJ (.inl ⟨rfl,rfl⟩) rfl rfl rfl aj ak rfl rfl rfl ?_;refine vr 1 ?_;refine aa [5,6,7,8] ?_;refine ab ?_;refine vr 1 ?_;refine aA true rfl rfl (fk rfl) ?_;refine vr 4 ?_;refine aA true rfl rfl (fk e1) ?_;refine vr 5 ?_;refine aw rfl rfl ((OK (N:=MX) (ajY.le cE) ((bK.raw ct).mono (by show _≤100000000;omega)) (by decide)).mono fun v H' h=>(⟨h.1,by rw[h.2,XQ]⟩:Heap.le H4 H'∧v = .int .i64 0)) ?_
  rintro _ H5 ⟨dy,rfl⟩;refine aA true rfl rfl (fk rfl) ?_;refine vr 2 ?_;refine aa [4] ?_;refine az ⟨.inr rfl,_,.tmp rfl (.nil),?_⟩;exact⟨h04.trans dy,rfl⟩
end Go.ar
