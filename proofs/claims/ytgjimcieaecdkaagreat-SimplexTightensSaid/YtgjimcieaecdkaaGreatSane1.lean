/- The program that law22's sane solves. -/
import Derived.Test.YtgjimcieaecdkaaGreatA10
import Derived.Test.YtgjimcieaecdkaaGreatLaw1
set_option linter.unusedVariables false
namespace Go.au
open Go.Proofs Num Lp
def sp:Prg:=⟨[false,false],[([1,2],3,4),([3,1],3,6)]⟩
theorem O8:sp.Ok:=by
 refine⟨by decide,by decide,fun i r h=> ?_⟩
 match i,h with
 | 0,h=>cases h;exact⟨rfl,.inr (.inr rfl)⟩
 | 1,h=>cases h;exact⟨rfl,.inr (.inr rfl)⟩
 | i+2,h=>simp[sp]at h
theorem Zh(y0 y1:Rat):sp.lp.dP (fn [y0,y1]) 0=y0+3*y1∧sp.lp.dP (fn [y0,y1]) 1=2*y0+y1∧sp.lp.kJ (fn [y0,y1])=4*y0+6*y1:=by
 refine⟨?_,?_,?_⟩
 ·show 0+y0*1+y1*3=_;grind
 ·show 0+y0*2+y1*1=_;grind
 ·show 0+y0*4+y1*6=_;grind
theorem IJ:sp.lp.qg (fn [1,1]) (14/5):=by
 obtain⟨a0,a1,a2⟩:=Zh (2/5) (1/5)
 have e:bL sp.lp.n (fn [1,1]) (fn [8/5,6/5])=14/5:=by show 0+1*(8/5:Rat)+1*(6/5)=_;grind
 have h:sp.lp.qf (fn [1,1]) (fn [8/5,6/5]) (fn [2/5,1/5]):=by
  refine⟨⟨fun j hj _=> ?_,fun i hi=> ?_⟩,fun i hi=> ?_,fun j hj=> ?_,?_⟩
  ·match j,hj with
   | 0,_=>show (0:Rat)≤8/5;grind
   | 1,_=>show (0:Rat)≤6/5;grind
  ·match i,hi with
   | 0,_=>exact⟨(fun e=>by cases e),(fun e=>by cases e),(fun _=>by show (0:Rat)≤0+1*(8/5)+2*(6/5)-4*1;grind)⟩
   | 1,_=>exact⟨(fun e=>by cases e),(fun e=>by cases e),(fun _=>by show (0:Rat)≤0+3*(8/5)+1*(6/5)-6*1;grind)⟩
  ·match i,hi with
   | 0,_=>exact⟨(fun _=>by show (0:Rat)≤2/5;grind),(fun e=>by cases e)⟩
   | 1,_=>exact⟨(fun _=>by show (0:Rat)≤1/5;grind),(fun e=>by cases e)⟩
  ·match j,hj with
   | 0,_=>exact⟨(by rw[a0];show (0:Rat)≤1-_;grind),(fun e=>by cases e)⟩
   | 1,_=>exact⟨(by rw[a1];show (0:Rat)≤1-_;grind),(fun e=>by cases e)⟩
  ·rw[a2,e];grind
 have h2:=h.K5 O8.valid
 rwa [e]at h2
def sl:List Rat:=[1,2,4,3,1,6,1,1]
theorem Zi:In sl sp:=fun i hi j hj=>by
 match i,hi,j,hj with
 | 0,_,0,_=>show (1:Rat)∈sl;simp[sl]
 | 0,_,1,_=>show (2:Rat)∈sl;simp[sl]
 | 1,_,0,_=>show (3:Rat)∈sl;simp[sl]
 | 1,_,1,_=>show (1:Rat)∈sl;simp[sl]
theorem Zj:∀i,i<sp.lp.m→sp.lp.b i∈sl:=fun i hi=>by
 match i,hi with
 | 0,_=>show (4:Rat)∈sl;simp[sl]
 | 1,_=>show (6:Rat)∈sl;simp[sl]
theorem Zk:∀j,j<sp.lp.n→fn [1,1] j∈sl:=fun j hj=>by
 match j,hj with
 | 0,_=>show (1:Rat)∈sl;simp[sl]
 | 1,_=>show (1:Rat)∈sl;simp[sl]
theorem O9:bits sl sp.lp.m sp.lp.m (2*al.dZ sl)≤100000:=by decide
theorem Zl:Fits sp [1,1] (bits sl sp.lp.m sp.lp.m (2*al.dZ sl)):=NC Zi Zk Zj
end Go.au
