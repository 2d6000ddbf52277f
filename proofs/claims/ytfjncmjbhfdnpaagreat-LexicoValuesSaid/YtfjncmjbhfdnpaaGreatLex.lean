/- Several objectives, one after the other (plain): programs with fixed objectives, certificates, and what they tell. -/
import Derived.Test.YtfjncmjbhfdnpaaGreatA14
set_option linter.unusedVariables false
namespace Lp
def b8(p:Prg)(os:List (List Rat))(vs:List Rat):Prg:=⟨p.free,p.rows++(os.zip vs).map fun x=>(x.1,2,x.2)⟩
theorem Uh{α β:Type}{l:List α}{k:List β}{i:Nat}{a:α}{b:β}(h1:l[i]? = some a)(h2:k[i]? = some b):(l.zip k)[i]? = some (a,b):=by
 rw[List.getElem?_zip_eq_some];exact⟨h1,h2⟩
section
variable {p:Prg} {os:List (List Rat)} {vs:List Rat}
theorem Ah(h:vs.length≤os.length):(b8 p os vs).rows.length=p.rows.length+vs.length:=by
 show (p.rows++_).length=_
 rw[List.length_append,List.length_map,List.length_zip];omega
theorem ext_nil:b8 p os []=p:=by
 unfold b8
 rw[List.zip_nil_right,List.map_nil,List.append_nil]
theorem Ui{i:Nat}(h:i<p.rows.length):(b8 p os vs).rows[i]? = p.rows[i]? :=List.getElem?_append_left h
theorem JS{i:Nat}{o:List Rat}{v:Rat}(h1:os[i]? = some o)(h2:vs[i]? = some v):(b8 p os vs).rows[p.rows.length+i]? = some (o,2,v):=by
 show (p.rows++_)[_]? = _
 rw[List.getElem?_append_right (by omega),Nat.add_sub_cancel_left,List.getElem?_map,Uh h1 h2];rfl
theorem ext_mem{r:List Rat×Int×Rat}(h:r∈(b8 p os vs).rows):r∈p.rows∨∃o v,o∈os∧v∈vs∧r=(o,2,v):=by
 rcases List.mem_append.1 h with h | h
 ·exact .inl h
 ·obtain⟨⟨o,v⟩,h1,rfl⟩:=List.mem_map.1 h
  have:=List.of_mem_zip h1
  exact .inr ⟨o,v,this.1,this.2,rfl⟩
theorem abz(h:p.Ok)(hl:∀o,o∈os→o.length=p.free.length)(hr:p.rows.length+vs.length≤800):(b8 p os vs).Ok:=by
 refine⟨h.iG,?_,fun i r hi=> ?_⟩
 ·show (p.rows++_).length≤800
  rw[List.length_append,List.length_map,List.length_zip];omega
 ·rcases ext_mem (List.mem_of_getElem? hi)with h1 | ⟨o,v,h1,_,rfl⟩
  ·obtain⟨k,hk⟩:=List.getElem?_of_mem h1
   exact h.row k r hk
  ·exact⟨hl o h1,.inr (.inl rfl)⟩
theorem Ai{t:Rat}{x:Nat→Rat}(h:vs.length≤os.length):(b8 p os vs).lp.dY t x↔p.lp.dY t x∧∀(i:Nat)(o:List Rat)(v:Rat),os[i]? = some o→vs[i]? = some v→bN p.free.length (fn o) x=v*t:=by
 have e1:∀i,i<p.rows.length→(b8 p os vs).row i=p.row i:=fun i hi=>by
  show ((b8 p os vs).rows).getD i _=p.rows.getD i _
  rw[List.getD,List.getD,Ui hi]
 constructor
 ·intro hm
  refine⟨⟨hm.1,fun i hi=> ?_⟩,fun i o v h1 h2=> ?_⟩
  ·have hi:i<p.rows.length:=hi
   have h1:=hm.2 i (show i<(b8 p os vs).rows.length by rw[Ah h];omega)
   have e:=e1 i hi
   have a1:(b8 p os vs).lp.rel i=p.lp.rel i:=congrArg (fun r:List Rat×Int×Rat=>r.2.1) e
   have a2:(b8 p os vs).lp.a i=p.lp.a i:=congrArg (fun r:List Rat×Int×Rat=>fn r.1) e
   have a3:(b8 p os vs).lp.b i=p.lp.b i:=congrArg (fun r:List Rat×Int×Rat=>r.2.2) e
   rw[a1,a2,a3]at h1;exact h1
  ·have hi:=(List.getElem?_eq_some_iff.1 h2).1
   have h3:=hm.2 (p.rows.length+i) (show _<(b8 p os vs).rows.length by rw[Ah h];omega)
   have e:(b8 p os vs).row (p.rows.length+i)=(o,2,v):=Prg.mc (JS h1 h2)
   have a1:(b8 p os vs).lp.rel (p.rows.length+i)=2:=congrArg (fun r:List Rat×Int×Rat=>r.2.1) e
   have a2:(b8 p os vs).lp.a (p.rows.length+i)=fn o:=congrArg (fun r:List Rat×Int×Rat=>fn r.1) e
   have a3:(b8 p os vs).lp.b (p.rows.length+i)=v:=congrArg (fun r:List Rat×Int×Rat=>r.2.2) e
   rw[a1,a2,a3]at h3
   have h4:=h3.2.1 rfl
   have h5:bN (b8 p os vs).lp.n (fn o) x=bN p.free.length (fn o) x:=rfl
   rw[h5]at h4
   grind
 ·intro⟨hm,he⟩
  refine⟨hm.1,fun i hi=> ?_⟩
  have hi:i<(b8 p os vs).rows.length:=hi
  rw[Ah h]at hi
  by_cases bL:i<p.rows.length
  ·have h1:=hm.2 i bL
   have e:=e1 i bL
   have a1:(b8 p os vs).lp.rel i=p.lp.rel i:=congrArg (fun r:List Rat×Int×Rat=>r.2.1) e
   have a2:(b8 p os vs).lp.a i=p.lp.a i:=congrArg (fun r:List Rat×Int×Rat=>fn r.1) e
   have a3:(b8 p os vs).lp.b i=p.lp.b i:=congrArg (fun r:List Rat×Int×Rat=>r.2.2) e
   rw[a1,a2,a3];exact h1
  ·obtain⟨k,rfl⟩:∃k,i=p.rows.length+k:=⟨i-p.rows.length,by omega⟩
   have hk:k<vs.length:=by omega
   have h1:os[k]? = some (os[k]'(by omega)):=List.getElem?_eq_getElem (by omega)
   have h2:vs[k]? = some vs[k]:=List.getElem?_eq_getElem hk
   have e:(b8 p os vs).row (p.rows.length+k)=(os[k]'(by omega),2,vs[k]):=Prg.mc (JS h1 h2)
   have a1:(b8 p os vs).lp.rel (p.rows.length+k)=2:=congrArg (fun r:List Rat×Int×Rat=>r.2.1) e
   have a2:(b8 p os vs).lp.a (p.rows.length+k)=fn (os[k]'(by omega)):=congrArg (fun r:List Rat×Int×Rat=>fn r.1) e
   have a3:(b8 p os vs).lp.b (p.rows.length+k)=vs[k]:=congrArg (fun r:List Rat×Int×Rat=>r.2.2) e
   rw[a1,a2,a3]
   show Bu 2 _
   have h4:=he k _ _ h1 h2
   have h5:bN (b8 p os vs).lp.n (fn (os[k]'(by omega))) x=bN p.free.length (fn (os[k]'(by omega))) x:=rfl
   rw[h5,h4]
   exact⟨(fun e=>by cases e),(fun _=>by grind),(fun e=>by cases e)⟩
end
structure Fq where
 status:Int
 values:List Rat
 x:List Rat
 uC:List (List Rat)
 ray:List Rat
structure Aj(p:Prg)(os:List (List Rat)):Prop where
 ok:p.Ok
 vec:∀o,o∈os→o.length=p.free.length
 pQ:os.length≤40
 rows:p.rows.length+os.length≤800
def JT(p:Prg)(os:List (List Rat))(S:Fq):Prop:=S.uC.length=S.values.length∧S.values.length≤os.length∧
 ∀(i:Nat)(o:List Rat)(v:Rat)(d:List Rat),os[i]? = some o→S.values[i]? = some v→S.uC[i]? = some d→DX (b8 p os (S.values.take i)) o S.x d∧bN p.free.length (fn o) (fn S.x)=v
def JU(p:Prg)(os:List (List Rat))(S:Fq):Prop:=
 (S.status=1∧S.values.length=os.length∧S.ray = []∧GN p S.x∧JT p os S)∨
 (S.status=2∧S.values = []∧S.x = []∧S.ray = []∧∃d,S.uC = [d]∧Lq p d)∨
 (S.status=3∧S.values.length<os.length∧JT p os S∧∃o,os[S.values.length]? = some o∧Lr (b8 p os S.values) o S.x S.ray)
def uD(p:Prg)(os:List (List Rat))(vs:List Rat):Prop:=vs.length≤os.length∧∀(i:Nat)(o:List Rat)(v:Rat),os[i]? = some o→vs[i]? = some v→(b8 p os (vs.take i)).lp.vv (fn o) v
def CW(p:Prg)(os:List (List Rat))(st:Int)(vs:List Rat):Prop:=
 (st=1∧vs.length=os.length∧uD p os vs∧∃x,p.lp.dY 1 x)∨(st=2∧vs = []∧p.lp.wX)∨(st=3∧uD p os vs∧∃o,os[vs.length]? = some o∧(b8 p os vs).lp.zd (fn o))
section
variable {p:Prg} {os:List (List Rat)} {vs pR:List Rat}
theorem JT.pQ{S:Fq}(h:JT p os S):uD p os S.values:=by
 refine⟨h.2.1,fun i o v h1 h2=> ?_⟩
 have hi:=(List.getElem?_eq_some_iff.1 h2).1
 have h3:S.uC[i]? = some (S.uC[i]'(by rw[h.1];exact hi)):=List.getElem?_eq_getElem _
 obtain⟨h4,h5⟩:=h.2.2 i o v _ h1 h2 h3
 have h6:=h4.cert.Lm h4.dd.ok.valid
 have h7:bN (b8 p os (S.values.take i)).lp.n (fn o) (fn S.x)=v:=h5
 rwa [h7]at h6
theorem JU.GO{S:Fq}(h:JU p os S):CW p os S.status S.values:=by
 rcases h with ⟨h1,h2,_,h3,h4⟩ | ⟨h1,h2,_,_,d,_,h3⟩ | ⟨h1,h2,h3,o,h4,h5⟩
 ·exact .inl ⟨h1,h2,h4.pQ,_,h3.meets⟩
 ·exact .inr (.inl ⟨h1,h2,h3.cert.isInf h3.ok.valid⟩)
 ·exact .inr (.inr ⟨h1,h3.pQ,o,h4,h5.cert.PO⟩)
theorem Uj(h:uD p os vs)(h':uD p os pR):∀n,n≤vs.length→n≤pR.length→vs.take n=pR.take n:=by
 intro n
 induction n with
 | zero=>intro _ _;rfl
 | succ n ih=>
  intro h1 h2
  have e:=ih (by omega) (by omega)
  have g1:vs[n]? = some (vs[n]'(by omega)):=List.getElem?_eq_getElem (by omega)
  have g2:pR[n]? = some (pR[n]'(by omega)):=List.getElem?_eq_getElem (by omega)
  have g3:os[n]? = some (os[n]'(by have:=h.1;omega)):=List.getElem?_eq_getElem (by have:=h.1;omega)
  have k1:=h.2 n _ _ g3 g1
  have k2:=h'.2 n _ _ g3 g2
  rw[e]at k1
  have:=LP.afr k1 k2
  rw[List.take_add_one,List.take_add_one,e,g1,g2,this]
theorem NR(h:uD p os vs)(h':uD p os pR)(hl:pR.length<vs.length){o:List Rat}(ho:os[pR.length]? = some o)(hu:(b8 p os pR).lp.zd (fn o)):False:=by
 have e:=Uj h h' pR.length (by omega) (Nat.le_refl _)
 rw[List.take_length]at e
 have g1:vs[pR.length]? = some (vs[pR.length]'hl):=List.getElem?_eq_getElem hl
 have k1:=h.2 _ _ _ ho g1
 rw[e]at k1
 exact LP.afq k1 hu
theorem abA{st st':Int}(h:CW p os st vs)(h':CW p os st' pR):st=st'∧vs=pR:=by
 have dd:∀{ws:List Rat}{o:List Rat},ws.length≤os.length→(b8 p os ws).lp.zd (fn o)→∃x,p.lp.dY 1 x:=fun hw hu=>by
  obtain⟨⟨x,hx⟩,_⟩:=hu
  exact⟨x,((Ai hw).1 hx).1⟩
 rcases h with ⟨h1,h2,h3,x,hx⟩ | ⟨h1,h2,h3⟩ | ⟨h1,h3,o,h4,h5⟩
 ·rcases h' with ⟨k1,k2,k3,_⟩ | ⟨k1,k2,k3⟩ | ⟨k1,k3,o',k4,k5⟩
  ·refine⟨h1.trans k1.symm,?_⟩
   have:=Uj h3 k3 vs.length (Nat.le_refl _) (by omega)
   rw[List.take_length,h2,←k2,List.take_length]at this;exact this
  ·exact(k3 x hx).elim
  ·have:=(List.getElem?_eq_some_iff.1 k4).1
   exact(NR h3 k3 (by omega) k4 k5).elim
 ·rcases h' with ⟨k1,k2,k3,x,hx⟩ | ⟨k1,k2,k3⟩ | ⟨k1,k3,o',k4,k5⟩
  ·exact(h3 x hx).elim
  ·exact⟨h1.trans k1.symm,by rw[h2,k2]⟩
  ·obtain⟨x,hx⟩:=dd k3.1 k5
   exact(h3 x hx).elim
 ·rcases h' with ⟨k1,k2,k3,_⟩ | ⟨k1,k2,k3⟩ | ⟨k1,k3,o',k4,k5⟩
  ·have:=(List.getElem?_eq_some_iff.1 h4).1
   exact(NR k3 h3 (by omega) h4 h5).elim
  ·obtain⟨x,hx⟩:=dd h3.1 h5
   exact(k3 x hx).elim
  ·refine⟨h1.trans k1.symm,?_⟩
   rcases Nat.lt_trichotomy vs.length pR.length with hl | hl | hl
   ·exact(NR k3 h3 hl h4 h5).elim
   ·have:=Uj h3 k3 vs.length (Nat.le_refl _) (by omega)
    rw[List.take_length,hl,List.take_length]at this;exact this
   ·exact(NR h3 k3 hl k4 k5).elim
structure uE(p:Prg)(o:List Rat)(v:Rat)(d:List Rat):Prop where
 ok:p.Ok
 Ln:o.length=p.free.length
 Lo:d.length=p.rows.length
 signed:p.lp.Signed (fn d)
 iG:∀j,j<p.lp.n→0≤fn o j-p.lp.ka (fn d) j∧(p.lp.free j=true→fn o j-p.lp.ka (fn d) j≤0)
 eq:p.lp.vu (fn d)=v
theorem uE.of{q:Prg}{o x d:List Rat}(h:DX q o x d):uE q o (bN q.free.length (fn o) (fn x)) d:=⟨h.dd.ok,h.Ln,h.Lo,h.cert.signed,h.cert.iG,h.cert.eq⟩
theorem uE.chk{q:Prg}{o x d:List Rat}{v:Rat}(h:uE q o v d)(hx:GN q x)(e:bN q.free.length (fn o) (fn x)=v):DX q o x d:=⟨hx,h.Ln,h.Lo,⟨hx.meets,h.signed,h.iG,by rw[h.eq];exact e.symm⟩⟩
theorem abB{ds:List (List Rat)}{st:Int}{x ray:List Rat}(hd:ds.length=vs.length)(hl:vs.length≤os.length)(hc:∀(i:Nat)(o:List Rat)(v:Rat)(d:List Rat),os[i]? = some o→vs[i]? = some v→ds[i]? = some d→uE (b8 p os (vs.take i)) o v d)
  (hx:(b8 p os vs).lp.dY 1 (fn x)) (cP:x.length=p.free.length):JT p os ⟨st,vs,x,ds,ray⟩:=by
 refine⟨hd,hl,fun i o v d h1 h2 h3=> ?_⟩
 have hm:=(Ai hl).1 hx
 have hi:=(List.getElem?_eq_some_iff.1 h2).1
 have e:bN p.free.length (fn o) (fn x)=v:=by
  have:=hm.2 i o v h1 h2
  grind
 have iF:=hc i o v d h1 h2 h3
 refine⟨iF.chk ⟨iF.ok,cP,(Ai (by rw[List.length_take];omega)).2 ⟨hm.1,fun j o' v' k1 k2=> ?_⟩⟩ e,e⟩
 rw[List.getElem?_take]at k2
 split at k2
 ·exact hm.2 j o' v' k1 k2
 ·cases k2
theorem ak4{ds:List (List Rat)}{o:List Rat}{v:Rat}{d:List Rat}(hd:ds.length=vs.length)(ho:os[vs.length]? = some o)(hc:∀(i:Nat)(o:List Rat)(v:Rat)(d:List Rat),os[i]? = some o→vs[i]? = some v→ds[i]? = some d→uE (b8 p os (vs.take i)) o v d)(hn:uE (b8 p os vs) o v d):
  ∀(i:Nat)(o':List Rat)(v':Rat)(d':List Rat),os[i]? = some o'→(vs ++ [v])[i]? = some v'→(ds ++ [d])[i]? = some d'→uE (b8 p os ((vs ++ [v]).take i)) o' v' d':=by
 intro i o' v' d' h1 h2 h3
 by_cases hi:i<vs.length
 ·rw[List.getElem?_append_left hi]at h2
  rw[List.getElem?_append_left (by omega)]at h3
  rw[List.take_append_of_le_length (by omega)]
  exact hc i o' v' d' h1 h2 h3
 ·have hl:=(List.getElem?_eq_some_iff.1 h2).1
  rw[List.length_append,List.length_singleton]at hl
  obtain rfl:i=vs.length:=by omega
  rw[List.getElem?_append_right (Nat.le_refl _),Nat.sub_self]at h2
  rw[List.getElem?_append_right (by omega),hd,Nat.sub_self]at h3
  rw[ho]at h1
  cases h1;cases h2;cases h3
  rw[List.take_append_of_le_length (Nat.le_refl _),List.take_length]
  exact hn
theorem abC{o:List Rat}{v:Rat}{x:Nat→Rat}(hl:vs.length<os.length)(ho:os[vs.length]? = some o)(hx:(b8 p os vs).lp.dY 1 x)(e:bN p.free.length (fn o) x=v):(b8 p os (vs ++ [v])).lp.dY 1 x:=by
 have hm:=(Ai (by omega)).1 hx
 refine(Ai (by rw[List.length_append,List.length_singleton];omega)).2 ⟨hm.1,fun i o' v' h1 h2=> ?_⟩
 by_cases hi:i<vs.length
 ·rw[List.getElem?_append_left hi]at h2
  exact hm.2 i o' v' h1 h2
 ·have dC:=(List.getElem?_eq_some_iff.1 h2).1
  rw[List.length_append,List.length_singleton]at dC
  obtain rfl:i=vs.length:=by omega
  rw[List.getElem?_append_right (Nat.le_refl _),Nat.sub_self]at h2
  rw[ho]at h1
  cases h1;cases h2
  rw[e];grind
end
end Lp
