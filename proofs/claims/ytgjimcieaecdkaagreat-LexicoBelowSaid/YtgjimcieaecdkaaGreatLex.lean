/- Several objectives, one after the other (plain): programs with fixed objectives, certificates, and what they tell. -/
import Derived.Test.YtgjimcieaecdkaaGreatA10
set_option linter.unusedVariables false
namespace Lp
def bK(p:Prg)(os:List (List Rat))(vs:List Rat):Prg:=⟨p.free,p.rows++(os.zip vs).map fun x=>(x.1,2,x.2)⟩
theorem Rq{α β:Type}{l:List α}{k:List β}{i:Nat}{a:α}{b:β}(h1:l[i]? = some a)(h2:k[i]? = some b):(l.zip k)[i]? = some (a,b):=by
 rw[List.getElem?_zip_eq_some];exact⟨h1,h2⟩
section
variable {p:Prg} {os:List (List Rat)} {vs:List Rat}
theorem yL(h:vs.length≤os.length):(bK p os vs).rows.length=p.rows.length+vs.length:=by
 show (p.rows++_).length=_
 rw[List.length_append,List.length_map,List.length_zip];omega
theorem ext_nil:bK p os []=p:=by
 unfold bK
 rw[List.zip_nil_right,List.map_nil,List.append_nil]
theorem KO{i:Nat}(h:i<p.rows.length):(bK p os vs).rows[i]? = p.rows[i]? :=List.getElem?_append_left h
theorem Cm{i:Nat}{o:List Rat}{v:Rat}(h1:os[i]? = some o)(h2:vs[i]? = some v):(bK p os vs).rows[p.rows.length+i]? = some (o,2,v):=by
 show (p.rows++_)[_]? = _
 rw[List.getElem?_append_right (by omega),Nat.add_sub_cancel_left,List.getElem?_map,Rq h1 h2];rfl
theorem ext_mem{r:List Rat×Int×Rat}(h:r∈(bK p os vs).rows):r∈p.rows∨∃o v,o∈os∧v∈vs∧r=(o,2,v):=by
 rcases List.mem_append.1 h with h | h
 ·exact .inl h
 ·obtain⟨⟨o,v⟩,h1,rfl⟩:=List.mem_map.1 h
  have:=List.of_mem_zip h1
  exact .inr ⟨o,v,this.1,this.2,rfl⟩
theorem abr(h:p.Ok)(hl:∀o,o∈os→o.length=p.free.length)(hr:p.rows.length+vs.length≤800):(bK p os vs).Ok:=by
 refine⟨h.gu,?_,fun i r hi=> ?_⟩
 ·show (p.rows++_).length≤800
  rw[List.length_append,List.length_map,List.length_zip];omega
 ·rcases ext_mem (List.mem_of_getElem? hi)with h1 | ⟨o,v,h1,_,rfl⟩
  ·obtain⟨k,hk⟩:=List.getElem?_of_mem h1
   exact h.row k r hk
  ·exact⟨hl o h1,.inr (.inl rfl)⟩
theorem vY{t:Rat}{x:Nat→Rat}(h:vs.length≤os.length):(bK p os vs).lp.cO t x↔p.lp.cO t x∧∀(i:Nat)(o:List Rat)(v:Rat),os[i]? = some o→vs[i]? = some v→a5 p.free.length (fn o) x=v*t:=by
 have e1:∀i,i<p.rows.length→(bK p os vs).row i=p.row i:=fun i hi=>by
  show ((bK p os vs).rows).getD i _=p.rows.getD i _
  rw[List.getD,List.getD,KO hi]
 constructor
 ·intro hm
  refine⟨⟨hm.1,fun i hi=> ?_⟩,fun i o v h1 h2=> ?_⟩
  ·have hi:i<p.rows.length:=hi
   have h1:=hm.2 i (show i<(bK p os vs).rows.length by rw[yL h];omega)
   have e:=e1 i hi
   have a1:(bK p os vs).lp.rel i=p.lp.rel i:=congrArg (fun r:List Rat×Int×Rat=>r.2.1) e
   have a2:(bK p os vs).lp.a i=p.lp.a i:=congrArg (fun r:List Rat×Int×Rat=>fn r.1) e
   have a3:(bK p os vs).lp.b i=p.lp.b i:=congrArg (fun r:List Rat×Int×Rat=>r.2.2) e
   rw[a1,a2,a3]at h1;exact h1
  ·have hi:=(List.getElem?_eq_some_iff.1 h2).1
   have h3:=hm.2 (p.rows.length+i) (show _<(bK p os vs).rows.length by rw[yL h];omega)
   have e:(bK p os vs).row (p.rows.length+i)=(o,2,v):=Prg.jF (Cm h1 h2)
   have a1:(bK p os vs).lp.rel (p.rows.length+i)=2:=congrArg (fun r:List Rat×Int×Rat=>r.2.1) e
   have a2:(bK p os vs).lp.a (p.rows.length+i)=fn o:=congrArg (fun r:List Rat×Int×Rat=>fn r.1) e
   have a3:(bK p os vs).lp.b (p.rows.length+i)=v:=congrArg (fun r:List Rat×Int×Rat=>r.2.2) e
   rw[a1,a2,a3]at h3
   have h4:=h3.2.1 rfl
   have h5:a5 (bK p os vs).lp.n (fn o) x=a5 p.free.length (fn o) x:=rfl
   rw[h5]at h4
   grind
 ·intro⟨hm,he⟩
  refine⟨hm.1,fun i hi=> ?_⟩
  have hi:i<(bK p os vs).rows.length:=hi
  rw[yL h]at hi
  by_cases a7:i<p.rows.length
  ·have h1:=hm.2 i a7
   have e:=e1 i a7
   have a1:(bK p os vs).lp.rel i=p.lp.rel i:=congrArg (fun r:List Rat×Int×Rat=>r.2.1) e
   have a2:(bK p os vs).lp.a i=p.lp.a i:=congrArg (fun r:List Rat×Int×Rat=>fn r.1) e
   have a3:(bK p os vs).lp.b i=p.lp.b i:=congrArg (fun r:List Rat×Int×Rat=>r.2.2) e
   rw[a1,a2,a3];exact h1
  ·obtain⟨k,rfl⟩:∃k,i=p.rows.length+k:=⟨i-p.rows.length,by omega⟩
   have hk:k<vs.length:=by omega
   have h1:os[k]? = some (os[k]'(by omega)):=List.getElem?_eq_getElem (by omega)
   have h2:vs[k]? = some vs[k]:=List.getElem?_eq_getElem hk
   have e:(bK p os vs).row (p.rows.length+k)=(os[k]'(by omega),2,vs[k]):=Prg.jF (Cm h1 h2)
   have a1:(bK p os vs).lp.rel (p.rows.length+k)=2:=congrArg (fun r:List Rat×Int×Rat=>r.2.1) e
   have a2:(bK p os vs).lp.a (p.rows.length+k)=fn (os[k]'(by omega)):=congrArg (fun r:List Rat×Int×Rat=>fn r.1) e
   have a3:(bK p os vs).lp.b (p.rows.length+k)=vs[k]:=congrArg (fun r:List Rat×Int×Rat=>r.2.2) e
   rw[a1,a2,a3]
   show j4 2 _
   have h4:=he k _ _ h1 h2
   have h5:a5 (bK p os vs).lp.n (fn (os[k]'(by omega))) x=a5 p.free.length (fn (os[k]'(by omega))) x:=rfl
   rw[h5,h4]
   exact⟨(fun e=>by cases e),(fun _=>by grind),(fun e=>by cases e)⟩
end
structure Cn where
 status:Int
 values:List Rat
 x:List Rat
 tH:List (List Rat)
 ray:List Rat
structure FX(p:Prg)(os:List (List Rat)):Prop where
 ok:p.Ok
 vec:∀o,o∈os→o.length=p.free.length
 yM:os.length≤40
 rows:p.rows.length+os.length≤800
def Co(p:Prg)(os:List (List Rat))(S:Cn):Prop:=S.tH.length=S.values.length∧S.values.length≤os.length∧
 ∀(i:Nat)(o:List Rat)(v:Rat)(d:List Rat),os[i]? = some o→S.values[i]? = some v→S.tH[i]? = some d→xC (bK p os (S.values.take i)) o S.x d∧a5 p.free.length (fn o) (fn S.x)=v
def FY(p:Prg)(os:List (List Rat))(S:Cn):Prop:=
 (S.status=1∧S.values.length=os.length∧S.ray = []∧vf p S.x∧Co p os S)∨
 (S.status=2∧S.values = []∧S.x = []∧S.ray = []∧∃d,S.tH = [d]∧Eh p d)∨
 (S.status=3∧S.values.length<os.length∧Co p os S∧∃o,os[S.values.length]? = some o∧Ei (bK p os S.values) o S.x S.ray)
def vZ(p:Prg)(os:List (List Rat))(vs:List Rat):Prop:=vs.length≤os.length∧∀(i:Nat)(o:List Rat)(v:Rat),os[i]? = some o→vs[i]? = some v→(bK p os (vs.take i)).lp.vd (fn o) v
def FZ(p:Prg)(os:List (List Rat))(st:Int)(vs:List Rat):Prop:=
 (st=1∧vs.length=os.length∧vZ p os vs∧∃x,p.lp.cO 1 x)∨(st=2∧vs = []∧p.lp.zZ)∨(st=3∧vZ p os vs∧∃o,os[vs.length]? = some o∧(bK p os vs).lp.xB (fn o))
section
variable {p:Prg} {os:List (List Rat)} {vs lD:List Rat}
theorem Co.yM{S:Cn}(h:Co p os S):vZ p os S.values:=by
 refine⟨h.2.1,fun i o v h1 h2=> ?_⟩
 have hi:=(List.getElem?_eq_some_iff.1 h2).1
 have h3:S.tH[i]? = some (S.tH[i]'(by rw[h.1];exact hi)):=List.getElem?_eq_getElem _
 obtain⟨h4,h5⟩:=h.2.2 i o v _ h1 h2 h3
 have h6:=h4.cert.Im h4.cT.ok.valid
 have h7:a5 (bK p os (S.values.take i)).lp.n (fn o) (fn S.x)=v:=h5
 rwa [h7]at h6
theorem FY.Ej{S:Cn}(h:FY p os S):FZ p os S.status S.values:=by
 rcases h with ⟨h1,h2,_,h3,h4⟩ | ⟨h1,h2,_,_,d,_,h3⟩ | ⟨h1,h2,h3,o,h4,h5⟩
 ·exact .inl ⟨h1,h2,h4.yM,_,h3.meets⟩
 ·exact .inr (.inl ⟨h1,h2,h3.cert.isInf h3.ok.valid⟩)
 ·exact .inr (.inr ⟨h1,h3.yM,o,h4,h5.cert.Nz⟩)
theorem KP(h:vZ p os vs)(h':vZ p os lD):∀n,n≤vs.length→n≤lD.length→vs.take n=lD.take n:=by
 intro n
 induction n with
 | zero=>intro _ _;rfl
 | succ n ih=>
  intro h1 h2
  have e:=ih (by omega) (by omega)
  have g1:vs[n]? = some (vs[n]'(by omega)):=List.getElem?_eq_getElem (by omega)
  have g2:lD[n]? = some (lD[n]'(by omega)):=List.getElem?_eq_getElem (by omega)
  have g3:os[n]? = some (os[n]'(by have:=h.1;omega)):=List.getElem?_eq_getElem (by have:=h.1;omega)
  have k1:=h.2 n _ _ g3 g1
  have k2:=h'.2 n _ _ g3 g2
  rw[e]at k1
  have:=LP.Wu k1 k2
  rw[List.take_add_one,List.take_add_one,e,g1,g2,this]
theorem F3(h:vZ p os vs)(h':vZ p os lD)(hl:lD.length<vs.length){o:List Rat}(ho:os[lD.length]? = some o)(hu:(bK p os lD).lp.xB (fn o)):False:=by
 have e:=KP h h' lD.length (by omega) (Nat.le_refl _)
 rw[List.take_length]at e
 have g1:vs[lD.length]? = some (vs[lD.length]'hl):=List.getElem?_eq_getElem hl
 have k1:=h.2 _ _ _ ho g1
 rw[e]at k1
 exact LP.Wt k1 hu
theorem abt{st Rr:Int}(h:FZ p os st vs)(h':FZ p os Rr lD):st=Rr∧vs=lD:=by
 have cT:∀{ws:List Rat}{o:List Rat},ws.length≤os.length→(bK p os ws).lp.xB (fn o)→∃x,p.lp.cO 1 x:=fun hw hu=>by
  obtain⟨⟨x,hx⟩,_⟩:=hu
  exact⟨x,((vY hw).1 hx).1⟩
 rcases h with ⟨h1,h2,h3,x,hx⟩ | ⟨h1,h2,h3⟩ | ⟨h1,h3,o,h4,h5⟩
 ·rcases h' with ⟨k1,k2,k3,_⟩ | ⟨k1,k2,k3⟩ | ⟨k1,k3,o',k4,k5⟩
  ·refine⟨h1.trans k1.symm,?_⟩
   have:=KP h3 k3 vs.length (Nat.le_refl _) (by omega)
   rw[List.take_length,h2,←k2,List.take_length]at this;exact this
  ·exact(k3 x hx).elim
  ·have:=(List.getElem?_eq_some_iff.1 k4).1
   exact(F3 h3 k3 (by omega) k4 k5).elim
 ·rcases h' with ⟨k1,k2,k3,x,hx⟩ | ⟨k1,k2,k3⟩ | ⟨k1,k3,o',k4,k5⟩
  ·exact(h3 x hx).elim
  ·exact⟨h1.trans k1.symm,by rw[h2,k2]⟩
  ·obtain⟨x,hx⟩:=cT k3.1 k5
   exact(h3 x hx).elim
 ·rcases h' with ⟨k1,k2,k3,_⟩ | ⟨k1,k2,k3⟩ | ⟨k1,k3,o',k4,k5⟩
  ·have:=(List.getElem?_eq_some_iff.1 h4).1
   exact(F3 k3 h3 (by omega) h4 h5).elim
  ·obtain⟨x,hx⟩:=cT h3.1 h5
   exact(k3 x hx).elim
  ·refine⟨h1.trans k1.symm,?_⟩
   rcases Nat.lt_trichotomy vs.length lD.length with hl | hl | hl
   ·exact(F3 k3 h3 hl h4 h5).elim
   ·have:=KP h3 k3 vs.length (Nat.le_refl _) (by omega)
    rw[List.take_length,hl,List.take_length]at this;exact this
   ·exact(F3 h3 k3 hl k4 k5).elim
structure pc(p:Prg)(o:List Rat)(v:Rat)(d:List Rat):Prop where
 ok:p.Ok
 Ef:o.length=p.free.length
 Eg:d.length=p.rows.length
 signed:p.lp.Signed (fn d)
 gu:∀j,j<p.lp.n→0≤fn o j-p.lp.gq (fn d) j∧(p.lp.free j=true→fn o j-p.lp.gq (fn d) j≤0)
 eq:p.lp.p7 (fn d)=v
theorem pc.of{q:Prg}{o x d:List Rat}(h:xC q o x d):pc q o (a5 q.free.length (fn o) (fn x)) d:=⟨h.cT.ok,h.Ef,h.Eg,h.cert.signed,h.cert.gu,h.cert.eq⟩
theorem pc.chk{q:Prg}{o x d:List Rat}{v:Rat}(h:pc q o v d)(hx:vf q x)(e:a5 q.free.length (fn o) (fn x)=v):xC q o x d:=⟨hx,h.Ef,h.Eg,⟨hx.meets,h.signed,h.gu,by rw[h.eq];exact e.symm⟩⟩
theorem Rs{ds:List (List Rat)}{st:Int}{x ray:List Rat}(hd:ds.length=vs.length)(hl:vs.length≤os.length)(hc:∀(i:Nat)(o:List Rat)(v:Rat)(d:List Rat),os[i]? = some o→vs[i]? = some v→ds[i]? = some d→pc (bK p os (vs.take i)) o v d)
  (hx:(bK p os vs).lp.cO 1 (fn x)) (cj:x.length=p.free.length):Co p os ⟨st,vs,x,ds,ray⟩:=by
 refine⟨hd,hl,fun i o v d h1 h2 h3=> ?_⟩
 have hm:=(vY hl).1 hx
 have hi:=(List.getElem?_eq_some_iff.1 h2).1
 have e:a5 p.free.length (fn o) (fn x)=v:=by
  have:=hm.2 i o v h1 h2
  grind
 have iJ:=hc i o v d h1 h2 h3
 refine⟨iJ.chk ⟨iJ.ok,cj,(vY (by rw[List.length_take];omega)).2 ⟨hm.1,fun j o' v' k1 k2=> ?_⟩⟩ e,e⟩
 rw[List.getElem?_take]at k2
 split at k2
 ·exact hm.2 j o' v' k1 k2
 ·cases k2
theorem abu{ds:List (List Rat)}{o:List Rat}{v:Rat}{d:List Rat}(hd:ds.length=vs.length)(ho:os[vs.length]? = some o)(hc:∀(i:Nat)(o:List Rat)(v:Rat)(d:List Rat),os[i]? = some o→vs[i]? = some v→ds[i]? = some d→pc (bK p os (vs.take i)) o v d)(hn:pc (bK p os vs) o v d):
  ∀(i:Nat)(o':List Rat)(v':Rat)(d':List Rat),os[i]? = some o'→(vs ++ [v])[i]? = some v'→(ds ++ [d])[i]? = some d'→pc (bK p os ((vs ++ [v]).take i)) o' v' d':=by
 intro i o' v' d' h1 h2 h3
 by_cases hi:i<vs.length
 ·rw[List.getElem?_append_left hi]at h2
  rw[List.getElem?_append_left (by omega)]at h3
  rw[List.take_append_of_le_length (by omega)]
  exact hc i o' v' d' h1 h2 h3
 ·have hl:=(List.getElem?_eq_some_iff.1 h2).1
  rw[List.length_append,List.length_singleton]at hl
  obtain rfl:i=vs.length:=by omega
  rw[List.getElem?_append_right (Nat.le_refl _),Nat.sub_self]at h2
  rw[List.getElem?_append_right (by omega),hd,Nat.sub_self]at h3
  rw[ho]at h1
  cases h1;cases h2;cases h3
  rw[List.take_append_of_le_length (Nat.le_refl _),List.take_length]
  exact hn
theorem abv{o:List Rat}{v:Rat}{x:Nat→Rat}(hl:vs.length<os.length)(ho:os[vs.length]? = some o)(hx:(bK p os vs).lp.cO 1 x)(e:a5 p.free.length (fn o) x=v):(bK p os (vs ++ [v])).lp.cO 1 x:=by
 have hm:=(vY (by omega)).1 hx
 refine(vY (by rw[List.length_append,List.length_singleton];omega)).2 ⟨hm.1,fun i o' v' h1 h2=> ?_⟩
 by_cases hi:i<vs.length
 ·rw[List.getElem?_append_left hi]at h2
  exact hm.2 i o' v' h1 h2
 ·have ct:=(List.getElem?_eq_some_iff.1 h2).1
  rw[List.length_append,List.length_singleton]at ct
  obtain rfl:i=vs.length:=by omega
  rw[List.getElem?_append_right (Nat.le_refl _),Nat.sub_self]at h2
  rw[ho]at h1
  cases h1;cases h2
  rw[e];grind
end
end Lp
