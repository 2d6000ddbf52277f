/- Several objectives, one after the other (plain): programs with fixed objectives, certificates, and what they tell. -/
import Derived.Test.YtfjncmjbhfdnpaaGreatA14
set_option linter.unusedVariables false
namespace Lp
def bP(p:Prg)(os:List (List Rat))(vs:List Rat):Prg:=⟨p.free,p.rows++(os.zip vs).map fun x=>(x.1,2,x.2)⟩
theorem abK{α β:Type}{l:List α}{k:List β}{i:Nat}{a:α}{b:β}(h1:l[i]? = some a)(h2:k[i]? = some b):(l.zip k)[i]? = some (a,b):=by
 rw[List.getElem?_zip_eq_some];exact⟨h1,h2⟩
section
variable {p:Prg} {os:List (List Rat)} {vs:List Rat}
theorem sU(h:vs.length≤os.length):(bP p os vs).rows.length=p.rows.length+vs.length:=by
 show (p.rows++_).length=_
 rw[List.length_append,List.length_map,List.length_zip];omega
theorem ext_nil:bP p os []=p:=by
 unfold bP
 rw[List.zip_nil_right,List.map_nil,List.append_nil]
theorem Uv{i:Nat}(h:i<p.rows.length):(bP p os vs).rows[i]? = p.rows[i]? :=List.getElem?_append_left h
theorem JL{i:Nat}{o:List Rat}{v:Rat}(h1:os[i]? = some o)(h2:vs[i]? = some v):(bP p os vs).rows[p.rows.length+i]? = some (o,2,v):=by
 show (p.rows++_)[_]? = _
 rw[List.getElem?_append_right (by omega),Nat.add_sub_cancel_left,List.getElem?_map,abK h1 h2];rfl
theorem ext_mem{r:List Rat×Int×Rat}(h:r∈(bP p os vs).rows):r∈p.rows∨∃o v,o∈os∧v∈vs∧r=(o,2,v):=by
 rcases List.mem_append.1 h with h | h
 ·exact .inl h
 ·obtain⟨⟨o,v⟩,h1,rfl⟩:=List.mem_map.1 h
  have:=List.of_mem_zip h1
  exact .inr ⟨o,v,this.1,this.2,rfl⟩
theorem abE(h:p.Ok)(hl:∀o,o∈os→o.length=p.free.length)(hr:p.rows.length+vs.length≤800):(bP p os vs).Ok:=by
 refine⟨h.iu,?_,fun i r hi=> ?_⟩
 ·show (p.rows++_).length≤800
  rw[List.length_append,List.length_map,List.length_zip];omega
 ·rcases ext_mem (List.mem_of_getElem? hi)with h1 | ⟨o,v,h1,_,rfl⟩
  ·obtain⟨k,hk⟩:=List.getElem?_of_mem h1
   exact h.row k r hk
  ·exact⟨hl o h1,.inr (.inl rfl)⟩
theorem yf{t:Rat}{x:Nat→Rat}(h:vs.length≤os.length):(bP p os vs).lp.dH t x↔p.lp.dH t x∧∀(i:Nat)(o:List Rat)(v:Rat),os[i]? = some o→vs[i]? = some v→bK p.free.length (fn o) x=v*t:=by
 have e1:∀i,i<p.rows.length→(bP p os vs).row i=p.row i:=fun i hi=>by
  show ((bP p os vs).rows).getD i _=p.rows.getD i _
  rw[List.getD,List.getD,Uv hi]
 constructor
 ·intro hm
  refine⟨⟨hm.1,fun i hi=> ?_⟩,fun i o v h1 h2=> ?_⟩
  ·have hi:i<p.rows.length:=hi
   have h1:=hm.2 i (show i<(bP p os vs).rows.length by rw[sU h];omega)
   have e:=e1 i hi
   have a1:(bP p os vs).lp.rel i=p.lp.rel i:=congrArg (fun r:List Rat×Int×Rat=>r.2.1) e
   have a2:(bP p os vs).lp.a i=p.lp.a i:=congrArg (fun r:List Rat×Int×Rat=>fn r.1) e
   have a3:(bP p os vs).lp.b i=p.lp.b i:=congrArg (fun r:List Rat×Int×Rat=>r.2.2) e
   rw[a1,a2,a3]at h1;exact h1
  ·have hi:=(List.getElem?_eq_some_iff.1 h2).1
   have h3:=hm.2 (p.rows.length+i) (show _<(bP p os vs).rows.length by rw[sU h];omega)
   have e:(bP p os vs).row (p.rows.length+i)=(o,2,v):=Prg.ly (JL h1 h2)
   have a1:(bP p os vs).lp.rel (p.rows.length+i)=2:=congrArg (fun r:List Rat×Int×Rat=>r.2.1) e
   have a2:(bP p os vs).lp.a (p.rows.length+i)=fn o:=congrArg (fun r:List Rat×Int×Rat=>fn r.1) e
   have a3:(bP p os vs).lp.b (p.rows.length+i)=v:=congrArg (fun r:List Rat×Int×Rat=>r.2.2) e
   rw[a1,a2,a3]at h3
   have h4:=h3.2.1 rfl
   have h5:bK (bP p os vs).lp.n (fn o) x=bK p.free.length (fn o) x:=rfl
   rw[h5]at h4
   grind
 ·intro⟨hm,he⟩
  refine⟨hm.1,fun i hi=> ?_⟩
  have hi:i<(bP p os vs).rows.length:=hi
  rw[sU h]at hi
  by_cases bI:i<p.rows.length
  ·have h1:=hm.2 i bI
   have e:=e1 i bI
   have a1:(bP p os vs).lp.rel i=p.lp.rel i:=congrArg (fun r:List Rat×Int×Rat=>r.2.1) e
   have a2:(bP p os vs).lp.a i=p.lp.a i:=congrArg (fun r:List Rat×Int×Rat=>fn r.1) e
   have a3:(bP p os vs).lp.b i=p.lp.b i:=congrArg (fun r:List Rat×Int×Rat=>r.2.2) e
   rw[a1,a2,a3];exact h1
  ·obtain⟨k,rfl⟩:∃k,i=p.rows.length+k:=⟨i-p.rows.length,by omega⟩
   have hk:k<vs.length:=by omega
   have h1:os[k]? = some (os[k]'(by omega)):=List.getElem?_eq_getElem (by omega)
   have h2:vs[k]? = some vs[k]:=List.getElem?_eq_getElem hk
   have e:(bP p os vs).row (p.rows.length+k)=(os[k]'(by omega),2,vs[k]):=Prg.ly (JL h1 h2)
   have a1:(bP p os vs).lp.rel (p.rows.length+k)=2:=congrArg (fun r:List Rat×Int×Rat=>r.2.1) e
   have a2:(bP p os vs).lp.a (p.rows.length+k)=fn (os[k]'(by omega)):=congrArg (fun r:List Rat×Int×Rat=>fn r.1) e
   have a3:(bP p os vs).lp.b (p.rows.length+k)=vs[k]:=congrArg (fun r:List Rat×Int×Rat=>r.2.2) e
   rw[a1,a2,a3]
   show Bj 2 _
   have h4:=he k _ _ h1 h2
   have h5:bK (bP p os vs).lp.n (fn (os[k]'(by omega))) x=bK p.free.length (fn (os[k]'(by omega))) x:=rfl
   rw[h5,h4]
   exact⟨(fun e=>by cases e),(fun _=>by grind),(fun e=>by cases e)⟩
end
structure JM where
 status:Int
 values:List Rat
 x:List Rat
 z6:List (List Rat)
 ray:List Rat
structure NY(p:Prg)(os:List (List Rat)):Prop where
 ok:p.Ok
 vec:∀o,o∈os→o.length=p.free.length
 uk:os.length≤40
 rows:p.rows.length+os.length≤800
def JN(p:Prg)(os:List (List Rat))(S:JM):Prop:=S.z6.length=S.values.length∧S.values.length≤os.length∧
 ∀(i:Nat)(o:List Rat)(v:Rat)(d:List Rat),os[i]? = some o→S.values[i]? = some v→S.z6[i]? = some d→DO (bP p os (S.values.take i)) o S.x d∧bK p.free.length (fn o) (fn S.x)=v
def NZ(p:Prg)(os:List (List Rat))(S:JM):Prop:=
 (S.status=1∧S.values.length=os.length∧S.ray = []∧Gy p S.x∧JN p os S)∨
 (S.status=2∧S.values = []∧S.x = []∧S.ray = []∧∃d,S.z6 = [d]∧Li p d)∨
 (S.status=3∧S.values.length<os.length∧JN p os S∧∃o,os[S.values.length]? = some o∧Lj (bP p os S.values) o S.x S.ray)
def sT(p:Prg)(os:List (List Rat))(vs:List Rat):Prop:=vs.length≤os.length∧∀(i:Nat)(o:List Rat)(v:Rat),os[i]? = some o→vs[i]? = some v→(bP p os (vs.take i)).lp.vi (fn o) v
def N2(p:Prg)(os:List (List Rat))(st:Int)(vs:List Rat):Prop:=
 (st=1∧vs.length=os.length∧sT p os vs∧∃x,p.lp.dH 1 x)∨(st=2∧vs = []∧p.lp.rQ)∨(st=3∧sT p os vs∧∃o,os[vs.length]? = some o∧(bP p os vs).lp.wW (fn o))
section
variable {p:Prg} {os:List (List Rat)} {vs pC:List Rat}
theorem JN.uk{S:JM}(h:JN p os S):sT p os S.values:=by
 refine⟨h.2.1,fun i o v h1 h2=> ?_⟩
 have hi:=(List.getElem?_eq_some_iff.1 h2).1
 have h3:S.z6[i]? = some (S.z6[i]'(by rw[h.1];exact hi)):=List.getElem?_eq_getElem _
 obtain⟨h4,h5⟩:=h.2.2 i o v _ h1 h2 h3
 have h6:=h4.cert.Lf h4.cZ.ok.valid
 have h7:bK (bP p os (S.values.take i)).lp.n (fn o) (fn S.x)=v:=h5
 rwa [h7]at h6
theorem NZ.Lk{S:JM}(h:NZ p os S):N2 p os S.status S.values:=by
 rcases h with ⟨h1,h2,_,h3,h4⟩ | ⟨h1,h2,_,_,d,_,h3⟩ | ⟨h1,h2,h3,o,h4,h5⟩
 ·exact .inl ⟨h1,h2,h4.uk,_,h3.meets⟩
 ·exact .inr (.inl ⟨h1,h2,h3.cert.isInf h3.ok.valid⟩)
 ·exact .inr (.inr ⟨h1,h3.uk,o,h4,h5.cert.PT⟩)
theorem Uw(h:sT p os vs)(h':sT p os pC):∀n,n≤vs.length→n≤pC.length→vs.take n=pC.take n:=by
 intro n
 induction n with
 | zero=>intro _ _;rfl
 | succ n ih=>
  intro h1 h2
  have e:=ih (by omega) (by omega)
  have g1:vs[n]? = some (vs[n]'(by omega)):=List.getElem?_eq_getElem (by omega)
  have g2:pC[n]? = some (pC[n]'(by omega)):=List.getElem?_eq_getElem (by omega)
  have g3:os[n]? = some (os[n]'(by have:=h.1;omega)):=List.getElem?_eq_getElem (by have:=h.1;omega)
  have k1:=h.2 n _ _ g3 g1
  have k2:=h'.2 n _ _ g3 g2
  rw[e]at k1
  have:=LP.afq k1 k2
  rw[List.take_add_one,List.take_add_one,e,g1,g2,this]
theorem N4(h:sT p os vs)(h':sT p os pC)(hl:pC.length<vs.length){o:List Rat}(ho:os[pC.length]? = some o)(hu:(bP p os pC).lp.wW (fn o)):False:=by
 have e:=Uw h h' pC.length (by omega) (Nat.le_refl _)
 rw[List.take_length]at e
 have g1:vs[pC.length]? = some (vs[pC.length]'hl):=List.getElem?_eq_getElem hl
 have k1:=h.2 _ _ _ ho g1
 rw[e]at k1
 exact LP.afp k1 hu
theorem alo{st st':Int}(h:N2 p os st vs)(h':N2 p os st' pC):st=st'∧vs=pC:=by
 have cZ:∀{ws:List Rat}{o:List Rat},ws.length≤os.length→(bP p os ws).lp.wW (fn o)→∃x,p.lp.dH 1 x:=fun hw hu=>by
  obtain⟨⟨x,hx⟩,_⟩:=hu
  exact⟨x,((yf hw).1 hx).1⟩
 rcases h with ⟨h1,h2,h3,x,hx⟩ | ⟨h1,h2,h3⟩ | ⟨h1,h3,o,h4,h5⟩
 ·rcases h' with ⟨k1,k2,k3,_⟩ | ⟨k1,k2,k3⟩ | ⟨k1,k3,o',k4,k5⟩
  ·refine⟨h1.trans k1.symm,?_⟩
   have:=Uw h3 k3 vs.length (Nat.le_refl _) (by omega)
   rw[List.take_length,h2,←k2,List.take_length]at this;exact this
  ·exact(k3 x hx).elim
  ·have:=(List.getElem?_eq_some_iff.1 k4).1
   exact(N4 h3 k3 (by omega) k4 k5).elim
 ·rcases h' with ⟨k1,k2,k3,x,hx⟩ | ⟨k1,k2,k3⟩ | ⟨k1,k3,o',k4,k5⟩
  ·exact(h3 x hx).elim
  ·exact⟨h1.trans k1.symm,by rw[h2,k2]⟩
  ·obtain⟨x,hx⟩:=cZ k3.1 k5
   exact(h3 x hx).elim
 ·rcases h' with ⟨k1,k2,k3,_⟩ | ⟨k1,k2,k3⟩ | ⟨k1,k3,o',k4,k5⟩
  ·have:=(List.getElem?_eq_some_iff.1 h4).1
   exact(N4 k3 h3 (by omega) h4 h5).elim
  ·obtain⟨x,hx⟩:=cZ h3.1 h5
   exact(k3 x hx).elim
  ·refine⟨h1.trans k1.symm,?_⟩
   rcases Nat.lt_trichotomy vs.length pC.length with hl | hl | hl
   ·exact(N4 k3 h3 hl h4 h5).elim
   ·have:=Uw h3 k3 vs.length (Nat.le_refl _) (by omega)
    rw[List.take_length,hl,List.take_length]at this;exact this
   ·exact(N4 h3 k3 hl k4 k5).elim
structure ur(p:Prg)(o:List Rat)(v:Rat)(d:List Rat):Prop where
 ok:p.Ok
 Lg:o.length=p.free.length
 Lh:d.length=p.rows.length
 signed:p.lp.Signed (fn d)
 iu:∀j,j<p.lp.n→0≤fn o j-p.lp.j6 (fn d) j∧(p.lp.free j=true→fn o j-p.lp.j6 (fn d) j≤0)
 eq:p.lp.vh (fn d)=v
theorem ur.of{q:Prg}{o x d:List Rat}(h:DO q o x d):ur q o (bK q.free.length (fn o) (fn x)) d:=⟨h.cZ.ok,h.Lg,h.Lh,h.cert.signed,h.cert.iu,h.cert.eq⟩
theorem ur.chk{q:Prg}{o x d:List Rat}{v:Rat}(h:ur q o v d)(hx:Gy q x)(e:bK q.free.length (fn o) (fn x)=v):DO q o x d:=⟨hx,h.Lg,h.Lh,⟨hx.meets,h.signed,h.iu,by rw[h.eq];exact e.symm⟩⟩
theorem abL{ds:List (List Rat)}{st:Int}{x ray:List Rat}(hd:ds.length=vs.length)(hl:vs.length≤os.length)(hc:∀(i:Nat)(o:List Rat)(v:Rat)(d:List Rat),os[i]? = some o→vs[i]? = some v→ds[i]? = some d→ur (bP p os (vs.take i)) o v d)
  (hx:(bP p os vs).lp.dH 1 (fn x)) (cP:x.length=p.free.length):JN p os ⟨st,vs,x,ds,ray⟩:=by
 refine⟨hd,hl,fun i o v d h1 h2 h3=> ?_⟩
 have hm:=(yf hl).1 hx
 have hi:=(List.getElem?_eq_some_iff.1 h2).1
 have e:bK p.free.length (fn o) (fn x)=v:=by
  have:=hm.2 i o v h1 h2
  grind
 have iq:=hc i o v d h1 h2 h3
 refine⟨iq.chk ⟨iq.ok,cP,(yf (by rw[List.length_take];omega)).2 ⟨hm.1,fun j o' v' k1 k2=> ?_⟩⟩ e,e⟩
 rw[List.getElem?_take]at k2
 split at k2
 ·exact hm.2 j o' v' k1 k2
 ·cases k2
theorem alp{ds:List (List Rat)}{o:List Rat}{v:Rat}{d:List Rat}(hd:ds.length=vs.length)(ho:os[vs.length]? = some o)(hc:∀(i:Nat)(o:List Rat)(v:Rat)(d:List Rat),os[i]? = some o→vs[i]? = some v→ds[i]? = some d→ur (bP p os (vs.take i)) o v d)(hn:ur (bP p os vs) o v d):
  ∀(i:Nat)(o':List Rat)(v':Rat)(d':List Rat),os[i]? = some o'→(vs ++ [v])[i]? = some v'→(ds ++ [d])[i]? = some d'→ur (bP p os ((vs ++ [v]).take i)) o' v' d':=by
 intro i o' v' d' h1 h2 h3
 by_cases hi:i<vs.length
 ·rw[List.getElem?_append_left hi]at h2
  rw[List.getElem?_append_left (by omega)]at h3
  rw[List.take_append_of_le_length (by omega)]
  exact hc i o' v' d' h1 h2 h3
 ·have hl:=(List.getElem?_eq_some_iff.1 h2).1
  rw[List.length_append,List.length_singleton]at hl
  obtain rfl:i=vs.length:=by omega
  rw[List.getElem?_append_right (Nat.le_refl _),Nat.sub_self]at h2
  rw[List.getElem?_append_right (by omega),hd,Nat.sub_self]at h3
  rw[ho]at h1
  cases h1;cases h2;cases h3
  rw[List.take_append_of_le_length (Nat.le_refl _),List.take_length]
  exact hn
theorem abH{o:List Rat}{v:Rat}{x:Nat→Rat}(hl:vs.length<os.length)(ho:os[vs.length]? = some o)(hx:(bP p os vs).lp.dH 1 x)(e:bK p.free.length (fn o) x=v):(bP p os (vs ++ [v])).lp.dH 1 x:=by
 have hm:=(yf (by omega)).1 hx
 refine(yf (by rw[List.length_append,List.length_singleton];omega)).2 ⟨hm.1,fun i o' v' h1 h2=> ?_⟩
 by_cases hi:i<vs.length
 ·rw[List.getElem?_append_left hi]at h2
  exact hm.2 i o' v' h1 h2
 ·have dG:=(List.getElem?_eq_some_iff.1 h2).1
  rw[List.length_append,List.length_singleton]at dG
  obtain rfl:i=vs.length:=by omega
  rw[List.getElem?_append_right (Nat.le_refl _),Nat.sub_self]at h2
  rw[ho]at h1
  cases h1;cases h2
  rw[e];grind
end
end Lp
