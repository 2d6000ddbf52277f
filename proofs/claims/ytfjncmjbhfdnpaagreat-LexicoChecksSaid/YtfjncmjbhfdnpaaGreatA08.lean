/- Part 8 of the proof: Nt, Nt2, Nt3, Lay1, Mz, Mz2. -/
import Derived.Test.YtfjncmjbhfdnpaaGreatA07
set_option linter.unusedVariables false
namespace Go.ay
open Go.Proofs Num Lp
def bZ(fr:Nat→Bool):Nat→Nat
 | 0=>0
 | k+1=>bZ fr k+1+(if fr k then 1 else 0)
def lH(fr:Nat→Bool)(k:Nat):Int:=if fr k then((bZ fr k+1:Nat):Int)else -1
def bO(rel:Nat→Int)(c:Nat):Nat→Nat
 | 0=>c
 | i+1=>bO rel c i+(if rel i=2 then 0 else 1)
def eE(rel:Nat→Int)(c i:Nat):Int:=if rel i=2 then -1 else(bO rel c i:Int)
def mL(b:Rat)(rel:Int):Int:=if b<0∨(b=0∧rel=3)then -1 else 1
def fV(rel s:Int):Bool:=decide ((rel=1∧s=1)∨(rel=3∧s = -1))
def bx(rel sg:Nat→Int)(u:Nat):Nat→Nat
 | 0=>u
 | i+1=>bx rel sg u i+(if fV (rel i) (sg i)then 0 else 1)
def py(rel sg:Nat→Int)(c u i:Nat):Nat:=if fV (rel i) (sg i)then bO rel c i else bx rel sg u i
theorem BD(b:Rat)(rel:Int):mL b rel=1∨mL b rel = -1:=by unfold mL;split <;> simp
theorem Me(fr:Nat→Bool)(k:Nat):bZ fr k≤2*k:=by
 induction k with
 | zero=>exact Nat.le_refl _
 | succ k ih=>unfold bZ;split <;> omega
theorem uB(rel:Nat→Int)(c k:Nat):bO rel c k≤c+k∧c≤bO rel c k:=by
 induction k with
 | zero=>exact⟨Nat.le_refl _,Nat.le_refl _⟩
 | succ k ih=>unfold bO;split <;> omega
theorem wJ(rel sg:Nat→Int)(u k:Nat):bx rel sg u k≤u+k∧u≤bx rel sg u k:=by
 induction k with
 | zero=>exact⟨Nat.le_refl _,Nat.le_refl _⟩
 | succ k ih=>unfold bx;split <;> omega
theorem Mf{fr:Nat→Bool}{j k:Nat}(h:j<k):bZ fr j+1+(if fr j then 1 else 0)≤bZ fr k:=by
 induction k with
 | zero=>omega
 | succ k ih=>
  by_cases e:j=k
  ·subst e;exact Nat.le_refl _
  ·have:=ih (by omega)
   show _≤bZ fr k+1+(if fr k then 1 else 0)
   omega
theorem Mg{rel:Nat→Int}{c j k:Nat}(h:j<k):bO rel c j+(if rel j=2 then 0 else 1)≤bO rel c k:=by
 induction k with
 | zero=>omega
 | succ k ih=>
  by_cases e:j=k
  ·subst e;exact Nat.le_refl _
  ·have:=ih (by omega)
   show _≤bO rel c k+(if rel k=2 then 0 else 1)
   omega
theorem Mh{rel sg:Nat→Int}{u j k:Nat}(h:j<k):bx rel sg u j+(if fV (rel j) (sg j)then 0 else 1)≤bx rel sg u k:=by
 induction k with
 | zero=>omega
 | succ k ih=>
  by_cases e:j=k
  ·subst e;exact Nat.le_refl _
  ·have:=ih (by omega)
   show _≤bx rel sg u k+(if fV (rel k) (sg k)then 0 else 1)
   omega
def ints(f:Nat→Int)(k:Nat):List Value:=(List.range k).map fun j=> .int .i64 (f j)
theorem sT(f:Nat→Int)(k:Nat):ints f (k+1)=ints f k ++ [.int .i64 (f k)]:=by
 unfold ints;rw[List.range_succ,List.map_append];rfl
theorem yY(f:Nat→Int)(k:Nat):(ints f k).length=k:=by simp[ints]
theorem sU{f:Nat→Int}{k i:Nat}(h:i<k):(ints f k)[i]? = some (.int .i64 (f i)):=by simp[ints,h]
theorem bU.ints{K:Heap}{v:Value}{f:Nat→Int}{k:Nat}(h:bU K v 3 1 k (ay.ints f k)):aC yz 1 K v ((List.range k).map f):=by
 obtain⟨A,c,rfl⟩:=h.form
 refine⟨A,c,_,by rw[List.length_map,List.length_range],?_,h.rd,⟨by rw[yY,List.length_map,List.length_range,Nat.mul_one],fun i z hz=> ?_⟩⟩
 ·rw[List.length_map,List.length_range]
  rcases h.2 with ⟨k1,k2⟩ | ⟨g,cap,k1,_,k3,_⟩
  ·omega
  ·cases k1;exact k3
 ·rw[List.getElem?_map]at hz
  have hi:i<k:=by
   false_or_by_contra
   rw[List.getElem?_eq_none (by rw[List.length_range];omega)]at hz;cases hz
  rw[List.getElem?_range hi]at hz
  cases hz
  rw[K4 (sU hi)];rfl
theorem bU.Mi{K:Heap}{v:Value}{f:Nat→Nat}{k:Nat}(h:bU K v 3 1 k (ay.ints (fun j=>(f j:Int)) k)):aC sH 1 K v ((List.range k).map f):=by
 obtain⟨A,c,xs,h1,h2,h3,h4⟩:=bU.ints h
 rw[List.length_map,List.length_range]at h1 h2
 refine⟨A,c,xs,by rw[List.length_map,List.length_range];exact h1,by rw[List.length_map,List.length_range];exact h2,h3,⟨by rw[h4.len,List.length_map,List.length_map],fun i z hz=> ?_⟩⟩
 rw[List.getElem?_map]at hz
 cases hr:(List.range k)[i]? with
 | none=>rw[hr]at hz;cases hz
 | some j=>
  rw[hr]at hz
  cases hz
  exact h4.at_ i (f j:Int) (by rw[List.getElem?_map,hr];rfl)
def yZ(v v':Value):Prop:=∀q,v.ownBlock=some q→v'.ownBlock≠some q
theorem yZ.symm{v v':Value}(h:yZ v v'):yZ v' v:=fun q h1 h2=>h q h2 h1
structure kZ(K0:Heap)(lC:Value)(e sz n:Nat)(xs:List Value)(v:Value)(K:Heap):Prop where
 own:bU K v e sz n xs
 le:Heap.le K0 K
 new:∀q,v.ownBlock=some q→lC.ownBlock=some q∨K0 q=none
 keep:∀(v':Value)(e' fa n':Nat)(oR:List Value),bU K0 v' e' fa n' oR→yZ lC v'→bU K v' e' fa n' oR∧yZ v v'
theorem bU.lift{H:Heap}{gs:List Nat}{v:Value}{e sz n:Nat}{xs:List Value}(h:bU (rem H gs) v e sz n xs):bU H v e sz n xs∧∀q,q∈gs→v.ownBlock≠some q:=by
 have h2:∀q,q∈gs→v.ownBlock≠some q:=fun q hq hv=>by
  obtain⟨en,he⟩:=h.block hv
  rw[rem_in hq]at he;cases he
 exact⟨h.same fun q hq=>(bY (fun hm=>h2 q hm hq)).symm,h2⟩
theorem oI{H1 H3:Heap}{gs:List Nat}{lC v3:Value}{e sz n0 n gb:Nat}{oA xs:List Value}{en:aQ}(bD:∀q,q∈gs→H1 q≠none)(bW:H1 gb=none)(ho:bU (rem H1 gs) lC e sz n0 oA)(ha:App (ins H1 gb en) lC e sz n xs v3 H3):
  kZ (rem H1 gs) lC e sz n xs v3 (rem H3 gs)∧∀q,q∈gs→H3 q=H1 q:=by
 obtain⟨hl,hh⟩:=ho.lift
 have Iy:¬gb∈gs:=fun h=>bD gb h bW
 have ub:∀q,q∈gs→ins H1 gb en q≠none:=fun q hq=>by rw[bP _ _ (fun e=>Iy (by rw[←e];exact hq))];exact bD q hq
 obtain⟨nR,hs⟩:=ha.rem ub hh
 rw[tR _ Iy]at nR
 have hK:rem H1 gs gb=none:=by rw[bY Iy];exact bW
 refine⟨⟨nR.own,(Heap.bC _ hK).trans nR.le,fun q hq=>(by
  rcases nR.at_ with h4 | ⟨g',h4,h5⟩
  ·exact .inl (by rw[←h4];exact hq)
  ·rw[h4]at hq
   cases hq
   exact .inr (yb h5).2),fun v' e' fa n' oR h' Iz=> ?_⟩,fun q hq=>by rw[hs q hq,bP _ _ (fun e=>Iy (by rw[←e];exact hq))]⟩
 have h1:bU (ins (rem H1 gs) gb en) v' e' fa n' oR:=h'.ins _ hK
 refine⟨h1.same fun q hq=> ?_,fun q h2 h3=> ?_⟩
 ·obtain⟨IA,ED⟩:=h1.block hq
  rw[nR.same q IA ED (fun h=>Iz q h hq),ED]
 ·rcases nR.at_ with h4 | ⟨g',h4,h5⟩
  ·exact Iz q (by rw[←h4];exact h2) h3
  ·rw[h4]at h2
   cases h2
   obtain⟨IA,ED⟩:=h1.block h3
   rw[h5]at ED;cases ED
def qq(a1:Addr)(v1:Value)(a2:Addr)(v2:Value)(ad:Addr):Option Value:=if ad=a1 then some v1 else if ad=a2 then some v2 else none
theorem kC{a1 a2:Addr}{v1 v2:Value}{H:Heap}(h1:cell H a1=some v1)(h2:cell H a2=some v2):(Mode.e7 (qq a1 v1 a2 v2)).qz H:=fun ad v h=>by
 have h':qq a1 v1 a2 v2 ad=some v:=h
 unfold qq at h'
 split at h'
 ·rename_i e;rw[e,h1];exact h'
 ·split at h'
  ·rename_i e;rw[e,h2];exact h'
  ·cases h'
theorem sV{a1 a2:Addr}{v1 v2:Value}:qq a1 v1 a2 v2 a1=some v1:=by simp[qq]
theorem EE{a1 a2:Addr}{v1 v2:Value}(h:a2≠a1):qq a1 v1 a2 v2 a2=some v2:=by simp[qq,h]
theorem EF{g g' o o':Nat}(h:g≠g'):(⟨g,o,none⟩:Addr)≠⟨g',o',none⟩:=fun e=>h (by cases e;rfl)
def pz(_:Heap)(vs:List Value)(b:Bool):Prop:=vs = [.bool b]
theorem qt:Up pz:=fun _ _ _ _ _ h=>h
def cN(N:Nat)(H:Heap)(v:Value)(p:Prg):Prop:=∃fv rv,v = .agg #[fv,rv]∧aC pz 1 H fv p.free∧aC (eZ N) 5 H rv p.rows
theorem cN.le{N:Nat}{H H':Heap}{v:Value}{p:Prg}(h:cN N H v p)(hl:Heap.le H H'):cN N H' v p:=by
 obtain⟨fv,rv,h1,h2,h3⟩:=h
 exact⟨fv,rv,h1,h2.le qt hl,h3.le (gK N) hl⟩
section
variable (p:Prg)
abbrev _root_.Lp.Prg.aR(i:Nat):Int:=mL (p.lp.b i) (p.lp.rel i)
abbrev _root_.Lp.Prg.c1:Nat:=bZ p.lp.free p.lp.n
abbrev _root_.Lp.Prg.u:Nat:=bO p.lp.rel p.c1 p.lp.m
abbrev _root_.Lp.Prg.w:Nat:=bx p.lp.rel p.aR p.u p.lp.m
abbrev _root_.Lp.Prg.unit(i:Nat):Nat:=py p.lp.rel p.aR p.c1 p.u i
def _root_.Lp.Prg.lay:TL:=⟨p.w,p.u,(List.range p.lp.n).map (bZ p.lp.free),(List.range p.lp.n).map (lH p.lp.free),(List.range p.lp.m).map p.unit,aT (fun i=>(p.aR i:Rat)) p.lp.m⟩
def _root_.Lp.Prg.fF:ao:=⟨p.lp.m,p.w,fun i=>Ih p.lay p.lp.n (p.lp.a i) (p.lp.b i) (p.lp.rel i) (eE p.lp.rel p.c1 i) (p.unit i) (p.aR i:Rat),fun _=>0,p.unit⟩
end
end Go.ay
namespace Go.ay
theorem sW{H:Heap}{gv g:Nat}{e:aQ}{v:Value}(h:cell H ⟨gv,0,none⟩=some v)(bD:gv≠g):cell (ins H g e) ⟨gv,0,none⟩=some v:=by
 simp only[cell,bP _ _ bD]at h⊢;exact h
theorem uC(z:Int):∀u,u∈[Value.int .i64 z]→u.oneCell'=true:=fun u hu=>by rw[List.mem_singleton]at hu;rw[hu];rfl
theorem ints_set{f:Nat→Int}{m i:Nat}{z:Int}:(ints f m).set i (.int .i64 z)=ints (fun j=>if j=i then z else f j) m:=by
 apply List.ext_getElem?
 intro j
 by_cases hj:j<m
 ·by_cases e:j=i
  ·subst e
   rw[List.getElem?_set_self (by rw[yY];exact hj),sU hj,if_pos rfl]
  ·rw[List.getElem?_set_ne (fun e'=>e e'.symm),sU hj,sU hj,if_neg e]
 ·rw[List.getElem?_eq_none (by rw[List.length_set,yY];omega),List.getElem?_eq_none (by rw[yY];omega)]
theorem Mj{f g:Nat→Int}{m:Nat}(h:∀j,j<m→f j=g j):ints f m=ints g m:=by
 unfold ints
 apply List.map_congr_left
 intro j hj
 rw[h j (List.mem_range.1 hj)]
theorem aC.row{N:Nat}{H:Heap}{v:Value}{l:List (List Rat×Int×Rat)}(h:aC (eZ N) 5 H v l):∃A c xs,v = .slice A l.length c∧Rd H A xs∧∀(i:Nat)(r:List Rat×Int×Rat),l[i]? = some r→∃A0 c0 f A1 m1 c1 A2 m2 c2,eZ N H [.slice A0 r.1.length c0,.int .i64 r.2.1,.bool f,.slice A1 m1 c1,.slice A2 m2 c2] r∧∀(j:Nat)(u:Value),[.slice A0 r.1.length c0,.int .i64 r.2.1,.bool f,.slice A1 m1 c1,.slice A2 m2 c2][j]? = some u→xs[i*5+j]? = some u:=by
 obtain⟨A,c,xs,h1,_,h3,h4⟩:=h
 refine⟨A,c,xs,h1,h3,fun i r hr=> ?_⟩
 obtain⟨vs,_,h5,h6⟩:=h4.get hr
 obtain⟨A0,c0,k,f,A1,m1,c1,A2,m2,c2,rfl,rfl⟩:=h5.cells
 exact⟨A0,c0,f,A1,m1,c1,A2,m2,c2,h5,h6⟩
theorem eZ.bound{N:Nat}{H:Heap}{r:List Rat×Int×Rat}{v0:Value}{f:Bool}{u w:Value}(h:eZ N H [v0,.int .i64 r.2.1,.bool f,u,w] r):bN H (.agg #[.bool f,u,w]) r.2.2 N:=by
 obtain⟨c,f',u',w',h1,_,h3⟩:=h
 simp only[List.cons.injEq,Value.bool.injEq,and_true,true_and]at h1
 obtain⟨rfl,rfl,rfl,rfl⟩:=h1
 exact h3
end Go.ay
namespace Go.ay
def aB(v:Value):List Nat:=match v.ownBlock with | some q=>[q] | none=>[]
theorem cV{v:Value}{q:Nat}:q∈aB v↔v.ownBlock=some q:=by
 unfold aB
 cases h:v.ownBlock with
 | none=>simp
 | some q'=>simp;exact eq_comm
theorem aca{H H':Heap}{gs:List Nat}{v:Value}{e sz n:Nat}{xs:List Value}(h:Kept (aB v++gs) H H')(ho:bU (rem H gs) v e sz n xs):bU (rem H' gs) v e sz n xs∧Heap.le (rem H gs) (rem H' gs)∧∀q,q∈gs→H' q=H q:=by
 have hs:∀q,q∈aB v++gs→H' q=H q:=h.same
 have hv:=ho.lift.2
 refine⟨ho.same fun q hq=> ?_,fun q en hq=> ?_,fun q hq=>hs q (List.mem_append_right _ hq)⟩
 ·have:¬q∈gs:=fun hm=>hv q hm hq
  rw[bY this,bY this,hs q (List.mem_append_left _ (cV.2 hq))]
 ·by_cases hb:q∈aB v
  ·by_cases hm:q∈gs
   ·rw[rem_in hm]at hq;cases hq
   ·rw[bY hm]at hq
    exact⟨en,by rw[bY hm,hs q (List.mem_append_left _ hb)];exact hq,.refl en⟩
  ·by_cases hm:q∈gs
   ·rw[rem_in hm]at hq;cases hq
   ·have hn:¬q∈aB v++gs:=fun h=>by
     rcases List.mem_append.1 h with h | h
     ·exact hb h
     ·exact hm h
    obtain⟨e',h1,h2⟩:=h.le q en (by rw[bY hn];rwa [bY hm]at hq)
    exact⟨e',by rw[bY hm];rwa [bY hn]at h1,h2⟩
theorem acb{H:Heap}{gs:List Nat}{v:Value}{e sz n:Nat}{xs:List Value}(bD:∀q,q∈gs→H q≠none)(ho:bU (rem H gs) v e sz n xs):∀q,q∈aB v++gs→H q≠none:=fun q hq=>by
 rcases List.mem_append.1 hq with h | h
 ·obtain⟨en,he⟩:=ho.lift.1.block (cV.1 h)
  rw[he];simp
 ·exact bD q h
theorem Sr{K:Heap}{v:Value}{e sz n:Nat}{xs:List Value}(h:bU K v e sz n xs)(hn:0<n):∃q c,v = .slice (some ⟨q,0,none⟩) n c∧K q=some ⟨xs,c*sz,e,true⟩:=by
 rcases h.2 with ⟨_,h2⟩ | ⟨g,cap,h1,h2,_⟩
 ·omega
 ·exact⟨g,cap,h1,h2⟩
theorem acd{H H':Heap}{gs b:List Nat}(h:Heap.le H (rem H' gs))(hb:∀q,q∈b→H q=none):Heap.le H (rem H' (b++gs)):=fun q e hq=>by
 obtain⟨e',h1,h2⟩:=h q e hq
 have hm:¬q∈gs:=fun hm=>by rw[rem_in hm]at h1;cases h1
 refine⟨e',?_,h2⟩
 rw[bY (fun h3=>by
  rcases List.mem_append.1 h3 with h3 | h3
  ·rw[hb q h3]at hq;cases hq
  ·exact hm h3)]
 rwa [bY hm]at h1
theorem le_none{H K:Heap}(h:Heap.le H K){q:Nat}(hq:K q=none):H q=none:=by
 cases hh:H q with
 | none=>rfl
 | some e=>(obtain⟨e',h1,_⟩:=h q e hh;rw[hq]at h1;cases h1)
theorem kZ.aB{K0 K H:Heap}{lC v:Value}{e sz n:Nat}{xs:List Value}(h:kZ K0 lC e sz n xs v K)(hl:Heap.le H K0)(hb:∀q,q∈ay.aB lC→H q=none):∀q,q∈ay.aB v→H q=none:=fun q hq=>by
 rcases h.new q (cV.1 hq)with h1 | h1
 ·exact hb q (cV.2 h1)
 ·exact le_none hl h1
end Go.ay
namespace Go.ay
open Go.Proofs Num Lp
def eP(rg:List (Nat×Nat))(bv:Value)(gk g:Nat):List Nat:=rg.map (·.1)++(aB bv ++ [gk,g])
def mb(rg:List (Nat×Nat))(gk g:Nat):List Nat:=rg.map (·.1) ++ [gk,g]
def mc(rv:Value)(rg:List (Nat×Nat))(bv:Value)(gk:Nat):List Nat:=aB rv++(rg.map (·.1)++(aB bv ++ [gk]))
def Mk(w:Nat)(p:Nat×Nat):Value:= .slice (some ⟨p.1,0,none⟩) (w+1) p.2
theorem fq{rg:List (Nat×Nat)}{bv:Value}{gk g q:Nat}:q∈eP rg bv gk g↔q∈rg.map (·.1)∨q∈aB bv∨q=gk∨q=g:=by
 unfold eP;simp only[List.mem_append,List.mem_cons,List.not_mem_nil,or_false]
theorem pA{rg:List (Nat×Nat)}{gk g q:Nat}:q∈mb rg gk g↔q∈rg.map (·.1)∨q=gk∨q=g:=by
 unfold mb;simp only[List.mem_append,List.mem_cons,List.not_mem_nil,or_false]
theorem rb{rg:List (Nat×Nat)}{rv bv:Value}{gk q:Nat}:q∈mc rv rg bv gk↔q∈aB rv∨q∈rg.map (·.1)∨q∈aB bv∨q=gk:=by
 unfold mc;simp only[List.mem_append,List.mem_cons,List.not_mem_nil,or_false]
structure iP(K:Heap)(g gk w:Nat)(A:Nat→Nat→Rat)(unit:Nat→Nat)(H:Heap)(rv:Value)(k:Nat)(hd:List Value)(bv:Value)(kb:Nat)(rg:List (Nat×Nat)):Prop where
 ne:∀q,q∈eP rg bv gk g→H q≠none
 nd:(eP rg bv gk g).Nodup
 le:Heap.le K (rem H (eP rg bv gk g))
 wK:bU (rem H (eP rg bv gk g)) rv 85 1 k hd
 IB:∀q,q∈aB rv→K q=none
 EG:bU H bv 3 1 kb (ints (fun j=>(unit j:Int)) kb)
 row:∀(j:Nat)(p:Nat×Nat),rg[j]? = some p→kt (rem H (eP rg bv gk g)) H p.1 (aT (A j) (w+1))
section
variable {K:Heap} {g gk w:Nat} {A:Nat→Nat→Rat} {unit:Nat→Nat} {H H2:Heap} {rv:Value} {k:Nat} {hd:List Value} {bv:Value} {kb:Nat} {rg:List (Nat×Nat)}
theorem iP.EH(h:iP K g gk w A unit H rv k hd bv kb rg):∀q,q∈aB rv→¬q∈eP rg bv gk g∧H q≠none:=fun q hq=>by
 have h1:=h.wK.lift
 refine⟨fun hm=>h1.2 q hm (cV.1 hq),?_⟩
 obtain⟨e,he⟩:=h1.1.block (cV.1 hq)
 rw[he];simp
theorem iP.neR(h:iP K g gk w A unit H rv k hd bv kb rg):∀q,q∈mc rv rg bv gk→H q≠none:=fun q hq=>by
 rcases rb.1 hq with h1 | h1 | h1 | h1
 ·exact(h.EH q h1).2
 ·exact h.ne q (fq.2 (.inl h1))
 ·exact h.ne q (fq.2 (.inr (.inl h1)))
 ·exact h.ne q (fq.2 (.inr (.inr (.inl h1))))
theorem EI{rg:List (Nat×Nat)}{bv:Value}{gk g:Nat}(h:(eP rg bv gk g).Nodup):¬g∈rg.map (·.1)∧¬g∈aB bv∧gk≠g∧(∀q,q∈aB bv→¬q∈rg.map (·.1)∧q≠gk)∧¬gk∈rg.map (·.1):=by
 unfold eP at h
 rw[List.nodup_append,List.nodup_append]at h
 obtain⟨_,⟨_,h2,h3⟩,h4⟩:=h
 have h5:gk≠g:=by
  rw[List.nodup_cons]at h2
  exact fun e=>h2.1 (by rw[e];exact List.mem_singleton.2 rfl)
 refine⟨fun hm=>h4 g hm g (by simp) rfl,fun hm=>h3 g hm g (by simp) rfl,h5,fun q hq=>⟨fun hm=>h4 q hm q (List.mem_append_left _ hq) rfl,fun e=>h3 q hq gk (by simp) e⟩,fun hm=>h4 gk hm gk (by simp) rfl⟩
theorem iP.gR(h:iP K g gk w A unit H rv k hd bv kb rg):¬g∈mc rv rg bv gk:=fun hm=>by
 obtain⟨n1,n2,n3,_⟩:=EI h.nd
 rcases rb.1 hm with h1 | h1 | h1 | h1
 ·exact(h.EH g h1).1 (fq.2 (.inr (.inr (.inr rfl))))
 ·exact n1 h1
 ·exact n2 h1
 ·exact n3 h1.symm
theorem iP.ace(h:iP K g gk w A unit H rv k hd bv kb rg){z c:Nat}{xs:List Value}{sz:Nat}(hs:∀q,q∈mc rv rg bv gk→H2 q=H q)(jM:eD [g] (rem H (mc rv rg bv gk)) (rem H2 (mc rv rg bv gk)) z xs sz 90)
  (gT:bI (bo (rem (rem H2 (mc rv rg bv gk)) (z :: [g]))) 3 xs (aT (A rg.length) (w+1))):iP K g gk w A unit H2 rv k hd bv kb (rg ++ [(z,c)])∧H2 g=H g∧H2 gk=H gk:=by
 have Ss:=h.gR
 have eU:H2 g=H g:=by
  have:=jM.same g (List.mem_singleton.2 rfl)
  rwa [bY Ss,bY Ss]at this
 have Su:H2 gk=H gk:=hs gk (rb.2 (.inr (.inr (.inr rfl))))
 have Sv:¬z∈mc rv rg bv gk:=fun hm=>by have:=jM.aB;rw[rem_in hm]at this;cases this
 have iK:H2 z=some ⟨xs,sz,90,true⟩:=by have:=jM.aB;rwa [bY Sv]at this
 have ug:H z=none:=by have:=jM.zn;rwa [bY Sv]at this
 have R7:z≠g:=fun e=>jM.zg (List.mem_singleton.2 e)
 have SA:¬z∈eP rg bv gk g:=fun hm=>h.ne z hm ug
 have rR:∀q,q∈eP (rg ++ [(z,c)]) bv gk g↔q=z∨q∈eP rg bv gk g:=fun q=>by
  rw[fq,fq,List.map_append,List.mem_append]
  simp only[List.map_cons,List.map_nil,List.mem_singleton]
  constructor
  ·rintro((h | h) | h | h | h)
   ·exact .inr (.inl h)
   ·exact .inl h
   ·exact .inr (.inr (.inl h))
   ·exact .inr (.inr (.inr (.inl h)))
   ·exact .inr (.inr (.inr (.inr h)))
  ·rintro(h | h | h | h | h)
   ·exact .inl (.inr h)
   ·exact .inl (.inl h)
   ·exact .inr (.inl h)
   ·exact .inr (.inr (.inl h))
   ·exact .inr (.inr (.inr h))
 have Ml:∀q,q∈eP rg bv gk g→H2 q=H q:=fun q hq=>by
  rcases fq.1 hq with h1 | h1 | h1 | h1
  ·exact hs q (rb.2 (.inr (.inl h1)))
  ·exact hs q (rb.2 (.inr (.inr (.inl h1))))
  ·rw[h1];exact Su
  ·rw[h1];exact eU
 have j6:∀q,q∈aB rv→H2 q=H q:=fun q hq=>hs q (rb.2 (.inl hq))
 have hle:Heap.le (rem H (eP rg bv gk g)) (rem H2 (eP (rg ++ [(z,c)]) bv gk g)):=fun q e hq=>by
  have hm:¬q∈eP rg bv gk g:=fun hm=>by rw[rem_in hm]at hq;cases hq
  rw[bY hm]at hq
  have IC:q≠z:=fun e'=>by rw[e',ug]at hq;cases hq
  have lR:¬q∈eP (rg ++ [(z,c)]) bv gk g:=fun lR=>by
   rcases(rR q).1 lR with h1 | h1
   ·exact IC h1
   ·exact hm h1
  by_cases hb:q∈aB rv
  ·exact⟨e,by rw[bY lR,j6 q hb];exact hq,.refl e⟩
  ·have hR:¬q∈mc rv rg bv gk:=fun hR=>by
    rcases rb.1 hR with h1 | h1 | h1 | h1
    ·exact hb h1
    ·exact hm (fq.2 (.inl h1))
    ·exact hm (fq.2 (.inr (.inl h1)))
    ·exact hm (fq.2 (.inr (.inr (.inl h1))))
   have Df:q≠g:=fun e'=>hm (fq.2 (.inr (.inr (.inr e'))))
   obtain⟨e',h1,h2⟩:=jM.le q e (by rw[bY (fun h'=>Df (List.mem_singleton.1 h')),bY hR];exact hq)
   have acf:¬q∈z :: [g]:=fun h'=>by
    rcases List.mem_cons.1 h' with h' | h'
    ·exact IC h'
    ·exact Df (List.mem_singleton.1 h')
   rw[bY acf,bY hR]at h1
   exact⟨e',by rw[bY lR];exact h1,h2⟩
 have acg:Heap.le (rem (rem H2 (mc rv rg bv gk)) (z :: [g])) (rem H2 (eP (rg ++ [(z,c)]) bv gk g)):=fun q e hq=>by
  have h1:¬q∈z :: [g]:=fun h'=>by rw[rem_in h']at hq;cases hq
  rw[bY h1]at hq
  have h2:¬q∈mc rv rg bv gk:=fun h'=>by rw[rem_in h']at hq;cases hq
  rw[bY h2]at hq
  refine⟨e,?_,.refl e⟩
  rw[bY]
  ·exact hq
  ·intro h3
   rcases(rR q).1 h3 with h4 | h4
   ·exact h1 (by rw[h4];exact List.mem_cons_self ..)
   ·rcases fq.1 h4 with h5 | h5 | h5 | h5
    ·exact h2 (rb.2 (.inr (.inl h5)))
    ·exact h2 (rb.2 (.inr (.inr (.inl h5))))
    ·exact h2 (rb.2 (.inr (.inr (.inr h5))))
    ·exact h1 (by rw[h5];exact List.mem_cons_of_mem _ (List.mem_singleton.2 rfl))
 refine⟨⟨fun q hq=> ?_,?_,h.le.trans hle,h.wK.same fun q hq=> ?_,h.IB,h.EG.same fun q hq=>Ml q (fq.2 (.inr (.inl (cV.2 hq)))),fun j p hp=> ?_⟩,eU,Su⟩
 ·rcases(rR q).1 hq with h1 | h1
  ·rw[h1,iK];simp
  ·rw[Ml q h1];exact h.ne q h1
 ·have jF:=h.nd
  unfold eP at jF⊢
  rw[List.map_append,List.append_assoc,List.nodup_append]at *
  refine⟨jF.1,?_,fun a ha b hb=> ?_⟩
  ·simp only[List.map_cons,List.map_nil,List.singleton_append,List.nodup_cons]
   exact⟨fun hm=>SA (by unfold eP;exact List.mem_append_right _ hm),jF.2.1⟩
  ·simp only[List.map_cons,List.map_nil,List.singleton_append,List.mem_cons]at hb
   rcases hb with hb | hb
   ·intro e
    exact SA (by unfold eP;rw[←hb,←e];exact List.mem_append_left _ ha)
   ·exact jF.2.2 a ha b (by simpa using hb)
 ·have h1:=h.EH q (cV.2 hq)
  have IC:q≠z:=fun e=>h1.2 (by rw[e];exact ug)
  rw[bY h1.1,bY (fun h2=>by
   rcases(rR q).1 h2 with h3 | h3
   ·exact IC h3
   ·exact h1.1 h3),j6 q (cV.2 hq)]
 ·by_cases hj:j<rg.length
  ·rw[List.getElem?_append_left hj]at hp
   exact(h.row j p hp).le hle (Ml _ (fq.2 (.inl (List.mem_map.2 ⟨p,List.mem_of_getElem? hp,rfl⟩))))
  ·rw[List.getElem?_append_right (by omega)]at hp
   have hj0:j-rg.length=0:=by
    have:=(List.getElem?_eq_some_iff.1 hp).1
    simp at this;omega
   rw[hj0]at hp
   simp only[List.getElem?_cons_zero,Option.some.injEq]at hp
   subst hp
   have:j=rg.length:=by omega
   rw[this]
   exact⟨xs,sz,iK,gT.mono fun vs a=>fD _ _ vs a acg⟩
theorem iP.ach(h:iP K g gk w A unit H rv k hd bv kb rg){SB:Value}{k':Nat}{lJ:List Value}(hG:kZ (rem H (eP rg bv gk g)) rv 85 1 k' lJ SB (rem H2 (eP rg bv gk g)))(hs:∀q,q∈eP rg bv gk g→q≠g→H2 q=H q)(hg:H2 g≠none):iP K g gk w A unit H2 SB k' lJ bv kb rg:=by
 obtain⟨n1,n2,n3,n4,n5⟩:=EI h.nd
 refine⟨fun q hq=> ?_,h.nd,h.le.trans hG.le,hG.own,hG.aB h.le h.IB,h.EG.same fun q hq=> ?_,fun j p hp=> ?_⟩
 ·by_cases e:q=g
  ·rw[e];exact hg
  ·rw[hs q hq e];exact h.ne q hq
 ·have:=cV.2 hq
  exact hs q (fq.2 (.inr (.inl this))) (fun e=>n2 (by rw[←e];exact this))
 ·have hm:p.1∈rg.map (·.1):=List.mem_map.2 ⟨p,List.mem_of_getElem? hp,rfl⟩
  exact(h.row j p hp).le hG.le (hs _ (fq.2 (.inl hm)) (fun e=>n1 (by rw[←e];exact hm)))
theorem iP.aci(h:iP K g gk w A unit H rv k hd bv kb rg){EJ:Value}(hG:kZ (rem H (mb rg gk g)) bv 3 1 (kb+1) (ints (fun j=>(unit j:Int)) (kb+1)) EJ (rem H2 (mb rg gk g)))(hs:∀q,q∈mb rg gk g→q≠g→H2 q=H q)(hg:H2 g≠none):iP K g gk w A unit H2 rv k hd EJ (kb+1) rg:=by
 obtain⟨n1,n2,n3,n4,n5⟩:=EI h.nd
 have Mm:∀q,q∈mb rg gk g→q∈eP rg bv gk g:=fun q hq=>by
  rcases pA.1 hq with h1 | h1 | h1
  ·exact fq.2 (.inl h1)
  ·exact fq.2 (.inr (.inr (.inl h1)))
  ·exact fq.2 (.inr (.inr (.inr h1)))
 have SC:∀q,q∈mb rg gk g→H2 q≠none:=fun q hq=>by
  by_cases e:q=g
  ·rw[e];exact hg
  ·rw[hs q hq e];exact h.ne q (Mm q hq)
 have xe:=hG.own.lift
 have Mn:∀q,q∈aB EJ→¬q∈mb rg gk g:=fun q hq hm=>xe.2 q hm (cV.1 hq)
 have acj:∀q,q∈aB EJ→q∈aB bv∨H q=none:=fun q hq=>by
  rcases hG.new q (cV.1 hq)with h1 | h1
  ·exact .inl (cV.2 h1)
  ·exact .inr (by rwa [bY (Mn q hq)]at h1)
 have hle:Heap.le (rem H (eP rg bv gk g)) (rem H2 (eP rg EJ gk g)):=fun q e hq=>by
  have hm:¬q∈eP rg bv gk g:=fun hm=>by rw[rem_in hm]at hq;cases hq
  rw[bY hm]at hq
  have hJ:¬q∈mb rg gk g:=fun h1=>hm (Mm q h1)
  obtain⟨e',h1,h2⟩:=hG.le q e (by rw[bY hJ];exact hq)
  rw[bY hJ]at h1
  refine⟨e',?_,h2⟩
  rw[bY]
  ·exact h1
  ·intro h3
   rcases fq.1 h3 with h4 | h4 | h4
   ·exact hm (fq.2 (.inl h4))
   ·rcases acj q h4 with h5 | h5
    ·exact hm (fq.2 (.inr (.inl h5)))
    ·rw[h5]at hq;cases hq
   ·exact hm (fq.2 (.inr (.inr h4)))
 have ack:bU (rem H (mb rg gk g)) rv 85 1 k hd:=h.wK.same fun q hq=>by
  have h1:=(h.EH q (cV.2 hq)).1
  rw[bY h1,bY (fun h2=>h1 (Mm q h2))]
 have Iz:yZ bv rv:=fun q h1 h2=>(h.EH q (cV.2 h2)).1 (fq.2 (.inr (.inl (cV.2 h1))))
 obtain⟨Bv,Mo⟩:=hG.keep _ _ _ _ _ ack Iz
 refine⟨fun q hq=> ?_,?_,h.le.trans hle,Bv.same fun q hq=> ?_,h.IB,xe.1,fun j p hp=> ?_⟩
 ·rcases fq.1 hq with h1 | h1 | h1
  ·exact SC q (pA.2 (.inl h1))
  ·obtain⟨e,he⟩:=xe.1.block (cV.1 h1)
   rw[he];simp
  ·exact SC q (pA.2 (.inr h1))
 ·have jF:=h.nd
  unfold eP at jF⊢
  rw[List.nodup_append,List.nodup_append]at *
  refine⟨jF.1,⟨?_,jF.2.1.2.1,fun a ha b hb e=> ?_⟩,fun a ha b hb e=> ?_⟩
  ·unfold aB;split <;> simp
  ·refine Mn a ha (pA.2 (.inr ?_))
   rw[e];simpa using hb
  ·rcases List.mem_append.1 hb with h1 | h1
   ·exact Mn b h1 (pA.2 (.inl (by rw[←e];exact ha)))
   ·exact jF.2.2 a ha b (List.mem_append_right _ h1) e
 ·have h1:¬q∈mb rg gk g:=fun h1=>Bv.lift.2 q h1 hq
  rw[bY h1,bY]
  intro h2
  rcases fq.1 h2 with h3 | h3 | h3
  ·exact h1 (pA.2 (.inl h3))
  ·exact Mo q (cV.1 h3) hq
  ·exact h1 (pA.2 (.inr h3))
 ·have hm:p.1∈rg.map (·.1):=List.mem_map.2 ⟨p,List.mem_of_getElem? hp,rfl⟩
  exact(h.row j p hp).le hle (hs _ (pA.2 (.inl hm)) (fun e=>n1 (by rw[←e];exact hm)))
theorem iP.SD(h:iP K g gk w A unit H rv k hd bv kb rg):bU (rem H (mb rg gk g)) bv 3 1 kb (ints (fun j=>(unit j:Int)) kb):=by
 obtain⟨n1,n2,n3,n4,n5⟩:=EI h.nd
 refine h.EG.same fun q hq=> ?_
 have hb:=cV.2 hq
 rw[bY]
 intro h1
 rcases pA.1 h1 with h2 | h2 | h2
 ·exact(n4 q hb).1 h2
 ·exact(n4 q hb).2 h2
 ·exact n2 (by rw[←h2];exact hb)
theorem iP.leR(h:iP K g gk w A unit H rv k hd bv kb rg):Heap.le K (rem (rem H (mc rv rg bv gk)) [g]):=fun q e hq=>by
 obtain⟨e',h1,h2⟩:=h.le q e hq
 have hm:¬q∈eP rg bv gk g:=fun hm=>by rw[rem_in hm]at h1;cases h1
 rw[bY hm]at h1
 refine⟨e',?_,h2⟩
 rw[bY (fun h3=>hm (fq.2 (.inr (.inr (.inr (List.mem_singleton.1 h3)))))),bY]
 ·exact h1
 ·intro h3
  rcases rb.1 h3 with h4 | h4 | h4 | h4
  ·rw[h.IB q h4]at hq;cases hq
  ·exact hm (fq.2 (.inl h4))
  ·exact hm (fq.2 (.inr (.inl h4)))
  ·exact hm (fq.2 (.inr (.inr (.inl h4))))
end
end Go.ay
namespace Go.ay
open Go.Proofs Num Lp
section
variable (p:Prg)
theorem y5{j:Nat}(h:j<p.lp.n):p.lay.pF j=bZ p.lp.free j:=by
 simp[TL.pF,Prg.lay,List.getD,h]
theorem EK{j:Nat}(h:j<p.lp.n):p.lay.mZ j=lH p.lp.free j:=by
 simp[TL.mZ,Prg.lay,List.getD,h]
theorem re:p.c1≤p.u:=(uB p.lp.rel p.c1 p.lp.m).2
theorem lj:p.u≤p.w:=(wJ p.lp.rel p.aR p.u p.lp.m).2
theorem ID{j:Nat}(h:j<p.lp.n):bZ p.lp.free j<p.c1:=by
 have:=Mf (fr:=p.lp.free) h
 have e:p.c1=bZ p.lp.free p.lp.n:=rfl
 omega
theorem BE{j:Nat}(h:j<p.lp.n):lH p.lp.free j<p.c1:=by
 have:=Mf (fr:=p.lp.free) h
 have e:p.c1=bZ p.lp.free p.lp.n:=rfl
 unfold lH
 by_cases hf:p.lp.free j
 ·rw[if_pos hf]at this⊢;omega
 ·rw[if_neg hf];omega
theorem Mp{i:Nat}(h:i<p.lp.m)(hr:p.lp.rel i≠2):(p.c1:Int)≤eE p.lp.rel p.c1 i∧eE p.lp.rel p.c1 i<p.u:=by
 have h1:=Mg (rel:=p.lp.rel) (c:=p.c1) h
 have h2:=(uB p.lp.rel p.c1 i).2
 rw[if_neg hr]at h1
 have e:p.u=bO p.lp.rel p.c1 p.lp.m:=rfl
 unfold eE
 rw[if_neg hr];omega
theorem uD{i:Nat}(h:i<p.lp.m):p.unit i<p.w:=by
 have h3:=lj p
 show py _ _ _ _ _<_
 unfold py
 by_cases ho:fV (p.lp.rel i) (p.aR i)=true
 ·rw[if_pos ho]
  have hr:p.lp.rel i≠2:=by
   unfold fV at ho
   rw[decide_eq_true_eq]at ho
   omega
  have:=Mp p h hr
  unfold eE at this
  rw[if_neg hr]at this
  omega
 ·rw[if_neg ho]
  have:=Mh (rel:=p.lp.rel) (sg:=p.aR) (u:=p.u) h
  rw[if_neg ho]at this
  have e:p.w=bx p.lp.rel p.aR p.u p.lp.m:=rfl
  omega
theorem SE:p.w≤2*p.lp.n+2*p.lp.m:=by
 have h1:=(wJ p.lp.rel p.aR p.u p.lp.m).1
 have h2:=(uB p.lp.rel p.c1 p.lp.m).1
 have h3:=Me p.lp.free p.lp.n
 have e1:p.w=bx p.lp.rel p.aR p.u p.lp.m:=rfl
 have e2:p.u=bO p.lp.rel p.c1 p.lp.m:=rfl
 have e3:p.c1=bZ p.lp.free p.lp.n:=rfl
 omega
theorem acm{i:Nat}{r:List Rat×Int×Rat}(h:p.rows[i]? = some r):p.fF.A i=Ih p.lay p.lp.n (fn r.1) r.2.2 r.2.1 (eE p.lp.rel p.c1 i) (p.unit i) (p.aR i:Rat):=by
 show Ih p.lay p.lp.n (fn (p.row i).1) (p.row i).2.2 (p.row i).2.1 _ _ _=_
 rw[Prg.gu h]
end
theorem iP.tab{K H:Heap}{g gk:Nat}{p:Prg}{rv bv pv mv uv sv:Value}{rg:List (Nat×Nat)}(h:iP K g gk p.w p.fF.A p.unit H rv p.lp.m (rg.map (Mk p.w)) bv p.lp.m rg)(hl:rg.length=p.lp.m)
  (hg:H g=some ⟨[.int .i64 (p.w:Int),.int .i64 (p.u:Int),pv,mv,uv,sv,rv,.slice none 0 0,bv],9,97,true⟩) (sK:aC sH 1 K pv p.lay.plus) (sL:aC yz 1 K mv p.lay.minus) (Ea:aC sH 1 K uv p.lay.jy) (o0:aC bo 3 K sv p.lay.js):
  ∃G:TG,Value.pointer (some ⟨g,0,none⟩) = .pointer (some ⟨G.g,0,none⟩)∧dC H G p.lay p.fF∧G.cb = []∧Heap.le K (rem H G.gs):=by
 obtain⟨Ar,cr,rfl⟩:=h.wK.form
 obtain⟨n1,n2,n3,n4,n5⟩:=EI h.nd
 have jF:=h.nd
 unfold eP at jF
 rw[List.nodup_append,List.nodup_append]at jF
 let G:TG:=⟨g,cr,Ar,pv,mv,uv,sv,.slice none 0 0,bv,rg,[],aB bv⟩
 have rR:∀q,q∈G.gs→q∈eP rg bv gk g:=fun q hq=>by
  rcases List.mem_cons.1 hq with h1 | h1
  ·exact fq.2 (.inr (.inr (.inr h1)))
  ·rcases List.mem_append.1 h1 with h2 | h2
   ·cases h2
   ·rcases List.mem_append.1 h2 with h3 | h3
    ·exact fq.2 (.inr (.inl h3))
    ·exact fq.2 (.inl h3)
 have hle:Heap.le (rem H (eP rg bv gk g)) (rem H G.gs):=fun q e hq=>by
  have hm:¬q∈eP rg bv gk g:=fun hm=>by rw[rem_in hm]at hq;cases hq
  rw[bY hm]at hq
  exact⟨e,by rw[bY (fun h'=>hm (rR q h'))];exact hq,.refl e⟩
 have hK:=h.le.trans hle
 refine⟨G,rfl,⟨rfl,lj p,hg,?_,hl,⟨_,h.wK.rd.le hle,fun i q hq=> ?_⟩,fun i q hq=>(h.row i q hq).le hle rfl,?_,sK.le lG hK,sL.le sI hK,Ea.le lG hK,o0.le fD hK,fun q hq=>by cases hq⟩,rfl,hK⟩
 ·show (g::([]++(aB bv++rg.map (·.1)))).Nodup
  rw[List.nil_append,List.nodup_cons,List.nodup_append]
  refine⟨fun hm=> ?_,jF.2.1.1,jF.1,fun a ha b hb e=>(n4 a ha).1 (by rw[e];exact hb)⟩
  rcases List.mem_append.1 hm with h1 | h1
  ·exact n2 h1
  ·exact n1 h1
 ·rw[List.getElem?_map,show rg[i]? = some q from hq];rfl
 ·rcases h.EG.2 with ⟨h1,h2⟩ | ⟨gb,cb,h1,h2,_⟩
  ·refine .inl ⟨h2,?_,h1⟩
   show aB bv = []
   rw[h1];rfl
  ·refine .inr ⟨gb,cb,_,?_,h1,h2⟩
   show aB bv = [gb]
   rw[h1];rfl
theorem iP.new{H:Heap}{g gk w:Nat}{A:Nat→Nat→Rat}{unit:Nat→Nat}(bD:∀q,q∈[gk,g]→H q≠none)(h:gk≠g):iP (rem H [gk,g]) g gk w A unit H (.slice none 0 0) 0 [] (.slice none 0 0) 0 []:=
 ⟨bD,(by show [gk,g].Nodup;simp[h]),.refl _,oY _ _ _,(fun q hq=>by cases hq),oY _ _ _,(fun j p hp=>by simp at hp)⟩
theorem bU.nums{K K':Heap}{v:Value}{f:Nat→Rat}{k:Nat}{ys:List Value}(h:bU K v 90 3 k ys)(hy:∀K:Heap,bI (bo K) 3 ys (aT f k))(hl:Heap.le K K'):aC bo 3 K' v (aT f k):=by
 obtain⟨A,c,rfl⟩:=h.form
 refine⟨A,c,_,by rw[cS],?_,h.rd.le hl,hy _⟩
 rw[cS]
 rcases h.2 with ⟨k1,k2⟩ | ⟨g,cap,k1,_,k3,_⟩
 ·omega
 ·cases k1;exact k3
theorem SF{s:Int}(h:s=1∨s = -1):aJ (s:Rat)≤1:=by
 rcases h with h | h <;> subst h <;> decide
theorem acn(A:Option Addr)(k c:Nat):∀u,u∈[Value.slice A k c]→u.oneCell'=true:=fun u hu=>by rw[List.mem_singleton]at hu;rw[hu];rfl
end Go.ay
namespace Go.ay
open Go.Proofs Num Lp
theorem uE(f:Nat→Rat)(k:Nat)(v:Rat):fE f k v k=v:=by simp[fE]
theorem kD{f:Nat→Rat}{k j:Nat}{v:Rat}(h:j≠k):fE f k v j=f j:=by simp[fE,h]
section
variable {p:Prg}
theorem IE{a:Nat→Rat}{sg:Rat}{k x:Nat}(hk:k≤p.lp.n)(hx:bZ p.lp.free k≤x):jO p.lay a sg k x=0:=by
 induction k with
 | zero=>rfl
 | succ k ih=>
  have h1:bZ p.lp.free (k+1)=bZ p.lp.free k+1+(if p.lp.free k then 1 else 0):=rfl
  rw[yU,y5 p (by omega),EK p (by omega)]
  unfold lH
  by_cases hf:p.lp.free k=true
  ·rw[if_pos hf]at h1
   rw[if_pos hf,if_pos (by omega),kD (by rw[Int.toNat_natCast];omega),kD (by omega)]
   exact ih (by omega) (by omega)
  ·rw[if_neg hf]at h1
   rw[if_neg hf,if_neg (by omega),kD (by omega)]
   exact ih (by omega) (by omega)
theorem IF{a:Nat→Rat}{sg:Rat}{k j:Nat}(hk:k≤p.lp.n)(hj:j<k):jO p.lay a sg k (bZ p.lp.free j)=a j*sg∧(p.lp.free j=true→jO p.lay a sg k (bZ p.lp.free j+1) = -(a j*sg)):=by
 induction k with
 | zero=>omega
 | succ k ih=>
  rw[yU,y5 p (by omega),EK p (by omega)]
  unfold lH
  by_cases e:j=k
  ·subst e
   by_cases hf:p.lp.free j=true
   ·rw[if_pos hf,if_pos (by omega),Int.toNat_natCast]
    refine⟨?_,fun _=>uE _ _ _⟩
    rw[kD (by omega),uE]
   ·rw[if_neg hf,if_neg (by omega),uE]
    exact⟨rfl,fun h=>absurd h hf⟩
  ·have hm:=Mf (fr:=p.lp.free) (show j<k by omega)
   have rW:=ih (by omega) (by omega)
   by_cases hf:p.lp.free k=true
   ·rw[if_pos hf,if_pos (by omega),Int.toNat_natCast]
    refine⟨?_,fun h=> ?_⟩
    ·rw[kD (by omega),kD (by omega)];exact rW.1
    ·rw[if_pos h]at hm
     rw[kD (by omega),kD (by omega)];exact rW.2 h
   ·rw[if_neg hf,if_neg (by omega)]
    refine⟨?_,fun h=> ?_⟩
    ·rw[kD (by omega)];exact rW.1
    ·rw[if_pos h]at hm
     rw[kD (by omega)];exact rW.2 h
theorem SG{i:Nat}:p.c1≤p.unit i:=by
 show _≤py _ _ _ _ _
 unfold py
 split
 ·exact(uB _ _ _).2
 ·exact Nat.le_trans (re p) (wJ _ _ _ _).2
theorem EL{i:Nat}(h:fV (p.lp.rel i) (p.aR i)=true):(p.lp.rel i=1∧p.aR i=1)∨(p.lp.rel i=3∧p.aR i = -1):=by
 unfold fV at h
 rwa [decide_eq_true_eq]at h
theorem BF{i:Nat}(h:fV (p.lp.rel i) (p.aR i)=true):p.unit i=bO p.lp.rel p.c1 i:=by
 show py _ _ _ _ _=_;unfold py;rw[if_pos h]
theorem BG{i:Nat}(h:¬fV (p.lp.rel i) (p.aR i)=true):p.unit i=bx p.lp.rel p.aR p.u i:=by
 show py _ _ _ _ _=_;unfold py;rw[if_neg h]
theorem Mq{rel:Nat→Int}{c i q:Nat}(hi:rel i≠2)(hq:rel q≠2)(h:q≠i):bO rel c q≠bO rel c i:=by
 rcases Nat.lt_or_gt_of_ne h with h | h
 ·have:=Mg (rel:=rel) (c:=c) h
  rw[if_neg hq]at this;omega
 ·have:=Mg (rel:=rel) (c:=c) h
  rw[if_neg hi]at this;omega
theorem EM{i:Nat}(hi:i<p.lp.m)(hr:p.lp.rel i≠2):bO p.lp.rel p.c1 i<p.u:=by
 have:=Mp p hi hr
 unfold eE at this
 rw[if_neg hr]at this
 omega
theorem aco{i q:Nat}(hi:i<p.lp.m)(hq:q<p.lp.m)(h:q≠i):p.unit q≠p.unit i:=by
 by_cases oi:fV (p.lp.rel i) (p.aR i)=true
 ·have ri:p.lp.rel i≠2:=by have:=EL oi;omega
  by_cases oq:fV (p.lp.rel q) (p.aR q)=true
  ·have rq:p.lp.rel q≠2:=by have:=EL oq;omega
   rw[BF oi,BF oq];exact Mq ri rq h
  ·rw[BF oi,BG oq]
   have:=EM hi ri
   have:=(wJ p.lp.rel p.aR p.u q).2
   omega
 ·by_cases oq:fV (p.lp.rel q) (p.aR q)=true
  ·have rq:p.lp.rel q≠2:=by have:=EL oq;omega
   rw[BG oi,BF oq]
   have:=EM hq rq
   have:=(wJ p.lp.rel p.aR p.u i).2
   omega
  ·rw[BG oi,BG oq]
   rcases Nat.lt_or_gt_of_ne h with h | h
   ·have:=Mh (rel:=p.lp.rel) (sg:=p.aR) (u:=p.u) h
    rw[if_neg oq]at this;omega
   ·have:=Mh (rel:=p.lp.rel) (sg:=p.aR) (u:=p.u) h
    rw[if_neg oi]at this;omega
theorem SH{i q:Nat}(hi:i<p.lp.m)(ri:p.lp.rel i≠2)(h:q≠i):p.unit q≠bO p.lp.rel p.c1 i:=by
 by_cases oq:fV (p.lp.rel q) (p.aR q)=true
 ·have rq:p.lp.rel q≠2:=by have:=EL oq;omega
  rw[BF oq];exact Mq ri rq h
 ·rw[BG oq]
  have:=EM hi ri
  have:=(wJ p.lp.rel p.aR p.u q).2
  omega
theorem BH(i:Nat):p.fF.A i=fE (fE (q7 (jO p.lay (p.lp.a i) (p.aR i:Rat) p.lp.n) (p.lp.rel i) (eE p.lp.rel p.c1 i) (p.aR i:Rat)) (p.unit i) 1) p.w (p.lp.b i*(p.aR i:Rat)):=rfl
theorem Mr{f:Nat→Rat}{rel slack:Int}{sg:Rat}{x:Nat}(h:rel≠2→x≠slack.toNat):q7 f rel slack sg x=f x:=by
 unfold q7
 split
 ·exact kD (h (by omega))
 ·split
  ·exact kD (h (by omega))
  ·rfl
theorem IG{i:Nat}(hr:p.lp.rel i≠2):(eE p.lp.rel p.c1 i).toNat=bO p.lp.rel p.c1 i:=by
 unfold eE;rw[if_neg hr,Int.toNat_natCast]
theorem SI{i x:Nat}(hx:x<p.c1):p.fF.A i x=jO p.lay (p.lp.a i) (p.aR i:Rat) p.lp.n x:=by
 have h1:=re p
 have h2:=lj p
 have h3:=SG (p:=p) (i:=i)
 rw[BH,kD (by omega),kD (by omega),Mr]
 intro hr
 rw[IG hr]
 have:=(uB p.lp.rel p.c1 i).2
 omega
theorem acp{i j:Nat}(hj:j<p.lp.n):p.fF.A i (bZ p.lp.free j)=p.lp.a i j*(p.aR i:Rat):=by
 rw[SI (ID p hj)];exact(IF (Nat.le_refl _) hj).1
theorem acq{i j:Nat}(hj:j<p.lp.n)(hf:p.lp.free j=true):p.fF.A i (bZ p.lp.free j+1) = -(p.lp.a i j*(p.aR i:Rat)):=by
 have:=BE p hj
 unfold lH at this
 rw[if_pos hf]at this
 rw[SI (by omega)];exact(IF (Nat.le_refl _) hj).2 hf
theorem acr{i q:Nat}(hi:i<p.lp.m)(hv:p.lp.rel i=1∨p.lp.rel i=3):p.fF.A q (bO p.lp.rel p.c1 i)=if q=i then(if p.lp.rel i=1 then(p.aR i:Rat)else -(p.aR i:Rat))else 0:=by
 have hr:p.lp.rel i≠2:=by omega
 have h1:=EM hi hr
 have h2:=lj p
 have h3:=(uB p.lp.rel p.c1 i).2
 rw[BH,kD (by omega)]
 by_cases e:q=i
 ·subst e
  rw[if_pos rfl]
  by_cases o:fV (p.lp.rel q) (p.aR q)=true
  ·rw[BF o,uE]
   rcases EL o with ⟨k1,k2⟩ | ⟨k1,k2⟩
   ·rw[if_pos k1,k2];rfl
   ·rw[if_neg (by omega),k2];grind
  ·rw[kD (by rw[BG o];have:=(wJ p.lp.rel p.aR p.u q).2;omega)]
   unfold q7
   rw[IG hr]
   by_cases k1:p.lp.rel q=1
   ·rw[if_pos k1,if_pos k1,uE]
   ·rw[if_neg k1,if_neg k1,if_pos (by omega),uE]
 ·rw[if_neg e,kD (Ne.symm (SH hi hr e)),Mr (fun hq=>by rw[IG hq];exact Ne.symm (Mq hr hq e))]
  exact IE (Nat.le_refl _) h3
theorem SJ{i q:Nat}(hi:i<p.lp.m)(hq:q<p.lp.m):p.fF.A q (p.unit i)=if q=i then 1 else 0:=by
 have h1:=uD p hi
 rw[BH,kD (by omega)]
 by_cases e:q=i
 ·subst e
  rw[if_pos rfl,uE]
 ·rw[if_neg e,kD (Ne.symm (aco hi hq e)),Mr]
  ·exact IE (Nat.le_refl _) SG
  ·intro rq
   rw[IG rq]
   exact SH hq rq (Ne.symm e)
theorem SK(i:Nat):p.fF.A i p.w=p.lp.b i*(p.aR i:Rat)∧0≤p.fF.A i p.w:=by
 have h:p.fF.A i p.w=p.lp.b i*(p.aR i:Rat):=by rw[BH,uE]
 refine⟨h,?_⟩
 rw[h]
 show 0≤p.lp.b i*((mL (p.lp.b i) (p.lp.rel i):Int):Rat)
 unfold mL
 split
 ·rename_i hc
  have:p.lp.b i≤0:=by rcases hc with hc | hc <;> grind
  show 0≤p.lp.b i*((-1:Int):Rat)
  grind
 ·rename_i hc
  have:0≤p.lp.b i:=by
   have:¬p.lp.b i<0:=fun h=>hc (.inl h)
   grind
  show 0≤p.lp.b i*((1:Int):Rat)
  grind
def _root_.Lp.Prg.rf(p:Prg)(i:Nat):Option Nat:=if p.lp.rel i=2 then none else some (bO p.lp.rel p.c1 i)
theorem BI{j:Nat}(h:j<p.lp.n):p.lay.mF j=if p.lp.free j then some (bZ p.lp.free j+1)else none:=by
 unfold TL.mF
 rw[EK p h]
 unfold lH
 by_cases hf:p.lp.free j=true
 ·rw[if_pos hf,if_pos hf,if_pos (by omega),Int.toNat_natCast]
 ·rw[if_neg hf,if_neg hf,if_neg (by omega)]
theorem SL{i:Nat}(h:i<p.lp.m):p.lay.uF i=p.unit i:=by
 simp[TL.uF,Prg.lay,List.getD,h]
theorem BJ{i:Nat}(h:i<p.lp.m):p.lay.sF i=(p.aR i:Rat):=by
 have:p.lay.js[i]? = some ((p.aR i:Int):Rat):=fp (f:=fun i=>(p.aR i:Rat)) h
 exact gq this
theorem acs(f:Nat→Rat){k:Nat}(hk:k≤p.lp.n):aV (bZ p.lp.free k) f=aV k (fun j=>f (p.lay.pF j)+gp f (p.lay.mF j)):=by
 induction k with
 | zero=>rfl
 | succ k ih=>
  have h1:bZ p.lp.free (k+1)=bZ p.lp.free k+1+(if p.lp.free k then 1 else 0):=rfl
  rw[fJ,←ih (by omega),y5 p (by omega),BI (by omega)]
  by_cases hf:p.lp.free k=true
  ·rw[if_pos hf]at h1⊢
   rw[h1,fJ,fJ]
   simp only[gp];grind
  ·rw[if_neg hf]at h1⊢
   rw[h1,Nat.add_zero,fJ]
   simp only[gp];grind
theorem acu(f:Nat→Rat)(k:Nat):aV (bO p.lp.rel p.c1 k) f=aV p.c1 f+aV k (fun i=>gp f (p.rf i)):=by
 induction k with
 | zero=>rw[vW,Rat.add_zero];rfl
 | succ k ih=>
  have h1:bO p.lp.rel p.c1 (k+1)=bO p.lp.rel p.c1 k+(if p.lp.rel k=2 then 0 else 1):=rfl
  rw[fJ]
  by_cases hr:p.lp.rel k=2
  ·rw[if_pos hr]at h1
   have:p.rf k=none:=by unfold Prg.rf;rw[if_pos hr]
   rw[h1,Nat.add_zero,this,ih]
   simp only[gp];grind
  ·rw[if_neg hr]at h1
   have:p.rf k=some (bO p.lp.rel p.c1 k):=by unfold Prg.rf;rw[if_neg hr]
   rw[h1,this,fJ,ih]
   simp only[gp];grind
theorem IH(aP:p.Ok):dK p.lp p.fF.A p.w p.u p.lay.pF p.lay.mF p.rf p.lay.uF p.lay.sF where
 valid:=aP.valid
 uw:=lj p
 QJ i hi:=by
  rw[BJ hi]
  rcases BD (p.lp.b i) (p.lp.rel i)with h | h
  ·left;show ((mL _ _:Int):Rat)=1;rw[h];rfl
  ·right;show ((mL _ _:Int):Rat) = -1;rw[h];rfl
 rhs i hi:=by rw[BJ hi];exact SK i
 pl j hj:=by
  rw[y5 p hj]
  refine⟨Nat.lt_of_lt_of_le (ID p hj) (re p),fun i hi=> ?_⟩
  rw[BJ hi];exact acp hj
 mi j hj:=by
  rw[BI hj]
  refine⟨fun h=>by rw[h];rfl,fun k hk=> ?_⟩
  by_cases hf:p.lp.free j=true
  ·rw[if_pos hf]at hk
   cases hk
   have h1:=BE p hj
   unfold lH at h1
   rw[if_pos hf]at h1
   have h2:=re p
   refine⟨by omega,fun i hi=> ?_⟩
   rw[BJ hi];exact acq hj hf
  ·rw[if_neg hf]at hk;cases hk
 Lk j hj hf:=by
  rw[BI hj,if_pos hf];exact⟨_,rfl⟩
 sl i hi:=by
  refine⟨fun h=>by unfold Prg.rf;rw[if_pos h],fun h=>⟨_,by unfold Prg.rf;rw[if_neg h]⟩,fun k hk=> ?_⟩
  unfold Prg.rf at hk
  by_cases hr:p.lp.rel i=2
  ·rw[if_pos hr]at hk;cases hk
  ·rw[if_neg hr]at hk
   cases hk
   refine⟨EM hi hr,fun q hq=> ?_⟩
   rw[BJ hi]
   exact acr hi (by have:=aP.valid i hi;omega)
 un i hi:=by
  rw[SL hi]
  exact⟨uD p hi,fun q hq=>SJ hi hq⟩
 sum f:=by
  have h1:p.u=bO p.lp.rel p.c1 p.lp.m:=rfl
  rw[h1,acu,show p.c1=bZ p.lp.free p.lp.n from rfl,acs f (Nat.le_refl _)]
theorem mM:p.lay.Ok p.lp.n p.lp.m where
 Ib:=by simp[Prg.lay]
 Ic:=by simp[Prg.lay]
 LN:=by simp[Prg.lay]
 LO:=cS _ _
 pw j hj:=by
  rw[y5 p hj]
  have:=ID p hj;have:=re p;have:=lj p
  show _<p.w;omega
 mw j hj:=by
  rw[EK p hj]
  have:=BE p hj;have:=re p;have:=lj p
  show _<((p.w:Nat):Int);omega
 uw i hi:=by rw[SL hi];exact uD p hi
 s1 i hi:=by rw[BJ hi];exact SF (BD _ _)
theorem acv:p.fF.WF where
 lt i hi:=uD p hi
 unit i k hi hk:=SJ hi hk
 zero i hi:=rfl
theorem acw:p.fF.kT:=fun i _=>(SK i).2
theorem acx:ao.Rows p.fF.A p.lp.m p.w p.fF:=ao.aal (fun _ _=>rfl) rfl rfl
end
end Go.ay
namespace Go.ay
open Go.Proofs Num Lp
theorem BK{D X:Nat}{q:Rat}(D':Nat)(h:ao.dN D X q):ao.dN (D*D') (X*D') q:=by
 obtain⟨z,h1,h2⟩:=h
 refine⟨z*D',?_,?_⟩
 ·rw[Rat.natCast_mul,Rat.intCast_mul,←h1]
  have:((D':Int):Rat)=(D':Rat):=rfl
  rw[this];grind
 ·rw[Int.natAbs_mul,Int.natAbs_natCast];exact Nat.mul_le_mul_right _ h2
theorem SM{D D' X Y:Nat}{q r:Rat}(h:ao.dN D X q)(k:ao.dN D' Y r):ao.dN (D*D') (X*Y) (q*r):=by
 obtain⟨z,h1,h2⟩:=h
 obtain⟨y,k1,k2⟩:=k
 refine⟨z*y,?_,?_⟩
 ·rw[Rat.natCast_mul,Rat.intCast_mul,←h1,←k1];grind
 ·rw[Int.natAbs_mul];exact Nat.mul_le_mul h2 k2
theorem Ms{T:ao}{f:Nat→Rat}{D D' X Y k j:Nat}(hB:∀i,i<T.m→T.B i<T.n)(hf:∀j,j<T.n→ao.dN D X (f j))(hA:∀i,i<T.m→ao.dN D' Y (T.A i j))(hk:k≤T.m)(hj:j≤T.n):
  ao.dN (D*D') (X*D'+k*(X*Y)) (jz T f k j):=by
 unfold jz
 refine ao.dN.sub ?_ (ao.aaQ k _ fun i hi=>SM (hf _ (hB i (by omega))) (hA i (by omega)))
 split
 ·exact ao.yw _ _
 ·exact BK _ (hf j (by omega))
theorem acy(e:Nat):2^e<B^(e+1):=by
 have h1:2^(e+1)≤B^(e+1):=Nat.pow_le_pow_left (by decide) _
 have h2:2^e<2^(e+1):=Nat.pow_lt_pow_right (by decide) (by omega)
 omega
theorem BL{D X e:Nat}{q:Rat}(hD:0<D)(h:ao.dN D X q)(h1:D≤2^e)(h2:X≤2^e):aJ q≤e+1:=by
 have h3:=ao.aaL hD h
 have h4:=acy e
 unfold aJ
 rw[Nat.max_le,ji,ji]
 omega
theorem EN{D D0 n j e f:Nat}(hD:D≤2^e)(h0:D0≤2^f):D*ao.kU n j D0 1≤2^(e+f)∧2^(e+ao.kU n j f 0)≤2^(e+f):=by
 have h1:(1:Nat)≤2^f:=Nat.one_le_two_pow
 unfold ao.kU
 split
 ·exact⟨by rw[Nat.pow_add];exact Nat.mul_le_mul hD h0,Nat.le_refl _⟩
 ·exact⟨by rw[Nat.pow_add];exact Nat.mul_le_mul hD h1,Nat.pow_le_pow_right (by decide) (by omega)⟩
theorem Mt{D D0 n j:Nat}(hD:0<D)(h0:0<D0):0<D*ao.kU n j D0 1:=Nat.mul_pos hD (by unfold ao.kU;split <;> omega)
theorem acz{D0 f e:Nat}{T:ao}(h:ao.Bd D0 f e T)(p0:0<D0)(h0:D0≤2^f):Sz (e+f+1) T:=by
 obtain⟨D,h1,h2,h3,h4⟩:=h
 exact⟨fun i hi j hj=>BL (Mt h1 p0) (h3 i hi j hj) (EN h2 h0).1 (EN (j:=j) (n:=T.n) h2 h0).2,fun j hj=>BL (Mt h1 p0) (h4 j hj) (EN h2 h0).1 (EN (j:=j) (n:=T.n) h2 h0).2⟩
def In(l:List Rat)(p:Prg):Prop:=∀i,i<p.lp.m→∀j,j<p.lp.n→p.lp.a i j∈l
structure j7(D0 f:Nat)(p:Prg):Prop where
 pos:0<D0
 le:D0≤2^f
 b:∀i,i<p.lp.m→ao.dN D0 (2^f) (p.lp.b i)
theorem BM{P:Rat→Prop}{f:Nat→Rat}{k:Nat}{q:Rat}(hf:∀j,P (f j))(hq:P q):∀j,P (fE f k q j):=fun j=>by
 unfold fE;split
 ·exact hq
 ·exact hf j
abbrev CM(l:List Rat)(q:Rat):Prop:=ao.dN (ao.fo l) (2^(2*ao.dt l)) q
section
variable {p:Prg} {l:List Rat}
theorem SN{D X:Nat}{q:Rat}{s:Int}(h:ao.dN D X q)(hs:s=1∨s = -1):ao.dN D X (q*(s:Rat)):=by
 rcases hs with e | e
 ·rw[e,show q*((1:Int):Rat)=q by grind];exact h
 ·rw[e,show q*((-1:Int):Rat) = -q by grind];exact h.neg
theorem SO:CM l 1:=ao.Q9 l 1 (by decide)
theorem SP{s:Int}(hs:s=1∨s = -1):CM l (s:Rat):=ao.Q9 l s (by omega)
theorem SQ{a:Nat→Rat}{s:Int}(hs:s=1∨s = -1)(k:Nat)(ha:∀j,j<k→CM l (a j))(L:TL):∀j,CM l (jO L a (s:Rat) k j):=by
 induction k with
 | zero=>exact fun j=>ao.yw _ _
 | succ k ih=>
  have rW:=ih (fun j hj=>ha j (by omega))
  have h1:=SN (ha k (by omega)) hs
  intro j
  rw[yU]
  split
  ·exact BM (BM rW h1) h1.neg j
  ·exact BM rW h1 j
theorem Mu(h:In l p){i:Nat}(hi:i<p.lp.m){j:Nat}(hj:j≠p.w):CM l (p.fF.A i j):=by
 have hs:=BD (p.lp.b i) (p.lp.rel i)
 rw[BH,kD hj]
 refine BM (fun j=> ?_) SO j
 have h1:=SQ (l:=l) (L:=p.lay) hs p.lp.n (fun j hj=>ao.HP (h i hi j hj))
 unfold q7
 split
 ·exact BM h1 (SP hs) j
 ·split
  ·exact BM h1 (SP hs).neg j
  ·exact h1 j
theorem Mw{D0 f:Nat}(h:j7 D0 f p){i:Nat}(hi:i<p.lp.m):ao.dN D0 (2^f) (p.fF.A i p.w):=by
 rw[BH,uE]
 exact SN (h.b i hi) (BD (p.lp.b i) (p.lp.rel i))
def uG(T:ao)(c0:Nat→Rat):ao:={T with c:=jz T c0 T.m}
structure Inv(p:Prg)(c0:Nat→Rat)(S:ao):Prop where
 wf:S.WF
 dB:S.kT
 rows:ao.Rows p.fF.A p.lp.m p.w S
 off:dK.qV p.fF.A p.lp.m p.w c0 S.c
theorem acA{T:ao}{c0:Nat→Rat}(hB:∀i,i<T.m→T.B i<T.n)(hu:∀i k,i<T.m→k<T.m→T.A k (T.B i)=if k=i then 1 else 0){i:Nat}(hi:i<T.m):jz T c0 T.m (T.B i)=0:=by
 unfold jz
 have h1:=hB i hi
 rw[if_neg (by omega),qd hi _ (fun k hk bD=>by rw[hu i k hi hk,if_neg bD];grind),hu i i hi hi,if_pos rfl]
 grind
theorem Inv.SR{S:ao}{c0:Nat→Rat}(h0:c0 p.w=0)(hW:S.WF)(hF:S.kT)(hR:ao.Rows p.fF.A p.lp.m p.w S):Inv p c0 (uG S c0):=by
 have dE:ao.Rows p.fF.A p.lp.m p.w (uG S c0):=⟨hR.m,hR.n,hR.mul,hR.mG⟩
 refine⟨⟨hW.lt,hW.unit,fun i hi=>acA hW.lt hW.unit hi⟩,hF,dE,hR.off c0 (fun i=>c0 (S.B i)) fun j hj=> ?_⟩
 show jz S c0 S.m j=_
 unfold jz
 rw[hR.m,hR.n]
 by_cases e:j=p.w
 ·rw[if_pos e,e,h0]
 ·rw[if_neg e]
theorem Inv.step{S:ao}{c0:Nat→Rat}(h:Inv p c0 S){u r s:Nat}(hu:u≤S.n)(hb:S.sy u r s):Inv p c0 (S.pivot r s):=by
 have hp:S.A r s≠0:=by have:=hb.pos;grind
 have hs:=hb.su
 have hr:=hb.rm
 exact⟨ao.AR h.wf hr (by omega) hp,ao.Lb h.dB hb,h.rows.pivot (by rw[←h.rows.m];exact hr) hp,h.rows.QM h.off (by rw[←h.rows.m];exact hr)⟩
theorem Inv.same{S T:ao}{c0:Nat→Rat}(h:Inv p c0 S)(h':Inv p c0 T):ao.jq S T:=
 ⟨by rw[h.rows.m,h'.rows.m],by rw[h.rows.n,h'.rows.n],fun x=>by rw[h.rows.mG,h'.rows.mG],fun x hx=>by
  rw[h.rows.cost h.off hx,h'.rows.cost h'.off ((h'.rows.mG x).2 ((h.rows.mG x).1 hx))]⟩
theorem SS(m:Nat):m+1≤2^m:=by
 induction m with
 | zero=>decide
 | succ m ih=>rw[Nat.pow_succ];omega
theorem acB{D0 f:Nat}(h:In l p)(hb:j7 D0 f p){c0:Nat→Rat}(hc:∀j,j<p.w→CM l (c0 j)):ao.Bd D0 f (4*ao.dt l+p.lp.m) (uG p.fF c0):=by
 have hD:=ao.DH l
 have BN:=ao.yu l
 have hm:=SS p.lp.m
 generalize II:2^(2*ao.dt l)=X at *
 have hX:1≤X:=by rw[←II];exact Nat.one_le_two_pow
 have IJ:ao.fo l≤X:=by rw[←II];exact Nat.le_trans BN (Nat.pow_le_pow_right (by decide) (by omega))
 have p2:2^(4*ao.dt l+p.lp.m)=X*X*2^p.lp.m:=by rw[←II,←Nat.pow_add,←Nat.pow_add];congr 1;omega
 have SU:ao.fo l*ao.fo l≤X*X:=Nat.mul_le_mul IJ IJ
 have hXD:X*ao.fo l≤X*X:=Nat.mul_le_mul_left _ IJ
 have hM:∀x,x≤X*X→x≤2^(4*ao.dt l+p.lp.m):=fun x hx=>by
  rw[p2];exact Nat.le_trans hx (Nat.le_mul_of_pos_right _ (by omega))
 have lM:∀{q},CM l q→ao.dN (ao.fo l) X q:=fun{q} h=>by rw[←II];exact h
 have nV:(uG p.fF c0).n=p.w:=rfl
 refine⟨ao.fo l*ao.fo l,Nat.mul_pos hD hD,hM _ SU,fun i hi j hj=> ?_,fun j hj=> ?_⟩
 ·by_cases e:j=p.w
  ·subst e
   rw[←nV,ao.wh,ao.wh,Nat.mul_comm,nV]
   refine(BK (ao.fo l*ao.fo l) (Mw hb hi)).mono ?_
   rw[Nat.pow_add,Nat.mul_comm]
   exact Nat.mul_le_mul_right _ (hM _ SU)
  ·rw[ao.Bl (by rw[nV]at hj⊢;omega),ao.Bl (by rw[nV]at hj⊢;omega),Nat.mul_one]
   exact(BK _ (lM (Mu h hi e))).mono (hM _ hXD)
 ·by_cases e:j=p.w
  ·subst e
   rw[←nV,ao.wh,ao.wh,nV]
   have h1:=BK (ao.fo l) (Ms (T:=p.fF) (k:=p.lp.m) (j:=p.w) (fun i hi=>uD p hi) (fun j hj=>lM (hc j hj)) (fun i hi=>Mw hb hi) (Nat.le_refl _) hj)
   rw[show ao.fo l*ao.fo l*D0=ao.fo l*D0*ao.fo l by rw[Nat.mul_assoc,Nat.mul_assoc,Nat.mul_comm D0]]
   refine h1.mono ?_
   have h2:X*D0≤X*2^f:=Nat.mul_le_mul_left _ hb.le
   have h3:X*D0+p.lp.m*(X*2^f)≤(p.lp.m+1)*(X*2^f):=by rw[Nat.succ_mul p.lp.m];omega
   refine Nat.le_trans (Nat.mul_le_mul h3 IJ) ?_
   rw[Nat.pow_add,p2]
   have e4:(p.lp.m+1)*(X*2^f)*X=X*X*(p.lp.m+1)*2^f:=by
    rw[Nat.mul_comm _ X,Nat.mul_left_comm (p.lp.m+1) X,←Nat.mul_assoc,Nat.mul_assoc (X*X)]
   rw[e4]
   exact Nat.mul_le_mul_right _ (Nat.mul_le_mul_left _ hm)
  ·rw[ao.Bl (by rw[nV]at hj⊢;omega),ao.Bl (by rw[nV]at hj⊢;omega),Nat.mul_one]
   refine(Ms (T:=p.fF) (k:=p.lp.m) (fun i hi=>uD p hi) (fun j hj=>lM (hc j hj)) (fun i hi=>lM (Mu h hi e)) (Nat.le_refl _) hj).mono ?_
   rw[Nat.add_zero,p2]
   refine Nat.le_trans (m:=(p.lp.m+1)*(X*X)) ?_ (by rw[Nat.mul_comm];exact Nat.mul_le_mul_left _ hm)
   rw[Nat.succ_mul p.lp.m];omega
def gU(l:List Rat)(k m:Nat):Nat:=2^k*(4*ao.dt l+m+1)
def bits(l:List Rat)(k m f:Nat):Nat:=gU l k m+f
theorem Inv.base{c0:Nat→Rat}(h0:c0 p.w=0):Inv p c0 (uG p.fF c0):=Inv.SR h0 acv acw acx
def BO(p:Prg)(k:Nat):Prop:=p.lp.m≤k∨p.w≤p.lp.m+k
theorem Inv.bd{D0 f k:Nat}{S:ao}{c0:Nat→Rat}(h:Inv p c0 S)(hl:In l p)(hb:j7 D0 f p)(hk:BO p k)(h0:c0 p.w=0)(hc:∀j,j<p.w→CM l (c0 j)):ao.Bd D0 f (gU l k p.lp.m-1) S:=by
 refine ao.aaI (Inv.base h0).wf h.wf ((Inv.base h0).same h) (acB hl hb hc) ?_
 rcases hk with hk | hk
 ·exact Nat.le_trans (ao.aaJ _ _) (by rw[h.rows.m];exact hk)
 ·have h1:=ao.aaK (Inv.base h0).wf h.wf ((Inv.base h0).same h)
  have h2:(uG p.fF c0).n=p.w:=rfl
  have h3:(uG p.fF c0).m=p.lp.m:=rfl
  omega
theorem BP(l:List Rat)(k m:Nat):2*ao.dt l+m+1≤gU l k m:=by
 unfold gU
 have h1:1≤2^k:=Nat.one_le_two_pow
 have h2:1*(4*ao.dt l+m+1)≤2^k*(4*ao.dt l+m+1):=Nat.mul_le_mul_right _ h1
 omega
theorem Inv.sz{D0 f k:Nat}{S:ao}{c0:Nat→Rat}(h:Inv p c0 S)(hl:In l p)(hb:j7 D0 f p)(hk:BO p k)(h0:c0 p.w=0)(hc:∀j,j<p.w→CM l (c0 j)):Sz (bits l k p.lp.m f) S:=by
 have h1:=acz (h.bd hl hb hk h0 hc) hb.pos hb.le
 have h2:=BP l k p.lp.m
 rwa [show gU l k p.lp.m-1+f+1=bits l k p.lp.m f by unfold bits;omega]at h1
theorem Mx{q:Rat}(h:CM l q)(k m f:Nat):aJ q≤bits l k m f:=by
 have h2:=BP l k m
 refine Nat.le_trans (BL (e:=2*ao.dt l) (ao.DH l) h ?_ (Nat.le_refl _)) (by unfold bits;omega)
 exact Nat.le_trans (ao.yu l) (Nat.pow_le_pow_right (by decide) (by omega))
theorem SV{D0 f k:Nat}{S:ao}{c1:Nat→Rat}(hB:∀i,i<S.m→S.B i<S.n)(hm:S.m=p.lp.m)(hn:S.n=p.w)(hb:ao.Bd D0 f (gU l k p.lp.m-1) S)(p0:0<D0)(h0:D0≤2^f)(hc:∀j,j<p.w→CM l (c1 j)):∀k',k'≤S.m→∀j,j≤S.n→aJ (jz S c1 k' j)≤2*bits l k p.lp.m f:=by
 intro k' hk j hj
 obtain⟨D,h1,h2,h3,_⟩:=hb
 have hbp:=BP l k p.lp.m
 have hD:=ao.DH l
 have BN:=ao.yu l
 obtain⟨q1,q2⟩:=EN (j:=j) (n:=S.n) h2 h0
 have key:=Ms hB (fun j hj=>hc j (by omega)) (fun i hi=>h3 i hi j hj) hk hj
 refine Nat.le_trans (BL (e:=2*ao.dt l+(gU l k p.lp.m-1+f)+p.lp.m) (Nat.mul_pos hD (Mt h1 p0)) key ?_ ?_) (by unfold bits;omega)
 ·refine Nat.le_trans (Nat.mul_le_mul BN q1) ?_
  rw[←Nat.pow_add]
  exact Nat.pow_le_pow_right (by decide) (by omega)
 ·rw[Nat.pow_add _ _ p.lp.m,Nat.pow_add 2 (2*ao.dt l) (gU l k p.lp.m-1+f)]
  generalize 2^(gU l k p.lp.m-1+f)=Z at *
  have g1:2^(2*ao.dt l)*(D*ao.kU S.n j D0 1)≤2^(2*ao.dt l)*Z:=Nat.mul_le_mul_left _ q1
  have g3:k'*(2^(2*ao.dt l)*2^(gU l k p.lp.m-1+ao.kU S.n j f 0))≤k'*(2^(2*ao.dt l)*Z):=Nat.mul_le_mul_left _ (Nat.mul_le_mul_left _ q2)
  have g2:=SS p.lp.m
  refine Nat.le_trans (m:=(k'+1)*(2^(2*ao.dt l)*Z)) (by rw[Nat.succ_mul k',Nat.add_comm];exact Nat.add_le_add g3 g1) ?_
  rw[Nat.mul_comm];exact Nat.mul_le_mul_left _ (by omega)
end
end Go.ay
namespace Go.ay
open Go.Proofs Num Lp
section
variable {p:LP}
theorem IK{n:Nat}{a x x':Nat→Rat}(h:∀j,j<n→x j=x' j):aX n a x=aX n a x':=aae (fun _ _=>rfl) h
theorem dJ.congr{t:Rat}{x x':Nat→Rat}(h:∀j,j<p.n→x j=x' j)(hm:p.dJ t x):p.dJ t x':=
 ⟨fun j hj hf=>by rw[←h j hj];exact hm.1 j hj hf,fun i hi=>by rw[←IK h];exact hm.2 i hi⟩
theorem Signed.congr{y y':Nat→Rat}(h:∀i,i<p.m→y i=y' i)(hm:p.Signed y):p.Signed y':=fun i hi=>by rw[←h i hi];exact hm i hi
theorem SW{y y':Nat→Rat}(h:∀i,i<p.m→y i=y' i)(j:Nat):p.dQ y j=p.dQ y' j:=fB fun i hi=>by rw[h i hi]
theorem SX{y y':Nat→Rat}(h:∀i,i<p.m→y i=y' i):p.lZ y=p.lZ y':=fB fun i hi=>by rw[h i hi]
theorem vZ.congr{c x x' y y':Nat→Rat}(hx:∀j,j<p.n→x j=x' j)(hy:∀i,i<p.m→y i=y' i)(h:p.vZ c x y):p.vZ c x' y':=
 ⟨dJ.congr hx h.dB,Signed.congr hy h.signed,fun j hj=>by rw[←SW hy];exact h.dR j hj,by rw[←SX hy,←IK hx];exact h.eq⟩
theorem wa.congr{y y':Nat→Rat}(hy:∀i,i<p.m→y i=y' i)(h:p.wa y):p.wa y':=
 ⟨Signed.congr hy h.signed,fun j hj=>by rw[←SW hy];exact h.dR j hj,by rw[←SX hy];exact h.pos⟩
theorem wb.congr{c x x' r r':Nat→Rat}(hx:∀j,j<p.n→x j=x' j)(hr:∀j,j<p.n→r j=r' j)(h:p.wb c x r):p.wb c x' r':=
 ⟨dJ.congr hx h.dB,dJ.congr hr h.ray,by rw[←IK hr];exact h.neg⟩
end
section
variable {p:Prg} {l c:List Rat} {T:ao}
abbrev pn(p:Prg):Nat→Rat:=ao.jL p.u p.w
abbrev lk(p:Prg)(c:List Rat):Nat→Rat:=jO p.lay (fn c) 1 p.lp.n
theorem BQ:pn p p.w=0:=ao.QS _ _
theorem EO(j:Nat):CM l (pn p j):=by
 show CM l (ao.jL _ _ _)
 unfold ao.jL;split
 ·exact SO
 ·exact ao.yw _ _
theorem IL:ao.DD p.lp p.w p.lay.pF p.lay.mF p.rf (fn c) (lk p c) where
 pl j hj:=by rw[y5 p hj];show jO p.lay (fn c) 1 p.lp.n _=_;rw[(IF (Nat.le_refl _) hj).1];grind
 mi j hj k hk:=by
  rw[BI hj]at hk
  by_cases hf:p.lp.free j=true
  ·rw[if_pos hf]at hk;cases hk
   show jO p.lay (fn c) 1 p.lp.n _=_
   rw[(IF (Nat.le_refl _) hj).2 hf];grind
  ·rw[if_neg hf]at hk;cases hk
 sl i hi k hk:=by
  unfold Prg.rf at hk
  split at hk
  ·cases hk
  ·cases hk
   exact IE (Nat.le_refl _) (uB _ _ _).2
 last:=IE (Nat.le_refl _) (Nat.le_trans (re p) (lj p))
theorem My:lk p c p.w=0:=(IL (p:=p) (c:=c)).last
theorem IM(hc:∀j,j<p.lp.n→fn c j∈l)(j:Nat):CM l (lk p c j):=by
 have:=SQ (l:=l) (a:=fn c) (s:=1) (.inl rfl) p.lp.n (fun j hj=>ao.HP (hc j hj)) p.lay j
 exact this
theorem acC(aP:p.Ok)(h:Inv p (pn p) T)(hn:∀j,j<p.u→0≤T.c j)(iO:T.c p.w<0):AV p (aT (fun i=>p.lay.sF i*(pn p (p.lay.uF i)-T.c (p.lay.uF i))) p.lp.m):=
 ⟨aP,cS _ _,wa.congr (fun i hi=>(Bm hi).symm) (dK.aak (IH aP) h.off (fun j hj=>ao.aao hj) BQ hn iO)⟩
theorem acD(h:Inv p (pn p) T)(hv:¬T.c p.w<0):ao.Clean p.u 0 T:=
 ao.Clean.start (ao.aar h.wf h.dB h.rows h.off (by grind)).2
theorem acE(h:Inv p (pn p) T){s:Nat}(hs:s<p.u)(iO:T.c s<0)(hA:∀i,i<T.m→T.A i s≤0):False:=
 ao.aap h.wf h.rows h.off (Nat.lt_of_lt_of_le hs (lj p)) iO hA
def Jx(p:Prg)(k:Nat)(S:ao):Prop:=Inv p (pn p) S∧ao.Clean p.u k S
theorem Jx.skip{k:Nat}(h:Jx p k T)(hk:T.B k<p.u∨∀j,j<p.u→T.A k j=0):Jx p (k+1) T:=⟨h.1,h.2.skip hk⟩
theorem Jx.pivot{k s:Nat}(h:Jx p k T)(hk:k<T.m)(hu:p.u≤T.B k)(hs:s<p.u)(hp:T.A k s≠0):Jx p (k+1) (T.pivot k s):=by
 have oC:=lj p
 have hm:k<p.lp.m:=by rw[←h.1.rows.m];exact hk
 exact⟨⟨ao.AR h.1.wf hk (by rw[h.1.rows.n];omega) hp,h.2.dB h.1.dB hk hu s,h.1.rows.pivot hm hp,h.1.rows.QM h.1.off hm⟩,h.2.aas hk hu hs⟩
def I2(p:Prg)(c:List Rat)(S:ao):Prop:=Inv p (lk p c) S∧ao.Clean p.u S.m S
theorem I2.start(h:Jx p p.lp.m T):I2 p c (uG T (lk p c)):=by
 have hc:=h.2
 rw[←h.1.rows.m]at hc
 exact⟨Inv.SR My h.1.wf h.1.dB h.1.rows,⟨hc.zero,hc.row⟩⟩
theorem I2.step{r s:Nat}(h:I2 p c T)(hb:T.sy p.u r s):I2 p c (T.pivot r s):=
 ⟨h.1.step (by rw[h.1.rows.n];exact lj p) hb,h.2.aat hb⟩
theorem acF(aP:p.Ok)(ej:c.length=p.free.length)(h:I2 p c T)(hn:∀j,j<p.u→0≤T.c j):
  sB p c (aT (dK.vec p.lay.pF p.lay.mF T.pt) p.lp.n) (aT (fun i=>p.lay.sF i*(lk p c (p.lay.uF i)-T.c (p.lay.uF i))) p.lp.m)∧-(T.c p.w)=aX p.free.length (fn c) (fn (aT (dK.vec p.lay.pF p.lay.mF T.pt) p.lp.n)):=by
 have h1:=ao.aau (IH aP) h.1.wf h.1.dB h.1.rows h.2 IL h.1.off hn
 have h2:=vZ.congr (x':=fn (aT (dK.vec p.lay.pF p.lay.mF T.pt) p.lp.n)) (y':=fn (aT (fun i=>p.lay.sF i*(lk p c (p.lay.uF i)-T.c (p.lay.uF i))) p.lp.m)) (fun j hj=>(Bm hj).symm) (fun i hi=>(Bm hi).symm) h1
 refine⟨⟨⟨aP,cS _ _,h2.dB⟩,ej,cS _ _,h2⟩,?_⟩
 rw[←ao.QX (IH aP) h.1.wf h.1.rows h.2 IL h.1.off]
 exact IK (n:=p.lp.n) fun j hj=>(Bm hj).symm
theorem acG(aP:p.Ok)(ej:c.length=p.free.length)(h:I2 p c T){s:Nat}(hs:s<p.u)(iO:T.c s<0)(hA:∀i,i<T.m→T.A i s≤0):
  AW p c (aT (dK.vec p.lay.pF p.lay.mF T.pt) p.lp.n) (aT (dK.vec p.lay.pF p.lay.mF (T.dir s)) p.lp.n):=by
 have h1:=ao.aav (IH aP) h.1.wf h.1.dB h.1.rows h.2 IL h.1.off hs iO hA
 have h2:=wb.congr (x':=fn (aT (dK.vec p.lay.pF p.lay.mF T.pt) p.lp.n)) (r':=fn (aT (dK.vec p.lay.pF p.lay.mF (T.dir s)) p.lp.n)) (fun j hj=>(Bm hj).symm) (fun j hj=>(Bm hj).symm) h1
 exact⟨⟨aP,cS _ _,h2.dB⟩,ej,cS _ _,h2⟩
theorem MA{N:Nat}(hW:T.WF)(hz:Sz N T)(h0:1≤N){j:Nat}(hj:j<T.n):aJ (T.pt j)≤N:=by
 by_cases h:∃i,i<T.m∧T.B i=j
 ·obtain⟨i,hi,rfl⟩:=h
  rw[ao.Ln hW hi];exact hz.A i hi _ (Nat.le_refl _)
 ·rw[ao.Lo hj (fun i hi e=>absurd ⟨i,hi,e⟩ h)]
  exact Nat.le_trans (by decide) h0
theorem SY{N:Nat}(hW:T.WF)(hz:Sz N T)(h0:1≤N){s j:Nat}(hs:s≤T.n)(ql:∀i,i<T.m→T.B i≠s):aJ (T.dir s j)≤N:=by
 unfold ao.dir
 by_cases e:j=s
 ·subst e
  rw[if_pos rfl,mE (fun i hi=>by rw[if_neg (ql i hi)]),show (1:Rat)-0=1 by grind]
  exact Nat.le_trans (by decide) h0
 ·rw[if_neg e]
  by_cases h:∃i,i<T.m∧T.B i=j
  ·obtain⟨i,hi,rfl⟩:=h
   rw[qd hi _ (fun k hk bD=>by rw[if_neg (fun e'=>bD (hW.inj hk hi e'))]),if_pos rfl,show (0:Rat)-T.A i s = -(T.A i s) by grind,AL]
   exact hz.A i hi s hs
  ·rw[mE (fun i hi=>by rw[if_neg (fun e'=>h ⟨i,hi,e'⟩)]),show (0:Rat)-0=0 by grind]
   exact Nat.le_trans (by decide) h0
theorem SZ(hW:T.WF){s:Nat}(iO:T.c s<0):∀i,i<T.m→T.B i≠s:=fun i hi e=>by
 have:=hW.zero i hi
 rw[e]at this;grind
end
structure Fits(p:Prg)(c:List Rat)(M:Nat):Prop where
 one:1≤M
 pn:∀j,aJ (pn p j)≤M
 lk:∀j,aJ (lk p c j)≤M
 tab:∀i,i<p.lp.m→∀j,aJ (p.fF.A i j)≤M
 BR:∀S,Inv p (ay.pn p) S→Sz M S
 qL:∀S,Inv p (ay.lk p c) S→Sz M S
 S0:∀k,k≤p.lp.m→∀j,j≤p.w→aJ (jz (uG p.fF (ay.pn p)) (ay.pn p) k j)≤2*M
 S1:∀S,Inv p (ay.pn p) S→∀k,k≤S.m→∀j,j≤S.n→aJ (jz S (ay.lk p c) k j)≤2*M
section
variable {p:Prg} {l c:List Rat} {D0 f k:Nat}
theorem MB(hl:In l p)(tv:∀j,j<p.lp.n→fn c j∈l)(hb:j7 D0 f p)(hk:BO p k):Fits p c (bits l k p.lp.m f) where
 one:=by have:=BP l k p.lp.m;unfold bits;omega
 pn j:=Mx (EO j) _ _ _
 lk j:=Mx (IM tv j) _ _ _
 tab i hi j:=by
  by_cases e:j=p.w
  ·subst e
   refine Nat.le_trans (BL (e:=f) hb.pos (Mw hb hi) hb.le (Nat.le_refl _)) ?_
   have:=BP l k p.lp.m;unfold bits;omega
  ·exact Mx (Mu hl hi e) _ _ _
 BR S h:=h.sz hl hb hk BQ fun j _=>EO j
 qL S h:=h.sz hl hb hk My fun j _=>IM tv j
 S0:=SV (fun i hi=>uD p hi) rfl rfl ((Inv.base BQ).bd hl hb hk BQ fun j _=>EO j) hb.pos hb.le fun j _=>EO j
 S1 S h:=SV h.wf.lt h.rows.m h.rows.n (h.bd hl hb hk BQ fun j _=>EO j) hb.pos hb.le fun j _=>IM tv j
theorem S2{T:ao}(hl:In l p)(tv:∀j,j<p.lp.n→fn c j∈l)(hb:j7 D0 f p)(hk:BO p k)(h:I2 p c T):
  ∃D,0<D∧D≤2^gU l k p.lp.m∧ao.dN (D*D0) (2^(gU l k p.lp.m+f)) (-(T.c p.w))∧∀q,q∈aT (dK.vec p.lay.pF p.lay.mF T.pt) p.lp.n→ao.dN (D*D0) (2^(gU l k p.lp.m+f)) q:=by
 obtain⟨D,h1,h2,h3,h4⟩:=h.1.bd hl hb hk My fun j _=>IM tv j
 have hp:=BP l k p.lp.m
 have hn:=h.1.rows.n
 have up:∀z,2^(gU l k p.lp.m-1+z)≤2^(gU l k p.lp.m+z):=fun z=>Nat.pow_le_pow_right (by decide) (by omega)
 refine⟨D,h1,Nat.le_trans h2 (up 0),?_,fun q hq=> ?_⟩
 ·have h5:=h4 p.w (by omega)
  rw[←hn,ao.wh,ao.wh]at h5
  rw[←hn]
  exact(h5.mono (up f)).neg
 ·have S3:∀j,j<p.w→ao.dN (D*D0) (2^(gU l k p.lp.m-1+f)) (T.pt j):=fun j hj=>by
   by_cases hb:∃i,i<T.m∧T.B i=j
   ·obtain⟨i,hi,rfl⟩:=hb
    have h5:=h3 i hi p.w (by omega)
    rw[←hn,ao.wh,ao.wh]at h5
    rw[ao.Ln h.1.wf hi];exact h5
   ·rw[ao.Lo (by omega) (fun i hi e=>absurd ⟨i,hi,e⟩ hb)]
    exact ao.yw _ _
  unfold aT at hq
  obtain⟨j,hj,rfl⟩:=List.mem_map.1 hq
  have hj:=List.mem_range.1 hj
  have hm:ao.dN (D*D0) (2^(gU l k p.lp.m-1+f)) (gp T.pt (p.lay.mF j)):=by
   rw[BI hj]
   by_cases hf:p.lp.free j=true
   ·rw[if_pos hf]
    have:=BE p hj
    unfold lH at this
    rw[if_pos hf]at this
    have:=re p
    have:=lj p
    exact S3 _ (by omega)
   ·rw[if_neg hf];exact ao.yw _ _
  have h6:=(S3 _ (mM.pw j hj)).sub hm
  refine h6.mono ?_
  rw[show gU l k p.lp.m+f=(gU l k p.lp.m-1+f)+1 by omega,Nat.pow_succ];omega
end
end Go.ay
