/- The engine: a cheaper check of a drawn order (what comes before an operation is given as the bits of a number). -/
import Derived.Test.YtfjncmjbhfdnpaaGreatA10
set_option linter.unusedVariables false
namespace Go.ay
def Jj(ms:List Nat)(o:Oper):Nat:=o.after.toList.foldl (fun m e=>cond (Region.binds .any e) (m ||| (1 <<< e.on) ||| ms.getD e.on 0) m) 0
def Jk(md:Mode)(l:List Oper)(ms:List Nat):List Nat→Bool
 | []=>true
 | i::r=>r.all (fun j=>Nat.testBit (ms.getD j 0) i||Sw md l.toArray (eK l i) (eK l j))&&Jk md l ms r
def Ux(n:Nat)(md:Mode)(l:List Oper)(perm ms:List Nat):Bool:=
 !md.OQ&&CH n l&&Nat.beq perm.length l.length&&perm.all (fun i=>Nat.blt i l.length)&&CI perm&&Jk md l ms perm&&(List.range l.length).all (fun i=>perm.contains i) &&
 ((List.range l.length).all fun i=>(eK l i).after.all fun e=> !Region.binds .any e||Nat.blt e.on i)&&(List.range l.length).all fun j=>Nat.beq (ms.getD j 0) (Jj ms (eK l j))
theorem Uy{ms:List Nat}{i:Nat}:∀(es:List Edge)(m:Nat),(es.foldl (fun m e=>cond (Region.binds .any e) (m ||| (1 <<< e.on) ||| ms.getD e.on 0) m) m).testBit i=true→m.testBit i=true∨∃e,e∈es∧Region.binds .any e=true∧(e.on=i∨(ms.getD e.on 0).testBit i=true)
 | [],m,h=> .inl h
 | e::es,m,h=>by
  rcases Uy es _ h with h1 | ⟨e',h1,h2⟩
  ·cases hb:Region.binds .any e with
   | false=>dsimp only at h1;rw[hb]at h1;exact .inl h1
   | true=>
    dsimp only at h1
    rw[hb]at h1
    simp only[cond_true,Nat.testBit_or,Bool.or_eq_true]at h1
    rcases h1 with (h1 | h1) | h1
    ·exact .inl h1
    ·refine .inr ⟨e,List.mem_cons_self ..,hb,.inl ?_⟩
     rw[Nat.one_shiftLeft,Nat.testBit_two_pow]at h1
     simpa using h1
    ·exact .inr ⟨e,List.mem_cons_self ..,hb,.inr h1⟩
  ·exact .inr ⟨e',List.mem_cons_of_mem _ h1,h2⟩
theorem Uz{l:List Oper}:∀(f i j:Nat),nU l f i j=true→nU l (f+1) i j=true
 | 0,_,_,h=>by cases h
 | f+1,i,j,h=>by
  unfold nU at h⊢
  rw[Array.any_eq_true]at h⊢
  obtain⟨k,hk,h⟩:=h
  refine⟨k,hk,?_⟩
  simp only[Bool.and_eq_true,Bool.or_eq_true]at h⊢
  exact⟨h.1,h.2.imp id fun h=>Uz f i _ h⟩
theorem UA{l:List Oper}{f g i j:Nat}(h:nU l f i j=true)(hg:f≤g):nU l g i j=true:=by
 obtain⟨k,rfl⟩:=Nat.le.dest hg
 clear hg
 induction k with
 | zero=>exact h
 | succ k ih=>exact Uz _ _ _ ih
theorem aeq{l:List Oper}{ms:List Nat}(hb:∀i,i<l.length→∀e,e∈(eK l i).after→Region.binds .any e=true→e.on<i)(hm:∀j,j<l.length→ms.getD j 0=Jj ms (eK l j))(i:Nat):∀(k j:Nat),j<k→j<l.length→(ms.getD j 0).testBit i=true→nU l (j+1) i j=true:=by
 intro k
 induction k with
 | zero=>intro j h;omega
 | succ k ih=>
  intro j hk hj h
  rw[hm j hj]at h
  rcases Uy _ _ h with h1 | ⟨e,h1,h2,h3⟩
  ·simp at h1
  ·have CU:e∈(eK l j).after:=Array.mem_toList_iff.1 h1
   have bH:=hb j hj e CU h2
   unfold nU
   rw[Array.any_eq_true]
   obtain⟨q,hq,e1⟩:=Array.mem_iff_getElem.1 CU
   refine⟨q,hq,?_⟩
   rw[e1]
   simp only[Bool.and_eq_true,Bool.or_eq_true]
   refine⟨h2,?_⟩
   rcases h3 with h3 | h3
   ·exact .inl (by rw[h3];exact Nat.beq_refl i)
   ·exact .inr (UA (ih e.on (by omega) (by omega) h3) (by omega))
theorem UB{md:Mode}{l:List Oper}{ms:List Nat}(hb:∀i,i<l.length→∀e,e∈(eK l i).after→Region.binds .any e=true→e.on<i)(hm:∀j,j<l.length→ms.getD j 0=Jj ms (eK l j)):∀r:List Nat,(∀i,i∈r→i<l.length)→Jk md l ms r=true→xE md l r=true
 | [],_,_=>rfl
 | i::r,hr,h=>by
  unfold Jk at h
  unfold xE
  simp only[Bool.and_eq_true,List.all_eq_true,Bool.or_eq_true]at h⊢
  refine⟨fun j hj=> ?_,UB hb hm r (fun k hk=>hr k (List.mem_cons_of_mem _ hk)) h.2⟩
  have hl:=hr j (List.mem_cons_of_mem _ hj)
  exact(h.1 j hj).imp (fun h9=>UA (aeq hb hm i _ j (Nat.lt_succ_self j) hl h9) (by omega)) id
theorem okM{n:Nat}{md:Mode}{l:List Oper}{perm:List Nat}(ms:List Nat)(h:Ux n md l perm ms=true):zL n md l perm=true:=by
 unfold Ux at h
 simp only[Bool.and_eq_true]at h
 obtain⟨⟨⟨⟨⟨⟨⟨⟨h1,h2⟩,h3⟩,h4⟩,h5⟩,h6⟩,h7⟩,h8⟩,h9⟩:=h
 have hb:∀i,i<l.length→∀e,e∈(eK l i).after→Region.binds .any e=true→e.on<i:=fun i hi e he zo=>by
  have k1:=List.all_eq_true.1 h8 i (List.mem_range.2 hi)
  obtain⟨q,hq,e1⟩:=Array.mem_iff_getElem.1 he
  have k2:=Array.all_eq_true.1 k1 q hq
  rw[e1,zo]at k2
  simp only[Bool.not_true,Bool.false_or]at k2
  exact CG k2
 have hm:∀j,j<l.length→ms.getD j 0=Jj ms (eK l j):=fun j hj=>Nat.eq_of_beq_eq_true (List.all_eq_true.1 h9 j (List.mem_range.2 hj))
 have hp:xE md l perm=true:=UB hb hm perm (fun i hi=>CG (List.all_eq_true.1 h4 i hi)) h6
 unfold zL
 simp only[Bool.and_eq_true]
 exact⟨⟨⟨⟨⟨⟨⟨h1,h2⟩,h3⟩,h4⟩,h5⟩,hp⟩,h7⟩,h8⟩
end Go.ay
