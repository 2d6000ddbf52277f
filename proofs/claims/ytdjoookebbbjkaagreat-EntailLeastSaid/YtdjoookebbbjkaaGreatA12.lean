/- Part 12 of the proof: Rlay, QDat3, Qc, Qv, Rtw, QDat4, SDat2, Sp. -/
import Derived.Test.YtdjoookebbbjkaaGreatA11
set_option linter.unusedVariables false
namespace Go.aq
open Go.Proofs Num Lp
def MJ(fr:Nat→Bool):Nat→Nat→Nat
 | 0,_=>0
 | k+1,t=>if fr k=true∧t=a6 fr k-k then a6 fr k+1 else MJ fr k t
section
variable {fr:Nat→Bool}
theorem zV(k:Nat):k≤a6 fr k:=by
 induction k with
 | zero=>exact Nat.le_refl _
 | succ k ih=>
  have h1:a6 fr (k+1)=a6 fr k+1+(if fr k then 1 else 0):=rfl
  omega
theorem MK{j k:Nat}(h:j≤k):a6 fr j+k≤a6 fr k+j:=by
 induction k with
 | zero=>obtain rfl:j=0:=by omega
         exact Nat.le_refl _
 | succ k ih=>
  have h1:a6 fr (k+1)=a6 fr k+1+(if fr k then 1 else 0):=rfl
  by_cases e:j=k+1
  ·subst e;exact Nat.le_refl _
  ·have:=ih (by omega);omega
theorem ML{k:Nat}(h:fr k=true):a6 fr (k+1)=a6 fr k+2:=by
 show a6 fr k+1+(if fr k then 1 else 0)=_
 rw[if_pos h]
theorem ajO{k j:Nat}(hj:j<k)(hf:fr j=true):MJ fr k (a6 fr j-j)=a6 fr j+1:=by
 induction k with
 | zero=>omega
 | succ k ih=>
  unfold MJ
  by_cases e:j=k
  ·subst e;rw[if_pos ⟨hf,rfl⟩]
  ·rw[if_neg,ih (by omega)]
   intro⟨h1,h2⟩
   have h3:=MK (fr:=fr) (show j+1≤k by omega)
   have h4:=ML hf
   have h5:=zV (fr:=fr) j
   omega
theorem ajP{k t:Nat}(h:t<a6 fr k-k):∃j,j<k∧fr j=true∧t=a6 fr j-j:=by
 induction k with
 | zero=>exact absurd h (Nat.not_lt_zero _)
 | succ k ih=>
  by_cases e:fr k=true∧t=a6 fr k-k
  ·exact⟨k,by omega,e.1,e.2⟩
  ·have h1:a6 fr (k+1)=a6 fr k+1+(if fr k then 1 else 0):=rfl
   have h2:=zV (fr:=fr) k
   have h3:t<a6 fr k-k:=by
    by_cases hf:fr k=true
    ·rw[if_pos hf]at h1
     have:t≠a6 fr k-k:=fun e'=>e ⟨hf,e'⟩
     omega
    ·rw[if_neg hf]at h1;omega
   obtain⟨j,g1,g2,g3⟩:=ih h3
   exact⟨j,by omega,g2,g3⟩
theorem ajQ{k y:Nat}(h:y<a6 fr k):∃j,j<k∧(y=a6 fr j∨(fr j=true∧y=a6 fr j+1)):=by
 induction k with
 | zero=>exact absurd h (Nat.not_lt_zero _)
 | succ k ih=>
  by_cases e:y<a6 fr k
  ·obtain⟨j,g1,g2⟩:=ih e
   exact⟨j,by omega,g2⟩
  ·have h1:a6 fr (k+1)=a6 fr k+1+(if fr k then 1 else 0):=rfl
   by_cases hf:fr k=true
   ·rw[if_pos hf]at h1
    by_cases e2:y=a6 fr k
    ·exact⟨k,by omega,.inl e2⟩
    ·exact⟨k,by omega,.inr ⟨hf,by omega⟩⟩
   ·rw[if_neg hf]at h1
    exact⟨k,by omega,.inl (by omega)⟩
end
def _root_.Lp.Prg.pi(p:Prg)(x:Nat):Nat:=if x<p.lp.n then a6 p.lp.free x else if x<p.c1 then MJ p.lp.free p.lp.n (x-p.lp.n)else x
abbrev _root_.Lp.Prg.mi(p:Prg)(j:Nat):Nat:=p.lp.n+(a6 p.lp.free j-j)
section
variable {p:Prg}
theorem yc{x:Nat}(h:x<p.lp.n):p.pi x=a6 p.lp.free x:=by unfold Prg.pi;rw[if_pos h]
theorem yd:p.lp.n≤p.c1:=zV _
theorem MM{j:Nat}:p.lp.n≤p.mi j:=Nat.le_add_right _ _
theorem wa{x:Nat}(h:p.c1≤x):p.pi x=x:=by
 have:=yd (p:=p)
 unfold Prg.pi;rw[if_neg (by omega),if_neg (by omega)]
theorem wb{j:Nat}(h:j<p.lp.n)(hf:p.lp.free j=true):p.mi j<p.c1:=by
 have h1:=MK (fr:=p.lp.free) (show j+1≤p.lp.n by omega)
 have h2:=ML hf
 have h3:=zV (fr:=p.lp.free) j
 show p.lp.n+(a6 p.lp.free j-j)<a6 p.lp.free p.lp.n
 omega
theorem zW{j:Nat}(h:j<p.lp.n)(hf:p.lp.free j=true):p.pi (p.mi j)=a6 p.lp.free j+1:=by
 have:=wb h hf
 have h2:=MM (p:=p) (j:=j)
 unfold Prg.pi
 rw[if_neg (by omega),if_pos this,Nat.add_sub_cancel_left]
 exact ajO h hf
theorem IQ{x:Nat}(h1:p.lp.n≤x)(h2:x<p.c1):∃j,j<p.lp.n∧p.lp.free j=true∧x=p.mi j:=by
 obtain⟨j,g1,g2,g3⟩:=ajP (fr:=p.lp.free) (k:=p.lp.n) (t:=x-p.lp.n) (Nat.sub_lt_sub_right h1 h2)
 exact⟨j,g1,g2,by show x=p.lp.n+_;omega⟩
theorem MN{x:Nat}(h:x<p.c1):p.pi x<p.c1:=by
 by_cases e:x<p.lp.n
 ·rw[yc e];exact HA p e
 ·obtain⟨j,g1,g2,rfl⟩:=IQ (by omega) h
  rw[zW g1 g2]
  have h1:=MK (fr:=p.lp.free) (show j+1≤p.lp.n by omega)
  have h2:=ML g2
  show a6 p.lp.free j+1<a6 p.lp.free p.lp.n
  omega
theorem zX{x:Nat}(h:x<p.u):p.pi x<p.u:=by
 have h1:=mC p
 by_cases e:x<p.c1
 ·have:=MN e;omega
 ·rw[wa (by omega)];exact h
theorem Sm{x:Nat}(h:p.u≤x):p.pi x=x:=wa (by have:=mC p;omega)
theorem Sn{x:Nat}(h:x<p.w):p.pi x<p.w:=by
 have h1:=ft p
 by_cases e:x<p.u
 ·have:=zX e;omega
 ·rw[Sm (by omega)];exact h
theorem CB:p.pi p.w=p.w:=Sm (ft p)
theorem MO{x:Nat}(h:x≤p.w):p.pi x≤p.w:=by
 by_cases e:x=p.w
 ·rw[e,CB];exact Nat.le_refl _
 ·have:=Sn (p:=p) (x:=x) (by omega);omega
theorem MP{y:Nat}(h:y<p.u):∃x,x<p.u∧p.pi x=y:=by
 have h1:=mC p
 by_cases e:y<p.c1
 ·obtain⟨j,g1,g2⟩:=ajQ e
  rcases g2 with rfl | ⟨g2,rfl⟩
  ·have:=yd (p:=p)
   exact⟨j,by omega,yc g1⟩
  ·have:=wb g1 g2
   exact⟨p.mi j,by omega,zW g1 g2⟩
 ·exact⟨y,h,wa (by omega)⟩
def fa(p:Prg)(a:Nat→Rat)(s:Rat):Nat→Nat→Rat
 | 0=>fun _=>0
 | k+1=>if p.lp.free k then bZ (bZ (fa p a s k) k (a k*s)) (p.mi k) (-(a k*s))else bZ (fa p a s k) k (a k*s)
variable {a:Nat→Rat} {s:Rat}
theorem ajR{k x:Nat}(hk:k≤p.lp.n)(hx:x<k):fa p a s k x=a x*s:=by
 induction k with
 | zero=>omega
 | succ k ih=>
  have key:bZ (fa p a s k) k (a k*s) x=a x*s:=by
   by_cases e:x=k
   ·rw[e,jt]
   ·rw[eJ e,ih (by omega) (by omega)]
  unfold fa
  split
  ·rw[eJ (by show x≠p.lp.n+_;omega),key]
  ·exact key
theorem ajS{k j:Nat}(hk:k≤p.lp.n)(hj:j<k)(hf:p.lp.free j=true):fa p a s k (p.mi j) = -(a j*s):=by
 induction k with
 | zero=>omega
 | succ k ih=>
  unfold fa
  by_cases e:j=k
  ·subst e;rw[if_pos hf,jt]
  ·have h3:=MK (fr:=p.lp.free) (show j+1≤k by omega)
   have h4:=ML hf
   have h5:=zV (fr:=p.lp.free) j
   split
   ·rw[eJ (by show p.lp.n+_≠p.lp.n+_;omega),eJ (by show p.lp.n+_≠k;omega),ih (by omega) (by omega)]
   ·rw[eJ (by show p.lp.n+_≠k;omega),ih (by omega) (by omega)]
theorem aar{k x:Nat}(hk:k≤p.lp.n)(hx:p.c1≤x):fa p a s k x=0:=by
 have h0:=yd (p:=p)
 induction k with
 | zero=>rfl
 | succ k ih=>
  unfold fa
  split
  ·rename_i hf
   have:=wb (p:=p) (j:=k) (by omega) hf
   rw[eJ (by omega),eJ (by omega),ih (by omega)]
  ·rw[eJ (by omega),ih (by omega)]
theorem IS(x:Nat):fa p a s p.lp.n x=jS p.lay a s p.lp.n (p.pi x):=by
 by_cases e:x<p.lp.n
 ·rw[ajR (Nat.le_refl _) e,yc e,(En (Nat.le_refl _) e).1]
 ·by_cases e2:x<p.c1
  ·obtain⟨j,g1,g2,rfl⟩:=IQ (by omega) e2
   rw[ajS (Nat.le_refl _) g1 g2,zW g1 g2,(En (Nat.le_refl _) g1).2 g2]
  ·rw[aar (Nat.le_refl _) (Nat.le_of_not_lt e2),wa (Nat.le_of_not_lt e2),Em (Nat.le_refl _) (Nat.le_of_not_lt e2)]
def km(rel s:Int):Int:=if s=1 then rel else if rel=2 then 2 else 4-rel
theorem Sq{rel s:Int}(hr:rel=1∨rel=2∨rel=3)(hs:s=1∨s = -1):eY rel s=true↔km rel s=1:=by
 unfold eY km
 rw[decide_eq_true_eq]
 rcases hr with rfl | rfl | rfl <;> rcases hs with rfl | rfl <;> simp
def dN(p:Prg)(i:Nat):Nat→Rat:=
 let r1:=bZ (fa p (p.lp.a i) (p.aI i:Rat) p.lp.n) p.w (p.lp.b i*(p.aI i:Rat))
 let r2:=if p.lp.rel i=2 then r1 else bZ r1 (bC p.lp.rel p.c1 i) (if km (p.lp.rel i) (p.aI i)=1 then 1 else -1)
 if km (p.lp.rel i) (p.aI i)=1 then r2 else bZ r2 (a8 p.lp.rel p.aI p.u i) 1
theorem Sr(hv:p.lp.Valid){i:Nat}(hi:i<p.lp.m){x:Nat}(hx:x≤p.w):dN p i x=p.eh.A i (p.pi x):=by
 have hr:=hv i hi
 have hs:=sJ (p.lp.b i) (p.lp.rel i)
 have hu:=nO p hi
 have hcu:=mC p
 have mA:=ft p
 have hug:=LH (p:=p) (i:=i)
 have h2:=(sL p.lp.rel p.aI p.u i).2
 have h3:=(sK p.lp.rel p.c1 i).2
 have j7:p.lp.rel i≠2→bC p.lp.rel p.c1 i<p.u:=fun h=>B3 hi h
 have cC:=Sq hr hs
 by_cases e:x<p.c1
 ·rw[Qx (MN e),←IS]
  unfold dN
  have hb:bZ (fa p (p.lp.a i) (p.aI i:Rat) p.lp.n) p.w (p.lp.b i*(p.aI i:Rat)) x=fa p (p.lp.a i) (p.aI i:Rat) p.lp.n x:=eJ (by omega)
  split
  ·split
   ·exact hb
   ·rw[eJ (by omega)];exact hb
  ·rw[eJ (by omega)]
   split
   ·exact hb
   ·rw[eJ (by omega)];exact hb
 ·rw[wa (by omega),B4]
  have z1:jS p.lay (p.lp.a i) (p.aI i:Rat) p.lp.n x=0:=Em (Nat.le_refl _) (Nat.le_of_not_lt e)
  have z2:fa p (p.lp.a i) (p.aI i:Rat) p.lp.n x=0:=aar (Nat.le_refl _) (by omega)
  unfold dN
  by_cases hw:x=p.w
  ·subst hw
   rw[jt]
   have hb:=jt (fa p (p.lp.a i) (p.aI i:Rat) p.lp.n) p.w (p.lp.b i*(p.aI i:Rat))
   by_cases o:eY (p.lp.rel i) (p.aI i)=true
   ·rw[if_pos (cC.1 o)]
    split
    ·exact hb
    ·rw[eJ (by have:=j7 (by assumption);omega)];exact hb
   ·rw[if_neg (fun h=>o (cC.2 h)),eJ (by rw[vP o]at hu;omega)]
    split
    ·exact hb
    ·rw[eJ (by have:=j7 (by assumption);omega)];exact hb
  ·rw[eJ (f:=bZ _ _ _) hw]
   have hb:bZ (fa p (p.lp.a i) (p.aI i:Rat) p.lp.n) p.w (p.lp.b i*(p.aI i:Rat)) x=0:=by rw[eJ hw,z2]
   by_cases o:eY (p.lp.rel i) (p.aI i)=true
   ·have oQ:p.lp.rel i≠2:=by have:=Eo o;omega
    rw[if_pos (cC.1 o),if_neg oQ,zz o,if_pos (cC.1 o)]
    by_cases ex:x=bC p.lp.rel p.c1 i
    ·rw[ex,jt,jt]
    ·rw[eJ ex,eJ ex,hb,Er (fun _=>by rw[B5 oQ];exact ex),z1]
   ·rw[if_neg (fun h=>o (cC.2 h)),vP o,if_neg (fun h=>o (cC.2 h))]
    by_cases ex:x=a8 p.lp.rel p.aI p.u i
    ·rw[ex,jt,jt]
    ·rw[eJ ex,eJ ex]
     by_cases oQ:p.lp.rel i=2
     ·rw[if_pos oQ,hb,Er (fun h=>absurd oQ h),z1]
     ·rw[if_neg oQ]
      by_cases ey:x=bC p.lp.rel p.c1 i
      ·rw[ey,jt]
       unfold sC
       rw[B5 oQ]
       rcases hr with k | k | k
       ·rw[if_pos k,jt]
        have:p.aI i = -1:=by
         rcases hs with h | h
         ·exact absurd (cC.2 (by unfold km;rw[if_pos h];exact k)) o
         ·exact h
        rw[this];rfl
       ·exact absurd k oQ
       ·rw[if_neg (by omega),if_pos k,jt]
        have:p.aI i=1:=by
         rcases hs with h | h
         ·exact h
         ·exact absurd (cC.2 (by unfold km;rw[h,k];decide)) o
        rw[this];rfl
      ·rw[eJ ey,hb,Er (fun _=>by rw[B5 oQ];exact ey),z1]
end
end Go.aq
namespace Go.aq
open Go.Proofs Num Lp
section
variable {C:CK} {H H' K:Heap} {G:GG} {R W m:Nat} {M:Nat→Nat→Rat} {B:Nat→Nat} {t:List Nat} {f:Nat→Rat}
def GG.more(G:GG)(t:List Nat)(z c:Nat)(A:Option Addr)(cr R:Nat):GG:={G with top:=t,hb:=aw (.slice A (R+1) cr),Ar:=A,cr:=cr,rg:=G.rg ++ [(z,c)]}
theorem cA.more{z c lB:Nat}{A':Option Addr}(h:cA C H (G.on (z::t)) R W m M B)(hz:o6 C (rem H (G.on (z::t)).gs) H z (aK f W))(ha:App H (.slice G.Ar R G.cr) C.he 1 (R+1) (iR (G.rg ++ [(z,c)]) W) (.slice A' (R+1) lB) H'):
  cA C H' (G.more t z c A' lB R) (R+1) W m (fun i=>if i=R then f else M i) B∧Heap.le (rem H (G.on (z::t)).gs) (rem H' (G.more t z c A' lB R).gs):=by
 have bo:=h.ne
 have dV:=h.nd
 have jB:(G.on (z::t)).gs=z::(t++(G.hb++(G.bb++G.rg.map (·.1)))):=rfl
 have IT:(G.more t z c A' lB R).gs=t++(aw (.slice A' (R+1) lB)++(G.bb++(G.rg ++ [(z,c)]).map (·.1))):=rfl
 have MQ:G.hb=aw (.slice G.Ar R G.cr):=h.lY
 rw[jB]at dV bo
 obtain⟨n1,n2⟩:=List.nodup_cons.1 dV
 obtain⟨n3,n4,n5⟩:=List.nodup_append.1 n2
 obtain⟨n6,n7,n8⟩:=List.nodup_append.1 n4
 obtain⟨n9,n10,s0⟩:=List.nodup_append.1 n7
 have qz:∀q,q∈z::(t++(G.bb++G.rg.map (·.1)))→H' q=H q:=fun q hq=>by
  have hm:q∈z::(t++(G.hb++(G.bb++G.rg.map (·.1)))):=by
   simp only[List.mem_cons,List.mem_append]at hq⊢;grind
  obtain⟨en,he⟩:=Option.ne_none_iff_exists'.1 (bo q hm)
  rw[he]
  refine ha.same q en he fun h1=> ?_
  have h2:q∈G.hb:=by rw[MQ];exact cF.2 h1
  rcases List.mem_cons.1 hq with rfl | hq
  ·exact n1 (List.mem_append_right _ (List.mem_append_left _ h2))
  ·rcases List.mem_append.1 hq with hq | hq
   ·exact n5 q hq q (List.mem_append_left _ h2) rfl
   ·exact n8 q h2 q hq rfl
 have LG:∀q,q∈aw (.slice A' (R+1) lB)→¬q∈z::(t++(G.bb++G.rg.map (·.1))):=fun q hq hm=>by
  rcases ha.new q hq with h1 | h1
  ·rw[←MQ]at h1
   rcases List.mem_cons.1 hm with rfl | hm
   ·exact n1 (List.mem_append_right _ (List.mem_append_left _ h1))
   ·rcases List.mem_append.1 hm with hm | hm
    ·exact n5 q hm q (List.mem_append_left _ h1) rfl
    ·exact n8 q h1 q hm rfl
  ·refine bo q ?_ h1
   simp only[List.mem_cons,List.mem_append]at hm⊢;grind
 have hl:Heap.le (rem H (G.on (z::t)).gs) (rem H' (G.more t z c A' lB R).gs):=fun q en hq=>by
  by_cases hm:q∈(G.on (z::t)).gs
  ·rw[rem_in hm]at hq;cases hq
  ·rw[bL hm]at hq
   have jo:¬q∈G.hb:=fun k=>hm (by rw[jB];exact List.mem_cons_of_mem _ (List.mem_append_right _ (List.mem_append_left _ k)))
   have h1:=ha.same q en hq fun e=>jo (by rw[MQ];exact cF.2 e)
   refine⟨en,?_,.refl _⟩
   rw[bL,h1]
   intro h2
   rw[IT]at h2
   rcases List.mem_append.1 h2 with h3 | h3
   ·exact hm (by rw[jB];exact List.mem_cons_of_mem _ (List.mem_append_left _ h3))
   ·rcases List.mem_append.1 h3 with h3 | h3
    ·rcases ha.new q h3 with h4 | h4
     ·rw[←MQ]at h4;exact jo h4
     ·rw[h4]at hq;cases hq
    ·refine hm ?_
     rw[jB]
     simp only[List.map_append,List.map_cons,List.map_nil,List.mem_cons,List.mem_append,List.not_mem_nil,or_false]at h3⊢;grind
 have oR:=h.iu
 have oR:G.rg.length=R:=oR
 refine⟨⟨?_,fun q hq=> ?_,?_,rfl,ha.own,fun i p hp=> ?_,?_⟩,hl⟩
 ·rw[IT]
  refine List.nodup_append.2 ⟨n3,List.nodup_append.2 ⟨R0 _,List.nodup_append.2 ⟨n9,?_,fun q hq r hr e=> ?_⟩,fun q hq r hr e=> ?_⟩,fun q hq r hr e=> ?_⟩
  ·rw[List.map_append]
   refine List.nodup_append.2 ⟨n10,List.nodup_cons.2 ⟨List.not_mem_nil,List.nodup_nil⟩,fun q hq r hr e=> ?_⟩
   subst e
   rw[List.map_cons,List.map_nil,List.mem_singleton]at hr
   subst hr
   exact n1 (List.mem_append_right _ (List.mem_append_right _ (List.mem_append_right _ hq)))
  ·subst e
   rw[List.map_append]at hr
   rcases List.mem_append.1 hr with hr | hr
   ·exact s0 q hq q hr rfl
   ·rw[List.map_cons,List.map_nil,List.mem_singleton]at hr
    subst hr
    exact n1 (List.mem_append_right _ (List.mem_append_right _ (List.mem_append_left _ hq)))
  ·subst e
   refine LG q hq ?_
   simp only[List.map_append,List.map_cons,List.map_nil,List.mem_cons,List.mem_append,List.not_mem_nil,or_false]at hr⊢;grind
  ·subst e
   rcases List.mem_append.1 hr with hr | hr
   ·exact LG q hr (List.mem_cons_of_mem _ (List.mem_append_left _ hq))
   ·rw[List.map_append]at hr
    rcases List.mem_append.1 hr with hr | hr
    ·exact n5 q hq q (List.mem_append_right _ (List.mem_append_left _ hr)) rfl
    ·rcases List.mem_append.1 hr with hr | hr
     ·exact n5 q hq q (List.mem_append_right _ (List.mem_append_right _ hr)) rfl
     ·rw[List.map_cons,List.map_nil,List.mem_singleton]at hr
      subst hr
      exact n1 (List.mem_append_left _ hq)
 ·rw[qz q (List.mem_cons_of_mem _ (List.mem_append_left _ hq))]
  exact bo q (List.mem_cons_of_mem _ (List.mem_append_left _ hq))
 ·show (G.rg ++ [(z,c)]).length=R+1
  rw[List.length_append,oR];rfl
 ·have dK:(G.rg ++ [(z,c)])[i]? = some p:=hp
  by_cases hi:i<R
  ·rw[List.getElem?_append_left (by omega)]at dK
   show o6 C _ H' p.1 (aK (if i=R then f else M i) W)
   rw[if_neg (by omega)]
   exact(h.row i p dK).le hl (qz _ (List.mem_cons_of_mem _ (List.mem_append_right _ (List.mem_append_right _ (List.mem_map.2 ⟨p,List.mem_of_getElem? dK,rfl⟩)))))
  ·have bX:=(List.getElem?_eq_some_iff.1 dK).1
   rw[List.length_append,oR,List.length_singleton]at bX
   obtain rfl:i=R:=by omega
   rw[List.getElem?_append_right (by omega),oR,Nat.sub_self]at dK
   cases dK
   show o6 C _ H' z (aK (if i=i then f else M i) W)
   rw[if_pos rfl]
   exact hz.le hl (qz _ (List.mem_cons_self ..))
 ·rcases h.basis with h1 | ⟨gb,cb,sz,h1,h2,h3⟩
  ·exact .inl h1
  ·refine .inr ⟨gb,cb,sz,h1,h2,?_⟩
   rw[qz gb (List.mem_cons_of_mem _ (List.mem_append_right _ (List.mem_append_left _ (by show gb∈G.bb;have:G.bb = [gb]:=h1;rw[this];exact List.mem_singleton.2 rfl))))]
   exact h3
def GG.less(G:GG)(R:Nat):GG:={G with hb:=aw (.slice G.Ar R G.cr),rg:=G.rg.take R}
theorem cA.less(h:cA C H G (R+1) W m M B):∃H',Heap.le H' H∧cA C H' (G.less R) R W m M B∧Heap.le (rem H G.gs) (rem H' (G.less R).gs)∧(∀q,q∈G.top→H' q=H q)∧G.cr=G.cr∧R≤G.cr:=by
 have oR:=h.iu
 rcases h.rows.2 with ⟨h1,h2⟩ | ⟨gr,cap,h1,h2,h3,h4⟩
 ·omega
 ·have eA:G.Ar=some ⟨gr,0,none⟩:=(Value.slice.inj h1).1
  have eC:G.cr=cap:=(Value.slice.inj h1).2.2
  have eb:aw (.slice G.Ar R G.cr)=G.hb:=by rw[h.lY,eA];rfl
  have eg:G.hb = [gr]:=by rw[h.lY,eA];rfl
  have hm:gr∈G.hb:=by rw[eg];exact List.mem_singleton.2 rfl
  have ht:iR (G.rg.take R) W=(iR G.rg W).take R:=by unfold iR;rw[List.map_take]
  have vq:∀q,q∈(G.less R).low→q∈G.low:=fun q hq=>by
   have hq:q∈aw (.slice G.Ar R G.cr)++(G.bb++(G.rg.take R).map (·.1)):=hq
   rw[eb]at hq
   rcases List.mem_append.1 hq with hq | hq
   ·exact GG.Cn hq
   ·rcases List.mem_append.1 hq with hq | hq
    ·exact GG.mz hq
    ·obtain⟨p,hp,rfl⟩:=List.mem_map.1 hq
     exact List.mem_append_right _ (List.mem_append_right _ (List.mem_map.2 ⟨p,List.mem_of_mem_take hp,rfl⟩))
  have jB:∀q,q∈(G.less R).gs→q∈G.gs:=fun q hq=>by
   rcases List.mem_append.1 hq with hq | hq
   ·exact List.mem_append_left _ hq
   ·exact List.mem_append_right _ (vq q hq)
  have hng:gr∈(G.less R).gs:=List.mem_append_right _ (List.mem_append_left _ (by show gr∈aw _;rw[eb];exact hm))
  have hl:Heap.le (rem H G.gs) (rem (ins H gr ⟨iR (G.rg.take R) W,cap*1,C.he,true⟩) (G.less R).gs):=by
   rw[cE _ hng];exact vV jB
  have zY:∀q,q∈G.top∨q∈G.bb∨(∃(i:Nat)(p:Nat×Nat),G.rg[i]? = some p∧p.1=q)→q≠gr:=fun q hq=>by
   rcases hq with hq | hq | ⟨i,p,hp,rfl⟩
   ·exact GG.uI h.nd hq (GG.Cn hm)
   ·exact Ne.symm (GG.Ms h.nd hm (.inl hq))
   ·exact Ne.symm (GG.Ms h.nd hm (.inr ⟨i,p,hp,rfl⟩))
  refine⟨ins H gr ⟨iR (G.rg.take R) W,cap*1,C.he,true⟩,?_,⟨?_,fun q hq=> ?_,?_,rfl,?_,fun i p hp=> ?_,?_⟩,hl,fun q hq=>bg _ _ (zY q (.inl hq)),rfl,by omega⟩
  ·intro q en hq
   by_cases e:q=gr
   ·subst e
    rw[bn]at hq
    cases hq
    exact⟨_,h2,rfl,rfl,rfl,by rw[ht];exact List.take_prefix _ _⟩
   ·rw[bg _ _ e]at hq
    exact⟨en,hq,.refl _⟩
  ·have dV:=h.nd
   show (G.top++(aw (.slice G.Ar R G.cr)++(G.bb++(G.rg.take R).map (·.1)))).Nodup
   rw[eb]
   refine List.Nodup.sublist ?_ dV
   exact List.Sublist.append (.refl _) (List.Sublist.append (.refl _) (List.Sublist.append (.refl _) (List.Sublist.map _ (List.take_sublist _ _))))
  ·rw[bg _ _ (zY q (.inl hq))];exact h.top q hq
  ·show (G.rg.take R).length=R
   rw[List.length_take];omega
  ·refine⟨?_,.inr ⟨gr,cap,?_,bn _ _ _,by omega,h4⟩⟩
   ·show (iR (G.rg.take R) W).length=R*1
    unfold iR;rw[List.length_map,List.length_take];omega
   ·show Value.slice G.Ar R G.cr=_
    rw[eA,eC]
  ·have dK:(G.rg.take R)[i]? = some p:=hp
   rw[List.getElem?_take]at dK
   split at dK
   ·exact(h.row i p dK).le hl (bg _ _ (zY _ (.inr (.inr ⟨i,p,dK,rfl⟩))))
   ·cases dK
  ·rcases h.basis with k1 | ⟨gb,cb,sz,k1,k2,k3⟩
   ·exact .inl k1
   ·exact .inr ⟨gb,cb,sz,k1,k2,by rw[bg _ _ (zY gb (.inr (.inl (by rw[k1];exact List.mem_singleton.2 rfl))))];exact k3⟩
theorem cA.apart(h:cA C H G R W m M B){z:Nat}{e:Ent}(hz:H z=none):cA C (ins H z e) (G.on (z::G.top)) R W m M B∧rem (ins H z e) (G.on (z::G.top)).gs=rem H G.gs:=by
 have hm:¬z∈G.gs:=fun hm=>h.ne z hm hz
 have jB:(G.on (z::G.top)).gs=z::G.gs:=rfl
 have e1:rem (ins H z e) (G.on (z::G.top)).gs=rem H G.gs:=by
  rw[jB];exact tF _ hz
 refine⟨h.Co (t:=z::G.top) (List.nodup_cons.2 ⟨hm,h.nd⟩) (fun q hq=> ?_) (fun q hq=>bg _ _ fun(e':q=z)=>hm (by rw[←e'];exact GG.kI hq)) (by rw[e1];exact .refl _),e1⟩
 rcases List.mem_cons.1 hq with rfl | hq
 ·rw[bn];simp
 ·rw[bg _ _ (fun(e':q=z)=>hm (by rw[←e'];exact GG.Cm hq))];exact h.top q hq
end
end Go.aq
namespace Go.aq
open Go.Proofs Num Lp
theorem MR{xs vs:List Value}{f:Nat→Rat}{n k:Nat}{q:Rat}(h:bA fu 2 xs (aK f n))(hk:k<n)(hv:fu vs q):bA fu 2 (aJ xs (k*2) vs) (aK (bZ f k q) n):=by
 rw[←PL]
 exact h.set (by rw[bB];exact hk) hv (by obtain⟨a,b,rfl,_⟩:=hv;rfl)
abbrev q3(_:Heap)(vs:List Value)(q:Rat):Prop:=fu vs q
theorem zZ:Up q3:=fun _ _ _ _ _ h=>h
abbrev p8(W:Nat)(xs:List Value)(f:Nat→Rat)(k:Nat):Prop:=bA (ic q3 (fun _=>none)) 2 xs (fill (aK f W) k)
theorem MS{W k:Nat}{xs:List Value}{f:Nat→Rat}(h:p8 W xs f k)(hk:k≤W):xs.length=W*2:=by
 have:=h.len
 rwa [mX (by rw[bB];exact hk),bB]at this
theorem Ss{W k:Nat}{xs vs:List Value}{f:Nat→Rat}(h:p8 W xs f k)(hk:k<W)(hv:fu vs (f k)):p8 W (aJ xs (k*2) vs) f (k+1):=by
 show bA _ _ _ _
 rw[←zi (dM hk)]
 exact h.set (by rw[mX (by rw[bB];omega),bB];exact hk) (show ic q3 _ vs (some (f k))from hv) (by obtain⟨a,b,rfl,_⟩:=hv;rfl)
theorem Su{W:Nat}{xs:List Value}{f:Nat→Rat}(h:p8 W xs f W):bA fu 2 xs (aK f W):=by
 refine DR (P:=q3) (H:=fun _=>none) ?_
 rw[bB];exact h
theorem SA{W:Nat}{f:Nat→Rat}:p8 W (dd [.int .i64 0,.int .i64 0] (W*2)) f 0:=by
 have:=BF (P:=q3) (H:=fun _=>none) (zs:=[.int .i64 0,.int .i64 0]) (sz:=2) rfl (aK f W)
 rwa [bB]at this
theorem EW{xs vs:List Value}{s e k:Nat}:({(⟨xs,s,e,true⟩:Ent)with xs:=aJ xs (0+k*2) vs}:Ent)=⟨aJ xs (k*2) vs,s,e,true⟩:=by rw[Nat.zero_add]
theorem wc{p:Prg}{j:Nat}:p.mi (j+1)=p.mi j+(if p.lp.free j then 1 else 0):=by
 have h1:a6 p.lp.free (j+1)=a6 p.lp.free j+1+(if p.lp.free j then 1 else 0):=rfl
 have h2:=zV (fr:=p.lp.free) j
 show p.lp.n+(a6 p.lp.free (j+1)-(j+1))=p.lp.n+(a6 p.lp.free j-j)+_
 omega
def lC(M:Nat→Nat→Rat)(B:Nat→Nat)(f:Nat→Rat):Nat→Nat→Rat
 | 0=>f
 | i+1=>fun k=>lC M B f i k-lC M B f i (B i)*M i k
theorem aas{M:Nat→Nat→Rat}{B:Nat→Nat}{f:Nat→Rat}{i:Nat}(h:lC M B f i (B i)=0)(k:Nat):lC M B f (i+1) k=lC M B f i k:=by
 show lC M B f i k-lC M B f i (B i)*M i k=_
 rw[h];grind
structure QZ(o:Bool)(K S H:Heap)(g:Nat)(G:GG)(R W m:Nat)(M:Nat→Nat→Rat)(B:Nat→Nat)(z:Nat)(f:Nat→Rat):Prop where
 q:QV o H g (G.on (z::G.top)) R W m M B
 row:∃xs,H z=some ⟨xs,W*2,138,true⟩∧bA fu 2 xs (aK f W)
 ne:z≠g
 le:Heap.le K (rem H (G.on (z::G.top)).gs)
 same:∀q,q∈G.gs→q≠g→H q=S q
section
variable {o o':Bool} {K S H H':Heap} {g:Nat} {G:GG} {R W m z:Nat} {M:Nat→Nat→Rat} {B:Nat→Nat} {f:Nat→Rat}
theorem QZ.SB(h:QZ o K S H g G R W m M B z f):¬z∈G.gs:=(List.nodup_cons.1 (show (z::G.gs).Nodup from h.q.cY.nd)).1
theorem QZ.mJ:z∈(G.on (z::G.top)).gs:=List.mem_append_left _ (List.mem_cons_self ..)
theorem QZ.fresh(h:QZ o K S H g G R W m M B z f){k:Nat}{e:Ent}(hk:H k=none):QZ o K S (ins H k e) g G R W m M B z f:=by
 obtain⟨h1,h2⟩:=h.q.fresh (e:=e) hk
 obtain⟨xs,h3,h4⟩:=h.row
 refine⟨h1,⟨xs,?_,h4⟩,h.ne,h.le.trans h2,fun q hq bo=>by rw[bg _ _ (fun(e':q=k)=>h.q.cY.ne q (List.mem_cons_of_mem _ hq) (by rw[e'];exact hk))];exact h.same q hq bo⟩
 rw[bg _ _ (fun e'=>by rw[e',hk]at h3;cases h3)];exact h3
theorem QZ.set(h:QZ o K S H g G R W m M B z f)(ht:fR (G.on (z::G.top)).gs g H H')(iB:H' g=some ⟨[.slice G.Ar R G.cr,G.bv,.bool o'],3,135,true⟩){xs:List Value}(hx:H z=some ⟨xs,W*2,138,true⟩)(ix:bA fu 2 xs (aK f W)){k:Nat}(hk:k<W){vs:List Value}{q:Rat}(hv:fu vs q):
  QZ o' K S (ins H' z ⟨aJ xs (k*2) vs,W*2,138,true⟩) g G R W m M B z (bZ f k q):=by
 have h1:=h.q.uR ht iB
 have hm:z∈(G.on (z::G.top)).gs:=QZ.mJ
 have hT:fR (G.on (z::G.top)).gs z H' (ins H' z ⟨aJ xs (k*2) vs,W*2,138,true⟩):=((Kept.refl _ _).iF z).ins hm _
 exact⟨⟨h1.cY.Cp (List.mem_cons_self ..) hT (by rw[bn];simp),h1.gt,by rw[bg _ _ (Ne.symm h.ne)];exact h1.st⟩,⟨_,bn _ _ _,MR ix hk hv⟩,h.ne,h.le.trans (ht.le.trans hT.le),fun r hr bo=>by rw[bg _ _ (fun(e':r=z)=>h.SB (by rw[←e'];exact hr)),ht.same r (List.mem_cons_of_mem _ hr) bo];exact h.same r hr bo⟩
theorem QZ.vU(h:QZ o K S H g G R W m M B z f):QZ o (rem H (G.on (z::G.top)).gs) S H g G R W m M B z f:=⟨h.q,h.row,h.ne,.refl _,h.same⟩
theorem QZ.down{K':Heap}(h:QZ o K S H g G R W m M B z f)(hl:Heap.le K' K):QZ o K' S H g G R W m M B z f:=⟨h.q,h.row,h.ne,hl.trans h.le,h.same⟩
end
theorem ajT{o:Bool}{H:Heap}{g:Nat}{G:GG}{W m N:Nat}{M:Nat→Nat→Rat}{B:Nat→Nat}{p:Prg}{pv cv:Value}{c:List Rat}(h:QV o H g G m W m M B)(hp:m7 N (rem H G.gs) pv p)(hc:aQ q3 2 (rem H G.gs) cv c)(fh:c.length=p.free.length)(s6:p.c1≤W)(hB:∀i,i<m→B i<W)(hm:(m:Int)≤900000)(hW:(W:Int)≤1000000):
 Fn Tryz.prog 101 #[.pointer (some ⟨g,0,none⟩),pv,cv,.int .i64 (W:Int)] H (fun v H'=>∃z f o',v = .slice (some ⟨z,0,none⟩) W W∧QZ o' (rem H G.gs) H H' g G m W m M B z f∧(o'=false→o=false∧∀k,k<W→f k=lC M B (fa p (fn c) 1 p.lp.n) m k)):=by
 obtain⟨fv,kE,rfl,ng,nh⟩:=id hp
 obtain⟨Af,cf,xf,rfl,pX,pY⟩:=ng.one
 obtain⟨Ar,cr,xr,rfl,qm,kF,sP⟩:=id nh
 obtain⟨Ac,cc,xc,rfl,L3,nK,tU⟩:=id hc
 have dt:=yd (p:=p)
 have SC:p.free.length≤W:=Nat.le_trans dt s6;refine aZ (args:=[_,_,_,_]) Tryz.func101 rfl rfl Tryz.ntmps101 rfl rfl fun w0=> ?_;refine ah [0,1,2,3] rfl ?_;refine ae (bY rfl rfl (aa 1 rfl (ab [0,2,3,5] ?_)));refine ae (aa 1 rfl (gP Tryz.underlying136 fO rfl rfl rfl (by omega) (by omega) (by omega) (by omega) ?_));intro z hz;rw[Int.toNat_natCast]
 have nN:z≠g:=fun e9=>by rw[e9,h.st]at hz;cases hz
 have EX:∀e9:Ent,Heap.le (rem H G.gs) (ins H z e9):=fun e9=>(bD _ _).trans (Heap.bG _ hz)
 obtain⟨Ab,cb,du,fG⟩:∃Ab cb,G.bv = .slice Ab m cb∧∀o' t H',cA vY H' (G.on t) m W m M B→∀i,i<m→Rd H' Ab (eN B m):=by
  rcases h.cY.basis with ⟨h1,h2,h3⟩ | ⟨gb,cb,sz,h1,h2,h3⟩
  ·exact⟨none,0,by rw[h3,h1],fun _ _ _ _ i hi=>by omega⟩
  ·
   refine⟨_,cb,h2,fun o' t H' h' i hi=> ?_⟩
   rcases h'.basis with ⟨k1,k2,k3⟩ | ⟨Cv,ES,fk,k1,k2,k3⟩
   ·omega
   have k1:G.bb = [Cv]:=k1;rw[h1]at k1;cases k1;exact dQ k3
 refine aa 1 rfl (ab [0,2,5,9] ?_);refine ao (ae (aa 3 rfl (ab [0,2,5,9,19,20] ?_)));refine aE (gn (fun(k:Nat)(xs:List Value)=>W-k) (fun(k:Nat)(xs:List Value)=>put (put (put (put (put (put (emp) 0 (.val (.pointer (some ⟨g,0,none⟩)))) 2 (.val (.slice Ac c.length cc))) 5 (.box [.slice Af p.free.length cf,.slice Ar p.rows.length cr])) 9 (.val (.slice (some ⟨z,0,none⟩) W W))) 19 (.val (.int .i64 (W:Int)))) 20 (.val (.int .i64 (k:Int)))) (fun(k:Nat)(xs:List Value) H'=>H'=ins H z ⟨xs,W*2,138,true⟩∧p8 W xs (fun _=>0) k∧k≤W) 0 (dd [.int .i64 0,.int .i64 0] (W*2)) (⟨rfl,SA,Nat.zero_le _⟩) ar ?_);rintro k xs H2 ⟨e2,hF,hk⟩;rw[e2];clear e2 H2;have cZ:=MS hF hk;refine ae (aa 1 rfl (ab [0,2,5,9,19,20,21] ?_));refine ao (aD rfl (fun hb=> ?_) (fun hb=> ?_))
 ·
  have fi:k<W:=by simpa using hb
  refine az (ah [0,2,5,9,19,20] rfl ?_);refine ao (aE (ae (aa 2 rfl (ab [0,2,5,9,10,19,20] ?_))));refine aA rfl (aa 2 rfl (cL ag rfl fO rfl rfl ?_));obtain⟨ti,aj,ak⟩:=eD;refine cV (.inl rfl) ag rfl rfl rfl (by omega) (by omega) (bn _ _ _) rfl (by show 0+W*2≤xs.length;omega) aj ak (fun _=>rfl) rfl rfl rfl fun _=> ?_;refine au (ah [0,2,5,9,19,20] rfl ?_);refine aA rfl (aF rfl rfl ⟨by omega,by omega⟩ (aa 1 rfl (au ?_)));rw[EW,mO];exact⟨k+1,_,by omega,ar,rfl,by rw[Int.toNat_natCast];exact Ss hF fi EJ,by omega⟩
 ·
  have hb:W≤k:=by simpa using hb
  obtain rfl:k=W:=by omega
  have IU:=Su hF;refine aX (ah [0,2,5,9] rfl ?_);refine ae (aa 4 rfl (ab [0,2,5,9,11] ?_));refine ao (ae (aa 4 rfl (ab [0,2,5,9,11,33,34] ?_)));refine aE (gn (fun(j:Nat)(ys:List Value)=>p.free.length-j) (fun(j:Nat)(ys:List Value)=>put (put (put (put (put (put (put (emp) 0 (.val (.pointer (some ⟨g,0,none⟩)))) 2 (.val (.slice Ac c.length cc))) 5 (.box [.slice Af p.free.length cf,.slice Ar p.rows.length cr])) 9 (.val (.slice (some ⟨z,0,none⟩) k k))) 11 (.val (.int .i64 (p.mi j:Int)))) 33 (.val (.int .i64 (p.free.length:Int)))) 34 (.val (.int .i64 (j:Int)))) (fun(j:Nat)(ys:List Value) H'=>H'=ins H z ⟨ys,k*2,138,true⟩∧bA fu 2 ys (aK (fa p (fn c) 1 j) k)∧j≤p.free.length) 0 xs (⟨rfl,IU,Nat.zero_le _⟩) (by repeat (first | exact iJ _ | refine dA rfl ?_ | refine dA (iX (by first | omega | (simp;done) | rfl)) ?_)) ?_);rintro j ys H3 ⟨e3,hE,hj⟩;rw[e3];clear e3 H3;have kK:=hE.len;rw[bB]at kK;refine ae (aa 1 rfl (ab [0,2,5,9,11,33,34,35] ?_));refine ao (aD rfl (fun hb=> ?_) (fun hb=> ?_))
  ·
   have gN:j<p.free.length:=by simpa using hb
   obtain⟨vs,_,CC,p9⟩:=tU.get (show c[j]? = some (fn c j) by rw[List.getElem?_eq_getElem (by omega),oN (List.getElem?_eq_getElem (by omega))]);obtain⟨n1,d1,rfl,i1,i2,i3,i4,b8⟩:=id (show fu vs (fn c j)from CC)
   have CD:fu [.int .i64 n1,.int .i64 d1] (fn c j*1):=by rw[Rat.mul_one];exact CC
   have SD:=MR hE (show j<k by omega) CD;have ajU:=SD.len;rw[bB]at ajU;obtain⟨uf,qM,kn⟩:=pY j _ (List.getElem?_eq_getElem gN);have kn: [uf] = [Value.bool p.free[j]]:=kn
   cases kn
   have jF:p.lp.free j=p.free[j]:=Prg.Bu (List.getElem?_eq_getElem gN);have aat:=MM (p:=p) (j:=j);refine az (ah [0,2,5,9,11,33,34] rfl ?_);refine ao (aE (ae (aa 2 rfl (ab [0,2,5,9,11,12,33,34] ?_))));refine ae (aa 4 rfl (cj (vs:=[.int .i64 n1,.int .i64 d1]) ag rfl rfl rfl rfl (nK.le (EX _)) rfl (by decide) (by rw[Int.toNat_natCast];exact p9) (by omega) (by omega) fun _=> ?_));obtain⟨ti,aj,ak⟩:=eD;refine cV (.inl rfl) ag rfl rfl rfl (by omega) (by omega) (bn _ _ _) rfl (by show 0+k*2≤ys.length;omega) aj ak (fun _=>rfl) rfl rfl rfl fun _=> ?_;refine ab [0,2,5,9,11,12,33,34] ?_;rw[EW,mO,Int.toNat_natCast];refine ae (aa 3 rfl (aS ag rfl rfl rfl rfl rfl (pX.le (EX _)) (by rw[Int.toNat_natCast];exact qM) (by omega) (by omega) fun _=> ?_));refine ab [0,2,5,9,11,12,33,34,48] ?_;refine aD rfl (fun hb=> ?_) (fun hb=> ?_)
   ·
    have fL:p.lp.free j=true:=by rw[jF];simpa using hb
    have ye:p.mi j<k:=Nat.lt_of_lt_of_le (wb gN fL) s6;have fV:fu [.int .i64 (-n1),.int .i64 d1] (-(fn c j*1)):=⟨-n1,d1,rfl,by omega,by omega,i3,i4,by rw[Rat.mul_one,b8,Rat.intCast_neg,Rat.div_def,Rat.div_def];grind⟩;refine bM .gB [0,1,2,3,4,5,6,7,8,9,10,11,12,13,14,15] follows (gL [0,0,0,0,12,28,60,124,0,0,768,1792,3840,8188,16383,32767] (by kernel_rfl)) ?_;refine aa 4 rfl (ki ag rfl rfl rfl rfl rfl rfl rfl (nK.le (EX _)) (by rw[Int.toNat_natCast];exact p9 0 _ rfl) (by omega) (by omega) fun _ _=> ?_);refine rH rfl ⟨by omega,by omega⟩ (aa 2 rfl (ki ag rfl rfl rfl rfl rfl rfl rfl (nK.le (EX _)) (by rw[Int.toNat_natCast];exact p9 1 _ rfl) (by omega) (by omega) fun _ _=> ?_));refine cL ag rfl fO rfl rfl ?_;obtain⟨ti,aj,ak⟩:=eD;refine cV (.inr rfl) ag rfl rfl rfl (by omega) (by omega) (bn _ _ _) rfl (by show 0+k*2≤(aJ ys (j*2) _).length;omega) aj ak (fun _=>rfl) rfl rfl rfl fun _=> ?_;refine ab [0,2,5,9,11,33,34] ?_;refine aA rfl (aa 1 rfl (aF rfl rfl ⟨by omega,by omega⟩ (aa 1 rfl (au (ah [0,2,5,9,11,33,34] rfl ?_)))));refine aA rfl (aF rfl rfl ⟨by omega,by omega⟩ (aa 1 rfl (au ?_)));rw[EW,mO]
    have e8:p.mi (j+1)=p.mi j+1:=by rw[wc,if_pos fL]
    exact⟨j+1,_,by omega,ar,rfl,by rw[Int.toNat_natCast];unfold fa;rw[if_pos fL];exact MR SD ye fV,by omega⟩
   have fL:¬p.lp.free j=true:=by rw[jF];simpa using hb
   refine az (ah [0,2,5,9,11,33,34] rfl ?_);refine aA rfl (aF rfl rfl ⟨by omega,by omega⟩ (aa 1 rfl (au ?_)))
   have e8:p.mi (j+1)=p.mi j:=by rw[wc,if_neg fL,Nat.add_zero]
   exact⟨j+1,_,by omega,ar,rfl,by unfold fa;rw[if_neg fL];exact SD,by omega⟩
  have gN:p.free.length≤j:=by simpa using hb
  obtain rfl:j=p.free.length:=by omega
  obtain⟨DX,SE⟩:=h.cY.apart (e:=⟨ys,k*2,138,true⟩) hz;have hZ0:QZ o (rem H G.gs) H (ins H z ⟨ys,k*2,138,true⟩) g G m k m M B z (fa p (fn c) 1 p.lp.n):=⟨⟨DX,List.mem_cons_of_mem _ h.gt,by rw[bg _ _ (Ne.symm nN)];exact h.st⟩,⟨_,bn _ _ _,hE⟩,nN,by rw[SE];exact .refl _,fun q hq _=>bg _ _ fun(e':q=z)=>h.cY.ne q hq (by rw[e'];exact hz)⟩;refine aX (ah [0,9] rfl ?_);refine ao (ae (aa 2 rfl (aW ag rfl rfl rfl (aR ag rfl rfl rfl (show cell _ _=some (.slice Ab m cb)from by rw[←du];exact hZ0.q.mH) ?_))));refine aa 2 rfl (ab [0,9,71,72] ?_);refine aE (fB (fun(i:Nat)(f:Nat→Rat)(o1:Bool)=>m-i) (fun(i:Nat)(f:Nat→Rat)(o1:Bool)=>put (put (put (put (emp) 0 (.val (.pointer (some ⟨g,0,none⟩)))) 9 (.val (.slice (some ⟨z,0,none⟩) k k))) 71 (.val (.int .i64 (m:Int)))) 72 (.val (.int .i64 (i:Int)))) (fun(i:Nat)(f:Nat→Rat)(o1:Bool) H'=>QZ o1 (rem H G.gs) H H' g G m k m M B z f∧(o1=false→o=false∧∀q,q<k→f q=lC M B (fa p (fn c) 1 p.lp.n) i q)∧i≤m) 0 (fa p (fn c) 1 p.lp.n) o (⟨hZ0,fun h9=>⟨h9,fun _ _=>rfl⟩,Nat.zero_le _⟩) ar ?_);rintro i f o1 H4 ⟨hZ,hI,hi⟩;obtain⟨zs,qh,sR⟩:=hZ.row;refine ae (aa 1 rfl (ab [0,9,71,72,73] ?_));refine ao (aD rfl (fun hb=> ?_) (fun hb=> ?_))
  ·
   have aP:i<m:=by simpa using hb
   have uN:=hB i aP;obtain⟨n4,d4,FA,oB,i1,i2,i3,i4,ct⟩:=mI sR uN;refine az (ah [0,9,71,72] rfl ?_);refine ao (aE (ae (aa 2 rfl (ab [0,9,13,71,72] ?_))));refine ae (aa 3 rfl (aW ag rfl rfl rfl (aR ag rfl rfl rfl (show cell _ _=some (.slice Ab m cb)from by rw[←du];exact hZ.q.mH) ?_)));refine aa 1 rfl (aS ag rfl rfl rfl rfl rfl (fG o _ _ hZ.q.cY i aP) (by rw[Int.toNat_natCast];exact gI aP) (by omega) (by omega) fun _=> ?_);refine cj (vs:=[.int .i64 n4,.int .i64 d4]) ag rfl rfl rfl rfl (dQ qh) rfl (by decide) (by rw[Int.toNat_natCast];exact oB) (by omega) (by omega) fun _=> ?_;refine bh fO rfl ?_;obtain⟨ti,aj,ak⟩:=eD;refine aH (.inl ⟨rfl,rfl⟩) rfl rfl rfl aj ak rfl rfl rfl (ab [0,9,13,14,71,72] ?_);refine Mt 14 rfl fun g14 yf oX=>(ao (ae (aW ag rfl rfl rfl (aR ag rfl rfl rfl (show cell _ ((⟨g14,0,none⟩:Addr).add 0)=_ by simp[cell,im,ins];rfl) ?_))));refine aa 1 rfl (ab [0,9,13,14,71,72,87] ?_);refine aD rfl (fun hb=> ?_) (fun hb=> ?_)
   ·
    have hb:n4=0:=by simpa using hb
    refine aX (ah [0,9,71,72] rfl ?_);refine aA rfl (aF rfl rfl ⟨by omega,by omega⟩ (aa 1 rfl (au ?_)));exact⟨i+1,f,o1,by omega,ar,hZ.fresh oX,fun h9=>⟨(hI h9).1,fun q hq=>by rw[aas (by rw[←(hI h9).2 _ (hB i aP),ct];exact(uJ i3).2 hb)];exact(hI h9).2 q hq⟩,by omega⟩
   have hb:n4≠0:=by simpa using hb
   have ajV:=hZ.fresh (e:=⟨[.int .i64 n4,.int .i64 d4],2,yf,true⟩) oX;obtain⟨_,z6⟩:=hZ.q.fresh (e:=⟨[.int .i64 n4,.int .i64 d4],2,yf,true⟩) oX;have ajW:Rd (rem (ins H4 g14 ⟨[.int .i64 n4,.int .i64 d4],2,yf,true⟩) (G.on (z::G.top)).gs) (some ⟨g14,0,none⟩) [.int .i64 n4,.int .i64 d4]:=R2 (ea _ _ _ _ _ _) fun hm=>hZ.q.cY.ne _ hm oX
   show VC _ _ _ _ _ _ _ (ins H4 g14 ⟨[.int .i64 n4,.int .i64 d4],2,yf,true⟩)
   generalize ins H4 g14 ⟨[.int .i64 n4,.int .i64 d4],2,yf,true⟩=H5 at *
   have qa:=ajV.vU;obtain⟨pi,cU⟩:=h.cY.get aP;refine az (ah [0,9,13,14,71,72] rfl ?_);refine ae (aa 3 rfl (ab [0,9,13,14,71,72,89,90] ?_));refine aE (fB (fun(q:Nat)(f2:Nat→Rat)(o2:Bool)=>k-q) (fun(q:Nat)(f2:Nat→Rat)(o2:Bool)=>put (put (put (put (put (put (put (put (emp) 0 (.val (.pointer (some ⟨g,0,none⟩)))) 9 (.val (.slice (some ⟨z,0,none⟩) k k))) 13 (.val (.int .i64 (i:Int)))) 14 (.val (.pointer (some ⟨g14,0,none⟩)))) 71 (.val (.int .i64 (m:Int)))) 72 (.val (.int .i64 (i:Int)))) 89 (.val (.int .i64 (k:Int)))) 90 (.val (.int .i64 (q:Int)))) (fun(q:Nat)(f2:Nat→Rat)(o2:Bool) H'=>QZ o2 (rem H5 (G.on (z::G.top)).gs) H H' g G m k m M B z f2∧(o2=false→o1=false∧∀j,f2 j=if j<q then f j-f (B i)*M i j else f j)∧q≤k) 0 f o1 (⟨qa,fun h9=>⟨h9,fun j=>by rw[if_neg (Nat.not_lt_zero _)]⟩,Nat.zero_le _⟩) ar ?_);rintro q f2 o2 H6 ⟨hY,hR,ie⟩;obtain⟨ws,s7,nC⟩:=hY.row;obtain⟨DY,qD,aad,sH⟩:=hY.q.rk;obtain⟨xi6,si6,SF,SG⟩:=hY.q.row (G:=G.on _) cU;have pH:=nC.len;rw[bB]at pH;refine ae (aa 1 rfl (ab [0,9,13,14,71,72,89,90,91] ?_));refine ao (aD rfl (fun hb=> ?_) (fun hb=> ?_))
   ·
    have s8:q<k:=by simpa using hb
    obtain⟨n5,d5,C6,lS,_⟩:=mI nC s8;obtain⟨n6,d6,lh,qC,_⟩:=mI SG s8;refine az (ah [0,9,13,14,71,72,89,90] rfl ?_);refine ao (aE (ae (aa 2 rfl (ab [0,9,13,14,15,71,72,89,90] ?_))));have bm:=IA g H6;refine eo (.cO (k8 g H6)) [0,1,2,3,4,5,6,7,8,9,10,11,12,13,14,15,16,17,18,19,20,21,22] follows (gL [0,0,0,0,0,24,56,0,0,0,512,1536,3584,0,15872,32256,0,130560,261632,524160,1048572,2097151,4194303] (by kernel_rfl)) ?_;refine eP bm rfl (eP bm rfl (eP bm rfl (eP bm rfl (eP bm rfl (Cs bm ag rfl rfl rfl rfl (zQ s7 nN) rfl (by decide) (by rw[Int.toNat_natCast];exact lS) (by omega) (by omega) fun _=> ?_)))));refine eP bm rfl (IB bm ag rfl rfl rfl (((ajW.le hY.le).kx hY.q.mem).at) (eP bm rfl (lU bm rfl (lV bm ag rfl rfl rfl (jR bm ag rfl rfl rfl (hY.q.k0) (eP bm rfl (Cr bm ag rfl rfl rfl rfl rfl (qD) (by rw[Int.toNat_natCast];exact sH i pi cU) (by omega) (by omega) fun _=> ?_)))))));refine eP bm rfl (Cs bm ag rfl rfl rfl rfl (zQ SF (hY.q.xX (G:=G.on _) cU)) rfl (by decide) (by rw[Int.toNat_natCast];exact qC) (by omega) (by omega) fun _=> ?_)
    refine Ct rfl rfl (RJ hY.q.mem hY.q.st (show fu _ (f (B i)) by rw[ct];exact⟨n4,d4,rfl,i1,i2,i3,i4,rfl⟩) lh) (fun v H9 qY=>by obtain⟨k1,_,_,_,_,_,k2,_⟩:=qY;exact hY.q.fM k1 k2) ?_;rintro v7 H7 ⟨sV,vs7,o7,q7,rfl,ajX,aau,jf⟩;have bm:=hY.q.fM sV aau;refine Ct rfl rfl (RK hY.q.mem aau C6 ajX) (fun v H9 qY=>by obtain⟨k1,_,_,_,_,_,k2,_⟩:=qY;exact hY.q.fM (sV.trans k1) k2) ?_;rintro v8 H8 ⟨qT,vs8,o8,q8,rfl,aav,sZ,eQ⟩;obtain⟨n8,d8,rfl,_⟩:=id aav;have bm:=hY.q.fM (sV.trans qT) sZ;have SH:=((sV.trans qT).same z QZ.mJ nN).trans s7;have SI:=hY.set (sV.trans qT) sZ s7 nC s8 aav;obtain⟨ti,aj,ak⟩:=eD;refine Mu bm ag rfl rfl rfl (by omega) (by omega) (SH) rfl (by show k*2≤ws.length;omega) aj ak (fun _=>rfl) rfl rfl rfl fun _=> ?_;refine au (ah [0,9,13,14,71,72,89,90] rfl ?_);refine aA rfl (aF rfl rfl ⟨by omega,by omega⟩ (aa 1 rfl (au ?_)))
    exact⟨q+1,bZ f2 q q8,o8,by omega,ar,SI,fun h9=>⟨(hR (jf (eQ h9).1).1).1,fun j=>by
     have g1:=eQ h9;have g2:=jf g1.1;have g3:=hR g2.1
     by_cases ej:j=q
     ·
      subst ej;rw[qX,g1.2,g2.2,g3.2 j,if_neg (by omega),if_pos (by omega)]
     ·
      rw[pa ej,g3.2 j]
      by_cases hj:j<q
      ·rw[if_pos hj,if_pos (by omega)]
      ·rw[if_neg hj,if_neg (by omega)]⟩,by omega⟩
   have s8:k≤q:=by simpa using hb
   obtain rfl:q=k:=by omega
   refine aX (ah [0,9,71,72] rfl ?_);refine aA rfl (aF rfl rfl ⟨by omega,by omega⟩ (aa 1 rfl (au ?_)))
   exact⟨i+1,f2,o2,by omega,ar,hY.down (hZ.le.trans z6),fun h9=>⟨(hI (hR h9).1).1,fun q hq=>by
    rw[(hR h9).2 q,if_pos hq,(hI (hR h9).1).2 q hq,(hI (hR h9).1).2 _ (hB i aP)];rfl⟩,by omega⟩
  have aP:m≤i:=by simpa using hb
  obtain rfl:i=m:=by omega
  refine aX (ah [9] rfl ?_);refine ae (aa 2 rfl (ab [8] ?_));refine aB ⟨.inr rfl,_,.tmp rfl (.nil),?_⟩;exact⟨z,f,o1,rfl,hZ,hI⟩
end Go.aq
namespace Go.aq
open Go.Proofs Num Lp
def iH(M:Nat→Nat→Rat)(B:Nat→Nat)(n:Nat):Nat→Nat→Rat
 | 0=>fun _=>0
 | i+1=>bZ (iH M B n i) (B i) (M i n)
theorem SJ{n d:Int}{q:Rat}(h1: -1073741824≤n)(h2:n≤1073741824)(h3:1≤d)(h4:d≤1073741824)(h:q=(n:Rat)/(d:Rat)):aN q≤8:=by
 have hz:∀k:Int,-1073741824≤k→k≤1073741824→aN (k:Rat)≤2:=fun k g1 g2=>KL.2 (by
  rw[Rat.num_intCast,Rat.den_intCast,cg];omega)
 have k1:=hz n h1 h2
 have k2:=hz d (by omega) h4
 have k3:=D5 (n:Rat) (d:Rat)
 rw[h];omega
def jG(p:Prg)(a:Nat→Rat)(j:Nat):Rat:=if p.lp.free j then a j-a (p.mi j)else a j
theorem aaw{o:Bool}{H:Heap}{g:Nat}{G:GG}{W m N:Nat}{M:Nat→Nat→Rat}{B:Nat→Nat}{p:Prg}{pv:Value}(h:QV o H g G (m+1) W m M B)(hp:m7 N (rem H G.gs) pv p)(s6:p.c1≤W)(h1W:1≤W)(hB:∀i,i<m→B i<W)(hm:(m:Int)≤900000)(hW:(W:Int)≤1000000):
 Fn Tryz.prog 102 #[.pointer (some ⟨g,0,none⟩),pv,.int .i64 (W:Int)] H (fun v H'=>Heap.le H H'∧aQ bV 3 H' v (aK (jG p (iH M B (W-1) m)) p.free.length)∧∀q,q<p.free.length→aN (jG p (iH M B (W-1) m) q)≤17):=by
 obtain⟨fv,kE,rfl,ng,nh⟩:=id hp
 obtain⟨Af,cf,xf,rfl,pX,pY⟩:=ng.one
 obtain⟨Ar,cr,xr,rfl,qm,kF,sP⟩:=id nh
 have dt:=yd (p:=p)
 have SC:p.free.length≤W:=Nat.le_trans dt s6;refine aZ (args:=[_,_,_]) Tryz.func102 rfl rfl Tryz.ntmps102 rfl rfl fun w0=> ?_;refine ah [0,1,2] rfl ?_;refine ae (bY rfl rfl (aa 1 rfl (ab [0,2,4] ?_)));refine ae (aa 1 rfl (gP Tryz.underlying136 fO rfl rfl rfl (by omega) (by omega) (by omega) (by omega) ?_));intro z hz;rw[Int.toNat_natCast]
 have nN:z≠g:=fun e9=>by rw[e9,h.st]at hz;cases hz
 have EX:∀e9:Ent,Heap.le (rem H G.gs) (ins H z e9):=fun e9=>(bD _ _).trans (Heap.bG _ hz)
 obtain⟨Ab,cb,du,fG⟩:∃Ab cb,G.bv = .slice Ab m cb∧∀i,i<m→Rd H Ab (eN B m):=by
  rcases h.cY.basis with ⟨h1,h2,h3⟩ | ⟨gb,cb,sz,h1,h2,h3⟩
  ·exact⟨none,0,by rw[h3,h1],fun i hi=>by omega⟩
  ·exact⟨_,cb,h2,fun i hi=>dQ h3⟩
 have FE:∀(e9:Ent) k v,cell H ((⟨g,0,none⟩:Addr).add k)=some v→cell (ins H z e9) ((⟨g,0,none⟩:Addr).add k)=some v:=fun e9 k v h9=>cB (Heap.bG _ hz) h9;refine aa 1 rfl (ab [0,2,4,7] ?_);refine ao (ae (aa 3 rfl (ab [0,2,4,7,17,18] ?_)));refine aE (gn (fun(k:Nat)(xs:List Value)=>W-k) (fun(k:Nat)(xs:List Value)=>put (put (put (put (put (put (emp) 0 (.val (.pointer (some ⟨g,0,none⟩)))) 2 (.val (.int .i64 (W:Int)))) 4 (.box [.slice Af p.free.length cf,.slice Ar p.rows.length cr])) 7 (.val (.slice (some ⟨z,0,none⟩) W W))) 17 (.val (.int .i64 (W:Int)))) 18 (.val (.int .i64 (k:Int)))) (fun(k:Nat)(xs:List Value) H'=>H'=ins H z ⟨xs,W*2,138,true⟩∧p8 W xs (fun _=>0) k∧k≤W) 0 (dd [.int .i64 0,.int .i64 0] (W*2)) (⟨rfl,SA,Nat.zero_le _⟩) ar ?_);rintro k xs H2 ⟨e2,hF,hk⟩;rw[e2];clear e2 H2;have cZ:=MS hF hk;refine ae (aa 1 rfl (ab [0,2,4,7,17,18,19] ?_));refine ao (aD rfl (fun hb=> ?_) (fun hb=> ?_))
 ·
  have fi:k<W:=by simpa using hb
  refine az (ah [0,2,4,7,17,18] rfl ?_);refine ao (aE (ae (aa 2 rfl (ab [0,2,4,7,8,17,18] ?_))));refine aA rfl (aa 2 rfl (cL ag rfl fO rfl rfl ?_));obtain⟨ti,aj,ak⟩:=eD;refine cV (.inl rfl) ag rfl rfl rfl (by omega) (by omega) (bn _ _ _) rfl (by show 0+W*2≤xs.length;omega) aj ak (fun _=>rfl) rfl rfl rfl fun _=> ?_;refine au (ah [0,2,4,7,17,18] rfl ?_);refine aA rfl (aF rfl rfl ⟨by omega,by omega⟩ (aa 1 rfl (au ?_)));rw[EW,mO];exact⟨k+1,_,by omega,ar,rfl,by rw[Int.toNat_natCast];exact Ss hF fi EJ,by omega⟩
 ·
  have hb:W≤k:=by simpa using hb
  obtain rfl:k=W:=by omega
  have IU:=Su hF;refine aX (ah [0,2,4,7] rfl ?_);refine ao (ae (aa 2 rfl (aW ag rfl rfl rfl (aR ag rfl rfl rfl (FE _ 1 (.slice Ab m cb) (by rw[←du];exact h.mH)) ?_))));refine aa 2 rfl (ab [0,2,4,7,30,31] ?_);refine aE (gn (fun(i:Nat)(ys:List Value)=>m-i) (fun(i:Nat)(ys:List Value)=>put (put (put (put (put (put (emp) 0 (.val (.pointer (some ⟨g,0,none⟩)))) 2 (.val (.int .i64 (k:Int)))) 4 (.box [.slice Af p.free.length cf,.slice Ar p.rows.length cr])) 7 (.val (.slice (some ⟨z,0,none⟩) k k))) 30 (.val (.int .i64 (m:Int)))) 31 (.val (.int .i64 (i:Int)))) (fun(i:Nat)(ys:List Value) H'=>H'=ins H z ⟨ys,k*2,138,true⟩∧bA fu 2 ys (aK (iH M B (k-1) i) k)∧i≤m) 0 xs (⟨rfl,IU,Nat.zero_le _⟩) ar ?_);rintro i ys H3 ⟨e3,hE,hi⟩;rw[e3];clear e3 H3;have kK:=hE.len;rw[bB]at kK;refine ae (aa 1 rfl (ab [0,2,4,7,30,31,32] ?_));refine ao (aD rfl (fun hb=> ?_) (fun hb=> ?_))
  ·
   have aP:i<m:=by simpa using hb
   have uN:=hB i aP;obtain⟨pi,cU⟩:=h.cY.get (show i<m+1 by omega);obtain⟨xi,si,sY,ya⟩:=h.row cU;obtain⟨PM,_,xB,gT⟩:=h.rk;obtain⟨n4,d4,FA,oB,_⟩:=mI ya (show k-1<k by omega);refine az (ah [0,2,4,7,30,31] rfl ?_);refine ao (aE (ae (aa 2 rfl (ab [0,2,4,7,9,30,31] ?_))));refine eo .gB [0,1,2,3,4,5,6,7,8,9,10,11,12,13,14,15,16,17,18,19,20] follows (gL [0,0,2,6,14,0,62,126,0,256,768,1792,0,7936,16128,0,32768,130816,261888,524287,1048575] (by kernel_rfl)) ?_;refine aa 3 rfl (aW ag rfl rfl rfl (aR ag rfl rfl rfl (FE _ 1 (.slice Ab m cb) (by rw[←du];exact h.mH)) ?_));refine aa 1 rfl (aS ag rfl rfl rfl rfl rfl ((fG i aP).le (Heap.bG _ hz)) (by rw[Int.toNat_natCast];exact gI aP) (by omega) (by omega) fun _=> ?_);refine aa 2 rfl (aW ag rfl rfl rfl (aR ag rfl rfl rfl (FE _ 0 _ h.iP) (aa 1 rfl (aS ag rfl rfl rfl rfl rfl (xB.le (Heap.bG _ hz)) (by rw[Int.toNat_natCast];exact gT i pi cU) (by omega) (by omega) fun _=> ?_))));refine aa 1 rfl (cQ rfl rfl ⟨by omega,by omega⟩ (cj (vs:=[.int .i64 n4,.int .i64 d4]) ag rfl rfl rfl rfl ((dQ sY).le (Heap.bG _ hz)) rfl (by decide) (by rw[show ((k:Int)-1).toNat=k-1 by omega];exact oB) (by omega) (by omega) fun _=> ?_))
   obtain⟨ti,aj,ak⟩:=eD;refine cV (.inr rfl) ag rfl rfl rfl (by omega) (by omega) (bn _ _ _) rfl (by show 0+k*2≤ys.length;omega) aj ak (fun _=>rfl) rfl rfl rfl fun _=> ?_;refine au (ah [0,2,4,7,30,31] rfl ?_);refine aA rfl (aF rfl rfl ⟨by omega,by omega⟩ (aa 1 rfl (au ?_)));rw[EW,mO];exact⟨i+1,_,by omega,ar,rfl,by rw[Int.toNat_natCast];exact MR hE uN FA,by omega⟩
  have aP:m≤i:=by simpa using hb
  obtain rfl:i=m:=by omega
  have cM:=EX ⟨ys,k*2,138,true⟩;have CE:Rd (ins H z ⟨ys,k*2,138,true⟩) (some ⟨z,0,none⟩) ys:=ea _ _ _ _ _ _;have SK:Heap.le H (ins H z ⟨ys,k*2,138,true⟩):=Heap.bG _ hz
  show VC _ _ _ _ _ _ _ (ins H z ⟨ys,k*2,138,true⟩)
  generalize ins H z ⟨ys,k*2,138,true⟩=H4 at *
  refine aX (ah [4,7] rfl ?_);refine ae (aa 3 rfl (gP Tryz.underlying28 bQ rfl rfl rfl (by omega) (by omega) (by omega) (by omega) ?_));intro gx lO;have z7:=Mi (P:=bV) (e:=38) (sz:=3) (zs:=[.bool false,.slice none 0 0,.slice none 0 0]) (z:=0) (k:=(p.free.length:Int)) (c:=p.free.length) lO rfl (Int.toNat_natCast _) (by unfold maxLen;omega);rw[Int.toNat_natCast]at z7⊢;refine aa 1 rfl (ab [4,7,10] ?_);refine ae (aa 4 rfl (ab [4,7,10,11] ?_));refine ao (ae (aa 4 rfl (ab [4,7,10,11,64,65] ?_)));refine aE (fB (fun(j:Nat)(w:Value)(ws:List Value)=>p.free.length-j) (fun(j:Nat)(w:Value)(ws:List Value)=>put (put (put (put (put (put (emp) 4 (.box [.slice Af p.free.length cf,.slice Ar p.rows.length cr])) 7 (.val (.slice (some ⟨z,0,none⟩) k k))) 10 (.val (w))) 11 (.val (.int .i64 (p.mi j:Int)))) 64 (.val (.int .i64 (p.free.length:Int)))) 65 (.val (.int .i64 (j:Int)))) (fun(j:Nat)(w:Value)(ws:List Value) H'=>dU bV 38 3 H4 H' w (aK (jG p (iH M B (k-1) i)) j) ws∧j≤p.free.length∧∀q,q<j→aN (jG p (iH M B (k-1) i) q)≤17) 0 _ _ (⟨z7,Nat.zero_le _,fun q hq=>absurd hq (Nat.not_lt_zero _)⟩) (by repeat (first | exact iJ _ | refine dA rfl ?_ | refine dA (iX (by first | omega | (simp;done) | rfl)) ?_)) ?_)
  rintro j w ws H5 ⟨hG,hj,cP⟩;obtain⟨A5,c5,e5⟩:=hG.form;rw[bB]at e5;subst e5;refine ae (aa 1 rfl (ab [4,7,10,11,64,65,66] ?_));refine ao (aD rfl (fun hb=> ?_) (fun hb=> ?_))
  ·
   have gN:j<p.free.length:=by simpa using hb
   obtain⟨n5,d5,C6,lS,i1,i2,i3,i4,dZ⟩:=mI hE (show j<k by omega);obtain⟨uf,qM,kn⟩:=pY j _ (List.getElem?_eq_getElem gN);have kn: [uf] = [Value.bool p.free[j]]:=kn
   cases kn
   have jF:p.lp.free j=p.free[j]:=Prg.Bu (List.getElem?_eq_getElem gN);have anJ:=SJ i1 i2 i3 i4 dZ
   have W8:aN (jG p (iH M B (k-1) i) j)≤17:=by
    unfold jG
    split
    ·
     rename_i q6
     obtain⟨n9,d9,_,_,k1,k2,k3,k4,k5⟩:=mI hE (show p.mi j<k from Nat.lt_of_lt_of_le (wb gN q6) s6);have k6:=SJ k1 k2 k3 k4 k5;have k7:=rU (iH M B (k-1) i j) (iH M B (k-1) i (p.mi j))
     omega
    ·omega
   refine az (ah [4,7,10,11,64,65] rfl ?_);refine ao (aE (ae (aa 2 rfl (ab [4,7,10,11,12,64,65] ?_))));refine bM .bJ [0,1,2,3,4,5,6,7,8,9,10,11,12] follows (by kernel_rfl) ?_;refine aa 2 rfl (ki ag rfl rfl rfl rfl rfl rfl rfl (CE.le hG.le) (by rw[Int.toNat_natCast];exact lS 0 _ rfl) (by omega) (by omega) fun _ _=> ?_);refine aa 2 rfl (ki ag rfl rfl rfl rfl rfl rfl rfl (CE.le hG.le) (by rw[Int.toNat_natCast];exact lS 1 _ rfl) (by omega) (by omega) fun _ _=> ?_);refine aY rfl rfl (hG.call (XX (a:=n5) (b:=d5) (by omega) (by omega) (by omega) (by omega)).rc) (fun _ _ h=>h.le fun _ _ h=>h.1) ?_;rintro _ H6 nv;have gU:=hG.kX cX nv fun _ _ h=>h.1;obtain⟨⟨_,t6,rfl,oV⟩,_⟩:=nv;rw[←dZ]at oV;refine bh bQ rfl ?_;obtain⟨ti,aj,ak⟩:=aU;refine aH (.inl ⟨rfl,rfl⟩) rfl rfl rfl aj ak rfl rfl rfl (ab [4,7,10,11,12,13,64,65] ?_);refine AW (fun(t:RC)(a:Nat)=>put (put (put (put (put (put (put (emp) 4 (.box [.slice Af p.free.length cf,.slice Ar p.rows.length cr])) 7 (.val (.slice (some ⟨z,0,none⟩) k k))) 10 (.val (.slice A5 j c5))) 11 (.val (.int .i64 (a:Int)))) 13 (.box [.bool t.f,.slice t.A1 t.m1 t.c1,.slice t.A2 t.m2 t.c2])) 64 (.val (.int .i64 (p.free.length:Int)))) 65 (.val (.int .i64 (j:Int)))) (fun(t:RC)(a:Nat) H'=>dU bV 38 3 H4 H' (.slice A5 j c5) (aK (jG p (iH M B (k-1) i)) j) ws∧a=p.mi (j+1)∧bH (rem H' (aw (.slice A5 j c5))) t.v (jG p (iH M B (k-1) i) j)) ?_ ?_
   ·
    refine ae (aa 3 rfl (aS ag rfl rfl rfl rfl rfl (pX.le (cM.trans gU.le)) (by rw[Int.toNat_natCast];exact qM) (by omega) (by omega) fun _=> ?_));refine ab [4,7,10,11,13,64,65,83] ?_;refine aD rfl (fun hb=> ?_) (fun hb=> ?_)
    ·
     have fL:p.lp.free j=true:=by rw[jF];simpa using hb
     have ye:p.mi j<k:=Nat.lt_of_lt_of_le (wb gN fL) s6;obtain⟨n7,d7,PT,sW,j1,j2,j3,j4,aax⟩:=mI hE ye;have anK:=SJ j1 j2 j3 j4 aax;refine bM .bJ [0,1,2,3,4,5,6,7,8,9,10,11,12,13] follows (by kernel_rfl) ?_;refine aa 3 rfl (ki ag rfl rfl rfl rfl rfl rfl rfl (CE.le gU.le) (by rw[Int.toNat_natCast];exact sW 0 _ rfl) (by omega) (by omega) fun _ _=> ?_);refine aa 2 rfl (ki ag rfl rfl rfl rfl rfl rfl rfl (CE.le gU.le) (by rw[Int.toNat_natCast];exact sW 1 _ rfl) (by omega) (by omega) fun _ _=> ?_);refine aY rfl rfl (gU.call (XX (a:=n7) (b:=d7) (by omega) (by omega) (by omega) (by omega)).rc) (fun _ _ h=>h.le fun _ _ h=>h.1) ?_;rintro _ H7 EY;have l0:=gU.kX cX EY fun _ _ h=>h.1;have ajY:=oV.le EY.post.1;obtain⟨⟨_,t7,rfl,jf⟩,_⟩:=EY;rw[←aax]at jf;refine aY rfl rfl (l0.call (Ej (N:=10) ((bH.raw ajY).mono (by omega)) ((bH.raw jf).mono (by omega)) (by decide)).rc) (fun _ _ h=>h.le fun _ _ h=>h.1) ?_;rintro _ H8 uO;have qN:=l0.kX cX uO fun _ _ h=>h.1;obtain⟨⟨_,t8,rfl,eQ⟩,_⟩:=uO;obtain⟨ti,aj,ak⟩:=aU;refine aH (.inl ⟨rfl,rfl⟩) rfl rfl rfl aj ak rfl rfl rfl (ab [4,7,10,11,13,64,65] ?_);refine aA rfl (aa 1 rfl (aF rfl rfl ⟨by omega,by omega⟩ (vr 1 ?_)))
     refine au ?_;exact⟨t8,p.mi j+1,ar,qN,by rw[wc,if_pos fL],by unfold jG;rw[if_pos fL];exact eQ⟩
    have fL:¬p.lp.free j=true:=by rw[jF];simpa using hb
    refine az ?_;exact⟨t6,p.mi j,ar,gU,by rw[wc,if_neg fL,Nat.add_zero],by unfold jG;rw[if_neg fL];exact oV⟩
   rintro t a H9 ⟨nQ,uk,fW⟩;subst uk;refine aA rfl (aa 2 rfl (cI Tryz.underlying28 bQ rfl rfl rfl rfl rfl rfl rfl ?_));intro gb aV;have nx:=nQ.ins cX (whole (dS [.agg #[.bool t.f,.slice t.A1 t.m1 t.c1,.slice t.A2 t.m2 t.c2]]) 38) aV;refine dW Tryz.underlying28 bQ rfl rfl nx.own (ea _ _ _ _ _ _) rfl (zK _ _ _ _ _ _ _) (by rw[bB];omega) (by rw[bB];omega) ?_;intro W9 je SL;have nQ:=nx.append cX (k:=[jG p (iH M B (k-1) i) j]) (by simp) SL (iE (cX _ _ _ _ (pK _ (Heap.bG _ aV)) (show bV _ [_,_,_] _ from fW)) rfl);refine aa 1 rfl (au (ah [4,7,10,11,64,65] rfl ?_));refine aA rfl (aF rfl rfl ⟨by omega,by omega⟩ (aa 1 rfl (au ?_)))
   exact⟨j+1,_,_,by omega,ar,by rw[xE];exact nQ,by omega,fun q hq=>by
    by_cases eq:q=j
    ·subst eq;exact W8
    ·exact cP q (by omega)⟩
  have gN:p.free.length≤j:=by simpa using hb
  obtain rfl:j=p.free.length:=by omega
  refine aX (ah [10] rfl ?_);refine ae (aa 2 rfl (ab [6] ?_));refine aB ⟨.inr rfl,_,.tmp rfl (.nil),?_⟩;exact⟨SK.trans hG.le,hG.sl cX,cP⟩
end Go.aq
namespace Go.aq
open Go.Proofs Num Lp
section
variable {p:Prg}
theorem ajZ{x y:Nat}(hx:x<p.w)(hy:y<p.w)(h:p.pi x=p.pi y):x=y:=by
 have lo:∀{a b:Nat},a<p.lp.n→b<p.lp.n→a6 p.lp.free a=a6 p.lp.free b→a=b:=fun{a b} _ _ e=>by
  rcases Nat.lt_trichotomy a b with k | k | k
  ·have:=BX (fr:=p.lp.free) k;omega
  ·exact k
  ·have:=BX (fr:=p.lp.free) k;omega
 have mx:∀{a b:Nat},p.lp.free b=true→a6 p.lp.free a≠a6 p.lp.free b+1:=fun{a b} hb e=>by
  rcases Nat.lt_trichotomy a b with k | k | k
  ·have:=BX (fr:=p.lp.free) k;omega
  ·subst k;omega
  ·have:=BX (fr:=p.lp.free) k
   rw[if_pos hb]at this;omega
 by_cases cx:x<p.c1
 ·have tD:y<p.c1:=by
   have h1:=MN cx
   refine Classical.byContradiction fun hn=> ?_
   rw[wa (Nat.le_of_not_lt hn)]at h
   omega
  by_cases ax:x<p.lp.n
  ·by_cases ay:y<p.lp.n
   ·rw[yc ax,yc ay]at h;exact lo ax ay h
   ·obtain⟨j,g1,g2,rfl⟩:=IQ (Nat.le_of_not_lt ay) tD
    rw[yc ax,zW g1 g2]at h
    exact absurd h (mx g2)
  ·obtain⟨i,k1,k2,rfl⟩:=IQ (Nat.le_of_not_lt ax) cx
   by_cases ay:y<p.lp.n
   ·rw[yc ay,zW k1 k2]at h
    exact absurd h.symm (mx k2)
   ·obtain⟨j,g1,g2,rfl⟩:=IQ (Nat.le_of_not_lt ay) tD
    rw[zW k1 k2,zW g1 g2]at h
    rw[lo k1 g1 (by omega)]
 ·by_cases cy:y<p.c1
  ·have h1:=MN cy
   rw[wa (Nat.le_of_not_lt cx)]at h
   omega
  ·rw[wa (Nat.le_of_not_lt cx),wa (Nat.le_of_not_lt cy)]at h;exact h
structure Tw(p:Prg)(S T:av):Prop where
 em:T.m=S.m
 en:T.n=S.n
 ew:S.n=p.w
 eA:∀i,i<S.m→∀j,j≤p.w→T.A i j=S.A i (p.pi j)
 ec:∀j,j≤p.w→T.c j=S.c (p.pi j)
 eB:∀i,i<S.m→S.B i=p.pi (T.B i)∧T.B i<p.w
variable {S T:av} {c0:Nat→Rat} {c:List Rat}
theorem Tw.pivot(h:Tw p S T){r s:Nat}(hr:r<S.m)(hs:s<p.w):Tw p (S.pivot r (p.pi s)) (T.pivot r s):=by
 refine⟨h.em,h.en,h.ew,fun i hi j hj=> ?_,fun j hj=> ?_,fun i hi=> ?_⟩
 ·have hi:i<S.m:=hi
  show (if i=r then T.A r j/T.A r s else T.A i j-T.A i s*(T.A r j/T.A r s))=if i=r then S.A r (p.pi j)/S.A r (p.pi s)else S.A i (p.pi j)-S.A i (p.pi s)*(S.A r (p.pi j)/S.A r (p.pi s))
  rw[h.eA r hr j hj,h.eA r hr s (by omega),h.eA i hi j hj,h.eA i hi s (by omega)]
 ·show T.c j-T.c s*(T.A r j/T.A r s)=S.c (p.pi j)-S.c (p.pi s)*(S.A r (p.pi j)/S.A r (p.pi s))
  rw[h.ec j hj,h.ec s (by omega),h.eA r hr j hj,h.eA r hr s (by omega)]
 ·have hi:i<S.m:=hi
  show (if i=r then p.pi s else S.B i)=p.pi (if i=r then s else T.B i)∧(if i=r then s else T.B i)<p.w
  split
  ·exact⟨rfl,hs⟩
  ·exact h.eB i hi
theorem Tw.wf(h:Tw p S T)(hW:S.WF):T.WF where
 lt i hi:=by rw[h.en,h.ew];exact(h.eB i (by rw[←h.em];exact hi)).2
 unit i k hi hk:=by
  rw[h.em]at hi hk
  have:=h.eB i hi
  rw[h.eA k hk _ (by omega),←this.1]
  exact hW.unit i k hi hk
 zero i hi:=by
  rw[h.em]at hi
  have:=h.eB i hi
  rw[h.ec _ (by omega),←this.1]
  exact hW.zero i hi
theorem Tw.rhs(h:Tw p S T){i:Nat}(hi:i<S.m):T.A i T.n=S.A i S.n:=by
 rw[h.en,h.ew,h.eA i hi _ (Nat.le_refl _),CB]
theorem Tw.fm(h:Tw p S T)(hF:S.jO):T.jO:=fun i hi=>by
 rw[h.em]at hi
 rw[h.rhs hi];exact hF i hi
theorem Tw.aj0(h:Tw p S T)(hF:T.jO):S.jO:=fun i hi=>by
 rw[←h.rhs hi];exact hF i (by rw[h.em];exact hi)
theorem Tw.EZ(h:Tw p S T){i:Nat}(hi:i<S.m):p.u≤S.B i↔p.u≤T.B i:=by
 have h1:=h.eB i hi
 constructor
 ·intro k
  refine Classical.byContradiction fun hn=> ?_
  have:=zX (p:=p) (x:=T.B i) (by omega)
  omega
 ·intro k
  rw[h1.1,Sm k];exact k
theorem Tw.clean(h:Tw p S T){k:Nat}(hC:av.Clean p.u k S):av.Clean p.u k T where
 zero i hi hu:=by
  rw[h.em]at hi
  rw[h.rhs hi];exact hC.zero i hi ((h.EZ hi).2 hu)
 row i hk hi hu j hj:=by
  rw[h.em]at hi
  have:=ft p
  rw[h.eA i hi j (by omega)]
  exact hC.row i hk hi ((h.EZ hi).2 hu) _ (zX hj)
theorem Tw.aj1(h:Tw p S T){k:Nat}(hC:av.Clean p.u k T):av.Clean p.u k S where
 zero i hi hu:=by
  rw[←h.rhs hi];exact hC.zero i (by rw[h.em];exact hi) ((h.EZ hi).1 hu)
 row i hk hi hu y hy:=by
  obtain⟨x,hx,rfl⟩:=MP hy
  have:=ft p
  rw[←h.eA i hi x (by omega)]
  exact hC.row i hk (by rw[h.em];exact hi) ((h.EZ hi).1 hu) x hx
theorem Tw.inv(h:Tw p S T)(hI:Inv p c0 S){r s:Nat}(hr:r<S.m)(hs:s<p.w)(hp:T.A r s≠0)(hF:(T.pivot r s).jO):Inv p c0 (S.pivot r (p.pi s)):=by
 have yK:S.A r (p.pi s)≠0:=by rw[←h.eA r hr s (by omega)];exact hp
 have hm:r<p.lp.m:=by rw[←hI.rows.m];exact hr
 have hw:=Sn hs
 exact⟨av.Bs hI.wf hr (by rw[h.ew];exact hw) yK,(h.pivot hr hs).aj0 hF,hI.rows.pivot hm yK,hI.rows.Pn hI.off hm⟩
def l4(p:Prg)(T:av):Prop:=∃S,Inv p (pn p) S∧Tw p S T
def nV(p:Prg)(c:List Rat)(T:av):Prop:=∃S,I2 p c S∧Tw p S T
def iT(p:Prg)(k:Nat)(T:av):Prop:=∃S,Jx p k S∧Tw p S T
theorem l4.step{r s:Nat}(h:l4 p T)(hb:T.oL p.u r s):l4 p (T.pivot r s):=by
 obtain⟨S,hI,hT⟩:=h
 have hr:r<S.m:=by rw[←hT.em];exact hb.rm
 have hs:s<p.w:=Nat.lt_of_lt_of_le hb.su (ft p)
 exact⟨_,hT.inv hI hr hs (by have:=hb.pos;grind) (av.Gi (hT.fm hI.fm) hb),hT.pivot hr hs⟩
theorem nV.step{r s:Nat}(h:nV p c T)(hb:T.oL p.u r s):nV p c (T.pivot r s):=by
 obtain⟨S,hI,hT⟩:=h
 have hr:r<S.m:=by rw[←hT.em];exact hb.rm
 have hs:s<p.w:=Nat.lt_of_lt_of_le hb.su (ft p)
 have hP:=hT.pivot hr hs
 have hC:=hT.clean hI.2
 rw[←hT.em]at hC
 exact⟨_,⟨hT.inv hI.1 hr hs (by have:=hb.pos;grind) (av.Gi (hT.fm hI.1.fm) hb),by have h9:=hP.aj1 (hC.Gl hb);rw[hP.em]at h9;exact h9⟩,hP⟩
theorem l4.acc(h:l4 p T):Acc (av.Step p.u) T:=by
 obtain⟨S,hI,hT⟩:=h
 exact av.Pj (hT.wf hI.wf) (hT.fm hI.fm) (by rw[hT.en,hT.ew];exact ft p)
theorem nV.acc(h:nV p c T):Acc (av.Step p.u) T:=by
 obtain⟨S,hI,hT⟩:=h
 exact av.Pj (hT.wf hI.1.wf) (hT.fm hI.1.fm) (by rw[hT.en,hT.ew];exact ft p)
theorem iT.skip{k:Nat}(h:iT p k T)(hk:k<T.m)(hz:T.B k<p.u∨∀j,j<p.u→T.A k j=0):iT p (k+1) T:=by
 obtain⟨S,hI,hT⟩:=h
 rw[hT.em]at hk
 refine⟨S,hI.skip ?_,hT⟩
 rcases hz with hz | hz
 ·have:=hT.EZ hk
  exact .inl (by omega)
 ·refine .inr fun y hy=> ?_
  obtain⟨x,hx,rfl⟩:=MP hy
  have:=ft p
  rw[←hT.eA k hk x (by omega)];exact hz x hx
theorem iT.pivot{k s:Nat}(h:iT p k T)(hk:k<T.m)(hu:p.u≤T.B k)(hs:s<p.u)(hp:T.A k s≠0):iT p (k+1) (T.pivot k s):=by
 obtain⟨S,hI,hT⟩:=h
 rw[hT.em]at hk
 have hw:=ft p
 exact⟨_,hI.pivot hk ((hT.EZ hk).2 hu) (zX hs) (by rw[←hT.eA k hk s (by omega)];exact hp),hT.pivot hk (by omega)⟩
theorem l4.clean(h:l4 p T)(hn:∀j,j<p.u→0≤T.c j)(h0:T.c p.w=0):iT p 0 T:=by
 obtain⟨S,hI,hT⟩:=h
 have:S.c p.w=0:=by rw[hT.ec _ (Nat.le_refl _),CB]at h0;exact h0
 exact⟨S,⟨hI,Ys hI (by grind)⟩,hT⟩
theorem l4.inf(bO:p.Ok)(h:l4 p T)(hn:∀j,j<p.u→0≤T.c j)(h0:T.c p.w≠0):p.lp.pN:=by
 obtain⟨S,hI,hT⟩:=h
 have e:T.c p.w=S.c p.w:=by rw[hT.ec _ (Nat.le_refl _),CB]
 have hw:=ft p
 have hS:∀y,y<p.u→0≤S.c y:=fun y hy=>by
  obtain⟨x,hx,rfl⟩:=MP hy
  rw[←hT.ec x (by omega)];exact hn x hx
 have h1:=av.Wg hI.wf hI.fm hI.rows hI.off
 have fV:S.c p.w<0:=Classical.byContradiction fun hk=>h0 (by rw[e];exact(h1 (by grind)).1)
 have h2:=Yr bO hI hS fV
 exact h2.cert.isInf bO.valid
theorem l4.aay(h:l4 p T){s:Nat}(hs:s<p.u)(fV:T.c s<0)(hA:∀i,i<T.m→T.A i s≤0):False:=by
 obtain⟨S,hI,hT⟩:=h
 have hw:=ft p
 refine Yt hI (zX hs) (by rw[←hT.ec s (by omega)];exact fV) fun i hi=> ?_
 rw[←hT.eA i hi s (by omega)];exact hA i (by rw[hT.em];exact hi)
theorem aj2(hv:p.lp.Valid):∀{k:Nat}{j:Nat},k≤p.lp.m→p.u≤j→j<a8 p.lp.rel p.aI p.u k→∃i,i<k∧p.unit i=j:=by
 intro k
 induction k with
 | zero=>
  intro j _ h1 h2
  exact absurd h2 (by show ¬j<p.u;omega)
 | succ k ih=>
  intro j hk h1 h2
  have e:a8 p.lp.rel p.aI p.u (k+1)=a8 p.lp.rel p.aI p.u k+(if eY (p.lp.rel k) (p.aI k)then 0 else 1):=rfl
  by_cases hj:j<a8 p.lp.rel p.aI p.u k
  ·obtain⟨i,g1,g2⟩:=ih (by omega) h1 hj
   exact⟨i,by omega,g2⟩
  ·by_cases o:eY (p.lp.rel k) (p.aI k)=true
   ·rw[if_pos o]at e;omega
   ·rw[if_neg o]at e
    exact⟨k,by omega,by rw[vP o];omega⟩
def ra(p:Prg)(M:Nat→Nat→Rat)(k:Nat):Rat:=if k<p.u∨k=p.w then-a7 p.lp.m (fun i=>if p.u≤p.unit i then M i k else 0)else 0
def yg(M:Nat→Nat→Rat)(B:Nat→Nat)(m w:Nat):av:=⟨m,w,M,M m,B⟩
theorem MT{M:Nat→Nat→Rat}{B:Nat→Nat}{m w:Nat}:gW M B (yg M B m w) m (w+1):=⟨rfl,rfl,fun _ _ _ _=>rfl,fun _ _=>rfl,fun _ _=>rfl⟩
theorem aaz(i:Nat):p.pi (p.unit i)=p.unit i:=wa LH
theorem aaA(bO:p.Ok){M:Nat→Nat→Rat}(hM:∀i,i<p.lp.m→∀j,j≤p.w→M i j=dN p i j)(hc:∀j,j≤p.w→M p.lp.m j=ra p M j):l4 p (yg M p.unit p.lp.m p.w):=by
 have hI:Inv p (pn p) (pW p.eh (pn p)):=Inv.base B6
 have hA:∀i,i<p.lp.m→∀j,j≤p.w→M i j=p.eh.A i (p.pi j):=fun i hi j hj=>by rw[hM i hi j hj,Sr bO.valid hi hj]
 refine⟨_,hI,rfl,rfl,rfl,hA,fun j hj=> ?_,fun i hi=>⟨(aaz i).symm,nO p hi⟩⟩
 show M p.lp.m j=gK p.eh (pn p) p.lp.m (p.pi j)
 rw[hc j hj]
 have hpu:∀i,i<p.lp.m→pn p (p.unit i)=if p.u≤p.unit i then 1 else 0:=fun i hi=>by
  show av.jq _ _ _=_
  unfold av.jq
  by_cases k:p.u≤p.unit i
  ·rw[if_pos k,if_pos ⟨k,nO p hi⟩]
  ·rw[if_neg k,if_neg (fun k'=>k k'.1)]
 have DP:a7 p.lp.m (fun i=>pn p (p.eh.B i)*p.eh.A i (p.pi j))=a7 p.lp.m (fun i=>if p.u≤p.unit i then M i j else 0):=eM fun i hi=>by
  show pn p (p.unit i)*_=_
  rw[hpu i hi,hA i hi j hj]
  split <;> grind
 unfold ra gK
 rw[DP]
 by_cases h1:j<p.u
 ·have h2:=ft p
  have h3:=zX h1
  have e:pn p (p.pi j)=0:=av.Pp h3
  rw[if_pos (.inl h1),if_neg (by show ¬p.pi j=p.w;omega),e];grind
 ·by_cases h2:j=p.w
  ·rw[if_pos (.inr h2),h2,if_pos (show p.pi p.w=p.eh.n from CB)];grind
  ·rw[if_neg (fun k=>k.elim h1 h2)]
   obtain⟨i0,hi0,e0⟩:=aj2 bO.valid (Nat.le_refl _) (Nat.le_of_not_lt h1) (show j<p.w by omega)
   have hz:=hI.wf.zero i0 hi0
   have hz:gK p.eh (pn p) p.lp.m (p.unit i0)=0:=hz
   unfold gK at hz
   rw[←DP,←e0,aaz];exact hz.symm
theorem aaB{M:Nat→Nat→Rat}{B:Nat→Nat}{f:Nat→Rat}{m:Nat}(hu:∀i k,i<m→k<m→M k (B i)=if k=i then 1 else 0):∀i,i≤m→∀k,lC M B f i k=f k-a7 i (fun q=>f (B q)*M q k):=by
 intro i
 induction i with
 | zero=>intro _ k;show f k=f k-0;grind
 | succ i ih=>
  intro hi k
  have e1:lC M B f i (B i)=f (B i):=by
   rw[ih (by omega),lM fun q hq=> ?_]
   ·grind
   ·rw[hu i q (by omega) (by omega),if_neg (by omega)];grind
  show lC M B f i k-lC M B f i (B i)*M i k=_
  rw[e1,ih (by omega),gq];grind
theorem aaC{M:Nat→Nat→Rat}{B:Nat→Nat}(h:iT p p.lp.m T)(hr:gW M B T p.lp.m (p.w+1)){M':Nat→Nat→Rat}(hM:∀i,i<p.lp.m→∀j,j≤p.w→M' i j=M i j)(jw:∀j,j≤p.w→M' p.lp.m j=lC M B (fa p (fn c) 1 p.lp.n) p.lp.m j):nV p c (yg M' B p.lp.m p.w):=by
 obtain⟨S,hI,hT⟩:=h
 have hm:S.m=p.lp.m:=hI.1.rows.m
 have hW:=hT.wf hI.1.wf
 have hn:=hT.en.trans hT.ew
 refine⟨_,I2.start hI,hm.symm,hT.ew.symm,hT.ew,fun i hi j hj=> ?_,fun j hj=> ?_,fun i hi=> ?_⟩
 ·have hi:i<S.m:=hi
  show M' i j=S.A i (p.pi j)
  rw[hM i (by omega) j hj,hr.eA i (by omega) j (by omega),hT.eA i hi j hj]
 ·show M' p.lp.m j=gK S (kf p c) S.m (p.pi j)
  have hu:∀i k,i<p.lp.m→k<p.lp.m→M k (B i)=if k=i then 1 else 0:=fun i k hi hk=>by
   have h1:=hW.lt i (by rw[hr.em];exact hi)
   rw[hr.eB i hi,hr.eA k hk _ (by omega)]
   exact hW.unit i k (by rw[hr.em];exact hi) (by rw[hr.em];exact hk)
  rw[jw j hj,aaB hu _ (Nat.le_refl _)]
  unfold gK
  have e1:fa p (fn c) 1 p.lp.n j=if p.pi j=S.n then 0 else kf p c (p.pi j):=by
   rw[IS]
   by_cases e:p.pi j=S.n
   ·rw[if_pos e]
    have e':p.pi j=p.w:=e.trans hT.ew
    have h1:=LN (p:=p) (c:=c)
    rw[e'];exact h1
   ·rw[if_neg e]
  rw[e1,hm]
  congr 1
  refine eM fun i hi=> ?_
  have h1:=hT.eB i (by omega)
  rw[hr.eB i hi,IS,hr.eA i hi j (by omega),hT.eA i (by omega) j hj,h1.1]
 ·have hi:i<S.m:=hi
  have h1:=hT.eB i hi
  show S.B i=p.pi (B i)∧B i<p.w
  rw[hr.eB i (by omega)];exact h1
theorem aj3{M:Nat→Nat→Rat}{B:Nat→Nat}{n m:Nat}(lj:∀i k,i<m→k<m→B i=B k→i=k):∀i,i≤m→∀x,iH M B n i x=a7 i (fun q=>if B q=x then M q n else 0):=by
 intro i
 induction i with
 | zero=>intro _ x;rfl
 | succ i ih=>
  intro hi x
  rw[gq]
  show bZ (iH M B n i) (B i) (M i n) x=_
  by_cases e:x=B i
  ·subst e
   rw[qX,if_pos rfl,lM fun q hq=> ?_]
   ·grind
   ·rw[if_neg (fun e'=>by have:=lj q i (by omega) (by omega) e';omega)]
  ·rw[pa e,ih (by omega),if_neg (fun e'=>e e'.symm)];grind
theorem aj4{M:Nat→Nat→Rat}{B:Nat→Nat}(hI:I2 p c S)(hT:Tw p S T)(hr:gW M B T p.lp.m (p.w+1)){j:Nat}(hj:j<p.lp.n):jG p (iH M B p.w p.lp.m) j=dL.vec p.lay.pF p.lay.mF S.pt j:=by
 have hm:S.m=p.lp.m:=hI.1.rows.m
 have hW:=hT.wf hI.1.wf
 have hn:=hT.en.trans hT.ew
 have key:∀x,x<p.w→iH M B p.w p.lp.m x=S.pt (p.pi x):=fun x hx=>by
  have h1:=Sn hx
  rw[aj3 (m:=p.lp.m) (fun i k hi hk e=> ?_) _ (Nat.le_refl _)]
  ·unfold av.pt
   rw[if_neg (by rw[hT.ew];omega),hm]
   refine eM fun i hi=> ?_
   have h2:=hT.eB i (by omega)
   have e:B i=x↔S.B i=p.pi x:=by
    rw[hr.eB i hi,h2.1]
    exact⟨fun e=>by rw[e],fun e=>ajZ h2.2 hx e⟩
   by_cases e2:B i=x
   ·rw[if_pos e2,if_pos (e.1 e2),hr.eA i hi _ (by omega),hT.eA i (by omega) _ (Nat.le_refl _),CB,hT.ew]
   ·rw[if_neg e2,if_neg (fun k=>e2 (e.2 k))]
  ·rw[hr.eB i hi,hr.eB k hk]at e
   exact hW.inj (by rw[hr.em];exact hi) (by rw[hr.em];exact hk) e
 have h1:=yd (p:=p)
 have h2:=mC p
 have h3:=ft p
 unfold jG dL.vec
 rw[zy p hj,Es hj]
 by_cases hf:p.lp.free j=true
 ·rw[if_pos hf,if_pos hf,key j (by omega),yc hj]
  have h4:=wb hj hf
  rw[key _ (by omega),zW hj hf];rfl
 ·rw[if_neg hf,if_neg hf,key j (by omega),yc hj]
  show _=_-0
  grind
def qb(p:Prg)(c:List Rat)(st:Int)(v:Rat):Prop:=(st=1∧p.lp.rY (fn c) v∧∃T,I2 p c T∧v = -(T.c p.w))∨(st=2∧p.lp.pN∧v=0)∨(st=3∧p.lp.vB (fn c)∧v=0)
theorem nV.opt(bO:p.Ok)(fh:c.length=p.free.length)(h:nV p c T)(hn:∀j,j<p.u→0≤T.c j){M:Nat→Nat→Rat}{B:Nat→Nat}(hr:gW M B T p.lp.m (p.w+1)):
  qb p c 1 (cJ p.free.length (fn c) (fn (aK (jG p (iH M B p.w p.lp.m)) p.free.length))):=by
 obtain⟨S,hI,hT⟩:=h
 have hw:=ft p
 have hS:∀y,y<p.u→0≤S.c y:=fun y hy=>by
  obtain⟨x,hx,rfl⟩:=MP hy
  rw[←hT.ec x (by omega)];exact hn x hx
 obtain⟨h1,h2⟩:=Yu bO fh hI hS
 have e:aK (jG p (iH M B p.w p.lp.m)) p.free.length=aK (dL.vec p.lay.pF p.lay.mF S.pt) p.lp.n:=ln fun j hj=>aj4 hI hT hr hj
 rw[e]
 exact .inl ⟨rfl,h1.cert.V0 bO.valid,S,hI,h2.symm⟩
theorem nV.unb(bO:p.Ok)(fh:c.length=p.free.length)(h:nV p c T){s:Nat}(hs:s<p.u)(fV:T.c s<0)(hA:∀i,i<T.m→T.A i s≤0):qb p c 3 0:=by
 obtain⟨S,hI,hT⟩:=h
 have hw:=ft p
 have h1:=Yv bO fh hI (zX hs) (by rw[←hT.ec s (by omega)];exact fV) fun i hi=>by
  rw[←hT.eA i hi s (by omega)];exact hA i (by rw[hT.em];exact hi)
 exact .inr (.inr ⟨rfl,h1.cert.V1,rfl⟩)
end
end Go.aq
namespace Go.aq
open Go.Proofs Num Lp
theorem aaD{H:Heap}{a b:List Nat}(h:∀q,q∈a↔q∈b):rem H a=rem H b:=by
 funext q
 unfold rem
 simp only[h]
theorem aaE{α:Type}{P:Heap→List Value→α→Prop}{e sz:Nat}{H:Heap}{gs:List Nat}{g c:Nat}{zs:List Value}{z k:Int}(hg:H g=none)(hz:z.toNat=0)(hk:k.toNat=c)(hc:c≤maxLen)(hl:∀q,q∈gs→H q≠none):fE gs H P e sz (ins H g ⟨dd zs (z.toNat*sz),k.toNat*sz,e,true⟩) (.slice (some ⟨g,0,none⟩) z.toNat k.toNat) [] []:=by
 have h1:=Mi (P:=P) (e:=e) (sz:=sz) (zs:=zs) hg hz hk hc
 have hn:¬g∈gs:=fun hm=>hl g hm hg
 refine⟨h1.own,qx,?_,fun q hq=>bg _ _ fun(e':q=g)=>hn (by rw[←e'];exact hq),hl,fun q hq hb=> ?_⟩
 ·intro q en hq
  by_cases hm:q∈gs
  ·rw[rem_in hm]at hq;cases hq
  ·rw[bL hm]at hq
   have bo:q≠g:=fun e'=>by rw[e',hg]at hq;cases hq
   refine⟨en,?_,.refl _⟩
   rw[bL,bg _ _ bo]
   ·exact hq
   ·intro h2
    rcases List.mem_append.1 h2 with h2 | h2
    ·exact hm h2
    ·exact bo (List.mem_singleton.1 h2)
 ·have hb:q∈[g]:=hb
  exact hn (by rw[←List.mem_singleton.1 hb];exact hq)
section
variable {C:CK} {o:Bool} {H H' H0:Heap} {g:Nat} {G:GG} {R W m:Nat} {M:Nat→Nat→Rat} {B:Nat→Nat} {f:Nat→Rat}
theorem fE.cY{α:Type}{P:Heap→List Value→α→Prop}{e sz n c z:Nat}{l:List α}{xs:List Value}(h:cA C H0 G R W m M B)(hG:fE G.gs H0 P e sz H (.slice (some ⟨z,0,none⟩) n c) l xs):cA C H (G.on (z::G.top)) R W m M B∧Heap.le (rem H0 G.gs) (rem H (G.on (z::G.top)).gs)∧rem H (G.on (z::G.top)).gs=rem H (G.gs++aw (.slice (some ⟨z,0,none⟩) n c)):=by
 have e1:rem H (G.on (z::G.top)).gs=rem H (G.gs++aw (.slice (some ⟨z,0,none⟩) n c)):=aaD fun q=>by
  show q∈z::G.gs↔q∈G.gs ++ [z]
  simp[or_comm]
 have hz:z∈aw (.slice (some ⟨z,0,none⟩) n c):=List.mem_singleton.2 rfl
 have hm:¬z∈G.gs:=fun hm=>hG.apart z hm hz
 refine⟨h.Co (t:=z::G.top) (List.nodup_cons.2 ⟨hm,h.nd⟩) (fun q hq=> ?_) (fun q hq=>hG.same q (GG.kI hq)) (by rw[e1];exact hG.base),by rw[e1];exact hG.base,e1⟩
 rcases List.mem_cons.1 hq with rfl | hq
 ·exact hG.nT q (List.mem_append_right _ hz)
 ·rw[hG.same q (GG.Cm hq)];exact h.top q hq
theorem QV.more{z c lB:Nat}{A':Option Addr}(h:QV o H g (G.on (z::G.top)) R W m M B)(hg:g∈G.top)(bo:z≠g)(hz:o6 vY (rem H (G.on (z::G.top)).gs) H z (aK f W))(ha:App H (.slice G.Ar R G.cr) 136 1 (R+1) (iR (G.rg ++ [(z,c)]) W) (.slice A' (R+1) lB) H'):
  QV o (ins H' g ⟨[.slice A' (R+1) lB,G.bv,.bool o],3,135,true⟩) g (G.more G.top z c A' lB R) (R+1) W m (fun i=>if i=R then f else M i) B∧Heap.le (rem H (G.on (z::G.top)).gs) (rem (ins H' g ⟨[.slice A' (R+1) lB,G.bv,.bool o],3,135,true⟩) (G.more G.top z c A' lB R).gs)∧H' g=some ⟨[.slice G.Ar R G.cr,G.bv,.bool o],3,135,true⟩:=by
 obtain⟨h1,h2⟩:=h.cY.more hz ha
 have hm:g∈(G.more G.top z c A' lB R).top:=hg
 have qG:g∈(G.more G.top z c A' lB R).gs:=GG.Cm hm
 have hT:fR (G.more G.top z c A' lB R).gs g H' (ins H' g ⟨[.slice A' (R+1) lB,G.bv,.bool o],3,135,true⟩):=((Kept.refl _ _).iF g).ins qG _
 refine⟨⟨h1.Cp hm hT (by rw[bn];simp),hm,bn _ _ _⟩,h2.trans hT.le,?_⟩
 refine ha.same g _ h.st fun e=> ?_
 have hb:g∈(G.on (z::G.top)).hb:=by rw[h.cY.lY];exact cF.2 e
 exact GG.uI h.cY.nd (q:=g) (r:=g) (List.mem_cons_of_mem _ hg) (GG.Cn hb) rfl
theorem QV.less(h:QV o H g G (R+1) W m M B):∃H',Heap.le H' (ins H g ⟨[.slice G.Ar R G.cr,G.bv,.bool o],3,135,true⟩)∧QV o H' g (G.less R) R W m M B∧Heap.le (rem H G.gs) (rem H' (G.less R).gs)∧R≤G.cr:=by
 have hT:fR G.gs g H (ins H g ⟨[.slice G.Ar R G.cr,G.bv,.bool o],3,135,true⟩):=((Kept.refl _ _).iF g).ins h.mem _
 have h1:=h.cY.Cp h.gt hT (by rw[bn];simp)
 obtain⟨H',k1,k2,k3,k4,_,k5⟩:=h1.less
 exact⟨H',k1,⟨k2,h.gt,by rw[k4 g h.gt];exact bn _ _ _⟩,hT.le.trans k3,k5⟩
end
structure IV(H:Heap)(Ar:Option Addr)(Ab:Option Addr)(rg:List (Nat×Nat))(m W:Nat)(M:Nat→Nat→Rat)(B:Nat→Nat):Prop where
 len:rg.length=m
 kP:Rd H Ar (iR rg W)
 row:∀(i:Nat)(p:Nat×Nat),rg[i]? = some p→∃xs,Rd H (some ⟨p.1,0,none⟩) xs∧bA (bV H) 3 xs (aK (M i) W)
 s9:Rd H Ab (eN B m)
theorem IV.le{H H':Heap}{Ar Ab:Option Addr}{rg:List (Nat×Nat)}{m W:Nat}{M:Nat→Nat→Rat}{B:Nat→Nat}(h:IV H Ar Ab rg m W M B)(hl:Heap.le H H'):IV H' Ar Ab rg m W M B:=
 ⟨h.len,h.kP.le hl,fun i p hp=>by
  obtain⟨xs,h1,h2⟩:=h.row i p hp
  exact⟨xs,h1.le hl,h2.mono fun vs a=>cX _ _ vs a hl⟩,h.s9.le hl⟩
theorem aj5{H H':Heap}(gs:List Nat)(hl:Heap.le H H')(bo:∀q,q∈gs→H q≠none):∃th,Heap.le th H'∧Kept gs H th:=by
 refine⟨fun q=>if q∈gs then H q else H' q,fun q en hq=> ?_,fun q en hq=> ?_,fun q hq=>by simp[hq]⟩
 ·by_cases hm:q∈gs
  ·simp only[hm,if_true]at hq;exact hl q en hq
  ·simp only[hm,if_false]at hq;exact⟨en,hq,.refl _⟩
 ·by_cases hm:q∈gs
  ·rw[rem_in hm]at hq;cases hq
  ·rw[bL hm]at hq
   rw[bL hm]
   simp only[hm,if_false];exact hl q en hq
end Go.aq
namespace Go.aq
open Go.Proofs Num Lp
structure KQ(gs:List Nat)(H:Heap)(q:Rat)(v:Value)(H':Heap):Prop where
 kept:Kept gs H H'
 le:Heap.le H H'
 val:∃t:RC,v=t.v∧bH (rem H' gs) t.v q
theorem Fn.kq{P:Program}{f:FuncId}{args:Array Value}{H:Heap}{gs:List Nat}{q:Rat}(jB:∀g,g∈gs→H g≠none)(h:Fn P f args (rem H gs) (j0 (rem H gs) q)):Fn P f args H (KQ gs H q):=
 (Fn.frame jB h.rc).mono fun v H' hf=>⟨.of hf fun v K hp=>hp.1,hf.le fun v K hp=>hp.1,hf.post.2⟩
theorem l5{K:Heap}{xs:List Value}{f:Nat→Rat}{W k:Nat}(h:bA (bV K) 3 xs (aK f W))(hk:k<W):∃t:RC,bH K t.v (f k)∧∀(j:Nat)(v:Value),[.bool t.f,.slice t.A1 t.m1 t.c1,.slice t.A2 t.m2 t.c2][j]? = some v→xs[k*3+j]? = some v:=by
 obtain⟨vs,_,h2,h3⟩:=h.get (dM hk)
 obtain⟨t,e⟩:=bH.rc (show bH K (.agg vs.toArray) (f k)from h2)
 have e2:=DS e
 subst e2
 exact⟨t,h2,h3⟩
theorem aaF{K:Heap}{xs vs:List Value}{f:Nat→Rat}{n k:Nat}{q:Rat}(h:bA (bV K) 3 xs (aK f n))(hk:k<n)(hv:bV K vs q):bA (bV K) 3 (aJ xs (k*3) vs) (aK (bZ f k q) n):=by
 rw[←PL]
 exact h.set (by rw[bB];exact hk) hv (iG.len _ _ _ hv)
section
variable {K H H':Heap} {G:GG} {R W m:Nat} {M M':Nat→Nat→Rat} {B:Nat→Nat} {u u':Value} {l:List Nat} {f:Nat→Rat}
theorem cA.hd{C:CK}(h:cA C H G R W m M B):Rd H G.Ar (iR G.rg W):=h.rows.rd
theorem cA.s9{C:CK}(h:cA C H G R W m M B):∃Ab cb,G.bv = .slice Ab m cb∧∀{H' t R' M' B'},cA C H' (G.on t) R' W m M' B'→∀i,i<m→Rd H' Ab (eN B' m):=by
 rcases h.basis with ⟨h1,h2,h3⟩ | ⟨gb,cb,sz,h1,h2,h3⟩
 ·exact⟨none,0,by rw[h3,h1],fun _ i hi=>by omega⟩
 ·refine⟨_,cb,h2,fun h' i hi=> ?_⟩
  rcases h'.basis with ⟨k1,k2,k3⟩ | ⟨Cv,ES,fk,k1,k2,k3⟩
  ·omega
  ·have k1:G.bb = [Cv]:=k1
   rw[h1]at k1;cases k1;exact dQ k3
theorem cA.rb(h:cA iG H G R W m M B){i:Nat}{p:Nat×Nat}(hp:G.rg[i]? = some p):∃xs sz,H p.1=some ⟨xs,sz,38,true⟩∧bA (bV (rem H G.gs)) 3 xs (aK (M i) W):=h.row i p hp
theorem cA.aj6(h:cA iG H G R W m M B){i:Nat}{p:Nat×Nat}(hp:G.rg[i]? = some p)(iI:Kept G.gs H H'){xs:List Value}{sz:Nat}(hx:H p.1=some ⟨xs,sz,38,true⟩)(ix:bA (bV (rem H G.gs)) 3 xs (aK (M i) W)){k:Nat}(hk:k<W){vs:List Value}{q:Rat}(hv:bV (rem H' G.gs) vs q):
  cA iG (ins H' p.1 ⟨aJ xs (k*3) vs,sz,38,true⟩) G R W m (iA M i (bZ (M i) k q)) B∧Heap.le (rem H G.gs) (rem (ins H' p.1 ⟨aJ xs (k*3) vs,sz,38,true⟩) G.gs):=by
 have hm:=GG.kI (GG.gJ hp)
 have h1:=h.kept iI
 have hT:fR G.gs p.1 H' (ins H' p.1 ⟨aJ xs (k*3) vs,sz,38,true⟩):=((Kept.refl _ _).iF p.1).ins hm _
 refine⟨h1.setRow hp hT ⟨_,_,bn _ _ _,?_⟩,iI.le.trans hT.le⟩
 rw[cE _ hm]
 exact aaF (ix.mono fun vs a=>cX _ _ vs a iI.le) hk hv
theorem cA.fresh{C:CK}(h:cA C H G R W m M B){k:Nat}{e:Ent}(hk:H k=none):cA C (ins H k e) G R W m M B∧Heap.le (rem H G.gs) (rem (ins H k e) G.gs):=by
 have hm:¬k∈G.gs:=fun hm=>h.ne k hm hk
 have hl:Heap.le (rem H G.gs) (rem (ins H k e) G.gs):=by
  rw[vw _ hm]
  exact Heap.bG _ (by rw[bL hm];exact hk)
 exact⟨h.kept ⟨hl,fun q hq=>bg _ _ fun(e':q=k)=>hm (by rw[←e'];exact hq)⟩,hl⟩
theorem cA.CF{C:CK}(h:cA C H G R W m M B)(hM:∀i,i<R→∀j,j<W→M' i j=M i j):cA C H G R W m M' B:=h.congr hM fun _ _=>rfl
structure GU(K H:Heap)(G:GG)(R W m:Nat)(M:Nat→Nat→Rat)(B:Nat→Nat)(u:Value)(l:List Nat):Prop where
 q:cA iG H (G.on (aw u++G.top)) R W m M B
 own:bR H u 3 1 l.length (vZ l)
 le:Heap.le K (rem H (G.on (aw u++G.top)).gs)
theorem GU.step(h:GU K H G R W m M B u l)(hq:cA iG H' (G.on (aw u++G.top)) R W m M' B)(hl:Heap.le (rem H (G.on (aw u++G.top)).gs) (rem H' (G.on (aw u++G.top)).gs))(hs:∀q,q∈aw u→H' q=H q):GU K H' G R W m M' B u l:=
 ⟨hq,h.own.same fun q tt=>hs q (cF.2 tt),h.le.trans hl⟩
theorem GU.kept(h:GU K H G R W m M B u l)(k:Kept (G.on (aw u++G.top)).gs H H'):GU K H' G R W m M B u l:=h.step (h.q.kept k) k.le fun q hq=>k.same q (QU.xY hq)
theorem GU.set(h:GU K H G R W m M B u l){i:Nat}{p:Nat×Nat}(hp:G.rg[i]? = some p)(iI:Kept (G.on (aw u++G.top)).gs H H'){xs:List Value}{sz:Nat}(hx:H p.1=some ⟨xs,sz,38,true⟩)(ix:bA (bV (rem H (G.on (aw u++G.top)).gs)) 3 xs (aK (M i) W)){k:Nat}(hk:k<W){vs:List Value}{q:Rat}(hv:bV (rem H' (G.on (aw u++G.top)).gs) vs q):
  GU K (ins H' p.1 ⟨aJ xs (k*3) vs,sz,38,true⟩) G R W m (iA M i (bZ (M i) k q)) B u l:=by
 obtain⟨h1,h2⟩:=h.q.aj6 (G:=G.on (aw u++G.top)) hp iI hx ix hk hv
 refine h.step h1 h2 fun r hr=> ?_
 rw[bg _ _ (fun e=>GG.uI h.q.nd (q:=r) (r:=p.1) (List.mem_append_left _ hr) (GG.gJ (G:=G.on (aw u++G.top)) hp) e)]
 exact iI.same r (QU.xY hr)
theorem GU.app(h:GU K H G R W m M B u l){k n:Nat}(hn:n=l.length+1)(ha:App H u 3 1 n (vZ l ++ [.int .i64 (k:Int)]) u' H'):GU K H' G R W m M B u' (l ++ [k]):=by
 obtain⟨h1,h2⟩:=h.q.app ha
 refine⟨h1,?_,h.le.trans h2⟩
 have:=ha.own
 rw[hn]at this
 rw[List.length_append,vZ,List.map_append];exact this
theorem GU.fresh(h:GU K H G R W m M B u l){k:Nat}{e:Ent}(hk:H k=none):GU K (ins H k e) G R W m M B u l:=by
 obtain⟨h1,h2⟩:=h.q.fresh (e:=e) hk
 exact h.step h1 h2 fun q hq=>bg _ _ fun(e':q=k)=>h.q.ne q (QU.xY hq) (by rw[e'];exact hk)
theorem GU.vU(h:GU K H G R W m M B u l):GU (rem H (G.on (aw u++G.top)).gs) H G R W m M B u l:=⟨h.q,h.own,.refl _⟩
theorem GU.down{K':Heap}(h:GU K H G R W m M B u l)(hl:Heap.le K' K):GU K' H G R W m M B u l:=⟨h.q,h.own,hl.trans h.le⟩
theorem GU.drop(h:GU K H G R W m M B u l):cA iG H G R W m M B∧Heap.le K (rem H G.gs):=by
 have hl:Heap.le (rem H (G.on (aw u++G.top)).gs) (rem H G.gs):=vV fun q hq=>by
  rw[GG.xW,List.append_assoc];exact List.mem_append_right _ hq
 have dV:=h.q.nd
 rw[GG.xW,List.append_assoc]at dV
 exact⟨h.q.Co (t:=G.top) (List.nodup_append.1 dV).2.1 (fun q hq=>h.q.top q (List.mem_append_right _ hq)) (fun _ _=>rfl) hl,h.le.trans hl⟩
theorem GU.rd{A:Option Addr}{n c:Nat}(h:GU K H G R W m M B (.slice A n c) l):Rd H A (vZ l):=by
 have h1:=h.own
 obtain⟨A',c',e⟩:=h1.form
 cases e
 exact h1.rd
end
end Go.aq
namespace Go.aq
open Go.Proofs Num Lp
theorem aaG{H:Heap}{G:GG}{R W m N:Nat}{M:Nat→Nat→Rat}{B:Nat→Nat}{r c:Nat}(h:cA iG H G R W m M B)(hr:r<m)(kF:r<R)(hc:c<W)(hp:M r c≠0)(hz:∀i,i<R→∀j,j<W→aN (M i j)≤N)(PF:∀i,i<R→∀j,j<W→aN (lZ M r c i j)≤N)(hN:(N:Int)≤200000000000)(hR:(R:Int)≤1000000)(hW:(W:Int)≤1000000):
 Fn Tryz.prog 58 #[.agg #[.slice G.Ar R G.cr,G.bv],.int .i64 (r:Int),.int .i64 (c:Int)] H (fun _ H'=>∃M',cA iG H' G R W m M' (fun i=>if i=r then c else B i)∧(∀i,i<R→∀j,j<W→M' i j=lZ M r c i j)∧Heap.le (rem H G.gs) (rem H' G.gs)):=by
 obtain⟨pr,cW⟩:=h.get kF
 obtain⟨Ab,cb,du,fG⟩:=h.s9
 rw[du]
 obtain⟨xr0,sr0,tz,ID⟩:=h.rb cW
 obtain⟨t0,Ks,mW⟩:=l5 ID hc
 have jd:=hz r kF c hc
 have aaH:∀j,j<W→aN (M r j/M r c)≤N:=fun j hj=>by
  have:=PF r kF j hj
  unfold lZ at this;rwa [if_pos rfl]at this
 have hinv:aN (1/M r c)≤N:=by
  have e:(1:Rat)/M r c=(M r c)⁻¹:=by rw[Rat.div_def];grind
  rw[e];exact Nat.le_trans (WN _) jd
 refine aZ (args:=[_,_,_]) Tryz.func58 rfl rfl Tryz.ntmps58 rfl rfl fun w0=> ?_;refine ah [0,1,2] rfl ?_;refine ae (bY rfl rfl (ab [1,2,3] ?_));refine bM .bJ [1,2,3,4,5,6,7,8,0,9,10,11,12,13,14,15] follows (gL [0,0,2,0,14,30,0,126,254,511,1023,2047,2047,0,12287,32767] (by kernel_rfl)) ?_;refine aa 3 rfl (aS ag rfl rfl rfl rfl rfl (h.hd) (by rw[Int.toNat_natCast];exact kj (rg:=G.rg) (W:=_) cW) (by omega) (by omega) fun _=> ?_);refine aa 1 rfl (cj (vs:=[.bool t0.f,.slice t0.A1 t0.m1 t0.c1,.slice t0.A2 t0.m2 t0.c2]) ag rfl rfl rfl rfl (dQ tz) rfl (by decide) (by rw[Int.toNat_natCast];exact mW) (by omega) (by omega) fun _=> ?_);refine aY rfl rfl (Fn.kq h.ne (oU (n:=1) (by decide) (by decide))) (fun _ _ h=>by first | exact h.le | exact h.1) ?_;rintro v5 H5 IW;obtain⟨t5,rfl,dZ⟩:=IW.val;rw[show ((1:Int):Rat)=1 from rfl]at dZ
 have qq:aN (1:Rat)≤2:=by decide
 have h5:=h.kept IW.kept;have anL:=(IW.kept.same _ (GG.kI (GG.gJ cW))).trans tz;refine aY rfl rfl (Fn.frame h5.ne (P8 (N:=N+4) ((bH.raw dZ).mono (by omega)) ((bH.raw (Ks.le IW.kept.le)).mono (by omega)) (by omega))) (fun _ _ h=>h.le fun _ _ h=>h.1) ?_;rintro _ H6 nv;have hK6:Kept G.gs H5 H6:= .of nv fun v K hp=>hp.1;obtain⟨_,w6,rfl,oV⟩:=nv.post;obtain⟨t6,rfl⟩:=oV.rc;have h6:=h5.kept hK6;have iy:=IW.kept.le.trans hK6.le;have R4:GU (rem H6 G.gs) H6 G R W m (iA M r (M r)) B (.slice none 0 0) (eL (M r) 0):=⟨by rw[MA];exact h6,kL _ _ _,.refl _⟩;refine aa 3 rfl (bh bQ rfl ?_);obtain⟨ti,aj,ak⟩:=aU;refine aH (.inl ⟨rfl,rfl⟩) rfl rfl rfl aj ak rfl rfl rfl (aa 1 rfl (ab [1,2,3,6] ?_));refine ae (aa 1 rfl (ab [1,2,3,6,8] ?_));refine ao (ae (aa 3 rfl (aS ag rfl rfl rfl rfl rfl (h6.hd) (by rw[Int.toNat_natCast];exact kj (rg:=G.rg) (W:=_) cW) (by omega) (by omega) fun _=> ?_)));refine aa 2 rfl (ab [1,2,3,6,8,32,33] ?_);refine aE (fB (fun(k:Nat)(u:Value)(f:Nat→Rat)=>W-k) (fun(k:Nat)(u:Value)(f:Nat→Rat)=>put (put (put (put (put (put (put (emp) 1 (.val (.int .i64 (r:Int)))) 2 (.val (.int .i64 (c:Int)))) 3 (.box [.slice G.Ar R G.cr,.slice Ab m cb])) 6 (.box [.bool t6.f,.slice t6.A1 t6.m1 t6.c1,.slice t6.A2 t6.m2 t6.c2])) 8 (.val (u))) 32 (.val (.int .i64 (W:Int)))) 33 (.val (.int .i64 (k:Int)))) (fun(k:Nat)(u:Value)(f:Nat→Rat) H'=>GU (rem H6 G.gs) H' G R W m (iA M r f) B u (eL (M r) k)∧Z8 false false M r c W k f∧k≤W) 0 (.slice none 0 0) (M r) (⟨R4,⟨fun _ _=>rfl,fun h9=>⟨h9,fun j hj=>absurd hj (Nat.not_lt_zero _)⟩⟩,Nat.zero_le _⟩) ar ?_)
 rintro k u f H7 ⟨hU,hP,hk⟩;obtain⟨A7,c7,rfl⟩:=hU.own.form;obtain⟨R5,sr7,Cu,xZ⟩:=hU.q.rb (G:=G.on _) cW;rw[pc]at xZ;have R6:=xZ.len;rw[bB]at R6;have zl:=Z5 (M r) k;refine ae (aa 1 rfl (ab [1,2,3,6,8,32,33,34] ?_));refine ao (aD rfl (fun hb=> ?_) (fun hb=> ?_))
 ·
  have fi:k<W:=by simpa using hb
  obtain⟨t7,sV,sW⟩:=l5 xZ fi;have e7:=hP.1 k (Nat.le_refl _);have E0:=hz r kF k fi;have anM:=aaH k fi;refine az (ah [1,2,3,6,8,32,33] rfl ?_);refine ao (aE (ae (aa 2 rfl (ab [1,2,3,6,8,9,32,33] ?_))));refine ae (aa 3 rfl (aS ag rfl rfl rfl rfl rfl (hU.q.hd) (by rw[Int.toNat_natCast];exact kj (rg:=G.rg) (W:=_) cW) (by omega) (by omega) fun _=> ?_));refine aa 1 rfl (cj (vs:=[.bool t7.f,.slice t7.A1 t7.m1 t7.c1,.slice t7.A2 t7.m2 t7.c2]) ag rfl rfl rfl rfl (dQ Cu) rfl (by decide) (by rw[Int.toNat_natCast];exact sW) (by omega) (by omega) fun _=> ?_);refine aC rfl rfl (Fn.lR hU.q.ne (xK (bH.raw sV) (by rw[e7];omega))) ?_;rintro v8 H8 ⟨qU,jQ,rfl⟩;have x6:=hU.kept qU;have IE:=(qU.same _ (GG.kI (GG.gJ (G:=G.on _) cW))).trans Cu;refine aa 1 rfl (ab [1,2,3,6,8,9,32,33,45] ?_);refine aD rfl (fun hb=> ?_) (fun hb=> ?_)
  ·
   have bo:M r k≠0:=fun h9=>by rw[e7,h9]at hb;simp[fI]at hb
   refine bM .gB [0,1,2,3,4,5,6,7,8,9,10,11,12,13,14,15,16,17] follows (gL [0,1,0,7,15,0,0,64,0,448,960,0,4032,8128,0,32704,65535,131071] (by kernel_rfl)) ?_;refine aa 3 rfl (aS ag rfl rfl rfl rfl rfl (x6.q.hd) (by rw[Int.toNat_natCast];exact kj (rg:=G.rg) (W:=_) cW) (by omega) (by omega) fun _=> ?_);refine aa 4 rfl (aS ag rfl rfl rfl rfl rfl (x6.q.hd) (by rw[Int.toNat_natCast];exact kj (rg:=G.rg) (W:=_) cW) (by omega) (by omega) fun _=> ?_);refine aa 1 rfl (cj (vs:=[.bool t7.f,.slice t7.A1 t7.m1 t7.c1,.slice t7.A2 t7.m2 t7.c2]) ag rfl rfl rfl rfl (dQ IE) rfl (by decide) (by rw[Int.toNat_natCast];exact sW) (by omega) (by omega) fun _=> ?_);refine aa 1 rfl (aY rfl rfl (Fn.kq x6.q.ne (Lx (N:=N) ((bH.raw (sV.le qU.le)).mono (by rw[e7];omega)) ((bH.raw (oV.le x6.le)).mono hinv) (by omega))) (fun _ _ h=>by first | exact h.le | exact h.1) ?_);rintro v9 H9 SM;obtain⟨t9,rfl,fW⟩:=SM.val;have aj7:=(SM.kept.same _ (GG.kI (GG.gJ (G:=G.on _) cW))).trans IE;have qZ:=x6.set cW SM.kept IE (by rw[pc];exact xZ.mono fun vs a=>cX _ _ vs a qU.le) fi (show bV _ [_,_,_] _ from fW);rw[pc,My]at qZ;obtain⟨ti,aj,ak⟩:=aU;refine cV (.inr rfl) ag rfl rfl rfl (by omega) (by omega) (aj7) rfl (by show 0+W*3≤R5.length;omega) aj ak (fun _=>rfl) rfl rfl rfl fun _=> ?_
   refine ab [1,2,3,6,8,9,32,33] ?_;rw[Nat.zero_add,Int.toNat_natCast];refine aA rfl (aa 2 rfl (cI Tryz.underlying49 fC rfl rfl rfl rfl rfl rfl rfl ?_));intro gb aV;have qZ:=qZ.fresh (e:=whole [.int .i64 (k:Int)] 3) aV;refine dW Tryz.underlying49 fC rfl rfl (qZ.own) (ea _ _ _ _ _ _) (rfl) (sN _) (by omega) (by omega) ?_;intro u' lW R7;have R8:=qZ.app rfl R7;refine aa 1 rfl (au (ah [1,2,3,6,8,32,33] rfl ?_));refine aA rfl (aF rfl rfl ⟨by omega,by omega⟩ (aa 1 rfl (au ?_)))
   exact⟨k+1,u',bZ f k (f k*(1/M r c)),by omega,ar,by rw[Mx,if_neg bo];exact R8,⟨fun j hj=>by rw[pa (by omega)];exact hP.1 j (by omega),fun h9=>by
    obtain⟨g3,g4⟩:=hP.2 h9;refine⟨g3,fun j hj=> ?_⟩
    by_cases ej:j=k
    ·
     subst ej;rw[qX,hP.1 j (Nat.le_refl _),Rat.div_def,Rat.div_def];grind
    ·rw[pa ej];exact g4 j (by omega)⟩,by omega⟩
  ·
   have we:M r k=0:=by rw[←e7];exact vD (by simpa using hb)
   refine az (ah [1,2,3,6,8,32,33] rfl ?_);refine aA rfl (aF rfl rfl ⟨by omega,by omega⟩ (aa 1 rfl (au ?_)))
   exact⟨k+1,_,f,by omega,ar,by rw[Mx,if_pos we,List.append_nil];exact x6,⟨fun j hj=>hP.1 j (by omega),fun h9=>by
    obtain⟨g3,g4⟩:=hP.2 h9;refine⟨g3,fun j hj=> ?_⟩
    by_cases ej:j=k
    ·
     subst ej;rw[hP.1 j (Nat.le_refl _),we,Rat.div_def];grind
    ·exact g4 j (by omega)⟩,by omega⟩
 ·
  have hb:W≤k:=by simpa using hb
  obtain rfl:k=W:=by omega
  have R9:zR false false M r c R k 0 (iA M r f):=⟨fun i _ hi=>EN hi,fun h9=>by
   obtain⟨g3,g4⟩:=hP.2 h9;refine⟨g3,fun i _ j hj hd=> ?_⟩
   obtain rfl:i=r:=by omega
   rw[pc,g4 j hj];unfold lZ;rw[if_pos rfl]⟩
  have dV:=Z6 (M r) k;refine aX (ah [1,2,3,8] rfl ?_);refine ao (ae (aa 4 rfl (ab [1,2,3,8,70,71] ?_)));refine aE (gn (fun(i:Nat)(M1:Nat→Nat→Rat)=>R-i) (fun(i:Nat)(M1:Nat→Nat→Rat)=>put (put (put (put (put (put (emp) 1 (.val (.int .i64 (r:Int)))) 2 (.val (.int .i64 (c:Int)))) 3 (.box [.slice G.Ar R G.cr,.slice Ab m cb])) 8 (.val (.slice A7 (eL (M r) k).length c7))) 70 (.val (.int .i64 (R:Int)))) 71 (.val (.int .i64 (i:Int)))) (fun(i:Nat)(M1:Nat→Nat→Rat) H'=>GU (rem H6 G.gs) H' G R k m M1 B (.slice A7 (eL (M r) k).length c7) (eL (M r) k)∧zR false false M r c R k i M1∧i≤R) 0 (iA M r f) (⟨hU,R9,Nat.zero_le _⟩) ar ?_);rintro i M1 je ⟨hV,hQ,hi⟩;refine ae (aa 1 rfl (ab [1,2,3,8,70,71,72] ?_));refine ao (aD rfl (fun hb=> ?_) (fun hb=> ?_))
  ·
   have uK:i<R:=by simpa using hb
   obtain⟨pi,cU⟩:=h.get uK;obtain⟨ajx,ajy,IF,Sa⟩:=hV.q.rb (G:=G.on _) cU;obtain⟨t11,sX,EE⟩:=l5 Sa hc;refine az (ah [1,2,3,8,70,71] rfl ?_);refine ao (aE (ae (aa 2 rfl (ab [1,2,3,8,10,70,71] ?_))));refine ao ?_
   by_cases h1:i=r
   ·
    skip
    refine ae (aa 2 rfl (aG true rfl rfl (iL (by omega)) (aa 12 rfl (ab [1,2,3,8,10,70,71,88] ?_))));refine cK rfl (aX (ah [1,2,3,8,70,71] rfl ?_));refine aA rfl (aF rfl rfl ⟨by omega,by omega⟩ (aa 1 rfl (au ?_)));exact⟨i+1,M1,by omega,ar,hV,MB hQ hc uK (.inl h1),by omega⟩
   have CG:M1 i=M i:=hQ.1 i (Nat.le_refl _) h1;have Zg:=hz i uK c hc;refine ae (aa 2 rfl (aG false rfl rfl (ks (by omega)) (aa 4 rfl (aS ag rfl rfl rfl rfl rfl (hV.q.hd) (by rw[Int.toNat_natCast];exact kj (rg:=G.rg) (W:=_) cU) (by omega) (by omega) fun _=> ?_))));refine aa 1 rfl (cj (vs:=[.bool t11.f,.slice t11.A1 t11.m1 t11.c1,.slice t11.A2 t11.m2 t11.c2]) ag rfl rfl rfl rfl (dQ IF) rfl (by decide) (by rw[Int.toNat_natCast];exact EE) (by omega) (by omega) fun _=> ?_);refine aC rfl rfl (Fn.lR hV.q.ne (xK (bH.raw sX) (by rw[CG];omega))) ?_;rintro v12 dC ⟨zw,kV,rfl⟩;have EO:=hV.kept zw;have aj8:=(zw.same _ (GG.kI (GG.gJ (G:=G.on _) cU))).trans IF;have aj9:=sX.le zw.le;refine aa 2 rfl (ab [1,2,3,8,10,70,71,88] ?_);refine aD rfl (fun hb=> ?_) (fun hb=> ?_)
   ·
    skip
    refine aX (ah [1,2,3,8,70,71] rfl ?_);refine aA rfl (aF rfl rfl ⟨by omega,by omega⟩ (aa 1 rfl (au ?_)));exact⟨i+1,M1,by omega,ar,EO,MB hQ hc uK (.inr (vD (by simpa using hb))),by omega⟩
   skip
   refine az (ah [1,2,3,8,10,70,71] rfl ?_);refine ae (aa 3 rfl (aS ag rfl rfl rfl rfl rfl (EO.q.hd) (by rw[Int.toNat_natCast];exact kj (rg:=G.rg) (W:=_) cU) (by omega) (by omega) fun _=> ?_));refine aa 1 rfl (cj (vs:=[.bool t11.f,.slice t11.A1 t11.m1 t11.c1,.slice t11.A2 t11.m2 t11.c2]) ag rfl rfl rfl rfl (dQ aj8) rfl (by decide) (by rw[Int.toNat_natCast];exact EE) (by omega) (by omega) fun _=> ?_);refine bh bQ rfl ?_;obtain⟨ti,aj,ak⟩:=aU;refine aH (.inl ⟨rfl,rfl⟩) rfl rfl rfl aj ak rfl rfl rfl (ab [1,2,3,8,10,11,70,71] ?_);have IG:=EO.vU;rw[←MA M1 i]at IG;refine ae (aa 3 rfl (ab [1,2,3,8,10,11,70,71,97,98,99] ?_));refine aE (gn (fun(t:Nat)(f2:Nat→Rat)=>(eL (M r) k).length-t) (fun(t:Nat)(f2:Nat→Rat)=>put (put (put (put (put (put (put (put (put (put (put (emp) 1 (.val (.int .i64 (r:Int)))) 2 (.val (.int .i64 (c:Int)))) 3 (.box [.slice G.Ar R G.cr,.slice Ab m cb])) 8 (.val (.slice A7 (eL (M r) k).length c7))) 10 (.val (.int .i64 (i:Int)))) 11 (.box [.bool t11.f,.slice t11.A1 t11.m1 t11.c1,.slice t11.A2 t11.m2 t11.c2])) 70 (.val (.int .i64 (R:Int)))) 71 (.val (.int .i64 (i:Int)))) 97 (.val (.slice A7 (eL (M r) k).length c7))) 98 (.val (.int .i64 ((eL (M r) k).length:Int)))) 99 (.val (.int .i64 (t:Int)))) (fun(t:Nat)(f2:Nat→Rat) H'=>GU (rem dC (G.on (aw (.slice A7 (eL (M r) k).length c7)++G.top)).gs) H' G R k m (iA M1 i f2) B (.slice A7 (eL (M r) k).length c7) (eL (M r) k)∧IC false false (M1 i) (M1 r) (M1 i c) (eL (M r) k) t f2∧t≤(eL (M r) k).length) 0 (M1 i) (⟨IG,fun h9=>⟨h9,fun j=>by simp⟩,Nat.zero_le _⟩) ar ?_)
   rintro t f2 kW ⟨hX,EP,ht⟩;obtain⟨MC,aai,zS,uM⟩:=hX.q.rb (G:=G.on _) cU;obtain⟨ajB,ajC,Sb,II⟩:=hX.q.rb (G:=G.on _) cW;rw[pc]at uM;rw[EN (fun e=>h1 e.symm)]at II;have Sd:=uM.len;rw[bB]at Sd;refine ae (aa 1 rfl (ab [1,2,3,8,10,11,70,71,97,98,99,100] ?_));refine ao (aD rfl (fun hb=> ?_) (fun hb=> ?_))
   ·
    have pd:t<(eL (M r) k).length:=by simpa using hb
    obtain⟨kk,bW⟩:∃kk,(eL (M r) k)[t]? = some kk:=⟨_,List.getElem?_eq_getElem pd⟩;have fi:kk<k:=(R3.1 (List.mem_of_getElem? bW)).1;obtain⟨t13,aka,Se⟩:=l5 uM fi;obtain⟨t14,x8,IJ⟩:=l5 II fi
    have e13:f2 kk=M i kk:=by rw[(EP rfl).2 kk,if_neg (Z7 dV bW),CG]
    have yf:M1 r kk=M r kk/M r c:=by rw[(hQ.2 rfl).2 r kF kk fi (.inl rfl)];unfold lZ;rw[if_pos rfl]
    have z13:=hz i uK kk fi;have z14:=aaH kk fi;have z15:=vx (M1 i c) (M1 r kk);rw[CG,yf]at z15;refine az (ah [1,2,3,8,10,11,70,71,97,98,99] rfl ?_);refine ao (aE (ae (aS ag rfl rfl rfl rfl rfl (hX.rd) (by rw[Int.toNat_natCast];show (List.map _ _)[t]? = _;rw[List.getElem?_map,bW];rfl) (by omega) (by omega) fun _=> ?_)));refine aa 1 rfl (ab [1,2,3,8,10,11,13,70,71,97,98,99] ?_);refine eo .gB [0,1,2,3,4,5,6,7,8,9,10,11,12,13,14,15,16,17,18,19,20,21,22,23,24,25,26] follows (gL [0,1,0,7,15,0,0,64,0,448,960,0,4032,8128,0,0,32768,0,229376,491520,0,2064384,4161536,8372224,16777152,33554431,67108863] (by kernel_rfl)) ?_;refine aa 3 rfl (aS ag rfl rfl rfl rfl rfl (hX.q.hd) (by rw[Int.toNat_natCast];exact kj (rg:=G.rg) (W:=_) cU) (by omega) (by omega) fun _=> ?_);refine aa 4 rfl (aS ag rfl rfl rfl rfl rfl (hX.q.hd) (by rw[Int.toNat_natCast];exact kj (rg:=G.rg) (W:=_) cU) (by omega) (by omega) fun _=> ?_);refine aa 1 rfl (cj (vs:=[.bool t13.f,.slice t13.A1 t13.m1 t13.c1,.slice t13.A2 t13.m2 t13.c2]) ag rfl rfl rfl rfl (dQ zS) rfl (by decide) (by rw[Int.toNat_natCast];exact Se) (by omega) (by omega) fun _=> ?_);refine aa 4 rfl (aS ag rfl rfl rfl rfl rfl (hX.q.hd) (by rw[Int.toNat_natCast];exact kj (rg:=G.rg) (W:=_) cW) (by omega) (by omega) fun _=> ?_)
    refine aa 1 rfl (cj (vs:=[.bool t14.f,.slice t14.A1 t14.m1 t14.c1,.slice t14.A2 t14.m2 t14.c2]) ag rfl rfl rfl rfl (dQ Sb) rfl (by decide) (by rw[Int.toNat_natCast];exact IJ) (by omega) (by omega) fun _=> ?_);refine aY rfl rfl (Fn.kq hX.q.ne (Lx (N:=N) ((bH.raw (aj9.le hX.le)).mono (by rw[CG];omega)) ((bH.raw x8).mono (by rw[yf];omega)) (by omega))) (fun _ _ h=>by first | exact h.le | exact h.1) ?_;rintro v14 p7 IX;obtain⟨t15,rfl,IK⟩:=IX.val;have aaI:=hX.kept IX.kept;have MU:=(IX.kept.same _ (GG.kI (GG.gJ (G:=G.on _) cU))).trans zS;refine aY rfl rfl (Fn.kq aaI.q.ne (Ej (N:=2*N) ((bH.raw (aka.le IX.kept.le)).mono (by rw[e13];omega)) ((bH.raw IK).mono (by rw[CG,yf];omega)) (by omega))) (fun _ _ h=>by first | exact h.le | exact h.1) ?_;rintro Sf mE SN;obtain⟨t16,rfl,akb⟩:=SN.val;have Sh:=(SN.kept.same _ (GG.kI (GG.gJ (G:=G.on _) cU))).trans MU;have IL:=aaI.set cU SN.kept MU (by rw[pc];exact uM.mono fun vs a=>cX _ _ vs a IX.kept.le) fi (show bV _ [_,_,_] _ from akb);rw[pc,My]at IL;obtain⟨ti,aj,ak⟩:=aU;refine cV (.inr rfl) ag rfl rfl rfl (by omega) (by omega) (Sh) rfl (by show 0+k*3≤MC.length;omega) aj ak (fun _=>rfl) rfl rfl rfl fun _=> ?_;refine au ?_;rw[Nat.zero_add,Int.toNat_natCast];refine ah [1,2,3,8,10,11,70,71,97,98,99] rfl ?_
    refine aA rfl (aF rfl rfl ⟨by omega,by omega⟩ (aa 1 rfl (au ?_)));exact⟨t+1,bZ f2 kk (f2 kk-M1 i c*M1 r kk),by omega,ar,IL,Z9 EP dV bW fun h9=>⟨h9,rfl⟩,by omega⟩
   have pd:(eL (M r) k).length≤t:=by simpa using hb
   obtain rfl:t=(eL (M r) k).length:=by omega
   refine aX (ah [1,2,3,8,70,71] rfl ?_);refine aA rfl (aF rfl rfl ⟨by omega,by omega⟩ (aa 1 rfl (au ?_)));exact⟨i+1,iA M1 i f2,by omega,ar,hX.down EO.le,aaa hQ hc kF h1 EP,by omega⟩
  have uK:R≤i:=by simpa using hb
  obtain rfl:i=R:=by omega
  obtain⟨hD,ER⟩:=hV.drop
  obtain⟨gb,cb9,sz,ll,IY,aV⟩:∃gb cb sz,G.bb = [gb]∧G.bv = .slice (some ⟨gb,0,none⟩) m cb∧je gb=some ⟨eN B m,sz,3,true⟩:=by
   rcases hD.basis with h7 | h7
   ·have:=h7.1;omega
   ·exact h7
  have hm:gb∈G.gs:=GG.kI (GG.mz (by rw[ll];exact List.mem_singleton.2 rfl));have eAb:Ab=some ⟨gb,0,none⟩:=(Value.slice.inj (du.symm.trans IY)).1;subst eAb;refine aX (ah [1,2,3] rfl ?_);refine aA rfl (vr 4 ?_);obtain⟨ti,aj,ak⟩:=u6;refine cV (.inl rfl) ag rfl rfl rfl (by omega) (by omega) (aV) rfl (by show 0+m*1≤(eN B m).length;rw[BG];omega) aj ak (fun _=>rfl) rfl rfl rfl fun _=> ?_;refine au ?_;refine⟨.inl rfl,_,.nil,?_⟩
  have he:({(⟨eN B m,sz,3,true⟩:Ent)with xs:=aJ (eN B m) (0+((r:Int)).toNat*1) [.int .i64 (c:Int)]}:Ent)=⟨eN (fun i=>if i=r then c else B i) m,sz,3,true⟩:=by
   rw[Int.toNat_natCast,Nat.mul_one,Nat.zero_add,←PE];rfl
  rw[he];refine⟨M1,hD.DZ ll IY,fun i hi j hj=>(hQ.2 rfl).2 i hi j hj (.inr hi),?_⟩;rw[cE _ hm];exact iy.trans ER
end Go.aq
