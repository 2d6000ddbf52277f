/- Part 12 of the proof: QDat3, Qc, Qv, Rtw, QDat4, SDat2, Sp. -/
import Derived.Test.YtfjncmjbhfdnpaaGreatA11
set_option linter.unusedVariables false
namespace Go.aw
open Go.Proofs Num Lp
section
variable {C:CK} {H H' K:Heap} {G:GG} {R W m:Nat} {M:Nat→Nat→Rat} {B:Nat→Nat} {t:List Nat} {f:Nat→Rat}
def GG.more(G:GG)(t:List Nat)(z c:Nat)(A:Option Addr)(cr R:Nat):GG:={G with top:=t,hb:=aB (.slice A (R+1) cr),Ar:=A,cr:=cr,rg:=G.rg ++ [(z,c)]}
theorem cA.more{z c lU:Nat}{A':Option Addr}(h:cA C H (G.on (z::t)) R W m M B)(hz:pK C (rem H (G.on (z::t)).gs) H z (aL f W))(ha:App H (.slice G.Ar R G.cr) C.he 1 (R+1) (jc (G.rg ++ [(z,c)]) W) (.slice A' (R+1) lU) H'):
  cA C H' (G.more t z c A' lU R) (R+1) W m (fun i=>if i=R then f else M i) B∧Heap.le (rem H (G.on (z::t)).gs) (rem H' (G.more t z c A' lU R).gs):=by
 have a7:=h.ne
 have dX:=h.nd
 have jT:(G.on (z::t)).gs=z::(t++(G.hb++(G.bb++G.rg.map (·.1)))):=rfl
 have Jo:(G.more t z c A' lU R).gs=t++(aB (.slice A' (R+1) lU)++(G.bb++(G.rg ++ [(z,c)]).map (·.1))):=rfl
 have Nj:G.hb=aB (.slice G.Ar R G.cr):=h.my
 rw[jT]at dX a7
 obtain⟨n1,n2⟩:=List.nodup_cons.1 dX
 obtain⟨n3,n4,n5⟩:=List.nodup_append.1 n2
 obtain⟨n6,n7,n8⟩:=List.nodup_append.1 n4
 obtain⟨n9,n10,sU⟩:=List.nodup_append.1 n7
 have qO:∀q,q∈z::(t++(G.bb++G.rg.map (·.1)))→H' q=H q:=fun q hq=>by
  have hm:q∈z::(t++(G.hb++(G.bb++G.rg.map (·.1)))):=by
   simp only[List.mem_cons,List.mem_append]at hq⊢;grind
  obtain⟨en,he⟩:=Option.ne_none_iff_exists'.1 (a7 q hm)
  rw[he]
  refine ha.same q en he fun h1=> ?_
  have h2:q∈G.hb:=by rw[Nj];exact cM.2 h1
  rcases List.mem_cons.1 hq with rfl | hq
  ·exact n1 (List.mem_append_right _ (List.mem_append_left _ h2))
  ·rcases List.mem_append.1 hq with hq | hq
   ·exact n5 q hq q (List.mem_append_left _ h2) rfl
   ·exact n8 q h2 q hq rfl
 have Ma:∀q,q∈aB (.slice A' (R+1) lU)→¬q∈z::(t++(G.bb++G.rg.map (·.1))):=fun q hq hm=>by
  rcases ha.new q hq with h1 | h1
  ·rw[←Nj]at h1
   rcases List.mem_cons.1 hm with rfl | hm
   ·exact n1 (List.mem_append_right _ (List.mem_append_left _ h1))
   ·rcases List.mem_append.1 hm with hm | hm
    ·exact n5 q hm q (List.mem_append_left _ h1) rfl
    ·exact n8 q h1 q hm rfl
  ·refine a7 q ?_ h1
   simp only[List.mem_cons,List.mem_append]at hm⊢;grind
 have hl:Heap.le (rem H (G.on (z::t)).gs) (rem H' (G.more t z c A' lU R).gs):=fun q en hq=>by
  by_cases hm:q∈(G.on (z::t)).gs
  ·rw[rem_in hm]at hq;cases hq
  ·rw[bM hm]at hq
   have lF:¬q∈G.hb:=fun k=>hm (by rw[jT];exact List.mem_cons_of_mem _ (List.mem_append_right _ (List.mem_append_left _ k)))
   have h1:=ha.same q en hq fun e=>lF (by rw[Nj];exact cM.2 e)
   refine⟨en,?_,.refl _⟩
   rw[bM,h1]
   intro h2
   rw[Jo]at h2
   rcases List.mem_append.1 h2 with h3 | h3
   ·exact hm (by rw[jT];exact List.mem_cons_of_mem _ (List.mem_append_left _ h3))
   ·rcases List.mem_append.1 h3 with h3 | h3
    ·rcases ha.new q h3 with h4 | h4
     ·rw[←Nj]at h4;exact lF h4
     ·rw[h4]at hq;cases hq
    ·refine hm ?_
     rw[jT]
     simp only[List.map_append,List.map_cons,List.map_nil,List.mem_cons,List.mem_append,List.not_mem_nil,or_false]at h3⊢;grind
 have nF:=h.iH
 have nF:G.rg.length=R:=nF
 refine⟨⟨?_,fun q hq=> ?_,?_,rfl,ha.own,fun i p hp=> ?_,?_⟩,hl⟩
 ·rw[Jo]
  refine List.nodup_append.2 ⟨n3,List.nodup_append.2 ⟨SD _,List.nodup_append.2 ⟨n9,?_,fun q hq r hr e=> ?_⟩,fun q hq r hr e=> ?_⟩,fun q hq r hr e=> ?_⟩
  ·rw[List.map_append]
   refine List.nodup_append.2 ⟨n10,List.nodup_cons.2 ⟨List.not_mem_nil,List.nodup_nil⟩,fun q hq r hr e=> ?_⟩
   subst e
   rw[List.map_cons,List.map_nil,List.mem_singleton]at hr
   subst hr
   exact n1 (List.mem_append_right _ (List.mem_append_right _ (List.mem_append_right _ hq)))
  ·subst e
   rw[List.map_append]at hr
   rcases List.mem_append.1 hr with hr | hr
   ·exact sU q hq q hr rfl
   ·rw[List.map_cons,List.map_nil,List.mem_singleton]at hr
    subst hr
    exact n1 (List.mem_append_right _ (List.mem_append_right _ (List.mem_append_left _ hq)))
  ·subst e
   refine Ma q hq ?_
   simp only[List.map_append,List.map_cons,List.map_nil,List.mem_cons,List.mem_append,List.not_mem_nil,or_false]at hr⊢;grind
  ·subst e
   rcases List.mem_append.1 hr with hr | hr
   ·exact Ma q hr (List.mem_cons_of_mem _ (List.mem_append_left _ hq))
   ·rw[List.map_append]at hr
    rcases List.mem_append.1 hr with hr | hr
    ·exact n5 q hq q (List.mem_append_right _ (List.mem_append_left _ hr)) rfl
    ·rcases List.mem_append.1 hr with hr | hr
     ·exact n5 q hq q (List.mem_append_right _ (List.mem_append_right _ hr)) rfl
     ·rw[List.map_cons,List.map_nil,List.mem_singleton]at hr
      subst hr
      exact n1 (List.mem_append_left _ hq)
 ·rw[qO q (List.mem_cons_of_mem _ (List.mem_append_left _ hq))]
  exact a7 q (List.mem_cons_of_mem _ (List.mem_append_left _ hq))
 ·show (G.rg ++ [(z,c)]).length=R+1
  rw[List.length_append,nF];rfl
 ·have ee:(G.rg ++ [(z,c)])[i]? = some p:=hp
  by_cases hi:i<R
  ·rw[List.getElem?_append_left (by omega)]at ee
   show pK C _ H' p.1 (aL (if i=R then f else M i) W)
   rw[if_neg (by omega)]
   exact(h.row i p ee).le hl (qO _ (List.mem_cons_of_mem _ (List.mem_append_right _ (List.mem_append_right _ (List.mem_map.2 ⟨p,List.mem_of_getElem? ee,rfl⟩)))))
  ·have bL:=(List.getElem?_eq_some_iff.1 ee).1
   rw[List.length_append,nF,List.length_singleton]at bL
   obtain rfl:i=R:=by omega
   rw[List.getElem?_append_right (by omega),nF,Nat.sub_self]at ee
   cases ee
   show pK C _ H' z (aL (if i=i then f else M i) W)
   rw[if_pos rfl]
   exact hz.le hl (qO _ (List.mem_cons_self ..))
 ·rcases h.basis with h1 | ⟨gb,cb,sz,h1,h2,h3⟩
  ·exact .inl h1
  ·refine .inr ⟨gb,cb,sz,h1,h2,?_⟩
   rw[qO gb (List.mem_cons_of_mem _ (List.mem_append_right _ (List.mem_append_left _ (by show gb∈G.bb;have:G.bb = [gb]:=h1;rw[this];exact List.mem_singleton.2 rfl))))]
   exact h3
def GG.less(G:GG)(R:Nat):GG:={G with hb:=aB (.slice G.Ar R G.cr),rg:=G.rg.take R}
theorem cA.less(h:cA C H G (R+1) W m M B):∃H',Heap.le H' H∧cA C H' (G.less R) R W m M B∧Heap.le (rem H G.gs) (rem H' (G.less R).gs)∧(∀q,q∈G.top→H' q=H q)∧G.cr=G.cr∧R≤G.cr:=by
 have nF:=h.iH
 rcases h.rows.2 with ⟨h1,h2⟩ | ⟨gr,cap,h1,h2,h3,h4⟩
 ·omega
 ·have eA:G.Ar=some ⟨gr,0,none⟩:=(Value.slice.inj h1).1
  have eC:G.cr=cap:=(Value.slice.inj h1).2.2
  have eb:aB (.slice G.Ar R G.cr)=G.hb:=by rw[h.my,eA];rfl
  have eg:G.hb = [gr]:=by rw[h.my,eA];rfl
  have hm:gr∈G.hb:=by rw[eg];exact List.mem_singleton.2 rfl
  have ht:jc (G.rg.take R) W=(jc G.rg W).take R:=by unfold jc;rw[List.map_take]
  have vi:∀q,q∈(G.less R).low→q∈G.low:=fun q hq=>by
   have hq:q∈aB (.slice G.Ar R G.cr)++(G.bb++(G.rg.take R).map (·.1)):=hq
   rw[eb]at hq
   rcases List.mem_append.1 hq with hq | hq
   ·exact GG.Cv hq
   ·rcases List.mem_append.1 hq with hq | hq
    ·exact GG.mT hq
    ·obtain⟨p,hp,rfl⟩:=List.mem_map.1 hq
     exact List.mem_append_right _ (List.mem_append_right _ (List.mem_map.2 ⟨p,List.mem_of_mem_take hp,rfl⟩))
  have jT:∀q,q∈(G.less R).gs→q∈G.gs:=fun q hq=>by
   rcases List.mem_append.1 hq with hq | hq
   ·exact List.mem_append_left _ hq
   ·exact List.mem_append_right _ (vi q hq)
  have hng:gr∈(G.less R).gs:=List.mem_append_right _ (List.mem_append_left _ (by show gr∈aB _;rw[eb];exact hm))
  have hl:Heap.le (rem H G.gs) (rem (ins H gr ⟨jc (G.rg.take R) W,cap*1,C.he,true⟩) (G.less R).gs):=by
   rw[cK _ hng];exact E3 jT
  have Nk:∀q,q∈G.top∨q∈G.bb∨(∃(i:Nat)(p:Nat×Nat),G.rg[i]? = some p∧p.1=q)→q≠gr:=fun q hq=>by
   rcases hq with hq | hq | ⟨i,p,hp,rfl⟩
   ·exact GG.uo h.nd hq (GG.Cv hm)
   ·exact Ne.symm (GG.MP h.nd hm (.inl hq))
   ·exact Ne.symm (GG.MP h.nd hm (.inr ⟨i,p,hp,rfl⟩))
  refine⟨ins H gr ⟨jc (G.rg.take R) W,cap*1,C.he,true⟩,?_,⟨?_,fun q hq=> ?_,?_,rfl,?_,fun i p hp=> ?_,?_⟩,hl,fun q hq=>bg _ _ (Nk q (.inl hq)),rfl,by omega⟩
  ·intro q en hq
   by_cases e:q=gr
   ·subst e
    rw[bF]at hq
    cases hq
    exact⟨_,h2,rfl,rfl,rfl,by rw[ht];exact List.take_prefix _ _⟩
   ·rw[bg _ _ e]at hq
    exact⟨en,hq,.refl _⟩
  ·have dX:=h.nd
   show (G.top++(aB (.slice G.Ar R G.cr)++(G.bb++(G.rg.take R).map (·.1)))).Nodup
   rw[eb]
   refine List.Nodup.sublist ?_ dX
   exact List.Sublist.append (.refl _) (List.Sublist.append (.refl _) (List.Sublist.append (.refl _) (List.Sublist.map _ (List.take_sublist _ _))))
  ·rw[bg _ _ (Nk q (.inl hq))];exact h.top q hq
  ·show (G.rg.take R).length=R
   rw[List.length_take];omega
  ·refine⟨?_,.inr ⟨gr,cap,?_,bF _ _ _,by omega,h4⟩⟩
   ·show (jc (G.rg.take R) W).length=R*1
    unfold jc;rw[List.length_map,List.length_take];omega
   ·show Value.slice G.Ar R G.cr=_
    rw[eA,eC]
  ·have ee:(G.rg.take R)[i]? = some p:=hp
   rw[List.getElem?_take]at ee
   split at ee
   ·exact(h.row i p ee).le hl (bg _ _ (Nk _ (.inr (.inr ⟨i,p,ee,rfl⟩))))
   ·cases ee
  ·rcases h.basis with k1 | ⟨gb,cb,sz,k1,k2,k3⟩
   ·exact .inl k1
   ·exact .inr ⟨gb,cb,sz,k1,k2,by rw[bg _ _ (Nk gb (.inr (.inl (by rw[k1];exact List.mem_singleton.2 rfl))))];exact k3⟩
theorem cA.apart(h:cA C H G R W m M B){z:Nat}{e:Ent}(hz:H z=none):cA C (ins H z e) (G.on (z::G.top)) R W m M B∧rem (ins H z e) (G.on (z::G.top)).gs=rem H G.gs:=by
 have hm:¬z∈G.gs:=fun hm=>h.ne z hm hz
 have jT:(G.on (z::G.top)).gs=z::G.gs:=rfl
 have e1:rem (ins H z e) (G.on (z::G.top)).gs=rem H G.gs:=by
  rw[jT];exact tA _ hz
 refine⟨h.Cw (t:=z::G.top) (List.nodup_cons.2 ⟨hm,h.nd⟩) (fun q hq=> ?_) (fun q hq=>bg _ _ fun(e':q=z)=>hm (by rw[←e'];exact GG.kQ hq)) (by rw[e1];exact .refl _),e1⟩
 rcases List.mem_cons.1 hq with rfl | hq
 ·rw[bF];simp
 ·rw[bg _ _ (fun(e':q=z)=>hm (by rw[←e'];exact GG.Cu hq))];exact h.top q hq
end
end Go.aw
namespace Go.aw
open Go.Proofs Num Lp
theorem Nl{xs vs:List Value}{f:Nat→Rat}{n k:Nat}{q:Rat}(h:bE fD 2 xs (aL f n))(hk:k<n)(hv:fD vs q):bE fD 2 (aM xs (k*2) vs) (aL (bY f k q) n):=by
 rw[←Qk]
 exact h.set (by rw[bh];exact hk) hv (by obtain⟨a,b,rfl,_⟩:=hv;rfl)
abbrev rz(_:Heap)(vs:List Value)(q:Rat):Prop:=fD vs q
theorem zV:Up rz:=fun _ _ _ _ _ h=>h
abbrev qv(W:Nat)(xs:List Value)(f:Nat→Rat)(k:Nat):Prop:=bE (iq rz (fun _=>none)) 2 xs (fill (aL f W) k)
theorem Nn{W k:Nat}{xs:List Value}{f:Nat→Rat}(h:qv W xs f k)(hk:k≤W):xs.length=W*2:=by
 have:=h.len
 rwa [nC (by rw[bh];exact hk),bh]at this
theorem S4{W k:Nat}{xs vs:List Value}{f:Nat→Rat}(h:qv W xs f k)(hk:k<W)(hv:fD vs (f k)):qv W (aM xs (k*2) vs) f (k+1):=by
 show bE _ _ _ _
 rw[←ze (dM hk)]
 exact h.set (by rw[nC (by rw[bh];omega),bh];exact hk) (show iq rz _ vs (some (f k))from hv) (by obtain⟨a,b,rfl,_⟩:=hv;rfl)
theorem S5{W:Nat}{xs:List Value}{f:Nat→Rat}(h:qv W xs f W):bE fD 2 xs (aL f W):=by
 refine DZ (P:=rz) (H:=fun _=>none) ?_
 rw[bh];exact h
theorem S6{W:Nat}{f:Nat→Rat}:qv W (cD [.int .i64 0,.int .i64 0] (W*2)) f 0:=by
 have:=BE (P:=rz) (H:=fun _=>none) (zs:=[.int .i64 0,.int .i64 0]) (sz:=2) rfl (aL f W)
 rwa [bh]at this
theorem Fa{xs vs:List Value}{s e k:Nat}:({(⟨xs,s,e,true⟩:Ent)with xs:=aM xs (0+k*2) vs}:Ent)=⟨aM xs (k*2) vs,s,e,true⟩:=by rw[Nat.zero_add]
theorem vU{p:Prg}{j:Nat}:p.mi (j+1)=p.mi j+(if p.lp.free j then 1 else 0):=by
 have h1:aX p.lp.free (j+1)=aX p.lp.free j+1+(if p.lp.free j then 1 else 0):=rfl
 have h2:=zS (fr:=p.lp.free) j
 show p.lp.n+(aX p.lp.free (j+1)-(j+1))=p.lp.n+(aX p.lp.free j-j)+_
 omega
def lV(M:Nat→Nat→Rat)(B:Nat→Nat)(f:Nat→Rat):Nat→Nat→Rat
 | 0=>f
 | i+1=>fun k=>lV M B f i k-lV M B f i (B i)*M i k
theorem aaz{M:Nat→Nat→Rat}{B:Nat→Nat}{f:Nat→Rat}{i:Nat}(h:lV M B f i (B i)=0)(k:Nat):lV M B f (i+1) k=lV M B f i k:=by
 show lV M B f i k-lV M B f i (B i)*M i k=_
 rw[h];grind
structure QZ(o:Bool)(K S H:Heap)(g:Nat)(G:GG)(R W m:Nat)(M:Nat→Nat→Rat)(B:Nat→Nat)(z:Nat)(f:Nat→Rat):Prop where
 q:QV o H g (G.on (z::G.top)) R W m M B
 row:∃xs,H z=some ⟨xs,W*2,163,true⟩∧bE fD 2 xs (aL f W)
 ne:z≠g
 le:Heap.le K (rem H (G.on (z::G.top)).gs)
 same:∀q,q∈G.gs→q≠g→H q=S q
section
variable {o o':Bool} {K S H H':Heap} {g:Nat} {G:GG} {R W m z:Nat} {M:Nat→Nat→Rat} {B:Nat→Nat} {f:Nat→Rat}
theorem QZ.S8(h:QZ o K S H g G R W m M B z f):¬z∈G.gs:=(List.nodup_cons.1 (show (z::G.gs).Nodup from h.q.cZ.nd)).1
theorem QZ.m7:z∈(G.on (z::G.top)).gs:=List.mem_append_left _ (List.mem_cons_self ..)
theorem QZ.fresh(h:QZ o K S H g G R W m M B z f){k:Nat}{e:Ent}(hk:H k=none):QZ o K S (ins H k e) g G R W m M B z f:=by
 obtain⟨h1,h2⟩:=h.q.fresh (e:=e) hk
 obtain⟨xs,h3,h4⟩:=h.row
 refine⟨h1,⟨xs,?_,h4⟩,h.ne,h.le.trans h2,fun q hq a7=>by rw[bg _ _ (fun(e':q=k)=>h.q.cZ.ne q (List.mem_cons_of_mem _ hq) (by rw[e'];exact hk))];exact h.same q hq a7⟩
 rw[bg _ _ (fun e'=>by rw[e',hk]at h3;cases h3)];exact h3
theorem QZ.set(h:QZ o K S H g G R W m M B z f)(ht:fT (G.on (z::G.top)).gs g H H')(iL:H' g=some ⟨[.slice G.Ar R G.cr,G.bv,.bool o'],3,160,true⟩){xs:List Value}(hx:H z=some ⟨xs,W*2,163,true⟩)(iI:bE fD 2 xs (aL f W)){k:Nat}(hk:k<W){vs:List Value}{q:Rat}(hv:fD vs q):
  QZ o' K S (ins H' z ⟨aM xs (k*2) vs,W*2,163,true⟩) g G R W m M B z (bY f k q):=by
 have h1:=h.q.uK ht iL
 have hm:z∈(G.on (z::G.top)).gs:=QZ.m7
 have hT:fT (G.on (z::G.top)).gs z H' (ins H' z ⟨aM xs (k*2) vs,W*2,163,true⟩):=((Kept.refl _ _).iO z).ins hm _
 exact⟨⟨h1.cZ.Cx (List.mem_cons_self ..) hT (by rw[bF];simp),h1.gt,by rw[bg _ _ (Ne.symm h.ne)];exact h1.st⟩,⟨_,bF _ _ _,Nl iI hk hv⟩,h.ne,h.le.trans (ht.le.trans hT.le),fun r hr a7=>by rw[bg _ _ (fun(e':r=z)=>h.S8 (by rw[←e'];exact hr)),ht.same r (List.mem_cons_of_mem _ hr) a7];exact h.same r hr a7⟩
theorem QZ.pJ(h:QZ o K S H g G R W m M B z f):QZ o (rem H (G.on (z::G.top)).gs) S H g G R W m M B z f:=⟨h.q,h.row,h.ne,.refl _,h.same⟩
theorem QZ.down{K':Heap}(h:QZ o K S H g G R W m M B z f)(hl:Heap.le K' K):QZ o K' S H g G R W m M B z f:=⟨h.q,h.row,h.ne,hl.trans h.le,h.same⟩
end
theorem ajz{o:Bool}{H:Heap}{g:Nat}{G:GG}{W m N:Nat}{M:Nat→Nat→Rat}{B:Nat→Nat}{p:Prg}{pv cv:Value}{c:List Rat}(h:QV o H g G m W m M B)(hp:ea N (rem H G.gs) pv p)(hc:aR rz 2 (rem H G.gs) cv c)(fo:c.length=p.free.length)(sW:p.c1≤W)(hB:∀i,i<m→B i<W)(hm:(m:Int)≤900000)(hW:(W:Int)≤1000000):
 Fn Tryz.prog 140 #[.pointer (some ⟨g,0,none⟩),pv,cv,.int .i64 (W:Int)] H (fun v H'=>∃z f o',v = .slice (some ⟨z,0,none⟩) W W∧QZ o' (rem H G.gs) H H' g G m W m M B z f∧(o'=false→o=false∧∀k,k<W→f k=lV M B (fg p (fn c) 1 p.lp.n) m k)):=by
 obtain⟨fv,fL,rfl,dO,eo⟩:=id hp
 obtain⟨Af,cf,xf,rfl,iv,gS⟩:=dO.one
 obtain⟨Ar,cr,xr,rfl,iM,eJ,gE⟩:=id eo
 obtain⟨Ac,cc,xc,rfl,Mu,om,tP⟩:=id hc
 have di:=xX (p:=p)
 have S9:p.free.length≤W:=Nat.le_trans di sW;refine aZ (args:=[_,_,_,_]) Tryz.func140 rfl rfl Tryz.ntmps140 rfl rfl fun w0=> ?_;refine aj [0,1,2,3] rfl ?_;refine ag (bW rfl rfl (ab 1 rfl (ae [0,2,3,5] ?_)));refine ag (ab 1 rfl (gJ Tryz.underlying161 fP rfl rfl rfl (by omega) (by omega) (by omega) (by omega) ?_));intro z hz;rw[Int.toNat_natCast]
 have ou:z≠g:=fun e9=>by rw[e9,h.st]at hz;cases hz
 have Fb:∀e9:Ent,Heap.le (rem H G.gs) (ins H z e9):=fun e9=>(bt _ _).trans (Heap.bC _ hz)
 obtain⟨Ab,cb,dr,fY⟩:∃Ab cb,G.bv = .slice Ab m cb∧∀o' t H',cA vQ H' (G.on t) m W m M B→∀i,i<m→Rd H' Ab (eL B m):=by
  rcases h.cZ.basis with ⟨h1,h2,h3⟩ | ⟨gb,cb,sz,h1,h2,h3⟩
  ·exact⟨none,0,by rw[h3,h1],fun _ _ _ _ i hi=>by omega⟩
  ·
   refine⟨_,cb,h2,fun o' t H' h' i hi=> ?_⟩
   rcases h'.basis with ⟨k1,k2,k3⟩ | ⟨CE,M6,eV,k1,k2,k3⟩
   ·omega
   have k1:G.bb = [CE]:=k1;rw[h1]at k1;cases k1;exact dW k3
 refine ab 1 rfl (ae [0,2,5,9] ?_);refine aq (ag (ab 3 rfl (ae [0,2,5,9,19,20] ?_)));refine aG (ij (fun(k:Nat)(xs:List Value)=>W-k) (fun(k:Nat)(xs:List Value)=>put (put (put (put (put (put (emp) 0 (.val (.pointer (some ⟨g,0,none⟩)))) 2 (.val (.slice Ac c.length cc))) 5 (.box [.slice Af p.free.length cf,.slice Ar p.rows.length cr])) 9 (.val (.slice (some ⟨z,0,none⟩) W W))) 19 (.val (.int .i64 (W:Int)))) 20 (.val (.int .i64 (k:Int)))) (fun(k:Nat)(xs:List Value) H'=>H'=ins H z ⟨xs,W*2,163,true⟩∧qv W xs (fun _=>0) k∧k≤W) 0 (cD [.int .i64 0,.int .i64 0] (W*2)) (⟨rfl,S6,Nat.zero_le _⟩) au ?_);rintro k xs H2 ⟨e2,hF,hk⟩;rw[e2];clear e2 H2;have cP:=Nn hF hk;refine ag (ab 1 rfl (ae [0,2,5,9,19,20,21] ?_));refine aq (aD rfl (fun hb=> ?_) (fun hb=> ?_))
 ·
  have fq:k<W:=by simpa using hb
  refine aA (aj [0,2,5,9,19,20] rfl ?_);refine aq (aG (ag (ab 2 rfl (ae [0,2,5,9,10,19,20] ?_))));refine aC rfl (ab 2 rfl (de ah rfl fP rfl rfl ?_));obtain⟨ti,ak,al⟩:=eE;refine cV (.inl rfl) ah rfl rfl rfl (by omega) (by omega) (bF _ _ _) rfl (by show 0+W*2≤xs.length;omega) ak al (fun _=>rfl) rfl rfl rfl fun _=> ?_;refine az (aj [0,2,5,9,19,20] rfl ?_);refine aC rfl (aH rfl rfl ⟨by omega,by omega⟩ (ab 1 rfl (az ?_)));rw[Fa,qB];exact⟨k+1,_,by omega,au,rfl,by rw[Int.toNat_natCast];exact S4 hF fq E0,by omega⟩
 ·
  have hb:W≤k:=by simpa using hb
  obtain rfl:k=W:=by omega
  have Jp:=S5 hF;refine aW (aj [0,2,5,9] rfl ?_);refine ag (ab 4 rfl (ae [0,2,5,9,11] ?_));refine aq (ag (ab 4 rfl (ae [0,2,5,9,11,33,34] ?_)));refine aG (ij (fun(j:Nat)(ys:List Value)=>p.free.length-j) (fun(j:Nat)(ys:List Value)=>put (put (put (put (put (put (put (emp) 0 (.val (.pointer (some ⟨g,0,none⟩)))) 2 (.val (.slice Ac c.length cc))) 5 (.box [.slice Af p.free.length cf,.slice Ar p.rows.length cr])) 9 (.val (.slice (some ⟨z,0,none⟩) k k))) 11 (.val (.int .i64 (p.mi j:Int)))) 33 (.val (.int .i64 (p.free.length:Int)))) 34 (.val (.int .i64 (j:Int)))) (fun(j:Nat)(ys:List Value) H'=>H'=ins H z ⟨ys,k*2,163,true⟩∧bE fD 2 ys (aL (fg p (fn c) 1 j) k)∧j≤p.free.length) 0 xs (⟨rfl,Jp,Nat.zero_le _⟩) (by repeat (first | exact iV _ | refine dB rfl ?_ | refine dB (jk (by first | omega | (simp;done) | rfl)) ?_)) ?_);rintro j ys H3 ⟨e3,hE,hj⟩;rw[e3];clear e3 H3;have kV:=hE.len;rw[bh]at kV;refine ag (ab 1 rfl (ae [0,2,5,9,11,33,34,35] ?_));refine aq (aD rfl (fun hb=> ?_) (fun hb=> ?_))
  ·
   have gU:j<p.free.length:=by simpa using hb
   obtain⟨vs,_,CL,CN⟩:=tP.get (show c[j]? = some (fn c j) by rw[List.getElem?_eq_getElem (by omega),mb (List.getElem?_eq_getElem (by omega))]);obtain⟨n1,d1,rfl,i1,i2,i3,i4,cC⟩:=id (show fD vs (fn c j)from CL)
   have ajA:fD [.int .i64 n1,.int .i64 d1] (fn c j*1):=by rw[Rat.mul_one];exact CL
   have Ta:=Nl hE (show j<k by omega) ajA;have ajB:=Ta.len;rw[bh]at ajB;obtain⟨uf,rb,kG⟩:=gS j _ (List.getElem?_eq_getElem gU);have kG: [uf] = [Value.bool p.free[j]]:=kG
   cases kG
   have nT:p.lp.free j=p.free[j]:=Prg.Bv (List.getElem?_eq_getElem gU);have aaA:=Nf (p:=p) (j:=j);refine aA (aj [0,2,5,9,11,33,34] rfl ?_);refine aq (aG (ag (ab 2 rfl (ae [0,2,5,9,11,12,33,34] ?_))));refine ag (ab 4 rfl (ck (vs:=[.int .i64 n1,.int .i64 d1]) ah rfl rfl rfl rfl (om.le (Fb _)) rfl (by decide) (by rw[Int.toNat_natCast];exact CN) (by omega) (by omega) fun _=> ?_));obtain⟨ti,ak,al⟩:=eE;refine cV (.inl rfl) ah rfl rfl rfl (by omega) (by omega) (bF _ _ _) rfl (by show 0+k*2≤ys.length;omega) ak al (fun _=>rfl) rfl rfl rfl fun _=> ?_;refine ae [0,2,5,9,11,12,33,34] ?_;rw[Fa,qB,Int.toNat_natCast];refine ag (ab 3 rfl (aS ah rfl rfl rfl rfl rfl (iv.le (Fb _)) (by rw[Int.toNat_natCast];exact rb) (by omega) (by omega) fun _=> ?_));refine ae [0,2,5,9,11,12,33,34,48] ?_;refine aD rfl (fun hb=> ?_) (fun hb=> ?_)
   ·
    have fM:p.lp.free j=true:=by rw[nT];simpa using hb
    have xY:p.mi j<k:=Nat.lt_of_lt_of_le (vT gU fM) sW;have gj:fD [.int .i64 (-n1),.int .i64 d1] (-(fn c j*1)):=⟨-n1,d1,rfl,by omega,by omega,i3,i4,by rw[Rat.mul_one,cC,Rat.intCast_neg,Rat.div_def,Rat.div_def];grind⟩;refine bP .gH [0,1,2,3,4,5,6,7,8,9,10,11,12,13,14,15] follows (ia [0,0,0,0,12,28,60,124,0,0,768,1792,3840,8188,16383,32767] (by kernel_rfl)) ?_;refine ab 4 rfl (nR ah rfl rfl rfl rfl rfl rfl rfl (om.le (Fb _)) (by rw[Int.toNat_natCast];exact CN 0 _ rfl) (by omega) (by omega) fun _ _=> ?_);refine tl rfl ⟨by omega,by omega⟩ (ab 2 rfl (nR ah rfl rfl rfl rfl rfl rfl rfl (om.le (Fb _)) (by rw[Int.toNat_natCast];exact CN 1 _ rfl) (by omega) (by omega) fun _ _=> ?_));refine de ah rfl fP rfl rfl ?_;obtain⟨ti,ak,al⟩:=eE;refine cV (.inr rfl) ah rfl rfl rfl (by omega) (by omega) (bF _ _ _) rfl (by show 0+k*2≤(aM ys (j*2) _).length;omega) ak al (fun _=>rfl) rfl rfl rfl fun _=> ?_;refine ae [0,2,5,9,11,33,34] ?_;refine aC rfl (ab 1 rfl (aH rfl rfl ⟨by omega,by omega⟩ (ab 1 rfl (az (aj [0,2,5,9,11,33,34] rfl ?_)))));refine aC rfl (aH rfl rfl ⟨by omega,by omega⟩ (ab 1 rfl (az ?_)));rw[Fa,qB]
    have e8:p.mi (j+1)=p.mi j+1:=by rw[vU,if_pos fM]
    exact⟨j+1,_,by omega,au,rfl,by rw[Int.toNat_natCast];unfold fg;rw[if_pos fM];exact Nl Ta xY gj,by omega⟩
   have fM:¬p.lp.free j=true:=by rw[nT];simpa using hb
   refine aA (aj [0,2,5,9,11,33,34] rfl ?_);refine aC rfl (aH rfl rfl ⟨by omega,by omega⟩ (ab 1 rfl (az ?_)))
   have e8:p.mi (j+1)=p.mi j:=by rw[vU,if_neg fM,Nat.add_zero]
   exact⟨j+1,_,by omega,au,rfl,by unfold fg;rw[if_neg fM];exact Ta,by omega⟩
  have gU:p.free.length≤j:=by simpa using hb
  obtain rfl:j=p.free.length:=by omega
  obtain⟨D8,Tc⟩:=h.cZ.apart (e:=⟨ys,k*2,163,true⟩) hz;have hZ0:QZ o (rem H G.gs) H (ins H z ⟨ys,k*2,163,true⟩) g G m k m M B z (fg p (fn c) 1 p.lp.n):=⟨⟨D8,List.mem_cons_of_mem _ h.gt,by rw[bg _ _ (Ne.symm ou)];exact h.st⟩,⟨_,bF _ _ _,hE⟩,ou,by rw[Tc];exact .refl _,fun q hq _=>bg _ _ fun(e':q=z)=>h.cZ.ne q hq (by rw[e'];exact hz)⟩;refine aW (aj [0,9] rfl ?_);refine aq (ag (ab 2 rfl (aV ah rfl rfl rfl (aT ah rfl rfl rfl (show cell _ _=some (.slice Ab m cb)from by rw[←dr];exact hZ0.q.mY) ?_))));refine ab 2 rfl (ae [0,9,71,72] ?_);refine aG (fG (fun(i:Nat)(f:Nat→Rat)(o1:Bool)=>m-i) (fun(i:Nat)(f:Nat→Rat)(o1:Bool)=>put (put (put (put (emp) 0 (.val (.pointer (some ⟨g,0,none⟩)))) 9 (.val (.slice (some ⟨z,0,none⟩) k k))) 71 (.val (.int .i64 (m:Int)))) 72 (.val (.int .i64 (i:Int)))) (fun(i:Nat)(f:Nat→Rat)(o1:Bool) H'=>QZ o1 (rem H G.gs) H H' g G m k m M B z f∧(o1=false→o=false∧∀q,q<k→f q=lV M B (fg p (fn c) 1 p.lp.n) i q)∧i≤m) 0 (fg p (fn c) 1 p.lp.n) o (⟨hZ0,fun h9=>⟨h9,fun _ _=>rfl⟩,Nat.zero_le _⟩) au ?_);rintro i f o1 H4 ⟨hZ,hI,hi⟩;obtain⟨zs,qG,sM⟩:=hZ.row;refine ag (ab 1 rfl (ae [0,9,71,72,73] ?_));refine aq (aD rfl (fun hb=> ?_) (fun hb=> ?_))
  ·
   have aU:i<m:=by simpa using hb
   have uz:=hB i aU;obtain⟨n4,d4,FP,pc,i1,i2,i3,i4,cI⟩:=m0 sM uz;refine aA (aj [0,9,71,72] rfl ?_);refine aq (aG (ag (ab 2 rfl (ae [0,9,13,71,72] ?_))));refine ag (ab 3 rfl (aV ah rfl rfl rfl (aT ah rfl rfl rfl (show cell _ _=some (.slice Ab m cb)from by rw[←dr];exact hZ.q.mY) ?_)));refine ab 1 rfl (aS ah rfl rfl rfl rfl rfl (fY o _ _ hZ.q.cZ i aU) (by rw[Int.toNat_natCast];exact gO aU) (by omega) (by omega) fun _=> ?_);refine ck (vs:=[.int .i64 n4,.int .i64 d4]) ah rfl rfl rfl rfl (dW qG) rfl (by decide) (by rw[Int.toNat_natCast];exact pc) (by omega) (by omega) fun _=> ?_;refine bn fP rfl ?_;obtain⟨ti,ak,al⟩:=eE;refine aI (.inl ⟨rfl,rfl⟩) rfl rfl rfl ak al rfl rfl rfl (ae [0,9,13,14,71,72] ?_);refine MQ 14 rfl fun g14 xZ pG=>(aq (ag (aV ah rfl rfl rfl (aT ah rfl rfl rfl (show cell _ ((⟨g14,0,none⟩:Addr).add 0)=_ by simp[cell,iX,ins];rfl) ?_))));refine ab 1 rfl (ae [0,9,13,14,71,72,87] ?_);refine aD rfl (fun hb=> ?_) (fun hb=> ?_)
   ·
    have hb:n4=0:=by simpa using hb
    refine aW (aj [0,9,71,72] rfl ?_);refine aC rfl (aH rfl rfl ⟨by omega,by omega⟩ (ab 1 rfl (az ?_)));exact⟨i+1,f,o1,by omega,au,hZ.fresh pG,fun h9=>⟨(hI h9).1,fun q hq=>by rw[aaz (by rw[←(hI h9).2 _ (hB i aU),cI];exact(ur i3).2 hb)];exact(hI h9).2 q hq⟩,by omega⟩
   have hb:n4≠0:=by simpa using hb
   have ajC:=hZ.fresh (e:=⟨[.int .i64 n4,.int .i64 d4],2,xZ,true⟩) pG;obtain⟨_,zW⟩:=hZ.q.fresh (e:=⟨[.int .i64 n4,.int .i64 d4],2,xZ,true⟩) pG;have ajD:Rd (rem (ins H4 g14 ⟨[.int .i64 n4,.int .i64 d4],2,xZ,true⟩) (G.on (z::G.top)).gs) (some ⟨g14,0,none⟩) [.int .i64 n4,.int .i64 d4]:=SF (dE _ _ _ _ _ _) fun hm=>hZ.q.cZ.ne _ hm pG
   show VC _ _ _ _ _ _ _ (ins H4 g14 ⟨[.int .i64 n4,.int .i64 d4],2,xZ,true⟩)
   generalize ins H4 g14 ⟨[.int .i64 n4,.int .i64 d4],2,xZ,true⟩=H5 at *
   have qw:=ajC.pJ;obtain⟨pi,cU⟩:=h.cZ.get aU;refine aA (aj [0,9,13,14,71,72] rfl ?_);refine ag (ab 3 rfl (ae [0,9,13,14,71,72,89,90] ?_));refine aG (fG (fun(q:Nat)(f2:Nat→Rat)(o2:Bool)=>k-q) (fun(q:Nat)(f2:Nat→Rat)(o2:Bool)=>put (put (put (put (put (put (put (put (emp) 0 (.val (.pointer (some ⟨g,0,none⟩)))) 9 (.val (.slice (some ⟨z,0,none⟩) k k))) 13 (.val (.int .i64 (i:Int)))) 14 (.val (.pointer (some ⟨g14,0,none⟩)))) 71 (.val (.int .i64 (m:Int)))) 72 (.val (.int .i64 (i:Int)))) 89 (.val (.int .i64 (k:Int)))) 90 (.val (.int .i64 (q:Int)))) (fun(q:Nat)(f2:Nat→Rat)(o2:Bool) H'=>QZ o2 (rem H5 (G.on (z::G.top)).gs) H H' g G m k m M B z f2∧(o2=false→o1=false∧∀j,f2 j=if j<q then f j-f (B i)*M i j else f j)∧q≤k) 0 f o1 (⟨qw,fun h9=>⟨h9,fun j=>by rw[if_neg (Nat.not_lt_zero _)]⟩,Nat.zero_le _⟩) au ?_);rintro q f2 o2 H6 ⟨hY,hR,jU⟩;obtain⟨ws,sX,nZ⟩:=hY.row;obtain⟨GW,qW,aal,sE⟩:=hY.q.rk;obtain⟨xi6,si6,Td,Te⟩:=hY.q.row (G:=G.on _) cU;have p9:=nZ.len;rw[bh]at p9;refine ag (ab 1 rfl (ae [0,9,13,14,71,72,89,90,91] ?_));refine aq (aD rfl (fun hb=> ?_) (fun hb=> ?_))
   ·
    have sY:q<k:=by simpa using hb
    obtain⟨n5,d5,Dh,nG,_⟩:=m0 nZ sY;obtain⟨n6,d6,wh,qV,_⟩:=m0 Te sY;refine aA (aj [0,9,13,14,71,72,89,90] rfl ?_);refine aq (aG (ag (ab 2 rfl (ae [0,9,13,14,15,71,72,89,90] ?_))));have bm:=I7 g H6;refine ep (.cO (lx g H6)) [0,1,2,3,4,5,6,7,8,9,10,11,12,13,14,15,16,17,18,19,20,21,22] follows (ia [0,0,0,0,0,24,56,0,0,0,512,1536,3584,0,15872,32256,0,130560,261632,524160,1048572,2097151,4194303] (by kernel_rfl)) ?_;refine eN bm rfl (eN bm rfl (eN bm rfl (eN bm rfl (eN bm rfl (CA bm ah rfl rfl rfl rfl (zN sX ou) rfl (by decide) (by rw[Int.toNat_natCast];exact nG) (by omega) (by omega) fun _=> ?_)))));refine eN bm rfl (I8 bm ah rfl rfl rfl (((ajD.le hY.le).kx hY.q.mem).at) (eN bm rfl (ml bm rfl (mm bm ah rfl rfl rfl (ki bm ah rfl rfl rfl (hY.q.k0) (eN bm rfl (Cz bm ah rfl rfl rfl rfl rfl (qW) (by rw[Int.toNat_natCast];exact sE i pi cU) (by omega) (by omega) fun _=> ?_)))))));refine eN bm rfl (CA bm ah rfl rfl rfl rfl (zN Td (hY.q.xP (G:=G.on _) cU)) rfl (by decide) (by rw[Int.toNat_natCast];exact qV) (by omega) (by omega) fun _=> ?_)
    refine CB rfl rfl (Ss hY.q.mem hY.q.st (show fD _ (f (B i)) by rw[cI];exact⟨n4,d4,rfl,i1,i2,i3,i4,rfl⟩) wh) (fun v H9 oB=>by obtain⟨k1,_,_,_,_,_,k2,_⟩:=oB;exact hY.q.fN k1 k2) ?_;rintro v7 H7 ⟨sP,vs7,o7,q7,rfl,ajE,aaB,jb⟩;have bm:=hY.q.fN sP aaB;refine CB rfl rfl (Su hY.q.mem aaB Dh ajE) (fun v H9 oB=>by obtain⟨k1,_,_,_,_,_,k2,_⟩:=oB;exact hY.q.fN (sP.trans k1) k2) ?_;rintro v8 H8 ⟨rh,vs8,o8,q8,rfl,aaC,sT,ft⟩;obtain⟨n8,d8,rfl,_⟩:=id aaC;have bm:=hY.q.fN (sP.trans rh) sT;have Tf:=((sP.trans rh).same z QZ.m7 ou).trans sX;have Tg:=hY.set (sP.trans rh) sT sX nZ sY aaC;obtain⟨ti,ak,al⟩:=eE;refine MR bm ah rfl rfl rfl (by omega) (by omega) (Tf) rfl (by show k*2≤ws.length;omega) ak al (fun _=>rfl) rfl rfl rfl fun _=> ?_;refine az (aj [0,9,13,14,71,72,89,90] rfl ?_);refine aC rfl (aH rfl rfl ⟨by omega,by omega⟩ (ab 1 rfl (az ?_)))
    exact⟨q+1,bY f2 q q8,o8,by omega,au,Tg,fun h9=>⟨(hR (jb (ft h9).1).1).1,fun j=>by
     have g1:=ft h9;have g2:=jb g1.1;have g3:=hR g2.1
     by_cases ej:j=q
     ·
      subst ej;rw[rp,g1.2,g2.2,g3.2 j,if_neg (by omega),if_pos (by omega)]
     ·
      rw[pL ej,g3.2 j]
      by_cases hj:j<q
      ·rw[if_pos hj,if_pos (by omega)]
      ·rw[if_neg hj,if_neg (by omega)]⟩,by omega⟩
   have sY:k≤q:=by simpa using hb
   obtain rfl:q=k:=by omega
   refine aW (aj [0,9,71,72] rfl ?_);refine aC rfl (aH rfl rfl ⟨by omega,by omega⟩ (ab 1 rfl (az ?_)))
   exact⟨i+1,f2,o2,by omega,au,hY.down (hZ.le.trans zW),fun h9=>⟨(hI (hR h9).1).1,fun q hq=>by
    rw[(hR h9).2 q,if_pos hq,(hI (hR h9).1).2 q hq,(hI (hR h9).1).2 _ (hB i aU)];rfl⟩,by omega⟩
  have aU:m≤i:=by simpa using hb
  obtain rfl:i=m:=by omega
  refine aW (aj [9] rfl ?_);refine ag (ab 2 rfl (ae [8] ?_));refine aE ⟨.inr rfl,_,.tmp rfl (.nil),?_⟩;exact⟨z,f,o1,rfl,hZ,hI⟩
end Go.aw
namespace Go.aw
open Go.Proofs Num Lp
def iR(M:Nat→Nat→Rat)(B:Nat→Nat)(n:Nat):Nat→Nat→Rat
 | 0=>fun _=>0
 | i+1=>bY (iR M B n i) (B i) (M i n)
theorem Th{n d:Int}{q:Rat}(h1: -1073741824≤n)(h2:n≤1073741824)(h3:1≤d)(h4:d≤1073741824)(h:q=(n:Rat)/(d:Rat)):aP q≤8:=by
 have hz:∀k:Int,-1073741824≤k→k≤1073741824→aP (k:Rat)≤2:=fun k g1 g2=>PA.2 (by
  rw[Rat.num_intCast,Rat.den_intCast,cn];omega)
 have k1:=hz n h1 h2
 have k2:=hz d (by omega) h4
 have k3:=Eb (n:Rat) (d:Rat)
 rw[h];omega
def jV(p:Prg)(a:Nat→Rat)(j:Nat):Rat:=if p.lp.free j then a j-a (p.mi j)else a j
theorem aaD{o:Bool}{H:Heap}{g:Nat}{G:GG}{W m N:Nat}{M:Nat→Nat→Rat}{B:Nat→Nat}{p:Prg}{pv:Value}(h:QV o H g G (m+1) W m M B)(hp:ea N (rem H G.gs) pv p)(sW:p.c1≤W)(h1W:1≤W)(hB:∀i,i<m→B i<W)(hm:(m:Int)≤900000)(hW:(W:Int)≤1000000):
 Fn Tryz.prog 141 #[.pointer (some ⟨g,0,none⟩),pv,.int .i64 (W:Int)] H (fun v H'=>Heap.le H H'∧aR bX 3 H' v (aL (jV p (iR M B (W-1) m)) p.free.length)∧∀q,q<p.free.length→aP (jV p (iR M B (W-1) m) q)≤17):=by
 obtain⟨fv,fL,rfl,dO,eo⟩:=id hp
 obtain⟨Af,cf,xf,rfl,iv,gS⟩:=dO.one
 obtain⟨Ar,cr,xr,rfl,iM,eJ,gE⟩:=id eo
 have di:=xX (p:=p)
 have S9:p.free.length≤W:=Nat.le_trans di sW;refine aZ (args:=[_,_,_]) Tryz.func141 rfl rfl Tryz.ntmps141 rfl rfl fun w0=> ?_;refine aj [0,1,2] rfl ?_;refine ag (bW rfl rfl (ab 1 rfl (ae [0,2,4] ?_)));refine ag (ab 1 rfl (gJ Tryz.underlying161 fP rfl rfl rfl (by omega) (by omega) (by omega) (by omega) ?_));intro z hz;rw[Int.toNat_natCast]
 have ou:z≠g:=fun e9=>by rw[e9,h.st]at hz;cases hz
 have Fb:∀e9:Ent,Heap.le (rem H G.gs) (ins H z e9):=fun e9=>(bt _ _).trans (Heap.bC _ hz)
 obtain⟨Ab,cb,dr,fY⟩:∃Ab cb,G.bv = .slice Ab m cb∧∀i,i<m→Rd H Ab (eL B m):=by
  rcases h.cZ.basis with ⟨h1,h2,h3⟩ | ⟨gb,cb,sz,h1,h2,h3⟩
  ·exact⟨none,0,by rw[h3,h1],fun i hi=>by omega⟩
  ·exact⟨_,cb,h2,fun i hi=>dW h3⟩
 have FV:∀(e9:Ent) k v,cell H ((⟨g,0,none⟩:Addr).add k)=some v→cell (ins H z e9) ((⟨g,0,none⟩:Addr).add k)=some v:=fun e9 k v h9=>cN (Heap.bC _ hz) h9;refine ab 1 rfl (ae [0,2,4,7] ?_);refine aq (ag (ab 3 rfl (ae [0,2,4,7,17,18] ?_)));refine aG (ij (fun(k:Nat)(xs:List Value)=>W-k) (fun(k:Nat)(xs:List Value)=>put (put (put (put (put (put (emp) 0 (.val (.pointer (some ⟨g,0,none⟩)))) 2 (.val (.int .i64 (W:Int)))) 4 (.box [.slice Af p.free.length cf,.slice Ar p.rows.length cr])) 7 (.val (.slice (some ⟨z,0,none⟩) W W))) 17 (.val (.int .i64 (W:Int)))) 18 (.val (.int .i64 (k:Int)))) (fun(k:Nat)(xs:List Value) H'=>H'=ins H z ⟨xs,W*2,163,true⟩∧qv W xs (fun _=>0) k∧k≤W) 0 (cD [.int .i64 0,.int .i64 0] (W*2)) (⟨rfl,S6,Nat.zero_le _⟩) au ?_);rintro k xs H2 ⟨e2,hF,hk⟩;rw[e2];clear e2 H2;have cP:=Nn hF hk;refine ag (ab 1 rfl (ae [0,2,4,7,17,18,19] ?_));refine aq (aD rfl (fun hb=> ?_) (fun hb=> ?_))
 ·
  have fq:k<W:=by simpa using hb
  refine aA (aj [0,2,4,7,17,18] rfl ?_);refine aq (aG (ag (ab 2 rfl (ae [0,2,4,7,8,17,18] ?_))));refine aC rfl (ab 2 rfl (de ah rfl fP rfl rfl ?_));obtain⟨ti,ak,al⟩:=eE;refine cV (.inl rfl) ah rfl rfl rfl (by omega) (by omega) (bF _ _ _) rfl (by show 0+W*2≤xs.length;omega) ak al (fun _=>rfl) rfl rfl rfl fun _=> ?_;refine az (aj [0,2,4,7,17,18] rfl ?_);refine aC rfl (aH rfl rfl ⟨by omega,by omega⟩ (ab 1 rfl (az ?_)));rw[Fa,qB];exact⟨k+1,_,by omega,au,rfl,by rw[Int.toNat_natCast];exact S4 hF fq E0,by omega⟩
 ·
  have hb:W≤k:=by simpa using hb
  obtain rfl:k=W:=by omega
  have Jp:=S5 hF;refine aW (aj [0,2,4,7] rfl ?_);refine aq (ag (ab 2 rfl (aV ah rfl rfl rfl (aT ah rfl rfl rfl (FV _ 1 (.slice Ab m cb) (by rw[←dr];exact h.mY)) ?_))));refine ab 2 rfl (ae [0,2,4,7,30,31] ?_);refine aG (ij (fun(i:Nat)(ys:List Value)=>m-i) (fun(i:Nat)(ys:List Value)=>put (put (put (put (put (put (emp) 0 (.val (.pointer (some ⟨g,0,none⟩)))) 2 (.val (.int .i64 (k:Int)))) 4 (.box [.slice Af p.free.length cf,.slice Ar p.rows.length cr])) 7 (.val (.slice (some ⟨z,0,none⟩) k k))) 30 (.val (.int .i64 (m:Int)))) 31 (.val (.int .i64 (i:Int)))) (fun(i:Nat)(ys:List Value) H'=>H'=ins H z ⟨ys,k*2,163,true⟩∧bE fD 2 ys (aL (iR M B (k-1) i) k)∧i≤m) 0 xs (⟨rfl,Jp,Nat.zero_le _⟩) au ?_);rintro i ys H3 ⟨e3,hE,hi⟩;rw[e3];clear e3 H3;have kV:=hE.len;rw[bh]at kV;refine ag (ab 1 rfl (ae [0,2,4,7,30,31,32] ?_));refine aq (aD rfl (fun hb=> ?_) (fun hb=> ?_))
  ·
   have aU:i<m:=by simpa using hb
   have uz:=hB i aU;obtain⟨pi,cU⟩:=h.cZ.get (show i<m+1 by omega);obtain⟨xi,si,sS,xU⟩:=h.row cU;obtain⟨Qm,_,xe,gD⟩:=h.rk;obtain⟨n4,d4,FP,pc,_⟩:=m0 xU (show k-1<k by omega);refine aA (aj [0,2,4,7,30,31] rfl ?_);refine aq (aG (ag (ab 2 rfl (ae [0,2,4,7,9,30,31] ?_))));refine ep .gH [0,1,2,3,4,5,6,7,8,9,10,11,12,13,14,15,16,17,18,19,20] follows (ia [0,0,2,6,14,0,62,126,0,256,768,1792,0,7936,16128,0,32768,130816,261888,524287,1048575] (by kernel_rfl)) ?_;refine ab 3 rfl (aV ah rfl rfl rfl (aT ah rfl rfl rfl (FV _ 1 (.slice Ab m cb) (by rw[←dr];exact h.mY)) ?_));refine ab 1 rfl (aS ah rfl rfl rfl rfl rfl ((fY i aU).le (Heap.bC _ hz)) (by rw[Int.toNat_natCast];exact gO aU) (by omega) (by omega) fun _=> ?_);refine ab 2 rfl (aV ah rfl rfl rfl (aT ah rfl rfl rfl (FV _ 0 _ h.ja) (ab 1 rfl (aS ah rfl rfl rfl rfl rfl (xe.le (Heap.bC _ hz)) (by rw[Int.toNat_natCast];exact gD i pi cU) (by omega) (by omega) fun _=> ?_))));refine ab 1 rfl (cY rfl rfl ⟨by omega,by omega⟩ (ck (vs:=[.int .i64 n4,.int .i64 d4]) ah rfl rfl rfl rfl ((dW sS).le (Heap.bC _ hz)) rfl (by decide) (by rw[show ((k:Int)-1).toNat=k-1 by omega];exact pc) (by omega) (by omega) fun _=> ?_))
   obtain⟨ti,ak,al⟩:=eE;refine cV (.inr rfl) ah rfl rfl rfl (by omega) (by omega) (bF _ _ _) rfl (by show 0+k*2≤ys.length;omega) ak al (fun _=>rfl) rfl rfl rfl fun _=> ?_;refine az (aj [0,2,4,7,30,31] rfl ?_);refine aC rfl (aH rfl rfl ⟨by omega,by omega⟩ (ab 1 rfl (az ?_)));rw[Fa,qB];exact⟨i+1,_,by omega,au,rfl,by rw[Int.toNat_natCast];exact Nl hE uz FP,by omega⟩
  have aU:m≤i:=by simpa using hb
  obtain rfl:i=m:=by omega
  have dV:=Fb ⟨ys,k*2,163,true⟩;have CO:Rd (ins H z ⟨ys,k*2,163,true⟩) (some ⟨z,0,none⟩) ys:=dE _ _ _ _ _ _;have Tj:Heap.le H (ins H z ⟨ys,k*2,163,true⟩):=Heap.bC _ hz
  show VC _ _ _ _ _ _ _ (ins H z ⟨ys,k*2,163,true⟩)
  generalize ins H z ⟨ys,k*2,163,true⟩=H4 at *
  refine aW (aj [4,7] rfl ?_);refine ag (ab 3 rfl (gJ Tryz.underlying26 bZ rfl rfl rfl (by omega) (by omega) (by omega) (by omega) ?_));intro gx qR;have zX:=I3 (P:=bX) (e:=31) (sz:=3) (zs:=[.bool false,.slice none 0 0,.slice none 0 0]) (z:=0) (k:=(p.free.length:Int)) (c:=p.free.length) qR rfl (Int.toNat_natCast _) (by unfold maxLen;omega);rw[Int.toNat_natCast]at zX⊢;refine ab 1 rfl (ae [4,7,10] ?_);refine ag (ab 4 rfl (ae [4,7,10,11] ?_));refine aq (ag (ab 4 rfl (ae [4,7,10,11,64,65] ?_)));refine aG (fG (fun(j:Nat)(w:Value)(ws:List Value)=>p.free.length-j) (fun(j:Nat)(w:Value)(ws:List Value)=>put (put (put (put (put (put (emp) 4 (.box [.slice Af p.free.length cf,.slice Ar p.rows.length cr])) 7 (.val (.slice (some ⟨z,0,none⟩) k k))) 10 (.val (w))) 11 (.val (.int .i64 (p.mi j:Int)))) 64 (.val (.int .i64 (p.free.length:Int)))) 65 (.val (.int .i64 (j:Int)))) (fun(j:Nat)(w:Value)(ws:List Value) H'=>ed bX 31 3 H4 H' w (aL (jV p (iR M B (k-1) i)) j) ws∧j≤p.free.length∧∀q,q<j→aP (jV p (iR M B (k-1) i) q)≤17) 0 _ _ (⟨zX,Nat.zero_le _,fun q hq=>absurd hq (Nat.not_lt_zero _)⟩) (by repeat (first | exact iV _ | refine dB rfl ?_ | refine dB (jk (by first | omega | (simp;done) | rfl)) ?_)) ?_)
  rintro j w ws H5 ⟨hG,hj,cQ⟩;obtain⟨A5,c5,e5⟩:=hG.form;rw[bh]at e5;subst e5;refine ag (ab 1 rfl (ae [4,7,10,11,64,65,66] ?_));refine aq (aD rfl (fun hb=> ?_) (fun hb=> ?_))
  ·
   have gU:j<p.free.length:=by simpa using hb
   obtain⟨n5,d5,Dh,nG,i1,i2,i3,i4,eW⟩:=m0 hE (show j<k by omega);obtain⟨uf,rb,kG⟩:=gS j _ (List.getElem?_eq_getElem gU);have kG: [uf] = [Value.bool p.free[j]]:=kG
   cases kG
   have nT:p.lp.free j=p.free[j]:=Prg.Bv (List.getElem?_eq_getElem gU);have ant:=Th i1 i2 i3 i4 eW
   have Xw:aP (jV p (iR M B (k-1) i) j)≤17:=by
    unfold jV
    split
    ·
     rename_i hf9
     obtain⟨n9,d9,_,_,k1,k2,k3,k4,k5⟩:=m0 hE (show p.mi j<k from Nat.lt_of_lt_of_le (vT gU hf9) sW);have k6:=Th k1 k2 k3 k4 k5;have k7:=tC (iR M B (k-1) i j) (iR M B (k-1) i (p.mi j))
     omega
    ·omega
   refine aA (aj [4,7,10,11,64,65] rfl ?_);refine aq (aG (ag (ab 2 rfl (ae [4,7,10,11,12,64,65] ?_))));refine bP .bJ [0,1,2,3,4,5,6,7,8,9,10,11,12] follows (by kernel_rfl) ?_;refine ab 2 rfl (nR ah rfl rfl rfl rfl rfl rfl rfl (CO.le hG.le) (by rw[Int.toNat_natCast];exact nG 0 _ rfl) (by omega) (by omega) fun _ _=> ?_);refine ab 2 rfl (nR ah rfl rfl rfl rfl rfl rfl rfl (CO.le hG.le) (by rw[Int.toNat_natCast];exact nG 1 _ rfl) (by omega) (by omega) fun _ _=> ?_);refine a8 rfl rfl (hG.call (Ym (a:=n5) (b:=d5) (by omega) (by omega) (by omega) (by omega)).rc) (fun _ _ h=>h.le fun _ _ h=>h.1) ?_;rintro _ H6 gw;have fC:=hG.jK dL gw fun _ _ h=>h.1;obtain⟨⟨_,t6,rfl,iu⟩,_⟩:=gw;rw[←eW]at iu;refine bn bZ rfl ?_;obtain⟨ti,ak,al⟩:=a6;refine aI (.inl ⟨rfl,rfl⟩) rfl rfl rfl ak al rfl rfl rfl (ae [4,7,10,11,12,13,64,65] ?_);refine AU (fun(t:RC)(a:Nat)=>put (put (put (put (put (put (put (emp) 4 (.box [.slice Af p.free.length cf,.slice Ar p.rows.length cr])) 7 (.val (.slice (some ⟨z,0,none⟩) k k))) 10 (.val (.slice A5 j c5))) 11 (.val (.int .i64 (a:Int)))) 13 (.box [.bool t.f,.slice t.A1 t.m1 t.c1,.slice t.A2 t.m2 t.c2])) 64 (.val (.int .i64 (p.free.length:Int)))) 65 (.val (.int .i64 (j:Int)))) (fun(t:RC)(a:Nat) H'=>ed bX 31 3 H4 H' (.slice A5 j c5) (aL (jV p (iR M B (k-1) i)) j) ws∧a=p.mi (j+1)∧bK (rem H' (aB (.slice A5 j c5))) t.v (jV p (iR M B (k-1) i) j)) ?_ ?_
   ·
    refine ag (ab 3 rfl (aS ah rfl rfl rfl rfl rfl (iv.le (dV.trans fC.le)) (by rw[Int.toNat_natCast];exact rb) (by omega) (by omega) fun _=> ?_));refine ae [4,7,10,11,13,64,65,83] ?_;refine aD rfl (fun hb=> ?_) (fun hb=> ?_)
    ·
     have fM:p.lp.free j=true:=by rw[nT];simpa using hb
     have xY:p.mi j<k:=Nat.lt_of_lt_of_le (vT gU fM) sW;obtain⟨n7,d7,Qx,sQ,j1,j2,j3,j4,aaE⟩:=m0 hE xY;have anu:=Th j1 j2 j3 j4 aaE;refine bP .bJ [0,1,2,3,4,5,6,7,8,9,10,11,12,13] follows (by kernel_rfl) ?_;refine ab 3 rfl (nR ah rfl rfl rfl rfl rfl rfl rfl (CO.le fC.le) (by rw[Int.toNat_natCast];exact sQ 0 _ rfl) (by omega) (by omega) fun _ _=> ?_);refine ab 2 rfl (nR ah rfl rfl rfl rfl rfl rfl rfl (CO.le fC.le) (by rw[Int.toNat_natCast];exact sQ 1 _ rfl) (by omega) (by omega) fun _ _=> ?_);refine a8 rfl rfl (fC.call (Ym (a:=n7) (b:=d7) (by omega) (by omega) (by omega) (by omega)).rc) (fun _ _ h=>h.le fun _ _ h=>h.1) ?_;rintro _ H7 Tk;have fW:=fC.jK dL Tk fun _ _ h=>h.1;have ajF:=iu.le Tk.post.1;obtain⟨⟨_,t7,rfl,jb⟩,_⟩:=Tk;rw[←aaE]at jb;refine a8 rfl rfl (fW.call (Et (N:=10) ((bK.raw ajF).mono (by omega)) ((bK.raw jb).mono (by omega)) (by decide)).rc) (fun _ _ h=>h.le fun _ _ h=>h.1) ?_;rintro _ H8 uA;have fV:=fW.jK dL uA fun _ _ h=>h.1;obtain⟨⟨_,t8,rfl,ft⟩,_⟩:=uA;obtain⟨ti,ak,al⟩:=a6;refine aI (.inl ⟨rfl,rfl⟩) rfl rfl rfl ak al rfl rfl rfl (ae [4,7,10,11,13,64,65] ?_);refine aC rfl (ab 1 rfl (aH rfl rfl ⟨by omega,by omega⟩ (vr 1 ?_)))
     refine az ?_;exact⟨t8,p.mi j+1,au,fV,by rw[vU,if_pos fM],by unfold jV;rw[if_pos fM];exact ft⟩
    have fM:¬p.lp.free j=true:=by rw[nT];simpa using hb
    refine aA ?_;exact⟨t6,p.mi j,au,fC,by rw[vU,if_neg fM,Nat.add_zero],by unfold jV;rw[if_neg fM];exact iu⟩
   rintro t a H9 ⟨kB,ua,fK⟩;subst ua;refine aC rfl (ab 2 rfl (cR Tryz.underlying26 bZ rfl rfl rfl rfl rfl rfl rfl ?_));intro gb bo;have Jq:=kB.ins dL (whole (cF [.agg #[.bool t.f,.slice t.A1 t.m1 t.c1,.slice t.A2 t.m2 t.c2]]) 31) bo;refine dK Tryz.underlying26 bZ rfl rfl Jq.own (dE _ _ _ _ _ _) rfl (zM _ _ _ _ _ _ _) (by rw[bh];omega) (by rw[bh];omega) ?_;intro W9 kz Tl;have kB:=Jq.append dL (k:=[jV p (iR M B (k-1) i) j]) (by simp) Tl (iE (dL _ _ _ _ (og _ (Heap.bC _ bo)) (show bX _ [_,_,_] _ from fK)) rfl);refine ab 1 rfl (az (aj [4,7,10,11,64,65] rfl ?_));refine aC rfl (aH rfl rfl ⟨by omega,by omega⟩ (ab 1 rfl (az ?_)))
   exact⟨j+1,_,_,by omega,au,by rw[xh];exact kB,by omega,fun q hq=>by
    by_cases eq:q=j
    ·subst eq;exact Xw
    ·exact cQ q (by omega)⟩
  have gU:p.free.length≤j:=by simpa using hb
  obtain rfl:j=p.free.length:=by omega
  refine aW (aj [10] rfl ?_);refine ag (ab 2 rfl (ae [6] ?_));refine aE ⟨.inr rfl,_,.tmp rfl (.nil),?_⟩;exact⟨Tj.trans hG.le,hG.sl dL,cQ⟩
end Go.aw
namespace Go.aw
open Go.Proofs Num Lp
section
variable {p:Prg}
theorem ajG{x y:Nat}(hx:x<p.w)(hy:y<p.w)(h:p.pi x=p.pi y):x=y:=by
 have lo:∀{a b:Nat},a<p.lp.n→b<p.lp.n→aX p.lp.free a=aX p.lp.free b→a=b:=fun{a b} _ _ e=>by
  rcases Nat.lt_trichotomy a b with k | k | k
  ·have:=B6 (fr:=p.lp.free) k;omega
  ·exact k
  ·have:=B6 (fr:=p.lp.free) k;omega
 have mx:∀{a b:Nat},p.lp.free b=true→aX p.lp.free a≠aX p.lp.free b+1:=fun{a b} hb e=>by
  rcases Nat.lt_trichotomy a b with k | k | k
  ·have:=B6 (fr:=p.lp.free) k;omega
  ·subst k;omega
  ·have:=B6 (fr:=p.lp.free) k
   rw[if_pos hb]at this;omega
 by_cases cx:x<p.c1
 ·have tw:y<p.c1:=by
   have h1:=Ng cx
   refine Classical.byContradiction fun hn=> ?_
   rw[vS (Nat.le_of_not_lt hn)]at h
   omega
  by_cases ax:x<p.lp.n
  ·by_cases ay:y<p.lp.n
   ·rw[xW ax,xW ay]at h;exact lo ax ay h
   ·obtain⟨j,g1,g2,rfl⟩:=Jm (Nat.le_of_not_lt ay) tw
    rw[xW ax,zT g1 g2]at h
    exact absurd h (mx g2)
  ·obtain⟨i,k1,k2,rfl⟩:=Jm (Nat.le_of_not_lt ax) cx
   by_cases ay:y<p.lp.n
   ·rw[xW ay,zT k1 k2]at h
    exact absurd h.symm (mx k2)
   ·obtain⟨j,g1,g2,rfl⟩:=Jm (Nat.le_of_not_lt ay) tw
    rw[zT k1 k2,zT g1 g2]at h
    rw[lo k1 g1 (by omega)]
 ·by_cases cy:y<p.c1
  ·have h1:=Ng cy
   rw[vS (Nat.le_of_not_lt cx)]at h
   omega
  ·rw[vS (Nat.le_of_not_lt cx),vS (Nat.le_of_not_lt cy)]at h;exact h
structure Tw(p:Prg)(S T:ar):Prop where
 em:T.m=S.m
 en:T.n=S.n
 ew:S.n=p.w
 eA:∀i,i<S.m→∀j,j≤p.w→T.A i j=S.A i (p.pi j)
 ec:∀j,j≤p.w→T.c j=S.c (p.pi j)
 eB:∀i,i<S.m→S.B i=p.pi (T.B i)∧T.B i<p.w
variable {S T:ar} {c0:Nat→Rat} {c:List Rat}
theorem Tw.pivot(h:Tw p S T){r s:Nat}(hr:r<S.m)(hs:s<p.w):Tw p (S.pivot r (p.pi s)) (T.pivot r s):=by
 refine⟨h.em,h.en,h.ew,fun i hi j hj=> ?_,fun j hj=> ?_,fun i hi=> ?_⟩
 ·have hi:i<S.m:=hi
  show (if i=r then T.A r j/T.A r s else T.A i j-T.A i s*(T.A r j/T.A r s))=if i=r then S.A r (p.pi j)/S.A r (p.pi s)else S.A i (p.pi j)-S.A i (p.pi s)*(S.A r (p.pi j)/S.A r (p.pi s))
  rw[h.eA r hr j hj,h.eA r hr s (by omega),h.eA i hi j hj,h.eA i hi s (by omega)]
 ·show T.c j-T.c s*(T.A r j/T.A r s)=S.c (p.pi j)-S.c (p.pi s)*(S.A r (p.pi j)/S.A r (p.pi s))
  rw[h.ec j hj,h.ec s (by omega),h.eA r hr j hj,h.eA r hr s (by omega)]
 ·have hi:i<S.m:=hi
  show (if i=r then p.pi s else S.B i)=p.pi (if i=r then s else T.B i)∧(if i=r then s else T.B i)<p.w
  split
  ·exact⟨rfl,hs⟩
  ·exact h.eB i hi
theorem Tw.wf(h:Tw p S T)(hW:S.WF):T.WF where
 lt i hi:=by rw[h.en,h.ew];exact(h.eB i (by rw[←h.em];exact hi)).2
 unit i k hi hk:=by
  rw[h.em]at hi hk
  have:=h.eB i hi
  rw[h.eA k hk _ (by omega),←this.1]
  exact hW.unit i k hi hk
 zero i hi:=by
  rw[h.em]at hi
  have:=h.eB i hi
  rw[h.ec _ (by omega),←this.1]
  exact hW.zero i hi
theorem Tw.rhs(h:Tw p S T){i:Nat}(hi:i<S.m):T.A i T.n=S.A i S.n:=by
 rw[h.en,h.ew,h.eA i hi _ (Nat.le_refl _),CJ]
theorem Tw.dd(h:Tw p S T)(hF:S.j8):T.j8:=fun i hi=>by
 rw[h.em]at hi
 rw[h.rhs hi];exact hF i hi
theorem Tw.ajH(h:Tw p S T)(hF:T.j8):S.j8:=fun i hi=>by
 rw[←h.rhs hi];exact hF i (by rw[h.em];exact hi)
theorem Tw.Fc(h:Tw p S T){i:Nat}(hi:i<S.m):p.u≤S.B i↔p.u≤T.B i:=by
 have h1:=h.eB i hi
 constructor
 ·intro k
  refine Classical.byContradiction fun hn=> ?_
  have:=zU (p:=p) (x:=T.B i) (by omega)
  omega
 ·intro k
  rw[h1.1,S0 k];exact k
theorem Tw.clean(h:Tw p S T){k:Nat}(hC:ar.Clean p.u k S):ar.Clean p.u k T where
 zero i hi hu:=by
  rw[h.em]at hi
  rw[h.rhs hi];exact hC.zero i hi ((h.Fc hi).2 hu)
 row i hk hi hu j hj:=by
  rw[h.em]at hi
  have:=fp p
  rw[h.eA i hi j (by omega)]
  exact hC.row i hk hi ((h.Fc hi).2 hu) _ (zU hj)
theorem Tw.ajI(h:Tw p S T){k:Nat}(hC:ar.Clean p.u k T):ar.Clean p.u k S where
 zero i hi hu:=by
  rw[←h.rhs hi];exact hC.zero i (by rw[h.em];exact hi) ((h.Fc hi).1 hu)
 row i hk hi hu y hy:=by
  obtain⟨x,hx,rfl⟩:=Ni hy
  have:=fp p
  rw[←h.eA i hi x (by omega)]
  exact hC.row i hk (by rw[h.em];exact hi) ((h.Fc hi).1 hu) x hx
theorem Tw.inv(h:Tw p S T)(hI:Inv p c0 S){r s:Nat}(hr:r<S.m)(hs:s<p.w)(hp:T.A r s≠0)(hF:(T.pivot r s).j8):Inv p c0 (S.pivot r (p.pi s)):=by
 have yJ:S.A r (p.pi s)≠0:=by rw[←h.eA r hr s (by omega)];exact hp
 have hm:r<p.lp.m:=by rw[←hI.rows.m];exact hr
 have hw:=S1 hs
 exact⟨ar.Br hI.wf hr (by rw[h.ew];exact hw) yJ,(h.pivot hr hs).ajH hF,hI.rows.pivot hm yJ,hI.rows.PS hI.off hm⟩
def mA(p:Prg)(T:ar):Prop:=∃S,Inv p (pn p) S∧Tw p S T
def oC(p:Prg)(c:List Rat)(T:ar):Prop:=∃S,I2 p c S∧Tw p S T
def je(p:Prg)(k:Nat)(T:ar):Prop:=∃S,Jx p k S∧Tw p S T
theorem mA.step{r s:Nat}(h:mA p T)(hb:T.pz p.u r s):mA p (T.pivot r s):=by
 obtain⟨S,hI,hT⟩:=h
 have hr:r<S.m:=by rw[←hT.em];exact hb.rm
 have hs:s<p.w:=Nat.lt_of_lt_of_le hb.su (fp p)
 exact⟨_,hT.inv hI hr hs (by have:=hb.pos;grind) (ar.GI (hT.dd hI.dd) hb),hT.pivot hr hs⟩
theorem oC.step{r s:Nat}(h:oC p c T)(hb:T.pz p.u r s):oC p c (T.pivot r s):=by
 obtain⟨S,hI,hT⟩:=h
 have hr:r<S.m:=by rw[←hT.em];exact hb.rm
 have hs:s<p.w:=Nat.lt_of_lt_of_le hb.su (fp p)
 have hP:=hT.pivot hr hs
 have hC:=hT.clean hI.2
 rw[←hT.em]at hC
 exact⟨_,⟨hT.inv hI.1 hr hs (by have:=hb.pos;grind) (ar.GI (hT.dd hI.1.dd) hb),by have h9:=hP.ajI (hC.GL hb);rw[hP.em]at h9;exact h9⟩,hP⟩
theorem mA.acc(h:mA p T):Acc (ar.Step p.u) T:=by
 obtain⟨S,hI,hT⟩:=h
 exact ar.PN (hT.wf hI.wf) (hT.dd hI.dd) (by rw[hT.en,hT.ew];exact fp p)
theorem oC.acc(h:oC p c T):Acc (ar.Step p.u) T:=by
 obtain⟨S,hI,hT⟩:=h
 exact ar.PN (hT.wf hI.1.wf) (hT.dd hI.1.dd) (by rw[hT.en,hT.ew];exact fp p)
theorem je.skip{k:Nat}(h:je p k T)(hk:k<T.m)(hz:T.B k<p.u∨∀j,j<p.u→T.A k j=0):je p (k+1) T:=by
 obtain⟨S,hI,hT⟩:=h
 rw[hT.em]at hk
 refine⟨S,hI.skip ?_,hT⟩
 rcases hz with hz | hz
 ·have:=hT.Fc hk
  exact .inl (by omega)
 ·refine .inr fun y hy=> ?_
  obtain⟨x,hx,rfl⟩:=Ni hy
  have:=fp p
  rw[←hT.eA k hk x (by omega)];exact hz x hx
theorem je.pivot{k s:Nat}(h:je p k T)(hk:k<T.m)(hu:p.u≤T.B k)(hs:s<p.u)(hp:T.A k s≠0):je p (k+1) (T.pivot k s):=by
 obtain⟨S,hI,hT⟩:=h
 rw[hT.em]at hk
 have hw:=fp p
 exact⟨_,hI.pivot hk ((hT.Fc hk).2 hu) (zU hs) (by rw[←hT.eA k hk s (by omega)];exact hp),hT.pivot hk (by omega)⟩
theorem mA.clean(h:mA p T)(hn:∀j,j<p.u→0≤T.c j)(h0:T.c p.w=0):je p 0 T:=by
 obtain⟨S,hI,hT⟩:=h
 have:S.c p.w=0:=by rw[hT.ec _ (Nat.le_refl _),CJ]at h0;exact h0
 exact⟨S,⟨hI,YU hI (by grind)⟩,hT⟩
theorem mA.inf(bx:p.Ok)(h:mA p T)(hn:∀j,j<p.u→0≤T.c j)(h0:T.c p.w≠0):p.lp.wX:=by
 obtain⟨S,hI,hT⟩:=h
 have e:T.c p.w=S.c p.w:=by rw[hT.ec _ (Nat.le_refl _),CJ]
 have hw:=fp p
 have hS:∀y,y<p.u→0≤S.c y:=fun y hy=>by
  obtain⟨x,hx,rfl⟩:=Ni hy
  rw[←hT.ec x (by omega)];exact hn x hx
 have h1:=ar.WO hI.wf hI.dd hI.rows hI.off
 have gj:S.c p.w<0:=Classical.byContradiction fun hk=>h0 (by rw[e];exact(h1 (by grind)).1)
 have h2:=YT bx hI hS gj
 exact h2.cert.isInf bx.valid
theorem mA.aaF(h:mA p T){s:Nat}(hs:s<p.u)(gj:T.c s<0)(hA:∀i,i<T.m→T.A i s≤0):False:=by
 obtain⟨S,hI,hT⟩:=h
 have hw:=fp p
 refine YV hI (zU hs) (by rw[←hT.ec s (by omega)];exact gj) fun i hi=> ?_
 rw[←hT.eA i hi s (by omega)];exact hA i (by rw[hT.em];exact hi)
theorem ajJ(hv:p.lp.Valid):∀{k:Nat}{j:Nat},k≤p.lp.m→p.u≤j→j<aY p.lp.rel p.aK p.u k→∃i,i<k∧p.unit i=j:=by
 intro k
 induction k with
 | zero=>
  intro j _ h1 h2
  exact absurd h2 (by show ¬j<p.u;omega)
 | succ k ih=>
  intro j hk h1 h2
  have e:aY p.lp.rel p.aK p.u (k+1)=aY p.lp.rel p.aK p.u k+(if fe (p.lp.rel k) (p.aK k)then 0 else 1):=rfl
  by_cases hj:j<aY p.lp.rel p.aK p.u k
  ·obtain⟨i,g1,g2⟩:=ih (by omega) h1 hj
   exact⟨i,by omega,g2⟩
  ·by_cases o:fe (p.lp.rel k) (p.aK k)=true
   ·rw[if_pos o]at e;omega
   ·rw[if_neg o]at e
    exact⟨k,by omega,by rw[vK o];omega⟩
def rA(p:Prg)(M:Nat→Nat→Rat)(k:Nat):Rat:=if k<p.u∨k=p.w then-bB p.lp.m (fun i=>if p.u≤p.unit i then M i k else 0)else 0
def x6(M:Nat→Nat→Rat)(B:Nat→Nat)(m w:Nat):ar:=⟨m,w,M,M m,B⟩
theorem Np{M:Nat→Nat→Rat}{B:Nat→Nat}{m w:Nat}:ib M B (x6 M B m w) m (w+1):=⟨rfl,rfl,fun _ _ _ _=>rfl,fun _ _=>rfl,fun _ _=>rfl⟩
theorem aaG(i:Nat):p.pi (p.unit i)=p.unit i:=vS Mb
theorem aaH(bx:p.Ok){M:Nat→Nat→Rat}(hM:∀i,i<p.lp.m→∀j,j≤p.w→M i j=dP p i j)(hc:∀j,j≤p.w→M p.lp.m j=rA p M j):mA p (x6 M p.unit p.lp.m p.w):=by
 have hI:Inv p (pn p) (qm p.eh (pn p)):=Inv.base Ce
 have hA:∀i,i<p.lp.m→∀j,j≤p.w→M i j=p.eh.A i (p.pi j):=fun i hi j hj=>by rw[hM i hi j hj,S3 bx.valid hi hj]
 refine⟨_,hI,rfl,rfl,rfl,hA,fun j hj=> ?_,fun i hi=>⟨(aaG i).symm,ow p hi⟩⟩
 show M p.lp.m j=gQ p.eh (pn p) p.lp.m (p.pi j)
 rw[hc j hj]
 have hpu:∀i,i<p.lp.m→pn p (p.unit i)=if p.u≤p.unit i then 1 else 0:=fun i hi=>by
  show ar.jG _ _ _=_
  unfold ar.jG
  by_cases k:p.u≤p.unit i
  ·rw[if_pos k,if_pos ⟨k,ow p hi⟩]
  ·rw[if_neg k,if_neg (fun k'=>k k'.1)]
 have DW:bB p.lp.m (fun i=>pn p (p.eh.B i)*p.eh.A i (p.pi j))=bB p.lp.m (fun i=>if p.u≤p.unit i then M i j else 0):=eS fun i hi=>by
  show pn p (p.unit i)*_=_
  rw[hpu i hi,hA i hi j hj]
  split <;> grind
 unfold rA gQ
 rw[DW]
 by_cases h1:j<p.u
 ·have h2:=fp p
  have h3:=zU h1
  have e:pn p (p.pi j)=0:=ar.PW h3
  rw[if_pos (.inl h1),if_neg (by show ¬p.pi j=p.w;omega),e];grind
 ·by_cases h2:j=p.w
  ·rw[if_pos (.inr h2),h2,if_pos (show p.pi p.w=p.eh.n from CJ)];grind
  ·rw[if_neg (fun k=>k.elim h1 h2)]
   obtain⟨i0,Nq,e0⟩:=ajJ bx.valid (Nat.le_refl _) (Nat.le_of_not_lt h1) (show j<p.w by omega)
   have hz:=hI.wf.zero i0 Nq
   have hz:gQ p.eh (pn p) p.lp.m (p.unit i0)=0:=hz
   unfold gQ at hz
   rw[←DW,←e0,aaG];exact hz.symm
theorem aaI{M:Nat→Nat→Rat}{B:Nat→Nat}{f:Nat→Rat}{m:Nat}(hu:∀i k,i<m→k<m→M k (B i)=if k=i then 1 else 0):∀i,i≤m→∀k,lV M B f i k=f k-bB i (fun q=>f (B q)*M q k):=by
 intro i
 induction i with
 | zero=>intro _ k;show f k=f k-0;grind
 | succ i ih=>
  intro hi k
  have e1:lV M B f i (B i)=f (B i):=by
   rw[ih (by omega),mP fun q hq=> ?_]
   ·grind
   ·rw[hu i q (by omega) (by omega),if_neg (by omega)];grind
  show lV M B f i k-lV M B f i (B i)*M i k=_
  rw[e1,ih (by omega),fZ];grind
theorem aaJ{M:Nat→Nat→Rat}{B:Nat→Nat}(h:je p p.lp.m T)(hr:ib M B T p.lp.m (p.w+1)){M':Nat→Nat→Rat}(hM:∀i,i<p.lp.m→∀j,j≤p.w→M' i j=M i j)(jO:∀j,j≤p.w→M' p.lp.m j=lV M B (fg p (fn c) 1 p.lp.n) p.lp.m j):oC p c (x6 M' B p.lp.m p.w):=by
 obtain⟨S,hI,hT⟩:=h
 have hm:S.m=p.lp.m:=hI.1.rows.m
 have hW:=hT.wf hI.1.wf
 have hn:=hT.en.trans hT.ew
 refine⟨_,I2.start hI,hm.symm,hT.ew.symm,hT.ew,fun i hi j hj=> ?_,fun j hj=> ?_,fun i hi=> ?_⟩
 ·have hi:i<S.m:=hi
  show M' i j=S.A i (p.pi j)
  rw[hM i (by omega) j hj,hr.eA i (by omega) j (by omega),hT.eA i hi j hj]
 ·show M' p.lp.m j=gQ S (kA p c) S.m (p.pi j)
  have hu:∀i k,i<p.lp.m→k<p.lp.m→M k (B i)=if k=i then 1 else 0:=fun i k hi hk=>by
   have h1:=hW.lt i (by rw[hr.em];exact hi)
   rw[hr.eB i hi,hr.eA k hk _ (by omega)]
   exact hW.unit i k (by rw[hr.em];exact hi) (by rw[hr.em];exact hk)
  rw[jO j hj,aaI hu _ (Nat.le_refl _)]
  unfold gQ
  have e1:fg p (fn c) 1 p.lp.n j=if p.pi j=S.n then 0 else kA p c (p.pi j):=by
   rw[Jn]
   by_cases e:p.pi j=S.n
   ·rw[if_pos e]
    have e':p.pi j=p.w:=e.trans hT.ew
    have h1:=Ik (p:=p) (c:=c)
    rw[e'];exact h1
   ·rw[if_neg e]
  rw[e1,hm]
  congr 1
  refine eS fun i hi=> ?_
  have h1:=hT.eB i (by omega)
  rw[hr.eB i hi,Jn,hr.eA i hi j (by omega),hT.eA i (by omega) j hj,h1.1]
 ·have hi:i<S.m:=hi
  have h1:=hT.eB i hi
  show S.B i=p.pi (B i)∧B i<p.w
  rw[hr.eB i (by omega)];exact h1
theorem ajK{M:Nat→Nat→Rat}{B:Nat→Nat}{n m:Nat}(lC:∀i k,i<m→k<m→B i=B k→i=k):∀i,i≤m→∀x,iR M B n i x=bB i (fun q=>if B q=x then M q n else 0):=by
 intro i
 induction i with
 | zero=>intro _ x;rfl
 | succ i ih=>
  intro hi x
  rw[fZ]
  show bY (iR M B n i) (B i) (M i n) x=_
  by_cases e:x=B i
  ·subst e
   rw[rp,if_pos rfl,mP fun q hq=> ?_]
   ·grind
   ·rw[if_neg (fun e'=>by have:=lC q i (by omega) (by omega) e';omega)]
  ·rw[pL e,ih (by omega),if_neg (fun e'=>e e'.symm)];grind
theorem ajL{M:Nat→Nat→Rat}{B:Nat→Nat}(hI:I2 p c S)(hT:Tw p S T)(hr:ib M B T p.lp.m (p.w+1)){j:Nat}(hj:j<p.lp.n):jV p (iR M B p.w p.lp.m) j=dF.vec p.lay.pF p.lay.mF S.pt j:=by
 have hm:S.m=p.lp.m:=hI.1.rows.m
 have hW:=hT.wf hI.1.wf
 have hn:=hT.en.trans hT.ew
 have key:∀x,x<p.w→iR M B p.w p.lp.m x=S.pt (p.pi x):=fun x hx=>by
  have h1:=S1 hx
  rw[ajK (m:=p.lp.m) (fun i k hi hk e=> ?_) _ (Nat.le_refl _)]
  ·unfold ar.pt
   rw[if_neg (by rw[hT.ew];omega),hm]
   refine eS fun i hi=> ?_
   have h2:=hT.eB i (by omega)
   have e:B i=x↔S.B i=p.pi x:=by
    rw[hr.eB i hi,h2.1]
    exact⟨fun e=>by rw[e],fun e=>ajG h2.2 hx e⟩
   by_cases e2:B i=x
   ·rw[if_pos e2,if_pos (e.1 e2),hr.eA i hi _ (by omega),hT.eA i (by omega) _ (Nat.le_refl _),CJ,hT.ew]
   ·rw[if_neg e2,if_neg (fun k=>e2 (e.2 k))]
  ·rw[hr.eB i hi,hr.eB k hk]at e
   exact hW.inj (by rw[hr.em];exact hi) (by rw[hr.em];exact hk) e
 have h1:=xX (p:=p)
 have h2:=mr p
 have h3:=fp p
 unfold jV dF.vec
 rw[zB p hj,Cd hj]
 by_cases hf:p.lp.free j=true
 ·rw[if_pos hf,if_pos hf,key j (by omega),xW hj]
  have h4:=vT hj hf
  rw[key _ (by omega),zT hj hf];rfl
 ·rw[if_neg hf,if_neg hf,key j (by omega),xW hj]
  show _=_-0
  grind
def vV(p:Prg)(c:List Rat)(st:Int)(v:Rat):Prop:=(st=1∧p.lp.vv (fn c) v∧∃T,I2 p c T∧v = -(T.c p.w))∨(st=2∧p.lp.wX∧v=0)∨(st=3∧p.lp.zd (fn c)∧v=0)
theorem oC.opt(bx:p.Ok)(fo:c.length=p.free.length)(h:oC p c T)(hn:∀j,j<p.u→0≤T.c j){M:Nat→Nat→Rat}{B:Nat→Nat}(hr:ib M B T p.lp.m (p.w+1)):
  vV p c 1 (bN p.free.length (fn c) (fn (aL (jV p (iR M B p.w p.lp.m)) p.free.length))):=by
 obtain⟨S,hI,hT⟩:=h
 have hw:=fp p
 have hS:∀y,y<p.u→0≤S.c y:=fun y hy=>by
  obtain⟨x,hx,rfl⟩:=Ni hy
  rw[←hT.ec x (by omega)];exact hn x hx
 obtain⟨h1,h2⟩:=YW bx fo hI hS
 have e:aL (jV p (iR M B p.w p.lp.m)) p.free.length=aL (dF.vec p.lay.pF p.lay.mF S.pt) p.lp.n:=lI fun j hj=>ajL hI hT hr hj
 rw[e]
 exact .inl ⟨rfl,h1.cert.Lm bx.valid,S,hI,h2.symm⟩
theorem oC.unb(bx:p.Ok)(fo:c.length=p.free.length)(h:oC p c T){s:Nat}(hs:s<p.u)(gj:T.c s<0)(hA:∀i,i<T.m→T.A i s≤0):vV p c 3 0:=by
 obtain⟨S,hI,hT⟩:=h
 have hw:=fp p
 have h1:=YX bx fo hI (zU hs) (by rw[←hT.ec s (by omega)];exact gj) fun i hi=>by
  rw[←hT.eA i hi s (by omega)];exact hA i (by rw[hT.em];exact hi)
 exact .inr (.inr ⟨rfl,h1.cert.PO,rfl⟩)
end
end Go.aw
namespace Go.aw
open Go.Proofs Num Lp
theorem aaK{H:Heap}{a b:List Nat}(h:∀q,q∈a↔q∈b):rem H a=rem H b:=by
 funext q
 unfold rem
 simp only[h]
theorem ajM{α:Type}{P:Heap→List Value→α→Prop}{e sz:Nat}{H:Heap}{gs:List Nat}{g c:Nat}{zs:List Value}{z k:Int}(hg:H g=none)(hz:z.toNat=0)(hk:k.toNat=c)(hc:c≤maxLen)(hl:∀q,q∈gs→H q≠none):gF gs H P e sz (ins H g ⟨cD zs (z.toNat*sz),k.toNat*sz,e,true⟩) (.slice (some ⟨g,0,none⟩) z.toNat k.toNat) [] []:=by
 have h1:=I3 (P:=P) (e:=e) (sz:=sz) (zs:=zs) hg hz hk hc
 have hn:¬g∈gs:=fun hm=>hl g hm hg
 refine⟨h1.own,vo,?_,fun q hq=>bg _ _ fun(e':q=g)=>hn (by rw[←e'];exact hq),hl,fun q hq hb=> ?_⟩
 ·intro q en hq
  by_cases hm:q∈gs
  ·rw[rem_in hm]at hq;cases hq
  ·rw[bM hm]at hq
   have a7:q≠g:=fun e'=>by rw[e',hg]at hq;cases hq
   refine⟨en,?_,.refl _⟩
   rw[bM,bg _ _ a7]
   ·exact hq
   ·intro h2
    rcases List.mem_append.1 h2 with h2 | h2
    ·exact hm h2
    ·exact a7 (List.mem_singleton.1 h2)
 ·have hb:q∈[g]:=hb
  exact hn (by rw[←List.mem_singleton.1 hb];exact hq)
section
variable {C:CK} {o:Bool} {H H' H0:Heap} {g:Nat} {G:GG} {R W m:Nat} {M:Nat→Nat→Rat} {B:Nat→Nat} {f:Nat→Rat}
theorem gF.cZ{α:Type}{P:Heap→List Value→α→Prop}{e sz n c z:Nat}{l:List α}{xs:List Value}(h:cA C H0 G R W m M B)(hG:gF G.gs H0 P e sz H (.slice (some ⟨z,0,none⟩) n c) l xs):cA C H (G.on (z::G.top)) R W m M B∧Heap.le (rem H0 G.gs) (rem H (G.on (z::G.top)).gs)∧rem H (G.on (z::G.top)).gs=rem H (G.gs++aB (.slice (some ⟨z,0,none⟩) n c)):=by
 have e1:rem H (G.on (z::G.top)).gs=rem H (G.gs++aB (.slice (some ⟨z,0,none⟩) n c)):=aaK fun q=>by
  show q∈z::G.gs↔q∈G.gs ++ [z]
  simp[or_comm]
 have hz:z∈aB (.slice (some ⟨z,0,none⟩) n c):=List.mem_singleton.2 rfl
 have hm:¬z∈G.gs:=fun hm=>hG.apart z hm hz
 refine⟨h.Cw (t:=z::G.top) (List.nodup_cons.2 ⟨hm,h.nd⟩) (fun q hq=> ?_) (fun q hq=>hG.same q (GG.kQ hq)) (by rw[e1];exact hG.base),by rw[e1];exact hG.base,e1⟩
 rcases List.mem_cons.1 hq with rfl | hq
 ·exact hG.nS q (List.mem_append_right _ hz)
 ·rw[hG.same q (GG.Cu hq)];exact h.top q hq
theorem QV.more{z c lU:Nat}{A':Option Addr}(h:QV o H g (G.on (z::G.top)) R W m M B)(hg:g∈G.top)(a7:z≠g)(hz:pK vQ (rem H (G.on (z::G.top)).gs) H z (aL f W))(ha:App H (.slice G.Ar R G.cr) 161 1 (R+1) (jc (G.rg ++ [(z,c)]) W) (.slice A' (R+1) lU) H'):
  QV o (ins H' g ⟨[.slice A' (R+1) lU,G.bv,.bool o],3,160,true⟩) g (G.more G.top z c A' lU R) (R+1) W m (fun i=>if i=R then f else M i) B∧Heap.le (rem H (G.on (z::G.top)).gs) (rem (ins H' g ⟨[.slice A' (R+1) lU,G.bv,.bool o],3,160,true⟩) (G.more G.top z c A' lU R).gs)∧H' g=some ⟨[.slice G.Ar R G.cr,G.bv,.bool o],3,160,true⟩:=by
 obtain⟨h1,h2⟩:=h.cZ.more hz ha
 have hm:g∈(G.more G.top z c A' lU R).top:=hg
 have BY:g∈(G.more G.top z c A' lU R).gs:=GG.Cu hm
 have hT:fT (G.more G.top z c A' lU R).gs g H' (ins H' g ⟨[.slice A' (R+1) lU,G.bv,.bool o],3,160,true⟩):=((Kept.refl _ _).iO g).ins BY _
 refine⟨⟨h1.Cx hm hT (by rw[bF];simp),hm,bF _ _ _⟩,h2.trans hT.le,?_⟩
 refine ha.same g _ h.st fun e=> ?_
 have hb:g∈(G.on (z::G.top)).hb:=by rw[h.cZ.my];exact cM.2 e
 exact GG.uo h.cZ.nd (q:=g) (r:=g) (List.mem_cons_of_mem _ hg) (GG.Cv hb) rfl
theorem QV.less(h:QV o H g G (R+1) W m M B):∃H',Heap.le H' (ins H g ⟨[.slice G.Ar R G.cr,G.bv,.bool o],3,160,true⟩)∧QV o H' g (G.less R) R W m M B∧Heap.le (rem H G.gs) (rem H' (G.less R).gs)∧R≤G.cr:=by
 have hT:fT G.gs g H (ins H g ⟨[.slice G.Ar R G.cr,G.bv,.bool o],3,160,true⟩):=((Kept.refl _ _).iO g).ins h.mem _
 have h1:=h.cZ.Cx h.gt hT (by rw[bF];simp)
 obtain⟨H',k1,k2,k3,k4,_,k5⟩:=h1.less
 exact⟨H',k1,⟨k2,h.gt,by rw[k4 g h.gt];exact bF _ _ _⟩,hT.le.trans k3,k5⟩
end
structure Jr(H:Heap)(Ar:Option Addr)(Ab:Option Addr)(rg:List (Nat×Nat))(m W:Nat)(M:Nat→Nat→Rat)(B:Nat→Nat):Prop where
 len:rg.length=m
 lj:Rd H Ar (jc rg W)
 row:∀(i:Nat)(p:Nat×Nat),rg[i]? = some p→∃xs,Rd H (some ⟨p.1,0,none⟩) xs∧bE (bX H) 3 xs (aL (M i) W)
 sZ:Rd H Ab (eL B m)
theorem Jr.le{H H':Heap}{Ar Ab:Option Addr}{rg:List (Nat×Nat)}{m W:Nat}{M:Nat→Nat→Rat}{B:Nat→Nat}(h:Jr H Ar Ab rg m W M B)(hl:Heap.le H H'):Jr H' Ar Ab rg m W M B:=
 ⟨h.len,h.lj.le hl,fun i p hp=>by
  obtain⟨xs,h1,h2⟩:=h.row i p hp
  exact⟨xs,h1.le hl,h2.mono fun vs a=>dL _ _ vs a hl⟩,h.sZ.le hl⟩
theorem ajN{H H':Heap}(gs:List Nat)(hl:Heap.le H H')(a7:∀q,q∈gs→H q≠none):∃s5,Heap.le s5 H'∧Kept gs H s5:=by
 refine⟨fun q=>if q∈gs then H q else H' q,fun q en hq=> ?_,fun q en hq=> ?_,fun q hq=>by simp[hq]⟩
 ·by_cases hm:q∈gs
  ·simp only[hm,if_true]at hq;exact hl q en hq
  ·simp only[hm,if_false]at hq;exact⟨en,hq,.refl _⟩
 ·by_cases hm:q∈gs
  ·rw[rem_in hm]at hq;cases hq
  ·rw[bM hm]at hq
   rw[bM hm]
   simp only[hm,if_false];exact hl q en hq
end Go.aw
namespace Go.aw
open Go.Proofs Num Lp
structure KQ(gs:List Nat)(H:Heap)(q:Rat)(v:Value)(H':Heap):Prop where
 kept:Kept gs H H'
 le:Heap.le H H'
 val:∃t:RC,v=t.v∧bK (rem H' gs) t.v q
theorem Fn.kq{P:Program}{f:FuncId}{args:Array Value}{H:Heap}{gs:List Nat}{q:Rat}(jT:∀g,g∈gs→H g≠none)(h:Fn P f args (rem H gs) (kt (rem H gs) q)):Fn P f args H (KQ gs H q):=
 (Fn.frame jT h.rc).mono fun v H' hf=>⟨.of hf fun v K hp=>hp.1,hf.le fun v K hp=>hp.1,hf.post.2⟩
theorem mB{K:Heap}{xs:List Value}{f:Nat→Rat}{W k:Nat}(h:bE (bX K) 3 xs (aL f W))(hk:k<W):∃t:RC,bK K t.v (f k)∧∀(j:Nat)(v:Value),[.bool t.f,.slice t.A1 t.m1 t.c1,.slice t.A2 t.m2 t.c2][j]? = some v→xs[k*3+j]? = some v:=by
 obtain⟨vs,_,h2,h3⟩:=h.get (dM hk)
 obtain⟨t,e⟩:=bK.rc (show bK K (.agg vs.toArray) (f k)from h2)
 have e2:=zf e
 subst e2
 exact⟨t,h2,h3⟩
theorem aaL{K:Heap}{xs vs:List Value}{f:Nat→Rat}{n k:Nat}{q:Rat}(h:bE (bX K) 3 xs (aL f n))(hk:k<n)(hv:bX K vs q):bE (bX K) 3 (aM xs (k*3) vs) (aL (bY f k q) n):=by
 rw[←Qk]
 exact h.set (by rw[bh];exact hk) hv (iQ.len _ _ _ hv)
section
variable {K H H':Heap} {G:GG} {R W m:Nat} {M M':Nat→Nat→Rat} {B:Nat→Nat} {u u':Value} {l:List Nat} {f:Nat→Rat}
theorem cA.hd{C:CK}(h:cA C H G R W m M B):Rd H G.Ar (jc G.rg W):=h.rows.rd
theorem cA.sZ{C:CK}(h:cA C H G R W m M B):∃Ab cb,G.bv = .slice Ab m cb∧∀{H' t R' M' B'},cA C H' (G.on t) R' W m M' B'→∀i,i<m→Rd H' Ab (eL B' m):=by
 rcases h.basis with ⟨h1,h2,h3⟩ | ⟨gb,cb,sz,h1,h2,h3⟩
 ·exact⟨none,0,by rw[h3,h1],fun _ i hi=>by omega⟩
 ·refine⟨_,cb,h2,fun h' i hi=> ?_⟩
  rcases h'.basis with ⟨k1,k2,k3⟩ | ⟨CE,M6,eV,k1,k2,k3⟩
  ·omega
  ·have k1:G.bb = [CE]:=k1
   rw[h1]at k1;cases k1;exact dW k3
theorem cA.rB(h:cA iQ H G R W m M B){i:Nat}{p:Nat×Nat}(hp:G.rg[i]? = some p):∃xs sz,H p.1=some ⟨xs,sz,31,true⟩∧bE (bX (rem H G.gs)) 3 xs (aL (M i) W):=h.row i p hp
theorem cA.ajO(h:cA iQ H G R W m M B){i:Nat}{p:Nat×Nat}(hp:G.rg[i]? = some p)(iT:Kept G.gs H H'){xs:List Value}{sz:Nat}(hx:H p.1=some ⟨xs,sz,31,true⟩)(iI:bE (bX (rem H G.gs)) 3 xs (aL (M i) W)){k:Nat}(hk:k<W){vs:List Value}{q:Rat}(hv:bX (rem H' G.gs) vs q):
  cA iQ (ins H' p.1 ⟨aM xs (k*3) vs,sz,31,true⟩) G R W m (iK M i (bY (M i) k q)) B∧Heap.le (rem H G.gs) (rem (ins H' p.1 ⟨aM xs (k*3) vs,sz,31,true⟩) G.gs):=by
 have hm:=GG.kQ (GG.gP hp)
 have h1:=h.kept iT
 have hT:fT G.gs p.1 H' (ins H' p.1 ⟨aM xs (k*3) vs,sz,31,true⟩):=((Kept.refl _ _).iO p.1).ins hm _
 refine⟨h1.setRow hp hT ⟨_,_,bF _ _ _,?_⟩,iT.le.trans hT.le⟩
 rw[cK _ hm]
 exact aaL (iI.mono fun vs a=>dL _ _ vs a iT.le) hk hv
theorem cA.fresh{C:CK}(h:cA C H G R W m M B){k:Nat}{e:Ent}(hk:H k=none):cA C (ins H k e) G R W m M B∧Heap.le (rem H G.gs) (rem (ins H k e) G.gs):=by
 have hm:¬k∈G.gs:=fun hm=>h.ne k hm hk
 have hl:Heap.le (rem H G.gs) (rem (ins H k e) G.gs):=by
  rw[rY _ hm]
  exact Heap.bC _ (by rw[bM hm];exact hk)
 exact⟨h.kept ⟨hl,fun q hq=>bg _ _ fun(e':q=k)=>hm (by rw[←e'];exact hq)⟩,hl⟩
theorem cA.CP{C:CK}(h:cA C H G R W m M B)(hM:∀i,i<R→∀j,j<W→M' i j=M i j):cA C H G R W m M' B:=h.congr hM fun _ _=>rfl
structure GU(K H:Heap)(G:GG)(R W m:Nat)(M:Nat→Nat→Rat)(B:Nat→Nat)(u:Value)(l:List Nat):Prop where
 q:cA iQ H (G.on (aB u++G.top)) R W m M B
 own:cg H u 3 1 l.length (vR l)
 le:Heap.le K (rem H (G.on (aB u++G.top)).gs)
theorem GU.step(h:GU K H G R W m M B u l)(hq:cA iQ H' (G.on (aB u++G.top)) R W m M' B)(hl:Heap.le (rem H (G.on (aB u++G.top)).gs) (rem H' (G.on (aB u++G.top)).gs))(hs:∀q,q∈aB u→H' q=H q):GU K H' G R W m M' B u l:=
 ⟨hq,h.own.same fun q pY=>hs q (cM.2 pY),h.le.trans hl⟩
theorem GU.kept(h:GU K H G R W m M B u l)(k:Kept (G.on (aB u++G.top)).gs H H'):GU K H' G R W m M B u l:=h.step (h.q.kept k) k.le fun q hq=>k.same q (QU.xQ hq)
theorem GU.set(h:GU K H G R W m M B u l){i:Nat}{p:Nat×Nat}(hp:G.rg[i]? = some p)(iT:Kept (G.on (aB u++G.top)).gs H H'){xs:List Value}{sz:Nat}(hx:H p.1=some ⟨xs,sz,31,true⟩)(iI:bE (bX (rem H (G.on (aB u++G.top)).gs)) 3 xs (aL (M i) W)){k:Nat}(hk:k<W){vs:List Value}{q:Rat}(hv:bX (rem H' (G.on (aB u++G.top)).gs) vs q):
  GU K (ins H' p.1 ⟨aM xs (k*3) vs,sz,31,true⟩) G R W m (iK M i (bY (M i) k q)) B u l:=by
 obtain⟨h1,h2⟩:=h.q.ajO (G:=G.on (aB u++G.top)) hp iT hx iI hk hv
 refine h.step h1 h2 fun r hr=> ?_
 rw[bg _ _ (fun e=>GG.uo h.q.nd (q:=r) (r:=p.1) (List.mem_append_left _ hr) (GG.gP (G:=G.on (aB u++G.top)) hp) e)]
 exact iT.same r (QU.xQ hr)
theorem GU.app(h:GU K H G R W m M B u l){k n:Nat}(hn:n=l.length+1)(ha:App H u 3 1 n (vR l ++ [.int .i64 (k:Int)]) u' H'):GU K H' G R W m M B u' (l ++ [k]):=by
 obtain⟨h1,h2⟩:=h.q.app ha
 refine⟨h1,?_,h.le.trans h2⟩
 have:=ha.own
 rw[hn]at this
 rw[List.length_append,vR,List.map_append];exact this
theorem GU.fresh(h:GU K H G R W m M B u l){k:Nat}{e:Ent}(hk:H k=none):GU K (ins H k e) G R W m M B u l:=by
 obtain⟨h1,h2⟩:=h.q.fresh (e:=e) hk
 exact h.step h1 h2 fun q hq=>bg _ _ fun(e':q=k)=>h.q.ne q (QU.xQ hq) (by rw[e'];exact hk)
theorem GU.pJ(h:GU K H G R W m M B u l):GU (rem H (G.on (aB u++G.top)).gs) H G R W m M B u l:=⟨h.q,h.own,.refl _⟩
theorem GU.down{K':Heap}(h:GU K H G R W m M B u l)(hl:Heap.le K' K):GU K' H G R W m M B u l:=⟨h.q,h.own,hl.trans h.le⟩
theorem GU.drop(h:GU K H G R W m M B u l):cA iQ H G R W m M B∧Heap.le K (rem H G.gs):=by
 have hl:Heap.le (rem H (G.on (aB u++G.top)).gs) (rem H G.gs):=E3 fun q hq=>by
  rw[GG.xO,List.append_assoc];exact List.mem_append_right _ hq
 have dX:=h.q.nd
 rw[GG.xO,List.append_assoc]at dX
 exact⟨h.q.Cw (t:=G.top) (List.nodup_append.1 dX).2.1 (fun q hq=>h.q.top q (List.mem_append_right _ hq)) (fun _ _=>rfl) hl,h.le.trans hl⟩
theorem GU.rd{A:Option Addr}{n c:Nat}(h:GU K H G R W m M B (.slice A n c) l):Rd H A (vR l):=by
 have h1:=h.own
 obtain⟨A',c',e⟩:=h1.form
 cases e
 exact h1.rd
end
end Go.aw
namespace Go.aw
open Go.Proofs Num Lp
theorem aaM{H:Heap}{G:GG}{R W m N:Nat}{M:Nat→Nat→Rat}{B:Nat→Nat}{r c:Nat}(h:cA iQ H G R W m M B)(hr:r<m)(eJ:r<R)(hc:c<W)(hp:M r c≠0)(hz:∀i,i<R→∀j,j<W→aP (M i j)≤N)(Qb:∀i,i<R→∀j,j<W→aP (mz M r c i j)≤N)(hN:(N:Int)≤200000000000)(hR:(R:Int)≤1000000)(hW:(W:Int)≤1000000):
 Fn Tryz.prog 68 #[.agg #[.slice G.Ar R G.cr,G.bv],.int .i64 (r:Int),.int .i64 (c:Int)] H (fun _ H'=>∃M',cA iQ H' G R W m M' (fun i=>if i=r then c else B i)∧(∀i,i<R→∀j,j<W→M' i j=mz M r c i j)∧Heap.le (rem H G.gs) (rem H' G.gs)):=by
 obtain⟨pr,cW⟩:=h.get eJ
 obtain⟨Ab,cb,dr,fY⟩:=h.sZ
 rw[dr]
 obtain⟨xr0,sr0,tu,Ja⟩:=h.rB cW
 obtain⟨t0,KS,mO⟩:=mB Ja hc
 have js:=hz r eJ c hc
 have aaN:∀j,j<W→aP (M r j/M r c)≤N:=fun j hj=>by
  have:=Qb r eJ j hj
  unfold mz at this;rwa [if_pos rfl]at this
 have hinv:aP (1/M r c)≤N:=by
  have e:(1:Rat)/M r c=(M r c)⁻¹:=by rw[Rat.div_def];grind
  rw[e];exact Nat.le_trans (Xh _) js
 refine aZ (args:=[_,_,_]) Tryz.func68 rfl rfl Tryz.ntmps68 rfl rfl fun w0=> ?_;refine aj [0,1,2] rfl ?_;refine ag (bW rfl rfl (ae [1,2,3] ?_));refine bP .bJ [1,2,3,4,5,6,7,8,0,9,10,11,12,13,14,15] follows (ia [0,0,2,0,14,30,0,126,254,511,1023,2047,2047,0,12287,32767] (by kernel_rfl)) ?_;refine ab 3 rfl (aS ah rfl rfl rfl rfl rfl (h.hd) (by rw[Int.toNat_natCast];exact kE (rg:=G.rg) (W:=_) cW) (by omega) (by omega) fun _=> ?_);refine ab 1 rfl (ck (vs:=[.bool t0.f,.slice t0.A1 t0.m1 t0.c1,.slice t0.A2 t0.m2 t0.c2]) ah rfl rfl rfl rfl (dW tu) rfl (by decide) (by rw[Int.toNat_natCast];exact mO) (by omega) (by omega) fun _=> ?_);refine a8 rfl rfl (Fn.kq h.ne (qZ (n:=1) (by decide) (by decide))) (fun _ _ h=>by first | exact h.le | exact h.1) ?_;rintro v5 H5 Js;obtain⟨t5,rfl,eW⟩:=Js.val;rw[show ((1:Int):Rat)=1 from rfl]at eW
 have lE:aP (1:Rat)≤2:=by decide
 have h5:=h.kept Js.kept;have anv:=(Js.kept.same _ (GG.kQ (GG.gP cW))).trans tu;refine a8 rfl rfl (Fn.frame h5.ne (QL (N:=N+4) ((bK.raw eW).mono (by omega)) ((bK.raw (KS.le Js.kept.le)).mono (by omega)) (by omega))) (fun _ _ h=>h.le fun _ _ h=>h.1) ?_;rintro _ H6 gw;have hK6:Kept G.gs H5 H6:= .of gw fun v K hp=>hp.1;obtain⟨_,w6,rfl,iu⟩:=gw.post;obtain⟨t6,rfl⟩:=iu.rc;have h6:=h5.kept hK6;have sj:=Js.kept.le.trans hK6.le;have SH:GU (rem H6 G.gs) H6 G R W m (iK M r (M r)) B (.slice none 0 0) (eK (M r) 0):=⟨by rw[MV];exact h6,lB _ _ _,.refl _⟩;refine ab 3 rfl (bn bZ rfl ?_);obtain⟨ti,ak,al⟩:=a6;refine aI (.inl ⟨rfl,rfl⟩) rfl rfl rfl ak al rfl rfl rfl (ab 1 rfl (ae [1,2,3,6] ?_));refine ag (ab 1 rfl (ae [1,2,3,6,8] ?_));refine aq (ag (ab 3 rfl (aS ah rfl rfl rfl rfl rfl (h6.hd) (by rw[Int.toNat_natCast];exact kE (rg:=G.rg) (W:=_) cW) (by omega) (by omega) fun _=> ?_)));refine ab 2 rfl (ae [1,2,3,6,8,32,33] ?_);refine aG (fG (fun(k:Nat)(u:Value)(f:Nat→Rat)=>W-k) (fun(k:Nat)(u:Value)(f:Nat→Rat)=>put (put (put (put (put (put (put (emp) 1 (.val (.int .i64 (r:Int)))) 2 (.val (.int .i64 (c:Int)))) 3 (.box [.slice G.Ar R G.cr,.slice Ab m cb])) 6 (.box [.bool t6.f,.slice t6.A1 t6.m1 t6.c1,.slice t6.A2 t6.m2 t6.c2])) 8 (.val (u))) 32 (.val (.int .i64 (W:Int)))) 33 (.val (.int .i64 (k:Int)))) (fun(k:Nat)(u:Value)(f:Nat→Rat) H'=>GU (rem H6 G.gs) H' G R W m (iK M r f) B u (eK (M r) k)∧Pv1 false false M r c W k f∧k≤W) 0 (.slice none 0 0) (M r) (⟨SH,⟨fun _ _=>rfl,fun h9=>⟨h9,fun j hj=>absurd hj (Nat.not_lt_zero _)⟩⟩,Nat.zero_le _⟩) au ?_)
 rintro k u f H7 ⟨hU,hP,hk⟩;obtain⟨A7,c7,rfl⟩:=hU.own.form;obtain⟨SI,sr7,CC,xR⟩:=hU.q.rB (G:=G.on _) cW;rw[pM]at xR;have SJ:=xR.len;rw[bh]at SJ;have zm:=aae (M r) k;refine ag (ab 1 rfl (ae [1,2,3,6,8,32,33,34] ?_));refine aq (aD rfl (fun hb=> ?_) (fun hb=> ?_))
 ·
  have fq:k<W:=by simpa using hb
  obtain⟨t7,sP,sQ⟩:=mB xR fq;have e7:=hP.1 k (Nat.le_refl _);have Tm:=hz r eJ k fq;have anw:=aaN k fq;refine aA (aj [1,2,3,6,8,32,33] rfl ?_);refine aq (aG (ag (ab 2 rfl (ae [1,2,3,6,8,9,32,33] ?_))));refine ag (ab 3 rfl (aS ah rfl rfl rfl rfl rfl (hU.q.hd) (by rw[Int.toNat_natCast];exact kE (rg:=G.rg) (W:=_) cW) (by omega) (by omega) fun _=> ?_));refine ab 1 rfl (ck (vs:=[.bool t7.f,.slice t7.A1 t7.m1 t7.c1,.slice t7.A2 t7.m2 t7.c2]) ah rfl rfl rfl rfl (dW CC) rfl (by decide) (by rw[Int.toNat_natCast];exact sQ) (by omega) (by omega) fun _=> ?_);refine aF rfl rfl (Fn.mg hU.q.ne (xE (bK.raw sP) (by rw[e7];omega))) ?_;rintro v8 H8 ⟨rj,zq,rfl⟩;have xS:=hU.kept rj;have Jb:=(rj.same _ (GG.kQ (GG.gP (G:=G.on _) cW))).trans CC;refine ab 1 rfl (ae [1,2,3,6,8,9,32,33,45] ?_);refine aD rfl (fun hb=> ?_) (fun hb=> ?_)
  ·
   have a7:M r k≠0:=fun h9=>by rw[e7,h9]at hb;simp[ik]at hb
   refine bP .gH [0,1,2,3,4,5,6,7,8,9,10,11,12,13,14,15,16,17] follows (ia [0,1,0,7,15,0,0,64,0,448,960,0,4032,8128,0,32704,65535,131071] (by kernel_rfl)) ?_;refine ab 3 rfl (aS ah rfl rfl rfl rfl rfl (xS.q.hd) (by rw[Int.toNat_natCast];exact kE (rg:=G.rg) (W:=_) cW) (by omega) (by omega) fun _=> ?_);refine ab 4 rfl (aS ah rfl rfl rfl rfl rfl (xS.q.hd) (by rw[Int.toNat_natCast];exact kE (rg:=G.rg) (W:=_) cW) (by omega) (by omega) fun _=> ?_);refine ab 1 rfl (ck (vs:=[.bool t7.f,.slice t7.A1 t7.m1 t7.c1,.slice t7.A2 t7.m2 t7.c2]) ah rfl rfl rfl rfl (dW Jb) rfl (by decide) (by rw[Int.toNat_natCast];exact sQ) (by omega) (by omega) fun _=> ?_);refine ab 1 rfl (a8 rfl rfl (Fn.kq xS.q.ne (L1 (N:=N) ((bK.raw (sP.le rj.le)).mono (by rw[e7];omega)) ((bK.raw (iu.le xS.le)).mono hinv) (by omega))) (fun _ _ h=>by first | exact h.le | exact h.1) ?_);rintro v9 H9 Tn;obtain⟨t9,rfl,fK⟩:=Tn.val;have ajP:=(Tn.kept.same _ (GG.kQ (GG.gP (G:=G.on _) cW))).trans Jb;have ru:=xS.set cW Tn.kept Jb (by rw[pM];exact xR.mono fun vs a=>dL _ _ vs a rj.le) fq (show bX _ [_,_,_] _ from fK);rw[pM,MU]at ru;obtain⟨ti,ak,al⟩:=a6;refine cV (.inr rfl) ah rfl rfl rfl (by omega) (by omega) (ajP) rfl (by show 0+W*3≤SI.length;omega) ak al (fun _=>rfl) rfl rfl rfl fun _=> ?_
   refine ae [1,2,3,6,8,9,32,33] ?_;rw[Nat.zero_add,Int.toNat_natCast];refine aC rfl (ab 2 rfl (cR Tryz.underlying94 jl rfl rfl rfl rfl rfl rfl rfl ?_));intro gb bo;have ru:=ru.fresh (e:=whole [.int .i64 (k:Int)] 3) bo;refine dK Tryz.underlying94 jl rfl rfl (ru.own) (dE _ _ _ _ _ _) (rfl) (sL _) (by omega) (by omega) ?_;intro u' xC SK;have SL:=ru.app rfl SK;refine ab 1 rfl (az (aj [1,2,3,6,8,32,33] rfl ?_));refine aC rfl (aH rfl rfl ⟨by omega,by omega⟩ (ab 1 rfl (az ?_)))
   exact⟨k+1,u',bY f k (f k*(1/M r c)),by omega,au,by rw[MT,if_neg a7];exact SL,⟨fun j hj=>by rw[pL (by omega)];exact hP.1 j (by omega),fun h9=>by
    obtain⟨g3,g4⟩:=hP.2 h9;refine⟨g3,fun j hj=> ?_⟩
    by_cases ej:j=k
    ·
     subst ej;rw[rp,hP.1 j (Nat.le_refl _),Rat.div_def,Rat.div_def];grind
    ·rw[pL ej];exact g4 j (by omega)⟩,by omega⟩
  ·
   have zY:M r k=0:=by rw[←e7];exact tO (by simpa using hb)
   refine aA (aj [1,2,3,6,8,32,33] rfl ?_);refine aC rfl (aH rfl rfl ⟨by omega,by omega⟩ (ab 1 rfl (az ?_)))
   exact⟨k+1,_,f,by omega,au,by rw[MT,if_pos zY,List.append_nil];exact xS,⟨fun j hj=>hP.1 j (by omega),fun h9=>by
    obtain⟨g3,g4⟩:=hP.2 h9;refine⟨g3,fun j hj=> ?_⟩
    by_cases ej:j=k
    ·
     subst ej;rw[hP.1 j (Nat.le_refl _),zY,Rat.div_def];grind
    ·exact g4 j (by omega)⟩,by omega⟩
 ·
  have hb:W≤k:=by simpa using hb
  obtain rfl:k=W:=by omega
  have SM:zO false false M r c R k 0 (iK M r f):=⟨fun i _ hi=>E4 hi,fun h9=>by
   obtain⟨g3,g4⟩:=hP.2 h9;refine⟨g3,fun i _ j hj hd=> ?_⟩
   obtain rfl:i=r:=by omega
   rw[pM,g4 j hj];unfold mz;rw[if_pos rfl]⟩
  have dX:=aaf (M r) k;refine aW (aj [1,2,3,8] rfl ?_);refine aq (ag (ab 4 rfl (ae [1,2,3,8,70,71] ?_)));refine aG (ij (fun(i:Nat)(M1:Nat→Nat→Rat)=>R-i) (fun(i:Nat)(M1:Nat→Nat→Rat)=>put (put (put (put (put (put (emp) 1 (.val (.int .i64 (r:Int)))) 2 (.val (.int .i64 (c:Int)))) 3 (.box [.slice G.Ar R G.cr,.slice Ab m cb])) 8 (.val (.slice A7 (eK (M r) k).length c7))) 70 (.val (.int .i64 (R:Int)))) 71 (.val (.int .i64 (i:Int)))) (fun(i:Nat)(M1:Nat→Nat→Rat) H'=>GU (rem H6 G.gs) H' G R k m M1 B (.slice A7 (eK (M r) k).length c7) (eK (M r) k)∧zO false false M r c R k i M1∧i≤R) 0 (iK M r f) (⟨hU,SM,Nat.zero_le _⟩) au ?_);rintro i M1 kz ⟨hV,hQ,hi⟩;refine ag (ab 1 rfl (ae [1,2,3,8,70,71,72] ?_));refine aq (aD rfl (fun hb=> ?_) (fun hb=> ?_))
  ·
   have ux:i<R:=by simpa using hb
   obtain⟨pi,cU⟩:=h.get ux;obtain⟨ajd,aje,Jc,SN⟩:=hV.q.rB (G:=G.on _) cU;obtain⟨t11,sR,ET⟩:=mB SN hc;refine aA (aj [1,2,3,8,70,71] rfl ?_);refine aq (aG (ag (ab 2 rfl (ae [1,2,3,8,10,70,71] ?_))));refine aq ?_
   by_cases h1:i=r
   ·
    skip
    refine ag (ab 2 rfl (aJ true rfl rfl (jR (by omega)) (ab 12 rfl (ae [1,2,3,8,10,70,71,88] ?_))));refine dJ rfl (aW (aj [1,2,3,8,70,71] rfl ?_));refine aC rfl (aH rfl rfl ⟨by omega,by omega⟩ (ab 1 rfl (az ?_)));exact⟨i+1,M1,by omega,au,hV,MW hQ hc ux (.inl h1),by omega⟩
   have Jt:M1 i=M i:=hQ.1 i (Nat.le_refl _) h1;have ZH:=hz i ux c hc;refine ag (ab 2 rfl (aJ false rfl rfl (lD (by omega)) (ab 4 rfl (aS ah rfl rfl rfl rfl rfl (hV.q.hd) (by rw[Int.toNat_natCast];exact kE (rg:=G.rg) (W:=_) cU) (by omega) (by omega) fun _=> ?_))));refine ab 1 rfl (ck (vs:=[.bool t11.f,.slice t11.A1 t11.m1 t11.c1,.slice t11.A2 t11.m2 t11.c2]) ah rfl rfl rfl rfl (dW Jc) rfl (by decide) (by rw[Int.toNat_natCast];exact ET) (by omega) (by omega) fun _=> ?_);refine aF rfl rfl (Fn.mg hV.q.ne (xE (bK.raw sR) (by rw[Jt];omega))) ?_;rintro v12 dN ⟨zz,nI,rfl⟩;have E5:=hV.kept zz;have ajQ:=(zz.same _ (GG.kQ (GG.gP (G:=G.on _) cU))).trans Jc;have ajR:=sR.le zz.le;refine ab 2 rfl (ae [1,2,3,8,10,70,71,88] ?_);refine aD rfl (fun hb=> ?_) (fun hb=> ?_)
   ·
    skip
    refine aW (aj [1,2,3,8,70,71] rfl ?_);refine aC rfl (aH rfl rfl ⟨by omega,by omega⟩ (ab 1 rfl (az ?_)));exact⟨i+1,M1,by omega,au,E5,MW hQ hc ux (.inr (tO (by simpa using hb))),by omega⟩
   skip
   refine aA (aj [1,2,3,8,10,70,71] rfl ?_);refine ag (ab 3 rfl (aS ah rfl rfl rfl rfl rfl (E5.q.hd) (by rw[Int.toNat_natCast];exact kE (rg:=G.rg) (W:=_) cU) (by omega) (by omega) fun _=> ?_));refine ab 1 rfl (ck (vs:=[.bool t11.f,.slice t11.A1 t11.m1 t11.c1,.slice t11.A2 t11.m2 t11.c2]) ah rfl rfl rfl rfl (dW ajQ) rfl (by decide) (by rw[Int.toNat_natCast];exact ET) (by omega) (by omega) fun _=> ?_);refine bn bZ rfl ?_;obtain⟨ti,ak,al⟩:=a6;refine aI (.inl ⟨rfl,rfl⟩) rfl rfl rfl ak al rfl rfl rfl (ae [1,2,3,8,10,11,70,71] ?_);have Jd:=E5.pJ;rw[←MV M1 i]at Jd;refine ag (ab 3 rfl (ae [1,2,3,8,10,11,70,71,97,98,99] ?_));refine aG (ij (fun(t:Nat)(f2:Nat→Rat)=>(eK (M r) k).length-t) (fun(t:Nat)(f2:Nat→Rat)=>put (put (put (put (put (put (put (put (put (put (put (emp) 1 (.val (.int .i64 (r:Int)))) 2 (.val (.int .i64 (c:Int)))) 3 (.box [.slice G.Ar R G.cr,.slice Ab m cb])) 8 (.val (.slice A7 (eK (M r) k).length c7))) 10 (.val (.int .i64 (i:Int)))) 11 (.box [.bool t11.f,.slice t11.A1 t11.m1 t11.c1,.slice t11.A2 t11.m2 t11.c2])) 70 (.val (.int .i64 (R:Int)))) 71 (.val (.int .i64 (i:Int)))) 97 (.val (.slice A7 (eK (M r) k).length c7))) 98 (.val (.int .i64 ((eK (M r) k).length:Int)))) 99 (.val (.int .i64 (t:Int)))) (fun(t:Nat)(f2:Nat→Rat) H'=>GU (rem dN (G.on (aB (.slice A7 (eK (M r) k).length c7)++G.top)).gs) H' G R k m (iK M1 i f2) B (.slice A7 (eK (M r) k).length c7) (eK (M r) k)∧I9 false false (M1 i) (M1 r) (M1 i c) (eK (M r) k) t f2∧t≤(eK (M r) k).length) 0 (M1 i) (⟨Jd,fun h9=>⟨h9,fun j=>by simp⟩,Nat.zero_le _⟩) au ?_)
   rintro t f2 mo ⟨hX,E6,ht⟩;obtain⟨MX,aap,zP,uy⟩:=hX.q.rB (G:=G.on _) cU;obtain⟨ajh,aji,SO,Jf⟩:=hX.q.rB (G:=G.on _) cW;rw[pM]at uy;rw[E4 (fun e=>h1 e.symm)]at Jf;have SP:=uy.len;rw[bh]at SP;refine ag (ab 1 rfl (ae [1,2,3,8,10,11,70,71,97,98,99,100] ?_));refine aq (aD rfl (fun hb=> ?_) (fun hb=> ?_))
   ·
    have gm:t<(eK (M r) k).length:=by simpa using hb
    obtain⟨kk,bV⟩:∃kk,(eK (M r) k)[t]? = some kk:=⟨_,List.getElem?_eq_getElem gm⟩;have fq:kk<k:=(SG.1 (List.mem_of_getElem? bV)).1;obtain⟨t13,ajS,SQ⟩:=mB uy fq;obtain⟨t14,xT,Jg⟩:=mB Jf fq
    have e13:f2 kk=M i kk:=by rw[(E6 rfl).2 kk,if_neg (aag dX bV),Jt]
    have xZ:M1 r kk=M r kk/M r c:=by rw[(hQ.2 rfl).2 r eJ kk fq (.inl rfl)];unfold mz;rw[if_pos rfl]
    have z13:=hz i ux kk fq;have z14:=aaN kk fq;have z15:=vp (M1 i c) (M1 r kk);rw[Jt,xZ]at z15;refine aA (aj [1,2,3,8,10,11,70,71,97,98,99] rfl ?_);refine aq (aG (ag (aS ah rfl rfl rfl rfl rfl (hX.rd) (by rw[Int.toNat_natCast];show (List.map _ _)[t]? = _;rw[List.getElem?_map,bV];rfl) (by omega) (by omega) fun _=> ?_)));refine ab 1 rfl (ae [1,2,3,8,10,11,13,70,71,97,98,99] ?_);refine ep .gH [0,1,2,3,4,5,6,7,8,9,10,11,12,13,14,15,16,17,18,19,20,21,22,23,24,25,26] follows (ia [0,1,0,7,15,0,0,64,0,448,960,0,4032,8128,0,0,32768,0,229376,491520,0,2064384,4161536,8372224,16777152,33554431,67108863] (by kernel_rfl)) ?_;refine ab 3 rfl (aS ah rfl rfl rfl rfl rfl (hX.q.hd) (by rw[Int.toNat_natCast];exact kE (rg:=G.rg) (W:=_) cU) (by omega) (by omega) fun _=> ?_);refine ab 4 rfl (aS ah rfl rfl rfl rfl rfl (hX.q.hd) (by rw[Int.toNat_natCast];exact kE (rg:=G.rg) (W:=_) cU) (by omega) (by omega) fun _=> ?_);refine ab 1 rfl (ck (vs:=[.bool t13.f,.slice t13.A1 t13.m1 t13.c1,.slice t13.A2 t13.m2 t13.c2]) ah rfl rfl rfl rfl (dW zP) rfl (by decide) (by rw[Int.toNat_natCast];exact SQ) (by omega) (by omega) fun _=> ?_);refine ab 4 rfl (aS ah rfl rfl rfl rfl rfl (hX.q.hd) (by rw[Int.toNat_natCast];exact kE (rg:=G.rg) (W:=_) cW) (by omega) (by omega) fun _=> ?_)
    refine ab 1 rfl (ck (vs:=[.bool t14.f,.slice t14.A1 t14.m1 t14.c1,.slice t14.A2 t14.m2 t14.c2]) ah rfl rfl rfl rfl (dW SO) rfl (by decide) (by rw[Int.toNat_natCast];exact Jg) (by omega) (by omega) fun _=> ?_);refine a8 rfl rfl (Fn.kq hX.q.ne (L1 (N:=N) ((bK.raw (ajR.le hX.le)).mono (by rw[Jt];omega)) ((bK.raw xT).mono (by rw[xZ];omega)) (by omega))) (fun _ _ h=>by first | exact h.le | exact h.1) ?_;rintro v14 qu Ju;obtain⟨t15,rfl,Jh⟩:=Ju.val;have aaO:=hX.kept Ju.kept;have Nr:=(Ju.kept.same _ (GG.kQ (GG.gP (G:=G.on _) cU))).trans zP;refine a8 rfl rfl (Fn.kq aaO.q.ne (Et (N:=2*N) ((bK.raw (ajS.le Ju.kept.le)).mono (by rw[e13];omega)) ((bK.raw Jh).mono (by rw[Jt,xZ];omega)) (by omega))) (fun _ _ h=>by first | exact h.le | exact h.1) ?_;rintro SR mX To;obtain⟨t16,rfl,ajT⟩:=To.val;have SU:=(To.kept.same _ (GG.kQ (GG.gP (G:=G.on _) cU))).trans Nr;have Ji:=aaO.set cU To.kept Nr (by rw[pM];exact uy.mono fun vs a=>dL _ _ vs a Ju.kept.le) fq (show bX _ [_,_,_] _ from ajT);rw[pM,MU]at Ji;obtain⟨ti,ak,al⟩:=a6;refine cV (.inr rfl) ah rfl rfl rfl (by omega) (by omega) (SU) rfl (by show 0+k*3≤MX.length;omega) ak al (fun _=>rfl) rfl rfl rfl fun _=> ?_;refine az ?_;rw[Nat.zero_add,Int.toNat_natCast];refine aj [1,2,3,8,10,11,70,71,97,98,99] rfl ?_
    refine aC rfl (aH rfl rfl ⟨by omega,by omega⟩ (ab 1 rfl (az ?_)));exact⟨t+1,bY f2 kk (f2 kk-M1 i c*M1 r kk),by omega,au,Ji,aah E6 dX bV fun h9=>⟨h9,rfl⟩,by omega⟩
   have gm:(eK (M r) k).length≤t:=by simpa using hb
   obtain rfl:t=(eK (M r) k).length:=by omega
   refine aW (aj [1,2,3,8,70,71] rfl ?_);refine aC rfl (aH rfl rfl ⟨by omega,by omega⟩ (ab 1 rfl (az ?_)));exact⟨i+1,iK M1 i f2,by omega,au,hX.down E5.le,aai hQ hc eJ h1 E6,by omega⟩
  have ux:R≤i:=by simpa using hb
  obtain rfl:i=R:=by omega
  obtain⟨hD,E7⟩:=hV.drop
  obtain⟨gb,cb9,sz,lH,Jv,bo⟩:∃gb cb sz,G.bb = [gb]∧G.bv = .slice (some ⟨gb,0,none⟩) m cb∧kz gb=some ⟨eL B m,sz,3,true⟩:=by
   rcases hD.basis with h7 | h7
   ·have:=h7.1;omega
   ·exact h7
  have hm:gb∈G.gs:=GG.kQ (GG.mT (by rw[lH];exact List.mem_singleton.2 rfl));have eAb:Ab=some ⟨gb,0,none⟩:=(Value.slice.inj (dr.symm.trans Jv)).1;subst eAb;refine aW (aj [1,2,3] rfl ?_);refine aC rfl (vr 4 ?_);obtain⟨ti,ak,al⟩:=p3;refine cV (.inl rfl) ah rfl rfl rfl (by omega) (by omega) (bo) rfl (by show 0+m*1≤(eL B m).length;rw[BI];omega) ak al (fun _=>rfl) rfl rfl rfl fun _=> ?_;refine az ?_;refine⟨.inl rfl,_,.nil,?_⟩
  have he:({(⟨eL B m,sz,3,true⟩:Ent)with xs:=aM (eL B m) (0+((r:Int)).toNat*1) [.int .i64 (c:Int)]}:Ent)=⟨eL (fun i=>if i=r then c else B i) m,sz,3,true⟩:=by
   rw[Int.toNat_natCast,Nat.mul_one,Nat.zero_add,←Qa];rfl
  rw[he];refine⟨M1,hD.D9 lH Jv,fun i hi j hj=>(hQ.2 rfl).2 i hi j hj (.inr hi),?_⟩;rw[cK _ hm];exact sj.trans E7
end Go.aw
