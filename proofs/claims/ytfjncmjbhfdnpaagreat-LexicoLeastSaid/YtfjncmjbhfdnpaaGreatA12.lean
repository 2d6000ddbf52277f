/- Part 12 of the proof: QDat3, Qc, Qv, Rtw, QDat4, SDat2, Sp. -/
import Derived.Test.YtfjncmjbhfdnpaaGreatA11
set_option linter.unusedVariables false
namespace Go.au
open Go.Proofs Num Lp
section
variable {C:CK} {H H' K:Heap} {G:GG} {R W m:Nat} {M:Nat→Nat→Rat} {B:Nat→Nat} {t:List Nat} {f:Nat→Rat}
def GG.more(G:GG)(t:List Nat)(z c:Nat)(A:Option Addr)(cr R:Nat):GG:={G with top:=t,hb:=az (.slice A (R+1) cr),Ar:=A,cr:=cr,rg:=G.rg ++ [(z,c)]}
theorem ct.more{z c lJ:Nat}{A':Option Addr}(h:ct C H (G.on (z::t)) R W m M B)(hz:py C (rem H (G.on (z::t)).gs) H z (aK f W))(ha:App H (.slice G.Ar R G.cr) C.he 1 (R+1) (iT (G.rg ++ [(z,c)]) W) (.slice A' (R+1) lJ) H'):
  ct C H' (G.more t z c A' lJ R) (R+1) W m (fun i=>if i=R then f else M i) B∧Heap.le (rem H (G.on (z::t)).gs) (rem H' (G.more t z c A' lJ R).gs):=by
 have aZ:=h.ne
 have dT:=h.nd
 have jM:(G.on (z::t)).gs=z::(t++(G.hb++(G.bb++G.rg.map (·.1)))):=rfl
 have I9:(G.more t z c A' lJ R).gs=t++(az (.slice A' (R+1) lJ)++(G.bb++(G.rg ++ [(z,c)]).map (·.1))):=rfl
 have Nj:G.hb=az (.slice G.Ar R G.cr):=h.mh
 rw[jM]at dT aZ
 obtain⟨n1,n2⟩:=List.nodup_cons.1 dT
 obtain⟨n3,n4,n5⟩:=List.nodup_append.1 n2
 obtain⟨n6,n7,n8⟩:=List.nodup_append.1 n4
 obtain⟨n9,n10,sK⟩:=List.nodup_append.1 n7
 have qD:∀q,q∈z::(t++(G.bb++G.rg.map (·.1)))→H' q=H q:=fun q hq=>by
  have hm:q∈z::(t++(G.hb++(G.bb++G.rg.map (·.1)))):=by
   simp only[List.mem_cons,List.mem_append]at hq⊢;grind
  obtain⟨en,he⟩:=Option.ne_none_iff_exists'.1 (aZ q hm)
  rw[he]
  refine ha.same q en he fun h1=> ?_
  have h2:q∈G.hb:=by rw[Nj];exact cM.2 h1
  rcases List.mem_cons.1 hq with rfl | hq
  ·exact n1 (List.mem_append_right _ (List.mem_append_left _ h2))
  ·rcases List.mem_append.1 hq with hq | hq
   ·exact n5 q hq q (List.mem_append_left _ h2) rfl
   ·exact n8 q h2 q hq rfl
 have L4:∀q,q∈az (.slice A' (R+1) lJ)→¬q∈z::(t++(G.bb++G.rg.map (·.1))):=fun q hq hm=>by
  rcases ha.new q hq with h1 | h1
  ·rw[←Nj]at h1
   rcases List.mem_cons.1 hm with rfl | hm
   ·exact n1 (List.mem_append_right _ (List.mem_append_left _ h1))
   ·rcases List.mem_append.1 hm with hm | hm
    ·exact n5 q hm q (List.mem_append_left _ h1) rfl
    ·exact n8 q h1 q hm rfl
  ·refine aZ q ?_ h1
   simp only[List.mem_cons,List.mem_append]at hm⊢;grind
 have hl:Heap.le (rem H (G.on (z::t)).gs) (rem H' (G.more t z c A' lJ R).gs):=fun q en hq=>by
  by_cases hm:q∈(G.on (z::t)).gs
  ·rw[rem_in hm]at hq;cases hq
  ·rw[bM hm]at hq
   have lq:¬q∈G.hb:=fun k=>hm (by rw[jM];exact List.mem_cons_of_mem _ (List.mem_append_right _ (List.mem_append_left _ k)))
   have h1:=ha.same q en hq fun e=>lq (by rw[Nj];exact cM.2 e)
   refine⟨en,?_,.refl _⟩
   rw[bM,h1]
   intro h2
   rw[I9]at h2
   rcases List.mem_append.1 h2 with h3 | h3
   ·exact hm (by rw[jM];exact List.mem_cons_of_mem _ (List.mem_append_left _ h3))
   ·rcases List.mem_append.1 h3 with h3 | h3
    ·rcases ha.new q h3 with h4 | h4
     ·rw[←Nj]at h4;exact lq h4
     ·rw[h4]at hq;cases hq
    ·refine hm ?_
     rw[jM]
     simp only[List.map_append,List.map_cons,List.map_nil,List.mem_cons,List.mem_append,List.not_mem_nil,or_false]at h3⊢;grind
 have nB:=h.iv
 have nB:G.rg.length=R:=nB
 refine⟨⟨?_,fun q hq=> ?_,?_,rfl,ha.own,fun i p hp=> ?_,?_⟩,hl⟩
 ·rw[I9]
  refine List.nodup_append.2 ⟨n3,List.nodup_append.2 ⟨SI _,List.nodup_append.2 ⟨n9,?_,fun q hq r hr e=> ?_⟩,fun q hq r hr e=> ?_⟩,fun q hq r hr e=> ?_⟩
  ·rw[List.map_append]
   refine List.nodup_append.2 ⟨n10,List.nodup_cons.2 ⟨List.not_mem_nil,List.nodup_nil⟩,fun q hq r hr e=> ?_⟩
   subst e
   rw[List.map_cons,List.map_nil,List.mem_singleton]at hr
   subst hr
   exact n1 (List.mem_append_right _ (List.mem_append_right _ (List.mem_append_right _ hq)))
  ·subst e
   rw[List.map_append]at hr
   rcases List.mem_append.1 hr with hr | hr
   ·exact sK q hq q hr rfl
   ·rw[List.map_cons,List.map_nil,List.mem_singleton]at hr
    subst hr
    exact n1 (List.mem_append_right _ (List.mem_append_right _ (List.mem_append_left _ hq)))
  ·subst e
   refine L4 q hq ?_
   simp only[List.map_append,List.map_cons,List.map_nil,List.mem_cons,List.mem_append,List.not_mem_nil,or_false]at hr⊢;grind
  ·subst e
   rcases List.mem_append.1 hr with hr | hr
   ·exact L4 q hr (List.mem_cons_of_mem _ (List.mem_append_left _ hq))
   ·rw[List.map_append]at hr
    rcases List.mem_append.1 hr with hr | hr
    ·exact n5 q hq q (List.mem_append_right _ (List.mem_append_left _ hr)) rfl
    ·rcases List.mem_append.1 hr with hr | hr
     ·exact n5 q hq q (List.mem_append_right _ (List.mem_append_right _ hr)) rfl
     ·rw[List.map_cons,List.map_nil,List.mem_singleton]at hr
      subst hr
      exact n1 (List.mem_append_left _ hq)
 ·rw[qD q (List.mem_cons_of_mem _ (List.mem_append_left _ hq))]
  exact aZ q (List.mem_cons_of_mem _ (List.mem_append_left _ hq))
 ·show (G.rg ++ [(z,c)]).length=R+1
  rw[List.length_append,nB];rfl
 ·have dX:(G.rg ++ [(z,c)])[i]? = some p:=hp
  by_cases hi:i<R
  ·rw[List.getElem?_append_left (by omega)]at dX
   show py C _ H' p.1 (aK (if i=R then f else M i) W)
   rw[if_neg (by omega)]
   exact(h.row i p dX).le hl (qD _ (List.mem_cons_of_mem _ (List.mem_append_right _ (List.mem_append_right _ (List.mem_map.2 ⟨p,List.mem_of_getElem? dX,rfl⟩)))))
  ·have bI:=(List.getElem?_eq_some_iff.1 dX).1
   rw[List.length_append,nB,List.length_singleton]at bI
   obtain rfl:i=R:=by omega
   rw[List.getElem?_append_right (by omega),nB,Nat.sub_self]at dX
   cases dX
   show py C _ H' z (aK (if i=i then f else M i) W)
   rw[if_pos rfl]
   exact hz.le hl (qD _ (List.mem_cons_self ..))
 ·rcases h.basis with h1 | ⟨gb,cb,sz,h1,h2,h3⟩
  ·exact .inl h1
  ·refine .inr ⟨gb,cb,sz,h1,h2,?_⟩
   rw[qD gb (List.mem_cons_of_mem _ (List.mem_append_right _ (List.mem_append_left _ (by show gb∈G.bb;have:G.bb = [gb]:=h1;rw[this];exact List.mem_singleton.2 rfl))))]
   exact h3
def GG.less(G:GG)(R:Nat):GG:={G with hb:=az (.slice G.Ar R G.cr),rg:=G.rg.take R}
theorem ct.less(h:ct C H G (R+1) W m M B):∃H',Heap.le H' H∧ct C H' (G.less R) R W m M B∧Heap.le (rem H G.gs) (rem H' (G.less R).gs)∧(∀q,q∈G.top→H' q=H q)∧G.cr=G.cr∧R≤G.cr:=by
 have nB:=h.iv
 rcases h.rows.2 with ⟨h1,h2⟩ | ⟨gr,cap,h1,h2,h3,h4⟩
 ·omega
 ·have eA:G.Ar=some ⟨gr,0,none⟩:=(Value.slice.inj h1).1
  have eC:G.cr=cap:=(Value.slice.inj h1).2.2
  have eb:az (.slice G.Ar R G.cr)=G.hb:=by rw[h.mh,eA];rfl
  have eg:G.hb = [gr]:=by rw[h.mh,eA];rfl
  have hm:gr∈G.hb:=by rw[eg];exact List.mem_singleton.2 rfl
  have ht:iT (G.rg.take R) W=(iT G.rg W).take R:=by unfold iT;rw[List.map_take]
  have uX:∀q,q∈(G.less R).low→q∈G.low:=fun q hq=>by
   have hq:q∈az (.slice G.Ar R G.cr)++(G.bb++(G.rg.take R).map (·.1)):=hq
   rw[eb]at hq
   rcases List.mem_append.1 hq with hq | hq
   ·exact GG.Cn hq
   ·rcases List.mem_append.1 hq with hq | hq
    ·exact GG.mK hq
    ·obtain⟨p,hp,rfl⟩:=List.mem_map.1 hq
     exact List.mem_append_right _ (List.mem_append_right _ (List.mem_map.2 ⟨p,List.mem_of_mem_take hp,rfl⟩))
  have jM:∀q,q∈(G.less R).gs→q∈G.gs:=fun q hq=>by
   rcases List.mem_append.1 hq with hq | hq
   ·exact List.mem_append_left _ hq
   ·exact List.mem_append_right _ (uX q hq)
  have hng:gr∈(G.less R).gs:=List.mem_append_right _ (List.mem_append_left _ (by show gr∈az _;rw[eb];exact hm))
  have hl:Heap.le (rem H G.gs) (rem (ins H gr ⟨iT (G.rg.take R) W,cap*1,C.he,true⟩) (G.less R).gs):=by
   rw[cF _ hng];exact EP jM
  have Nk:∀q,q∈G.top∨q∈G.bb∨(∃(i:Nat)(p:Nat×Nat),G.rg[i]? = some p∧p.1=q)→q≠gr:=fun q hq=>by
   rcases hq with hq | hq | ⟨i,p,hp,rfl⟩
   ·exact GG.ub h.nd hq (GG.Cn hm)
   ·exact Ne.symm (GG.MO h.nd hm (.inl hq))
   ·exact Ne.symm (GG.MO h.nd hm (.inr ⟨i,p,hp,rfl⟩))
  refine⟨ins H gr ⟨iT (G.rg.take R) W,cap*1,C.he,true⟩,?_,⟨?_,fun q hq=> ?_,?_,rfl,?_,fun i p hp=> ?_,?_⟩,hl,fun q hq=>a6 _ _ (Nk q (.inl hq)),rfl,by omega⟩
  ·intro q en hq
   by_cases e:q=gr
   ·subst e
    rw[bD]at hq
    cases hq
    exact⟨_,h2,rfl,rfl,rfl,by rw[ht];exact List.take_prefix _ _⟩
   ·rw[a6 _ _ e]at hq
    exact⟨en,hq,.refl _⟩
  ·have dT:=h.nd
   show (G.top++(az (.slice G.Ar R G.cr)++(G.bb++(G.rg.take R).map (·.1)))).Nodup
   rw[eb]
   refine List.Nodup.sublist ?_ dT
   exact List.Sublist.append (.refl _) (List.Sublist.append (.refl _) (List.Sublist.append (.refl _) (List.Sublist.map _ (List.take_sublist _ _))))
  ·rw[a6 _ _ (Nk q (.inl hq))];exact h.top q hq
  ·show (G.rg.take R).length=R
   rw[List.length_take];omega
  ·refine⟨?_,.inr ⟨gr,cap,?_,bD _ _ _,by omega,h4⟩⟩
   ·show (iT (G.rg.take R) W).length=R*1
    unfold iT;rw[List.length_map,List.length_take];omega
   ·show Value.slice G.Ar R G.cr=_
    rw[eA,eC]
  ·have dX:(G.rg.take R)[i]? = some p:=hp
   rw[List.getElem?_take]at dX
   split at dX
   ·exact(h.row i p dX).le hl (a6 _ _ (Nk _ (.inr (.inr ⟨i,p,dX,rfl⟩))))
   ·cases dX
  ·rcases h.basis with k1 | ⟨gb,cb,sz,k1,k2,k3⟩
   ·exact .inl k1
   ·exact .inr ⟨gb,cb,sz,k1,k2,by rw[a6 _ _ (Nk gb (.inr (.inl (by rw[k1];exact List.mem_singleton.2 rfl))))];exact k3⟩
theorem ct.apart(h:ct C H G R W m M B){z:Nat}{e:Ent}(hz:H z=none):ct C (ins H z e) (G.on (z::G.top)) R W m M B∧rem (ins H z e) (G.on (z::G.top)).gs=rem H G.gs:=by
 have hm:¬z∈G.gs:=fun hm=>h.ne z hm hz
 have jM:(G.on (z::G.top)).gs=z::G.gs:=rfl
 have e1:rem (ins H z e) (G.on (z::G.top)).gs=rem H G.gs:=by
  rw[jM];exact rN _ hz
 refine⟨h.Co (t:=z::G.top) (List.nodup_cons.2 ⟨hm,h.nd⟩) (fun q hq=> ?_) (fun q hq=>a6 _ _ fun(e':q=z)=>hm (by rw[←e'];exact GG.kM hq)) (by rw[e1];exact .refl _),e1⟩
 rcases List.mem_cons.1 hq with rfl | hq
 ·rw[bD];simp
 ·rw[a6 _ _ (fun(e':q=z)=>hm (by rw[←e'];exact GG.Cm hq))];exact h.top q hq
end
end Go.au
namespace Go.au
open Go.Proofs Num Lp
theorem Nl{xs vs:List Value}{f:Nat→Rat}{n k:Nat}{q:Rat}(h:bC fA 2 xs (aK f n))(hk:k<n)(hv:fA vs q):bC fA 2 (aL xs (k*2) vs) (aK (bV f k q) n):=by
 rw[←Qt]
 exact h.set (by rw[bg];exact hk) hv (by obtain⟨a,b,rfl,_⟩:=hv;rfl)
abbrev qZ(_:Heap)(vs:List Value)(q:Rat):Prop:=fA vs q
theorem zN:Up qZ:=fun _ _ _ _ _ h=>h
abbrev qd(W:Nat)(xs:List Value)(f:Nat→Rat)(k:Nat):Prop:=bC (ib qZ (fun _=>none)) 2 xs (fill (aK f W) k)
theorem Nn{W k:Nat}{xs:List Value}{f:Nat→Rat}(h:qd W xs f k)(hk:k≤W):xs.length=W*2:=by
 have:=h.len
 rwa [ny (by rw[bg];exact hk),bg]at this
theorem S8{W k:Nat}{xs vs:List Value}{f:Nat→Rat}(h:qd W xs f k)(hk:k<W)(hv:fA vs (f k)):qd W (aL xs (k*2) vs) f (k+1):=by
 show bC _ _ _ _
 rw[←y7 (dJ hk)]
 exact h.set (by rw[ny (by rw[bg];omega),bg];exact hk) (show ib qZ _ vs (some (f k))from hv) (by obtain⟨a,b,rfl,_⟩:=hv;rfl)
theorem S9{W:Nat}{xs:List Value}{f:Nat→Rat}(h:qd W xs f W):bC fA 2 xs (aK f W):=by
 refine DQ (P:=qZ) (H:=fun _=>none) ?_
 rw[bg];exact h
theorem Ta{W:Nat}{f:Nat→Rat}:qd W (cg [.int .i64 0,.int .i64 0] (W*2)) f 0:=by
 have:=Bu (P:=qZ) (H:=fun _=>none) (zs:=[.int .i64 0,.int .i64 0]) (sz:=2) rfl (aK f W)
 rwa [bg]at this
theorem EY{xs vs:List Value}{s e k:Nat}:({(⟨xs,s,e,true⟩:Ent)with xs:=aL xs (0+k*2) vs}:Ent)=⟨aL xs (k*2) vs,s,e,true⟩:=by rw[Nat.zero_add]
theorem vO{p:Prg}{j:Nat}:p.mi (j+1)=p.mi j+(if p.lp.free j then 1 else 0):=by
 have h1:aW p.lp.free (j+1)=aW p.lp.free j+1+(if p.lp.free j then 1 else 0):=rfl
 have h2:=zK (fr:=p.lp.free) j
 show p.lp.n+(aW p.lp.free (j+1)-(j+1))=p.lp.n+(aW p.lp.free j-j)+_
 omega
def lK(M:Nat→Nat→Rat)(B:Nat→Nat)(f:Nat→Rat):Nat→Nat→Rat
 | 0=>f
 | i+1=>fun k=>lK M B f i k-lK M B f i (B i)*M i k
theorem aay{M:Nat→Nat→Rat}{B:Nat→Nat}{f:Nat→Rat}{i:Nat}(h:lK M B f i (B i)=0)(k:Nat):lK M B f (i+1) k=lK M B f i k:=by
 show lK M B f i k-lK M B f i (B i)*M i k=_
 rw[h];grind
structure QZ(o:Bool)(K S H:Heap)(g:Nat)(G:GG)(R W m:Nat)(M:Nat→Nat→Rat)(B:Nat→Nat)(z:Nat)(f:Nat→Rat):Prop where
 q:QV o H g (G.on (z::G.top)) R W m M B
 row:∃xs,H z=some ⟨xs,W*2,163,true⟩∧bC fA 2 xs (aK f W)
 ne:z≠g
 le:Heap.le K (rem H (G.on (z::G.top)).gs)
 same:∀q,q∈G.gs→q≠g→H q=S q
section
variable {o o':Bool} {K S H H':Heap} {g:Nat} {G:GG} {R W m z:Nat} {M:Nat→Nat→Rat} {B:Nat→Nat} {f:Nat→Rat}
theorem QZ.Tc(h:QZ o K S H g G R W m M B z f):¬z∈G.gs:=(List.nodup_cons.1 (show (z::G.gs).Nodup from h.q.cY.nd)).1
theorem QZ.mU:z∈(G.on (z::G.top)).gs:=List.mem_append_left _ (List.mem_cons_self ..)
theorem QZ.fresh(h:QZ o K S H g G R W m M B z f){k:Nat}{e:Ent}(hk:H k=none):QZ o K S (ins H k e) g G R W m M B z f:=by
 obtain⟨h1,h2⟩:=h.q.fresh (e:=e) hk
 obtain⟨xs,h3,h4⟩:=h.row
 refine⟨h1,⟨xs,?_,h4⟩,h.ne,h.le.trans h2,fun q hq aZ=>by rw[a6 _ _ (fun(e':q=k)=>h.q.cY.ne q (List.mem_cons_of_mem _ hq) (by rw[e'];exact hk))];exact h.same q hq aZ⟩
 rw[a6 _ _ (fun e'=>by rw[e',hk]at h3;cases h3)];exact h3
theorem QZ.set(h:QZ o K S H g G R W m M B z f)(ht:fS (G.on (z::G.top)).gs g H H')(iB:H' g=some ⟨[.slice G.Ar R G.cr,G.bv,.bool o'],3,160,true⟩){xs:List Value}(hx:H z=some ⟨xs,W*2,163,true⟩)(iw:bC fA 2 xs (aK f W)){k:Nat}(hk:k<W){vs:List Value}{q:Rat}(hv:fA vs q):
  QZ o' K S (ins H' z ⟨aL xs (k*2) vs,W*2,163,true⟩) g G R W m M B z (bV f k q):=by
 have h1:=h.q.uz ht iB
 have hm:z∈(G.on (z::G.top)).gs:=QZ.mU
 have hT:fS (G.on (z::G.top)).gs z H' (ins H' z ⟨aL xs (k*2) vs,W*2,163,true⟩):=((Kept.refl _ _).iD z).ins hm _
 exact⟨⟨h1.cY.Cp (List.mem_cons_self ..) hT (by rw[bD];simp),h1.gt,by rw[a6 _ _ (Ne.symm h.ne)];exact h1.st⟩,⟨_,bD _ _ _,Nl iw hk hv⟩,h.ne,h.le.trans (ht.le.trans hT.le),fun r hr aZ=>by rw[a6 _ _ (fun(e':r=z)=>h.Tc (by rw[←e'];exact hr)),ht.same r (List.mem_cons_of_mem _ hr) aZ];exact h.same r hr aZ⟩
theorem QZ.od(h:QZ o K S H g G R W m M B z f):QZ o (rem H (G.on (z::G.top)).gs) S H g G R W m M B z f:=⟨h.q,h.row,h.ne,.refl _,h.same⟩
theorem QZ.down{K':Heap}(h:QZ o K S H g G R W m M B z f)(hl:Heap.le K' K):QZ o K' S H g G R W m M B z f:=⟨h.q,h.row,h.ne,hl.trans h.le,h.same⟩
end
theorem ajC{o:Bool}{H:Heap}{g:Nat}{G:GG}{W m N:Nat}{M:Nat→Nat→Rat}{B:Nat→Nat}{p:Prg}{pv cv:Value}{c:List Rat}(h:QV o H g G m W m M B)(hp:eH N (rem H G.gs) pv p)(hc:aR qZ 2 (rem H G.gs) cv c)(fi:c.length=p.free.length)(sM:p.c1≤W)(hB:∀i,i<m→B i<W)(hm:(m:Int)≤900000)(hW:(W:Int)≤1000000):
 Fn Tryz.prog 140 #[.pointer (some ⟨g,0,none⟩),pv,cv,.int .i64 (W:Int)] H (fun v H'=>∃z f o',v = .slice (some ⟨z,0,none⟩) W W∧QZ o' (rem H G.gs) H H' g G m W m M B z f∧(o'=false→o=false∧∀k,k<W→f k=lK M B (eZ p (fn c) 1 p.lp.n) m k)):=by
 obtain⟨fv,gB,rfl,eI,fk⟩:=id hp
 obtain⟨Af,cf,xf,rfl,jk,jl⟩:=eI.one
 obtain⟨Ar,cr,xr,rfl,jL,fy,iE⟩:=id fk
 obtain⟨Ac,cc,xc,rfl,Mp,nT,tI⟩:=id hc
 have dg:=xS (p:=p)
 have Td:p.free.length≤W:=Nat.le_trans dg sM;refine a7 (args:=[_,_,_,_]) Tryz.func140 rfl rfl Tryz.ntmps140 rfl rfl fun w0=> ?_;refine aj [0,1,2,3] rfl ?_;refine ag (bX rfl rfl (ab 1 rfl (ae [0,2,3,5] ?_)));refine ag (ab 1 rfl (gF Tryz.underlying161 fO rfl rfl rfl (by omega) (by omega) (by omega) (by omega) ?_));intro z hz;rw[Int.toNat_natCast]
 have nW:z≠g:=fun e9=>by rw[e9,h.st]at hz;cases hz
 have EZ:∀e9:Ent,Heap.le (rem H G.gs) (ins H z e9):=fun e9=>(bE _ _).trans (Heap.bB _ hz)
 obtain⟨Ab,cb,dh,fV⟩:∃Ab cb,G.bv = .slice Ab m cb∧∀o' t H',ct vK H' (G.on t) m W m M B→∀i,i<m→Rd H' Ab (eL B m):=by
  rcases h.cY.basis with ⟨h1,h2,h3⟩ | ⟨gb,cb,sz,h1,h2,h3⟩
  ·exact⟨none,0,by rw[h3,h1],fun _ _ _ _ i hi=>by omega⟩
  ·
   refine⟨_,cb,h2,fun o' t H' h' i hi=> ?_⟩
   rcases h'.basis with ⟨k1,k2,k3⟩ | ⟨Cw,M6,eS,k1,k2,k3⟩
   ·omega
   have k1:G.bb = [Cw]:=k1;rw[h1]at k1;cases k1;exact dS k3
 refine ab 1 rfl (ae [0,2,5,9] ?_);refine ao (ag (ab 3 rfl (ae [0,2,5,9,19,20] ?_)));refine aF (gX (fun(k:Nat)(xs:List Value)=>W-k) (fun(k:Nat)(xs:List Value)=>put (put (put (put (put (put (emp) 0 (.val (.pointer (some ⟨g,0,none⟩)))) 2 (.val (.slice Ac c.length cc))) 5 (.box [.slice Af p.free.length cf,.slice Ar p.rows.length cr])) 9 (.val (.slice (some ⟨z,0,none⟩) W W))) 19 (.val (.int .i64 (W:Int)))) 20 (.val (.int .i64 (k:Int)))) (fun(k:Nat)(xs:List Value) H'=>H'=ins H z ⟨xs,W*2,163,true⟩∧qd W xs (fun _=>0) k∧k≤W) 0 (cg [.int .i64 0,.int .i64 0] (W*2)) (⟨rfl,Ta,Nat.zero_le _⟩) ar ?_);rintro k xs H2 ⟨e2,hF,hk⟩;rw[e2];clear e2 H2;have cP:=Nn hF hk;refine ag (ab 1 rfl (ae [0,2,5,9,19,20,21] ?_));refine ao (aC rfl (fun hb=> ?_) (fun hb=> ?_))
 ·
  have fm:k<W:=by simpa using hb
  refine aA (aj [0,2,5,9,19,20] rfl ?_);refine ao (aF (ag (ab 2 rfl (ae [0,2,5,9,10,19,20] ?_))));refine aB rfl (ab 2 rfl (dy ah rfl fO rfl rfl ?_));obtain⟨ti,ak,al⟩:=eh;refine cQ (.inl rfl) ah rfl rfl rfl (by omega) (by omega) (bD _ _ _) rfl (by show 0+W*2≤xs.length;omega) ak al (fun _=>rfl) rfl rfl rfl fun _=> ?_;refine aw (aj [0,2,5,9,19,20] rfl ?_);refine aB rfl (aG rfl rfl ⟨by omega,by omega⟩ (ab 1 rfl (aw ?_)));rw[EY,qk];exact⟨k+1,_,by omega,ar,rfl,by rw[Int.toNat_natCast];exact S8 hF fm EN,by omega⟩
 ·
  have hb:W≤k:=by simpa using hb
  obtain rfl:k=W:=by omega
  have Ja:=S9 hF;refine aV (aj [0,2,5,9] rfl ?_);refine ag (ab 4 rfl (ae [0,2,5,9,11] ?_));refine ao (ag (ab 4 rfl (ae [0,2,5,9,11,33,34] ?_)));refine aF (gX (fun(j:Nat)(ys:List Value)=>p.free.length-j) (fun(j:Nat)(ys:List Value)=>put (put (put (put (put (put (put (emp) 0 (.val (.pointer (some ⟨g,0,none⟩)))) 2 (.val (.slice Ac c.length cc))) 5 (.box [.slice Af p.free.length cf,.slice Ar p.rows.length cr])) 9 (.val (.slice (some ⟨z,0,none⟩) k k))) 11 (.val (.int .i64 (p.mi j:Int)))) 33 (.val (.int .i64 (p.free.length:Int)))) 34 (.val (.int .i64 (j:Int)))) (fun(j:Nat)(ys:List Value) H'=>H'=ins H z ⟨ys,k*2,163,true⟩∧bC fA 2 ys (aK (eZ p (fn c) 1 j) k)∧j≤p.free.length) 0 xs (⟨rfl,Ja,Nat.zero_le _⟩) (by repeat (first | exact iL _ | refine du rfl ?_ | refine du (ja (by first | omega | (simp;done) | rfl)) ?_)) ?_);rintro j ys H3 ⟨e3,hE,hj⟩;rw[e3];clear e3 H3;have kD:=hE.len;rw[bg]at kD;refine ag (ab 1 rfl (ae [0,2,5,9,11,33,34,35] ?_));refine ao (aC rfl (fun hb=> ?_) (fun hb=> ?_))
  ·
   have fL:j<p.free.length:=by simpa using hb
   obtain⟨vs,_,Jb,CC⟩:=tI.get (show c[j]? = some (fn c j) by rw[List.getElem?_eq_getElem (by omega),kT (List.getElem?_eq_getElem (by omega))]);obtain⟨n1,d1,rfl,i1,i2,i3,i4,cB⟩:=id (show fA vs (fn c j)from Jb)
   have ajD:fA [.int .i64 n1,.int .i64 d1] (fn c j*1):=by rw[Rat.mul_one];exact Jb
   have Te:=Nl hE (show j<k by omega) ajD;have ajE:=Te.len;rw[bg]at ajE;obtain⟨uf,pf,jr⟩:=jl j _ (List.getElem?_eq_getElem fL);have jr: [uf] = [Value.bool p.free[j]]:=jr
   cases jr
   have nK:p.lp.free j=p.free[j]:=Prg.Bk (List.getElem?_eq_getElem fL);have aaz:=Nf (p:=p) (j:=j);refine aA (aj [0,2,5,9,11,33,34] rfl ?_);refine ao (aF (ag (ab 2 rfl (ae [0,2,5,9,11,12,33,34] ?_))));refine ag (ab 4 rfl (ck (vs:=[.int .i64 n1,.int .i64 d1]) ah rfl rfl rfl rfl (nT.le (EZ _)) rfl (by decide) (by rw[Int.toNat_natCast];exact CC) (by omega) (by omega) fun _=> ?_));obtain⟨ti,ak,al⟩:=eh;refine cQ (.inl rfl) ah rfl rfl rfl (by omega) (by omega) (bD _ _ _) rfl (by show 0+k*2≤ys.length;omega) ak al (fun _=>rfl) rfl rfl rfl fun _=> ?_;refine ae [0,2,5,9,11,12,33,34] ?_;rw[EY,qk,Int.toNat_natCast];refine ag (ab 3 rfl (aQ ah rfl rfl rfl rfl rfl (jk.le (EZ _)) (by rw[Int.toNat_natCast];exact pf) (by omega) (by omega) fun _=> ?_));refine ae [0,2,5,9,11,12,33,34,48] ?_;refine aC rfl (fun hb=> ?_) (fun hb=> ?_)
   ·
    have fB:p.lp.free j=true:=by rw[nK];simpa using hb
    have xT:p.mi j<k:=Nat.lt_of_lt_of_le (vN fL fB) sM;have fY:fA [.int .i64 (-n1),.int .i64 d1] (-(fn c j*1)):=⟨-n1,d1,rfl,by omega,by omega,i3,i4,by rw[Rat.mul_one,cB,Rat.intCast_neg,Rat.div_def,Rat.div_def];grind⟩;refine bO .gD [0,1,2,3,4,5,6,7,8,9,10,11,12,13,14,15] follows (iz [0,0,0,0,12,28,60,124,0,0,768,1792,3840,8188,16383,32767] (by kernel_rfl)) ?_;refine ab 4 rfl (px ah rfl rfl rfl rfl rfl rfl rfl (nT.le (EZ _)) (by rw[Int.toNat_natCast];exact CC 0 _ rfl) (by omega) (by omega) fun _ _=> ?_);refine te rfl ⟨by omega,by omega⟩ (ab 2 rfl (px ah rfl rfl rfl rfl rfl rfl rfl (nT.le (EZ _)) (by rw[Int.toNat_natCast];exact CC 1 _ rfl) (by omega) (by omega) fun _ _=> ?_));refine dy ah rfl fO rfl rfl ?_;obtain⟨ti,ak,al⟩:=eh;refine cQ (.inr rfl) ah rfl rfl rfl (by omega) (by omega) (bD _ _ _) rfl (by show 0+k*2≤(aL ys (j*2) _).length;omega) ak al (fun _=>rfl) rfl rfl rfl fun _=> ?_;refine ae [0,2,5,9,11,33,34] ?_;refine aB rfl (ab 1 rfl (aG rfl rfl ⟨by omega,by omega⟩ (ab 1 rfl (aw (aj [0,2,5,9,11,33,34] rfl ?_)))));refine aB rfl (aG rfl rfl ⟨by omega,by omega⟩ (ab 1 rfl (aw ?_)));rw[EY,qk]
    have e8:p.mi (j+1)=p.mi j+1:=by rw[vO,if_pos fB]
    exact⟨j+1,_,by omega,ar,rfl,by rw[Int.toNat_natCast];unfold eZ;rw[if_pos fB];exact Nl Te xT fY,by omega⟩
   have fB:¬p.lp.free j=true:=by rw[nK];simpa using hb
   refine aA (aj [0,2,5,9,11,33,34] rfl ?_);refine aB rfl (aG rfl rfl ⟨by omega,by omega⟩ (ab 1 rfl (aw ?_)))
   have e8:p.mi (j+1)=p.mi j:=by rw[vO,if_neg fB,Nat.add_zero]
   exact⟨j+1,_,by omega,ar,rfl,by unfold eZ;rw[if_neg fB];exact Te,by omega⟩
  have fL:p.free.length≤j:=by simpa using hb
  obtain rfl:j=p.free.length:=by omega
  obtain⟨DU,Tf⟩:=h.cY.apart (e:=⟨ys,k*2,163,true⟩) hz;have hZ0:QZ o (rem H G.gs) H (ins H z ⟨ys,k*2,163,true⟩) g G m k m M B z (eZ p (fn c) 1 p.lp.n):=⟨⟨DU,List.mem_cons_of_mem _ h.gt,by rw[a6 _ _ (Ne.symm nW)];exact h.st⟩,⟨_,bD _ _ _,hE⟩,nW,by rw[Tf];exact .refl _,fun q hq _=>a6 _ _ fun(e':q=z)=>h.cY.ne q hq (by rw[e'];exact hz)⟩;refine aV (aj [0,9] rfl ?_);refine ao (ag (ab 2 rfl (aU ah rfl rfl rfl (aS ah rfl rfl rfl (show cell _ _=some (.slice Ab m cb)from by rw[←dh];exact hZ0.q.mR) ?_))));refine ab 2 rfl (ae [0,9,71,72] ?_);refine aF (fZ (fun(i:Nat)(f:Nat→Rat)(o1:Bool)=>m-i) (fun(i:Nat)(f:Nat→Rat)(o1:Bool)=>put (put (put (put (emp) 0 (.val (.pointer (some ⟨g,0,none⟩)))) 9 (.val (.slice (some ⟨z,0,none⟩) k k))) 71 (.val (.int .i64 (m:Int)))) 72 (.val (.int .i64 (i:Int)))) (fun(i:Nat)(f:Nat→Rat)(o1:Bool) H'=>QZ o1 (rem H G.gs) H H' g G m k m M B z f∧(o1=false→o=false∧∀q,q<k→f q=lK M B (eZ p (fn c) 1 p.lp.n) i q)∧i≤m) 0 (eZ p (fn c) 1 p.lp.n) o (⟨hZ0,fun h9=>⟨h9,fun _ _=>rfl⟩,Nat.zero_le _⟩) ar ?_);rintro i f o1 H4 ⟨hZ,hI,hi⟩;obtain⟨zs,qt,sB⟩:=hZ.row;refine ag (ab 1 rfl (ae [0,9,71,72,73] ?_));refine ao (aC rfl (fun hb=> ?_) (fun hb=> ?_))
  ·
   have aT:i<m:=by simpa using hb
   have uh:=hB i aT;obtain⟨n4,d4,FE,oQ,i1,i2,i3,i4,cJ⟩:=mS sB uh;refine aA (aj [0,9,71,72] rfl ?_);refine ao (aF (ag (ab 2 rfl (ae [0,9,13,71,72] ?_))));refine ag (ab 3 rfl (aU ah rfl rfl rfl (aS ah rfl rfl rfl (show cell _ _=some (.slice Ab m cb)from by rw[←dh];exact hZ.q.mR) ?_)));refine ab 1 rfl (aQ ah rfl rfl rfl rfl rfl (fV o _ _ hZ.q.cY i aT) (by rw[Int.toNat_natCast];exact gI aT) (by omega) (by omega) fun _=> ?_);refine ck (vs:=[.int .i64 n4,.int .i64 d4]) ah rfl rfl rfl rfl (dS qt) rfl (by decide) (by rw[Int.toNat_natCast];exact oQ) (by omega) (by omega) fun _=> ?_;refine bt fO rfl ?_;obtain⟨ti,ak,al⟩:=eh;refine aH (.inl ⟨rfl,rfl⟩) rfl rfl rfl ak al rfl rfl rfl (ae [0,9,13,14,71,72] ?_);refine MP 14 rfl fun g14 xU pj=>(ao (ag (aU ah rfl rfl rfl (aS ah rfl rfl rfl (show cell _ ((⟨g14,0,none⟩:Addr).add 0)=_ by simp[cell,iN,ins];rfl) ?_))));refine ab 1 rfl (ae [0,9,13,14,71,72,87] ?_);refine aC rfl (fun hb=> ?_) (fun hb=> ?_)
   ·
    have hb:n4=0:=by simpa using hb
    refine aV (aj [0,9,71,72] rfl ?_);refine aB rfl (aG rfl rfl ⟨by omega,by omega⟩ (ab 1 rfl (aw ?_)));exact⟨i+1,f,o1,by omega,ar,hZ.fresh pj,fun h9=>⟨(hI h9).1,fun q hq=>by rw[aay (by rw[←(hI h9).2 _ (hB i aT),cJ];exact(uc i3).2 hb)];exact(hI h9).2 q hq⟩,by omega⟩
   have hb:n4≠0:=by simpa using hb
   have ajF:=hZ.fresh (e:=⟨[.int .i64 n4,.int .i64 d4],2,xU,true⟩) pj;obtain⟨_,zO⟩:=hZ.q.fresh (e:=⟨[.int .i64 n4,.int .i64 d4],2,xU,true⟩) pj;have ajG:Rd (rem (ins H4 g14 ⟨[.int .i64 n4,.int .i64 d4],2,xU,true⟩) (G.on (z::G.top)).gs) (some ⟨g14,0,none⟩) [.int .i64 n4,.int .i64 d4]:=MS (dD _ _ _ _ _ _) fun hm=>hZ.q.cY.ne _ hm pj
   show VC _ _ _ _ _ _ _ (ins H4 g14 ⟨[.int .i64 n4,.int .i64 d4],2,xU,true⟩)
   generalize ins H4 g14 ⟨[.int .i64 n4,.int .i64 d4],2,xU,true⟩=H5 at *
   have qe:=ajF.od;obtain⟨pi,cS⟩:=h.cY.get aT;refine aA (aj [0,9,13,14,71,72] rfl ?_);refine ag (ab 3 rfl (ae [0,9,13,14,71,72,89,90] ?_));refine aF (fZ (fun(q:Nat)(f2:Nat→Rat)(o2:Bool)=>k-q) (fun(q:Nat)(f2:Nat→Rat)(o2:Bool)=>put (put (put (put (put (put (put (put (emp) 0 (.val (.pointer (some ⟨g,0,none⟩)))) 9 (.val (.slice (some ⟨z,0,none⟩) k k))) 13 (.val (.int .i64 (i:Int)))) 14 (.val (.pointer (some ⟨g14,0,none⟩)))) 71 (.val (.int .i64 (m:Int)))) 72 (.val (.int .i64 (i:Int)))) 89 (.val (.int .i64 (k:Int)))) 90 (.val (.int .i64 (q:Int)))) (fun(q:Nat)(f2:Nat→Rat)(o2:Bool) H'=>QZ o2 (rem H5 (G.on (z::G.top)).gs) H H' g G m k m M B z f2∧(o2=false→o1=false∧∀j,f2 j=if j<q then f j-f (B i)*M i j else f j)∧q≤k) 0 f o1 (⟨qe,fun h9=>⟨h9,fun j=>by rw[if_neg (Nat.not_lt_zero _)]⟩,Nat.zero_le _⟩) ar ?_);rintro q f2 o2 H6 ⟨hY,hR,jN⟩;obtain⟨ws,sN,nN⟩:=hY.row;obtain⟨GD,qK,aak,so⟩:=hY.q.rk;obtain⟨xi6,si6,Tg,Th⟩:=hY.q.row (G:=G.on _) cS;have pQ:=nN.len;rw[bg]at pQ;refine ag (ab 1 rfl (ae [0,9,13,14,71,72,89,90,91] ?_));refine ao (aC rfl (fun hb=> ?_) (fun hb=> ?_))
   ·
    have sO:q<k:=by simpa using hb
    obtain⟨n5,d5,C8,mM,_⟩:=mS nN sO;obtain⟨n6,d6,wc,qJ,_⟩:=mS Th sO;refine aA (aj [0,9,13,14,71,72,89,90] rfl ?_);refine ao (aF (ag (ab 2 rfl (ae [0,9,13,14,15,71,72,89,90] ?_))));have bh:=IP g H6;refine eu (.cO (kW g H6)) [0,1,2,3,4,5,6,7,8,9,10,11,12,13,14,15,16,17,18,19,20,21,22] follows (iz [0,0,0,0,0,24,56,0,0,0,512,1536,3584,0,15872,32256,0,130560,261632,524160,1048572,2097151,4194303] (by kernel_rfl)) ?_;refine eN bh rfl (eN bh rfl (eN bh rfl (eN bh rfl (eN bh rfl (Cs bh ah rfl rfl rfl rfl (zF sN nW) rfl (by decide) (by rw[Int.toNat_natCast];exact mM) (by omega) (by omega) fun _=> ?_)))));refine eN bh rfl (IQ bh ah rfl rfl rfl (((ajG.le hY.le).kx hY.q.mem).at) (eN bh rfl (l7 bh rfl (l8 bh ah rfl rfl rfl (ka bh ah rfl rfl rfl (hY.q.k0) (eN bh rfl (Cr bh ah rfl rfl rfl rfl rfl (qK) (by rw[Int.toNat_natCast];exact so i pi cS) (by omega) (by omega) fun _=> ?_)))))));refine eN bh rfl (Cs bh ah rfl rfl rfl rfl (zF Tg (hY.q.xK (G:=G.on _) cS)) rfl (by decide) (by rw[Int.toNat_natCast];exact qJ) (by omega) (by omega) fun _=> ?_)
    refine Ct rfl rfl (SD hY.q.mem hY.q.st (show fA _ (f (B i)) by rw[cJ];exact⟨n4,d4,rfl,i1,i2,i3,i4,rfl⟩) wc) (fun v H9 oe=>by obtain⟨k1,_,_,_,_,_,k2,_⟩:=oe;exact hY.q.fM k1 k2) ?_;rintro v7 H7 ⟨sE,vs7,o7,q7,rfl,ajH,aaA,iS⟩;have bh:=hY.q.fM sE aaA;refine Ct rfl rfl (SE hY.q.mem aaA C8 ajH) (fun v H9 oe=>by obtain⟨k1,_,_,_,_,_,k2,_⟩:=oe;exact hY.q.fM (sE.trans k1) k2) ?_;rintro v8 H8 ⟨qU,vs8,o8,q8,rfl,aaB,sJ,fo⟩;obtain⟨n8,d8,rfl,_⟩:=id aaB;have bh:=hY.q.fM (sE.trans qU) sJ;have Tj:=((sE.trans qU).same z QZ.mU nW).trans sN;have Tk:=hY.set (sE.trans qU) sJ sN nN sO aaB;obtain⟨ti,ak,al⟩:=eh;refine MQ bh ah rfl rfl rfl (by omega) (by omega) (Tj) rfl (by show k*2≤ws.length;omega) ak al (fun _=>rfl) rfl rfl rfl fun _=> ?_;refine aw (aj [0,9,13,14,71,72,89,90] rfl ?_);refine aB rfl (aG rfl rfl ⟨by omega,by omega⟩ (ab 1 rfl (aw ?_)))
    exact⟨q+1,bV f2 q q8,o8,by omega,ar,Tk,fun h9=>⟨(hR (iS (fo h9).1).1).1,fun j=>by
     have g1:=fo h9;have g2:=iS g1.1;have g3:=hR g2.1
     by_cases ej:j=q
     ·
      subst ej;rw[qX,g1.2,g2.2,g3.2 j,if_neg (by omega),if_pos (by omega)]
     ·
      rw[pz ej,g3.2 j]
      by_cases hj:j<q
      ·rw[if_pos hj,if_pos (by omega)]
      ·rw[if_neg hj,if_neg (by omega)]⟩,by omega⟩
   have sO:k≤q:=by simpa using hb
   obtain rfl:q=k:=by omega
   refine aV (aj [0,9,71,72] rfl ?_);refine aB rfl (aG rfl rfl ⟨by omega,by omega⟩ (ab 1 rfl (aw ?_)))
   exact⟨i+1,f2,o2,by omega,ar,hY.down (hZ.le.trans zO),fun h9=>⟨(hI (hR h9).1).1,fun q hq=>by
    rw[(hR h9).2 q,if_pos hq,(hI (hR h9).1).2 q hq,(hI (hR h9).1).2 _ (hB i aT)];rfl⟩,by omega⟩
  have aT:m≤i:=by simpa using hb
  obtain rfl:i=m:=by omega
  refine aV (aj [9] rfl ?_);refine ag (ab 2 rfl (ae [8] ?_));refine aD ⟨.inr rfl,_,.tmp rfl (.nil),?_⟩;exact⟨z,f,o1,rfl,hZ,hI⟩
end Go.au
namespace Go.au
open Go.Proofs Num Lp
def iG(M:Nat→Nat→Rat)(B:Nat→Nat)(n:Nat):Nat→Nat→Rat
 | 0=>fun _=>0
 | i+1=>bV (iG M B n i) (B i) (M i n)
theorem Tl{n d:Int}{q:Rat}(h1: -1073741824≤n)(h2:n≤1073741824)(h3:1≤d)(h4:d≤1073741824)(h:q=(n:Rat)/(d:Rat)):aO q≤8:=by
 have hz:∀k:Int,-1073741824≤k→k≤1073741824→aO (k:Rat)≤2:=fun k g1 g2=>PD.2 (by
  rw[Rat.num_intCast,Rat.den_intCast,cj];omega)
 have k1:=hz n h1 h2
 have k2:=hz d (by omega) h4
 have k3:=DX (n:Rat) (d:Rat)
 rw[h];omega
def jP(p:Prg)(a:Nat→Rat)(j:Nat):Rat:=if p.lp.free j then a j-a (p.mi j)else a j
theorem aaC{o:Bool}{H:Heap}{g:Nat}{G:GG}{W m N:Nat}{M:Nat→Nat→Rat}{B:Nat→Nat}{p:Prg}{pv:Value}(h:QV o H g G (m+1) W m M B)(hp:eH N (rem H G.gs) pv p)(sM:p.c1≤W)(h1W:1≤W)(hB:∀i,i<m→B i<W)(hm:(m:Int)≤900000)(hW:(W:Int)≤1000000):
 Fn Tryz.prog 141 #[.pointer (some ⟨g,0,none⟩),pv,.int .i64 (W:Int)] H (fun v H'=>Heap.le H H'∧aR bZ 3 H' v (aK (jP p (iG M B (W-1) m)) p.free.length)∧∀q,q<p.free.length→aO (jP p (iG M B (W-1) m) q)≤17):=by
 obtain⟨fv,gB,rfl,eI,fk⟩:=id hp
 obtain⟨Af,cf,xf,rfl,jk,jl⟩:=eI.one
 obtain⟨Ar,cr,xr,rfl,jL,fy,iE⟩:=id fk
 have dg:=xS (p:=p)
 have Td:p.free.length≤W:=Nat.le_trans dg sM;refine a7 (args:=[_,_,_]) Tryz.func141 rfl rfl Tryz.ntmps141 rfl rfl fun w0=> ?_;refine aj [0,1,2] rfl ?_;refine ag (bX rfl rfl (ab 1 rfl (ae [0,2,4] ?_)));refine ag (ab 1 rfl (gF Tryz.underlying161 fO rfl rfl rfl (by omega) (by omega) (by omega) (by omega) ?_));intro z hz;rw[Int.toNat_natCast]
 have nW:z≠g:=fun e9=>by rw[e9,h.st]at hz;cases hz
 have EZ:∀e9:Ent,Heap.le (rem H G.gs) (ins H z e9):=fun e9=>(bE _ _).trans (Heap.bB _ hz)
 obtain⟨Ab,cb,dh,fV⟩:∃Ab cb,G.bv = .slice Ab m cb∧∀i,i<m→Rd H Ab (eL B m):=by
  rcases h.cY.basis with ⟨h1,h2,h3⟩ | ⟨gb,cb,sz,h1,h2,h3⟩
  ·exact⟨none,0,by rw[h3,h1],fun i hi=>by omega⟩
  ·exact⟨_,cb,h2,fun i hi=>dS h3⟩
 have FJ:∀(e9:Ent) k v,cell H ((⟨g,0,none⟩:Addr).add k)=some v→cell (ins H z e9) ((⟨g,0,none⟩:Addr).add k)=some v:=fun e9 k v h9=>cN (Heap.bB _ hz) h9;refine ab 1 rfl (ae [0,2,4,7] ?_);refine ao (ag (ab 3 rfl (ae [0,2,4,7,17,18] ?_)));refine aF (gX (fun(k:Nat)(xs:List Value)=>W-k) (fun(k:Nat)(xs:List Value)=>put (put (put (put (put (put (emp) 0 (.val (.pointer (some ⟨g,0,none⟩)))) 2 (.val (.int .i64 (W:Int)))) 4 (.box [.slice Af p.free.length cf,.slice Ar p.rows.length cr])) 7 (.val (.slice (some ⟨z,0,none⟩) W W))) 17 (.val (.int .i64 (W:Int)))) 18 (.val (.int .i64 (k:Int)))) (fun(k:Nat)(xs:List Value) H'=>H'=ins H z ⟨xs,W*2,163,true⟩∧qd W xs (fun _=>0) k∧k≤W) 0 (cg [.int .i64 0,.int .i64 0] (W*2)) (⟨rfl,Ta,Nat.zero_le _⟩) ar ?_);rintro k xs H2 ⟨e2,hF,hk⟩;rw[e2];clear e2 H2;have cP:=Nn hF hk;refine ag (ab 1 rfl (ae [0,2,4,7,17,18,19] ?_));refine ao (aC rfl (fun hb=> ?_) (fun hb=> ?_))
 ·
  have fm:k<W:=by simpa using hb
  refine aA (aj [0,2,4,7,17,18] rfl ?_);refine ao (aF (ag (ab 2 rfl (ae [0,2,4,7,8,17,18] ?_))));refine aB rfl (ab 2 rfl (dy ah rfl fO rfl rfl ?_));obtain⟨ti,ak,al⟩:=eh;refine cQ (.inl rfl) ah rfl rfl rfl (by omega) (by omega) (bD _ _ _) rfl (by show 0+W*2≤xs.length;omega) ak al (fun _=>rfl) rfl rfl rfl fun _=> ?_;refine aw (aj [0,2,4,7,17,18] rfl ?_);refine aB rfl (aG rfl rfl ⟨by omega,by omega⟩ (ab 1 rfl (aw ?_)));rw[EY,qk];exact⟨k+1,_,by omega,ar,rfl,by rw[Int.toNat_natCast];exact S8 hF fm EN,by omega⟩
 ·
  have hb:W≤k:=by simpa using hb
  obtain rfl:k=W:=by omega
  have Ja:=S9 hF;refine aV (aj [0,2,4,7] rfl ?_);refine ao (ag (ab 2 rfl (aU ah rfl rfl rfl (aS ah rfl rfl rfl (FJ _ 1 (.slice Ab m cb) (by rw[←dh];exact h.mR)) ?_))));refine ab 2 rfl (ae [0,2,4,7,30,31] ?_);refine aF (gX (fun(i:Nat)(ys:List Value)=>m-i) (fun(i:Nat)(ys:List Value)=>put (put (put (put (put (put (emp) 0 (.val (.pointer (some ⟨g,0,none⟩)))) 2 (.val (.int .i64 (k:Int)))) 4 (.box [.slice Af p.free.length cf,.slice Ar p.rows.length cr])) 7 (.val (.slice (some ⟨z,0,none⟩) k k))) 30 (.val (.int .i64 (m:Int)))) 31 (.val (.int .i64 (i:Int)))) (fun(i:Nat)(ys:List Value) H'=>H'=ins H z ⟨ys,k*2,163,true⟩∧bC fA 2 ys (aK (iG M B (k-1) i) k)∧i≤m) 0 xs (⟨rfl,Ja,Nat.zero_le _⟩) ar ?_);rintro i ys H3 ⟨e3,hE,hi⟩;rw[e3];clear e3 H3;have kD:=hE.len;rw[bg]at kD;refine ag (ab 1 rfl (ae [0,2,4,7,30,31,32] ?_));refine ao (aC rfl (fun hb=> ?_) (fun hb=> ?_))
  ·
   have aT:i<m:=by simpa using hb
   have uh:=hB i aT;obtain⟨pi,cS⟩:=h.cY.get (show i<m+1 by omega);obtain⟨xi,si,sI,xP⟩:=h.row cS;obtain⟨Qu,_,w9,gA⟩:=h.rk;obtain⟨n4,d4,FE,oQ,_⟩:=mS xP (show k-1<k by omega);refine aA (aj [0,2,4,7,30,31] rfl ?_);refine ao (aF (ag (ab 2 rfl (ae [0,2,4,7,9,30,31] ?_))));refine eu .gD [0,1,2,3,4,5,6,7,8,9,10,11,12,13,14,15,16,17,18,19,20] follows (iz [0,0,2,6,14,0,62,126,0,256,768,1792,0,7936,16128,0,32768,130816,261888,524287,1048575] (by kernel_rfl)) ?_;refine ab 3 rfl (aU ah rfl rfl rfl (aS ah rfl rfl rfl (FJ _ 1 (.slice Ab m cb) (by rw[←dh];exact h.mR)) ?_));refine ab 1 rfl (aQ ah rfl rfl rfl rfl rfl ((fV i aT).le (Heap.bB _ hz)) (by rw[Int.toNat_natCast];exact gI aT) (by omega) (by omega) fun _=> ?_);refine ab 2 rfl (aU ah rfl rfl rfl (aS ah rfl rfl rfl (FJ _ 0 _ h.iR) (ab 1 rfl (aQ ah rfl rfl rfl rfl rfl (w9.le (Heap.bB _ hz)) (by rw[Int.toNat_natCast];exact gA i pi cS) (by omega) (by omega) fun _=> ?_))));refine ab 1 rfl (cV rfl rfl ⟨by omega,by omega⟩ (ck (vs:=[.int .i64 n4,.int .i64 d4]) ah rfl rfl rfl rfl ((dS sI).le (Heap.bB _ hz)) rfl (by decide) (by rw[show ((k:Int)-1).toNat=k-1 by omega];exact oQ) (by omega) (by omega) fun _=> ?_))
   obtain⟨ti,ak,al⟩:=eh;refine cQ (.inr rfl) ah rfl rfl rfl (by omega) (by omega) (bD _ _ _) rfl (by show 0+k*2≤ys.length;omega) ak al (fun _=>rfl) rfl rfl rfl fun _=> ?_;refine aw (aj [0,2,4,7,30,31] rfl ?_);refine aB rfl (aG rfl rfl ⟨by omega,by omega⟩ (ab 1 rfl (aw ?_)));rw[EY,qk];exact⟨i+1,_,by omega,ar,rfl,by rw[Int.toNat_natCast];exact Nl hE uh FE,by omega⟩
  have aT:m≤i:=by simpa using hb
  obtain rfl:i=m:=by omega
  have dW:=EZ ⟨ys,k*2,163,true⟩;have CD:Rd (ins H z ⟨ys,k*2,163,true⟩) (some ⟨z,0,none⟩) ys:=dD _ _ _ _ _ _;have Tm:Heap.le H (ins H z ⟨ys,k*2,163,true⟩):=Heap.bB _ hz
  show VC _ _ _ _ _ _ _ (ins H z ⟨ys,k*2,163,true⟩)
  generalize ins H z ⟨ys,k*2,163,true⟩=H4 at *
  refine aV (aj [4,7] rfl ?_);refine ag (ab 3 rfl (gF Tryz.underlying26 bY rfl rfl rfl (by omega) (by omega) (by omega) (by omega) ?_));intro gx pa;have sP:=IL (P:=bZ) (e:=31) (sz:=3) (zs:=[.bool false,.slice none 0 0,.slice none 0 0]) (z:=0) (k:=(p.free.length:Int)) (c:=p.free.length) pa rfl (Int.toNat_natCast _) (by unfold maxLen;omega);rw[Int.toNat_natCast]at sP⊢;refine ab 1 rfl (ae [4,7,10] ?_);refine ag (ab 4 rfl (ae [4,7,10,11] ?_));refine ao (ag (ab 4 rfl (ae [4,7,10,11,64,65] ?_)));refine aF (fZ (fun(j:Nat)(w:Value)(ws:List Value)=>p.free.length-j) (fun(j:Nat)(w:Value)(ws:List Value)=>put (put (put (put (put (put (emp) 4 (.box [.slice Af p.free.length cf,.slice Ar p.rows.length cr])) 7 (.val (.slice (some ⟨z,0,none⟩) k k))) 10 (.val (w))) 11 (.val (.int .i64 (p.mi j:Int)))) 64 (.val (.int .i64 (p.free.length:Int)))) 65 (.val (.int .i64 (j:Int)))) (fun(j:Nat)(w:Value)(ws:List Value) H'=>ea bZ 31 3 H4 H' w (aK (jP p (iG M B (k-1) i)) j) ws∧j≤p.free.length∧∀q,q<j→aO (jP p (iG M B (k-1) i) q)≤17) 0 _ _ (⟨sP,Nat.zero_le _,fun q hq=>absurd hq (Nat.not_lt_zero _)⟩) (by repeat (first | exact iL _ | refine du rfl ?_ | refine du (ja (by first | omega | (simp;done) | rfl)) ?_)) ?_)
  rintro j w ws H5 ⟨hG,hj,cK⟩;obtain⟨A5,c5,e5⟩:=hG.form;rw[bg]at e5;subst e5;refine ag (ab 1 rfl (ae [4,7,10,11,64,65,66] ?_));refine ao (aC rfl (fun hb=> ?_) (fun hb=> ?_))
  ·
   have fL:j<p.free.length:=by simpa using hb
   obtain⟨n5,d5,C8,mM,i1,i2,i3,i4,ep⟩:=mS hE (show j<k by omega);obtain⟨uf,pf,jr⟩:=jl j _ (List.getElem?_eq_getElem fL);have jr: [uf] = [Value.bool p.free[j]]:=jr
   cases jr
   have nK:p.lp.free j=p.free[j]:=Prg.Bk (List.getElem?_eq_getElem fL);have anx:=Tl i1 i2 i3 i4 ep
   have Xz:aO (jP p (iG M B (k-1) i) j)≤17:=by
    unfold jP
    split
    ·
     rename_i hf9
     obtain⟨n9,d9,_,_,k1,k2,k3,k4,k5⟩:=mS hE (show p.mi j<k from Nat.lt_of_lt_of_le (vN fL hf9) sM);have k6:=Tl k1 k2 k3 k4 k5;have k7:=tv (iG M B (k-1) i j) (iG M B (k-1) i (p.mi j))
     omega
    ·omega
   refine aA (aj [4,7,10,11,64,65] rfl ?_);refine ao (aF (ag (ab 2 rfl (ae [4,7,10,11,12,64,65] ?_))));refine bO .bL [0,1,2,3,4,5,6,7,8,9,10,11,12] follows (by kernel_rfl) ?_;refine ab 2 rfl (px ah rfl rfl rfl rfl rfl rfl rfl (CD.le hG.le) (by rw[Int.toNat_natCast];exact mM 0 _ rfl) (by omega) (by omega) fun _ _=> ?_);refine ab 2 rfl (px ah rfl rfl rfl rfl rfl rfl rfl (CD.le hG.le) (by rw[Int.toNat_natCast];exact mM 1 _ rfl) (by omega) (by omega) fun _ _=> ?_);refine bm rfl rfl (hG.call (Yp (a:=n5) (b:=d5) (by omega) (by omega) (by omega) (by omega)).rc) (fun _ _ h=>h.le fun _ _ h=>h.1) ?_;rintro _ H6 iH;have fK:=hG.kV dY iH fun _ _ h=>h.1;obtain⟨⟨_,t6,rfl,jO⟩,_⟩:=iH;rw[←ep]at jO;refine bt bY rfl ?_;obtain⟨ti,ak,al⟩:=aY;refine aH (.inl ⟨rfl,rfl⟩) rfl rfl rfl ak al rfl rfl rfl (ae [4,7,10,11,12,13,64,65] ?_);refine AJ (fun(t:RC)(a:Nat)=>put (put (put (put (put (put (put (emp) 4 (.box [.slice Af p.free.length cf,.slice Ar p.rows.length cr])) 7 (.val (.slice (some ⟨z,0,none⟩) k k))) 10 (.val (.slice A5 j c5))) 11 (.val (.int .i64 (a:Int)))) 13 (.box [.bool t.f,.slice t.A1 t.m1 t.c1,.slice t.A2 t.m2 t.c2])) 64 (.val (.int .i64 (p.free.length:Int)))) 65 (.val (.int .i64 (j:Int)))) (fun(t:RC)(a:Nat) H'=>ea bZ 31 3 H4 H' (.slice A5 j c5) (aK (jP p (iG M B (k-1) i)) j) ws∧a=p.mi (j+1)∧bJ (rem H' (az (.slice A5 j c5))) t.v (jP p (iG M B (k-1) i) j)) ?_ ?_
   ·
    refine ag (ab 3 rfl (aQ ah rfl rfl rfl rfl rfl (jk.le (dW.trans fK.le)) (by rw[Int.toNat_natCast];exact pf) (by omega) (by omega) fun _=> ?_));refine ae [4,7,10,11,13,64,65,83] ?_;refine aC rfl (fun hb=> ?_) (fun hb=> ?_)
    ·
     have fB:p.lp.free j=true:=by rw[nK];simpa using hb
     have xT:p.mi j<k:=Nat.lt_of_lt_of_le (vN fL fB) sM;obtain⟨n7,d7,QC,sG,j1,j2,j3,j4,aaD⟩:=mS hE xT;have anz:=Tl j1 j2 j3 j4 aaD;refine bO .bL [0,1,2,3,4,5,6,7,8,9,10,11,12,13] follows (by kernel_rfl) ?_;refine ab 3 rfl (px ah rfl rfl rfl rfl rfl rfl rfl (CD.le fK.le) (by rw[Int.toNat_natCast];exact sG 0 _ rfl) (by omega) (by omega) fun _ _=> ?_);refine ab 2 rfl (px ah rfl rfl rfl rfl rfl rfl rfl (CD.le fK.le) (by rw[Int.toNat_natCast];exact sG 1 _ rfl) (by omega) (by omega) fun _ _=> ?_);refine bm rfl rfl (fK.call (Yp (a:=n7) (b:=d7) (by omega) (by omega) (by omega) (by omega)).rc) (fun _ _ h=>h.le fun _ _ h=>h.1) ?_;rintro _ H7 Tn;have iI:=fK.kV dY Tn fun _ _ h=>h.1;have ajI:=jO.le Tn.post.1;obtain⟨⟨_,t7,rfl,iS⟩,_⟩:=Tn;rw[←aaD]at iS;refine bm rfl rfl (iI.call (Ej (N:=10) ((bJ.raw ajI).mono (by omega)) ((bJ.raw iS).mono (by omega)) (by decide)).rc) (fun _ _ h=>h.le fun _ _ h=>h.1) ?_;rintro _ H8 ui;have gn:=iI.kV dY ui fun _ _ h=>h.1;obtain⟨⟨_,t8,rfl,fo⟩,_⟩:=ui;obtain⟨ti,ak,al⟩:=aY;refine aH (.inl ⟨rfl,rfl⟩) rfl rfl rfl ak al rfl rfl rfl (ae [4,7,10,11,13,64,65] ?_);refine aB rfl (ab 1 rfl (aG rfl rfl ⟨by omega,by omega⟩ (vr 1 ?_)))
     refine aw ?_;exact⟨t8,p.mi j+1,ar,gn,by rw[vO,if_pos fB],by unfold jP;rw[if_pos fB];exact fo⟩
    have fB:¬p.lp.free j=true:=by rw[nK];simpa using hb
    refine aA ?_;exact⟨t6,p.mi j,ar,fK,by rw[vO,if_neg fB,Nat.add_zero],by unfold jP;rw[if_neg fB];exact jO⟩
   rintro t a H9 ⟨ku,qR,fJ⟩;subst qR;refine aB rfl (ab 2 rfl (cW Tryz.underlying26 bY rfl rfl rfl rfl rfl rfl rfl ?_));intro gb bx;have Jc:=ku.ins dY (whole (cG [.agg #[.bool t.f,.slice t.A1 t.m1 t.c1,.slice t.A2 t.m2 t.c2]]) 31) bx;refine dR Tryz.underlying26 bY rfl rfl Jc.own (dD _ _ _ _ _ _) rfl (Cl _ _ _ _ _ _ _) (by rw[bg];omega) (by rw[bg];omega) ?_;intro W9 ks To;have ku:=Jc.append dY (k:=[jP p (iG M B (k-1) i) j]) (by simp) To (iP (dY _ _ _ _ (qB _ (Heap.bB _ bx)) (show bZ _ [_,_,_] _ from fJ)) rfl);refine ab 1 rfl (aw (aj [4,7,10,11,64,65] rfl ?_));refine aB rfl (aG rfl rfl ⟨by omega,by omega⟩ (ab 1 rfl (aw ?_)))
   exact⟨j+1,_,_,by omega,ar,by rw[xg];exact ku,by omega,fun q hq=>by
    by_cases eq:q=j
    ·subst eq;exact Xz
    ·exact cK q (by omega)⟩
  have fL:p.free.length≤j:=by simpa using hb
  obtain rfl:j=p.free.length:=by omega
  refine aV (aj [10] rfl ?_);refine ag (ab 2 rfl (ae [6] ?_));refine aD ⟨.inr rfl,_,.tmp rfl (.nil),?_⟩;exact⟨Tm.trans hG.le,hG.sl dY,cK⟩
end Go.au
namespace Go.au
open Go.Proofs Num Lp
section
variable {p:Prg}
theorem ajJ{x y:Nat}(hx:x<p.w)(hy:y<p.w)(h:p.pi x=p.pi y):x=y:=by
 have lo:∀{a b:Nat},a<p.lp.n→b<p.lp.n→aW p.lp.free a=aW p.lp.free b→a=b:=fun{a b} _ _ e=>by
  rcases Nat.lt_trichotomy a b with k | k | k
  ·have:=BW (fr:=p.lp.free) k;omega
  ·exact k
  ·have:=BW (fr:=p.lp.free) k;omega
 have mx:∀{a b:Nat},p.lp.free b=true→aW p.lp.free a≠aW p.lp.free b+1:=fun{a b} hb e=>by
  rcases Nat.lt_trichotomy a b with k | k | k
  ·have:=BW (fr:=p.lp.free) k;omega
  ·subst k;omega
  ·have:=BW (fr:=p.lp.free) k
   rw[if_pos hb]at this;omega
 by_cases cx:x<p.c1
 ·have tn:y<p.c1:=by
   have h1:=Ng cx
   refine Classical.byContradiction fun hn=> ?_
   rw[vM (Nat.le_of_not_lt hn)]at h
   omega
  by_cases ax:x<p.lp.n
  ·by_cases ay:y<p.lp.n
   ·rw[xR ax,xR ay]at h;exact lo ax ay h
   ·obtain⟨j,g1,g2,rfl⟩:=I7 (Nat.le_of_not_lt ay) tn
    rw[xR ax,zL g1 g2]at h
    exact absurd h (mx g2)
  ·obtain⟨i,k1,k2,rfl⟩:=I7 (Nat.le_of_not_lt ax) cx
   by_cases ay:y<p.lp.n
   ·rw[xR ay,zL k1 k2]at h
    exact absurd h.symm (mx k2)
   ·obtain⟨j,g1,g2,rfl⟩:=I7 (Nat.le_of_not_lt ay) tn
    rw[zL k1 k2,zL g1 g2]at h
    rw[lo k1 g1 (by omega)]
 ·by_cases cy:y<p.c1
  ·have h1:=Ng cy
   rw[vM (Nat.le_of_not_lt cx)]at h
   omega
  ·rw[vM (Nat.le_of_not_lt cx),vM (Nat.le_of_not_lt cy)]at h;exact h
structure Tw(p:Prg)(S T:aq):Prop where
 em:T.m=S.m
 en:T.n=S.n
 ew:S.n=p.w
 eA:∀i,i<S.m→∀j,j≤p.w→T.A i j=S.A i (p.pi j)
 ec:∀j,j≤p.w→T.c j=S.c (p.pi j)
 eB:∀i,i<S.m→S.B i=p.pi (T.B i)∧T.B i<p.w
variable {S T:aq} {c0:Nat→Rat} {c:List Rat}
theorem Tw.pivot(h:Tw p S T){r s:Nat}(hr:r<S.m)(hs:s<p.w):Tw p (S.pivot r (p.pi s)) (T.pivot r s):=by
 refine⟨h.em,h.en,h.ew,fun i hi j hj=> ?_,fun j hj=> ?_,fun i hi=> ?_⟩
 ·have hi:i<S.m:=hi
  show (if i=r then T.A r j/T.A r s else T.A i j-T.A i s*(T.A r j/T.A r s))=if i=r then S.A r (p.pi j)/S.A r (p.pi s)else S.A i (p.pi j)-S.A i (p.pi s)*(S.A r (p.pi j)/S.A r (p.pi s))
  rw[h.eA r hr j hj,h.eA r hr s (by omega),h.eA i hi j hj,h.eA i hi s (by omega)]
 ·show T.c j-T.c s*(T.A r j/T.A r s)=S.c (p.pi j)-S.c (p.pi s)*(S.A r (p.pi j)/S.A r (p.pi s))
  rw[h.ec j hj,h.ec s (by omega),h.eA r hr j hj,h.eA r hr s (by omega)]
 ·have hi:i<S.m:=hi
  show (if i=r then p.pi s else S.B i)=p.pi (if i=r then s else T.B i)∧(if i=r then s else T.B i)<p.w
  split
  ·exact⟨rfl,hs⟩
  ·exact h.eB i hi
theorem Tw.wf(h:Tw p S T)(hW:S.WF):T.WF where
 lt i hi:=by rw[h.en,h.ew];exact(h.eB i (by rw[←h.em];exact hi)).2
 unit i k hi hk:=by
  rw[h.em]at hi hk
  have:=h.eB i hi
  rw[h.eA k hk _ (by omega),←this.1]
  exact hW.unit i k hi hk
 zero i hi:=by
  rw[h.em]at hi
  have:=h.eB i hi
  rw[h.ec _ (by omega),←this.1]
  exact hW.zero i hi
theorem Tw.rhs(h:Tw p S T){i:Nat}(hi:i<S.m):T.A i T.n=S.A i S.n:=by
 rw[h.en,h.ew,h.eA i hi _ (Nat.le_refl _),CB]
theorem Tw.cZ(h:Tw p S T)(hF:S.j0):T.j0:=fun i hi=>by
 rw[h.em]at hi
 rw[h.rhs hi];exact hF i hi
theorem Tw.ajK(h:Tw p S T)(hF:T.j0):S.j0:=fun i hi=>by
 rw[←h.rhs hi];exact hF i (by rw[h.em];exact hi)
theorem Tw.E0(h:Tw p S T){i:Nat}(hi:i<S.m):p.u≤S.B i↔p.u≤T.B i:=by
 have h1:=h.eB i hi
 constructor
 ·intro k
  refine Classical.byContradiction fun hn=> ?_
  have:=zM (p:=p) (x:=T.B i) (by omega)
  omega
 ·intro k
  rw[h1.1,S3 k];exact k
theorem Tw.clean(h:Tw p S T){k:Nat}(hC:aq.Clean p.u k S):aq.Clean p.u k T where
 zero i hi hu:=by
  rw[h.em]at hi
  rw[h.rhs hi];exact hC.zero i hi ((h.E0 hi).2 hu)
 row i hk hi hu j hj:=by
  rw[h.em]at hi
  have:=fj p
  rw[h.eA i hi j (by omega)]
  exact hC.row i hk hi ((h.E0 hi).2 hu) _ (zM hj)
theorem Tw.ajL(h:Tw p S T){k:Nat}(hC:aq.Clean p.u k T):aq.Clean p.u k S where
 zero i hi hu:=by
  rw[←h.rhs hi];exact hC.zero i (by rw[h.em];exact hi) ((h.E0 hi).1 hu)
 row i hk hi hu y hy:=by
  obtain⟨x,hx,rfl⟩:=Ni hy
  have:=fj p
  rw[←h.eA i hi x (by omega)]
  exact hC.row i hk (by rw[h.em];exact hi) ((h.E0 hi).1 hu) x hx
theorem Tw.inv(h:Tw p S T)(hI:Inv p c0 S){r s:Nat}(hr:r<S.m)(hs:s<p.w)(hp:T.A r s≠0)(hF:(T.pivot r s).j0):Inv p c0 (S.pivot r (p.pi s)):=by
 have yD:S.A r (p.pi s)≠0:=by rw[←h.eA r hr s (by omega)];exact hp
 have hm:r<p.lp.m:=by rw[←hI.rows.m];exact hr
 have hw:=S4 hs
 exact⟨aq.Bg hI.wf hr (by rw[h.ew];exact hw) yD,(h.pivot hr hs).ajK hF,hI.rows.pivot hm yD,hI.rows.PW hI.off hm⟩
def ml(p:Prg)(T:aq):Prop:=∃S,Inv p (pn p) S∧Tw p S T
def og(p:Prg)(c:List Rat)(T:aq):Prop:=∃S,I2 p c S∧Tw p S T
def iV(p:Prg)(k:Nat)(T:aq):Prop:=∃S,Jx p k S∧Tw p S T
theorem ml.step{r s:Nat}(h:ml p T)(hb:T.o0 p.u r s):ml p (T.pivot r s):=by
 obtain⟨S,hI,hT⟩:=h
 have hr:r<S.m:=by rw[←hT.em];exact hb.rm
 have hs:s<p.w:=Nat.lt_of_lt_of_le hb.su (fj p)
 exact⟨_,hT.inv hI hr hs (by have:=hb.pos;grind) (aq.Gt (hT.cZ hI.cZ) hb),hT.pivot hr hs⟩
theorem og.step{r s:Nat}(h:og p c T)(hb:T.o0 p.u r s):og p c (T.pivot r s):=by
 obtain⟨S,hI,hT⟩:=h
 have hr:r<S.m:=by rw[←hT.em];exact hb.rm
 have hs:s<p.w:=Nat.lt_of_lt_of_le hb.su (fj p)
 have hP:=hT.pivot hr hs
 have hC:=hT.clean hI.2
 rw[←hT.em]at hC
 exact⟨_,⟨hT.inv hI.1 hr hs (by have:=hb.pos;grind) (aq.Gt (hT.cZ hI.1.cZ) hb),by have h9:=hP.ajL (hC.Gw hb);rw[hP.em]at h9;exact h9⟩,hP⟩
theorem ml.acc(h:ml p T):Acc (aq.Step p.u) T:=by
 obtain⟨S,hI,hT⟩:=h
 exact aq.PS (hT.wf hI.wf) (hT.cZ hI.cZ) (by rw[hT.en,hT.ew];exact fj p)
theorem og.acc(h:og p c T):Acc (aq.Step p.u) T:=by
 obtain⟨S,hI,hT⟩:=h
 exact aq.PS (hT.wf hI.1.wf) (hT.cZ hI.1.cZ) (by rw[hT.en,hT.ew];exact fj p)
theorem iV.skip{k:Nat}(h:iV p k T)(hk:k<T.m)(hz:T.B k<p.u∨∀j,j<p.u→T.A k j=0):iV p (k+1) T:=by
 obtain⟨S,hI,hT⟩:=h
 rw[hT.em]at hk
 refine⟨S,hI.skip ?_,hT⟩
 rcases hz with hz | hz
 ·have:=hT.E0 hk
  exact .inl (by omega)
 ·refine .inr fun y hy=> ?_
  obtain⟨x,hx,rfl⟩:=Ni hy
  have:=fj p
  rw[←hT.eA k hk x (by omega)];exact hz x hx
theorem iV.pivot{k s:Nat}(h:iV p k T)(hk:k<T.m)(hu:p.u≤T.B k)(hs:s<p.u)(hp:T.A k s≠0):iV p (k+1) (T.pivot k s):=by
 obtain⟨S,hI,hT⟩:=h
 rw[hT.em]at hk
 have hw:=fj p
 exact⟨_,hI.pivot hk ((hT.E0 hk).2 hu) (zM hs) (by rw[←hT.eA k hk s (by omega)];exact hp),hT.pivot hk (by omega)⟩
theorem ml.clean(h:ml p T)(hn:∀j,j<p.u→0≤T.c j)(h0:T.c p.w=0):iV p 0 T:=by
 obtain⟨S,hI,hT⟩:=h
 have:S.c p.w=0:=by rw[hT.ec _ (Nat.le_refl _),CB]at h0;exact h0
 exact⟨S,⟨hI,YX hI (by grind)⟩,hT⟩
theorem ml.inf(a8:p.Ok)(h:ml p T)(hn:∀j,j<p.u→0≤T.c j)(h0:T.c p.w≠0):p.lp.rQ:=by
 obtain⟨S,hI,hT⟩:=h
 have e:T.c p.w=S.c p.w:=by rw[hT.ec _ (Nat.le_refl _),CB]
 have hw:=fj p
 have hS:∀y,y<p.u→0≤S.c y:=fun y hy=>by
  obtain⟨x,hx,rfl⟩:=Ni hy
  rw[←hT.ec x (by omega)];exact hn x hx
 have h1:=aq.WS hI.wf hI.cZ hI.rows hI.off
 have fY:S.c p.w<0:=Classical.byContradiction fun hk=>h0 (by rw[e];exact(h1 (by grind)).1)
 have h2:=YW a8 hI hS fY
 exact h2.cert.isInf a8.valid
theorem ml.aaE(h:ml p T){s:Nat}(hs:s<p.u)(fY:T.c s<0)(hA:∀i,i<T.m→T.A i s≤0):False:=by
 obtain⟨S,hI,hT⟩:=h
 have hw:=fj p
 refine YY hI (zM hs) (by rw[←hT.ec s (by omega)];exact fY) fun i hi=> ?_
 rw[←hT.eA i hi s (by omega)];exact hA i (by rw[hT.em];exact hi)
theorem ajM(hv:p.lp.Valid):∀{k:Nat}{j:Nat},k≤p.lp.m→p.u≤j→j<aX p.lp.rel p.aJ p.u k→∃i,i<k∧p.unit i=j:=by
 intro k
 induction k with
 | zero=>
  intro j _ h1 h2
  exact absurd h2 (by show ¬j<p.u;omega)
 | succ k ih=>
  intro j hk h1 h2
  have e:aX p.lp.rel p.aJ p.u (k+1)=aX p.lp.rel p.aJ p.u k+(if eY (p.lp.rel k) (p.aJ k)then 0 else 1):=rfl
  by_cases hj:j<aX p.lp.rel p.aJ p.u k
  ·obtain⟨i,g1,g2⟩:=ih (by omega) h1 hj
   exact⟨i,by omega,g2⟩
  ·by_cases o:eY (p.lp.rel k) (p.aJ k)=true
   ·rw[if_pos o]at e;omega
   ·rw[if_neg o]at e
    exact⟨k,by omega,by rw[vC o];omega⟩
def q3(p:Prg)(M:Nat→Nat→Rat)(k:Nat):Rat:=if k<p.u∨k=p.w then-bo p.lp.m (fun i=>if p.u≤p.unit i then M i k else 0)else 0
def xV(M:Nat→Nat→Rat)(B:Nat→Nat)(m w:Nat):aq:=⟨m,w,M,M m,B⟩
theorem Np{M:Nat→Nat→Rat}{B:Nat→Nat}{m w:Nat}:gT M B (xV M B m w) m (w+1):=⟨rfl,rfl,fun _ _ _ _=>rfl,fun _ _=>rfl,fun _ _=>rfl⟩
theorem aaF(i:Nat):p.pi (p.unit i)=p.unit i:=vM L6
theorem aaG(a8:p.Ok){M:Nat→Nat→Rat}(hM:∀i,i<p.lp.m→∀j,j≤p.w→M i j=dL p i j)(hc:∀j,j≤p.w→M p.lp.m j=q3 p M j):ml p (xV M p.unit p.lp.m p.w):=by
 have hI:Inv p (pn p) (p5 p.dZ (pn p)):=Inv.base B6
 have hA:∀i,i<p.lp.m→∀j,j≤p.w→M i j=p.dZ.A i (p.pi j):=fun i hi j hj=>by rw[hM i hi j hj,S6 a8.valid hi hj]
 refine⟨_,hI,rfl,rfl,rfl,hA,fun j hj=> ?_,fun i hi=>⟨(aaF i).symm,nX p hi⟩⟩
 show M p.lp.m j=gK p.dZ (pn p) p.lp.m (p.pi j)
 rw[hc j hj]
 have hpu:∀i,i<p.lp.m→pn p (p.unit i)=if p.u≤p.unit i then 1 else 0:=fun i hi=>by
  show aq.jB _ _ _=_
  unfold aq.jB
  by_cases k:p.u≤p.unit i
  ·rw[if_pos k,if_pos ⟨k,nX p hi⟩]
  ·rw[if_neg k,if_neg (fun k'=>k k'.1)]
 have DN:bo p.lp.m (fun i=>pn p (p.dZ.B i)*p.dZ.A i (p.pi j))=bo p.lp.m (fun i=>if p.u≤p.unit i then M i j else 0):=eK fun i hi=>by
  show pn p (p.unit i)*_=_
  rw[hpu i hi,hA i hi j hj]
  split <;> grind
 unfold q3 gK
 rw[DN]
 by_cases h1:j<p.u
 ·have h2:=fj p
  have h3:=zM h1
  have e:pn p (p.pi j)=0:=aq.P0 h3
  rw[if_pos (.inl h1),if_neg (by show ¬p.pi j=p.w;omega),e];grind
 ·by_cases h2:j=p.w
  ·rw[if_pos (.inr h2),h2,if_pos (show p.pi p.w=p.dZ.n from CB)];grind
  ·rw[if_neg (fun k=>k.elim h1 h2)]
   obtain⟨i0,Nq,e0⟩:=ajM a8.valid (Nat.le_refl _) (Nat.le_of_not_lt h1) (show j<p.w by omega)
   have hz:=hI.wf.zero i0 Nq
   have hz:gK p.dZ (pn p) p.lp.m (p.unit i0)=0:=hz
   unfold gK at hz
   rw[←DN,←e0,aaF];exact hz.symm
theorem aaH{M:Nat→Nat→Rat}{B:Nat→Nat}{f:Nat→Rat}{m:Nat}(hu:∀i k,i<m→k<m→M k (B i)=if k=i then 1 else 0):∀i,i≤m→∀k,lK M B f i k=f k-bo i (fun q=>f (B q)*M q k):=by
 intro i
 induction i with
 | zero=>intro _ k;show f k=f k-0;grind
 | succ i ih=>
  intro hi k
  have e1:lK M B f i (B i)=f (B i):=by
   rw[ih (by omega),mG fun q hq=> ?_]
   ·grind
   ·rw[hu i q (by omega) (by omega),if_neg (by omega)];grind
  show lK M B f i k-lK M B f i (B i)*M i k=_
  rw[e1,ih (by omega),fW];grind
theorem aaI{M:Nat→Nat→Rat}{B:Nat→Nat}(h:iV p p.lp.m T)(hr:gT M B T p.lp.m (p.w+1)){M':Nat→Nat→Rat}(hM:∀i,i<p.lp.m→∀j,j≤p.w→M' i j=M i j)(jH:∀j,j≤p.w→M' p.lp.m j=lK M B (eZ p (fn c) 1 p.lp.n) p.lp.m j):og p c (xV M' B p.lp.m p.w):=by
 obtain⟨S,hI,hT⟩:=h
 have hm:S.m=p.lp.m:=hI.1.rows.m
 have hW:=hT.wf hI.1.wf
 have hn:=hT.en.trans hT.ew
 refine⟨_,I2.start hI,hm.symm,hT.ew.symm,hT.ew,fun i hi j hj=> ?_,fun j hj=> ?_,fun i hi=> ?_⟩
 ·have hi:i<S.m:=hi
  show M' i j=S.A i (p.pi j)
  rw[hM i (by omega) j hj,hr.eA i (by omega) j (by omega),hT.eA i hi j hj]
 ·show M' p.lp.m j=gK S (kt p c) S.m (p.pi j)
  have hu:∀i k,i<p.lp.m→k<p.lp.m→M k (B i)=if k=i then 1 else 0:=fun i k hi hk=>by
   have h1:=hW.lt i (by rw[hr.em];exact hi)
   rw[hr.eB i hi,hr.eA k hk _ (by omega)]
   exact hW.unit i k (by rw[hr.em];exact hi) (by rw[hr.em];exact hk)
  rw[jH j hj,aaH hu _ (Nat.le_refl _)]
  unfold gK
  have e1:eZ p (fn c) 1 p.lp.n j=if p.pi j=S.n then 0 else kt p c (p.pi j):=by
   rw[I8]
   by_cases e:p.pi j=S.n
   ·rw[if_pos e]
    have e':p.pi j=p.w:=e.trans hT.ew
    have h1:=HR (p:=p) (c:=c)
    rw[e'];exact h1
   ·rw[if_neg e]
  rw[e1,hm]
  congr 1
  refine eK fun i hi=> ?_
  have h1:=hT.eB i (by omega)
  rw[hr.eB i hi,I8,hr.eA i hi j (by omega),hT.eA i (by omega) j hj,h1.1]
 ·have hi:i<S.m:=hi
  have h1:=hT.eB i hi
  show S.B i=p.pi (B i)∧B i<p.w
  rw[hr.eB i (by omega)];exact h1
theorem ajN{M:Nat→Nat→Rat}{B:Nat→Nat}{n m:Nat}(ll:∀i k,i<m→k<m→B i=B k→i=k):∀i,i≤m→∀x,iG M B n i x=bo i (fun q=>if B q=x then M q n else 0):=by
 intro i
 induction i with
 | zero=>intro _ x;rfl
 | succ i ih=>
  intro hi x
  rw[fW]
  show bV (iG M B n i) (B i) (M i n) x=_
  by_cases e:x=B i
  ·subst e
   rw[qX,if_pos rfl,mG fun q hq=> ?_]
   ·grind
   ·rw[if_neg (fun e'=>by have:=ll q i (by omega) (by omega) e';omega)]
  ·rw[pz e,ih (by omega),if_neg (fun e'=>e e'.symm)];grind
theorem ajO{M:Nat→Nat→Rat}{B:Nat→Nat}(hI:I2 p c S)(hT:Tw p S T)(hr:gT M B T p.lp.m (p.w+1)){j:Nat}(hj:j<p.lp.n):jP p (iG M B p.w p.lp.m) j=dB.vec p.lay.pF p.lay.mF S.pt j:=by
 have hm:S.m=p.lp.m:=hI.1.rows.m
 have hW:=hT.wf hI.1.wf
 have hn:=hT.en.trans hT.ew
 have key:∀x,x<p.w→iG M B p.w p.lp.m x=S.pt (p.pi x):=fun x hx=>by
  have h1:=S4 hx
  rw[ajN (m:=p.lp.m) (fun i k hi hk e=> ?_) _ (Nat.le_refl _)]
  ·unfold aq.pt
   rw[if_neg (by rw[hT.ew];omega),hm]
   refine eK fun i hi=> ?_
   have h2:=hT.eB i (by omega)
   have e:B i=x↔S.B i=p.pi x:=by
    rw[hr.eB i hi,h2.1]
    exact⟨fun e=>by rw[e],fun e=>ajJ h2.2 hx e⟩
   by_cases e2:B i=x
   ·rw[if_pos e2,if_pos (e.1 e2),hr.eA i hi _ (by omega),hT.eA i (by omega) _ (Nat.le_refl _),CB,hT.ew]
   ·rw[if_neg e2,if_neg (fun k=>e2 (e.2 k))]
  ·rw[hr.eB i hi,hr.eB k hk]at e
   exact hW.inj (by rw[hr.em];exact hi) (by rw[hr.em];exact hk) e
 have h1:=xS (p:=p)
 have h2:=mc p
 have h3:=fj p
 unfold jP dB.vec
 rw[zt p hj,B5 hj]
 by_cases hf:p.lp.free j=true
 ·rw[if_pos hf,if_pos hf,key j (by omega),xR hj]
  have h4:=vN hj hf
  rw[key _ (by omega),zL hj hf];rfl
 ·rw[if_neg hf,if_neg hf,key j (by omega),xR hj]
  show _=_-0
  grind
def vP(p:Prg)(c:List Rat)(st:Int)(v:Rat):Prop:=(st=1∧p.lp.vi (fn c) v∧∃T,I2 p c T∧v = -(T.c p.w))∨(st=2∧p.lp.rQ∧v=0)∨(st=3∧p.lp.wW (fn c)∧v=0)
theorem og.opt(a8:p.Ok)(fi:c.length=p.free.length)(h:og p c T)(hn:∀j,j<p.u→0≤T.c j){M:Nat→Nat→Rat}{B:Nat→Nat}(hr:gT M B T p.lp.m (p.w+1)):
  vP p c 1 (bK p.free.length (fn c) (fn (aK (jP p (iG M B p.w p.lp.m)) p.free.length))):=by
 obtain⟨S,hI,hT⟩:=h
 have hw:=fj p
 have hS:∀y,y<p.u→0≤S.c y:=fun y hy=>by
  obtain⟨x,hx,rfl⟩:=Ni hy
  rw[←hT.ec x (by omega)];exact hn x hx
 obtain⟨h1,h2⟩:=YZ a8 fi hI hS
 have e:aK (jP p (iG M B p.w p.lp.m)) p.free.length=aK (dB.vec p.lay.pF p.lay.mF S.pt) p.lp.n:=lz fun j hj=>ajO hI hT hr hj
 rw[e]
 exact .inl ⟨rfl,h1.cert.Lf a8.valid,S,hI,h2.symm⟩
theorem og.unb(a8:p.Ok)(fi:c.length=p.free.length)(h:og p c T){s:Nat}(hs:s<p.u)(fY:T.c s<0)(hA:∀i,i<T.m→T.A i s≤0):vP p c 3 0:=by
 obtain⟨S,hI,hT⟩:=h
 have hw:=fj p
 have h1:=Y0 a8 fi hI (zM hs) (by rw[←hT.ec s (by omega)];exact fY) fun i hi=>by
  rw[←hT.eA i hi s (by omega)];exact hA i (by rw[hT.em];exact hi)
 exact .inr (.inr ⟨rfl,h1.cert.PT,rfl⟩)
end
end Go.au
namespace Go.au
open Go.Proofs Num Lp
theorem aaJ{H:Heap}{a b:List Nat}(h:∀q,q∈a↔q∈b):rem H a=rem H b:=by
 funext q
 unfold rem
 simp only[h]
theorem ajP{α:Type}{P:Heap→List Value→α→Prop}{e sz:Nat}{H:Heap}{gs:List Nat}{g c:Nat}{zs:List Value}{z k:Int}(hg:H g=none)(hz:z.toNat=0)(hk:k.toNat=c)(hc:c≤maxLen)(hl:∀q,q∈gs→H q≠none):gS gs H P e sz (ins H g ⟨cg zs (z.toNat*sz),k.toNat*sz,e,true⟩) (.slice (some ⟨g,0,none⟩) z.toNat k.toNat) [] []:=by
 have h1:=IL (P:=P) (e:=e) (sz:=sz) (zs:=zs) hg hz hk hc
 have hn:¬g∈gs:=fun hm=>hl g hm hg
 refine⟨h1.own,u6,?_,fun q hq=>a6 _ _ fun(e':q=g)=>hn (by rw[←e'];exact hq),hl,fun q hq hb=> ?_⟩
 ·intro q en hq
  by_cases hm:q∈gs
  ·rw[rem_in hm]at hq;cases hq
  ·rw[bM hm]at hq
   have aZ:q≠g:=fun e'=>by rw[e',hg]at hq;cases hq
   refine⟨en,?_,.refl _⟩
   rw[bM,a6 _ _ aZ]
   ·exact hq
   ·intro h2
    rcases List.mem_append.1 h2 with h2 | h2
    ·exact hm h2
    ·exact aZ (List.mem_singleton.1 h2)
 ·have hb:q∈[g]:=hb
  exact hn (by rw[←List.mem_singleton.1 hb];exact hq)
section
variable {C:CK} {o:Bool} {H H' H0:Heap} {g:Nat} {G:GG} {R W m:Nat} {M:Nat→Nat→Rat} {B:Nat→Nat} {f:Nat→Rat}
theorem gS.cY{α:Type}{P:Heap→List Value→α→Prop}{e sz n c z:Nat}{l:List α}{xs:List Value}(h:ct C H0 G R W m M B)(hG:gS G.gs H0 P e sz H (.slice (some ⟨z,0,none⟩) n c) l xs):ct C H (G.on (z::G.top)) R W m M B∧Heap.le (rem H0 G.gs) (rem H (G.on (z::G.top)).gs)∧rem H (G.on (z::G.top)).gs=rem H (G.gs++az (.slice (some ⟨z,0,none⟩) n c)):=by
 have e1:rem H (G.on (z::G.top)).gs=rem H (G.gs++az (.slice (some ⟨z,0,none⟩) n c)):=aaJ fun q=>by
  show q∈z::G.gs↔q∈G.gs ++ [z]
  simp[or_comm]
 have hz:z∈az (.slice (some ⟨z,0,none⟩) n c):=List.mem_singleton.2 rfl
 have hm:¬z∈G.gs:=fun hm=>hG.apart z hm hz
 refine⟨h.Co (t:=z::G.top) (List.nodup_cons.2 ⟨hm,h.nd⟩) (fun q hq=> ?_) (fun q hq=>hG.same q (GG.kM hq)) (by rw[e1];exact hG.base),by rw[e1];exact hG.base,e1⟩
 rcases List.mem_cons.1 hq with rfl | hq
 ·exact hG.mQ q (List.mem_append_right _ hz)
 ·rw[hG.same q (GG.Cm hq)];exact h.top q hq
theorem QV.more{z c lJ:Nat}{A':Option Addr}(h:QV o H g (G.on (z::G.top)) R W m M B)(hg:g∈G.top)(aZ:z≠g)(hz:py vK (rem H (G.on (z::G.top)).gs) H z (aK f W))(ha:App H (.slice G.Ar R G.cr) 161 1 (R+1) (iT (G.rg ++ [(z,c)]) W) (.slice A' (R+1) lJ) H'):
  QV o (ins H' g ⟨[.slice A' (R+1) lJ,G.bv,.bool o],3,160,true⟩) g (G.more G.top z c A' lJ R) (R+1) W m (fun i=>if i=R then f else M i) B∧Heap.le (rem H (G.on (z::G.top)).gs) (rem (ins H' g ⟨[.slice A' (R+1) lJ,G.bv,.bool o],3,160,true⟩) (G.more G.top z c A' lJ R).gs)∧H' g=some ⟨[.slice G.Ar R G.cr,G.bv,.bool o],3,160,true⟩:=by
 obtain⟨h1,h2⟩:=h.cY.more hz ha
 have hm:g∈(G.more G.top z c A' lJ R).top:=hg
 have BP:g∈(G.more G.top z c A' lJ R).gs:=GG.Cm hm
 have hT:fS (G.more G.top z c A' lJ R).gs g H' (ins H' g ⟨[.slice A' (R+1) lJ,G.bv,.bool o],3,160,true⟩):=((Kept.refl _ _).iD g).ins BP _
 refine⟨⟨h1.Cp hm hT (by rw[bD];simp),hm,bD _ _ _⟩,h2.trans hT.le,?_⟩
 refine ha.same g _ h.st fun e=> ?_
 have hb:g∈(G.on (z::G.top)).hb:=by rw[h.cY.mh];exact cM.2 e
 exact GG.ub h.cY.nd (q:=g) (r:=g) (List.mem_cons_of_mem _ hg) (GG.Cn hb) rfl
theorem QV.less(h:QV o H g G (R+1) W m M B):∃H',Heap.le H' (ins H g ⟨[.slice G.Ar R G.cr,G.bv,.bool o],3,160,true⟩)∧QV o H' g (G.less R) R W m M B∧Heap.le (rem H G.gs) (rem H' (G.less R).gs)∧R≤G.cr:=by
 have hT:fS G.gs g H (ins H g ⟨[.slice G.Ar R G.cr,G.bv,.bool o],3,160,true⟩):=((Kept.refl _ _).iD g).ins h.mem _
 have h1:=h.cY.Cp h.gt hT (by rw[bD];simp)
 obtain⟨H',k1,k2,k3,k4,_,k5⟩:=h1.less
 exact⟨H',k1,⟨k2,h.gt,by rw[k4 g h.gt];exact bD _ _ _⟩,hT.le.trans k3,k5⟩
end
structure Jd(H:Heap)(Ar:Option Addr)(Ab:Option Addr)(rg:List (Nat×Nat))(m W:Nat)(M:Nat→Nat→Rat)(B:Nat→Nat):Prop where
 len:rg.length=m
 kR:Rd H Ar (iT rg W)
 row:∀(i:Nat)(p:Nat×Nat),rg[i]? = some p→∃xs,Rd H (some ⟨p.1,0,none⟩) xs∧bC (bZ H) 3 xs (aK (M i) W)
 sQ:Rd H Ab (eL B m)
theorem Jd.le{H H':Heap}{Ar Ab:Option Addr}{rg:List (Nat×Nat)}{m W:Nat}{M:Nat→Nat→Rat}{B:Nat→Nat}(h:Jd H Ar Ab rg m W M B)(hl:Heap.le H H'):Jd H' Ar Ab rg m W M B:=
 ⟨h.len,h.kR.le hl,fun i p hp=>by
  obtain⟨xs,h1,h2⟩:=h.row i p hp
  exact⟨xs,h1.le hl,h2.mono fun vs a=>dY _ _ vs a hl⟩,h.sQ.le hl⟩
theorem ajQ{H H':Heap}(gs:List Nat)(hl:Heap.le H H')(aZ:∀q,q∈gs→H q≠none):∃sX,Heap.le sX H'∧Kept gs H sX:=by
 refine⟨fun q=>if q∈gs then H q else H' q,fun q en hq=> ?_,fun q en hq=> ?_,fun q hq=>by simp[hq]⟩
 ·by_cases hm:q∈gs
  ·simp only[hm,if_true]at hq;exact hl q en hq
  ·simp only[hm,if_false]at hq;exact⟨en,hq,.refl _⟩
 ·by_cases hm:q∈gs
  ·rw[rem_in hm]at hq;cases hq
  ·rw[bM hm]at hq
   rw[bM hm]
   simp only[hm,if_false];exact hl q en hq
end Go.au
namespace Go.au
open Go.Proofs Num Lp
structure KQ(gs:List Nat)(H:Heap)(q:Rat)(v:Value)(H':Heap):Prop where
 kept:Kept gs H H'
 le:Heap.le H H'
 val:∃t:RC,v=t.v∧bJ (rem H' gs) t.v q
theorem Fn.kq{P:Program}{f:FuncId}{args:Array Value}{H:Heap}{gs:List Nat}{q:Rat}(jM:∀g,g∈gs→H g≠none)(h:Fn P f args (rem H gs) (kp (rem H gs) q)):Fn P f args H (KQ gs H q):=
 (Fn.frame jM h.rc).mono fun v H' hf=>⟨.of hf fun v K hp=>hp.1,hf.le fun v K hp=>hp.1,hf.post.2⟩
theorem mm{K:Heap}{xs:List Value}{f:Nat→Rat}{W k:Nat}(h:bC (bZ K) 3 xs (aK f W))(hk:k<W):∃t:RC,bJ K t.v (f k)∧∀(j:Nat)(v:Value),[.bool t.f,.slice t.A1 t.m1 t.c1,.slice t.A2 t.m2 t.c2][j]? = some v→xs[k*3+j]? = some v:=by
 obtain⟨vs,_,h2,h3⟩:=h.get (dJ hk)
 obtain⟨t,e⟩:=bJ.rc (show bJ K (.agg vs.toArray) (f k)from h2)
 have e2:=y8 e
 subst e2
 exact⟨t,h2,h3⟩
theorem aaK{K:Heap}{xs vs:List Value}{f:Nat→Rat}{n k:Nat}{q:Rat}(h:bC (bZ K) 3 xs (aK f n))(hk:k<n)(hv:bZ K vs q):bC (bZ K) 3 (aL xs (k*3) vs) (aK (bV f k q) n):=by
 rw[←Qt]
 exact h.set (by rw[bg];exact hk) hv (iF.len _ _ _ hv)
section
variable {K H H':Heap} {G:GG} {R W m:Nat} {M M':Nat→Nat→Rat} {B:Nat→Nat} {u u':Value} {l:List Nat} {f:Nat→Rat}
theorem ct.hd{C:CK}(h:ct C H G R W m M B):Rd H G.Ar (iT G.rg W):=h.rows.rd
theorem ct.sQ{C:CK}(h:ct C H G R W m M B):∃Ab cb,G.bv = .slice Ab m cb∧∀{H' t R' M' B'},ct C H' (G.on t) R' W m M' B'→∀i,i<m→Rd H' Ab (eL B' m):=by
 rcases h.basis with ⟨h1,h2,h3⟩ | ⟨gb,cb,sz,h1,h2,h3⟩
 ·exact⟨none,0,by rw[h3,h1],fun _ i hi=>by omega⟩
 ·refine⟨_,cb,h2,fun h' i hi=> ?_⟩
  rcases h'.basis with ⟨k1,k2,k3⟩ | ⟨Cw,M6,eS,k1,k2,k3⟩
  ·omega
  ·have k1:G.bb = [Cw]:=k1
   rw[h1]at k1;cases k1;exact dS k3
theorem ct.q6(h:ct iF H G R W m M B){i:Nat}{p:Nat×Nat}(hp:G.rg[i]? = some p):∃xs sz,H p.1=some ⟨xs,sz,31,true⟩∧bC (bZ (rem H G.gs)) 3 xs (aK (M i) W):=h.row i p hp
theorem ct.ajR(h:ct iF H G R W m M B){i:Nat}{p:Nat×Nat}(hp:G.rg[i]? = some p)(iK:Kept G.gs H H'){xs:List Value}{sz:Nat}(hx:H p.1=some ⟨xs,sz,31,true⟩)(iw:bC (bZ (rem H G.gs)) 3 xs (aK (M i) W)){k:Nat}(hk:k<W){vs:List Value}{q:Rat}(hv:bZ (rem H' G.gs) vs q):
  ct iF (ins H' p.1 ⟨aL xs (k*3) vs,sz,31,true⟩) G R W m (iA M i (bV (M i) k q)) B∧Heap.le (rem H G.gs) (rem (ins H' p.1 ⟨aL xs (k*3) vs,sz,31,true⟩) G.gs):=by
 have hm:=GG.kM (GG.gJ hp)
 have h1:=h.kept iK
 have hT:fS G.gs p.1 H' (ins H' p.1 ⟨aL xs (k*3) vs,sz,31,true⟩):=((Kept.refl _ _).iD p.1).ins hm _
 refine⟨h1.setRow hp hT ⟨_,_,bD _ _ _,?_⟩,iK.le.trans hT.le⟩
 rw[cF _ hm]
 exact aaK (iw.mono fun vs a=>dY _ _ vs a iK.le) hk hv
theorem ct.fresh{C:CK}(h:ct C H G R W m M B){k:Nat}{e:Ent}(hk:H k=none):ct C (ins H k e) G R W m M B∧Heap.le (rem H G.gs) (rem (ins H k e) G.gs):=by
 have hm:¬k∈G.gs:=fun hm=>h.ne k hm hk
 have hl:Heap.le (rem H G.gs) (rem (ins H k e) G.gs):=by
  rw[rM _ hm]
  exact Heap.bB _ (by rw[bM hm];exact hk)
 exact⟨h.kept ⟨hl,fun q hq=>a6 _ _ fun(e':q=k)=>hm (by rw[←e'];exact hq)⟩,hl⟩
theorem ct.CE{C:CK}(h:ct C H G R W m M B)(hM:∀i,i<R→∀j,j<W→M' i j=M i j):ct C H G R W m M' B:=h.congr hM fun _ _=>rfl
structure GU(K H:Heap)(G:GG)(R W m:Nat)(M:Nat→Nat→Rat)(B:Nat→Nat)(u:Value)(l:List Nat):Prop where
 q:ct iF H (G.on (az u++G.top)) R W m M B
 own:bW H u 3 1 l.length (vL l)
 le:Heap.le K (rem H (G.on (az u++G.top)).gs)
theorem GU.step(h:GU K H G R W m M B u l)(hq:ct iF H' (G.on (az u++G.top)) R W m M' B)(hl:Heap.le (rem H (G.on (az u++G.top)).gs) (rem H' (G.on (az u++G.top)).gs))(hs:∀q,q∈az u→H' q=H q):GU K H' G R W m M' B u l:=
 ⟨hq,h.own.same fun q pK=>hs q (cM.2 pK),h.le.trans hl⟩
theorem GU.kept(h:GU K H G R W m M B u l)(k:Kept (G.on (az u++G.top)).gs H H'):GU K H' G R W m M B u l:=h.step (h.q.kept k) k.le fun q hq=>k.same q (QU.xL hq)
theorem GU.set(h:GU K H G R W m M B u l){i:Nat}{p:Nat×Nat}(hp:G.rg[i]? = some p)(iK:Kept (G.on (az u++G.top)).gs H H'){xs:List Value}{sz:Nat}(hx:H p.1=some ⟨xs,sz,31,true⟩)(iw:bC (bZ (rem H (G.on (az u++G.top)).gs)) 3 xs (aK (M i) W)){k:Nat}(hk:k<W){vs:List Value}{q:Rat}(hv:bZ (rem H' (G.on (az u++G.top)).gs) vs q):
  GU K (ins H' p.1 ⟨aL xs (k*3) vs,sz,31,true⟩) G R W m (iA M i (bV (M i) k q)) B u l:=by
 obtain⟨h1,h2⟩:=h.q.ajR (G:=G.on (az u++G.top)) hp iK hx iw hk hv
 refine h.step h1 h2 fun r hr=> ?_
 rw[a6 _ _ (fun e=>GG.ub h.q.nd (q:=r) (r:=p.1) (List.mem_append_left _ hr) (GG.gJ (G:=G.on (az u++G.top)) hp) e)]
 exact iK.same r (QU.xL hr)
theorem GU.app(h:GU K H G R W m M B u l){k n:Nat}(hn:n=l.length+1)(ha:App H u 3 1 n (vL l ++ [.int .i64 (k:Int)]) u' H'):GU K H' G R W m M B u' (l ++ [k]):=by
 obtain⟨h1,h2⟩:=h.q.app ha
 refine⟨h1,?_,h.le.trans h2⟩
 have:=ha.own
 rw[hn]at this
 rw[List.length_append,vL,List.map_append];exact this
theorem GU.fresh(h:GU K H G R W m M B u l){k:Nat}{e:Ent}(hk:H k=none):GU K (ins H k e) G R W m M B u l:=by
 obtain⟨h1,h2⟩:=h.q.fresh (e:=e) hk
 exact h.step h1 h2 fun q hq=>a6 _ _ fun(e':q=k)=>h.q.ne q (QU.xL hq) (by rw[e'];exact hk)
theorem GU.od(h:GU K H G R W m M B u l):GU (rem H (G.on (az u++G.top)).gs) H G R W m M B u l:=⟨h.q,h.own,.refl _⟩
theorem GU.down{K':Heap}(h:GU K H G R W m M B u l)(hl:Heap.le K' K):GU K' H G R W m M B u l:=⟨h.q,h.own,hl.trans h.le⟩
theorem GU.drop(h:GU K H G R W m M B u l):ct iF H G R W m M B∧Heap.le K (rem H G.gs):=by
 have hl:Heap.le (rem H (G.on (az u++G.top)).gs) (rem H G.gs):=EP fun q hq=>by
  rw[GG.xJ,List.append_assoc];exact List.mem_append_right _ hq
 have dT:=h.q.nd
 rw[GG.xJ,List.append_assoc]at dT
 exact⟨h.q.Co (t:=G.top) (List.nodup_append.1 dT).2.1 (fun q hq=>h.q.top q (List.mem_append_right _ hq)) (fun _ _=>rfl) hl,h.le.trans hl⟩
theorem GU.rd{A:Option Addr}{n c:Nat}(h:GU K H G R W m M B (.slice A n c) l):Rd H A (vL l):=by
 have h1:=h.own
 obtain⟨A',c',e⟩:=h1.form
 cases e
 exact h1.rd
end
end Go.au
namespace Go.au
open Go.Proofs Num Lp
theorem aaL{H:Heap}{G:GG}{R W m N:Nat}{M:Nat→Nat→Rat}{B:Nat→Nat}{r c:Nat}(h:ct iF H G R W m M B)(hr:r<m)(fy:r<R)(hc:c<W)(hp:M r c≠0)(hz:∀i,i<R→∀j,j<W→aO (M i j)≤N)(Qj:∀i,i<R→∀j,j<W→aO (mj M r c i j)≤N)(hN:(N:Int)≤200000000000)(hR:(R:Int)≤1000000)(hW:(W:Int)≤1000000):
 Fn Tryz.prog 68 #[.agg #[.slice G.Ar R G.cr,G.bv],.int .i64 (r:Int),.int .i64 (c:Int)] H (fun _ H'=>∃M',ct iF H' G R W m M' (fun i=>if i=r then c else B i)∧(∀i,i<R→∀j,j<W→M' i j=mj M r c i j)∧Heap.le (rem H G.gs) (rem H' G.gs)):=by
 obtain⟨pr,cU⟩:=h.get fy
 obtain⟨Ab,cb,dh,fV⟩:=h.sQ
 rw[dh]
 obtain⟨xr0,sr0,tl,IT⟩:=h.q6 cU
 obtain⟨t0,KJ,mE⟩:=mm IT hc
 have ji:=hz r fy c hc
 have aaM:∀j,j<W→aO (M r j/M r c)≤N:=fun j hj=>by
  have:=Qj r fy j hj
  unfold mj at this;rwa [if_pos rfl]at this
 have hinv:aO (1/M r c)≤N:=by
  have e:(1:Rat)/M r c=(M r c)⁻¹:=by rw[Rat.div_def];grind
  rw[e];exact Nat.le_trans (Xk _) ji
 refine a7 (args:=[_,_,_]) Tryz.func68 rfl rfl Tryz.ntmps68 rfl rfl fun w0=> ?_;refine aj [0,1,2] rfl ?_;refine ag (bX rfl rfl (ae [1,2,3] ?_));refine bO .bL [1,2,3,4,5,6,7,8,0,9,10,11,12,13,14,15] follows (iz [0,0,2,0,14,30,0,126,254,511,1023,2047,2047,0,12287,32767] (by kernel_rfl)) ?_;refine ab 3 rfl (aQ ah rfl rfl rfl rfl rfl (h.hd) (by rw[Int.toNat_natCast];exact kA (rg:=G.rg) (W:=_) cU) (by omega) (by omega) fun _=> ?_);refine ab 1 rfl (ck (vs:=[.bool t0.f,.slice t0.A1 t0.m1 t0.c1,.slice t0.A2 t0.m2 t0.c2]) ah rfl rfl rfl rfl (dS tl) rfl (by decide) (by rw[Int.toNat_natCast];exact mE) (by omega) (by omega) fun _=> ?_);refine bm rfl rfl (Fn.kq h.ne (pX (n:=1) (by decide) (by decide))) (fun _ _ h=>by first | exact h.le | exact h.1) ?_;rintro v5 H5 Je;obtain⟨t5,rfl,ep⟩:=Je.val;rw[show ((1:Int):Rat)=1 from rfl]at ep
 have lR:aO (1:Rat)≤2:=by decide
 have h5:=h.kept Je.kept;have anA:=(Je.kept.same _ (GG.kM (GG.gJ cU))).trans tl;refine bm rfl rfl (Fn.frame h5.ne (QR (N:=N+4) ((bJ.raw ep).mono (by omega)) ((bJ.raw (KJ.le Je.kept.le)).mono (by omega)) (by omega))) (fun _ _ h=>h.le fun _ _ h=>h.1) ?_;rintro _ H6 iH;have hK6:Kept G.gs H5 H6:= .of iH fun v K hp=>hp.1;obtain⟨_,w6,rfl,jO⟩:=iH.post;obtain⟨t6,rfl⟩:=jO.rc;have h6:=h5.kept hK6;have rV:=Je.kept.le.trans hK6.le;have SL:GU (rem H6 G.gs) H6 G R W m (iA M r (M r)) B (.slice none 0 0) (eJ (M r) 0):=⟨by rw[MV];exact h6,lk _ _ _,.refl _⟩;refine ab 3 rfl (bt bY rfl ?_);obtain⟨ti,ak,al⟩:=aY;refine aH (.inl ⟨rfl,rfl⟩) rfl rfl rfl ak al rfl rfl rfl (ab 1 rfl (ae [1,2,3,6] ?_));refine ag (ab 1 rfl (ae [1,2,3,6,8] ?_));refine ao (ag (ab 3 rfl (aQ ah rfl rfl rfl rfl rfl (h6.hd) (by rw[Int.toNat_natCast];exact kA (rg:=G.rg) (W:=_) cU) (by omega) (by omega) fun _=> ?_)));refine ab 2 rfl (ae [1,2,3,6,8,32,33] ?_);refine aF (fZ (fun(k:Nat)(u:Value)(f:Nat→Rat)=>W-k) (fun(k:Nat)(u:Value)(f:Nat→Rat)=>put (put (put (put (put (put (put (emp) 1 (.val (.int .i64 (r:Int)))) 2 (.val (.int .i64 (c:Int)))) 3 (.box [.slice G.Ar R G.cr,.slice Ab m cb])) 6 (.box [.bool t6.f,.slice t6.A1 t6.m1 t6.c1,.slice t6.A2 t6.m2 t6.c2])) 8 (.val (u))) 32 (.val (.int .i64 (W:Int)))) 33 (.val (.int .i64 (k:Int)))) (fun(k:Nat)(u:Value)(f:Nat→Rat) H'=>GU (rem H6 G.gs) H' G R W m (iA M r f) B u (eJ (M r) k)∧Pv1 false false M r c W k f∧k≤W) 0 (.slice none 0 0) (M r) (⟨SL,⟨fun _ _=>rfl,fun h9=>⟨h9,fun j hj=>absurd hj (Nat.not_lt_zero _)⟩⟩,Nat.zero_le _⟩) ar ?_)
 rintro k u f H7 ⟨hU,hP,hk⟩;obtain⟨A7,c7,rfl⟩:=hU.own.form;obtain⟨SM,sr7,Cu,xM⟩:=hU.q.q6 (G:=G.on _) cU;rw[pA]at xM;have SN:=xM.len;rw[bg]at SN;have ze:=aad (M r) k;refine ag (ab 1 rfl (ae [1,2,3,6,8,32,33,34] ?_));refine ao (aC rfl (fun hb=> ?_) (fun hb=> ?_))
 ·
  have fm:k<W:=by simpa using hb
  obtain⟨t7,sE,sG⟩:=mm xM fm;have e7:=hP.1 k (Nat.le_refl _);have Tp:=hz r fy k fm;have anB:=aaM k fm;refine aA (aj [1,2,3,6,8,32,33] rfl ?_);refine ao (aF (ag (ab 2 rfl (ae [1,2,3,6,8,9,32,33] ?_))));refine ag (ab 3 rfl (aQ ah rfl rfl rfl rfl rfl (hU.q.hd) (by rw[Int.toNat_natCast];exact kA (rg:=G.rg) (W:=_) cU) (by omega) (by omega) fun _=> ?_));refine ab 1 rfl (ck (vs:=[.bool t7.f,.slice t7.A1 t7.m1 t7.c1,.slice t7.A2 t7.m2 t7.c2]) ah rfl rfl rfl rfl (dS Cu) rfl (by decide) (by rw[Int.toNat_natCast];exact sG) (by omega) (by omega) fun _=> ?_);refine aE rfl rfl (Fn.l0 hU.q.ne (xB (bJ.raw sE) (by rw[e7];omega))) ?_;rintro v8 H8 ⟨qV,zi,rfl⟩;have xN:=hU.kept qV;have IU:=(qV.same _ (GG.kM (GG.gJ (G:=G.on _) cU))).trans Cu;refine ab 1 rfl (ae [1,2,3,6,8,9,32,33,45] ?_);refine aC rfl (fun hb=> ?_) (fun hb=> ?_)
  ·
   have aZ:M r k≠0:=fun h9=>by rw[e7,h9]at hb;simp[gZ]at hb
   refine bO .gD [0,1,2,3,4,5,6,7,8,9,10,11,12,13,14,15,16,17] follows (iz [0,1,0,7,15,0,0,64,0,448,960,0,4032,8128,0,32704,65535,131071] (by kernel_rfl)) ?_;refine ab 3 rfl (aQ ah rfl rfl rfl rfl rfl (xN.q.hd) (by rw[Int.toNat_natCast];exact kA (rg:=G.rg) (W:=_) cU) (by omega) (by omega) fun _=> ?_);refine ab 4 rfl (aQ ah rfl rfl rfl rfl rfl (xN.q.hd) (by rw[Int.toNat_natCast];exact kA (rg:=G.rg) (W:=_) cU) (by omega) (by omega) fun _=> ?_);refine ab 1 rfl (ck (vs:=[.bool t7.f,.slice t7.A1 t7.m1 t7.c1,.slice t7.A2 t7.m2 t7.c2]) ah rfl rfl rfl rfl (dS IU) rfl (by decide) (by rw[Int.toNat_natCast];exact sG) (by omega) (by omega) fun _=> ?_);refine ab 1 rfl (bm rfl rfl (Fn.kq xN.q.ne (LW (N:=N) ((bJ.raw (sE.le qV.le)).mono (by rw[e7];omega)) ((bJ.raw (jO.le xN.le)).mono hinv) (by omega))) (fun _ _ h=>by first | exact h.le | exact h.1) ?_);rintro v9 H9 Tq;obtain⟨t9,rfl,fJ⟩:=Tq.val;have ajS:=(Tq.kept.same _ (GG.kM (GG.gJ (G:=G.on _) cU))).trans IU;have qY:=xN.set cU Tq.kept IU (by rw[pA];exact xM.mono fun vs a=>dY _ _ vs a qV.le) fm (show bZ _ [_,_,_] _ from fJ);rw[pA,MU]at qY;obtain⟨ti,ak,al⟩:=aY;refine cQ (.inr rfl) ah rfl rfl rfl (by omega) (by omega) (ajS) rfl (by show 0+W*3≤SM.length;omega) ak al (fun _=>rfl) rfl rfl rfl fun _=> ?_
   refine ae [1,2,3,6,8,9,32,33] ?_;rw[Nat.zero_add,Int.toNat_natCast];refine aB rfl (ab 2 rfl (cW Tryz.underlying94 jb rfl rfl rfl rfl rfl rfl rfl ?_));intro gb bx;have qY:=qY.fresh (e:=whole [.int .i64 (k:Int)] 3) bx;refine dR Tryz.underlying94 jb rfl rfl (qY.own) (dD _ _ _ _ _ _) (rfl) (sA _) (by omega) (by omega) ?_;intro u' vt IV;have SO:=qY.app rfl IV;refine ab 1 rfl (aw (aj [1,2,3,6,8,32,33] rfl ?_));refine aB rfl (aG rfl rfl ⟨by omega,by omega⟩ (ab 1 rfl (aw ?_)))
   exact⟨k+1,u',bV f k (f k*(1/M r c)),by omega,ar,by rw[MT,if_neg aZ];exact SO,⟨fun j hj=>by rw[pz (by omega)];exact hP.1 j (by omega),fun h9=>by
    obtain⟨g3,g4⟩:=hP.2 h9;refine⟨g3,fun j hj=> ?_⟩
    by_cases ej:j=k
    ·
     subst ej;rw[qX,hP.1 j (Nat.le_refl _),Rat.div_def,Rat.div_def];grind
    ·rw[pz ej];exact g4 j (by omega)⟩,by omega⟩
  ·
   have zP:M r k=0:=by rw[←e7];exact tH (by simpa using hb)
   refine aA (aj [1,2,3,6,8,32,33] rfl ?_);refine aB rfl (aG rfl rfl ⟨by omega,by omega⟩ (ab 1 rfl (aw ?_)))
   exact⟨k+1,_,f,by omega,ar,by rw[MT,if_pos zP,List.append_nil];exact xN,⟨fun j hj=>hP.1 j (by omega),fun h9=>by
    obtain⟨g3,g4⟩:=hP.2 h9;refine⟨g3,fun j hj=> ?_⟩
    by_cases ej:j=k
    ·
     subst ej;rw[hP.1 j (Nat.le_refl _),zP,Rat.div_def];grind
    ·exact g4 j (by omega)⟩,by omega⟩
 ·
  have hb:W≤k:=by simpa using hb
  obtain rfl:k=W:=by omega
  have SP:zG false false M r c R k 0 (iA M r f):=⟨fun i _ hi=>ER hi,fun h9=>by
   obtain⟨g3,g4⟩:=hP.2 h9;refine⟨g3,fun i _ j hj hd=> ?_⟩
   obtain rfl:i=r:=by omega
   rw[pA,g4 j hj];unfold mj;rw[if_pos rfl]⟩
  have dT:=aae (M r) k;refine aV (aj [1,2,3,8] rfl ?_);refine ao (ag (ab 4 rfl (ae [1,2,3,8,70,71] ?_)));refine aF (gX (fun(i:Nat)(M1:Nat→Nat→Rat)=>R-i) (fun(i:Nat)(M1:Nat→Nat→Rat)=>put (put (put (put (put (put (emp) 1 (.val (.int .i64 (r:Int)))) 2 (.val (.int .i64 (c:Int)))) 3 (.box [.slice G.Ar R G.cr,.slice Ab m cb])) 8 (.val (.slice A7 (eJ (M r) k).length c7))) 70 (.val (.int .i64 (R:Int)))) 71 (.val (.int .i64 (i:Int)))) (fun(i:Nat)(M1:Nat→Nat→Rat) H'=>GU (rem H6 G.gs) H' G R k m M1 B (.slice A7 (eJ (M r) k).length c7) (eJ (M r) k)∧zG false false M r c R k i M1∧i≤R) 0 (iA M r f) (⟨hU,SP,Nat.zero_le _⟩) ar ?_);rintro i M1 ks ⟨hV,hQ,hi⟩;refine ag (ab 1 rfl (ae [1,2,3,8,70,71,72] ?_));refine ao (aC rfl (fun hb=> ?_) (fun hb=> ?_))
  ·
   have ue:i<R:=by simpa using hb
   obtain⟨pi,cS⟩:=h.get ue;obtain⟨ajg,ajh,IW,SQ⟩:=hV.q.q6 (G:=G.on _) cS;obtain⟨t11,sH,EK⟩:=mm SQ hc;refine aA (aj [1,2,3,8,70,71] rfl ?_);refine ao (aF (ag (ab 2 rfl (ae [1,2,3,8,10,70,71] ?_))));refine ao ?_
   by_cases h1:i=r
   ·
    skip
    refine ag (ab 2 rfl (aI true rfl rfl (jY (by omega)) (ab 12 rfl (ae [1,2,3,8,10,70,71,88] ?_))));refine dN rfl (aV (aj [1,2,3,8,70,71] rfl ?_));refine aB rfl (aG rfl rfl ⟨by omega,by omega⟩ (ab 1 rfl (aw ?_)));exact⟨i+1,M1,by omega,ar,hV,MW hQ hc ue (.inl h1),by omega⟩
   have Jf:M1 i=M i:=hQ.1 i (Nat.le_refl _) h1;have ZK:=hz i ue c hc;refine ag (ab 2 rfl (aI false rfl rfl (ln (by omega)) (ab 4 rfl (aQ ah rfl rfl rfl rfl rfl (hV.q.hd) (by rw[Int.toNat_natCast];exact kA (rg:=G.rg) (W:=_) cS) (by omega) (by omega) fun _=> ?_))));refine ab 1 rfl (ck (vs:=[.bool t11.f,.slice t11.A1 t11.m1 t11.c1,.slice t11.A2 t11.m2 t11.c2]) ah rfl rfl rfl rfl (dS IW) rfl (by decide) (by rw[Int.toNat_natCast];exact EK) (by omega) (by omega) fun _=> ?_);refine aE rfl rfl (Fn.l0 hV.q.ne (xB (bJ.raw sH) (by rw[Jf];omega))) ?_;rintro v12 dK ⟨zq,nE,rfl⟩;have ES:=hV.kept zq;have ajT:=(zq.same _ (GG.kM (GG.gJ (G:=G.on _) cS))).trans IW;have ajU:=sH.le zq.le;refine ab 2 rfl (ae [1,2,3,8,10,70,71,88] ?_);refine aC rfl (fun hb=> ?_) (fun hb=> ?_)
   ·
    skip
    refine aV (aj [1,2,3,8,70,71] rfl ?_);refine aB rfl (aG rfl rfl ⟨by omega,by omega⟩ (ab 1 rfl (aw ?_)));exact⟨i+1,M1,by omega,ar,ES,MW hQ hc ue (.inr (tH (by simpa using hb))),by omega⟩
   skip
   refine aA (aj [1,2,3,8,10,70,71] rfl ?_);refine ag (ab 3 rfl (aQ ah rfl rfl rfl rfl rfl (ES.q.hd) (by rw[Int.toNat_natCast];exact kA (rg:=G.rg) (W:=_) cS) (by omega) (by omega) fun _=> ?_));refine ab 1 rfl (ck (vs:=[.bool t11.f,.slice t11.A1 t11.m1 t11.c1,.slice t11.A2 t11.m2 t11.c2]) ah rfl rfl rfl rfl (dS ajT) rfl (by decide) (by rw[Int.toNat_natCast];exact EK) (by omega) (by omega) fun _=> ?_);refine bt bY rfl ?_;obtain⟨ti,ak,al⟩:=aY;refine aH (.inl ⟨rfl,rfl⟩) rfl rfl rfl ak al rfl rfl rfl (ae [1,2,3,8,10,11,70,71] ?_);have IX:=ES.od;rw[←MV M1 i]at IX;refine ag (ab 3 rfl (ae [1,2,3,8,10,11,70,71,97,98,99] ?_));refine aF (gX (fun(t:Nat)(f2:Nat→Rat)=>(eJ (M r) k).length-t) (fun(t:Nat)(f2:Nat→Rat)=>put (put (put (put (put (put (put (put (put (put (put (emp) 1 (.val (.int .i64 (r:Int)))) 2 (.val (.int .i64 (c:Int)))) 3 (.box [.slice G.Ar R G.cr,.slice Ab m cb])) 8 (.val (.slice A7 (eJ (M r) k).length c7))) 10 (.val (.int .i64 (i:Int)))) 11 (.box [.bool t11.f,.slice t11.A1 t11.m1 t11.c1,.slice t11.A2 t11.m2 t11.c2])) 70 (.val (.int .i64 (R:Int)))) 71 (.val (.int .i64 (i:Int)))) 97 (.val (.slice A7 (eJ (M r) k).length c7))) 98 (.val (.int .i64 ((eJ (M r) k).length:Int)))) 99 (.val (.int .i64 (t:Int)))) (fun(t:Nat)(f2:Nat→Rat) H'=>GU (rem dK (G.on (az (.slice A7 (eJ (M r) k).length c7)++G.top)).gs) H' G R k m (iA M1 i f2) B (.slice A7 (eJ (M r) k).length c7) (eJ (M r) k)∧IS false false (M1 i) (M1 r) (M1 i c) (eJ (M r) k) t f2∧t≤(eJ (M r) k).length) 0 (M1 i) (⟨IX,fun h9=>⟨h9,fun j=>by simp⟩,Nat.zero_le _⟩) ar ?_)
   rintro t f2 ma ⟨hX,ET,ht⟩;obtain⟨MX,aao,zH,ug⟩:=hX.q.q6 (G:=G.on _) cS;obtain⟨ajk,ajl,SR,IZ⟩:=hX.q.q6 (G:=G.on _) cU;rw[pA]at ug;rw[ER (fun e=>h1 e.symm)]at IZ;have SS:=ug.len;rw[bg]at SS;refine ag (ab 1 rfl (ae [1,2,3,8,10,11,70,71,97,98,99,100] ?_));refine ao (aC rfl (fun hb=> ?_) (fun hb=> ?_))
   ·
    have jq:t<(eJ (M r) k).length:=by simpa using hb
    obtain⟨kk,bT⟩:∃kk,(eJ (M r) k)[t]? = some kk:=⟨_,List.getElem?_eq_getElem jq⟩;have fm:kk<k:=(SK.1 (List.mem_of_getElem? bT)).1;obtain⟨t13,ajV,SU⟩:=mm ug fm;obtain⟨t14,xO,I0⟩:=mm IZ fm
    have e13:f2 kk=M i kk:=by rw[(ET rfl).2 kk,if_neg (aaf dT bT),Jf]
    have xU:M1 r kk=M r kk/M r c:=by rw[(hQ.2 rfl).2 r fy kk fm (.inl rfl)];unfold mj;rw[if_pos rfl]
    have z13:=hz i ue kk fm;have z14:=aaM kk fm;have z15:=vc (M1 i c) (M1 r kk);rw[Jf,xU]at z15;refine aA (aj [1,2,3,8,10,11,70,71,97,98,99] rfl ?_);refine ao (aF (ag (aQ ah rfl rfl rfl rfl rfl (hX.rd) (by rw[Int.toNat_natCast];show (List.map _ _)[t]? = _;rw[List.getElem?_map,bT];rfl) (by omega) (by omega) fun _=> ?_)));refine ab 1 rfl (ae [1,2,3,8,10,11,13,70,71,97,98,99] ?_);refine eu .gD [0,1,2,3,4,5,6,7,8,9,10,11,12,13,14,15,16,17,18,19,20,21,22,23,24,25,26] follows (iz [0,1,0,7,15,0,0,64,0,448,960,0,4032,8128,0,0,32768,0,229376,491520,0,2064384,4161536,8372224,16777152,33554431,67108863] (by kernel_rfl)) ?_;refine ab 3 rfl (aQ ah rfl rfl rfl rfl rfl (hX.q.hd) (by rw[Int.toNat_natCast];exact kA (rg:=G.rg) (W:=_) cS) (by omega) (by omega) fun _=> ?_);refine ab 4 rfl (aQ ah rfl rfl rfl rfl rfl (hX.q.hd) (by rw[Int.toNat_natCast];exact kA (rg:=G.rg) (W:=_) cS) (by omega) (by omega) fun _=> ?_);refine ab 1 rfl (ck (vs:=[.bool t13.f,.slice t13.A1 t13.m1 t13.c1,.slice t13.A2 t13.m2 t13.c2]) ah rfl rfl rfl rfl (dS zH) rfl (by decide) (by rw[Int.toNat_natCast];exact SU) (by omega) (by omega) fun _=> ?_);refine ab 4 rfl (aQ ah rfl rfl rfl rfl rfl (hX.q.hd) (by rw[Int.toNat_natCast];exact kA (rg:=G.rg) (W:=_) cU) (by omega) (by omega) fun _=> ?_)
    refine ab 1 rfl (ck (vs:=[.bool t14.f,.slice t14.A1 t14.m1 t14.c1,.slice t14.A2 t14.m2 t14.c2]) ah rfl rfl rfl rfl (dS SR) rfl (by decide) (by rw[Int.toNat_natCast];exact I0) (by omega) (by omega) fun _=> ?_);refine bm rfl rfl (Fn.kq hX.q.ne (LW (N:=N) ((bJ.raw (ajU.le hX.le)).mono (by rw[Jf];omega)) ((bJ.raw xO).mono (by rw[xU];omega)) (by omega))) (fun _ _ h=>by first | exact h.le | exact h.1) ?_;rintro v14 qb Jg;obtain⟨t15,rfl,I1⟩:=Jg.val;have aaN:=hX.kept Jg.kept;have Nr:=(Jg.kept.same _ (GG.kM (GG.gJ (G:=G.on _) cS))).trans zH;refine bm rfl rfl (Fn.kq aaN.q.ne (Ej (N:=2*N) ((bJ.raw (ajV.le Jg.kept.le)).mono (by rw[e13];omega)) ((bJ.raw I1).mono (by rw[Jf,xU];omega)) (by omega))) (fun _ _ h=>by first | exact h.le | exact h.1) ?_;rintro SV mP Tr;obtain⟨t16,rfl,ajW⟩:=Tr.val;have SX:=(Tr.kept.same _ (GG.kM (GG.gJ (G:=G.on _) cS))).trans Nr;have I3:=aaN.set cS Tr.kept Nr (by rw[pA];exact ug.mono fun vs a=>dY _ _ vs a Jg.kept.le) fm (show bZ _ [_,_,_] _ from ajW);rw[pA,MU]at I3;obtain⟨ti,ak,al⟩:=aY;refine cQ (.inr rfl) ah rfl rfl rfl (by omega) (by omega) (SX) rfl (by show 0+k*3≤MX.length;omega) ak al (fun _=>rfl) rfl rfl rfl fun _=> ?_;refine aw ?_;rw[Nat.zero_add,Int.toNat_natCast];refine aj [1,2,3,8,10,11,70,71,97,98,99] rfl ?_
    refine aB rfl (aG rfl rfl ⟨by omega,by omega⟩ (ab 1 rfl (aw ?_)));exact⟨t+1,bV f2 kk (f2 kk-M1 i c*M1 r kk),by omega,ar,I3,aag ET dT bT fun h9=>⟨h9,rfl⟩,by omega⟩
   have jq:(eJ (M r) k).length≤t:=by simpa using hb
   obtain rfl:t=(eJ (M r) k).length:=by omega
   refine aV (aj [1,2,3,8,70,71] rfl ?_);refine aB rfl (aG rfl rfl ⟨by omega,by omega⟩ (ab 1 rfl (aw ?_)));exact⟨i+1,iA M1 i f2,by omega,ar,hX.down ES.le,aah hQ hc fy h1 ET,by omega⟩
  have ue:R≤i:=by simpa using hb
  obtain rfl:i=R:=by omega
  obtain⟨hD,EU⟩:=hV.drop
  obtain⟨gb,cb9,sz,lx,Jh,bx⟩:∃gb cb sz,G.bb = [gb]∧G.bv = .slice (some ⟨gb,0,none⟩) m cb∧ks gb=some ⟨eL B m,sz,3,true⟩:=by
   rcases hD.basis with h7 | h7
   ·have:=h7.1;omega
   ·exact h7
  have hm:gb∈G.gs:=GG.kM (GG.mK (by rw[lx];exact List.mem_singleton.2 rfl));have eAb:Ab=some ⟨gb,0,none⟩:=(Value.slice.inj (dh.symm.trans Jh)).1;subst eAb;refine aV (aj [1,2,3] rfl ?_);refine aB rfl (vr 4 ?_);obtain⟨ti,ak,al⟩:=pM;refine cQ (.inl rfl) ah rfl rfl rfl (by omega) (by omega) (bx) rfl (by show 0+m*1≤(eL B m).length;rw[By];omega) ak al (fun _=>rfl) rfl rfl rfl fun _=> ?_;refine aw ?_;refine⟨.inl rfl,_,.nil,?_⟩
  have he:({(⟨eL B m,sz,3,true⟩:Ent)with xs:=aL (eL B m) (0+((r:Int)).toNat*1) [.int .i64 (c:Int)]}:Ent)=⟨eL (fun i=>if i=r then c else B i) m,sz,3,true⟩:=by
   rw[Int.toNat_natCast,Nat.mul_one,Nat.zero_add,←Qh];rfl
  rw[he];refine⟨M1,hD.DV lx Jh,fun i hi j hj=>(hQ.2 rfl).2 i hi j hj (.inr hi),?_⟩;rw[cF _ hm];exact rV.trans EU
end Go.au
