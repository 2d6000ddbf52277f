/- Part 12 of the proof: QDat3, Qc, Qv, Rtw, QDat4, SDat2, Sp. -/
import Derived.Test.YtfjncmjbhfdnpaaGreatA11
set_option linter.unusedVariables false
namespace Go.ar
open Go.Proofs Num Lp
section
variable {C:CK} {H H' K:Heap} {G:GG} {R W m:Nat} {M:Nat→Nat→Rat} {B:Nat→Nat} {t:List Nat} {f:Nat→Rat}
def GG.more(G:GG)(t:List Nat)(z c:Nat)(A:Option Addr)(cr R:Nat):GG:={G with top:=t,hb:=aE (.slice A (R+1) cr),Ar:=A,cr:=cr,rg:=G.rg ++ [(z,c)]}
theorem bZ.more{z c lg:Nat}{A':Option Addr}(h:bZ C H (G.on (z::t)) R W m M B)(hz:oI C (rem H (G.on (z::t)).gs) H z (aH f W))(ha:App H (.slice G.Ar R G.cr) C.he 1 (R+1) (iH (G.rg ++ [(z,c)]) W) (.slice A' (R+1) lg) H'):
  bZ C H' (G.more t z c A' lg R) (R+1) W m (fun i=>if i=R then f else M i) B∧Heap.le (rem H (G.on (z::t)).gs) (rem H' (G.more t z c A' lg R).gs):=by
 have aY:=h.ne
 have dJ:=h.nd
 have jA:(G.on (z::t)).gs=z::(t++(G.hb++(G.bb++G.rg.map (·.1)))):=rfl
 have Hq:(G.more t z c A' lg R).gs=t++(aE (.slice A' (R+1) lg)++(G.bb++(G.rg ++ [(z,c)]).map (·.1))):=rfl
 have Ln:G.hb=aE (.slice G.Ar R G.cr):=h.lI
 rw[jA]at dJ aY
 obtain⟨n1,n2⟩:=List.nodup_cons.1 dJ
 obtain⟨n3,n4,n5⟩:=List.nodup_append.1 n2
 obtain⟨n6,n7,n8⟩:=List.nodup_append.1 n4
 obtain⟨n9,Hr,oM⟩:=List.nodup_append.1 n7
 have p8:∀q,q∈z::(t++(G.bb++G.rg.map (·.1)))→H' q=H q:=fun q hq=>by
  have hm:q∈z::(t++(G.hb++(G.bb++G.rg.map (·.1)))):=by
   simp only[List.mem_cons,List.mem_append]at hq⊢;grind
  obtain⟨en,he⟩:=Option.ne_none_iff_exists'.1 (aY q hm)
  rw[he]
  refine ha.same q en he fun h1=> ?_
  have h2:q∈G.hb:=by rw[Ln];exact dg.2 h1
  rcases List.mem_cons.1 hq with rfl | hq
  ·exact n1 (List.mem_append_right _ (List.mem_append_left _ h2))
  ·rcases List.mem_append.1 hq with hq | hq
   ·exact n5 q hq q (List.mem_append_left _ h2) rfl
   ·exact n8 q h2 q hq rfl
 have Kj:∀q,q∈aE (.slice A' (R+1) lg)→¬q∈z::(t++(G.bb++G.rg.map (·.1))):=fun q hq hm=>by
  rcases ha.new q hq with h1 | h1
  ·rw[←Ln]at h1
   rcases List.mem_cons.1 hm with rfl | hm
   ·exact n1 (List.mem_append_right _ (List.mem_append_left _ h1))
   ·rcases List.mem_append.1 hm with hm | hm
    ·exact n5 q hm q (List.mem_append_left _ h1) rfl
    ·exact n8 q h1 q hm rfl
  ·refine aY q ?_ h1
   simp only[List.mem_cons,List.mem_append]at hm⊢;grind
 have hl:Heap.le (rem H (G.on (z::t)).gs) (rem H' (G.more t z c A' lg R).gs):=fun q en hq=>by
  by_cases hm:q∈(G.on (z::t)).gs
  ·rw[rem_in hm]at hq;cases hq
  ·rw[bL hm]at hq
   have nW:¬q∈G.hb:=fun k=>hm (by rw[jA];exact List.mem_cons_of_mem _ (List.mem_append_right _ (List.mem_append_left _ k)))
   have h1:=ha.same q en hq fun e=>nW (by rw[Ln];exact dg.2 e)
   refine⟨en,?_,.refl _⟩
   rw[bL,h1]
   intro h2
   rw[Hq]at h2
   rcases List.mem_append.1 h2 with h3 | h3
   ·exact hm (by rw[jA];exact List.mem_cons_of_mem _ (List.mem_append_left _ h3))
   ·rcases List.mem_append.1 h3 with h3 | h3
    ·rcases ha.new q h3 with h4 | h4
     ·rw[←Ln]at h4;exact nW h4
     ·rw[h4]at hq;cases hq
    ·refine hm ?_
     rw[jA]
     simp only[List.map_append,List.map_cons,List.map_nil,List.mem_cons,List.mem_append,List.not_mem_nil,or_false]at h3⊢;grind
 have ks:=h.gN
 have ks:G.rg.length=R:=ks
 refine⟨⟨?_,fun q hq=> ?_,?_,rfl,ha.own,fun i p hp=> ?_,?_⟩,hl⟩
 ·rw[Hq]
  refine List.nodup_append.2 ⟨n3,List.nodup_append.2 ⟨Qw _,List.nodup_append.2 ⟨n9,?_,fun q hq r hr e=> ?_⟩,fun q hq r hr e=> ?_⟩,fun q hq r hr e=> ?_⟩
  ·rw[List.map_append]
   refine List.nodup_append.2 ⟨Hr,List.nodup_cons.2 ⟨List.not_mem_nil,List.nodup_nil⟩,fun q hq r hr e=> ?_⟩
   subst e
   rw[List.map_cons,List.map_nil,List.mem_singleton]at hr
   subst hr
   exact n1 (List.mem_append_right _ (List.mem_append_right _ (List.mem_append_right _ hq)))
  ·subst e
   rw[List.map_append]at hr
   rcases List.mem_append.1 hr with hr | hr
   ·exact oM q hq q hr rfl
   ·rw[List.map_cons,List.map_nil,List.mem_singleton]at hr
    subst hr
    exact n1 (List.mem_append_right _ (List.mem_append_right _ (List.mem_append_left _ hq)))
  ·subst e
   refine Kj q hq ?_
   simp only[List.map_append,List.map_cons,List.map_nil,List.mem_cons,List.mem_append,List.not_mem_nil,or_false]at hr⊢;grind
  ·subst e
   rcases List.mem_append.1 hr with hr | hr
   ·exact Kj q hr (List.mem_cons_of_mem _ (List.mem_append_left _ hq))
   ·rw[List.map_append]at hr
    rcases List.mem_append.1 hr with hr | hr
    ·exact n5 q hq q (List.mem_append_right _ (List.mem_append_left _ hr)) rfl
    ·rcases List.mem_append.1 hr with hr | hr
     ·exact n5 q hq q (List.mem_append_right _ (List.mem_append_right _ hr)) rfl
     ·rw[List.map_cons,List.map_nil,List.mem_singleton]at hr
      subst hr
      exact n1 (List.mem_append_left _ hq)
 ·rw[p8 q (List.mem_cons_of_mem _ (List.mem_append_left _ hq))]
  exact aY q (List.mem_cons_of_mem _ (List.mem_append_left _ hq))
 ·show (G.rg ++ [(z,c)]).length=R+1
  rw[List.length_append,ks];rfl
 ·have dO:(G.rg ++ [(z,c)])[i]? = some p:=hp
  by_cases hi:i<R
  ·rw[List.getElem?_append_left (by omega)]at dO
   show oI C _ H' p.1 (aH (if i=R then f else M i) W)
   rw[if_neg (by omega)]
   exact(h.row i p dO).le hl (p8 _ (List.mem_cons_of_mem _ (List.mem_append_right _ (List.mem_append_right _ (List.mem_map.2 ⟨p,List.mem_of_getElem? dO,rfl⟩)))))
  ·have bU:=(List.getElem?_eq_some_iff.1 dO).1
   rw[List.length_append,ks,List.length_singleton]at bU
   obtain rfl:i=R:=by omega
   rw[List.getElem?_append_right (by omega),ks,Nat.sub_self]at dO
   cases dO
   show oI C _ H' z (aH (if i=i then f else M i) W)
   rw[if_pos rfl]
   exact hz.le hl (p8 _ (List.mem_cons_self ..))
 ·rcases h.basis with h1 | ⟨gb,cb,sz,h1,h2,h3⟩
  ·exact .inl h1
  ·refine .inr ⟨gb,cb,sz,h1,h2,?_⟩
   rw[p8 gb (List.mem_cons_of_mem _ (List.mem_append_right _ (List.mem_append_left _ (by show gb∈G.bb;have:G.bb = [gb]:=h1;rw[this];exact List.mem_singleton.2 rfl))))]
   exact h3
def GG.less(G:GG)(R:Nat):GG:={G with hb:=aE (.slice G.Ar R G.cr),rg:=G.rg.take R}
theorem bZ.less(h:bZ C H G (R+1) W m M B):∃H',Heap.le H' H∧bZ C H' (G.less R) R W m M B∧Heap.le (rem H G.gs) (rem H' (G.less R).gs)∧(∀q,q∈G.top→H' q=H q)∧G.cr=G.cr∧R≤G.cr:=by
 have ks:=h.gN
 rcases h.rows.2 with ⟨h1,h2⟩ | ⟨gr,cap,h1,h2,h3,h4⟩
 ·omega
 ·have eA:G.Ar=some ⟨gr,0,none⟩:=(Value.slice.inj h1).1
  have eC:G.cr=cap:=(Value.slice.inj h1).2.2
  have eb:aE (.slice G.Ar R G.cr)=G.hb:=by rw[h.lI,eA];rfl
  have eg:G.hb = [gr]:=by rw[h.lI,eA];rfl
  have hm:gr∈G.hb:=by rw[eg];exact List.mem_singleton.2 rfl
  have ht:iH (G.rg.take R) W=(iH G.rg W).take R:=by unfold iH;rw[List.map_take]
  have tV:∀q,q∈(G.less R).low→q∈G.low:=fun q hq=>by
   have hq:q∈aE (.slice G.Ar R G.cr)++(G.bb++(G.rg.take R).map (·.1)):=hq
   rw[eb]at hq
   rcases List.mem_append.1 hq with hq | hq
   ·exact GG.Bk hq
   ·rcases List.mem_append.1 hq with hq | hq
    ·exact GG.lZ hq
    ·obtain⟨p,hp,rfl⟩:=List.mem_map.1 hq
     exact List.mem_append_right _ (List.mem_append_right _ (List.mem_map.2 ⟨p,List.mem_of_mem_take hp,rfl⟩))
  have jA:∀q,q∈(G.less R).gs→q∈G.gs:=fun q hq=>by
   rcases List.mem_append.1 hq with hq | hq
   ·exact List.mem_append_left _ hq
   ·exact List.mem_append_right _ (tV q hq)
  have hng:gr∈(G.less R).gs:=List.mem_append_right _ (List.mem_append_left _ (by show gr∈aE _;rw[eb];exact hm))
  have hl:Heap.le (rem H G.gs) (rem (ins H gr ⟨iH (G.rg.take R) W,cap*1,C.he,true⟩) (G.less R).gs):=by
   rw[cC _ hng];exact GW jA
  have Lo:∀q,q∈G.top∨q∈G.bb∨(∃(i:Nat)(p:Nat×Nat),G.rg[i]? = some p∧p.1=q)→q≠gr:=fun q hq=>by
   rcases hq with hq | hq | ⟨i,p,hp,rfl⟩
   ·exact GG.tq h.nd hq (GG.Bk hm)
   ·exact Ne.symm (GG.KZ h.nd hm (.inl hq))
   ·exact Ne.symm (GG.KZ h.nd hm (.inr ⟨i,p,hp,rfl⟩))
  refine⟨ins H gr ⟨iH (G.rg.take R) W,cap*1,C.he,true⟩,?_,⟨?_,fun q hq=> ?_,?_,rfl,?_,fun i p hp=> ?_,?_⟩,hl,fun q hq=>a7 _ _ (Lo q (.inl hq)),rfl,by omega⟩
  ·intro q en hq
   by_cases e:q=gr
   ·subst e
    rw[bo]at hq
    cases hq
    exact⟨_,h2,rfl,rfl,rfl,by rw[ht];exact List.take_prefix _ _⟩
   ·rw[a7 _ _ e]at hq
    exact⟨en,hq,.refl _⟩
  ·have dJ:=h.nd
   show (G.top++(aE (.slice G.Ar R G.cr)++(G.bb++(G.rg.take R).map (·.1)))).Nodup
   rw[eb]
   refine List.Nodup.sublist ?_ dJ
   exact List.Sublist.append (.refl _) (List.Sublist.append (.refl _) (List.Sublist.append (.refl _) (List.Sublist.map _ (List.take_sublist _ _))))
  ·rw[a7 _ _ (Lo q (.inl hq))];exact h.top q hq
  ·show (G.rg.take R).length=R
   rw[List.length_take];omega
  ·refine⟨?_,.inr ⟨gr,cap,?_,bo _ _ _,by omega,h4⟩⟩
   ·show (iH (G.rg.take R) W).length=R*1
    unfold iH;rw[List.length_map,List.length_take];omega
   ·show Value.slice G.Ar R G.cr=_
    rw[eA,eC]
  ·have dO:(G.rg.take R)[i]? = some p:=hp
   rw[List.getElem?_take]at dO
   split at dO
   ·exact(h.row i p dO).le hl (a7 _ _ (Lo _ (.inr (.inr ⟨i,p,dO,rfl⟩))))
   ·cases dO
  ·rcases h.basis with k1 | ⟨gb,cb,sz,k1,k2,k3⟩
   ·exact .inl k1
   ·exact .inr ⟨gb,cb,sz,k1,k2,by rw[a7 _ _ (Lo gb (.inr (.inl (by rw[k1];exact List.mem_singleton.2 rfl))))];exact k3⟩
theorem bZ.apart(h:bZ C H G R W m M B){z:Nat}{e:Ent}(hz:H z=none):bZ C (ins H z e) (G.on (z::G.top)) R W m M B∧rem (ins H z e) (G.on (z::G.top)).gs=rem H G.gs:=by
 have hm:¬z∈G.gs:=fun hm=>h.ne z hm hz
 have jA:(G.on (z::G.top)).gs=z::G.gs:=rfl
 have e1:rem (ins H z e) (G.on (z::G.top)).gs=rem H G.gs:=by
  rw[jA];exact vE _ hz
 refine⟨h.Bl (t:=z::G.top) (List.nodup_cons.2 ⟨hm,h.nd⟩) (fun q hq=> ?_) (fun q hq=>a7 _ _ fun(e':q=z)=>hm (by rw[←e'];exact GG.kz hq)) (by rw[e1];exact .refl _),e1⟩
 rcases List.mem_cons.1 hq with rfl | hq
 ·rw[bo];simp
 ·rw[a7 _ _ (fun(e':q=z)=>hm (by rw[←e'];exact GG.Bj hq))];exact h.top q hq
end
end Go.ar
namespace Go.ar
open Go.Proofs Num Lp
theorem Lq{xs vs:List Value}{f:Nat→Rat}{n k:Nat}{q:Rat}(h:bC fh 2 xs (aH f n))(hk:k<n)(hv:fh vs q):bC fh 2 (aI xs (k*2) vs) (aH (bQ f k q) n):=by
 rw[←On]
 exact h.set (by rw[aW];exact hk) hv (by obtain⟨a,b,rfl,_⟩:=hv;rfl)
abbrev qA(_:Heap)(vs:List Value)(q:Rat):Prop:=fh vs q
theorem yP:Up qA:=fun _ _ _ _ _ h=>h
abbrev pJ(W:Nat)(xs:List Value)(f:Nat→Rat)(k:Nat):Prop:=bC (gO qA (fun _=>none)) 2 xs (fill (aH f W) k)
theorem Lr{W k:Nat}{xs:List Value}{f:Nat→Rat}(h:pJ W xs f k)(hk:k≤W):xs.length=W*2:=by
 have:=h.len
 rwa [mG (by rw[aW];exact hk),aW]at this
theorem Q0{W k:Nat}{xs vs:List Value}{f:Nat→Rat}(h:pJ W xs f k)(hk:k<W)(hv:fh vs (f k)):pJ W (aI xs (k*2) vs) f (k+1):=by
 show bC _ _ _ _
 rw[←xY (di hk)]
 exact h.set (by rw[mG (by rw[aW];omega),aW];exact hk) (show gO qA _ vs (some (f k))from hv) (by obtain⟨a,b,rfl,_⟩:=hv;rfl)
theorem Q1{W:Nat}{xs:List Value}{f:Nat→Rat}(h:pJ W xs f W):bC fh 2 xs (aH f W):=by
 refine CB (P:=qA) (H:=fun _=>none) ?_
 rw[aW];exact h
theorem Q2{W:Nat}{f:Nat→Rat}:pJ W (du [.int .i64 0,.int .i64 0] (W*2)) f 0:=by
 have:=z6 (P:=qA) (H:=fun _=>none) (zs:=[.int .i64 0,.int .i64 0]) (sz:=2) rfl (aH f W)
 rwa [aW]at this
theorem Dx{xs vs:List Value}{s e k:Nat}:({(⟨xs,s,e,true⟩:Ent)with xs:=aI xs (0+k*2) vs}:Ent)=⟨aI xs (k*2) vs,s,e,true⟩:=by rw[Nat.zero_add]
theorem uW{p:Prg}{j:Nat}:p.mi (j+1)=p.mi j+(if p.lp.free j then 1 else 0):=by
 have h1:aT p.lp.free (j+1)=aT p.lp.free j+1+(if p.lp.free j then 1 else 0):=rfl
 have h2:=yM (fr:=p.lp.free) j
 show p.lp.n+(aT p.lp.free (j+1)-(j+1))=p.lp.n+(aT p.lp.free j-j)+_
 omega
def lh(M:Nat→Nat→Rat)(B:Nat→Nat)(f:Nat→Rat):Nat→Nat→Rat
 | 0=>f
 | i+1=>fun k=>lh M B f i k-lh M B f i (B i)*M i k
theorem YK{M:Nat→Nat→Rat}{B:Nat→Nat}{f:Nat→Rat}{i:Nat}(h:lh M B f i (B i)=0)(k:Nat):lh M B f (i+1) k=lh M B f i k:=by
 show lh M B f i k-lh M B f i (B i)*M i k=_
 rw[h];grind
structure QZ(o:Bool)(K S H:Heap)(g:Nat)(G:GG)(R W m:Nat)(M:Nat→Nat→Rat)(B:Nat→Nat)(z:Nat)(f:Nat→Rat):Prop where
 q:QV o H g (G.on (z::G.top)) R W m M B
 row:∃xs,H z=some ⟨xs,W*2,163,true⟩∧bC fh 2 xs (aH f W)
 ne:z≠g
 le:Heap.le K (rem H (G.on (z::G.top)).gs)
 same:∀q,q∈G.gs→q≠g→H q=S q
section
variable {o o':Bool} {K S H H':Heap} {g:Nat} {G:GG} {R W m z:Nat} {M:Nat→Nat→Rat} {B:Nat→Nat} {f:Nat→Rat}
theorem QZ.Q3(h:QZ o K S H g G R W m M B z f):¬z∈G.gs:=(List.nodup_cons.1 (show (z::G.gs).Nodup from h.q.cT.nd)).1
theorem QZ.mc:z∈(G.on (z::G.top)).gs:=List.mem_append_left _ (List.mem_cons_self ..)
theorem QZ.fresh(h:QZ o K S H g G R W m M B z f){k:Nat}{e:Ent}(hk:H k=none):QZ o K S (ins H k e) g G R W m M B z f:=by
 obtain⟨h1,h2⟩:=h.q.fresh (e:=e) hk
 obtain⟨xs,h3,h4⟩:=h.row
 refine⟨h1,⟨xs,?_,h4⟩,h.ne,h.le.trans h2,fun q hq aY=>by rw[a7 _ _ (fun(e':q=k)=>h.q.cT.ne q (List.mem_cons_of_mem _ hq) (by rw[e'];exact hk))];exact h.same q hq aY⟩
 rw[a7 _ _ (fun e'=>by rw[e',hk]at h3;cases h3)];exact h3
theorem QZ.set(h:QZ o K S H g G R W m M B z f)(ht:fE (G.on (z::G.top)).gs g H H')(ie:H' g=some ⟨[.slice G.Ar R G.cr,G.bv,.bool o'],3,160,true⟩){xs:List Value}(hx:H z=some ⟨xs,W*2,163,true⟩)(gE:bC fh 2 xs (aH f W)){k:Nat}(hk:k<W){vs:List Value}{q:Rat}(hv:fh vs q):
  QZ o' K S (ins H' z ⟨aI xs (k*2) vs,W*2,163,true⟩) g G R W m M B z (bQ f k q):=by
 have h1:=h.q.tB ht ie
 have hm:z∈(G.on (z::G.top)).gs:=QZ.mc
 have hT:fE (G.on (z::G.top)).gs z H' (ins H' z ⟨aI xs (k*2) vs,W*2,163,true⟩):=((Kept.refl _ _).il z).ins hm _
 exact⟨⟨h1.cT.Bm (List.mem_cons_self ..) hT (by rw[bo];simp),h1.gt,by rw[a7 _ _ (Ne.symm h.ne)];exact h1.st⟩,⟨_,bo _ _ _,Lq gE hk hv⟩,h.ne,h.le.trans (ht.le.trans hT.le),fun r hr aY=>by rw[a7 _ _ (fun(e':r=z)=>h.Q3 (by rw[←e'];exact hr)),ht.same r (List.mem_cons_of_mem _ hr) aY];exact h.same r hr aY⟩
theorem QZ.Bs(h:QZ o K S H g G R W m M B z f):QZ o (rem H (G.on (z::G.top)).gs) S H g G R W m M B z f:=⟨h.q,h.row,h.ne,.refl _,h.same⟩
theorem QZ.down{K':Heap}(h:QZ o K S H g G R W m M B z f)(hl:Heap.le K' K):QZ o K' S H g G R W m M B z f:=⟨h.q,h.row,h.ne,hl.trans h.le,h.same⟩
end
theorem ahZ{o:Bool}{H:Heap}{g:Nat}{G:GG}{W m N:Nat}{M:Nat→Nat→Rat}{B:Nat→Nat}{p:Prg}{pv cv:Value}{c:List Rat}(h:QV o H g G m W m M B)(hp:eJ N (rem H G.gs) pv p)(hc:aR qA 2 (rem H G.gs) cv c)(dA:c.length=p.free.length)(rP:p.c1≤W)(hB:∀i,i<m→B i<W)(hm:(m:Int)≤900000)(hW:(W:Int)≤1000000):
 Fn Tryz.prog 140 #[.pointer (some ⟨g,0,none⟩),pv,cv,.int .i64 (W:Int)] H (fun v H'=>∃z f o',v = .slice (some ⟨z,0,none⟩) W W∧QZ o' (rem H G.gs) H H' g G m W m M B z f∧(o'=false→o=false∧∀k,k<W→f k=lh M B (eQ p (fn c) 1 p.lp.n) m k)):=by
 obtain⟨fv,fN,rfl,eo,ep⟩:=id hp
 obtain⟨Af,cf,xf,rfl,gZ,hO⟩:=eo.one
 obtain⟨Ar,cr,xr,rfl,mW,eK,fO⟩:=id ep
 obtain⟨Ac,cc,xc,rfl,De,l0,sU⟩:=id hc
 have cK:=wA (p:=p)
 have Q4:p.free.length≤W:=Nat.le_trans cK rP;refine aZ (args:=[_,_,_,_]) Tryz.func140 rfl rfl Tryz.ntmps140 rfl rfl fun w0=> ?_;refine ag [0,1,2,3] rfl ?_;refine ab ?_;refine bS rfl rfl ?_;refine vr 1 ?_;refine aa [0,2,3,5] ?_;refine ab ?_;refine vr 1 ?_;refine ig Tryz.underlying161 fB rfl rfl rfl (by omega) (by omega) (by omega) (by omega) ?_;intro z hz;rw[Int.toNat_natCast]
 have nu:z≠g:=fun e9=>by rw[e9,h.st]at hz;cases hz
 have tv:∀e9:Ent,Heap.le (rem H G.gs) (ins H z e9):=fun e9=>(bG _ _).trans (Heap.bI _ hz)
 obtain⟨Ab,cb,cY,ga⟩:∃Ab cb,G.bv = .slice Ab m cb∧∀o' t H',bZ uS H' (G.on t) m W m M B→∀i,i<m→Rd H' Ab (ee B m):=by
  rcases h.cT.basis with ⟨h1,h2,h3⟩ | ⟨gb,cb,sz,h1,h2,h3⟩
  ·exact⟨none,0,by rw[h3,h1],fun _ _ _ _ i hi=>by omega⟩
  ·
   refine⟨_,cb,h2,fun o' t H' h' i hi=> ?_⟩
   rcases h'.basis with ⟨k1,k2,k3⟩ | ⟨Bu,Lc,pT,k1,k2,k3⟩
   ·omega
   ·
    have k1:G.bb = [Bu]:=k1;rw[h1]at k1;cases k1;exact dF k3
 refine vr 1 ?_;refine aa [0,2,5,9] ?_;refine al ?_;refine ab ?_;refine vr 3 ?_;refine aa [0,2,5,9,19,20] ?_;refine aC ?_;refine gy (fun(k:Nat)(xs:List Value)=>W-k) (fun(k:Nat)(xs:List Value)=>put (put (put (put (put (put (emp) 0 (.val (.pointer (some ⟨g,0,none⟩)))) 2 (.val (.slice Ac c.length cc))) 5 (.box [.slice Af p.free.length cf,.slice Ar p.rows.length cr])) 9 (.val (.slice (some ⟨z,0,none⟩) W W))) 19 (.val (.int .i64 (W:Int)))) 20 (.val (.int .i64 (k:Int)))) (fun(k:Nat)(xs:List Value) H'=>H'=ins H z ⟨xs,W*2,163,true⟩∧pJ W xs (fun _=>0) k∧k≤W) 0 (du [.int .i64 0,.int .i64 0] (W*2)) (⟨rfl,Q2,Nat.zero_le _⟩) an ?_;rintro k xs H2 ⟨e2,hF,hk⟩;rw[e2];clear e2 H2;have cB:=Lr hF hk;refine ab ?_;refine vr 1 ?_;refine aa [0,2,5,9,19,20,21] ?_;refine al ?_;refine aB rfl (fun hb=> ?_) (fun hb=> ?_)
 ·
  have eX:k<W:=by simpa using hb
  refine au ?_;refine ag [0,2,5,9,19,20] rfl ?_;refine al ?_;refine aC ?_;refine ab ?_;refine vr 2 ?_;refine aa [0,2,5,9,10,19,20] ?_;refine av rfl ?_;refine vr 2 ?_;refine dS ae rfl fB rfl rfl ?_;obtain⟨ti,aj,ak⟩:=dT;refine cM (.inl rfl) ae rfl rfl rfl (by omega) (by omega) (bo _ _ _) rfl (by show 0+W*2≤xs.length;omega) aj ak (fun _=>rfl) rfl rfl rfl fun _=> ?_;refine aq ?_;refine ag [0,2,5,9,19,20] rfl ?_;refine av rfl ?_;refine aD rfl rfl ⟨by omega,by omega⟩ ?_;refine vr 1 ?_;refine aq ?_;rw[Dx,pP];exact⟨k+1,_,by omega,an,rfl,by rw[Int.toNat_natCast];exact Q0 hF eX Dr,by omega⟩
 ·
  have hb:W≤k:=by simpa using hb
  obtain rfl:k=W:=by omega
  have Hs:=Q1 hF;refine aU ?_;refine ag [0,2,5,9] rfl ?_;refine ab ?_;refine vr 4 ?_;refine aa [0,2,5,9,11] ?_;refine al ?_;refine ab ?_;refine vr 4 ?_;refine aa [0,2,5,9,11,33,34] ?_;refine aC ?_;refine gy (fun(j:Nat)(ys:List Value)=>p.free.length-j) (fun(j:Nat)(ys:List Value)=>put (put (put (put (put (put (put (emp) 0 (.val (.pointer (some ⟨g,0,none⟩)))) 2 (.val (.slice Ac c.length cc))) 5 (.box [.slice Af p.free.length cf,.slice Ar p.rows.length cr])) 9 (.val (.slice (some ⟨z,0,none⟩) k k))) 11 (.val (.int .i64 (p.mi j:Int)))) 33 (.val (.int .i64 (p.free.length:Int)))) 34 (.val (.int .i64 (j:Int)))) (fun(j:Nat)(ys:List Value) H'=>H'=ins H z ⟨ys,k*2,163,true⟩∧bC fh 2 ys (aH (eQ p (fn c) 1 j) k)∧j≤p.free.length) 0 xs (⟨rfl,Hs,Nat.zero_le _⟩) (by repeat (first | exact iy _ | refine dh rfl ?_ | refine dh (iO (by first | omega | (simp;done) | rfl)) ?_)) ?_;rintro j ys H3 ⟨e3,hE,hj⟩;rw[e3];clear e3 H3;have jb:=hE.len;rw[aW]at jb;refine ab ?_;refine vr 1 ?_;refine aa [0,2,5,9,11,33,34,35] ?_;refine al ?_;refine aB rfl (fun hb=> ?_) (fun hb=> ?_)
  ·
   have fP:j<p.free.length:=by simpa using hb
   obtain⟨vs,_,Ht,BC⟩:=sU.get (show c[j]? = some (fn c j) by rw[List.getElem?_eq_getElem (by omega),jC (List.getElem?_eq_getElem (by omega))]);obtain⟨n1,d1,rfl,i1,i2,i3,i4,bW⟩:=id (show fh vs (fn c j)from Ht)
   have ah0:fh [.int .i64 n1,.int .i64 d1] (fn c j*1):=by rw[Rat.mul_one];exact Ht
   have Q5:=Lq hE (show j<k by omega) ah0;have ah1:=Q5.len;rw[aW]at ah1;obtain⟨uf,lG,kg⟩:=hO j _ (List.getElem?_eq_getElem fP);have kg: [uf] = [Value.bool p.free[j]]:=kg
   cases kg
   have mS:p.lp.free j=p.free[j]:=Prg.ue (List.getElem?_eq_getElem fP);have YL:=Lj (p:=p) (j:=j);refine au ?_;refine ag [0,2,5,9,11,33,34] rfl ?_;refine al ?_;refine aC ?_;refine ab ?_;refine vr 2 ?_;refine aa [0,2,5,9,11,12,33,34] ?_;refine ab ?_;refine vr 4 ?_;refine bR (vs:=[.int .i64 n1,.int .i64 d1]) ae rfl rfl rfl rfl (l0.le (tv _)) rfl (by decide) (by rw[Int.toNat_natCast];exact BC) (by omega) (by omega) fun _=> ?_;obtain⟨ti,aj,ak⟩:=dT;refine cM (.inl rfl) ae rfl rfl rfl (by omega) (by omega) (bo _ _ _) rfl (by show 0+k*2≤ys.length;omega) aj ak (fun _=>rfl) rfl rfl rfl fun _=> ?_;refine aa [0,2,5,9,11,12,33,34] ?_;rw[Dx,pP,Int.toNat_natCast];refine ab ?_;refine vr 3 ?_;refine aM ae rfl rfl rfl rfl rfl (gZ.le (tv _)) (by rw[Int.toNat_natCast];exact lG) (by omega) (by omega) fun _=> ?_;refine aa [0,2,5,9,11,12,33,34,48] ?_;refine aB rfl (fun hb=> ?_) (fun hb=> ?_)
   ·
    have fw:p.lp.free j=true:=by rw[mS];simpa using hb
    have wB:p.mi j<k:=Nat.lt_of_lt_of_le (uV fP fw) rP;have fI:fh [.int .i64 (-n1),.int .i64 d1] (-(fn c j*1)):=⟨-n1,d1,rfl,by omega,by omega,i3,i4,by rw[Rat.mul_one,bW,Rat.intCast_neg,Rat.div_def,Rat.div_def];grind⟩;refine bJ .fV [0,1,2,3,4,5,6,7,8,9,10,11,12,13,14,15] follows (ib [0,0,0,0,12,28,60,124,0,0,768,1792,3840,8188,16383,32767] (by kernel_rfl)) ?_;refine vr 4 ?_;refine oH ae rfl rfl rfl rfl rfl rfl rfl (l0.le (tv _)) (by rw[Int.toNat_natCast];exact BC 0 _ rfl) (by omega) (by omega) fun _ _=> ?_;refine sx rfl ⟨by omega,by omega⟩ ?_;refine vr 2 ?_;refine oH ae rfl rfl rfl rfl rfl rfl rfl (l0.le (tv _)) (by rw[Int.toNat_natCast];exact BC 1 _ rfl) (by omega) (by omega) fun _ _=> ?_;refine dS ae rfl fB rfl rfl ?_;obtain⟨ti,aj,ak⟩:=dT;refine cM (.inr rfl) ae rfl rfl rfl (by omega) (by omega) (bo _ _ _) rfl (by show 0+k*2≤(aI ys (j*2) _).length;omega) aj ak (fun _=>rfl) rfl rfl rfl fun _=> ?_;refine aa [0,2,5,9,11,33,34] ?_;refine av rfl ?_;refine vr 1 ?_;refine aD rfl rfl ⟨by omega,by omega⟩ ?_;refine vr 1 ?_;refine aq ?_;refine ag [0,2,5,9,11,33,34] rfl ?_;refine av rfl ?_;refine aD rfl rfl ⟨by omega,by omega⟩ ?_;refine vr 1 ?_;refine aq ?_;rw[Dx,pP]
    have e8:p.mi (j+1)=p.mi j+1:=by rw[uW,if_pos fw]
    exact⟨j+1,_,by omega,an,rfl,by rw[Int.toNat_natCast];unfold eQ;rw[if_pos fw];exact Lq Q5 wB fI,by omega⟩
   ·
    have fw:¬p.lp.free j=true:=by rw[mS];simpa using hb
    refine au ?_;refine ag [0,2,5,9,11,33,34] rfl ?_;refine av rfl ?_;refine aD rfl rfl ⟨by omega,by omega⟩ ?_;refine vr 1 ?_;refine aq ?_
    have e8:p.mi (j+1)=p.mi j:=by rw[uW,if_neg fw,Nat.add_zero]
    exact⟨j+1,_,by omega,an,rfl,by unfold eQ;rw[if_neg fw];exact Q5,by omega⟩
  ·
   have fP:p.free.length≤j:=by simpa using hb
   obtain rfl:j=p.free.length:=by omega
   obtain⟨CG,Q6⟩:=h.cT.apart (e:=⟨ys,k*2,163,true⟩) hz;have YM:QZ o (rem H G.gs) H (ins H z ⟨ys,k*2,163,true⟩) g G m k m M B z (eQ p (fn c) 1 p.lp.n):=⟨⟨CG,List.mem_cons_of_mem _ h.gt,by rw[a7 _ _ (Ne.symm nu)];exact h.st⟩,⟨_,bo _ _ _,hE⟩,nu,by rw[Q6];exact .refl _,fun q hq _=>a7 _ _ fun(e':q=z)=>h.cT.ne q hq (by rw[e'];exact hz)⟩;refine aU ?_;refine ag [0,9] rfl ?_;refine al ?_;refine ab ?_;refine vr 2 ?_;refine aS ae rfl rfl rfl ?_;refine aN ae rfl rfl rfl (show cell _ _=some (.slice Ab m cb)from by rw[←cY];exact YM.q.l8) ?_;refine vr 2 ?_;refine aa [0,9,71,72] ?_;refine aC ?_;refine gh (fun(i:Nat)(f:Nat→Rat)(o1:Bool)=>m-i) (fun(i:Nat)(f:Nat→Rat)(o1:Bool)=>put (put (put (put (emp) 0 (.val (.pointer (some ⟨g,0,none⟩)))) 9 (.val (.slice (some ⟨z,0,none⟩) k k))) 71 (.val (.int .i64 (m:Int)))) 72 (.val (.int .i64 (i:Int)))) (fun(i:Nat)(f:Nat→Rat)(o1:Bool) H'=>QZ o1 (rem H G.gs) H H' g G m k m M B z f∧(o1=false→o=false∧∀q,q<k→f q=lh M B (eQ p (fn c) 1 p.lp.n) i q)∧i≤m) 0 (eQ p (fn c) 1 p.lp.n) o (⟨YM,fun h9=>⟨h9,fun _ _=>rfl⟩,Nat.zero_le _⟩) an ?_;rintro i f o1 H4 ⟨hZ,hI,hi⟩;obtain⟨zs,pV,rG⟩:=hZ.row;refine ab ?_;refine vr 1 ?_;refine aa [0,9,71,72,73] ?_;refine al ?_;refine aB rfl (fun hb=> ?_) (fun hb=> ?_)
   ·
    have aQ:i<m:=by simpa using hb
    have tw:=hB i aQ;obtain⟨n4,d4,D4,nV,i1,i2,i3,i4,ct⟩:=ma rG tw;refine au ?_;refine ag [0,9,71,72] rfl ?_;refine al ?_;refine aC ?_;refine ab ?_;refine vr 2 ?_;refine aa [0,9,13,71,72] ?_;refine ab ?_;refine vr 3 ?_;refine aS ae rfl rfl rfl ?_;refine aN ae rfl rfl rfl (show cell _ _=some (.slice Ab m cb)from by rw[←cY];exact hZ.q.l8) ?_;refine vr 1 ?_;refine aM ae rfl rfl rfl rfl rfl (ga o _ _ hZ.q.cT i aQ) (by rw[Int.toNat_natCast];exact gj aQ) (by omega) (by omega) fun _=> ?_;refine bR (vs:=[.int .i64 n4,.int .i64 d4]) ae rfl rfl rfl rfl (dF pV) rfl (by decide) (by rw[Int.toNat_natCast];exact nV) (by omega) (by omega) fun _=> ?_;refine bt fB rfl ?_;obtain⟨ti,aj,ak⟩:=dT;refine aJ (.inl ⟨rfl,rfl⟩) rfl rfl rfl aj ak rfl rfl rfl ?_;refine aa [0,9,13,14,71,72] ?_;refine K1 14 rfl fun g14 wC oF=> ?_;refine al ?_;refine ab ?_;refine aS ae rfl rfl rfl ?_;refine aN ae rfl rfl rfl (show cell _ ((⟨g14,0,none⟩:Addr).add 0)=_ by simp[cell,iA,ins];rfl) ?_;refine vr 1 ?_;refine aa [0,9,13,14,71,72,87] ?_;refine aB rfl (fun hb=> ?_) (fun hb=> ?_)
    ·
     have hb:n4=0:=by simpa using hb
     refine aU ?_;refine ag [0,9,71,72] rfl ?_;refine av rfl ?_;refine aD rfl rfl ⟨by omega,by omega⟩ ?_;refine vr 1 ?_;refine aq ?_;exact⟨i+1,f,o1,by omega,an,hZ.fresh oF,fun h9=>⟨(hI h9).1,fun q hq=>by rw[YK (by rw[←(hI h9).2 _ (hB i aQ),ct];exact(tr i3).2 hb)];exact(hI h9).2 q hq⟩,by omega⟩
    ·
     have hb:n4≠0:=by simpa using hb
     have ah2:=hZ.fresh (e:=⟨[.int .i64 n4,.int .i64 d4],2,wC,true⟩) oF;obtain⟨_,uX⟩:=hZ.q.fresh (e:=⟨[.int .i64 n4,.int .i64 d4],2,wC,true⟩) oF;have ah3:Rd (rem (ins H4 g14 ⟨[.int .i64 n4,.int .i64 d4],2,wC,true⟩) (G.on (z::G.top)).gs) (some ⟨g14,0,none⟩) [.int .i64 n4,.int .i64 d4]:=Qy (eZ _ _ _ _ _ _) fun hm=>hZ.q.cT.ne _ hm oF
     show VC _ _ _ _ _ _ _ (ins H4 g14 ⟨[.int .i64 n4,.int .i64 d4],2,wC,true⟩)
     generalize ins H4 g14 ⟨[.int .i64 n4,.int .i64 d4],2,wC,true⟩=H5 at *
     have pK:=ah2.Bs;obtain⟨pi,cL⟩:=h.cT.get aQ;refine au ?_;refine ag [0,9,13,14,71,72] rfl ?_;refine ab ?_;refine vr 3 ?_;refine aa [0,9,13,14,71,72,89,90] ?_;refine aC ?_;refine gh (fun(q:Nat)(f2:Nat→Rat)(o2:Bool)=>k-q) (fun(q:Nat)(f2:Nat→Rat)(o2:Bool)=>put (put (put (put (put (put (put (put (emp) 0 (.val (.pointer (some ⟨g,0,none⟩)))) 9 (.val (.slice (some ⟨z,0,none⟩) k k))) 13 (.val (.int .i64 (i:Int)))) 14 (.val (.pointer (some ⟨g14,0,none⟩)))) 71 (.val (.int .i64 (m:Int)))) 72 (.val (.int .i64 (i:Int)))) 89 (.val (.int .i64 (k:Int)))) 90 (.val (.int .i64 (q:Int)))) (fun(q:Nat)(f2:Nat→Rat)(o2:Bool) H'=>QZ o2 (rem H5 (G.on (z::G.top)).gs) H H' g G m k m M B z f2∧(o2=false→o1=false∧∀j,f2 j=if j<q then f j-f (B i)*M i j else f j)∧q≤k) 0 f o1 (⟨pK,fun h9=>⟨h9,fun j=>by rw[if_neg (Nat.not_lt_zero _)]⟩,Nat.zero_le _⟩) an ?_;rintro q f2 o2 H6 ⟨hY,hR,dL⟩;obtain⟨ws,rQ,mX⟩:=hY.row;obtain⟨E8,qf,Ys,rA⟩:=hY.q.rk;obtain⟨xi6,si6,Q7,Q8⟩:=hY.q.row (G:=G.on _) cL;have oZ:=mX.len;rw[aW]at oZ;refine ab ?_;refine vr 1 ?_;refine aa [0,9,13,14,71,72,89,90,91] ?_;refine al ?_;refine aB rfl (fun hb=> ?_) (fun hb=> ?_)
     ·
      have rR:q<k:=by simpa using hb
      obtain⟨n5,d5,B4,mK,_⟩:=ma mX rR;obtain⟨n6,d6,vh,qd,_⟩:=ma Q8 rR;refine au ?_;refine ag [0,9,13,14,71,72,89,90] rfl ?_;refine al ?_;refine aC ?_;refine ab ?_;refine vr 2 ?_;refine aa [0,9,13,14,15,71,72,89,90] ?_;have a6:=GX g H6;refine dZ (.cG (kO g H6)) [0,1,2,3,4,5,6,7,8,9,10,11,12,13,14,15,16,17,18,19,20,21,22] follows (ib [0,0,0,0,0,24,56,0,0,0,512,1536,3584,0,15872,32256,0,130560,261632,524160,1048572,2097151,4194303] (by kernel_rfl)) ?_;refine eh a6 rfl ?_;refine eh a6 rfl ?_;refine eh a6 rfl ?_;refine eh a6 rfl ?_;refine eh a6 rfl ?_;refine Bp a6 ae rfl rfl rfl rfl (yH rQ nu) rfl (by decide) (by rw[Int.toNat_natCast];exact mK) (by omega) (by omega) fun _=> ?_;refine eh a6 rfl ?_;refine GY a6 ae rfl rfl rfl (((ah3.le hY.le).kx hY.q.mem).at) ?_;refine eh a6 rfl ?_;refine lD a6 rfl ?_;refine lE a6 ae rfl rfl rfl ?_;refine jR a6 ae rfl rfl rfl (hY.q.k0) ?_;refine eh a6 rfl ?_;refine Bo a6 ae rfl rfl rfl rfl rfl (qf) (by rw[Int.toNat_natCast];exact rA i pi cL) (by omega) (by omega) fun _=> ?_;refine eh a6 rfl ?_;refine Bp a6 ae rfl rfl rfl rfl (yH Q7 (hY.q.wk (G:=G.on _) cL)) rfl (by decide) (by rw[Int.toNat_natCast];exact qd) (by omega) (by omega) fun _=> ?_
      refine Bq rfl rfl (Qo hY.q.mem hY.q.st (show fh _ (f (B i)) by rw[ct];exact⟨n4,d4,rfl,i1,i2,i3,i4,rfl⟩) vh) (fun v H9 nC=>by obtain⟨k1,_,_,_,_,_,k2,_⟩:=nC;exact hY.q.fy k1 k2) ?_;rintro v7 H7 ⟨rJ,YN,o7,q7,rfl,ah4,YO,iW⟩;have a6:=hY.q.fy rJ YO;refine Bq rfl rfl (Qr hY.q.mem YO B4 ah4) (fun v H9 nC=>by obtain⟨k1,_,_,_,_,_,k2,_⟩:=nC;exact hY.q.fy (rJ.trans k1) k2) ?_;rintro v8 H8 ⟨qv,QD,o8,q8,rfl,YP,oL,eL⟩;obtain⟨n8,d8,rfl,_⟩:=id YP;have a6:=hY.q.fy (rJ.trans qv) oL;have Q9:=((rJ.trans qv).same z QZ.mc nu).trans rQ;have Ra:=hY.set (rJ.trans qv) oL rQ mX rR YP;obtain⟨ti,aj,ak⟩:=dT;refine K2 a6 ae rfl rfl rfl (by omega) (by omega) (Q9) rfl (by show k*2≤ws.length;omega) aj ak (fun _=>rfl) rfl rfl rfl fun _=> ?_;refine aq ?_;refine ag [0,9,13,14,71,72,89,90] rfl ?_;refine av rfl ?_;refine aD rfl rfl ⟨by omega,by omega⟩ ?_;refine vr 1 ?_;refine aq ?_
      exact⟨q+1,bQ f2 q q8,o8,by omega,an,Ra,fun h9=>⟨(hR (iW (eL h9).1).1).1,fun j=>by
       have g1:=eL h9;have g2:=iW g1.1;have g3:=hR g2.1
       by_cases ej:j=q
       ·
        subst ej;rw[qy,g1.2,g2.2,g3.2 j,if_neg (by omega),if_pos (by omega)]
       ·
        rw[oJ ej,g3.2 j]
        by_cases hj:j<q
        ·rw[if_pos hj,if_pos (by omega)]
        ·rw[if_neg hj,if_neg (by omega)]⟩,by omega⟩
     ·
      have rR:k≤q:=by simpa using hb
      obtain rfl:q=k:=by omega
      refine aU ?_;refine ag [0,9,71,72] rfl ?_;refine av rfl ?_;refine aD rfl rfl ⟨by omega,by omega⟩ ?_;refine vr 1 ?_;refine aq ?_
      exact⟨i+1,f2,o2,by omega,an,hY.down (hZ.le.trans uX),fun h9=>⟨(hI (hR h9).1).1,fun q hq=>by
       rw[(hR h9).2 q,if_pos hq,(hI (hR h9).1).2 q hq,(hI (hR h9).1).2 _ (hB i aQ)];rfl⟩,by omega⟩
   ·
    have aQ:m≤i:=by simpa using hb
    obtain rfl:i=m:=by omega
    refine aU ?_;refine ag [9] rfl ?_;refine ab ?_;refine vr 2 ?_;refine aa [8] ?_;refine az ⟨.inr rfl,_,.tmp rfl (.nil),?_⟩;exact⟨z,f,o1,rfl,hZ,hI⟩
end Go.ar
namespace Go.ar
open Go.Proofs Num Lp
def iu(M:Nat→Nat→Rat)(B:Nat→Nat)(n:Nat):Nat→Nat→Rat
 | 0=>fun _=>0
 | i+1=>bQ (iu M B n i) (B i) (M i n)
theorem Rb{n d:Int}{q:Rat}(h1: -1073741824≤n)(h2:n≤1073741824)(h3:1≤d)(h4:d≤1073741824)(h:q=(n:Rat)/(d:Rat)):aG q≤8:=by
 have hz:∀k:Int,-1073741824≤k→k≤1073741824→aG (k:Rat)≤2:=fun k g1 g2=>Ji.2 (by
  rw[Rat.num_intCast,Rat.den_intCast,bY];omega)
 have k1:=hz n h1 h2
 have k2:=hz d (by omega) h4
 have k3:=CJ (n:Rat) (d:Rat)
 rw[h];omega
def jH(p:Prg)(a:Nat→Rat)(j:Nat):Rat:=if p.lp.free j then a j-a (p.mi j)else a j
theorem YQ{o:Bool}{H:Heap}{g:Nat}{G:GG}{W m N:Nat}{M:Nat→Nat→Rat}{B:Nat→Nat}{p:Prg}{pv:Value}(h:QV o H g G (m+1) W m M B)(hp:eJ N (rem H G.gs) pv p)(rP:p.c1≤W)(h1W:1≤W)(hB:∀i,i<m→B i<W)(hm:(m:Int)≤900000)(hW:(W:Int)≤1000000):
 Fn Tryz.prog 141 #[.pointer (some ⟨g,0,none⟩),pv,.int .i64 (W:Int)] H (fun v H'=>Heap.le H H'∧aR bT 3 H' v (aH (jH p (iu M B (W-1) m)) p.free.length)∧∀q,q<p.free.length→aG (jH p (iu M B (W-1) m) q)≤17):=by
 obtain⟨fv,fN,rfl,eo,ep⟩:=id hp
 obtain⟨Af,cf,xf,rfl,gZ,hO⟩:=eo.one
 obtain⟨Ar,cr,xr,rfl,mW,eK,fO⟩:=id ep
 have cK:=wA (p:=p)
 have Q4:p.free.length≤W:=Nat.le_trans cK rP;refine aZ (args:=[_,_,_]) Tryz.func141 rfl rfl Tryz.ntmps141 rfl rfl fun w0=> ?_;refine ag [0,1,2] rfl ?_;refine ab ?_;refine bS rfl rfl ?_;refine vr 1 ?_;refine aa [0,2,4] ?_;refine ab ?_;refine vr 1 ?_;refine ig Tryz.underlying161 fB rfl rfl rfl (by omega) (by omega) (by omega) (by omega) ?_;intro z hz;rw[Int.toNat_natCast]
 have nu:z≠g:=fun e9=>by rw[e9,h.st]at hz;cases hz
 have tv:∀e9:Ent,Heap.le (rem H G.gs) (ins H z e9):=fun e9=>(bG _ _).trans (Heap.bI _ hz)
 obtain⟨Ab,cb,cY,ga⟩:∃Ab cb,G.bv = .slice Ab m cb∧∀i,i<m→Rd H Ab (ee B m):=by
  rcases h.cT.basis with ⟨h1,h2,h3⟩ | ⟨gb,cb,sz,h1,h2,h3⟩
  ·exact⟨none,0,by rw[h3,h1],fun i hi=>by omega⟩
  ·exact⟨_,cb,h2,fun i hi=>dF h3⟩
 have D9:∀(e9:Ent) k v,cell H ((⟨g,0,none⟩:Addr).add k)=some v→cell (ins H z e9) ((⟨g,0,none⟩:Addr).add k)=some v:=fun e9 k v h9=>cF (Heap.bI _ hz) h9;refine vr 1 ?_;refine aa [0,2,4,7] ?_;refine al ?_;refine ab ?_;refine vr 3 ?_;refine aa [0,2,4,7,17,18] ?_;refine aC ?_;refine gy (fun(k:Nat)(xs:List Value)=>W-k) (fun(k:Nat)(xs:List Value)=>put (put (put (put (put (put (emp) 0 (.val (.pointer (some ⟨g,0,none⟩)))) 2 (.val (.int .i64 (W:Int)))) 4 (.box [.slice Af p.free.length cf,.slice Ar p.rows.length cr])) 7 (.val (.slice (some ⟨z,0,none⟩) W W))) 17 (.val (.int .i64 (W:Int)))) 18 (.val (.int .i64 (k:Int)))) (fun(k:Nat)(xs:List Value) H'=>H'=ins H z ⟨xs,W*2,163,true⟩∧pJ W xs (fun _=>0) k∧k≤W) 0 (du [.int .i64 0,.int .i64 0] (W*2)) (⟨rfl,Q2,Nat.zero_le _⟩) an ?_;rintro k xs H2 ⟨e2,hF,hk⟩;rw[e2];clear e2 H2;have cB:=Lr hF hk;refine ab ?_;refine vr 1 ?_;refine aa [0,2,4,7,17,18,19] ?_;refine al ?_;refine aB rfl (fun hb=> ?_) (fun hb=> ?_)
 ·
  have eX:k<W:=by simpa using hb
  refine au ?_;refine ag [0,2,4,7,17,18] rfl ?_;refine al ?_;refine aC ?_;refine ab ?_;refine vr 2 ?_;refine aa [0,2,4,7,8,17,18] ?_;refine av rfl ?_;refine vr 2 ?_;refine dS ae rfl fB rfl rfl ?_;obtain⟨ti,aj,ak⟩:=dT;refine cM (.inl rfl) ae rfl rfl rfl (by omega) (by omega) (bo _ _ _) rfl (by show 0+W*2≤xs.length;omega) aj ak (fun _=>rfl) rfl rfl rfl fun _=> ?_;refine aq ?_;refine ag [0,2,4,7,17,18] rfl ?_;refine av rfl ?_;refine aD rfl rfl ⟨by omega,by omega⟩ ?_;refine vr 1 ?_;refine aq ?_;rw[Dx,pP];exact⟨k+1,_,by omega,an,rfl,by rw[Int.toNat_natCast];exact Q0 hF eX Dr,by omega⟩
 ·
  have hb:W≤k:=by simpa using hb
  obtain rfl:k=W:=by omega
  have Hs:=Q1 hF;refine aU ?_;refine ag [0,2,4,7] rfl ?_;refine al ?_;refine ab ?_;refine vr 2 ?_;refine aS ae rfl rfl rfl ?_;refine aN ae rfl rfl rfl (D9 _ 1 (.slice Ab m cb) (by rw[←cY];exact h.l8)) ?_;refine vr 2 ?_;refine aa [0,2,4,7,30,31] ?_;refine aC ?_;refine gy (fun(i:Nat)(ys:List Value)=>m-i) (fun(i:Nat)(ys:List Value)=>put (put (put (put (put (put (emp) 0 (.val (.pointer (some ⟨g,0,none⟩)))) 2 (.val (.int .i64 (k:Int)))) 4 (.box [.slice Af p.free.length cf,.slice Ar p.rows.length cr])) 7 (.val (.slice (some ⟨z,0,none⟩) k k))) 30 (.val (.int .i64 (m:Int)))) 31 (.val (.int .i64 (i:Int)))) (fun(i:Nat)(ys:List Value) H'=>H'=ins H z ⟨ys,k*2,163,true⟩∧bC fh 2 ys (aH (iu M B (k-1) i) k)∧i≤m) 0 xs (⟨rfl,Hs,Nat.zero_le _⟩) an ?_;rintro i ys H3 ⟨e3,hE,hi⟩;rw[e3];clear e3 H3;have jb:=hE.len;rw[aW]at jb;refine ab ?_;refine vr 1 ?_;refine aa [0,2,4,7,30,31,32] ?_;refine al ?_;refine aB rfl (fun hb=> ?_) (fun hb=> ?_)
  ·
   have aQ:i<m:=by simpa using hb
   have tw:=hB i aQ;obtain⟨pi,cL⟩:=h.cT.get (show i<m+1 by omega);obtain⟨xi,si,rN,wx⟩:=h.row cL;obtain⟨Oo,_,vQ,gC⟩:=h.rk;obtain⟨n4,d4,D4,nV,_⟩:=ma wx (show k-1<k by omega);refine au ?_;refine ag [0,2,4,7,30,31] rfl ?_;refine al ?_;refine aC ?_;refine ab ?_;refine vr 2 ?_;refine aa [0,2,4,7,9,30,31] ?_;refine dZ .fV [0,1,2,3,4,5,6,7,8,9,10,11,12,13,14,15,16,17,18,19,20] follows (ib [0,0,2,6,14,0,62,126,0,256,768,1792,0,7936,16128,0,32768,130816,261888,524287,1048575] (by kernel_rfl)) ?_;refine vr 3 ?_;refine aS ae rfl rfl rfl ?_;refine aN ae rfl rfl rfl (D9 _ 1 (.slice Ab m cb) (by rw[←cY];exact h.l8)) ?_;refine vr 1 ?_;refine aM ae rfl rfl rfl rfl rfl ((ga i aQ).le (Heap.bI _ hz)) (by rw[Int.toNat_natCast];exact gj aQ) (by omega) (by omega) fun _=> ?_;refine vr 2 ?_;refine aS ae rfl rfl rfl ?_;refine aN ae rfl rfl rfl (D9 _ 0 _ h.iF) ?_;refine vr 1 ?_;refine aM ae rfl rfl rfl rfl rfl (vQ.le (Heap.bI _ hz)) (by rw[Int.toNat_natCast];exact gC i pi cL) (by omega) (by omega) fun _=> ?_;refine vr 1 ?_;refine cP rfl rfl ⟨by omega,by omega⟩ ?_;refine bR (vs:=[.int .i64 n4,.int .i64 d4]) ae rfl rfl rfl rfl ((dF rN).le (Heap.bI _ hz)) rfl (by decide) (by rw[show ((k:Int)-1).toNat=k-1 by omega];exact nV) (by omega) (by omega) fun _=> ?_
   obtain⟨ti,aj,ak⟩:=dT;refine cM (.inr rfl) ae rfl rfl rfl (by omega) (by omega) (bo _ _ _) rfl (by show 0+k*2≤ys.length;omega) aj ak (fun _=>rfl) rfl rfl rfl fun _=> ?_;refine aq ?_;refine ag [0,2,4,7,30,31] rfl ?_;refine av rfl ?_;refine aD rfl rfl ⟨by omega,by omega⟩ ?_;refine vr 1 ?_;refine aq ?_;rw[Dx,pP];exact⟨i+1,_,by omega,an,rfl,by rw[Int.toNat_natCast];exact Lq hE tw D4,by omega⟩
  ·
   have aQ:m≤i:=by simpa using hb
   obtain rfl:i=m:=by omega
   have cE:=tv ⟨ys,k*2,163,true⟩;have BD:Rd (ins H z ⟨ys,k*2,163,true⟩) (some ⟨z,0,none⟩) ys:=eZ _ _ _ _ _ _;have Rc:Heap.le H (ins H z ⟨ys,k*2,163,true⟩):=Heap.bI _ hz
   show VC _ _ _ _ _ _ _ (ins H z ⟨ys,k*2,163,true⟩)
   generalize ins H z ⟨ys,k*2,163,true⟩=H4 at *
   refine aU ?_;refine ag [4,7] rfl ?_;refine ab ?_;refine vr 3 ?_;refine ig Tryz.underlying26 cR rfl rfl rfl (by omega) (by omega) (by omega) (by omega) ?_;intro gx qb;have yQ:=KT (P:=bT) (e:=31) (sz:=3) (zs:=[.bool false,.slice none 0 0,.slice none 0 0]) (z:=0) (k:=(p.free.length:Int)) (c:=p.free.length) qb rfl (Int.toNat_natCast _) (by unfold maxLen;omega);rw[Int.toNat_natCast]at yQ⊢;refine vr 1 ?_;refine aa [4,7,10] ?_;refine ab ?_;refine vr 4 ?_;refine aa [4,7,10,11] ?_;refine al ?_;refine ab ?_;refine vr 4 ?_;refine aa [4,7,10,11,64,65] ?_;refine aC ?_;refine gh (fun(j:Nat)(w:Value)(ws:List Value)=>p.free.length-j) (fun(j:Nat)(w:Value)(ws:List Value)=>put (put (put (put (put (put (emp) 4 (.box [.slice Af p.free.length cf,.slice Ar p.rows.length cr])) 7 (.val (.slice (some ⟨z,0,none⟩) k k))) 10 (.val (w))) 11 (.val (.int .i64 (p.mi j:Int)))) 64 (.val (.int .i64 (p.free.length:Int)))) 65 (.val (.int .i64 (j:Int)))) (fun(j:Nat)(w:Value)(ws:List Value) H'=>ia bT 31 3 H4 H' w (aH (jH p (iu M B (k-1) i)) j) ws∧j≤p.free.length∧∀q,q<j→aG (jH p (iu M B (k-1) i) q)≤17) 0 _ _ (⟨yQ,Nat.zero_le _,fun q hq=>absurd hq (Nat.not_lt_zero _)⟩) (by repeat (first | exact iy _ | refine dh rfl ?_ | refine dh (iO (by first | omega | (simp;done) | rfl)) ?_)) ?_
   rintro j w ws H5 ⟨hG,hj,cO⟩;obtain⟨A5,c5,e5⟩:=hG.form;rw[aW]at e5;subst e5;refine ab ?_;refine vr 1 ?_;refine aa [4,7,10,11,64,65,66] ?_;refine al ?_;refine aB rfl (fun hb=> ?_) (fun hb=> ?_)
   ·
    have fP:j<p.free.length:=by simpa using hb
    obtain⟨n5,d5,B4,mK,i1,i2,i3,i4,eU⟩:=ma hE (show j<k by omega);obtain⟨uf,lG,kg⟩:=hO j _ (List.getElem?_eq_getElem fP);have kg: [uf] = [Value.bool p.free[j]]:=kg
    cases kg
    have mS:p.lp.free j=p.free[j]:=Prg.ue (List.getElem?_eq_getElem fP);have alc:=Rb i1 i2 i3 i4 eU
    have Vv:aG (jH p (iu M B (k-1) i) j)≤17:=by
     unfold jH
     split
     ·
      rename_i hf9
      obtain⟨n9,d9,_,_,k1,k2,k3,k4,k5⟩:=ma hE (show p.mi j<k from Nat.lt_of_lt_of_le (uV fP hf9) rP);have k6:=Rb k1 k2 k3 k4 k5;have k7:=om (iu M B (k-1) i j) (iu M B (k-1) i (p.mi j))
      omega
     ·omega
    refine au ?_;refine ag [4,7,10,11,64,65] rfl ?_;refine al ?_;refine aC ?_;refine ab ?_;refine vr 2 ?_;refine aa [4,7,10,11,12,64,65] ?_;refine bJ .bF [0,1,2,3,4,5,6,7,8,9,10,11,12] follows (by kernel_rfl) ?_;refine vr 2 ?_;refine oH ae rfl rfl rfl rfl rfl rfl rfl (BD.le hG.le) (by rw[Int.toNat_natCast];exact mK 0 _ rfl) (by omega) (by omega) fun _ _=> ?_;refine vr 2 ?_;refine oH ae rfl rfl rfl rfl rfl rfl rfl (BD.le hG.le) (by rw[Int.toNat_natCast];exact mK 1 _ rfl) (by omega) (by omega) fun _ _=> ?_;refine aO rfl rfl (hG.call (OM (a:=n5) (b:=d5) (by omega) (by omega) (by omega) (by omega)).rc) (fun _ _ h=>h.le fun _ _ h=>h.1) ?_;rintro _ H6 mT;have lH:=hG.wh fK mT fun _ _ h=>h.1;obtain⟨⟨_,t6,rfl,nv⟩,_⟩:=mT;rw[←eU]at nv;refine bt cR rfl ?_;obtain⟨ti,aj,ak⟩:=a8;refine aJ (.inl ⟨rfl,rfl⟩) rfl rfl rfl aj ak rfl rfl rfl ?_;refine aa [4,7,10,11,12,13,64,65] ?_;refine zt (fun(t:RC)(a:Nat)=>put (put (put (put (put (put (put (emp) 4 (.box [.slice Af p.free.length cf,.slice Ar p.rows.length cr])) 7 (.val (.slice (some ⟨z,0,none⟩) k k))) 10 (.val (.slice A5 j c5))) 11 (.val (.int .i64 (a:Int)))) 13 (.box [.bool t.f,.slice t.A1 t.m1 t.c1,.slice t.A2 t.m2 t.c2])) 64 (.val (.int .i64 (p.free.length:Int)))) 65 (.val (.int .i64 (j:Int)))) (fun(t:RC)(a:Nat) H'=>ia bT 31 3 H4 H' (.slice A5 j c5) (aH (jH p (iu M B (k-1) i)) j) ws∧a=p.mi (j+1)∧bK (rem H' (aE (.slice A5 j c5))) t.v (jH p (iu M B (k-1) i) j)) ?_ ?_
    ·
     refine ab ?_;refine vr 3 ?_;refine aM ae rfl rfl rfl rfl rfl (gZ.le (cE.trans lH.le)) (by rw[Int.toNat_natCast];exact lG) (by omega) (by omega) fun _=> ?_;refine aa [4,7,10,11,13,64,65,83] ?_;refine aB rfl (fun hb=> ?_) (fun hb=> ?_)
     ·
      have fw:p.lp.free j=true:=by rw[mS];simpa using hb
      have wB:p.mi j<k:=Nat.lt_of_lt_of_le (uV fP fw) rP;obtain⟨n7,d7,Ox,rK,j1,j2,j3,j4,YR⟩:=ma hE wB;have ald:=Rb j1 j2 j3 j4 YR;refine bJ .bF [0,1,2,3,4,5,6,7,8,9,10,11,12,13] follows (by kernel_rfl) ?_;refine vr 3 ?_;refine oH ae rfl rfl rfl rfl rfl rfl rfl (BD.le lH.le) (by rw[Int.toNat_natCast];exact rK 0 _ rfl) (by omega) (by omega) fun _ _=> ?_;refine vr 2 ?_;refine oH ae rfl rfl rfl rfl rfl rfl rfl (BD.le lH.le) (by rw[Int.toNat_natCast];exact rK 1 _ rfl) (by omega) (by omega) fun _ _=> ?_;refine aO rfl rfl (lH.call (OM (a:=n7) (b:=d7) (by omega) (by omega) (by omega) (by omega)).rc) (fun _ _ h=>h.le fun _ _ h=>h.1) ?_;rintro _ H7 Re;have tx:=lH.wh fK Re fun _ _ h=>h.1;have ah5:=nv.le Re.post.1;obtain⟨⟨_,t7,rfl,iW⟩,_⟩:=Re;rw[←YR]at iW;refine aO rfl rfl (tx.call (C1 (N:=10) ((bK.raw ah5).mono (by omega)) ((bK.raw iW).mono (by omega)) (by decide)).rc) (fun _ _ h=>h.le fun _ _ h=>h.1) ?_;rintro _ H8 yR;have qo:=tx.wh fK yR fun _ _ h=>h.1;obtain⟨⟨_,t8,rfl,eL⟩,_⟩:=yR;obtain⟨ti,aj,ak⟩:=a8;refine aJ (.inl ⟨rfl,rfl⟩) rfl rfl rfl aj ak rfl rfl rfl ?_;refine aa [4,7,10,11,13,64,65] ?_;refine av rfl ?_;refine vr 1 ?_;refine aD rfl rfl ⟨by omega,by omega⟩ ?_;refine vr 1 ?_
      refine aq ?_;exact⟨t8,p.mi j+1,an,qo,by rw[uW,if_pos fw],by unfold jH;rw[if_pos fw];exact eL⟩
     ·
      have fw:¬p.lp.free j=true:=by rw[mS];simpa using hb
      refine au ?_;exact⟨t6,p.mi j,an,lH,by rw[uW,if_neg fw,Nat.add_zero],by unfold jH;rw[if_neg fw];exact nv⟩
    ·
     rintro t a H9 ⟨nz,s8,eW⟩;subst s8;refine av rfl ?_;refine vr 2 ?_;refine dI Tryz.underlying26 cR rfl rfl rfl rfl rfl rfl rfl ?_;intro gb bD;have Hu:=nz.ins fK (whole (eT [.agg #[.bool t.f,.slice t.A1 t.m1 t.c1,.slice t.A2 t.m2 t.c2]]) 31) bD;refine eN Tryz.underlying26 cR rfl rfl Hu.own (eZ _ _ _ _ _ _) rfl (KO _ _ _ _ _ _ _) (by rw[aW];omega) (by rw[aW];omega) ?_;intro W9 im Rf;have nz:=Hu.append fK (k:=[jH p (iu M B (k-1) i) j]) (by simp) Rf (pb (fK _ _ _ _ (Ct _ (Heap.bI _ bD)) (show bT _ [_,_,_] _ from eW)) rfl);refine vr 1 ?_;refine aq ?_;refine ag [4,7,10,11,64,65] rfl ?_;refine av rfl ?_;refine aD rfl rfl ⟨by omega,by omega⟩ ?_;refine vr 1 ?_;refine aq ?_
     exact⟨j+1,_,_,by omega,an,by rw[vR];exact nz,by omega,fun q hq=>by
      by_cases eq:q=j
      ·subst eq;exact Vv
      ·exact cO q (by omega)⟩
   ·
    have fP:p.free.length≤j:=by simpa using hb
    obtain rfl:j=p.free.length:=by omega
    refine aU ?_;refine ag [10] rfl ?_;refine ab ?_;refine vr 2 ?_;refine aa [6] ?_;refine az ⟨.inr rfl,_,.tmp rfl (.nil),?_⟩;exact⟨Rc.trans hG.le,hG.sl fK,cO⟩
end Go.ar
namespace Go.ar
open Go.Proofs Num Lp
section
variable {p:Prg}
theorem ah6{x y:Nat}(hx:x<p.w)(hy:y<p.w)(h:p.pi x=p.pi y):x=y:=by
 have lo:∀{a b:Nat},a<p.lp.n→b<p.lp.n→aT p.lp.free a=aT p.lp.free b→a=b:=fun{a b} _ _ e=>by
  rcases Nat.lt_trichotomy a b with k | k | k
  ·have:=AN (fr:=p.lp.free) k;omega
  ·exact k
  ·have:=AN (fr:=p.lp.free) k;omega
 have mx:∀{a b:Nat},p.lp.free b=true→aT p.lp.free a≠aT p.lp.free b+1:=fun{a b} hb e=>by
  rcases Nat.lt_trichotomy a b with k | k | k
  ·have:=AN (fr:=p.lp.free) k;omega
  ·subst k;omega
  ·have:=AN (fr:=p.lp.free) k
   rw[if_pos hb]at this;omega
 by_cases cx:x<p.c1
 ·have sE:y<p.c1:=by
   have h1:=Lk cx
   refine Classical.byContradiction fun hn=> ?_
   rw[uU (Nat.le_of_not_lt hn)]at h
   omega
  by_cases ax:x<p.lp.n
  ·by_cases ay:y<p.lp.n
   ·rw[wz ax,wz ay]at h;exact lo ax ay h
   ·obtain⟨j,g1,g2,rfl⟩:=Ho (Nat.le_of_not_lt ay) sE
    rw[wz ax,yN g1 g2]at h
    exact absurd h (mx g2)
  ·obtain⟨i,k1,k2,rfl⟩:=Ho (Nat.le_of_not_lt ax) cx
   by_cases ay:y<p.lp.n
   ·rw[wz ay,yN k1 k2]at h
    exact absurd h.symm (mx k2)
   ·obtain⟨j,g1,g2,rfl⟩:=Ho (Nat.le_of_not_lt ay) sE
    rw[yN k1 k2,yN g1 g2]at h
    rw[lo k1 g1 (by omega)]
 ·by_cases cy:y<p.c1
  ·have h1:=Lk cy
   rw[uU (Nat.le_of_not_lt cx)]at h
   omega
  ·rw[uU (Nat.le_of_not_lt cx),uU (Nat.le_of_not_lt cy)]at h;exact h
structure Tw(p:Prg)(S T:ao):Prop where
 em:T.m=S.m
 en:T.n=S.n
 ew:S.n=p.w
 eA:∀i,i<S.m→∀j,j≤p.w→T.A i j=S.A i (p.pi j)
 ec:∀j,j≤p.w→T.c j=S.c (p.pi j)
 eB:∀i,i<S.m→S.B i=p.pi (T.B i)∧T.B i<p.w
variable {S T:ao} {c0:Nat→Rat} {c:List Rat}
theorem Tw.pivot(h:Tw p S T){r s:Nat}(hr:r<S.m)(hs:s<p.w):Tw p (S.pivot r (p.pi s)) (T.pivot r s):=by
 refine⟨h.em,h.en,h.ew,fun i hi j hj=> ?_,fun j hj=> ?_,fun i hi=> ?_⟩
 ·have hi:i<S.m:=hi
  show (if i=r then T.A r j/T.A r s else T.A i j-T.A i s*(T.A r j/T.A r s))=if i=r then S.A r (p.pi j)/S.A r (p.pi s)else S.A i (p.pi j)-S.A i (p.pi s)*(S.A r (p.pi j)/S.A r (p.pi s))
  rw[h.eA r hr j hj,h.eA r hr s (by omega),h.eA i hi j hj,h.eA i hi s (by omega)]
 ·show T.c j-T.c s*(T.A r j/T.A r s)=S.c (p.pi j)-S.c (p.pi s)*(S.A r (p.pi j)/S.A r (p.pi s))
  rw[h.ec j hj,h.ec s (by omega),h.eA r hr j hj,h.eA r hr s (by omega)]
 ·have hi:i<S.m:=hi
  show (if i=r then p.pi s else S.B i)=p.pi (if i=r then s else T.B i)∧(if i=r then s else T.B i)<p.w
  split
  ·exact⟨rfl,hs⟩
  ·exact h.eB i hi
theorem Tw.wf(h:Tw p S T)(hW:S.WF):T.WF where
 lt i hi:=by rw[h.en,h.ew];exact(h.eB i (by rw[←h.em];exact hi)).2
 unit i k hi hk:=by
  rw[h.em]at hi hk
  have:=h.eB i hi
  rw[h.eA k hk _ (by omega),←this.1]
  exact hW.unit i k hi hk
 zero i hi:=by
  rw[h.em]at hi
  have:=h.eB i hi
  rw[h.ec _ (by omega),←this.1]
  exact hW.zero i hi
theorem Tw.rhs(h:Tw p S T){i:Nat}(hi:i<S.m):T.A i T.n=S.A i S.n:=by
 rw[h.en,h.ew,h.eA i hi _ (Nat.le_refl _),BB]
theorem Tw.eF(h:Tw p S T)(hF:S.jO):T.jO:=fun i hi=>by
 rw[h.em]at hi
 rw[h.rhs hi];exact hF i hi
theorem Tw.ah7(h:Tw p S T)(hF:T.jO):S.jO:=fun i hi=>by
 rw[←h.rhs hi];exact hF i (by rw[h.em];exact hi)
theorem Tw.Dy(h:Tw p S T){i:Nat}(hi:i<S.m):p.u≤S.B i↔p.u≤T.B i:=by
 have h1:=h.eB i hi
 constructor
 ·intro k
  refine Classical.byContradiction fun hn=> ?_
  have:=yO (p:=p) (x:=T.B i) (by omega)
  omega
 ·intro k
  rw[h1.1,QS k];exact k
theorem Tw.clean(h:Tw p S T){k:Nat}(hC:ao.Clean p.u k S):ao.Clean p.u k T where
 zero i hi hu:=by
  rw[h.em]at hi
  rw[h.rhs hi];exact hC.zero i hi ((h.Dy hi).2 hu)
 row i hk hi hu j hj:=by
  rw[h.em]at hi
  have:=fg p
  rw[h.eA i hi j (by omega)]
  exact hC.row i hk hi ((h.Dy hi).2 hu) _ (yO hj)
theorem Tw.ah8(h:Tw p S T){k:Nat}(hC:ao.Clean p.u k T):ao.Clean p.u k S where
 zero i hi hu:=by
  rw[←h.rhs hi];exact hC.zero i (by rw[h.em];exact hi) ((h.Dy hi).1 hu)
 row i hk hi hu y hy:=by
  obtain⟨x,hx,rfl⟩:=Lm hy
  have:=fg p
  rw[←h.eA i hi x (by omega)]
  exact hC.row i hk (by rw[h.em];exact hi) ((h.Dy hi).1 hu) x hx
theorem Tw.inv(h:Tw p S T)(hI:Inv p c0 S){r s:Nat}(hr:r<S.m)(hs:s<p.w)(hp:T.A r s≠0)(hF:(T.pivot r s).jO):Inv p c0 (S.pivot r (p.pi s)):=by
 have w9:S.A r (p.pi s)≠0:=by rw[←h.eA r hr s (by omega)];exact hp
 have hm:r<p.lp.m:=by rw[←hI.rows.m];exact hr
 have hw:=QT hs
 exact⟨ao.zN hI.wf hr (by rw[h.ew];exact hw) w9,(h.pivot hr hs).ah7 hF,hI.rows.pivot hm w9,hI.rows.NU hI.off hm⟩
def lK(p:Prg)(T:ao):Prop:=∃S,Inv p (pn p) S∧Tw p S T
def nD(p:Prg)(c:List Rat)(T:ao):Prop:=∃S,I2 p c S∧Tw p S T
def iJ(p:Prg)(k:Nat)(T:ao):Prop:=∃S,Jx p k S∧Tw p S T
theorem lK.step{r s:Nat}(h:lK p T)(hb:T.ot p.u r s):lK p (T.pivot r s):=by
 obtain⟨S,hI,hT⟩:=h
 have hr:r<S.m:=by rw[←hT.em];exact hb.rm
 have hs:s<p.w:=Nat.lt_of_lt_of_le hb.su (fg p)
 exact⟨_,hT.inv hI hr hs (by have:=hb.pos;grind) (ao.EX (hT.eF hI.eF) hb),hT.pivot hr hs⟩
theorem nD.step{r s:Nat}(h:nD p c T)(hb:T.ot p.u r s):nD p c (T.pivot r s):=by
 obtain⟨S,hI,hT⟩:=h
 have hr:r<S.m:=by rw[←hT.em];exact hb.rm
 have hs:s<p.w:=Nat.lt_of_lt_of_le hb.su (fg p)
 have hP:=hT.pivot hr hs
 have hC:=hT.clean hI.2
 rw[←hT.em]at hC
 exact⟨_,⟨hT.inv hI.1 hr hs (by have:=hb.pos;grind) (ao.EX (hT.eF hI.1.eF) hb),by have h9:=hP.ah8 (hC.E0 hb);rw[hP.em]at h9;exact h9⟩,hP⟩
theorem lK.acc(h:lK p T):Acc (ao.Step p.u) T:=by
 obtain⟨S,hI,hT⟩:=h
 exact ao.NO (hT.wf hI.wf) (hT.eF hI.eF) (by rw[hT.en,hT.ew];exact fg p)
theorem nD.acc(h:nD p c T):Acc (ao.Step p.u) T:=by
 obtain⟨S,hI,hT⟩:=h
 exact ao.NO (hT.wf hI.1.wf) (hT.eF hI.1.eF) (by rw[hT.en,hT.ew];exact fg p)
theorem iJ.skip{k:Nat}(h:iJ p k T)(hk:k<T.m)(hz:T.B k<p.u∨∀j,j<p.u→T.A k j=0):iJ p (k+1) T:=by
 obtain⟨S,hI,hT⟩:=h
 rw[hT.em]at hk
 refine⟨S,hI.skip ?_,hT⟩
 rcases hz with hz | hz
 ·have:=hT.Dy hk
  exact .inl (by omega)
 ·refine .inr fun y hy=> ?_
  obtain⟨x,hx,rfl⟩:=Lm hy
  have:=fg p
  rw[←hT.eA k hk x (by omega)];exact hz x hx
theorem iJ.pivot{k s:Nat}(h:iJ p k T)(hk:k<T.m)(hu:p.u≤T.B k)(hs:s<p.u)(hp:T.A k s≠0):iJ p (k+1) (T.pivot k s):=by
 obtain⟨S,hI,hT⟩:=h
 rw[hT.em]at hk
 have hw:=fg p
 exact⟨_,hI.pivot hk ((hT.Dy hk).2 hu) (yO hs) (by rw[←hT.eA k hk s (by omega)];exact hp),hT.pivot hk (by omega)⟩
theorem lK.clean(h:lK p T)(hn:∀j,j<p.u→0≤T.c j)(h0:T.c p.w=0):iJ p 0 T:=by
 obtain⟨S,hI,hT⟩:=h
 have:S.c p.w=0:=by rw[hT.ec _ (Nat.le_refl _),BB]at h0;exact h0
 exact⟨S,⟨hI,WQ hI (by grind)⟩,hT⟩
theorem lK.inf(bg:p.Ok)(h:lK p T)(hn:∀j,j<p.u→0≤T.c j)(h0:T.c p.w≠0):p.lp.p9:=by
 obtain⟨S,hI,hT⟩:=h
 have e:T.c p.w=S.c p.w:=by rw[hT.ec _ (Nat.le_refl _),BB]
 have hw:=fg p
 have hS:∀y,y<p.u→0≤S.c y:=fun y hy=>by
  obtain⟨x,hx,rfl⟩:=Lm hy
  rw[←hT.ec x (by omega)];exact hn x hx
 have h1:=ao.UN hI.wf hI.eF hI.rows hI.off
 have fI:S.c p.w<0:=Classical.byContradiction fun hk=>h0 (by rw[e];exact(h1 (by grind)).1)
 have h2:=WO bg hI hS fI
 exact h2.cert.isInf bg.valid
theorem lK.YS(h:lK p T){s:Nat}(hs:s<p.u)(fI:T.c s<0)(hA:∀i,i<T.m→T.A i s≤0):False:=by
 obtain⟨S,hI,hT⟩:=h
 have hw:=fg p
 refine WR hI (yO hs) (by rw[←hT.ec s (by omega)];exact fI) fun i hi=> ?_
 rw[←hT.eA i hi s (by omega)];exact hA i (by rw[hT.em];exact hi)
theorem ah9(hv:p.lp.Valid):∀{k:Nat}{j:Nat},k≤p.lp.m→p.u≤j→j<aV p.lp.rel p.aF p.u k→∃i,i<k∧p.unit i=j:=by
 intro k
 induction k with
 | zero=>
  intro j _ h1 h2
  exact absurd h2 (by show ¬j<p.u;omega)
 | succ k ih=>
  intro j hk h1 h2
  have e:aV p.lp.rel p.aF p.u (k+1)=aV p.lp.rel p.aF p.u k+(if eP (p.lp.rel k) (p.aF k)then 0 else 1):=rfl
  by_cases hj:j<aV p.lp.rel p.aF p.u k
  ·obtain⟨i,g1,g2⟩:=ih (by omega) h1 hj
   exact⟨i,by omega,g2⟩
  ·by_cases o:eP (p.lp.rel k) (p.aF k)=true
   ·rw[if_pos o]at e;omega
   ·rw[if_neg o]at e
    exact⟨k,by omega,by rw[uK o];omega⟩
def qB(p:Prg)(M:Nat→Nat→Rat)(k:Nat):Rat:=if k<p.u∨k=p.w then-aX p.lp.m (fun i=>if p.u≤p.unit i then M i k else 0)else 0
def wD(M:Nat→Nat→Rat)(B:Nat→Nat)(m w:Nat):ao:=⟨m,w,M,M m,B⟩
theorem Ls{M:Nat→Nat→Rat}{B:Nat→Nat}{m w:Nat}:gF M B (wD M B m w) m (w+1):=⟨rfl,rfl,fun _ _ _ _=>rfl,fun _ _=>rfl,fun _ _=>rfl⟩
theorem YT(i:Nat):p.pi (p.unit i)=p.unit i:=uU Kk
theorem YU(bg:p.Ok){M:Nat→Nat→Rat}(hM:∀i,i<p.lp.m→∀j,j≤p.w→M i j=dG p i j)(hc:∀j,j≤p.w→M p.lp.m j=qB p M j):lK p (wD M p.unit p.lp.m p.w):=by
 have hI:Inv p (pn p) (pA p.dP (pn p)):=Inv.base AU
 have hA:∀i,i<p.lp.m→∀j,j≤p.w→M i j=p.dP.A i (p.pi j):=fun i hi j hj=>by rw[hM i hi j hj,QX bg.valid hi hj]
 refine⟨_,hI,rfl,rfl,rfl,hA,fun j hj=> ?_,fun i hi=>⟨(YT i).symm,nx p hi⟩⟩
 show M p.lp.m j=gn p.dP (pn p) p.lp.m (p.pi j)
 rw[hc j hj]
 have hpu:∀i,i<p.lp.m→pn p (p.unit i)=if p.u≤p.unit i then 1 else 0:=fun i hi=>by
  show ao.jq _ _ _=_
  unfold ao.jq
  by_cases k:p.u≤p.unit i
  ·rw[if_pos k,if_pos ⟨k,nx p hi⟩]
  ·rw[if_neg k,if_neg (fun k'=>k k'.1)]
 have xS:aX p.lp.m (fun i=>pn p (p.dP.B i)*p.dP.A i (p.pi j))=aX p.lp.m (fun i=>if p.u≤p.unit i then M i j else 0):=eO fun i hi=>by
  show pn p (p.unit i)*_=_
  rw[hpu i hi,hA i hi j hj]
  split <;> grind
 unfold qB gn
 rw[xS]
 by_cases h1:j<p.u
 ·have h2:=fg p
  have h3:=yO h1
  have e:pn p (p.pi j)=0:=ao.NW h3
  rw[if_pos (.inl h1),if_neg (by show ¬p.pi j=p.w;omega),e];grind
 ·by_cases h2:j=p.w
  ·rw[if_pos (.inr h2),h2,if_pos (show p.pi p.w=p.dP.n from BB)];grind
  ·rw[if_neg (fun k=>k.elim h1 h2)]
   obtain⟨i0,hi0,e0⟩:=ah9 bg.valid (Nat.le_refl _) (Nat.le_of_not_lt h1) (show j<p.w by omega)
   have hz:=hI.wf.zero i0 hi0
   have hz:gn p.dP (pn p) p.lp.m (p.unit i0)=0:=hz
   unfold gn at hz
   rw[←xS,←e0,YT];exact hz.symm
theorem YV{M:Nat→Nat→Rat}{B:Nat→Nat}{f:Nat→Rat}{m:Nat}(hu:∀i k,i<m→k<m→M k (B i)=if k=i then 1 else 0):∀i,i≤m→∀k,lh M B f i k=f k-aX i (fun q=>f (B q)*M q k):=by
 intro i
 induction i with
 | zero=>intro _ k;show f k=f k-0;grind
 | succ i ih=>
  intro hi k
  have e1:lh M B f i (B i)=f (B i):=by
   rw[ih (by omega),mE fun q hq=> ?_]
   ·grind
   ·rw[hu i q (by omega) (by omega),if_neg (by omega)];grind
  show lh M B f i k-lh M B f i (B i)*M i k=_
  rw[e1,ih (by omega),fG];grind
theorem YW{M:Nat→Nat→Rat}{B:Nat→Nat}(h:iJ p p.lp.m T)(hr:gF M B T p.lp.m (p.w+1)){M':Nat→Nat→Rat}(hM:∀i,i<p.lp.m→∀j,j≤p.w→M' i j=M i j)(jd:∀j,j≤p.w→M' p.lp.m j=lh M B (eQ p (fn c) 1 p.lp.n) p.lp.m j):nD p c (wD M' B p.lp.m p.w):=by
 obtain⟨S,hI,hT⟩:=h
 have hm:S.m=p.lp.m:=hI.1.rows.m
 have hW:=hT.wf hI.1.wf
 have hn:=hT.en.trans hT.ew
 refine⟨_,I2.start hI,hm.symm,hT.ew.symm,hT.ew,fun i hi j hj=> ?_,fun j hj=> ?_,fun i hi=> ?_⟩
 ·have hi:i<S.m:=hi
  show M' i j=S.A i (p.pi j)
  rw[hM i (by omega) j hj,hr.eA i (by omega) j (by omega),hT.eA i hi j hj]
 ·show M' p.lp.m j=gn S (j9 p c) S.m (p.pi j)
  have hu:∀i k,i<p.lp.m→k<p.lp.m→M k (B i)=if k=i then 1 else 0:=fun i k hi hk=>by
   have h1:=hW.lt i (by rw[hr.em];exact hi)
   rw[hr.eB i hi,hr.eA k hk _ (by omega)]
   exact hW.unit i k (by rw[hr.em];exact hi) (by rw[hr.em];exact hk)
  rw[jd j hj,YV hu _ (Nat.le_refl _)]
  unfold gn
  have e1:eQ p (fn c) 1 p.lp.n j=if p.pi j=S.n then 0 else j9 p c (p.pi j):=by
   rw[Hp]
   by_cases e:p.pi j=S.n
   ·rw[if_pos e]
    have e':p.pi j=p.w:=e.trans hT.ew
    have h1:=Kq (p:=p) (c:=c)
    rw[e'];exact h1
   ·rw[if_neg e]
  rw[e1,hm]
  congr 1
  refine eO fun i hi=> ?_
  have h1:=hT.eB i (by omega)
  rw[hr.eB i hi,Hp,hr.eA i hi j (by omega),hT.eA i (by omega) j hj,h1.1]
 ·have hi:i<S.m:=hi
  have h1:=hT.eB i hi
  show S.B i=p.pi (B i)∧B i<p.w
  rw[hr.eB i (by omega)];exact h1
theorem aia{M:Nat→Nat→Rat}{B:Nat→Nat}{n m:Nat}(gg:∀i k,i<m→k<m→B i=B k→i=k):∀i,i≤m→∀x,iu M B n i x=aX i (fun q=>if B q=x then M q n else 0):=by
 intro i
 induction i with
 | zero=>intro _ x;rfl
 | succ i ih=>
  intro hi x
  rw[fG]
  show bQ (iu M B n i) (B i) (M i n) x=_
  by_cases e:x=B i
  ·subst e
   rw[qy,if_pos rfl,mE fun q hq=> ?_]
   ·grind
   ·rw[if_neg (fun e'=>by have:=gg q i (by omega) (by omega) e';omega)]
  ·rw[oJ e,ih (by omega),if_neg (fun e'=>e e'.symm)];grind
theorem aib{M:Nat→Nat→Rat}{B:Nat→Nat}(hI:I2 p c S)(hT:Tw p S T)(hr:gF M B T p.lp.m (p.w+1)){j:Nat}(hj:j<p.lp.n):jH p (iu M B p.w p.lp.m) j=dE.vec p.lay.pF p.lay.mF S.pt j:=by
 have hm:S.m=p.lp.m:=hI.1.rows.m
 have hW:=hT.wf hI.1.wf
 have hn:=hT.en.trans hT.ew
 have key:∀x,x<p.w→iu M B p.w p.lp.m x=S.pt (p.pi x):=fun x hx=>by
  have h1:=QT hx
  rw[aia (m:=p.lp.m) (fun i k hi hk e=> ?_) _ (Nat.le_refl _)]
  ·unfold ao.pt
   rw[if_neg (by rw[hT.ew];omega),hm]
   refine eO fun i hi=> ?_
   have h2:=hT.eB i (by omega)
   have e:B i=x↔S.B i=p.pi x:=by
    rw[hr.eB i hi,h2.1]
    exact⟨fun e=>by rw[e],fun e=>ah6 h2.2 hx e⟩
   by_cases e2:B i=x
   ·rw[if_pos e2,if_pos (e.1 e2),hr.eA i hi _ (by omega),hT.eA i (by omega) _ (Nat.le_refl _),BB,hT.ew]
   ·rw[if_neg e2,if_neg (fun k=>e2 (e.2 k))]
  ·rw[hr.eB i hi,hr.eB k hk]at e
   exact hW.inj (by rw[hr.em];exact hi) (by rw[hr.em];exact hk) e
 have h1:=wA (p:=p)
 have h2:=l5 p
 have h3:=fg p
 unfold jH dE.vec
 rw[yo p hj,C8 hj]
 by_cases hf:p.lp.free j=true
 ·rw[if_pos hf,if_pos hf,key j (by omega),wz hj]
  have h4:=uV hj hf
  rw[key _ (by omega),yN hj hf];rfl
 ·rw[if_neg hf,if_neg hf,key j (by omega),wz hj]
  show _=_-0
  grind
def rS(p:Prg)(c:List Rat)(st:Int)(v:Rat):Prop:=(st=1∧p.lp.qa (fn c) v∧∃T,I2 p c T∧v = -(T.c p.w))∨(st=2∧p.lp.p9∧v=0)∨(st=3∧p.lp.uc (fn c)∧v=0)
theorem nD.opt(bg:p.Ok)(dA:c.length=p.free.length)(h:nD p c T)(hn:∀j,j<p.u→0≤T.c j){M:Nat→Nat→Rat}{B:Nat→Nat}(hr:gF M B T p.lp.m (p.w+1)):
  rS p c 1 (cj p.free.length (fn c) (fn (aH (jH p (iu M B p.w p.lp.m)) p.free.length))):=by
 obtain⟨S,hI,hT⟩:=h
 have hw:=fg p
 have hS:∀y,y<p.u→0≤S.c y:=fun y hy=>by
  obtain⟨x,hx,rfl⟩:=Lm hy
  rw[←hT.ec x (by omega)];exact hn x hx
 obtain⟨h1,h2⟩:=WS bg dA hI hS
 have e:aH (jH p (iu M B p.w p.lp.m)) p.free.length=aH (dE.vec p.lay.pF p.lay.mF S.pt) p.lp.n:=j6 fun j hj=>aib hI hT hr hj
 rw[e]
 exact .inl ⟨rfl,h1.cert.NP bg.valid,S,hI,h2.symm⟩
theorem nD.YX(bg:p.Ok)(dA:c.length=p.free.length)(h:nD p c T){s:Nat}(hs:s<p.u)(fI:T.c s<0)(hA:∀i,i<T.m→T.A i s≤0):rS p c 3 0:=by
 obtain⟨S,hI,hT⟩:=h
 have hw:=fg p
 have h1:=WT bg dA hI (yO hs) (by rw[←hT.ec s (by omega)];exact fI) fun i hi=>by
  rw[←hT.eA i hi s (by omega)];exact hA i (by rw[hT.em];exact hi)
 exact .inr (.inr ⟨rfl,h1.cert.Uz,rfl⟩)
end
end Go.ar
namespace Go.ar
open Go.Proofs Num Lp
theorem YY{H:Heap}{a b:List Nat}(h:∀q,q∈a↔q∈b):rem H a=rem H b:=by
 funext q
 unfold rem
 simp only[h]
theorem aic{α:Type}{P:Heap→List Value→α→Prop}{e sz:Nat}{H:Heap}{gs:List Nat}{g c:Nat}{zs:List Value}{z k:Int}(hg:H g=none)(hz:z.toNat=0)(hk:k.toNat=c)(hc:c≤maxLen)(hl:∀q,q∈gs→H q≠none):iG gs H P e sz (ins H g ⟨du zs (z.toNat*sz),k.toNat*sz,e,true⟩) (.slice (some ⟨g,0,none⟩) z.toNat k.toNat) [] []:=by
 have h1:=KT (P:=P) (e:=e) (sz:=sz) (zs:=zs) hg hz hk hc
 have hn:¬g∈gs:=fun hm=>hl g hm hg
 refine⟨h1.own,sI,?_,fun q hq=>a7 _ _ fun(e':q=g)=>hn (by rw[←e'];exact hq),hl,fun q hq hb=> ?_⟩
 ·intro q en hq
  by_cases hm:q∈gs
  ·rw[rem_in hm]at hq;cases hq
  ·rw[bL hm]at hq
   have aY:q≠g:=fun e'=>by rw[e',hg]at hq;cases hq
   refine⟨en,?_,.refl _⟩
   rw[bL,a7 _ _ aY]
   ·exact hq
   ·intro h2
    rcases List.mem_append.1 h2 with h2 | h2
    ·exact hm h2
    ·exact aY (List.mem_singleton.1 h2)
 ·have hb:q∈[g]:=hb
  exact hn (by rw[←List.mem_singleton.1 hb];exact hq)
section
variable {C:CK} {o:Bool} {H H' H0:Heap} {g:Nat} {G:GG} {R W m:Nat} {M:Nat→Nat→Rat} {B:Nat→Nat} {f:Nat→Rat}
theorem iG.cT{α:Type}{P:Heap→List Value→α→Prop}{e sz n c z:Nat}{l:List α}{xs:List Value}(h:bZ C H0 G R W m M B)(hG:iG G.gs H0 P e sz H (.slice (some ⟨z,0,none⟩) n c) l xs):bZ C H (G.on (z::G.top)) R W m M B∧Heap.le (rem H0 G.gs) (rem H (G.on (z::G.top)).gs)∧rem H (G.on (z::G.top)).gs=rem H (G.gs++aE (.slice (some ⟨z,0,none⟩) n c)):=by
 have e1:rem H (G.on (z::G.top)).gs=rem H (G.gs++aE (.slice (some ⟨z,0,none⟩) n c)):=YY fun q=>by
  show q∈z::G.gs↔q∈G.gs ++ [z]
  simp[or_comm]
 have hz:z∈aE (.slice (some ⟨z,0,none⟩) n c):=List.mem_singleton.2 rfl
 have hm:¬z∈G.gs:=fun hm=>hG.apart z hm hz
 refine⟨h.Bl (t:=z::G.top) (List.nodup_cons.2 ⟨hm,h.nd⟩) (fun q hq=> ?_) (fun q hq=>hG.same q (GG.kz hq)) (by rw[e1];exact hG.base),by rw[e1];exact hG.base,e1⟩
 rcases List.mem_cons.1 hq with rfl | hq
 ·exact hG.yG q (List.mem_append_right _ hz)
 ·rw[hG.same q (GG.Bj hq)];exact h.top q hq
theorem QV.more{z c lg:Nat}{A':Option Addr}(h:QV o H g (G.on (z::G.top)) R W m M B)(hg:g∈G.top)(aY:z≠g)(hz:oI uS (rem H (G.on (z::G.top)).gs) H z (aH f W))(ha:App H (.slice G.Ar R G.cr) 161 1 (R+1) (iH (G.rg ++ [(z,c)]) W) (.slice A' (R+1) lg) H'):
  QV o (ins H' g ⟨[.slice A' (R+1) lg,G.bv,.bool o],3,160,true⟩) g (G.more G.top z c A' lg R) (R+1) W m (fun i=>if i=R then f else M i) B∧Heap.le (rem H (G.on (z::G.top)).gs) (rem (ins H' g ⟨[.slice A' (R+1) lg,G.bv,.bool o],3,160,true⟩) (G.more G.top z c A' lg R).gs)∧H' g=some ⟨[.slice G.Ar R G.cr,G.bv,.bool o],3,160,true⟩:=by
 obtain⟨h1,h2⟩:=h.cT.more hz ha
 have hm:g∈(G.more G.top z c A' lg R).top:=hg
 have AF:g∈(G.more G.top z c A' lg R).gs:=GG.Bj hm
 have hT:fE (G.more G.top z c A' lg R).gs g H' (ins H' g ⟨[.slice A' (R+1) lg,G.bv,.bool o],3,160,true⟩):=((Kept.refl _ _).il g).ins AF _
 refine⟨⟨h1.Bm hm hT (by rw[bo];simp),hm,bo _ _ _⟩,h2.trans hT.le,?_⟩
 refine ha.same g _ h.st fun e=> ?_
 have hb:g∈(G.on (z::G.top)).hb:=by rw[h.cT.lI];exact dg.2 e
 exact GG.tq h.cT.nd (q:=g) (r:=g) (List.mem_cons_of_mem _ hg) (GG.Bk hb) rfl
theorem QV.less(h:QV o H g G (R+1) W m M B):∃H',Heap.le H' (ins H g ⟨[.slice G.Ar R G.cr,G.bv,.bool o],3,160,true⟩)∧QV o H' g (G.less R) R W m M B∧Heap.le (rem H G.gs) (rem H' (G.less R).gs)∧R≤G.cr:=by
 have hT:fE G.gs g H (ins H g ⟨[.slice G.Ar R G.cr,G.bv,.bool o],3,160,true⟩):=((Kept.refl _ _).il g).ins h.mem _
 have h1:=h.cT.Bm h.gt hT (by rw[bo];simp)
 obtain⟨H',k1,k2,k3,k4,_,k5⟩:=h1.less
 exact⟨H',k1,⟨k2,h.gt,by rw[k4 g h.gt];exact bo _ _ _⟩,hT.le.trans k3,k5⟩
end
structure Hv(H:Heap)(Ar:Option Addr)(Ab:Option Addr)(rg:List (Nat×Nat))(m W:Nat)(M:Nat→Nat→Rat)(B:Nat→Nat):Prop where
 len:rg.length=m
 kF:Rd H Ar (iH rg W)
 row:∀(i:Nat)(p:Nat×Nat),rg[i]? = some p→∃xs,Rd H (some ⟨p.1,0,none⟩) xs∧bC (bT H) 3 xs (aH (M i) W)
 rT:Rd H Ab (ee B m)
theorem Hv.le{H H':Heap}{Ar Ab:Option Addr}{rg:List (Nat×Nat)}{m W:Nat}{M:Nat→Nat→Rat}{B:Nat→Nat}(h:Hv H Ar Ab rg m W M B)(hl:Heap.le H H'):Hv H' Ar Ab rg m W M B:=
 ⟨h.len,h.kF.le hl,fun i p hp=>by
  obtain⟨xs,h1,h2⟩:=h.row i p hp
  exact⟨xs,h1.le hl,h2.mono fun vs a=>fK _ _ vs a hl⟩,h.rT.le hl⟩
theorem aid{H H':Heap}(gs:List Nat)(hl:Heap.le H H')(aY:∀q,q∈gs→H q≠none):∃rW,Heap.le rW H'∧Kept gs H rW:=by
 refine⟨fun q=>if q∈gs then H q else H' q,fun q en hq=> ?_,fun q en hq=> ?_,fun q hq=>by simp[hq]⟩
 ·by_cases hm:q∈gs
  ·simp only[hm,if_true]at hq;exact hl q en hq
  ·simp only[hm,if_false]at hq;exact⟨en,hq,.refl _⟩
 ·by_cases hm:q∈gs
  ·rw[rem_in hm]at hq;cases hq
  ·rw[bL hm]at hq
   rw[bL hm]
   simp only[hm,if_false];exact hl q en hq
end Go.ar
namespace Go.ar
open Go.Proofs Num Lp
structure KQ(gs:List Nat)(H:Heap)(q:Rat)(v:Value)(H':Heap):Prop where
 kept:Kept gs H H'
 le:Heap.le H H'
 val:∃t:RC,v=t.v∧bK (rem H' gs) t.v q
theorem Fn.kq{P:Program}{f:FuncId}{args:Array Value}{H:Heap}{gs:List Nat}{q:Rat}(jA:∀g,g∈gs→H g≠none)(h:Fn P f args (rem H gs) (kp (rem H gs) q)):Fn P f args H (KQ gs H q):=
 (Fn.frame jA h.rc).mono fun v H' hf=>⟨.of hf fun v K hp=>hp.1,hf.le fun v K hp=>hp.1,hf.post.2⟩
theorem lL{K:Heap}{xs:List Value}{f:Nat→Rat}{W k:Nat}(h:bC (bT K) 3 xs (aH f W))(hk:k<W):∃t:RC,bK K t.v (f k)∧∀(j:Nat)(v:Value),[.bool t.f,.slice t.A1 t.m1 t.c1,.slice t.A2 t.m2 t.c2][j]? = some v→xs[k*3+j]? = some v:=by
 obtain⟨vs,_,h2,h3⟩:=h.get (di hk)
 obtain⟨t,e⟩:=bK.rc (show bK K (.agg vs.toArray) (f k)from h2)
 have e2:=uh e
 subst e2
 exact⟨t,h2,h3⟩
theorem YZ{K:Heap}{xs vs:List Value}{f:Nat→Rat}{n k:Nat}{q:Rat}(h:bC (bT K) 3 xs (aH f n))(hk:k<n)(hv:bT K vs q):bC (bT K) 3 (aI xs (k*3) vs) (aH (bQ f k q) n):=by
 rw[←On]
 exact h.set (by rw[aW];exact hk) hv (iq.len _ _ _ hv)
section
variable {K H H':Heap} {G:GG} {R W m:Nat} {M M':Nat→Nat→Rat} {B:Nat→Nat} {u u':Value} {l:List Nat} {f:Nat→Rat}
theorem bZ.hd{C:CK}(h:bZ C H G R W m M B):Rd H G.Ar (iH G.rg W):=h.rows.rd
theorem bZ.rT{C:CK}(h:bZ C H G R W m M B):∃Ab cb,G.bv = .slice Ab m cb∧∀{H' t R' M' B'},bZ C H' (G.on t) R' W m M' B'→∀i,i<m→Rd H' Ab (ee B' m):=by
 rcases h.basis with ⟨h1,h2,h3⟩ | ⟨gb,cb,sz,h1,h2,h3⟩
 ·exact⟨none,0,by rw[h3,h1],fun _ i hi=>by omega⟩
 ·refine⟨_,cb,h2,fun h' i hi=> ?_⟩
  rcases h'.basis with ⟨k1,k2,k3⟩ | ⟨Bu,Lc,pT,k1,k2,k3⟩
  ·omega
  ·have k1:G.bb = [Bu]:=k1
   rw[h1]at k1;cases k1;exact dF k3
theorem bZ.qC(h:bZ iq H G R W m M B){i:Nat}{p:Nat×Nat}(hp:G.rg[i]? = some p):∃xs sz,H p.1=some ⟨xs,sz,31,true⟩∧bC (bT (rem H G.gs)) 3 xs (aH (M i) W):=h.row i p hp
theorem bZ.aie(h:bZ iq H G R W m M B){i:Nat}{p:Nat×Nat}(hp:G.rg[i]? = some p)(iw:Kept G.gs H H'){xs:List Value}{sz:Nat}(hx:H p.1=some ⟨xs,sz,31,true⟩)(gE:bC (bT (rem H G.gs)) 3 xs (aH (M i) W)){k:Nat}(hk:k<W){vs:List Value}{q:Rat}(hv:bT (rem H' G.gs) vs q):
  bZ iq (ins H' p.1 ⟨aI xs (k*3) vs,sz,31,true⟩) G R W m (ic M i (bQ (M i) k q)) B∧Heap.le (rem H G.gs) (rem (ins H' p.1 ⟨aI xs (k*3) vs,sz,31,true⟩) G.gs):=by
 have hm:=GG.kz (GG.gm hp)
 have h1:=h.kept iw
 have hT:fE G.gs p.1 H' (ins H' p.1 ⟨aI xs (k*3) vs,sz,31,true⟩):=((Kept.refl _ _).il p.1).ins hm _
 refine⟨h1.setRow hp hT ⟨_,_,bo _ _ _,?_⟩,iw.le.trans hT.le⟩
 rw[cC _ hm]
 exact YZ (gE.mono fun vs a=>fK _ _ vs a iw.le) hk hv
theorem bZ.fresh{C:CK}(h:bZ C H G R W m M B){k:Nat}{e:Ent}(hk:H k=none):bZ C (ins H k e) G R W m M B∧Heap.le (rem H G.gs) (rem (ins H k e) G.gs):=by
 have hm:¬k∈G.gs:=fun hm=>h.ne k hm hk
 have hl:Heap.le (rem H G.gs) (rem (ins H k e) G.gs):=by
  rw[xN _ hm]
  exact Heap.bI _ (by rw[bL hm];exact hk)
 exact⟨h.kept ⟨hl,fun q hq=>a7 _ _ fun(e':q=k)=>hm (by rw[←e'];exact hq)⟩,hl⟩
theorem bZ.BE{C:CK}(h:bZ C H G R W m M B)(hM:∀i,i<R→∀j,j<W→M' i j=M i j):bZ C H G R W m M' B:=h.congr hM fun _ _=>rfl
structure GU(K H:Heap)(G:GG)(R W m:Nat)(M:Nat→Nat→Rat)(B:Nat→Nat)(u:Value)(l:List Nat):Prop where
 q:bZ iq H (G.on (aE u++G.top)) R W m M B
 own:bP H u 3 1 l.length (uT l)
 le:Heap.le K (rem H (G.on (aE u++G.top)).gs)
theorem GU.step(h:GU K H G R W m M B u l)(hq:bZ iq H' (G.on (aE u++G.top)) R W m M' B)(hl:Heap.le (rem H (G.on (aE u++G.top)).gs) (rem H' (G.on (aE u++G.top)).gs))(hs:∀q,q∈aE u→H' q=H q):GU K H' G R W m M' B u l:=
 ⟨hq,h.own.same fun q oV=>hs q (dg.2 oV),h.le.trans hl⟩
theorem GU.kept(h:GU K H G R W m M B u l)(k:Kept (G.on (aE u++G.top)).gs H H'):GU K H' G R W m M B u l:=h.step (h.q.kept k) k.le fun q hq=>k.same q (QU.wm hq)
theorem GU.set(h:GU K H G R W m M B u l){i:Nat}{p:Nat×Nat}(hp:G.rg[i]? = some p)(iw:Kept (G.on (aE u++G.top)).gs H H'){xs:List Value}{sz:Nat}(hx:H p.1=some ⟨xs,sz,31,true⟩)(gE:bC (bT (rem H (G.on (aE u++G.top)).gs)) 3 xs (aH (M i) W)){k:Nat}(hk:k<W){vs:List Value}{q:Rat}(hv:bT (rem H' (G.on (aE u++G.top)).gs) vs q):
  GU K (ins H' p.1 ⟨aI xs (k*3) vs,sz,31,true⟩) G R W m (ic M i (bQ (M i) k q)) B u l:=by
 obtain⟨h1,h2⟩:=h.q.aie (G:=G.on (aE u++G.top)) hp iw hx gE hk hv
 refine h.step h1 h2 fun r hr=> ?_
 rw[a7 _ _ (fun e=>GG.tq h.q.nd (q:=r) (r:=p.1) (List.mem_append_left _ hr) (GG.gm (G:=G.on (aE u++G.top)) hp) e)]
 exact iw.same r (QU.wm hr)
theorem GU.app(h:GU K H G R W m M B u l){k n:Nat}(hn:n=l.length+1)(ha:App H u 3 1 n (uT l ++ [.int .i64 (k:Int)]) u' H'):GU K H' G R W m M B u' (l ++ [k]):=by
 obtain⟨h1,h2⟩:=h.q.app ha
 refine⟨h1,?_,h.le.trans h2⟩
 have:=ha.own
 rw[hn]at this
 rw[List.length_append,uT,List.map_append];exact this
theorem GU.fresh(h:GU K H G R W m M B u l){k:Nat}{e:Ent}(hk:H k=none):GU K (ins H k e) G R W m M B u l:=by
 obtain⟨h1,h2⟩:=h.q.fresh (e:=e) hk
 exact h.step h1 h2 fun q hq=>a7 _ _ fun(e':q=k)=>h.q.ne q (QU.wm hq) (by rw[e'];exact hk)
theorem GU.Bs(h:GU K H G R W m M B u l):GU (rem H (G.on (aE u++G.top)).gs) H G R W m M B u l:=⟨h.q,h.own,.refl _⟩
theorem GU.down{K':Heap}(h:GU K H G R W m M B u l)(hl:Heap.le K' K):GU K' H G R W m M B u l:=⟨h.q,h.own,hl.trans h.le⟩
theorem GU.drop(h:GU K H G R W m M B u l):bZ iq H G R W m M B∧Heap.le K (rem H G.gs):=by
 have hl:Heap.le (rem H (G.on (aE u++G.top)).gs) (rem H G.gs):=GW fun q hq=>by
  rw[GG.wj,List.append_assoc];exact List.mem_append_right _ hq
 have dJ:=h.q.nd
 rw[GG.wj,List.append_assoc]at dJ
 exact⟨h.q.Bl (t:=G.top) (List.nodup_append.1 dJ).2.1 (fun q hq=>h.q.top q (List.mem_append_right _ hq)) (fun _ _=>rfl) hl,h.le.trans hl⟩
theorem GU.rd{A:Option Addr}{n c:Nat}(h:GU K H G R W m M B (.slice A n c) l):Rd H A (uT l):=by
 have h1:=h.own
 obtain⟨A',c',e⟩:=h1.form
 cases e
 exact h1.rd
end
end Go.ar
namespace Go.ar
open Go.Proofs Num Lp
theorem Y0{H:Heap}{G:GG}{R W m N:Nat}{M:Nat→Nat→Rat}{B:Nat→Nat}{r c:Nat}(h:bZ iq H G R W m M B)(hr:r<m)(eK:r<R)(hc:c<W)(hp:M r c≠0)(hz:∀i,i<R→∀j,j<W→aG (M i j)≤N)(Oh:∀i,i<R→∀j,j<W→aG (lJ M r c i j)≤N)(hN:(N:Int)≤200000000000)(hR:(R:Int)≤1000000)(hW:(W:Int)≤1000000):
 Fn Tryz.prog 68 #[.agg #[.slice G.Ar R G.cr,G.bv],.int .i64 (r:Int),.int .i64 (c:Int)] H (fun _ H'=>∃M',bZ iq H' G R W m M' (fun i=>if i=r then c else B i)∧(∀i,i<R→∀j,j<W→M' i j=lJ M r c i j)∧Heap.le (rem H G.gs) (rem H' G.gs)):=by
 obtain⟨pr,cN⟩:=h.get eK
 obtain⟨Ab,cb,cY,ga⟩:=h.rT
 rw[cY]
 obtain⟨Yq,Yr,sC,G6⟩:=h.qC cN
 obtain⟨t0,I5,mD⟩:=lL G6 hc
 have iV:=hz r eK c hc
 have Y1:∀j,j<W→aG (M r j/M r c)≤N:=fun j hj=>by
  have:=Oh r eK j hj
  unfold lJ at this;rwa [if_pos rfl]at this
 have hinv:aG (1/M r c)≤N:=by
  have e:(1:Rat)/M r c=(M r c)⁻¹:=by rw[Rat.div_def];grind
  rw[e];exact Nat.le_trans (Vg _) iV
 refine aZ (args:=[_,_,_]) Tryz.func68 rfl rfl Tryz.ntmps68 rfl rfl fun w0=> ?_;refine ag [0,1,2] rfl ?_;refine ab ?_;refine bS rfl rfl ?_;refine aa [1,2,3] ?_;refine bJ .bF [1,2,3,4,5,6,7,8,0,9,10,11,12,13,14,15] follows (ib [0,0,2,0,14,30,0,126,254,511,1023,2047,2047,0,12287,32767] (by kernel_rfl)) ?_;refine vr 3 ?_;refine aM ae rfl rfl rfl rfl rfl (h.hd) (by rw[Int.toNat_natCast];exact ke (rg:=G.rg) (W:=_) cN) (by omega) (by omega) fun _=> ?_;refine vr 1 ?_;refine bR (vs:=[.bool t0.f,.slice t0.A1 t0.m1 t0.c1,.slice t0.A2 t0.m2 t0.c2]) ae rfl rfl rfl rfl (dF sC) rfl (by decide) (by rw[Int.toNat_natCast];exact mD) (by omega) (by omega) fun _=> ?_;refine aO rfl rfl (Fn.kq h.ne (ry (n:=1) (by decide) (by decide))) (fun _ _ h=>by first | exact h.le | exact h.1) ?_;rintro v5 H5 Hw;obtain⟨t5,rfl,eU⟩:=Hw.val;rw[show ((1:Int):Rat)=1 from rfl]at eU
 have nS:aG (1:Rat)≤2:=by decide
 have h5:=h.kept Hw.kept;have ale:=(Hw.kept.same _ (GG.kz (GG.gm cN))).trans sC;refine aO rfl rfl (Fn.frame h5.ne (OL (N:=N+4) ((bK.raw eU).mono (by omega)) ((bK.raw (I5.le Hw.kept.le)).mono (by omega)) (by omega))) (fun _ _ h=>h.le fun _ _ h=>h.1) ?_;rintro _ H6 mT;have Y2:Kept G.gs H5 H6:= .of mT fun v K hp=>hp.1;obtain⟨_,w6,rfl,nv⟩:=mT.post;obtain⟨t6,rfl⟩:=nv.rc;have h6:=h5.kept Y2;have jr:=Hw.kept.le.trans Y2.le;have QA:GU (rem H6 G.gs) H6 G R W m (ic M r (M r)) B (.slice none 0 0) (ea (M r) 0):=⟨by rw[K6];exact h6,lQ _ _ _,.refl _⟩;refine vr 3 ?_;refine bt cR rfl ?_;obtain⟨ti,aj,ak⟩:=a8;refine aJ (.inl ⟨rfl,rfl⟩) rfl rfl rfl aj ak rfl rfl rfl ?_;refine vr 1 ?_;refine aa [1,2,3,6] ?_;refine ab ?_;refine vr 1 ?_;refine aa [1,2,3,6,8] ?_;refine al ?_;refine ab ?_;refine vr 3 ?_;refine aM ae rfl rfl rfl rfl rfl (h6.hd) (by rw[Int.toNat_natCast];exact ke (rg:=G.rg) (W:=_) cN) (by omega) (by omega) fun _=> ?_;refine vr 2 ?_;refine aa [1,2,3,6,8,32,33] ?_;refine aC ?_;refine gh (fun(k:Nat)(u:Value)(f:Nat→Rat)=>W-k) (fun(k:Nat)(u:Value)(f:Nat→Rat)=>put (put (put (put (put (put (put (emp) 1 (.val (.int .i64 (r:Int)))) 2 (.val (.int .i64 (c:Int)))) 3 (.box [.slice G.Ar R G.cr,.slice Ab m cb])) 6 (.box [.bool t6.f,.slice t6.A1 t6.m1 t6.c1,.slice t6.A2 t6.m2 t6.c2])) 8 (.val (u))) 32 (.val (.int .i64 (W:Int)))) 33 (.val (.int .i64 (k:Int)))) (fun(k:Nat)(u:Value)(f:Nat→Rat) H'=>GU (rem H6 G.gs) H' G R W m (ic M r f) B u (ea (M r) k)∧Yl false false M r c W k f∧k≤W) 0 (.slice none 0 0) (M r) (⟨QA,⟨fun _ _=>rfl,fun h9=>⟨h9,fun j hj=>absurd hj (Nat.not_lt_zero _)⟩⟩,Nat.zero_le _⟩) an ?_
 rintro k u f H7 ⟨hU,hP,hk⟩;obtain⟨A7,c7,rfl⟩:=hU.own.form;obtain⟨QB,sr7,Bt,wo⟩:=hU.q.qC (G:=G.on _) cN;rw[oK]at wo;have QC:=wo.len;rw[aW]at QC;have yb:=Yi (M r) k;refine ab ?_;refine vr 1 ?_;refine aa [1,2,3,6,8,32,33,34] ?_;refine al ?_;refine aB rfl (fun hb=> ?_) (fun hb=> ?_)
 ·
  have eX:k<W:=by simpa using hb
  obtain⟨t7,rJ,rK⟩:=lL wo eX;have e7:=hP.1 k (Nat.le_refl _);have Rg:=hz r eK k eX;have alf:=Y1 k eX;refine au ?_;refine ag [1,2,3,6,8,32,33] rfl ?_;refine al ?_;refine aC ?_;refine ab ?_;refine vr 2 ?_;refine aa [1,2,3,6,8,9,32,33] ?_;refine ab ?_;refine vr 3 ?_;refine aM ae rfl rfl rfl rfl rfl (hU.q.hd) (by rw[Int.toNat_natCast];exact ke (rg:=G.rg) (W:=_) cN) (by omega) (by omega) fun _=> ?_;refine vr 1 ?_;refine bR (vs:=[.bool t7.f,.slice t7.A1 t7.m1 t7.c1,.slice t7.A2 t7.m2 t7.c2]) ae rfl rfl rfl rfl (dF Bt) rfl (by decide) (by rw[Int.toNat_natCast];exact rK) (by omega) (by omega) fun _=> ?_;refine aw rfl rfl (Fn.kX hU.q.ne (vX (bK.raw rJ) (by rw[e7];omega))) ?_;rintro v8 H8 ⟨l7,kL,rfl⟩;have wq:=hU.kept l7;have Hd:=(l7.same _ (GG.kz (GG.gm (G:=G.on _) cN))).trans Bt;refine vr 1 ?_;refine aa [1,2,3,6,8,9,32,33,45] ?_;refine aB rfl (fun hb=> ?_) (fun hb=> ?_)
  ·
   have aY:M r k≠0:=fun h9=>by rw[e7,h9]at hb;simp[fo]at hb
   refine bJ .fV [0,1,2,3,4,5,6,7,8,9,10,11,12,13,14,15,16,17] follows (ib [0,1,0,7,15,0,0,64,0,448,960,0,4032,8128,0,32704,65535,131071] (by kernel_rfl)) ?_;refine vr 3 ?_;refine aM ae rfl rfl rfl rfl rfl (wq.q.hd) (by rw[Int.toNat_natCast];exact ke (rg:=G.rg) (W:=_) cN) (by omega) (by omega) fun _=> ?_;refine vr 4 ?_;refine aM ae rfl rfl rfl rfl rfl (wq.q.hd) (by rw[Int.toNat_natCast];exact ke (rg:=G.rg) (W:=_) cN) (by omega) (by omega) fun _=> ?_;refine vr 1 ?_;refine bR (vs:=[.bool t7.f,.slice t7.A1 t7.m1 t7.c1,.slice t7.A2 t7.m2 t7.c2]) ae rfl rfl rfl rfl (dF Hd) rfl (by decide) (by rw[Int.toNat_natCast];exact rK) (by omega) (by omega) fun _=> ?_;refine vr 1 ?_;refine aO rfl rfl (Fn.kq wq.q.ne (J9 (N:=N) ((bK.raw (rJ.le l7.le)).mono (by rw[e7];omega)) ((bK.raw (nv.le wq.le)).mono hinv) (by omega))) (fun _ _ h=>by first | exact h.le | exact h.1) ?_;rintro v9 H9 Rh;obtain⟨t9,rfl,eW⟩:=Rh.val;have aif:=(Rh.kept.same _ (GG.kz (GG.gm (G:=G.on _) cN))).trans Hd;have qz:=wq.set cN Rh.kept Hd (by rw[oK];exact wo.mono fun vs a=>fK _ _ vs a l7.le) eX (show bT _ [_,_,_] _ from eW);rw[oK,K5]at qz;obtain⟨ti,aj,ak⟩:=a8;refine cM (.inr rfl) ae rfl rfl rfl (by omega) (by omega) (aif) rfl (by show 0+W*3≤QB.length;omega) aj ak (fun _=>rfl) rfl rfl rfl fun _=> ?_
   refine aa [1,2,3,6,8,9,32,33] ?_;rw[Nat.zero_add,Int.toNat_natCast];refine av rfl ?_;refine vr 2 ?_;refine dI Tryz.underlying94 iP rfl rfl rfl rfl rfl rfl rfl ?_;intro gb bD;have qz:=qz.fresh (e:=whole [.int .i64 (k:Int)] 3) bD;refine eN Tryz.underlying94 iP rfl rfl (qz.own) (eZ _ _ _ _ _ _) (rfl) (rE _) (by omega) (by omega) ?_;intro u' pj QE;have QF:=qz.app rfl QE;refine vr 1 ?_;refine aq ?_;refine ag [1,2,3,6,8,32,33] rfl ?_;refine av rfl ?_;refine aD rfl rfl ⟨by omega,by omega⟩ ?_;refine vr 1 ?_;refine aq ?_
   exact⟨k+1,u',bQ f k (f k*(1/M r c)),by omega,an,by rw[K4,if_neg aY];exact QF,⟨fun j hj=>by rw[oJ (by omega)];exact hP.1 j (by omega),fun h9=>by
    obtain⟨g3,g4⟩:=hP.2 h9;refine⟨g3,fun j hj=> ?_⟩
    by_cases ej:j=k
    ·
     subst ej;rw[qy,hP.1 j (Nat.le_refl _),Rat.div_def,Rat.div_def];grind
    ·rw[oJ ej];exact g4 j (by omega)⟩,by omega⟩
  ·
   have Dz:M r k=0:=by rw[←e7];exact q6 (by simpa using hb)
   refine au ?_;refine ag [1,2,3,6,8,32,33] rfl ?_;refine av rfl ?_;refine aD rfl rfl ⟨by omega,by omega⟩ ?_;refine vr 1 ?_;refine aq ?_
   exact⟨k+1,_,f,by omega,an,by rw[K4,if_pos Dz,List.append_nil];exact wq,⟨fun j hj=>hP.1 j (by omega),fun h9=>by
    obtain⟨g3,g4⟩:=hP.2 h9;refine⟨g3,fun j hj=> ?_⟩
    by_cases ej:j=k
    ·
     subst ej;rw[hP.1 j (Nat.le_refl _),Dz,Rat.div_def];grind
    ·exact g4 j (by omega)⟩,by omega⟩
 ·
  have hb:W≤k:=by simpa using hb
  obtain rfl:k=W:=by omega
  have QG:yI false false M r c R k 0 (ic M r f):=⟨fun i _ hi=>Ds hi,fun h9=>by
   obtain⟨g3,g4⟩:=hP.2 h9;refine⟨g3,fun i _ j hj hd=> ?_⟩
   obtain rfl:i=r:=by omega
   rw[oK,g4 j hj];unfold lJ;rw[if_pos rfl]⟩
  have dJ:=Yj (M r) k;refine aU ?_;refine ag [1,2,3,8] rfl ?_;refine al ?_;refine ab ?_;refine vr 4 ?_;refine aa [1,2,3,8,70,71] ?_;refine aC ?_;refine gy (fun(i:Nat)(M1:Nat→Nat→Rat)=>R-i) (fun(i:Nat)(M1:Nat→Nat→Rat)=>put (put (put (put (put (put (emp) 1 (.val (.int .i64 (r:Int)))) 2 (.val (.int .i64 (c:Int)))) 3 (.box [.slice G.Ar R G.cr,.slice Ab m cb])) 8 (.val (.slice A7 (ea (M r) k).length c7))) 70 (.val (.int .i64 (R:Int)))) 71 (.val (.int .i64 (i:Int)))) (fun(i:Nat)(M1:Nat→Nat→Rat) H'=>GU (rem H6 G.gs) H' G R k m M1 B (.slice A7 (ea (M r) k).length c7) (ea (M r) k)∧yI false false M r c R k i M1∧i≤R) 0 (ic M r f) (⟨hU,QG,Nat.zero_le _⟩) an ?_;rintro i M1 im ⟨hV,hQ,hi⟩;refine ab ?_;refine vr 1 ?_;refine aa [1,2,3,8,70,71,72] ?_;refine al ?_;refine aB rfl (fun hb=> ?_) (fun hb=> ?_)
  ·
   have tt:i<R:=by simpa using hb
   obtain⟨pi,cL⟩:=h.get tt;obtain⟨ahD,ahE,He,QH⟩:=hV.q.qC (G:=G.on _) cL;obtain⟨t11,rM,Dl⟩:=lL QH hc;refine au ?_;refine ag [1,2,3,8,70,71] rfl ?_;refine al ?_;refine aC ?_;refine ab ?_;refine vr 2 ?_;refine aa [1,2,3,8,10,70,71] ?_;refine al ?_
   by_cases h1:i=r
   ·
    skip
    refine ab ?_;refine vr 2 ?_;refine aA true rfl rfl (fk (by omega)) ?_;refine vr 12 ?_;refine aa [1,2,3,8,10,70,71,88] ?_;refine cD rfl ?_;refine aU ?_;refine ag [1,2,3,8,70,71] rfl ?_;refine av rfl ?_;refine aD rfl rfl ⟨by omega,by omega⟩ ?_;refine vr 1 ?_;refine aq ?_;exact⟨i+1,M1,by omega,an,hV,K7 hQ hc tt (.inl h1),by omega⟩
   ·
    have Hz:M1 i=M i:=hQ.1 i (Nat.le_refl _) h1;have XD:=hz i tt c hc;refine ab ?_;refine vr 2 ?_;refine aA false rfl rfl (gI (by omega)) ?_;refine vr 4 ?_;refine aM ae rfl rfl rfl rfl rfl (hV.q.hd) (by rw[Int.toNat_natCast];exact ke (rg:=G.rg) (W:=_) cL) (by omega) (by omega) fun _=> ?_;refine vr 1 ?_;refine bR (vs:=[.bool t11.f,.slice t11.A1 t11.m1 t11.c1,.slice t11.A2 t11.m2 t11.c2]) ae rfl rfl rfl rfl (dF He) rfl (by decide) (by rw[Int.toNat_natCast];exact Dl) (by omega) (by omega) fun _=> ?_;refine aw rfl rfl (Fn.kX hV.q.ne (vX (bK.raw rM) (by rw[Hz];omega))) ?_;rintro v12 cV ⟨s3,iX,rfl⟩;have Dt:=hV.kept s3;have aih:=(s3.same _ (GG.kz (GG.gm (G:=G.on _) cL))).trans He;have aii:=rM.le s3.le;refine vr 2 ?_;refine aa [1,2,3,8,10,70,71,88] ?_;refine aB rfl (fun hb=> ?_) (fun hb=> ?_)
    ·
     skip
     refine aU ?_;refine ag [1,2,3,8,70,71] rfl ?_;refine av rfl ?_;refine aD rfl rfl ⟨by omega,by omega⟩ ?_;refine vr 1 ?_;refine aq ?_;exact⟨i+1,M1,by omega,an,Dt,K7 hQ hc tt (.inr (q6 (by simpa using hb))),by omega⟩
    ·
     skip
     refine au ?_;refine ag [1,2,3,8,10,70,71] rfl ?_;refine ab ?_;refine vr 3 ?_;refine aM ae rfl rfl rfl rfl rfl (Dt.q.hd) (by rw[Int.toNat_natCast];exact ke (rg:=G.rg) (W:=_) cL) (by omega) (by omega) fun _=> ?_;refine vr 1 ?_;refine bR (vs:=[.bool t11.f,.slice t11.A1 t11.m1 t11.c1,.slice t11.A2 t11.m2 t11.c2]) ae rfl rfl rfl rfl (dF aih) rfl (by decide) (by rw[Int.toNat_natCast];exact Dl) (by omega) (by omega) fun _=> ?_;refine bt cR rfl ?_;obtain⟨ti,aj,ak⟩:=a8;refine aJ (.inl ⟨rfl,rfl⟩) rfl rfl rfl aj ak rfl rfl rfl ?_;refine aa [1,2,3,8,10,11,70,71] ?_;have Hf:=Dt.Bs;rw[←K6 M1 i]at Hf;refine ab ?_;refine vr 3 ?_;refine aa [1,2,3,8,10,11,70,71,97,98,99] ?_;refine aC ?_;refine gy (fun(t:Nat)(f2:Nat→Rat)=>(ea (M r) k).length-t) (fun(t:Nat)(f2:Nat→Rat)=>put (put (put (put (put (put (put (put (put (put (put (emp) 1 (.val (.int .i64 (r:Int)))) 2 (.val (.int .i64 (c:Int)))) 3 (.box [.slice G.Ar R G.cr,.slice Ab m cb])) 8 (.val (.slice A7 (ea (M r) k).length c7))) 10 (.val (.int .i64 (i:Int)))) 11 (.box [.bool t11.f,.slice t11.A1 t11.m1 t11.c1,.slice t11.A2 t11.m2 t11.c2])) 70 (.val (.int .i64 (R:Int)))) 71 (.val (.int .i64 (i:Int)))) 97 (.val (.slice A7 (ea (M r) k).length c7))) 98 (.val (.int .i64 ((ea (M r) k).length:Int)))) 99 (.val (.int .i64 (t:Int)))) (fun(t:Nat)(f2:Nat→Rat) H'=>GU (rem cV (G.on (aE (.slice A7 (ea (M r) k).length c7)++G.top)).gs) H' G R k m (ic M1 i f2) B (.slice A7 (ea (M r) k).length c7) (ea (M r) k)∧GZ false false (M1 i) (M1 r) (M1 i c) (ea (M r) k) t f2∧t≤(ea (M r) k).length) 0 (M1 i) (⟨Hf,fun h9=>⟨h9,fun j=>by simp⟩,Nat.zero_le _⟩) an ?_
     rintro t f2 kN ⟨hX,Du,ht⟩;obtain⟨K8,Yx,yJ,tu⟩:=hX.q.qC (G:=G.on _) cL;obtain⟨ahH,ahI,QI,Hh⟩:=hX.q.qC (G:=G.on _) cN;rw[oK]at tu;rw[Ds (fun e=>h1 e.symm)]at Hh;have QJ:=tu.len;rw[aW]at QJ;refine ab ?_;refine vr 1 ?_;refine aa [1,2,3,8,10,11,70,71,97,98,99,100] ?_;refine al ?_;refine aB rfl (fun hb=> ?_) (fun hb=> ?_)
     ·
      have oN:t<(ea (M r) k).length:=by simpa using hb
      obtain⟨kk,bM⟩:∃kk,(ea (M r) k)[t]? = some kk:=⟨_,List.getElem?_eq_getElem oN⟩;have eX:kk<k:=(Qz.1 (List.mem_of_getElem? bM)).1;obtain⟨t13,aij,QK⟩:=lL tu eX;obtain⟨t14,wv,Hi⟩:=lL Hh eX
      have e13:f2 kk=M i kk:=by rw[(Du rfl).2 kk,if_neg (Yk dJ bM),Hz]
      have wC:M1 r kk=M r kk/M r c:=by rw[(hQ.2 rfl).2 r eK kk eX (.inl rfl)];unfold lJ;rw[if_pos rfl]
      have z13:=hz i tt kk eX;have z14:=Y1 kk eX;have z15:=pc (M1 i c) (M1 r kk);rw[Hz,wC]at z15;refine au ?_;refine ag [1,2,3,8,10,11,70,71,97,98,99] rfl ?_;refine al ?_;refine aC ?_;refine ab ?_;refine aM ae rfl rfl rfl rfl rfl (hX.rd) (by rw[Int.toNat_natCast];show (List.map _ _)[t]? = _;rw[List.getElem?_map,bM];rfl) (by omega) (by omega) fun _=> ?_;refine vr 1 ?_;refine aa [1,2,3,8,10,11,13,70,71,97,98,99] ?_;refine dZ .fV [0,1,2,3,4,5,6,7,8,9,10,11,12,13,14,15,16,17,18,19,20,21,22,23,24,25,26] follows (ib [0,1,0,7,15,0,0,64,0,448,960,0,4032,8128,0,0,32768,0,229376,491520,0,2064384,4161536,8372224,16777152,33554431,67108863] (by kernel_rfl)) ?_;refine vr 3 ?_;refine aM ae rfl rfl rfl rfl rfl (hX.q.hd) (by rw[Int.toNat_natCast];exact ke (rg:=G.rg) (W:=_) cL) (by omega) (by omega) fun _=> ?_;refine vr 4 ?_;refine aM ae rfl rfl rfl rfl rfl (hX.q.hd) (by rw[Int.toNat_natCast];exact ke (rg:=G.rg) (W:=_) cL) (by omega) (by omega) fun _=> ?_;refine vr 1 ?_;refine bR (vs:=[.bool t13.f,.slice t13.A1 t13.m1 t13.c1,.slice t13.A2 t13.m2 t13.c2]) ae rfl rfl rfl rfl (dF yJ) rfl (by decide) (by rw[Int.toNat_natCast];exact QK) (by omega) (by omega) fun _=> ?_;refine vr 4 ?_;refine aM ae rfl rfl rfl rfl rfl (hX.q.hd) (by rw[Int.toNat_natCast];exact ke (rg:=G.rg) (W:=_) cN) (by omega) (by omega) fun _=> ?_
      refine vr 1 ?_;refine bR (vs:=[.bool t14.f,.slice t14.A1 t14.m1 t14.c1,.slice t14.A2 t14.m2 t14.c2]) ae rfl rfl rfl rfl (dF QI) rfl (by decide) (by rw[Int.toNat_natCast];exact Hi) (by omega) (by omega) fun _=> ?_;refine aO rfl rfl (Fn.kq hX.q.ne (J9 (N:=N) ((bK.raw (aii.le hX.le)).mono (by rw[Hz];omega)) ((bK.raw wv).mono (by rw[wC];omega)) (by omega))) (fun _ _ h=>by first | exact h.le | exact h.1) ?_;rintro Yy pH HA;obtain⟨t15,rfl,Hj⟩:=HA.val;have Y3:=hX.kept HA.kept;have Lu:=(HA.kept.same _ (GG.kz (GG.gm (G:=G.on _) cL))).trans yJ;refine aO rfl rfl (Fn.kq Y3.q.ne (C1 (N:=2*N) ((bK.raw (aij.le HA.kept.le)).mono (by rw[e13];omega)) ((bK.raw Hj).mono (by rw[Hz,wC];omega)) (by omega))) (fun _ _ h=>by first | exact h.le | exact h.1) ?_;rintro QL lf Ri;obtain⟨t16,rfl,aik⟩:=Ri.val;have QN:=(Ri.kept.same _ (GG.kz (GG.gm (G:=G.on _) cL))).trans Lu;have Hk:=Y3.set cL Ri.kept Lu (by rw[oK];exact tu.mono fun vs a=>fK _ _ vs a HA.kept.le) eX (show bT _ [_,_,_] _ from aik);rw[oK,K5]at Hk;obtain⟨ti,aj,ak⟩:=a8;refine cM (.inr rfl) ae rfl rfl rfl (by omega) (by omega) (QN) rfl (by show 0+k*3≤K8.length;omega) aj ak (fun _=>rfl) rfl rfl rfl fun _=> ?_;refine aq ?_;rw[Nat.zero_add,Int.toNat_natCast];refine ag [1,2,3,8,10,11,70,71,97,98,99] rfl ?_
      refine av rfl ?_;refine aD rfl rfl ⟨by omega,by omega⟩ ?_;refine vr 1 ?_;refine aq ?_;exact⟨t+1,bQ f2 kk (f2 kk-M1 i c*M1 r kk),by omega,an,Hk,Ym Du dJ bM fun h9=>⟨h9,rfl⟩,by omega⟩
     ·
      have oN:(ea (M r) k).length≤t:=by simpa using hb
      obtain rfl:t=(ea (M r) k).length:=by omega
      refine aU ?_;refine ag [1,2,3,8,70,71] rfl ?_;refine av rfl ?_;refine aD rfl rfl ⟨by omega,by omega⟩ ?_;refine vr 1 ?_;refine aq ?_;exact⟨i+1,ic M1 i f2,by omega,an,hX.down Dt.le,Yn hQ hc eK h1 Du,by omega⟩
  ·
   have tt:R≤i:=by simpa using hb
   obtain rfl:i=R:=by omega
   obtain⟨hD,Dv⟩:=hV.drop
   obtain⟨gb,cb9,sz,kU,HB,bD⟩:∃gb cb sz,G.bb = [gb]∧G.bv = .slice (some ⟨gb,0,none⟩) m cb∧im gb=some ⟨ee B m,sz,3,true⟩:=by
    rcases hD.basis with h7 | h7
    ·have:=h7.1;omega
    ·exact h7
   have hm:gb∈G.gs:=GG.kz (GG.lZ (by rw[kU];exact List.mem_singleton.2 rfl));have eAb:Ab=some ⟨gb,0,none⟩:=(Value.slice.inj (cY.symm.trans HB)).1;subst eAb;refine aU ?_;refine ag [1,2,3] rfl ?_;refine av rfl ?_;refine vr 4 ?_;obtain⟨ti,aj,ak⟩:=qP;refine cM (.inl rfl) ae rfl rfl rfl (by omega) (by omega) (bD) rfl (by show 0+m*1≤(ee B m).length;rw[z7];omega) aj ak (fun _=>rfl) rfl rfl rfl fun _=> ?_;refine aq ?_;refine⟨.inl rfl,_,.nil,?_⟩
   have he:({(⟨ee B m,sz,3,true⟩:Ent)with xs:=aI (ee B m) (0+((r:Int)).toNat*1) [.int .i64 (c:Int)]}:Ent)=⟨ee (fun i=>if i=r then c else B i) m,sz,3,true⟩:=by
    rw[Int.toNat_natCast,Nat.mul_one,Nat.zero_add,←Og];rfl
   rw[he];refine⟨M1,hD.CH kU HB,fun i hi j hj=>(hQ.2 rfl).2 i hi j hj (.inr hi),?_⟩;rw[cC _ hm];exact jr.trans Dv
end Go.ar
