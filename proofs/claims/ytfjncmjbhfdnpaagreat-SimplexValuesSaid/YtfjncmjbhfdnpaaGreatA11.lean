/- Part 11 of the proof: Grw3, Ent, Ent2, Eng15, Lx0, Lnd, Srt, Srt2, Lnd2, Mdr, QDat, Eng17, QDat2, Qp, Ql, Qi, Rlay. -/
import Derived.Test.YtfjncmjbhfdnpaaGreatA10
import Derived.Lib.LazyBuf
import Derived.Shelf.Sort.AssemblyIn
import Derived.Shelf.Slices.In.SortNone
import Derived.Sort.EveryDepth
import Derived.Shelf.Slices.CompactI
import Derived.Shelf.Slices.Empties
set_option linter.unusedVariables false
namespace Go.ar
open Go.Proofs Num Lp
structure iG{α:Type}(gs:List Nat)(H0:Heap)(P:Heap→List Value→α→Prop)(e sz:Nat)(H:Heap)(v:Value)(l:List α)(xs:List Value):Prop where
 own:bP H v e sz l.length xs
 yF:bC (P (rem H (gs++aE v))) sz xs l
 base:Heap.le (rem H0 gs) (rem H (gs++aE v))
 same:∀q,q∈gs→H q=H0 q
 live:∀q,q∈gs→H0 q≠none
 apart:∀q,q∈gs→¬q∈aE v
section
variable {α:Type} {gs:List Nat} {H0 H H':Heap} {P:Heap→List Value→α→Prop} {e sz:Nat} {v v':Value} {l:List α} {xs:List Value}
theorem ahw(hl:∀q,q∈gs→H q≠none):iG gs H P e sz H (.slice none 0 0) [] []:=⟨lQ H e sz,sI,by rw[Qk,List.append_nil];exact .refl _,fun _ _=>rfl,hl,fun q _ hq=>by rw[Qk]at hq;cases hq⟩
theorem iG.form(h:iG gs H0 P e sz H v l xs):∃A c,v = .slice A l.length c:=h.own.form
theorem iG.yG(h:iG gs H0 P e sz H v l xs):∀q,q∈gs++aE v→H q≠none:=fun q hq=>by
 rcases List.mem_append.1 hq with hq | hq
 ·rw[h.same q hq];exact h.live q hq
 ·obtain⟨en,he⟩:=h.own.block (dg.1 hq);rw[he];simp
theorem iG.step(h:iG gs H0 P e sz H v l xs)(up:Up P)(hs:∀q,q∈gs++aE v→H' q=H q)(hl:Heap.le (rem H (gs++aE v)) (rem H' (gs++aE v))):iG gs H0 P e sz H' v l xs:=
 ⟨h.own.same fun q hq=>hs q (List.mem_append_right _ (dg.2 hq)),h.yF.mono fun vs a=>up _ _ vs a hl,h.base.trans hl,fun q hq=>(hs q (List.mem_append_left _ hq)).trans (h.same q hq),h.live,h.apart⟩
theorem iG.wh(h:iG gs H0 P e sz H v l xs)(up:Up P){bx:Value→Heap→Prop}{r:Value}(hf:xO (gs++aE v) bx H r H')(hl:∀v' K,bx v' K→Heap.le (rem H (gs++aE v)) K):iG gs H0 P e sz H' v l xs:=h.step up hf.same (hl _ _ hf.post)
theorem iG.call(h:iG gs H0 P e sz H v l xs){R:Program}{f:FuncId}{args:Array Value}{bx:Value→Heap→Prop}(hc:Fn R f args (rem H (gs++aE v)) bx):Fn R f args H (xO (gs++aE v) bx H):=Fn.frame h.yG hc
theorem iG.ins(h:iG gs H0 P e sz H v l xs)(up:Up P){g:Nat}(en:Ent)(hg:H g=none):iG gs H0 P e sz (ins H g en) v l xs:=by
 have hn:¬g∈gs++aE v:=fun hm=>h.yG g hm hg
 refine h.step up (fun q hq=>a7 _ _ fun e=>hn (e▸hq)) ?_
 rw[xN _ hn]
 exact Heap.bI _ (by rw[bL hn];exact hg)
theorem iG.append(h:iG gs H0 P e sz H v l xs)(up:Up P){m:Nat}{zs:List Value}{j:List α}(hm:m=l.length+j.length)(ha:App H v e sz m (xs++zs) v' H')(hz:bC (P (rem H (gs++aE v))) sz zs j):iG gs H0 P e sz H' v' (l++j) (xs++zs):=by
 have new:∀q,q∈aE v'→q∈aE v∨H q=none:=fun q hq=>by
  rcases ha.at_ with h4 | ⟨g,h4,h5⟩
  ·exact .inl (dg.2 (h4▸dg.1 hq))
  ·have:=dg.1 hq;rw[h4]at this;cases this;exact .inr h5
 have ap:∀q,q∈gs→¬q∈aE v':=fun q hg hq=>by
  rcases new q hq with h1 | h1
  ·exact h.apart q hg h1
  ·exact h.yG q (List.mem_append_left _ hg) h1
 have hl:Heap.le (rem H (gs++aE v)) (rem H' (gs++aE v')):=fun q en hq=>by
  by_cases hm:q∈gs++aE v
  ·rw[rem_in hm]at hq;cases hq
  ·rw[bL hm]at hq
   have h1:=ha.same q en hq fun e=>hm (List.mem_append_right _ (dg.2 e))
   have h2:¬q∈gs++aE v':=fun h2=>by
    rcases List.mem_append.1 h2 with h3 | h3
    ·exact hm (List.mem_append_left _ h3)
    ·rcases new q h3 with h4 | h4
     ·exact hm (List.mem_append_right _ h4)
     ·rw[h4]at hq;cases hq
   exact⟨en,by rw[bL h2];exact h1,.refl _⟩
 refine⟨by rw[List.length_append,←hm];exact ha.own,(h.yF.mono fun vs a=>up _ _ vs a hl).append (hz.mono fun vs a=>up _ _ vs a hl),h.base.trans hl,fun q hq=> ?_,h.live,ap⟩
 rw[←h.same q hq]
 obtain⟨en,he⟩:=Option.ne_none_iff_exists'.1 (h.yG q (List.mem_append_left _ hq))
 rw[he]
 exact ha.same q en he fun h1=>h.apart q hq (dg.2 h1)
theorem iG.sl(h:iG gs H0 P e sz H v l xs)(up:Up P):aR P sz (rem H gs) v l:=by
 have h1:Heap.le (rem H (gs++aE v)) (rem H gs):=GW fun q hq=>List.mem_append_left _ hq
 exact Jh.sl ⟨xs,h.own.same fun q hq=>bL fun hg=>h.apart q hg (dg.2 hq),h.yF.mono fun vs a=>up _ _ vs a h1⟩
theorem iG.out(h:iG gs H0 P e sz H v l xs):Heap.le (rem H0 gs) (rem H gs):=h.base.trans (GW fun q hq=>List.mem_append_left _ hq)
end
end Go.ar
namespace Lp
end Lp
namespace Lp
end Lp
namespace Go.ar
end Go.ar
namespace Go.ar
open Go.Proofs Num Lp
end Go.ar
namespace Go.ar
open Go.Proofs Num Lp
end Go.ar
namespace Go.Proofs
open Go.Shelf
end Go.Proofs
namespace Go.ar
open Go.Proofs Go.Sort
end Go.ar
namespace Go.Proofs
open Go.Shelf
end Go.Proofs
namespace Go.ar
open Go.Proofs Go.Sort Lp
end Go.ar
namespace Go.ar
open Go.Proofs Num Lp
end Go.ar
namespace Go.ar
open Go.Proofs Num Lp
end Go.ar
namespace Go.ar
open Go.Proofs Num Lp
end Go.ar
namespace Go.ar
open Go.Proofs Num Lp
structure CK where
 P:Heap→List Value→Rat→Prop
 sz:Nat
 e:Nat
 he:Nat
 up:Up P
 len:∀H vs q,P H vs q→vs.length=sz
def oI(C:CK)(K:Heap)(H:Heap)(g:Nat)(l:List Rat):Prop:=∃xs sz,H g=some ⟨xs,sz,C.e,true⟩∧bC (C.P K) C.sz xs l
theorem oI.le{C:CK}{K K' H H':Heap}{g:Nat}{l:List Rat}(h:oI C K H g l)(hl:Heap.le K K')(hs:H' g=H g):oI C K' H' g l:=by
 obtain⟨xs,sz,h1,h2⟩:=h
 exact⟨xs,sz,by rw[hs];exact h1,h2.mono fun vs a=>C.up _ _ vs a hl⟩
structure GG where
 top:List Nat
 hb:List Nat
 bb:List Nat
 bv:Value
 rg:List (Nat×Nat)
 Ar:Option Addr
 cr:Nat
def GG.low(G:GG):List Nat:=G.hb++(G.bb++G.rg.map (·.1))
def GG.gs(G:GG):List Nat:=G.top++G.low
def GG.on(G:GG)(t:List Nat):GG:={G with top:=t}
def iH(rg:List (Nat×Nat))(W:Nat):List Value:=rg.map fun p=> .slice (some ⟨p.1,0,none⟩) W p.2
theorem ke{rg:List (Nat×Nat)}{W i:Nat}{p:Nat×Nat}(h:rg[i]? = some p):(iH rg W)[i]? = some (.slice (some ⟨p.1,0,none⟩) W p.2):=by
 unfold iH;rw[List.getElem?_map,h];rfl
structure bZ(C:CK)(H:Heap)(G:GG)(R W m:Nat)(M:Nat→Nat→Rat)(B:Nat→Nat):Prop where
 nd:G.gs.Nodup
 top:∀q,q∈G.top→H q≠none
 gN:G.rg.length=R
 lI:G.hb=aE (.slice G.Ar R G.cr)
 rows:bP H (.slice G.Ar R G.cr) C.he 1 R (iH G.rg W)
 row:∀(i:Nat)(p:Nat×Nat),G.rg[i]? = some p→oI C (rem H G.gs) H p.1 (aH (M i) W)
 basis:(m=0∧G.bb = []∧G.bv = .slice none 0 0)∨∃gb cb sz,G.bb = [gb]∧G.bv = .slice (some ⟨gb,0,none⟩) m cb∧H gb=some ⟨ee B m,sz,3,true⟩
section
variable {C:CK} {H H':Heap} {G:GG} {R W m:Nat} {M:Nat→Nat→Rat} {B:Nat→Nat}
theorem GG.Bj{G:GG}{q:Nat}(h:q∈G.top):q∈G.gs:=List.mem_append_left _ h
theorem GG.Bk{G:GG}{q:Nat}(h:q∈G.hb):q∈G.low:=List.mem_append_left _ h
theorem GG.lZ{G:GG}{q:Nat}(h:q∈G.bb):q∈G.low:=List.mem_append_right _ (List.mem_append_left _ h)
theorem GG.gm{G:GG}{i:Nat}{p:Nat×Nat}(h:G.rg[i]? = some p):p.1∈G.low:=List.mem_append_right _ (List.mem_append_right _ (List.mem_map.2 ⟨p,List.mem_of_getElem? h,rfl⟩))
theorem GG.kz{G:GG}{q:Nat}(h:q∈G.low):q∈G.gs:=List.mem_append_right _ h
theorem GG.tq{G:GG}(h:G.gs.Nodup){q r:Nat}(hq:q∈G.top)(hr:r∈G.low):q≠r:=(List.nodup_append.1 h).2.2 q hq r hr
theorem GG.KZ{G:GG}(h:G.gs.Nodup){q r:Nat}(hq:q∈G.hb)(hr:r∈G.bb∨∃(i:Nat)(p:Nat×Nat),G.rg[i]? = some p∧p.1=r):q≠r:=(List.nodup_append.1 (List.nodup_append.1 h).2.1).2.2 q hq r (by
 rcases hr with hr | ⟨i,p,hp,rfl⟩
 ·exact List.mem_append_left _ hr
 ·exact List.mem_append_right _ (List.mem_map.2 ⟨p,List.mem_of_getElem? hp,rfl⟩))
theorem GG.Fa{G:GG}(h:G.gs.Nodup){q:Nat}(hq:q∈G.bb){i:Nat}{p:Nat×Nat}(hp:G.rg[i]? = some p):q≠p.1:=
 (List.nodup_append.1 (List.nodup_append.1 (List.nodup_append.1 h).2.1).2.1).2.2 q hq p.1 (List.mem_map.2 ⟨p,List.mem_of_getElem? hp,rfl⟩)
theorem GG.JK{G:GG}(h:G.gs.Nodup){i j:Nat}{p q:Nat×Nat}(hp:G.rg[i]? = some p)(hq:G.rg[j]? = some q)(aY:i≠j):p.1≠q.1:=by
 have h1:=(List.nodup_append.1 (List.nodup_append.1 (List.nodup_append.1 h).2.1).2.1).2.1
 intro e
 have hi:(G.rg.map (·.1))[i]? = some p.1:=by rw[List.getElem?_map,hp];rfl
 have hj:(G.rg.map (·.1))[j]? = some p.1:=by rw[List.getElem?_map,hq,e];rfl
 obtain⟨hi1,sk⟩:=List.getElem?_eq_some_iff.1 hi
 obtain⟨tR,vx⟩:=List.getElem?_eq_some_iff.1 hj
 exact aY ((List.getElem_inj h1).1 (sk.trans vx.symm))
theorem bZ.get(h:bZ C H G R W m M B){i:Nat}(hi:i<R):∃p,G.rg[i]? = some p:=⟨_,List.getElem?_eq_getElem (by rw[h.gN];exact hi)⟩
theorem bZ.ne(h:bZ C H G R W m M B):∀q,q∈G.gs→H q≠none:=fun q hq=>by
 rcases List.mem_append.1 hq with hq | hq
 ·exact h.top q hq
 ·rcases List.mem_append.1 hq with hq | hq
  ·rw[h.lI]at hq
   obtain⟨en,he⟩:=h.rows.block (dg.1 hq)
   rw[he];simp
  rcases List.mem_append.1 hq with hq | hq
  ·rcases h.basis with ⟨_,h1,_⟩ | ⟨gb,cb,sz,h1,_,h2⟩
   ·rw[h1]at hq;cases hq
   ·rw[h1,List.mem_singleton]at hq
    rw[hq,h2];simp
  ·obtain⟨p,hp,rfl⟩:=List.mem_map.1 hq
   obtain⟨i,hi⟩:=List.getElem?_of_mem hp
   obtain⟨xs,sz,h1,_⟩:=h.row i p hi
   rw[h1];simp
theorem bZ.Bl(h:bZ C H G R W m M B){t:List Nat}(dJ:(G.on t).gs.Nodup)(ht:∀q,q∈t→H' q≠none)(hs:∀q,q∈G.low→H' q=H q)(hl:Heap.le (rem H G.gs) (rem H' (G.on t).gs)):bZ C H' (G.on t) R W m M B where
 nd:=dJ
 top:=ht
 gN:=h.gN
 lI:=h.lI
 rows:=h.rows.same fun q hq=>hs q (GG.Bk (by show q∈G.hb;rw[h.lI];exact dg.2 hq))
 row:=fun i p hp=>(h.row i p hp).le hl (hs _ (GG.gm hp))
 basis:=by
  rcases h.basis with h1 | ⟨gb,cb,sz,h1,h2,h3⟩
  ·exact .inl h1
  ·exact .inr ⟨gb,cb,sz,h1,h2,by rw[hs _ (GG.lZ (by show gb∈G.bb;rw[h1];exact List.mem_singleton.2 rfl))];exact h3⟩
theorem bZ.kept(h:bZ C H G R W m M B)(k:Kept G.gs H H'):bZ C H' G R W m M B:=
 h.Bl (t:=G.top) h.nd (fun q hq=>by rw[k.same _ (GG.Bj hq)];exact h.top q hq) (fun q hq=>k.same q (GG.kz hq)) k.le
theorem bZ.Bm(h:bZ C H G R W m M B){g:Nat}(hg:g∈G.top)(k:fE G.gs g H H')(hn:H' g≠none):bZ C H' G R W m M B:=
 h.Bl (t:=G.top) h.nd (fun q hq=>by
  by_cases e:q=g
  ·rw[e];exact hn
  ·rw[k.same _ (GG.Bj hq) e];exact h.top q hq) (fun q hq=>k.same q (GG.kz hq) (Ne.symm (GG.tq h.nd hg hq))) k.le
theorem bZ.congr{M':Nat→Nat→Rat}{B':Nat→Nat}(h:bZ C H G R W m M B)(hM:∀i,i<R→∀j,j<W→M' i j=M i j)(hB:∀i,i<m→B' i=B i):bZ C H G R W m M' B' where
 nd:=h.nd
 top:=h.top
 gN:=h.gN
 lI:=h.lI
 rows:=h.rows
 row:=fun i p hp=>by
  have hi:i<R:=by rw[←h.gN];exact(List.getElem?_eq_some_iff.1 hp).1
  rw[j6 (g:=M i) (fun j hj=>hM i hi j hj)];exact h.row i p hp
 basis:=by rw[Vb hB];exact h.basis
def ic(M:Nat→Nat→Rat)(i:Nat)(f:Nat→Rat)(k:Nat):Nat→Rat:=if k=i then f else M k
theorem bZ.setRow(h:bZ C H G R W m M B){i:Nat}{p:Nat×Nat}(hp:G.rg[i]? = some p)(k:fE G.gs p.1 H H'){f:Nat→Rat}(hb:oI C (rem H' G.gs) H' p.1 (aH f W)):bZ C H' G R W m (ic M i f) B where
 nd:=h.nd
 top:=fun q hq=>by rw[k.same _ (GG.Bj hq) (GG.tq h.nd hq (GG.gm hp))];exact h.top q hq
 gN:=h.gN
 lI:=h.lI
 rows:=h.rows.same fun q hq=>k.same _ (GG.kz (GG.Bk (by rw[h.lI];exact dg.2 hq))) (GG.KZ h.nd (by rw[h.lI];exact dg.2 hq) (.inr ⟨i,p,hp,rfl⟩))
 row:=fun j q hq=>by
  by_cases e:j=i
  ·subst e
   rw[hp]at hq
   cases hq
   simp only[ic,if_true]
   exact hb
  ·simp only[ic,if_neg e]
   exact(h.row j q hq).le k.le (k.same _ (GG.kz (GG.gm hq)) (GG.JK h.nd hq hp e))
 basis:=by
  rcases h.basis with h1 | ⟨gb,cb,sz,h1,h2,h3⟩
  ·exact .inl h1
  ·have hm:gb∈G.bb:=by rw[h1];exact List.mem_singleton.2 rfl
   exact .inr ⟨gb,cb,sz,h1,h2,by rw[k.same _ (GG.kz (GG.lZ hm)) (GG.Fa h.nd hm hp)];exact h3⟩
theorem bZ.CH(h:bZ C H G R W m M B){gb cb sz:Nat}(kU:G.bb = [gb])(cY:G.bv = .slice (some ⟨gb,0,none⟩) m cb){B':Nat→Nat}:bZ C (ins H gb ⟨ee B' m,sz,3,true⟩) G R W m M B':=by
 have hm:gb∈G.bb:=by rw[kU];exact List.mem_singleton.2 rfl
 have hg:gb∈G.gs:=GG.kz (GG.lZ hm)
 refine⟨h.nd,fun q hq=> ?_,h.gN,h.lI,h.rows.same fun q hq=>a7 _ _ (GG.KZ h.nd (by rw[h.lI];exact dg.2 hq) (.inl hm)),fun i p hp=> ?_,.inr ⟨gb,cb,sz,kU,cY,bo _ _ _⟩⟩
 ·rw[a7 _ _ (GG.tq h.nd hq (GG.lZ hm))];exact h.top q hq
 ·rw[cC _ hg]
  exact(h.row i p hp).le (.refl _) (a7 _ _ (Ne.symm (GG.Fa h.nd hm hp)))
end
def uS:CK:=⟨fun _ vs q=>fh vs q,2,163,161,fun _ _ _ _ _ h=>h,fun _ _ _ ⟨n,d,h,_⟩=>by rw[h];rfl⟩
def iq:CK:=⟨bT,3,31,26,fK,fun _ vs _ h=>by
 obtain⟨u,w,e,_⟩:=h
 rw[uh e];rfl⟩
end Go.ar
namespace Go.ar
open Go Go.Proofs
section
variable {P:Program} {n:Nat} {w0:World} {H0:Heap} {Q:Exit→St→Heap→Prop} {s:St} {H:Heap}
theorem K1{c:Code}(b:Nat){cs:List Value}(hb:s b=some (.box cs))(h:∀g e,H g=none→VC P n w0 H0 c Q (put s b (.val (.pointer (some ⟨g,0,none⟩)))) (ins H g ⟨cs,cs.length,e,true⟩)):VC P n w0 H0 c Q s H:=by
 unfold VC at h⊢
 intro a w hR
 obtain⟨G,hl,hG⟩:=hR.fits
 obtain⟨h1,h2,e,h3⟩:=hl.boxes b cs hb
 have key:∀t c',put s b (.val (.pointer (some ⟨G b,0,none⟩))) t=some (.box c')→t≠b∧s t=some (.box c'):=fun t c' ht=>by
  by_cases e:t=b
  ·subst e;rw[gS]at ht;cases ht
  ·rw[fp _ _ e]at ht;exact⟨e,ht⟩
 have ne:∀t c',t≠b→s t=some (.box c')→G t≠G b:=fun t c' e ht hg=>e (hl.inj t b _ _ ht hb hg)
 refine h (G b) e h2 a w ⟨hR.defers,⟨G,⟨⟨hl.aH.size,fun t v ht=> ?_⟩,fun t c' ht=> ?_,fun t t' c1 c2 ht oQ hg=> ?_,fun t b' off c' ht rX=> ?_,fun g en hg=> ?_⟩,fun t c' ht=>hG t c' (key t c' ht).2⟩,?_⟩
 ·by_cases e:t=b
  ·subst e
   rw[gS]at ht
   cases ht
   exact h1
  ·rw[fp _ _ e]at ht;exact hl.aH.at_ t v ht
 ·obtain⟨e1,ht⟩:=key t c' ht
  obtain⟨k1,k2,k3⟩:=hl.boxes t c' ht
  exact⟨k1,by rw[a7 _ _ (ne t c' e1 ht)];exact k2,k3⟩
 ·exact hl.inj t t' c1 c2 (key t c1 ht).2 (key t' c2 oQ).2 hg
 ·obtain⟨e1,rX⟩:=key b' c' rX
  by_cases e2:t=b
  ·subst e2;rw[gS]at ht;cases ht
  ·rw[fp _ _ e2]at ht;exact hl.refs t b' off c' ht rX
 ·by_cases eg:g=G b
  ·subst eg
   rw[bo]at hg
   cases hg
   exact⟨_,h3,cs.toArray,(0,0),rfl,by simp,fun i v hv=>by simpa using hv,fun _=>rfl⟩
  ·rw[a7 _ _ eg]at hg;exact hl.den g en hg
 ·have hf:=hR.fx
  refine⟨hf.os,hf.tape,hf.output,hf.size,fun g hg h0=> ?_,hf.form⟩
  have k:=hf.keep g hg h0
  refine⟨k.1,?_⟩
  rw[a7 _ _ (fun e=>by have:=hG b cs hb;omega)];exact k.2
theorem Qs{c:Code}{H':Heap}(hl:Heap.le H' H)(h:VC P n w0 H0 c Q s H'):VC P n w0 H0 c Q s H:=by
 unfold VC at h⊢
 intro a w hR
 have hn:∀g,H g=none→H' g=none:=fun g hg=>le_none hl hg
 obtain⟨G,hr,hG⟩:=hR.fits
 refine h a w ⟨hR.defers,⟨G,⟨hr.aH,fun t cs ht=> ?_,hr.inj,hr.refs,hr.den.le hl⟩,hG⟩,?_⟩
 ·obtain⟨h1,h2,h3⟩:=hr.boxes t cs ht
  exact⟨h1,hn _ h2,h3⟩
 ·have hf:=hR.fx
  exact⟨hf.os,hf.tape,hf.output,hf.size,fun g hg h0=>⟨(hf.keep g hg h0).1,hn _ (hf.keep g hg h0).2⟩,hf.form⟩
end
def kO(g:Nat)(H:Heap)(ad:Addr):Option Value:=if ad.block=g∧ad.off=2 then none else cell H ad
theorem Qt{g:Nat}{H:Heap}{ad:Addr}{v:Value}(hc:cell H ad=some v)(hn:ad.block≠g∨ad.off≠2):kO g H ad=some v:=by
 unfold kO
 rw[if_neg (fun h=>hn.elim (fun k=>k h.1) (fun k=>k h.2))];exact hc
theorem GX(g:Nat)(H:Heap):(Mode.cG (kO g H)).fy H:=fun ad v h=>by
 have h:kO g H ad=some v:=h
 unfold kO at h
 split at h
 ·cases h
 ·exact h
theorem ahx{g:Nat}{H H':Heap}{gs:List Nat}{a b c c':Value}{sz:Nat}{e:TypeId}(hg:g∈gs)(ht:H g=some ⟨[a,b,c],sz,e,true⟩)(h:fE gs g H H')(oQ:H' g=some ⟨[a,b,c'],sz,e,true⟩):(Mode.cG (kO g H)).fy H':=fun ad v hk=>by
 have hk:kO g H ad=some v:=hk
 unfold kO at hk
 split at hk
 ·cases hk
 ·rename_i hn
  by_cases e:ad.block=g
  ·unfold cell at hk⊢
   rw[e,ht]at hk
   rw[e,oQ]
   simp only at hk⊢
   split at hk
   ·cases hk
   ·rename_i hs
    rw[if_neg hs]
    match ho:ad.off with
    | 0=>rw[ho]at hk;exact hk
    | 1=>rw[ho]at hk;exact hk
    | 2=>exact absurd ⟨e,ho⟩ hn
    | k+3=>rw[ho]at hk;simp at hk
  ·by_cases hm:ad.block∈gs
   ·unfold cell at hk⊢
    rw[h.same _ hm e];exact hk
   ·refine cF (bG _ gs) (cF h.le ?_)
    unfold cell at hk⊢
    rw[bL hm];exact hk
def Bn(kc:Addr→Option Value)(A:Option Addr)(xs:List Value):Prop:=∀(i:Nat)(v:Value),xs[i]? = some v→∃ad,A=some ad∧kc (ad.add i)=some v
theorem ahy{H:Heap}{gs:List Nat}{ad:Addr}{v:Value}(h:cell (rem H gs) ad=some v):¬ad.block∈gs:=fun hm=>by
 unfold cell at h
 rw[rem_in hm]at h;cases h
theorem Rd.kx{g:Nat}{H:Heap}{gs:List Nat}{A:Option Addr}{xs:List Value}(h:Rd (rem H gs) A xs)(hg:g∈gs):Bn (kO g H) A xs:=fun i v hv=>by
 obtain⟨ad,h1,h2⟩:=h i v hv
 exact⟨ad,h1,Qt (cF (bG _ gs) h2) (.inl fun e=>ahy h2 (e▸hg))⟩
theorem yH{g q:Nat}{H:Heap}{xs:List Value}{s e:Nat}{b:Bool}(h:H q=some ⟨xs,s,e,b⟩)(hn:q≠g):Bn (kO g H) (some ⟨q,0,none⟩) xs:=fun i v hv=>by
 obtain⟨ad,h1,h2⟩:=dF h i v hv
 cases h1
 refine⟨_,rfl,Qt h2 (.inl ?_)⟩
 rw[iA];exact hn
theorem ahz{g:Nat}{H:Heap}{a:Value}{xs:List Value}{s e:Nat}{b:Bool}(h:H g=some ⟨a::xs,s,e,b⟩):kO g H ((⟨g,0,none⟩:Addr).add 0)=some a:=Qt (by simp[cell,iA,h]) (.inr (by rw[iA];simp))
section
variable {P:Program} {n:Nat} {tb:Tb} {all:Array Oper} {s:St} {H:Heap} {K:St→Heap→Prop} {r:List Oper} {dst:Option Nat} {ty:TypeId} {pos:String} {after:Array Edge} {gd:Option (Nat×Bool)} {kc:Addr→Option Value}
theorem Qu{t:TypeId}{x i:Operand}{ad:Addr}{m c:Nat}{k:IntKind}{j:Int}{e sz:Nat}(hc:(Mode.cG kc).fy H)(cZ:jK P tb)(ht:tb[t]? = some (.sl e sz))(hx:ev s x=some (.slice (some ad) m c))(hi:ev s i=some (.int k j))(h0:0≤j)(h1:j<m)
  (hk:aP P n all (.cG kc) r (bn s dst (.val (.pointer (some (ad.add (j.toNat*sz)))))) H K) (hg:ca all s gd=some true:=by rfl) (nb:ja s dst=true:=by rfl):aP P n all (.cG kc) (⟨dst,.indexAddr t x i,ty,pos,after,gd⟩::r) s H K:=
 CU _ rfl hc hg nb (fun a w ha _=>by
  obtain⟨hu,ii,h2,h3⟩:=cZ t _ ht
  simp[execOp,bO ha hx,bO ha hi,Instr.indexAt,asIntOf,run_underlying hu,h0,h1,sizeOf,typeInfo,h2,h3]) hk
theorem GY{t:TypeId}{x:Operand}{ad:Addr}{m:Nat}{sq:List (Nat×Nat)}{vs:List Value}(a6:(Mode.cG kc).fy H)(cZ:jK P tb)(ht:tb[t]? = some (.st m sq))(hx:ev s x=some (.pointer (some ad)))(hm:vs.length=m)
  (hc:∀(i:Nat)(v:Value),vs[i]? = some v→kc (ad.add i)=some v)
  (hk:aP P n all (.cG kc) r (bn s dst (.val (.agg vs.toArray))) H K) (hg:ca all s gd=some true:=by rfl) (nb:ja s dst=true:=by rfl):aP P n all (.cG kc) (⟨dst,.load t x,ty,pos,after,gd⟩::r) s H K:=
 CU _ rfl a6 hg nb (fun a w ha hd=>by
  obtain⟨fs,ii,hu,h2,h3,_,h4⟩:=cZ t _ ht
  simp[execOp,bO ha hx,Instr.loadAt,Instr.sureAddr,Mt hu h2 vs (by rw[h3,hm]) (fun j v hv=>hd _ _ (hc j v hv))]) hk
theorem Bo{t t2:TypeId}{x i:Operand}{A:Option Addr}{m c d1:Nat}{nN:Option Nat}{ml:TypeId}{mm:String}{mo:Array Edge}{jx:Option (Nat×Bool)}{k:IntKind}{j:Int}{e:Nat}{ti:Ti}{xs:List Value}{v:Value}
  (a6:(Mode.cG kc).fy H) (cZ:jK P tb) (ht:tb[t]? = some (.sl e 1)) (eS:tb[t2]? = some ti) (h1:wS ti=true) (hx:ev s x=some (.slice A m c)) (hi:ev s i=some (.int k j)) (hr:Bn kc A xs) (hv:xs[j.toNat]? = some v) (h0:0≤j) (hm:j<m)
  (hk:∀ad:Addr,aP P n all (.cG kc) r (bn (put s d1 (.val (.pointer (some ad)))) nN (.val v)) H K) (hg:ca all s gd=some true:=by rfl) (nb:ja s (some d1)=true:=by rfl) (dQ:∀ad:Addr,ca all (put s d1 (.val (.pointer (some ad)))) jx=some true:=by exact fun _=>rfl) (sy:∀ad:Addr,ja (put s d1 (.val (.pointer (some ad)))) nN=true:=by exact fun _=>rfl):
  aP P n all (.cG kc) (⟨some d1,.indexAddr t x i,ty,pos,after,gd⟩::⟨nN,.load t2 (.tmp d1),ml,mm,mo,jx⟩::r) s H K:=by
 obtain⟨ad,rfl,hc⟩:=hr _ _ hv
 exact Qu a6 cZ ht hx hi h0 hm (jR (ad:=ad.add (j.toNat*1)) a6 cZ eS h1 (by simp[ev,put,bn]) (by rw[Nat.mul_one];exact hc) (hk _) (dQ _) (sy _)) hg nb
theorem Bp{t t2:TypeId}{x i:Operand}{A:Option Addr}{m c d1:Nat}{nN:Option Nat}{ml:TypeId}{mm:String}{mo:Array Edge}{jx:Option (Nat×Bool)}{k:IntKind}{j:Int}{e sz:Nat}{sq:List (Nat×Nat)}{xs vs:List Value}
  (a6:(Mode.cG kc).fy H) (cZ:jK P tb) (ht:tb[t]? = some (.sl e sz)) (eS:tb[t2]? = some (.st sz sq)) (hx:ev s x=some (.slice A m c)) (hi:ev s i=some (.int k j)) (hr:Bn kc A xs) (hl:vs.length=sz) (hp:0<sz) (hv:∀(q:Nat)(v:Value),vs[q]? = some v→xs[j.toNat*sz+q]? = some v) (h0:0≤j) (hm:j<m)
  (hk:∀ad:Addr,aP P n all (.cG kc) r (bn (put s d1 (.val (.pointer (some ad)))) nN (.val (.agg vs.toArray))) H K) (hg:ca all s gd=some true:=by rfl) (nb:ja s (some d1)=true:=by rfl) (dQ:∀ad:Addr,ca all (put s d1 (.val (.pointer (some ad)))) jx=some true:=by exact fun _=>rfl) (sy:∀ad:Addr,ja (put s d1 (.val (.pointer (some ad)))) nN=true:=by exact fun _=>rfl):
  aP P n all (.cG kc) (⟨some d1,.indexAddr t x i,ty,pos,after,gd⟩::⟨nN,.load t2 (.tmp d1),ml,mm,mo,jx⟩::r) s H K:=by
 have Mw:vs[0]? = some (vs[0]'(by omega)):=List.getElem?_eq_getElem (by omega)
 obtain⟨ad,rfl,_⟩:=hr _ _ (hv 0 _ Mw)
 refine Qu a6 cZ ht hx hi h0 hm (GY (ad:=ad.add (j.toNat*sz)) a6 cZ eS (by simp[ev,put,bn]) hl (fun q v hq=> ?_) (hk _) (dQ _) (sy _)) hg nb
 obtain⟨D7,h1,h2⟩:=hr _ _ (hv q v hq)
 cases h1
 rw[add_add];exact h2
theorem Bq{f:Operand}{kB:FuncId}{args:List Value}{xs:List Operand}{ts:Array TypeId}{bx:Value→Heap→Prop}(hf:ev s f=some (.func (.func kB) #[] #[]))(hx:pU s xs=some args)
  (h:Fn P kB args.toArray H bx) (hm:∀v H',bx v H'→(Mode.cG kc).fy H') (hk:∀v H',bx v H'→aP P n all (.cG kc) r (bn s dst (.val v)) H' K) (hg:ca all s gd=some true:=by rfl) (nb:ja s dst=true:=by rfl):aP P n all (.cG kc) (⟨dst,.call ⟨.value f,xs.toArray,ts⟩,ty,pos,after,gd⟩::r) s H K:=
 CV (cap:=[]) hf hx (by simpa using h) hm hk hg nb
theorem K2{t t2:TypeId}{x i y:Operand}{g m c d1:Nat}{ml:TypeId}{mm:String}{mo:Array Edge}{jx:Option (Nat×Bool)}{k:IntKind}{j:Int}{e sz:Nat}{ent:Ent}{v:Value}{vs:List Value}{ii:TypeInfo}
  (a6:(Mode.cG kc).fy H) (cZ:jK P tb) (ht:tb[t]? = some (.sl e sz)) (hx:ev s x=some (.slice (some ⟨g,0,none⟩) m c)) (hi:ev s i=some (.int k j)) (h0:0≤j) (hm:j<m) (hg:H g=some ent) (cn:ent.own=true) (gg:m*sz≤ent.xs.length)
  (vn:P.info? t2=some ii) (cO:ii.size=sz) (hy:∀ad:Addr,ev (put s d1 (.val (.pointer (some ad)))) y=some v) (hv:v.cells=vs.toArray) (jL:vs.length=sz) (h1:vs.all wW=true)
  (hk:∀ad:Addr,aP P n all (.cG kc) r (put s d1 (.val (.pointer (some ad)))) (ins H g {ent with xs:=aI ent.xs (j.toNat*sz) vs}) K) (qO:ca all s gd=some true:=by rfl) (nb:ja s (some d1)=true:=by rfl) (dQ:∀ad:Addr,ca all (put s d1 (.val (.pointer (some ad)))) jx=some true:=by exact fun _=>rfl):
  aP P n all (.cG kc) (⟨some d1,.indexAddr t x i,ty,pos,after,gd⟩::⟨none,.store t2 (.tmp d1) y,ml,mm,mo,jx⟩::r) s H K:=by
 have sw:(⟨g,0,none⟩:Addr).add (j.toNat*sz)=⟨g,j.toNat*sz,none⟩:=iA ..
 have hjm:j.toNat*sz+sz≤m*sz:=by
  have:(j.toNat+1)*sz≤m*sz:=Nat.mul_le_mul_right _ (by omega)
  rw[Nat.add_mul]at this;omega
 refine Qu a6 cZ ht hx hi h0 hm ?_ qO nb
 rw[sw]
 exact AA (by simp[ev,put,bn]) hg cn (by omega) vn cO (hy _) hv jL h1 (hk _) (dQ _)
end
end Go.ar
namespace Go.ar
open Go.Proofs Num Lp
theorem GG.wj(G:GG)(t:List Nat):(G.on t).gs=t++G.low:=rfl
theorem Qw(v:Value):(aE v).Nodup:=by
 unfold aE
 cases v.ownBlock with
 | none=>exact List.nodup_nil
 | some q=>exact List.nodup_cons.2 ⟨List.not_mem_nil,List.nodup_nil⟩
theorem App.new{H H':Heap}{v v':Value}{e sz n:Nat}{xs:List Value}(ha:App H v e sz n xs v' H'):∀q,q∈aE v'→q∈aE v∨H q=none:=fun q hq=>by
 rcases ha.at_ with h4 | ⟨g,h4,h5⟩
 ·exact .inl (dg.2 (h4▸dg.1 hq))
 ·have:=dg.1 hq;rw[h4]at this;cases this;exact .inr h5
section
variable {C:CK} {H H':Heap} {G:GG} {R W m:Nat} {M:Nat→Nat→Rat} {B:Nat→Nat} {u u':Value} {t:List Nat} {e sz n:Nat} {xs:List Value}
theorem bZ.app(h:bZ C H (G.on (aE u++t)) R W m M B)(ha:App H u e sz n xs u' H'):bZ C H' (G.on (aE u'++t)) R W m M B∧Heap.le (rem H (G.on (aE u++t)).gs) (rem H' (G.on (aE u'++t)).gs):=by
 have aY:=h.ne
 have dJ:=h.nd
 rw[GG.wj,List.append_assoc]at dJ
 obtain⟨_,n2,n3⟩:=List.nodup_append.1 dJ
 have nL:∀q,q∈t++G.low→q∈(G.on (aE u++t)).gs:=fun q hq=>by
  rw[GG.wj,List.append_assoc];exact List.mem_append_right _ hq
 have p8:∀q,q∈t++G.low→H' q=H q:=fun q hq=>by
  obtain⟨en,he⟩:=Option.ne_none_iff_exists'.1 (aY q (nL q hq))
  rw[he]
  exact ha.same q en he fun h1=>n3 q (dg.2 h1) q hq rfl
 have hl:Heap.le (rem H (G.on (aE u++t)).gs) (rem H' (G.on (aE u'++t)).gs):=fun q en hq=>by
  by_cases hm:q∈(G.on (aE u++t)).gs
  ·rw[rem_in hm]at hq;cases hq
  ·rw[bL hm]at hq
   have k1:¬q∈aE u:=fun k=>hm (by rw[GG.wj,List.append_assoc];exact List.mem_append_left _ k)
   have h1:=ha.same q en hq fun e=>k1 (dg.2 e)
   have h2:¬q∈(G.on (aE u'++t)).gs:=fun h2=>by
    rw[GG.wj,List.append_assoc]at h2
    rcases List.mem_append.1 h2 with h3 | h3
    ·rcases ha.new q h3 with h4 | h4
     ·exact k1 h4
     ·rw[h4]at hq;cases hq
    ·exact hm (nL q h3)
   exact⟨en,by rw[bL h2];exact h1,.refl _⟩
 refine⟨h.Bl (t:=aE u'++t) ?_ (fun q hq=> ?_) (fun q hq=>p8 q (List.mem_append_right _ hq)) hl,hl⟩
 ·show ((aE u'++t)++G.low).Nodup
  rw[List.append_assoc]
  refine List.nodup_append.2 ⟨Qw _,n2,fun q hq r hr e=> ?_⟩
  subst e
  rcases ha.new q hq with h4 | h4
  ·exact n3 q h4 q hr rfl
  ·exact aY q (nL q hr) h4
 ·rcases List.mem_append.1 hq with hq | hq
  ·obtain⟨en,he⟩:=ha.own.block (dg.1 hq)
   rw[he];simp
  ·rw[p8 q (List.mem_append_left _ hq)];exact aY q (nL q (List.mem_append_left _ hq))
end
structure QV(o:Bool)(H:Heap)(g:Nat)(G:GG)(R W m:Nat)(M:Nat→Nat→Rat)(B:Nat→Nat):Prop where
 cT:bZ uS H G R W m M B
 gt:g∈G.top
 st:H g=some ⟨[.slice G.Ar R G.cr,G.bv,.bool o],3,160,true⟩
section
variable {o o':Bool} {H H' K:Heap} {g:Nat} {G:GG} {R W m:Nat} {M:Nat→Nat→Rat} {B:Nat→Nat} {u u':Value} {t:List Nat}
theorem QV.mem(h:QV o H g G R W m M B):g∈G.gs:=GG.Bj h.gt
theorem QV.iF(h:QV o H g G R W m M B):cell H ((⟨g,0,none⟩:Addr).add 0)=some (.slice G.Ar R G.cr):=by simp[cell,iA,h.st]
theorem QV.l8(h:QV o H g G R W m M B):cell H ((⟨g,0,none⟩:Addr).add 1)=some G.bv:=by simp[cell,iA,h.st]
theorem QV.Qx(h:QV o H g G R W m M B):cell H ((⟨g,0,none⟩:Addr).add 2)=some (.bool o):=by simp[cell,iA,h.st]
theorem QV.wk(h:QV o H g G R W m M B){i:Nat}{p:Nat×Nat}(hp:G.rg[i]? = some p):p.1≠g:=Ne.symm (GG.tq h.cT.nd h.gt (GG.gm hp))
theorem QV.row(h:QV o H g G R W m M B){i:Nat}{p:Nat×Nat}(hp:G.rg[i]? = some p):∃xs sz,H p.1=some ⟨xs,sz,163,true⟩∧bC fh 2 xs (aH (M i) W):=h.cT.row i p hp
theorem ma{xs:List Value}{f:Nat→Rat}{W k:Nat}(h:bC fh 2 xs (aH f W))(hk:k<W):∃n d:Int,fh [.int .i64 n,.int .i64 d] (f k)∧(∀(j:Nat)(v:Value),[.int .i64 n,.int .i64 d][j]? = some v→xs[k*2+j]? = some v)∧-1073741824≤n∧n≤1073741824∧1≤d∧d≤1073741824∧f k=(n:Rat)/(d:Rat):=by
 obtain⟨vs,_,h2,h3⟩:=h.get (di hk)
 obtain⟨n,d,rfl,h4⟩:=id h2
 exact⟨n,d,h2,h3,h4⟩
theorem tr{n d:Int}(h:1≤d):(n:Rat)/(d:Rat)=0↔n=0:=by
 have h4:(d:Rat)≠0:=by exact_mod_cast (show d≠0 by omega)
 constructor
 ·intro h1
  have h2:(n:Rat)=0:=by
   have h3:(n:Rat)/(d:Rat)*(d:Rat)=0:=by rw[h1];grind
   rwa [Rat.div_mul_cancel h4]at h3
  exact_mod_cast h2
 ·rintro rfl;rw[Rat.div_def];grind
theorem K3{n d:Int}(h:1≤d):(n:Rat)/(d:Rat)<0↔n<0:=by
 have h4:(0:Rat)<(d:Rat):=by exact_mod_cast (show 0<d by omega)
 have h5:(d:Rat)≠0:=by grind
 have e:(n:Rat)=(n:Rat)/(d:Rat)*(d:Rat):=(Rat.div_mul_cancel h5).symm
 constructor
 ·intro h1
  have h2:(n:Rat)/(d:Rat)*(d:Rat)<0*(d:Rat):=Rat.mul_lt_mul_of_pos_right h1 h4
  rw[←e]at h2
  have h3:(n:Rat)<0:=by grind
  exact_mod_cast h3
 ·intro h1
  have h2:(n:Rat)<0:=by exact_mod_cast h1
  refine Classical.byContradiction fun h3=> ?_
  have h6:0≤(n:Rat)/(d:Rat)*(d:Rat):=Rat.mul_nonneg (by grind) (by grind)
  rw[←e]at h6
  grind
theorem QV.set(h:QV o H g G R W m M B){i:Nat}{p:Nat×Nat}(hp:G.rg[i]? = some p)(ht:fE G.gs g H H')(ie:H' g=some ⟨[.slice G.Ar R G.cr,G.bv,.bool o'],3,160,true⟩){xs:List Value}{sz:Nat}(hx:H p.1=some ⟨xs,sz,163,true⟩)(gE:bC fh 2 xs (aH (M i) W)){k:Nat}(hk:k<W){vs:List Value}{q:Rat}(hv:fh vs q):
  QV o' (ins H' p.1 ⟨aI xs (k*2) vs,sz,163,true⟩) g G R W m (ic M i (bQ (M i) k q)) B∧Heap.le (rem H G.gs) (rem (ins H' p.1 ⟨aI xs (k*2) vs,sz,163,true⟩) G.gs):=by
 have hm:=GG.kz (GG.gm hp)
 have h1:=h.cT.Bm h.gt ht (by rw[ie];simp)
 have h2:H' p.1=H p.1:=ht.same _ hm (h.wk hp)
 have jL:vs.length=2:=by obtain⟨n,d,rfl,_⟩:=hv;rfl
 have hT:fE G.gs p.1 H' (ins H' p.1 ⟨aI xs (k*2) vs,sz,163,true⟩):=((Kept.refl _ _).il p.1).ins hm _
 refine⟨⟨h1.setRow hp hT ?_,h.gt,by rw[a7 _ _ (Ne.symm (h.wk hp))];exact ie⟩,ht.le.trans hT.le⟩
 refine⟨_,_,bo _ _ _,?_⟩
 have e:aH (bQ (M i) k q) W=(aH (M i) W).set k q:=by
  apply List.ext_getElem?
  intro j
  by_cases hj:j<W
  ·rw[di hj]
   by_cases ej:j=k
   ·subst ej
    rw[List.getElem?_set_self (by rw[aW];exact hj)];simp[bQ]
   ·rw[List.getElem?_set_ne (fun e'=>ej e'.symm),di hj];simp[bQ,ej]
  ·rw[List.getElem?_eq_none (by rw[aW];omega),List.getElem?_eq_none (by rw[List.length_set,aW];omega)]
 rw[e]
 exact gE.set (by rw[aW];exact hk) hv jL
theorem QV.tB(h:QV o H g G R W m M B)(ht:fE G.gs g H H')(ie:H' g=some ⟨[.slice G.Ar R G.cr,G.bv,.bool o'],3,160,true⟩):QV o' H' g G R W m M B:=⟨h.cT.Bm h.gt ht (by rw[ie];simp),h.gt,ie⟩
theorem QV.fy(h:QV o H g G R W m M B)(ht:fE G.gs g H H')(ie:H' g=some ⟨[.slice G.Ar R G.cr,G.bv,.bool o'],3,160,true⟩):(Mode.cG (kO g H)).fy H':=ahx h.mem h.st ht ie
theorem QV.rk(h:QV o H g G R W m M B):∃xs,Bn (kO g H) G.Ar xs∧Rd H G.Ar xs∧∀(i:Nat)(p:Nat×Nat),G.rg[i]? = some p→xs[i]? = some (.slice (some ⟨p.1,0,none⟩) W p.2):=by
 refine⟨iH G.rg W,?_,h.cT.rows.rd,fun i p hp=>ke hp⟩
 rcases h.cT.rows.2 with ⟨h1,h2⟩ | ⟨gr,cap,h1,h2,_⟩
 ·have e:iH G.rg W = []:=List.eq_nil_of_length_eq_zero (by rw[h.cT.rows.1,h2])
  rw[e]
  exact fun i v hv=>by simp at hv
 ·have e:G.Ar=some ⟨gr,0,none⟩:=(Value.slice.inj h1).1
  rw[e]
  refine yH h2 (Ne.symm (GG.tq h.cT.nd h.gt (GG.Bk ?_)))
  rw[h.cT.lI,h1];exact List.mem_singleton.2 rfl
theorem QV.k0(h:QV o H g G R W m M B):kO g H ((⟨g,0,none⟩:Addr).add 0)=some (.slice G.Ar R G.cr):=ahz h.st
theorem QV.fresh(h:QV o H g G R W m M B){k:Nat}{e:Ent}(hk:H k=none):QV o (ins H k e) g G R W m M B∧Heap.le (rem H G.gs) (rem (ins H k e) G.gs):=by
 have hm:¬k∈G.gs:=fun hm=>h.cT.ne k hm hk
 have hl:Heap.le (rem H G.gs) (rem (ins H k e) G.gs):=by
  rw[xN _ hm]
  exact Heap.bI _ (by rw[bL hm];exact hk)
 have hs:∀q,q∈G.gs→ins H k e q=H q:=fun q hq=>a7 _ _ fun e'=>hm (e'▸hq)
 exact⟨⟨h.cT.kept ⟨hl,hs⟩,h.gt,(hs g h.mem).trans h.st⟩,hl⟩
theorem Qy{H:Heap}{q:Nat}{gs:List Nat}{xs:List Value}(h:Rd H (some ⟨q,0,none⟩) xs)(hq:¬q∈gs):Rd (rem H gs) (some ⟨q,0,none⟩) xs:=fun i v hv=>by
 obtain⟨ad,h1,h2⟩:=h i v hv
 cases h1
 refine⟨_,rfl,?_⟩
 rw[iA]at h2⊢
 unfold cell at h2⊢
 rw[bL hq];exact h2
theorem Bn.at{kc:Addr→Option Value}{ad:Addr}{xs:List Value}(h:Bn kc (some ad) xs):∀(i:Nat)(v:Value),xs[i]? = some v→kc (ad.add i)=some v:=fun i v hv=>by
 obtain⟨D7,h1,h2⟩:=h i v hv
 cases h1;exact h2
end
abbrev uT(l:List Nat):List Value:=l.map fun(j:Nat)=>Value.int .i64 (j:Int)
structure QU(o:Bool)(K H:Heap)(g:Nat)(G:GG)(R W m:Nat)(M:Nat→Nat→Rat)(B:Nat→Nat)(u:Value)(l:List Nat):Prop where
 q:QV o H g (G.on (aE u++G.top)) R W m M B
 own:bP H u 3 1 l.length (uT l)
 le:Heap.le K (rem H (G.on (aE u++G.top)).gs)
section
variable {o o':Bool} {H H' K:Heap} {g:Nat} {G:GG} {R W m:Nat} {M M':Nat→Nat→Rat} {B:Nat→Nat} {u u':Value} {l:List Nat}
theorem QU.wm{q:Nat}(hq:q∈aE u):q∈(G.on (aE u++G.top)).gs:=List.mem_append_left _ (List.mem_append_left _ hq)
theorem QU.Yh(h:QU o K H g G R W m M B u l)(hg:g∈G.top){q:Nat}(hq:q∈aE u):q≠g:=fun e=>by
 have dJ:=h.q.cT.nd
 rw[GG.wj,List.append_assoc]at dJ
 exact(List.nodup_append.1 dJ).2.2 q hq g (List.mem_append_left _ hg) e
theorem QU.step(h:QU o K H g G R W m M B u l)(hq:QV o' H' g (G.on (aE u++G.top)) R W m M' B)(hl:Heap.le (rem H (G.on (aE u++G.top)).gs) (rem H' (G.on (aE u++G.top)).gs))(hs:∀q,q∈aE u→H' q=H q):QU o' K H' g G R W m M' B u l:=
 ⟨hq,h.own.same fun q oV=>hs q (dg.2 oV),h.le.trans hl⟩
theorem QU.set(h:QU o K H g G R W m M B u l)(hg:g∈G.top){i:Nat}{p:Nat×Nat}(hp:G.rg[i]? = some p)(ht:fE (G.on (aE u++G.top)).gs g H H')(ie:H' g=some ⟨[.slice G.Ar R G.cr,G.bv,.bool o'],3,160,true⟩){xs:List Value}{sz:Nat}(hx:H p.1=some ⟨xs,sz,163,true⟩)(gE:bC fh 2 xs (aH (M i) W)){k:Nat}(hk:k<W){vs:List Value}{q:Rat}(hv:fh vs q):
  QU o' K (ins H' p.1 ⟨aI xs (k*2) vs,sz,163,true⟩) g G R W m (ic M i (bQ (M i) k q)) B u l:=by
 obtain⟨h1,h2⟩:=h.q.set (G:=G.on (aE u++G.top)) hp ht ie hx gE hk hv
 refine h.step h1 h2 fun r hr=> ?_
 have aY:r≠p.1:=fun e=>GG.tq h.q.cT.nd (q:=r) (r:=p.1) (List.mem_append_left _ hr) (GG.gm (G:=G.on (aE u++G.top)) hp) e
 rw[a7 _ _ aY]
 exact ht.same r (QU.wm hr) (h.Yh hg hr)
theorem QU.app(h:QU o K H g G R W m M B u l){k n:Nat}(hn:n=l.length+1)(ha:App H u 3 1 n (uT l ++ [.int .i64 (k:Int)]) u' H')(hg:g∈G.top):QU o K H' g G R W m M B u' (l ++ [k]):=by
 obtain⟨h1,h2⟩:=h.q.cT.app ha
 refine⟨⟨h1,List.mem_append_right _ hg,?_⟩,?_,h.le.trans h2⟩
 ·exact ha.same g _ h.q.st fun e=>h.Yh hg (dg.2 e) rfl
 ·have:=ha.own
  rw[hn]at this
  rw[List.length_append,uT,List.map_append];exact this
theorem QU.fresh(h:QU o K H g G R W m M B u l){k:Nat}{e:Ent}(hk:H k=none):QU o K (ins H k e) g G R W m M B u l:=by
 obtain⟨h1,h2⟩:=h.q.fresh (e:=e) hk
 refine h.step h1 h2 fun q hq=>a7 _ _ fun e'=> ?_
 subst e'
 exact h.q.cT.ne q (QU.wm hq) hk
theorem QU.down{K':Heap}(h:QU o K H g G R W m M B u l)(hl:Heap.le K' K):QU o K' H g G R W m M B u l:=⟨h.q,h.own,hl.trans h.le⟩
theorem QU.Bs(h:QU o K H g G R W m M B u l):QU o (rem H (G.on (aE u++G.top)).gs) H g G R W m M B u l:=⟨h.q,h.own,.refl _⟩
theorem QU.drop(h:QU o K H g G R W m M B u l)(hg:g∈G.top):QV o H g G R W m M B∧Heap.le K (rem H G.gs):=by
 have hl:Heap.le (rem H (G.on (aE u++G.top)).gs) (rem H G.gs):=GW fun q hq=>by
  rw[GG.wj,List.append_assoc];exact List.mem_append_right _ hq
 have dJ:=h.q.cT.nd
 rw[GG.wj,List.append_assoc]at dJ
 exact⟨⟨h.q.cT.Bl (t:=G.top) (List.nodup_append.1 dJ).2.1 (fun q hq=>h.q.cT.top q (List.mem_append_right _ hq)) (fun _ _=>rfl) hl,hg,h.q.st⟩,h.le.trans hl⟩
theorem QU.rd{A:Option Addr}{n c:Nat}(h:QU o K H g G R W m M B (.slice A n c) l):Rd H A (uT l)∧n=l.length:=by
 have h1:=h.own
 obtain⟨A',c',e⟩:=h1.form
 cases e
 exact⟨h1.rd,rfl⟩
end
end Go.ar
namespace Go.ar
open Go.Proofs Num Lp
def lJ(M:Nat→Nat→Rat)(r c i j:Nat):Rat:=if i=r then M r j/M r c else M i j-M i c*(M r j/M r c)
theorem ahA{n d:Int}(h:fh [.int .i64 n,.int .i64 d] ((n:Rat)/(d:Rat)))(hn:n≠0):∃a b:Int,(a=d∧b=n∧0<n∨a = -d∧b = -n∧n<0)∧fh [.int .i64 a,.int .i64 b] (1/((n:Rat)/(d:Rat))):=by
 obtain⟨n',d',e,h1,h2,h3,h4,_⟩:=h
 simp only[List.cons.injEq,Value.int.injEq,true_and,and_true]at e
 obtain⟨rfl,rfl⟩:=e
 have hd:(d:Rat)≠0:=by exact_mod_cast (show d≠0 by omega)
 have hn':(n:Rat)≠0:=by exact_mod_cast hn
 have e1:1/((n:Rat)/(d:Rat))=(d:Rat)/(n:Rat):=by
  rw[Rat.div_def,Rat.div_def,Rat.div_def,Rat.inv_mul_rev,Rat.inv_inv];grind
 rcases Int.lt_or_gt_of_ne hn with h | h
 ·refine⟨-d,-n,.inr ⟨rfl,rfl,h⟩,-d,-n,rfl,by omega,by omega,by omega,by omega,?_⟩
  rw[e1,Rat.intCast_neg,Rat.intCast_neg,Rat.div_def,Rat.div_def]
  have h1:=Rat.mul_inv_cancel (n:Rat) hn'
  have h2:=Rat.mul_inv_cancel (-(n:Rat)) (by grind)
  grind
 ·exact⟨d,n,.inl ⟨rfl,rfl,h⟩,d,n,rfl,by omega,by omega,by omega,by omega,e1⟩
def ea(f:Nat→Rat)(k:Nat):List Nat:=(List.range k).filter fun j=>decide (f j≠0)
theorem K4{f:Nat→Rat}{k:Nat}:ea f (k+1)=ea f k++(if f k=0 then []else [k]):=by
 unfold ea
 rw[List.range_succ,List.filter_append]
 congr 1
 by_cases h:f k=0
 ·rw[if_pos h];simp[h]
 ·rw[if_neg h];simp[h]
theorem Qz{f:Nat→Rat}{k j:Nat}:j∈ea f k↔j<k∧f j≠0:=by simp[ea]
theorem Yi(f:Nat→Rat)(k:Nat):(ea f k).length≤k:=Nat.le_trans (List.length_filter_le _ _) (by simp)
theorem Yj(f:Nat→Rat)(k:Nat):(ea f k).Nodup:=List.Nodup.sublist List.filter_sublist List.nodup_range
theorem Yk{l:List Nat}(h:l.Nodup){t k:Nat}(hk:l[t]? = some k):¬k∈l.take t:=fun hm=>by
 obtain⟨i,hi⟩:=List.getElem?_of_mem hm
 rw[List.getElem?_take]at hi
 split at hi
 ·rename_i bU
  obtain⟨a1,a2⟩:=List.getElem?_eq_some_iff.1 hi
  obtain⟨b1,b2⟩:=List.getElem?_eq_some_iff.1 hk
  have:=(List.getElem_inj h).1 (a2.trans b2.symm)
  omega
 ·cases hi
theorem qy(f:Nat→Rat)(k:Nat)(v:Rat):bQ f k v k=v:=by simp[bQ]
theorem oJ{f:Nat→Rat}{k j:Nat}{v:Rat}(h:j≠k):bQ f k v j=f j:=by simp[bQ,h]
theorem oK(M:Nat→Nat→Rat)(i:Nat)(f:Nat→Rat):ic M i f i=f:=by simp[ic]
theorem Ds{M:Nat→Nat→Rat}{i k:Nat}{f:Nat→Rat}(h:k≠i):ic M i f k=M k:=by simp[ic,h]
theorem K5(M:Nat→Nat→Rat)(i:Nat)(f h:Nat→Rat):ic (ic M i f) i h=ic M i h:=by
 funext k;unfold ic;split <;> rfl
theorem K6(M:Nat→Nat→Rat)(i:Nat):ic M i (M i)=M:=by
 funext k;unfold ic;split
 ·rename_i e;rw[e]
 ·rfl
def Yl(o o1:Bool)(M:Nat→Nat→Rat)(r c W k:Nat)(f:Nat→Rat):Prop:=(∀j,k≤j→f j=M r j)∧(o1=false→o=false∧∀j,j<k→f j=M r j/M r c)
def yI(o o1:Bool)(M:Nat→Nat→Rat)(r c R W k:Nat)(M1:Nat→Nat→Rat):Prop:=(∀i,k≤i→i≠r→M1 i=M i)∧(o1=false→o=false∧∀i,i<R→∀j,j<W→(i=r∨i<k)→M1 i j=lJ M r c i j)
def GZ(o1 o2:Bool)(f0 fr:Nat→Rat)(x:Rat)(l:List Nat)(t:Nat)(f:Nat→Rat):Prop:=(o2=false→o1=false∧∀j,f j=if j∈l.take t then f0 j-x*fr j else f0 j)
theorem Ym{o1 o2 o3:Bool}{f0 fr f:Nat→Rat}{x q:Rat}{l:List Nat}{t k:Nat}(h:GZ o1 o2 f0 fr x l t f)(dJ:l.Nodup)(hk:l[t]? = some k)(hq:o3=false→o2=false∧q=f k-x*fr k):GZ o1 o3 f0 fr x l (t+1) (bQ f k q):=fun h3=>by
 obtain⟨h2,e⟩:=hq h3
 obtain⟨h1,hf⟩:=h h2
 refine⟨h1,fun j=> ?_⟩
 have et:l.take (t+1)=l.take t ++ [k]:=by rw[List.take_add_one,hk];rfl
 by_cases ej:j=k
 ·subst ej
  rw[qy,et,if_pos (List.mem_append_right _ (List.mem_singleton.2 rfl)),e,hf j,if_neg (Yk dJ hk)]
 ·rw[oJ ej,hf j,et]
  have:(j∈l.take t ++ [k])↔j∈l.take t:=by simp[ej]
  simp only[this]
theorem Yn{o o1 o2:Bool}{M M1:Nat→Nat→Rat}{r c R W k:Nat}{f:Nat→Rat}(h:yI o o1 M r c R W k M1)(hc:c<W)(hr:r<R)(sD:k≠r)(h3:GZ o1 o2 (M1 k) (M1 r) (M1 k c) (ea (M r) W) (ea (M r) W).length f):yI o o2 M r c R W (k+1) (ic M1 k f):=by
 refine⟨fun i hi mU=>by rw[Ds (by omega)];exact h.1 i (by omega) mU,fun h2=> ?_⟩
 obtain⟨h1,hf⟩:=h3 h2
 obtain⟨h0,hm⟩:=h.2 h1
 refine⟨h0,fun i hi j hj hd=> ?_⟩
 by_cases e:i=k
 ·subst e
  rw[oK,hf j,List.take_length]
  have e0:M1 i=M i:=h.1 i (Nat.le_refl _) sD
  have er:M1 r j=M r j/M r c:=by
   have:=hm r hr j hj (.inl rfl)
   rw[this];unfold lJ;rw[if_pos rfl]
  rw[e0,er]
  unfold lJ
  rw[if_neg sD]
  split
  ·rfl
  ·rename_i hn
   have hz:M r j=0:=Classical.byContradiction fun aY=>hn (Qz.2 ⟨hj,aY⟩)
   rw[hz,Rat.div_def];grind
 ·rw[Ds e]
  exact hm i hi j hj (by omega)
theorem K7{o o1:Bool}{M M1:Nat→Nat→Rat}{r c R W k:Nat}(h:yI o o1 M r c R W k M1)(hc:c<W)(hk:k<R)(hs:k=r∨M1 k c=0):yI o o1 M r c R W (k+1) M1:=by
 refine⟨fun i hi mU=>h.1 i (by omega) mU,fun h2=> ?_⟩
 obtain⟨h0,hm⟩:=h.2 h2
 refine⟨h0,fun i hi j hj hd=> ?_⟩
 by_cases e:i=k∧i≠r
 ·obtain⟨rfl,mU⟩:=e
  have e0:M1 i=M i:=h.1 i (Nat.le_refl _) mU
  rcases hs with hs | hs
  ·exact absurd hs mU
  ·rw[e0]at hs⊢
   unfold lJ
   rw[if_neg mU,hs];grind
 ·exact hm i hi j hj (by omega)
theorem Yo{o:Bool}{H:Heap}{g:Nat}{G:GG}{R W m:Nat}{M:Nat→Nat→Rat}{B:Nat→Nat}{r c:Nat}(h:QV o H g G R W m M B)(hr:r<m)(eK:r<R)(hc:c<W)(hp:M r c≠0)(hR:(R:Int)≤1000000)(hW:(W:Int)≤1000000):
 Fn Tryz.prog 139 #[.pointer (some ⟨g,0,none⟩),.int .i64 (r:Int),.int .i64 (c:Int)] H (fun _ H'=>∃M' o',QV o' H' g G R W m M' (fun i=>if i=r then c else B i)∧(o'=false→o=false∧∀i,i<R→∀j,j<W→M' i j=lJ M r c i j)∧Heap.le (rem H G.gs) (rem H' G.gs)):=by
 obtain⟨pr,cN⟩:=h.cT.get eK
 obtain⟨ox,IV,Yp,jN⟩:=h.rk
 obtain⟨Yq,Yr,sC,G6⟩:=h.row cN
 obtain⟨n0,d0,G8,mD,b1,b2,b3,b4,jk⟩:=ma G6 hc
 have jm:n0≠0:=fun e=>hp (by rw[jk,e];exact(tr b3).2 rfl)
 rw[jk]at G8
 obtain⟨a,b,zO,hinv⟩:=ahA G8 jm;refine aZ (args:=[_,_,_]) Tryz.func139 rfl rfl Tryz.ntmps139 rfl rfl fun w0=> ?_;refine ag [0,1,2] rfl ?_;refine bJ .bF [0,1,2,3,4,5,6,7,8,9,10,11,12,13,14,15,16,17,18,19,20,21,22,23,24] follows (ib [0,1,3,7,0,31,63,0,255,511,1023,0,2048,6144,14336,0,63488,129024,0,522240,1046528,2095104,4194303,0,16777215] (by kernel_rfl)) ?_;refine vr 2 ?_;refine aS ae rfl rfl rfl ?_;refine aN ae rfl rfl rfl (h.iF) ?_;refine vr 1 ?_;refine aM ae rfl rfl rfl rfl rfl (Yp) (by rw[Int.toNat_natCast];exact jN r pr cN) (by omega) (by omega) fun _=> ?_;refine vr 1 ?_;refine oH ae rfl rfl rfl rfl rfl rfl rfl (dF sC) (by rw[Int.toNat_natCast];exact mD 1 _ rfl) (by omega) (by omega) fun _ _=> ?_;refine vr 2 ?_;refine aS ae rfl rfl rfl ?_;refine aN ae rfl rfl rfl (h.iF) ?_;refine vr 1 ?_;refine aM ae rfl rfl rfl rfl rfl (Yp) (by rw[Int.toNat_natCast];exact jN r pr cN) (by omega) (by omega) fun _=> ?_;refine vr 1 ?_;refine oH ae rfl rfl rfl rfl rfl rfl rfl (dF sC) (by rw[Int.toNat_natCast];exact mD 0 _ rfl) (by omega) (by omega) fun _ _=> ?_;refine dS ae rfl fB rfl rfl ?_;refine bt fB rfl ?_;obtain⟨ti,aj,ak⟩:=dT;refine aJ (.inl ⟨rfl,rfl⟩) rfl rfl rfl aj ak rfl rfl rfl ?_
 refine aa [0,1,2,6] ?_;refine zt (fun(x:Int)(y:Int)=>put (put (put (put (emp) 0 (.val (.pointer (some ⟨g,0,none⟩)))) 1 (.val (.int .i64 (r:Int)))) 2 (.val (.int .i64 (c:Int)))) 6 (.box [.int .i64 x,.int .i64 y])) (fun(x:Int)(y:Int) H'=>H'=H∧fh [.int .i64 x,.int .i64 y] (1/M r c)) ?_ ?_
 ·
  refine ab ?_;refine vr 3 ?_;refine aa [0,1,2,6,38] ?_;refine aB rfl (fun hb=> ?_) (fun hb=> ?_)
  ·
   have hb:n0<0:=by simpa using hb
   refine av rfl ?_;refine vr 2 ?_;refine sx rfl ⟨by omega,by omega⟩ ?_;refine vr 2 ?_;refine sx rfl ⟨by omega,by omega⟩ ?_;refine dS ae rfl fB rfl rfl ?_;obtain⟨ti,aj,ak⟩:=dT;refine aJ (.inl ⟨rfl,rfl⟩) rfl rfl rfl aj ak rfl rfl rfl ?_;refine aq ?_;exact⟨-d0,-n0,an,rfl,by rcases zO with ⟨_,_,h9⟩ | ⟨rfl,rfl,_⟩;exact absurd h9 (by omega);rw[jk];exact hinv⟩
  ·
   have hb:¬n0<0:=by simpa using hb
   refine au ?_;exact⟨d0,n0,an,rfl,by rcases zO with ⟨rfl,rfl,_⟩ | ⟨_,_,h9⟩;rw[jk];exact hinv;exact absurd h9 (by omega)⟩
 ·
  rintro x y H5 ⟨rfl,p5⟩;refine K1 6 rfl fun g6 e6 nh=> ?_;obtain⟨h6,jr⟩:=h.fresh (e:=⟨[.int .i64 x,.int .i64 y],2,e6,true⟩) nh;have Ys:Rd (rem (ins H5 g6 ⟨[.int .i64 x,.int .i64 y],2,e6,true⟩) G.gs) (some ⟨g6,0,none⟩) [.int .i64 x,.int .i64 y]:=Qy (eZ _ _ _ _ _ _) fun hm=>h.cT.ne _ hm nh
  show VC _ _ _ _ _ _ _ (ins H5 g6 ⟨[.int .i64 x,.int .i64 y],2,e6,true⟩)
  generalize ins H5 g6 ⟨[.int .i64 x,.int .i64 y],2,e6,true⟩=H6 at *
  have QA:QU o (rem H6 G.gs) H6 g G R W m (ic M r (M r)) B (.slice none 0 0) (ea (M r) 0):=⟨by rw[K6];exact h6,lQ _ _ _,.refl _⟩;obtain⟨E8,qf,ahB,rA⟩:=h6.rk;refine ab ?_;refine vr 1 ?_;refine aa [0,1,2,6,7] ?_;refine al ?_;refine ab ?_;refine vr 2 ?_;refine aS ae rfl rfl rfl ?_;refine aN ae rfl rfl rfl (h6.iF) ?_;refine vr 1 ?_;refine aM ae rfl rfl rfl rfl rfl (ahB) (by rw[Int.toNat_natCast];exact rA r pr cN) (by omega) (by omega) fun _=> ?_;refine vr 2 ?_;refine aa [0,1,2,6,7,53,54] ?_;refine aC ?_;refine pW (fun(k:Nat)(u:Value)(f:Nat→Rat)(o1:Bool)=>W-k) (fun(k:Nat)(u:Value)(f:Nat→Rat)(o1:Bool)=>put (put (put (put (put (put (put (emp) 0 (.val (.pointer (some ⟨g,0,none⟩)))) 1 (.val (.int .i64 (r:Int)))) 2 (.val (.int .i64 (c:Int)))) 6 (.val (.pointer (some ⟨g6,0,none⟩)))) 7 (.val (u))) 53 (.val (.int .i64 (W:Int)))) 54 (.val (.int .i64 (k:Int)))) (fun(k:Nat)(u:Value)(f:Nat→Rat)(o1:Bool) H'=>QU o1 (rem H6 G.gs) H' g G R W m (ic M r f) B u (ea (M r) k)∧Yl o o1 M r c W k f∧k≤W) 0 (.slice none 0 0) (M r) o (⟨QA,⟨fun _ _=>rfl,fun h9=>⟨h9,fun j hj=>absurd hj (Nat.not_lt_zero _)⟩⟩,Nat.zero_le _⟩) an ?_;rintro k u f o1 H7 ⟨hU,hP,hk⟩;obtain⟨xs7,mJ,ahC,vY⟩:=hU.q.rk;obtain⟨A7,c7,rfl⟩:=hU.own.form;obtain⟨QB,sr7,Bt,wo⟩:=hU.q.row (G:=G.on _) cN
  rw[oK]at wo;have QC:=wo.len;rw[aW]at QC;have yb:=Yi (M r) k;refine ab ?_;refine vr 1 ?_;refine aa [0,1,2,6,7,53,54,55] ?_;refine al ?_;refine aB rfl (fun hb=> ?_) (fun hb=> ?_)
  ·
   have eX:k<W:=by simpa using hb
   obtain⟨n7,d7,Ox,rK,i1,i2,i3,i4,iW⟩:=ma wo eX;refine au ?_;refine ag [0,1,2,6,7,53,54] rfl ?_;refine al ?_;refine aC ?_;refine ab ?_;refine vr 2 ?_;refine aa [0,1,2,6,7,8,53,54] ?_;refine ab ?_;refine vr 2 ?_;refine aS ae rfl rfl rfl ?_;refine aN ae rfl rfl rfl (hU.q.iF) ?_;refine vr 1 ?_;refine aM ae rfl rfl rfl rfl rfl (ahC) (by rw[Int.toNat_natCast];exact vY r pr cN) (by omega) (by omega) fun _=> ?_;refine vr 1 ?_;refine oH ae rfl rfl rfl rfl rfl rfl rfl (dF Bt) (by rw[Int.toNat_natCast];exact rK 0 _ rfl) (by omega) (by omega) fun _ _=> ?_;refine vr 1 ?_;refine aa [0,1,2,6,7,8,53,54,68] ?_;refine aB rfl (fun hb=> ?_) (fun hb=> ?_)
   ·
    have hb:n7≠0:=by simpa using hb
    have a6:=GX g H7;refine bJ (.cG (kO g H7)) [0,1,2,3,4,5,6,7,8,9,10,11,12,13,14,15,16,17,18,19,20,21,22] follows (ib [0,1,3,7,0,31,63,0,0,0,512,1536,3584,0,15872,32256,0,130560,261632,0,1048320,2097151,4194303] (by kernel_rfl)) ?_;refine eh a6 rfl ?_;refine lD a6 rfl ?_;refine lE a6 ae rfl rfl rfl ?_;refine jR a6 ae rfl rfl rfl (hU.q.k0) ?_;refine eh a6 rfl ?_;refine Bo a6 ae rfl rfl rfl rfl rfl (mJ) (by rw[Int.toNat_natCast];exact vY r pr cN) (by omega) (by omega) fun _=> ?_;refine eh a6 rfl ?_;refine eh a6 rfl ?_;refine eh a6 rfl ?_;refine lD a6 rfl ?_;refine lE a6 ae rfl rfl rfl ?_;refine jR a6 ae rfl rfl rfl (hU.q.k0) ?_;refine eh a6 rfl ?_;refine Bo a6 ae rfl rfl rfl rfl rfl (mJ) (by rw[Int.toNat_natCast];exact vY r pr cN) (by omega) (by omega) fun _=> ?_;refine eh a6 rfl ?_;refine Bp a6 ae rfl rfl rfl rfl (yH Bt (hU.q.wk (G:=G.on _) cN)) rfl (by decide) (by rw[Int.toNat_natCast];exact rK) (by omega) (by omega) fun _=> ?_;refine GY a6 ae rfl rfl rfl (((Ys.le hU.le).kx hU.q.mem).at) ?_;refine Bq rfl rfl (Qo hU.q.mem hU.q.st Ox p5) (fun v H9 nC=>by obtain⟨k1,_,_,_,_,_,k2,_⟩:=nC;exact hU.q.fy k1 k2) ?_;rintro _ H8 ⟨qv,QD,o8,q8,rfl,Yt,oL,eL⟩;obtain⟨n8,d8,rfl,_⟩:=id Yt;have a6:=hU.q.fy qv oL
    have Hd:=(qv.same _ (GG.kz (GG.gm (G:=G.on _) cN)) (hU.q.wk (G:=G.on _) cN)).trans Bt;have wq:=hU.set h.gt cN qv oL Bt (by rw[oK];exact wo) eX Yt;rw[oK,K5]at wq;obtain⟨ti,aj,ak⟩:=dT;refine K2 a6 ae rfl rfl rfl (by omega) (by omega) (Hd) rfl (by show W*2≤QB.length;omega) aj ak (fun _=>rfl) rfl rfl rfl fun _=> ?_;refine aa [0,1,2,6,7,8,53,54] ?_;refine av rfl ?_;refine vr 2 ?_;refine dI Tryz.underlying94 iP rfl rfl rfl rfl rfl rfl rfl ?_;intro gb bD;have qz:=wq.fresh (e:=whole [.int .i64 (k:Int)] 3) bD;refine eN Tryz.underlying94 iP rfl rfl (qz.own) (eZ _ _ _ _ _ _) (rfl) (rE _) (by omega) (by omega) ?_;intro u' pj QE;have QF:=qz.app rfl QE h.gt;refine vr 1 ?_;refine aq ?_;refine ag [0,1,2,6,7,53,54] rfl ?_;refine av rfl ?_;refine aD rfl rfl ⟨by omega,by omega⟩ ?_;refine vr 1 ?_;refine aq ?_
    have aY:M r k≠0:=by rw[←hP.1 k (Nat.le_refl _),iW];exact fun h9=>hb ((tr i3).1 h9)
    exact⟨k+1,u',bQ f k q8,o8,by omega,an,by rw[K4,if_neg aY];exact QF,⟨fun j hj=>by rw[oJ (by omega)];exact hP.1 j (by omega),fun h9=>by
     obtain⟨g1,g2⟩:=eL h9;obtain⟨g3,g4⟩:=hP.2 g1;refine⟨g3,fun j hj=> ?_⟩
     by_cases ej:j=k
     ·
      subst ej;rw[qy,g2,hP.1 j (Nat.le_refl _),Rat.div_def,Rat.div_def];grind
     ·rw[oJ ej];exact g4 j (by omega)⟩,by omega⟩
   ·
    have hb:n7=0:=by simpa using hb
    refine au ?_;refine ag [0,1,2,6,7,53,54] rfl ?_;refine av rfl ?_;refine aD rfl rfl ⟨by omega,by omega⟩ ?_;refine vr 1 ?_;refine aq ?_
    have hz:M r k=0:=by rw[←hP.1 k (Nat.le_refl _),iW];exact(tr i3).2 hb
    exact⟨k+1,_,f,o1,by omega,an,by rw[K4,if_pos hz,List.append_nil];exact hU,⟨fun j hj=>hP.1 j (by omega),fun h9=>by
     obtain⟨g3,g4⟩:=hP.2 h9;refine⟨g3,fun j hj=> ?_⟩
     by_cases ej:j=k
     ·
      subst ej;rw[hP.1 j (Nat.le_refl _),hz,Rat.div_def];grind
     ·exact g4 j (by omega)⟩,by omega⟩
  ·
   have hb:W≤k:=by simpa using hb
   obtain rfl:k=W:=by omega
   have QG:yI o o1 M r c R k 0 (ic M r f):=⟨fun i _ hi=>Ds hi,fun h9=>by
    obtain⟨g3,g4⟩:=hP.2 h9;refine⟨g3,fun i _ j hj hd=> ?_⟩
    obtain rfl:i=r:=by omega
    rw[oK,g4 j hj];unfold lJ;rw[if_pos rfl]⟩
   have dJ:=Yj (M r) k;refine aU ?_;refine ag [0,1,2,7] rfl ?_;refine al ?_;refine ab ?_;refine vr 2 ?_;refine aS ae rfl rfl rfl ?_;refine aN ae rfl rfl rfl (hU.q.iF) ?_;refine vr 2 ?_;refine aa [0,1,2,7,100,101] ?_;refine aC ?_;refine gh (fun(i:Nat)(M1:Nat→Nat→Rat)(o3:Bool)=>R-i) (fun(i:Nat)(M1:Nat→Nat→Rat)(o3:Bool)=>put (put (put (put (put (put (emp) 0 (.val (.pointer (some ⟨g,0,none⟩)))) 1 (.val (.int .i64 (r:Int)))) 2 (.val (.int .i64 (c:Int)))) 7 (.val (.slice A7 (ea (M r) k).length c7))) 100 (.val (.int .i64 (R:Int)))) 101 (.val (.int .i64 (i:Int)))) (fun(i:Nat)(M1:Nat→Nat→Rat)(o3:Bool) H'=>QU o3 (rem H6 G.gs) H' g G R k m M1 B (.slice A7 (ea (M r) k).length c7) (ea (M r) k)∧yI o o3 M r c R k i M1∧i≤R) 0 (ic M r f) o1 (⟨hU,QG,Nat.zero_le _⟩) an ?_;rintro i M1 o3 im ⟨hV,hQ,hi⟩;obtain⟨ak8,tl,Yu,Yv⟩:=hV.q.rk;refine ab ?_;refine vr 1 ?_;refine aa [0,1,2,7,100,101,102] ?_;refine al ?_;refine aB rfl (fun hb=> ?_) (fun hb=> ?_)
   ·
    have tt:i<R:=by simpa using hb
    obtain⟨pi,cL⟩:=h.cT.get tt;obtain⟨ahD,ahE,He,QH⟩:=hV.q.row (G:=G.on _) cL;obtain⟨oM,d11,ak9,Dl,j1,j2,j3,j4,wu⟩:=ma QH hc;refine au ?_;refine ag [0,1,2,7,100,101] rfl ?_;refine al ?_;refine aC ?_;refine ab ?_;refine vr 2 ?_;refine aa [0,1,2,7,9,100,101] ?_;refine al ?_
    by_cases h1:i=r
    ·
     skip
     refine ab ?_;refine vr 2 ?_;refine aA true rfl rfl (fk (by omega)) ?_;refine vr 14 ?_;refine aa [0,1,2,7,9,100,101,120] ?_;refine cD rfl ?_;refine aU ?_;refine ag [0,1,2,7,100,101] rfl ?_;refine av rfl ?_;refine aD rfl rfl ⟨by omega,by omega⟩ ?_;refine vr 1 ?_;refine aq ?_;exact⟨i+1,M1,o3,by omega,an,hV,K7 hQ hc tt (.inl h1),by omega⟩
    ·
     skip
     refine ab ?_;refine vr 2 ?_;refine aA false rfl rfl (gI (by omega)) ?_;refine vr 3 ?_;refine aS ae rfl rfl rfl ?_;refine aN ae rfl rfl rfl (hV.q.iF) ?_;refine vr 1 ?_;refine aM ae rfl rfl rfl rfl rfl (Yu) (by rw[Int.toNat_natCast];exact Yv i pi cL) (by omega) (by omega) fun _=> ?_;refine vr 1 ?_;refine oH ae rfl rfl rfl rfl rfl rfl rfl (dF He) (by rw[Int.toNat_natCast];exact Dl 0 _ rfl) (by omega) (by omega) fun _ _=> ?_;refine vr 2 ?_;refine aa [0,1,2,7,9,100,101,120] ?_;refine aB rfl (fun hb=> ?_) (fun hb=> ?_)
     ·
      have hb:oM=0:=by simpa using hb
      refine aU ?_;refine ag [0,1,2,7,100,101] rfl ?_;refine av rfl ?_;refine aD rfl rfl ⟨by omega,by omega⟩ ?_;refine vr 1 ?_;refine aq ?_;exact⟨i+1,M1,o3,by omega,an,hV,K7 hQ hc tt (.inr (by rw[wu];exact(tr j3).2 hb)),by omega⟩
     ·
      have hb:oM≠0:=by simpa using hb
      refine au ?_;refine ag [0,1,2,7,9,100,101] rfl ?_;refine ab ?_;refine vr 2 ?_;refine aS ae rfl rfl rfl ?_;refine aN ae rfl rfl rfl (hV.q.iF) ?_;refine vr 1 ?_;refine aM ae rfl rfl rfl rfl rfl (Yu) (by rw[Int.toNat_natCast];exact Yv i pi cL) (by omega) (by omega) fun _=> ?_;refine vr 1 ?_;refine bR (vs:=[.int .i64 oM,.int .i64 d11]) ae rfl rfl rfl rfl (dF He) rfl (by decide) (by rw[Int.toNat_natCast];exact Dl) (by omega) (by omega) fun _=> ?_;refine bt fB rfl ?_;obtain⟨ti,aj,ak⟩:=dT;refine aJ (.inl ⟨rfl,rfl⟩) rfl rfl rfl aj ak rfl rfl rfl ?_;refine aa [0,1,2,7,9,10,100,101] ?_;refine K1 10 rfl fun g10 AL sW=> ?_;obtain⟨_,iX⟩:=hV.q.fresh (e:=⟨[.int .i64 oM,.int .i64 d11],2,AL,true⟩) sW;have Dt:=hV.fresh (e:=⟨[.int .i64 oM,.int .i64 d11],2,AL,true⟩) sW;have ahF:Rd (rem (ins im g10 ⟨[.int .i64 oM,.int .i64 d11],2,AL,true⟩) (G.on (aE (.slice A7 (ea (M r) k).length c7)++G.top)).gs) (some ⟨g10,0,none⟩) [.int .i64 oM,.int .i64 d11]:=Qy (eZ _ _ _ _ _ _) fun hm=>hV.q.cT.ne _ hm sW
      show VC _ _ _ _ _ _ _ (ins im g10 ⟨[.int .i64 oM,.int .i64 d11],2,AL,true⟩)
      generalize ins im g10 ⟨[.int .i64 oM,.int .i64 d11],2,AL,true⟩=cV at *
      have Hf:=Dt.Bs;rw[←K6 M1 i]at Hf;refine ab ?_;refine vr 3 ?_;refine aa [0,1,2,7,9,10,100,101,131,132,133] ?_;refine aC ?_;refine gh (fun(t:Nat)(f2:Nat→Rat)(o4:Bool)=>(ea (M r) k).length-t) (fun(t:Nat)(f2:Nat→Rat)(o4:Bool)=>put (put (put (put (put (put (put (put (put (put (put (emp) 0 (.val (.pointer (some ⟨g,0,none⟩)))) 1 (.val (.int .i64 (r:Int)))) 2 (.val (.int .i64 (c:Int)))) 7 (.val (.slice A7 (ea (M r) k).length c7))) 9 (.val (.int .i64 (i:Int)))) 10 (.val (.pointer (some ⟨g10,0,none⟩)))) 100 (.val (.int .i64 (R:Int)))) 101 (.val (.int .i64 (i:Int)))) 131 (.val (.slice A7 (ea (M r) k).length c7))) 132 (.val (.int .i64 ((ea (M r) k).length:Int)))) 133 (.val (.int .i64 (t:Int)))) (fun(t:Nat)(f2:Nat→Rat)(o4:Bool) H'=>QU o4 (rem cV (G.on (aE (.slice A7 (ea (M r) k).length c7)++G.top)).gs) H' g G R k m (ic M1 i f2) B (.slice A7 (ea (M r) k).length c7) (ea (M r) k)∧GZ o3 o4 (M1 i) (M1 r) (M1 i c) (ea (M r) k) t f2∧t≤(ea (M r) k).length) 0 (M1 i) o3 (⟨Hf,fun h9=>⟨h9,fun j=>by simp⟩,Nat.zero_le _⟩) an ?_;rintro t f2 o4 kN ⟨hX,Du,ht⟩;obtain⟨ahG,vZ,Yw,Hg⟩:=hX.q.rk;obtain⟨K8,Yx,yJ,tu⟩:=hX.q.row (G:=G.on _) cL;obtain⟨ahH,ahI,QI,Hh⟩:=hX.q.row (G:=G.on _) cN;rw[oK]at tu;rw[Ds (fun e=>h1 e.symm)]at Hh;have QJ:=tu.len;rw[aW]at QJ
      refine ab ?_;refine vr 1 ?_;refine aa [0,1,2,7,9,10,100,101,131,132,133,134] ?_;refine al ?_;refine aB rfl (fun hb=> ?_) (fun hb=> ?_)
      ·
       have oN:t<(ea (M r) k).length:=by simpa using hb
       obtain⟨kk,bM⟩:∃kk,(ea (M r) k)[t]? = some kk:=⟨_,List.getElem?_eq_getElem oN⟩;have eX:kk<k:=(Qz.1 (List.mem_of_getElem? bM)).1;obtain⟨FR,d13,ahJ,QK,_,_,_,_,_⟩:=ma tu eX;obtain⟨n14,d14,ahK,Hi,_,_,_,_,_⟩:=ma Hh eX;refine au ?_;refine ag [0,1,2,7,9,10,100,101,131,132,133] rfl ?_;refine al ?_;refine aC ?_;refine ab ?_;refine aM ae rfl rfl rfl rfl rfl (hX.rd.1) (by rw[Int.toNat_natCast];show (List.map _ _)[t]? = _;rw[List.getElem?_map,bM];rfl) (by omega) (by omega) fun _=> ?_;refine vr 1 ?_;refine aa [0,1,2,7,9,10,12,100,101,131,132,133] ?_;have a6:=GX g kN;refine dZ (.cG (kO g kN)) [0,1,2,3,4,5,6,7,8,9,10,11,12,13,14,15,16,17,18,19,20,21,22,23,24,25,26,27,28,29,30,31,32,33,34] follows (ib [0,1,3,7,0,31,63,0,0,0,512,1536,3584,0,15872,32256,0,130560,261632,0,0,0,2097152,6291456,14680064,0,65011712,132120576,0,534773760,1071644672,2146959360,4294967040,8589934591,17179869183] (by kernel_rfl)) ?_;refine eh a6 rfl ?_;refine lD a6 rfl ?_;refine lE a6 ae rfl rfl rfl ?_;refine jR a6 ae rfl rfl rfl (hX.q.k0) ?_;refine eh a6 rfl ?_;refine Bo a6 ae rfl rfl rfl rfl rfl (vZ) (by rw[Int.toNat_natCast];exact Hg i pi cL) (by omega) (by omega) fun _=> ?_;refine eh a6 rfl ?_;refine eh a6 rfl ?_
       refine eh a6 rfl ?_;refine lD a6 rfl ?_;refine lE a6 ae rfl rfl rfl ?_;refine jR a6 ae rfl rfl rfl (hX.q.k0) ?_;refine eh a6 rfl ?_;refine Bo a6 ae rfl rfl rfl rfl rfl (vZ) (by rw[Int.toNat_natCast];exact Hg i pi cL) (by omega) (by omega) fun _=> ?_;refine eh a6 rfl ?_;refine Bp a6 ae rfl rfl rfl rfl (yH yJ (hX.q.wk (G:=G.on _) cL)) rfl (by decide) (by rw[Int.toNat_natCast];exact QK) (by omega) (by omega) fun _=> ?_;refine eh a6 rfl ?_;refine GY a6 ae rfl rfl rfl (((ahF.le hX.le).kx hX.q.mem).at) ?_;refine eh a6 rfl ?_;refine lD a6 rfl ?_;refine lE a6 ae rfl rfl rfl ?_;refine jR a6 ae rfl rfl rfl (hX.q.k0) ?_;refine eh a6 rfl ?_;refine Bo a6 ae rfl rfl rfl rfl rfl (vZ) (by rw[Int.toNat_natCast];exact Hg r pr cN) (by omega) (by omega) fun _=> ?_;refine eh a6 rfl ?_;refine Bp a6 ae rfl rfl rfl rfl (yH QI (hX.q.wk (G:=G.on _) cN)) rfl (by decide) (by rw[Int.toNat_natCast];exact Hi) (by omega) (by omega) fun _=> ?_;refine Bq rfl rfl (Qo hX.q.mem hX.q.st (show fh _ (M1 i c) by rw[wu];exact⟨oM,d11,rfl,j1,j2,j3,j4,rfl⟩) ahK) (fun v H9 nC=>by obtain⟨k1,_,_,_,_,_,k2,_⟩:=nC;exact hX.q.fy k1 k2) ?_;rintro Yy pH ⟨wv,ala,o14,q14,rfl,ahL,Yz,K9⟩;have a6:=hX.q.fy wv Yz;refine Bq rfl rfl (Qr hX.q.mem Yz ahJ ahL) (fun v H9 nC=>by obtain⟨k1,_,_,_,_,_,k2,_⟩:=nC;exact hX.q.fy (wv.trans k1) k2) ?_
       rintro QL lf ⟨QM,alb,o15,q15,rfl,YA,YB,Hj⟩;obtain⟨n15,d15,rfl,_⟩:=id YA;have a6:=hX.q.fy (wv.trans QM) YB;have QN:=((wv.trans QM).same _ (GG.kz (GG.gm (G:=G.on _) cL)) (hX.q.wk (G:=G.on _) cL)).trans yJ;have Hk:=hX.set h.gt cL (wv.trans QM) YB yJ (by rw[oK];exact tu) eX YA;rw[oK,K5]at Hk;obtain⟨ti,aj,ak⟩:=dT;refine K2 a6 ae rfl rfl rfl (by omega) (by omega) (QN) rfl (by show k*2≤K8.length;omega) aj ak (fun _=>rfl) rfl rfl rfl fun _=> ?_;refine aq ?_;refine ag [0,1,2,7,9,10,100,101,131,132,133] rfl ?_;refine av rfl ?_;refine aD rfl rfl ⟨by omega,by omega⟩ ?_;refine vr 1 ?_;refine aq ?_;exact⟨t+1,bQ f2 kk q15,o15,by omega,an,Hk,Ym Du dJ bM fun h9=>⟨(K9 (Hj h9).1).1,by rw[(Hj h9).2,(K9 (Hj h9).1).2]⟩,by omega⟩
      ·
       have oN:(ea (M r) k).length≤t:=by simpa using hb
       obtain rfl:t=(ea (M r) k).length:=by omega
       refine aU ?_;refine ag [0,1,2,7,100,101] rfl ?_;refine av rfl ?_;refine aD rfl rfl ⟨by omega,by omega⟩ ?_;refine vr 1 ?_;refine aq ?_;exact⟨i+1,ic M1 i f2,o4,by omega,an,hX.down (hV.le.trans iX),Yn hQ hc eK h1 Du,by omega⟩
   ·
    have tt:R≤i:=by simpa using hb
    obtain rfl:i=R:=by omega
    obtain⟨hD,Dv⟩:=hV.drop h.gt
    obtain⟨gb,cb,sz,kU,cY,bD⟩:∃gb cb sz,G.bb = [gb]∧G.bv = .slice (some ⟨gb,0,none⟩) m cb∧im gb=some ⟨ee B m,sz,3,true⟩:=by
     rcases hD.cT.basis with h7 | h7
     ·have:=h7.1;omega
     ·exact h7
    have hm:gb∈G.gs:=GG.kz (GG.lZ (by rw[kU];exact List.mem_singleton.2 rfl));have ahM:g≠gb:=GG.tq hD.cT.nd hD.gt (GG.lZ (by rw[kU];exact List.mem_singleton.2 rfl));refine aU ?_;refine ag [0,1,2] rfl ?_;refine av rfl ?_;refine vr 2 ?_;refine aS ae rfl rfl rfl ?_;refine aN ae rfl rfl rfl (show cell im _=some (.slice (some ⟨gb,0,none⟩) m cb)from by rw[←cY];exact hD.l8) ?_;refine vr 2 ?_;obtain⟨ti,aj,ak⟩:=qP;refine cM (.inl rfl) ae rfl rfl rfl (by omega) (by omega) (bD) rfl (by show 0+m*1≤(ee B m).length;rw[z7];omega) aj ak (fun _=>rfl) rfl rfl rfl fun _=> ?_;refine aq ?_;refine⟨.inl rfl,_,.nil,?_⟩
    have he:({(⟨ee B m,sz,3,true⟩:Ent)with xs:=aI (ee B m) (0+((r:Int)).toNat*1) [.int .i64 (c:Int)]}:Ent)=⟨ee (fun i=>if i=r then c else B i) m,sz,3,true⟩:=by
     rw[Int.toNat_natCast,Nat.mul_one,Nat.zero_add,←Og];rfl
    rw[he];refine⟨M1,o3,⟨hD.cT.CH kU cY,hD.gt,by rw[a7 _ _ ahM];exact hD.st⟩,fun h9=>⟨(hQ.2 h9).1,fun i hi j hj=>(hQ.2 h9).2 i hi j hj (.inr hi)⟩,?_⟩;rw[cC _ hm];exact jr.trans Dv
end Go.ar
namespace Go.ar
open Go.Proofs Num Lp
def mb(M:Nat→Nat→Rat)(B:Nat→Nat)(n c k r:Nat)(q:Rat):Prop:=q=M r n/M r c∧∀i,i<k→0<M i c→q<M i n/M i c∨(q=M i n/M i c∧B r≤B i)
section
variable {M:Nat→Nat→Rat} {B:Nat→Nat} {n c k r:Nat} {q x:Rat}
theorem YC(h:mb M B n c k r q)(hk:M k c≤0):mb M B n c (k+1) r q:=⟨h.1,fun i hi hp=>by
 by_cases e:i=k
 ·subst e;grind
 ·exact h.2 i (by omega) hp⟩
theorem La(h:mb M B n c k r q)(hx:x=M k n/M k c)(hk:q<x∨(x=q∧¬B k<B r)):mb M B n c (k+1) r q:=⟨h.1,fun i hi hp=>by
 by_cases e:i=k
 ·subst e
  rw[←hx]
  rcases hk with hk | ⟨hk,hb⟩
  ·exact .inl hk
  ·exact .inr ⟨hk.symm,by omega⟩
 ·exact h.2 i (by omega) hp⟩
theorem Lb(h:mb M B n c k r q)(hx:x=M k n/M k c)(hk:x<q∨(x=q∧B k<B r)):mb M B n c (k+1) k x:=⟨hx,fun i hi hp=>by
 by_cases e:i=k
 ·subst e;exact .inr ⟨hx,Nat.le_refl _⟩
 ·rcases hk with hk | ⟨hk,hb⟩
  ·rcases h.2 i (by omega) hp with h1 | ⟨h1,_⟩
   ·exact .inl (by grind)
   ·exact .inl (by grind)
  ·rcases h.2 i (by omega) hp with h1 | ⟨h1,h2⟩
   ·exact .inl (by rw[hk];exact h1)
   ·exact .inr ⟨by rw[hk];exact h1,by omega⟩⟩
theorem YD(h:∀i,i<k→M i c≤0)(hx:x=M k n/M k c):mb M B n c (k+1) k x:=⟨hx,fun i hi hp=>by
 by_cases e:i=k
 ·subst e;exact .inr ⟨hx,Nat.le_refl _⟩
 ·have:=h i (by omega);grind⟩
end
theorem YE{n d:Int}(h:1≤d):0<(n:Rat)/(d:Rat)↔0<n:=by
 have h1:=K3 (n:=n) h
 have h2:=tr (n:=n) h
 constructor
 ·intro h3
  rcases Int.lt_trichotomy n 0 with k | k | k
  ·have:=h1.2 k;grind
  ·have:=h2.2 k;grind
  ·exact k
 ·intro h3
  have k1:¬(n:Rat)/(d:Rat)<0:=fun k=>by have:=h1.1 k;omega
  have k2:¬(n:Rat)/(d:Rat)=0:=fun k=>by have:=h2.1 k;omega
  grind
theorem YF{a b c d:Int}(hb:1≤b)(hd:1≤d):((a*d-c*b<0)↔(a:Rat)/(b:Rat)<(c:Rat)/(d:Rat))∧((a*d-c*b=0)↔(a:Rat)/(b:Rat)=(c:Rat)/(d:Rat)):=by
 have h1:=Ye (n:=a) (a:=c) hb hd
 have h2:=KY hb hd
 have h3:=K3 (n:=a*d-c*b) h2
 have h4:=tr (n:=a*d-c*b) h2
 rw[h1]at h3 h4
 exact⟨⟨fun h=>by have:=h3.2 h;grind,fun h=>h3.1 (by grind)⟩,⟨fun h=>by have:=h4.2 h;grind,fun h=>h4.1 (by grind)⟩⟩
theorem ahN{a b c d:Int}(hb:1≤b)(hd:1≤d)(hc:0<c):((a*d:Int):Rat)/((b*c:Int):Rat)=(a:Rat)/(b:Rat)/((c:Rat)/(d:Rat)):=by
 have h1:(c:Rat)≠0:=by exact_mod_cast (show c≠0 by omega)
 rw[Yd,Rat.div_def ((a:Rat)/b),Rat.div_def (c:Rat) d,Rat.inv_mul_rev,Rat.inv_inv,Rat.div_def (d:Rat) c]
structure Hl where
 i:Nat
 z:Int
 a:Int
 b:Int
 o:Bool
def QO(o:Bool)(M:Nat→Nat→Rat)(B:Nat→Nat)(n c:Nat)(y:Hl):Prop:=(y.o=false→o=false)∧((y.z = -1∧∀i,i<y.i→M i c≤0)∨∃(r:Nat)(q:Rat),y.z=(r:Int)∧r<y.i∧0<M r c∧fh [.int .i64 y.a,.int .i64 y.b] q∧(y.o=false→mb M B n c y.i r q))
theorem ahO{o:Bool}{M:Nat→Nat→Rat}{B:Nat→Nat}{n c:Nat}{y:Hl}(h:QO o M B n c y)(hk:M y.i c≤0):QO o M B n c ⟨y.i+1,y.z,y.a,y.b,y.o⟩:=by
 refine⟨h.1,?_⟩
 rcases h.2 with ⟨h1,h2⟩ | ⟨r,q,h1,h2,h3,h4,h5⟩
 ·refine .inl ⟨h1,fun i hi=> ?_⟩
  by_cases e:i=y.i
  ·rw[e];exact hk
  ·exact h2 i (by have:i<y.i+1:=hi;omega)
 ·exact .inr ⟨r,q,h1,Nat.lt_succ_of_lt h2,h3,h4,fun h9=>YC (h5 h9) hk⟩
def LvP(o o':Bool)(M:Nat→Nat→Rat)(B:Nat→Nat)(n c m:Nat)(z:Int):Prop:=(o'=false→o=false)∧((z = -1∧∀i,i<m→M i c≤0)∨∃r:Nat,z=(r:Int)∧r<m∧0<M r c∧(o'=false→∃q,mb M B n c m r q))
theorem ahP{o:Bool}{H:Heap}{g:Nat}{G:GG}{R W m:Nat}{M:Nat→Nat→Rat}{B:Nat→Nat}{c:Nat}(h:QV o H g G R W m M B)(QP:m≤R)(hc:c<W)(hR:(R:Int)≤1000000)(hW:(W:Int)≤1000000):
 Fn Tryz.prog 190 #[.pointer (some ⟨g,0,none⟩),.int .i64 (c:Int)] H (fun v H'=>∃z o',v = .int .i64 z∧fE G.gs g H H'∧H' g=some ⟨[.slice G.Ar R G.cr,G.bv,.bool o'],3,160,true⟩∧LvP o o' M B (W-1) c m z):=by
 obtain⟨Ab,cb,cY,ga⟩:∃Ab cb,G.bv = .slice Ab m cb∧∀o' H',QV o' H' g G R W m M B→∀i,i<m→Rd H' Ab (ee B m):=by
  rcases h.cT.basis with ⟨h1,h2,h3⟩ | ⟨gb,cb,sz,h1,h2,h3⟩
  ·exact⟨none,0,by rw[h3,h1],fun _ _ _ i hi=>by omega⟩
  ·
   refine⟨_,cb,h2,fun o' H' h' i hi=> ?_⟩
   rcases h'.cT.basis with ⟨k1,k2,k3⟩ | ⟨Bu,Lc,pT,k1,k2,k3⟩
   ·omega
   ·rw[h1]at k1;cases k1;exact dF k3
 refine aZ (args:=[_,_]) Tryz.func190 rfl rfl Tryz.ntmps190 rfl rfl fun w0=> ?_;refine ag [0,1] rfl ?_;refine ab ?_;refine vr 1 ?_;refine aa [0,1] ?_;refine ab ?_;refine dS ae rfl fB rfl rfl ?_;refine bt fB rfl ?_;refine vr 1 ?_;obtain⟨ti,aj,ak⟩:=dT;refine aJ (.inl ⟨rfl,rfl⟩) rfl rfl rfl aj ak rfl rfl rfl ?_;refine aa [0,1,5,6] ?_;refine al ?_;refine ab ?_;refine vr 2 ?_;refine aS ae rfl rfl rfl ?_;refine aN ae rfl rfl rfl (show cell H _=some (.slice Ab m cb)from by rw[←cY];exact h.l8) ?_;refine vr 2 ?_;refine aa [0,1,5,6,17,18] ?_;refine aC ?_;refine fZ (fun(y:Hl)=>m-y.i) (fun(y:Hl)=>put (put (put (put (put (put (emp) 0 (.val (.pointer (some ⟨g,0,none⟩)))) 1 (.val (.int .i64 (c:Int)))) 5 (.val (.int .i64 y.z))) 6 (.box [.int .i64 y.a,.int .i64 y.b])) 17 (.val (.int .i64 (m:Int)))) 18 (.val (.int .i64 (y.i:Int)))) (fun(y:Hl) H'=>fE G.gs g H H'∧H' g=some ⟨[.slice G.Ar R G.cr,G.bv,.bool y.o],3,160,true⟩∧y.i≤m∧QO o M B (W-1) c y) ⟨0,-1,0,0,o⟩ (⟨(Kept.refl _ _).il _,h.st,Nat.zero_le _,fun h9=>h9,.inl ⟨rfl,fun i hi=>absurd hi (Nat.not_lt_zero _)⟩⟩) an ?_;rintro y H2 ⟨eS,Bv,hym,hI⟩;have bN:=h.tB eS Bv;obtain⟨xs2,fA,Ld,eE⟩:=bN.rk;refine ab ?_;refine vr 1 ?_;refine aa [0,1,5,6,17,18,19] ?_
 refine al ?_;refine aB rfl (fun hb=> ?_) (fun hb=> ?_)
 ·
  have aQ:y.i<m:=by simpa using hb
  obtain⟨pi,cL⟩:=h.cT.get (show y.i<R by omega);obtain⟨xi,si,rN,wx⟩:=bN.row cL;obtain⟨n1,d1,iL,iS,i1,i2,i3,i4,tU⟩:=ma wx hc;obtain⟨n2,d2,iM,lS,j1,j2,j3,j4,dN⟩:=ma wx (show W-1<W by omega);refine au ?_;refine ag [0,1,5,6,17,18] rfl ?_;refine al ?_;refine aC ?_;refine ab ?_;refine vr 2 ?_;refine aa [0,1,5,6,7,17,18] ?_;refine al ?_;refine ab ?_;refine vr 2 ?_;refine aS ae rfl rfl rfl ?_;refine aN ae rfl rfl rfl (bN.iF) ?_;refine vr 1 ?_;refine aM ae rfl rfl rfl rfl rfl (Ld) (by rw[Int.toNat_natCast];exact eE y.i pi cL) (by omega) (by omega) fun _=> ?_;refine vr 1 ?_;refine oH ae rfl rfl rfl rfl rfl rfl rfl (dF rN) (by rw[Int.toNat_natCast];exact iS 0 _ rfl) (by omega) (by omega) fun _ _=> ?_;refine vr 1 ?_;refine aa [0,1,5,6,7,17,18,32] ?_;refine aB rfl (fun hb=> ?_) (fun hb=> ?_)
  ·
   have hb:n1≤0:=by simpa using hb
   refine aU ?_;refine ag [0,1,5,6,17,18] rfl ?_;refine av rfl ?_;refine aD rfl rfl ⟨by omega,by omega⟩ ?_;refine vr 1 ?_;refine aq ?_;exact⟨⟨y.i+1,y.z,y.a,y.b,y.o⟩,(show m-(y.i+1)<m-y.i by omega),an,eS,Bv,(show y.i+1≤m by omega),ahO hI (by rw[tU];have:=(YE (n:=n1) i3).1;grind)⟩
  ·
   have hb:0<n1:=by simpa using hb
   have fq:0<M y.i c:=by rw[tU];exact(YE i3).2 hb
   have m1:=wi (a:=n2) (b:=d1) j1 j2 (by omega) i4;have m2:=wi (a:=d2) (b:=n1) (by omega) j4 (by omega) i2;have m3:=KY (a:=d2) (b:=n1) j3 (by omega);refine au ?_;refine ag [0,1,5,6,7,17,18] rfl ?_;refine bJ (.pM [8,9]) [0,1,2,3,4,5,6,7,8,9,10,11,12,13,14,15,16,17,18,19,20,21,22,23,24,25,26,27,28,29,30,31] follows (ib [0,1,3,7,0,31,63,0,128,384,896,0,3968,8064,16256,32640,65535,131071,0,262144,786432,1835008,0,8126464,16515072,0,66846720,133955584,0,0,805568511,2147483647] (by kernel_rfl)) ?_;refine vr 2 ?_;refine aS ae rfl rfl rfl ?_;refine aN ae rfl rfl rfl (bN.iF) ?_;refine vr 1 ?_;refine aM ae rfl rfl rfl rfl rfl (Ld) (by rw[Int.toNat_natCast];exact eE y.i pi cL) (by omega) (by omega) fun _=> ?_;refine vr 2 ?_;refine aS ae rfl rfl rfl ?_;refine aN ae rfl rfl rfl (bN.iF) ?_;refine vr 1 ?_;refine aM ae rfl rfl rfl rfl rfl (Ld) (by rw[Int.toNat_natCast];exact eE y.i pi cL) (by omega) (by omega) fun _=> ?_;refine vr 1 ?_;refine cP rfl rfl ⟨by omega,by omega⟩ ?_;refine bR (vs:=[.int .i64 n2,.int .i64 d2]) ae rfl rfl rfl rfl (dF rN) rfl (by decide) (by rw[show ((W:Int)-1).toNat=W-1 by omega];exact lS) (by omega) (by omega) fun _=> ?_;refine vr 2 ?_;refine aS ae rfl rfl rfl ?_
   refine aN ae rfl rfl rfl (bN.iF) ?_;refine vr 1 ?_;refine aM ae rfl rfl rfl rfl rfl (Ld) (by rw[Int.toNat_natCast];exact eE y.i pi cL) (by omega) (by omega) fun _=> ?_;refine vr 1 ?_;refine bR (vs:=[.int .i64 n1,.int .i64 d1]) ae rfl rfl rfl rfl (dF rN) rfl (by decide) (by rw[Int.toNat_natCast];exact iS) (by omega) (by omega) fun _=> ?_;refine bt fB rfl ?_;refine bt fB rfl ?_;obtain⟨ti,aj,ak⟩:=dT;refine aJ (.inl ⟨rfl,rfl⟩) rfl rfl rfl aj ak rfl rfl rfl ?_;obtain⟨ti,aj,ak⟩:=dT;refine aJ (.inl ⟨rfl,rfl⟩) rfl rfl rfl aj ak rfl rfl rfl ?_;refine aa [0,1,5,6,7,8,9,17,18] ?_;refine ab ?_;refine vr 5 ?_;refine gq rfl rfl ⟨by omega,by omega⟩ ?_;refine vr 4 ?_;refine gq rfl rfl ⟨by omega,by omega⟩ ?_;refine aw rfl rfl (Qn bN.mem Bv (n:=n2*d1) (d:=d2*n1) (by omega) (by omega) m3 (by omega)) ?_;rintro v8 H8 ⟨qv,QD,o8,xq,rfl,Le,oL,eL⟩;obtain⟨xn,xd,rfl,x1,x2,x3,x4,YG⟩:=id Le;refine bt fB rfl ?_;obtain⟨ti,aj,ak⟩:=dT;refine aJ (.inl ⟨rfl,rfl⟩) rfl rfl rfl aj ak rfl rfl rfl ?_;refine aa [0,1,5,6,7,10,17,18] ?_;have Dw:=eS.trans qv
   have jE:o8=false→xq=M y.i (W-1)/M y.i c:=fun h9=>by rw[(eL h9).2,ahN j3 i3 hb,←tU,←dN]
   have yK:=h.tB Dw oL;refine ab ?_;refine vr 1 ?_;refine aa [0,1,5,6,7,10,11,17,18] ?_;refine kC (fun(s:Int)=>put (put (put (put (put (put (put (put (put (emp) 0 (.val (.pointer (some ⟨g,0,none⟩)))) 1 (.val (.int .i64 (c:Int)))) 5 (.val (.int .i64 y.z))) 6 (.box [.int .i64 y.a,.int .i64 y.b])) 7 (.val (.int .i64 (y.i:Int)))) 10 (.box [.int .i64 xn,.int .i64 xd])) 11 (.val (.int .i64 s))) 17 (.val (.int .i64 (m:Int)))) 18 (.val (.int .i64 (y.i:Int)))) (fun(s:Int) H'=>H'=H8∧((y.z = -1∧s = -1∧∀i,i<y.i→M i c≤0)∨∃(r:Nat)(q:Rat),y.z=(r:Int)∧r<y.i∧0<M r c∧fh [.int .i64 y.a,.int .i64 y.b] q∧(y.o=false→mb M B (W-1) c y.i r q)∧(s<0↔xq<q)∧(s=0↔xq=q))) ?_ ?_
   ·
    refine ab ?_;refine vr 2 ?_;refine aa [0,1,5,6,7,10,11,17,18,74] ?_;refine aB rfl (fun hb=> ?_) (fun hb=> ?_)
    ·
     have hb:0≤y.z:=by simpa using hb
     obtain⟨r,q,ez,wy,cN,gp,hL⟩:∃(r:Nat)(q:Rat),y.z=(r:Int)∧r<y.i∧0<M r c∧fh [.int .i64 y.a,.int .i64 y.b] q∧(y.o=false→mb M B (W-1) c y.i r q):=by
      rcases hI.2 with ⟨ez,_⟩ | h9
      ·omega
      ·exact h9
     obtain⟨a9,b9,e9,y1,y2,y3,y4,J7⟩:=id gp
     simp only[List.cons.injEq,Value.int.injEq,true_and,and_true]at e9
     obtain⟨rfl,rfl⟩:=e9;have m4:=wi (a:=xn) (b:=y.b) x1 x2 (by omega) y4;have m5:=wi (a:=y.a) (b:=xd) y1 y2 (by omega) x4;refine av rfl ?_;refine vr 4 ?_;refine gq rfl rfl ⟨by omega,by omega⟩ ?_;refine vr 4 ?_;refine gq rfl rfl ⟨by omega,by omega⟩ ?_;refine cP rfl rfl ⟨by omega,by omega⟩ ?_;refine vr 1 ?_;refine aq ?_;exact⟨_,an,rfl,.inr ⟨r,q,ez,wy,cN,gp,hL,by rw[YG,J7];exact(YF x3 y3).1,by rw[YG,J7];exact(YF x3 y3).2⟩⟩
    ·
     have hb:y.z<0:=by simpa using hb
     refine au ?_
     skip
     rcases hI.2 with ⟨ez,ix⟩ | ⟨r,q,ez,_⟩
     ·exact⟨_,an,rfl,.inl ⟨ez,rfl,ix⟩⟩
     ·omega
   ·
    rintro s H9 ⟨e9,hs⟩;rw[e9];clear e9 H9;obtain⟨ez,es,ix⟩ | ⟨r,q,ez,wy,cN,gp,hL,iB,Bw⟩:=hs
    ·
     skip
     refine bJ .bF [0,1,2,3,4,5,6,7,8,9,10,11,12,13,14,15,16,17,18,19,20,21,22] follows (ib [0,1,3,7,15,31,63,127,255,511,63,2047,4095,63,8255,24639,57407,63,254015,516159,1048575,2097151,4194303] (by kernel_rfl)) ?_;refine vr 1 ?_;refine aA true rfl rfl (iz (by omega)) ?_;refine vr 21 ?_;refine aa [0,1,5,6,7,10,17,18,108] ?_;refine cD rfl ?_;refine dZ .bF [0,1,2,3] follows (by kernel_rfl) ?_;refine vr 3 ?_;obtain⟨ti,aj,ak⟩:=dT;refine aJ (.inl ⟨rfl,rfl⟩) rfl rfl rfl aj ak rfl rfl rfl ?_;refine aq ?_;refine ag [0,1,5,6,17,18] rfl ?_;refine av rfl ?_;refine aD rfl rfl ⟨by omega,by omega⟩ ?_;refine vr 1 ?_;refine aq ?_;exact⟨⟨y.i+1,y.i,xn,xd,o8⟩,(show m-(y.i+1)<m-y.i by omega),an,Dw,oL,(show y.i+1≤m by omega),fun h9=>hI.1 (eL h9).1,.inr ⟨y.i,xq,rfl,Nat.lt_succ_self _,fq,Le,fun h9=>YD ix (jE h9)⟩⟩
    ·
     skip
     by_cases g1:s<0
     ·
      skip
      refine bJ .bF [0,1,2,3,4,5,6,7,8,9,10,11,12,13,14,15,16,17,18,19,20,21,22] follows (ib [0,1,3,7,15,31,63,127,255,511,63,2047,4095,63,8255,24639,57407,63,254015,516159,1048575,2097151,4194303] (by kernel_rfl)) ?_;refine vr 1 ?_;refine aA true rfl rfl (iz g1) ?_;refine vr 21 ?_;refine aa [0,1,5,6,7,10,17,18,108] ?_;refine cD rfl ?_;refine dZ .bF [0,1,2,3] follows (by kernel_rfl) ?_;refine vr 3 ?_;obtain⟨ti,aj,ak⟩:=dT;refine aJ (.inl ⟨rfl,rfl⟩) rfl rfl rfl aj ak rfl rfl rfl ?_;refine aq ?_;refine ag [0,1,5,6,17,18] rfl ?_;refine av rfl ?_;refine aD rfl rfl ⟨by omega,by omega⟩ ?_;refine vr 1 ?_;refine aq ?_;exact⟨⟨y.i+1,y.i,xn,xd,o8⟩,(show m-(y.i+1)<m-y.i by omega),an,Dw,oL,(show y.i+1≤m by omega),fun h9=>hI.1 (eL h9).1,.inr ⟨y.i,xq,rfl,Nat.lt_succ_self _,fq,Le,fun h9=>Lb (hL (eL h9).1) (jE h9) (.inl (iB.1 g1))⟩⟩
     ·
      skip
      by_cases g2:s=0
      ·
       skip
       by_cases g3:B y.i<B r
       ·
        skip
        refine bJ .bF [0,1,2,3,4,5,6,7,8,9,10,11,12,13,14,15,16,17,18,19,20,21,22] follows (ib [0,1,3,7,15,31,63,127,255,511,63,2047,4095,63,8255,24639,57407,63,254015,516159,1048575,2097151,4194303] (by kernel_rfl)) ?_;refine vr 1 ?_;refine aA false rfl rfl (fQ (by omega)) ?_;refine vr 2 ?_;refine aA true rfl rfl (fk g2) ?_;refine vr 3 ?_;refine aS ae rfl rfl rfl ?_;refine aN ae rfl rfl rfl (show cell H8 _=some (.slice Ab m cb)from by rw[←cY];exact yK.l8) ?_;refine vr 1 ?_;refine aM ae rfl rfl rfl rfl rfl (ga _ _ yK y.i aQ) (by rw[Int.toNat_natCast];exact gj aQ) (by omega) (by omega) fun _=> ?_;refine vr 2 ?_;refine aS ae rfl rfl rfl ?_;refine aN ae rfl rfl rfl (show cell H8 _=some (.slice Ab m cb)from by rw[←cY];exact yK.l8) ?_;refine vr 1 ?_;refine aM ae rfl rfl rfl rfl rfl (ga _ _ yK y.i aQ) (by rw[ez,Int.toNat_natCast];exact gj (by omega)) (by omega) (by omega) fun _=> ?_;refine aA true rfl rfl (iz (by omega)) ?_;refine vr 2 ?_;refine aa [0,1,5,6,7,10,17,18,108] ?_;refine cD rfl ?_;refine dZ .bF [0,1,2,3] follows (by kernel_rfl) ?_;refine vr 3 ?_;obtain⟨ti,aj,ak⟩:=dT;refine aJ (.inl ⟨rfl,rfl⟩) rfl rfl rfl aj ak rfl rfl rfl ?_
        refine aq ?_;refine ag [0,1,5,6,17,18] rfl ?_;refine av rfl ?_;refine aD rfl rfl ⟨by omega,by omega⟩ ?_;refine vr 1 ?_;refine aq ?_;exact⟨⟨y.i+1,y.i,xn,xd,o8⟩,(show m-(y.i+1)<m-y.i by omega),an,Dw,oL,(show y.i+1≤m by omega),fun h9=>hI.1 (eL h9).1,.inr ⟨y.i,xq,rfl,Nat.lt_succ_self _,fq,Le,fun h9=>Lb (hL (eL h9).1) (jE h9) (.inr ⟨Bw.1 g2,g3⟩)⟩⟩
       ·
        skip
        refine bJ .bF [0,1,2,3,4,5,6,7,8,9,10,11,12,13,14,15,16,17,18,19,20,21,22] follows (ib [0,1,3,7,15,31,63,127,255,511,63,2047,4095,63,8255,24639,57407,63,254015,516159,1048575,2097151,4194303] (by kernel_rfl)) ?_;refine vr 1 ?_;refine aA false rfl rfl (fQ (by omega)) ?_;refine vr 2 ?_;refine aA true rfl rfl (fk g2) ?_;refine vr 3 ?_;refine aS ae rfl rfl rfl ?_;refine aN ae rfl rfl rfl (show cell H8 _=some (.slice Ab m cb)from by rw[←cY];exact yK.l8) ?_;refine vr 1 ?_;refine aM ae rfl rfl rfl rfl rfl (ga _ _ yK y.i aQ) (by rw[Int.toNat_natCast];exact gj aQ) (by omega) (by omega) fun _=> ?_;refine vr 2 ?_;refine aS ae rfl rfl rfl ?_;refine aN ae rfl rfl rfl (show cell H8 _=some (.slice Ab m cb)from by rw[←cY];exact yK.l8) ?_;refine vr 1 ?_;refine aM ae rfl rfl rfl rfl rfl (ga _ _ yK y.i aQ) (by rw[ez,Int.toNat_natCast];exact gj (by omega)) (by omega) (by omega) fun _=> ?_;refine aA false rfl rfl (fQ (by omega)) ?_;refine vr 2 ?_;refine aa [0,1,5,6,7,10,17,18,108] ?_;refine cU rfl ?_;refine au ?_;refine ag [0,1,5,6,17,18] rfl ?_;refine av rfl ?_;refine aD rfl rfl ⟨by omega,by omega⟩ ?_;refine vr 1 ?_;refine aq ?_;exact⟨⟨y.i+1,y.z,y.a,y.b,o8⟩,(show m-(y.i+1)<m-y.i by omega),an,Dw,oL,(show y.i+1≤m by omega),fun h9=>hI.1 (eL h9).1,.inr ⟨r,q,ez,Nat.lt_succ_of_lt wy,cN,gp,fun h9=>La (hL (eL h9).1) (jE h9) (.inr ⟨Bw.1 g2,g3⟩)⟩⟩
      ·
       skip
       refine bJ .bF [0,1,2,3,4,5,6,7,8,9,10,11,12,13,14,15,16,17,18,19,20,21,22] follows (ib [0,1,3,7,15,31,63,127,255,511,63,2047,4095,63,8255,24639,57407,63,254015,516159,1048575,2097151,4194303] (by kernel_rfl)) ?_;refine vr 1 ?_;refine aA false rfl rfl (fQ (by omega)) ?_;refine vr 2 ?_;refine aA false rfl rfl (gI g2) ?_;refine vr 18 ?_;refine aa [0,1,5,6,7,10,17,18,108] ?_;refine cU rfl ?_;refine au ?_;refine ag [0,1,5,6,17,18] rfl ?_;refine av rfl ?_;refine aD rfl rfl ⟨by omega,by omega⟩ ?_;refine vr 1 ?_;refine aq ?_;exact⟨⟨y.i+1,y.z,y.a,y.b,o8⟩,(show m-(y.i+1)<m-y.i by omega),an,Dw,oL,(show y.i+1≤m by omega),fun h9=>hI.1 (eL h9).1,.inr ⟨r,q,ez,Nat.lt_succ_of_lt wy,cN,gp,fun h9=>La (hL (eL h9).1) (jE h9) (.inl (by have k1:¬xq<q:=fun k=>g1 (iB.2 k);have k2:¬xq=q:=fun k=>g2 (Bw.2 k);grind))⟩⟩
 ·
  have aQ:m≤y.i:=by simpa using hb
  have aQ:y.i=m:=by omega
  refine aU ?_;refine ag [5] rfl ?_;refine ab ?_;refine vr 2 ?_;refine aa [4] ?_;refine az ⟨.inr rfl,_,.tmp rfl (.nil),?_⟩;refine⟨y.z,y.o,rfl,eS,Bv,hI.1,?_⟩;have h2:=hI.2;rw[aQ]at h2
  rcases h2 with h9 | ⟨r,q,k1,k2,k3,_,k5⟩
  ·exact .inl h9
  ·exact .inr ⟨r,k1,k2,k3,fun h9=>⟨q,k5 h9⟩⟩
end Go.ar
namespace Go.ar
open Go.Proofs Num Lp
structure gF(M:Nat→Nat→Rat)(B:Nat→Nat)(T:ao)(m W:Nat):Prop where
 em:T.m=m
 en:T.n+1=W
 eA:∀i,i<m→∀j,j<W→M i j=T.A i j
 ec:∀j,j<W→M m j=T.c j
 eB:∀i,i<m→B i=T.B i
section
variable {M M':Nat→Nat→Rat} {B:Nat→Nat} {T:ao} {m W u r s:Nat} {q:Rat}
theorem gF.E0(h:gF M B T m W)(hu:u<W)(hs:s<u)(fI:M m s<0)(hf:∀j,j<s→0≤M m j)(hr:r<m)(hp:0<M r s)(hl:mb M B (W-1) s m r q):T.ot u r s:=by
 have en:W-1=T.n:=by have:=h.en;omega
 have hn:=h.en
 refine⟨hs,by rw[←h.ec s (by omega)];exact fI,fun j hj=>by rw[←h.ec j (by omega)];exact hf j hj,by rw[h.em];exact hr,by rw[←h.eA r hr s (by omega)];exact hp,fun i hi cL=> ?_⟩
 rw[h.em]at hi
 have h1:=hl.2 i hi (by rw[h.eA i hi s (by omega)];exact cL)
 rw[hl.1,en,h.eA i hi _ (by omega),h.eA i hi _ (by omega),h.eA r hr _ (by omega),h.eA r hr _ (by omega),h.eB r hr,h.eB i hi]at h1
 exact h1
theorem gF.pivot(h:gF M B T m W)(hr:r<m)(hs:s<W)(hM:∀i,i<m+1→∀j,j<W→M' i j=lJ M r s i j):gF M' (fun i=>if i=r then s else B i) (T.pivot r s) m W:=by
 refine⟨h.em,h.en,fun i hi j hj=> ?_,fun j hj=> ?_,fun i hi=> ?_⟩
 ·rw[hM i (by omega) j hj]
  show _=if i=r then T.A r j/T.A r s else T.A i j-T.A i s*(T.A r j/T.A r s)
  unfold lJ
  rw[h.eA r hr j hj,h.eA r hr s hs,h.eA i hi j hj,h.eA i hi s hs]
 ·rw[hM m (by omega) j hj]
  show _=T.c j-T.c s*(T.A r j/T.A r s)
  unfold lJ
  rw[if_neg (by omega),h.eA r hr j hj,h.eA r hr s hs,h.ec j hj,h.ec s hs]
 ·show _=if i=r then s else T.B i
  by_cases e:i=r
  ·rw[if_pos e,if_pos e]
  ·rw[if_neg e,if_neg e];exact h.eB i hi
end
def QQ(u:Nat)(a b:Option ao):Prop:=∃T,b=some T∧(a=none∨∃S,a=some S∧ao.Step u S T)
theorem ahQ{u:Nat}{T:ao}(h:Acc (ao.Step u) T):Acc (QQ u) (some T):=by
 induction h with
 | intro T _ ih=>
  refine⟨_,fun a ⟨T',e,ha⟩=> ?_⟩
  cases e
  rcases ha with rfl | ⟨S,rfl,hs⟩
  ·exact⟨_,fun b ⟨T'',e,_⟩=>by cases e⟩
  ·exact ih S hs
theorem ahR{u:Nat}:Acc (QQ u) none:=⟨_,fun b ⟨T'',e,_⟩=>by cases e⟩
def Lf(o o1:Bool)(Φ:ao→Prop)(M:Nat→Nat→Rat)(B:Nat→Nat)(m W:Nat):Option ao→Prop
 | none=>o1=true
 | some T=>o1=false∧o=false∧Φ T∧gF M B T m W
def ahS(o o1:Bool)(Φ:ao→Prop)(M:Nat→Nat→Rat)(B:Nat→Nat)(m W u:Nat)(b:Bool):Prop:=o1=false→o=false∧∃T,Φ T∧gF M B T m W∧(b=true→∀j,j<u→0≤M m j)∧(b=false→∃s,s<u∧M m s<0∧∀i,i<m→M i s≤0)
theorem YH{o:Bool}{H:Heap}{g:Nat}{G:GG}{W m u:Nat}{M:Nat→Nat→Rat}{B:Nat→Nat}{Φ:ao→Prop}{x:Option ao}(h:QV o H g G (m+1) W m M B)(hu:u<W)(hm:(m:Int)≤900000)(hW:(W:Int)≤1000000)(cQ:∀T r s,Φ T→T.ot u r s→Φ (T.pivot r s))(hx:Lf o o Φ M B m W x)(DY:∀T,x=some T→Acc (ao.Step u) T)(hB:∀i,i<m→B i<W):
 Fn Tryz.prog 138 #[.pointer (some ⟨g,0,none⟩),.int .i64 (u:Int)] H (fun v H'=>∃M' B' o' b,v = .bool b∧QV o' H' g G (m+1) W m M' B'∧Heap.le (rem H G.gs) (rem H' G.gs)∧ahS o o' Φ M' B' m W u b∧∀i,i<m→B' i<W):=by
 refine aZ (args:=[_,_]) Tryz.func138 rfl rfl Tryz.ntmps138 rfl rfl fun w0=> ?_;refine ag [0,1] rfl ?_;refine ab ?_;refine vr 1 ?_;refine aa [0,1] ?_;refine al ?_;refine aC ?_;refine Iu (γ:=Option ao) (QQ u) (fun(y:Option ao)=>put (put (emp) 0 (.val (.pointer (some ⟨g,0,none⟩)))) 1 (.val (.int .i64 (u:Int)))) (fun(y:Option ao) H'=>∃M1 B1 o1,QV o1 H' g G (m+1) W m M1 B1∧Heap.le (rem H G.gs) (rem H' G.gs)∧Lf o o1 Φ M1 B1 m W y∧∀i,i<m→B1 i<W) (x) ((by cases x with | none=>exact ahR | some T=>exact ahQ (DY T rfl))) an (⟨M,B,o,h,.refl _,hx,hB⟩) ?_;rintro y H1 ⟨M1,B1,o1,h1,fa,hy,yL⟩;obtain⟨xs1,fW,ahT,eD⟩:=h1.rk;obtain⟨pm,rO⟩:=h1.cT.get (Nat.lt_succ_self m);obtain⟨xm,sm,By,Bz⟩:=h1.row rO;refine al ?_;refine ab ?_;refine vr 2 ?_;refine aS ae rfl rfl rfl ?_;refine aN ae rfl rfl rfl (h1.Qx) ?_;refine vr 1 ?_;refine aa [0,1,13] ?_;refine aB rfl (fun hb=> ?_) (fun hb=> ?_)
 ·
  have hb:o1=false:=by simpa using hb
  subst hb;refine au ?_;refine ag [0,1] rfl ?_;refine aC ?_;refine ab ?_;refine vr 1 ?_;refine aa [0,1,5] ?_;refine bJ .bF [0,1,2,3,4,5,6,7,8,9,10,11,12] follows (by kernel_rfl) ?_;refine vr 2 ?_;refine aS ae rfl rfl rfl ?_;refine aN ae rfl rfl rfl (h1.iF) ?_;refine vr 2 ?_;refine aS ae rfl rfl rfl ?_;refine aN ae rfl rfl rfl (h1.iF) ?_;refine vr 1 ?_;refine cP rfl rfl ⟨by omega,by omega⟩ ?_;refine aM ae rfl rfl rfl rfl rfl (ahT) (by rw[show (((m+1:Nat):Int)-1).toNat=m by omega];exact eD m pm rO) (by omega) (by omega) fun _=> ?_;refine vr 1 ?_;refine aa [0,1,5,6] ?_;refine kC (fun(z:Int)=>put (put (put (emp) 0 (.val (.pointer (some ⟨g,0,none⟩)))) 1 (.val (.int .i64 (u:Int)))) 5 (.val (.int .i64 z))) (fun(z:Int) H'=>H'=H1∧((z = -1∧∀j,j<u→0≤M1 m j)∨∃s:Nat,z=(s:Int)∧s<u∧M1 m s<0∧∀j,j<s→0≤M1 m j)) ?_ ?_
  ·
   refine ab ?_;refine vr 1 ?_;refine aa [0,1,5,6,7] ?_;refine aC ?_;refine gy (fun(k:Nat)(z:Int)=>u-k) (fun(k:Nat)(z:Int)=>put (put (put (put (put (emp) 0 (.val (.pointer (some ⟨g,0,none⟩)))) 1 (.val (.int .i64 (u:Int)))) 5 (.val (.int .i64 z))) 6 (.val (.slice (some ⟨pm.1,0,none⟩) W pm.2))) 7 (.val (.int .i64 (k:Int)))) (fun(k:Nat)(z:Int) H'=>H'=H1∧k≤u∧((z = -1∧∀j,j<k→0≤M1 m j)∨∃s:Nat,z=(s:Int)∧s<u∧M1 m s<0∧∀j,j<s→0≤M1 m j)) 0 (-1) (⟨rfl,Nat.zero_le _,.inl ⟨rfl,fun j hj=>absurd hj (Nat.not_lt_zero _)⟩⟩) an ?_;rintro k z H2 ⟨e2,JQ,hz⟩;rw[e2];clear e2 H2;refine al ?_
   by_cases BA:k<u
   ·
    skip
    by_cases iV:z<0
    ·
     obtain⟨ez,ix⟩:z = -1∧∀j,j<k→0≤M1 m j:=by
      rcases hz with h9 | ⟨s,h9,_⟩
      ·exact h9
      ·omega
     obtain⟨n1,d1,iL,iS,i1,i2,i3,i4,bW⟩:=ma Bz (show k<W by omega);refine ab ?_;refine vr 2 ?_;refine aA true rfl rfl (iz (by omega)) ?_;refine vr 2 ?_;refine aA true rfl rfl (iz iV) ?_;refine vr 1 ?_;refine aa [0,1,5,6,7,32] ?_;refine cD rfl ?_;refine au ?_;refine ag [0,1,5,6,7] rfl ?_;refine al ?_;refine aC ?_;refine ab ?_;refine vr 2 ?_;refine oH ae rfl rfl rfl rfl rfl rfl rfl (dF By) (by rw[Int.toNat_natCast];exact iS 0 _ rfl) (by omega) (by omega) fun _ _=> ?_;refine vr 1 ?_;refine aa [0,1,5,6,7,40] ?_;refine aB rfl (fun hb=> ?_) (fun hb=> ?_)
     ·
      have hb:n1<0:=by simpa using hb
      refine av rfl ?_;refine vr 2 ?_;refine aq ?_;refine ag [0,1,5,6,7] rfl ?_;refine av rfl ?_;refine vr 1 ?_;refine aD rfl rfl ⟨by omega,by omega⟩ ?_;refine vr 1 ?_;refine aq ?_;exact⟨k+1,k,by omega,an,rfl,by omega,.inr ⟨k,rfl,BA,by rw[bW];exact(K3 i3).2 hb,ix⟩⟩
     ·
      have hb:¬n1<0:=by simpa using hb
      refine au ?_;refine ag [0,1,5,6,7] rfl ?_;refine av rfl ?_;refine vr 1 ?_;refine aD rfl rfl ⟨by omega,by omega⟩ ?_;refine vr 1 ?_;refine aq ?_
      exact⟨k+1,_,by omega,an,rfl,by omega,.inl ⟨ez,fun j hj=>by
       by_cases ej:j=k
       ·subst ej;rw[bW];have:=(K3 (n:=n1) i3).1;grind
       ·exact ix j (by omega)⟩⟩
    ·
     skip
     refine ab ?_;refine vr 2 ?_;refine aA true rfl rfl (iz (by omega)) ?_;refine vr 2 ?_;refine aA false rfl rfl (fQ (by omega)) ?_;refine vr 1 ?_;refine aa [0,1,5,6,7,32] ?_;refine cU rfl ?_;refine aU ?_
     rcases hz with ⟨h9,_⟩ | hz
     ·omega
     ·exact⟨_,an,rfl,.inr hz⟩
   ·
    skip
    refine ab ?_;refine vr 2 ?_;refine aA false rfl rfl (fQ (by omega)) ?_;refine vr 4 ?_;refine aa [0,1,5,6,7,32] ?_;refine cU rfl ?_;refine aU ?_
    rcases hz with ⟨h9,h8⟩ | hz
    ·exact⟨_,an,rfl,.inl ⟨h9,fun j hj=>h8 j (by omega)⟩⟩
    ·exact⟨_,an,rfl,.inr hz⟩
  ·
   rintro z H2 ⟨e2,hz⟩;rw[e2];clear e2 H2
   obtain⟨T,rfl,ho,so,iI⟩:∃T,y=some T∧o=false∧Φ T∧gF M1 B1 T m W:=by
    cases y with
    | none=>cases hy
    | some T=>exact⟨T,rfl,hy.2⟩
   refine al ?_;refine ab ?_;refine vr 2 ?_;refine aa [0,1,5,43] ?_;refine aB rfl (fun hb=> ?_) (fun hb=> ?_)
   ·
    have hb:z<0:=by simpa using hb
    obtain⟨_,ix⟩:z = -1∧∀j,j<u→0≤M1 m j:=by
     rcases hz with h9 | ⟨s,h9,_⟩
     ·exact h9
     ·omega
    refine ab ?_;refine vr 1 ?_;refine aa [4] ?_;refine az ⟨.inr rfl,_,.tmp rfl (.nil),?_⟩;exact⟨M1,B1,false,true,rfl,h1,fa,fun _=>⟨ho,T,so,iI,fun _=>ix,(fun h9=>by cases h9)⟩,yL⟩
   ·
    have hb:¬z<0:=by simpa using hb
    obtain⟨s,rfl,Hm,lX,QR⟩:∃s:Nat,z=(s:Int)∧s<u∧M1 m s<0∧∀j,j<s→0≤M1 m j:=by
     rcases hz with ⟨h9,_⟩ | h9
     ·omega
     ·exact h9
    refine au ?_;refine ag [0,1,5] rfl ?_;refine ab ?_;refine vr 2 ?_;refine aw rfl rfl (ahP h1 (by omega) (show s<W by omega) (by omega) hW) ?_;rintro _ H2 ⟨z2,o2,rfl,eS,Bv,Hn⟩;have h2:=h1.tB eS Bv;refine vr 1 ?_;refine aa [0,1,5,8] ?_;refine al ?_;refine ab ?_;refine vr 2 ?_;refine aa [0,1,5,8,48] ?_;refine aB rfl (fun hb=> ?_) (fun hb=> ?_)
    ·
     have hb:z2<0:=by simpa using hb
     have ix:∀i,i<m→M1 i s≤0:=by
      rcases Hn.2 with h9 | ⟨r,h9,_⟩
      ·exact h9.2
      ·omega
     refine ab ?_;refine vr 1 ?_;refine aa [4] ?_;refine az ⟨.inr rfl,_,.tmp rfl (.nil),?_⟩;exact⟨M1,B1,o2,false,rfl,h2,fa.trans eS.le,fun h9=>⟨ho,T,so,iI,(fun h8=>by cases h8),fun _=>⟨s,Hm,lX,ix⟩⟩,yL⟩
    ·
     have hb:¬z2<0:=by simpa using hb
     obtain⟨r,rfl,kt,cN,hL⟩:∃r:Nat,z2=(r:Int)∧r<m∧0<M1 r s∧(o2=false→∃q,mb M1 B1 (W-1) s m r q):=by
      rcases Hn.2 with ⟨h9,_⟩ | h9
      ·omega
      ·exact h9
     refine au ?_;refine ag [0,1,5,8] rfl ?_;refine av rfl ?_;refine vr 3 ?_;refine aw rfl rfl (Yo h2 kt (by omega) (show s<W by omega) (by grind) (by omega) hW) ?_;rintro v3 H3 ⟨M3,o3,h3,N8,gV⟩;refine aq ?_;have hle:=(fa.trans eS.le).trans gV
     have YI:∀i,i<m→(if i=r then s else B1 i)<W:=fun i hi=>by
      split
      ·omega
      ·exact yL i hi
     cases o3 with
     | true=>exact⟨none,⟨T,rfl,.inl rfl⟩,an,M3,_,true,h3,hle,rfl,YI⟩
     | false=>
      obtain⟨h9,hpM⟩:=N8 rfl;obtain⟨q,hq⟩:=hL h9;have ko:=iI.E0 hu Hm lX QR kt cN hq;exact⟨some (T.pivot r s),⟨T,rfl,.inr ⟨_,rfl,r,s,ko,rfl⟩⟩,an,M3,_,false,h3,hle,⟨rfl,ho,cQ _ _ _ so ko,iI.pivot kt (by omega) hpM⟩,YI⟩
 ·
  have hb:o1=true:=by simpa using hb
  subst hb;refine aU ?_;refine ag [] rfl ?_;refine ab ?_;refine vr 1 ?_;refine aa [4] ?_;refine az ⟨.inr rfl,_,.tmp rfl (.nil),?_⟩;exact⟨M1,B1,true,true,rfl,h1,fa,(fun h9=>by cases h9),yL⟩
end Go.ar
namespace Go.ar
open Go.Proofs Num Lp
def Lg(fr:Nat→Bool):Nat→Nat→Nat
 | 0,_=>0
 | k+1,t=>if fr k=true∧t=aT fr k-k then aT fr k+1 else Lg fr k t
section
variable {fr:Nat→Bool}
theorem yM(k:Nat):k≤aT fr k:=by
 induction k with
 | zero=>exact Nat.le_refl _
 | succ k ih=>
  have h1:aT fr (k+1)=aT fr k+1+(if fr k then 1 else 0):=rfl
  omega
theorem Lh{j k:Nat}(h:j≤k):aT fr j+k≤aT fr k+j:=by
 induction k with
 | zero=>obtain rfl:j=0:=by omega
         exact Nat.le_refl _
 | succ k ih=>
  have h1:aT fr (k+1)=aT fr k+1+(if fr k then 1 else 0):=rfl
  by_cases e:j=k+1
  ·subst e;exact Nat.le_refl _
  ·have:=ih (by omega);omega
theorem Li{k:Nat}(h:fr k=true):aT fr (k+1)=aT fr k+2:=by
 show aT fr k+1+(if fr k then 1 else 0)=_
 rw[if_pos h]
theorem ahU{k j:Nat}(hj:j<k)(hf:fr j=true):Lg fr k (aT fr j-j)=aT fr j+1:=by
 induction k with
 | zero=>omega
 | succ k ih=>
  unfold Lg
  by_cases e:j=k
  ·subst e;rw[if_pos ⟨hf,rfl⟩]
  ·rw[if_neg,ih (by omega)]
   intro⟨h1,h2⟩
   have h3:=Lh (fr:=fr) (show j+1≤k by omega)
   have h4:=Li hf
   have h5:=yM (fr:=fr) j
   omega
theorem ahV{k t:Nat}(h:t<aT fr k-k):∃j,j<k∧fr j=true∧t=aT fr j-j:=by
 induction k with
 | zero=>exact absurd h (Nat.not_lt_zero _)
 | succ k ih=>
  by_cases e:fr k=true∧t=aT fr k-k
  ·exact⟨k,by omega,e.1,e.2⟩
  ·have h1:aT fr (k+1)=aT fr k+1+(if fr k then 1 else 0):=rfl
   have h2:=yM (fr:=fr) k
   have h3:t<aT fr k-k:=by
    by_cases hf:fr k=true
    ·rw[if_pos hf]at h1
     have:t≠aT fr k-k:=fun e'=>e ⟨hf,e'⟩
     omega
    ·rw[if_neg hf]at h1;omega
   obtain⟨j,g1,g2,g3⟩:=ih h3
   exact⟨j,by omega,g2,g3⟩
theorem ahW{k y:Nat}(h:y<aT fr k):∃j,j<k∧(y=aT fr j∨(fr j=true∧y=aT fr j+1)):=by
 induction k with
 | zero=>exact absurd h (Nat.not_lt_zero _)
 | succ k ih=>
  by_cases e:y<aT fr k
  ·obtain⟨j,g1,g2⟩:=ih e
   exact⟨j,by omega,g2⟩
  ·have h1:aT fr (k+1)=aT fr k+1+(if fr k then 1 else 0):=rfl
   by_cases hf:fr k=true
   ·rw[if_pos hf]at h1
    by_cases e2:y=aT fr k
    ·exact⟨k,by omega,.inl e2⟩
    ·exact⟨k,by omega,.inr ⟨hf,by omega⟩⟩
   ·rw[if_neg hf]at h1
    exact⟨k,by omega,.inl (by omega)⟩
end
def _root_.Lp.Prg.pi(p:Prg)(x:Nat):Nat:=if x<p.lp.n then aT p.lp.free x else if x<p.c1 then Lg p.lp.free p.lp.n (x-p.lp.n)else x
abbrev _root_.Lp.Prg.mi(p:Prg)(j:Nat):Nat:=p.lp.n+(aT p.lp.free j-j)
section
variable {p:Prg}
theorem wz{x:Nat}(h:x<p.lp.n):p.pi x=aT p.lp.free x:=by unfold Prg.pi;rw[if_pos h]
theorem wA:p.lp.n≤p.c1:=yM _
theorem Lj{j:Nat}:p.lp.n≤p.mi j:=Nat.le_add_right _ _
theorem uU{x:Nat}(h:p.c1≤x):p.pi x=x:=by
 have:=wA (p:=p)
 unfold Prg.pi;rw[if_neg (by omega),if_neg (by omega)]
theorem uV{j:Nat}(h:j<p.lp.n)(hf:p.lp.free j=true):p.mi j<p.c1:=by
 have h1:=Lh (fr:=p.lp.free) (show j+1≤p.lp.n by omega)
 have h2:=Li hf
 have h3:=yM (fr:=p.lp.free) j
 show p.lp.n+(aT p.lp.free j-j)<aT p.lp.free p.lp.n
 omega
theorem yN{j:Nat}(h:j<p.lp.n)(hf:p.lp.free j=true):p.pi (p.mi j)=aT p.lp.free j+1:=by
 have:=uV h hf
 have h2:=Lj (p:=p) (j:=j)
 unfold Prg.pi
 rw[if_neg (by omega),if_pos this,Nat.add_sub_cancel_left]
 exact ahU h hf
theorem Ho{x:Nat}(h1:p.lp.n≤x)(h2:x<p.c1):∃j,j<p.lp.n∧p.lp.free j=true∧x=p.mi j:=by
 obtain⟨j,g1,g2,g3⟩:=ahV (fr:=p.lp.free) (k:=p.lp.n) (t:=x-p.lp.n) (Nat.sub_lt_sub_right h1 h2)
 exact⟨j,g1,g2,by show x=p.lp.n+_;omega⟩
theorem Lk{x:Nat}(h:x<p.c1):p.pi x<p.c1:=by
 by_cases e:x<p.lp.n
 ·rw[wz e];exact F5 p e
 ·obtain⟨j,g1,g2,rfl⟩:=Ho (by omega) h
  rw[yN g1 g2]
  have h1:=Lh (fr:=p.lp.free) (show j+1≤p.lp.n by omega)
  have h2:=Li g2
  show aT p.lp.free j+1<aT p.lp.free p.lp.n
  omega
theorem yO{x:Nat}(h:x<p.u):p.pi x<p.u:=by
 have h1:=l5 p
 by_cases e:x<p.c1
 ·have:=Lk e;omega
 ·rw[uU (by omega)];exact h
theorem QS{x:Nat}(h:p.u≤x):p.pi x=x:=uU (by have:=l5 p;omega)
theorem QT{x:Nat}(h:x<p.w):p.pi x<p.w:=by
 have h1:=fg p
 by_cases e:x<p.u
 ·have:=yO e;omega
 ·rw[QS (by omega)];exact h
theorem BB:p.pi p.w=p.w:=QS (fg p)
theorem Ll{x:Nat}(h:x≤p.w):p.pi x≤p.w:=by
 by_cases e:x=p.w
 ·rw[e,BB];exact Nat.le_refl _
 ·have:=QT (p:=p) (x:=x) (by omega);omega
theorem Lm{y:Nat}(h:y<p.u):∃x,x<p.u∧p.pi x=y:=by
 have h1:=l5 p
 by_cases e:y<p.c1
 ·obtain⟨j,g1,g2⟩:=ahW e
  rcases g2 with rfl | ⟨g2,rfl⟩
  ·have:=wA (p:=p)
   exact⟨j,by omega,wz g1⟩
  ·have:=uV g1 g2
   exact⟨p.mi j,by omega,yN g1 g2⟩
 ·exact⟨y,h,uU (by omega)⟩
def eQ(p:Prg)(a:Nat→Rat)(s:Rat):Nat→Nat→Rat
 | 0=>fun _=>0
 | k+1=>if p.lp.free k then bQ (bQ (eQ p a s k) k (a k*s)) (p.mi k) (-(a k*s))else bQ (eQ p a s k) k (a k*s)
variable {a:Nat→Rat} {s:Rat}
theorem ahX{k x:Nat}(hk:k≤p.lp.n)(hx:x<k):eQ p a s k x=a x*s:=by
 induction k with
 | zero=>omega
 | succ k ih=>
  have key:bQ (eQ p a s k) k (a k*s) x=a x*s:=by
   by_cases e:x=k
   ·rw[e,jt]
   ·rw[dY e,ih (by omega) (by omega)]
  unfold eQ
  split
  ·rw[dY (by show x≠p.lp.n+_;omega),key]
  ·exact key
theorem ahY{k j:Nat}(hk:k≤p.lp.n)(hj:j<k)(hf:p.lp.free j=true):eQ p a s k (p.mi j) = -(a j*s):=by
 induction k with
 | zero=>omega
 | succ k ih=>
  unfold eQ
  by_cases e:j=k
  ·subst e;rw[if_pos hf,jt]
  ·have h3:=Lh (fr:=p.lp.free) (show j+1≤k by omega)
   have h4:=Li hf
   have h5:=yM (fr:=p.lp.free) j
   split
   ·rw[dY (by show p.lp.n+_≠p.lp.n+_;omega),dY (by show p.lp.n+_≠k;omega),ih (by omega) (by omega)]
   ·rw[dY (by show p.lp.n+_≠k;omega),ih (by omega) (by omega)]
theorem YJ{k x:Nat}(hk:k≤p.lp.n)(hx:p.c1≤x):eQ p a s k x=0:=by
 have h0:=wA (p:=p)
 induction k with
 | zero=>rfl
 | succ k ih=>
  unfold eQ
  split
  ·rename_i hf
   have:=uV (p:=p) (j:=k) (by omega) hf
   rw[dY (by omega),dY (by omega),ih (by omega)]
  ·rw[dY (by omega),ih (by omega)]
theorem Hp(x:Nat):eQ p a s p.lp.n x=jS p.lay a s p.lp.n (p.pi x):=by
 by_cases e:x<p.lp.n
 ·rw[ahX (Nat.le_refl _) e,wz e,(C5 (Nat.le_refl _) e).1]
 ·by_cases e2:x<p.c1
  ·obtain⟨j,g1,g2,rfl⟩:=Ho (by omega) e2
   rw[ahY (Nat.le_refl _) g1 g2,yN g1 g2,(C5 (Nat.le_refl _) g1).2 g2]
  ·rw[YJ (Nat.le_refl _) (Nat.le_of_not_lt e2),uU (Nat.le_of_not_lt e2),C4 (Nat.le_refl _) (Nat.le_of_not_lt e2)]
def kf(rel s:Int):Int:=if s=1 then rel else if rel=2 then 2 else 4-rel
theorem QW{rel s:Int}(hr:rel=1∨rel=2∨rel=3)(hs:s=1∨s = -1):eP rel s=true↔kf rel s=1:=by
 unfold eP kf
 rw[decide_eq_true_eq]
 rcases hr with rfl | rfl | rfl <;> rcases hs with rfl | rfl <;> simp
def dG(p:Prg)(i:Nat):Nat→Rat:=
 let r1:=bQ (eQ p (p.lp.a i) (p.aF i:Rat) p.lp.n) p.w (p.lp.b i*(p.aF i:Rat))
 let r2:=if p.lp.rel i=2 then r1 else bQ r1 (bm p.lp.rel p.c1 i) (if kf (p.lp.rel i) (p.aF i)=1 then 1 else -1)
 if kf (p.lp.rel i) (p.aF i)=1 then r2 else bQ r2 (aV p.lp.rel p.aF p.u i) 1
theorem QX(hv:p.lp.Valid){i:Nat}(hi:i<p.lp.m){x:Nat}(hx:x≤p.w):dG p i x=p.dP.A i (p.pi x):=by
 have hr:=hv i hi
 have hs:=rB (p.lp.b i) (p.lp.rel i)
 have hu:=nx p hi
 have hcu:=l5 p
 have l4:=fg p
 have hug:=Kk (p:=p) (i:=i)
 have h2:=(s4 p.lp.rel p.aF p.u i).2
 have h3:=(rC p.lp.rel p.c1 i).2
 have iB:p.lp.rel i≠2→bm p.lp.rel p.c1 i<p.u:=fun h=>AR hi h
 have cn:=QW hr hs
 by_cases e:x<p.c1
 ·rw[O3 (Lk e),←Hp]
  unfold dG
  have hb:bQ (eQ p (p.lp.a i) (p.aF i:Rat) p.lp.n) p.w (p.lp.b i*(p.aF i:Rat)) x=eQ p (p.lp.a i) (p.aF i:Rat) p.lp.n x:=dY (by omega)
  split
  ·split
   ·exact hb
   ·rw[dY (by omega)];exact hb
  ·rw[dY (by omega)]
   split
   ·exact hb
   ·rw[dY (by omega)];exact hb
 ·rw[uU (by omega),AS]
  have z1:jS p.lay (p.lp.a i) (p.aF i:Rat) p.lp.n x=0:=C4 (Nat.le_refl _) (Nat.le_of_not_lt e)
  have z2:eQ p (p.lp.a i) (p.aF i:Rat) p.lp.n x=0:=YJ (Nat.le_refl _) (by omega)
  unfold dG
  by_cases hw:x=p.w
  ·subst hw
   rw[jt]
   have hb:=jt (eQ p (p.lp.a i) (p.aF i:Rat) p.lp.n) p.w (p.lp.b i*(p.aF i:Rat))
   by_cases o:eP (p.lp.rel i) (p.aF i)=true
   ·rw[if_pos (cn.1 o)]
    split
    ·exact hb
    ·rw[dY (by have:=iB (by assumption);omega)];exact hb
   ·rw[if_neg (fun h=>o (cn.2 h)),dY (by rw[uK o]at hu;omega)]
    split
    ·exact hb
    ·rw[dY (by have:=iB (by assumption);omega)];exact hb
  ·rw[dY (f:=bQ _ _ _) hw]
   have hb:bQ (eQ p (p.lp.a i) (p.aF i:Rat) p.lp.n) p.w (p.lp.b i*(p.aF i:Rat)) x=0:=by rw[dY hw,z2]
   by_cases o:eP (p.lp.rel i) (p.aF i)=true
   ·have oy:p.lp.rel i≠2:=by have:=C6 o;omega
    rw[if_pos (cn.1 o),if_neg oy,yp o,if_pos (cn.1 o)]
    by_cases ex:x=bm p.lp.rel p.c1 i
    ·rw[ex,jt,jt]
    ·rw[dY ex,dY ex,hb,C7 (fun _=>by rw[AT oy];exact ex),z1]
   ·rw[if_neg (fun h=>o (cn.2 h)),uK o,if_neg (fun h=>o (cn.2 h))]
    by_cases ex:x=aV p.lp.rel p.aF p.u i
    ·rw[ex,jt,jt]
    ·rw[dY ex,dY ex]
     by_cases oy:p.lp.rel i=2
     ·rw[if_pos oy,hb,C7 (fun h=>absurd oy h),z1]
     ·rw[if_neg oy]
      by_cases ey:x=bm p.lp.rel p.c1 i
      ·rw[ey,jt]
       unfold rp
       rw[AT oy]
       rcases hr with k | k | k
       ·rw[if_pos k,jt]
        have:p.aF i = -1:=by
         rcases hs with h | h
         ·exact absurd (cn.2 (by unfold kf;rw[if_pos h];exact k)) o
         ·exact h
        rw[this];rfl
       ·exact absurd k oy
       ·rw[if_neg (by omega),if_pos k,jt]
        have:p.aF i=1:=by
         rcases hs with h | h
         ·exact h
         ·exact absurd (cn.2 (by unfold kf;rw[h,k];decide)) o
        rw[this];rfl
      ·rw[dY ey,hb,C7 (fun _=>by rw[AT oy];exact ey),z1]
end
end Go.ar
