/- Part 11 of the proof: Srt2, Lnd2, Mdr, QDat, Eng17, QDat2, Qp, Ql, Qi, Rlay. -/
import Derived.Test.YtfjncmjbhfdnpaaGreatA10
import Derived.Shelf.Slices.CompactI
import Derived.Shelf.Slices.Empties
set_option linter.unusedVariables false
namespace Go.Proofs
open Go.Shelf
end Go.Proofs
namespace Go.au
open Go.Proofs Go.Sort Lp
end Go.au
namespace Go.au
open Go.Proofs Num Lp
end Go.au
namespace Go.au
open Go.Proofs Num Lp
end Go.au
namespace Go.au
open Go.Proofs Num Lp
end Go.au
namespace Go.au
open Go.Proofs Num Lp
structure CK where
 P:Heap→List Value→Rat→Prop
 sz:Nat
 e:Nat
 he:Nat
 up:Up P
 len:∀H vs q,P H vs q→vs.length=sz
def py(C:CK)(K:Heap)(H:Heap)(g:Nat)(l:List Rat):Prop:=∃xs sz,H g=some ⟨xs,sz,C.e,true⟩∧bC (C.P K) C.sz xs l
theorem py.le{C:CK}{K K' H H':Heap}{g:Nat}{l:List Rat}(h:py C K H g l)(hl:Heap.le K K')(hs:H' g=H g):py C K' H' g l:=by
 obtain⟨xs,sz,h1,h2⟩:=h
 exact⟨xs,sz,by rw[hs];exact h1,h2.mono fun vs a=>C.up _ _ vs a hl⟩
structure GG where
 top:List Nat
 hb:List Nat
 bb:List Nat
 bv:Value
 rg:List (Nat×Nat)
 Ar:Option Addr
 cr:Nat
def GG.low(G:GG):List Nat:=G.hb++(G.bb++G.rg.map (·.1))
def GG.gs(G:GG):List Nat:=G.top++G.low
def GG.on(G:GG)(t:List Nat):GG:={G with top:=t}
def iT(rg:List (Nat×Nat))(W:Nat):List Value:=rg.map fun p=> .slice (some ⟨p.1,0,none⟩) W p.2
theorem kA{rg:List (Nat×Nat)}{W i:Nat}{p:Nat×Nat}(h:rg[i]? = some p):(iT rg W)[i]? = some (.slice (some ⟨p.1,0,none⟩) W p.2):=by
 unfold iT;rw[List.getElem?_map,h];rfl
structure ct(C:CK)(H:Heap)(G:GG)(R W m:Nat)(M:Nat→Nat→Rat)(B:Nat→Nat):Prop where
 nd:G.gs.Nodup
 top:∀q,q∈G.top→H q≠none
 iv:G.rg.length=R
 mh:G.hb=az (.slice G.Ar R G.cr)
 rows:bW H (.slice G.Ar R G.cr) C.he 1 R (iT G.rg W)
 row:∀(i:Nat)(p:Nat×Nat),G.rg[i]? = some p→py C (rem H G.gs) H p.1 (aK (M i) W)
 basis:(m=0∧G.bb = []∧G.bv = .slice none 0 0)∨∃gb cb sz,G.bb = [gb]∧G.bv = .slice (some ⟨gb,0,none⟩) m cb∧H gb=some ⟨eL B m,sz,3,true⟩
section
variable {C:CK} {H H':Heap} {G:GG} {R W m:Nat} {M:Nat→Nat→Rat} {B:Nat→Nat}
theorem GG.Cm{G:GG}{q:Nat}(h:q∈G.top):q∈G.gs:=List.mem_append_left _ h
theorem GG.Cn{G:GG}{q:Nat}(h:q∈G.hb):q∈G.low:=List.mem_append_left _ h
theorem GG.mK{G:GG}{q:Nat}(h:q∈G.bb):q∈G.low:=List.mem_append_right _ (List.mem_append_left _ h)
theorem GG.gJ{G:GG}{i:Nat}{p:Nat×Nat}(h:G.rg[i]? = some p):p.1∈G.low:=List.mem_append_right _ (List.mem_append_right _ (List.mem_map.2 ⟨p,List.mem_of_getElem? h,rfl⟩))
theorem GG.kM{G:GG}{q:Nat}(h:q∈G.low):q∈G.gs:=List.mem_append_right _ h
theorem GG.ub{G:GG}(h:G.gs.Nodup){q r:Nat}(hq:q∈G.top)(hr:r∈G.low):q≠r:=(List.nodup_append.1 h).2.2 q hq r hr
theorem GG.MO{G:GG}(h:G.gs.Nodup){q r:Nat}(hq:q∈G.hb)(hr:r∈G.bb∨∃(i:Nat)(p:Nat×Nat),G.rg[i]? = some p∧p.1=r):q≠r:=(List.nodup_append.1 (List.nodup_append.1 h).2.1).2.2 q hq r (by
 rcases hr with hr | ⟨i,p,hp,rfl⟩
 ·exact List.mem_append_left _ hr
 ·exact List.mem_append_right _ (List.mem_map.2 ⟨p,List.mem_of_getElem? hp,rfl⟩))
theorem GG.GH{G:GG}(h:G.gs.Nodup){q:Nat}(hq:q∈G.bb){i:Nat}{p:Nat×Nat}(hp:G.rg[i]? = some p):q≠p.1:=
 (List.nodup_append.1 (List.nodup_append.1 (List.nodup_append.1 h).2.1).2.1).2.2 q hq p.1 (List.mem_map.2 ⟨p,List.mem_of_getElem? hp,rfl⟩)
theorem GG.Lr{G:GG}(h:G.gs.Nodup){i j:Nat}{p q:Nat×Nat}(hp:G.rg[i]? = some p)(hq:G.rg[j]? = some q)(aZ:i≠j):p.1≠q.1:=by
 have h1:=(List.nodup_append.1 (List.nodup_append.1 (List.nodup_append.1 h).2.1).2.1).2.1
 intro e
 have hi:(G.rg.map (·.1))[i]? = some p.1:=by rw[List.getElem?_map,hp];rfl
 have hj:(G.rg.map (·.1))[j]? = some p.1:=by rw[List.getElem?_map,hq,e];rfl
 obtain⟨hi1,uI⟩:=List.getElem?_eq_some_iff.1 hi
 obtain⟨uU,wA⟩:=List.getElem?_eq_some_iff.1 hj
 exact aZ ((List.getElem_inj h1).1 (uI.trans wA.symm))
theorem ct.get(h:ct C H G R W m M B){i:Nat}(hi:i<R):∃p,G.rg[i]? = some p:=⟨_,List.getElem?_eq_getElem (by rw[h.iv];exact hi)⟩
theorem ct.ne(h:ct C H G R W m M B):∀q,q∈G.gs→H q≠none:=fun q hq=>by
 rcases List.mem_append.1 hq with hq | hq
 ·exact h.top q hq
 ·rcases List.mem_append.1 hq with hq | hq
  ·rw[h.mh]at hq
   obtain⟨en,he⟩:=h.rows.block (cM.1 hq)
   rw[he];simp
  rcases List.mem_append.1 hq with hq | hq
  ·rcases h.basis with ⟨_,h1,_⟩ | ⟨gb,cb,sz,h1,_,h2⟩
   ·rw[h1]at hq;cases hq
   ·rw[h1,List.mem_singleton]at hq
    rw[hq,h2];simp
  ·obtain⟨p,hp,rfl⟩:=List.mem_map.1 hq
   obtain⟨i,hi⟩:=List.getElem?_of_mem hp
   obtain⟨xs,sz,h1,_⟩:=h.row i p hi
   rw[h1];simp
theorem ct.Co(h:ct C H G R W m M B){t:List Nat}(dT:(G.on t).gs.Nodup)(ht:∀q,q∈t→H' q≠none)(hs:∀q,q∈G.low→H' q=H q)(hl:Heap.le (rem H G.gs) (rem H' (G.on t).gs)):ct C H' (G.on t) R W m M B where
 nd:=dT
 top:=ht
 iv:=h.iv
 mh:=h.mh
 rows:=h.rows.same fun q hq=>hs q (GG.Cn (by show q∈G.hb;rw[h.mh];exact cM.2 hq))
 row:=fun i p hp=>(h.row i p hp).le hl (hs _ (GG.gJ hp))
 basis:=by
  rcases h.basis with h1 | ⟨gb,cb,sz,h1,h2,h3⟩
  ·exact .inl h1
  ·exact .inr ⟨gb,cb,sz,h1,h2,by rw[hs _ (GG.mK (by show gb∈G.bb;rw[h1];exact List.mem_singleton.2 rfl))];exact h3⟩
theorem ct.kept(h:ct C H G R W m M B)(k:Kept G.gs H H'):ct C H' G R W m M B:=
 h.Co (t:=G.top) h.nd (fun q hq=>by rw[k.same _ (GG.Cm hq)];exact h.top q hq) (fun q hq=>k.same q (GG.kM hq)) k.le
theorem ct.Cp(h:ct C H G R W m M B){g:Nat}(hg:g∈G.top)(k:fS G.gs g H H')(hn:H' g≠none):ct C H' G R W m M B:=
 h.Co (t:=G.top) h.nd (fun q hq=>by
  by_cases e:q=g
  ·rw[e];exact hn
  ·rw[k.same _ (GG.Cm hq) e];exact h.top q hq) (fun q hq=>k.same q (GG.kM hq) (Ne.symm (GG.ub h.nd hg hq))) k.le
theorem ct.congr{M':Nat→Nat→Rat}{B':Nat→Nat}(h:ct C H G R W m M B)(hM:∀i,i<R→∀j,j<W→M' i j=M i j)(hB:∀i,i<m→B' i=B i):ct C H G R W m M' B' where
 nd:=h.nd
 top:=h.top
 iv:=h.iv
 mh:=h.mh
 rows:=h.rows
 row:=fun i p hp=>by
  have hi:i<R:=by rw[←h.iv];exact(List.getElem?_eq_some_iff.1 hp).1
  rw[lz (g:=M i) (fun j hj=>hM i hi j hj)];exact h.row i p hp
 basis:=by rw[Xf hB];exact h.basis
def iA(M:Nat→Nat→Rat)(i:Nat)(f:Nat→Rat)(k:Nat):Nat→Rat:=if k=i then f else M k
theorem ct.setRow(h:ct C H G R W m M B){i:Nat}{p:Nat×Nat}(hp:G.rg[i]? = some p)(k:fS G.gs p.1 H H'){f:Nat→Rat}(hb:py C (rem H' G.gs) H' p.1 (aK f W)):ct C H' G R W m (iA M i f) B where
 nd:=h.nd
 top:=fun q hq=>by rw[k.same _ (GG.Cm hq) (GG.ub h.nd hq (GG.gJ hp))];exact h.top q hq
 iv:=h.iv
 mh:=h.mh
 rows:=h.rows.same fun q hq=>k.same _ (GG.kM (GG.Cn (by rw[h.mh];exact cM.2 hq))) (GG.MO h.nd (by rw[h.mh];exact cM.2 hq) (.inr ⟨i,p,hp,rfl⟩))
 row:=fun j q hq=>by
  by_cases e:j=i
  ·subst e
   rw[hp]at hq
   cases hq
   simp only[iA,if_true]
   exact hb
  ·simp only[iA,if_neg e]
   exact(h.row j q hq).le k.le (k.same _ (GG.kM (GG.gJ hq)) (GG.Lr h.nd hq hp e))
 basis:=by
  rcases h.basis with h1 | ⟨gb,cb,sz,h1,h2,h3⟩
  ·exact .inl h1
  ·have hm:gb∈G.bb:=by rw[h1];exact List.mem_singleton.2 rfl
   exact .inr ⟨gb,cb,sz,h1,h2,by rw[k.same _ (GG.kM (GG.mK hm)) (GG.GH h.nd hm hp)];exact h3⟩
theorem ct.DV(h:ct C H G R W m M B){gb cb sz:Nat}(lx:G.bb = [gb])(dh:G.bv = .slice (some ⟨gb,0,none⟩) m cb){B':Nat→Nat}:ct C (ins H gb ⟨eL B' m,sz,3,true⟩) G R W m M B':=by
 have hm:gb∈G.bb:=by rw[lx];exact List.mem_singleton.2 rfl
 have hg:gb∈G.gs:=GG.kM (GG.mK hm)
 refine⟨h.nd,fun q hq=> ?_,h.iv,h.mh,h.rows.same fun q hq=>a6 _ _ (GG.MO h.nd (by rw[h.mh];exact cM.2 hq) (.inl hm)),fun i p hp=> ?_,.inr ⟨gb,cb,sz,lx,dh,bD _ _ _⟩⟩
 ·rw[a6 _ _ (GG.ub h.nd hq (GG.mK hm))];exact h.top q hq
 ·rw[cF _ hg]
  exact(h.row i p hp).le (.refl _) (a6 _ _ (Ne.symm (GG.GH h.nd hm hp)))
end
def vK:CK:=⟨fun _ vs q=>fA vs q,2,163,161,fun _ _ _ _ _ h=>h,fun _ _ _ ⟨n,d,h,_⟩=>by rw[h];rfl⟩
def iF:CK:=⟨bZ,3,31,26,dY,fun _ vs _ h=>by
 obtain⟨u,w,e,_⟩:=h
 rw[y8 e];rfl⟩
end Go.au
namespace Go.au
open Go Go.Proofs
section
variable {P:Program} {n:Nat} {w0:World} {H0:Heap} {Q:Exit→St→Heap→Prop} {s:St} {H:Heap}
theorem MP{c:Code}(b:Nat){cs:List Value}(hb:s b=some (.box cs))(h:∀g e,H g=none→VC P n w0 H0 c Q (put s b (.val (.pointer (some ⟨g,0,none⟩)))) (ins H g ⟨cs,cs.length,e,true⟩)):VC P n w0 H0 c Q s H:=by
 unfold VC at h⊢
 intro a w hR
 obtain⟨G,hl,hG⟩:=hR.fits
 obtain⟨h1,h2,e,h3⟩:=hl.boxes b cs hb
 have key:∀t c',put s b (.val (.pointer (some ⟨G b,0,none⟩))) t=some (.box c')→t≠b∧s t=some (.box c'):=fun t c' ht=>by
  by_cases e:t=b
  ·subst e;rw[ig]at ht;cases ht
  ·rw[fD _ _ e]at ht;exact⟨e,ht⟩
 have ne:∀t c',t≠b→s t=some (.box c')→G t≠G b:=fun t c' e ht hg=>e (hl.inj t b _ _ ht hb hg)
 refine h (G b) e h2 a w ⟨hR.defers,⟨G,⟨⟨hl.aK.size,fun t v ht=> ?_⟩,fun t c' ht=> ?_,fun t t' c1 c2 ht pD hg=> ?_,fun t b' off c' ht sY=> ?_,fun g en hg=> ?_⟩,fun t c' ht=>hG t c' (key t c' ht).2⟩,?_⟩
 ·by_cases e:t=b
  ·subst e
   rw[ig]at ht
   cases ht
   exact h1
  ·rw[fD _ _ e]at ht;exact hl.aK.at_ t v ht
 ·obtain⟨e1,ht⟩:=key t c' ht
  obtain⟨k1,k2,k3⟩:=hl.boxes t c' ht
  exact⟨k1,by rw[a6 _ _ (ne t c' e1 ht)];exact k2,k3⟩
 ·exact hl.inj t t' c1 c2 (key t c1 ht).2 (key t' c2 pD).2 hg
 ·obtain⟨e1,sY⟩:=key b' c' sY
  by_cases e2:t=b
  ·subst e2;rw[ig]at ht;cases ht
  ·rw[fD _ _ e2]at ht;exact hl.refs t b' off c' ht sY
 ·by_cases eg:g=G b
  ·subst eg
   rw[bD]at hg
   cases hg
   exact⟨_,h3,cs.toArray,(0,0),rfl,by simp,fun i v hv=>by simpa using hv,fun _=>rfl⟩
  ·rw[a6 _ _ eg]at hg;exact hl.den g en hg
 ·have hf:=hR.fx
  refine⟨hf.os,hf.tape,hf.output,hf.size,fun g hg h0=> ?_,hf.form⟩
  have k:=hf.keep g hg h0
  refine⟨k.1,?_⟩
  rw[a6 _ _ (fun e=>by have:=hG b cs hb;omega)];exact k.2
theorem SF{c:Code}{H':Heap}(hl:Heap.le H' H)(h:VC P n w0 H0 c Q s H'):VC P n w0 H0 c Q s H:=by
 unfold VC at h⊢
 intro a w hR
 have hn:∀g,H g=none→H' g=none:=fun g hg=>le_none hl hg
 obtain⟨G,hr,hG⟩:=hR.fits
 refine h a w ⟨hR.defers,⟨G,⟨hr.aK,fun t cs ht=> ?_,hr.inj,hr.refs,hr.den.le hl⟩,hG⟩,?_⟩
 ·obtain⟨h1,h2,h3⟩:=hr.boxes t cs ht
  exact⟨h1,hn _ h2,h3⟩
 ·have hf:=hR.fx
  exact⟨hf.os,hf.tape,hf.output,hf.size,fun g hg h0=>⟨(hf.keep g hg h0).1,hn _ (hf.keep g hg h0).2⟩,hf.form⟩
end
def kW(g:Nat)(H:Heap)(ad:Addr):Option Value:=if ad.block=g∧ad.off=2 then none else cell H ad
theorem SG{g:Nat}{H:Heap}{ad:Addr}{v:Value}(hc:cell H ad=some v)(hn:ad.block≠g∨ad.off≠2):kW g H ad=some v:=by
 unfold kW
 rw[if_neg (fun h=>hn.elim (fun k=>k h.1) (fun k=>k h.2))];exact hc
theorem IP(g:Nat)(H:Heap):(Mode.cO (kW g H)).fM H:=fun ad v h=>by
 have h:kW g H ad=some v:=h
 unfold kW at h
 split at h
 ·cases h
 ·exact h
theorem aja{g:Nat}{H H':Heap}{gs:List Nat}{a b c c':Value}{sz:Nat}{e:TypeId}(hg:g∈gs)(ht:H g=some ⟨[a,b,c],sz,e,true⟩)(h:fS gs g H H')(pD:H' g=some ⟨[a,b,c'],sz,e,true⟩):(Mode.cO (kW g H)).fM H':=fun ad v hk=>by
 have hk:kW g H ad=some v:=hk
 unfold kW at hk
 split at hk
 ·cases hk
 ·rename_i hn
  by_cases e:ad.block=g
  ·unfold cell at hk⊢
   rw[e,ht]at hk
   rw[e,pD]
   simp only at hk⊢
   split at hk
   ·cases hk
   ·rename_i hs
    rw[if_neg hs]
    match ho:ad.off with
    | 0=>rw[ho]at hk;exact hk
    | 1=>rw[ho]at hk;exact hk
    | 2=>exact absurd ⟨e,ho⟩ hn
    | k+3=>rw[ho]at hk;simp at hk
  ·by_cases hm:ad.block∈gs
   ·unfold cell at hk⊢
    rw[h.same _ hm e];exact hk
   ·refine cN (bE _ gs) (cN h.le ?_)
    unfold cell at hk⊢
    rw[bM hm];exact hk
def Cq(kc:Addr→Option Value)(A:Option Addr)(xs:List Value):Prop:=∀(i:Nat)(v:Value),xs[i]? = some v→∃ad,A=some ad∧kc (ad.add i)=some v
theorem ajb{H:Heap}{gs:List Nat}{ad:Addr}{v:Value}(h:cell (rem H gs) ad=some v):¬ad.block∈gs:=fun hm=>by
 unfold cell at h
 rw[rem_in hm]at h;cases h
theorem Rd.kx{g:Nat}{H:Heap}{gs:List Nat}{A:Option Addr}{xs:List Value}(h:Rd (rem H gs) A xs)(hg:g∈gs):Cq (kW g H) A xs:=fun i v hv=>by
 obtain⟨ad,h1,h2⟩:=h i v hv
 exact⟨ad,h1,SG (cN (bE _ gs) h2) (.inl fun e=>ajb h2 (e▸hg))⟩
theorem zF{g q:Nat}{H:Heap}{xs:List Value}{s e:Nat}{b:Bool}(h:H q=some ⟨xs,s,e,b⟩)(hn:q≠g):Cq (kW g H) (some ⟨q,0,none⟩) xs:=fun i v hv=>by
 obtain⟨ad,h1,h2⟩:=dS h i v hv
 cases h1
 refine⟨_,rfl,SG h2 (.inl ?_)⟩
 rw[iN];exact hn
theorem ajc{g:Nat}{H:Heap}{a:Value}{xs:List Value}{s e:Nat}{b:Bool}(h:H g=some ⟨a::xs,s,e,b⟩):kW g H ((⟨g,0,none⟩:Addr).add 0)=some a:=SG (by simp[cell,iN,h]) (.inr (by rw[iN];simp))
section
variable {P:Program} {n:Nat} {tb:Tb} {all:Array Oper} {s:St} {H:Heap} {K:St→Heap→Prop} {r:List Oper} {dst:Option Nat} {ty:TypeId} {pos:String} {after:Array Edge} {gd:Option (Nat×Bool)} {kc:Addr→Option Value}
theorem SH{t:TypeId}{x i:Operand}{ad:Addr}{m c:Nat}{k:IntKind}{j:Int}{e sz:Nat}(hc:(Mode.cO kc).fM H)(di:jU P tb)(ht:tb[t]? = some (.sl e sz))(hx:ev s x=some (.slice (some ad) m c))(hi:ev s i=some (.int k j))(h0:0≤j)(h1:j<m)
  (hk:aP P n all (.cO kc) r (bn s dst (.val (.pointer (some (ad.add (j.toNat*sz)))))) H K) (hg:b8 all s gd=some true:=by rfl) (nb:js s dst=true:=by rfl):aP P n all (.cO kc) (⟨dst,.indexAddr t x i,ty,pos,after,gd⟩::r) s H K:=
 Eb _ rfl hc hg nb (fun a w ha _=>by
  obtain⟨hu,ii,h2,h3⟩:=di t _ ht
  simp[execOp,bS ha hx,bS ha hi,Instr.indexAt,asIntOf,run_underlying hu,h0,h1,sizeOf,typeInfo,h2,h3]) hk
theorem IQ{t:TypeId}{x:Operand}{ad:Addr}{m:Nat}{tc:List (Nat×Nat)}{vs:List Value}(bh:(Mode.cO kc).fM H)(di:jU P tb)(ht:tb[t]? = some (.st m tc))(hx:ev s x=some (.pointer (some ad)))(hm:vs.length=m)
  (hc:∀(i:Nat)(v:Value),vs[i]? = some v→kc (ad.add i)=some v)
  (hk:aP P n all (.cO kc) r (bn s dst (.val (.agg vs.toArray))) H K) (hg:b8 all s gd=some true:=by rfl) (nb:js s dst=true:=by rfl):aP P n all (.cO kc) (⟨dst,.load t x,ty,pos,after,gd⟩::r) s H K:=
 Eb _ rfl bh hg nb (fun a w ha hd=>by
  obtain⟨fs,ii,hu,h2,h3,_,h4⟩:=di t _ ht
  simp[execOp,bS ha hx,Instr.loadAt,Instr.sureAddr,OE hu h2 vs (by rw[h3,hm]) (fun j v hv=>hd _ _ (hc j v hv))]) hk
theorem Cr{t t2:TypeId}{x i:Operand}{A:Option Addr}{m c d1:Nat}{oB:Option Nat}{m8:TypeId}{m9:String}{ng:Array Edge}{jJ:Option (Nat×Bool)}{k:IntKind}{j:Int}{e:Nat}{ti:Ti}{xs:List Value}{v:Value}
  (bh:(Mode.cO kc).fM H) (di:jU P tb) (ht:tb[t]? = some (.sl e 1)) (fe:tb[t2]? = some ti) (h1:yv ti=true) (hx:ev s x=some (.slice A m c)) (hi:ev s i=some (.int k j)) (hr:Cq kc A xs) (hv:xs[j.toNat]? = some v) (h0:0≤j) (hm:j<m)
  (hk:∀ad:Addr,aP P n all (.cO kc) r (bn (put s d1 (.val (.pointer (some ad)))) oB (.val v)) H K) (hg:b8 all s gd=some true:=by rfl) (nb:js s (some d1)=true:=by rfl) (ed:∀ad:Addr,b8 all (put s d1 (.val (.pointer (some ad)))) jJ=some true:=by exact fun _=>rfl) (tf:∀ad:Addr,js (put s d1 (.val (.pointer (some ad)))) oB=true:=by exact fun _=>rfl):
  aP P n all (.cO kc) (⟨some d1,.indexAddr t x i,ty,pos,after,gd⟩::⟨oB,.load t2 (.tmp d1),m8,m9,ng,jJ⟩::r) s H K:=by
 obtain⟨ad,rfl,hc⟩:=hr _ _ hv
 exact SH bh di ht hx hi h0 hm (ka (ad:=ad.add (j.toNat*1)) bh di fe h1 (by simp[ev,put,bn]) (by rw[Nat.mul_one];exact hc) (hk _) (ed _) (tf _)) hg nb
theorem Cs{t t2:TypeId}{x i:Operand}{A:Option Addr}{m c d1:Nat}{oB:Option Nat}{m8:TypeId}{m9:String}{ng:Array Edge}{jJ:Option (Nat×Bool)}{k:IntKind}{j:Int}{e sz:Nat}{tc:List (Nat×Nat)}{xs vs:List Value}
  (bh:(Mode.cO kc).fM H) (di:jU P tb) (ht:tb[t]? = some (.sl e sz)) (fe:tb[t2]? = some (.st sz tc)) (hx:ev s x=some (.slice A m c)) (hi:ev s i=some (.int k j)) (hr:Cq kc A xs) (hl:vs.length=sz) (hp:0<sz) (hv:∀(q:Nat)(v:Value),vs[q]? = some v→xs[j.toNat*sz+q]? = some v) (h0:0≤j) (hm:j<m)
  (hk:∀ad:Addr,aP P n all (.cO kc) r (bn (put s d1 (.val (.pointer (some ad)))) oB (.val (.agg vs.toArray))) H K) (hg:b8 all s gd=some true:=by rfl) (nb:js s (some d1)=true:=by rfl) (ed:∀ad:Addr,b8 all (put s d1 (.val (.pointer (some ad)))) jJ=some true:=by exact fun _=>rfl) (tf:∀ad:Addr,js (put s d1 (.val (.pointer (some ad)))) oB=true:=by exact fun _=>rfl):
  aP P n all (.cO kc) (⟨some d1,.indexAddr t x i,ty,pos,after,gd⟩::⟨oB,.load t2 (.tmp d1),m8,m9,ng,jJ⟩::r) s H K:=by
 have OH:vs[0]? = some (vs[0]'(by omega)):=List.getElem?_eq_getElem (by omega)
 obtain⟨ad,rfl,_⟩:=hr _ _ (hv 0 _ OH)
 refine SH bh di ht hx hi h0 hm (IQ (ad:=ad.add (j.toNat*sz)) bh di fe (by simp[ev,put,bn]) hl (fun q v hq=> ?_) (hk _) (ed _) (tf _)) hg nb
 obtain⟨FH,h1,h2⟩:=hr _ _ (hv q v hq)
 cases h1
 rw[add_add];exact h2
theorem Ct{f:Operand}{kO:FuncId}{args:List Value}{xs:List Operand}{ts:Array TypeId}{bF:Value→Heap→Prop}(hf:ev s f=some (.func (.func kO) #[] #[]))(hx:qp s xs=some args)
  (h:Fn P kO args.toArray H bF) (hm:∀v H',bF v H'→(Mode.cO kc).fM H') (hk:∀v H',bF v H'→aP P n all (.cO kc) r (bn s dst (.val v)) H' K) (hg:b8 all s gd=some true:=by rfl) (nb:js s dst=true:=by rfl):aP P n all (.cO kc) (⟨dst,.call ⟨.value f,xs.toArray,ts⟩,ty,pos,after,gd⟩::r) s H K:=
 Ec (cap:=[]) hf hx (by simpa using h) hm hk hg nb
theorem MQ{t t2:TypeId}{x i y:Operand}{g m c d1:Nat}{m8:TypeId}{m9:String}{ng:Array Edge}{jJ:Option (Nat×Bool)}{k:IntKind}{j:Int}{e sz:Nat}{ent:Ent}{v:Value}{vs:List Value}{ii:TypeInfo}
  (bh:(Mode.cO kc).fM H) (di:jU P tb) (ht:tb[t]? = some (.sl e sz)) (hx:ev s x=some (.slice (some ⟨g,0,none⟩) m c)) (hi:ev s i=some (.int k j)) (h0:0≤j) (hm:j<m) (hg:H g=some ent) (cC:ent.own=true) (ll:m*sz≤ent.xs.length)
  (wi:P.info? t2=some ii) (cK:ii.size=sz) (hy:∀ad:Addr,ev (put s d1 (.val (.pointer (some ad)))) y=some v) (hv:v.cells=vs.toArray) (iC:vs.length=sz) (h1:vs.all yB=true)
  (hk:∀ad:Addr,aP P n all (.cO kc) r (put s d1 (.val (.pointer (some ad)))) (ins H g {ent with xs:=aL ent.xs (j.toNat*sz) vs}) K) (ju:b8 all s gd=some true:=by rfl) (nb:js s (some d1)=true:=by rfl) (ed:∀ad:Addr,b8 all (put s d1 (.val (.pointer (some ad)))) jJ=some true:=by exact fun _=>rfl):
  aP P n all (.cO kc) (⟨some d1,.indexAddr t x i,ty,pos,after,gd⟩::⟨none,.store t2 (.tmp d1) y,m8,m9,ng,jJ⟩::r) s H K:=by
 have td:(⟨g,0,none⟩:Addr).add (j.toNat*sz)=⟨g,j.toNat*sz,none⟩:=iN ..
 have hjm:j.toNat*sz+sz≤m*sz:=by
  have:(j.toNat+1)*sz≤m*sz:=Nat.mul_le_mul_right _ (by omega)
  rw[Nat.add_mul]at this;omega
 refine SH bh di ht hx hi h0 hm ?_ ju nb
 rw[td]
 exact BI (by simp[ev,put,bn]) hg cC (by omega) wi cK (hy _) hv iC h1 (hk _) (ed _)
end
end Go.au
namespace Go.au
open Go.Proofs Num Lp
theorem GG.xJ(G:GG)(t:List Nat):(G.on t).gs=t++G.low:=rfl
theorem SI(v:Value):(az v).Nodup:=by
 unfold az
 cases v.ownBlock with
 | none=>exact List.nodup_nil
 | some q=>exact List.nodup_cons.2 ⟨List.not_mem_nil,List.nodup_nil⟩
theorem App.new{H H':Heap}{v v':Value}{e sz n:Nat}{xs:List Value}(ha:App H v e sz n xs v' H'):∀q,q∈az v'→q∈az v∨H q=none:=fun q hq=>by
 rcases ha.at_ with h4 | ⟨g,h4,h5⟩
 ·exact .inl (cM.2 (h4▸cM.1 hq))
 ·have:=cM.1 hq;rw[h4]at this;cases this;exact .inr h5
section
variable {C:CK} {H H':Heap} {G:GG} {R W m:Nat} {M:Nat→Nat→Rat} {B:Nat→Nat} {u u':Value} {t:List Nat} {e sz n:Nat} {xs:List Value}
theorem ct.app(h:ct C H (G.on (az u++t)) R W m M B)(ha:App H u e sz n xs u' H'):ct C H' (G.on (az u'++t)) R W m M B∧Heap.le (rem H (G.on (az u++t)).gs) (rem H' (G.on (az u'++t)).gs):=by
 have aZ:=h.ne
 have dT:=h.nd
 rw[GG.xJ,List.append_assoc]at dT
 obtain⟨_,n2,n3⟩:=List.nodup_append.1 dT
 have oz:∀q,q∈t++G.low→q∈(G.on (az u++t)).gs:=fun q hq=>by
  rw[GG.xJ,List.append_assoc];exact List.mem_append_right _ hq
 have qD:∀q,q∈t++G.low→H' q=H q:=fun q hq=>by
  obtain⟨en,he⟩:=Option.ne_none_iff_exists'.1 (aZ q (oz q hq))
  rw[he]
  exact ha.same q en he fun h1=>n3 q (cM.2 h1) q hq rfl
 have hl:Heap.le (rem H (G.on (az u++t)).gs) (rem H' (G.on (az u'++t)).gs):=fun q en hq=>by
  by_cases hm:q∈(G.on (az u++t)).gs
  ·rw[rem_in hm]at hq;cases hq
  ·rw[bM hm]at hq
   have k1:¬q∈az u:=fun k=>hm (by rw[GG.xJ,List.append_assoc];exact List.mem_append_left _ k)
   have h1:=ha.same q en hq fun e=>k1 (cM.2 e)
   have h2:¬q∈(G.on (az u'++t)).gs:=fun h2=>by
    rw[GG.xJ,List.append_assoc]at h2
    rcases List.mem_append.1 h2 with h3 | h3
    ·rcases ha.new q h3 with h4 | h4
     ·exact k1 h4
     ·rw[h4]at hq;cases hq
    ·exact hm (oz q h3)
   exact⟨en,by rw[bM h2];exact h1,.refl _⟩
 refine⟨h.Co (t:=az u'++t) ?_ (fun q hq=> ?_) (fun q hq=>qD q (List.mem_append_right _ hq)) hl,hl⟩
 ·show ((az u'++t)++G.low).Nodup
  rw[List.append_assoc]
  refine List.nodup_append.2 ⟨SI _,n2,fun q hq r hr e=> ?_⟩
  subst e
  rcases ha.new q hq with h4 | h4
  ·exact n3 q h4 q hr rfl
  ·exact aZ q (oz q hr) h4
 ·rcases List.mem_append.1 hq with hq | hq
  ·obtain⟨en,he⟩:=ha.own.block (cM.1 hq)
   rw[he];simp
  ·rw[qD q (List.mem_append_left _ hq)];exact aZ q (oz q (List.mem_append_left _ hq))
end
structure QV(o:Bool)(H:Heap)(g:Nat)(G:GG)(R W m:Nat)(M:Nat→Nat→Rat)(B:Nat→Nat):Prop where
 cY:ct vK H G R W m M B
 gt:g∈G.top
 st:H g=some ⟨[.slice G.Ar R G.cr,G.bv,.bool o],3,160,true⟩
section
variable {o o':Bool} {H H' K:Heap} {g:Nat} {G:GG} {R W m:Nat} {M:Nat→Nat→Rat} {B:Nat→Nat} {u u':Value} {t:List Nat}
theorem QV.mem(h:QV o H g G R W m M B):g∈G.gs:=GG.Cm h.gt
theorem QV.iR(h:QV o H g G R W m M B):cell H ((⟨g,0,none⟩:Addr).add 0)=some (.slice G.Ar R G.cr):=by simp[cell,iN,h.st]
theorem QV.mR(h:QV o H g G R W m M B):cell H ((⟨g,0,none⟩:Addr).add 1)=some G.bv:=by simp[cell,iN,h.st]
theorem QV.SJ(h:QV o H g G R W m M B):cell H ((⟨g,0,none⟩:Addr).add 2)=some (.bool o):=by simp[cell,iN,h.st]
theorem QV.xK(h:QV o H g G R W m M B){i:Nat}{p:Nat×Nat}(hp:G.rg[i]? = some p):p.1≠g:=Ne.symm (GG.ub h.cY.nd h.gt (GG.gJ hp))
theorem QV.row(h:QV o H g G R W m M B){i:Nat}{p:Nat×Nat}(hp:G.rg[i]? = some p):∃xs sz,H p.1=some ⟨xs,sz,163,true⟩∧bC fA 2 xs (aK (M i) W):=h.cY.row i p hp
theorem mS{xs:List Value}{f:Nat→Rat}{W k:Nat}(h:bC fA 2 xs (aK f W))(hk:k<W):∃n d:Int,fA [.int .i64 n,.int .i64 d] (f k)∧(∀(j:Nat)(v:Value),[.int .i64 n,.int .i64 d][j]? = some v→xs[k*2+j]? = some v)∧-1073741824≤n∧n≤1073741824∧1≤d∧d≤1073741824∧f k=(n:Rat)/(d:Rat):=by
 obtain⟨vs,_,h2,h3⟩:=h.get (dJ hk)
 obtain⟨n,d,rfl,h4⟩:=id h2
 exact⟨n,d,h2,h3,h4⟩
theorem uc{n d:Int}(h:1≤d):(n:Rat)/(d:Rat)=0↔n=0:=by
 have h4:(d:Rat)≠0:=by exact_mod_cast (show d≠0 by omega)
 constructor
 ·intro h1
  have h2:(n:Rat)=0:=by
   have h3:(n:Rat)/(d:Rat)*(d:Rat)=0:=by rw[h1];grind
   rwa [Rat.div_mul_cancel h4]at h3
  exact_mod_cast h2
 ·rintro rfl;rw[Rat.div_def];grind
theorem MR{n d:Int}(h:1≤d):(n:Rat)/(d:Rat)<0↔n<0:=by
 have h4:(0:Rat)<(d:Rat):=by exact_mod_cast (show 0<d by omega)
 have h5:(d:Rat)≠0:=by grind
 have e:(n:Rat)=(n:Rat)/(d:Rat)*(d:Rat):=(Rat.div_mul_cancel h5).symm
 constructor
 ·intro h1
  have h2:(n:Rat)/(d:Rat)*(d:Rat)<0*(d:Rat):=Rat.mul_lt_mul_of_pos_right h1 h4
  rw[←e]at h2
  have h3:(n:Rat)<0:=by grind
  exact_mod_cast h3
 ·intro h1
  have h2:(n:Rat)<0:=by exact_mod_cast h1
  refine Classical.byContradiction fun h3=> ?_
  have h6:0≤(n:Rat)/(d:Rat)*(d:Rat):=Rat.mul_nonneg (by grind) (by grind)
  rw[←e]at h6
  grind
theorem QV.set(h:QV o H g G R W m M B){i:Nat}{p:Nat×Nat}(hp:G.rg[i]? = some p)(ht:fS G.gs g H H')(iB:H' g=some ⟨[.slice G.Ar R G.cr,G.bv,.bool o'],3,160,true⟩){xs:List Value}{sz:Nat}(hx:H p.1=some ⟨xs,sz,163,true⟩)(iw:bC fA 2 xs (aK (M i) W)){k:Nat}(hk:k<W){vs:List Value}{q:Rat}(hv:fA vs q):
  QV o' (ins H' p.1 ⟨aL xs (k*2) vs,sz,163,true⟩) g G R W m (iA M i (bV (M i) k q)) B∧Heap.le (rem H G.gs) (rem (ins H' p.1 ⟨aL xs (k*2) vs,sz,163,true⟩) G.gs):=by
 have hm:=GG.kM (GG.gJ hp)
 have h1:=h.cY.Cp h.gt ht (by rw[iB];simp)
 have h2:H' p.1=H p.1:=ht.same _ hm (h.xK hp)
 have iC:vs.length=2:=by obtain⟨n,d,rfl,_⟩:=hv;rfl
 have hT:fS G.gs p.1 H' (ins H' p.1 ⟨aL xs (k*2) vs,sz,163,true⟩):=((Kept.refl _ _).iD p.1).ins hm _
 refine⟨⟨h1.setRow hp hT ?_,h.gt,by rw[a6 _ _ (Ne.symm (h.xK hp))];exact iB⟩,ht.le.trans hT.le⟩
 refine⟨_,_,bD _ _ _,?_⟩
 have e:aK (bV (M i) k q) W=(aK (M i) W).set k q:=by
  apply List.ext_getElem?
  intro j
  by_cases hj:j<W
  ·rw[dJ hj]
   by_cases ej:j=k
   ·subst ej
    rw[List.getElem?_set_self (by rw[bg];exact hj)];simp[bV]
   ·rw[List.getElem?_set_ne (fun e'=>ej e'.symm),dJ hj];simp[bV,ej]
  ·rw[List.getElem?_eq_none (by rw[bg];omega),List.getElem?_eq_none (by rw[List.length_set,bg];omega)]
 rw[e]
 exact iw.set (by rw[bg];exact hk) hv iC
theorem QV.uz(h:QV o H g G R W m M B)(ht:fS G.gs g H H')(iB:H' g=some ⟨[.slice G.Ar R G.cr,G.bv,.bool o'],3,160,true⟩):QV o' H' g G R W m M B:=⟨h.cY.Cp h.gt ht (by rw[iB];simp),h.gt,iB⟩
theorem QV.fM(h:QV o H g G R W m M B)(ht:fS G.gs g H H')(iB:H' g=some ⟨[.slice G.Ar R G.cr,G.bv,.bool o'],3,160,true⟩):(Mode.cO (kW g H)).fM H':=aja h.mem h.st ht iB
theorem QV.rk(h:QV o H g G R W m M B):∃xs,Cq (kW g H) G.Ar xs∧Rd H G.Ar xs∧∀(i:Nat)(p:Nat×Nat),G.rg[i]? = some p→xs[i]? = some (.slice (some ⟨p.1,0,none⟩) W p.2):=by
 refine⟨iT G.rg W,?_,h.cY.rows.rd,fun i p hp=>kA hp⟩
 rcases h.cY.rows.2 with ⟨h1,h2⟩ | ⟨gr,cap,h1,h2,_⟩
 ·have e:iT G.rg W = []:=List.eq_nil_of_length_eq_zero (by rw[h.cY.rows.1,h2])
  rw[e]
  exact fun i v hv=>by simp at hv
 ·have e:G.Ar=some ⟨gr,0,none⟩:=(Value.slice.inj h1).1
  rw[e]
  refine zF h2 (Ne.symm (GG.ub h.cY.nd h.gt (GG.Cn ?_)))
  rw[h.cY.mh,h1];exact List.mem_singleton.2 rfl
theorem QV.k0(h:QV o H g G R W m M B):kW g H ((⟨g,0,none⟩:Addr).add 0)=some (.slice G.Ar R G.cr):=ajc h.st
theorem QV.fresh(h:QV o H g G R W m M B){k:Nat}{e:Ent}(hk:H k=none):QV o (ins H k e) g G R W m M B∧Heap.le (rem H G.gs) (rem (ins H k e) G.gs):=by
 have hm:¬k∈G.gs:=fun hm=>h.cY.ne k hm hk
 have hl:Heap.le (rem H G.gs) (rem (ins H k e) G.gs):=by
  rw[rM _ hm]
  exact Heap.bB _ (by rw[bM hm];exact hk)
 have hs:∀q,q∈G.gs→ins H k e q=H q:=fun q hq=>a6 _ _ fun e'=>hm (e'▸hq)
 exact⟨⟨h.cY.kept ⟨hl,hs⟩,h.gt,(hs g h.mem).trans h.st⟩,hl⟩
theorem MS{H:Heap}{q:Nat}{gs:List Nat}{xs:List Value}(h:Rd H (some ⟨q,0,none⟩) xs)(hq:¬q∈gs):Rd (rem H gs) (some ⟨q,0,none⟩) xs:=fun i v hv=>by
 obtain⟨ad,h1,h2⟩:=h i v hv
 cases h1
 refine⟨_,rfl,?_⟩
 rw[iN]at h2⊢
 unfold cell at h2⊢
 rw[bM hq];exact h2
theorem Cq.at{kc:Addr→Option Value}{ad:Addr}{xs:List Value}(h:Cq kc (some ad) xs):∀(i:Nat)(v:Value),xs[i]? = some v→kc (ad.add i)=some v:=fun i v hv=>by
 obtain⟨FH,h1,h2⟩:=h i v hv
 cases h1;exact h2
end
abbrev vL(l:List Nat):List Value:=l.map fun(j:Nat)=>Value.int .i64 (j:Int)
structure QU(o:Bool)(K H:Heap)(g:Nat)(G:GG)(R W m:Nat)(M:Nat→Nat→Rat)(B:Nat→Nat)(u:Value)(l:List Nat):Prop where
 q:QV o H g (G.on (az u++G.top)) R W m M B
 own:bW H u 3 1 l.length (vL l)
 le:Heap.le K (rem H (G.on (az u++G.top)).gs)
section
variable {o o':Bool} {H H' K:Heap} {g:Nat} {G:GG} {R W m:Nat} {M M':Nat→Nat→Rat} {B:Nat→Nat} {u u':Value} {l:List Nat}
theorem QU.xL{q:Nat}(hq:q∈az u):q∈(G.on (az u++G.top)).gs:=List.mem_append_left _ (List.mem_append_left _ hq)
theorem QU.une(h:QU o K H g G R W m M B u l)(hg:g∈G.top){q:Nat}(hq:q∈az u):q≠g:=fun e=>by
 have dT:=h.q.cY.nd
 rw[GG.xJ,List.append_assoc]at dT
 exact(List.nodup_append.1 dT).2.2 q hq g (List.mem_append_left _ hg) e
theorem QU.step(h:QU o K H g G R W m M B u l)(hq:QV o' H' g (G.on (az u++G.top)) R W m M' B)(hl:Heap.le (rem H (G.on (az u++G.top)).gs) (rem H' (G.on (az u++G.top)).gs))(hs:∀q,q∈az u→H' q=H q):QU o' K H' g G R W m M' B u l:=
 ⟨hq,h.own.same fun q pK=>hs q (cM.2 pK),h.le.trans hl⟩
theorem QU.set(h:QU o K H g G R W m M B u l)(hg:g∈G.top){i:Nat}{p:Nat×Nat}(hp:G.rg[i]? = some p)(ht:fS (G.on (az u++G.top)).gs g H H')(iB:H' g=some ⟨[.slice G.Ar R G.cr,G.bv,.bool o'],3,160,true⟩){xs:List Value}{sz:Nat}(hx:H p.1=some ⟨xs,sz,163,true⟩)(iw:bC fA 2 xs (aK (M i) W)){k:Nat}(hk:k<W){vs:List Value}{q:Rat}(hv:fA vs q):
  QU o' K (ins H' p.1 ⟨aL xs (k*2) vs,sz,163,true⟩) g G R W m (iA M i (bV (M i) k q)) B u l:=by
 obtain⟨h1,h2⟩:=h.q.set (G:=G.on (az u++G.top)) hp ht iB hx iw hk hv
 refine h.step h1 h2 fun r hr=> ?_
 have aZ:r≠p.1:=fun e=>GG.ub h.q.cY.nd (q:=r) (r:=p.1) (List.mem_append_left _ hr) (GG.gJ (G:=G.on (az u++G.top)) hp) e
 rw[a6 _ _ aZ]
 exact ht.same r (QU.xL hr) (h.une hg hr)
theorem QU.app(h:QU o K H g G R W m M B u l){k n:Nat}(hn:n=l.length+1)(ha:App H u 3 1 n (vL l ++ [.int .i64 (k:Int)]) u' H')(hg:g∈G.top):QU o K H' g G R W m M B u' (l ++ [k]):=by
 obtain⟨h1,h2⟩:=h.q.cY.app ha
 refine⟨⟨h1,List.mem_append_right _ hg,?_⟩,?_,h.le.trans h2⟩
 ·exact ha.same g _ h.q.st fun e=>h.une hg (cM.2 e) rfl
 ·have:=ha.own
  rw[hn]at this
  rw[List.length_append,vL,List.map_append];exact this
theorem QU.fresh(h:QU o K H g G R W m M B u l){k:Nat}{e:Ent}(hk:H k=none):QU o K (ins H k e) g G R W m M B u l:=by
 obtain⟨h1,h2⟩:=h.q.fresh (e:=e) hk
 refine h.step h1 h2 fun q hq=>a6 _ _ fun e'=> ?_
 subst e'
 exact h.q.cY.ne q (QU.xL hq) hk
theorem QU.down{K':Heap}(h:QU o K H g G R W m M B u l)(hl:Heap.le K' K):QU o K' H g G R W m M B u l:=⟨h.q,h.own,hl.trans h.le⟩
theorem QU.od(h:QU o K H g G R W m M B u l):QU o (rem H (G.on (az u++G.top)).gs) H g G R W m M B u l:=⟨h.q,h.own,.refl _⟩
theorem QU.drop(h:QU o K H g G R W m M B u l)(hg:g∈G.top):QV o H g G R W m M B∧Heap.le K (rem H G.gs):=by
 have hl:Heap.le (rem H (G.on (az u++G.top)).gs) (rem H G.gs):=EP fun q hq=>by
  rw[GG.xJ,List.append_assoc];exact List.mem_append_right _ hq
 have dT:=h.q.cY.nd
 rw[GG.xJ,List.append_assoc]at dT
 exact⟨⟨h.q.cY.Co (t:=G.top) (List.nodup_append.1 dT).2.1 (fun q hq=>h.q.cY.top q (List.mem_append_right _ hq)) (fun _ _=>rfl) hl,hg,h.q.st⟩,h.le.trans hl⟩
theorem QU.rd{A:Option Addr}{n c:Nat}(h:QU o K H g G R W m M B (.slice A n c) l):Rd H A (vL l)∧n=l.length:=by
 have h1:=h.own
 obtain⟨A',c',e⟩:=h1.form
 cases e
 exact⟨h1.rd,rfl⟩
end
end Go.au
namespace Go.au
open Go.Proofs Num Lp
def mj(M:Nat→Nat→Rat)(r c i j:Nat):Rat:=if i=r then M r j/M r c else M i j-M i c*(M r j/M r c)
theorem ajd{n d:Int}(h:fA [.int .i64 n,.int .i64 d] ((n:Rat)/(d:Rat)))(hn:n≠0):∃a b:Int,(a=d∧b=n∧0<n∨a = -d∧b = -n∧n<0)∧fA [.int .i64 a,.int .i64 b] (1/((n:Rat)/(d:Rat))):=by
 obtain⟨n',d',e,h1,h2,h3,h4,_⟩:=h
 simp only[List.cons.injEq,Value.int.injEq,true_and,and_true]at e
 obtain⟨rfl,rfl⟩:=e
 have hd:(d:Rat)≠0:=by exact_mod_cast (show d≠0 by omega)
 have hn':(n:Rat)≠0:=by exact_mod_cast hn
 have e1:1/((n:Rat)/(d:Rat))=(d:Rat)/(n:Rat):=by
  rw[Rat.div_def,Rat.div_def,Rat.div_def,Rat.inv_mul_rev,Rat.inv_inv];grind
 rcases Int.lt_or_gt_of_ne hn with h | h
 ·refine⟨-d,-n,.inr ⟨rfl,rfl,h⟩,-d,-n,rfl,by omega,by omega,by omega,by omega,?_⟩
  rw[e1,Rat.intCast_neg,Rat.intCast_neg,Rat.div_def,Rat.div_def]
  have h1:=Rat.mul_inv_cancel (n:Rat) hn'
  have h2:=Rat.mul_inv_cancel (-(n:Rat)) (by grind)
  grind
 ·exact⟨d,n,.inl ⟨rfl,rfl,h⟩,d,n,rfl,by omega,by omega,by omega,by omega,e1⟩
def eJ(f:Nat→Rat)(k:Nat):List Nat:=(List.range k).filter fun j=>decide (f j≠0)
theorem MT{f:Nat→Rat}{k:Nat}:eJ f (k+1)=eJ f k++(if f k=0 then []else [k]):=by
 unfold eJ
 rw[List.range_succ,List.filter_append]
 congr 1
 by_cases h:f k=0
 ·rw[if_pos h];simp[h]
 ·rw[if_neg h];simp[h]
theorem SK{f:Nat→Rat}{k j:Nat}:j∈eJ f k↔j<k∧f j≠0:=by simp[eJ]
theorem aad(f:Nat→Rat)(k:Nat):(eJ f k).length≤k:=Nat.le_trans (List.length_filter_le _ _) (by simp)
theorem aae(f:Nat→Rat)(k:Nat):(eJ f k).Nodup:=List.Nodup.sublist List.filter_sublist List.nodup_range
theorem aaf{l:List Nat}(h:l.Nodup){t k:Nat}(hk:l[t]? = some k):¬k∈l.take t:=fun hm=>by
 obtain⟨i,hi⟩:=List.getElem?_of_mem hm
 rw[List.getElem?_take]at hi
 split at hi
 ·rename_i bI
  obtain⟨a1,a2⟩:=List.getElem?_eq_some_iff.1 hi
  obtain⟨b1,b2⟩:=List.getElem?_eq_some_iff.1 hk
  have:=(List.getElem_inj h).1 (a2.trans b2.symm)
  omega
 ·cases hi
theorem qX(f:Nat→Rat)(k:Nat)(v:Rat):bV f k v k=v:=by simp[bV]
theorem pz{f:Nat→Rat}{k j:Nat}{v:Rat}(h:j≠k):bV f k v j=f j:=by simp[bV,h]
theorem pA(M:Nat→Nat→Rat)(i:Nat)(f:Nat→Rat):iA M i f i=f:=by simp[iA]
theorem ER{M:Nat→Nat→Rat}{i k:Nat}{f:Nat→Rat}(h:k≠i):iA M i f k=M k:=by simp[iA,h]
theorem MU(M:Nat→Nat→Rat)(i:Nat)(f h:Nat→Rat):iA (iA M i f) i h=iA M i h:=by
 funext k;unfold iA;split <;> rfl
theorem MV(M:Nat→Nat→Rat)(i:Nat):iA M i (M i)=M:=by
 funext k;unfold iA;split
 ·rename_i e;rw[e]
 ·rfl
def Pv1(o o1:Bool)(M:Nat→Nat→Rat)(r c W k:Nat)(f:Nat→Rat):Prop:=(∀j,k≤j→f j=M r j)∧(o1=false→o=false∧∀j,j<k→f j=M r j/M r c)
def zG(o o1:Bool)(M:Nat→Nat→Rat)(r c R W k:Nat)(M1:Nat→Nat→Rat):Prop:=(∀i,k≤i→i≠r→M1 i=M i)∧(o1=false→o=false∧∀i,i<R→∀j,j<W→(i=r∨i<k)→M1 i j=mj M r c i j)
def IS(o1 o2:Bool)(f0 fr:Nat→Rat)(x:Rat)(l:List Nat)(t:Nat)(f:Nat→Rat):Prop:=(o2=false→o1=false∧∀j,f j=if j∈l.take t then f0 j-x*fr j else f0 j)
theorem aag{o1 o2 o3:Bool}{f0 fr f:Nat→Rat}{x q:Rat}{l:List Nat}{t k:Nat}(h:IS o1 o2 f0 fr x l t f)(dT:l.Nodup)(hk:l[t]? = some k)(hq:o3=false→o2=false∧q=f k-x*fr k):IS o1 o3 f0 fr x l (t+1) (bV f k q):=fun h3=>by
 obtain⟨h2,e⟩:=hq h3
 obtain⟨h1,hf⟩:=h h2
 refine⟨h1,fun j=> ?_⟩
 have et:l.take (t+1)=l.take t ++ [k]:=by rw[List.take_add_one,hk];rfl
 by_cases ej:j=k
 ·subst ej
  rw[qX,et,if_pos (List.mem_append_right _ (List.mem_singleton.2 rfl)),e,hf j,if_neg (aaf dT hk)]
 ·rw[pz ej,hf j,et]
  have:(j∈l.take t ++ [k])↔j∈l.take t:=by simp[ej]
  simp only[this]
theorem aah{o o1 o2:Bool}{M M1:Nat→Nat→Rat}{r c R W k:Nat}{f:Nat→Rat}(h:zG o o1 M r c R W k M1)(hc:c<W)(hr:r<R)(tm:k≠r)(h3:IS o1 o2 (M1 k) (M1 r) (M1 k c) (eJ (M r) W) (eJ (M r) W).length f):zG o o2 M r c R W (k+1) (iA M1 k f):=by
 refine⟨fun i hi nL=>by rw[ER (by omega)];exact h.1 i (by omega) nL,fun h2=> ?_⟩
 obtain⟨h1,hf⟩:=h3 h2
 obtain⟨h0,hm⟩:=h.2 h1
 refine⟨h0,fun i hi j hj hd=> ?_⟩
 by_cases e:i=k
 ·subst e
  rw[pA,hf j,List.take_length]
  have e0:M1 i=M i:=h.1 i (Nat.le_refl _) tm
  have er:M1 r j=M r j/M r c:=by
   have:=hm r hr j hj (.inl rfl)
   rw[this];unfold mj;rw[if_pos rfl]
  rw[e0,er]
  unfold mj
  rw[if_neg tm]
  split
  ·rfl
  ·rename_i hn
   have hz:M r j=0:=Classical.byContradiction fun aZ=>hn (SK.2 ⟨hj,aZ⟩)
   rw[hz,Rat.div_def];grind
 ·rw[ER e]
  exact hm i hi j hj (by omega)
theorem MW{o o1:Bool}{M M1:Nat→Nat→Rat}{r c R W k:Nat}(h:zG o o1 M r c R W k M1)(hc:c<W)(hk:k<R)(hs:k=r∨M1 k c=0):zG o o1 M r c R W (k+1) M1:=by
 refine⟨fun i hi nL=>h.1 i (by omega) nL,fun h2=> ?_⟩
 obtain⟨h0,hm⟩:=h.2 h2
 refine⟨h0,fun i hi j hj hd=> ?_⟩
 by_cases e:i=k∧i≠r
 ·obtain⟨rfl,nL⟩:=e
  have e0:M1 i=M i:=h.1 i (Nat.le_refl _) nL
  rcases hs with hs | hs
  ·exact absurd hs nL
  ·rw[e0]at hs⊢
   unfold mj
   rw[if_neg nL,hs];grind
 ·exact hm i hi j hj (by omega)
theorem aai{o:Bool}{H:Heap}{g:Nat}{G:GG}{R W m:Nat}{M:Nat→Nat→Rat}{B:Nat→Nat}{r c:Nat}(h:QV o H g G R W m M B)(hr:r<m)(fy:r<R)(hc:c<W)(hp:M r c≠0)(hR:(R:Int)≤1000000)(hW:(W:Int)≤1000000):
 Fn Tryz.prog 139 #[.pointer (some ⟨g,0,none⟩),.int .i64 (r:Int),.int .i64 (c:Int)] H (fun _ H'=>∃M' o',QV o' H' g G R W m M' (fun i=>if i=r then c else B i)∧(o'=false→o=false∧∀i,i<R→∀j,j<W→M' i j=mj M r c i j)∧Heap.le (rem H G.gs) (rem H' G.gs)):=by
 obtain⟨pr,cU⟩:=h.cY.get fy
 obtain⟨qH,KA,aaj,je⟩:=h.rk
 obtain⟨xr0,sr0,tl,IT⟩:=h.row cU
 obtain⟨n0,d0,hf0,mE,b1,b2,b3,b4,jz⟩:=mS IT hc
 have jA:n0≠0:=fun e=>hp (by rw[jz,e];exact(uc b3).2 rfl)
 rw[jz]at hf0
 obtain⟨a,b,Bh,hinv⟩:=ajd hf0 jA;refine a7 (args:=[_,_,_]) Tryz.func139 rfl rfl Tryz.ntmps139 rfl rfl fun w0=> ?_;refine aj [0,1,2] rfl ?_;refine bO .bL [0,1,2,3,4,5,6,7,8,9,10,11,12,13,14,15,16,17,18,19,20,21,22,23,24] follows (iz [0,1,3,7,0,31,63,0,255,511,1023,0,2048,6144,14336,0,63488,129024,0,522240,1046528,2095104,4194303,0,16777215] (by kernel_rfl)) ?_;refine ab 2 rfl (aU ah rfl rfl rfl (aS ah rfl rfl rfl (h.iR) (ab 1 rfl (aQ ah rfl rfl rfl rfl rfl (aaj) (by rw[Int.toNat_natCast];exact je r pr cU) (by omega) (by omega) fun _=> ?_))));refine ab 1 rfl (px ah rfl rfl rfl rfl rfl rfl rfl (dS tl) (by rw[Int.toNat_natCast];exact mE 1 _ rfl) (by omega) (by omega) fun _ _=> ?_);refine ab 2 rfl (aU ah rfl rfl rfl (aS ah rfl rfl rfl (h.iR) (ab 1 rfl (aQ ah rfl rfl rfl rfl rfl (aaj) (by rw[Int.toNat_natCast];exact je r pr cU) (by omega) (by omega) fun _=> ?_))));refine ab 1 rfl (px ah rfl rfl rfl rfl rfl rfl rfl (dS tl) (by rw[Int.toNat_natCast];exact mE 0 _ rfl) (by omega) (by omega) fun _ _=> ?_);refine dy ah rfl fO rfl rfl (bt fO rfl ?_);obtain⟨ti,ak,al⟩:=eh;refine aH (.inl ⟨rfl,rfl⟩) rfl rfl rfl ak al rfl rfl rfl ?_
 refine ae [0,1,2,6] ?_;refine AJ (fun(x:Int)(y:Int)=>put (put (put (put (emp) 0 (.val (.pointer (some ⟨g,0,none⟩)))) 1 (.val (.int .i64 (r:Int)))) 2 (.val (.int .i64 (c:Int)))) 6 (.box [.int .i64 x,.int .i64 y])) (fun(x:Int)(y:Int) H'=>H'=H∧fA [.int .i64 x,.int .i64 y] (1/M r c)) ?_ ?_
 ·
  refine ag (ab 3 rfl (ae [0,1,2,6,38] ?_));refine aC rfl (fun hb=> ?_) (fun hb=> ?_)
  ·
   have hb:n0<0:=by simpa using hb
   refine aB rfl (ab 2 rfl (te rfl ⟨by omega,by omega⟩ (ab 2 rfl (te rfl ⟨by omega,by omega⟩ (dy ah rfl fO rfl rfl ?_)))));obtain⟨ti,ak,al⟩:=eh;refine aH (.inl ⟨rfl,rfl⟩) rfl rfl rfl ak al rfl rfl rfl (aw ?_);exact⟨-d0,-n0,ar,rfl,by rcases Bh with ⟨_,_,h9⟩ | ⟨rfl,rfl,_⟩;exact absurd h9 (by omega);rw[jz];exact hinv⟩
  ·
   have hb:¬n0<0:=by simpa using hb
   refine aA ?_;exact⟨d0,n0,ar,rfl,by rcases Bh with ⟨rfl,rfl,_⟩ | ⟨_,_,h9⟩;rw[jz];exact hinv;exact absurd h9 (by omega)⟩
 ·
  rintro x y H5 ⟨rfl,qy⟩;refine MP 6 rfl fun g6 e6 nS=> ?_;obtain⟨h6,rV⟩:=h.fresh (e:=⟨[.int .i64 x,.int .i64 y],2,e6,true⟩) nS;have aak:Rd (rem (ins H5 g6 ⟨[.int .i64 x,.int .i64 y],2,e6,true⟩) G.gs) (some ⟨g6,0,none⟩) [.int .i64 x,.int .i64 y]:=MS (dD _ _ _ _ _ _) fun hm=>h.cY.ne _ hm nS
  show VC _ _ _ _ _ _ _ (ins H5 g6 ⟨[.int .i64 x,.int .i64 y],2,e6,true⟩)
  generalize ins H5 g6 ⟨[.int .i64 x,.int .i64 y],2,e6,true⟩=H6 at *
  have SL:QU o (rem H6 G.gs) H6 g G R W m (iA M r (M r)) B (.slice none 0 0) (eJ (M r) 0):=⟨by rw[MV];exact h6,lk _ _ _,.refl _⟩;obtain⟨GD,qK,aje,so⟩:=h6.rk;refine ag (ab 1 rfl (ae [0,1,2,6,7] ?_));refine ao (ag (ab 2 rfl (aU ah rfl rfl rfl (aS ah rfl rfl rfl (h6.iR) (ab 1 rfl (aQ ah rfl rfl rfl rfl rfl (aje) (by rw[Int.toNat_natCast];exact so r pr cU) (by omega) (by omega) fun _=> ?_))))));refine ab 2 rfl (ae [0,1,2,6,7,53,54] ?_);refine aF (oD (fun(k:Nat)(u:Value)(f:Nat→Rat)(o1:Bool)=>W-k) (fun(k:Nat)(u:Value)(f:Nat→Rat)(o1:Bool)=>put (put (put (put (put (put (put (emp) 0 (.val (.pointer (some ⟨g,0,none⟩)))) 1 (.val (.int .i64 (r:Int)))) 2 (.val (.int .i64 (c:Int)))) 6 (.val (.pointer (some ⟨g6,0,none⟩)))) 7 (.val (u))) 53 (.val (.int .i64 (W:Int)))) 54 (.val (.int .i64 (k:Int)))) (fun(k:Nat)(u:Value)(f:Nat→Rat)(o1:Bool) H'=>QU o1 (rem H6 G.gs) H' g G R W m (iA M r f) B u (eJ (M r) k)∧Pv1 o o1 M r c W k f∧k≤W) 0 (.slice none 0 0) (M r) o (⟨SL,⟨fun _ _=>rfl,fun h9=>⟨h9,fun j hj=>absurd hj (Nat.not_lt_zero _)⟩⟩,Nat.zero_le _⟩) ar ?_);rintro k u f o1 H7 ⟨hU,hP,hk⟩;obtain⟨xs7,tJ,ajf,xC⟩:=hU.q.rk;obtain⟨A7,c7,rfl⟩:=hU.own.form;obtain⟨SM,sr7,Cu,xM⟩:=hU.q.row (G:=G.on _) cU
  rw[pA]at xM;have SN:=xM.len;rw[bg]at SN;have ze:=aad (M r) k;refine ag (ab 1 rfl (ae [0,1,2,6,7,53,54,55] ?_));refine ao (aC rfl (fun hb=> ?_) (fun hb=> ?_))
  ·
   have fm:k<W:=by simpa using hb
   obtain⟨n7,d7,QC,sG,i1,i2,i3,i4,iS⟩:=mS xM fm;refine aA (aj [0,1,2,6,7,53,54] rfl ?_);refine ao (aF (ag (ab 2 rfl (ae [0,1,2,6,7,8,53,54] ?_))));refine ag (ab 2 rfl (aU ah rfl rfl rfl (aS ah rfl rfl rfl (hU.q.iR) (ab 1 rfl (aQ ah rfl rfl rfl rfl rfl (ajf) (by rw[Int.toNat_natCast];exact xC r pr cU) (by omega) (by omega) fun _=> ?_)))));refine ab 1 rfl (px ah rfl rfl rfl rfl rfl rfl rfl (dS Cu) (by rw[Int.toNat_natCast];exact sG 0 _ rfl) (by omega) (by omega) fun _ _=> ?_);refine ab 1 rfl (ae [0,1,2,6,7,8,53,54,68] ?_);refine aC rfl (fun hb=> ?_) (fun hb=> ?_)
   ·
    have hb:n7≠0:=by simpa using hb
    have bh:=IP g H7;refine bO (.cO (kW g H7)) [0,1,2,3,4,5,6,7,8,9,10,11,12,13,14,15,16,17,18,19,20,21,22] follows (iz [0,1,3,7,0,31,63,0,0,0,512,1536,3584,0,15872,32256,0,130560,261632,0,1048320,2097151,4194303] (by kernel_rfl)) ?_;refine eN bh rfl (l7 bh rfl (l8 bh ah rfl rfl rfl (ka bh ah rfl rfl rfl (hU.q.k0) (eN bh rfl (Cr bh ah rfl rfl rfl rfl rfl (tJ) (by rw[Int.toNat_natCast];exact xC r pr cU) (by omega) (by omega) fun _=> ?_)))));refine eN bh rfl (eN bh rfl (eN bh rfl (l7 bh rfl (l8 bh ah rfl rfl rfl (ka bh ah rfl rfl rfl (hU.q.k0) (eN bh rfl (Cr bh ah rfl rfl rfl rfl rfl (tJ) (by rw[Int.toNat_natCast];exact xC r pr cU) (by omega) (by omega) fun _=> ?_)))))));refine eN bh rfl (Cs bh ah rfl rfl rfl rfl (zF Cu (hU.q.xK (G:=G.on _) cU)) rfl (by decide) (by rw[Int.toNat_natCast];exact sG) (by omega) (by omega) fun _=> ?_);refine IQ bh ah rfl rfl rfl (((aak.le hU.le).kx hU.q.mem).at) (Ct rfl rfl (SD hU.q.mem hU.q.st QC qy) (fun v H9 oe=>by obtain⟨k1,_,_,_,_,_,k2,_⟩:=oe;exact hU.q.fM k1 k2) ?_);rintro _ H8 ⟨qU,vs8,o8,q8,rfl,hf8,sJ,fo⟩;obtain⟨n8,d8,rfl,_⟩:=id hf8;have bh:=hU.q.fM qU sJ
    have IU:=(qU.same _ (GG.kM (GG.gJ (G:=G.on _) cU)) (hU.q.xK (G:=G.on _) cU)).trans Cu;have xN:=hU.set h.gt cU qU sJ Cu (by rw[pA];exact xM) fm hf8;rw[pA,MU]at xN;obtain⟨ti,ak,al⟩:=eh;refine MQ bh ah rfl rfl rfl (by omega) (by omega) (IU) rfl (by show W*2≤SM.length;omega) ak al (fun _=>rfl) rfl rfl rfl fun _=> ?_;refine ae [0,1,2,6,7,8,53,54] ?_;refine aB rfl (ab 2 rfl (cW Tryz.underlying94 jb rfl rfl rfl rfl rfl rfl rfl ?_));intro gb bx;have qY:=xN.fresh (e:=whole [.int .i64 (k:Int)] 3) bx;refine dR Tryz.underlying94 jb rfl rfl (qY.own) (dD _ _ _ _ _ _) (rfl) (sA _) (by omega) (by omega) ?_;intro u' vt IV;have SO:=qY.app rfl IV h.gt;refine ab 1 rfl (aw (aj [0,1,2,6,7,53,54] rfl ?_));refine aB rfl (aG rfl rfl ⟨by omega,by omega⟩ (ab 1 rfl (aw ?_)))
    have aZ:M r k≠0:=by rw[←hP.1 k (Nat.le_refl _),iS];exact fun h9=>hb ((uc i3).1 h9)
    exact⟨k+1,u',bV f k q8,o8,by omega,ar,by rw[MT,if_neg aZ];exact SO,⟨fun j hj=>by rw[pz (by omega)];exact hP.1 j (by omega),fun h9=>by
     obtain⟨g1,g2⟩:=fo h9;obtain⟨g3,g4⟩:=hP.2 g1;refine⟨g3,fun j hj=> ?_⟩
     by_cases ej:j=k
     ·
      subst ej;rw[qX,g2,hP.1 j (Nat.le_refl _),Rat.div_def,Rat.div_def];grind
     ·rw[pz ej];exact g4 j (by omega)⟩,by omega⟩
   have hb:n7=0:=by simpa using hb
   refine aA (aj [0,1,2,6,7,53,54] rfl ?_);refine aB rfl (aG rfl rfl ⟨by omega,by omega⟩ (ab 1 rfl (aw ?_)))
   have hz:M r k=0:=by rw[←hP.1 k (Nat.le_refl _),iS];exact(uc i3).2 hb
   exact⟨k+1,_,f,o1,by omega,ar,by rw[MT,if_pos hz,List.append_nil];exact hU,⟨fun j hj=>hP.1 j (by omega),fun h9=>by
    obtain⟨g3,g4⟩:=hP.2 h9;refine⟨g3,fun j hj=> ?_⟩
    by_cases ej:j=k
    ·
     subst ej;rw[hP.1 j (Nat.le_refl _),hz,Rat.div_def];grind
    ·exact g4 j (by omega)⟩,by omega⟩
  have hb:W≤k:=by simpa using hb
  obtain rfl:k=W:=by omega
  have SP:zG o o1 M r c R k 0 (iA M r f):=⟨fun i _ hi=>ER hi,fun h9=>by
   obtain⟨g3,g4⟩:=hP.2 h9;refine⟨g3,fun i _ j hj hd=> ?_⟩
   obtain rfl:i=r:=by omega
   rw[pA,g4 j hj];unfold mj;rw[if_pos rfl]⟩
  have dT:=aae (M r) k;refine aV (aj [0,1,2,7] rfl ?_);refine ao (ag (ab 2 rfl (aU ah rfl rfl rfl (aS ah rfl rfl rfl (hU.q.iR) (ab 2 rfl (ae [0,1,2,7,100,101] ?_))))));refine aF (fZ (fun(i:Nat)(M1:Nat→Nat→Rat)(o3:Bool)=>R-i) (fun(i:Nat)(M1:Nat→Nat→Rat)(o3:Bool)=>put (put (put (put (put (put (emp) 0 (.val (.pointer (some ⟨g,0,none⟩)))) 1 (.val (.int .i64 (r:Int)))) 2 (.val (.int .i64 (c:Int)))) 7 (.val (.slice A7 (eJ (M r) k).length c7))) 100 (.val (.int .i64 (R:Int)))) 101 (.val (.int .i64 (i:Int)))) (fun(i:Nat)(M1:Nat→Nat→Rat)(o3:Bool) H'=>QU o3 (rem H6 G.gs) H' g G R k m M1 B (.slice A7 (eJ (M r) k).length c7) (eJ (M r) k)∧zG o o3 M r c R k i M1∧i≤R) 0 (iA M r f) o1 (⟨hU,SP,Nat.zero_le _⟩) ar ?_);rintro i M1 o3 ks ⟨hV,hQ,hi⟩;obtain⟨ant,Cg,aal,aam⟩:=hV.q.rk;refine ag (ab 1 rfl (ae [0,1,2,7,100,101,102] ?_));refine ao (aC rfl (fun hb=> ?_) (fun hb=> ?_))
  ·
   have ue:i<R:=by simpa using hb
   obtain⟨pi,cS⟩:=h.cY.get ue;obtain⟨ajg,ajh,IW,SQ⟩:=hV.q.row (G:=G.on _) cS;obtain⟨sK,d11,anu,EK,j1,j2,j3,j4,Cv⟩:=mS SQ hc;refine aA (aj [0,1,2,7,100,101] rfl ?_);refine ao (aF (ag (ab 2 rfl (ae [0,1,2,7,9,100,101] ?_))));refine ao ?_
   by_cases h1:i=r
   ·
    skip
    refine ag (ab 2 rfl (aI true rfl rfl (jY (by omega)) (ab 14 rfl (ae [0,1,2,7,9,100,101,120] ?_))));refine dN rfl (aV (aj [0,1,2,7,100,101] rfl ?_));refine aB rfl (aG rfl rfl ⟨by omega,by omega⟩ (ab 1 rfl (aw ?_)));exact⟨i+1,M1,o3,by omega,ar,hV,MW hQ hc ue (.inl h1),by omega⟩
   skip
   refine ag (ab 2 rfl (aI false rfl rfl (ln (by omega)) (ab 3 rfl (aU ah rfl rfl rfl (aS ah rfl rfl rfl (hV.q.iR) (ab 1 rfl (aQ ah rfl rfl rfl rfl rfl (aal) (by rw[Int.toNat_natCast];exact aam i pi cS) (by omega) (by omega) fun _=> ?_)))))));refine ab 1 rfl (px ah rfl rfl rfl rfl rfl rfl rfl (dS IW) (by rw[Int.toNat_natCast];exact EK 0 _ rfl) (by omega) (by omega) fun _ _=> ?_);refine ab 2 rfl (ae [0,1,2,7,9,100,101,120] ?_);refine aC rfl (fun hb=> ?_) (fun hb=> ?_)
   ·
    have hb:sK=0:=by simpa using hb
    refine aV (aj [0,1,2,7,100,101] rfl ?_);refine aB rfl (aG rfl rfl ⟨by omega,by omega⟩ (ab 1 rfl (aw ?_)));exact⟨i+1,M1,o3,by omega,ar,hV,MW hQ hc ue (.inr (by rw[Cv];exact(uc j3).2 hb)),by omega⟩
   have hb:sK≠0:=by simpa using hb
   refine aA (aj [0,1,2,7,9,100,101] rfl ?_);refine ag (ab 2 rfl (aU ah rfl rfl rfl (aS ah rfl rfl rfl (hV.q.iR) (ab 1 rfl (aQ ah rfl rfl rfl rfl rfl (aal) (by rw[Int.toNat_natCast];exact aam i pi cS) (by omega) (by omega) fun _=> ?_)))));refine ab 1 rfl (ck (vs:=[.int .i64 sK,.int .i64 d11]) ah rfl rfl rfl rfl (dS IW) rfl (by decide) (by rw[Int.toNat_natCast];exact EK) (by omega) (by omega) fun _=> ?_);refine bt fO rfl ?_;obtain⟨ti,ak,al⟩:=eh;refine aH (.inl ⟨rfl,rfl⟩) rfl rfl rfl ak al rfl rfl rfl (ae [0,1,2,7,9,10,100,101] ?_);refine MP 10 rfl fun g10 BU tL=> ?_;obtain⟨_,nE⟩:=hV.q.fresh (e:=⟨[.int .i64 sK,.int .i64 d11],2,BU,true⟩) tL;have ES:=hV.fresh (e:=⟨[.int .i64 sK,.int .i64 d11],2,BU,true⟩) tL;have aji:Rd (rem (ins ks g10 ⟨[.int .i64 sK,.int .i64 d11],2,BU,true⟩) (G.on (az (.slice A7 (eJ (M r) k).length c7)++G.top)).gs) (some ⟨g10,0,none⟩) [.int .i64 sK,.int .i64 d11]:=MS (dD _ _ _ _ _ _) fun hm=>hV.q.cY.ne _ hm tL
   show VC _ _ _ _ _ _ _ (ins ks g10 ⟨[.int .i64 sK,.int .i64 d11],2,BU,true⟩)
   generalize ins ks g10 ⟨[.int .i64 sK,.int .i64 d11],2,BU,true⟩=dK at *
   have IX:=ES.od;rw[←MV M1 i]at IX;refine ag (ab 3 rfl (ae [0,1,2,7,9,10,100,101,131,132,133] ?_));refine aF (fZ (fun(t:Nat)(f2:Nat→Rat)(o4:Bool)=>(eJ (M r) k).length-t) (fun(t:Nat)(f2:Nat→Rat)(o4:Bool)=>put (put (put (put (put (put (put (put (put (put (put (emp) 0 (.val (.pointer (some ⟨g,0,none⟩)))) 1 (.val (.int .i64 (r:Int)))) 2 (.val (.int .i64 (c:Int)))) 7 (.val (.slice A7 (eJ (M r) k).length c7))) 9 (.val (.int .i64 (i:Int)))) 10 (.val (.pointer (some ⟨g10,0,none⟩)))) 100 (.val (.int .i64 (R:Int)))) 101 (.val (.int .i64 (i:Int)))) 131 (.val (.slice A7 (eJ (M r) k).length c7))) 132 (.val (.int .i64 ((eJ (M r) k).length:Int)))) 133 (.val (.int .i64 (t:Int)))) (fun(t:Nat)(f2:Nat→Rat)(o4:Bool) H'=>QU o4 (rem dK (G.on (az (.slice A7 (eJ (M r) k).length c7)++G.top)).gs) H' g G R k m (iA M1 i f2) B (.slice A7 (eJ (M r) k).length c7) (eJ (M r) k)∧IS o3 o4 (M1 i) (M1 r) (M1 i c) (eJ (M r) k) t f2∧t≤(eJ (M r) k).length) 0 (M1 i) o3 (⟨IX,fun h9=>⟨h9,fun j=>by simp⟩,Nat.zero_le _⟩) ar ?_);rintro t f2 o4 ma ⟨hX,ET,ht⟩;obtain⟨ajj,xD,aan,IY⟩:=hX.q.rk;obtain⟨MX,aao,zH,ug⟩:=hX.q.row (G:=G.on _) cS;obtain⟨ajk,ajl,SR,IZ⟩:=hX.q.row (G:=G.on _) cU;rw[pA]at ug;rw[ER (fun e=>h1 e.symm)]at IZ;have SS:=ug.len;rw[bg]at SS
   refine ag (ab 1 rfl (ae [0,1,2,7,9,10,100,101,131,132,133,134] ?_));refine ao (aC rfl (fun hb=> ?_) (fun hb=> ?_))
   ·
    have jq:t<(eJ (M r) k).length:=by simpa using hb
    obtain⟨kk,bT⟩:∃kk,(eJ (M r) k)[t]? = some kk:=⟨_,List.getElem?_eq_getElem jq⟩;have fm:kk<k:=(SK.1 (List.mem_of_getElem? bT)).1;obtain⟨Q0,d13,ajm,SU,_,_,_,_,_⟩:=mS ug fm;obtain⟨n14,d14,ajn,I0,_,_,_,_,_⟩:=mS IZ fm;refine aA (aj [0,1,2,7,9,10,100,101,131,132,133] rfl ?_);refine ao (aF (ag (aQ ah rfl rfl rfl rfl rfl (hX.rd.1) (by rw[Int.toNat_natCast];show (List.map _ _)[t]? = _;rw[List.getElem?_map,bT];rfl) (by omega) (by omega) fun _=> ?_)));refine ab 1 rfl (ae [0,1,2,7,9,10,12,100,101,131,132,133] ?_);have bh:=IP g ma;refine eu (.cO (kW g ma)) [0,1,2,3,4,5,6,7,8,9,10,11,12,13,14,15,16,17,18,19,20,21,22,23,24,25,26,27,28,29,30,31,32,33,34] follows (iz [0,1,3,7,0,31,63,0,0,0,512,1536,3584,0,15872,32256,0,130560,261632,0,0,0,2097152,6291456,14680064,0,65011712,132120576,0,534773760,1071644672,2146959360,4294967040,8589934591,17179869183] (by kernel_rfl)) ?_;refine eN bh rfl (l7 bh rfl (l8 bh ah rfl rfl rfl (ka bh ah rfl rfl rfl (hX.q.k0) (eN bh rfl (Cr bh ah rfl rfl rfl rfl rfl (xD) (by rw[Int.toNat_natCast];exact IY i pi cS) (by omega) (by omega) fun _=> ?_)))));refine eN bh rfl (eN bh rfl ?_)
    refine eN bh rfl (l7 bh rfl (l8 bh ah rfl rfl rfl (ka bh ah rfl rfl rfl (hX.q.k0) (eN bh rfl (Cr bh ah rfl rfl rfl rfl rfl (xD) (by rw[Int.toNat_natCast];exact IY i pi cS) (by omega) (by omega) fun _=> ?_)))));refine eN bh rfl (Cs bh ah rfl rfl rfl rfl (zF zH (hX.q.xK (G:=G.on _) cS)) rfl (by decide) (by rw[Int.toNat_natCast];exact SU) (by omega) (by omega) fun _=> ?_);refine eN bh rfl (IQ bh ah rfl rfl rfl (((aji.le hX.le).kx hX.q.mem).at) (eN bh rfl (l7 bh rfl (l8 bh ah rfl rfl rfl (ka bh ah rfl rfl rfl (hX.q.k0) (eN bh rfl (Cr bh ah rfl rfl rfl rfl rfl (xD) (by rw[Int.toNat_natCast];exact IY r pr cU) (by omega) (by omega) fun _=> ?_)))))));refine eN bh rfl (Cs bh ah rfl rfl rfl rfl (zF SR (hX.q.xK (G:=G.on _) cU)) rfl (by decide) (by rw[Int.toNat_natCast];exact I0) (by omega) (by omega) fun _=> ?_);refine Ct rfl rfl (SD hX.q.mem hX.q.st (show fA _ (M1 i c) by rw[Cv];exact⟨sK,d11,rfl,j1,j2,j3,j4,rfl⟩) ajn) (fun v H9 oe=>by obtain⟨k1,_,_,_,_,_,k2,_⟩:=oe;exact hX.q.fM k1 k2) ?_;rintro v14 qb ⟨xO,anv,o14,q14,rfl,ajo,aap,MY⟩;have bh:=hX.q.fM xO aap;refine Ct rfl rfl (SE hX.q.mem aap ajm ajo) (fun v H9 oe=>by obtain⟨k1,_,_,_,_,_,k2,_⟩:=oe;exact hX.q.fM (xO.trans k1) k2) ?_
    rintro SV mP ⟨SW,anw,o15,q15,rfl,aaq,aar,I1⟩;obtain⟨n15,d15,rfl,_⟩:=id aaq;have bh:=hX.q.fM (xO.trans SW) aar;have SX:=((xO.trans SW).same _ (GG.kM (GG.gJ (G:=G.on _) cS)) (hX.q.xK (G:=G.on _) cS)).trans zH;have I3:=hX.set h.gt cS (xO.trans SW) aar zH (by rw[pA];exact ug) fm aaq;rw[pA,MU]at I3;obtain⟨ti,ak,al⟩:=eh;refine MQ bh ah rfl rfl rfl (by omega) (by omega) (SX) rfl (by show k*2≤MX.length;omega) ak al (fun _=>rfl) rfl rfl rfl fun _=> ?_;refine aw (aj [0,1,2,7,9,10,100,101,131,132,133] rfl ?_);refine aB rfl (aG rfl rfl ⟨by omega,by omega⟩ (ab 1 rfl (aw ?_)));exact⟨t+1,bV f2 kk q15,o15,by omega,ar,I3,aag ET dT bT fun h9=>⟨(MY (I1 h9).1).1,by rw[(I1 h9).2,(MY (I1 h9).1).2]⟩,by omega⟩
   have jq:(eJ (M r) k).length≤t:=by simpa using hb
   obtain rfl:t=(eJ (M r) k).length:=by omega
   refine aV (aj [0,1,2,7,100,101] rfl ?_);refine aB rfl (aG rfl rfl ⟨by omega,by omega⟩ (ab 1 rfl (aw ?_)));exact⟨i+1,iA M1 i f2,o4,by omega,ar,hX.down (hV.le.trans nE),aah hQ hc fy h1 ET,by omega⟩
  have ue:R≤i:=by simpa using hb
  obtain rfl:i=R:=by omega
  obtain⟨hD,EU⟩:=hV.drop h.gt
  obtain⟨gb,cb,sz,lx,dh,bx⟩:∃gb cb sz,G.bb = [gb]∧G.bv = .slice (some ⟨gb,0,none⟩) m cb∧ks gb=some ⟨eL B m,sz,3,true⟩:=by
   rcases hD.cY.basis with h7 | h7
   ·have:=h7.1;omega
   ·exact h7
  have hm:gb∈G.gs:=GG.kM (GG.mK (by rw[lx];exact List.mem_singleton.2 rfl));have ajp:g≠gb:=GG.ub hD.cY.nd hD.gt (GG.mK (by rw[lx];exact List.mem_singleton.2 rfl));refine aV (aj [0,1,2] rfl ?_);refine aB rfl (ab 2 rfl (aU ah rfl rfl rfl (aS ah rfl rfl rfl (show cell ks _=some (.slice (some ⟨gb,0,none⟩) m cb)from by rw[←dh];exact hD.mR) ?_)));refine vr 2 ?_;obtain⟨ti,ak,al⟩:=pM;refine cQ (.inl rfl) ah rfl rfl rfl (by omega) (by omega) (bx) rfl (by show 0+m*1≤(eL B m).length;rw[By];omega) ak al (fun _=>rfl) rfl rfl rfl fun _=> ?_;refine aw ?_;refine⟨.inl rfl,_,.nil,?_⟩
  have he:({(⟨eL B m,sz,3,true⟩:Ent)with xs:=aL (eL B m) (0+((r:Int)).toNat*1) [.int .i64 (c:Int)]}:Ent)=⟨eL (fun i=>if i=r then c else B i) m,sz,3,true⟩:=by
   rw[Int.toNat_natCast,Nat.mul_one,Nat.zero_add,←Qh];rfl
  rw[he];refine⟨M1,o3,⟨hD.cY.DV lx dh,hD.gt,by rw[a6 _ _ ajp];exact hD.st⟩,fun h9=>⟨(hQ.2 h9).1,fun i hi j hj=>(hQ.2 h9).2 i hi j hj (.inr hi)⟩,?_⟩;rw[cF _ hm];exact rV.trans EU
end Go.au
namespace Go.au
open Go.Proofs Num Lp
def mT(M:Nat→Nat→Rat)(B:Nat→Nat)(n c k r:Nat)(q:Rat):Prop:=q=M r n/M r c∧∀i,i<k→0<M i c→q<M i n/M i c∨(q=M i n/M i c∧B r≤B i)
section
variable {M:Nat→Nat→Rat} {B:Nat→Nat} {n c k r:Nat} {q x:Rat}
theorem aas(h:mT M B n c k r q)(hk:M k c≤0):mT M B n c (k+1) r q:=⟨h.1,fun i hi hp=>by
 by_cases e:i=k
 ·subst e;grind
 ·exact h.2 i (by omega) hp⟩
theorem MZ(h:mT M B n c k r q)(hx:x=M k n/M k c)(hk:q<x∨(x=q∧¬B k<B r)):mT M B n c (k+1) r q:=⟨h.1,fun i hi hp=>by
 by_cases e:i=k
 ·subst e
  rw[←hx]
  rcases hk with hk | ⟨hk,hb⟩
  ·exact .inl hk
  ·exact .inr ⟨hk.symm,by omega⟩
 ·exact h.2 i (by omega) hp⟩
theorem M0(h:mT M B n c k r q)(hx:x=M k n/M k c)(hk:x<q∨(x=q∧B k<B r)):mT M B n c (k+1) k x:=⟨hx,fun i hi hp=>by
 by_cases e:i=k
 ·subst e;exact .inr ⟨hx,Nat.le_refl _⟩
 ·rcases hk with hk | ⟨hk,hb⟩
  ·rcases h.2 i (by omega) hp with h1 | ⟨h1,_⟩
   ·exact .inl (by grind)
   ·exact .inl (by grind)
  ·rcases h.2 i (by omega) hp with h1 | ⟨h1,h2⟩
   ·exact .inl (by rw[hk];exact h1)
   ·exact .inr ⟨by rw[hk];exact h1,by omega⟩⟩
theorem aat(h:∀i,i<k→M i c≤0)(hx:x=M k n/M k c):mT M B n c (k+1) k x:=⟨hx,fun i hi hp=>by
 by_cases e:i=k
 ·subst e;exact .inr ⟨hx,Nat.le_refl _⟩
 ·have:=h i (by omega);grind⟩
end
theorem aau{n d:Int}(h:1≤d):0<(n:Rat)/(d:Rat)↔0<n:=by
 have h1:=MR (n:=n) h
 have h2:=uc (n:=n) h
 constructor
 ·intro h3
  rcases Int.lt_trichotomy n 0 with k | k | k
  ·have:=h1.2 k;grind
  ·have:=h2.2 k;grind
  ·exact k
 ·intro h3
  have k1:¬(n:Rat)/(d:Rat)<0:=fun k=>by have:=h1.1 k;omega
  have k2:¬(n:Rat)/(d:Rat)=0:=fun k=>by have:=h2.1 k;omega
  grind
theorem aav{a b c d:Int}(hb:1≤b)(hd:1≤d):((a*d-c*b<0)↔(a:Rat)/(b:Rat)<(c:Rat)/(d:Rat))∧((a*d-c*b=0)↔(a:Rat)/(b:Rat)=(c:Rat)/(d:Rat)):=by
 have h1:=Z8 (n:=a) (a:=c) hb hd
 have h2:=ML hb hd
 have h3:=MR (n:=a*d-c*b) h2
 have h4:=uc (n:=a*d-c*b) h2
 rw[h1]at h3 h4
 exact⟨⟨fun h=>by have:=h3.2 h;grind,fun h=>h3.1 (by grind)⟩,⟨fun h=>by have:=h4.2 h;grind,fun h=>h4.1 (by grind)⟩⟩
theorem ajq{a b c d:Int}(hb:1≤b)(hd:1≤d)(hc:0<c):((a*d:Int):Rat)/((b*c:Int):Rat)=(a:Rat)/(b:Rat)/((c:Rat)/(d:Rat)):=by
 have h1:(c:Rat)≠0:=by exact_mod_cast (show c≠0 by omega)
 rw[Z7,Rat.div_def ((a:Rat)/b),Rat.div_def (c:Rat) d,Rat.inv_mul_rev,Rat.inv_inv,Rat.div_def (d:Rat) c]
structure I4 where
 i:Nat
 z:Int
 a:Int
 b:Int
 o:Bool
def SY(o:Bool)(M:Nat→Nat→Rat)(B:Nat→Nat)(n c:Nat)(y:I4):Prop:=(y.o=false→o=false)∧((y.z = -1∧∀i,i<y.i→M i c≤0)∨∃(r:Nat)(q:Rat),y.z=(r:Int)∧r<y.i∧0<M r c∧fA [.int .i64 y.a,.int .i64 y.b] q∧(y.o=false→mT M B n c y.i r q))
theorem ajr{o:Bool}{M:Nat→Nat→Rat}{B:Nat→Nat}{n c:Nat}{y:I4}(h:SY o M B n c y)(hk:M y.i c≤0):SY o M B n c ⟨y.i+1,y.z,y.a,y.b,y.o⟩:=by
 refine⟨h.1,?_⟩
 rcases h.2 with ⟨h1,h2⟩ | ⟨r,q,h1,h2,h3,h4,h5⟩
 ·refine .inl ⟨h1,fun i hi=> ?_⟩
  by_cases e:i=y.i
  ·rw[e];exact hk
  ·exact h2 i (by have:i<y.i+1:=hi;omega)
 ·exact .inr ⟨r,q,h1,Nat.lt_succ_of_lt h2,h3,h4,fun h9=>aas (h5 h9) hk⟩
def LvP(o o':Bool)(M:Nat→Nat→Rat)(B:Nat→Nat)(n c m:Nat)(z:Int):Prop:=(o'=false→o=false)∧((z = -1∧∀i,i<m→M i c≤0)∨∃r:Nat,z=(r:Int)∧r<m∧0<M r c∧(o'=false→∃q,mT M B n c m r q))
theorem ajs{o:Bool}{H:Heap}{g:Nat}{G:GG}{R W m:Nat}{M:Nat→Nat→Rat}{B:Nat→Nat}{c:Nat}(h:QV o H g G R W m M B)(S0:m≤R)(hc:c<W)(hR:(R:Int)≤1000000)(hW:(W:Int)≤1000000):
 Fn Tryz.prog 190 #[.pointer (some ⟨g,0,none⟩),.int .i64 (c:Int)] H (fun v H'=>∃z o',v = .int .i64 z∧fS G.gs g H H'∧H' g=some ⟨[.slice G.Ar R G.cr,G.bv,.bool o'],3,160,true⟩∧LvP o o' M B (W-1) c m z):=by
 obtain⟨Ab,cb,dh,fV⟩:∃Ab cb,G.bv = .slice Ab m cb∧∀o' H',QV o' H' g G R W m M B→∀i,i<m→Rd H' Ab (eL B m):=by
  rcases h.cY.basis with ⟨h1,h2,h3⟩ | ⟨gb,cb,sz,h1,h2,h3⟩
  ·exact⟨none,0,by rw[h3,h1],fun _ _ _ i hi=>by omega⟩
  ·
   refine⟨_,cb,h2,fun o' H' h' i hi=> ?_⟩
   rcases h'.cY.basis with ⟨k1,k2,k3⟩ | ⟨Cw,M6,eS,k1,k2,k3⟩
   ·omega
   ·rw[h1]at k1;cases k1;exact dS k3
 refine a7 (args:=[_,_]) Tryz.func190 rfl rfl Tryz.ntmps190 rfl rfl fun w0=> ?_;refine aj [0,1] rfl ?_;refine ag (ab 1 rfl (ae [0,1] ?_));refine ag (dy ah rfl fO rfl rfl (bt fO rfl (vr 1 ?_)));obtain⟨ti,ak,al⟩:=eh;refine aH (.inl ⟨rfl,rfl⟩) rfl rfl rfl ak al rfl rfl rfl (ae [0,1,5,6] ?_);refine ao (ag (ab 2 rfl (aU ah rfl rfl rfl (aS ah rfl rfl rfl (show cell H _=some (.slice Ab m cb)from by rw[←dh];exact h.mR) ?_))));refine ab 2 rfl (ae [0,1,5,6,17,18] ?_);refine aF (gG (fun(y:I4)=>m-y.i) (fun(y:I4)=>put (put (put (put (put (put (emp) 0 (.val (.pointer (some ⟨g,0,none⟩)))) 1 (.val (.int .i64 (c:Int)))) 5 (.val (.int .i64 y.z))) 6 (.box [.int .i64 y.a,.int .i64 y.b])) 17 (.val (.int .i64 (m:Int)))) 18 (.val (.int .i64 (y.i:Int)))) (fun(y:I4) H'=>fS G.gs g H H'∧H' g=some ⟨[.slice G.Ar R G.cr,G.bv,.bool y.o],3,160,true⟩∧y.i≤m∧SY o M B (W-1) c y) ⟨0,-1,0,0,o⟩ (⟨(Kept.refl _ _).iD _,h.st,Nat.zero_le _,fun h9=>h9,.inl ⟨rfl,fun i hi=>absurd hi (Nat.not_lt_zero _)⟩⟩) ar ?_);rintro y H2 ⟨fe,EW,hym,hI⟩;have bU:=h.uz fe EW;obtain⟨xs2,fN,M7,eP⟩:=bU.rk;refine ag (ab 1 rfl (ae [0,1,5,6,17,18,19] ?_))
 refine ao (aC rfl (fun hb=> ?_) (fun hb=> ?_))
 ·
  have aT:y.i<m:=by simpa using hb
  obtain⟨pi,cS⟩:=h.cY.get (show y.i<R by omega);obtain⟨xi,si,sI,xP⟩:=bU.row cS;obtain⟨n1,d1,iX,iq,i1,i2,i3,i4,oM⟩:=mS xP hc;obtain⟨n2,d2,jV,nu,j1,j2,j3,j4,dF⟩:=mS xP (show W-1<W by omega);refine aA (aj [0,1,5,6,17,18] rfl ?_);refine ao (aF (ag (ab 2 rfl (ae [0,1,5,6,7,17,18] ?_))));refine ao (ag (ab 2 rfl (aU ah rfl rfl rfl (aS ah rfl rfl rfl (bU.iR) (ab 1 rfl (aQ ah rfl rfl rfl rfl rfl (M7) (by rw[Int.toNat_natCast];exact eP y.i pi cS) (by omega) (by omega) fun _=> ?_))))));refine ab 1 rfl (px ah rfl rfl rfl rfl rfl rfl rfl (dS sI) (by rw[Int.toNat_natCast];exact iq 0 _ rfl) (by omega) (by omega) fun _ _=> ?_);refine ab 1 rfl (ae [0,1,5,6,7,17,18,32] ?_);refine aC rfl (fun hb=> ?_) (fun hb=> ?_)
  ·
   have hb:n1≤0:=by simpa using hb
   refine aV (aj [0,1,5,6,17,18] rfl ?_);refine aB rfl (aG rfl rfl ⟨by omega,by omega⟩ (ab 1 rfl (aw ?_)));exact⟨⟨y.i+1,y.z,y.a,y.b,y.o⟩,(show m-(y.i+1)<m-y.i by omega),ar,fe,EW,(show y.i+1≤m by omega),ajr hI (by rw[oM];have:=(aau (n:=n1) i3).1;grind)⟩
  ·
   have hb:0<n1:=by simpa using hb
   have fF:0<M y.i c:=by rw[oM];exact(aau i3).2 hb
   have m1:=xI (a:=n2) (b:=d1) j1 j2 (by omega) i4;have m2:=xI (a:=d2) (b:=n1) (by omega) j4 (by omega) i2;have m3:=ML (a:=d2) (b:=n1) j3 (by omega);refine aA (aj [0,1,5,6,7,17,18] rfl ?_);refine bO (.pE [8,9]) [0,1,2,3,4,5,6,7,8,9,10,11,12,13,14,15,16,17,18,19,20,21,22,23,24,25,26,27,28,29,30,31] follows (iz [0,1,3,7,0,31,63,0,128,384,896,0,3968,8064,16256,32640,65535,131071,0,262144,786432,1835008,0,8126464,16515072,0,66846720,133955584,0,0,805568511,2147483647] (by kernel_rfl)) ?_;refine ab 2 rfl (aU ah rfl rfl rfl (aS ah rfl rfl rfl (bU.iR) (ab 1 rfl (aQ ah rfl rfl rfl rfl rfl (M7) (by rw[Int.toNat_natCast];exact eP y.i pi cS) (by omega) (by omega) fun _=> ?_))));refine ab 2 rfl (aU ah rfl rfl rfl (aS ah rfl rfl rfl (bU.iR) (ab 1 rfl (aQ ah rfl rfl rfl rfl rfl (M7) (by rw[Int.toNat_natCast];exact eP y.i pi cS) (by omega) (by omega) fun _=> ?_))));refine ab 1 rfl (cV rfl rfl ⟨by omega,by omega⟩ (ck (vs:=[.int .i64 n2,.int .i64 d2]) ah rfl rfl rfl rfl (dS sI) rfl (by decide) (by rw[show ((W:Int)-1).toNat=W-1 by omega];exact nu) (by omega) (by omega) fun _=> ?_));refine ab 2 rfl (aU ah rfl rfl rfl ?_)
   refine aS ah rfl rfl rfl (bU.iR) (ab 1 rfl (aQ ah rfl rfl rfl rfl rfl (M7) (by rw[Int.toNat_natCast];exact eP y.i pi cS) (by omega) (by omega) fun _=> ?_));refine ab 1 rfl (ck (vs:=[.int .i64 n1,.int .i64 d1]) ah rfl rfl rfl rfl (dS sI) rfl (by decide) (by rw[Int.toNat_natCast];exact iq) (by omega) (by omega) fun _=> ?_);refine bt fO rfl (bt fO rfl ?_);obtain⟨ti,ak,al⟩:=eh;refine aH (.inl ⟨rfl,rfl⟩) rfl rfl rfl ak al rfl rfl rfl ?_;obtain⟨ti,ak,al⟩:=eh;refine aH (.inl ⟨rfl,rfl⟩) rfl rfl rfl ak al rfl rfl rfl (ae [0,1,5,6,7,8,9,17,18] ?_);refine ag (ab 5 rfl (gM rfl rfl ⟨by omega,by omega⟩ (ab 4 rfl (gM rfl rfl ⟨by omega,by omega⟩ (aE rfl rfl (SC bU.mem EW (n:=n2*d1) (d:=d2*n1) (by omega) (by omega) m3 (by omega)) ?_)))));rintro v8 H8 ⟨qU,vs8,o8,xq,rfl,M8,sJ,fo⟩;obtain⟨xn,xd,rfl,x1,x2,x3,x4,hxq⟩:=id M8;refine bt fO rfl ?_;obtain⟨ti,ak,al⟩:=eh;refine aH (.inl ⟨rfl,rfl⟩) rfl rfl rfl ak al rfl rfl rfl (ae [0,1,5,6,7,10,17,18] ?_);have EX:=fe.trans qU
   have jm:o8=false→xq=M y.i (W-1)/M y.i c:=fun h9=>by rw[(fo h9).2,ajq j3 i3 hb,←oM,←dF]
   have zI:=h.uz EX sJ;refine ag (ab 1 rfl (ae [0,1,5,6,7,10,11,17,18] ?_));refine kE (fun(s:Int)=>put (put (put (put (put (put (put (put (put (emp) 0 (.val (.pointer (some ⟨g,0,none⟩)))) 1 (.val (.int .i64 (c:Int)))) 5 (.val (.int .i64 y.z))) 6 (.box [.int .i64 y.a,.int .i64 y.b])) 7 (.val (.int .i64 (y.i:Int)))) 10 (.box [.int .i64 xn,.int .i64 xd])) 11 (.val (.int .i64 s))) 17 (.val (.int .i64 (m:Int)))) 18 (.val (.int .i64 (y.i:Int)))) (fun(s:Int) H'=>H'=H8∧((y.z = -1∧s = -1∧∀i,i<y.i→M i c≤0)∨∃(r:Nat)(q:Rat),y.z=(r:Int)∧r<y.i∧0<M r c∧fA [.int .i64 y.a,.int .i64 y.b] q∧(y.o=false→mT M B (W-1) c y.i r q)∧(s<0↔xq<q)∧(s=0↔xq=q))) ?_ ?_
   ·
    refine ag (ab 2 rfl (ae [0,1,5,6,7,10,11,17,18,74] ?_));refine aC rfl (fun hb=> ?_) (fun hb=> ?_)
    ·
     have hb:0≤y.z:=by simpa using hb
     obtain⟨r,q,ez,xQ,cU,nD,hL⟩:∃(r:Nat)(q:Rat),y.z=(r:Int)∧r<y.i∧0<M r c∧fA [.int .i64 y.a,.int .i64 y.b] q∧(y.o=false→mT M B (W-1) c y.i r q):=by
      rcases hI.2 with ⟨ez,_⟩ | h9
      ·omega
      ·exact h9
     obtain⟨a9,b9,e9,y1,y2,y3,y4,LS⟩:=id nD
     simp only[List.cons.injEq,Value.int.injEq,true_and,and_true]at e9
     obtain⟨rfl,rfl⟩:=e9;have m4:=xI (a:=xn) (b:=y.b) x1 x2 (by omega) y4;have m5:=xI (a:=y.a) (b:=xd) y1 y2 (by omega) x4;refine aB rfl (ab 4 rfl (gM rfl rfl ⟨by omega,by omega⟩ (ab 4 rfl (gM rfl rfl ⟨by omega,by omega⟩ (cV rfl rfl ⟨by omega,by omega⟩ (ab 1 rfl (aw ?_)))))));exact⟨_,ar,rfl,.inr ⟨r,q,ez,xQ,cU,nD,hL,by rw[hxq,LS];exact(aav x3 y3).1,by rw[hxq,LS];exact(aav x3 y3).2⟩⟩
    have hb:y.z<0:=by simpa using hb
    refine aA ?_
    skip
    rcases hI.2 with ⟨ez,gW⟩ | ⟨r,q,ez,_⟩
    ·exact⟨_,ar,rfl,.inl ⟨ez,rfl,gW⟩⟩
    ·omega
   rintro s H9 ⟨e9,hs⟩;rw[e9];clear e9 H9;obtain⟨ez,es,gW⟩ | ⟨r,q,ez,xQ,cU,nD,hL,fH,Cx⟩:=hs
   ·
    skip
    refine bO .bL [0,1,2,3,4,5,6,7,8,9,10,11,12,13,14,15,16,17,18,19,20,21,22] follows (iz [0,1,3,7,15,31,63,127,255,511,63,2047,4095,63,8255,24639,57407,63,254015,516159,1048575,2097151,4194303] (by kernel_rfl)) ?_;refine ab 1 rfl (aI true rfl rfl (jK (by omega)) (ab 21 rfl (ae [0,1,5,6,7,10,17,18,108] ?_)));refine dN rfl (eu .bL [0,1,2,3] follows (by kernel_rfl) ?_);refine vr 3 ?_;obtain⟨ti,ak,al⟩:=eh;refine aH (.inl ⟨rfl,rfl⟩) rfl rfl rfl ak al rfl rfl rfl (aw (aj [0,1,5,6,17,18] rfl ?_));refine aB rfl (aG rfl rfl ⟨by omega,by omega⟩ (ab 1 rfl (aw ?_)));exact⟨⟨y.i+1,y.i,xn,xd,o8⟩,(show m-(y.i+1)<m-y.i by omega),ar,EX,sJ,(show y.i+1≤m by omega),fun h9=>hI.1 (fo h9).1,.inr ⟨y.i,xq,rfl,Nat.lt_succ_self _,fF,M8,fun h9=>aat gW (jm h9)⟩⟩
   skip
   by_cases g1:s<0
   ·
    skip
    refine bO .bL [0,1,2,3,4,5,6,7,8,9,10,11,12,13,14,15,16,17,18,19,20,21,22] follows (iz [0,1,3,7,15,31,63,127,255,511,63,2047,4095,63,8255,24639,57407,63,254015,516159,1048575,2097151,4194303] (by kernel_rfl)) ?_;refine ab 1 rfl (aI true rfl rfl (jK g1) (ab 21 rfl (ae [0,1,5,6,7,10,17,18,108] ?_)));refine dN rfl (eu .bL [0,1,2,3] follows (by kernel_rfl) ?_);refine vr 3 ?_;obtain⟨ti,ak,al⟩:=eh;refine aH (.inl ⟨rfl,rfl⟩) rfl rfl rfl ak al rfl rfl rfl (aw (aj [0,1,5,6,17,18] rfl ?_));refine aB rfl (aG rfl rfl ⟨by omega,by omega⟩ (ab 1 rfl (aw ?_)));exact⟨⟨y.i+1,y.i,xn,xd,o8⟩,(show m-(y.i+1)<m-y.i by omega),ar,EX,sJ,(show y.i+1≤m by omega),fun h9=>hI.1 (fo h9).1,.inr ⟨y.i,xq,rfl,Nat.lt_succ_self _,fF,M8,fun h9=>M0 (hL (fo h9).1) (jm h9) (.inl (fH.1 g1))⟩⟩
   skip
   by_cases g2:s=0
   ·
    skip
    by_cases g3:B y.i<B r
    ·
     skip
     refine bO .bL [0,1,2,3,4,5,6,7,8,9,10,11,12,13,14,15,16,17,18,19,20,21,22] follows (iz [0,1,3,7,15,31,63,127,255,511,63,2047,4095,63,8255,24639,57407,63,254015,516159,1048575,2097151,4194303] (by kernel_rfl)) ?_;refine ab 1 rfl (aI false rfl rfl (ik (by omega)) (ab 2 rfl (aI true rfl rfl (jY g2) (ab 3 rfl (aU ah rfl rfl rfl (aS ah rfl rfl rfl (show cell H8 _=some (.slice Ab m cb)from by rw[←dh];exact zI.mR) ?_))))));refine ab 1 rfl (aQ ah rfl rfl rfl rfl rfl (fV _ _ zI y.i aT) (by rw[Int.toNat_natCast];exact gI aT) (by omega) (by omega) fun _=> ?_);refine ab 2 rfl (aU ah rfl rfl rfl (aS ah rfl rfl rfl (show cell H8 _=some (.slice Ab m cb)from by rw[←dh];exact zI.mR) ?_));refine ab 1 rfl (aQ ah rfl rfl rfl rfl rfl (fV _ _ zI y.i aT) (by rw[ez,Int.toNat_natCast];exact gI (by omega)) (by omega) (by omega) fun _=> ?_);refine aI true rfl rfl (jK (by omega)) (ab 2 rfl (ae [0,1,5,6,7,10,17,18,108] ?_));refine dN rfl (eu .bL [0,1,2,3] follows (by kernel_rfl) ?_);refine vr 3 ?_;obtain⟨ti,ak,al⟩:=eh;refine aH (.inl ⟨rfl,rfl⟩) rfl rfl rfl ak al rfl rfl rfl ?_
     refine aw (aj [0,1,5,6,17,18] rfl ?_);refine aB rfl (aG rfl rfl ⟨by omega,by omega⟩ (ab 1 rfl (aw ?_)));exact⟨⟨y.i+1,y.i,xn,xd,o8⟩,(show m-(y.i+1)<m-y.i by omega),ar,EX,sJ,(show y.i+1≤m by omega),fun h9=>hI.1 (fo h9).1,.inr ⟨y.i,xq,rfl,Nat.lt_succ_self _,fF,M8,fun h9=>M0 (hL (fo h9).1) (jm h9) (.inr ⟨Cx.1 g2,g3⟩)⟩⟩
    skip
    refine bO .bL [0,1,2,3,4,5,6,7,8,9,10,11,12,13,14,15,16,17,18,19,20,21,22] follows (iz [0,1,3,7,15,31,63,127,255,511,63,2047,4095,63,8255,24639,57407,63,254015,516159,1048575,2097151,4194303] (by kernel_rfl)) ?_;refine ab 1 rfl (aI false rfl rfl (ik (by omega)) (ab 2 rfl (aI true rfl rfl (jY g2) (ab 3 rfl (aU ah rfl rfl rfl (aS ah rfl rfl rfl (show cell H8 _=some (.slice Ab m cb)from by rw[←dh];exact zI.mR) ?_))))));refine ab 1 rfl (aQ ah rfl rfl rfl rfl rfl (fV _ _ zI y.i aT) (by rw[Int.toNat_natCast];exact gI aT) (by omega) (by omega) fun _=> ?_);refine ab 2 rfl (aU ah rfl rfl rfl (aS ah rfl rfl rfl (show cell H8 _=some (.slice Ab m cb)from by rw[←dh];exact zI.mR) ?_));refine ab 1 rfl (aQ ah rfl rfl rfl rfl rfl (fV _ _ zI y.i aT) (by rw[ez,Int.toNat_natCast];exact gI (by omega)) (by omega) (by omega) fun _=> ?_);refine aI false rfl rfl (ik (by omega)) (ab 2 rfl (ae [0,1,5,6,7,10,17,18,108] ?_));refine dU rfl (aA (aj [0,1,5,6,17,18] rfl ?_));refine aB rfl (aG rfl rfl ⟨by omega,by omega⟩ (ab 1 rfl (aw ?_)));exact⟨⟨y.i+1,y.z,y.a,y.b,o8⟩,(show m-(y.i+1)<m-y.i by omega),ar,EX,sJ,(show y.i+1≤m by omega),fun h9=>hI.1 (fo h9).1,.inr ⟨r,q,ez,Nat.lt_succ_of_lt xQ,cU,nD,fun h9=>MZ (hL (fo h9).1) (jm h9) (.inr ⟨Cx.1 g2,g3⟩)⟩⟩
   skip
   refine bO .bL [0,1,2,3,4,5,6,7,8,9,10,11,12,13,14,15,16,17,18,19,20,21,22] follows (iz [0,1,3,7,15,31,63,127,255,511,63,2047,4095,63,8255,24639,57407,63,254015,516159,1048575,2097151,4194303] (by kernel_rfl)) ?_;refine ab 1 rfl (aI false rfl rfl (ik (by omega)) (ab 2 rfl (aI false rfl rfl (ln g2) (ab 18 rfl (ae [0,1,5,6,7,10,17,18,108] ?_)))));refine dU rfl (aA (aj [0,1,5,6,17,18] rfl ?_));refine aB rfl (aG rfl rfl ⟨by omega,by omega⟩ (ab 1 rfl (aw ?_)));exact⟨⟨y.i+1,y.z,y.a,y.b,o8⟩,(show m-(y.i+1)<m-y.i by omega),ar,EX,sJ,(show y.i+1≤m by omega),fun h9=>hI.1 (fo h9).1,.inr ⟨r,q,ez,Nat.lt_succ_of_lt xQ,cU,nD,fun h9=>MZ (hL (fo h9).1) (jm h9) (.inl (by have k1:¬xq<q:=fun k=>g1 (fH.2 k);have k2:¬xq=q:=fun k=>g2 (Cx.2 k);grind))⟩⟩
 ·
  have aT:m≤y.i:=by simpa using hb
  have aT:y.i=m:=by omega
  refine aV (aj [5] rfl ?_);refine ag (ab 2 rfl (ae [4] ?_));refine aD ⟨.inr rfl,_,.tmp rfl (.nil),?_⟩;refine⟨y.z,y.o,rfl,fe,EW,hI.1,?_⟩;have h2:=hI.2;rw[aT]at h2
  rcases h2 with h9 | ⟨r,q,k1,k2,k3,_,k5⟩
  ·exact .inl h9
  ·exact .inr ⟨r,k1,k2,k3,fun h9=>⟨q,k5 h9⟩⟩
end Go.au
namespace Go.au
open Go.Proofs Num Lp
structure gT(M:Nat→Nat→Rat)(B:Nat→Nat)(T:aq)(m W:Nat):Prop where
 em:T.m=m
 en:T.n+1=W
 eA:∀i,i<m→∀j,j<W→M i j=T.A i j
 ec:∀j,j<W→M m j=T.c j
 eB:∀i,i<m→B i=T.B i
section
variable {M M':Nat→Nat→Rat} {B:Nat→Nat} {T:aq} {m W u r s:Nat} {q:Rat}
theorem gT.Gw(h:gT M B T m W)(hu:u<W)(hs:s<u)(fY:M m s<0)(hf:∀j,j<s→0≤M m j)(hr:r<m)(hp:0<M r s)(hl:mT M B (W-1) s m r q):T.o0 u r s:=by
 have en:W-1=T.n:=by have:=h.en;omega
 have hn:=h.en
 refine⟨hs,by rw[←h.ec s (by omega)];exact fY,fun j hj=>by rw[←h.ec j (by omega)];exact hf j hj,by rw[h.em];exact hr,by rw[←h.eA r hr s (by omega)];exact hp,fun i hi cS=> ?_⟩
 rw[h.em]at hi
 have h1:=hl.2 i hi (by rw[h.eA i hi s (by omega)];exact cS)
 rw[hl.1,en,h.eA i hi _ (by omega),h.eA i hi _ (by omega),h.eA r hr _ (by omega),h.eA r hr _ (by omega),h.eB r hr,h.eB i hi]at h1
 exact h1
theorem gT.pivot(h:gT M B T m W)(hr:r<m)(hs:s<W)(hM:∀i,i<m+1→∀j,j<W→M' i j=mj M r s i j):gT M' (fun i=>if i=r then s else B i) (T.pivot r s) m W:=by
 refine⟨h.em,h.en,fun i hi j hj=> ?_,fun j hj=> ?_,fun i hi=> ?_⟩
 ·rw[hM i (by omega) j hj]
  show _=if i=r then T.A r j/T.A r s else T.A i j-T.A i s*(T.A r j/T.A r s)
  unfold mj
  rw[h.eA r hr j hj,h.eA r hr s hs,h.eA i hi j hj,h.eA i hi s hs]
 ·rw[hM m (by omega) j hj]
  show _=T.c j-T.c s*(T.A r j/T.A r s)
  unfold mj
  rw[if_neg (by omega),h.eA r hr j hj,h.eA r hr s hs,h.ec j hj,h.ec s hs]
 ·show _=if i=r then s else T.B i
  by_cases e:i=r
  ·rw[if_pos e,if_pos e]
  ·rw[if_neg e,if_neg e];exact h.eB i hi
end
def S1(u:Nat)(a b:Option aq):Prop:=∃T,b=some T∧(a=none∨∃S,a=some S∧aq.Step u S T)
theorem ajt{u:Nat}{T:aq}(h:Acc (aq.Step u) T):Acc (S1 u) (some T):=by
 induction h with
 | intro T _ ih=>
  refine⟨_,fun a ⟨T',e,ha⟩=> ?_⟩
  cases e
  rcases ha with rfl | ⟨S,rfl,hs⟩
  ·exact⟨_,fun b ⟨T'',e,_⟩=>by cases e⟩
  ·exact ih S hs
theorem aju{u:Nat}:Acc (S1 u) none:=⟨_,fun b ⟨T'',e,_⟩=>by cases e⟩
def Na(o o1:Bool)(Φ:aq→Prop)(M:Nat→Nat→Rat)(B:Nat→Nat)(m W:Nat):Option aq→Prop
 | none=>o1=true
 | some T=>o1=false∧o=false∧Φ T∧gT M B T m W
def ajv(o o1:Bool)(Φ:aq→Prop)(M:Nat→Nat→Rat)(B:Nat→Nat)(m W u:Nat)(b:Bool):Prop:=o1=false→o=false∧∃T,Φ T∧gT M B T m W∧(b=true→∀j,j<u→0≤M m j)∧(b=false→∃s,s<u∧M m s<0∧∀i,i<m→M i s≤0)
theorem aaw{o:Bool}{H:Heap}{g:Nat}{G:GG}{W m u:Nat}{M:Nat→Nat→Rat}{B:Nat→Nat}{Φ:aq→Prop}{x:Option aq}(h:QV o H g G (m+1) W m M B)(hu:u<W)(hm:(m:Int)≤900000)(hW:(W:Int)≤1000000)(dO:∀T r s,Φ T→T.o0 u r s→Φ (T.pivot r s))(hx:Na o o Φ M B m W x)(FB:∀T,x=some T→Acc (aq.Step u) T)(hB:∀i,i<m→B i<W):
 Fn Tryz.prog 138 #[.pointer (some ⟨g,0,none⟩),.int .i64 (u:Int)] H (fun v H'=>∃M' B' o' b,v = .bool b∧QV o' H' g G (m+1) W m M' B'∧Heap.le (rem H G.gs) (rem H' G.gs)∧ajv o o' Φ M' B' m W u b∧∀i,i<m→B' i<W):=by
 refine a7 (args:=[_,_]) Tryz.func138 rfl rfl Tryz.ntmps138 rfl rfl fun w0=> ?_;refine aj [0,1] rfl ?_;refine ag (ab 1 rfl (ae [0,1] ?_));refine ao (aF (J8 (γ:=Option aq) (S1 u) (fun(y:Option aq)=>put (put (emp) 0 (.val (.pointer (some ⟨g,0,none⟩)))) 1 (.val (.int .i64 (u:Int)))) (fun(y:Option aq) H'=>∃M1 B1 o1,QV o1 H' g G (m+1) W m M1 B1∧Heap.le (rem H G.gs) (rem H' G.gs)∧Na o o1 Φ M1 B1 m W y∧∀i,i<m→B1 i<W) (x) ((by cases x with | none=>exact aju | some T=>exact ajt (FB T rfl))) ar (⟨M,B,o,h,.refl _,hx,hB⟩) ?_));rintro y H1 ⟨M1,B1,o1,h1,fh,hy,zJ⟩;obtain⟨xs1,gE,ajw,eV⟩:=h1.rk;obtain⟨pm,sL⟩:=h1.cY.get (Nat.lt_succ_self m);obtain⟨xm,sm,Cy,Cz⟩:=h1.row sL;refine ao (ag (ab 2 rfl (aU ah rfl rfl rfl (aS ah rfl rfl rfl (h1.SJ) (ab 1 rfl (ae [0,1,13] ?_))))));refine aC rfl (fun hb=> ?_) (fun hb=> ?_)
 ·
  have hb:o1=false:=by simpa using hb
  subst hb;refine aA (aj [0,1] rfl ?_);refine aF (ag (ab 1 rfl (ae [0,1,5] ?_)));refine bO .bL [0,1,2,3,4,5,6,7,8,9,10,11,12] follows (by kernel_rfl) ?_;refine ab 2 rfl (aU ah rfl rfl rfl (aS ah rfl rfl rfl (h1.iR) (ab 2 rfl (aU ah rfl rfl rfl (aS ah rfl rfl rfl (h1.iR) (ab 1 rfl (cV rfl rfl ⟨by omega,by omega⟩ (aQ ah rfl rfl rfl rfl rfl (ajw) (by rw[show (((m+1:Nat):Int)-1).toNat=m by omega];exact eV m pm sL) (by omega) (by omega) fun _=> ?_))))))));refine ab 1 rfl (ae [0,1,5,6] ?_);refine kE (fun(z:Int)=>put (put (put (emp) 0 (.val (.pointer (some ⟨g,0,none⟩)))) 1 (.val (.int .i64 (u:Int)))) 5 (.val (.int .i64 z))) (fun(z:Int) H'=>H'=H1∧((z = -1∧∀j,j<u→0≤M1 m j)∨∃s:Nat,z=(s:Int)∧s<u∧M1 m s<0∧∀j,j<s→0≤M1 m j)) ?_ ?_
  ·
   refine ag (ab 1 rfl (ae [0,1,5,6,7] ?_));refine aF (gX (fun(k:Nat)(z:Int)=>u-k) (fun(k:Nat)(z:Int)=>put (put (put (put (put (emp) 0 (.val (.pointer (some ⟨g,0,none⟩)))) 1 (.val (.int .i64 (u:Int)))) 5 (.val (.int .i64 z))) 6 (.val (.slice (some ⟨pm.1,0,none⟩) W pm.2))) 7 (.val (.int .i64 (k:Int)))) (fun(k:Nat)(z:Int) H'=>H'=H1∧k≤u∧((z = -1∧∀j,j<k→0≤M1 m j)∨∃s:Nat,z=(s:Int)∧s<u∧M1 m s<0∧∀j,j<s→0≤M1 m j)) 0 (-1) (⟨rfl,Nat.zero_le _,.inl ⟨rfl,fun j hj=>absurd hj (Nat.not_lt_zero _)⟩⟩) ar ?_);rintro k z H2 ⟨e2,Ly,hz⟩;rw[e2];clear e2 H2;refine ao ?_
   by_cases CA:k<u
   ·
    skip
    by_cases ji:z<0
    ·
     obtain⟨ez,gW⟩:z = -1∧∀j,j<k→0≤M1 m j:=by
      rcases hz with h9 | ⟨s,h9,_⟩
      ·exact h9
      ·omega
     obtain⟨n1,d1,iX,iq,i1,i2,i3,i4,cB⟩:=mS Cz (show k<W by omega);refine ag (ab 2 rfl (aI true rfl rfl (jK (by omega)) (ab 2 rfl (aI true rfl rfl (jK ji) (ab 1 rfl (ae [0,1,5,6,7,32] ?_))))));refine dN rfl (aA (aj [0,1,5,6,7] rfl ?_));refine ao (aF (ag (ab 2 rfl (px ah rfl rfl rfl rfl rfl rfl rfl (dS Cy) (by rw[Int.toNat_natCast];exact iq 0 _ rfl) (by omega) (by omega) fun _ _=> ?_))));refine ab 1 rfl (ae [0,1,5,6,7,40] ?_);refine aC rfl (fun hb=> ?_) (fun hb=> ?_)
     ·
      have hb:n1<0:=by simpa using hb
      refine aB rfl (ab 2 rfl (aw (aj [0,1,5,6,7] rfl ?_)));refine aB rfl (ab 1 rfl (aG rfl rfl ⟨by omega,by omega⟩ (ab 1 rfl (aw ?_))));exact⟨k+1,k,by omega,ar,rfl,by omega,.inr ⟨k,rfl,CA,by rw[cB];exact(MR i3).2 hb,gW⟩⟩
     have hb:¬n1<0:=by simpa using hb
     refine aA (aj [0,1,5,6,7] rfl ?_);refine aB rfl (ab 1 rfl (aG rfl rfl ⟨by omega,by omega⟩ (ab 1 rfl (aw ?_))))
     exact⟨k+1,_,by omega,ar,rfl,by omega,.inl ⟨ez,fun j hj=>by
      by_cases ej:j=k
      ·subst ej;rw[cB];have:=(MR (n:=n1) i3).1;grind
      ·exact gW j (by omega)⟩⟩
    skip
    refine ag (ab 2 rfl (aI true rfl rfl (jK (by omega)) (ab 2 rfl (aI false rfl rfl (ik (by omega)) (ab 1 rfl (ae [0,1,5,6,7,32] ?_))))));refine dU rfl (aV ?_)
    rcases hz with ⟨h9,_⟩ | hz
    ·omega
    ·exact⟨_,ar,rfl,.inr hz⟩
   skip
   refine ag (ab 2 rfl (aI false rfl rfl (ik (by omega)) (ab 4 rfl (ae [0,1,5,6,7,32] ?_))));refine dU rfl (aV ?_)
   rcases hz with ⟨h9,h8⟩ | hz
   ·exact⟨_,ar,rfl,.inl ⟨h9,fun j hj=>h8 j (by omega)⟩⟩
   ·exact⟨_,ar,rfl,.inr hz⟩
  ·
   rintro z H2 ⟨e2,hz⟩;rw[e2];clear e2 H2
   obtain⟨T,rfl,ho,s9,iU⟩:∃T,y=some T∧o=false∧Φ T∧gT M1 B1 T m W:=by
    cases y with
    | none=>cases hy
    | some T=>exact⟨T,rfl,hy.2⟩
   refine ao (ag (ab 2 rfl (ae [0,1,5,43] ?_)));refine aC rfl (fun hb=> ?_) (fun hb=> ?_)
   ·
    have hb:z<0:=by simpa using hb
    obtain⟨_,gW⟩:z = -1∧∀j,j<u→0≤M1 m j:=by
     rcases hz with h9 | ⟨s,h9,_⟩
     ·exact h9
     ·omega
    refine ag (ab 1 rfl (ae [4] ?_));refine aD ⟨.inr rfl,_,.tmp rfl (.nil),?_⟩;exact⟨M1,B1,false,true,rfl,h1,fh,fun _=>⟨ho,T,s9,iU,fun _=>gW,(fun h9=>by cases h9)⟩,zJ⟩
   have hb:¬z<0:=by simpa using hb
   obtain⟨s,rfl,I5,mH,S2⟩:∃s:Nat,z=(s:Int)∧s<u∧M1 m s<0∧∀j,j<s→0≤M1 m j:=by
    rcases hz with ⟨h9,_⟩ | h9
    ·omega
    ·exact h9
   refine aA (aj [0,1,5] rfl ?_);refine ag (ab 2 rfl (aE rfl rfl (ajs h1 (by omega) (show s<W by omega) (by omega) hW) ?_));rintro _ H2 ⟨z2,o2,rfl,fe,EW,I6⟩;have h2:=h1.uz fe EW;refine ab 1 rfl (ae [0,1,5,8] ?_);refine ao (ag (ab 2 rfl (ae [0,1,5,8,48] ?_)));refine aC rfl (fun hb=> ?_) (fun hb=> ?_)
   ·
    have hb:z2<0:=by simpa using hb
    have gW:∀i,i<m→M1 i s≤0:=by
     rcases I6.2 with h9 | ⟨r,h9,_⟩
     ·exact h9.2
     ·omega
    refine ag (ab 1 rfl (ae [4] ?_));refine aD ⟨.inr rfl,_,.tmp rfl (.nil),?_⟩;exact⟨M1,B1,o2,false,rfl,h2,fh.trans fe.le,fun h9=>⟨ho,T,s9,iU,(fun h8=>by cases h8),fun _=>⟨s,I5,mH,gW⟩⟩,zJ⟩
   have hb:¬z2<0:=by simpa using hb
   obtain⟨r,rfl,j8,cU,hL⟩:∃r:Nat,z2=(r:Int)∧r<m∧0<M1 r s∧(o2=false→∃q,mT M1 B1 (W-1) s m r q):=by
    rcases I6.2 with ⟨h9,_⟩ | h9
    ·omega
    ·exact h9
   refine aA (aj [0,1,5,8] rfl ?_);refine aB rfl (ab 3 rfl (aE rfl rfl (aai h2 j8 (by omega) (show s<W by omega) (by grind) (by omega) hW) ?_));rintro v3 H3 ⟨M3,o3,h3,hM3,im⟩;refine aw ?_;have hle:=(fh.trans fe.le).trans im
   have hB3:∀i,i<m→(if i=r then s else B1 i)<W:=fun i hi=>by
    split
    ·omega
    ·exact zJ i hi
   cases o3 with
   | true=>exact⟨none,⟨T,rfl,.inl rfl⟩,ar,M3,_,true,h3,hle,rfl,hB3⟩
   | false=>
    obtain⟨h9,hpM⟩:=hM3 rfl;obtain⟨q,hq⟩:=hL h9;have kG:=iU.Gw hu I5 mH S2 j8 cU hq;exact⟨some (T.pivot r s),⟨T,rfl,.inr ⟨_,rfl,r,s,kG,rfl⟩⟩,ar,M3,_,false,h3,hle,⟨rfl,ho,dO _ _ _ s9 kG,iU.pivot j8 (by omega) hpM⟩,hB3⟩
 ·
  have hb:o1=true:=by simpa using hb
  subst hb;refine aV (aj [] rfl ?_);refine ag (ab 1 rfl (ae [4] ?_));refine aD ⟨.inr rfl,_,.tmp rfl (.nil),?_⟩;exact⟨M1,B1,true,true,rfl,h1,fh,(fun h9=>by cases h9),zJ⟩
end Go.au
namespace Go.au
open Go.Proofs Num Lp
def Nb(fr:Nat→Bool):Nat→Nat→Nat
 | 0,_=>0
 | k+1,t=>if fr k=true∧t=aW fr k-k then aW fr k+1 else Nb fr k t
section
variable {fr:Nat→Bool}
theorem zK(k:Nat):k≤aW fr k:=by
 induction k with
 | zero=>exact Nat.le_refl _
 | succ k ih=>
  have h1:aW fr (k+1)=aW fr k+1+(if fr k then 1 else 0):=rfl
  omega
theorem Nc{j k:Nat}(h:j≤k):aW fr j+k≤aW fr k+j:=by
 induction k with
 | zero=>obtain rfl:j=0:=by omega
         exact Nat.le_refl _
 | succ k ih=>
  have h1:aW fr (k+1)=aW fr k+1+(if fr k then 1 else 0):=rfl
  by_cases e:j=k+1
  ·subst e;exact Nat.le_refl _
  ·have:=ih (by omega);omega
theorem Nd{k:Nat}(h:fr k=true):aW fr (k+1)=aW fr k+2:=by
 show aW fr k+1+(if fr k then 1 else 0)=_
 rw[if_pos h]
theorem ajx{k j:Nat}(hj:j<k)(hf:fr j=true):Nb fr k (aW fr j-j)=aW fr j+1:=by
 induction k with
 | zero=>omega
 | succ k ih=>
  unfold Nb
  by_cases e:j=k
  ·subst e;rw[if_pos ⟨hf,rfl⟩]
  ·rw[if_neg,ih (by omega)]
   intro⟨h1,h2⟩
   have h3:=Nc (fr:=fr) (show j+1≤k by omega)
   have h4:=Nd hf
   have h5:=zK (fr:=fr) j
   omega
theorem ajy{k t:Nat}(h:t<aW fr k-k):∃j,j<k∧fr j=true∧t=aW fr j-j:=by
 induction k with
 | zero=>exact absurd h (Nat.not_lt_zero _)
 | succ k ih=>
  by_cases e:fr k=true∧t=aW fr k-k
  ·exact⟨k,by omega,e.1,e.2⟩
  ·have h1:aW fr (k+1)=aW fr k+1+(if fr k then 1 else 0):=rfl
   have h2:=zK (fr:=fr) k
   have h3:t<aW fr k-k:=by
    by_cases hf:fr k=true
    ·rw[if_pos hf]at h1
     have:t≠aW fr k-k:=fun e'=>e ⟨hf,e'⟩
     omega
    ·rw[if_neg hf]at h1;omega
   obtain⟨j,g1,g2,g3⟩:=ih h3
   exact⟨j,by omega,g2,g3⟩
theorem ajz{k y:Nat}(h:y<aW fr k):∃j,j<k∧(y=aW fr j∨(fr j=true∧y=aW fr j+1)):=by
 induction k with
 | zero=>exact absurd h (Nat.not_lt_zero _)
 | succ k ih=>
  by_cases e:y<aW fr k
  ·obtain⟨j,g1,g2⟩:=ih e
   exact⟨j,by omega,g2⟩
  ·have h1:aW fr (k+1)=aW fr k+1+(if fr k then 1 else 0):=rfl
   by_cases hf:fr k=true
   ·rw[if_pos hf]at h1
    by_cases e2:y=aW fr k
    ·exact⟨k,by omega,.inl e2⟩
    ·exact⟨k,by omega,.inr ⟨hf,by omega⟩⟩
   ·rw[if_neg hf]at h1
    exact⟨k,by omega,.inl (by omega)⟩
end
def _root_.Lp.Prg.pi(p:Prg)(x:Nat):Nat:=if x<p.lp.n then aW p.lp.free x else if x<p.c1 then Nb p.lp.free p.lp.n (x-p.lp.n)else x
abbrev _root_.Lp.Prg.mi(p:Prg)(j:Nat):Nat:=p.lp.n+(aW p.lp.free j-j)
section
variable {p:Prg}
theorem xR{x:Nat}(h:x<p.lp.n):p.pi x=aW p.lp.free x:=by unfold Prg.pi;rw[if_pos h]
theorem xS:p.lp.n≤p.c1:=zK _
theorem Nf{j:Nat}:p.lp.n≤p.mi j:=Nat.le_add_right _ _
theorem vM{x:Nat}(h:p.c1≤x):p.pi x=x:=by
 have:=xS (p:=p)
 unfold Prg.pi;rw[if_neg (by omega),if_neg (by omega)]
theorem vN{j:Nat}(h:j<p.lp.n)(hf:p.lp.free j=true):p.mi j<p.c1:=by
 have h1:=Nc (fr:=p.lp.free) (show j+1≤p.lp.n by omega)
 have h2:=Nd hf
 have h3:=zK (fr:=p.lp.free) j
 show p.lp.n+(aW p.lp.free j-j)<aW p.lp.free p.lp.n
 omega
theorem zL{j:Nat}(h:j<p.lp.n)(hf:p.lp.free j=true):p.pi (p.mi j)=aW p.lp.free j+1:=by
 have:=vN h hf
 have h2:=Nf (p:=p) (j:=j)
 unfold Prg.pi
 rw[if_neg (by omega),if_pos this,Nat.add_sub_cancel_left]
 exact ajx h hf
theorem I7{x:Nat}(h1:p.lp.n≤x)(h2:x<p.c1):∃j,j<p.lp.n∧p.lp.free j=true∧x=p.mi j:=by
 obtain⟨j,g1,g2,g3⟩:=ajy (fr:=p.lp.free) (k:=p.lp.n) (t:=x-p.lp.n) (Nat.sub_lt_sub_right h1 h2)
 exact⟨j,g1,g2,by show x=p.lp.n+_;omega⟩
theorem Ng{x:Nat}(h:x<p.c1):p.pi x<p.c1:=by
 by_cases e:x<p.lp.n
 ·rw[xR e];exact HN p e
 ·obtain⟨j,g1,g2,rfl⟩:=I7 (by omega) h
  rw[zL g1 g2]
  have h1:=Nc (fr:=p.lp.free) (show j+1≤p.lp.n by omega)
  have h2:=Nd g2
  show aW p.lp.free j+1<aW p.lp.free p.lp.n
  omega
theorem zM{x:Nat}(h:x<p.u):p.pi x<p.u:=by
 have h1:=mc p
 by_cases e:x<p.c1
 ·have:=Ng e;omega
 ·rw[vM (by omega)];exact h
theorem S3{x:Nat}(h:p.u≤x):p.pi x=x:=vM (by have:=mc p;omega)
theorem S4{x:Nat}(h:x<p.w):p.pi x<p.w:=by
 have h1:=fj p
 by_cases e:x<p.u
 ·have:=zM e;omega
 ·rw[S3 (by omega)];exact h
theorem CB:p.pi p.w=p.w:=S3 (fj p)
theorem Nh{x:Nat}(h:x≤p.w):p.pi x≤p.w:=by
 by_cases e:x=p.w
 ·rw[e,CB];exact Nat.le_refl _
 ·have:=S4 (p:=p) (x:=x) (by omega);omega
theorem Ni{y:Nat}(h:y<p.u):∃x,x<p.u∧p.pi x=y:=by
 have h1:=mc p
 by_cases e:y<p.c1
 ·obtain⟨j,g1,g2⟩:=ajz e
  rcases g2 with rfl | ⟨g2,rfl⟩
  ·have:=xS (p:=p)
   exact⟨j,by omega,xR g1⟩
  ·have:=vN g1 g2
   exact⟨p.mi j,by omega,zL g1 g2⟩
 ·exact⟨y,h,vM (by omega)⟩
def eZ(p:Prg)(a:Nat→Rat)(s:Rat):Nat→Nat→Rat
 | 0=>fun _=>0
 | k+1=>if p.lp.free k then bV (bV (eZ p a s k) k (a k*s)) (p.mi k) (-(a k*s))else bV (eZ p a s k) k (a k*s)
variable {a:Nat→Rat} {s:Rat}
theorem ajA{k x:Nat}(hk:k≤p.lp.n)(hx:x<k):eZ p a s k x=a x*s:=by
 induction k with
 | zero=>omega
 | succ k ih=>
  have key:bV (eZ p a s k) k (a k*s) x=a x*s:=by
   by_cases e:x=k
   ·rw[e,jE]
   ·rw[eF e,ih (by omega) (by omega)]
  unfold eZ
  split
  ·rw[eF (by show x≠p.lp.n+_;omega),key]
  ·exact key
theorem ajB{k j:Nat}(hk:k≤p.lp.n)(hj:j<k)(hf:p.lp.free j=true):eZ p a s k (p.mi j) = -(a j*s):=by
 induction k with
 | zero=>omega
 | succ k ih=>
  unfold eZ
  by_cases e:j=k
  ·subst e;rw[if_pos hf,jE]
  ·have h3:=Nc (fr:=p.lp.free) (show j+1≤k by omega)
   have h4:=Nd hf
   have h5:=zK (fr:=p.lp.free) j
   split
   ·rw[eF (by show p.lp.n+_≠p.lp.n+_;omega),eF (by show p.lp.n+_≠k;omega),ih (by omega) (by omega)]
   ·rw[eF (by show p.lp.n+_≠k;omega),ih (by omega) (by omega)]
theorem aax{k x:Nat}(hk:k≤p.lp.n)(hx:p.c1≤x):eZ p a s k x=0:=by
 have h0:=xS (p:=p)
 induction k with
 | zero=>rfl
 | succ k ih=>
  unfold eZ
  split
  ·rename_i hf
   have:=vN (p:=p) (j:=k) (by omega) hf
   rw[eF (by omega),eF (by omega),ih (by omega)]
  ·rw[eF (by omega),ih (by omega)]
theorem I8(x:Nat):eZ p a s p.lp.n x=ke p.lay a s p.lp.n (p.pi x):=by
 by_cases e:x<p.lp.n
 ·rw[ajA (Nat.le_refl _) e,xR e,(Eo (Nat.le_refl _) e).1]
 ·by_cases e2:x<p.c1
  ·obtain⟨j,g1,g2,rfl⟩:=I7 (by omega) e2
   rw[ajB (Nat.le_refl _) g1 g2,zL g1 g2,(Eo (Nat.le_refl _) g1).2 g2]
  ·rw[aax (Nat.le_refl _) (Nat.le_of_not_lt e2),vM (Nat.le_of_not_lt e2),En (Nat.le_refl _) (Nat.le_of_not_lt e2)]
def kB(rel s:Int):Int:=if s=1 then rel else if rel=2 then 2 else 4-rel
theorem S5{rel s:Int}(hr:rel=1∨rel=2∨rel=3)(hs:s=1∨s = -1):eY rel s=true↔kB rel s=1:=by
 unfold eY kB
 rw[decide_eq_true_eq]
 rcases hr with rfl | rfl | rfl <;> rcases hs with rfl | rfl <;> simp
def dL(p:Prg)(i:Nat):Nat→Rat:=
 let r1:=bV (eZ p (p.lp.a i) (p.aJ i:Rat) p.lp.n) p.w (p.lp.b i*(p.aJ i:Rat))
 let r2:=if p.lp.rel i=2 then r1 else bV r1 (bA p.lp.rel p.c1 i) (if kB (p.lp.rel i) (p.aJ i)=1 then 1 else -1)
 if kB (p.lp.rel i) (p.aJ i)=1 then r2 else bV r2 (aX p.lp.rel p.aJ p.u i) 1
theorem S6(hv:p.lp.Valid){i:Nat}(hi:i<p.lp.m){x:Nat}(hx:x≤p.w):dL p i x=p.dZ.A i (p.pi x):=by
 have hr:=hv i hi
 have hs:=sw (p.lp.b i) (p.lp.rel i)
 have hu:=nX p hi
 have hcu:=mc p
 have mL:=fj p
 have hug:=L6 (p:=p) (i:=i)
 have h2:=(tQ p.lp.rel p.aJ p.u i).2
 have h3:=(sx p.lp.rel p.c1 i).2
 have fH:p.lp.rel i≠2→bA p.lp.rel p.c1 i<p.u:=fun h=>B0 hi h
 have cC:=S5 hr hs
 by_cases e:x<p.c1
 ·rw[Rh (Ng e),←I8]
  unfold dL
  have hb:bV (eZ p (p.lp.a i) (p.aJ i:Rat) p.lp.n) p.w (p.lp.b i*(p.aJ i:Rat)) x=eZ p (p.lp.a i) (p.aJ i:Rat) p.lp.n x:=eF (by omega)
  split
  ·split
   ·exact hb
   ·rw[eF (by omega)];exact hb
  ·rw[eF (by omega)]
   split
   ·exact hb
   ·rw[eF (by omega)];exact hb
 ·rw[vM (by omega),B3]
  have z1:ke p.lay (p.lp.a i) (p.aJ i:Rat) p.lp.n x=0:=En (Nat.le_refl _) (Nat.le_of_not_lt e)
  have z2:eZ p (p.lp.a i) (p.aJ i:Rat) p.lp.n x=0:=aax (Nat.le_refl _) (by omega)
  unfold dL
  by_cases hw:x=p.w
  ·subst hw
   rw[jE]
   have hb:=jE (eZ p (p.lp.a i) (p.aJ i:Rat) p.lp.n) p.w (p.lp.b i*(p.aJ i:Rat))
   by_cases o:eY (p.lp.rel i) (p.aJ i)=true
   ·rw[if_pos (cC.1 o)]
    split
    ·exact hb
    ·rw[eF (by have:=fH (by assumption);omega)];exact hb
   ·rw[if_neg (fun h=>o (cC.2 h)),eF (by rw[vC o]at hu;omega)]
    split
    ·exact hb
    ·rw[eF (by have:=fH (by assumption);omega)];exact hb
  ·rw[eF (f:=bV _ _ _) hw]
   have hb:bV (eZ p (p.lp.a i) (p.aJ i:Rat) p.lp.n) p.w (p.lp.b i*(p.aJ i:Rat)) x=0:=by rw[eF hw,z2]
   by_cases o:eY (p.lp.rel i) (p.aJ i)=true
   ·have nA:p.lp.rel i≠2:=by have:=Ep o;omega
    rw[if_pos (cC.1 o),if_neg nA,zu o,if_pos (cC.1 o)]
    by_cases ex:x=bA p.lp.rel p.c1 i
    ·rw[ex,jE,jE]
    ·rw[eF ex,eF ex,hb,Er (fun _=>by rw[B4 nA];exact ex),z1]
   ·rw[if_neg (fun h=>o (cC.2 h)),vC o,if_neg (fun h=>o (cC.2 h))]
    by_cases ex:x=aX p.lp.rel p.aJ p.u i
    ·rw[ex,jE,jE]
    ·rw[eF ex,eF ex]
     by_cases nA:p.lp.rel i=2
     ·rw[if_pos nA,hb,Er (fun h=>absurd nA h),z1]
     ·rw[if_neg nA]
      by_cases ey:x=bA p.lp.rel p.c1 i
      ·rw[ey,jE]
       unfold sh
       rw[B4 nA]
       rcases hr with k | k | k
       ·rw[if_pos k,jE]
        have:p.aJ i = -1:=by
         rcases hs with h | h
         ·exact absurd (cC.2 (by unfold kB;rw[if_pos h];exact k)) o
         ·exact h
        rw[this];rfl
       ·exact absurd k nA
       ·rw[if_neg (by omega),if_pos k,jE]
        have:p.aJ i=1:=by
         rcases hs with h | h
         ·exact h
         ·exact absurd (cC.2 (by unfold kB;rw[h,k];decide)) o
        rw[this];rfl
      ·rw[eF ey,hb,Er (fun _=>by rw[B4 nA];exact ey),z1]
end
end Go.au
