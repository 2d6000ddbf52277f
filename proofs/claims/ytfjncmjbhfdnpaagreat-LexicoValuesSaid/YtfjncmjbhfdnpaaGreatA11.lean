/- Part 11 of the proof: Srt2, Lnd2, Mdr, QDat, Eng17, QDat2, Qp, Ql, Qi, Rlay. -/
import Derived.Test.YtfjncmjbhfdnpaaGreatA10
import Derived.Shelf.Slices.CompactI
import Derived.Shelf.Slices.Empties
set_option linter.unusedVariables false
namespace Go.Proofs
open Go.Shelf
end Go.Proofs
namespace Go.aw
open Go.Proofs Go.Sort Lp
end Go.aw
namespace Go.aw
open Go.Proofs Num Lp
end Go.aw
namespace Go.aw
open Go.Proofs Num Lp
end Go.aw
namespace Go.aw
open Go.Proofs Num Lp
end Go.aw
namespace Go.aw
open Go.Proofs Num Lp
structure CK where
 P:Heap→List Value→Rat→Prop
 sz:Nat
 e:Nat
 he:Nat
 up:Up P
 len:∀H vs q,P H vs q→vs.length=sz
def pK(C:CK)(K:Heap)(H:Heap)(g:Nat)(l:List Rat):Prop:=∃xs sz,H g=some ⟨xs,sz,C.e,true⟩∧bE (C.P K) C.sz xs l
theorem pK.le{C:CK}{K K' H H':Heap}{g:Nat}{l:List Rat}(h:pK C K H g l)(hl:Heap.le K K')(hs:H' g=H g):pK C K' H' g l:=by
 obtain⟨xs,sz,h1,h2⟩:=h
 exact⟨xs,sz,by rw[hs];exact h1,h2.mono fun vs a=>C.up _ _ vs a hl⟩
structure GG where
 top:List Nat
 hb:List Nat
 bb:List Nat
 bv:Value
 rg:List (Nat×Nat)
 Ar:Option Addr
 cr:Nat
def GG.low(G:GG):List Nat:=G.hb++(G.bb++G.rg.map (·.1))
def GG.gs(G:GG):List Nat:=G.top++G.low
def GG.on(G:GG)(t:List Nat):GG:={G with top:=t}
def jc(rg:List (Nat×Nat))(W:Nat):List Value:=rg.map fun p=> .slice (some ⟨p.1,0,none⟩) W p.2
theorem kE{rg:List (Nat×Nat)}{W i:Nat}{p:Nat×Nat}(h:rg[i]? = some p):(jc rg W)[i]? = some (.slice (some ⟨p.1,0,none⟩) W p.2):=by
 unfold jc;rw[List.getElem?_map,h];rfl
structure cA(C:CK)(H:Heap)(G:GG)(R W m:Nat)(M:Nat→Nat→Rat)(B:Nat→Nat):Prop where
 nd:G.gs.Nodup
 top:∀q,q∈G.top→H q≠none
 iH:G.rg.length=R
 my:G.hb=aB (.slice G.Ar R G.cr)
 rows:cg H (.slice G.Ar R G.cr) C.he 1 R (jc G.rg W)
 row:∀(i:Nat)(p:Nat×Nat),G.rg[i]? = some p→pK C (rem H G.gs) H p.1 (aL (M i) W)
 basis:(m=0∧G.bb = []∧G.bv = .slice none 0 0)∨∃gb cb sz,G.bb = [gb]∧G.bv = .slice (some ⟨gb,0,none⟩) m cb∧H gb=some ⟨eL B m,sz,3,true⟩
section
variable {C:CK} {H H':Heap} {G:GG} {R W m:Nat} {M:Nat→Nat→Rat} {B:Nat→Nat}
theorem GG.Cu{G:GG}{q:Nat}(h:q∈G.top):q∈G.gs:=List.mem_append_left _ h
theorem GG.Cv{G:GG}{q:Nat}(h:q∈G.hb):q∈G.low:=List.mem_append_left _ h
theorem GG.mT{G:GG}{q:Nat}(h:q∈G.bb):q∈G.low:=List.mem_append_right _ (List.mem_append_left _ h)
theorem GG.gP{G:GG}{i:Nat}{p:Nat×Nat}(h:G.rg[i]? = some p):p.1∈G.low:=List.mem_append_right _ (List.mem_append_right _ (List.mem_map.2 ⟨p,List.mem_of_getElem? h,rfl⟩))
theorem GG.kQ{G:GG}{q:Nat}(h:q∈G.low):q∈G.gs:=List.mem_append_right _ h
theorem GG.uo{G:GG}(h:G.gs.Nodup){q r:Nat}(hq:q∈G.top)(hr:r∈G.low):q≠r:=(List.nodup_append.1 h).2.2 q hq r hr
theorem GG.MP{G:GG}(h:G.gs.Nodup){q r:Nat}(hq:q∈G.hb)(hr:r∈G.bb∨∃(i:Nat)(p:Nat×Nat),G.rg[i]? = some p∧p.1=r):q≠r:=(List.nodup_append.1 (List.nodup_append.1 h).2.1).2.2 q hq r (by
 rcases hr with hr | ⟨i,p,hp,rfl⟩
 ·exact List.mem_append_left _ hr
 ·exact List.mem_append_right _ (List.mem_map.2 ⟨p,List.mem_of_getElem? hp,rfl⟩))
theorem GG.GY{G:GG}(h:G.gs.Nodup){q:Nat}(hq:q∈G.bb){i:Nat}{p:Nat×Nat}(hp:G.rg[i]? = some p):q≠p.1:=
 (List.nodup_append.1 (List.nodup_append.1 (List.nodup_append.1 h).2.1).2.1).2.2 q hq p.1 (List.mem_map.2 ⟨p,List.mem_of_getElem? hp,rfl⟩)
theorem GG.Lx{G:GG}(h:G.gs.Nodup){i j:Nat}{p q:Nat×Nat}(hp:G.rg[i]? = some p)(hq:G.rg[j]? = some q)(a7:i≠j):p.1≠q.1:=by
 have h1:=(List.nodup_append.1 (List.nodup_append.1 (List.nodup_append.1 h).2.1).2.1).2.1
 intro e
 have hi:(G.rg.map (·.1))[i]? = some p.1:=by rw[List.getElem?_map,hp];rfl
 have hj:(G.rg.map (·.1))[j]? = some p.1:=by rw[List.getElem?_map,hq,e];rfl
 obtain⟨hi1,uS⟩:=List.getElem?_eq_some_iff.1 hi
 obtain⟨vf,wB⟩:=List.getElem?_eq_some_iff.1 hj
 exact a7 ((List.getElem_inj h1).1 (uS.trans wB.symm))
theorem cA.get(h:cA C H G R W m M B){i:Nat}(hi:i<R):∃p,G.rg[i]? = some p:=⟨_,List.getElem?_eq_getElem (by rw[h.iH];exact hi)⟩
theorem cA.ne(h:cA C H G R W m M B):∀q,q∈G.gs→H q≠none:=fun q hq=>by
 rcases List.mem_append.1 hq with hq | hq
 ·exact h.top q hq
 ·rcases List.mem_append.1 hq with hq | hq
  ·rw[h.my]at hq
   obtain⟨en,he⟩:=h.rows.block (cM.1 hq)
   rw[he];simp
  rcases List.mem_append.1 hq with hq | hq
  ·rcases h.basis with ⟨_,h1,_⟩ | ⟨gb,cb,sz,h1,_,h2⟩
   ·rw[h1]at hq;cases hq
   ·rw[h1,List.mem_singleton]at hq
    rw[hq,h2];simp
  ·obtain⟨p,hp,rfl⟩:=List.mem_map.1 hq
   obtain⟨i,hi⟩:=List.getElem?_of_mem hp
   obtain⟨xs,sz,h1,_⟩:=h.row i p hi
   rw[h1];simp
theorem cA.Cw(h:cA C H G R W m M B){t:List Nat}(dX:(G.on t).gs.Nodup)(ht:∀q,q∈t→H' q≠none)(hs:∀q,q∈G.low→H' q=H q)(hl:Heap.le (rem H G.gs) (rem H' (G.on t).gs)):cA C H' (G.on t) R W m M B where
 nd:=dX
 top:=ht
 iH:=h.iH
 my:=h.my
 rows:=h.rows.same fun q hq=>hs q (GG.Cv (by show q∈G.hb;rw[h.my];exact cM.2 hq))
 row:=fun i p hp=>(h.row i p hp).le hl (hs _ (GG.gP hp))
 basis:=by
  rcases h.basis with h1 | ⟨gb,cb,sz,h1,h2,h3⟩
  ·exact .inl h1
  ·exact .inr ⟨gb,cb,sz,h1,h2,by rw[hs _ (GG.mT (by show gb∈G.bb;rw[h1];exact List.mem_singleton.2 rfl))];exact h3⟩
theorem cA.kept(h:cA C H G R W m M B)(k:Kept G.gs H H'):cA C H' G R W m M B:=
 h.Cw (t:=G.top) h.nd (fun q hq=>by rw[k.same _ (GG.Cu hq)];exact h.top q hq) (fun q hq=>k.same q (GG.kQ hq)) k.le
theorem cA.Cx(h:cA C H G R W m M B){g:Nat}(hg:g∈G.top)(k:fT G.gs g H H')(hn:H' g≠none):cA C H' G R W m M B:=
 h.Cw (t:=G.top) h.nd (fun q hq=>by
  by_cases e:q=g
  ·rw[e];exact hn
  ·rw[k.same _ (GG.Cu hq) e];exact h.top q hq) (fun q hq=>k.same q (GG.kQ hq) (Ne.symm (GG.uo h.nd hg hq))) k.le
theorem cA.congr{M':Nat→Nat→Rat}{B':Nat→Nat}(h:cA C H G R W m M B)(hM:∀i,i<R→∀j,j<W→M' i j=M i j)(hB:∀i,i<m→B' i=B i):cA C H G R W m M' B' where
 nd:=h.nd
 top:=h.top
 iH:=h.iH
 my:=h.my
 rows:=h.rows
 row:=fun i p hp=>by
  have hi:i<R:=by rw[←h.iH];exact(List.getElem?_eq_some_iff.1 hp).1
  rw[lI (g:=M i) (fun j hj=>hM i hi j hj)];exact h.row i p hp
 basis:=by rw[Xc hB];exact h.basis
def iK(M:Nat→Nat→Rat)(i:Nat)(f:Nat→Rat)(k:Nat):Nat→Rat:=if k=i then f else M k
theorem cA.setRow(h:cA C H G R W m M B){i:Nat}{p:Nat×Nat}(hp:G.rg[i]? = some p)(k:fT G.gs p.1 H H'){f:Nat→Rat}(hb:pK C (rem H' G.gs) H' p.1 (aL f W)):cA C H' G R W m (iK M i f) B where
 nd:=h.nd
 top:=fun q hq=>by rw[k.same _ (GG.Cu hq) (GG.uo h.nd hq (GG.gP hp))];exact h.top q hq
 iH:=h.iH
 my:=h.my
 rows:=h.rows.same fun q hq=>k.same _ (GG.kQ (GG.Cv (by rw[h.my];exact cM.2 hq))) (GG.MP h.nd (by rw[h.my];exact cM.2 hq) (.inr ⟨i,p,hp,rfl⟩))
 row:=fun j q hq=>by
  by_cases e:j=i
  ·subst e
   rw[hp]at hq
   cases hq
   simp only[iK,if_true]
   exact hb
  ·simp only[iK,if_neg e]
   exact(h.row j q hq).le k.le (k.same _ (GG.kQ (GG.gP hq)) (GG.Lx h.nd hq hp e))
 basis:=by
  rcases h.basis with h1 | ⟨gb,cb,sz,h1,h2,h3⟩
  ·exact .inl h1
  ·have hm:gb∈G.bb:=by rw[h1];exact List.mem_singleton.2 rfl
   exact .inr ⟨gb,cb,sz,h1,h2,by rw[k.same _ (GG.kQ (GG.mT hm)) (GG.GY h.nd hm hp)];exact h3⟩
theorem cA.D9(h:cA C H G R W m M B){gb cb sz:Nat}(lH:G.bb = [gb])(dr:G.bv = .slice (some ⟨gb,0,none⟩) m cb){B':Nat→Nat}:cA C (ins H gb ⟨eL B' m,sz,3,true⟩) G R W m M B':=by
 have hm:gb∈G.bb:=by rw[lH];exact List.mem_singleton.2 rfl
 have hg:gb∈G.gs:=GG.kQ (GG.mT hm)
 refine⟨h.nd,fun q hq=> ?_,h.iH,h.my,h.rows.same fun q hq=>bg _ _ (GG.MP h.nd (by rw[h.my];exact cM.2 hq) (.inl hm)),fun i p hp=> ?_,.inr ⟨gb,cb,sz,lH,dr,bF _ _ _⟩⟩
 ·rw[bg _ _ (GG.uo h.nd hq (GG.mT hm))];exact h.top q hq
 ·rw[cK _ hg]
  exact(h.row i p hp).le (.refl _) (bg _ _ (Ne.symm (GG.GY h.nd hm hp)))
end
def vQ:CK:=⟨fun _ vs q=>fD vs q,2,163,161,fun _ _ _ _ _ h=>h,fun _ _ _ ⟨n,d,h,_⟩=>by rw[h];rfl⟩
def iQ:CK:=⟨bX,3,31,26,dL,fun _ vs _ h=>by
 obtain⟨u,w,e,_⟩:=h
 rw[zf e];rfl⟩
end Go.aw
namespace Go.aw
open Go Go.Proofs
section
variable {P:Program} {n:Nat} {w0:World} {H0:Heap} {Q:Exit→St→Heap→Prop} {s:St} {H:Heap}
theorem MQ{c:Code}(b:Nat){cs:List Value}(hb:s b=some (.box cs))(h:∀g e,H g=none→VC P n w0 H0 c Q (put s b (.val (.pointer (some ⟨g,0,none⟩)))) (ins H g ⟨cs,cs.length,e,true⟩)):VC P n w0 H0 c Q s H:=by
 unfold VC at h⊢
 intro a w hR
 obtain⟨G,hl,hG⟩:=hR.fits
 obtain⟨h1,h2,e,h3⟩:=hl.boxes b cs hb
 have key:∀t c',put s b (.val (.pointer (some ⟨G b,0,none⟩))) t=some (.box c')→t≠b∧s t=some (.box c'):=fun t c' ht=>by
  by_cases e:t=b
  ·subst e;rw[iy]at ht;cases ht
  ·rw[fF _ _ e]at ht;exact⟨e,ht⟩
 have ne:∀t c',t≠b→s t=some (.box c')→G t≠G b:=fun t c' e ht hg=>e (hl.inj t b _ _ ht hb hg)
 refine h (G b) e h2 a w ⟨hR.defers,⟨G,⟨⟨hl.aL.size,fun t v ht=> ?_⟩,fun t c' ht=> ?_,fun t t' c1 c2 ht pS hg=> ?_,fun t b' off c' ht s6=> ?_,fun g en hg=> ?_⟩,fun t c' ht=>hG t c' (key t c' ht).2⟩,?_⟩
 ·by_cases e:t=b
  ·subst e
   rw[iy]at ht
   cases ht
   exact h1
  ·rw[fF _ _ e]at ht;exact hl.aL.at_ t v ht
 ·obtain⟨e1,ht⟩:=key t c' ht
  obtain⟨k1,k2,k3⟩:=hl.boxes t c' ht
  exact⟨k1,by rw[bg _ _ (ne t c' e1 ht)];exact k2,k3⟩
 ·exact hl.inj t t' c1 c2 (key t c1 ht).2 (key t' c2 pS).2 hg
 ·obtain⟨e1,s6⟩:=key b' c' s6
  by_cases e2:t=b
  ·subst e2;rw[iy]at ht;cases ht
  ·rw[fF _ _ e2]at ht;exact hl.refs t b' off c' ht s6
 ·by_cases eg:g=G b
  ·subst eg
   rw[bF]at hg
   cases hg
   exact⟨_,h3,cs.toArray,(0,0),rfl,by simp,fun i v hv=>by simpa using hv,fun _=>rfl⟩
  ·rw[bg _ _ eg]at hg;exact hl.den g en hg
 ·have hf:=hR.fx
  refine⟨hf.os,hf.tape,hf.output,hf.size,fun g hg h0=> ?_,hf.form⟩
  have k:=hf.keep g hg h0
  refine⟨k.1,?_⟩
  rw[bg _ _ (fun e=>by have:=hG b cs hb;omega)];exact k.2
theorem SA{c:Code}{H':Heap}(hl:Heap.le H' H)(h:VC P n w0 H0 c Q s H'):VC P n w0 H0 c Q s H:=by
 unfold VC at h⊢
 intro a w hR
 have hn:∀g,H g=none→H' g=none:=fun g hg=>le_none hl hg
 obtain⟨G,hr,hG⟩:=hR.fits
 refine h a w ⟨hR.defers,⟨G,⟨hr.aL,fun t cs ht=> ?_,hr.inj,hr.refs,hr.den.le hl⟩,hG⟩,?_⟩
 ·obtain⟨h1,h2,h3⟩:=hr.boxes t cs ht
  exact⟨h1,hn _ h2,h3⟩
 ·have hf:=hR.fx
  exact⟨hf.os,hf.tape,hf.output,hf.size,fun g hg h0=>⟨(hf.keep g hg h0).1,hn _ (hf.keep g hg h0).2⟩,hf.form⟩
end
def lx(g:Nat)(H:Heap)(ad:Addr):Option Value:=if ad.block=g∧ad.off=2 then none else cell H ad
theorem SB{g:Nat}{H:Heap}{ad:Addr}{v:Value}(hc:cell H ad=some v)(hn:ad.block≠g∨ad.off≠2):lx g H ad=some v:=by
 unfold lx
 rw[if_neg (fun h=>hn.elim (fun k=>k h.1) (fun k=>k h.2))];exact hc
theorem I7(g:Nat)(H:Heap):(Mode.cO (lx g H)).fN H:=fun ad v h=>by
 have h:lx g H ad=some v:=h
 unfold lx at h
 split at h
 ·cases h
 ·exact h
theorem ai7{g:Nat}{H H':Heap}{gs:List Nat}{a b c c':Value}{sz:Nat}{e:TypeId}(hg:g∈gs)(ht:H g=some ⟨[a,b,c],sz,e,true⟩)(h:fT gs g H H')(pS:H' g=some ⟨[a,b,c'],sz,e,true⟩):(Mode.cO (lx g H)).fN H':=fun ad v hk=>by
 have hk:lx g H ad=some v:=hk
 unfold lx at hk
 split at hk
 ·cases hk
 ·rename_i hn
  by_cases e:ad.block=g
  ·unfold cell at hk⊢
   rw[e,ht]at hk
   rw[e,pS]
   simp only at hk⊢
   split at hk
   ·cases hk
   ·rename_i hs
    rw[if_neg hs]
    match ho:ad.off with
    | 0=>rw[ho]at hk;exact hk
    | 1=>rw[ho]at hk;exact hk
    | 2=>exact absurd ⟨e,ho⟩ hn
    | k+3=>rw[ho]at hk;simp at hk
  ·by_cases hm:ad.block∈gs
   ·unfold cell at hk⊢
    rw[h.same _ hm e];exact hk
   ·refine cN (bt _ gs) (cN h.le ?_)
    unfold cell at hk⊢
    rw[bM hm];exact hk
def Cy(kc:Addr→Option Value)(A:Option Addr)(xs:List Value):Prop:=∀(i:Nat)(v:Value),xs[i]? = some v→∃ad,A=some ad∧kc (ad.add i)=some v
theorem ai8{H:Heap}{gs:List Nat}{ad:Addr}{v:Value}(h:cell (rem H gs) ad=some v):¬ad.block∈gs:=fun hm=>by
 unfold cell at h
 rw[rem_in hm]at h;cases h
theorem Rd.kx{g:Nat}{H:Heap}{gs:List Nat}{A:Option Addr}{xs:List Value}(h:Rd (rem H gs) A xs)(hg:g∈gs):Cy (lx g H) A xs:=fun i v hv=>by
 obtain⟨ad,h1,h2⟩:=h i v hv
 exact⟨ad,h1,SB (cN (bt _ gs) h2) (.inl fun e=>ai8 h2 (e▸hg))⟩
theorem zN{g q:Nat}{H:Heap}{xs:List Value}{s e:Nat}{b:Bool}(h:H q=some ⟨xs,s,e,b⟩)(hn:q≠g):Cy (lx g H) (some ⟨q,0,none⟩) xs:=fun i v hv=>by
 obtain⟨ad,h1,h2⟩:=dW h i v hv
 cases h1
 refine⟨_,rfl,SB h2 (.inl ?_)⟩
 rw[iX];exact hn
theorem ai9{g:Nat}{H:Heap}{a:Value}{xs:List Value}{s e:Nat}{b:Bool}(h:H g=some ⟨a::xs,s,e,b⟩):lx g H ((⟨g,0,none⟩:Addr).add 0)=some a:=SB (by simp[cell,iX,h]) (.inr (by rw[iX];simp))
section
variable {P:Program} {n:Nat} {tb:Tb} {all:Array Oper} {s:St} {H:Heap} {K:St→Heap→Prop} {r:List Oper} {dst:Option Nat} {ty:TypeId} {pos:String} {after:Array Edge} {gd:Option (Nat×Bool)} {kc:Addr→Option Value}
theorem SC{t:TypeId}{x i:Operand}{ad:Addr}{m c:Nat}{k:IntKind}{j:Int}{e sz:Nat}(hc:(Mode.cO kc).fN H)(dt:jZ P tb)(ht:tb[t]? = some (.sl e sz))(hx:ev s x=some (.slice (some ad) m c))(hi:ev s i=some (.int k j))(h0:0≤j)(h1:j<m)
  (hk:aQ P n all (.cO kc) r (bA s dst (.val (.pointer (some (ad.add (j.toNat*sz)))))) H K) (hg:cj all s gd=some true:=by rfl) (nb:jy s dst=true:=by rfl):aQ P n all (.cO kc) (⟨dst,.indexAddr t x i,ty,pos,after,gd⟩::r) s H K:=
 Ek _ rfl hc hg nb (fun a w ha _=>by
  obtain⟨hu,ii,h2,h3⟩:=dt t _ ht
  simp[execOp,bT ha hx,bT ha hi,Instr.indexAt,asIntOf,run_underlying hu,h0,h1,sizeOf,typeInfo,h2,h3]) hk
theorem I8{t:TypeId}{x:Operand}{ad:Addr}{m:Nat}{tj:List (Nat×Nat)}{vs:List Value}(bm:(Mode.cO kc).fN H)(dt:jZ P tb)(ht:tb[t]? = some (.st m tj))(hx:ev s x=some (.pointer (some ad)))(hm:vs.length=m)
  (hc:∀(i:Nat)(v:Value),vs[i]? = some v→kc (ad.add i)=some v)
  (hk:aQ P n all (.cO kc) r (bA s dst (.val (.agg vs.toArray))) H K) (hg:cj all s gd=some true:=by rfl) (nb:jy s dst=true:=by rfl):aQ P n all (.cO kc) (⟨dst,.load t x,ty,pos,after,gd⟩::r) s H K:=
 Ek _ rfl bm hg nb (fun a w ha hd=>by
  obtain⟨fs,ii,hu,h2,h3,_,h4⟩:=dt t _ ht
  simp[execOp,bT ha hx,Instr.loadAt,Instr.sureAddr,OA hu h2 vs (by rw[h3,hm]) (fun j v hv=>hd _ _ (hc j v hv))]) hk
theorem Cz{t t2:TypeId}{x i:Operand}{A:Option Addr}{m c d1:Nat}{oS:Option Nat}{ni:TypeId}{nn:String}{nr:Array Edge}{jQ:Option (Nat×Bool)}{k:IntKind}{j:Int}{e:Nat}{ti:Ti}{xs:List Value}{v:Value}
  (bm:(Mode.cO kc).fN H) (dt:jZ P tb) (ht:tb[t]? = some (.sl e 1)) (fj:tb[t2]? = some ti) (h1:yC ti=true) (hx:ev s x=some (.slice A m c)) (hi:ev s i=some (.int k j)) (hr:Cy kc A xs) (hv:xs[j.toNat]? = some v) (h0:0≤j) (hm:j<m)
  (hk:∀ad:Addr,aQ P n all (.cO kc) r (bA (put s d1 (.val (.pointer (some ad)))) oS (.val v)) H K) (hg:cj all s gd=some true:=by rfl) (nb:jy s (some d1)=true:=by rfl) (eu:∀ad:Addr,cj all (put s d1 (.val (.pointer (some ad)))) jQ=some true:=by exact fun _=>rfl) (tm:∀ad:Addr,jy (put s d1 (.val (.pointer (some ad)))) oS=true:=by exact fun _=>rfl):
  aQ P n all (.cO kc) (⟨some d1,.indexAddr t x i,ty,pos,after,gd⟩::⟨oS,.load t2 (.tmp d1),ni,nn,nr,jQ⟩::r) s H K:=by
 obtain⟨ad,rfl,hc⟩:=hr _ _ hv
 exact SC bm dt ht hx hi h0 hm (ki (ad:=ad.add (j.toNat*1)) bm dt fj h1 (by simp[ev,put,bA]) (by rw[Nat.mul_one];exact hc) (hk _) (eu _) (tm _)) hg nb
theorem CA{t t2:TypeId}{x i:Operand}{A:Option Addr}{m c d1:Nat}{oS:Option Nat}{ni:TypeId}{nn:String}{nr:Array Edge}{jQ:Option (Nat×Bool)}{k:IntKind}{j:Int}{e sz:Nat}{tj:List (Nat×Nat)}{xs vs:List Value}
  (bm:(Mode.cO kc).fN H) (dt:jZ P tb) (ht:tb[t]? = some (.sl e sz)) (fj:tb[t2]? = some (.st sz tj)) (hx:ev s x=some (.slice A m c)) (hi:ev s i=some (.int k j)) (hr:Cy kc A xs) (hl:vs.length=sz) (hp:0<sz) (hv:∀(q:Nat)(v:Value),vs[q]? = some v→xs[j.toNat*sz+q]? = some v) (h0:0≤j) (hm:j<m)
  (hk:∀ad:Addr,aQ P n all (.cO kc) r (bA (put s d1 (.val (.pointer (some ad)))) oS (.val (.agg vs.toArray))) H K) (hg:cj all s gd=some true:=by rfl) (nb:jy s (some d1)=true:=by rfl) (eu:∀ad:Addr,cj all (put s d1 (.val (.pointer (some ad)))) jQ=some true:=by exact fun _=>rfl) (tm:∀ad:Addr,jy (put s d1 (.val (.pointer (some ad)))) oS=true:=by exact fun _=>rfl):
  aQ P n all (.cO kc) (⟨some d1,.indexAddr t x i,ty,pos,after,gd⟩::⟨oS,.load t2 (.tmp d1),ni,nn,nr,jQ⟩::r) s H K:=by
 have OD:vs[0]? = some (vs[0]'(by omega)):=List.getElem?_eq_getElem (by omega)
 obtain⟨ad,rfl,_⟩:=hr _ _ (hv 0 _ OD)
 refine SC bm dt ht hx hi h0 hm (I8 (ad:=ad.add (j.toNat*sz)) bm dt fj (by simp[ev,put,bA]) hl (fun q v hq=> ?_) (hk _) (eu _) (tm _)) hg nb
 obtain⟨FT,h1,h2⟩:=hr _ _ (hv q v hq)
 cases h1
 rw[add_add];exact h2
theorem CB{f:Operand}{kX:FuncId}{args:List Value}{xs:List Operand}{ts:Array TypeId}{bG:Value→Heap→Prop}(hf:ev s f=some (.func (.func kX) #[] #[]))(hx:qF s xs=some args)
  (h:Fn P kX args.toArray H bG) (hm:∀v H',bG v H'→(Mode.cO kc).fN H') (hk:∀v H',bG v H'→aQ P n all (.cO kc) r (bA s dst (.val v)) H' K) (hg:cj all s gd=some true:=by rfl) (nb:jy s dst=true:=by rfl):aQ P n all (.cO kc) (⟨dst,.call ⟨.value f,xs.toArray,ts⟩,ty,pos,after,gd⟩::r) s H K:=
 El (cap:=[]) hf hx (by simpa using h) hm hk hg nb
theorem MR{t t2:TypeId}{x i y:Operand}{g m c d1:Nat}{ni:TypeId}{nn:String}{nr:Array Edge}{jQ:Option (Nat×Bool)}{k:IntKind}{j:Int}{e sz:Nat}{ent:Ent}{v:Value}{vs:List Value}{ii:TypeInfo}
  (bm:(Mode.cO kc).fN H) (dt:jZ P tb) (ht:tb[t]? = some (.sl e sz)) (hx:ev s x=some (.slice (some ⟨g,0,none⟩) m c)) (hi:ev s i=some (.int k j)) (h0:0≤j) (hm:j<m) (hg:H g=some ent) (cE:ent.own=true) (lC:m*sz≤ent.xs.length)
  (wm:P.info? t2=some ii) (cQ:ii.size=sz) (hy:∀ad:Addr,ev (put s d1 (.val (.pointer (some ad)))) y=some v) (hv:v.cells=vs.toArray) (ig:vs.length=sz) (h1:vs.all yH=true)
  (hk:∀ad:Addr,aQ P n all (.cO kc) r (put s d1 (.val (.pointer (some ad)))) (ins H g {ent with xs:=aM ent.xs (j.toNat*sz) vs}) K) (iA:cj all s gd=some true:=by rfl) (nb:jy s (some d1)=true:=by rfl) (eu:∀ad:Addr,cj all (put s d1 (.val (.pointer (some ad)))) jQ=some true:=by exact fun _=>rfl):
  aQ P n all (.cO kc) (⟨some d1,.indexAddr t x i,ty,pos,after,gd⟩::⟨none,.store t2 (.tmp d1) y,ni,nn,nr,jQ⟩::r) s H K:=by
 have tk:(⟨g,0,none⟩:Addr).add (j.toNat*sz)=⟨g,j.toNat*sz,none⟩:=iX ..
 have hjm:j.toNat*sz+sz≤m*sz:=by
  have:(j.toNat+1)*sz≤m*sz:=Nat.mul_le_mul_right _ (by omega)
  rw[Nat.add_mul]at this;omega
 refine SC bm dt ht hx hi h0 hm ?_ iA nb
 rw[tk]
 exact BS (by simp[ev,put,bA]) hg cE (by omega) wm cQ (hy _) hv ig h1 (hk _) (eu _)
end
end Go.aw
namespace Go.aw
open Go.Proofs Num Lp
theorem GG.xO(G:GG)(t:List Nat):(G.on t).gs=t++G.low:=rfl
theorem SD(v:Value):(aB v).Nodup:=by
 unfold aB
 cases v.ownBlock with
 | none=>exact List.nodup_nil
 | some q=>exact List.nodup_cons.2 ⟨List.not_mem_nil,List.nodup_nil⟩
theorem App.new{H H':Heap}{v v':Value}{e sz n:Nat}{xs:List Value}(ha:App H v e sz n xs v' H'):∀q,q∈aB v'→q∈aB v∨H q=none:=fun q hq=>by
 rcases ha.at_ with h4 | ⟨g,h4,h5⟩
 ·exact .inl (cM.2 (h4▸cM.1 hq))
 ·have:=cM.1 hq;rw[h4]at this;cases this;exact .inr h5
section
variable {C:CK} {H H':Heap} {G:GG} {R W m:Nat} {M:Nat→Nat→Rat} {B:Nat→Nat} {u u':Value} {t:List Nat} {e sz n:Nat} {xs:List Value}
theorem cA.app(h:cA C H (G.on (aB u++t)) R W m M B)(ha:App H u e sz n xs u' H'):cA C H' (G.on (aB u'++t)) R W m M B∧Heap.le (rem H (G.on (aB u++t)).gs) (rem H' (G.on (aB u'++t)).gs):=by
 have a7:=h.ne
 have dX:=h.nd
 rw[GG.xO,List.append_assoc]at dX
 obtain⟨_,n2,n3⟩:=List.nodup_append.1 dX
 have oQ:∀q,q∈t++G.low→q∈(G.on (aB u++t)).gs:=fun q hq=>by
  rw[GG.xO,List.append_assoc];exact List.mem_append_right _ hq
 have qO:∀q,q∈t++G.low→H' q=H q:=fun q hq=>by
  obtain⟨en,he⟩:=Option.ne_none_iff_exists'.1 (a7 q (oQ q hq))
  rw[he]
  exact ha.same q en he fun h1=>n3 q (cM.2 h1) q hq rfl
 have hl:Heap.le (rem H (G.on (aB u++t)).gs) (rem H' (G.on (aB u'++t)).gs):=fun q en hq=>by
  by_cases hm:q∈(G.on (aB u++t)).gs
  ·rw[rem_in hm]at hq;cases hq
  ·rw[bM hm]at hq
   have k1:¬q∈aB u:=fun k=>hm (by rw[GG.xO,List.append_assoc];exact List.mem_append_left _ k)
   have h1:=ha.same q en hq fun e=>k1 (cM.2 e)
   have h2:¬q∈(G.on (aB u'++t)).gs:=fun h2=>by
    rw[GG.xO,List.append_assoc]at h2
    rcases List.mem_append.1 h2 with h3 | h3
    ·rcases ha.new q h3 with h4 | h4
     ·exact k1 h4
     ·rw[h4]at hq;cases hq
    ·exact hm (oQ q h3)
   exact⟨en,by rw[bM h2];exact h1,.refl _⟩
 refine⟨h.Cw (t:=aB u'++t) ?_ (fun q hq=> ?_) (fun q hq=>qO q (List.mem_append_right _ hq)) hl,hl⟩
 ·show ((aB u'++t)++G.low).Nodup
  rw[List.append_assoc]
  refine List.nodup_append.2 ⟨SD _,n2,fun q hq r hr e=> ?_⟩
  subst e
  rcases ha.new q hq with h4 | h4
  ·exact n3 q h4 q hr rfl
  ·exact a7 q (oQ q hr) h4
 ·rcases List.mem_append.1 hq with hq | hq
  ·obtain⟨en,he⟩:=ha.own.block (cM.1 hq)
   rw[he];simp
  ·rw[qO q (List.mem_append_left _ hq)];exact a7 q (oQ q (List.mem_append_left _ hq))
end
structure QV(o:Bool)(H:Heap)(g:Nat)(G:GG)(R W m:Nat)(M:Nat→Nat→Rat)(B:Nat→Nat):Prop where
 cZ:cA vQ H G R W m M B
 gt:g∈G.top
 st:H g=some ⟨[.slice G.Ar R G.cr,G.bv,.bool o],3,160,true⟩
section
variable {o o':Bool} {H H' K:Heap} {g:Nat} {G:GG} {R W m:Nat} {M:Nat→Nat→Rat} {B:Nat→Nat} {u u':Value} {t:List Nat}
theorem QV.mem(h:QV o H g G R W m M B):g∈G.gs:=GG.Cu h.gt
theorem QV.ja(h:QV o H g G R W m M B):cell H ((⟨g,0,none⟩:Addr).add 0)=some (.slice G.Ar R G.cr):=by simp[cell,iX,h.st]
theorem QV.mY(h:QV o H g G R W m M B):cell H ((⟨g,0,none⟩:Addr).add 1)=some G.bv:=by simp[cell,iX,h.st]
theorem QV.SE(h:QV o H g G R W m M B):cell H ((⟨g,0,none⟩:Addr).add 2)=some (.bool o):=by simp[cell,iX,h.st]
theorem QV.xP(h:QV o H g G R W m M B){i:Nat}{p:Nat×Nat}(hp:G.rg[i]? = some p):p.1≠g:=Ne.symm (GG.uo h.cZ.nd h.gt (GG.gP hp))
theorem QV.row(h:QV o H g G R W m M B){i:Nat}{p:Nat×Nat}(hp:G.rg[i]? = some p):∃xs sz,H p.1=some ⟨xs,sz,163,true⟩∧bE fD 2 xs (aL (M i) W):=h.cZ.row i p hp
theorem m0{xs:List Value}{f:Nat→Rat}{W k:Nat}(h:bE fD 2 xs (aL f W))(hk:k<W):∃n d:Int,fD [.int .i64 n,.int .i64 d] (f k)∧(∀(j:Nat)(v:Value),[.int .i64 n,.int .i64 d][j]? = some v→xs[k*2+j]? = some v)∧-1073741824≤n∧n≤1073741824∧1≤d∧d≤1073741824∧f k=(n:Rat)/(d:Rat):=by
 obtain⟨vs,_,h2,h3⟩:=h.get (dM hk)
 obtain⟨n,d,rfl,h4⟩:=id h2
 exact⟨n,d,h2,h3,h4⟩
theorem ur{n d:Int}(h:1≤d):(n:Rat)/(d:Rat)=0↔n=0:=by
 have h4:(d:Rat)≠0:=by exact_mod_cast (show d≠0 by omega)
 constructor
 ·intro h1
  have h2:(n:Rat)=0:=by
   have h3:(n:Rat)/(d:Rat)*(d:Rat)=0:=by rw[h1];grind
   rwa [Rat.div_mul_cancel h4]at h3
  exact_mod_cast h2
 ·rintro rfl;rw[Rat.div_def];grind
theorem MS{n d:Int}(h:1≤d):(n:Rat)/(d:Rat)<0↔n<0:=by
 have h4:(0:Rat)<(d:Rat):=by exact_mod_cast (show 0<d by omega)
 have h5:(d:Rat)≠0:=by grind
 have e:(n:Rat)=(n:Rat)/(d:Rat)*(d:Rat):=(Rat.div_mul_cancel h5).symm
 constructor
 ·intro h1
  have h2:(n:Rat)/(d:Rat)*(d:Rat)<0*(d:Rat):=Rat.mul_lt_mul_of_pos_right h1 h4
  rw[←e]at h2
  have h3:(n:Rat)<0:=by grind
  exact_mod_cast h3
 ·intro h1
  have h2:(n:Rat)<0:=by exact_mod_cast h1
  refine Classical.byContradiction fun h3=> ?_
  have h6:0≤(n:Rat)/(d:Rat)*(d:Rat):=Rat.mul_nonneg (by grind) (by grind)
  rw[←e]at h6
  grind
theorem QV.set(h:QV o H g G R W m M B){i:Nat}{p:Nat×Nat}(hp:G.rg[i]? = some p)(ht:fT G.gs g H H')(iL:H' g=some ⟨[.slice G.Ar R G.cr,G.bv,.bool o'],3,160,true⟩){xs:List Value}{sz:Nat}(hx:H p.1=some ⟨xs,sz,163,true⟩)(iI:bE fD 2 xs (aL (M i) W)){k:Nat}(hk:k<W){vs:List Value}{q:Rat}(hv:fD vs q):
  QV o' (ins H' p.1 ⟨aM xs (k*2) vs,sz,163,true⟩) g G R W m (iK M i (bY (M i) k q)) B∧Heap.le (rem H G.gs) (rem (ins H' p.1 ⟨aM xs (k*2) vs,sz,163,true⟩) G.gs):=by
 have hm:=GG.kQ (GG.gP hp)
 have h1:=h.cZ.Cx h.gt ht (by rw[iL];simp)
 have h2:H' p.1=H p.1:=ht.same _ hm (h.xP hp)
 have ig:vs.length=2:=by obtain⟨n,d,rfl,_⟩:=hv;rfl
 have hT:fT G.gs p.1 H' (ins H' p.1 ⟨aM xs (k*2) vs,sz,163,true⟩):=((Kept.refl _ _).iO p.1).ins hm _
 refine⟨⟨h1.setRow hp hT ?_,h.gt,by rw[bg _ _ (Ne.symm (h.xP hp))];exact iL⟩,ht.le.trans hT.le⟩
 refine⟨_,_,bF _ _ _,?_⟩
 have e:aL (bY (M i) k q) W=(aL (M i) W).set k q:=by
  apply List.ext_getElem?
  intro j
  by_cases hj:j<W
  ·rw[dM hj]
   by_cases ej:j=k
   ·subst ej
    rw[List.getElem?_set_self (by rw[bh];exact hj)];simp[bY]
   ·rw[List.getElem?_set_ne (fun e'=>ej e'.symm),dM hj];simp[bY,ej]
  ·rw[List.getElem?_eq_none (by rw[bh];omega),List.getElem?_eq_none (by rw[List.length_set,bh];omega)]
 rw[e]
 exact iI.set (by rw[bh];exact hk) hv ig
theorem QV.uK(h:QV o H g G R W m M B)(ht:fT G.gs g H H')(iL:H' g=some ⟨[.slice G.Ar R G.cr,G.bv,.bool o'],3,160,true⟩):QV o' H' g G R W m M B:=⟨h.cZ.Cx h.gt ht (by rw[iL];simp),h.gt,iL⟩
theorem QV.fN(h:QV o H g G R W m M B)(ht:fT G.gs g H H')(iL:H' g=some ⟨[.slice G.Ar R G.cr,G.bv,.bool o'],3,160,true⟩):(Mode.cO (lx g H)).fN H':=ai7 h.mem h.st ht iL
theorem QV.rk(h:QV o H g G R W m M B):∃xs,Cy (lx g H) G.Ar xs∧Rd H G.Ar xs∧∀(i:Nat)(p:Nat×Nat),G.rg[i]? = some p→xs[i]? = some (.slice (some ⟨p.1,0,none⟩) W p.2):=by
 refine⟨jc G.rg W,?_,h.cZ.rows.rd,fun i p hp=>kE hp⟩
 rcases h.cZ.rows.2 with ⟨h1,h2⟩ | ⟨gr,cap,h1,h2,_⟩
 ·have e:jc G.rg W = []:=List.eq_nil_of_length_eq_zero (by rw[h.cZ.rows.1,h2])
  rw[e]
  exact fun i v hv=>by simp at hv
 ·have e:G.Ar=some ⟨gr,0,none⟩:=(Value.slice.inj h1).1
  rw[e]
  refine zN h2 (Ne.symm (GG.uo h.cZ.nd h.gt (GG.Cv ?_)))
  rw[h.cZ.my,h1];exact List.mem_singleton.2 rfl
theorem QV.k0(h:QV o H g G R W m M B):lx g H ((⟨g,0,none⟩:Addr).add 0)=some (.slice G.Ar R G.cr):=ai9 h.st
theorem QV.fresh(h:QV o H g G R W m M B){k:Nat}{e:Ent}(hk:H k=none):QV o (ins H k e) g G R W m M B∧Heap.le (rem H G.gs) (rem (ins H k e) G.gs):=by
 have hm:¬k∈G.gs:=fun hm=>h.cZ.ne k hm hk
 have hl:Heap.le (rem H G.gs) (rem (ins H k e) G.gs):=by
  rw[rY _ hm]
  exact Heap.bC _ (by rw[bM hm];exact hk)
 have hs:∀q,q∈G.gs→ins H k e q=H q:=fun q hq=>bg _ _ fun e'=>hm (e'▸hq)
 exact⟨⟨h.cZ.kept ⟨hl,hs⟩,h.gt,(hs g h.mem).trans h.st⟩,hl⟩
theorem SF{H:Heap}{q:Nat}{gs:List Nat}{xs:List Value}(h:Rd H (some ⟨q,0,none⟩) xs)(hq:¬q∈gs):Rd (rem H gs) (some ⟨q,0,none⟩) xs:=fun i v hv=>by
 obtain⟨ad,h1,h2⟩:=h i v hv
 cases h1
 refine⟨_,rfl,?_⟩
 rw[iX]at h2⊢
 unfold cell at h2⊢
 rw[bM hq];exact h2
theorem Cy.at{kc:Addr→Option Value}{ad:Addr}{xs:List Value}(h:Cy kc (some ad) xs):∀(i:Nat)(v:Value),xs[i]? = some v→kc (ad.add i)=some v:=fun i v hv=>by
 obtain⟨FT,h1,h2⟩:=h i v hv
 cases h1;exact h2
end
abbrev vR(l:List Nat):List Value:=l.map fun(j:Nat)=>Value.int .i64 (j:Int)
structure QU(o:Bool)(K H:Heap)(g:Nat)(G:GG)(R W m:Nat)(M:Nat→Nat→Rat)(B:Nat→Nat)(u:Value)(l:List Nat):Prop where
 q:QV o H g (G.on (aB u++G.top)) R W m M B
 own:cg H u 3 1 l.length (vR l)
 le:Heap.le K (rem H (G.on (aB u++G.top)).gs)
section
variable {o o':Bool} {H H' K:Heap} {g:Nat} {G:GG} {R W m:Nat} {M M':Nat→Nat→Rat} {B:Nat→Nat} {u u':Value} {l:List Nat}
theorem QU.xQ{q:Nat}(hq:q∈aB u):q∈(G.on (aB u++G.top)).gs:=List.mem_append_left _ (List.mem_append_left _ hq)
theorem QU.une(h:QU o K H g G R W m M B u l)(hg:g∈G.top){q:Nat}(hq:q∈aB u):q≠g:=fun e=>by
 have dX:=h.q.cZ.nd
 rw[GG.xO,List.append_assoc]at dX
 exact(List.nodup_append.1 dX).2.2 q hq g (List.mem_append_left _ hg) e
theorem QU.step(h:QU o K H g G R W m M B u l)(hq:QV o' H' g (G.on (aB u++G.top)) R W m M' B)(hl:Heap.le (rem H (G.on (aB u++G.top)).gs) (rem H' (G.on (aB u++G.top)).gs))(hs:∀q,q∈aB u→H' q=H q):QU o' K H' g G R W m M' B u l:=
 ⟨hq,h.own.same fun q pY=>hs q (cM.2 pY),h.le.trans hl⟩
theorem QU.set(h:QU o K H g G R W m M B u l)(hg:g∈G.top){i:Nat}{p:Nat×Nat}(hp:G.rg[i]? = some p)(ht:fT (G.on (aB u++G.top)).gs g H H')(iL:H' g=some ⟨[.slice G.Ar R G.cr,G.bv,.bool o'],3,160,true⟩){xs:List Value}{sz:Nat}(hx:H p.1=some ⟨xs,sz,163,true⟩)(iI:bE fD 2 xs (aL (M i) W)){k:Nat}(hk:k<W){vs:List Value}{q:Rat}(hv:fD vs q):
  QU o' K (ins H' p.1 ⟨aM xs (k*2) vs,sz,163,true⟩) g G R W m (iK M i (bY (M i) k q)) B u l:=by
 obtain⟨h1,h2⟩:=h.q.set (G:=G.on (aB u++G.top)) hp ht iL hx iI hk hv
 refine h.step h1 h2 fun r hr=> ?_
 have a7:r≠p.1:=fun e=>GG.uo h.q.cZ.nd (q:=r) (r:=p.1) (List.mem_append_left _ hr) (GG.gP (G:=G.on (aB u++G.top)) hp) e
 rw[bg _ _ a7]
 exact ht.same r (QU.xQ hr) (h.une hg hr)
theorem QU.app(h:QU o K H g G R W m M B u l){k n:Nat}(hn:n=l.length+1)(ha:App H u 3 1 n (vR l ++ [.int .i64 (k:Int)]) u' H')(hg:g∈G.top):QU o K H' g G R W m M B u' (l ++ [k]):=by
 obtain⟨h1,h2⟩:=h.q.cZ.app ha
 refine⟨⟨h1,List.mem_append_right _ hg,?_⟩,?_,h.le.trans h2⟩
 ·exact ha.same g _ h.q.st fun e=>h.une hg (cM.2 e) rfl
 ·have:=ha.own
  rw[hn]at this
  rw[List.length_append,vR,List.map_append];exact this
theorem QU.fresh(h:QU o K H g G R W m M B u l){k:Nat}{e:Ent}(hk:H k=none):QU o K (ins H k e) g G R W m M B u l:=by
 obtain⟨h1,h2⟩:=h.q.fresh (e:=e) hk
 refine h.step h1 h2 fun q hq=>bg _ _ fun e'=> ?_
 subst e'
 exact h.q.cZ.ne q (QU.xQ hq) hk
theorem QU.down{K':Heap}(h:QU o K H g G R W m M B u l)(hl:Heap.le K' K):QU o K' H g G R W m M B u l:=⟨h.q,h.own,hl.trans h.le⟩
theorem QU.pJ(h:QU o K H g G R W m M B u l):QU o (rem H (G.on (aB u++G.top)).gs) H g G R W m M B u l:=⟨h.q,h.own,.refl _⟩
theorem QU.drop(h:QU o K H g G R W m M B u l)(hg:g∈G.top):QV o H g G R W m M B∧Heap.le K (rem H G.gs):=by
 have hl:Heap.le (rem H (G.on (aB u++G.top)).gs) (rem H G.gs):=E3 fun q hq=>by
  rw[GG.xO,List.append_assoc];exact List.mem_append_right _ hq
 have dX:=h.q.cZ.nd
 rw[GG.xO,List.append_assoc]at dX
 exact⟨⟨h.q.cZ.Cw (t:=G.top) (List.nodup_append.1 dX).2.1 (fun q hq=>h.q.cZ.top q (List.mem_append_right _ hq)) (fun _ _=>rfl) hl,hg,h.q.st⟩,h.le.trans hl⟩
theorem QU.rd{A:Option Addr}{n c:Nat}(h:QU o K H g G R W m M B (.slice A n c) l):Rd H A (vR l)∧n=l.length:=by
 have h1:=h.own
 obtain⟨A',c',e⟩:=h1.form
 cases e
 exact⟨h1.rd,rfl⟩
end
end Go.aw
namespace Go.aw
open Go.Proofs Num Lp
def mz(M:Nat→Nat→Rat)(r c i j:Nat):Rat:=if i=r then M r j/M r c else M i j-M i c*(M r j/M r c)
theorem aja{n d:Int}(h:fD [.int .i64 n,.int .i64 d] ((n:Rat)/(d:Rat)))(hn:n≠0):∃a b:Int,(a=d∧b=n∧0<n∨a = -d∧b = -n∧n<0)∧fD [.int .i64 a,.int .i64 b] (1/((n:Rat)/(d:Rat))):=by
 obtain⟨n',d',e,h1,h2,h3,h4,_⟩:=h
 simp only[List.cons.injEq,Value.int.injEq,true_and,and_true]at e
 obtain⟨rfl,rfl⟩:=e
 have hd:(d:Rat)≠0:=by exact_mod_cast (show d≠0 by omega)
 have hn':(n:Rat)≠0:=by exact_mod_cast hn
 have e1:1/((n:Rat)/(d:Rat))=(d:Rat)/(n:Rat):=by
  rw[Rat.div_def,Rat.div_def,Rat.div_def,Rat.inv_mul_rev,Rat.inv_inv];grind
 rcases Int.lt_or_gt_of_ne hn with h | h
 ·refine⟨-d,-n,.inr ⟨rfl,rfl,h⟩,-d,-n,rfl,by omega,by omega,by omega,by omega,?_⟩
  rw[e1,Rat.intCast_neg,Rat.intCast_neg,Rat.div_def,Rat.div_def]
  have h1:=Rat.mul_inv_cancel (n:Rat) hn'
  have h2:=Rat.mul_inv_cancel (-(n:Rat)) (by grind)
  grind
 ·exact⟨d,n,.inl ⟨rfl,rfl,h⟩,d,n,rfl,by omega,by omega,by omega,by omega,e1⟩
def eK(f:Nat→Rat)(k:Nat):List Nat:=(List.range k).filter fun j=>decide (f j≠0)
theorem MT{f:Nat→Rat}{k:Nat}:eK f (k+1)=eK f k++(if f k=0 then []else [k]):=by
 unfold eK
 rw[List.range_succ,List.filter_append]
 congr 1
 by_cases h:f k=0
 ·rw[if_pos h];simp[h]
 ·rw[if_neg h];simp[h]
theorem SG{f:Nat→Rat}{k j:Nat}:j∈eK f k↔j<k∧f j≠0:=by simp[eK]
theorem aae(f:Nat→Rat)(k:Nat):(eK f k).length≤k:=Nat.le_trans (List.length_filter_le _ _) (by simp)
theorem aaf(f:Nat→Rat)(k:Nat):(eK f k).Nodup:=List.Nodup.sublist List.filter_sublist List.nodup_range
theorem aag{l:List Nat}(h:l.Nodup){t k:Nat}(hk:l[t]? = some k):¬k∈l.take t:=fun hm=>by
 obtain⟨i,hi⟩:=List.getElem?_of_mem hm
 rw[List.getElem?_take]at hi
 split at hi
 ·rename_i bL
  obtain⟨a1,a2⟩:=List.getElem?_eq_some_iff.1 hi
  obtain⟨b1,b2⟩:=List.getElem?_eq_some_iff.1 hk
  have:=(List.getElem_inj h).1 (a2.trans b2.symm)
  omega
 ·cases hi
theorem rp(f:Nat→Rat)(k:Nat)(v:Rat):bY f k v k=v:=by simp[bY]
theorem pL{f:Nat→Rat}{k j:Nat}{v:Rat}(h:j≠k):bY f k v j=f j:=by simp[bY,h]
theorem pM(M:Nat→Nat→Rat)(i:Nat)(f:Nat→Rat):iK M i f i=f:=by simp[iK]
theorem E4{M:Nat→Nat→Rat}{i k:Nat}{f:Nat→Rat}(h:k≠i):iK M i f k=M k:=by simp[iK,h]
theorem MU(M:Nat→Nat→Rat)(i:Nat)(f h:Nat→Rat):iK (iK M i f) i h=iK M i h:=by
 funext k;unfold iK;split <;> rfl
theorem MV(M:Nat→Nat→Rat)(i:Nat):iK M i (M i)=M:=by
 funext k;unfold iK;split
 ·rename_i e;rw[e]
 ·rfl
def Pv1(o o1:Bool)(M:Nat→Nat→Rat)(r c W k:Nat)(f:Nat→Rat):Prop:=(∀j,k≤j→f j=M r j)∧(o1=false→o=false∧∀j,j<k→f j=M r j/M r c)
def zO(o o1:Bool)(M:Nat→Nat→Rat)(r c R W k:Nat)(M1:Nat→Nat→Rat):Prop:=(∀i,k≤i→i≠r→M1 i=M i)∧(o1=false→o=false∧∀i,i<R→∀j,j<W→(i=r∨i<k)→M1 i j=mz M r c i j)
def I9(o1 o2:Bool)(f0 fr:Nat→Rat)(x:Rat)(l:List Nat)(t:Nat)(f:Nat→Rat):Prop:=(o2=false→o1=false∧∀j,f j=if j∈l.take t then f0 j-x*fr j else f0 j)
theorem aah{o1 o2 o3:Bool}{f0 fr f:Nat→Rat}{x q:Rat}{l:List Nat}{t k:Nat}(h:I9 o1 o2 f0 fr x l t f)(dX:l.Nodup)(hk:l[t]? = some k)(hq:o3=false→o2=false∧q=f k-x*fr k):I9 o1 o3 f0 fr x l (t+1) (bY f k q):=fun h3=>by
 obtain⟨h2,e⟩:=hq h3
 obtain⟨h1,hf⟩:=h h2
 refine⟨h1,fun j=> ?_⟩
 have et:l.take (t+1)=l.take t ++ [k]:=by rw[List.take_add_one,hk];rfl
 by_cases ej:j=k
 ·subst ej
  rw[rp,et,if_pos (List.mem_append_right _ (List.mem_singleton.2 rfl)),e,hf j,if_neg (aag dX hk)]
 ·rw[pL ej,hf j,et]
  have:(j∈l.take t ++ [k])↔j∈l.take t:=by simp[ej]
  simp only[this]
theorem aai{o o1 o2:Bool}{M M1:Nat→Nat→Rat}{r c R W k:Nat}{f:Nat→Rat}(h:zO o o1 M r c R W k M1)(hc:c<W)(hr:r<R)(tv:k≠r)(h3:I9 o1 o2 (M1 k) (M1 r) (M1 k c) (eK (M r) W) (eK (M r) W).length f):zO o o2 M r c R W (k+1) (iK M1 k f):=by
 refine⟨fun i hi nW=>by rw[E4 (by omega)];exact h.1 i (by omega) nW,fun h2=> ?_⟩
 obtain⟨h1,hf⟩:=h3 h2
 obtain⟨h0,hm⟩:=h.2 h1
 refine⟨h0,fun i hi j hj hd=> ?_⟩
 by_cases e:i=k
 ·subst e
  rw[pM,hf j,List.take_length]
  have e0:M1 i=M i:=h.1 i (Nat.le_refl _) tv
  have er:M1 r j=M r j/M r c:=by
   have:=hm r hr j hj (.inl rfl)
   rw[this];unfold mz;rw[if_pos rfl]
  rw[e0,er]
  unfold mz
  rw[if_neg tv]
  split
  ·rfl
  ·rename_i hn
   have hz:M r j=0:=Classical.byContradiction fun a7=>hn (SG.2 ⟨hj,a7⟩)
   rw[hz,Rat.div_def];grind
 ·rw[E4 e]
  exact hm i hi j hj (by omega)
theorem MW{o o1:Bool}{M M1:Nat→Nat→Rat}{r c R W k:Nat}(h:zO o o1 M r c R W k M1)(hc:c<W)(hk:k<R)(hs:k=r∨M1 k c=0):zO o o1 M r c R W (k+1) M1:=by
 refine⟨fun i hi nW=>h.1 i (by omega) nW,fun h2=> ?_⟩
 obtain⟨h0,hm⟩:=h.2 h2
 refine⟨h0,fun i hi j hj hd=> ?_⟩
 by_cases e:i=k∧i≠r
 ·obtain⟨rfl,nW⟩:=e
  have e0:M1 i=M i:=h.1 i (Nat.le_refl _) nW
  rcases hs with hs | hs
  ·exact absurd hs nW
  ·rw[e0]at hs⊢
   unfold mz
   rw[if_neg nW,hs];grind
 ·exact hm i hi j hj (by omega)
theorem aaj{o:Bool}{H:Heap}{g:Nat}{G:GG}{R W m:Nat}{M:Nat→Nat→Rat}{B:Nat→Nat}{r c:Nat}(h:QV o H g G R W m M B)(hr:r<m)(eJ:r<R)(hc:c<W)(hp:M r c≠0)(hR:(R:Int)≤1000000)(hW:(W:Int)≤1000000):
 Fn Tryz.prog 139 #[.pointer (some ⟨g,0,none⟩),.int .i64 (r:Int),.int .i64 (c:Int)] H (fun _ H'=>∃M' o',QV o' H' g G R W m M' (fun i=>if i=r then c else B i)∧(o'=false→o=false∧∀i,i<R→∀j,j<W→M' i j=mz M r c i j)∧Heap.le (rem H G.gs) (rem H' G.gs)):=by
 obtain⟨pr,cW⟩:=h.cZ.get eJ
 obtain⟨qT,KI,aak,jo⟩:=h.rk
 obtain⟨xr0,sr0,tu,Ja⟩:=h.row cW
 obtain⟨n0,d0,hf0,mO,b1,b2,b3,b4,jD⟩:=m0 Ja hc
 have jE:n0≠0:=fun e=>hp (by rw[jD,e];exact(ur b3).2 rfl)
 rw[jD]at hf0
 obtain⟨a,b,Bs,hinv⟩:=aja hf0 jE;refine aZ (args:=[_,_,_]) Tryz.func139 rfl rfl Tryz.ntmps139 rfl rfl fun w0=> ?_;refine aj [0,1,2] rfl ?_;refine bP .bJ [0,1,2,3,4,5,6,7,8,9,10,11,12,13,14,15,16,17,18,19,20,21,22,23,24] follows (ia [0,1,3,7,0,31,63,0,255,511,1023,0,2048,6144,14336,0,63488,129024,0,522240,1046528,2095104,4194303,0,16777215] (by kernel_rfl)) ?_;refine ab 2 rfl (aV ah rfl rfl rfl (aT ah rfl rfl rfl (h.ja) (ab 1 rfl (aS ah rfl rfl rfl rfl rfl (aak) (by rw[Int.toNat_natCast];exact jo r pr cW) (by omega) (by omega) fun _=> ?_))));refine ab 1 rfl (nR ah rfl rfl rfl rfl rfl rfl rfl (dW tu) (by rw[Int.toNat_natCast];exact mO 1 _ rfl) (by omega) (by omega) fun _ _=> ?_);refine ab 2 rfl (aV ah rfl rfl rfl (aT ah rfl rfl rfl (h.ja) (ab 1 rfl (aS ah rfl rfl rfl rfl rfl (aak) (by rw[Int.toNat_natCast];exact jo r pr cW) (by omega) (by omega) fun _=> ?_))));refine ab 1 rfl (nR ah rfl rfl rfl rfl rfl rfl rfl (dW tu) (by rw[Int.toNat_natCast];exact mO 0 _ rfl) (by omega) (by omega) fun _ _=> ?_);refine de ah rfl fP rfl rfl (bn fP rfl ?_);obtain⟨ti,ak,al⟩:=eE;refine aI (.inl ⟨rfl,rfl⟩) rfl rfl rfl ak al rfl rfl rfl ?_
 refine ae [0,1,2,6] ?_;refine AU (fun(x:Int)(y:Int)=>put (put (put (put (emp) 0 (.val (.pointer (some ⟨g,0,none⟩)))) 1 (.val (.int .i64 (r:Int)))) 2 (.val (.int .i64 (c:Int)))) 6 (.box [.int .i64 x,.int .i64 y])) (fun(x:Int)(y:Int) H'=>H'=H∧fD [.int .i64 x,.int .i64 y] (1/M r c)) ?_ ?_
 ·
  refine ag (ab 3 rfl (ae [0,1,2,6,38] ?_));refine aD rfl (fun hb=> ?_) (fun hb=> ?_)
  ·
   have hb:n0<0:=by simpa using hb
   refine aC rfl (ab 2 rfl (tl rfl ⟨by omega,by omega⟩ (ab 2 rfl (tl rfl ⟨by omega,by omega⟩ (de ah rfl fP rfl rfl ?_)))));obtain⟨ti,ak,al⟩:=eE;refine aI (.inl ⟨rfl,rfl⟩) rfl rfl rfl ak al rfl rfl rfl (az ?_);exact⟨-d0,-n0,au,rfl,by rcases Bs with ⟨_,_,h9⟩ | ⟨rfl,rfl,_⟩;exact absurd h9 (by omega);rw[jD];exact hinv⟩
  ·
   have hb:¬n0<0:=by simpa using hb
   refine aA ?_;exact⟨d0,n0,au,rfl,by rcases Bs with ⟨rfl,rfl,_⟩ | ⟨_,_,h9⟩;rw[jD];exact hinv;exact absurd h9 (by omega)⟩
 ·
  rintro x y H5 ⟨rfl,qK⟩;refine MQ 6 rfl fun g6 e6 oj=> ?_;obtain⟨h6,sj⟩:=h.fresh (e:=⟨[.int .i64 x,.int .i64 y],2,e6,true⟩) oj;have aal:Rd (rem (ins H5 g6 ⟨[.int .i64 x,.int .i64 y],2,e6,true⟩) G.gs) (some ⟨g6,0,none⟩) [.int .i64 x,.int .i64 y]:=SF (dE _ _ _ _ _ _) fun hm=>h.cZ.ne _ hm oj
  show VC _ _ _ _ _ _ _ (ins H5 g6 ⟨[.int .i64 x,.int .i64 y],2,e6,true⟩)
  generalize ins H5 g6 ⟨[.int .i64 x,.int .i64 y],2,e6,true⟩=H6 at *
  have SH:QU o (rem H6 G.gs) H6 g G R W m (iK M r (M r)) B (.slice none 0 0) (eK (M r) 0):=⟨by rw[MV];exact h6,lB _ _ _,.refl _⟩;obtain⟨GW,qW,ajb,sE⟩:=h6.rk;refine ag (ab 1 rfl (ae [0,1,2,6,7] ?_));refine aq (ag (ab 2 rfl (aV ah rfl rfl rfl (aT ah rfl rfl rfl (h6.ja) (ab 1 rfl (aS ah rfl rfl rfl rfl rfl (ajb) (by rw[Int.toNat_natCast];exact sE r pr cW) (by omega) (by omega) fun _=> ?_))))));refine ab 2 rfl (ae [0,1,2,6,7,53,54] ?_);refine aG (oU (fun(k:Nat)(u:Value)(f:Nat→Rat)(o1:Bool)=>W-k) (fun(k:Nat)(u:Value)(f:Nat→Rat)(o1:Bool)=>put (put (put (put (put (put (put (emp) 0 (.val (.pointer (some ⟨g,0,none⟩)))) 1 (.val (.int .i64 (r:Int)))) 2 (.val (.int .i64 (c:Int)))) 6 (.val (.pointer (some ⟨g6,0,none⟩)))) 7 (.val (u))) 53 (.val (.int .i64 (W:Int)))) 54 (.val (.int .i64 (k:Int)))) (fun(k:Nat)(u:Value)(f:Nat→Rat)(o1:Bool) H'=>QU o1 (rem H6 G.gs) H' g G R W m (iK M r f) B u (eK (M r) k)∧Pv1 o o1 M r c W k f∧k≤W) 0 (.slice none 0 0) (M r) o (⟨SH,⟨fun _ _=>rfl,fun h9=>⟨h9,fun j hj=>absurd hj (Nat.not_lt_zero _)⟩⟩,Nat.zero_le _⟩) au ?_);rintro k u f o1 H7 ⟨hU,hP,hk⟩;obtain⟨xs7,tQ,ajc,xF⟩:=hU.q.rk;obtain⟨A7,c7,rfl⟩:=hU.own.form;obtain⟨SI,sr7,CC,xR⟩:=hU.q.row (G:=G.on _) cW
  rw[pM]at xR;have SJ:=xR.len;rw[bh]at SJ;have zm:=aae (M r) k;refine ag (ab 1 rfl (ae [0,1,2,6,7,53,54,55] ?_));refine aq (aD rfl (fun hb=> ?_) (fun hb=> ?_))
  ·
   have fq:k<W:=by simpa using hb
   obtain⟨n7,d7,Qx,sQ,i1,i2,i3,i4,jb⟩:=m0 xR fq;refine aA (aj [0,1,2,6,7,53,54] rfl ?_);refine aq (aG (ag (ab 2 rfl (ae [0,1,2,6,7,8,53,54] ?_))));refine ag (ab 2 rfl (aV ah rfl rfl rfl (aT ah rfl rfl rfl (hU.q.ja) (ab 1 rfl (aS ah rfl rfl rfl rfl rfl (ajc) (by rw[Int.toNat_natCast];exact xF r pr cW) (by omega) (by omega) fun _=> ?_)))));refine ab 1 rfl (nR ah rfl rfl rfl rfl rfl rfl rfl (dW CC) (by rw[Int.toNat_natCast];exact sQ 0 _ rfl) (by omega) (by omega) fun _ _=> ?_);refine ab 1 rfl (ae [0,1,2,6,7,8,53,54,68] ?_);refine aD rfl (fun hb=> ?_) (fun hb=> ?_)
   ·
    have hb:n7≠0:=by simpa using hb
    have bm:=I7 g H7;refine bP (.cO (lx g H7)) [0,1,2,3,4,5,6,7,8,9,10,11,12,13,14,15,16,17,18,19,20,21,22] follows (ia [0,1,3,7,0,31,63,0,0,0,512,1536,3584,0,15872,32256,0,130560,261632,0,1048320,2097151,4194303] (by kernel_rfl)) ?_;refine eN bm rfl (ml bm rfl (mm bm ah rfl rfl rfl (ki bm ah rfl rfl rfl (hU.q.k0) (eN bm rfl (Cz bm ah rfl rfl rfl rfl rfl (tQ) (by rw[Int.toNat_natCast];exact xF r pr cW) (by omega) (by omega) fun _=> ?_)))));refine eN bm rfl (eN bm rfl (eN bm rfl (ml bm rfl (mm bm ah rfl rfl rfl (ki bm ah rfl rfl rfl (hU.q.k0) (eN bm rfl (Cz bm ah rfl rfl rfl rfl rfl (tQ) (by rw[Int.toNat_natCast];exact xF r pr cW) (by omega) (by omega) fun _=> ?_)))))));refine eN bm rfl (CA bm ah rfl rfl rfl rfl (zN CC (hU.q.xP (G:=G.on _) cW)) rfl (by decide) (by rw[Int.toNat_natCast];exact sQ) (by omega) (by omega) fun _=> ?_);refine I8 bm ah rfl rfl rfl (((aal.le hU.le).kx hU.q.mem).at) (CB rfl rfl (Ss hU.q.mem hU.q.st Qx qK) (fun v H9 oB=>by obtain⟨k1,_,_,_,_,_,k2,_⟩:=oB;exact hU.q.fN k1 k2) ?_);rintro _ H8 ⟨rh,vs8,o8,q8,rfl,hf8,sT,ft⟩;obtain⟨n8,d8,rfl,_⟩:=id hf8;have bm:=hU.q.fN rh sT
    have Jb:=(rh.same _ (GG.kQ (GG.gP (G:=G.on _) cW)) (hU.q.xP (G:=G.on _) cW)).trans CC;have xS:=hU.set h.gt cW rh sT CC (by rw[pM];exact xR) fq hf8;rw[pM,MU]at xS;obtain⟨ti,ak,al⟩:=eE;refine MR bm ah rfl rfl rfl (by omega) (by omega) (Jb) rfl (by show W*2≤SI.length;omega) ak al (fun _=>rfl) rfl rfl rfl fun _=> ?_;refine ae [0,1,2,6,7,8,53,54] ?_;refine aC rfl (ab 2 rfl (cR Tryz.underlying94 jl rfl rfl rfl rfl rfl rfl rfl ?_));intro gb bo;have ru:=xS.fresh (e:=whole [.int .i64 (k:Int)] 3) bo;refine dK Tryz.underlying94 jl rfl rfl (ru.own) (dE _ _ _ _ _ _) (rfl) (sL _) (by omega) (by omega) ?_;intro u' xC SK;have SL:=ru.app rfl SK h.gt;refine ab 1 rfl (az (aj [0,1,2,6,7,53,54] rfl ?_));refine aC rfl (aH rfl rfl ⟨by omega,by omega⟩ (ab 1 rfl (az ?_)))
    have a7:M r k≠0:=by rw[←hP.1 k (Nat.le_refl _),jb];exact fun h9=>hb ((ur i3).1 h9)
    exact⟨k+1,u',bY f k q8,o8,by omega,au,by rw[MT,if_neg a7];exact SL,⟨fun j hj=>by rw[pL (by omega)];exact hP.1 j (by omega),fun h9=>by
     obtain⟨g1,g2⟩:=ft h9;obtain⟨g3,g4⟩:=hP.2 g1;refine⟨g3,fun j hj=> ?_⟩
     by_cases ej:j=k
     ·
      subst ej;rw[rp,g2,hP.1 j (Nat.le_refl _),Rat.div_def,Rat.div_def];grind
     ·rw[pL ej];exact g4 j (by omega)⟩,by omega⟩
   have hb:n7=0:=by simpa using hb
   refine aA (aj [0,1,2,6,7,53,54] rfl ?_);refine aC rfl (aH rfl rfl ⟨by omega,by omega⟩ (ab 1 rfl (az ?_)))
   have hz:M r k=0:=by rw[←hP.1 k (Nat.le_refl _),jb];exact(ur i3).2 hb
   exact⟨k+1,_,f,o1,by omega,au,by rw[MT,if_pos hz,List.append_nil];exact hU,⟨fun j hj=>hP.1 j (by omega),fun h9=>by
    obtain⟨g3,g4⟩:=hP.2 h9;refine⟨g3,fun j hj=> ?_⟩
    by_cases ej:j=k
    ·
     subst ej;rw[hP.1 j (Nat.le_refl _),hz,Rat.div_def];grind
    ·exact g4 j (by omega)⟩,by omega⟩
  have hb:W≤k:=by simpa using hb
  obtain rfl:k=W:=by omega
  have SM:zO o o1 M r c R k 0 (iK M r f):=⟨fun i _ hi=>E4 hi,fun h9=>by
   obtain⟨g3,g4⟩:=hP.2 h9;refine⟨g3,fun i _ j hj hd=> ?_⟩
   obtain rfl:i=r:=by omega
   rw[pM,g4 j hj];unfold mz;rw[if_pos rfl]⟩
  have dX:=aaf (M r) k;refine aW (aj [0,1,2,7] rfl ?_);refine aq (ag (ab 2 rfl (aV ah rfl rfl rfl (aT ah rfl rfl rfl (hU.q.ja) (ab 2 rfl (ae [0,1,2,7,100,101] ?_))))));refine aG (fG (fun(i:Nat)(M1:Nat→Nat→Rat)(o3:Bool)=>R-i) (fun(i:Nat)(M1:Nat→Nat→Rat)(o3:Bool)=>put (put (put (put (put (put (emp) 0 (.val (.pointer (some ⟨g,0,none⟩)))) 1 (.val (.int .i64 (r:Int)))) 2 (.val (.int .i64 (c:Int)))) 7 (.val (.slice A7 (eK (M r) k).length c7))) 100 (.val (.int .i64 (R:Int)))) 101 (.val (.int .i64 (i:Int)))) (fun(i:Nat)(M1:Nat→Nat→Rat)(o3:Bool) H'=>QU o3 (rem H6 G.gs) H' g G R k m M1 B (.slice A7 (eK (M r) k).length c7) (eK (M r) k)∧zO o o3 M r c R k i M1∧i≤R) 0 (iK M r f) o1 (⟨hU,SM,Nat.zero_le _⟩) au ?_);rintro i M1 o3 kz ⟨hV,hQ,hi⟩;obtain⟨anp,Co,aam,aan⟩:=hV.q.rk;refine ag (ab 1 rfl (ae [0,1,2,7,100,101,102] ?_));refine aq (aD rfl (fun hb=> ?_) (fun hb=> ?_))
  ·
   have ux:i<R:=by simpa using hb
   obtain⟨pi,cU⟩:=h.cZ.get ux;obtain⟨ajd,aje,Jc,SN⟩:=hV.q.row (G:=G.on _) cU;obtain⟨sU,d11,anq,ET,j1,j2,j3,j4,CD⟩:=m0 SN hc;refine aA (aj [0,1,2,7,100,101] rfl ?_);refine aq (aG (ag (ab 2 rfl (ae [0,1,2,7,9,100,101] ?_))));refine aq ?_
   by_cases h1:i=r
   ·
    skip
    refine ag (ab 2 rfl (aJ true rfl rfl (jR (by omega)) (ab 14 rfl (ae [0,1,2,7,9,100,101,120] ?_))));refine dJ rfl (aW (aj [0,1,2,7,100,101] rfl ?_));refine aC rfl (aH rfl rfl ⟨by omega,by omega⟩ (ab 1 rfl (az ?_)));exact⟨i+1,M1,o3,by omega,au,hV,MW hQ hc ux (.inl h1),by omega⟩
   skip
   refine ag (ab 2 rfl (aJ false rfl rfl (lD (by omega)) (ab 3 rfl (aV ah rfl rfl rfl (aT ah rfl rfl rfl (hV.q.ja) (ab 1 rfl (aS ah rfl rfl rfl rfl rfl (aam) (by rw[Int.toNat_natCast];exact aan i pi cU) (by omega) (by omega) fun _=> ?_)))))));refine ab 1 rfl (nR ah rfl rfl rfl rfl rfl rfl rfl (dW Jc) (by rw[Int.toNat_natCast];exact ET 0 _ rfl) (by omega) (by omega) fun _ _=> ?_);refine ab 2 rfl (ae [0,1,2,7,9,100,101,120] ?_);refine aD rfl (fun hb=> ?_) (fun hb=> ?_)
   ·
    have hb:sU=0:=by simpa using hb
    refine aW (aj [0,1,2,7,100,101] rfl ?_);refine aC rfl (aH rfl rfl ⟨by omega,by omega⟩ (ab 1 rfl (az ?_)));exact⟨i+1,M1,o3,by omega,au,hV,MW hQ hc ux (.inr (by rw[CD];exact(ur j3).2 hb)),by omega⟩
   have hb:sU≠0:=by simpa using hb
   refine aA (aj [0,1,2,7,9,100,101] rfl ?_);refine ag (ab 2 rfl (aV ah rfl rfl rfl (aT ah rfl rfl rfl (hV.q.ja) (ab 1 rfl (aS ah rfl rfl rfl rfl rfl (aam) (by rw[Int.toNat_natCast];exact aan i pi cU) (by omega) (by omega) fun _=> ?_)))));refine ab 1 rfl (ck (vs:=[.int .i64 sU,.int .i64 d11]) ah rfl rfl rfl rfl (dW Jc) rfl (by decide) (by rw[Int.toNat_natCast];exact ET) (by omega) (by omega) fun _=> ?_);refine bn fP rfl ?_;obtain⟨ti,ak,al⟩:=eE;refine aI (.inl ⟨rfl,rfl⟩) rfl rfl rfl ak al rfl rfl rfl (ae [0,1,2,7,9,10,100,101] ?_);refine MQ 10 rfl fun g10 B4 tS=> ?_;obtain⟨_,nI⟩:=hV.q.fresh (e:=⟨[.int .i64 sU,.int .i64 d11],2,B4,true⟩) tS;have E5:=hV.fresh (e:=⟨[.int .i64 sU,.int .i64 d11],2,B4,true⟩) tS;have ajf:Rd (rem (ins kz g10 ⟨[.int .i64 sU,.int .i64 d11],2,B4,true⟩) (G.on (aB (.slice A7 (eK (M r) k).length c7)++G.top)).gs) (some ⟨g10,0,none⟩) [.int .i64 sU,.int .i64 d11]:=SF (dE _ _ _ _ _ _) fun hm=>hV.q.cZ.ne _ hm tS
   show VC _ _ _ _ _ _ _ (ins kz g10 ⟨[.int .i64 sU,.int .i64 d11],2,B4,true⟩)
   generalize ins kz g10 ⟨[.int .i64 sU,.int .i64 d11],2,B4,true⟩=dN at *
   have Jd:=E5.pJ;rw[←MV M1 i]at Jd;refine ag (ab 3 rfl (ae [0,1,2,7,9,10,100,101,131,132,133] ?_));refine aG (fG (fun(t:Nat)(f2:Nat→Rat)(o4:Bool)=>(eK (M r) k).length-t) (fun(t:Nat)(f2:Nat→Rat)(o4:Bool)=>put (put (put (put (put (put (put (put (put (put (put (emp) 0 (.val (.pointer (some ⟨g,0,none⟩)))) 1 (.val (.int .i64 (r:Int)))) 2 (.val (.int .i64 (c:Int)))) 7 (.val (.slice A7 (eK (M r) k).length c7))) 9 (.val (.int .i64 (i:Int)))) 10 (.val (.pointer (some ⟨g10,0,none⟩)))) 100 (.val (.int .i64 (R:Int)))) 101 (.val (.int .i64 (i:Int)))) 131 (.val (.slice A7 (eK (M r) k).length c7))) 132 (.val (.int .i64 ((eK (M r) k).length:Int)))) 133 (.val (.int .i64 (t:Int)))) (fun(t:Nat)(f2:Nat→Rat)(o4:Bool) H'=>QU o4 (rem dN (G.on (aB (.slice A7 (eK (M r) k).length c7)++G.top)).gs) H' g G R k m (iK M1 i f2) B (.slice A7 (eK (M r) k).length c7) (eK (M r) k)∧I9 o3 o4 (M1 i) (M1 r) (M1 i c) (eK (M r) k) t f2∧t≤(eK (M r) k).length) 0 (M1 i) o3 (⟨Jd,fun h9=>⟨h9,fun j=>by simp⟩,Nat.zero_le _⟩) au ?_);rintro t f2 o4 mo ⟨hX,E6,ht⟩;obtain⟨ajg,xG,aao,Je⟩:=hX.q.rk;obtain⟨MX,aap,zP,uy⟩:=hX.q.row (G:=G.on _) cU;obtain⟨ajh,aji,SO,Jf⟩:=hX.q.row (G:=G.on _) cW;rw[pM]at uy;rw[E4 (fun e=>h1 e.symm)]at Jf;have SP:=uy.len;rw[bh]at SP
   refine ag (ab 1 rfl (ae [0,1,2,7,9,10,100,101,131,132,133,134] ?_));refine aq (aD rfl (fun hb=> ?_) (fun hb=> ?_))
   ·
    have gm:t<(eK (M r) k).length:=by simpa using hb
    obtain⟨kk,bV⟩:∃kk,(eK (M r) k)[t]? = some kk:=⟨_,List.getElem?_eq_getElem gm⟩;have fq:kk<k:=(SG.1 (List.mem_of_getElem? bV)).1;obtain⟨QQ,d13,ajj,SQ,_,_,_,_,_⟩:=m0 uy fq;obtain⟨n14,d14,ajk,Jg,_,_,_,_,_⟩:=m0 Jf fq;refine aA (aj [0,1,2,7,9,10,100,101,131,132,133] rfl ?_);refine aq (aG (ag (aS ah rfl rfl rfl rfl rfl (hX.rd.1) (by rw[Int.toNat_natCast];show (List.map _ _)[t]? = _;rw[List.getElem?_map,bV];rfl) (by omega) (by omega) fun _=> ?_)));refine ab 1 rfl (ae [0,1,2,7,9,10,12,100,101,131,132,133] ?_);have bm:=I7 g mo;refine ep (.cO (lx g mo)) [0,1,2,3,4,5,6,7,8,9,10,11,12,13,14,15,16,17,18,19,20,21,22,23,24,25,26,27,28,29,30,31,32,33,34] follows (ia [0,1,3,7,0,31,63,0,0,0,512,1536,3584,0,15872,32256,0,130560,261632,0,0,0,2097152,6291456,14680064,0,65011712,132120576,0,534773760,1071644672,2146959360,4294967040,8589934591,17179869183] (by kernel_rfl)) ?_;refine eN bm rfl (ml bm rfl (mm bm ah rfl rfl rfl (ki bm ah rfl rfl rfl (hX.q.k0) (eN bm rfl (Cz bm ah rfl rfl rfl rfl rfl (xG) (by rw[Int.toNat_natCast];exact Je i pi cU) (by omega) (by omega) fun _=> ?_)))));refine eN bm rfl (eN bm rfl ?_)
    refine eN bm rfl (ml bm rfl (mm bm ah rfl rfl rfl (ki bm ah rfl rfl rfl (hX.q.k0) (eN bm rfl (Cz bm ah rfl rfl rfl rfl rfl (xG) (by rw[Int.toNat_natCast];exact Je i pi cU) (by omega) (by omega) fun _=> ?_)))));refine eN bm rfl (CA bm ah rfl rfl rfl rfl (zN zP (hX.q.xP (G:=G.on _) cU)) rfl (by decide) (by rw[Int.toNat_natCast];exact SQ) (by omega) (by omega) fun _=> ?_);refine eN bm rfl (I8 bm ah rfl rfl rfl (((ajf.le hX.le).kx hX.q.mem).at) (eN bm rfl (ml bm rfl (mm bm ah rfl rfl rfl (ki bm ah rfl rfl rfl (hX.q.k0) (eN bm rfl (Cz bm ah rfl rfl rfl rfl rfl (xG) (by rw[Int.toNat_natCast];exact Je r pr cW) (by omega) (by omega) fun _=> ?_)))))));refine eN bm rfl (CA bm ah rfl rfl rfl rfl (zN SO (hX.q.xP (G:=G.on _) cW)) rfl (by decide) (by rw[Int.toNat_natCast];exact Jg) (by omega) (by omega) fun _=> ?_);refine CB rfl rfl (Ss hX.q.mem hX.q.st (show fD _ (M1 i c) by rw[CD];exact⟨sU,d11,rfl,j1,j2,j3,j4,rfl⟩) ajk) (fun v H9 oB=>by obtain⟨k1,_,_,_,_,_,k2,_⟩:=oB;exact hX.q.fN k1 k2) ?_;rintro v14 qu ⟨xT,anr,o14,q14,rfl,ajl,aaq,MY⟩;have bm:=hX.q.fN xT aaq;refine CB rfl rfl (Su hX.q.mem aaq ajj ajl) (fun v H9 oB=>by obtain⟨k1,_,_,_,_,_,k2,_⟩:=oB;exact hX.q.fN (xT.trans k1) k2) ?_
    rintro SR mX ⟨SS,ans,o15,q15,rfl,aar,aas,Jh⟩;obtain⟨n15,d15,rfl,_⟩:=id aar;have bm:=hX.q.fN (xT.trans SS) aas;have SU:=((xT.trans SS).same _ (GG.kQ (GG.gP (G:=G.on _) cU)) (hX.q.xP (G:=G.on _) cU)).trans zP;have Ji:=hX.set h.gt cU (xT.trans SS) aas zP (by rw[pM];exact uy) fq aar;rw[pM,MU]at Ji;obtain⟨ti,ak,al⟩:=eE;refine MR bm ah rfl rfl rfl (by omega) (by omega) (SU) rfl (by show k*2≤MX.length;omega) ak al (fun _=>rfl) rfl rfl rfl fun _=> ?_;refine az (aj [0,1,2,7,9,10,100,101,131,132,133] rfl ?_);refine aC rfl (aH rfl rfl ⟨by omega,by omega⟩ (ab 1 rfl (az ?_)));exact⟨t+1,bY f2 kk q15,o15,by omega,au,Ji,aah E6 dX bV fun h9=>⟨(MY (Jh h9).1).1,by rw[(Jh h9).2,(MY (Jh h9).1).2]⟩,by omega⟩
   have gm:(eK (M r) k).length≤t:=by simpa using hb
   obtain rfl:t=(eK (M r) k).length:=by omega
   refine aW (aj [0,1,2,7,100,101] rfl ?_);refine aC rfl (aH rfl rfl ⟨by omega,by omega⟩ (ab 1 rfl (az ?_)));exact⟨i+1,iK M1 i f2,o4,by omega,au,hX.down (hV.le.trans nI),aai hQ hc eJ h1 E6,by omega⟩
  have ux:R≤i:=by simpa using hb
  obtain rfl:i=R:=by omega
  obtain⟨hD,E7⟩:=hV.drop h.gt
  obtain⟨gb,cb,sz,lH,dr,bo⟩:∃gb cb sz,G.bb = [gb]∧G.bv = .slice (some ⟨gb,0,none⟩) m cb∧kz gb=some ⟨eL B m,sz,3,true⟩:=by
   rcases hD.cZ.basis with h7 | h7
   ·have:=h7.1;omega
   ·exact h7
  have hm:gb∈G.gs:=GG.kQ (GG.mT (by rw[lH];exact List.mem_singleton.2 rfl));have ajm:g≠gb:=GG.uo hD.cZ.nd hD.gt (GG.mT (by rw[lH];exact List.mem_singleton.2 rfl));refine aW (aj [0,1,2] rfl ?_);refine aC rfl (ab 2 rfl (aV ah rfl rfl rfl (aT ah rfl rfl rfl (show cell kz _=some (.slice (some ⟨gb,0,none⟩) m cb)from by rw[←dr];exact hD.mY) ?_)));refine vr 2 ?_;obtain⟨ti,ak,al⟩:=p3;refine cV (.inl rfl) ah rfl rfl rfl (by omega) (by omega) (bo) rfl (by show 0+m*1≤(eL B m).length;rw[BI];omega) ak al (fun _=>rfl) rfl rfl rfl fun _=> ?_;refine az ?_;refine⟨.inl rfl,_,.nil,?_⟩
  have he:({(⟨eL B m,sz,3,true⟩:Ent)with xs:=aM (eL B m) (0+((r:Int)).toNat*1) [.int .i64 (c:Int)]}:Ent)=⟨eL (fun i=>if i=r then c else B i) m,sz,3,true⟩:=by
   rw[Int.toNat_natCast,Nat.mul_one,Nat.zero_add,←Qa];rfl
  rw[he];refine⟨M1,o3,⟨hD.cZ.D9 lH dr,hD.gt,by rw[bg _ _ ajm];exact hD.st⟩,fun h9=>⟨(hQ.2 h9).1,fun i hi j hj=>(hQ.2 h9).2 i hi j hj (.inr hi)⟩,?_⟩;rw[cK _ hm];exact sj.trans E7
end Go.aw
namespace Go.aw
open Go.Proofs Num Lp
def m6(M:Nat→Nat→Rat)(B:Nat→Nat)(n c k r:Nat)(q:Rat):Prop:=q=M r n/M r c∧∀i,i<k→0<M i c→q<M i n/M i c∨(q=M i n/M i c∧B r≤B i)
section
variable {M:Nat→Nat→Rat} {B:Nat→Nat} {n c k r:Nat} {q x:Rat}
theorem aat(h:m6 M B n c k r q)(hk:M k c≤0):m6 M B n c (k+1) r q:=⟨h.1,fun i hi hp=>by
 by_cases e:i=k
 ·subst e;grind
 ·exact h.2 i (by omega) hp⟩
theorem MZ(h:m6 M B n c k r q)(hx:x=M k n/M k c)(hk:q<x∨(x=q∧¬B k<B r)):m6 M B n c (k+1) r q:=⟨h.1,fun i hi hp=>by
 by_cases e:i=k
 ·subst e
  rw[←hx]
  rcases hk with hk | ⟨hk,hb⟩
  ·exact .inl hk
  ·exact .inr ⟨hk.symm,by omega⟩
 ·exact h.2 i (by omega) hp⟩
theorem M0(h:m6 M B n c k r q)(hx:x=M k n/M k c)(hk:x<q∨(x=q∧B k<B r)):m6 M B n c (k+1) k x:=⟨hx,fun i hi hp=>by
 by_cases e:i=k
 ·subst e;exact .inr ⟨hx,Nat.le_refl _⟩
 ·rcases hk with hk | ⟨hk,hb⟩
  ·rcases h.2 i (by omega) hp with h1 | ⟨h1,_⟩
   ·exact .inl (by grind)
   ·exact .inl (by grind)
  ·rcases h.2 i (by omega) hp with h1 | ⟨h1,h2⟩
   ·exact .inl (by rw[hk];exact h1)
   ·exact .inr ⟨by rw[hk];exact h1,by omega⟩⟩
theorem aau(h:∀i,i<k→M i c≤0)(hx:x=M k n/M k c):m6 M B n c (k+1) k x:=⟨hx,fun i hi hp=>by
 by_cases e:i=k
 ·subst e;exact .inr ⟨hx,Nat.le_refl _⟩
 ·have:=h i (by omega);grind⟩
end
theorem aav{n d:Int}(h:1≤d):0<(n:Rat)/(d:Rat)↔0<n:=by
 have h1:=MS (n:=n) h
 have h2:=ur (n:=n) h
 constructor
 ·intro h3
  rcases Int.lt_trichotomy n 0 with k | k | k
  ·have:=h1.2 k;grind
  ·have:=h2.2 k;grind
  ·exact k
 ·intro h3
  have k1:¬(n:Rat)/(d:Rat)<0:=fun k=>by have:=h1.1 k;omega
  have k2:¬(n:Rat)/(d:Rat)=0:=fun k=>by have:=h2.1 k;omega
  grind
theorem aaw{a b c d:Int}(hb:1≤b)(hd:1≤d):((a*d-c*b<0)↔(a:Rat)/(b:Rat)<(c:Rat)/(d:Rat))∧((a*d-c*b=0)↔(a:Rat)/(b:Rat)=(c:Rat)/(d:Rat)):=by
 have h1:=Z8 (n:=a) (a:=c) hb hd
 have h2:=MN hb hd
 have h3:=MS (n:=a*d-c*b) h2
 have h4:=ur (n:=a*d-c*b) h2
 rw[h1]at h3 h4
 exact⟨⟨fun h=>by have:=h3.2 h;grind,fun h=>h3.1 (by grind)⟩,⟨fun h=>by have:=h4.2 h;grind,fun h=>h4.1 (by grind)⟩⟩
theorem ajn{a b c d:Int}(hb:1≤b)(hd:1≤d)(hc:0<c):((a*d:Int):Rat)/((b*c:Int):Rat)=(a:Rat)/(b:Rat)/((c:Rat)/(d:Rat)):=by
 have h1:(c:Rat)≠0:=by exact_mod_cast (show c≠0 by omega)
 rw[Z7,Rat.div_def ((a:Rat)/b),Rat.div_def (c:Rat) d,Rat.inv_mul_rev,Rat.inv_inv,Rat.div_def (d:Rat) c]
structure Jj where
 i:Nat
 z:Int
 a:Int
 b:Int
 o:Bool
def SV(o:Bool)(M:Nat→Nat→Rat)(B:Nat→Nat)(n c:Nat)(y:Jj):Prop:=(y.o=false→o=false)∧((y.z = -1∧∀i,i<y.i→M i c≤0)∨∃(r:Nat)(q:Rat),y.z=(r:Int)∧r<y.i∧0<M r c∧fD [.int .i64 y.a,.int .i64 y.b] q∧(y.o=false→m6 M B n c y.i r q))
theorem ajo{o:Bool}{M:Nat→Nat→Rat}{B:Nat→Nat}{n c:Nat}{y:Jj}(h:SV o M B n c y)(hk:M y.i c≤0):SV o M B n c ⟨y.i+1,y.z,y.a,y.b,y.o⟩:=by
 refine⟨h.1,?_⟩
 rcases h.2 with ⟨h1,h2⟩ | ⟨r,q,h1,h2,h3,h4,h5⟩
 ·refine .inl ⟨h1,fun i hi=> ?_⟩
  by_cases e:i=y.i
  ·rw[e];exact hk
  ·exact h2 i (by have:i<y.i+1:=hi;omega)
 ·exact .inr ⟨r,q,h1,Nat.lt_succ_of_lt h2,h3,h4,fun h9=>aat (h5 h9) hk⟩
def LvP(o o':Bool)(M:Nat→Nat→Rat)(B:Nat→Nat)(n c m:Nat)(z:Int):Prop:=(o'=false→o=false)∧((z = -1∧∀i,i<m→M i c≤0)∨∃r:Nat,z=(r:Int)∧r<m∧0<M r c∧(o'=false→∃q,m6 M B n c m r q))
theorem ajp{o:Bool}{H:Heap}{g:Nat}{G:GG}{R W m:Nat}{M:Nat→Nat→Rat}{B:Nat→Nat}{c:Nat}(h:QV o H g G R W m M B)(SW:m≤R)(hc:c<W)(hR:(R:Int)≤1000000)(hW:(W:Int)≤1000000):
 Fn Tryz.prog 190 #[.pointer (some ⟨g,0,none⟩),.int .i64 (c:Int)] H (fun v H'=>∃z o',v = .int .i64 z∧fT G.gs g H H'∧H' g=some ⟨[.slice G.Ar R G.cr,G.bv,.bool o'],3,160,true⟩∧LvP o o' M B (W-1) c m z):=by
 obtain⟨Ab,cb,dr,fY⟩:∃Ab cb,G.bv = .slice Ab m cb∧∀o' H',QV o' H' g G R W m M B→∀i,i<m→Rd H' Ab (eL B m):=by
  rcases h.cZ.basis with ⟨h1,h2,h3⟩ | ⟨gb,cb,sz,h1,h2,h3⟩
  ·exact⟨none,0,by rw[h3,h1],fun _ _ _ i hi=>by omega⟩
  ·
   refine⟨_,cb,h2,fun o' H' h' i hi=> ?_⟩
   rcases h'.cZ.basis with ⟨k1,k2,k3⟩ | ⟨CE,M6,eV,k1,k2,k3⟩
   ·omega
   ·rw[h1]at k1;cases k1;exact dW k3
 refine aZ (args:=[_,_]) Tryz.func190 rfl rfl Tryz.ntmps190 rfl rfl fun w0=> ?_;refine aj [0,1] rfl ?_;refine ag (ab 1 rfl (ae [0,1] ?_));refine ag (de ah rfl fP rfl rfl (bn fP rfl (vr 1 ?_)));obtain⟨ti,ak,al⟩:=eE;refine aI (.inl ⟨rfl,rfl⟩) rfl rfl rfl ak al rfl rfl rfl (ae [0,1,5,6] ?_);refine aq (ag (ab 2 rfl (aV ah rfl rfl rfl (aT ah rfl rfl rfl (show cell H _=some (.slice Ab m cb)from by rw[←dr];exact h.mY) ?_))));refine ab 2 rfl (ae [0,1,5,6,17,18] ?_);refine aG (gK (fun(y:Jj)=>m-y.i) (fun(y:Jj)=>put (put (put (put (put (put (emp) 0 (.val (.pointer (some ⟨g,0,none⟩)))) 1 (.val (.int .i64 (c:Int)))) 5 (.val (.int .i64 y.z))) 6 (.box [.int .i64 y.a,.int .i64 y.b])) 17 (.val (.int .i64 (m:Int)))) 18 (.val (.int .i64 (y.i:Int)))) (fun(y:Jj) H'=>fT G.gs g H H'∧H' g=some ⟨[.slice G.Ar R G.cr,G.bv,.bool y.o],3,160,true⟩∧y.i≤m∧SV o M B (W-1) c y) ⟨0,-1,0,0,o⟩ (⟨(Kept.refl _ _).iO _,h.st,Nat.zero_le _,fun h9=>h9,.inl ⟨rfl,fun i hi=>absurd hi (Nat.not_lt_zero _)⟩⟩) au ?_);rintro y H2 ⟨fj,E8,hym,hI⟩;have bO:=h.uK fj E8;obtain⟨xs2,fO,M7,eR⟩:=bO.rk;refine ag (ab 1 rfl (ae [0,1,5,6,17,18,19] ?_))
 refine aq (aD rfl (fun hb=> ?_) (fun hb=> ?_))
 ·
  have aU:y.i<m:=by simpa using hb
  obtain⟨pi,cU⟩:=h.cZ.get (show y.i<R by omega);obtain⟨xi,si,sS,xU⟩:=bO.row cU;obtain⟨n1,d1,jg,iF,i1,i2,i3,i4,nx⟩:=m0 xU hc;obtain⟨n2,d2,j0,nz,j1,j2,j3,j4,dI⟩:=m0 xU (show W-1<W by omega);refine aA (aj [0,1,5,6,17,18] rfl ?_);refine aq (aG (ag (ab 2 rfl (ae [0,1,5,6,7,17,18] ?_))));refine aq (ag (ab 2 rfl (aV ah rfl rfl rfl (aT ah rfl rfl rfl (bO.ja) (ab 1 rfl (aS ah rfl rfl rfl rfl rfl (M7) (by rw[Int.toNat_natCast];exact eR y.i pi cU) (by omega) (by omega) fun _=> ?_))))));refine ab 1 rfl (nR ah rfl rfl rfl rfl rfl rfl rfl (dW sS) (by rw[Int.toNat_natCast];exact iF 0 _ rfl) (by omega) (by omega) fun _ _=> ?_);refine ab 1 rfl (ae [0,1,5,6,7,17,18,32] ?_);refine aD rfl (fun hb=> ?_) (fun hb=> ?_)
  ·
   have hb:n1≤0:=by simpa using hb
   refine aW (aj [0,1,5,6,17,18] rfl ?_);refine aC rfl (aH rfl rfl ⟨by omega,by omega⟩ (ab 1 rfl (az ?_)));exact⟨⟨y.i+1,y.z,y.a,y.b,y.o⟩,(show m-(y.i+1)<m-y.i by omega),au,fj,E8,(show y.i+1≤m by omega),ajo hI (by rw[nx];have:=(aav (n:=n1) i3).1;grind)⟩
  ·
   have hb:0<n1:=by simpa using hb
   have fH:0<M y.i c:=by rw[nx];exact(aav i3).2 hb
   have m1:=xN (a:=n2) (b:=d1) j1 j2 (by omega) i4;have m2:=xN (a:=d2) (b:=n1) (by omega) j4 (by omega) i2;have m3:=MN (a:=d2) (b:=n1) j3 (by omega);refine aA (aj [0,1,5,6,7,17,18] rfl ?_);refine bP (.pT [8,9]) [0,1,2,3,4,5,6,7,8,9,10,11,12,13,14,15,16,17,18,19,20,21,22,23,24,25,26,27,28,29,30,31] follows (ia [0,1,3,7,0,31,63,0,128,384,896,0,3968,8064,16256,32640,65535,131071,0,262144,786432,1835008,0,8126464,16515072,0,66846720,133955584,0,0,805568511,2147483647] (by kernel_rfl)) ?_;refine ab 2 rfl (aV ah rfl rfl rfl (aT ah rfl rfl rfl (bO.ja) (ab 1 rfl (aS ah rfl rfl rfl rfl rfl (M7) (by rw[Int.toNat_natCast];exact eR y.i pi cU) (by omega) (by omega) fun _=> ?_))));refine ab 2 rfl (aV ah rfl rfl rfl (aT ah rfl rfl rfl (bO.ja) (ab 1 rfl (aS ah rfl rfl rfl rfl rfl (M7) (by rw[Int.toNat_natCast];exact eR y.i pi cU) (by omega) (by omega) fun _=> ?_))));refine ab 1 rfl (cY rfl rfl ⟨by omega,by omega⟩ (ck (vs:=[.int .i64 n2,.int .i64 d2]) ah rfl rfl rfl rfl (dW sS) rfl (by decide) (by rw[show ((W:Int)-1).toNat=W-1 by omega];exact nz) (by omega) (by omega) fun _=> ?_));refine ab 2 rfl (aV ah rfl rfl rfl ?_)
   refine aT ah rfl rfl rfl (bO.ja) (ab 1 rfl (aS ah rfl rfl rfl rfl rfl (M7) (by rw[Int.toNat_natCast];exact eR y.i pi cU) (by omega) (by omega) fun _=> ?_));refine ab 1 rfl (ck (vs:=[.int .i64 n1,.int .i64 d1]) ah rfl rfl rfl rfl (dW sS) rfl (by decide) (by rw[Int.toNat_natCast];exact iF) (by omega) (by omega) fun _=> ?_);refine bn fP rfl (bn fP rfl ?_);obtain⟨ti,ak,al⟩:=eE;refine aI (.inl ⟨rfl,rfl⟩) rfl rfl rfl ak al rfl rfl rfl ?_;obtain⟨ti,ak,al⟩:=eE;refine aI (.inl ⟨rfl,rfl⟩) rfl rfl rfl ak al rfl rfl rfl (ae [0,1,5,6,7,8,9,17,18] ?_);refine ag (ab 5 rfl (gW rfl rfl ⟨by omega,by omega⟩ (ab 4 rfl (gW rfl rfl ⟨by omega,by omega⟩ (aF rfl rfl (Sr bO.mem E8 (n:=n2*d1) (d:=d2*n1) (by omega) (by omega) m3 (by omega)) ?_)))));rintro v8 H8 ⟨rh,vs8,o8,xq,rfl,M8,sT,ft⟩;obtain⟨xn,xd,rfl,x1,x2,x3,x4,hxq⟩:=id M8;refine bn fP rfl ?_;obtain⟨ti,ak,al⟩:=eE;refine aI (.inl ⟨rfl,rfl⟩) rfl rfl rfl ak al rfl rfl rfl (ae [0,1,5,6,7,10,17,18] ?_);have E9:=fj.trans rh
   have jt:o8=false→xq=M y.i (W-1)/M y.i c:=fun h9=>by rw[(ft h9).2,ajn j3 i3 hb,←nx,←dI]
   have zQ:=h.uK E9 sT;refine ag (ab 1 rfl (ae [0,1,5,6,7,10,11,17,18] ?_));refine kI (fun(s:Int)=>put (put (put (put (put (put (put (put (put (emp) 0 (.val (.pointer (some ⟨g,0,none⟩)))) 1 (.val (.int .i64 (c:Int)))) 5 (.val (.int .i64 y.z))) 6 (.box [.int .i64 y.a,.int .i64 y.b])) 7 (.val (.int .i64 (y.i:Int)))) 10 (.box [.int .i64 xn,.int .i64 xd])) 11 (.val (.int .i64 s))) 17 (.val (.int .i64 (m:Int)))) 18 (.val (.int .i64 (y.i:Int)))) (fun(s:Int) H'=>H'=H8∧((y.z = -1∧s = -1∧∀i,i<y.i→M i c≤0)∨∃(r:Nat)(q:Rat),y.z=(r:Int)∧r<y.i∧0<M r c∧fD [.int .i64 y.a,.int .i64 y.b] q∧(y.o=false→m6 M B (W-1) c y.i r q)∧(s<0↔xq<q)∧(s=0↔xq=q))) ?_ ?_
   ·
    refine ag (ab 2 rfl (ae [0,1,5,6,7,10,11,17,18,74] ?_));refine aD rfl (fun hb=> ?_) (fun hb=> ?_)
    ·
     have hb:0≤y.z:=by simpa using hb
     obtain⟨r,q,ez,xV,cW,nH,hL⟩:∃(r:Nat)(q:Rat),y.z=(r:Int)∧r<y.i∧0<M r c∧fD [.int .i64 y.a,.int .i64 y.b] q∧(y.o=false→m6 M B (W-1) c y.i r q):=by
      rcases hI.2 with ⟨ez,_⟩ | h9
      ·omega
      ·exact h9
     obtain⟨a9,b9,e9,y1,y2,y3,y4,LY⟩:=id nH
     simp only[List.cons.injEq,Value.int.injEq,true_and,and_true]at e9
     obtain⟨rfl,rfl⟩:=e9;have m4:=xN (a:=xn) (b:=y.b) x1 x2 (by omega) y4;have m5:=xN (a:=y.a) (b:=xd) y1 y2 (by omega) x4;refine aC rfl (ab 4 rfl (gW rfl rfl ⟨by omega,by omega⟩ (ab 4 rfl (gW rfl rfl ⟨by omega,by omega⟩ (cY rfl rfl ⟨by omega,by omega⟩ (ab 1 rfl (az ?_)))))));exact⟨_,au,rfl,.inr ⟨r,q,ez,xV,cW,nH,hL,by rw[hxq,LY];exact(aaw x3 y3).1,by rw[hxq,LY];exact(aaw x3 y3).2⟩⟩
    have hb:y.z<0:=by simpa using hb
    refine aA ?_
    skip
    rcases hI.2 with ⟨ez,iU⟩ | ⟨r,q,ez,_⟩
    ·exact⟨_,au,rfl,.inl ⟨ez,rfl,iU⟩⟩
    ·omega
   rintro s H9 ⟨e9,hs⟩;rw[e9];clear e9 H9;obtain⟨ez,es,iU⟩ | ⟨r,q,ez,xV,cW,nH,hL,eT,CF⟩:=hs
   ·
    skip
    refine bP .bJ [0,1,2,3,4,5,6,7,8,9,10,11,12,13,14,15,16,17,18,19,20,21,22] follows (ia [0,1,3,7,15,31,63,127,255,511,63,2047,4095,63,8255,24639,57407,63,254015,516159,1048575,2097151,4194303] (by kernel_rfl)) ?_;refine ab 1 rfl (aJ true rfl rfl (jS (by omega)) (ab 21 rfl (ae [0,1,5,6,7,10,17,18,108] ?_)));refine dJ rfl (ep .bJ [0,1,2,3] follows (by kernel_rfl) ?_);refine vr 3 ?_;obtain⟨ti,ak,al⟩:=eE;refine aI (.inl ⟨rfl,rfl⟩) rfl rfl rfl ak al rfl rfl rfl (az (aj [0,1,5,6,17,18] rfl ?_));refine aC rfl (aH rfl rfl ⟨by omega,by omega⟩ (ab 1 rfl (az ?_)));exact⟨⟨y.i+1,y.i,xn,xd,o8⟩,(show m-(y.i+1)<m-y.i by omega),au,E9,sT,(show y.i+1≤m by omega),fun h9=>hI.1 (ft h9).1,.inr ⟨y.i,xq,rfl,Nat.lt_succ_self _,fH,M8,fun h9=>aau iU (jt h9)⟩⟩
   skip
   by_cases g1:s<0
   ·
    skip
    refine bP .bJ [0,1,2,3,4,5,6,7,8,9,10,11,12,13,14,15,16,17,18,19,20,21,22] follows (ia [0,1,3,7,15,31,63,127,255,511,63,2047,4095,63,8255,24639,57407,63,254015,516159,1048575,2097151,4194303] (by kernel_rfl)) ?_;refine ab 1 rfl (aJ true rfl rfl (jS g1) (ab 21 rfl (ae [0,1,5,6,7,10,17,18,108] ?_)));refine dJ rfl (ep .bJ [0,1,2,3] follows (by kernel_rfl) ?_);refine vr 3 ?_;obtain⟨ti,ak,al⟩:=eE;refine aI (.inl ⟨rfl,rfl⟩) rfl rfl rfl ak al rfl rfl rfl (az (aj [0,1,5,6,17,18] rfl ?_));refine aC rfl (aH rfl rfl ⟨by omega,by omega⟩ (ab 1 rfl (az ?_)));exact⟨⟨y.i+1,y.i,xn,xd,o8⟩,(show m-(y.i+1)<m-y.i by omega),au,E9,sT,(show y.i+1≤m by omega),fun h9=>hI.1 (ft h9).1,.inr ⟨y.i,xq,rfl,Nat.lt_succ_self _,fH,M8,fun h9=>M0 (hL (ft h9).1) (jt h9) (.inl (eT.1 g1))⟩⟩
   skip
   by_cases g2:s=0
   ·
    skip
    by_cases g3:B y.i<B r
    ·
     skip
     refine bP .bJ [0,1,2,3,4,5,6,7,8,9,10,11,12,13,14,15,16,17,18,19,20,21,22] follows (ia [0,1,3,7,15,31,63,127,255,511,63,2047,4095,63,8255,24639,57407,63,254015,516159,1048575,2097151,4194303] (by kernel_rfl)) ?_;refine ab 1 rfl (aJ false rfl rfl (iC (by omega)) (ab 2 rfl (aJ true rfl rfl (jR g2) (ab 3 rfl (aV ah rfl rfl rfl (aT ah rfl rfl rfl (show cell H8 _=some (.slice Ab m cb)from by rw[←dr];exact zQ.mY) ?_))))));refine ab 1 rfl (aS ah rfl rfl rfl rfl rfl (fY _ _ zQ y.i aU) (by rw[Int.toNat_natCast];exact gO aU) (by omega) (by omega) fun _=> ?_);refine ab 2 rfl (aV ah rfl rfl rfl (aT ah rfl rfl rfl (show cell H8 _=some (.slice Ab m cb)from by rw[←dr];exact zQ.mY) ?_));refine ab 1 rfl (aS ah rfl rfl rfl rfl rfl (fY _ _ zQ y.i aU) (by rw[ez,Int.toNat_natCast];exact gO (by omega)) (by omega) (by omega) fun _=> ?_);refine aJ true rfl rfl (jS (by omega)) (ab 2 rfl (ae [0,1,5,6,7,10,17,18,108] ?_));refine dJ rfl (ep .bJ [0,1,2,3] follows (by kernel_rfl) ?_);refine vr 3 ?_;obtain⟨ti,ak,al⟩:=eE;refine aI (.inl ⟨rfl,rfl⟩) rfl rfl rfl ak al rfl rfl rfl ?_
     refine az (aj [0,1,5,6,17,18] rfl ?_);refine aC rfl (aH rfl rfl ⟨by omega,by omega⟩ (ab 1 rfl (az ?_)));exact⟨⟨y.i+1,y.i,xn,xd,o8⟩,(show m-(y.i+1)<m-y.i by omega),au,E9,sT,(show y.i+1≤m by omega),fun h9=>hI.1 (ft h9).1,.inr ⟨y.i,xq,rfl,Nat.lt_succ_self _,fH,M8,fun h9=>M0 (hL (ft h9).1) (jt h9) (.inr ⟨CF.1 g2,g3⟩)⟩⟩
    skip
    refine bP .bJ [0,1,2,3,4,5,6,7,8,9,10,11,12,13,14,15,16,17,18,19,20,21,22] follows (ia [0,1,3,7,15,31,63,127,255,511,63,2047,4095,63,8255,24639,57407,63,254015,516159,1048575,2097151,4194303] (by kernel_rfl)) ?_;refine ab 1 rfl (aJ false rfl rfl (iC (by omega)) (ab 2 rfl (aJ true rfl rfl (jR g2) (ab 3 rfl (aV ah rfl rfl rfl (aT ah rfl rfl rfl (show cell H8 _=some (.slice Ab m cb)from by rw[←dr];exact zQ.mY) ?_))))));refine ab 1 rfl (aS ah rfl rfl rfl rfl rfl (fY _ _ zQ y.i aU) (by rw[Int.toNat_natCast];exact gO aU) (by omega) (by omega) fun _=> ?_);refine ab 2 rfl (aV ah rfl rfl rfl (aT ah rfl rfl rfl (show cell H8 _=some (.slice Ab m cb)from by rw[←dr];exact zQ.mY) ?_));refine ab 1 rfl (aS ah rfl rfl rfl rfl rfl (fY _ _ zQ y.i aU) (by rw[ez,Int.toNat_natCast];exact gO (by omega)) (by omega) (by omega) fun _=> ?_);refine aJ false rfl rfl (iC (by omega)) (ab 2 rfl (ae [0,1,5,6,7,10,17,18,108] ?_));refine dR rfl (aA (aj [0,1,5,6,17,18] rfl ?_));refine aC rfl (aH rfl rfl ⟨by omega,by omega⟩ (ab 1 rfl (az ?_)));exact⟨⟨y.i+1,y.z,y.a,y.b,o8⟩,(show m-(y.i+1)<m-y.i by omega),au,E9,sT,(show y.i+1≤m by omega),fun h9=>hI.1 (ft h9).1,.inr ⟨r,q,ez,Nat.lt_succ_of_lt xV,cW,nH,fun h9=>MZ (hL (ft h9).1) (jt h9) (.inr ⟨CF.1 g2,g3⟩)⟩⟩
   skip
   refine bP .bJ [0,1,2,3,4,5,6,7,8,9,10,11,12,13,14,15,16,17,18,19,20,21,22] follows (ia [0,1,3,7,15,31,63,127,255,511,63,2047,4095,63,8255,24639,57407,63,254015,516159,1048575,2097151,4194303] (by kernel_rfl)) ?_;refine ab 1 rfl (aJ false rfl rfl (iC (by omega)) (ab 2 rfl (aJ false rfl rfl (lD g2) (ab 18 rfl (ae [0,1,5,6,7,10,17,18,108] ?_)))));refine dR rfl (aA (aj [0,1,5,6,17,18] rfl ?_));refine aC rfl (aH rfl rfl ⟨by omega,by omega⟩ (ab 1 rfl (az ?_)));exact⟨⟨y.i+1,y.z,y.a,y.b,o8⟩,(show m-(y.i+1)<m-y.i by omega),au,E9,sT,(show y.i+1≤m by omega),fun h9=>hI.1 (ft h9).1,.inr ⟨r,q,ez,Nat.lt_succ_of_lt xV,cW,nH,fun h9=>MZ (hL (ft h9).1) (jt h9) (.inl (by have k1:¬xq<q:=fun k=>g1 (eT.2 k);have k2:¬xq=q:=fun k=>g2 (CF.2 k);grind))⟩⟩
 ·
  have aU:m≤y.i:=by simpa using hb
  have aU:y.i=m:=by omega
  refine aW (aj [5] rfl ?_);refine ag (ab 2 rfl (ae [4] ?_));refine aE ⟨.inr rfl,_,.tmp rfl (.nil),?_⟩;refine⟨y.z,y.o,rfl,fj,E8,hI.1,?_⟩;have h2:=hI.2;rw[aU]at h2
  rcases h2 with h9 | ⟨r,q,k1,k2,k3,_,k5⟩
  ·exact .inl h9
  ·exact .inr ⟨r,k1,k2,k3,fun h9=>⟨q,k5 h9⟩⟩
end Go.aw
namespace Go.aw
open Go.Proofs Num Lp
structure ib(M:Nat→Nat→Rat)(B:Nat→Nat)(T:ar)(m W:Nat):Prop where
 em:T.m=m
 en:T.n+1=W
 eA:∀i,i<m→∀j,j<W→M i j=T.A i j
 ec:∀j,j<W→M m j=T.c j
 eB:∀i,i<m→B i=T.B i
section
variable {M M':Nat→Nat→Rat} {B:Nat→Nat} {T:ar} {m W u r s:Nat} {q:Rat}
theorem ib.GL(h:ib M B T m W)(hu:u<W)(hs:s<u)(gj:M m s<0)(hf:∀j,j<s→0≤M m j)(hr:r<m)(hp:0<M r s)(hl:m6 M B (W-1) s m r q):T.pz u r s:=by
 have en:W-1=T.n:=by have:=h.en;omega
 have hn:=h.en
 refine⟨hs,by rw[←h.ec s (by omega)];exact gj,fun j hj=>by rw[←h.ec j (by omega)];exact hf j hj,by rw[h.em];exact hr,by rw[←h.eA r hr s (by omega)];exact hp,fun i hi cU=> ?_⟩
 rw[h.em]at hi
 have h1:=hl.2 i hi (by rw[h.eA i hi s (by omega)];exact cU)
 rw[hl.1,en,h.eA i hi _ (by omega),h.eA i hi _ (by omega),h.eA r hr _ (by omega),h.eA r hr _ (by omega),h.eB r hr,h.eB i hi]at h1
 exact h1
theorem ib.pivot(h:ib M B T m W)(hr:r<m)(hs:s<W)(hM:∀i,i<m+1→∀j,j<W→M' i j=mz M r s i j):ib M' (fun i=>if i=r then s else B i) (T.pivot r s) m W:=by
 refine⟨h.em,h.en,fun i hi j hj=> ?_,fun j hj=> ?_,fun i hi=> ?_⟩
 ·rw[hM i (by omega) j hj]
  show _=if i=r then T.A r j/T.A r s else T.A i j-T.A i s*(T.A r j/T.A r s)
  unfold mz
  rw[h.eA r hr j hj,h.eA r hr s hs,h.eA i hi j hj,h.eA i hi s hs]
 ·rw[hM m (by omega) j hj]
  show _=T.c j-T.c s*(T.A r j/T.A r s)
  unfold mz
  rw[if_neg (by omega),h.eA r hr j hj,h.eA r hr s hs,h.ec j hj,h.ec s hs]
 ·show _=if i=r then s else T.B i
  by_cases e:i=r
  ·rw[if_pos e,if_pos e]
  ·rw[if_neg e,if_neg e];exact h.eB i hi
end
def SX(u:Nat)(a b:Option ar):Prop:=∃T,b=some T∧(a=none∨∃S,a=some S∧ar.Step u S T)
theorem ajq{u:Nat}{T:ar}(h:Acc (ar.Step u) T):Acc (SX u) (some T):=by
 induction h with
 | intro T _ ih=>
  refine⟨_,fun a ⟨T',e,ha⟩=> ?_⟩
  cases e
  rcases ha with rfl | ⟨S,rfl,hs⟩
  ·exact⟨_,fun b ⟨T'',e,_⟩=>by cases e⟩
  ·exact ih S hs
theorem ajr{u:Nat}:Acc (SX u) none:=⟨_,fun b ⟨T'',e,_⟩=>by cases e⟩
def Na(o o1:Bool)(Φ:ar→Prop)(M:Nat→Nat→Rat)(B:Nat→Nat)(m W:Nat):Option ar→Prop
 | none=>o1=true
 | some T=>o1=false∧o=false∧Φ T∧ib M B T m W
def ajs(o o1:Bool)(Φ:ar→Prop)(M:Nat→Nat→Rat)(B:Nat→Nat)(m W u:Nat)(b:Bool):Prop:=o1=false→o=false∧∃T,Φ T∧ib M B T m W∧(b=true→∀j,j<u→0≤M m j)∧(b=false→∃s,s<u∧M m s<0∧∀i,i<m→M i s≤0)
theorem aax{o:Bool}{H:Heap}{g:Nat}{G:GG}{W m u:Nat}{M:Nat→Nat→Rat}{B:Nat→Nat}{Φ:ar→Prop}{x:Option ar}(h:QV o H g G (m+1) W m M B)(hu:u<W)(hm:(m:Int)≤900000)(hW:(W:Int)≤1000000)(dS:∀T r s,Φ T→T.pz u r s→Φ (T.pivot r s))(hx:Na o o Φ M B m W x)(FM:∀T,x=some T→Acc (ar.Step u) T)(hB:∀i,i<m→B i<W):
 Fn Tryz.prog 138 #[.pointer (some ⟨g,0,none⟩),.int .i64 (u:Int)] H (fun v H'=>∃M' B' o' b,v = .bool b∧QV o' H' g G (m+1) W m M' B'∧Heap.le (rem H G.gs) (rem H' G.gs)∧ajs o o' Φ M' B' m W u b∧∀i,i<m→B' i<W):=by
 refine aZ (args:=[_,_]) Tryz.func138 rfl rfl Tryz.ntmps138 rfl rfl fun w0=> ?_;refine aj [0,1] rfl ?_;refine ag (ab 1 rfl (ae [0,1] ?_));refine aq (aG (Kj (γ:=Option ar) (SX u) (fun(y:Option ar)=>put (put (emp) 0 (.val (.pointer (some ⟨g,0,none⟩)))) 1 (.val (.int .i64 (u:Int)))) (fun(y:Option ar) H'=>∃M1 B1 o1,QV o1 H' g G (m+1) W m M1 B1∧Heap.le (rem H G.gs) (rem H' G.gs)∧Na o o1 Φ M1 B1 m W y∧∀i,i<m→B1 i<W) (x) ((by cases x with | none=>exact ajr | some T=>exact ajq (FM T rfl))) au (⟨M,B,o,h,.refl _,hx,hB⟩) ?_));rintro y H1 ⟨M1,B1,o1,h1,fm,hy,zR⟩;obtain⟨xs1,gI,ajt,eP⟩:=h1.rk;obtain⟨pm,sV⟩:=h1.cZ.get (Nat.lt_succ_self m);obtain⟨xm,sm,CG,CH⟩:=h1.row sV;refine aq (ag (ab 2 rfl (aV ah rfl rfl rfl (aT ah rfl rfl rfl (h1.SE) (ab 1 rfl (ae [0,1,13] ?_))))));refine aD rfl (fun hb=> ?_) (fun hb=> ?_)
 ·
  have hb:o1=false:=by simpa using hb
  subst hb;refine aA (aj [0,1] rfl ?_);refine aG (ag (ab 1 rfl (ae [0,1,5] ?_)));refine bP .bJ [0,1,2,3,4,5,6,7,8,9,10,11,12] follows (by kernel_rfl) ?_;refine ab 2 rfl (aV ah rfl rfl rfl (aT ah rfl rfl rfl (h1.ja) (ab 2 rfl (aV ah rfl rfl rfl (aT ah rfl rfl rfl (h1.ja) (ab 1 rfl (cY rfl rfl ⟨by omega,by omega⟩ (aS ah rfl rfl rfl rfl rfl (ajt) (by rw[show (((m+1:Nat):Int)-1).toNat=m by omega];exact eP m pm sV) (by omega) (by omega) fun _=> ?_))))))));refine ab 1 rfl (ae [0,1,5,6] ?_);refine kI (fun(z:Int)=>put (put (put (emp) 0 (.val (.pointer (some ⟨g,0,none⟩)))) 1 (.val (.int .i64 (u:Int)))) 5 (.val (.int .i64 z))) (fun(z:Int) H'=>H'=H1∧((z = -1∧∀j,j<u→0≤M1 m j)∨∃s:Nat,z=(s:Int)∧s<u∧M1 m s<0∧∀j,j<s→0≤M1 m j)) ?_ ?_
  ·
   refine ag (ab 1 rfl (ae [0,1,5,6,7] ?_));refine aG (ij (fun(k:Nat)(z:Int)=>u-k) (fun(k:Nat)(z:Int)=>put (put (put (put (put (emp) 0 (.val (.pointer (some ⟨g,0,none⟩)))) 1 (.val (.int .i64 (u:Int)))) 5 (.val (.int .i64 z))) 6 (.val (.slice (some ⟨pm.1,0,none⟩) W pm.2))) 7 (.val (.int .i64 (k:Int)))) (fun(k:Nat)(z:Int) H'=>H'=H1∧k≤u∧((z = -1∧∀j,j<k→0≤M1 m j)∨∃s:Nat,z=(s:Int)∧s<u∧M1 m s<0∧∀j,j<s→0≤M1 m j)) 0 (-1) (⟨rfl,Nat.zero_le _,.inl ⟨rfl,fun j hj=>absurd hj (Nat.not_lt_zero _)⟩⟩) au ?_);rintro k z H2 ⟨e2,LF,hz⟩;rw[e2];clear e2 H2;refine aq ?_
   by_cases CI:k<u
   ·
    skip
    by_cases js:z<0
    ·
     obtain⟨ez,iU⟩:z = -1∧∀j,j<k→0≤M1 m j:=by
      rcases hz with h9 | ⟨s,h9,_⟩
      ·exact h9
      ·omega
     obtain⟨n1,d1,jg,iF,i1,i2,i3,i4,cC⟩:=m0 CH (show k<W by omega);refine ag (ab 2 rfl (aJ true rfl rfl (jS (by omega)) (ab 2 rfl (aJ true rfl rfl (jS js) (ab 1 rfl (ae [0,1,5,6,7,32] ?_))))));refine dJ rfl (aA (aj [0,1,5,6,7] rfl ?_));refine aq (aG (ag (ab 2 rfl (nR ah rfl rfl rfl rfl rfl rfl rfl (dW CG) (by rw[Int.toNat_natCast];exact iF 0 _ rfl) (by omega) (by omega) fun _ _=> ?_))));refine ab 1 rfl (ae [0,1,5,6,7,40] ?_);refine aD rfl (fun hb=> ?_) (fun hb=> ?_)
     ·
      have hb:n1<0:=by simpa using hb
      refine aC rfl (ab 2 rfl (az (aj [0,1,5,6,7] rfl ?_)));refine aC rfl (ab 1 rfl (aH rfl rfl ⟨by omega,by omega⟩ (ab 1 rfl (az ?_))));exact⟨k+1,k,by omega,au,rfl,by omega,.inr ⟨k,rfl,CI,by rw[cC];exact(MS i3).2 hb,iU⟩⟩
     have hb:¬n1<0:=by simpa using hb
     refine aA (aj [0,1,5,6,7] rfl ?_);refine aC rfl (ab 1 rfl (aH rfl rfl ⟨by omega,by omega⟩ (ab 1 rfl (az ?_))))
     exact⟨k+1,_,by omega,au,rfl,by omega,.inl ⟨ez,fun j hj=>by
      by_cases ej:j=k
      ·subst ej;rw[cC];have:=(MS (n:=n1) i3).1;grind
      ·exact iU j (by omega)⟩⟩
    skip
    refine ag (ab 2 rfl (aJ true rfl rfl (jS (by omega)) (ab 2 rfl (aJ false rfl rfl (iC (by omega)) (ab 1 rfl (ae [0,1,5,6,7,32] ?_))))));refine dR rfl (aW ?_)
    rcases hz with ⟨h9,_⟩ | hz
    ·omega
    ·exact⟨_,au,rfl,.inr hz⟩
   skip
   refine ag (ab 2 rfl (aJ false rfl rfl (iC (by omega)) (ab 4 rfl (ae [0,1,5,6,7,32] ?_))));refine dR rfl (aW ?_)
   rcases hz with ⟨h9,h8⟩ | hz
   ·exact⟨_,au,rfl,.inl ⟨h9,fun j hj=>h8 j (by omega)⟩⟩
   ·exact⟨_,au,rfl,.inr hz⟩
  ·
   rintro z H2 ⟨e2,hz⟩;rw[e2];clear e2 H2
   obtain⟨T,rfl,ho,th,jd⟩:∃T,y=some T∧o=false∧Φ T∧ib M1 B1 T m W:=by
    cases y with
    | none=>cases hy
    | some T=>exact⟨T,rfl,hy.2⟩
   refine aq (ag (ab 2 rfl (ae [0,1,5,43] ?_)));refine aD rfl (fun hb=> ?_) (fun hb=> ?_)
   ·
    have hb:z<0:=by simpa using hb
    obtain⟨_,iU⟩:z = -1∧∀j,j<u→0≤M1 m j:=by
     rcases hz with h9 | ⟨s,h9,_⟩
     ·exact h9
     ·omega
    refine ag (ab 1 rfl (ae [4] ?_));refine aE ⟨.inr rfl,_,.tmp rfl (.nil),?_⟩;exact⟨M1,B1,false,true,rfl,h1,fm,fun _=>⟨ho,T,th,jd,fun _=>iU,(fun h9=>by cases h9)⟩,zR⟩
   have hb:¬z<0:=by simpa using hb
   obtain⟨s,rfl,Jk,mQ,SY⟩:∃s:Nat,z=(s:Int)∧s<u∧M1 m s<0∧∀j,j<s→0≤M1 m j:=by
    rcases hz with ⟨h9,_⟩ | h9
    ·omega
    ·exact h9
   refine aA (aj [0,1,5] rfl ?_);refine ag (ab 2 rfl (aF rfl rfl (ajp h1 (by omega) (show s<W by omega) (by omega) hW) ?_));rintro _ H2 ⟨z2,o2,rfl,fj,E8,Jl⟩;have h2:=h1.uK fj E8;refine ab 1 rfl (ae [0,1,5,8] ?_);refine aq (ag (ab 2 rfl (ae [0,1,5,8,48] ?_)));refine aD rfl (fun hb=> ?_) (fun hb=> ?_)
   ·
    have hb:z2<0:=by simpa using hb
    have iU:∀i,i<m→M1 i s≤0:=by
     rcases Jl.2 with h9 | ⟨r,h9,_⟩
     ·exact h9.2
     ·omega
    refine ag (ab 1 rfl (ae [4] ?_));refine aE ⟨.inr rfl,_,.tmp rfl (.nil),?_⟩;exact⟨M1,B1,o2,false,rfl,h2,fm.trans fj.le,fun h9=>⟨ho,T,th,jd,(fun h8=>by cases h8),fun _=>⟨s,Jk,mQ,iU⟩⟩,zR⟩
   have hb:¬z2<0:=by simpa using hb
   obtain⟨r,rfl,kf,cW,hL⟩:∃r:Nat,z2=(r:Int)∧r<m∧0<M1 r s∧(o2=false→∃q,m6 M1 B1 (W-1) s m r q):=by
    rcases Jl.2 with ⟨h9,_⟩ | h9
    ·omega
    ·exact h9
   refine aA (aj [0,1,5,8] rfl ?_);refine aC rfl (ab 3 rfl (aF rfl rfl (aaj h2 kf (by omega) (show s<W by omega) (by grind) (by omega) hW) ?_));rintro v3 H3 ⟨M3,o3,h3,hM3,iD⟩;refine az ?_;have hle:=(fm.trans fj.le).trans iD
   have hB3:∀i,i<m→(if i=r then s else B1 i)<W:=fun i hi=>by
    split
    ·omega
    ·exact zR i hi
   cases o3 with
   | true=>exact⟨none,⟨T,rfl,.inl rfl⟩,au,M3,_,true,h3,hle,rfl,hB3⟩
   | false=>
    obtain⟨h9,hpM⟩:=hM3 rfl;obtain⟨q,hq⟩:=hL h9;have kL:=jd.GL hu Jk mQ SY kf cW hq;exact⟨some (T.pivot r s),⟨T,rfl,.inr ⟨_,rfl,r,s,kL,rfl⟩⟩,au,M3,_,false,h3,hle,⟨rfl,ho,dS _ _ _ th kL,jd.pivot kf (by omega) hpM⟩,hB3⟩
 ·
  have hb:o1=true:=by simpa using hb
  subst hb;refine aW (aj [] rfl ?_);refine ag (ab 1 rfl (ae [4] ?_));refine aE ⟨.inr rfl,_,.tmp rfl (.nil),?_⟩;exact⟨M1,B1,true,true,rfl,h1,fm,(fun h9=>by cases h9),zR⟩
end Go.aw
namespace Go.aw
open Go.Proofs Num Lp
def Nb(fr:Nat→Bool):Nat→Nat→Nat
 | 0,_=>0
 | k+1,t=>if fr k=true∧t=aX fr k-k then aX fr k+1 else Nb fr k t
section
variable {fr:Nat→Bool}
theorem zS(k:Nat):k≤aX fr k:=by
 induction k with
 | zero=>exact Nat.le_refl _
 | succ k ih=>
  have h1:aX fr (k+1)=aX fr k+1+(if fr k then 1 else 0):=rfl
  omega
theorem Nc{j k:Nat}(h:j≤k):aX fr j+k≤aX fr k+j:=by
 induction k with
 | zero=>obtain rfl:j=0:=by omega
         exact Nat.le_refl _
 | succ k ih=>
  have h1:aX fr (k+1)=aX fr k+1+(if fr k then 1 else 0):=rfl
  by_cases e:j=k+1
  ·subst e;exact Nat.le_refl _
  ·have:=ih (by omega);omega
theorem Nd{k:Nat}(h:fr k=true):aX fr (k+1)=aX fr k+2:=by
 show aX fr k+1+(if fr k then 1 else 0)=_
 rw[if_pos h]
theorem aju{k j:Nat}(hj:j<k)(hf:fr j=true):Nb fr k (aX fr j-j)=aX fr j+1:=by
 induction k with
 | zero=>omega
 | succ k ih=>
  unfold Nb
  by_cases e:j=k
  ·subst e;rw[if_pos ⟨hf,rfl⟩]
  ·rw[if_neg,ih (by omega)]
   intro⟨h1,h2⟩
   have h3:=Nc (fr:=fr) (show j+1≤k by omega)
   have h4:=Nd hf
   have h5:=zS (fr:=fr) j
   omega
theorem ajv{k t:Nat}(h:t<aX fr k-k):∃j,j<k∧fr j=true∧t=aX fr j-j:=by
 induction k with
 | zero=>exact absurd h (Nat.not_lt_zero _)
 | succ k ih=>
  by_cases e:fr k=true∧t=aX fr k-k
  ·exact⟨k,by omega,e.1,e.2⟩
  ·have h1:aX fr (k+1)=aX fr k+1+(if fr k then 1 else 0):=rfl
   have h2:=zS (fr:=fr) k
   have h3:t<aX fr k-k:=by
    by_cases hf:fr k=true
    ·rw[if_pos hf]at h1
     have:t≠aX fr k-k:=fun e'=>e ⟨hf,e'⟩
     omega
    ·rw[if_neg hf]at h1;omega
   obtain⟨j,g1,g2,g3⟩:=ih h3
   exact⟨j,by omega,g2,g3⟩
theorem ajw{k y:Nat}(h:y<aX fr k):∃j,j<k∧(y=aX fr j∨(fr j=true∧y=aX fr j+1)):=by
 induction k with
 | zero=>exact absurd h (Nat.not_lt_zero _)
 | succ k ih=>
  by_cases e:y<aX fr k
  ·obtain⟨j,g1,g2⟩:=ih e
   exact⟨j,by omega,g2⟩
  ·have h1:aX fr (k+1)=aX fr k+1+(if fr k then 1 else 0):=rfl
   by_cases hf:fr k=true
   ·rw[if_pos hf]at h1
    by_cases e2:y=aX fr k
    ·exact⟨k,by omega,.inl e2⟩
    ·exact⟨k,by omega,.inr ⟨hf,by omega⟩⟩
   ·rw[if_neg hf]at h1
    exact⟨k,by omega,.inl (by omega)⟩
end
def _root_.Lp.Prg.pi(p:Prg)(x:Nat):Nat:=if x<p.lp.n then aX p.lp.free x else if x<p.c1 then Nb p.lp.free p.lp.n (x-p.lp.n)else x
abbrev _root_.Lp.Prg.mi(p:Prg)(j:Nat):Nat:=p.lp.n+(aX p.lp.free j-j)
section
variable {p:Prg}
theorem xW{x:Nat}(h:x<p.lp.n):p.pi x=aX p.lp.free x:=by unfold Prg.pi;rw[if_pos h]
theorem xX:p.lp.n≤p.c1:=zS _
theorem Nf{j:Nat}:p.lp.n≤p.mi j:=Nat.le_add_right _ _
theorem vS{x:Nat}(h:p.c1≤x):p.pi x=x:=by
 have:=xX (p:=p)
 unfold Prg.pi;rw[if_neg (by omega),if_neg (by omega)]
theorem vT{j:Nat}(h:j<p.lp.n)(hf:p.lp.free j=true):p.mi j<p.c1:=by
 have h1:=Nc (fr:=p.lp.free) (show j+1≤p.lp.n by omega)
 have h2:=Nd hf
 have h3:=zS (fr:=p.lp.free) j
 show p.lp.n+(aX p.lp.free j-j)<aX p.lp.free p.lp.n
 omega
theorem zT{j:Nat}(h:j<p.lp.n)(hf:p.lp.free j=true):p.pi (p.mi j)=aX p.lp.free j+1:=by
 have:=vT h hf
 have h2:=Nf (p:=p) (j:=j)
 unfold Prg.pi
 rw[if_neg (by omega),if_pos this,Nat.add_sub_cancel_left]
 exact aju h hf
theorem Jm{x:Nat}(h1:p.lp.n≤x)(h2:x<p.c1):∃j,j<p.lp.n∧p.lp.free j=true∧x=p.mi j:=by
 obtain⟨j,g1,g2,g3⟩:=ajv (fr:=p.lp.free) (k:=p.lp.n) (t:=x-p.lp.n) (Nat.sub_lt_sub_right h1 h2)
 exact⟨j,g1,g2,by show x=p.lp.n+_;omega⟩
theorem Ng{x:Nat}(h:x<p.c1):p.pi x<p.c1:=by
 by_cases e:x<p.lp.n
 ·rw[xW e];exact Ig p e
 ·obtain⟨j,g1,g2,rfl⟩:=Jm (by omega) h
  rw[zT g1 g2]
  have h1:=Nc (fr:=p.lp.free) (show j+1≤p.lp.n by omega)
  have h2:=Nd g2
  show aX p.lp.free j+1<aX p.lp.free p.lp.n
  omega
theorem zU{x:Nat}(h:x<p.u):p.pi x<p.u:=by
 have h1:=mr p
 by_cases e:x<p.c1
 ·have:=Ng e;omega
 ·rw[vS (by omega)];exact h
theorem S0{x:Nat}(h:p.u≤x):p.pi x=x:=vS (by have:=mr p;omega)
theorem S1{x:Nat}(h:x<p.w):p.pi x<p.w:=by
 have h1:=fp p
 by_cases e:x<p.u
 ·have:=zU e;omega
 ·rw[S0 (by omega)];exact h
theorem CJ:p.pi p.w=p.w:=S0 (fp p)
theorem Nh{x:Nat}(h:x≤p.w):p.pi x≤p.w:=by
 by_cases e:x=p.w
 ·rw[e,CJ];exact Nat.le_refl _
 ·have:=S1 (p:=p) (x:=x) (by omega);omega
theorem Ni{y:Nat}(h:y<p.u):∃x,x<p.u∧p.pi x=y:=by
 have h1:=mr p
 by_cases e:y<p.c1
 ·obtain⟨j,g1,g2⟩:=ajw e
  rcases g2 with rfl | ⟨g2,rfl⟩
  ·have:=xX (p:=p)
   exact⟨j,by omega,xW g1⟩
  ·have:=vT g1 g2
   exact⟨p.mi j,by omega,zT g1 g2⟩
 ·exact⟨y,h,vS (by omega)⟩
def fg(p:Prg)(a:Nat→Rat)(s:Rat):Nat→Nat→Rat
 | 0=>fun _=>0
 | k+1=>if p.lp.free k then bY (bY (fg p a s k) k (a k*s)) (p.mi k) (-(a k*s))else bY (fg p a s k) k (a k*s)
variable {a:Nat→Rat} {s:Rat}
theorem ajx{k x:Nat}(hk:k≤p.lp.n)(hx:x<k):fg p a s k x=a x*s:=by
 induction k with
 | zero=>omega
 | succ k ih=>
  have key:bY (fg p a s k) k (a k*s) x=a x*s:=by
   by_cases e:x=k
   ·rw[e,jI]
   ·rw[eI e,ih (by omega) (by omega)]
  unfold fg
  split
  ·rw[eI (by show x≠p.lp.n+_;omega),key]
  ·exact key
theorem ajy{k j:Nat}(hk:k≤p.lp.n)(hj:j<k)(hf:p.lp.free j=true):fg p a s k (p.mi j) = -(a j*s):=by
 induction k with
 | zero=>omega
 | succ k ih=>
  unfold fg
  by_cases e:j=k
  ·subst e;rw[if_pos hf,jI]
  ·have h3:=Nc (fr:=p.lp.free) (show j+1≤k by omega)
   have h4:=Nd hf
   have h5:=zS (fr:=p.lp.free) j
   split
   ·rw[eI (by show p.lp.n+_≠p.lp.n+_;omega),eI (by show p.lp.n+_≠k;omega),ih (by omega) (by omega)]
   ·rw[eI (by show p.lp.n+_≠k;omega),ih (by omega) (by omega)]
theorem aay{k x:Nat}(hk:k≤p.lp.n)(hx:p.c1≤x):fg p a s k x=0:=by
 have h0:=xX (p:=p)
 induction k with
 | zero=>rfl
 | succ k ih=>
  unfold fg
  split
  ·rename_i hf
   have:=vT (p:=p) (j:=k) (by omega) hf
   rw[eI (by omega),eI (by omega),ih (by omega)]
  ·rw[eI (by omega),ih (by omega)]
theorem Jn(x:Nat):fg p a s p.lp.n x=kj p.lay a s p.lp.n (p.pi x):=by
 by_cases e:x<p.lp.n
 ·rw[ajx (Nat.le_refl _) e,xW e,(Ey (Nat.le_refl _) e).1]
 ·by_cases e2:x<p.c1
  ·obtain⟨j,g1,g2,rfl⟩:=Jm (by omega) e2
   rw[ajy (Nat.le_refl _) g1 g2,zT g1 g2,(Ey (Nat.le_refl _) g1).2 g2]
  ·rw[aay (Nat.le_refl _) (Nat.le_of_not_lt e2),vS (Nat.le_of_not_lt e2),Ex (Nat.le_refl _) (Nat.le_of_not_lt e2)]
def kF(rel s:Int):Int:=if s=1 then rel else if rel=2 then 2 else 4-rel
theorem S2{rel s:Int}(hr:rel=1∨rel=2∨rel=3)(hs:s=1∨s = -1):fe rel s=true↔kF rel s=1:=by
 unfold fe kF
 rw[decide_eq_true_eq]
 rcases hr with rfl | rfl | rfl <;> rcases hs with rfl | rfl <;> simp
def dP(p:Prg)(i:Nat):Nat→Rat:=
 let r1:=bY (fg p (p.lp.a i) (p.aK i:Rat) p.lp.n) p.w (p.lp.b i*(p.aK i:Rat))
 let r2:=if p.lp.rel i=2 then r1 else bY r1 (bD p.lp.rel p.c1 i) (if kF (p.lp.rel i) (p.aK i)=1 then 1 else -1)
 if kF (p.lp.rel i) (p.aK i)=1 then r2 else bY r2 (aY p.lp.rel p.aK p.u i) 1
theorem S3(hv:p.lp.Valid){i:Nat}(hi:i<p.lp.m){x:Nat}(hx:x≤p.w):dP p i x=p.eh.A i (p.pi x):=by
 have hr:=hv i hi
 have hs:=sH (p.lp.b i) (p.lp.rel i)
 have hu:=ow p hi
 have hcu:=mr p
 have mU:=fp p
 have hug:=Mb (p:=p) (i:=i)
 have h2:=(tW p.lp.rel p.aK p.u i).2
 have h3:=(sI p.lp.rel p.c1 i).2
 have eT:p.lp.rel i≠2→bD p.lp.rel p.c1 i<p.u:=fun h=>Ca hi h
 have cE:=S2 hr hs
 by_cases e:x<p.c1
 ·rw[Ra (Ng e),←Jn]
  unfold dP
  have hb:bY (fg p (p.lp.a i) (p.aK i:Rat) p.lp.n) p.w (p.lp.b i*(p.aK i:Rat)) x=fg p (p.lp.a i) (p.aK i:Rat) p.lp.n x:=eI (by omega)
  split
  ·split
   ·exact hb
   ·rw[eI (by omega)];exact hb
  ·rw[eI (by omega)]
   split
   ·exact hb
   ·rw[eI (by omega)];exact hb
 ·rw[vS (by omega),Cb]
  have z1:kj p.lay (p.lp.a i) (p.aK i:Rat) p.lp.n x=0:=Ex (Nat.le_refl _) (Nat.le_of_not_lt e)
  have z2:fg p (p.lp.a i) (p.aK i:Rat) p.lp.n x=0:=aay (Nat.le_refl _) (by omega)
  unfold dP
  by_cases hw:x=p.w
  ·subst hw
   rw[jI]
   have hb:=jI (fg p (p.lp.a i) (p.aK i:Rat) p.lp.n) p.w (p.lp.b i*(p.aK i:Rat))
   by_cases o:fe (p.lp.rel i) (p.aK i)=true
   ·rw[if_pos (cE.1 o)]
    split
    ·exact hb
    ·rw[eI (by have:=eT (by assumption);omega)];exact hb
   ·rw[if_neg (fun h=>o (cE.2 h)),eI (by rw[vK o]at hu;omega)]
    split
    ·exact hb
    ·rw[eI (by have:=eT (by assumption);omega)];exact hb
  ·rw[eI (f:=bY _ _ _) hw]
   have hb:bY (fg p (p.lp.a i) (p.aK i:Rat) p.lp.n) p.w (p.lp.b i*(p.aK i:Rat)) x=0:=by rw[eI hw,z2]
   by_cases o:fe (p.lp.rel i) (p.aK i)=true
   ·have nE:p.lp.rel i≠2:=by have:=Ez o;omega
    rw[if_pos (cE.1 o),if_neg nE,zC o,if_pos (cE.1 o)]
    by_cases ex:x=bD p.lp.rel p.c1 i
    ·rw[ex,jI,jI]
    ·rw[eI ex,eI ex,hb,EA (fun _=>by rw[Cc nE];exact ex),z1]
   ·rw[if_neg (fun h=>o (cE.2 h)),vK o,if_neg (fun h=>o (cE.2 h))]
    by_cases ex:x=aY p.lp.rel p.aK p.u i
    ·rw[ex,jI,jI]
    ·rw[eI ex,eI ex]
     by_cases nE:p.lp.rel i=2
     ·rw[if_pos nE,hb,EA (fun h=>absurd nE h),z1]
     ·rw[if_neg nE]
      by_cases ey:x=bD p.lp.rel p.c1 i
      ·rw[ey,jI]
       unfold sB
       rw[Cc nE]
       rcases hr with k | k | k
       ·rw[if_pos k,jI]
        have:p.aK i = -1:=by
         rcases hs with h | h
         ·exact absurd (cE.2 (by unfold kF;rw[if_pos h];exact k)) o
         ·exact h
        rw[this];rfl
       ·exact absurd k nE
       ·rw[if_neg (by omega),if_pos k,jI]
        have:p.aK i=1:=by
         rcases hs with h | h
         ·exact h
         ·exact absurd (cE.2 (by unfold kF;rw[h,k];decide)) o
        rw[this];rfl
      ·rw[eI ey,hb,EA (fun _=>by rw[Cc nE];exact ey),z1]
end
end Go.aw
