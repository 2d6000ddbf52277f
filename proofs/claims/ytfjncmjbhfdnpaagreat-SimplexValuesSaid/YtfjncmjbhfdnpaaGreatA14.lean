/- Part 14 of the proof: SDat3, St, Sc, SDat4. -/
import Derived.Test.YtfjncmjbhfdnpaaGreatA13
set_option linter.unusedVariables false
namespace Go.ar
open Go.Proofs Num Lp
abbrev LH(C:Heap→List Value→Prop):Prop:=∀K K' xs,Heap.le K K'→C K xs→C K' xs
abbrev lj(W:Nat)(f:Nat→Rat)(k:Nat)(K:Heap)(xs:List Value):Prop:=bC (gO bT K) 3 xs (fill (aH f W) k)
abbrev kP(W:Nat)(f:Nat→Rat)(K:Heap)(xs:List Value):Prop:=bC (bT K) 3 xs (aH f W)
theorem RR{W:Nat}{f:Nat→Rat}{k:Nat}:LH (lj W f k):=fun _ _ _ hl h=>h.mono fun vs a=>gO.up fK _ _ vs a hl
theorem yW{W:Nat}{f:Nat→Rat}:LH (kP W f):=fun _ _ _ hl h=>h.mono fun vs a=>fK _ _ vs a hl
theorem HP{W k:Nat}{K:Heap}{xs:List Value}{f:Nat→Rat}(h:lj W f k K xs)(hk:k≤W):xs.length=W*3:=by
 have:=h.len
 rwa [mG (by rw[aW];exact hk),aW]at this
theorem wL{W:Nat}{K:Heap}{xs:List Value}{f:Nat→Rat}(h:kP W f K xs):xs.length=W*3:=by
 have:=h.len
 rwa [aW]at this
theorem LI{W k:Nat}{K:Heap}{xs vs:List Value}{f:Nat→Rat}(h:lj W f k K xs)(hk:k<W)(hv:bT K vs (f k)):lj W f (k+1) K (aI xs (k*3) vs):=by
 show bC _ _ _ _
 rw[←xY (di hk)]
 exact h.set (by rw[mG (by rw[aW];omega),aW];exact hk) (show gO bT _ vs (some (f k))from hv) (iq.len _ _ _ hv)
theorem LJ{W:Nat}{K:Heap}{xs:List Value}{f:Nat→Rat}(h:lj W f W K xs):kP W f K xs:=by
 refine CB (P:=bT) (H:=K) ?_
 rw[aW];exact h
theorem LK{W:Nat}{K:Heap}{f:Nat→Rat}:lj W f 0 K (du [.bool false,.slice none 0 0,.slice none 0 0] (W*3)):=by
 have:=z6 (P:=bT) (H:=K) (zs:=[.bool false,.slice none 0 0,.slice none 0 0]) (sz:=3) rfl (aH f W)
 rwa [aW]at this
theorem oP{xs vs:List Value}{s e k:Nat}:({(⟨xs,s,e,true⟩:Ent)with xs:=aI xs (0+k*3) vs}:Ent)=⟨aI xs (k*3) vs,s,e,true⟩:=by rw[Nat.zero_add]
structure SZ(C:Heap→List Value→Prop)(K H:Heap)(G:GG)(R W m:Nat)(M:Nat→Nat→Rat)(B:Nat→Nat)(u:Value)(l:List Nat)(z:Nat):Prop where
 q:bZ iq H (G.on (z::(aE u++G.top))) R W m M B
 own:bP H u 3 1 l.length (uT l)
 row:∃xs,H z=some ⟨xs,W*3,31,true⟩∧C (rem H (G.on (z::(aE u++G.top))).gs) xs
 le:Heap.le K (rem H (G.on (z::(aE u++G.top))).gs)
section
variable {C C':Heap→List Value→Prop} {K K' H H':Heap} {G:GG} {R W m z:Nat} {M M':Nat→Nat→Rat} {B:Nat→Nat} {u:Value} {l:List Nat} {f:Nat→Rat} {xs:List Value}
theorem SZ.mc:z∈(G.on (z::(aE u++G.top))).gs:=List.mem_append_left _ (List.mem_cons_self ..)
theorem SZ.wm{q:Nat}(h:q∈aE u):q∈(G.on (z::(aE u++G.top))).gs:=List.mem_append_left _ (List.mem_cons_of_mem _ (List.mem_append_left _ h))
theorem SZ.Q3(h:SZ C K H G R W m M B u l z):∀q,q∈aE u→q≠z:=fun q hq e=>by
 have h1:z∉(aE u++G.top)++G.low:=(List.nodup_cons.1 (show (z::((aE u++G.top)++G.low)).Nodup from h.q.nd)).1
 exact h1 (List.mem_append_left _ (List.mem_append_left _ (e▸hq)))
theorem GU.start(h:GU K H G R W m M B u l)(hz:H z=none)(hC:C (rem H (G.on (aE u++G.top)).gs) xs):SZ C K (ins H z ⟨xs,W*3,31,true⟩) G R W m M B u l z:=by
 obtain⟨h1,h2⟩:=h.q.apart (e:=⟨xs,W*3,31,true⟩) hz
 refine⟨h1,h.own.same fun q hq=>a7 _ _ fun e=> ?_,⟨xs,bo _ _ _,?_⟩,?_⟩
 ·exact h.q.ne q (QU.wm (dg.2 hq)) (by rw[e];exact hz)
 ·show C (rem _ ((G.on (aE u++G.top)).on (z::(G.on (aE u++G.top)).top)).gs) xs
  rw[h2];exact hC
 ·show Heap.le K (rem _ ((G.on (aE u++G.top)).on (z::(G.on (aE u++G.top)).top)).gs)
  rw[h2];exact h.le
theorem SZ.kept(hC:LH C)(h:SZ C K H G R W m M B u l z)(k:Kept (G.on (z::(aE u++G.top))).gs H H'):SZ C K H' G R W m M B u l z:=by
 obtain⟨xs,h3,h4⟩:=h.row
 exact⟨h.q.kept k,h.own.same fun q hq=>k.same q (SZ.wm (dg.2 hq)),⟨xs,(k.same z SZ.mc).trans h3,hC _ _ _ k.le h4⟩,h.le.trans k.le⟩
theorem SZ.set(h:SZ C K H G R W m M B u l z)(k:Kept (G.on (z::(aE u++G.top))).gs H H')(hC:C' (rem H' (G.on (z::(aE u++G.top))).gs) xs):SZ C' K (ins H' z ⟨xs,W*3,31,true⟩) G R W m M B u l z:=by
 have h1:=h.q.kept k
 have hm:z∈(G.on (z::(aE u++G.top))).gs:=SZ.mc
 have hT:fE (G.on (z::(aE u++G.top))).gs z H' (ins H' z ⟨xs,W*3,31,true⟩):=((Kept.refl _ _).il z).ins hm _
 refine⟨h1.Bm (List.mem_cons_self ..) hT (by rw[bo];simp),h.own.same fun q hq=> ?_,⟨xs,bo _ _ _,by rw[cC _ hm];exact hC⟩,by rw[cC _ hm];exact h.le.trans k.le⟩
 rw[a7 _ _ (h.Q3 q (dg.2 hq))];exact k.same q (SZ.wm (dg.2 hq))
theorem SZ.u6{j:Nat}{vs:List Value}{q:Rat}(h:SZ (kP W f) K H G R W m M B u l z)(k:Kept (G.on (z::(aE u++G.top))).gs H H')(hD:kP W f (rem H (G.on (z::(aE u++G.top))).gs) xs)(hj:j<W)(hv:bT (rem H' (G.on (z::(aE u++G.top))).gs) vs q):SZ (kP W (bQ f j q)) K (ins H' z ⟨aI xs (j*3) vs,W*3,31,true⟩) G R W m M B u l z:=
 h.set k (YZ (yW _ _ _ k.le hD) hj hv)
theorem SZ.fresh(hC:LH C)(h:SZ C K H G R W m M B u l z){k:Nat}{e:Ent}(hk:H k=none):SZ C K (ins H k e) G R W m M B u l z:=by
 obtain⟨_,h2⟩:=h.q.fresh (e:=e) hk
 exact h.kept hC ⟨h2,fun q hq=>a7 _ _ fun(e':q=k)=>h.q.ne q hq (by rw[e'];exact hk)⟩
theorem SZ.Bs(h:SZ C K H G R W m M B u l z):SZ C (rem H (G.on (z::(aE u++G.top))).gs) H G R W m M B u l z:=⟨h.q,h.own,h.row,.refl _⟩
theorem SZ.down(h:SZ C K H G R W m M B u l z)(hl:Heap.le K' K):SZ C K' H G R W m M B u l z:=⟨h.q,h.own,h.row,hl.trans h.le⟩
theorem SZ.to(h:SZ C K H G R W m M B u l z)(hC:∀xs,C (rem H (G.on (z::(aE u++G.top))).gs) xs→C' (rem H (G.on (z::(aE u++G.top))).gs) xs):SZ C' K H G R W m M B u l z:=by
 obtain⟨xs,h3,h4⟩:=h.row
 exact⟨h.q,h.own,⟨xs,h3,hC xs h4⟩,h.le⟩
theorem SZ.Zy(h:SZ C K H G R W m M B u l z){q:Nat}(hq:q∈G.gs):q≠z:=fun e=>by
 have h1:z∉(aE u++G.top)++G.low:=(List.nodup_cons.1 (show (z::((aE u++G.top)++G.low)).Nodup from h.q.nd)).1
 rw[←e,List.append_assoc]at h1
 exact h1 (List.mem_append_right _ hq)
theorem SZ.more{c lg:Nat}{A':Option Addr}(h:SZ (kP W f) K H G R W m M B u l z)(ha:App H (.slice G.Ar R G.cr) 26 1 (R+1) (iH (G.rg ++ [(z,c)]) W) (.slice A' (R+1) lg) H'):
  GU K H' (G.more G.top z c A' lg R) (R+1) W m (fun i=>if i=R then f else M i) B u l:=by
 obtain⟨xs,h3,h4⟩:=h.row
 obtain⟨h1,h2⟩:=h.q.more (t:=aE u++G.top) ⟨xs,_,h3,h4⟩ ha
 refine⟨h1,h.own.same fun q hq=> ?_,h.le.trans h2⟩
 obtain⟨en,he⟩:=h.own.block hq
 rw[he]
 refine ha.same q en he fun e=> ?_
 have hb:q∈G.hb:=by
  have:=h.q.lI
  have e2:G.hb=aE (.slice G.Ar R G.cr):=this
  rw[e2];exact dg.2 e
 exact GG.tq h.q.nd (q:=q) (r:=q) (List.mem_cons_of_mem _ (List.mem_append_left _ (dg.2 hq))) (GG.Bk (G:=G.on (z::(aE u++G.top))) hb) rfl
theorem GU.BE(h:GU K H G R W m M B u l)(hM:∀i,i<R→∀j,j<W→M' i j=M i j):GU K H G R W m M' B u l:=⟨h.q.BE hM,h.own,h.le⟩
theorem bZ.gu(h:bZ iq H G R W m M B):GU (rem H G.gs) H G R W m M B (.slice none 0 0) []:=⟨h,lQ _ _ _,.refl _⟩
end
def g0:GG:=⟨[],[],[],.slice none 0 0,[],none,0⟩
theorem aiV{H:Heap}{W:Nat}{M:Nat→Nat→Rat}{B:Nat→Nat}:GU H H g0 0 W 0 M B (.slice none 0 0) []:=by
 refine⟨⟨List.nodup_nil,fun q hq=>(by cases hq),rfl,rfl,lQ _ _ _,fun i p hp=>(by cases hp),.inl ⟨rfl,rfl,rfl⟩⟩,lQ _ _ _,?_⟩
 show Heap.le H (rem H [])
 rw[vD];exact .refl _
def GG.fin(G:GG)(u:Value):GG:={G with bb:=aE u,bv:=u}
theorem GU.fin{K H:Heap}{G:GG}{R W m:Nat}{M:Nat→Nat→Rat}{B B':Nat→Nat}{u:Value}(h:GU K H G R W 0 M B' u ((List.range m).map B))(hb:G.bb = []):bZ iq H (G.fin u) R W m M B∧Heap.le K (rem H (G.fin u).gs):=by
 have jA:(G.on (aE u++G.top)).gs=(aE u++G.top)++(G.hb++(G.bb++G.rg.map (·.1))):=rfl
 have Hq:(G.fin u).gs=G.top++(G.hb++(aE u++G.rg.map (·.1))):=rfl
 rw[hb,List.nil_append]at jA
 have rO:((aE u++G.top)++(G.hb++G.rg.map (·.1))).Perm (G.top++(G.hb++(aE u++G.rg.map (·.1)))):=by
  refine(List.Perm.append_right _ List.perm_append_comm).trans ?_
  rw[List.append_assoc]
  refine List.Perm.append_left _ ?_
  rw[←List.append_assoc,←List.append_assoc]
  exact List.Perm.append_right _ List.perm_append_comm
 have er:rem H (G.fin u).gs=rem H (G.on (aE u++G.top)).gs:=YY fun q=>by rw[jA,Hq];exact(rO.mem_iff).symm
 have dJ:=h.q.nd
 rw[jA]at dJ
 refine⟨⟨by rw[Hq];exact rO.nodup_iff.1 dJ,fun q hq=>h.q.top q (List.mem_append_right _ hq),h.q.gN,h.q.lI,h.q.rows,fun i p hp=> ?_,?_⟩,by rw[er];exact h.le⟩
 ·rw[er];exact h.q.row i p hp
 ·have h1:=h.own
  rw[List.length_map,List.length_range]at h1
  rcases h1.2 with ⟨h2,h3⟩ | ⟨g,cap,h2,h3,_⟩
  ·exact .inl ⟨h3,by show aE u = [];rw[h2];rfl,h2⟩
  ·exact .inr ⟨g,cap,_,by show aE u = [g];rw[h2];rfl,h2,by rw[h3,uT,List.map_map];rfl⟩
section
variable {p:Prg}
abbrev _root_.Lp.Prg.xf(p:Prg)(j:Nat):Nat:=aT p.lp.free j-j
abbrev _root_.Lp.Prg.sf(p:Prg)(i:Nat):Nat:=bm p.lp.rel p.c1 i-p.c1
abbrev _root_.Lp.Prg.af(p:Prg)(i:Nat):Nat:=aV p.lp.rel p.aF p.u i-p.u
theorem aiW{j:Nat}:p.xf (j+1)=p.xf j+(if p.lp.free j then 1 else 0):=by
 have h1:aT p.lp.free (j+1)=aT p.lp.free j+1+(if p.lp.free j then 1 else 0):=rfl
 have h2:=yM (fr:=p.lp.free) j
 show aT p.lp.free (j+1)-(j+1)=aT p.lp.free j-j+_
 omega
theorem aiX(rel:Nat→Int)(c i:Nat):c≤bm rel c i:=by
 induction i with
 | zero=>exact Nat.le_refl _
 | succ i ih=>exact Nat.le_trans ih (Nat.le_add_right _ _)
theorem aiY(rel sg:Nat→Int)(u i:Nat):u≤aV rel sg u i:=by
 induction i with
 | zero=>exact Nat.le_refl _
 | succ i ih=>exact Nat.le_trans ih (Nat.le_add_right _ _)
theorem aiZ{i:Nat}:p.sf (i+1)=p.sf i+(if p.lp.rel i=2 then 0 else 1):=by
 have h1:bm p.lp.rel p.c1 (i+1)=bm p.lp.rel p.c1 i+(if p.lp.rel i=2 then 0 else 1):=rfl
 have h2:=aiX p.lp.rel p.c1 i
 show bm p.lp.rel p.c1 (i+1)-p.c1=bm p.lp.rel p.c1 i-p.c1+_
 omega
theorem ai0{i:Nat}:p.af (i+1)=p.af i+(if eP (p.lp.rel i) (p.aF i)then 0 else 1):=by
 have h1:aV p.lp.rel p.aF p.u (i+1)=aV p.lp.rel p.aF p.u i+(if eP (p.lp.rel i) (p.aF i)then 0 else 1):=rfl
 have h2:=aiY p.lp.rel p.aF p.u i
 show aV p.lp.rel p.aF p.u (i+1)-p.u=aV p.lp.rel p.aF p.u i-p.u+_
 omega
theorem Zz{i:Nat}{r:List Rat×Int×Rat}(h:p.rows[i]? = some r):(fi r).2.1=kf (p.lp.rel i) (p.aF i):=by
 have e:=Prg.m8 h
 have h1:p.lp.rel i=r.2.1:=by show (p.row i).2.1=_;rw[e]
 have h2:p.lp.b i=r.2.2:=by show (p.row i).2.2=_;rw[e]
 show _=kf (p.lp.rel i) (kv (p.lp.b i) (p.lp.rel i))
 rw[h1,h2]
 unfold fi
 rcases rB r.2.2 r.2.1 with k | k
 ·rw[if_pos k,k];unfold kf;rw[if_pos rfl]
 ·rw[if_neg (by rw[k];decide),k]
theorem ai1{i:Nat}{r:List Rat×Int×Rat}(h:p.rows[i]? = some r):(fi r).2.2=p.lp.b i*(p.aF i:Rat):=by
 have e:=Prg.m8 h
 have h1:p.lp.rel i=r.2.1:=by show (p.row i).2.1=_;rw[e]
 have h2:p.lp.b i=r.2.2:=by show (p.row i).2.2=_;rw[e]
 show _=_*((kv (p.lp.b i) (p.lp.rel i):Int):Rat)
 rw[h1,h2]
 unfold fi
 rcases rB r.2.2 r.2.1 with k | k
 ·rw[if_pos k,k];exact(Rat.mul_one _).symm
 ·rw[if_neg (by rw[k];decide),k]
  show -r.2.2=r.2.2 * -1
  grind
theorem ai2{r:List Rat×Int×Rat}:(fi r).1.length=r.1.length:=by
 unfold fi;split <;> simp
theorem ai3{i j:Nat}{r:List Rat×Int×Rat}{q:Rat}(h:p.rows[i]? = some r)(hj:r.1[j]? = some q):(fi r).1[j]? = some (p.lp.a i j*(p.aF i:Rat)):=by
 have e:=Prg.m8 h
 have h1:p.lp.rel i=r.2.1:=by show (p.row i).2.1=_;rw[e]
 have h2:p.lp.b i=r.2.2:=by show (p.row i).2.2=_;rw[e]
 have h3:p.lp.a i j=q:=by show fn (p.row i).1 j=_;rw[e];exact jC hj
 show _=some (_*((kv (p.lp.b i) (p.lp.rel i):Int):Rat))
 rw[h1,h2,h3]
 unfold fi
 rcases rB r.2.2 r.2.1 with k | k
 ·rw[if_pos k,k,hj]
  show some q=some (q*1)
  rw[Rat.mul_one]
 ·rw[if_neg (by rw[k];decide),k]
  show (r.1.map (fun q=> -q))[j]? = some (q * -1)
  rw[List.getElem?_map,hj]
  show some (-q)=some (q * -1)
  rw[show -q=q * -1 from by grind]
end
end Go.ar
namespace Go.ar
open Go.Proofs Num Lp
theorem GU.hle{K H:Heap}{G:GG}{R W m:Nat}{M:Nat→Nat→Rat}{B:Nat→Nat}{u:Value}{l:List Nat}(h:GU K H G R W m M B u l):Heap.le K H:=h.le.trans (bG _ _)
theorem SZ.hle{C:Heap→List Value→Prop}{K H:Heap}{G:GG}{R W m:Nat}{M:Nat→Nat→Rat}{B:Nat→Nat}{u:Value}{l:List Nat}{z:Nat}(h:SZ C K H G R W m M B u l z):Heap.le K H:=h.le.trans (bG _ _)
theorem ZA{rel s:Int}(hr:rel=1∨rel=2∨rel=3)(hs:s=1∨s = -1):(kf rel s=1∨kf rel s=2∨kf rel s=3)∧(kf rel s=2↔rel=2):=by
 unfold kf
 rcases hr with rfl | rfl | rfl <;> rcases hs with rfl | rfl <;> simp
theorem ai4{f:Nat→Rat}{k:Nat}{a b:Rat}:bQ (bQ f k a) k b=bQ f k b:=by
 funext j
 by_cases e:j=k
 ·subst e;rw[jt,jt]
 ·rw[dY e,dY e,dY e]
def RS(p:Prg)(i:Nat):Nat→Rat:=bQ (eQ p (p.lp.a i) (p.aF i:Rat) p.lp.n) p.w (p.lp.b i*(p.aF i:Rat))
def DD(p:Prg)(i:Nat):Nat→Rat:=if p.lp.rel i=2 then RS p i else bQ (RS p i) (bm p.lp.rel p.c1 i) (if kf (p.lp.rel i) (p.aF i)=1 then 1 else -1)
theorem ZB{p:Prg}{i:Nat}:dG p i=if kf (p.lp.rel i) (p.aF i)=1 then DD p i else bQ (DD p i) (aV p.lp.rel p.aF p.u i) 1:=rfl
theorem ai5{H:Heap}{p:Prg}{pv:Value}{N:Nat}(bg:p.Ok)(hp:eJ N H pv p)(hN:N≤400000000):
 Fn Tryz.prog 62 #[pv] H (fun v H'=>∃G,v = .tuple #[.agg #[.slice G.Ar p.lp.m G.cr,G.bv],.int .i64 (p.u:Int)]∧G.top = []∧bZ iq H' G p.lp.m (p.w+1) p.lp.m (dG p) p.unit∧Heap.le H (rem H' G.gs)):=by
 obtain⟨fv,fN,rfl,eo,ep⟩:=id hp
 obtain⟨Af,cf,xf,rfl,gZ,hO⟩:=eo.one
 obtain⟨Ar,cr,xr,rfl,mW,eK,fO⟩:=id ep
 have gL:=bg.gM
 have uL:=bg.rows
 have ZC:p.lp.n=p.free.length:=rfl
 have rO:p.lp.m=p.rows.length:=rfl
 have cK:=wA (p:=p)
 have hcu:=l5 p
 have l4:=fg p
 have PJ:p.w≤2*p.lp.n+2*p.lp.m:=F8 p
 have za:p.c1=p.free.length+p.xf p.free.length:=by show aT _ _=_+(aT p.lp.free p.lp.n-p.lp.n);have:=yM (fr:=p.lp.free) p.lp.n;omega
 have lX:p.u=p.c1+p.sf p.rows.length:=by show bm _ _ _=_+(bm p.lp.rel p.c1 p.lp.m-p.c1);have:=(rC p.lp.rel p.c1 p.lp.m).2;omega
 have han:p.w=p.u+p.af p.rows.length:=by show aV _ _ _ _=_+(aV p.lp.rel p.aF p.u p.lp.m-p.u);have:=(s4 p.lp.rel p.aF p.u p.lp.m).2;omega
 obtain⟨W,hW⟩:∃W,W=p.w+1:=⟨_,rfl⟩
 rw[←hW];refine aZ (args:=[_]) Tryz.func62 rfl rfl Tryz.ntmps62 rfl rfl fun w0=> ?_;refine ag [0] rfl ?_;refine ab ?_;refine bS rfl rfl ?_;refine bt II rfl ?_;refine vr 1 ?_;refine aa [1,2] ?_;refine ab ?_;refine aw rfl rfl ((ry (n:=0) (by decide) (by decide)).rc) ?_;rintro _ H1 ⟨bH,t4,rfl,ct⟩;rw[show ((0:Int):Rat)=0 from rfl]at ct;refine aw rfl rfl ((ry (n:=1) (by decide) (by decide)).rc) ?_;rintro _ H2 ⟨bh,t5,rfl,eU⟩;rw[show ((1:Int):Rat)=1 from rfl]at eU;have LL:=bH.trans bh
 have jz:aG (1:Rat)≤2:=by decide
 refine bt cR rfl ?_;refine bt cR rfl ?_;obtain⟨ti,aj,ak⟩:=a8;refine aJ (.inl ⟨rfl,rfl⟩) rfl rfl rfl aj ak rfl rfl rfl ?_;obtain⟨ti,aj,ak⟩:=a8;refine aJ (.inl ⟨rfl,rfl⟩) rfl rfl rfl aj ak rfl rfl rfl ?_;refine aa [1,2,4,5] ?_;refine ab ?_;refine vr 3 ?_;refine aa [1,2,4,5,6,7,8] ?_;refine al ?_;refine ab ?_;refine vr 4 ?_;refine aa [1,2,4,5,6,7,8,28,29] ?_;refine aC ?_;refine fZ (fun(j:Nat)=>p.free.length-j) (fun(j:Nat)=>put (put (put (put (put (put (put (put (put (emp) 1 (.box [.slice Af p.free.length cf,.slice Ar p.rows.length cr])) 2 (.box [.slice none 0 0,.slice none 0 0])) 4 (.box [.bool t4.f,.slice t4.A1 t4.m1 t4.c1,.slice t4.A2 t4.m2 t4.c2])) 5 (.box [.bool t5.f,.slice t5.A1 t5.m1 t5.c1,.slice t5.A2 t5.m2 t5.c2])) 6 (.val (.int .i64 (p.xf j:Int)))) 7 (.val (.int .i64 0))) 8 (.val (.int .i64 0))) 28 (.val (.int .i64 (p.free.length:Int)))) 29 (.val (.int .i64 (j:Int)))) (fun(j:Nat) H'=>H'=H2∧j≤p.free.length∧p.xf j≤j) 0 (⟨rfl,Nat.zero_le _,Nat.le_refl _⟩) (by repeat (first | exact iy _ | refine dh rfl ?_ | refine dh (iO (by first | omega | (simp;done) | rfl)) ?_)) ?_;rintro j H2b ⟨e2,hj,Vu⟩;rw[e2];clear e2 H2b;refine ab ?_;refine vr 1 ?_;refine aa [1,2,4,5,6,7,8,28,29,30] ?_;refine al ?_;refine aB rfl (fun hb=> ?_) (fun hb=> ?_)
 ·
  have fP:j<p.free.length:=by simpa using hb
  obtain⟨uf,lG,kg⟩:=hO j _ (List.getElem?_eq_getElem fP);have kg: [uf] = [Value.bool p.free[j]]:=kg
  cases kg
  have mS:p.lp.free j=p.free[j]:=Prg.ue (List.getElem?_eq_getElem fP);have e8:=aiW (p:=p) (j:=j);refine au ?_;refine ag [1,2,4,5,6,7,8,28,29] rfl ?_;refine al ?_;refine aC ?_;refine ab ?_;refine vr 2 ?_;refine aa [1,2,4,5,6,7,8,9,28,29] ?_;refine ab ?_;refine vr 3 ?_;refine aM ae rfl rfl rfl rfl rfl (gZ.le LL) (by rw[Int.toNat_natCast];exact lG) (by omega) (by omega) fun _=> ?_;refine aa [1,2,4,5,6,7,8,28,29,36] ?_;refine aB rfl (fun hb=> ?_) (fun hb=> ?_)
  ·
   have fw:p.lp.free j=true:=by rw[mS];simpa using hb
   rw[if_pos fw]at e8;refine av rfl ?_;refine vr 1 ?_;refine aD rfl rfl ⟨by omega,by omega⟩ ?_;refine vr 1 ?_;refine aq ?_;refine ag [1,2,4,5,6,7,8,28,29] rfl ?_;refine av rfl ?_;refine aD rfl rfl ⟨by omega,by omega⟩ ?_;refine vr 1 ?_;refine aq ?_;exact⟨j+1,by omega,an,rfl,by omega,by omega⟩
  ·
   have fw:¬p.lp.free j=true:=by rw[mS];simpa using hb
   rw[if_neg fw]at e8;refine au ?_;refine ag [1,2,4,5,6,7,8,28,29] rfl ?_;refine av rfl ?_;refine aD rfl rfl ⟨by omega,by omega⟩ ?_;refine vr 1 ?_;refine aq ?_;exact⟨j+1,by omega,an,rfl,by omega,by omega⟩
 ·
  have fP:p.free.length≤j:=by simpa using hb
  obtain rfl:j=p.free.length:=by omega
  refine aU ?_;refine ag [1,2,4,5,6,7,8] rfl ?_;refine ab ?_;refine vr 3 ?_;refine ig Tryz.underlying23 kR rfl rfl rfl (by omega) (by omega) (by omega) (by omega) ?_;intro gx qb;have yQ:=KT (P:=eV (N+2)) (e:=78) (sz:=5) (zs:=[.slice none 0 0,.int .i64 0,.bool false,.slice none 0 0,.slice none 0 0]) (z:=0) (k:=(p.rows.length:Int)) (c:=p.rows.length) qb rfl (Int.toNat_natCast _) (by unfold maxLen;omega);rw[Int.toNat_natCast]at yQ⊢;refine vr 1 ?_;refine aa [1,2,4,5,6,7,8,10] ?_;refine al ?_;refine ab ?_;refine vr 4 ?_;refine aa [1,2,4,5,6,7,8,10,46,47] ?_;refine aC ?_;refine gh (fun(i:Nat)(w:Value)(ws:List Value)=>p.rows.length-i) (fun(i:Nat)(w:Value)(ws:List Value)=>put (put (put (put (put (put (put (put (put (put (emp) 1 (.box [.slice Af p.free.length cf,.slice Ar p.rows.length cr])) 2 (.box [.slice none 0 0,.slice none 0 0])) 4 (.box [.bool t4.f,.slice t4.A1 t4.m1 t4.c1,.slice t4.A2 t4.m2 t4.c2])) 5 (.box [.bool t5.f,.slice t5.A1 t5.m1 t5.c1,.slice t5.A2 t5.m2 t5.c2])) 6 (.val (.int .i64 (p.xf p.free.length:Int)))) 7 (.val (.int .i64 (p.sf i:Int)))) 8 (.val (.int .i64 (p.af i:Int)))) 10 (.val (w))) 46 (.val (.int .i64 (p.rows.length:Int)))) 47 (.val (.int .i64 (i:Int)))) (fun(i:Nat)(w:Value)(ws:List Value) H'=>ia (eV (N+2)) 78 5 H2 H' w ((p.rows.take i).map fi) ws∧i≤p.rows.length∧p.sf i≤i∧p.af i≤i) 0 _ _ (⟨yQ,Nat.zero_le _,by show bm _ _ 0-_≤_;unfold bm;omega,by show aV _ _ _ 0-_≤_;unfold aV;omega⟩) (by repeat (first | exact iy _ | refine dh rfl ?_ | refine dh (iO (by first | omega | (simp;done) | (show _=((bm _ _ 0-_:Nat):Int);unfold bm;omega) | (show _=((aV _ _ _ 0-_:Nat):Int);unfold aV;omega))) ?_)) ?_
  rintro i w ws H3 ⟨hG,hi,hsi,J5⟩;obtain⟨A3,c3,rfl⟩:=hG.form
  have oN:((p.rows.take i).map fi).length=i:=by simp;omega
  refine ab ?_;refine vr 1 ?_;refine aa [1,2,4,5,6,7,8,10,46,47,48] ?_;refine al ?_;refine aB rfl (fun hb=> ?_) (fun hb=> ?_)
  ·
   have aQ:i<p.rows.length:=by simpa using hb
   obtain⟨r,hr⟩:∃r,p.rows[i]? = some r:=⟨_,List.getElem?_eq_getElem aQ⟩;obtain⟨A0,c0,f,A1,m1,c1,A2,m2,c2,jo,iB,tm,jV⟩:=aR.XN fO hr;have DE:=bg.row i r hr;have jW:=bg.valid i aQ;have HQ:p.aF i=1∨p.aF i = -1:=rB _ _;have cN:=Zz hr;have ho:=QW jW HQ;obtain⟨dW,dO⟩:=ZA jW HQ;rw[←cN]at ho dW dO;have e7:=aiZ (p:=p) (i:=i);have e8:=ai0 (p:=p) (i:=i);refine au ?_;refine ag [1,2,4,5,6,7,8,10,46,47] rfl ?_;refine al ?_;refine aC ?_;refine ab ?_;refine vr 2 ?_;refine aa [1,2,4,5,6,7,8,10,11,46,47] ?_;refine ab ?_;refine vr 3 ?_;refine bR (vs:=[.slice A0 r.1.length c0,.int .i64 r.2.1,.bool f,.slice A1 m1 c1,.slice A2 m2 c2]) ae rfl rfl rfl rfl (eK.le (LL.trans hG.le)) rfl (by decide) jV (by omega) (by omega) fun _=> ?_;refine aw rfl rfl (hG.call (aiu (N:=N) (uy N _ _ _ _ (LL.trans hG.base) ⟨_,_,_,_,rfl,iB,tm⟩) hN (by rw[DE.1];omega) DE.2)) ?_;rintro _ H6 mT;have lH:=hG.wh (uy (N+2)) mT fun _ _ h=>h.1;obtain⟨⟨_,A5,c5,f5,B1,k1,e1,B2,k2,e2,rfl,nv⟩,_⟩:=mT;refine bt kR rfl ?_;obtain⟨ti,aj,ak⟩:=mq;refine aJ (.inl ⟨rfl,rfl⟩) rfl rfl rfl aj ak rfl rfl rfl ?_;refine aa [1,2,4,5,6,7,8,10,12,46,47] ?_;refine ab ?_;refine vr 2 ?_;refine dI Tryz.underlying23 kR rfl rfl rfl rfl rfl rfl rfl ?_
   intro gd qO;have qo:=lH.ins (uy (N+2)) (whole (eT [.agg #[.slice A5 r.1.length c5,.int .i64 (fi r).2.1,.bool f5,.slice B1 k1 e1,.slice B2 k2 e2]]) 78) qO;refine eN Tryz.underlying23 kR rfl rfl qo.own (eZ _ _ _ _ _ _) rfl (ahh _ _ _ _ _ _ _ _ _ _ _) (by rw[oN];omega) (by rw[oN];omega) ?_;intro v9 H9 s8;have tx:=qo.append (uy (N+2)) (k:=[fi r]) (by simp) s8 (pb (uy (N+2) _ _ _ _ (Ct _ (Heap.bI _ qO)) nv) rfl);obtain⟨F9,f9,rfl⟩:=tx.form;refine vr 1 ?_;refine aa [1,2,4,5,6,7,8,10,12,46,47] ?_;refine al ?_;refine ab ?_;refine vr 3 ?_;refine aa [1,2,4,5,6,7,8,10,12,46,47,62] ?_;refine aB rfl (fun hb=> ?_) (fun hb=> ?_)
   ·
    have hb:¬(fi r).2.1=2:=by simpa using hb
    rw[if_neg (fun h=>hb (dO.2 h))]at e7;refine av rfl ?_;refine vr 1 ?_;refine aD rfl rfl ⟨by omega,by omega⟩ ?_;refine vr 1 ?_;refine aq ?_;refine ag [1,2,4,5,6,7,8,10,12,46,47] rfl ?_;refine ab ?_;refine vr 3 ?_;refine aa [1,2,4,5,6,7,8,10,46,47,67] ?_;refine aB rfl (fun hb=> ?_) (fun hb=> ?_)
    ·
     have hb:¬(fi r).2.1=1:=by simpa using hb
     rw[if_neg (fun h=>hb (ho.1 h))]at e8;refine av rfl ?_;refine vr 1 ?_;refine aD rfl rfl ⟨by omega,by omega⟩ ?_;refine vr 1 ?_;refine aq ?_;refine ag [1,2,4,5,6,7,8,10,46,47] rfl ?_;refine av rfl ?_;refine aD rfl rfl ⟨by omega,by omega⟩ ?_;refine vr 1 ?_;refine aq ?_;exact⟨i+1,_,_,by omega,an,by rw[KU hr];exact tx,by omega,by omega,by omega⟩
    ·
     have hb:(fi r).2.1=1:=by simpa using hb
     rw[if_pos (ho.2 hb)]at e8;refine au ?_;refine ag [1,2,4,5,6,7,8,10,46,47] rfl ?_;refine av rfl ?_;refine aD rfl rfl ⟨by omega,by omega⟩ ?_;refine vr 1 ?_;refine aq ?_;exact⟨i+1,_,_,by omega,an,by rw[KU hr];exact tx,by omega,by omega,by omega⟩
   ·
    have hb:(fi r).2.1=2:=by simpa using hb
    rw[if_pos (dO.1 hb)]at e7;refine au ?_;refine ag [1,2,4,5,6,7,8,10,12,46,47] rfl ?_;refine ab ?_;refine vr 3 ?_;refine aa [1,2,4,5,6,7,8,10,46,47,67] ?_;refine aB rfl (fun hb=> ?_) (fun hb=> ?_)
    ·
     have hb:¬(fi r).2.1=1:=by simpa using hb
     rw[if_neg (fun h=>hb (ho.1 h))]at e8;refine av rfl ?_;refine vr 1 ?_;refine aD rfl rfl ⟨by omega,by omega⟩ ?_;refine vr 1 ?_;refine aq ?_;refine ag [1,2,4,5,6,7,8,10,46,47] rfl ?_;refine av rfl ?_;refine aD rfl rfl ⟨by omega,by omega⟩ ?_;refine vr 1 ?_;refine aq ?_;exact⟨i+1,_,_,by omega,an,by rw[KU hr];exact tx,by omega,by omega,by omega⟩
    ·
     have hb:(fi r).2.1=1:=by simpa using hb
     rw[if_pos (ho.2 hb)]at e8;refine au ?_;refine ag [1,2,4,5,6,7,8,10,46,47] rfl ?_;refine av rfl ?_;refine aD rfl rfl ⟨by omega,by omega⟩ ?_;refine vr 1 ?_;refine aq ?_;exact⟨i+1,_,_,by omega,an,by rw[KU hr];exact tx,by omega,by omega,by omega⟩
  ·
   have aQ:p.rows.length≤i:=by simpa using hb
   obtain rfl:i=p.rows.length:=by omega
   rw[oN];have yX:=hG.sl (uy (N+2));rw[List.take_length]at yX;obtain⟨A3',c3',x3,e3,sH,vQ,gC⟩:=id yX
   cases e3
   have ZD:=LL.trans hG.le;have hs0:bm p.lp.rel p.c1 0=p.c1:=rfl;have hu0:aV p.lp.rel p.aF p.u 0=p.u:=rfl;have ct:=(ct.le bh).le hG.le;have eU:=eU.le hG.le;refine aU ?_;refine ag [1,2,4,5,6,7,8,10] rfl ?_;refine ab ?_;refine vr 4 ?_;refine aD rfl rfl ⟨by omega,by omega⟩ ?_;refine vr 1 ?_;refine aD rfl rfl ⟨by omega,by omega⟩ ?_;refine vr 1 ?_;refine aa [1,2,4,5,6,8,10,13] ?_;refine ab ?_;refine bt II rfl ?_;refine aa [1,2,4,5,6,8,10,13,14] ?_;refine ab ?_;refine vr 4 ?_;refine aD rfl rfl ⟨by omega,by omega⟩ ?_;refine vr 3 ?_;refine aa [1,2,4,5,8,10,13,14,15,16] ?_;refine al ?_;refine ab ?_;refine vr 3 ?_;refine aa [1,2,4,5,8,13,14,15,16,84,85,86] ?_;refine aC ?_;refine gh (fun(i:Nat)(G:GG)(u:Value)=>p.rows.length-i) (fun(i:Nat)(G:GG)(u:Value)=>put (put (put (put (put (put (put (put (put (put (put (put (emp) 1 (.box [.slice Af p.free.length cf,.slice Ar p.rows.length cr])) 2 (.box [.slice none 0 0,.slice none 0 0])) 4 (.box [.bool t4.f,.slice t4.A1 t4.m1 t4.c1,.slice t4.A2 t4.m2 t4.c2])) 5 (.box [.bool t5.f,.slice t5.A1 t5.m1 t5.c1,.slice t5.A2 t5.m2 t5.c2])) 8 (.val (.int .i64 (p.af p.rows.length:Int)))) 13 (.val (.int .i64 (p.u:Int)))) 14 (.box [.slice G.Ar i G.cr,u])) 15 (.val (.int .i64 (bm p.lp.rel p.c1 i:Int)))) 16 (.val (.int .i64 (aV p.lp.rel p.aF p.u i:Int)))) 84 (.val (.slice A3 p.rows.length c3))) 85 (.val (.int .i64 (p.rows.length:Int)))) 86 (.val (.int .i64 (i:Int)))) (fun(i:Nat)(G:GG)(u:Value) H'=>GU H3 H' G i W 0 (dG p) p.unit u ((List.range i).map p.unit)∧G.top = []∧G.bb = []∧i≤p.rows.length) 0 g0 (.slice none 0 0) (⟨aiV,rfl,rfl,Nat.zero_le _⟩) (by repeat (first | exact iy _ | refine dh rfl ?_ | refine dh (iO (by first | omega | (simp;done) | rfl)) ?_)) ?_
   rintro i G u H4 ⟨hU,RT,ZE,hi⟩
   have tQ:((List.range i).map p.unit).length=i:=by simp
   refine ab ?_;refine vr 1 ?_;refine aa [1,2,4,5,8,13,14,15,16,84,85,86,87] ?_;refine al ?_;refine aB rfl (fun hb=> ?_) (fun hb=> ?_)
   ·
    have aQ:i<p.rows.length:=by simpa using hb
    obtain⟨r,hr⟩:∃r,p.rows[i]? = some r:=⟨_,List.getElem?_eq_getElem aQ⟩
    have fS:(p.rows.length:Nat)=(p.rows.map fi).length:=by simp
    obtain⟨vs5,air,RU,ZF⟩:=gC.get (show (p.rows.map fi)[i]? = some (fi r) by rw[List.getElem?_map,hr];rfl);obtain⟨A5,c5,L5,f5,B1,k1,e1,B2,k2,e2,rfl,rfl⟩:=eV.cells RU;have RV:cH H3 (.agg #[.bool f5,.slice B1 k1 e1,.slice B2 k2 e2]) (fi r).2.2 (N+2):=eV.bound RU;have ai6:aR (ck (N+2)) 3 H3 (.slice A5 (fi r).1.length c5) (fi r).1:=eV.KR RU;obtain⟨A5',c5',x5,e5,mK,ai7,ql⟩:=id ai6
    cases e5
    rw[ai2]at ZF;have DE:=bg.row i r hr;have jW:=bg.valid i aQ;have HQ:p.aF i=1∨p.aF i = -1:=rB _ _;have cN:=Zz hr;rw[ai1 hr]at RV;have ho:=QW jW HQ;obtain⟨dW,dO⟩:=ZA jW HQ;have nr:=(rC p.lp.rel p.c1 i);have hu9:=(s4 p.lp.rel p.aF p.u i);have AG:bm p.lp.rel p.c1 (i+1)=bm p.lp.rel p.c1 i+(if p.lp.rel i=2 then 0 else 1):=rfl;have ZG:aV p.lp.rel p.aF p.u (i+1)=aV p.lp.rel p.aF p.u i+(if eP (p.lp.rel i) (p.aF i)then 0 else 1):=rfl;refine au ?_;refine ag [1,2,4,5,8,13,14,15,16,84,85,86] rfl ?_;refine al ?_;refine aC ?_;refine ab ?_;refine bR (vs:=[.slice A5 r.1.length c5,.int .i64 (fi r).2.1,.bool f5,.slice B1 k1 e1,.slice B2 k2 e2]) ae rfl rfl rfl rfl (vQ.le hU.hle) rfl (by decide) ZF (by omega) (by omega) fun _=> ?_;refine bt kR rfl ?_;obtain⟨ti,aj,ak⟩:=mq;refine aJ (.inl ⟨rfl,rfl⟩) rfl rfl rfl aj ak rfl rfl rfl ?_;refine aa [1,2,4,5,8,13,14,15,16,18,84,85,86] ?_;refine ab ?_;refine vr 2 ?_;refine aD rfl rfl ⟨by omega,by omega⟩ ?_;refine aD rfl rfl ⟨by omega,by omega⟩ ?_;refine ig Tryz.underlying26 cR rfl rfl rfl (by omega) (by omega) (by omega) (by omega) ?_;intro z hz;rw[show ((p.u:Int)+(p.af p.rows.length:Int)+1).toNat=W by omega];have BL:=hU.start (C:=lj W (fun _=>0) 0) (xs:=du [.bool false,.slice none 0 0,.slice none 0 0] (W*3)) hz LK
    refine vr 1 ?_;refine aa [1,2,4,5,8,13,14,15,16,18,19,84,85,86] ?_;refine al ?_;refine ab ?_;refine vr 3 ?_;refine aa [1,2,4,5,8,13,14,15,16,18,19,84,85,86,96,97] ?_;refine aC ?_;refine fZ (fun(k:Nat)=>W-k) (fun(k:Nat)=>put (put (put (put (put (put (put (put (put (put (put (put (put (put (put (put (emp) 1 (.box [.slice Af p.free.length cf,.slice Ar p.rows.length cr])) 2 (.box [.slice none 0 0,.slice none 0 0])) 4 (.box [.bool t4.f,.slice t4.A1 t4.m1 t4.c1,.slice t4.A2 t4.m2 t4.c2])) 5 (.box [.bool t5.f,.slice t5.A1 t5.m1 t5.c1,.slice t5.A2 t5.m2 t5.c2])) 8 (.val (.int .i64 (p.af p.rows.length:Int)))) 13 (.val (.int .i64 (p.u:Int)))) 14 (.box [.slice G.Ar i G.cr,u])) 15 (.val (.int .i64 (bm p.lp.rel p.c1 i:Int)))) 16 (.val (.int .i64 (aV p.lp.rel p.aF p.u i:Int)))) 18 (.box [.slice A5 r.1.length c5,.int .i64 (fi r).2.1,.bool f5,.slice B1 k1 e1,.slice B2 k2 e2])) 19 (.val (.slice (some ⟨z,0,none⟩) W W))) 84 (.val (.slice A3 p.rows.length c3))) 85 (.val (.int .i64 (p.rows.length:Int)))) 86 (.val (.int .i64 (i:Int)))) 96 (.val (.int .i64 (W:Int)))) 97 (.val (.int .i64 (k:Int)))) (fun(k:Nat) H'=>SZ (lj W (fun _=>0) k) H3 H' G i W 0 (dG p) p.unit u ((List.range i).map p.unit) z∧k≤W) 0 (⟨BL,Nat.zero_le _⟩) an ?_;rintro k H5 ⟨hS,hk⟩;obtain⟨xs,hx,hC⟩:=hS.row;have cB:=HP hC hk;refine ab ?_;refine vr 1 ?_
    refine aa [1,2,4,5,8,13,14,15,16,18,19,84,85,86,96,97,98] ?_;refine al ?_;refine aB rfl (fun hb=> ?_) (fun hb=> ?_)
    ·
     have eX:k<W:=by simpa using hb
     refine au ?_;refine ag [1,2,4,5,8,13,14,15,16,18,19,84,85,86,96,97] rfl ?_;refine al ?_;refine aC ?_;refine ab ?_;refine vr 2 ?_;refine aa [1,2,4,5,8,13,14,15,16,18,19,20,84,85,86,96,97] ?_;refine av rfl ?_;refine vr 3 ?_;obtain⟨ti,aj,ak⟩:=a8;refine cM (.inl rfl) ae rfl rfl rfl (by omega) (by omega) (hx) rfl (by show 0+W*3≤xs.length;omega) aj ak (fun _=>rfl) rfl rfl rfl fun _=> ?_;refine aq ?_;rw[oP,Int.toNat_natCast];have jY:=hS.set (.refl _ _) (LI hC eX (show bT _ [_,_,_] _ from ct.le hS.le));refine ag [1,2,4,5,8,13,14,15,16,18,19,84,85,86,96,97] rfl ?_;refine av rfl ?_;refine aD rfl rfl ⟨by omega,by omega⟩ ?_;refine vr 1 ?_;refine aq ?_;exact⟨k+1,by omega,an,jY,by omega⟩
    ·
     have eX:W≤k:=by simpa using hb
     obtain rfl:k=W:=by omega
     have BM:=hS.to (C':=kP k (eQ p (p.lp.a i) (p.aF i:Rat) 0)) fun _ h=>LJ h;refine aU ?_;refine ag [1,2,4,5,8,13,14,15,16,18,19,84,85,86] rfl ?_;refine ab ?_;refine vr 4 ?_;refine aa [1,2,4,5,8,13,14,15,16,18,19,21,84,85,86] ?_;refine al ?_;refine ab ?_;refine vr 4 ?_;refine aa [1,2,4,5,8,13,14,15,16,18,19,21,84,85,86,110,111] ?_;refine aC ?_;refine fZ (fun(j:Nat)=>p.free.length-j) (fun(j:Nat)=>put (put (put (put (put (put (put (put (put (put (put (put (put (put (put (put (put (emp) 1 (.box [.slice Af p.free.length cf,.slice Ar p.rows.length cr])) 2 (.box [.slice none 0 0,.slice none 0 0])) 4 (.box [.bool t4.f,.slice t4.A1 t4.m1 t4.c1,.slice t4.A2 t4.m2 t4.c2])) 5 (.box [.bool t5.f,.slice t5.A1 t5.m1 t5.c1,.slice t5.A2 t5.m2 t5.c2])) 8 (.val (.int .i64 (p.af p.rows.length:Int)))) 13 (.val (.int .i64 (p.u:Int)))) 14 (.box [.slice G.Ar i G.cr,u])) 15 (.val (.int .i64 (bm p.lp.rel p.c1 i:Int)))) 16 (.val (.int .i64 (aV p.lp.rel p.aF p.u i:Int)))) 18 (.box [.slice A5 r.1.length c5,.int .i64 (fi r).2.1,.bool f5,.slice B1 k1 e1,.slice B2 k2 e2])) 19 (.val (.slice (some ⟨z,0,none⟩) k k))) 84 (.val (.slice A3 p.rows.length c3))) 85 (.val (.int .i64 (p.rows.length:Int)))) 86 (.val (.int .i64 (i:Int)))) 21 (.val (.int .i64 (p.mi j:Int)))) 110 (.val (.int .i64 (p.free.length:Int)))) 111 (.val (.int .i64 (j:Int)))) (fun(j:Nat) H'=>SZ (kP k (eQ p (p.lp.a i) (p.aF i:Rat) j)) H3 H' G i k 0 (dG p) p.unit u ((List.range i).map p.unit) z∧j≤p.free.length) 0 (⟨BM,Nat.zero_le _⟩) (by repeat (first | exact iy _ | refine dh rfl ?_ | refine dh (iO (by first | omega | (simp;done) | rfl)) ?_)) ?_
     rintro j H7 ⟨hS,hj⟩;obtain⟨xs,hx,hC⟩:=hS.row;have cB:=wL hC;refine ab ?_;refine vr 1 ?_;refine aa [1,2,4,5,8,13,14,15,16,18,19,21,84,85,86,110,111,112] ?_;refine al ?_;refine aB rfl (fun hb=> ?_) (fun hb=> ?_)
     ·
      have fP:j<p.free.length:=by simpa using hb
      obtain⟨uf,lG,kg⟩:=hO j _ (List.getElem?_eq_getElem fP);have kg: [uf] = [Value.bool p.free[j]]:=kg
      cases kg
      have mS:p.lp.free j=p.free[j]:=Prg.ue (List.getElem?_eq_getElem fP);obtain⟨g6,G1,n1,o1,G2,n2,o2,Rj,uY,RW⟩:=aR.Dp ql (ai3 hr (List.getElem?_eq_getElem (show j<r.1.length by rw[DE.1];exact fP)));have YL:=Lj (p:=p) (j:=j);have LM:=uY.size;refine au ?_;refine ag [1,2,4,5,8,13,14,15,16,18,19,21,84,85,86,110,111] rfl ?_;refine al ?_;refine aC ?_;refine ab ?_;refine vr 2 ?_;refine aa [1,2,4,5,8,13,14,15,16,18,19,21,22,84,85,86,110,111] ?_;refine ab ?_;refine vr 5 ?_;refine bR (vs:=[.bool g6,.slice G1 n1 o1,.slice G2 n2 o2]) ae rfl rfl rfl rfl (ai7.le hS.hle) rfl (by decide) RW (by have:=DE.1;omega) (by have:=DE.1;omega) fun _=> ?_;refine aw rfl rfl (Fn.kq hS.q.ne (sX (uY.le hS.le) (by omega))) ?_;rintro v8 H8 fU;obtain⟨t8,rfl,eL⟩:=fU.val;have oO:=(fU.kept.same z SZ.mc).trans hx;obtain⟨ti,aj,ak⟩:=a8;refine cM (.inl rfl) ae rfl rfl rfl (by omega) (by omega) (oO) rfl (by show 0+k*3≤xs.length;omega) aj ak (fun _=>rfl) rfl rfl rfl fun _=> ?_;refine aa [1,2,4,5,8,13,14,15,16,18,19,21,22,84,85,86,110,111] ?_;rw[oP,Int.toNat_natCast];have jY:=hS.u6 fU.kept hC (show j<k by omega) (show bT _ [_,_,_] _ from eL);refine ab ?_;refine vr 3 ?_;refine aM ae rfl rfl rfl rfl rfl (gZ.le (ZD.trans jY.hle)) (by rw[Int.toNat_natCast];exact lG) (by omega) (by omega) fun _=> ?_
      refine aa [1,2,4,5,8,13,14,15,16,18,19,21,22,84,85,86,110,111,127] ?_;refine aB rfl (fun hb=> ?_) (fun hb=> ?_)
      ·
       have fw:p.lp.free j=true:=by rw[mS];simpa using hb
       have wB:p.mi j<k:=by have:=uV (p:=p) (j:=j) fP fw;omega
       obtain⟨ys,hy,hD⟩:=jY.row;have jb:=wL hD;obtain⟨t9,wI,Aj⟩:=lL hD (show j<k by omega);rw[jt]at wI;have Dz:aG (p.lp.a i j*(p.aF i:Rat))≤N+4:=LM;refine ab ?_;refine vr 4 ?_;refine bR (vs:=[.bool t9.f,.slice t9.A1 t9.m1 t9.c1,.slice t9.A2 t9.m2 t9.c2]) ae rfl rfl rfl rfl (dF hy) rfl (by decide) (by rw[Int.toNat_natCast];exact Aj) (by omega) (by omega) fun _=> ?_;refine aw rfl rfl (Fn.kq jY.q.ne (C0 ((bK.raw wI).mono Dz) (by omega))) ?_;rintro v10 pj rV;obtain⟨t10,rfl,nE⟩:=rV.val;have yU:=(rV.kept.same z SZ.mc).trans hy;obtain⟨ti,aj,ak⟩:=a8;refine cM (.inl rfl) ae rfl rfl rfl (by omega) (by omega) (yU) rfl (by show 0+k*3≤ys.length;omega) aj ak (fun _=>rfl) rfl rfl rfl fun _=> ?_;refine aa [1,2,4,5,8,13,14,15,16,18,19,21,84,85,86,110,111] ?_;rw[oP,Int.toNat_natCast];have yY:=jY.u6 rV.kept hD wB (show bT _ [_,_,_] _ from nE);refine av rfl ?_;refine vr 1 ?_;refine aD rfl rfl ⟨by omega,by omega⟩ ?_;refine vr 1 ?_;refine aq ?_;refine ag [1,2,4,5,8,13,14,15,16,18,19,21,84,85,86,110,111] rfl ?_;refine av rfl ?_;refine aD rfl rfl ⟨by omega,by omega⟩ ?_;refine vr 1 ?_;refine aq ?_
       have e8:p.mi (j+1)=p.mi j+1:=by rw[uW,if_pos fw]
       exact⟨j+1,by omega,an,by unfold eQ;rw[if_pos fw];exact yY,by omega⟩
      ·
       have fw:¬p.lp.free j=true:=by rw[mS];simpa using hb
       refine au ?_;refine ag [1,2,4,5,8,13,14,15,16,18,19,21,84,85,86,110,111] rfl ?_;refine av rfl ?_;refine aD rfl rfl ⟨by omega,by omega⟩ ?_;refine vr 1 ?_;refine aq ?_
       have e8:p.mi (j+1)=p.mi j:=by rw[uW,if_neg fw,Nat.add_zero]
       exact⟨j+1,by omega,an,by unfold eQ;rw[if_neg fw];exact jY,by omega⟩
     ·
      have fP:p.free.length≤j:=by simpa using hb
      obtain rfl:j=p.free.length:=by omega
      have Vy:=RV.size;refine aU ?_;refine ag [1,2,4,5,8,13,14,15,16,18,19,84,85,86] rfl ?_;refine ab ?_;refine vr 3 ?_;refine cP rfl rfl ⟨by omega,by omega⟩ ?_;refine vr 2 ?_;refine aw rfl rfl (Fn.kq hS.q.ne (sX (RV.le hS.le) (by omega))) ?_;rintro v8 H8 fU;obtain⟨t8,rfl,eL⟩:=fU.val;have oO:=(fU.kept.same z SZ.mc).trans hx;obtain⟨ti,aj,ak⟩:=a8;refine cM (.inl rfl) ae rfl rfl rfl (by omega) (by omega) (oO) rfl (by show 0+k*3≤xs.length;omega) aj ak (fun _=>rfl) rfl rfl rfl fun _=> ?_;refine aa [1,2,4,5,8,13,14,15,16,18,19,84,85,86] ?_;rw[oP,show ((k:Int)-1).toNat=p.w by omega];have jY:SZ (kP k (RS p i)) _ _ _ _ _ _ _ _ _ _ _:=hS.u6 fU.kept hC (show p.w<k by omega) (show bT _ [_,_,_] _ from eL);obtain⟨ys,hy,hD⟩:=jY.row;have jb:=wL hD;refine ab ?_;refine vr 2 ?_;refine aa [1,2,4,5,8,13,14,15,16,18,19,23,84,85,86] ?_;refine kC (fun(b9:Bool)=>put (put (put (put (put (put (put (put (put (put (put (put (put (put (put (emp) 1 (.box [.slice Af p.free.length cf,.slice Ar p.rows.length cr])) 2 (.box [.slice none 0 0,.slice none 0 0])) 4 (.box [.bool t4.f,.slice t4.A1 t4.m1 t4.c1,.slice t4.A2 t4.m2 t4.c2])) 5 (.box [.bool t5.f,.slice t5.A1 t5.m1 t5.c1,.slice t5.A2 t5.m2 t5.c2])) 8 (.val (.int .i64 (p.af p.rows.length:Int)))) 13 (.val (.int .i64 (p.u:Int)))) 14 (.box [.slice G.Ar i G.cr,u])) 15 (.val (.int .i64 (bm p.lp.rel p.c1 (i+1):Int)))) 16 (.val (.int .i64 (aV p.lp.rel p.aF p.u i:Int)))) 18 (.box [.slice A5 r.1.length c5,.int .i64 (fi r).2.1,.bool f5,.slice B1 k1 e1,.slice B2 k2 e2])) 19 (.val (.slice (some ⟨z,0,none⟩) k k))) 84 (.val (.slice A3 p.rows.length c3))) 85 (.val (.int .i64 (p.rows.length:Int)))) 86 (.val (.int .i64 (i:Int)))) 23 (.val (.int .i64 (bm p.lp.rel p.c1 i:Int)))) (fun(b9:Bool) H'=>SZ (kP k (DD p i)) H3 H' G i k 0 (dG p) p.unit u ((List.range i).map p.unit) z) ?_ ?_
      ·
       refine ab ?_;refine vr 3 ?_;refine aa [1,2,4,5,8,13,14,15,16,18,19,23,84,85,86,150] ?_;refine aB rfl (fun hb=> ?_) (fun hb=> ?_)
       ·
        have h2:¬p.lp.rel i=2:=fun h=>by have:=dO.2 h;simp at hb;omega
        have alj:=AR (p:=p) aQ h2;refine ab ?_;refine vr 3 ?_;obtain⟨ti,aj,ak⟩:=a8;refine cM (.inl rfl) ae rfl rfl rfl (by omega) (by omega) (hy) rfl (by show 0+k*3≤ys.length;omega) aj ak (fun _=>rfl) rfl rfl rfl fun _=> ?_;refine aa [1,2,4,5,8,13,14,15,16,18,19,23,84,85,86] ?_;rw[oP,Int.toNat_natCast];have yX:=jY.u6 (.refl _ _) hD (show bm p.lp.rel p.c1 i<k by omega) (show bT _ [_,_,_] _ from eU.le jY.le);obtain⟨zs,hzz,hE⟩:=yX.row;have Ec:=wL hE;refine al ?_;refine ab ?_;refine vr 3 ?_;refine aa [1,2,4,5,8,13,14,15,16,18,19,23,84,85,86,157] ?_;refine aB rfl (fun hb=> ?_) (fun hb=> ?_)
        ·
         have h3:(fi r).2.1=3:=by simpa using hb
         refine av rfl ?_;refine vr 3 ?_;refine aw rfl rfl (Fn.kq yX.q.ne (C0 ((bK.raw (eU.le yX.le)).mono jz) (by decide))) ?_;rintro v10 pj rV;obtain⟨t10,rfl,nE⟩:=rV.val;have yU:=(rV.kept.same z SZ.mc).trans hzz;obtain⟨ti,aj,ak⟩:=a8;refine cM (.inl rfl) ae rfl rfl rfl (by omega) (by omega) (yU) rfl (by show 0+k*3≤zs.length;omega) aj ak (fun _=>rfl) rfl rfl rfl fun _=> ?_;refine aq ?_;rw[oP,Int.toNat_natCast];have yY:=yX.u6 rV.kept hE (show bm p.lp.rel p.c1 i<k by omega) (show bT _ [_,_,_] _ from nE);refine ag [1,2,4,5,8,13,14,15,16,18,19,23,84,85,86] rfl ?_;refine av rfl ?_;refine vr 1 ?_;refine aD rfl rfl ⟨by omega,by omega⟩ ?_;refine vr 1 ?_;refine aq ?_;rw[if_neg h2]at AG
         exact⟨true,an,by
          rw[ai4]at yY
          unfold DD
          rw[if_neg h2,if_neg (by omega)];exact yY⟩
        ·
         have h3:¬(fi r).2.1=3:=by simpa using hb
         have h22:¬kf (p.lp.rel i) (p.aF i)=2:=fun h=>h2 (dO.1 h);refine au ?_;refine ag [1,2,4,5,8,13,14,15,16,18,19,23,84,85,86] rfl ?_;refine av rfl ?_;refine vr 1 ?_;refine aD rfl rfl ⟨by omega,by omega⟩ ?_;refine vr 1 ?_;refine aq ?_;rw[if_neg h2]at AG;exact⟨true,an,by unfold DD;rw[if_neg h2,if_pos (by omega)];exact yX⟩
       ·
        have h2:p.lp.rel i=2:=dO.1 (by rw[←cN];simpa using hb);refine au ?_;rw[if_pos h2]at AG;exact⟨true,an,by unfold DD;rw[if_pos h2];exact jY⟩
      ·
       rintro _ pH LN;obtain⟨ai8,ai9,ZH⟩:=LN.row;have alk:=wL ZH;refine kC (fun(b9:Bool)=>put (put (put (put (put (put (put (put (put (put (put (put (put (put (emp) 1 (.box [.slice Af p.free.length cf,.slice Ar p.rows.length cr])) 2 (.box [.slice none 0 0,.slice none 0 0])) 4 (.box [.bool t4.f,.slice t4.A1 t4.m1 t4.c1,.slice t4.A2 t4.m2 t4.c2])) 5 (.box [.bool t5.f,.slice t5.A1 t5.m1 t5.c1,.slice t5.A2 t5.m2 t5.c2])) 8 (.val (.int .i64 (p.af p.rows.length:Int)))) 13 (.val (.int .i64 (p.u:Int)))) 14 (.box [.slice G.Ar i G.cr,u])) 15 (.val (.int .i64 (bm p.lp.rel p.c1 (i+1):Int)))) 16 (.val (.int .i64 (aV p.lp.rel p.aF p.u (i+1):Int)))) 19 (.val (.slice (some ⟨z,0,none⟩) k k))) 84 (.val (.slice A3 p.rows.length c3))) 85 (.val (.int .i64 (p.rows.length:Int)))) 86 (.val (.int .i64 (i:Int)))) 23 (.val (.int .i64 (p.unit i:Int)))) (fun(b9:Bool) H'=>SZ (kP k (dG p i)) H3 H' G i k 0 (dG p) p.unit u ((List.range i).map p.unit) z) ?_ ?_
       ·
        refine ab ?_;refine vr 3 ?_;refine aa [1,2,4,5,8,13,14,15,16,19,23,84,85,86,167] ?_;refine aB rfl (fun hb=> ?_) (fun hb=> ?_)
        ·
         have h4:¬(fi r).2.1=1:=by simpa using hb
         have h5:¬eP (p.lp.rel i) (p.aF i)=true:=fun h=>h4 (by have:=ho.1 h;omega);rw[if_neg h5]at ZG;have o0:=uK h5;have hul:=nx p aQ;refine ab ?_;refine vr 4 ?_;obtain⟨ti,aj,ak⟩:=a8;refine cM (.inl rfl) ae rfl rfl rfl (by omega) (by omega) (ai9) rfl (by show 0+k*3≤ai8.length;omega) aj ak (fun _=>rfl) rfl rfl rfl fun _=> ?_;refine vr 1 ?_;refine aa [1,2,4,5,8,13,14,15,16,19,23,84,85,86] ?_;rw[oP,Int.toNat_natCast];have LO:=LN.u6 (.refl _ _) ZH (show aV p.lp.rel p.aF p.u i<k by omega) (show bT _ [_,_,_] _ from eU.le LN.le);refine av rfl ?_;refine vr 1 ?_;refine aD rfl rfl ⟨by omega,by omega⟩ ?_;refine vr 1 ?_;refine aq ?_;exact⟨true,an,by rw[ZB,if_neg (by omega)];exact LO⟩
        ·
         have h4:(fi r).2.1=1:=by simpa using hb
         have h5:=ho.2 (by omega);rw[if_pos h5]at ZG;have o0:=yp h5;refine au ?_;exact⟨true,an,by rw[ZB,if_pos (by omega)];exact LN⟩
       ·
        rintro _ BI ZI;obtain⟨alm,aln,alo⟩:=ZI.row;refine dZ .bF [0,1,2,5,6,7,3,4,10,8,9,11,12,13] follows (by kernel_rfl) ?_;refine vr 6 ?_;refine dI Tryz.underlying40 xa rfl rfl rfl rfl rfl rfl rfl ?_;intro gb bD;have ZJ:=ZI.fresh yW (e:=whole [.slice (some ⟨z,0,none⟩) k k] 26) bD;refine eN Tryz.underlying40 xa rfl rfl ZJ.q.rows (eZ _ _ _ _ _ _) rfl (AQ _ _ _) (by omega) (by omega) ?_;intro v8 RJ ny;obtain⟨A9,c9,rfl⟩:=ny.own.form;have RX:=ZJ.more (LA ny)
        replace RX:=RX.BE fun i' fH j' hj'=>show dG p i' j'=(if i'=i then dG p i else dG p i') j' by
         by_cases e9:i'=i
         ·rw[if_pos e9,e9]
         ·rw[if_neg e9]
        refine vr 1 ?_;refine dI Tryz.underlying94 iP rfl rfl rfl rfl rfl rfl rfl ?_;intro gc lC;have ZK:=RX.fresh (e:=whole [.int .i64 (p.unit i:Int)] 3) lC;refine eN Tryz.underlying94 iP rfl rfl ZK.own (eZ _ _ _ _ _ _) rfl (rE _) (by omega) (by omega) ?_;intro u9 KE s8;obtain⟨Au9,cu9,rfl⟩:=s8.own.form;have qz:=ZK.app rfl s8;rw[←ahi (f:=p.unit)]at qz;obtain⟨ti,aj,ak⟩:=IH;refine aJ (.inr rfl) rfl rfl rfl aj ak rfl rfl rfl ?_;refine vr 1 ?_;obtain⟨ti,aj,ak⟩:=tL;refine aJ (.inr rfl) rfl rfl rfl aj ak rfl rfl rfl ?_;refine aq ?_;refine ag [1,2,4,5,8,13,14,15,16,84,85,86] rfl ?_;refine av rfl ?_;refine aD rfl rfl ⟨by omega,by omega⟩ ?_;refine vr 1 ?_;refine aq ?_;exact⟨i+1,G.more G.top z _ A9 c9 i,_,by omega,an,qz,RT,ZE,by omega⟩
   ·
    have aQ:p.rows.length≤i:=by simpa using hb
    obtain rfl:i=p.rows.length:=by omega
    obtain⟨Au,cu,rfl⟩:=hU.own.form;have ZL:=hU.fin ZE;refine aU ?_;refine ag [2,13,14] rfl ?_;refine ab ?_;refine vr 2 ?_;obtain⟨ti,aj,ak⟩:=MN;refine aJ (.inl ⟨rfl,rfl⟩) rfl rfl rfl aj ak rfl rfl rfl ?_;refine vr 1 ?_;refine aa [2,3] ?_;obtain⟨bX,aK,aL⟩:=MN;refine az ⟨.inr rfl,_,.agg rfl Tryz.underlying103 aK aL (.tmp rfl (.nil)),?_⟩;exact⟨G.fin _,rfl,RT,ZL.1,ZD.trans ZL.2⟩
end Go.ar
namespace Go.ar
open Go.Proofs Num Lp
theorem ZM{M:Nat→Nat→Rat}{B:Nat→Nat}{n m N:Nat}(hN:1≤N)(hz:∀i,i<m→aG (M i n)≤N)(j:Nat):∀i,i≤m→aG (iu M B n i j)≤N:=by
 intro i
 induction i with
 | zero=>intro _;exact Nat.le_trans Lv hN
 | succ i ih=>
  intro hi
  unfold iu
  by_cases e:j=B i
  ·rw[e,jt];exact hz i (by omega)
  ·rw[dY e];exact ih (by omega)
theorem aja{p:Prg}{a:Nat→Rat}{N:Nat}(h:∀j,aG (a j)≤N)(j:Nat):aG (jH p a j)≤2*N+1:=by
 unfold jH
 have h1:=h j
 have h2:=h (p.mi j)
 have h3:=om (a j) (a (p.mi j))
 split <;> omega
theorem HR{H H':Heap}{z:Nat}{e:Ent}(hz:H z=none)(hl:Heap.le H H'):Heap.le H (ins H' z e):=fun q en hq=>by
 obtain⟨Kg,h1,h2⟩:=hl q en hq
 exact⟨Kg,by rw[a7 _ _ (fun(e':q=z)=>by rw[e',hz]at hq;cases hq)];exact h1,h2⟩
theorem ajb{H:Heap}{G:GG}{R W m N N1:Nat}{M:Nat→Nat→Rat}{B:Nat→Nat}{p:Prg}{pv cv:Value}{c:List Rat}(h:bZ iq H G R W m M B)(QP:m≤R)(hp:eJ N (rem H G.gs) pv p)(hc:aR (ck N) 3 (rem H G.gs) cv c)(dA:c.length=p.free.length)(rP:p.c1≤W)(hB:∀i,i<m→B i<W)(hR:(R:Int)≤900000)(hW:(W:Int)≤1000000)(hN:(N:Int)≤400000000)(hN1:(N1:Int)≤300000000000)(hz:∀i,i≤m→∀k,k<W→aG (lh M B (eQ p (fn c) 1 p.lp.n) i k)≤N1)(wF:∀i,i<m→∀k,k<W→aG (M i k)≤N1):
 Fn Tryz.prog 69 #[pv,cv,.agg #[.slice G.Ar R G.cr,G.bv],.int .i64 (W:Int)] H (fun v H'=>∃z,v = .slice (some ⟨z,0,none⟩) W W∧SZ (kP W (lh M B (eQ p (fn c) 1 p.lp.n) m)) (rem H G.gs) H' G R W m M B (.slice none 0 0) [] z∧Heap.le H H'):=by
 obtain⟨fv,fN,rfl,eo,ep⟩:=id hp
 obtain⟨Af,cf,xf,rfl,gZ,hO⟩:=eo.one
 obtain⟨Ar,cr,xr,rfl,mW,eK,fO⟩:=id ep
 obtain⟨Ab,cb,cY,ga⟩:=h.rT
 rw[cY]
 have cK:=wA (p:=p)
 have ZC:p.lp.n=p.free.length:=rfl
 have Q4:p.free.length≤W:=Nat.le_trans cK rP
 obtain⟨Ac,cc,xc,rfl,De,l0,sU⟩:=id hc;refine aZ (args:=[_,_,_,_]) Tryz.func69 rfl rfl Tryz.ntmps69 rfl rfl fun w0=> ?_;refine ag [0,1,2,3] rfl ?_;refine ab ?_;refine bS rfl rfl ?_;refine bS rfl rfl ?_;refine vr 1 ?_;refine aa [1,3,4,6] ?_;refine ab ?_;refine vr 1 ?_;refine ig Tryz.underlying26 cR rfl rfl rfl (by omega) (by omega) (by omega) (by omega) ?_;intro z iV;rw[Int.toNat_natCast];have BL:=h.gu.start (C:=lj W (fun _=>0) 0) (xs:=du [.bool false,.slice none 0 0,.slice none 0 0] (W*3)) iV LK;refine vr 1 ?_;refine aa [1,4,6,9] ?_;refine al ?_;refine ab ?_;refine vr 3 ?_;refine aa [1,4,6,9,19,20] ?_;refine aC ?_;refine fZ (fun(k:Nat)=>W-k) (fun(k:Nat)=>put (put (put (put (put (put (emp) 1 (.val (.slice Ac c.length cc))) 4 (.box [.slice Af p.free.length cf,.slice Ar p.rows.length cr])) 6 (.box [.slice G.Ar R G.cr,.slice Ab m cb])) 9 (.val (.slice (some ⟨z,0,none⟩) W W))) 19 (.val (.int .i64 (W:Int)))) 20 (.val (.int .i64 (k:Int)))) (fun(k:Nat) H'=>SZ (lj W (fun _=>0) k) (rem H G.gs) H' G R W m M B (.slice none 0 0) [] z∧k≤W∧Heap.le H H') 0 (⟨BL,Nat.zero_le _,Heap.bI _ iV⟩) an ?_;rintro k H2 ⟨hS,hk,dU⟩;obtain⟨xs,hx,hC⟩:=hS.row;have cB:=HP hC hk;refine ab ?_;refine vr 1 ?_;refine aa [1,4,6,9,19,20,21] ?_
 refine al ?_;refine aB rfl (fun hb=> ?_) (fun hb=> ?_)
 ·
  have eX:k<W:=by simpa using hb
  refine au ?_;refine ag [1,4,6,9,19,20] rfl ?_;refine al ?_;refine aC ?_;refine ab ?_;refine vr 2 ?_;refine aa [1,4,6,9,10,19,20] ?_;refine av rfl ?_;refine vr 2 ?_;refine aw rfl rfl (Fn.kq hS.q.ne (ry (n:=0) (by decide) (by decide))) ?_;rintro v8 H8 fU;obtain⟨t8,rfl,eL⟩:=fU.val;rw[show ((0:Int):Rat)=0 from rfl]at eL;have oO:=(fU.kept.same z SZ.mc).trans hx;obtain⟨ti,aj,ak⟩:=a8;refine cM (.inl rfl) ae rfl rfl rfl (by omega) (by omega) (oO) rfl (by show 0+W*3≤xs.length;omega) aj ak (fun _=>rfl) rfl rfl rfl fun _=> ?_;refine aq ?_;rw[oP,Int.toNat_natCast];have jY:=hS.set fU.kept (LI (RR _ _ _ fU.kept.le hC) eX (show bT _ [_,_,_] _ from eL));refine ag [1,4,6,9,19,20] rfl ?_;refine av rfl ?_;refine aD rfl rfl ⟨by omega,by omega⟩ ?_;refine vr 1 ?_;refine aq ?_;exact⟨k+1,by omega,an,jY,by omega,HR iV (dU.trans fU.le)⟩
 ·
  have eX:W≤k:=by simpa using hb
  obtain ek:k=W:=by omega
  rw[ek]at hS;have BM:=hS.to (C':=kP W (eQ p (fn c) 1 0)) fun _ h=>LJ h;refine aU ?_;refine ag [1,4,6,9] rfl ?_;refine ab ?_;refine vr 4 ?_;refine aa [1,4,6,9,11] ?_;refine al ?_;refine ab ?_;refine vr 4 ?_;refine aa [1,4,6,9,11,33,34] ?_;refine aC ?_;refine fZ (fun(j:Nat)=>p.free.length-j) (fun(j:Nat)=>put (put (put (put (put (put (put (emp) 1 (.val (.slice Ac c.length cc))) 4 (.box [.slice Af p.free.length cf,.slice Ar p.rows.length cr])) 6 (.box [.slice G.Ar R G.cr,.slice Ab m cb])) 9 (.val (.slice (some ⟨z,0,none⟩) W W))) 11 (.val (.int .i64 (p.mi j:Int)))) 33 (.val (.int .i64 (p.free.length:Int)))) 34 (.val (.int .i64 (j:Int)))) (fun(j:Nat) H'=>SZ (kP W (eQ p (fn c) 1 j)) (rem H G.gs) H' G R W m M B (.slice none 0 0) [] z∧j≤p.free.length∧Heap.le H H') 0 (⟨BM,Nat.zero_le _,dU⟩) (by repeat (first | exact iy _ | refine dh rfl ?_ | refine dh (iO (by first | omega | (simp;done) | rfl)) ?_)) ?_;rintro j H3 ⟨hS,hj,dU⟩;obtain⟨xs,hx,hC⟩:=hS.row;have cB:=wL hC;refine ab ?_;refine vr 1 ?_;refine aa [1,4,6,9,11,33,34,35] ?_;refine al ?_;refine aB rfl (fun hb=> ?_) (fun hb=> ?_)
  ·
   have fP:j<p.free.length:=by simpa using hb
   obtain⟨uf,lG,kg⟩:=hO j _ (List.getElem?_eq_getElem fP);have kg: [uf] = [Value.bool p.free[j]]:=kg
   cases kg
   have mS:p.lp.free j=p.free[j]:=Prg.ue (List.getElem?_eq_getElem fP);obtain⟨g6,G1,n1,o1,G2,n2,o2,Rj,uY,RW⟩:=aR.Dp sU (show c[j]? = some (fn c j*1) by rw[Rat.mul_one,List.getElem?_eq_getElem (by omega),jC (List.getElem?_eq_getElem (by omega))]);have LM:=uY.size;have YL:=Lj (p:=p) (j:=j);refine au ?_;refine ag [1,4,6,9,11,33,34] rfl ?_;refine al ?_;refine aC ?_;refine ab ?_;refine vr 2 ?_;refine aa [1,4,6,9,11,12,33,34] ?_;refine ab ?_;refine vr 4 ?_;refine bR (vs:=[.bool g6,.slice G1 n1 o1,.slice G2 n2 o2]) ae rfl rfl rfl rfl (l0.le (hS.le.trans (bG _ _))) rfl (by decide) RW (by omega) (by omega) fun _=> ?_;refine aw rfl rfl (Fn.kq hS.q.ne (sX (uY.le hS.le) (by omega))) ?_;rintro v8 H8 fU;obtain⟨t8,rfl,eL⟩:=fU.val;have oO:=(fU.kept.same z SZ.mc).trans hx;obtain⟨ti,aj,ak⟩:=a8;refine cM (.inl rfl) ae rfl rfl rfl (by omega) (by omega) (oO) rfl (by show 0+W*3≤xs.length;omega) aj ak (fun _=>rfl) rfl rfl rfl fun _=> ?_;refine aa [1,4,6,9,11,12,33,34] ?_;rw[oP,Int.toNat_natCast];have jY:=hS.u6 fU.kept hC (show j<W by omega) (show bT _ [_,_,_] _ from eL);refine ab ?_;refine vr 3 ?_;refine aM ae rfl rfl rfl rfl rfl (gZ.le (jY.le.trans (bG _ _))) (by rw[Int.toNat_natCast];exact lG) (by omega) (by omega) fun _=> ?_
   refine aa [1,4,6,9,11,12,33,34,49] ?_;refine aB rfl (fun hb=> ?_) (fun hb=> ?_)
   ·
    have fw:p.lp.free j=true:=by rw[mS];simpa using hb
    have wB:p.mi j<W:=Nat.lt_of_lt_of_le (uV (p:=p) (j:=j) fP fw) rP;obtain⟨ys,hy,hD⟩:=jY.row;have jb:=wL hD;obtain⟨t9,wI,Aj⟩:=lL hD (show j<W by omega);rw[jt]at wI;have Dz:aG (fn c j*1)≤N+2:=LM;refine ab ?_;refine vr 4 ?_;refine bR (vs:=[.bool t9.f,.slice t9.A1 t9.m1 t9.c1,.slice t9.A2 t9.m2 t9.c2]) ae rfl rfl rfl rfl (dF hy) rfl (by decide) (by rw[Int.toNat_natCast];exact Aj) (by omega) (by omega) fun _=> ?_;refine aw rfl rfl (Fn.kq jY.q.ne (C0 ((bK.raw wI).mono Dz) (by omega))) ?_;rintro v10 pj rV;obtain⟨t10,rfl,nE⟩:=rV.val;have yU:=(rV.kept.same z SZ.mc).trans hy;obtain⟨ti,aj,ak⟩:=a8;refine cM (.inl rfl) ae rfl rfl rfl (by omega) (by omega) (yU) rfl (by show 0+W*3≤ys.length;omega) aj ak (fun _=>rfl) rfl rfl rfl fun _=> ?_;refine aa [1,4,6,9,11,33,34] ?_;rw[oP,Int.toNat_natCast];have yY:=jY.u6 rV.kept hD wB (show bT _ [_,_,_] _ from nE);refine av rfl ?_;refine vr 1 ?_;refine aD rfl rfl ⟨by omega,by omega⟩ ?_;refine vr 1 ?_;refine aq ?_;refine ag [1,4,6,9,11,33,34] rfl ?_;refine av rfl ?_;refine aD rfl rfl ⟨by omega,by omega⟩ ?_;refine vr 1 ?_;refine aq ?_
    have e8:p.mi (j+1)=p.mi j+1:=by rw[uW,if_pos fw]
    exact⟨j+1,by omega,an,by unfold eQ;rw[if_pos fw];exact yY,by omega,HR iV ((HR iV (dU.trans fU.le)).trans rV.le)⟩
   ·
    have fw:¬p.lp.free j=true:=by rw[mS];simpa using hb
    refine au ?_;refine ag [1,4,6,9,11,33,34] rfl ?_;refine av rfl ?_;refine aD rfl rfl ⟨by omega,by omega⟩ ?_;refine vr 1 ?_;refine aq ?_
    have e8:p.mi (j+1)=p.mi j:=by rw[uW,if_neg fw,Nat.add_zero]
    exact⟨j+1,by omega,an,by unfold eQ;rw[if_neg fw];exact jY,by omega,HR iV (dU.trans fU.le)⟩
  ·
   have fP:p.free.length≤j:=by simpa using hb
   obtain rfl:j=p.free.length:=by omega
   refine aU ?_;refine ag [6,9] rfl ?_;refine al ?_;refine ab ?_;refine vr 4 ?_;refine aa [6,9,63,64] ?_;refine aC ?_;refine gy (fun(i:Nat)(f:Nat→Rat)=>m-i) (fun(i:Nat)(f:Nat→Rat)=>put (put (put (put (emp) 6 (.box [.slice G.Ar R G.cr,.slice Ab m cb])) 9 (.val (.slice (some ⟨z,0,none⟩) W W))) 63 (.val (.int .i64 (m:Int)))) 64 (.val (.int .i64 (i:Int)))) (fun(i:Nat)(f:Nat→Rat) H'=>SZ (kP W f) (rem H G.gs) H' G R W m M B (.slice none 0 0) [] z∧(∀q,q<W→f q=lh M B (eQ p (fn c) 1 p.lp.n) i q)∧i≤m∧Heap.le H H') 0 (eQ p (fn c) 1 p.lp.n) (⟨hS,fun _ _=>rfl,Nat.zero_le _,dU⟩) an ?_;rintro i f H4 ⟨hZ,hI,hi,dU⟩;obtain⟨zs,pV,rG⟩:=hZ.row;refine ab ?_;refine vr 1 ?_;refine aa [6,9,63,64,65] ?_;refine al ?_;refine aB rfl (fun hb=> ?_) (fun hb=> ?_)
   ·
    have aQ:i<m:=by simpa using hb
    have tw:=hB i aQ;obtain⟨t4,LQ,nV⟩:=lL rG tw;have Lw:=hz i hi (B i) tw;rw[←hI _ tw]at Lw;obtain⟨pi,cL⟩:=h.get (show i<R by omega);refine au ?_;refine ag [6,9,63,64] rfl ?_;refine al ?_;refine aC ?_;refine ab ?_;refine vr 2 ?_;refine aa [6,9,13,63,64] ?_;refine ab ?_;refine vr 4 ?_;refine aM ae rfl rfl rfl rfl rfl (ga hZ.q i aQ) (by rw[Int.toNat_natCast];exact gj aQ) (by omega) (by omega) fun _=> ?_;refine bR (vs:=[.bool t4.f,.slice t4.A1 t4.m1 t4.c1,.slice t4.A2 t4.m2 t4.c2]) ae rfl rfl rfl rfl (dF pV) rfl (by decide) (by rw[Int.toNat_natCast];exact nV) (by omega) (by omega) fun _=> ?_;refine bt cR rfl ?_;obtain⟨ti,aj,ak⟩:=a8;refine aJ (.inl ⟨rfl,rfl⟩) rfl rfl rfl aj ak rfl rfl rfl ?_;refine aa [6,9,13,14,63,64] ?_;refine al ?_;refine ab ?_;refine vr 1 ?_;refine aw rfl rfl (Fn.kX hZ.q.ne (vX (bK.raw LQ) (by omega))) ?_;rintro v5 H5 ⟨j7,dy,rfl⟩;have pK:=hZ.kept yW j7;have vP:=LQ.le j7.le;refine vr 1 ?_;refine aa [6,9,13,14,63,64,77] ?_;refine aB rfl (fun hb=> ?_) (fun hb=> ?_)
    ·
     skip
     refine aU ?_;refine ag [6,9,63,64] rfl ?_;refine av rfl ?_;refine aD rfl rfl ⟨by omega,by omega⟩ ?_;refine vr 1 ?_;refine aq ?_
     exact⟨i+1,f,by omega,an,pK,fun q hq=>by
      rw[YK (by rw[←hI _ tw];exact q6 (by simpa using hb))];exact hI q hq,by omega,dU.trans dy⟩
    ·
     have Ru:=pK.Bs;refine au ?_;refine ag [6,9,13,14,63,64] rfl ?_;refine ab ?_;refine vr 3 ?_;refine aa [6,9,13,14,63,64,79,80] ?_;refine aC ?_;refine gy (fun(q:Nat)(f2:Nat→Rat)=>W-q) (fun(q:Nat)(f2:Nat→Rat)=>put (put (put (put (put (put (put (put (emp) 6 (.box [.slice G.Ar R G.cr,.slice Ab m cb])) 9 (.val (.slice (some ⟨z,0,none⟩) W W))) 13 (.val (.int .i64 (i:Int)))) 14 (.box [.bool t4.f,.slice t4.A1 t4.m1 t4.c1,.slice t4.A2 t4.m2 t4.c2])) 63 (.val (.int .i64 (m:Int)))) 64 (.val (.int .i64 (i:Int)))) 79 (.val (.int .i64 (W:Int)))) 80 (.val (.int .i64 (q:Int)))) (fun(q:Nat)(f2:Nat→Rat) H'=>SZ (kP W f2) (rem H5 (G.on (z::(aE (.slice none 0 0)++G.top))).gs) H' G R W m M B (.slice none 0 0) [] z∧(∀j,f2 j=if j<q then f j-f (B i)*M i j else f j)∧q≤W∧Heap.le H H') 0 f (⟨Ru,fun j=>by rw[if_neg (Nat.not_lt_zero _)],Nat.zero_le _,dU.trans dy⟩) an ?_;rintro q f2 H6 ⟨hY,RY,dL,dU⟩;obtain⟨ws,rQ,mX⟩:=hY.row;obtain⟨xi6,si6,Q7,Q8⟩:=hY.q.qC (G:=G.on _) cL;have oZ:=wL mX;refine ab ?_;refine vr 1 ?_;refine aa [6,9,13,14,63,64,79,80,81] ?_;refine al ?_;refine aB rfl (fun hb=> ?_) (fun hb=> ?_)
     ·
      have rR:q<W:=by simpa using hb
      obtain⟨t5,ZN,mK⟩:=lL mX rR;obtain⟨t6,x8,qd⟩:=lL Q8 rR
      have e5:f2 q=f q:=by rw[RY q,if_neg (by omega)]
      rw[e5]at ZN;have uB:=hz i hi q rR;rw[←hI _ rR]at uB;have uC:=wF i aQ q rR;have Rg:=pc (f (B i)) (M i q);refine au ?_;refine ag [6,9,13,14,63,64,79,80] rfl ?_;refine al ?_;refine aC ?_;refine ab ?_;refine vr 2 ?_;refine aa [6,9,13,14,15,63,64,79,80] ?_;refine dZ .fV [0,1,2,3,4,5,6,7,8,9,10,11,12,13,14,15,16,17,18] follows (ib [0,0,0,0,12,28,0,0,128,0,896,1920,0,8064,16256,32704,65532,131071,262143] (by kernel_rfl)) ?_;refine vr 4 ?_;refine bR (vs:=[.bool t5.f,.slice t5.A1 t5.m1 t5.c1,.slice t5.A2 t5.m2 t5.c2]) ae rfl rfl rfl rfl (dF rQ) rfl (by decide) (by rw[Int.toNat_natCast];exact mK) (by omega) (by omega) fun _=> ?_;refine vr 4 ?_;refine aM ae rfl rfl rfl rfl rfl (hY.q.hd) (by rw[Int.toNat_natCast];exact ke (rg:=G.rg) (W:=_) cL) (by omega) (by omega) fun _=> ?_;refine vr 1 ?_;refine bR (vs:=[.bool t6.f,.slice t6.A1 t6.m1 t6.c1,.slice t6.A2 t6.m2 t6.c2]) ae rfl rfl rfl rfl (dF Q7) rfl (by decide) (by rw[Int.toNat_natCast];exact qd) (by omega) (by omega) fun _=> ?_;refine aO rfl rfl (Fn.kq hY.q.ne (J9 (N:=N1) ((bK.raw (vP.le hY.le)).mono Lw) ((bK.raw x8).mono uC) (by omega))) (fun _ _ h=>by first | exact h.le | exact h.1) ?_;rintro v7 H7 DF;obtain⟨t7,rfl,iW⟩:=DF.val;have ZO:=hY.kept yW DF.kept
      refine aO rfl rfl (Fn.kq ZO.q.ne (C1 (N:=2*N1) ((bK.raw (ZN.le DF.kept.le)).mono (by omega)) ((bK.raw iW).mono (by omega)) (by omega))) (fun _ _ h=>by first | exact h.le | exact h.1) ?_;rintro v8 H8 fU;obtain⟨t8,rfl,eL⟩:=fU.val;have Q9:=(fU.kept.same z SZ.mc).trans ((DF.kept.same z SZ.mc).trans rQ);obtain⟨ti,aj,ak⟩:=a8;refine cM (.inr rfl) ae rfl rfl rfl (by omega) (by omega) (Q9) rfl (by show 0+W*3≤ws.length;omega) aj ak (fun _=>rfl) rfl rfl rfl fun _=> ?_;refine aq ?_;rw[oP,Int.toNat_natCast];have Ra:=ZO.u6 fU.kept (yW _ _ _ DF.kept.le mX) rR (show bT _ [_,_,_] _ from eL);refine ag [6,9,13,14,63,64,79,80] rfl ?_;refine av rfl ?_;refine aD rfl rfl ⟨by omega,by omega⟩ ?_;refine vr 1 ?_;refine aq ?_
      exact⟨q+1,bQ f2 q (f q-f (B i)*M i q),by omega,an,Ra,fun j=>by
       by_cases ej:j=q
       ·
        subst ej;rw[qy,if_pos (by omega)]
       ·
        rw[oJ ej,RY j]
        by_cases hj:j<q
        ·rw[if_pos hj,if_pos (by omega)]
        ·rw[if_neg hj,if_neg (by omega)],by omega,HR iV ((dU.trans DF.le).trans fU.le)⟩
     ·
      have rR:W≤q:=by simpa using hb
      obtain rfl:q=W:=by omega
      refine aU ?_;refine ag [6,9,63,64] rfl ?_;refine av rfl ?_;refine aD rfl rfl ⟨by omega,by omega⟩ ?_;refine vr 1 ?_;refine aq ?_
      exact⟨i+1,f2,by omega,an,hY.down pK.le,fun q hq=>by
       rw[RY q,if_pos hq,hI q hq,hI _ tw];rfl,by omega,dU⟩
   ·
    have aQ:m≤i:=by simpa using hb
    obtain rfl:i=m:=by omega
    refine aU ?_;refine ag [9] rfl ?_;refine ab ?_;refine vr 2 ?_;refine aa [8] ?_;refine az ⟨.inr rfl,_,.tmp rfl (.nil),?_⟩;exact⟨z,rfl,hZ.to fun xs hx=>by show bC _ _ _ _;rw[←j6 (f:=f) (fun j hj=>hI j hj)];exact hx,dU⟩
theorem ajc{H:Heap}{G:GG}{R W m N N1:Nat}{M:Nat→Nat→Rat}{B:Nat→Nat}{p:Prg}{pv:Value}(h:bZ iq H G R W m M B)(QP:m≤R)(hp:eJ N (rem H G.gs) pv p)(rP:p.c1≤W)(hW1:1≤W)(hB:∀i,i<m→B i<W)(hR:(R:Int)≤900000)(hW:(W:Int)≤1000000)(hN1:(N1:Int)≤300000000000)(h1N:1≤N1)(wF:∀i,i<m→aG (M i (W-1))≤N1):
 Fn Tryz.prog 70 #[pv,.agg #[.slice G.Ar R G.cr,G.bv],.int .i64 (W:Int)] H (fun v H'=>Heap.le H H'∧aR bT 3 H' v (aH (jH p (iu M B (W-1) m)) p.free.length)):=by
 obtain⟨fv,fN,rfl,eo,ep⟩:=id hp
 obtain⟨Af,cf,xf,rfl,gZ,hO⟩:=eo.one
 obtain⟨Ar,cr,xr,rfl,mW,eK,fO⟩:=id ep
 obtain⟨Ab,cb,cY,ga⟩:=h.rT
 rw[cY]
 have cK:=wA (p:=p)
 have ZC:p.lp.n=p.free.length:=rfl
 have Q4:p.free.length≤W:=Nat.le_trans cK rP
 have cO:=ZM (B:=B) (n:=W-1) h1N wF;refine aZ (args:=[_,_,_]) Tryz.func70 rfl rfl Tryz.ntmps70 rfl rfl fun w0=> ?_;refine ag [0,1,2] rfl ?_;refine ab ?_;refine bS rfl rfl ?_;refine bS rfl rfl ?_;refine vr 1 ?_;refine aa [2,3,4] ?_;refine ab ?_;refine vr 1 ?_;refine ig Tryz.underlying26 cR rfl rfl rfl (by omega) (by omega) (by omega) (by omega) ?_;intro z iV;rw[Int.toNat_natCast];have BL:=h.gu.start (C:=lj W (fun _=>0) 0) (xs:=du [.bool false,.slice none 0 0,.slice none 0 0] (W*3)) iV LK;have AH:Heap.le H (ins H z ⟨du [.bool false,.slice none 0 0,.slice none 0 0] (W*3),W*3,31,true⟩):=Heap.bI _ iV;refine vr 1 ?_;refine aa [2,3,4,7] ?_;refine al ?_;refine ab ?_;refine vr 3 ?_;refine aa [2,3,4,7,17,18] ?_;refine aC ?_;refine fZ (fun(k:Nat)=>W-k) (fun(k:Nat)=>put (put (put (put (put (put (emp) 2 (.val (.int .i64 (W:Int)))) 3 (.box [.slice Af p.free.length cf,.slice Ar p.rows.length cr])) 4 (.box [.slice G.Ar R G.cr,.slice Ab m cb])) 7 (.val (.slice (some ⟨z,0,none⟩) W W))) 17 (.val (.int .i64 (W:Int)))) 18 (.val (.int .i64 (k:Int)))) (fun(k:Nat) H'=>SZ (lj W (fun _=>0) k) (rem H G.gs) H' G R W m M B (.slice none 0 0) [] z∧k≤W∧∀q,q∈G.gs→H' q=H q) 0 (⟨BL,Nat.zero_le _,fun q hq=>a7 _ _ fun(e:q=z)=>h.ne q hq (by rw[e];exact iV)⟩) an ?_
 rintro k H2 ⟨hS,hk,vk⟩;obtain⟨xs,hx,hC⟩:=hS.row;have cB:=HP hC hk;refine ab ?_;refine vr 1 ?_;refine aa [2,3,4,7,17,18,19] ?_;refine al ?_;refine aB rfl (fun hb=> ?_) (fun hb=> ?_)
 ·
  have eX:k<W:=by simpa using hb
  refine au ?_;refine ag [2,3,4,7,17,18] rfl ?_;refine al ?_;refine aC ?_;refine ab ?_;refine vr 2 ?_;refine aa [2,3,4,7,8,17,18] ?_;refine av rfl ?_;refine vr 2 ?_;refine aw rfl rfl (Fn.kq hS.q.ne (ry (n:=0) (by decide) (by decide))) ?_;rintro v8 H8 fU;obtain⟨t8,rfl,eL⟩:=fU.val;rw[show ((0:Int):Rat)=0 from rfl]at eL;have oO:=(fU.kept.same z SZ.mc).trans hx;obtain⟨ti,aj,ak⟩:=a8;refine cM (.inl rfl) ae rfl rfl rfl (by omega) (by omega) (oO) rfl (by show 0+W*3≤xs.length;omega) aj ak (fun _=>rfl) rfl rfl rfl fun _=> ?_;refine aq ?_;rw[oP,Int.toNat_natCast];have jY:=hS.set fU.kept (LI (RR _ _ _ fU.kept.le hC) eX (show bT _ [_,_,_] _ from eL));refine ag [2,3,4,7,17,18] rfl ?_;refine av rfl ?_;refine aD rfl rfl ⟨by omega,by omega⟩ ?_;refine vr 1 ?_;refine aq ?_;exact⟨k+1,by omega,an,jY,by omega,fun q hq=>by rw[a7 _ _ (hS.Zy hq),fU.kept.same q (List.mem_cons_of_mem _ hq)];exact vk q hq⟩
 ·
  have eX:W≤k:=by simpa using hb
  obtain ek:k=W:=by omega
  rw[ek]at hS;have BM:=hS.to (C':=kP W (iu M B (W-1) 0)) fun _ h=>LJ h;refine aU ?_;refine ag [2,3,4,7] rfl ?_;refine al ?_;refine ab ?_;refine vr 4 ?_;refine aa [2,3,4,7,28,29] ?_;refine aC ?_;refine fZ (fun(i:Nat)=>m-i) (fun(i:Nat)=>put (put (put (put (put (put (emp) 2 (.val (.int .i64 (W:Int)))) 3 (.box [.slice Af p.free.length cf,.slice Ar p.rows.length cr])) 4 (.box [.slice G.Ar R G.cr,.slice Ab m cb])) 7 (.val (.slice (some ⟨z,0,none⟩) W W))) 28 (.val (.int .i64 (m:Int)))) 29 (.val (.int .i64 (i:Int)))) (fun(i:Nat) H'=>SZ (kP W (iu M B (W-1) i)) (rem H G.gs) H' G R W m M B (.slice none 0 0) [] z∧i≤m∧∀q,q∈G.gs→H' q=H q) 0 (⟨BM,Nat.zero_le _,vk⟩) an ?_;rintro i H3 ⟨hS,hi,vk⟩;obtain⟨xs,hx,hC⟩:=hS.row;have cB:=wL hC;refine ab ?_;refine vr 1 ?_;refine aa [2,3,4,7,28,29,30] ?_;refine al ?_;refine aB rfl (fun hb=> ?_) (fun hb=> ?_)
  ·
   have aQ:i<m:=by simpa using hb
   have tw:=hB i aQ;obtain⟨pi,cL⟩:=h.get (show i<R by omega);obtain⟨xi,si,rN,wx⟩:=hS.q.qC (G:=G.on _) cL;obtain⟨t4,LQ,nV⟩:=lL wx (show W-1<W by omega);refine au ?_;refine ag [2,3,4,7,28,29] rfl ?_;refine al ?_;refine aC ?_;refine ab ?_;refine vr 2 ?_;refine aa [2,3,4,7,9,28,29] ?_;refine dZ .fV [0,1,2,3,4,5,6,7,8,9,10,11,12,13,14,15,16] follows (ib [0,0,2,0,14,30,0,64,0,448,960,0,2048,8128,16320,32767,65535] (by kernel_rfl)) ?_;refine vr 4 ?_;refine aM ae rfl rfl rfl rfl rfl (ga hS.q i aQ) (by rw[Int.toNat_natCast];exact gj aQ) (by omega) (by omega) fun _=> ?_;refine vr 3 ?_;refine aM ae rfl rfl rfl rfl rfl (hS.q.hd) (by rw[Int.toNat_natCast];exact ke (rg:=G.rg) (W:=_) cL) (by omega) (by omega) fun _=> ?_;refine vr 1 ?_;refine cP rfl rfl ⟨by omega,by omega⟩ ?_;refine bR (vs:=[.bool t4.f,.slice t4.A1 t4.m1 t4.c1,.slice t4.A2 t4.m2 t4.c2]) ae rfl rfl rfl rfl (dF rN) rfl (by decide) (by rw[show ((W:Int)-1).toNat=W-1 by omega];exact nV) (by omega) (by omega) fun _=> ?_;obtain⟨ti,aj,ak⟩:=a8;refine cM (.inr rfl) ae rfl rfl rfl (by omega) (by omega) (hx) rfl (by show 0+W*3≤xs.length;omega) aj ak (fun _=>rfl) rfl rfl rfl fun _=> ?_;refine aq ?_;rw[oP,Int.toNat_natCast];have jY:=hS.u6 (.refl _ _) hC tw (show bT _ [_,_,_] _ from LQ)
   refine ag [2,3,4,7,28,29] rfl ?_;refine av rfl ?_;refine aD rfl rfl ⟨by omega,by omega⟩ ?_;refine vr 1 ?_;refine aq ?_;exact⟨i+1,by omega,an,jY,by omega,fun q hq=>by rw[a7 _ _ (hS.Zy hq)];exact vk q hq⟩
  ·
   have aQ:m≤i:=by simpa using hb
   obtain rfl:i=m:=by omega
   have BD:Rd H3 (some ⟨z,0,none⟩) xs:=dF hx;have hE:kP W (iu M B (W-1) i) H3 xs:=yW _ _ _ (bG _ _) hC;have cE:Heap.le (rem H G.gs) H3:=hS.le.trans (bG _ _)
   have Rc:Heap.le H H3:=fun q en hq=>by
    by_cases hm:q∈G.gs
    ·exact⟨en,by rw[vk q hm];exact hq,.refl _⟩
    ·exact cE q en (by rw[bL hm];exact hq)
   have sV:=fun j=>cO j i (Nat.le_refl _);refine aU ?_;refine ag [3,7] rfl ?_;refine ab ?_;refine vr 3 ?_;refine ig Tryz.underlying26 cR rfl rfl rfl (by omega) (by omega) (by omega) (by omega) ?_;intro gx qb;have yQ:=KT (P:=bT) (e:=31) (sz:=3) (zs:=[.bool false,.slice none 0 0,.slice none 0 0]) (z:=0) (k:=(p.free.length:Int)) (c:=p.free.length) qb rfl (Int.toNat_natCast _) (by unfold maxLen;omega);rw[Int.toNat_natCast]at yQ⊢;refine vr 1 ?_;refine aa [3,7,10] ?_;refine ab ?_;refine vr 4 ?_;refine aa [3,7,10,11] ?_;refine al ?_;refine ab ?_;refine vr 4 ?_;refine aa [3,7,10,11,58,59] ?_;refine aC ?_;refine gh (fun(j:Nat)(w:Value)(ws:List Value)=>p.free.length-j) (fun(j:Nat)(w:Value)(ws:List Value)=>put (put (put (put (put (put (emp) 3 (.box [.slice Af p.free.length cf,.slice Ar p.rows.length cr])) 7 (.val (.slice (some ⟨z,0,none⟩) W W))) 10 (.val (w))) 11 (.val (.int .i64 (p.mi j:Int)))) 58 (.val (.int .i64 (p.free.length:Int)))) 59 (.val (.int .i64 (j:Int)))) (fun(j:Nat)(w:Value)(ws:List Value) H'=>ia bT 31 3 H3 H' w (aH (jH p (iu M B (W-1) i)) j) ws∧j≤p.free.length) 0 _ _ (⟨yQ,Nat.zero_le _⟩) (by repeat (first | exact iy _ | refine dh rfl ?_ | refine dh (iO (by first | omega | (simp;done) | rfl)) ?_)) ?_;rintro j w ws H5 ⟨hG,hj⟩
   obtain⟨A5,c5,e5⟩:=hG.form;rw[aW]at e5;subst e5;refine ab ?_;refine vr 1 ?_;refine aa [3,7,10,11,58,59,60] ?_;refine al ?_;refine aB rfl (fun hb=> ?_) (fun hb=> ?_)
   ·
    have fP:j<p.free.length:=by simpa using hb
    obtain⟨t6,x8,qd⟩:=lL hE (show j<W by omega);obtain⟨uf,lG,kg⟩:=hO j _ (List.getElem?_eq_getElem fP);have kg: [uf] = [Value.bool p.free[j]]:=kg
    cases kg
    have mS:p.lp.free j=p.free[j]:=Prg.ue (List.getElem?_eq_getElem fP);have uC:=sV j;refine au ?_;refine ag [3,7,10,11,58,59] rfl ?_;refine al ?_;refine aC ?_;refine ab ?_;refine vr 2 ?_;refine aa [3,7,10,11,12,58,59] ?_;refine ab ?_;refine vr 2 ?_;refine bR (vs:=[.bool t6.f,.slice t6.A1 t6.m1 t6.c1,.slice t6.A2 t6.m2 t6.c2]) ae rfl rfl rfl rfl (BD.le hG.le) rfl (by decide) (by rw[Int.toNat_natCast];exact qd) (by omega) (by omega) fun _=> ?_;refine bt cR rfl ?_;obtain⟨ti,aj,ak⟩:=a8;refine aJ (.inl ⟨rfl,rfl⟩) rfl rfl rfl aj ak rfl rfl rfl ?_;refine aa [3,7,10,11,12,13,58,59] ?_;refine zt (fun(t:RC)(a:Nat)=>put (put (put (put (put (put (put (emp) 3 (.box [.slice Af p.free.length cf,.slice Ar p.rows.length cr])) 7 (.val (.slice (some ⟨z,0,none⟩) W W))) 10 (.val (.slice A5 j c5))) 11 (.val (.int .i64 (a:Int)))) 13 (.box [.bool t.f,.slice t.A1 t.m1 t.c1,.slice t.A2 t.m2 t.c2])) 58 (.val (.int .i64 (p.free.length:Int)))) 59 (.val (.int .i64 (j:Int)))) (fun(t:RC)(a:Nat) H'=>ia bT 31 3 H3 H' (.slice A5 j c5) (aH (jH p (iu M B (W-1) i)) j) ws∧a=p.mi (j+1)∧bK (rem H' (aE (.slice A5 j c5))) t.v (jH p (iu M B (W-1) i) j)) ?_ ?_
    ·
     refine ab ?_;refine vr 3 ?_;refine aM ae rfl rfl rfl rfl rfl (gZ.le (cE.trans hG.le)) (by rw[Int.toNat_natCast];exact lG) (by omega) (by omega) fun _=> ?_;refine aa [3,7,10,11,13,58,59,70] ?_;refine aB rfl (fun hb=> ?_) (fun hb=> ?_)
     ·
      have fw:p.lp.free j=true:=by rw[mS];simpa using hb
      have wB:p.mi j<W:=Nat.lt_of_lt_of_le (uV fP fw) rP;obtain⟨t7,rJ,rK⟩:=lL hE wB;have Rg:=sV (p.mi j);refine bJ .bF [0,1,2,3,4,5,6] follows (by kernel_rfl) ?_;refine vr 3 ?_;refine bR (vs:=[.bool t7.f,.slice t7.A1 t7.m1 t7.c1,.slice t7.A2 t7.m2 t7.c2]) ae rfl rfl rfl rfl (BD.le hG.le) rfl (by decide) (by rw[Int.toNat_natCast];exact rK) (by omega) (by omega) fun _=> ?_;refine aO rfl rfl (hG.call (C1 (N:=N1) ((bK.raw (x8.le hG.base)).mono uC) ((bK.raw (rJ.le hG.base)).mono Rg) (by omega)).rc) (fun _ _ h=>h.le fun _ _ h=>h.1) ?_;rintro _ H8 yR;have qo:=hG.wh fK yR fun _ _ h=>h.1;obtain⟨⟨_,t8,rfl,eL⟩,_⟩:=yR;obtain⟨ti,aj,ak⟩:=a8;refine aJ (.inl ⟨rfl,rfl⟩) rfl rfl rfl aj ak rfl rfl rfl ?_;refine aa [3,7,10,11,13,58,59] ?_;refine av rfl ?_;refine vr 1 ?_;refine aD rfl rfl ⟨by omega,by omega⟩ ?_;refine vr 1 ?_;refine aq ?_;exact⟨t8,p.mi j+1,an,qo,by rw[uW,if_pos fw],by unfold jH;rw[if_pos fw];exact eL⟩
     ·
      have fw:¬p.lp.free j=true:=by rw[mS];simpa using hb
      refine au ?_;exact⟨t6,p.mi j,an,hG,by rw[uW,if_neg fw,Nat.add_zero],by unfold jH;rw[if_neg fw];exact x8.le hG.base⟩
    ·
     rintro t a H9 ⟨nz,s8,eW⟩;subst s8;refine av rfl ?_;refine vr 2 ?_;refine dI Tryz.underlying26 cR rfl rfl rfl rfl rfl rfl rfl ?_;intro gb bD;have Hu:=nz.ins fK (whole (eT [.agg #[.bool t.f,.slice t.A1 t.m1 t.c1,.slice t.A2 t.m2 t.c2]]) 31) bD;refine eN Tryz.underlying26 cR rfl rfl Hu.own (eZ _ _ _ _ _ _) rfl (KO _ _ _ _ _ _ _) (by rw[aW];omega) (by rw[aW];omega) ?_;intro W9 im Rf;have nz:=Hu.append fK (k:=[jH p (iu M B (W-1) i) j]) (by simp) Rf (pb (fK _ _ _ _ (Ct _ (Heap.bI _ bD)) (show bT _ [_,_,_] _ from eW)) rfl);refine vr 1 ?_;refine aq ?_;refine ag [3,7,10,11,58,59] rfl ?_;refine av rfl ?_;refine aD rfl rfl ⟨by omega,by omega⟩ ?_;refine vr 1 ?_;refine aq ?_;exact⟨j+1,_,_,by omega,an,by rw[vR];exact nz,by omega⟩
   ·
    have fP:p.free.length≤j:=by simpa using hb
    obtain rfl:j=p.free.length:=by omega
    refine aU ?_;refine ag [10] rfl ?_;refine ab ?_;refine vr 2 ?_;refine aa [6] ?_;refine az ⟨.inr rfl,_,.tmp rfl (.nil),?_⟩;exact⟨Rc.trans hG.le,hG.sl fK⟩
end Go.ar
namespace Go.ar
open Go.Proofs Num Lp
section
variable {p:Prg} {c:List Rat} {M:Nat→Nat→Rat} {B:Nat→Nat} {T:ao} {L:Nat}
theorem ajd{i:Nat}(hi:i<p.lp.m):pn p (p.unit i)=if p.u≤p.unit i then 1 else 0:=by
 show ao.jq _ _ _=_
 unfold ao.jq
 by_cases k:p.u≤p.unit i
 ·rw[if_pos k,if_pos ⟨k,nx p hi⟩]
 ·rw[if_neg k,if_neg (fun k'=>k k'.1)]
theorem ZP(bg:p.Ok)(hf:Fits p c L){i j:Nat}(hi:i<p.lp.m)(hj:j≤p.w):aG (dG p i j)≤L:=by
 rw[QX bg.valid hi hj];exact hf.tab i hi _
theorem aje(bg:p.Ok)(hf:Fits p c L){i j:Nat}(hi:i≤p.lp.m):aG (qD p (dG p) j i)≤2*L:=by
 have h1:=hf.one
 unfold qD
 by_cases hc:j<p.u∨j=p.w
 ·have hj:j≤p.w:=by have:=fg p;omega
  rw[if_pos hc]
  have e: -aX i (fun q=>if p.u≤p.unit q then dG p q j else 0)=gn (pA p.dP (ar.pn p)) (ar.pn p) i (p.pi j):=by
   have hs:aX i (fun q=>ar.pn p ((pA p.dP (ar.pn p)).B q)*(pA p.dP (ar.pn p)).A q (p.pi j))=aX i (fun q=>if p.u≤p.unit q then dG p q j else 0):=eO fun q hq=>by
    show ar.pn p (p.unit q)*p.dP.A q (p.pi j)=_
    rw[ajd (by omega),QX bg.valid (by omega) hj]
    split <;> grind
   unfold gn
   rw[hs]
   rcases hc with h1 | h2
   ·have h2:=fg p
    have h3:=yO h1
    have e:ar.pn p (p.pi j)=0:=ao.NW h3
    rw[if_neg (by show ¬p.pi j=p.w;omega),e];grind
   ·rw[h2,if_pos (show p.pi p.w=(pA p.dP (ar.pn p)).n from BB)];grind
  rw[e]
  exact hf.Pe i hi _ (Ll hj)
 ·rw[if_neg hc];exact Nat.le_trans Lv (by omega)
theorem lK.sz(hf:Fits p c L)(h:lK p T):∀j,j<p.w+1→aG (T.c j)≤L∧∀i,i<p.lp.m→aG (T.A i j)≤L:=fun j hj=>by
 obtain⟨S,hI,hT⟩:=h
 have hS:=hf.AV S hI
 have hn:=hT.ew
 have hp:=Ll (p:=p) (x:=j) (by omega)
 exact⟨by rw[hT.ec j (by omega)];exact hS.c _ (by omega),fun i hi=>by
  have:i<S.m:=by rw[hI.rows.m];exact hi
  rw[hT.eA i this j (by omega)];exact hS.A i this _ (by omega)⟩
theorem nD.sz(hf:Fits p c L)(h:nD p c T):∀j,j<p.w+1→aG (T.c j)≤L∧∀i,i<p.lp.m→aG (T.A i j)≤L:=fun j hj=>by
 obtain⟨S,hI,hT⟩:=h
 have hS:=hf.nO S hI.1
 have hn:=hT.ew
 have hp:=Ll (p:=p) (x:=j) (by omega)
 exact⟨by rw[hT.ec j (by omega)];exact hS.c _ (by omega),fun i hi=>by
  have:i<S.m:=by rw[hI.1.rows.m];exact hi
  rw[hT.eA i this j (by omega)];exact hS.A i this _ (by omega)⟩
theorem iJ.sz{k:Nat}(hf:Fits p c L)(h:iJ p k T):∀j,j<p.w+1→∀i,i<p.lp.m→aG (T.A i j)≤L:=fun j hj=>by
 obtain⟨S,hI,hT⟩:=h
 exact(lK.sz hf ⟨S,hI.1,hT⟩ j hj).2
theorem ajf(hf:Fits p c L)(h:iJ p p.lp.m T)(hr:gF M B T p.lp.m (p.w+1)){i j:Nat}(hi:i≤p.lp.m)(hj:j<p.w+1):aG (lh M B (eQ p (fn c) 1 p.lp.n) i j)≤2*L:=by
 obtain⟨S,hI,hT⟩:=h
 have hm:S.m=p.lp.m:=hI.1.rows.m
 have hW:=hT.wf hI.1.wf
 have hn:=hT.en.trans hT.ew
 have hj:j≤p.w:=by omega
 have e:lh M B (eQ p (fn c) 1 p.lp.n) i j=gn S (j9 p c) i (p.pi j):=by
  have hu:∀i k,i<p.lp.m→k<p.lp.m→M k (B i)=if k=i then 1 else 0:=fun i k hi hk=>by
   have h1:=hW.lt i (by rw[hr.em];exact hi)
   rw[hr.eB i hi,hr.eA k hk _ (by omega)]
   exact hW.unit i k (by rw[hr.em];exact hi) (by rw[hr.em];exact hk)
  rw[YV hu _ hi]
  unfold gn
  have e1:eQ p (fn c) 1 p.lp.n j=if p.pi j=S.n then 0 else j9 p c (p.pi j):=by
   rw[Hp]
   by_cases e:p.pi j=S.n
   ·rw[if_pos e]
    have e':p.pi j=p.w:=e.trans hT.ew
    have h1:=Kq (p:=p) (c:=c)
    rw[e'];exact h1
   ·rw[if_neg e]
  rw[e1]
  congr 1
  refine eO fun i' fH=> ?_
  have h1:=hT.eB i' (by omega)
  rw[hr.eB i' (by omega),Hp,hr.eA i' (by omega) j (by omega),hT.eA i' (by omega) j hj,h1.1]
 rw[e]
 have:=Ll hj
 exact hf.Pf S hI.1 i (by omega) _ (by rw[hT.ew];exact this)
end
theorem ajg{W k:Nat}{K:Heap}{xs vs:List Value}{f:Nat→Rat}{q:Rat}(h:lj W f (k+1) K xs)(hk:k<W)(hv:bT K vs q):lj W (bQ f k q) (k+1) K (aI xs (k*3) vs):=by
 have h1:(fill (aH f W) (k+1)).set k (some q)=fill (aH (bQ f k q) W) (k+1):=by
  have hl:k<(fill (aH f W) (k+1)).length:=by rw[mG (by rw[aW];omega),aW];exact hk
  apply List.ext_getElem?
  intro i
  rw[List.getElem?_set]
  by_cases e:k=i
  ·subst e
   rw[if_pos rfl,if_pos hl,wG (di hk) (Nat.lt_succ_self k),jt]
  ·rw[if_neg e]
   by_cases hi:i<k+1
   ·rw[wG (di (show i<W by omega)) hi,wG (di (show i<W by omega)) hi,dY (fun h=>e h.symm)]
   ·by_cases hiW:i<W
    ·have hn:∀g:Nat→Rat,(fill (aH g W) (k+1))[i]? = some none:=fun g=>by
      unfold fill
      rw[List.getElem?_append_right (by rw[List.length_map,List.length_take,aW];omega),List.getElem?_replicate,if_pos (by rw[List.length_map,List.length_take,aW];omega)]
     rw[hn,hn]
    ·rw[List.getElem?_eq_none (by rw[mG (by rw[aW];omega),aW];omega),List.getElem?_eq_none (by rw[mG (by rw[aW];omega),aW];omega)]
 show bC _ _ _ _
 rw[←h1]
 exact h.set (by rw[mG (by rw[aW];omega),aW];exact hk) (show gO bT _ vs (some q)from hv) (iq.len _ _ _ hv)
theorem ajh{W k:Nat}{K:Heap}{xs:List Value}{f g:Nat→Rat}(h:lj W f k K xs)(he:∀j,j<k→g j=f j)(hk:k≤W):lj W g k K xs:=by
 have e:fill (aH g W) k=fill (aH f W) k:=by
  unfold fill
  rw[aW,aW]
  congr 2
  apply List.ext_getElem?
  intro i
  rw[List.getElem?_take,List.getElem?_take]
  split
  ·rw[di (by omega),di (by omega),he i (by assumption)]
  ·rfl
 show bC _ _ _ _
 rw[e];exact h
theorem aji{W k n:Nat}{K:Heap}{xs:List Value}{f:Nat→Rat}(h:lj W f n K xs)(hk:k<n)(hn:n≤W):∃t:RC,bK K t.v (f k)∧∀(j:Nat)(v:Value),[.bool t.f,.slice t.A1 t.m1 t.c1,.slice t.A2 t.m2 t.c2][j]? = some v→xs[k*3+j]? = some v:=by
 obtain⟨vs,_,h2,h3⟩:=h.get (wG (di (show k<W by omega)) hk)
 obtain⟨t,e,h4⟩:=bT.rc (show bT K vs (f k)from h2)
 subst e
 exact⟨t,h4,h3⟩
theorem bZ.tab{H:Heap}{G:GG}{W m:Nat}{M:Nat→Nat→Rat}{B:Nat→Nat}(h:bZ iq H G m W m M B):∃Ab cb,G.bv = .slice Ab m cb∧Hv H G.Ar Ab G.rg m W M B∧∀{H' t R' M' B'},bZ iq H' (G.on t) R' W m M' B'→∀i,i<m→Rd H' Ab (ee B' m):=by
 obtain⟨Ab,cb,cY,ga⟩:=h.rT
 refine⟨Ab,cb,cY,⟨h.gN,h.hd,fun i q hq=> ?_,?_⟩,ga⟩
 ·obtain⟨xs,sz,h1,h2⟩:=h.qC hq
  exact⟨xs,dF h1,h2.mono fun vs a=>fK _ _ vs a (bG _ _)⟩
 ·by_cases hm:0<m
  ·exact ga (t:=G.top) h 0 hm
  ·obtain rfl:m=0:=by omega
   intro i v hv
   simp[ee]at hv
theorem aR.ZQ{N M:Nat}{H:Heap}{v:Value}{l:List Rat}(h:aR (ck N) 3 H v l)(hl:N≤M):aR (ck M) 3 H v l:=h.mono fun _ _ a=>ck.mono a hl
def ajj(p:Prg)(c:List Rat)(L:Nat)(H:Heap)(v:Value)(H':Heap):Prop:=Heap.le H H'∧∃(st:Int)(t:RC)(xv:Value)(q:Rat),v = .tuple #[.int .i64 st,t.v,xv]∧rS p c st q∧bK H' t.v q∧aG q≤L∧(st=1→∃x,aR bT 3 H' xv x∧x.length=p.free.length∧(∀q,q∈x→aG q≤2*L+17)∧q=cj p.free.length (fn c) (fn x))
theorem HS{p:Prg}{c:List Rat}{L:Nat}{st:Int}{q:Rat}(hf:Fits p c L)(h:rS p c st q):aG q≤L:=by
 have h1:=hf.one
 rcases h with ⟨_,_,T,hI,rfl⟩ | ⟨_,_,rfl⟩ | ⟨_,_,rfl⟩
 ·rw[vF]
  have:=hI.1.rows.n
  exact(hf.nO T hI.1).c _ (by omega)
 ·exact Nat.le_trans Lv h1
 ·exact Nat.le_trans Lv h1
end Go.ar
