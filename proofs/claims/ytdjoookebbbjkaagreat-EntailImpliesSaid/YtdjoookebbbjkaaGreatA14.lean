/- Part 14 of the proof: SDat3, St, Sc, SDat4. -/
import Derived.Test.YtdjoookebbbjkaaGreatA13
set_option linter.unusedVariables false
namespace Go.aq
open Go.Proofs Num Lp
abbrev M6(C:Heap→List Value→Prop):Prop:=∀K K' xs,Heap.le K K'→C K xs→C K' xs
abbrev lP(W:Nat)(f:Nat→Rat)(k:Nat)(K:Heap)(xs:List Value):Prop:=bG (iw cg K) 3 xs (fill (aK f W) k)
abbrev ll(W:Nat)(f:Nat→Rat)(K:Heap)(xs:List Value):Prop:=bG (cg K) 3 xs (aK f W)
theorem Tg{W:Nat}{f:Nat→Rat}{k:Nat}:M6 (lP W f k):=fun _ _ _ hl h=>h.mono fun vs a=>iw.up ef _ _ vs a hl
theorem zW{W:Nat}{f:Nat→Rat}:M6 (ll W f):=fun _ _ _ hl h=>h.mono fun vs a=>ef _ _ vs a hl
theorem Jf{W k:Nat}{K:Heap}{xs:List Value}{f:Nat→Rat}(h:lP W f k K xs)(hk:k≤W):xs.length=W*3:=by
 have:=h.len
 rwa [m9 (by rw[bh];exact hk),bh]at this
theorem yh{W:Nat}{K:Heap}{xs:List Value}{f:Nat→Rat}(h:ll W f K xs):xs.length=W*3:=by
 have:=h.len
 rwa [bh]at this
theorem M7{W k:Nat}{K:Heap}{xs vs:List Value}{f:Nat→Rat}(h:lP W f k K xs)(hk:k<W)(hv:cg K vs (f k)):lP W f (k+1) K (aL xs (k*3) vs):=by
 show bG _ _ _ _
 rw[←y7 (dD hk)]
 exact h.set (by rw[m9 (by rw[bh];omega),bh];exact hk) (show iw cg _ vs (some (f k))from hv) (iK.len _ _ _ hv)
theorem M8{W:Nat}{K:Heap}{xs:List Value}{f:Nat→Rat}(h:lP W f W K xs):ll W f K xs:=by
 refine DJ (P:=cg) (H:=K) ?_
 rw[bh];exact h
theorem Na{W:Nat}{K:Heap}{f:Nat→Rat}:lP W f 0 K (cR [.bool false,.slice none 0 0,.slice none 0 0] (W*3)):=by
 have:=Bs (P:=cg) (H:=K) (zs:=[.bool false,.slice none 0 0,.slice none 0 0]) (sz:=3) rfl (aK f W)
 rwa [bh]at this
theorem pf{xs vs:List Value}{s e k:Nat}:({(⟨xs,s,e,true⟩:Ent)with xs:=aL xs (0+k*3) vs}:Ent)=⟨aL xs (k*3) vs,s,e,true⟩:=by rw[Nat.zero_add]
structure SZ(C:Heap→List Value→Prop)(K H:Heap)(G:GG)(R W m:Nat)(M:Nat→Nat→Rat)(B:Nat→Nat)(u:Value)(l:List Nat)(z:Nat):Prop where
 q:cD iK H (G.on (z::(aC u++G.top))) R W m M B
 own:bW H u 3 1 l.length (wb l)
 row:∃xs,H z=some ⟨xs,W*3,38,true⟩∧C (rem H (G.on (z::(aC u++G.top))).gs) xs
 le:Heap.le K (rem H (G.on (z::(aC u++G.top))).gs)
section
variable {C C':Heap→List Value→Prop} {K K' H H':Heap} {G:GG} {R W m z:Nat} {M M':Nat→Nat→Rat} {B:Nat→Nat} {u:Value} {l:List Nat} {f:Nat→Rat} {xs:List Value}
theorem SZ.mO:z∈(G.on (z::(aC u++G.top))).gs:=List.mem_append_left _ (List.mem_cons_self ..)
theorem SZ.xR{q:Nat}(h:q∈aC u):q∈(G.on (z::(aC u++G.top))).gs:=List.mem_append_left _ (List.mem_cons_of_mem _ (List.mem_append_left _ h))
theorem SZ.Si(h:SZ C K H G R W m M B u l z):∀q,q∈aC u→q≠z:=fun q hq e=>by
 have h1:z∉(aC u++G.top)++G.low:=(List.nodup_cons.1 (show (z::((aC u++G.top)++G.low)).Nodup from h.q.nd)).1
 exact h1 (List.mem_append_left _ (List.mem_append_left _ (e▸hq)))
theorem GU.start(h:GU K H G R W m M B u l)(hz:H z=none)(hC:C (rem H (G.on (aC u++G.top)).gs) xs):SZ C K (ins H z ⟨xs,W*3,38,true⟩) G R W m M B u l z:=by
 obtain⟨h1,h2⟩:=h.q.apart (e:=⟨xs,W*3,38,true⟩) hz
 refine⟨h1,h.own.same fun q hq=>bn _ _ fun e=> ?_,⟨xs,bC _ _ _,?_⟩,?_⟩
 ·exact h.q.ne q (QU.xR (dh.2 hq)) (by rw[e];exact hz)
 ·show C (rem _ ((G.on (aC u++G.top)).on (z::(G.on (aC u++G.top)).top)).gs) xs
  rw[h2];exact hC
 ·show Heap.le K (rem _ ((G.on (aC u++G.top)).on (z::(G.on (aC u++G.top)).top)).gs)
  rw[h2];exact h.le
theorem SZ.kept(hC:M6 C)(h:SZ C K H G R W m M B u l z)(k:Kept (G.on (z::(aC u++G.top))).gs H H'):SZ C K H' G R W m M B u l z:=by
 obtain⟨xs,h3,h4⟩:=h.row
 exact⟨h.q.kept k,h.own.same fun q hq=>k.same q (SZ.xR (dh.2 hq)),⟨xs,(k.same z SZ.mO).trans h3,hC _ _ _ k.le h4⟩,h.le.trans k.le⟩
theorem SZ.set(h:SZ C K H G R W m M B u l z)(k:Kept (G.on (z::(aC u++G.top))).gs H H')(hC:C' (rem H' (G.on (z::(aC u++G.top))).gs) xs):SZ C' K (ins H' z ⟨xs,W*3,38,true⟩) G R W m M B u l z:=by
 have h1:=h.q.kept k
 have hm:z∈(G.on (z::(aC u++G.top))).gs:=SZ.mO
 have hT:fU (G.on (z::(aC u++G.top))).gs z H' (ins H' z ⟨xs,W*3,38,true⟩):=((Kept.refl _ _).iI z).ins hm _
 refine⟨h1.Ch (List.mem_cons_self ..) hT (by rw[bC];simp),h.own.same fun q hq=> ?_,⟨xs,bC _ _ _,by rw[cJ _ hm];exact hC⟩,by rw[cJ _ hm];exact h.le.trans k.le⟩
 rw[bn _ _ (h.Si q (dh.2 hq))];exact k.same q (SZ.xR (dh.2 hq))
theorem SZ.wo{j:Nat}{vs:List Value}{q:Rat}(h:SZ (ll W f) K H G R W m M B u l z)(k:Kept (G.on (z::(aC u++G.top))).gs H H')(hD:ll W f (rem H (G.on (z::(aC u++G.top))).gs) xs)(hj:j<W)(hv:cg (rem H' (G.on (z::(aC u++G.top))).gs) vs q):SZ (ll W (bT f j q)) K (ins H' z ⟨aL xs (j*3) vs,W*3,38,true⟩) G R W m M B u l z:=
 h.set k (aaO (zW _ _ _ k.le hD) hj hv)
theorem SZ.fresh(hC:M6 C)(h:SZ C K H G R W m M B u l z){k:Nat}{e:Ent}(hk:H k=none):SZ C K (ins H k e) G R W m M B u l z:=by
 obtain⟨_,h2⟩:=h.q.fresh (e:=e) hk
 exact h.kept hC ⟨h2,fun q hq=>bn _ _ fun(e':q=k)=>h.q.ne q hq (by rw[e'];exact hk)⟩
theorem SZ.vZ(h:SZ C K H G R W m M B u l z):SZ C (rem H (G.on (z::(aC u++G.top))).gs) H G R W m M B u l z:=⟨h.q,h.own,h.row,.refl _⟩
theorem SZ.down(h:SZ C K H G R W m M B u l z)(hl:Heap.le K' K):SZ C K' H G R W m M B u l z:=⟨h.q,h.own,h.row,hl.trans h.le⟩
theorem SZ.to(h:SZ C K H G R W m M B u l z)(hC:∀xs,C (rem H (G.on (z::(aC u++G.top))).gs) xs→C' (rem H (G.on (z::(aC u++G.top))).gs) xs):SZ C' K H G R W m M B u l z:=by
 obtain⟨xs,h3,h4⟩:=h.row
 exact⟨h.q,h.own,⟨xs,h3,hC xs h4⟩,h.le⟩
theorem SZ.zne(h:SZ C K H G R W m M B u l z){q:Nat}(hq:q∈G.gs):q≠z:=fun e=>by
 have h1:z∉(aC u++G.top)++G.low:=(List.nodup_cons.1 (show (z::((aC u++G.top)++G.low)).Nodup from h.q.nd)).1
 rw[←e,List.append_assoc]at h1
 exact h1 (List.mem_append_right _ hq)
theorem SZ.more{c lM:Nat}{A':Option Addr}(h:SZ (ll W f) K H G R W m M B u l z)(ha:App H (.slice G.Ar R G.cr) 28 1 (R+1) (iV (G.rg ++ [(z,c)]) W) (.slice A' (R+1) lM) H'):
  GU K H' (G.more G.top z c A' lM R) (R+1) W m (fun i=>if i=R then f else M i) B u l:=by
 obtain⟨xs,h3,h4⟩:=h.row
 obtain⟨h1,h2⟩:=h.q.more (t:=aC u++G.top) ⟨xs,_,h3,h4⟩ ha
 refine⟨h1,h.own.same fun q hq=> ?_,h.le.trans h2⟩
 obtain⟨en,he⟩:=h.own.block hq
 rw[he]
 refine ha.same q en he fun e=> ?_
 have hb:q∈G.hb:=by
  have:=h.q.l9
  have e2:G.hb=aC (.slice G.Ar R G.cr):=this
  rw[e2];exact dh.2 e
 exact GG.uR h.q.nd (q:=q) (r:=q) (List.mem_cons_of_mem _ (List.mem_append_left _ (dh.2 hq))) (GG.Cf (G:=G.on (z::(aC u++G.top))) hb) rfl
theorem GU.Cw(h:GU K H G R W m M B u l)(hM:∀i,i<R→∀j,j<W→M' i j=M i j):GU K H G R W m M' B u l:=⟨h.q.Cw hM,h.own,h.le⟩
theorem cD.gu(h:cD iK H G R W m M B):GU (rem H G.gs) H G R W m M B (.slice none 0 0) []:=⟨h,lv _ _ _,.refl _⟩
end
def g0:GG:=⟨[],[],[],.slice none 0 0,[],none,0⟩
theorem akY{H:Heap}{W:Nat}{M:Nat→Nat→Rat}{B:Nat→Nat}:GU H H g0 0 W 0 M B (.slice none 0 0) []:=by
 refine⟨⟨List.nodup_nil,fun q hq=>(by cases hq),rfl,rfl,lv _ _ _,fun i p hp=>(by cases hp),.inl ⟨rfl,rfl,rfl⟩⟩,lv _ _ _,?_⟩
 show Heap.le H (rem H [])
 rw[oO];exact .refl _
def GG.fin(G:GG)(u:Value):GG:={G with bb:=aC u,bv:=u}
theorem GU.fin{K H:Heap}{G:GG}{R W m:Nat}{M:Nat→Nat→Rat}{B B':Nat→Nat}{u:Value}(h:GU K H G R W 0 M B' u ((List.range m).map B))(hb:G.bb = []):cD iK H (G.fin u) R W m M B∧Heap.le K (rem H (G.fin u).gs):=by
 have jF:(G.on (aC u++G.top)).gs=(aC u++G.top)++(G.hb++(G.bb++G.rg.map (·.1))):=rfl
 have IX:(G.fin u).gs=G.top++(G.hb++(aC u++G.rg.map (·.1))):=rfl
 rw[hb,List.nil_append]at jF
 have td:((aC u++G.top)++(G.hb++G.rg.map (·.1))).Perm (G.top++(G.hb++(aC u++G.rg.map (·.1)))):=by
  refine(List.Perm.append_right _ List.perm_append_comm).trans ?_
  rw[List.append_assoc]
  refine List.Perm.append_left _ ?_
  rw[←List.append_assoc,←List.append_assoc]
  exact List.Perm.append_right _ List.perm_append_comm
 have er:rem H (G.fin u).gs=rem H (G.on (aC u++G.top)).gs:=aaN fun q=>by rw[jF,IX];exact(td.mem_iff).symm
 have dW:=h.q.nd
 rw[jF]at dW
 refine⟨⟨by rw[IX];exact td.nodup_iff.1 dW,fun q hq=>h.q.top q (List.mem_append_right _ hq),h.q.iC,h.q.l9,h.q.rows,fun i p hp=> ?_,?_⟩,by rw[er];exact h.le⟩
 ·rw[er];exact h.q.row i p hp
 ·have h1:=h.own
  rw[List.length_map,List.length_range]at h1
  rcases h1.2 with ⟨h2,h3⟩ | ⟨g,cap,h2,h3,_⟩
  ·exact .inl ⟨h3,by show aC u = [];rw[h2];rfl,h2⟩
  ·exact .inr ⟨g,cap,_,by show aC u = [g];rw[h2];rfl,h2,by rw[h3,wb,List.map_map];rfl⟩
section
variable {p:Prg}
abbrev _root_.Lp.Prg.xf(p:Prg)(j:Nat):Nat:=a7 p.lp.free j-j
abbrev _root_.Lp.Prg.sf(p:Prg)(i:Nat):Nat:=bB p.lp.rel p.c1 i-p.c1
abbrev _root_.Lp.Prg.af(p:Prg)(i:Nat):Nat:=a8 p.lp.rel p.aH p.u i-p.u
theorem akZ{j:Nat}:p.xf (j+1)=p.xf j+(if p.lp.free j then 1 else 0):=by
 have h1:a7 p.lp.free (j+1)=a7 p.lp.free j+1+(if p.lp.free j then 1 else 0):=rfl
 have h2:=zK (fr:=p.lp.free) j
 show a7 p.lp.free (j+1)-(j+1)=a7 p.lp.free j-j+_
 omega
theorem ak0(rel:Nat→Int)(c i:Nat):c≤bB rel c i:=by
 induction i with
 | zero=>exact Nat.le_refl _
 | succ i ih=>exact Nat.le_trans ih (Nat.le_add_right _ _)
theorem ak1(rel sg:Nat→Int)(u i:Nat):u≤a8 rel sg u i:=by
 induction i with
 | zero=>exact Nat.le_refl _
 | succ i ih=>exact Nat.le_trans ih (Nat.le_add_right _ _)
theorem ak2{i:Nat}:p.sf (i+1)=p.sf i+(if p.lp.rel i=2 then 0 else 1):=by
 have h1:bB p.lp.rel p.c1 (i+1)=bB p.lp.rel p.c1 i+(if p.lp.rel i=2 then 0 else 1):=rfl
 have h2:=ak0 p.lp.rel p.c1 i
 show bB p.lp.rel p.c1 (i+1)-p.c1=bB p.lp.rel p.c1 i-p.c1+_
 omega
theorem ak3{i:Nat}:p.af (i+1)=p.af i+(if fa (p.lp.rel i) (p.aH i)then 0 else 1):=by
 have h1:a8 p.lp.rel p.aH p.u (i+1)=a8 p.lp.rel p.aH p.u i+(if fa (p.lp.rel i) (p.aH i)then 0 else 1):=rfl
 have h2:=ak1 p.lp.rel p.aH p.u i
 show a8 p.lp.rel p.aH p.u (i+1)-p.u=a8 p.lp.rel p.aH p.u i-p.u+_
 omega
theorem abg{i:Nat}{r:List Rat×Int×Rat}(h:p.rows[i]? = some r):(fB r).2.1=kr (p.lp.rel i) (p.aH i):=by
 have e:=Prg.qF h
 have h1:p.lp.rel i=r.2.1:=by show (p.row i).2.1=_;rw[e]
 have h2:p.lp.b i=r.2.2:=by show (p.row i).2.2=_;rw[e]
 show _=kr (p.lp.rel i) (kJ (p.lp.b i) (p.lp.rel i))
 rw[h1,h2]
 unfold fB
 rcases sS r.2.2 r.2.1 with k | k
 ·rw[if_pos k,k];unfold kr;rw[if_pos rfl]
 ·rw[if_neg (by rw[k];decide),k]
theorem ak4{i:Nat}{r:List Rat×Int×Rat}(h:p.rows[i]? = some r):(fB r).2.2=p.lp.b i*(p.aH i:Rat):=by
 have e:=Prg.qF h
 have h1:p.lp.rel i=r.2.1:=by show (p.row i).2.1=_;rw[e]
 have h2:p.lp.b i=r.2.2:=by show (p.row i).2.2=_;rw[e]
 show _=_*((kJ (p.lp.b i) (p.lp.rel i):Int):Rat)
 rw[h1,h2]
 unfold fB
 rcases sS r.2.2 r.2.1 with k | k
 ·rw[if_pos k,k];exact(Rat.mul_one _).symm
 ·rw[if_neg (by rw[k];decide),k]
  show -r.2.2=r.2.2 * -1
  grind
theorem ak5{r:List Rat×Int×Rat}:(fB r).1.length=r.1.length:=by
 unfold fB;split <;> simp
theorem ak6{i j:Nat}{r:List Rat×Int×Rat}{q:Rat}(h:p.rows[i]? = some r)(hj:r.1[j]? = some q):(fB r).1[j]? = some (p.lp.a i j*(p.aH i:Rat)):=by
 have e:=Prg.qF h
 have h1:p.lp.rel i=r.2.1:=by show (p.row i).2.1=_;rw[e]
 have h2:p.lp.b i=r.2.2:=by show (p.row i).2.2=_;rw[e]
 have h3:p.lp.a i j=q:=by show fn (p.row i).1 j=_;rw[e];exact m8 hj
 show _=some (_*((kJ (p.lp.b i) (p.lp.rel i):Int):Rat))
 rw[h1,h2,h3]
 unfold fB
 rcases sS r.2.2 r.2.1 with k | k
 ·rw[if_pos k,k,hj]
  show some q=some (q*1)
  rw[Rat.mul_one]
 ·rw[if_neg (by rw[k];decide),k]
  show (r.1.map (fun q=> -q))[j]? = some (q * -1)
  rw[List.getElem?_map,hj]
  show some (-q)=some (q * -1)
  rw[show -q=q * -1 from by grind]
end
end Go.aq
namespace Go.aq
open Go.Proofs Num Lp
theorem GU.hle{K H:Heap}{G:GG}{R W m:Nat}{M:Nat→Nat→Rat}{B:Nat→Nat}{u:Value}{l:List Nat}(h:GU K H G R W m M B u l):Heap.le K H:=h.le.trans (bF _ _)
theorem SZ.hle{C:Heap→List Value→Prop}{K H:Heap}{G:GG}{R W m:Nat}{M:Nat→Nat→Rat}{B:Nat→Nat}{u:Value}{l:List Nat}{z:Nat}(h:SZ C K H G R W m M B u l z):Heap.le K H:=h.le.trans (bF _ _)
theorem abh{rel s:Int}(hr:rel=1∨rel=2∨rel=3)(hs:s=1∨s = -1):(kr rel s=1∨kr rel s=2∨kr rel s=3)∧(kr rel s=2↔rel=2):=by
 unfold kr
 rcases hr with rfl | rfl | rfl <;> rcases hs with rfl | rfl <;> simp
theorem ak7{f:Nat→Rat}{k:Nat}{a b:Rat}:bT (bT f k a) k b=bT f k b:=by
 funext j
 by_cases e:j=k
 ·subst e;rw[jw,jw]
 ·rw[eM e,eM e,eM e]
def Th(p:Prg)(i:Nat):Nat→Rat:=bT (fe p (p.lp.a i) (p.aH i:Rat) p.lp.n) p.w (p.lp.b i*(p.aH i:Rat))
def E2(p:Prg)(i:Nat):Nat→Rat:=if p.lp.rel i=2 then Th p i else bT (Th p i) (bB p.lp.rel p.c1 i) (if kr (p.lp.rel i) (p.aH i)=1 then 1 else -1)
theorem abi{p:Prg}{i:Nat}:dM p i=if kr (p.lp.rel i) (p.aH i)=1 then E2 p i else bT (E2 p i) (a8 p.lp.rel p.aH p.u i) 1:=rfl
theorem ak8{H:Heap}{p:Prg}{pv:Value}{N:Nat}(bO:p.Ok)(hp:nt N H pv p)(hN:N≤400000000):
 Fn Tryz.prog 54 #[pv] H (fun v H'=>∃G,v = .tuple #[.agg #[.slice G.Ar p.lp.m G.cr,G.bv],.int .i64 (p.u:Int)]∧G.top = []∧cD iK H' G p.lp.m (p.w+1) p.lp.m (dM p) p.unit∧Heap.le H (rem H' G.gs)):=by
 obtain⟨fv,kK,rfl,nx,ny⟩:=id hp
 obtain⟨Af,cf,xf,rfl,p3,p4⟩:=nx.one
 obtain⟨Ar,cr,xr,rfl,qu,kL,sX⟩:=id ny
 have mr:=bO.pP
 have QA:=bO.rows
 have hpn:p.lp.n=p.free.length:=rfl
 have td:p.lp.m=p.rows.length:=rfl
 have du:=xZ (p:=p)
 have hcu:=mI p
 have mG:=fy p
 have Q5:p.w≤2*p.lp.n+2*p.lp.m:=HD p
 have Ah:p.c1=p.free.length+p.xf p.free.length:=by show a7 _ _=_+(a7 p.lp.free p.lp.n-p.lp.n);have:=zK (fr:=p.lp.free) p.lp.n;omega
 have mB:p.u=p.c1+p.sf p.rows.length:=by show bB _ _ _=_+(bB p.lp.rel p.c1 p.lp.m-p.c1);have:=(sT p.lp.rel p.c1 p.lp.m).2;omega
 have han:p.w=p.u+p.af p.rows.length:=by show a8 _ _ _ _=_+(a8 p.lp.rel p.aH p.u p.lp.m-p.u);have:=(qQ p.lp.rel p.aH p.u p.lp.m).2;omega
 obtain⟨W,hW⟩:∃W,W=p.w+1:=⟨_,rfl⟩
 rw[←hW];refine aY (args:=[_]) Tryz.func54 rfl rfl Tryz.ntmps54 rfl rfl fun w0=> ?_;refine ah [0] rfl ?_;refine ae (bZ rfl rfl (bm J6 rfl (aa 1 rfl (ab [1,2] ?_))));refine ae (aB rfl rfl ((lG (n:=0) (by decide) (by decide)).rc) ?_);rintro _ H1 ⟨bg,t4,rfl,cn⟩;rw[show ((0:Int):Rat)=0 from rfl]at cn;refine aB rfl rfl ((lG (n:=1) (by decide) (by decide)).rc) ?_;rintro _ H2 ⟨cA,t5,rfl,eI⟩;rw[show ((1:Int):Rat)=1 from rfl]at eI;have Nb:=bg.trans cA
 have mY:aM (1:Rat)≤2:=by decide
 refine bm cj rfl (bm cj rfl ?_);obtain⟨ti,aj,ak⟩:=aX;refine aI (.inl ⟨rfl,rfl⟩) rfl rfl rfl aj ak rfl rfl rfl ?_;obtain⟨ti,aj,ak⟩:=aX;refine aI (.inl ⟨rfl,rfl⟩) rfl rfl rfl aj ak rfl rfl rfl (ab [1,2,4,5] ?_);refine ae (aa 3 rfl (ab [1,2,4,5,6,7,8] ?_));refine ao (ae (aa 4 rfl (ab [1,2,4,5,6,7,8,28,29] ?_)));refine aE (fI (fun(j:Nat)=>p.free.length-j) (fun(j:Nat)=>put (put (put (put (put (put (put (put (put (emp) 1 (.box [.slice Af p.free.length cf,.slice Ar p.rows.length cr])) 2 (.box [.slice none 0 0,.slice none 0 0])) 4 (.box [.bool t4.f,.slice t4.A1 t4.m1 t4.c1,.slice t4.A2 t4.m2 t4.c2])) 5 (.box [.bool t5.f,.slice t5.A1 t5.m1 t5.c1,.slice t5.A2 t5.m2 t5.c2])) 6 (.val (.int .i64 (p.xf j:Int)))) 7 (.val (.int .i64 0))) 8 (.val (.int .i64 0))) 28 (.val (.int .i64 (p.free.length:Int)))) 29 (.val (.int .i64 (j:Int)))) (fun(j:Nat) H'=>H'=H2∧j≤p.free.length∧p.xf j≤j) 0 (⟨rfl,Nat.zero_le _,Nat.le_refl _⟩) (by repeat (first | exact iN _ | refine dB rfl ?_ | refine dB (jb (by first | omega | (simp;done) | rfl)) ?_)) ?_);rintro j H2b ⟨e2,hj,Xh⟩;rw[e2];clear e2 H2b;refine ae (aa 1 rfl (ab [1,2,4,5,6,7,8,28,29,30] ?_));refine ao (aD rfl (fun hb=> ?_) (fun hb=> ?_))
 ·
  have gY:j<p.free.length:=by simpa using hb
  obtain⟨uf,qS,ks⟩:=p4 j _ (List.getElem?_eq_getElem gY);have ks: [uf] = [Value.bool p.free[j]]:=ks
  cases ks
  have jI:p.lp.free j=p.free[j]:=Prg.Bh (List.getElem?_eq_getElem gY);have e8:=akZ (p:=p) (j:=j);refine aw (ah [1,2,4,5,6,7,8,28,29] rfl ?_);refine ao (aE (ae (aa 2 rfl (ab [1,2,4,5,6,7,8,9,28,29] ?_))));refine ae (aa 3 rfl (aS ag rfl rfl rfl rfl rfl (p3.le Nb) (by rw[Int.toNat_natCast];exact qS) (by omega) (by omega) fun _=> ?_));refine ab [1,2,4,5,6,7,8,28,29,36] ?_;refine aD rfl (fun hb=> ?_) (fun hb=> ?_)
  ·
   have fN:p.lp.free j=true:=by rw[jI];simpa using hb
   rw[if_pos fN]at e8;refine aA rfl (aa 1 rfl (aF rfl rfl ⟨by omega,by omega⟩ (aa 1 rfl (au (ah [1,2,4,5,6,7,8,28,29] rfl ?_)))));refine aA rfl (aF rfl rfl ⟨by omega,by omega⟩ (aa 1 rfl (au ?_)));exact⟨j+1,by omega,ar,rfl,by omega,by omega⟩
  ·
   have fN:¬p.lp.free j=true:=by rw[jI];simpa using hb
   rw[if_neg fN]at e8;refine aw (ah [1,2,4,5,6,7,8,28,29] rfl ?_);refine aA rfl (aF rfl rfl ⟨by omega,by omega⟩ (aa 1 rfl (au ?_)));exact⟨j+1,by omega,ar,rfl,by omega,by omega⟩
 ·
  have gY:p.free.length≤j:=by simpa using hb
  obtain rfl:j=p.free.length:=by omega
  refine aU (ah [1,2,4,5,6,7,8] rfl ?_);refine ae (aa 3 rfl (gO Tryz.underlying53 kU rfl rfl rfl (by omega) (by omega) (by omega) (by omega) ?_));intro gx lB;have zP:=Iw (P:=gB (N+2)) (e:=80) (sz:=5) (zs:=[.slice none 0 0,.int .i64 0,.bool false,.slice none 0 0,.slice none 0 0]) (z:=0) (k:=(p.rows.length:Int)) (c:=p.rows.length) lB rfl (Int.toNat_natCast _) (by unfold maxLen;omega);rw[Int.toNat_natCast]at zP⊢;refine aa 1 rfl (ab [1,2,4,5,6,7,8,10] ?_);refine ao (ae (aa 4 rfl (ab [1,2,4,5,6,7,8,10,46,47] ?_)));refine aE (fD (fun(i:Nat)(w:Value)(ws:List Value)=>p.rows.length-i) (fun(i:Nat)(w:Value)(ws:List Value)=>put (put (put (put (put (put (put (put (put (put (emp) 1 (.box [.slice Af p.free.length cf,.slice Ar p.rows.length cr])) 2 (.box [.slice none 0 0,.slice none 0 0])) 4 (.box [.bool t4.f,.slice t4.A1 t4.m1 t4.c1,.slice t4.A2 t4.m2 t4.c2])) 5 (.box [.bool t5.f,.slice t5.A1 t5.m1 t5.c1,.slice t5.A2 t5.m2 t5.c2])) 6 (.val (.int .i64 (p.xf p.free.length:Int)))) 7 (.val (.int .i64 (p.sf i:Int)))) 8 (.val (.int .i64 (p.af i:Int)))) 10 (.val (w))) 46 (.val (.int .i64 (p.rows.length:Int)))) 47 (.val (.int .i64 (i:Int)))) (fun(i:Nat)(w:Value)(ws:List Value) H'=>eo (gB (N+2)) 80 5 H2 H' w ((p.rows.take i).map fB) ws∧i≤p.rows.length∧p.sf i≤i∧p.af i≤i) 0 _ _ (⟨zP,Nat.zero_le _,by show bB _ _ 0-_≤_;unfold bB;omega,by show a8 _ _ _ 0-_≤_;unfold a8;omega⟩) (by repeat (first | exact iN _ | refine dB rfl ?_ | refine dB (jb (by first | omega | (simp;done) | (show _=((bB _ _ 0-_:Nat):Int);unfold bB;omega) | (show _=((a8 _ _ _ 0-_:Nat):Int);unfold a8;omega))) ?_)) ?_)
  rintro i w ws H3 ⟨hG,hi,hsi,Lq⟩;obtain⟨A3,c3,rfl⟩:=hG.form
  have pe:((p.rows.take i).map fB).length=i:=by simp;omega
  refine ae (aa 1 rfl (ab [1,2,4,5,6,7,8,10,46,47,48] ?_));refine ao (aD rfl (fun hb=> ?_) (fun hb=> ?_))
  ·
   have aO:i<p.rows.length:=by simpa using hb
   obtain⟨r,hr⟩:∃r,p.rows[i]? = some r:=⟨_,List.getElem?_eq_getElem aO⟩;obtain⟨A0,c0,f,A1,m1,c1,A2,m2,c2,sx,ka,ak9,xI⟩:=aN.ai0 sX hr;have E3:=bO.row i r hr;have kM:=bO.valid i aO;have Jg:p.aH i=1∨p.aH i = -1:=sS _ _;have cZ:=abg hr;have ho:=Sd kM Jg;obtain⟨dY,dJ⟩:=abh kM Jg;rw[←cZ]at ho dY dJ;have e7:=ak2 (p:=p) (i:=i);have e8:=ak3 (p:=p) (i:=i);refine aw (ah [1,2,4,5,6,7,8,10,46,47] rfl ?_);refine ao (aE (ae (aa 2 rfl (ab [1,2,4,5,6,7,8,10,11,46,47] ?_))));refine ae (aa 3 rfl (bY (vs:=[.slice A0 r.1.length c0,.int .i64 r.2.1,.bool f,.slice A1 m1 c1,.slice A2 m2 c2]) ag rfl rfl rfl rfl (kL.le (Nb.trans hG.le)) rfl (by decide) xI (by omega) (by omega) fun _=>(aB rfl rfl (hG.call (aky (N:=N) (lF N _ _ _ _ (Nb.trans hG.base) ⟨_,_,_,_,rfl,ka,ak9⟩) hN (by rw[E3.1];omega) E3.2)) ?_)));rintro _ H6 lO;have iJ:=hG.km (lF (N+2)) lO fun _ _ h=>h.1;obtain⟨⟨_,A5,c5,f5,B1,k1,e1,B2,k2,e2,rfl,nT⟩,_⟩:=lO;refine bm kU rfl ?_;obtain⟨ti,aj,ak⟩:=oA;refine aI (.inl ⟨rfl,rfl⟩) rfl rfl rfl aj ak rfl rfl rfl (ab [1,2,4,5,6,7,8,10,12,46,47] ?_);refine ae (aa 2 rfl (cS Tryz.underlying53 kU rfl rfl rfl rfl rfl rfl rfl ?_))
   intro gd rQ;have qT:=iJ.ins (lF (N+2)) (whole (ee [.agg #[.slice A5 r.1.length c5,.int .i64 (fB r).2.1,.bool f5,.slice B1 k1 e1,.slice B2 k2 e2]]) 80) rQ;refine eD Tryz.underlying53 kU rfl rfl qT.own (eN _ _ _ _ _ _) rfl (ZF _ _ _ _ _ _ _ _ _ _ _) (by rw[pe];omega) (by rw[pe];omega) ?_;intro v9 H9 uA;have oa:=qT.append (lF (N+2)) (k:=[fB r]) (by simp) uA (jq (lF (N+2) _ _ _ _ (se _ (Heap.bI _ rQ)) nT) rfl);obtain⟨F9,f9,rfl⟩:=oa.form;refine aa 1 rfl (ab [1,2,4,5,6,7,8,10,12,46,47] ?_);refine ao (ae (aa 3 rfl (ab [1,2,4,5,6,7,8,10,12,46,47,62] ?_)));refine aD rfl (fun hb=> ?_) (fun hb=> ?_)
   ·
    have hb:¬(fB r).2.1=2:=by simpa using hb
    rw[if_neg (fun h=>hb (dJ.2 h))]at e7;refine aA rfl (aa 1 rfl (aF rfl rfl ⟨by omega,by omega⟩ (aa 1 rfl (au (ah [1,2,4,5,6,7,8,10,12,46,47] rfl ?_)))));refine ae (aa 3 rfl (ab [1,2,4,5,6,7,8,10,46,47,67] ?_));refine aD rfl (fun hb=> ?_) (fun hb=> ?_)
    ·
     have hb:¬(fB r).2.1=1:=by simpa using hb
     rw[if_neg (fun h=>hb (ho.1 h))]at e8;refine aA rfl (aa 1 rfl (aF rfl rfl ⟨by omega,by omega⟩ (aa 1 rfl (au (ah [1,2,4,5,6,7,8,10,46,47] rfl ?_)))));refine aA rfl (aF rfl rfl ⟨by omega,by omega⟩ (aa 1 rfl (au ?_)));exact⟨i+1,_,_,by omega,ar,by rw[uL hr];exact oa,by omega,by omega,by omega⟩
    have hb:(fB r).2.1=1:=by simpa using hb
    rw[if_pos (ho.2 hb)]at e8;refine aw (ah [1,2,4,5,6,7,8,10,46,47] rfl ?_);refine aA rfl (aF rfl rfl ⟨by omega,by omega⟩ (aa 1 rfl (au ?_)));exact⟨i+1,_,_,by omega,ar,by rw[uL hr];exact oa,by omega,by omega,by omega⟩
   have hb:(fB r).2.1=2:=by simpa using hb
   rw[if_pos (dJ.1 hb)]at e7;refine aw (ah [1,2,4,5,6,7,8,10,12,46,47] rfl ?_);refine ae (aa 3 rfl (ab [1,2,4,5,6,7,8,10,46,47,67] ?_));refine aD rfl (fun hb=> ?_) (fun hb=> ?_)
   ·
    have hb:¬(fB r).2.1=1:=by simpa using hb
    rw[if_neg (fun h=>hb (ho.1 h))]at e8;refine aA rfl (aa 1 rfl (aF rfl rfl ⟨by omega,by omega⟩ (aa 1 rfl (au (ah [1,2,4,5,6,7,8,10,46,47] rfl ?_)))));refine aA rfl (aF rfl rfl ⟨by omega,by omega⟩ (aa 1 rfl (au ?_)));exact⟨i+1,_,_,by omega,ar,by rw[uL hr];exact oa,by omega,by omega,by omega⟩
   have hb:(fB r).2.1=1:=by simpa using hb
   rw[if_pos (ho.2 hb)]at e8;refine aw (ah [1,2,4,5,6,7,8,10,46,47] rfl ?_);refine aA rfl (aF rfl rfl ⟨by omega,by omega⟩ (aa 1 rfl (au ?_)));exact⟨i+1,_,_,by omega,ar,by rw[uL hr];exact oa,by omega,by omega,by omega⟩
  have aO:p.rows.length≤i:=by simpa using hb
  obtain rfl:i=p.rows.length:=by omega
  rw[pe];have zX:=hG.sl (lF (N+2));rw[List.take_length]at zX;obtain⟨A3',c3',x3,e3,pN,xt,ic⟩:=id zX
  cases e3
  have abj:=Nb.trans hG.le;have hs0:bB p.lp.rel p.c1 0=p.c1:=rfl;have hu0:a8 p.lp.rel p.aH p.u 0=p.u:=rfl;have cn:=(cn.le cA).le hG.le;have eI:=eI.le hG.le;refine aU (ah [1,2,4,5,6,7,8,10] rfl ?_);refine ae (aa 4 rfl (aF rfl rfl ⟨by omega,by omega⟩ (aa 1 rfl (aF rfl rfl ⟨by omega,by omega⟩ (aa 1 rfl (ab [1,2,4,5,6,8,10,13] ?_))))));refine ae (bm J6 rfl (ab [1,2,4,5,6,8,10,13,14] ?_));refine ae (aa 4 rfl (aF rfl rfl ⟨by omega,by omega⟩ (aa 3 rfl (ab [1,2,4,5,8,10,13,14,15,16] ?_))));refine ao (ae (aa 3 rfl (ab [1,2,4,5,8,13,14,15,16,84,85,86] ?_)));refine aE (fD (fun(i:Nat)(G:GG)(u:Value)=>p.rows.length-i) (fun(i:Nat)(G:GG)(u:Value)=>put (put (put (put (put (put (put (put (put (put (put (put (emp) 1 (.box [.slice Af p.free.length cf,.slice Ar p.rows.length cr])) 2 (.box [.slice none 0 0,.slice none 0 0])) 4 (.box [.bool t4.f,.slice t4.A1 t4.m1 t4.c1,.slice t4.A2 t4.m2 t4.c2])) 5 (.box [.bool t5.f,.slice t5.A1 t5.m1 t5.c1,.slice t5.A2 t5.m2 t5.c2])) 8 (.val (.int .i64 (p.af p.rows.length:Int)))) 13 (.val (.int .i64 (p.u:Int)))) 14 (.box [.slice G.Ar i G.cr,u])) 15 (.val (.int .i64 (bB p.lp.rel p.c1 i:Int)))) 16 (.val (.int .i64 (a8 p.lp.rel p.aH p.u i:Int)))) 84 (.val (.slice A3 p.rows.length c3))) 85 (.val (.int .i64 (p.rows.length:Int)))) 86 (.val (.int .i64 (i:Int)))) (fun(i:Nat)(G:GG)(u:Value) H'=>GU H3 H' G i W 0 (dM p) p.unit u ((List.range i).map p.unit)∧G.top = []∧G.bb = []∧i≤p.rows.length) 0 g0 (.slice none 0 0) (⟨akY,rfl,rfl,Nat.zero_le _⟩) (by repeat (first | exact iN _ | refine dB rfl ?_ | refine dB (jb (by first | omega | (simp;done) | rfl)) ?_)) ?_)
  rintro i G u H4 ⟨hU,Tj,hGb,hi⟩
  have tI:((List.range i).map p.unit).length=i:=by simp
  refine ae (aa 1 rfl (ab [1,2,4,5,8,13,14,15,16,84,85,86,87] ?_));refine ao (aD rfl (fun hb=> ?_) (fun hb=> ?_))
  ·
   have aO:i<p.rows.length:=by simpa using hb
   obtain⟨r,hr⟩:∃r,p.rows[i]? = some r:=⟨_,List.getElem?_eq_getElem aO⟩
   have gT:(p.rows.length:Nat)=(p.rows.map fB).length:=by simp
   obtain⟨vs5,I5,Tk,abk⟩:=ic.get (show (p.rows.map fB)[i]? = some (fB r) by rw[List.getElem?_map,hr];rfl);obtain⟨A5,c5,L5,f5,B1,k1,e1,B2,k2,e2,rfl,rfl⟩:=gB.cells Tk;have Tl:cW H3 (.agg #[.bool f5,.slice B1 k1 e1,.slice B2 k2 e2]) (fB r).2.2 (N+2):=gB.bound Tk;have ala:aN (dA (N+2)) 3 H3 (.slice A5 (fB r).1.length c5) (fB r).1:=gB.bU Tk;obtain⟨A5',c5',x5,e5,l4,alb,nn⟩:=id ala
   cases e5
   rw[ak5]at abk;have E3:=bO.row i r hr;have kM:=bO.valid i aO;have Jg:p.aH i=1∨p.aH i = -1:=sS _ _;have cZ:=abg hr;rw[ak4 hr]at Tl;have ho:=Sd kM Jg;obtain⟨dY,dJ⟩:=abh kM Jg;have sI:=(sT p.lp.rel p.c1 i);have hu9:=(qQ p.lp.rel p.aH p.u i);have Hf:bB p.lp.rel p.c1 (i+1)=bB p.lp.rel p.c1 i+(if p.lp.rel i=2 then 0 else 1):=rfl;have abl:a8 p.lp.rel p.aH p.u (i+1)=a8 p.lp.rel p.aH p.u i+(if fa (p.lp.rel i) (p.aH i)then 0 else 1):=rfl;refine aw (ah [1,2,4,5,8,13,14,15,16,84,85,86] rfl ?_);refine ao (aE (ae (bY (vs:=[.slice A5 r.1.length c5,.int .i64 (fB r).2.1,.bool f5,.slice B1 k1 e1,.slice B2 k2 e2]) ag rfl rfl rfl rfl (xt.le hU.hle) rfl (by decide) abk (by omega) (by omega) fun _=>(bm kU rfl ?_))));obtain⟨ti,aj,ak⟩:=oA;refine aI (.inl ⟨rfl,rfl⟩) rfl rfl rfl aj ak rfl rfl rfl (ab [1,2,4,5,8,13,14,15,16,18,84,85,86] ?_);refine ae (aa 2 rfl (aF rfl rfl ⟨by omega,by omega⟩ (aF rfl rfl ⟨by omega,by omega⟩ (gO Tryz.underlying28 cj rfl rfl rfl (by omega) (by omega) (by omega) (by omega) ?_))));intro z hz;rw[show ((p.u:Int)+(p.af p.rows.length:Int)+1).toNat=W by omega];have CC:=hU.start (C:=lP W (fun _=>0) 0) (xs:=cR [.bool false,.slice none 0 0,.slice none 0 0] (W*3)) hz Na
   refine aa 1 rfl (ab [1,2,4,5,8,13,14,15,16,18,19,84,85,86] ?_);refine ao (ae (aa 3 rfl (ab [1,2,4,5,8,13,14,15,16,18,19,84,85,86,96,97] ?_)));refine aE (fI (fun(k:Nat)=>W-k) (fun(k:Nat)=>put (put (put (put (put (put (put (put (put (put (put (put (put (put (put (put (emp) 1 (.box [.slice Af p.free.length cf,.slice Ar p.rows.length cr])) 2 (.box [.slice none 0 0,.slice none 0 0])) 4 (.box [.bool t4.f,.slice t4.A1 t4.m1 t4.c1,.slice t4.A2 t4.m2 t4.c2])) 5 (.box [.bool t5.f,.slice t5.A1 t5.m1 t5.c1,.slice t5.A2 t5.m2 t5.c2])) 8 (.val (.int .i64 (p.af p.rows.length:Int)))) 13 (.val (.int .i64 (p.u:Int)))) 14 (.box [.slice G.Ar i G.cr,u])) 15 (.val (.int .i64 (bB p.lp.rel p.c1 i:Int)))) 16 (.val (.int .i64 (a8 p.lp.rel p.aH p.u i:Int)))) 18 (.box [.slice A5 r.1.length c5,.int .i64 (fB r).2.1,.bool f5,.slice B1 k1 e1,.slice B2 k2 e2])) 19 (.val (.slice (some ⟨z,0,none⟩) W W))) 84 (.val (.slice A3 p.rows.length c3))) 85 (.val (.int .i64 (p.rows.length:Int)))) 86 (.val (.int .i64 (i:Int)))) 96 (.val (.int .i64 (W:Int)))) 97 (.val (.int .i64 (k:Int)))) (fun(k:Nat) H'=>SZ (lP W (fun _=>0) k) H3 H' G i W 0 (dM p) p.unit u ((List.range i).map p.unit) z∧k≤W) 0 (⟨CC,Nat.zero_le _⟩) ar ?_);rintro k H5 ⟨hS,hk⟩;obtain⟨xs,hx,hC⟩:=hS.row;have cY:=Jf hC hk;refine ae (vr 1 ?_)
   refine ab [1,2,4,5,8,13,14,15,16,18,19,84,85,86,96,97,98] ?_;refine ao (aD rfl (fun hb=> ?_) (fun hb=> ?_))
   ·
    have fk:k<W:=by simpa using hb
    refine aw (ah [1,2,4,5,8,13,14,15,16,18,19,84,85,86,96,97] rfl ?_);refine ao (aE (ae (aa 2 rfl (ab [1,2,4,5,8,13,14,15,16,18,19,20,84,85,86,96,97] ?_))));refine aA rfl (vr 3 ?_);obtain⟨ti,aj,ak⟩:=aX;refine cT (.inl rfl) ag rfl rfl rfl (by omega) (by omega) (hx) rfl (by show 0+W*3≤xs.length;omega) aj ak (fun _=>rfl) rfl rfl rfl fun _=> ?_;refine au ?_;rw[pf,Int.toNat_natCast];have jY:=hS.set (.refl _ _) (M7 hC fk (show cg _ [_,_,_] _ from cn.le hS.le));refine ah [1,2,4,5,8,13,14,15,16,18,19,84,85,86,96,97] rfl ?_;refine aA rfl (aF rfl rfl ⟨by omega,by omega⟩ (aa 1 rfl (au ?_)));exact⟨k+1,by omega,ar,jY,by omega⟩
   have fk:W≤k:=by simpa using hb
   obtain rfl:k=W:=by omega
   have CD:=hS.to (C':=ll k (fe p (p.lp.a i) (p.aH i:Rat) 0)) fun _ h=>M8 h;refine aU (ah [1,2,4,5,8,13,14,15,16,18,19,84,85,86] rfl ?_);refine ae (aa 4 rfl (ab [1,2,4,5,8,13,14,15,16,18,19,21,84,85,86] ?_));refine ao (ae (aa 4 rfl (ab [1,2,4,5,8,13,14,15,16,18,19,21,84,85,86,110,111] ?_)));refine aE (fI (fun(j:Nat)=>p.free.length-j) (fun(j:Nat)=>put (put (put (put (put (put (put (put (put (put (put (put (put (put (put (put (put (emp) 1 (.box [.slice Af p.free.length cf,.slice Ar p.rows.length cr])) 2 (.box [.slice none 0 0,.slice none 0 0])) 4 (.box [.bool t4.f,.slice t4.A1 t4.m1 t4.c1,.slice t4.A2 t4.m2 t4.c2])) 5 (.box [.bool t5.f,.slice t5.A1 t5.m1 t5.c1,.slice t5.A2 t5.m2 t5.c2])) 8 (.val (.int .i64 (p.af p.rows.length:Int)))) 13 (.val (.int .i64 (p.u:Int)))) 14 (.box [.slice G.Ar i G.cr,u])) 15 (.val (.int .i64 (bB p.lp.rel p.c1 i:Int)))) 16 (.val (.int .i64 (a8 p.lp.rel p.aH p.u i:Int)))) 18 (.box [.slice A5 r.1.length c5,.int .i64 (fB r).2.1,.bool f5,.slice B1 k1 e1,.slice B2 k2 e2])) 19 (.val (.slice (some ⟨z,0,none⟩) k k))) 84 (.val (.slice A3 p.rows.length c3))) 85 (.val (.int .i64 (p.rows.length:Int)))) 86 (.val (.int .i64 (i:Int)))) 21 (.val (.int .i64 (p.mi j:Int)))) 110 (.val (.int .i64 (p.free.length:Int)))) 111 (.val (.int .i64 (j:Int)))) (fun(j:Nat) H'=>SZ (ll k (fe p (p.lp.a i) (p.aH i:Rat) j)) H3 H' G i k 0 (dM p) p.unit u ((List.range i).map p.unit) z∧j≤p.free.length) 0 (⟨CD,Nat.zero_le _⟩) (by repeat (first | exact iN _ | refine dB rfl ?_ | refine dB (jb (by first | omega | (simp;done) | rfl)) ?_)) ?_)
   rintro j H7 ⟨hS,hj⟩;obtain⟨xs,hx,hC⟩:=hS.row;have cY:=yh hC;refine ae (aa 1 rfl (ab [1,2,4,5,8,13,14,15,16,18,19,21,84,85,86,110,111,112] ?_));refine ao (aD rfl (fun hb=> ?_) (fun hb=> ?_))
   ·
    have gY:j<p.free.length:=by simpa using hb
    obtain⟨uf,qS,ks⟩:=p4 j _ (List.getElem?_eq_getElem gY);have ks: [uf] = [Value.bool p.free[j]]:=ks
    cases ks
    have jI:p.lp.free j=p.free[j]:=Prg.Bh (List.getElem?_eq_getElem gY);obtain⟨g6,G1,n1,o1,G2,n2,o2,SI,wi,Tm⟩:=aN.s7 nn (ak6 hr (List.getElem?_eq_getElem (show j<r.1.length by rw[E3.1];exact gY)));have aaD:=MI (p:=p) (j:=j);have Tn:=wi.size;refine aw (ah [1,2,4,5,8,13,14,15,16,18,19,21,84,85,86,110,111] rfl ?_);refine ao (aE (ae (aa 2 rfl (ab [1,2,4,5,8,13,14,15,16,18,19,21,22,84,85,86,110,111] ?_))));refine ae (aa 5 rfl (bY (vs:=[.bool g6,.slice G1 n1 o1,.slice G2 n2 o2]) ag rfl rfl rfl rfl (alb.le hS.hle) rfl (by decide) Tm (by have:=E3.1;omega) (by have:=E3.1;omega) fun _=> ?_));refine aB rfl rfl (Fn.kq hS.q.ne (uj (wi.le hS.le) (by omega))) ?_;rintro v8 H8 gC;obtain⟨t8,rfl,eJ⟩:=gC.val;have rC:=(gC.kept.same z SZ.mO).trans hx;obtain⟨ti,aj,ak⟩:=aX;refine cT (.inl rfl) ag rfl rfl rfl (by omega) (by omega) (rC) rfl (by show 0+k*3≤xs.length;omega) aj ak (fun _=>rfl) rfl rfl rfl fun _=> ?_;refine ab [1,2,4,5,8,13,14,15,16,18,19,21,22,84,85,86,110,111] ?_;rw[pf,Int.toNat_natCast];have jY:=hS.wo gC.kept hC (show j<k by omega) (show cg _ [_,_,_] _ from eJ);refine ae (aa 3 rfl (aS ag rfl rfl rfl rfl rfl (p3.le (abj.trans jY.hle)) (by rw[Int.toNat_natCast];exact qS) (by omega) (by omega) fun _=> ?_))
    refine ab [1,2,4,5,8,13,14,15,16,18,19,21,22,84,85,86,110,111,127] ?_;refine aD rfl (fun hb=> ?_) (fun hb=> ?_)
    ·
     have fN:p.lp.free j=true:=by rw[jI];simpa using hb
     have x8:p.mi j<k:=by have:=we (p:=p) (j:=j) gY fN;omega
     obtain⟨ys,hy,hD⟩:=jY.row;have kR:=yh hD;obtain⟨t9,yf,GF⟩:=mc hD (show j<k by omega);rw[jw]at yf;have qe:aM (p.lp.a i j*(p.aH i:Rat))≤N+4:=Tn;refine ae (aa 4 rfl (bY (vs:=[.bool t9.f,.slice t9.A1 t9.m1 t9.c1,.slice t9.A2 t9.m2 t9.c2]) ag rfl rfl rfl rfl (dQ hy) rfl (by decide) (by rw[Int.toNat_natCast];exact GF) (by omega) (by omega) fun _=> ?_));refine aB rfl rfl (Fn.kq jY.q.ne (Ec ((bH.raw yf).mono qe) (by omega))) ?_;rintro v10 nh tk;obtain⟨t10,rfl,oe⟩:=tk.val;have zU:=(tk.kept.same z SZ.mO).trans hy;obtain⟨ti,aj,ak⟩:=aX;refine cT (.inl rfl) ag rfl rfl rfl (by omega) (by omega) (zU) rfl (by show 0+k*3≤ys.length;omega) aj ak (fun _=>rfl) rfl rfl rfl fun _=> ?_;refine ab [1,2,4,5,8,13,14,15,16,18,19,21,84,85,86,110,111] ?_;rw[pf,Int.toNat_natCast];have uY:=jY.wo tk.kept hD x8 (show cg _ [_,_,_] _ from oe);refine aA rfl (aa 1 rfl (aF rfl rfl ⟨by omega,by omega⟩ (aa 1 rfl (au (ah [1,2,4,5,8,13,14,15,16,18,19,21,84,85,86,110,111] rfl ?_)))));refine aA rfl (aF rfl rfl ⟨by omega,by omega⟩ (aa 1 rfl (au ?_)))
     have e8:p.mi (j+1)=p.mi j+1:=by rw[wg,if_pos fN]
     exact⟨j+1,by omega,ar,by unfold fe;rw[if_pos fN];exact uY,by omega⟩
    have fN:¬p.lp.free j=true:=by rw[jI];simpa using hb
    refine aw (ah [1,2,4,5,8,13,14,15,16,18,19,21,84,85,86,110,111] rfl ?_);refine aA rfl (aF rfl rfl ⟨by omega,by omega⟩ (aa 1 rfl (au ?_)))
    have e8:p.mi (j+1)=p.mi j:=by rw[wg,if_neg fN,Nat.add_zero]
    exact⟨j+1,by omega,ar,by unfold fe;rw[if_neg fN];exact jY,by omega⟩
   have gY:p.free.length≤j:=by simpa using hb
   obtain rfl:j=p.free.length:=by omega
   have Xl:=Tl.size;refine aU (ah [1,2,4,5,8,13,14,15,16,18,19,84,85,86] rfl ?_);refine ae (aa 3 rfl (cQ rfl rfl ⟨by omega,by omega⟩ (aa 2 rfl (aB rfl rfl (Fn.kq hS.q.ne (uj (Tl.le hS.le) (by omega))) ?_))));rintro v8 H8 gC;obtain⟨t8,rfl,eJ⟩:=gC.val;have rC:=(gC.kept.same z SZ.mO).trans hx;obtain⟨ti,aj,ak⟩:=aX;refine cT (.inl rfl) ag rfl rfl rfl (by omega) (by omega) (rC) rfl (by show 0+k*3≤xs.length;omega) aj ak (fun _=>rfl) rfl rfl rfl fun _=> ?_;refine ab [1,2,4,5,8,13,14,15,16,18,19,84,85,86] ?_;rw[pf,show ((k:Int)-1).toNat=p.w by omega];have jY:SZ (ll k (Th p i)) _ _ _ _ _ _ _ _ _ _ _:=hS.wo gC.kept hC (show p.w<k by omega) (show cg _ [_,_,_] _ from eJ);obtain⟨ys,hy,hD⟩:=jY.row;have kR:=yh hD;refine ae (aa 2 rfl (ab [1,2,4,5,8,13,14,15,16,18,19,23,84,85,86] ?_));refine kT (fun(b9:Bool)=>put (put (put (put (put (put (put (put (put (put (put (put (put (put (put (emp) 1 (.box [.slice Af p.free.length cf,.slice Ar p.rows.length cr])) 2 (.box [.slice none 0 0,.slice none 0 0])) 4 (.box [.bool t4.f,.slice t4.A1 t4.m1 t4.c1,.slice t4.A2 t4.m2 t4.c2])) 5 (.box [.bool t5.f,.slice t5.A1 t5.m1 t5.c1,.slice t5.A2 t5.m2 t5.c2])) 8 (.val (.int .i64 (p.af p.rows.length:Int)))) 13 (.val (.int .i64 (p.u:Int)))) 14 (.box [.slice G.Ar i G.cr,u])) 15 (.val (.int .i64 (bB p.lp.rel p.c1 (i+1):Int)))) 16 (.val (.int .i64 (a8 p.lp.rel p.aH p.u i:Int)))) 18 (.box [.slice A5 r.1.length c5,.int .i64 (fB r).2.1,.bool f5,.slice B1 k1 e1,.slice B2 k2 e2])) 19 (.val (.slice (some ⟨z,0,none⟩) k k))) 84 (.val (.slice A3 p.rows.length c3))) 85 (.val (.int .i64 (p.rows.length:Int)))) 86 (.val (.int .i64 (i:Int)))) 23 (.val (.int .i64 (bB p.lp.rel p.c1 i:Int)))) (fun(b9:Bool) H'=>SZ (ll k (E2 p i)) H3 H' G i k 0 (dM p) p.unit u ((List.range i).map p.unit) z) ?_ ?_
   ·
    refine ae (aa 3 rfl (ab [1,2,4,5,8,13,14,15,16,18,19,23,84,85,86,150] ?_));refine aD rfl (fun hb=> ?_) (fun hb=> ?_)
    ·
     have h2:¬p.lp.rel i=2:=fun h=>by have:=dJ.2 h;simp at hb;omega
     have an1:=BQ (p:=p) aO h2;refine ae (vr 3 ?_);obtain⟨ti,aj,ak⟩:=aX;refine cT (.inl rfl) ag rfl rfl rfl (by omega) (by omega) (hy) rfl (by show 0+k*3≤ys.length;omega) aj ak (fun _=>rfl) rfl rfl rfl fun _=> ?_;refine ab [1,2,4,5,8,13,14,15,16,18,19,23,84,85,86] ?_;rw[pf,Int.toNat_natCast];have zX:=jY.wo (.refl _ _) hD (show bB p.lp.rel p.c1 i<k by omega) (show cg _ [_,_,_] _ from eI.le jY.le);obtain⟨zs,hzz,hE⟩:=zX.row;have FH:=yh hE;refine ao (ae (aa 3 rfl (ab [1,2,4,5,8,13,14,15,16,18,19,23,84,85,86,157] ?_)));refine aD rfl (fun hb=> ?_) (fun hb=> ?_)
     ·
      have h3:(fB r).2.1=3:=by simpa using hb
      refine aA rfl (aa 3 rfl (aB rfl rfl (Fn.kq zX.q.ne (Ec ((bH.raw (eI.le zX.le)).mono mY) (by decide))) ?_));rintro v10 nh tk;obtain⟨t10,rfl,oe⟩:=tk.val;have zU:=(tk.kept.same z SZ.mO).trans hzz;obtain⟨ti,aj,ak⟩:=aX;refine cT (.inl rfl) ag rfl rfl rfl (by omega) (by omega) (zU) rfl (by show 0+k*3≤zs.length;omega) aj ak (fun _=>rfl) rfl rfl rfl fun _=> ?_;refine au ?_;rw[pf,Int.toNat_natCast];have uY:=zX.wo tk.kept hE (show bB p.lp.rel p.c1 i<k by omega) (show cg _ [_,_,_] _ from oe);refine ah [1,2,4,5,8,13,14,15,16,18,19,23,84,85,86] rfl ?_;refine aA rfl (aa 1 rfl (aF rfl rfl ⟨by omega,by omega⟩ (aa 1 rfl (au ?_))));rw[if_neg h2]at Hf
      exact⟨true,ar,by
       rw[ak7]at uY
       unfold E2
       rw[if_neg h2,if_neg (by omega)];exact uY⟩
     have h3:¬(fB r).2.1=3:=by simpa using hb
     have h22:¬kr (p.lp.rel i) (p.aH i)=2:=fun h=>h2 (dJ.1 h);refine aw (ah [1,2,4,5,8,13,14,15,16,18,19,23,84,85,86] rfl ?_);refine aA rfl (aa 1 rfl (aF rfl rfl ⟨by omega,by omega⟩ (aa 1 rfl (au ?_))));rw[if_neg h2]at Hf;exact⟨true,ar,by unfold E2;rw[if_neg h2,if_pos (by omega)];exact zX⟩
    have h2:p.lp.rel i=2:=dJ.1 (by rw[←cZ];simpa using hb);refine aw ?_;rw[if_pos h2]at Hf;exact⟨true,ar,by unfold E2;rw[if_pos h2];exact jY⟩
   rintro _ qa Nc;obtain⟨alc,ald,abm⟩:=Nc.row;have an2:=yh abm;refine kT (fun(b9:Bool)=>put (put (put (put (put (put (put (put (put (put (put (put (put (put (emp) 1 (.box [.slice Af p.free.length cf,.slice Ar p.rows.length cr])) 2 (.box [.slice none 0 0,.slice none 0 0])) 4 (.box [.bool t4.f,.slice t4.A1 t4.m1 t4.c1,.slice t4.A2 t4.m2 t4.c2])) 5 (.box [.bool t5.f,.slice t5.A1 t5.m1 t5.c1,.slice t5.A2 t5.m2 t5.c2])) 8 (.val (.int .i64 (p.af p.rows.length:Int)))) 13 (.val (.int .i64 (p.u:Int)))) 14 (.box [.slice G.Ar i G.cr,u])) 15 (.val (.int .i64 (bB p.lp.rel p.c1 (i+1):Int)))) 16 (.val (.int .i64 (a8 p.lp.rel p.aH p.u (i+1):Int)))) 19 (.val (.slice (some ⟨z,0,none⟩) k k))) 84 (.val (.slice A3 p.rows.length c3))) 85 (.val (.int .i64 (p.rows.length:Int)))) 86 (.val (.int .i64 (i:Int)))) 23 (.val (.int .i64 (p.unit i:Int)))) (fun(b9:Bool) H'=>SZ (ll k (dM p i)) H3 H' G i k 0 (dM p) p.unit u ((List.range i).map p.unit) z) ?_ ?_
   ·
    refine ae (aa 3 rfl (ab [1,2,4,5,8,13,14,15,16,19,23,84,85,86,167] ?_));refine aD rfl (fun hb=> ?_) (fun hb=> ?_)
    ·
     have h4:¬(fB r).2.1=1:=by simpa using hb
     have h5:¬fa (p.lp.rel i) (p.aH i)=true:=fun h=>h4 (by have:=ho.1 h;omega);rw[if_neg h5]at abl;have pK:=vT h5;have hul:=nU p aO;refine ae (vr 4 ?_);obtain⟨ti,aj,ak⟩:=aX;refine cT (.inl rfl) ag rfl rfl rfl (by omega) (by omega) (ald) rfl (by show 0+k*3≤alc.length;omega) aj ak (fun _=>rfl) rfl rfl rfl fun _=> ?_;refine aa 1 rfl (ab [1,2,4,5,8,13,14,15,16,19,23,84,85,86] ?_);rw[pf,Int.toNat_natCast];have Nd:=Nc.wo (.refl _ _) abm (show a8 p.lp.rel p.aH p.u i<k by omega) (show cg _ [_,_,_] _ from eI.le Nc.le);refine aA rfl (aa 1 rfl (aF rfl rfl ⟨by omega,by omega⟩ (aa 1 rfl (au ?_))));exact⟨true,ar,by rw[abi,if_neg (by omega)];exact Nd⟩
    have h4:(fB r).2.1=1:=by simpa using hb
    have h5:=ho.2 (by omega);rw[if_pos h5]at abl;have pK:=zr h5;refine aw ?_;exact⟨true,ar,by rw[abi,if_pos (by omega)];exact Nc⟩
   rintro _ E0 abn;obtain⟨an3,an4,an5⟩:=abn.row;refine eK .bK [0,1,2,5,6,7,3,4,10,8,9,11,12,13] follows (by kernel_rfl) ?_;refine aa 6 rfl (cS Tryz.underlying84 AK rfl rfl rfl rfl rfl rfl rfl ?_);intro gb a6;have abo:=abn.fresh zW (e:=whole [.slice (some ⟨z,0,none⟩) k k] 28) a6;refine eD Tryz.underlying84 AK rfl rfl abo.q.rows (eN _ _ _ _ _ _) rfl (BP _ _ _) (by omega) (by omega) ?_;intro v8 S6 nV;obtain⟨A9,c9,rfl⟩:=nV.own.form;have To:=abo.more (MU nV)
   replace To:=To.Cw fun i' eZ j' Ml=>show dM p i' j'=(if i'=i then dM p i else dM p i') j' by
    by_cases e9:i'=i
    ·rw[if_pos e9,e9]
    ·rw[if_neg e9]
   refine aa 1 rfl (cS Tryz.underlying49 fE rfl rfl rfl rfl rfl rfl rfl ?_);intro gc kI;have abp:=To.fresh (e:=whole [.int .i64 (p.unit i:Int)] 3) kI;refine eD Tryz.underlying49 fE rfl rfl abp.own (eN _ _ _ _ _ _) rfl (sV _) (by omega) (by omega) ?_;intro u9 Et uA;obtain⟨Au9,cu9,rfl⟩:=uA.own.form;have rh:=abp.app rfl uA;rw[←ai3 (f:=p.unit)]at rh;obtain⟨ti,aj,ak⟩:=J5;refine aI (.inr rfl) rfl rfl rfl aj ak rfl rfl rfl (vr 1 ?_);obtain⟨ti,aj,ak⟩:=vt;refine aI (.inr rfl) rfl rfl rfl aj ak rfl rfl rfl (au (ah [1,2,4,5,8,13,14,15,16,84,85,86] rfl ?_));refine aA rfl (aF rfl rfl ⟨by omega,by omega⟩ (aa 1 rfl (au ?_)));exact⟨i+1,G.more G.top z _ A9 c9 i,_,by omega,ar,rh,Tj,hGb,by omega⟩
  have aO:p.rows.length≤i:=by simpa using hb
  obtain rfl:i=p.rows.length:=by omega
  obtain⟨Au,cu,rfl⟩:=hU.own.form;have abq:=hU.fin hGb;refine aU (ah [2,13,14] rfl ?_);refine ae (vr 2 ?_);obtain⟨ti,aj,ak⟩:=Od;refine aI (.inl ⟨rfl,rfl⟩) rfl rfl rfl aj ak rfl rfl rfl (aa 1 rfl (ab [2,3] ?_));obtain⟨b8,aP,aQ⟩:=Od;refine az ⟨.inr rfl,_,.agg rfl Tryz.underlying86 aP aQ (.tmp rfl (.nil)),?_⟩;exact⟨G.fin _,rfl,Tj,abq.1,abj.trans abq.2⟩
end Go.aq
namespace Go.aq
open Go.Proofs Num Lp
theorem abr{M:Nat→Nat→Rat}{B:Nat→Nat}{n m N:Nat}(hN:1≤N)(hz:∀i,i<m→aM (M i n)≤N)(j:Nat):∀i,i≤m→aM (iL M B n i j)≤N:=by
 intro i
 induction i with
 | zero=>intro _;exact Nat.le_trans MR hN
 | succ i ih=>
  intro hi
  unfold iL
  by_cases e:j=B i
  ·rw[e,jw];exact hz i (by omega)
  ·rw[eM e];exact ih (by omega)
theorem ale{p:Prg}{a:Nat→Rat}{N:Nat}(h:∀j,aM (a j)≤N)(j:Nat):aM (jJ p a j)≤2*N+1:=by
 unfold jJ
 have h1:=h j
 have h2:=h (p.mi j)
 have h3:=so (a j) (a (p.mi j))
 split <;> omega
theorem Jh{H H':Heap}{z:Nat}{e:Ent}(hz:H z=none)(hl:Heap.le H H'):Heap.le H (ins H' z e):=fun q en hq=>by
 obtain⟨Ef,h1,h2⟩:=hl q en hq
 exact⟨Ef,by rw[bn _ _ (fun(e':q=z)=>by rw[e',hz]at hq;cases hq)];exact h1,h2⟩
theorem alf{H:Heap}{G:GG}{R W m N N1:Nat}{M:Nat→Nat→Rat}{B:Nat→Nat}{p:Prg}{pv cv:Value}{c:List Rat}(h:cD iK H G R W m M B)(R7:m≤R)(hp:nt N (rem H G.gs) pv p)(hc:aN (dA N) 3 (rem H G.gs) cv c)(fj:c.length=p.free.length)(te:p.c1≤W)(hB:∀i,i<m→B i<W)(hR:(R:Int)≤900000)(hW:(W:Int)≤1000000)(hN:(N:Int)≤400000000)(hN1:(N1:Int)≤300000000000)(hz:∀i,i≤m→∀k,k<W→aM (lN M B (fe p (fn c) 1 p.lp.n) i k)≤N1)(yc:∀i,i<m→∀k,k<W→aM (M i k)≤N1):
 Fn Tryz.prog 59 #[pv,cv,.agg #[.slice G.Ar R G.cr,G.bv],.int .i64 (W:Int)] H (fun v H'=>∃z,v = .slice (some ⟨z,0,none⟩) W W∧SZ (ll W (lN M B (fe p (fn c) 1 p.lp.n) m)) (rem H G.gs) H' G R W m M B (.slice none 0 0) [] z∧Heap.le H H'):=by
 obtain⟨fv,kK,rfl,nx,ny⟩:=id hp
 obtain⟨Af,cf,xf,rfl,p3,p4⟩:=nx.one
 obtain⟨Ar,cr,xr,rfl,qu,kL,sX⟩:=id ny
 obtain⟨Ab,cb,dy,fJ⟩:=h.th
 rw[dy]
 have du:=xZ (p:=p)
 have hpn:p.lp.n=p.free.length:=rfl
 have Sj:p.free.length≤W:=Nat.le_trans du te
 obtain⟨Ac,cc,xc,rfl,L1,nP,uc⟩:=id hc;refine aY (args:=[_,_,_,_]) Tryz.func59 rfl rfl Tryz.ntmps59 rfl rfl fun w0=> ?_;refine ah [0,1,2,3] rfl ?_;refine ae (bZ rfl rfl (bZ rfl rfl (aa 1 rfl (ab [1,3,4,6] ?_))));refine ae (aa 1 rfl (gO Tryz.underlying28 cj rfl rfl rfl (by omega) (by omega) (by omega) (by omega) ?_));intro z jh;rw[Int.toNat_natCast];have CC:=h.gu.start (C:=lP W (fun _=>0) 0) (xs:=cR [.bool false,.slice none 0 0,.slice none 0 0] (W*3)) jh Na;refine aa 1 rfl (ab [1,4,6,9] ?_);refine ao (ae (aa 3 rfl (ab [1,4,6,9,19,20] ?_)));refine aE (fI (fun(k:Nat)=>W-k) (fun(k:Nat)=>put (put (put (put (put (put (emp) 1 (.val (.slice Ac c.length cc))) 4 (.box [.slice Af p.free.length cf,.slice Ar p.rows.length cr])) 6 (.box [.slice G.Ar R G.cr,.slice Ab m cb])) 9 (.val (.slice (some ⟨z,0,none⟩) W W))) 19 (.val (.int .i64 (W:Int)))) 20 (.val (.int .i64 (k:Int)))) (fun(k:Nat) H'=>SZ (lP W (fun _=>0) k) (rem H G.gs) H' G R W m M B (.slice none 0 0) [] z∧k≤W∧Heap.le H H') 0 (⟨CC,Nat.zero_le _,Heap.bI _ jh⟩) ar ?_);rintro k H2 ⟨hS,hk,dO⟩;obtain⟨xs,hx,hC⟩:=hS.row;have cY:=Jf hC hk;refine ae (aa 1 rfl (ab [1,4,6,9,19,20,21] ?_))
 refine ao (aD rfl (fun hb=> ?_) (fun hb=> ?_))
 ·
  have fk:k<W:=by simpa using hb
  refine aw (ah [1,4,6,9,19,20] rfl ?_);refine ao (aE (ae (aa 2 rfl (ab [1,4,6,9,10,19,20] ?_))));refine aA rfl (aa 2 rfl (aB rfl rfl (Fn.kq hS.q.ne (lG (n:=0) (by decide) (by decide))) ?_));rintro v8 H8 gC;obtain⟨t8,rfl,eJ⟩:=gC.val;rw[show ((0:Int):Rat)=0 from rfl]at eJ;have rC:=(gC.kept.same z SZ.mO).trans hx;obtain⟨ti,aj,ak⟩:=aX;refine cT (.inl rfl) ag rfl rfl rfl (by omega) (by omega) (rC) rfl (by show 0+W*3≤xs.length;omega) aj ak (fun _=>rfl) rfl rfl rfl fun _=> ?_;refine au ?_;rw[pf,Int.toNat_natCast];have jY:=hS.set gC.kept (M7 (Tg _ _ _ gC.kept.le hC) fk (show cg _ [_,_,_] _ from eJ));refine ah [1,4,6,9,19,20] rfl ?_;refine aA rfl (aF rfl rfl ⟨by omega,by omega⟩ (aa 1 rfl (au ?_)));exact⟨k+1,by omega,ar,jY,by omega,Jh jh (dO.trans gC.le)⟩
 ·
  have fk:W≤k:=by simpa using hb
  obtain ek:k=W:=by omega
  rw[ek]at hS;have CD:=hS.to (C':=ll W (fe p (fn c) 1 0)) fun _ h=>M8 h;refine aU (ah [1,4,6,9] rfl ?_);refine ae (aa 4 rfl (ab [1,4,6,9,11] ?_));refine ao (ae (aa 4 rfl (ab [1,4,6,9,11,33,34] ?_)));refine aE (fI (fun(j:Nat)=>p.free.length-j) (fun(j:Nat)=>put (put (put (put (put (put (put (emp) 1 (.val (.slice Ac c.length cc))) 4 (.box [.slice Af p.free.length cf,.slice Ar p.rows.length cr])) 6 (.box [.slice G.Ar R G.cr,.slice Ab m cb])) 9 (.val (.slice (some ⟨z,0,none⟩) W W))) 11 (.val (.int .i64 (p.mi j:Int)))) 33 (.val (.int .i64 (p.free.length:Int)))) 34 (.val (.int .i64 (j:Int)))) (fun(j:Nat) H'=>SZ (ll W (fe p (fn c) 1 j)) (rem H G.gs) H' G R W m M B (.slice none 0 0) [] z∧j≤p.free.length∧Heap.le H H') 0 (⟨CD,Nat.zero_le _,dO⟩) (by repeat (first | exact iN _ | refine dB rfl ?_ | refine dB (jb (by first | omega | (simp;done) | rfl)) ?_)) ?_);rintro j H3 ⟨hS,hj,dO⟩;obtain⟨xs,hx,hC⟩:=hS.row;have cY:=yh hC;refine ae (aa 1 rfl (ab [1,4,6,9,11,33,34,35] ?_));refine ao (aD rfl (fun hb=> ?_) (fun hb=> ?_))
  ·
   have gY:j<p.free.length:=by simpa using hb
   obtain⟨uf,qS,ks⟩:=p4 j _ (List.getElem?_eq_getElem gY);have ks: [uf] = [Value.bool p.free[j]]:=ks
   cases ks
   have jI:p.lp.free j=p.free[j]:=Prg.Bh (List.getElem?_eq_getElem gY);obtain⟨g6,G1,n1,o1,G2,n2,o2,SI,wi,Tm⟩:=aN.s7 uc (show c[j]? = some (fn c j*1) by rw[Rat.mul_one,List.getElem?_eq_getElem (by omega),m8 (List.getElem?_eq_getElem (by omega))]);have Tn:=wi.size;have aaD:=MI (p:=p) (j:=j);refine aw (ah [1,4,6,9,11,33,34] rfl ?_);refine ao (aE (ae (aa 2 rfl (ab [1,4,6,9,11,12,33,34] ?_))));refine ae (aa 4 rfl (bY (vs:=[.bool g6,.slice G1 n1 o1,.slice G2 n2 o2]) ag rfl rfl rfl rfl (nP.le (hS.le.trans (bF _ _))) rfl (by decide) Tm (by omega) (by omega) fun _=>(aB rfl rfl (Fn.kq hS.q.ne (uj (wi.le hS.le) (by omega))) ?_)));rintro v8 H8 gC;obtain⟨t8,rfl,eJ⟩:=gC.val;have rC:=(gC.kept.same z SZ.mO).trans hx;obtain⟨ti,aj,ak⟩:=aX;refine cT (.inl rfl) ag rfl rfl rfl (by omega) (by omega) (rC) rfl (by show 0+W*3≤xs.length;omega) aj ak (fun _=>rfl) rfl rfl rfl fun _=> ?_;refine ab [1,4,6,9,11,12,33,34] ?_;rw[pf,Int.toNat_natCast];have jY:=hS.wo gC.kept hC (show j<W by omega) (show cg _ [_,_,_] _ from eJ);refine ae (aa 3 rfl (aS ag rfl rfl rfl rfl rfl (p3.le (jY.le.trans (bF _ _))) (by rw[Int.toNat_natCast];exact qS) (by omega) (by omega) fun _=> ?_))
   refine ab [1,4,6,9,11,12,33,34,49] ?_;refine aD rfl (fun hb=> ?_) (fun hb=> ?_)
   ·
    have fN:p.lp.free j=true:=by rw[jI];simpa using hb
    have x8:p.mi j<W:=Nat.lt_of_lt_of_le (we (p:=p) (j:=j) gY fN) te;obtain⟨ys,hy,hD⟩:=jY.row;have kR:=yh hD;obtain⟨t9,yf,GF⟩:=mc hD (show j<W by omega);rw[jw]at yf;have qe:aM (fn c j*1)≤N+2:=Tn;refine ae (aa 4 rfl (bY (vs:=[.bool t9.f,.slice t9.A1 t9.m1 t9.c1,.slice t9.A2 t9.m2 t9.c2]) ag rfl rfl rfl rfl (dQ hy) rfl (by decide) (by rw[Int.toNat_natCast];exact GF) (by omega) (by omega) fun _=> ?_));refine aB rfl rfl (Fn.kq jY.q.ne (Ec ((bH.raw yf).mono qe) (by omega))) ?_;rintro v10 nh tk;obtain⟨t10,rfl,oe⟩:=tk.val;have zU:=(tk.kept.same z SZ.mO).trans hy;obtain⟨ti,aj,ak⟩:=aX;refine cT (.inl rfl) ag rfl rfl rfl (by omega) (by omega) (zU) rfl (by show 0+W*3≤ys.length;omega) aj ak (fun _=>rfl) rfl rfl rfl fun _=> ?_;refine ab [1,4,6,9,11,33,34] ?_;rw[pf,Int.toNat_natCast];have uY:=jY.wo tk.kept hD x8 (show cg _ [_,_,_] _ from oe);refine aA rfl (aa 1 rfl (aF rfl rfl ⟨by omega,by omega⟩ (aa 1 rfl (au (ah [1,4,6,9,11,33,34] rfl ?_)))));refine aA rfl (aF rfl rfl ⟨by omega,by omega⟩ (aa 1 rfl (au ?_)))
    have e8:p.mi (j+1)=p.mi j+1:=by rw[wg,if_pos fN]
    exact⟨j+1,by omega,ar,by unfold fe;rw[if_pos fN];exact uY,by omega,Jh jh ((Jh jh (dO.trans gC.le)).trans tk.le)⟩
   have fN:¬p.lp.free j=true:=by rw[jI];simpa using hb
   refine aw (ah [1,4,6,9,11,33,34] rfl ?_);refine aA rfl (aF rfl rfl ⟨by omega,by omega⟩ (aa 1 rfl (au ?_)))
   have e8:p.mi (j+1)=p.mi j:=by rw[wg,if_neg fN,Nat.add_zero]
   exact⟨j+1,by omega,ar,by unfold fe;rw[if_neg fN];exact jY,by omega,Jh jh (dO.trans gC.le)⟩
  have gY:p.free.length≤j:=by simpa using hb
  obtain rfl:j=p.free.length:=by omega
  refine aU (ah [6,9] rfl ?_);refine ao (ae (aa 4 rfl (ab [6,9,63,64] ?_)));refine aE (fX (fun(i:Nat)(f:Nat→Rat)=>m-i) (fun(i:Nat)(f:Nat→Rat)=>put (put (put (put (emp) 6 (.box [.slice G.Ar R G.cr,.slice Ab m cb])) 9 (.val (.slice (some ⟨z,0,none⟩) W W))) 63 (.val (.int .i64 (m:Int)))) 64 (.val (.int .i64 (i:Int)))) (fun(i:Nat)(f:Nat→Rat) H'=>SZ (ll W f) (rem H G.gs) H' G R W m M B (.slice none 0 0) [] z∧(∀q,q<W→f q=lN M B (fe p (fn c) 1 p.lp.n) i q)∧i≤m∧Heap.le H H') 0 (fe p (fn c) 1 p.lp.n) (⟨hS,fun _ _=>rfl,Nat.zero_le _,dO⟩) ar ?_);rintro i f H4 ⟨hZ,hI,hi,dO⟩;obtain⟨zs,qo,sZ⟩:=hZ.row;refine ae (aa 1 rfl (ab [6,9,63,64,65] ?_));refine ao (aD rfl (fun hb=> ?_) (fun hb=> ?_))
  ·
   have aO:i<m:=by simpa using hb
   have uV:=hB i aO;obtain⟨t4,Nf,mq⟩:=mc sZ uV;have EU:=hz i hi (B i) uV;rw[←hI _ uV]at EU;obtain⟨pi,cX⟩:=h.get (show i<R by omega);refine aw (ah [6,9,63,64] rfl ?_);refine ao (aE (ae (aa 2 rfl (ab [6,9,13,63,64] ?_))));refine ae (aa 4 rfl (aS ag rfl rfl rfl rfl rfl (fJ hZ.q i aO) (by rw[Int.toNat_natCast];exact gQ aO) (by omega) (by omega) fun _=> ?_));refine bY (vs:=[.bool t4.f,.slice t4.A1 t4.m1 t4.c1,.slice t4.A2 t4.m2 t4.c2]) ag rfl rfl rfl rfl (dQ qo) rfl (by decide) (by rw[Int.toNat_natCast];exact mq) (by omega) (by omega) fun _=> ?_;refine bm cj rfl ?_;obtain⟨ti,aj,ak⟩:=aX;refine aI (.inl ⟨rfl,rfl⟩) rfl rfl rfl aj ak rfl rfl rfl (ab [6,9,13,14,63,64] ?_);refine ao (ae (aa 1 rfl (aB rfl rfl (Fn.l0 hZ.q.ne (sO (bH.raw Nf) (by omega))) ?_)));rintro v5 H5 ⟨mC,dR,rfl⟩;have qc:=hZ.kept zW mC;have xo:=Nf.le mC.le;refine aa 1 rfl (ab [6,9,13,14,63,64,77] ?_);refine aD rfl (fun hb=> ?_) (fun hb=> ?_)
   ·
    skip
    refine aU (ah [6,9,63,64] rfl ?_);refine aA rfl (aF rfl rfl ⟨by omega,by omega⟩ (aa 1 rfl (au ?_)))
    exact⟨i+1,f,by omega,ar,qc,fun q hq=>by
     rw[aaC (by rw[←hI _ uV];exact vH (by simpa using hb))];exact hI q hq,by omega,dO.trans dR⟩
   have SP:=qc.vZ;refine aw (ah [6,9,13,14,63,64] rfl ?_);refine ae (aa 3 rfl (ab [6,9,13,14,63,64,79,80] ?_));refine aE (fX (fun(q:Nat)(f2:Nat→Rat)=>W-q) (fun(q:Nat)(f2:Nat→Rat)=>put (put (put (put (put (put (put (put (emp) 6 (.box [.slice G.Ar R G.cr,.slice Ab m cb])) 9 (.val (.slice (some ⟨z,0,none⟩) W W))) 13 (.val (.int .i64 (i:Int)))) 14 (.box [.bool t4.f,.slice t4.A1 t4.m1 t4.c1,.slice t4.A2 t4.m2 t4.c2])) 63 (.val (.int .i64 (m:Int)))) 64 (.val (.int .i64 (i:Int)))) 79 (.val (.int .i64 (W:Int)))) 80 (.val (.int .i64 (q:Int)))) (fun(q:Nat)(f2:Nat→Rat) H'=>SZ (ll W f2) (rem H5 (G.on (z::(aC (.slice none 0 0)++G.top))).gs) H' G R W m M B (.slice none 0 0) [] z∧(∀j,f2 j=if j<q then f j-f (B i)*M i j else f j)∧q≤W∧Heap.le H H') 0 f (⟨SP,fun j=>by rw[if_neg (Nat.not_lt_zero _)],Nat.zero_le _,dO.trans dR⟩) ar ?_);rintro q f2 H6 ⟨hY,Tp,fT,dO⟩;obtain⟨ws,tf,nI⟩:=hY.row;obtain⟨xi6,si6,Sq,Sr⟩:=hY.q.ry (G:=G.on _) cX;have pJ:=yh nI;refine ae (aa 1 rfl (ab [6,9,13,14,63,64,79,80,81] ?_));refine ao (aD rfl (fun hb=> ?_) (fun hb=> ?_))
   ·
    have tg:q<W:=by simpa using hb
    obtain⟨t5,abt,l4⟩:=mc nI tg;obtain⟨t6,y8,pT⟩:=mc Sr tg
    have e5:f2 q=f q:=by rw[Tp q,if_neg (by omega)]
    rw[e5]at abt;have sQ:=hz i hi q tg;rw[←hI _ tg]at sQ;have vM:=yc i aO q tg;have SE:=sk (f (B i)) (M i q);refine aw (ah [6,9,13,14,63,64,79,80] rfl ?_);refine ao (aE (ae (aa 2 rfl (ab [6,9,13,14,15,63,64,79,80] ?_))));refine eK .gD [0,1,2,3,4,5,6,7,8,9,10,11,12,13,14,15,16,17,18] follows (gV [0,0,0,0,12,28,0,0,128,0,896,1920,0,8064,16256,32704,65532,131071,262143] (by kernel_rfl)) ?_;refine aa 4 rfl (bY (vs:=[.bool t5.f,.slice t5.A1 t5.m1 t5.c1,.slice t5.A2 t5.m2 t5.c2]) ag rfl rfl rfl rfl (dQ tf) rfl (by decide) (by rw[Int.toNat_natCast];exact l4) (by omega) (by omega) fun _=> ?_);refine aa 4 rfl (aS ag rfl rfl rfl rfl rfl (hY.q.hd) (by rw[Int.toNat_natCast];exact kp (rg:=G.rg) (W:=_) cX) (by omega) (by omega) fun _=> ?_);refine aa 1 rfl (bY (vs:=[.bool t6.f,.slice t6.A1 t6.m1 t6.c1,.slice t6.A2 t6.m2 t6.c2]) ag rfl rfl rfl rfl (dQ Sq) rfl (by decide) (by rw[Int.toNat_natCast];exact pT) (by omega) (by omega) fun _=> ?_);refine aW rfl rfl (Fn.kq hY.q.ne (Ee (N:=N1) ((bH.raw (xo.le hY.le)).mono EU) ((bH.raw y8).mono vM) (by omega))) (fun _ _ h=>by first | exact h.le | exact h.1) ?_;rintro v7 H7 E4;obtain⟨t7,rfl,iT⟩:=E4.val;have hY7:=hY.kept zW E4.kept
    refine aW rfl rfl (Fn.kq hY7.q.ne (Ed (N:=2*N1) ((bH.raw (abt.le E4.kept.le)).mono (by omega)) ((bH.raw iT).mono (by omega)) (by omega))) (fun _ _ h=>by first | exact h.le | exact h.1) ?_;rintro v8 H8 gC;obtain⟨t8,rfl,eJ⟩:=gC.val;have Ss:=(gC.kept.same z SZ.mO).trans ((E4.kept.same z SZ.mO).trans tf);obtain⟨ti,aj,ak⟩:=aX;refine cT (.inr rfl) ag rfl rfl rfl (by omega) (by omega) (Ss) rfl (by show 0+W*3≤ws.length;omega) aj ak (fun _=>rfl) rfl rfl rfl fun _=> ?_;refine au ?_;rw[pf,Int.toNat_natCast];have Su:=hY7.wo gC.kept (zW _ _ _ E4.kept.le nI) tg (show cg _ [_,_,_] _ from eJ);refine ah [6,9,13,14,63,64,79,80] rfl ?_;refine aA rfl (aF rfl rfl ⟨by omega,by omega⟩ (aa 1 rfl (au ?_)))
    exact⟨q+1,bT f2 q (f q-f (B i)*M i q),by omega,ar,Su,fun j=>by
     by_cases ej:j=q
     ·
      subst ej;rw[re,if_pos (by omega)]
     ·
      rw[pc ej,Tp j]
      by_cases hj:j<q
      ·rw[if_pos hj,if_pos (by omega)]
      ·rw[if_neg hj,if_neg (by omega)],by omega,Jh jh ((dO.trans E4.le).trans gC.le)⟩
   have tg:W≤q:=by simpa using hb
   obtain rfl:q=W:=by omega
   refine aU (ah [6,9,63,64] rfl ?_);refine aA rfl (aF rfl rfl ⟨by omega,by omega⟩ (aa 1 rfl (au ?_)))
   exact⟨i+1,f2,by omega,ar,hY.down qc.le,fun q hq=>by
    rw[Tp q,if_pos hq,hI q hq,hI _ uV];rfl,by omega,dO⟩
  have aO:m≤i:=by simpa using hb
  obtain rfl:i=m:=by omega
  refine aU (ah [9] rfl ?_);refine ae (aa 2 rfl (ab [8] ?_));refine az ⟨.inr rfl,_,.tmp rfl (.nil),?_⟩;exact⟨z,rfl,hZ.to fun xs hx=>by show bG _ _ _ _;rw[←la (f:=f) (fun j hj=>hI j hj)];exact hx,dO⟩
theorem alg{H:Heap}{G:GG}{R W m N N1:Nat}{M:Nat→Nat→Rat}{B:Nat→Nat}{p:Prg}{pv:Value}(h:cD iK H G R W m M B)(R7:m≤R)(hp:nt N (rem H G.gs) pv p)(te:p.c1≤W)(hW1:1≤W)(hB:∀i,i<m→B i<W)(hR:(R:Int)≤900000)(hW:(W:Int)≤1000000)(hN1:(N1:Int)≤300000000000)(h1N:1≤N1)(yc:∀i,i<m→aM (M i (W-1))≤N1):
 Fn Tryz.prog 60 #[pv,.agg #[.slice G.Ar R G.cr,G.bv],.int .i64 (W:Int)] H (fun v H'=>Heap.le H H'∧aN cg 3 H' v (aK (jJ p (iL M B (W-1) m)) p.free.length)):=by
 obtain⟨fv,kK,rfl,nx,ny⟩:=id hp
 obtain⟨Af,cf,xf,rfl,p3,p4⟩:=nx.one
 obtain⟨Ar,cr,xr,rfl,qu,kL,sX⟩:=id ny
 obtain⟨Ab,cb,dy,fJ⟩:=h.th
 rw[dy]
 have du:=xZ (p:=p)
 have hpn:p.lp.n=p.free.length:=rfl
 have Sj:p.free.length≤W:=Nat.le_trans du te
 have cP:=abr (B:=B) (n:=W-1) h1N yc;refine aY (args:=[_,_,_]) Tryz.func60 rfl rfl Tryz.ntmps60 rfl rfl fun w0=> ?_;refine ah [0,1,2] rfl ?_;refine ae (bZ rfl rfl (bZ rfl rfl (aa 1 rfl (ab [2,3,4] ?_))));refine ae (aa 1 rfl (gO Tryz.underlying28 cj rfl rfl rfl (by omega) (by omega) (by omega) (by omega) ?_));intro z jh;rw[Int.toNat_natCast];have CC:=h.gu.start (C:=lP W (fun _=>0) 0) (xs:=cR [.bool false,.slice none 0 0,.slice none 0 0] (W*3)) jh Na;have ui:Heap.le H (ins H z ⟨cR [.bool false,.slice none 0 0,.slice none 0 0] (W*3),W*3,38,true⟩):=Heap.bI _ jh;refine aa 1 rfl (ab [2,3,4,7] ?_);refine ao (ae (aa 3 rfl (ab [2,3,4,7,17,18] ?_)));refine aE (fI (fun(k:Nat)=>W-k) (fun(k:Nat)=>put (put (put (put (put (put (emp) 2 (.val (.int .i64 (W:Int)))) 3 (.box [.slice Af p.free.length cf,.slice Ar p.rows.length cr])) 4 (.box [.slice G.Ar R G.cr,.slice Ab m cb])) 7 (.val (.slice (some ⟨z,0,none⟩) W W))) 17 (.val (.int .i64 (W:Int)))) 18 (.val (.int .i64 (k:Int)))) (fun(k:Nat) H'=>SZ (lP W (fun _=>0) k) (rem H G.gs) H' G R W m M B (.slice none 0 0) [] z∧k≤W∧∀q,q∈G.gs→H' q=H q) 0 (⟨CC,Nat.zero_le _,fun q hq=>bn _ _ fun(e:q=z)=>h.ne q hq (by rw[e];exact jh)⟩) ar ?_)
 rintro k H2 ⟨hS,hk,wC⟩;obtain⟨xs,hx,hC⟩:=hS.row;have cY:=Jf hC hk;refine ae (aa 1 rfl (ab [2,3,4,7,17,18,19] ?_));refine ao (aD rfl (fun hb=> ?_) (fun hb=> ?_))
 ·
  have fk:k<W:=by simpa using hb
  refine aw (ah [2,3,4,7,17,18] rfl ?_);refine ao (aE (ae (aa 2 rfl (ab [2,3,4,7,8,17,18] ?_))));refine aA rfl (aa 2 rfl (aB rfl rfl (Fn.kq hS.q.ne (lG (n:=0) (by decide) (by decide))) ?_));rintro v8 H8 gC;obtain⟨t8,rfl,eJ⟩:=gC.val;rw[show ((0:Int):Rat)=0 from rfl]at eJ;have rC:=(gC.kept.same z SZ.mO).trans hx;obtain⟨ti,aj,ak⟩:=aX;refine cT (.inl rfl) ag rfl rfl rfl (by omega) (by omega) (rC) rfl (by show 0+W*3≤xs.length;omega) aj ak (fun _=>rfl) rfl rfl rfl fun _=> ?_;refine au ?_;rw[pf,Int.toNat_natCast];have jY:=hS.set gC.kept (M7 (Tg _ _ _ gC.kept.le hC) fk (show cg _ [_,_,_] _ from eJ));refine ah [2,3,4,7,17,18] rfl ?_;refine aA rfl (aF rfl rfl ⟨by omega,by omega⟩ (aa 1 rfl (au ?_)));exact⟨k+1,by omega,ar,jY,by omega,fun q hq=>by rw[bn _ _ (hS.zne hq),gC.kept.same q (List.mem_cons_of_mem _ hq)];exact wC q hq⟩
 ·
  have fk:W≤k:=by simpa using hb
  obtain ek:k=W:=by omega
  rw[ek]at hS;have CD:=hS.to (C':=ll W (iL M B (W-1) 0)) fun _ h=>M8 h;refine aU (ah [2,3,4,7] rfl ?_);refine ao (ae (aa 4 rfl (ab [2,3,4,7,28,29] ?_)));refine aE (fI (fun(i:Nat)=>m-i) (fun(i:Nat)=>put (put (put (put (put (put (emp) 2 (.val (.int .i64 (W:Int)))) 3 (.box [.slice Af p.free.length cf,.slice Ar p.rows.length cr])) 4 (.box [.slice G.Ar R G.cr,.slice Ab m cb])) 7 (.val (.slice (some ⟨z,0,none⟩) W W))) 28 (.val (.int .i64 (m:Int)))) 29 (.val (.int .i64 (i:Int)))) (fun(i:Nat) H'=>SZ (ll W (iL M B (W-1) i)) (rem H G.gs) H' G R W m M B (.slice none 0 0) [] z∧i≤m∧∀q,q∈G.gs→H' q=H q) 0 (⟨CD,Nat.zero_le _,wC⟩) ar ?_);rintro i H3 ⟨hS,hi,wC⟩;obtain⟨xs,hx,hC⟩:=hS.row;have cY:=yh hC;refine ae (aa 1 rfl (ab [2,3,4,7,28,29,30] ?_));refine ao (aD rfl (fun hb=> ?_) (fun hb=> ?_))
  ·
   have aO:i<m:=by simpa using hb
   have uV:=hB i aO;obtain⟨pi,cX⟩:=h.get (show i<R by omega);obtain⟨xi,si,s8,xW⟩:=hS.q.ry (G:=G.on _) cX;obtain⟨t4,Nf,mq⟩:=mc xW (show W-1<W by omega);refine aw (ah [2,3,4,7,28,29] rfl ?_);refine ao (aE (ae (aa 2 rfl (ab [2,3,4,7,9,28,29] ?_))));refine eK .gD [0,1,2,3,4,5,6,7,8,9,10,11,12,13,14,15,16] follows (gV [0,0,2,0,14,30,0,64,0,448,960,0,2048,8128,16320,32767,65535] (by kernel_rfl)) ?_;refine aa 4 rfl (aS ag rfl rfl rfl rfl rfl (fJ hS.q i aO) (by rw[Int.toNat_natCast];exact gQ aO) (by omega) (by omega) fun _=> ?_);refine aa 3 rfl (aS ag rfl rfl rfl rfl rfl (hS.q.hd) (by rw[Int.toNat_natCast];exact kp (rg:=G.rg) (W:=_) cX) (by omega) (by omega) fun _=> ?_);refine aa 1 rfl (cQ rfl rfl ⟨by omega,by omega⟩ (bY (vs:=[.bool t4.f,.slice t4.A1 t4.m1 t4.c1,.slice t4.A2 t4.m2 t4.c2]) ag rfl rfl rfl rfl (dQ s8) rfl (by decide) (by rw[show ((W:Int)-1).toNat=W-1 by omega];exact mq) (by omega) (by omega) fun _=> ?_));obtain⟨ti,aj,ak⟩:=aX;refine cT (.inr rfl) ag rfl rfl rfl (by omega) (by omega) (hx) rfl (by show 0+W*3≤xs.length;omega) aj ak (fun _=>rfl) rfl rfl rfl fun _=> ?_;refine au ?_;rw[pf,Int.toNat_natCast];have jY:=hS.wo (.refl _ _) hC uV (show cg _ [_,_,_] _ from Nf)
   refine ah [2,3,4,7,28,29] rfl ?_;refine aA rfl (aF rfl rfl ⟨by omega,by omega⟩ (aa 1 rfl (au ?_)));exact⟨i+1,by omega,ar,jY,by omega,fun q hq=>by rw[bn _ _ (hS.zne hq)];exact wC q hq⟩
  have aO:m≤i:=by simpa using hb
  obtain rfl:i=m:=by omega
  have Cv:Rd H3 (some ⟨z,0,none⟩) xs:=dQ hx;have hE:ll W (iL M B (W-1) i) H3 xs:=zW _ _ _ (bF _ _) hC;have cM:Heap.le (rem H G.gs) H3:=hS.le.trans (bF _ _)
  have SB:Heap.le H H3:=fun q en hq=>by
   by_cases hm:q∈G.gs
   ·exact⟨en,by rw[wC q hm];exact hq,.refl _⟩
   ·exact cM q en (by rw[bM hm];exact hq)
  have qK:=fun j=>cP j i (Nat.le_refl _);refine aU (ah [3,7] rfl ?_);refine ae (aa 3 rfl (gO Tryz.underlying28 cj rfl rfl rfl (by omega) (by omega) (by omega) (by omega) ?_));intro gx lB;have zP:=Iw (P:=cg) (e:=38) (sz:=3) (zs:=[.bool false,.slice none 0 0,.slice none 0 0]) (z:=0) (k:=(p.free.length:Int)) (c:=p.free.length) lB rfl (Int.toNat_natCast _) (by unfold maxLen;omega);rw[Int.toNat_natCast]at zP⊢;refine aa 1 rfl (ab [3,7,10] ?_);refine ae (aa 4 rfl (ab [3,7,10,11] ?_));refine ao (ae (aa 4 rfl (ab [3,7,10,11,58,59] ?_)));refine aE (fD (fun(j:Nat)(w:Value)(ws:List Value)=>p.free.length-j) (fun(j:Nat)(w:Value)(ws:List Value)=>put (put (put (put (put (put (emp) 3 (.box [.slice Af p.free.length cf,.slice Ar p.rows.length cr])) 7 (.val (.slice (some ⟨z,0,none⟩) W W))) 10 (.val (w))) 11 (.val (.int .i64 (p.mi j:Int)))) 58 (.val (.int .i64 (p.free.length:Int)))) 59 (.val (.int .i64 (j:Int)))) (fun(j:Nat)(w:Value)(ws:List Value) H'=>eo cg 38 3 H3 H' w (aK (jJ p (iL M B (W-1) i)) j) ws∧j≤p.free.length) 0 _ _ (⟨zP,Nat.zero_le _⟩) (by repeat (first | exact iN _ | refine dB rfl ?_ | refine dB (jb (by first | omega | (simp;done) | rfl)) ?_)) ?_);rintro j w ws H5 ⟨hG,hj⟩
  obtain⟨A5,c5,e5⟩:=hG.form;rw[bh]at e5;subst e5;refine ae (aa 1 rfl (ab [3,7,10,11,58,59,60] ?_));refine ao (aD rfl (fun hb=> ?_) (fun hb=> ?_))
  ·
   have gY:j<p.free.length:=by simpa using hb
   obtain⟨t6,y8,pT⟩:=mc hE (show j<W by omega);obtain⟨uf,qS,ks⟩:=p4 j _ (List.getElem?_eq_getElem gY);have ks: [uf] = [Value.bool p.free[j]]:=ks
   cases ks
   have jI:p.lp.free j=p.free[j]:=Prg.Bh (List.getElem?_eq_getElem gY);have vM:=qK j;refine aw (ah [3,7,10,11,58,59] rfl ?_);refine ao (aE (ae (aa 2 rfl (ab [3,7,10,11,12,58,59] ?_))));refine ae (aa 2 rfl (bY (vs:=[.bool t6.f,.slice t6.A1 t6.m1 t6.c1,.slice t6.A2 t6.m2 t6.c2]) ag rfl rfl rfl rfl (Cv.le hG.le) rfl (by decide) (by rw[Int.toNat_natCast];exact pT) (by omega) (by omega) fun _=> ?_));refine bm cj rfl ?_;obtain⟨ti,aj,ak⟩:=aX;refine aI (.inl ⟨rfl,rfl⟩) rfl rfl rfl aj ak rfl rfl rfl (ab [3,7,10,11,12,13,58,59] ?_);refine AI (fun(t:RC)(a:Nat)=>put (put (put (put (put (put (put (emp) 3 (.box [.slice Af p.free.length cf,.slice Ar p.rows.length cr])) 7 (.val (.slice (some ⟨z,0,none⟩) W W))) 10 (.val (.slice A5 j c5))) 11 (.val (.int .i64 (a:Int)))) 13 (.box [.bool t.f,.slice t.A1 t.m1 t.c1,.slice t.A2 t.m2 t.c2])) 58 (.val (.int .i64 (p.free.length:Int)))) 59 (.val (.int .i64 (j:Int)))) (fun(t:RC)(a:Nat) H'=>eo cg 38 3 H3 H' (.slice A5 j c5) (aK (jJ p (iL M B (W-1) i)) j) ws∧a=p.mi (j+1)∧bH (rem H' (aC (.slice A5 j c5))) t.v (jJ p (iL M B (W-1) i) j)) ?_ ?_
   ·
    refine ae (aa 3 rfl (aS ag rfl rfl rfl rfl rfl (p3.le (cM.trans hG.le)) (by rw[Int.toNat_natCast];exact qS) (by omega) (by omega) fun _=> ?_));refine ab [3,7,10,11,13,58,59,70] ?_;refine aD rfl (fun hb=> ?_) (fun hb=> ?_)
    ·
     have fN:p.lp.free j=true:=by rw[jI];simpa using hb
     have x8:p.mi j<W:=Nat.lt_of_lt_of_le (we gY fN) te;obtain⟨t7,s5,qY⟩:=mc hE x8;have SE:=qK (p.mi j);refine bN .bK [0,1,2,3,4,5,6] follows (by kernel_rfl) ?_;refine aa 3 rfl (bY (vs:=[.bool t7.f,.slice t7.A1 t7.m1 t7.c1,.slice t7.A2 t7.m2 t7.c2]) ag rfl rfl rfl rfl (Cv.le hG.le) rfl (by decide) (by rw[Int.toNat_natCast];exact qY) (by omega) (by omega) fun _=> ?_);refine aW rfl rfl (hG.call (Ed (N:=N1) ((bH.raw (y8.le hG.base)).mono vM) ((bH.raw (s5.le hG.base)).mono SE) (by omega)).rc) (fun _ _ h=>h.le fun _ _ h=>h.1) ?_;rintro _ H8 qd;have qT:=hG.km ef qd fun _ _ h=>h.1;obtain⟨⟨_,t8,rfl,eJ⟩,_⟩:=qd;obtain⟨ti,aj,ak⟩:=aX;refine aI (.inl ⟨rfl,rfl⟩) rfl rfl rfl aj ak rfl rfl rfl (ab [3,7,10,11,13,58,59] ?_);refine aA rfl (aa 1 rfl (aF rfl rfl ⟨by omega,by omega⟩ (aa 1 rfl (au ?_))));exact⟨t8,p.mi j+1,ar,qT,by rw[wg,if_pos fN],by unfold jJ;rw[if_pos fN];exact eJ⟩
    have fN:¬p.lp.free j=true:=by rw[jI];simpa using hb
    refine aw ?_;exact⟨t6,p.mi j,ar,hG,by rw[wg,if_neg fN,Nat.add_zero],by unfold jJ;rw[if_neg fN];exact y8.le hG.base⟩
   rintro t a H9 ⟨nW,uA,fu⟩;subst uA;refine aA rfl (aa 2 rfl (cS Tryz.underlying28 cj rfl rfl rfl rfl rfl rfl rfl ?_));intro gb a6;have nD:=nW.ins ef (whole (ee [.agg #[.bool t.f,.slice t.A1 t.m1 t.c1,.slice t.A2 t.m2 t.c2]]) 38) a6;refine eD Tryz.underlying28 cj rfl rfl nD.own (eN _ _ _ _ _ _) rfl (ED _ _ _ _ _ _ _) (by rw[bh];omega) (by rw[bh];omega) ?_;intro W9 ju SD;have nW:=nD.append ef (k:=[jJ p (iL M B (W-1) i) j]) (by simp) SD (jq (ef _ _ _ _ (se _ (Heap.bI _ a6)) (show cg _ [_,_,_] _ from fu)) rfl);refine aa 1 rfl (au (ah [3,7,10,11,58,59] rfl ?_));refine aA rfl (aF rfl rfl ⟨by omega,by omega⟩ (aa 1 rfl (au ?_)));exact⟨j+1,_,_,by omega,ar,by rw[xA];exact nW,by omega⟩
  have gY:p.free.length≤j:=by simpa using hb
  obtain rfl:j=p.free.length:=by omega
  refine aU (ah [10] rfl ?_);refine ae (aa 2 rfl (ab [6] ?_));refine az ⟨.inr rfl,_,.tmp rfl (.nil),?_⟩;exact⟨SB.trans hG.le,hG.sl ef⟩
end Go.aq
namespace Go.aq
open Go.Proofs Num Lp
section
variable {p:Prg} {c:List Rat} {M:Nat→Nat→Rat} {B:Nat→Nat} {T:av} {L:Nat}
theorem alh{i:Nat}(hi:i<p.lp.m):pn p (p.unit i)=if p.u≤p.unit i then 1 else 0:=by
 show av.js _ _ _=_
 unfold av.js
 by_cases k:p.u≤p.unit i
 ·rw[if_pos k,if_pos ⟨k,nU p hi⟩]
 ·rw[if_neg k,if_neg (fun k'=>k k'.1)]
theorem abu(bO:p.Ok)(hf:Fits p c L){i j:Nat}(hi:i<p.lp.m)(hj:j≤p.w):aM (dM p i j)≤L:=by
 rw[Se bO.valid hi hj];exact hf.tab i hi _
theorem ali(bO:p.Ok)(hf:Fits p c L){i j:Nat}(hi:i≤p.lp.m):aM (rA p (dM p) j i)≤2*L:=by
 have h1:=hf.one
 unfold rA
 by_cases hc:j<p.u∨j=p.w
 ·have hj:j≤p.w:=by have:=fy p;omega
  rw[if_pos hc]
  have e: -aZ i (fun q=>if p.u≤p.unit q then dM p q j else 0)=gU (pZ p.eh (aq.pn p)) (aq.pn p) i (p.pi j):=by
   have hs:aZ i (fun q=>aq.pn p ((pZ p.eh (aq.pn p)).B q)*(pZ p.eh (aq.pn p)).A q (p.pi j))=aZ i (fun q=>if p.u≤p.unit q then dM p q j else 0):=eG fun q hq=>by
    show aq.pn p (p.unit q)*p.eh.A q (p.pi j)=_
    rw[alh (by omega),Se bO.valid (by omega) hj]
    split <;> grind
   unfold gU
   rw[hs]
   rcases hc with h1 | h2
   ·have h2:=fy p
    have h3:=zM h1
    have e:aq.pn p (p.pi j)=0:=av.Pg h3
    rw[if_neg (by show ¬p.pi j=p.w;omega),e];grind
   ·rw[h2,if_pos (show p.pi p.w=(pZ p.eh (aq.pn p)).n from Cs)];grind
  rw[e]
  exact hf.Qw i hi _ (MK hj)
 ·rw[if_neg hc];exact Nat.le_trans MR (by omega)
theorem mb.sz(hf:Fits p c L)(h:mb p T):∀j,j<p.w+1→aM (T.c j)≤L∧∀i,i<p.lp.m→aM (T.A i j)≤L:=fun j hj=>by
 obtain⟨S,hI,hT⟩:=h
 have hS:=hf.BU S hI
 have hn:=hT.ew
 have hp:=MK (p:=p) (x:=j) (by omega)
 exact⟨by rw[hT.ec j (by omega)];exact hS.c _ (by omega),fun i hi=>by
  have:i<S.m:=by rw[hI.rows.m];exact hi
  rw[hT.eA i this j (by omega)];exact hS.A i this _ (by omega)⟩
theorem oc.sz(hf:Fits p c L)(h:oc p c T):∀j,j<p.w+1→aM (T.c j)≤L∧∀i,i<p.lp.m→aM (T.A i j)≤L:=fun j hj=>by
 obtain⟨S,hI,hT⟩:=h
 have hS:=hf.qq S hI.1
 have hn:=hT.ew
 have hp:=MK (p:=p) (x:=j) (by omega)
 exact⟨by rw[hT.ec j (by omega)];exact hS.c _ (by omega),fun i hi=>by
  have:i<S.m:=by rw[hI.1.rows.m];exact hi
  rw[hT.eA i this j (by omega)];exact hS.A i this _ (by omega)⟩
theorem iX.sz{k:Nat}(hf:Fits p c L)(h:iX p k T):∀j,j<p.w+1→∀i,i<p.lp.m→aM (T.A i j)≤L:=fun j hj=>by
 obtain⟨S,hI,hT⟩:=h
 exact(mb.sz hf ⟨S,hI.1,hT⟩ j hj).2
theorem alj(hf:Fits p c L)(h:iX p p.lp.m T)(hr:ie M B T p.lp.m (p.w+1)){i j:Nat}(hi:i≤p.lp.m)(hj:j<p.w+1):aM (lN M B (fe p (fn c) 1 p.lp.n) i j)≤2*L:=by
 obtain⟨S,hI,hT⟩:=h
 have hm:S.m=p.lp.m:=hI.1.rows.m
 have hW:=hT.wf hI.1.wf
 have hn:=hT.en.trans hT.ew
 have hj:j≤p.w:=by omega
 have e:lN M B (fe p (fn c) 1 p.lp.n) i j=gU S (ki p c) i (p.pi j):=by
  have hu:∀i k,i<p.lp.m→k<p.lp.m→M k (B i)=if k=i then 1 else 0:=fun i k hi hk=>by
   have h1:=hW.lt i (by rw[hr.em];exact hi)
   rw[hr.eB i hi,hr.eA k hk _ (by omega)]
   exact hW.unit i k (by rw[hr.em];exact hi) (by rw[hr.em];exact hk)
  rw[aaL hu _ hi]
  unfold gU
  have e1:fe p (fn c) 1 p.lp.n j=if p.pi j=S.n then 0 else ki p c (p.pi j):=by
   rw[IW]
   by_cases e:p.pi j=S.n
   ·rw[if_pos e]
    have e':p.pi j=p.w:=e.trans hT.ew
    have h1:=LL (p:=p) (c:=c)
    rw[e'];exact h1
   ·rw[if_neg e]
  rw[e1]
  congr 1
  refine eG fun i' eZ=> ?_
  have h1:=hT.eB i' (by omega)
  rw[hr.eB i' (by omega),IW,hr.eA i' (by omega) j (by omega),hT.eA i' (by omega) j hj,h1.1]
 rw[e]
 have:=MK hj
 exact hf.Qx S hI.1 i (by omega) _ (by rw[hT.ew];exact this)
end
theorem alk{W k:Nat}{K:Heap}{xs vs:List Value}{f:Nat→Rat}{q:Rat}(h:lP W f (k+1) K xs)(hk:k<W)(hv:cg K vs q):lP W (bT f k q) (k+1) K (aL xs (k*3) vs):=by
 have h1:(fill (aK f W) (k+1)).set k (some q)=fill (aK (bT f k q) W) (k+1):=by
  have hl:k<(fill (aK f W) (k+1)).length:=by rw[m9 (by rw[bh];omega),bh];exact hk
  apply List.ext_getElem?
  intro i
  rw[List.getElem?_set]
  by_cases e:k=i
  ·subst e
   rw[if_pos rfl,if_pos hl,yd (dD hk) (Nat.lt_succ_self k),jw]
  ·rw[if_neg e]
   by_cases hi:i<k+1
   ·rw[yd (dD (show i<W by omega)) hi,yd (dD (show i<W by omega)) hi,eM (fun h=>e h.symm)]
   ·by_cases hiW:i<W
    ·have hn:∀g:Nat→Rat,(fill (aK g W) (k+1))[i]? = some none:=fun g=>by
      unfold fill
      rw[List.getElem?_append_right (by rw[List.length_map,List.length_take,bh];omega),List.getElem?_replicate,if_pos (by rw[List.length_map,List.length_take,bh];omega)]
     rw[hn,hn]
    ·rw[List.getElem?_eq_none (by rw[m9 (by rw[bh];omega),bh];omega),List.getElem?_eq_none (by rw[m9 (by rw[bh];omega),bh];omega)]
 show bG _ _ _ _
 rw[←h1]
 exact h.set (by rw[m9 (by rw[bh];omega),bh];exact hk) (show iw cg _ vs (some q)from hv) (iK.len _ _ _ hv)
theorem alm{W k:Nat}{K:Heap}{xs:List Value}{f g:Nat→Rat}(h:lP W f k K xs)(he:∀j,j<k→g j=f j)(hk:k≤W):lP W g k K xs:=by
 have e:fill (aK g W) k=fill (aK f W) k:=by
  unfold fill
  rw[bh,bh]
  congr 2
  apply List.ext_getElem?
  intro i
  rw[List.getElem?_take,List.getElem?_take]
  split
  ·rw[dD (by omega),dD (by omega),he i (by assumption)]
  ·rfl
 show bG _ _ _ _
 rw[e];exact h
theorem aln{W k n:Nat}{K:Heap}{xs:List Value}{f:Nat→Rat}(h:lP W f n K xs)(hk:k<n)(hn:n≤W):∃t:RC,bH K t.v (f k)∧∀(j:Nat)(v:Value),[.bool t.f,.slice t.A1 t.m1 t.c1,.slice t.A2 t.m2 t.c2][j]? = some v→xs[k*3+j]? = some v:=by
 obtain⟨vs,_,h2,h3⟩:=h.get (yd (dD (show k<W by omega)) hk)
 obtain⟨t,e,h4⟩:=cg.rc (show cg K vs (f k)from h2)
 subst e
 exact⟨t,h4,h3⟩
theorem cD.tab{H:Heap}{G:GG}{W m:Nat}{M:Nat→Nat→Rat}{B:Nat→Nat}(h:cD iK H G m W m M B):∃Ab cb,G.bv = .slice Ab m cb∧IY H G.Ar Ab G.rg m W M B∧∀{H' t R' M' B'},cD iK H' (G.on t) R' W m M' B'→∀i,i<m→Rd H' Ab (eP B' m):=by
 obtain⟨Ab,cb,dy,fJ⟩:=h.th
 refine⟨Ab,cb,dy,⟨h.iC,h.hd,fun i q hq=> ?_,?_⟩,fJ⟩
 ·obtain⟨xs,sz,h1,h2⟩:=h.ry hq
  exact⟨xs,dQ h1,h2.mono fun vs a=>ef _ _ vs a (bF _ _)⟩
 ·by_cases hm:0<m
  ·exact fJ (t:=G.top) h 0 hm
  ·obtain rfl:m=0:=by omega
   intro i v hv
   simp[eP]at hv
theorem aN.abv{N M:Nat}{H:Heap}{v:Value}{l:List Rat}(h:aN (dA N) 3 H v l)(hl:N≤M):aN (dA M) 3 H v l:=h.mono fun _ _ a=>dA.mono a hl
def alo(p:Prg)(c:List Rat)(L:Nat)(H:Heap)(v:Value)(H':Heap):Prop:=Heap.le H H'∧∃(st:Int)(t:RC)(xv:Value)(q:Rat),v = .tuple #[.int .i64 st,t.v,xv]∧od p c st q∧bH H' t.v q∧aM q≤L∧(st=1→∃x,aN cg 3 H' xv x∧x.length=p.free.length∧(∀q,q∈x→aM q≤2*L+17)∧q=cH p.free.length (fn c) (fn x))
theorem Ji{p:Prg}{c:List Rat}{L:Nat}{st:Int}{q:Rat}(hf:Fits p c L)(h:od p c st q):aM q≤L:=by
 have h1:=hf.one
 rcases h with ⟨_,_,T,hI,rfl⟩ | ⟨_,_,rfl⟩ | ⟨_,_,rfl⟩
 ·rw[wX]
  have:=hI.1.rows.n
  exact(hf.qq T hI.1).c _ (by omega)
 ·exact Nat.le_trans MR h1
 ·exact Nat.le_trans MR h1
end Go.aq
