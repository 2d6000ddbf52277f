/- Walks over package lexico, part 3: feasible, Minimize. -/
import Derived.Test.YtfjncmjbhfdnpaaGreatA14
import Derived.Test.YtfjncmjbhfdnpaaGreatLx2
import Derived.Test.YtfjncmjbhfdnpaaGreatLxz
set_option linter.unusedVariables false
namespace Go.au
open Go.Proofs Num Lp
abbrev KX:Nat:=200000000
def alW(K:Nat)(H:Heap)(s:Value)(S:qE):Prop:=∃f A1 m1 c1 A2 m2 c2 Ax cx Ad cd Ar cr,s = .agg #[.int .i64 S.status,.bool f,.slice A1 m1 c1,.slice A2 m2 c2,.slice Ax S.x.length cx,.slice Ad S.jg.length cd,.slice Ar S.ray.length cr]∧cn H (.agg #[.bool f,.slice A1 m1 c1,.slice A2 m2 c2]) S.value K∧aR (bN K) 3 H (.slice Ax S.x.length cx) S.x∧aR (bN K) 3 H (.slice Ad S.jg.length cd) S.jg∧aR (bN K) 3 H (.slice Ar S.ray.length cr) S.ray
theorem R3.k{K:Nat}{H:Heap}{s:Value}{S:qE}(h:R3 H s S)(hz:ZB K S):alW K H s S:=by
 obtain⟨f,u,w,xv,dv,rv,rfl,h4,h5,h6,h7⟩:=h
 obtain⟨Ax,cx,_,rfl,_⟩:=id h5
 obtain⟨Ad,cd,_,rfl,_⟩:=id h6
 obtain⟨Ar,cr,_,rfl,_⟩:=id h7
 have hx:=h5.zE fun q hq=>hz q (.inl hq)
 have hd:=h6.zE fun q hq=>hz q (.inr (.inl hq))
 have hr:=h7.zE fun q hq=>hz q (.inr (.inr (.inl hq)))
 rcases h4 with h4 | ⟨h4,rfl,rfl,rfl⟩
 ·obtain⟨u',w',e,hu,hw⟩:=id h4
  have e':=y8 (vs:=[.bool f,u,w]) e
  simp only[List.cons.injEq,and_true]at e'
  obtain⟨_,rfl,rfl⟩:=e'
  obtain⟨A1,c1,rfl,_⟩:=id hu
  obtain⟨A2,c2,rfl,_⟩:=id hw
  exact⟨_,_,_,_,_,_,_,_,_,_,_,_,_,rfl,(bJ.raw h4).mono (hz _ (.inr (.inr (.inr rfl)))),hx,hd,hr⟩
 ·exact⟨_,_,_,_,_,_,_,_,_,_,_,_,_,rfl,by rw[h4];exact IJ,hx,hd,hr⟩
def UI(p:Prg)(c:List Rat)(H:Heap)(v:Value)(H':Heap):Prop:=Heap.le H H'∧∃S f A1 m1 c1 A2 m2 c2 Ax cx Ad cd Ar cr,v = .tuple #[.agg #[.int .i64 S.status,.bool f,.slice A1 m1 c1,.slice A2 m2 c2,.slice Ax S.x.length cx,.slice Ad S.jg.length cd,.slice Ar S.ray.length cr],.int .i64 0]∧rR p c S∧Ce p c S∧cn H' (.agg #[.bool f,.slice A1 m1 c1,.slice A2 m2 c2]) S.value KX∧aR (bN KX) 3 H' (.slice Ax S.x.length cx) S.x∧aR (bN KX) 3 H' (.slice Ad S.jg.length cd) S.jg∧aR (bN KX) 3 H' (.slice Ar S.ray.length cr) S.ray
theorem Oc{N M:Nat}{H:Heap}{v cv:Value}{p:Prg}{c:List Rat}(hp:eH N H v p)(hc:aR (bN N) 3 H cv c)(hN:N≤400000000)(a8:p.Ok)(hlen:c.length=p.free.length)(hf:Fits p c M)(hM:M≤99999998):Fn Tryz.prog 12 #[v,cv] H (UI p c H):=by
 have hn:=a8.iu
 refine(ail hp hc hf (by omega) (by omega) (by omega)).mono ?_
 rintro v' H' ⟨hl,s,e,rfl,h3⟩
 rcases h3 with h3 | h3 | ⟨_,_,rfl,S,k4,k5,k6,k7⟩
 ·exact absurd a8 h3.1
 ·exact absurd hlen h3.2.1
 ·obtain⟨f,A1,m1,c1,A2,m2,c2,Ax,cx,Ad,cd,Ar,cr,rfl,g1,g2,g3,g4⟩:=k4.k (K:=KX) (fun q hq=>Nat.le_trans (k6 q hq) (by show _≤200000000;omega))
  exact⟨hl,S,f,A1,m1,c1,A2,m2,c2,Ax,cx,Ad,cd,Ar,cr,rfl,k5,k7,g1,g2,g3,g4⟩
theorem UI.le{p:Prg}{c:List Rat}{H:Heap}{v:Value}{H':Heap}(h:UI p c H v H'):Heap.le H H':=h.1
def abS(H:Heap)(v:Value)(S:JM):Prop:=∃A1 c1 A2 c2 A3 c3 A4 c4,v = .agg #[.int .i64 S.status,.slice A1 S.values.length c1,.slice A2 S.x.length c2,.slice A3 S.z6.length c3,.slice A4 S.ray.length c4]∧aR (bN KX) 3 H (.slice A1 S.values.length c1) S.values∧aR (bN KX) 3 H (.slice A2 S.x.length c2) S.x∧qh KX H (.slice A3 S.z6.length c3) S.z6∧aR (bN KX) 3 H (.slice A4 S.ray.length c4) S.ray
def alX:Value:= .agg #[.int .i64 0,.slice none 0 0,.slice none 0 0,.slice none 0 0,.slice none 0 0]
def alY(p:Prg)(os:List (List Rat))(H:Heap)(v:Value)(H':Heap):Prop:=Heap.le H H'∧∃s e,v = .tuple #[s,.int .i64 e]∧Fi p os e∧((e≠0∧s=alX)∨(e=0∧∃S,abS H' s S∧NZ p os S))
theorem Ul{N:Nat}{H:Heap}{g k:Nat}:aR (bN N) 3 (ins H g ⟨cg [.bool false,.slice none 0 0,.slice none 0 0] ((k:Int).toNat*3),(k:Int).toNat*3,31,true⟩) (.slice (some ⟨g,0,none⟩) (k:Int).toNat (k:Int).toNat) (List.replicate k 0):=by
 rw[Int.toNat_natCast]
 exact⟨_,k,_,by rw[List.length_replicate],by rw[List.length_replicate];exact Nat.le_refl _,dD _ _ _ _ _ _,Gn (P:=bN N _) rfl IJ k⟩
theorem NW(k j:Nat):fn (List.replicate k 0) j=0:=by
 unfold fn
 rw[List.getD,List.getElem?_replicate]
 split <;> rfl
theorem gL.od{α β:Type}{P:Heap→List Value→α→Prop}{e sz:Nat}{Q:Heap→List Value→β→Prop}{e' eS:Nat}{Hb H:Heap}{v u:Value}{l:List α}{xs:List Value}{k:List β}{ys:List Value}(h:gL P e sz Q e' eS Hb H v l xs u k ys):gL P e sz Q e' eS (rem H (az v++az u)) H v l xs u k ys:=⟨h.own,h.vJ,h.mg,h.EO,.refl _,h.apart⟩
theorem gL.down{α β:Type}{P:Heap→List Value→α→Prop}{e sz:Nat}{Q:Heap→List Value→β→Prop}{e' eS:Nat}{Hb Hc H:Heap}{v u:Value}{l:List α}{xs:List Value}{k:List β}{ys:List Value}(h:gL P e sz Q e' eS Hb H v l xs u k ys)(hl:Heap.le Hc Hb):gL P e sz Q e' eS Hc H v l xs u k ys:=⟨h.own,h.vJ,h.mg,h.EO,hl.trans h.base,h.apart⟩
structure alZ(p:Prg)(os:List (List Rat))(E f0:Nat)(H H':Heap)(i:Nat)(w:Value×Value×Value)(z:List Value×List Value)(a:List Rat×List (List Rat)×List Rat):Prop where
 JF:gL (bN KX) 31 3 (sV KX) 26 1 H H' w.1 a.1 z.1 w.2.1 a.2.1 z.2
 xv:∃A c,w.2.2 = .slice A a.2.2.length c∧aR (bN KX) 3 (rem H' (az w.1++az w.2.1)) (.slice A a.2.2.length c) a.2.2
 vl:a.1.length=i
 dl:a.2.1.length=i
 le:i≤os.length
 UJ:∀(j:Nat)(o:List Rat)(v:Rat)(d:List Rat),os[j]? = some o→a.1[j]? = some v→a.2.1[j]? = some d→ur (bP p os (a.1.take j)) o v d
 cZ:0<i→(bP p os a.1).lp.dH 1 (fn a.2.2)∧a.2.2.length=p.free.length
 bin:∃D,kK D (f0+i*E) (bP p os a.1)
theorem al0{N:Nat}{H:Heap}{v:Value}{p:Prg}(h:p.Ok):∀r,r∈p.rows→r.1.length≤1000:=fun r hr=>by
 obtain⟨i,hi⟩:=List.getElem?_of_mem hr
 have h1:=(h.row i r hi).1
 have h2:=h.iu
 omega
theorem qh.mono{N M:Nat}{H:Heap}{v:Value}{ls:List (List Rat)}(h:qh N H v ls)(hl:N≤M):qh M H v ls:=aR.mono h fun _ _ ⟨A,c,h1,h2⟩=>⟨A,c,h1,aR.mono h2 fun _ _ h=>bN.mono h hl⟩
theorem al1{H:Heap}{v:Value}{p:Prg}{N E f0:Nat}(hp:eH N H v p)(hN:N≤KX)(a8:p.Ok)(cK:vS p [] E f0):
 Fn Tryz.prog 72 #[v] H (fun v' H'=>Heap.le H H'∧∃s,v' = .tuple #[s,.int .i64 0]∧∃S,abS H' s S∧NZ p [] S):=by
 obtain⟨fv,gB,rfl,eI,fk⟩:=id hp
 obtain⟨Af,cf,xf,rfl,jk,jl⟩:=eI.one
 obtain⟨Ar,cr,xr,rfl,jL,fy,iE⟩:=id fk
 have jf:=a8.iu
 have hNK:N≤200000000:=hN;refine a7 (args:=[_]) Tryz.func72 rfl rfl Tryz.ntmps72 rfl rfl fun w0=> ?_;refine aj [0] rfl ?_;refine ag (bX rfl rfl (bt wm rfl (ab 1 rfl (ae [1,2] ?_))));refine bO .bL [0,1,2,3,4,5,6,7,8,9,10,11] follows (by kernel_rfl) ?_;refine ab 4 rfl (gF Tryz.underlying26 bY rfl rfl rfl (by omega) (by omega) (by omega) (by omega) ?_);intro g hg;have hle:=Heap.bB ⟨cg [.bool false,.slice none 0 0,.slice none 0 0] ((p.free.length:Int).toNat*3),(p.free.length:Int).toNat*3,31,true⟩ hg;obtain⟨D0,CS⟩:=cK.bin;obtain⟨M,uK,hM⟩:=cK.fit (vs:=[]) (o:=List.replicate p.free.length 0) (Nat.zero_le _) (.inr (NW _)) (by rw[ext_nil];exact CS);rw[ext_nil]at uK;have JG:=cK.JH
 simp only[List.length_nil,Nat.zero_add,Nat.one_mul]at JG
 refine bm rfl rfl (Oc (N:=N) (hp.le hle) Ul (by omega) a8 (by rw[List.length_replicate]) uK (by omega)) (fun _ _ h=>by first | exact h.le | exact h.1) ?_;rintro _ H2 ⟨dG,S,f2,B21,m21,Ms,B22,m22,e22,B2x,e2x,B2d,e2d,B2r,e2r,rfl,mW,JT,vg,z8,CT,DZ⟩;refine ab 3 rfl (bt uM rfl ?_);obtain⟨ti,ak,al⟩:=pN;refine aH (.inl ⟨rfl,rfl⟩) rfl rfl rfl ak al rfl rfl rfl (ab 1 rfl (ae [2,4,5] ?_));refine ao (ag (ab 2 rfl (ae [2,4,5,16] ?_)));refine dU rfl (aA (aj [2,4] rfl ?_));refine ao (ag (ab 3 rfl (ae [2,4,21] ?_)));refine aC rfl (fun hb=> ?_) (fun hb=> ?_)
 ·
  have h2:S.status=2:=by simpa using hb
  obtain⟨k1,k2,k3,k4,k5⟩:=mW.WY h2;refine ag (ab 2 rfl (cW Tryz.underlying40 rE rfl rfl rfl rfl rfl rfl rfl ?_));intro gb bx;have eW:=Heap.bB (whole (cG [.slice B2d S.jg.length e2d]) 26) bx;refine dy ah rfl wm rfl rfl ?_;obtain⟨ti,ak,al⟩:=oF;refine aH (.inl ⟨rfl,rfl⟩) rfl rfl rfl ak al rfl rfl rfl (ab 1 rfl (ae [2,3] ?_));obtain⟨bQ,aM,aN⟩:=oF;refine aD ⟨.inr rfl,_,.agg rfl Tryz.underlying43 aM aN (.tmp rfl (.nil)),?_⟩;refine⟨hle.trans (dG.trans eW),_,rfl,⟨2,[],[],[S.jg],[]⟩,⟨_,_,_,_,_,_,_,_,rfl,ki,ki,?_,ki⟩,.inr (.inl ⟨rfl,rfl,rfl,rfl,_,rfl,k5⟩)⟩;exact⟨_,1,_,rfl,Nat.le_refl _,dD _ _ _ _ _ _,iP (P:=sV KX _) (vs:=[.slice B2d S.jg.length e2d]) ⟨_,_,rfl,CT.le (dI KX) eW⟩ rfl⟩
 ·
  have h2:¬S.status=2:=by simpa using hb
  have UK:Gy p S.x:=by
   rcases mW with h9 | h9 | h9
   ·exact h9.2.2.1.cZ
   ·exact absurd h9.1 h2
   ·exact h9.2.2.2.cZ
  refine aA (aj [2,4] rfl ?_);refine ag (ab 2 rfl (dy ah rfl wm rfl rfl ?_));obtain⟨ti,ak,al⟩:=oF;refine aH (.inl ⟨rfl,rfl⟩) rfl rfl rfl ak al rfl rfl rfl (ab 1 rfl (ae [2,3] ?_));obtain⟨bQ,aM,aN⟩:=oF;refine aD ⟨.inr rfl,_,.agg rfl Tryz.underlying43 aM aN (.tmp rfl (.nil)),?_⟩;exact⟨hle.trans dG,_,rfl,⟨1,[],S.x,[],[]⟩,⟨_,_,_,_,_,_,_,_,rfl,ki,z8,ki,ki⟩,.inl ⟨rfl,rfl,rfl,UK,rfl,Nat.le_refl _,fun i o v d h1=>by simp at h1⟩⟩
theorem alE{H:Heap}{v ov:Value}{p:Prg}{os:List (List Rat)}{N E f0:Nat}(hp:eH N H v p)(ho:qh N H ov os)(hN:N≤KX)(dA:os.length≤9223372036854775807)(cK:NY p os→vS p os E f0):
 Fn Tryz.prog 17 #[v,ov] H (alY p os H):=by
 obtain⟨fv,gB,rfl,eI,fk⟩:=id hp
 obtain⟨Af,cf,xf,rfl,jk,jl⟩:=eI.one
 obtain⟨Ar,cr,xr,rfl,jL,fy,iE⟩:=id fk
 obtain⟨Ao,co,xo,rfl,oJ,qw,z7⟩:=id ho
 have hNK:N≤200000000:=hN;refine a7 (args:=[_,_]) Tryz.func17 rfl rfl Tryz.ntmps17 rfl rfl fun w0=> ?_;refine aj [0,1] rfl ?_;refine ag (bX rfl rfl (bt wm rfl (ab 1 rfl (ae [1,2,4] ?_))));refine ao (ag (ab 2 rfl (aE rfl rfl (alV hp ho dA) ?_)));rintro _ H1 ⟨e1,er,rfl,hE⟩;rw[e1];refine ab 1 rfl (ae [1,2,4,6] ?_);refine ag (ab 2 rfl (ae [1,2,4,6,16] ?_));refine aC rfl (fun hb=> ?_) (fun hb=> ?_)
 ·
  have h1:¬er=0:=by simpa using hb
  refine ag (dy ah rfl wm rfl rfl (vr 1 ?_));obtain⟨ti,ak,al⟩:=oF;refine aH (.inl ⟨rfl,rfl⟩) rfl rfl rfl ak al rfl rfl rfl (ab 1 rfl (ae [4,5] ?_));obtain⟨bQ,aM,aN⟩:=oF;refine aD ⟨.inr rfl,_,.agg rfl Tryz.underlying43 aM aN (.tmp rfl (.nil)),?_⟩;exact⟨.refl _,_,er,rfl,hE,.inl ⟨h1,rfl⟩⟩
 ·
  have h1:er=0:=by simpa using hb
  subst h1;have hf:=hE.alS;have a8:=hf.ok;have jf:=a8.iu;have vD:=a8.rows;have anS:=hf.uk;have anT:=hf.rows;have hz:=cK hf;have JG:=hz.JH;refine aA (aj [1,2,4] rfl ?_);refine ao (ag (ab 3 rfl (ae [1,2,4,21] ?_)));refine aC rfl (fun hb=> ?_) (fun hb=> ?_)
  ·
   have h2:(os.length:Int)=0:=by simpa using hb
   have h3:os = []:=List.length_eq_zero_iff.1 (by omega);subst h3;refine ag (ab 1 rfl (aE rfl rfl (al1 hp hN a8 hz) ?_));rintro _ H2 ⟨dG,s,rfl,S,⟨A1,c1,A2,c2,A3,c3,A4,c4,rfl,oM,dF,HU,B9⟩,mW⟩;refine vr 2 ?_;obtain⟨ti,ak,al⟩:=oF;refine aH (.inl ⟨rfl,rfl⟩) rfl rfl rfl ak al rfl rfl rfl (ab 1 rfl (ae [4,5] ?_));obtain⟨bQ,aM,aN⟩:=oF;refine aD ⟨.inr rfl,_,.agg rfl Tryz.underlying43 aM aN (.tmp rfl (.nil)),?_⟩;exact⟨dG,_,0,rfl,hE,.inr ⟨rfl,S,⟨A1,c1,A2,c2,A3,c3,A4,c4,rfl,oM,dF,HU,B9⟩,mW⟩⟩
  have h2:¬(os.length:Int)=0:=by simpa using hb
  have hpK:=hp.mono hN;have hoK:=ho.mono hN;refine aA (aj [1,2,4] rfl ?_);refine ag (bt wm rfl (ae [1,2,4,7] ?_));refine ao (ag (ab 3 rfl (ae [1,2,4,7,26,27,28] ?_)));refine aF (oD (fun(i:Nat)(w:Value×Value×Value)(z:List Value×List Value)(a:List Rat×List (List Rat)×List Rat)=>os.length-i) (fun(i:Nat)(w:Value×Value×Value)(z:List Value×List Value)(a:List Rat×List (List Rat)×List Rat)=>put (put (put (put (put (put (put (emp) 1 (.val (.slice Ao os.length co))) 2 (.box [.slice Af p.free.length cf,.slice Ar p.rows.length cr])) 4 (.box [.int .i64 0,.slice none 0 0,.slice none 0 0,.slice none 0 0,.slice none 0 0])) 7 (.box [.int .i64 0,w.1,w.2.2,w.2.1,.slice none 0 0])) 26 (.val (.slice Ao os.length co))) 27 (.val (.int .i64 (os.length:Int)))) 28 (.val (.int .i64 (i:Int)))) (fun(i:Nat)(w:Value×Value×Value)(z:List Value×List Value)(a:List Rat×List (List Rat)×List Rat) H'=>alZ p os E f0 H H' i w z a) 0 (.slice none 0 0,.slice none 0 0,.slice none 0 0) ([],[]) ([],[],[]) (⟨(IK H).two,⟨none,0,rfl,ki⟩,rfl,rfl,Nat.zero_le _,(fun j o v d _ h=>by simp at h),(fun h=>by omega),by obtain⟨D,hD⟩:=hz.bin;exact⟨D,by rw[Nat.zero_mul,Nat.add_zero,ext_nil];exact hD⟩⟩) ar ?_);rintro i w z a H2 hI;obtain⟨w1,w2,wx⟩:=w;obtain⟨z1,z2⟩:=z
  obtain⟨a1,a2,a3⟩:=a;have hG:=hI.JF;have iC:=hI.vl;have hdl:=hI.dl;have anU:=hI.le
  simp only at hG iC hdl
  obtain⟨AX,cX,eX,hX⟩:=hI.xv
  simp only at eX hX
  subst eX;obtain⟨D1,d1,rfl⟩:=hG.form;obtain⟨D2,d2,rfl⟩:=hG.aab;refine ag (ab 1 rfl (ae [1,2,4,7,26,27,28,29] ?_));refine ao (aC rfl (fun hb=> ?_) (fun hb=> ?_))
  ·
   have zY:i<os.length:=by simpa using hb
   obtain⟨o,om⟩:∃o,os[i]? = some o:=⟨_,List.getElem?_eq_getElem zY⟩
   have UL:os[a1.length]? = some o:=by rw[iC];exact om
   obtain⟨Bo,cb,oo,fH⟩:=N7 z7 om;have UM:=List.mem_of_getElem? om;have hoc:=hf.vec o UM;obtain⟨D0,CS⟩:=hI.bin;obtain⟨M,uK,hM⟩:=hz.fit (vs:=a1) (o:=o) (by omega) (.inl UM) CS
   have UN:M≤99999998:=by
    have h9:i*E+E≤(os.length+1)*E:=by rw[←Nat.succ_mul];exact Nat.mul_le_mul_right _ (by omega)
    omega
   have al2:(bP p os a1).Ok:=abE a8 hf.vec (by omega);refine aA (aj [1,2,4,7,26,27,28] rfl ?_);refine ao (aF (ag (aQ ah rfl rfl rfl rfl rfl (qw.le hG.le) (by rw[Int.toNat_natCast];exact oo) (by omega) (by omega) fun _=> ?_)));refine ab 1 rfl (ae [1,2,4,7,9,26,27,28] ?_);refine ag (ab 4 rfl (aE rfl rfl (alT (gs:=(az (.slice D1 a1.length d1)++az (.slice D2 a2.length d2))) (N:=KX) hG.mQ (hpK.le hG.base) (hoK.le (rj KX) hG.base) hG.own.rd hG.mg (by omega) jf vD (al0 (N:=0) (H:=H) (v:= .bool true) a8) (fun o h=>by have h9:=hf.vec o h;omega) (by omega) (by decide)) ?_));rintro _ H3 ⟨oC,Q1,q1,u1,Q2,q2,u2,rfl,hq⟩;have yg:=hG.od.step (dI KX) (rj KX) oC.same oC.le;refine ab 1 rfl (aE rfl rfl (Fn.frame yg.mQ (Oc (N:=KX+2) hq ((fH.mono fun _ _ h=>bN.mono h (show N≤KX+2 by show N≤200000002;omega)).le (dI (KX+2)) (hG.base.trans yg.base)) (by decide) al2 hoc uK UN)) ?_);rintro _ H4 ⟨⟨dW,S,f4,B41,m41,e41,B42,m42,e42,B4x,e4x,Od,Oe,B4r,e4r,rfl,mW,JT,vg,z8,CT,DZ⟩,LI⟩;have uo:=(yg.step (dI KX) (rj KX) LI dW).down hG.base;refine ab 3 rfl (bt uM rfl ?_);obtain⟨ti,ak,al⟩:=pN;refine aH (.inl ⟨rfl,rfl⟩) rfl rfl rfl ak al rfl rfl rfl ?_
   refine ab 1 rfl (ae [1,2,4,7,10,11,26,27,28] ?_);refine ao (ag (ab 2 rfl (ae [1,2,4,7,10,11,26,27,28,43] ?_)));refine dU rfl (aA (aj [1,2,4,7,10,26,27,28] rfl ?_));refine ao (ag (ab 2 rfl (ae [1,2,4,7,10,26,27,28,47] ?_)));refine aF (ag (ab 2 rfl (ae [1,2,4,7,10,26,27,28,47,48] ?_)));refine aC rfl (fun hb=> ?_) (fun hb=> ?_)
   ·
    have h2:S.status=2:=by simpa using hb
    obtain⟨k1,k2,k3,k4,k5⟩:=mW.WY h2
    have Nq:i=0:=by
     by_cases h9:0<i
     ·exact absurd (hI.cZ h9).1 (k5.cert.isInf k5.ok.valid _)
     ·omega
    have zl:a1 = []:=List.length_eq_zero_iff.1 (by omega);rw[zl,ext_nil]at k5;refine ag (ab 2 rfl (cW Tryz.underlying40 rE rfl rfl rfl rfl rfl rfl rfl ?_));intro gb bx;have eW:=Heap.bB (whole (cG [.slice Od S.jg.length Oe]) 26) bx;refine dy ah rfl wm rfl rfl ?_;obtain⟨ti,ak,al⟩:=oF;refine aH (.inl ⟨rfl,rfl⟩) rfl rfl rfl ak al rfl rfl rfl (ab 1 rfl (ae [4,5] ?_));obtain⟨bQ,aM,aN⟩:=oF;refine aD ⟨.inr rfl,_,.agg rfl Tryz.underlying43 aM aN (.tmp rfl (.nil)),?_⟩;refine⟨uo.le.trans eW,_,0,rfl,hE,.inr ⟨rfl,⟨2,[],[],[S.jg],[]⟩,⟨_,_,_,_,_,_,_,_,rfl,ki,ki,?_,ki⟩,.inr (.inl ⟨rfl,rfl,rfl,rfl,_,rfl,k5⟩)⟩⟩;exact⟨_,1,_,rfl,Nat.le_refl _,dD _ _ _ _ _ _,iP (P:=sV KX _) (vs:=[.slice Od S.jg.length Oe]) ⟨_,_,rfl,(CT.le (dI KX) (bE _ _)).le (dI KX) eW⟩ rfl⟩
   have h2:¬S.status=2:=by simpa using hb
   refine ag (ab 2 rfl (ae [1,2,4,7,10,26,27,28,54] ?_));refine aC rfl (fun hb=> ?_) (fun hb=> ?_)
   ·
    have h3:S.status=3:=by simpa using hb
    obtain⟨k1,k2,k3⟩:=mW.at3 h3;have CR:=abL (st:=3) (ray:=S.ray) (p:=p) (os:=os) (vs:=a1) (ds:=a2) (x:=S.x) (by omega) (by omega) hI.UJ k3.cZ.meets k3.cZ.len;refine bO (.pE [7]) [0,1,2,3,4,5,6,7,8,9] follows (by kernel_rfl) ?_;refine vr 5 ?_;obtain⟨ti,ak,al⟩:=pM;refine aH (.inr rfl) rfl rfl rfl ak al rfl rfl rfl (vr 1 ?_);obtain⟨ti,ak,al⟩:=FV;refine aH (.inr rfl) rfl rfl rfl ak al rfl rfl rfl (vr 1 ?_);obtain⟨ti,ak,al⟩:=FV;refine aH (.inr rfl) rfl rfl rfl ak al rfl rfl rfl (ae [4,7] ?_);refine ag (vr 1 ?_);obtain⟨ti,ak,al⟩:=oF;refine aH (.inl ⟨rfl,rfl⟩) rfl rfl rfl ak al rfl rfl rfl (ab 1 rfl (ae [4,5] ?_));obtain⟨bQ,aM,aN⟩:=oF;refine aD ⟨.inr rfl,_,.agg rfl Tryz.underlying43 aM aN (.tmp rfl (.nil)),?_⟩;exact⟨uo.le,_,0,rfl,hE,.inr ⟨rfl,⟨3,a1,S.x,a2,S.ray⟩,⟨_,_,_,_,_,_,_,_,rfl,((uo.one (dI KX) (rj KX)).1.sl (dI KX)),z8.le (dI KX) (bE _ _),((uo.one (dI KX) (rj KX)).2.le (rj KX) (bE _ _)),DZ.le (dI KX) (bE _ _)⟩,.inr (.inr ⟨rfl,by show a1.length<_;omega,CR,o,UL,k3⟩)⟩⟩
   have h3:¬S.status=3:=by simpa using hb
   have h1:S.status=1:=by rcases mW with h9 | h9 | h9;exact h9.1;exact absurd h9.1 h2;exact absurd h9.1 h3
   obtain⟨k1,k2,k3⟩:=mW.Ll h1;have k3':bK p.free.length (fn o) (fn S.x)=S.value:=k3.symm
   have al3:ur (bP p os a1) o S.value S.jg:=by have h9:=ur.of k2;rwa [←k3]at h9
   have UK:(bP p os (a1 ++ [S.value])).lp.dH 1 (fn S.x):=abH (by omega) UL k2.cZ.meets k3';have cP:S.x.length=p.free.length:=k2.cZ.len
   have al4:∃D,kK D (f0+(i+1)*E) (bP p os (a1 ++ [S.value])):=by
    obtain⟨D',h9⟩:=hz.step (vs:=a1) (by omega) UM CS JT h1;exact⟨D',by rw[show f0+(i+1)*E=E+(f0+i*E) by rw[Nat.succ_mul i];omega];exact h9⟩
   have jQ:=uo.od;refine aA (aj [1,2,4,7,10,26,27,28] rfl ?_);refine ag (vr 3 ?_);obtain⟨ti,ak,al⟩:=FV;refine aH (.inr rfl) rfl rfl rfl ak al rfl rfl rfl (ae [1,2,4,7,10,26,27,28] ?_);refine ag (ab 4 rfl (cW Tryz.underlying26 bY rfl rfl rfl rfl rfl rfl rfl ?_));intro gb bx;have UO:=jQ.ins (dI KX) (rj KX) (whole (cG [.agg #[.bool f4,.slice B41 m41 e41,.slice B42 m42 e42]]) 31) bx;refine dR Tryz.underlying26 bY rfl rfl UO.own (dD _ _ _ _ _ _) rfl (Cl _ _ _ _ _ _ _) (by omega) (by omega) ?_;intro v6 H6 Mi;have fK:=UO.append (dI KX) (rj KX) (j:=[S.value]) (by simp) Mi (iP (P:=bN KX _) (vs:=[.bool f4,.slice B41 m41 e41,.slice B42 m42 e42]) (cn.le vg UO.base) rfl);obtain⟨D6,d6,rfl⟩:=fK.form;refine vr 1 ?_;obtain⟨ti,ak,al⟩:=FV;refine aH (.inr rfl) rfl rfl rfl ak al rfl rfl rfl (ae [1,2,4,7,10,26,27,28] ?_);refine aB rfl (ab 4 rfl (cW Tryz.underlying40 rE rfl rfl rfl rfl rfl rfl rfl ?_));intro gc j9;have xX:=fK.ins (dI KX) (rj KX) (whole (cG [.slice Od S.jg.length Oe]) 26) j9;refine dR Tryz.underlying40 rE rfl rfl xX.vJ (dD _ _ _ _ _ _) rfl (alM KX _ _ S.jg ⟨_,_,rfl,CT⟩) (by omega) (by omega) ?_;intro v7 H7 uj
   have iI:=xX.ai4 (dI KX) (rj KX) (j:=[S.jg]) (by simp) uj (iP (P:=sV KX _) (vs:=[.slice Od S.jg.length Oe]) ⟨_,_,rfl,CT.le (dI KX) xX.base⟩ rfl);obtain⟨D7,d7,rfl⟩:=iI.aab;refine vr 1 ?_;obtain⟨ti,ak,al⟩:=FW;refine aH (.inr rfl) rfl rfl rfl ak al rfl rfl rfl (aw (aj [1,2,4,7,26,27,28] rfl ?_));refine aB rfl (aG rfl rfl ⟨by omega,by omega⟩ (ab 1 rfl (aw ?_)));exact⟨i+1,(_,_,_),(_,_),(a1 ++ [S.value],a2 ++ [S.jg],S.x),by omega,ar,⟨iI.down uo.base,⟨_,_,rfl,z8.le (dI KX) iI.base⟩,by simp[iC],by simp[hdl],by omega,alp (by omega) UL hI.UJ al3,fun _=>⟨UK,cP⟩,al4⟩⟩
  have hb:os.length≤i:=by simpa using hb
  obtain rfl:i=os.length:=by omega
  obtain⟨Bi,cP⟩:=hI.cZ (by omega)
  simp only at Bi cP
  have CR:=abL (st:=1) (ray:=[]) (p:=p) (os:=os) (vs:=a1) (ds:=a2) (x:=a3) (by omega) (by omega) hI.UJ Bi cP;refine aV (aj [4,7] rfl ?_);refine ag (vr 1 ?_);obtain⟨ti,ak,al⟩:=pM;refine aH (.inr rfl) rfl rfl rfl ak al rfl rfl rfl (ae [4,7] ?_);refine ag (vr 1 ?_);obtain⟨ti,ak,al⟩:=oF;refine aH (.inl ⟨rfl,rfl⟩) rfl rfl rfl ak al rfl rfl rfl (ab 1 rfl (ae [4,5] ?_));obtain⟨bQ,aM,aN⟩:=oF;refine aD ⟨.inr rfl,_,.agg rfl Tryz.underlying43 aM aN (.tmp rfl (.nil)),?_⟩;exact⟨hG.le,_,0,rfl,hE,.inr ⟨rfl,⟨1,a1,a3,a2,[]⟩,⟨_,_,_,_,_,_,_,_,rfl,((hG.one (dI KX) (rj KX)).1.sl (dI KX)),hX.le (dI KX) (bE _ _),((hG.one (dI KX) (rj KX)).2.le (rj KX) (bE _ _)),ki⟩,.inl ⟨rfl,iC,rfl,⟨a8,cP,((yf (by omega)).1 Bi).1⟩,CR⟩⟩⟩
end Go.au
