/- Walks over package lexico, part 3: feasible, Minimize. -/
import Derived.Test.YtgjimcieaecdkaaGreatA10
import Derived.Test.YtgjimcieaecdkaaGreatLx2
import Derived.Test.YtgjimcieaecdkaaGreatLxz
set_option linter.unusedVariables false
namespace Go.ar
open Go.Proofs Num Lp
abbrev KX:Nat:=200000000
def ab8(K:Nat)(H:Heap)(s:Value)(S:mL):Prop:=∃f A1 m1 c1 A2 m2 c2 Ax cx Ad cd Ar cr,s = .agg #[.int .i64 S.status,.bool f,.slice A1 m1 c1,.slice A2 m2 c2,.slice Ax S.x.length cx,.slice Ad S.fw.length cd,.slice Ar S.ray.length cr]∧bL H (.agg #[.bool f,.slice A1 m1 c1,.slice A2 m2 c2]) S.value K∧aH (bJ K) 3 H (.slice Ax S.x.length cx) S.x∧aH (bJ K) 3 H (.slice Ad S.fw.length cd) S.fw∧aH (bJ K) 3 H (.slice Ar S.ray.length cr) S.ray
theorem Ke.k{K:Nat}{H:Heap}{s:Value}{S:mL}(h:Ke H s S)(hz:QJ K S):ab8 K H s S:=by
 obtain⟨f,u,w,xv,dv,rv,rfl,h4,h5,h6,h7⟩:=h
 obtain⟨Ax,cx,_,rfl,_⟩:=id h5
 obtain⟨Ad,cd,_,rfl,_⟩:=id h6
 obtain⟨Ar,cr,_,rfl,_⟩:=id h7
 have hx:=h5.Cj fun q hq=>hz q (.inl hq)
 have hd:=h6.Cj fun q hq=>hz q (.inr (.inl hq))
 have hr:=h7.Cj fun q hq=>hz q (.inr (.inr (.inl hq)))
 rcases h4 with h4 | ⟨h4,rfl,rfl,rfl⟩
 ·obtain⟨u',w',e,hu,hw⟩:=id h4
  have e':=xN (vs:=[.bool f,u,w]) e
  simp only[List.cons.injEq,and_true]at e'
  obtain⟨_,rfl,rfl⟩:=e'
  obtain⟨A1,c1,rfl,_⟩:=id hu
  obtain⟨A2,c2,rfl,_⟩:=id hw
  exact⟨_,_,_,_,_,_,_,_,_,_,_,_,_,rfl,(dI.raw h4).mono (hz _ (.inr (.inr (.inr rfl)))),hx,hd,hr⟩
 ·exact⟨_,_,_,_,_,_,_,_,_,_,_,_,_,rfl,by rw[h4];exact KI,hx,hd,hr⟩
def Lc(p:Prg)(c:List Rat)(H:Heap)(v:Value)(H':Heap):Prop:=Heap.le H H'∧∃S f A1 m1 c1 A2 m2 c2 Ax cx Ad cd Ar cr,v = .tuple #[.agg #[.int .i64 S.status,.bool f,.slice A1 m1 c1,.slice A2 m2 c2,.slice Ax S.x.length cx,.slice Ad S.fw.length cd,.slice Ar S.ray.length cr],.int .i64 0]∧nO p c S∧FL p c S∧bL H' (.agg #[.bool f,.slice A1 m1 c1,.slice A2 m2 c2]) S.value KX∧aH (bJ KX) 3 H' (.slice Ax S.x.length cx) S.x∧aH (bJ KX) 3 H' (.slice Ad S.fw.length cd) S.fw∧aH (bJ KX) 3 H' (.slice Ar S.ray.length cr) S.ray
theorem Gf{N M:Nat}{H:Heap}{v cv:Value}{p:Prg}{c:List Rat}(hp:dE N H v p)(hc:aH (bJ N) 3 H cv c)(hN:N≤400000000)(a8:p.Ok)(hlen:c.length=p.free.length)(hf:Fits p c M)(hM:M≤99999998):Fn Tryz.prog 7 #[v,cv] H (Lc p c H):=by
 have hn:=a8.gu
 refine(aaw hp hc hf (by omega) (by omega) (by omega)).mono ?_
 rintro v' H' ⟨hl,s,e,rfl,h3⟩
 rcases h3 with h3 | h3 | ⟨_,_,rfl,S,k4,k5,k6,k7⟩
 ·exact absurd a8 h3.1
 ·exact absurd hlen h3.2.1
 ·obtain⟨f,A1,m1,c1,A2,m2,c2,Ax,cx,Ad,cd,Ar,cr,rfl,g1,g2,g3,g4⟩:=k4.k (K:=KX) (fun q hq=>Nat.le_trans (k6 q hq) (by show _≤200000000;omega))
  exact⟨hl,S,f,A1,m1,c1,A2,m2,c2,Ax,cx,Ad,cd,Ar,cr,rfl,k5,k7,g1,g2,g3,g4⟩
theorem Lc.le{p:Prg}{c:List Rat}{H:Heap}{v:Value}{H':Heap}(h:Lc p c H v H'):Heap.le H H':=h.1
def RM(H:Heap)(v:Value)(S:Cn):Prop:=∃A1 c1 A2 c2 A3 c3 A4 c4,v = .agg #[.int .i64 S.status,.slice A1 S.values.length c1,.slice A2 S.x.length c2,.slice A3 S.tH.length c3,.slice A4 S.ray.length c4]∧aH (bJ KX) 3 H (.slice A1 S.values.length c1) S.values∧aH (bJ KX) 3 H (.slice A2 S.x.length c2) S.x∧mg KX H (.slice A3 S.tH.length c3) S.tH∧aH (bJ KX) 3 H (.slice A4 S.ray.length c4) S.ray
def ab9:Value:= .agg #[.int .i64 0,.slice none 0 0,.slice none 0 0,.slice none 0 0,.slice none 0 0]
def aca(p:Prg)(os:List (List Rat))(H:Heap)(v:Value)(H':Heap):Prop:=Heap.le H H'∧∃s e,v = .tuple #[s,.int .i64 e]∧yR p os e∧((e≠0∧s=ab9)∨(e=0∧∃S,RM H' s S∧FY p os S))
theorem RN{N:Nat}{H:Heap}{g k:Nat}:aH (bJ N) 3 (ins H g ⟨cA [.bool false,.slice none 0 0,.slice none 0 0] ((k:Int).toNat*3),(k:Int).toNat*3,29,true⟩) (.slice (some ⟨g,0,none⟩) (k:Int).toNat (k:Int).toNat) (List.replicate k 0):=by
 rw[Int.toNat_natCast]
 exact⟨_,k,_,by rw[List.length_replicate],by rw[List.length_replicate];exact Nat.le_refl _,eH _ _ _ _ _ _,HW (P:=bJ N _) rfl KI k⟩
theorem Ld(k j:Nat):fn (List.replicate k 0) j=0:=by
 unfold fn
 rw[List.getD,List.getElem?_replicate]
 split <;> rfl
theorem eK.vX{α β:Type}{P:Heap→List Value→α→Prop}{e sz:Nat}{Q:Heap→List Value→β→Prop}{e' dS:Nat}{Hb H:Heap}{v u:Value}{l:List α}{xs:List Value}{k:List β}{ys:List Value}(h:eK P e sz Q e' dS Hb H v l xs u k ys):eK P e sz Q e' dS (rem H (aB v++aB u)) H v l xs u k ys:=⟨h.own,h.qu,h.jM,h.yK,.refl _,h.apart⟩
theorem eK.down{α β:Type}{P:Heap→List Value→α→Prop}{e sz:Nat}{Q:Heap→List Value→β→Prop}{e' dS:Nat}{Hb Hc H:Heap}{v u:Value}{l:List α}{xs:List Value}{k:List β}{ys:List Value}(h:eK P e sz Q e' dS Hb H v l xs u k ys)(hl:Heap.le Hc Hb):eK P e sz Q e' dS Hc H v l xs u k ys:=⟨h.own,h.qu,h.jM,h.yK,hl.trans h.base,h.apart⟩
structure acb(p:Prg)(os:List (List Rat))(E f0:Nat)(H H':Heap)(i:Nat)(w:Value×Value×Value)(z:List Value×List Value)(a:List Rat×List (List Rat)×List Rat):Prop where
 Le:eK (bJ KX) 29 3 (m9 KX) 26 1 H H' w.1 a.1 z.1 w.2.1 a.2.1 z.2
 xv:∃A c,w.2.2 = .slice A a.2.2.length c∧aH (bJ KX) 3 (rem H' (aB w.1++aB w.2.1)) (.slice A a.2.2.length c) a.2.2
 vl:a.1.length=i
 dl:a.2.1.length=i
 le:i≤os.length
 Lf:∀(j:Nat)(o:List Rat)(v:Rat)(d:List Rat),os[j]? = some o→a.1[j]? = some v→a.2.1[j]? = some d→pc (bK p os (a.1.take j)) o v d
 cT:0<i→(bK p os a.1).lp.cO 1 (fn a.2.2)∧a.2.2.length=p.free.length
 bin:∃D,iy D (f0+i*E) (bK p os a.1)
theorem acd{N:Nat}{H:Heap}{v:Value}{p:Prg}(h:p.Ok):∀r,r∈p.rows→r.1.length≤1000:=fun r hr=>by
 obtain⟨i,hi⟩:=List.getElem?_of_mem hr
 have h1:=(h.row i r hi).1
 have h2:=h.gu
 omega
theorem mg.mono{N M:Nat}{H:Heap}{v:Value}{ls:List (List Rat)}(h:mg N H v ls)(hl:N≤M):mg M H v ls:=aH.mono h fun _ _ ⟨A,c,h1,h2⟩=>⟨A,c,h1,aH.mono h2 fun _ _ h=>bJ.mono h hl⟩
theorem ace{H:Heap}{v:Value}{p:Prg}{N E f0:Nat}(hp:dE N H v p)(hN:N≤KX)(a8:p.Ok)(bV:wg p [] E f0):
 Fn Tryz.prog 74 #[v] H (fun v' H'=>Heap.le H H'∧∃s,v' = .tuple #[s,.int .i64 0]∧∃S,RM H' s S∧FY p [] S):=by
 obtain⟨fv,l7,rfl,eA,fa⟩:=id hp
 obtain⟨Af,cf,xf,rfl,kF,kG⟩:=eA.one
 obtain⟨Ar,cr,xr,rfl,iH,fQ,fA⟩:=id fa
 have ep:=a8.gu
 have RO:N≤200000000:=hN;refine aW (args:=[_]) Tryz.func74 rfl rfl Tryz.ntmps74 rfl rfl fun w0=> ?_;refine aj [0] rfl ?_;refine af (bY rfl rfl (bD qO rfl (ab 1 rfl (ae [1,2] ?_))));refine cg .bR [0,1,2,3,4,5,6,7,8,9,10,11] follows (by kernel_rfl) ?_;refine ab 4 rfl (iF Tryz.underlying26 cZ rfl rfl rfl (by omega) (by omega) (by omega) (by omega) ?_);intro g hg;have hle:=Heap.a0 ⟨cA [.bool false,.slice none 0 0,.slice none 0 0] ((p.free.length:Int).toNat*3),(p.free.length:Int).toNat*3,29,true⟩ hg;obtain⟨D0,wh⟩:=bV.bin;obtain⟨M,sq,hM⟩:=bV.fit (vs:=[]) (o:=List.replicate p.free.length 0) (Nat.zero_le _) (.inr (Ld _)) (by rw[ext_nil];exact wh);rw[ext_nil]at sq;have Lg:=bV.Gg
 simp only[List.length_nil,Nat.zero_add,Nat.one_mul]at Lg
 refine aT rfl rfl (Gf (N:=N) (hp.le hle) RN (by omega) a8 (by rw[List.length_replicate]) sq (by omega)) (fun _ _ h=>by first | exact h.le | exact h.1) ?_;rintro _ H2 ⟨ct,S,f2,B21,RK,FH,B22,RL,e22,B2x,e2x,RP,RQ,B2r,e2r,rfl,jN,Cz,nN,tK,wi,xW⟩;refine ab 3 rfl (bD pI rfl ?_);obtain⟨ti,ak,al⟩:=lL;refine aM (.inl ⟨rfl,rfl⟩) rfl rfl rfl ak al rfl rfl rfl (ab 1 rfl (ae [2,4,5] ?_));refine aq (af (ab 2 rfl (ae [2,4,5,16] ?_)));refine dG rfl (ax (aj [2,4] rfl ?_));refine aq (af (ab 3 rfl (ae [2,4,21] ?_)));refine az rfl (fun hb=> ?_) (fun hb=> ?_)
 ·
  have h2:S.status=2:=by simpa using hb
  obtain⟨k1,k2,k3,k4,k5⟩:=jN.NS h2;refine af (ab 2 rfl (cU Tryz.underlying75 wL rfl rfl rfl rfl rfl rfl rfl ?_));intro gb bH;have dA:=Heap.a0 (whole (cz [.slice RP S.fw.length RQ]) 26) bH;refine dH ag rfl qO rfl rfl ?_;obtain⟨ti,ak,al⟩:=kT;refine aM (.inl ⟨rfl,rfl⟩) rfl rfl rfl ak al rfl rfl rfl (ab 1 rfl (ae [2,3] ?_));obtain⟨bO,aI,aJ⟩:=kT;refine aw ⟨.inr rfl,_,.agg rfl Tryz.underlying77 aI aJ (.tmp rfl (.nil)),?_⟩;refine⟨hle.trans (ct.trans dA),_,rfl,⟨2,[],[],[S.fw],[]⟩,⟨_,_,_,_,_,_,_,_,rfl,jL,jL,?_,jL⟩,.inr (.inl ⟨rfl,rfl,rfl,rfl,_,rfl,k5⟩)⟩;exact⟨_,1,_,rfl,Nat.le_refl _,eH _ _ _ _ _ _,iq (P:=m9 KX _) (vs:=[.slice RP S.fw.length RQ]) ⟨_,_,rfl,wi.le (cD KX) dA⟩ rfl⟩
 ·
  have h2:¬S.status=2:=by simpa using hb
  have Lh:vf p S.x:=by
   rcases jN with h9 | h9 | h9
   ·exact h9.2.2.1.cT
   ·exact absurd h9.1 h2
   ·exact h9.2.2.2.cT
  refine ax (aj [2,4] rfl ?_);refine af (ab 2 rfl (dH ag rfl qO rfl rfl ?_));obtain⟨ti,ak,al⟩:=kT;refine aM (.inl ⟨rfl,rfl⟩) rfl rfl rfl ak al rfl rfl rfl (ab 1 rfl (ae [2,3] ?_));obtain⟨bO,aI,aJ⟩:=kT;refine aw ⟨.inr rfl,_,.agg rfl Tryz.underlying77 aI aJ (.tmp rfl (.nil)),?_⟩;exact⟨hle.trans ct,_,rfl,⟨1,[],S.x,[],[]⟩,⟨_,_,_,_,_,_,_,_,rfl,jL,tK,jL,jL⟩,.inl ⟨rfl,rfl,rfl,Lh,rfl,Nat.le_refl _,fun i o v d h1=>by simp at h1⟩⟩
theorem abL{H:Heap}{v ov:Value}{p:Prg}{os:List (List Rat)}{N E f0:Nat}(hp:dE N H v p)(ho:mg N H ov os)(hN:N≤KX)(cI:os.length≤9223372036854775807)(bV:FX p os→wg p os E f0):
 Fn Tryz.prog 39 #[v,ov] H (aca p os H):=by
 obtain⟨fv,l7,rfl,eA,fa⟩:=id hp
 obtain⟨Af,cf,xf,rfl,kF,kG⟩:=eA.one
 obtain⟨Ar,cr,xr,rfl,iH,fQ,fA⟩:=id fa
 obtain⟨Ao,co,xo,rfl,lQ,je,tI⟩:=id ho
 have RO:N≤200000000:=hN;refine aW (args:=[_,_]) Tryz.func39 rfl rfl Tryz.ntmps39 rfl rfl fun w0=> ?_;refine aj [0,1] rfl ?_;refine af (bY rfl rfl (bD qO rfl (ab 1 rfl (ae [1,2,4] ?_))));refine aq (af (ab 2 rfl (au rfl rfl (ab7 hp ho cI) ?_)));rintro _ H1 ⟨e1,er,rfl,hE⟩;rw[e1];refine ab 1 rfl (ae [1,2,4,6] ?_);refine af (ab 2 rfl (ae [1,2,4,6,16] ?_));refine az rfl (fun hb=> ?_) (fun hb=> ?_)
 ·
  have h1:¬er=0:=by simpa using hb
  refine af (dH ag rfl qO rfl rfl (vr 1 ?_));obtain⟨ti,ak,al⟩:=kT;refine aM (.inl ⟨rfl,rfl⟩) rfl rfl rfl ak al rfl rfl rfl (ab 1 rfl (ae [4,5] ?_));obtain⟨bO,aI,aJ⟩:=kT;refine aw ⟨.inr rfl,_,.agg rfl Tryz.underlying77 aI aJ (.tmp rfl (.nil)),?_⟩;exact⟨.refl _,_,er,rfl,hE,.inl ⟨h1,rfl⟩⟩
 ·
  have h1:er=0:=by simpa using hb
  subst h1;have hf:=hE.ab4;have a8:=hf.ok;have ep:=a8.gu;have rH:=a8.rows;have ad0:=hf.yM;have ad1:=hf.rows;have hz:=bV hf;have Lg:=hz.Gg;refine ax (aj [1,2,4] rfl ?_);refine aq (af (ab 3 rfl (ae [1,2,4,21] ?_)));refine az rfl (fun hb=> ?_) (fun hb=> ?_)
  ·
   have h2:(os.length:Int)=0:=by simpa using hb
   have h3:os = []:=List.length_eq_zero_iff.1 (by omega);subst h3;refine af (ab 1 rfl (au rfl rfl (ace hp hN a8 hz) ?_));rintro _ H2 ⟨ct,s,rfl,S,⟨A1,c1,A2,c2,A3,c3,A4,c4,rfl,oJ,de,BH,vN⟩,jN⟩;refine vr 2 ?_;obtain⟨ti,ak,al⟩:=kT;refine aM (.inl ⟨rfl,rfl⟩) rfl rfl rfl ak al rfl rfl rfl (ab 1 rfl (ae [4,5] ?_));obtain⟨bO,aI,aJ⟩:=kT;refine aw ⟨.inr rfl,_,.agg rfl Tryz.underlying77 aI aJ (.tmp rfl (.nil)),?_⟩;exact⟨ct,_,0,rfl,hE,.inr ⟨rfl,S,⟨A1,c1,A2,c2,A3,c3,A4,c4,rfl,oJ,de,BH,vN⟩,jN⟩⟩
  have h2:¬(os.length:Int)=0:=by simpa using hb
  have hpK:=hp.mono hN;have hoK:=ho.mono hN;refine ax (aj [1,2,4] rfl ?_);refine af (bD qO rfl (ae [1,2,4,7] ?_));refine aq (af (ab 3 rfl (ae [1,2,4,7,26,27,28] ?_)));refine aD (nz (fun(i:Nat)(w:Value×Value×Value)(z:List Value×List Value)(a:List Rat×List (List Rat)×List Rat)=>os.length-i) (fun(i:Nat)(w:Value×Value×Value)(z:List Value×List Value)(a:List Rat×List (List Rat)×List Rat)=>put (put (put (put (put (put (put (emp) 1 (.val (.slice Ao os.length co))) 2 (.box [.slice Af p.free.length cf,.slice Ar p.rows.length cr])) 4 (.box [.int .i64 0,.slice none 0 0,.slice none 0 0,.slice none 0 0,.slice none 0 0])) 7 (.box [.int .i64 0,w.1,w.2.2,w.2.1,.slice none 0 0])) 26 (.val (.slice Ao os.length co))) 27 (.val (.int .i64 (os.length:Int)))) 28 (.val (.int .i64 (i:Int)))) (fun(i:Nat)(w:Value×Value×Value)(z:List Value×List Value)(a:List Rat×List (List Rat)×List Rat) H'=>acb p os E f0 H H' i w z a) 0 (.slice none 0 0,.slice none 0 0,.slice none 0 0) ([],[]) ([],[],[]) (⟨(Ck H).two,⟨none,0,rfl,jL⟩,rfl,rfl,Nat.zero_le _,(fun j o v d _ h=>by simp at h),(fun h=>by omega),by obtain⟨D,hD⟩:=hz.bin;exact⟨D,by rw[Nat.zero_mul,Nat.add_zero,ext_nil];exact hD⟩⟩) ay ?_);rintro i w z a H2 hI;obtain⟨w1,w2,wx⟩:=w;obtain⟨z1,z2⟩:=z
  obtain⟨a1,a2,a3⟩:=a;have hG:=hI.Le;have fG:=hI.vl;have RR:=hI.dl;have ad2:=hI.le
  simp only at hG fG RR
  obtain⟨AX,cX,eX,hX⟩:=hI.xv
  simp only at eX hX
  subst eX;obtain⟨D1,d1,rfl⟩:=hG.form;obtain⟨D2,d2,rfl⟩:=hG.Ro;refine af (ab 1 rfl (ae [1,2,4,7,26,27,28,29] ?_));refine aq (az rfl (fun hb=> ?_) (fun hb=> ?_))
  ·
   have hio:i<os.length:=by simpa using hb
   obtain⟨o,pg⟩:∃o,os[i]? = some o:=⟨_,List.getElem?_eq_getElem hio⟩
   have Li:os[a1.length]? = some o:=by rw[fG];exact pg
   obtain⟨Bo,cb,kK,gw⟩:=F5 tI pg;have Lj:=List.mem_of_getElem? pg;have hoc:=hf.vec o Lj;obtain⟨D0,wh⟩:=hI.bin;obtain⟨M,sq,hM⟩:=hz.fit (vs:=a1) (o:=o) (by omega) (.inl Lj) wh
   have Lk:M≤99999998:=by
    have h9:i*E+E≤(os.length+1)*E:=by rw[←Nat.succ_mul];exact Nat.mul_le_mul_right _ (by omega)
    omega
   have acf:(bK p os a1).Ok:=abr a8 hf.vec (by omega);refine ax (aj [1,2,4,7,26,27,28] rfl ?_);refine aq (aD (af (a9 ag rfl rfl rfl rfl rfl (je.le hG.le) (by rw[Int.toNat_natCast];exact kK) (by omega) (by omega) fun _=> ?_)));refine ab 1 rfl (ae [1,2,4,7,9,26,27,28] ?_);refine af (ab 4 rfl (au rfl rfl (ab5 (gs:=(aB (.slice D1 a1.length d1)++aB (.slice D2 a2.length d2))) (N:=KX) hG.mf (hpK.le hG.base) (hoK.le (ng KX) hG.base) hG.own.rd hG.jM (by omega) ep rH (acd (N:=0) (H:=H) (v:= .bool true) a8) (fun o h=>by have h9:=hf.vec o h;omega) (by omega) (by decide)) ?_));rintro _ H3 ⟨kS,Q1,q1,u1,Q2,q2,u2,rfl,hq⟩;have qv:=hG.vX.step (cD KX) (ng KX) kS.same kS.le;refine ab 1 rfl (au rfl rfl (Fn.frame qv.mf (Gf (N:=KX+2) hq ((gw.mono fun _ _ h=>bJ.mono h (show N≤KX+2 by show N≤200000002;omega)).le (cD (KX+2)) (hG.base.trans qv.base)) (by decide) acf hoc sq Lk)) ?_);rintro _ H4 ⟨⟨eZ,S,f4,RS,RT,RU,RV,RW,RX,B4x,e4x,Gh,Gi,B4r,e4r,rfl,jN,Cz,nN,tK,wi,xW⟩,EG⟩;have lF:=(qv.step (cD KX) (ng KX) EG eZ).down hG.base;refine ab 3 rfl (bD pI rfl ?_);obtain⟨ti,ak,al⟩:=lL;refine aM (.inl ⟨rfl,rfl⟩) rfl rfl rfl ak al rfl rfl rfl ?_
   refine ab 1 rfl (ae [1,2,4,7,10,11,26,27,28] ?_);refine aq (af (ab 2 rfl (ae [1,2,4,7,10,11,26,27,28,43] ?_)));refine dG rfl (ax (aj [1,2,4,7,10,26,27,28] rfl ?_));refine aq (af (ab 2 rfl (ae [1,2,4,7,10,26,27,28,47] ?_)));refine aD (af (ab 2 rfl (ae [1,2,4,7,10,26,27,28,47,48] ?_)));refine az rfl (fun hb=> ?_) (fun hb=> ?_)
   ·
    have h2:S.status=2:=by simpa using hb
    obtain⟨k1,k2,k3,k4,k5⟩:=jN.NS h2
    have hi0:i=0:=by
     by_cases h9:0<i
     ·exact absurd (hI.cT h9).1 (k5.cert.isInf k5.ok.valid _)
     ·omega
    have tj:a1 = []:=List.length_eq_zero_iff.1 (by omega);rw[tj,ext_nil]at k5;refine af (ab 2 rfl (cU Tryz.underlying75 wL rfl rfl rfl rfl rfl rfl rfl ?_));intro gb bH;have dA:=Heap.a0 (whole (cz [.slice Gh S.fw.length Gi]) 26) bH;refine dH ag rfl qO rfl rfl ?_;obtain⟨ti,ak,al⟩:=kT;refine aM (.inl ⟨rfl,rfl⟩) rfl rfl rfl ak al rfl rfl rfl (ab 1 rfl (ae [4,5] ?_));obtain⟨bO,aI,aJ⟩:=kT;refine aw ⟨.inr rfl,_,.agg rfl Tryz.underlying77 aI aJ (.tmp rfl (.nil)),?_⟩;refine⟨lF.le.trans dA,_,0,rfl,hE,.inr ⟨rfl,⟨2,[],[],[S.fw],[]⟩,⟨_,_,_,_,_,_,_,_,rfl,jL,jL,?_,jL⟩,.inr (.inl ⟨rfl,rfl,rfl,rfl,_,rfl,k5⟩)⟩⟩;exact⟨_,1,_,rfl,Nat.le_refl _,eH _ _ _ _ _ _,iq (P:=m9 KX _) (vs:=[.slice Gh S.fw.length Gi]) ⟨_,_,rfl,(wi.le (cD KX) (bn _ _)).le (cD KX) dA⟩ rfl⟩
   have h2:¬S.status=2:=by simpa using hb
   refine af (ab 2 rfl (ae [1,2,4,7,10,26,27,28,54] ?_));refine az rfl (fun hb=> ?_) (fun hb=> ?_)
   ·
    have h3:S.status=3:=by simpa using hb
    obtain⟨k1,k2,k3⟩:=jN.WJ h3;have we:=Rs (st:=3) (ray:=S.ray) (p:=p) (os:=os) (vs:=a1) (ds:=a2) (x:=S.x) (by omega) (by omega) hI.Lf k3.cT.meets k3.cT.len;refine cg (.qD [7]) [0,1,2,3,4,5,6,7,8,9] follows (by kernel_rfl) ?_;refine vr 5 ?_;obtain⟨ti,ak,al⟩:=oF;refine aM (.inr rfl) rfl rfl rfl ak al rfl rfl rfl (vr 1 ?_);obtain⟨ti,ak,al⟩:=Da;refine aM (.inr rfl) rfl rfl rfl ak al rfl rfl rfl (vr 1 ?_);obtain⟨ti,ak,al⟩:=Da;refine aM (.inr rfl) rfl rfl rfl ak al rfl rfl rfl (ae [4,7] ?_);refine af (vr 1 ?_);obtain⟨ti,ak,al⟩:=kT;refine aM (.inl ⟨rfl,rfl⟩) rfl rfl rfl ak al rfl rfl rfl (ab 1 rfl (ae [4,5] ?_));obtain⟨bO,aI,aJ⟩:=kT;refine aw ⟨.inr rfl,_,.agg rfl Tryz.underlying77 aI aJ (.tmp rfl (.nil)),?_⟩;exact⟨lF.le,_,0,rfl,hE,.inr ⟨rfl,⟨3,a1,S.x,a2,S.ray⟩,⟨_,_,_,_,_,_,_,_,rfl,((lF.one (cD KX) (ng KX)).1.sl (cD KX)),tK.le (cD KX) (bn _ _),((lF.one (cD KX) (ng KX)).2.le (ng KX) (bn _ _)),xW.le (cD KX) (bn _ _)⟩,.inr (.inr ⟨rfl,by show a1.length<_;omega,we,o,Li,k3⟩)⟩⟩
   have h3:¬S.status=3:=by simpa using hb
   have h1:S.status=1:=by rcases jN with h9 | h9 | h9;exact h9.1;exact absurd h9.1 h2;exact absurd h9.1 h3
   obtain⟨k1,k2,k3⟩:=jN.Ek h1;have k3':a5 p.free.length (fn o) (fn S.x)=S.value:=k3.symm
   have acg:pc (bK p os a1) o S.value S.fw:=by have h9:=pc.of k2;rwa [←k3]at h9
   have Lh:(bK p os (a1 ++ [S.value])).lp.cO 1 (fn S.x):=abv (by omega) Li k2.cT.meets k3';have cj:S.x.length=p.free.length:=k2.cT.len
   have ach:∃D,iy D (f0+(i+1)*E) (bK p os (a1 ++ [S.value])):=by
    obtain⟨D',h9⟩:=hz.step (vs:=a1) (by omega) Lj wh Cz h1;exact⟨D',by rw[show f0+(i+1)*E=E+(f0+i*E) by rw[Nat.succ_mul i];omega];exact h9⟩
   have iW:=lF.vX;refine ax (aj [1,2,4,7,10,26,27,28] rfl ?_);refine af (vr 3 ?_);obtain⟨ti,ak,al⟩:=Da;refine aM (.inr rfl) rfl rfl rfl ak al rfl rfl rfl (ae [1,2,4,7,10,26,27,28] ?_);refine af (ab 4 rfl (cU Tryz.underlying26 cZ rfl rfl rfl rfl rfl rfl rfl ?_));intro gb bH;have Ll:=iW.ins (cD KX) (ng KX) (whole (cz [.agg #[.bool f4,.slice RS RT RU,.slice RV RW RX]]) 29) bH;refine dY Tryz.underlying26 cZ rfl rfl Ll.own (eH _ _ _ _ _ _) rfl (KF _ _ _ _ _ _ _) (by omega) (by omega) ?_;intro v6 H6 Fy;have hU:=Ll.append (cD KX) (ng KX) (j:=[S.value]) (by simp) Fy (iq (P:=bJ KX _) (vs:=[.bool f4,.slice RS RT RU,.slice RV RW RX]) (bL.le nN Ll.base) rfl);obtain⟨D6,d6,rfl⟩:=hU.form;refine vr 1 ?_;obtain⟨ti,ak,al⟩:=Da;refine aM (.inr rfl) rfl rfl rfl ak al rfl rfl rfl (ae [1,2,4,7,10,26,27,28] ?_);refine aF rfl (ab 4 rfl (cU Tryz.underlying75 wL rfl rfl rfl rfl rfl rfl rfl ?_));intro gc nW;have yS:=hU.ins (cD KX) (ng KX) (whole (cz [.slice Gh S.fw.length Gi]) 26) nW;refine dY Tryz.underlying75 wL rfl rfl yS.qu (eH _ _ _ _ _ _) rfl (abY KX _ _ S.fw ⟨_,_,rfl,wi⟩) (by omega) (by omega) ?_;intro v7 H7 Lm
   have km:=yS.abq (cD KX) (ng KX) (j:=[S.fw]) (by simp) Lm (iq (P:=m9 KX _) (vs:=[.slice Gh S.fw.length Gi]) ⟨_,_,rfl,wi.le (cD KX) yS.base⟩ rfl);obtain⟨D7,d7,rfl⟩:=km.Ro;refine vr 1 ?_;obtain⟨ti,ak,al⟩:=U8;refine aM (.inr rfl) rfl rfl rfl ak al rfl rfl rfl (aA (aj [1,2,4,7,26,27,28] rfl ?_));refine aF rfl (aO rfl rfl ⟨by omega,by omega⟩ (ab 1 rfl (aA ?_)));exact⟨i+1,(_,_,_),(_,_),(a1 ++ [S.value],a2 ++ [S.fw],S.x),by omega,ay,⟨km.down lF.base,⟨_,_,rfl,tK.le (cD KX) km.base⟩,by simp[fG],by simp[RR],by omega,abu (by omega) Li hI.Lf acg,fun _=>⟨Lh,cj⟩,ach⟩⟩
  have hb:os.length≤i:=by simpa using hb
  obtain rfl:i=os.length:=by omega
  obtain⟨rb,cj⟩:=hI.cT (by omega)
  simp only at rb cj
  have we:=Rs (st:=1) (ray:=[]) (p:=p) (os:=os) (vs:=a1) (ds:=a2) (x:=a3) (by omega) (by omega) hI.Lf rb cj;refine bC (aj [4,7] rfl ?_);refine af (vr 1 ?_);obtain⟨ti,ak,al⟩:=oF;refine aM (.inr rfl) rfl rfl rfl ak al rfl rfl rfl (ae [4,7] ?_);refine af (vr 1 ?_);obtain⟨ti,ak,al⟩:=kT;refine aM (.inl ⟨rfl,rfl⟩) rfl rfl rfl ak al rfl rfl rfl (ab 1 rfl (ae [4,5] ?_));obtain⟨bO,aI,aJ⟩:=kT;refine aw ⟨.inr rfl,_,.agg rfl Tryz.underlying77 aI aJ (.tmp rfl (.nil)),?_⟩;exact⟨hG.le,_,0,rfl,hE,.inr ⟨rfl,⟨1,a1,a3,a2,[]⟩,⟨_,_,_,_,_,_,_,_,rfl,((hG.one (cD KX) (ng KX)).1.sl (cD KX)),hX.le (cD KX) (bn _ _),((hG.one (cD KX) (ng KX)).2.le (ng KX) (bn _ _)),jL⟩,.inl ⟨rfl,fG,rfl,⟨a8,cj,((vY (by omega)).1 rb).1⟩,we⟩⟩⟩
end Go.ar
