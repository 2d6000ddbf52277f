/- Walks over package lexico, part 3: feasible, Minimize. -/
import Derived.Test.YtfjncmjbhfdnpaaGreatA10
import Derived.Test.YtfjncmjbhfdnpaaGreatLx2
import Derived.Test.YtfjncmjbhfdnpaaGreatLxz
set_option linter.unusedVariables false
namespace Go.ay
open Go.Proofs Num Lp
abbrev KX:Nat:=200000000
def afd(K:Nat)(H:Heap)(s:Value)(S:pc):Prop:=∃f A1 m1 c1 A2 m2 c2 Ax cx Ad cd Ar cr,s = .agg #[.int .i64 S.status,.bool f,.slice A1 m1 c1,.slice A2 m2 c2,.slice Ax S.x.length cx,.slice Ad S.iw.length cd,.slice Ar S.ray.length cr]∧bN H (.agg #[.bool f,.slice A1 m1 c1,.slice A2 m2 c2]) S.value K∧aC (aS K) 3 H (.slice Ax S.x.length cx) S.x∧aC (aS K) 3 H (.slice Ad S.iw.length cd) S.iw∧aC (aS K) 3 H (.slice Ar S.ray.length cr) S.ray
theorem Na.k{K:Nat}{H:Heap}{s:Value}{S:pc}(h:Na H s S)(hz:TJ K S):afd K H s S:=by
 obtain⟨f,u,w,xv,dv,rv,rfl,h4,h5,h6,h7⟩:=h
 obtain⟨Ax,cx,_,rfl,_⟩:=id h5
 obtain⟨Ad,cd,_,rfl,_⟩:=id h6
 obtain⟨Ar,cr,_,rfl,_⟩:=id h7
 have hx:=h5.B8 fun q hq=>hz q (.inl hq)
 have hd:=h6.B8 fun q hq=>hz q (.inr (.inl hq))
 have hr:=h7.B8 fun q hq=>hz q (.inr (.inr (.inl hq)))
 rcases h4 with h4 | ⟨h4,rfl,rfl,rfl⟩
 ·obtain⟨u',w',e,hu,hw⟩:=id h4
  have e':=Bj (vs:=[.bool f,u,w]) e
  simp only[List.cons.injEq,and_true]at e'
  obtain⟨_,rfl,rfl⟩:=e'
  obtain⟨A1,c1,rfl,_⟩:=id hu
  obtain⟨A2,c2,rfl,_⟩:=id hw
  exact⟨_,_,_,_,_,_,_,_,_,_,_,_,_,rfl,(cJ.raw h4).mono (hz _ (.inr (.inr (.inr rfl)))),hx,hd,hr⟩
 ·exact⟨_,_,_,_,_,_,_,_,_,_,_,_,_,rfl,by rw[h4];exact NC,hx,hd,hr⟩
def Ol(p:Prg)(c:List Rat)(H:Heap)(v:Value)(H':Heap):Prop:=Heap.le H H'∧∃S f A1 m1 c1 A2 m2 c2 Ax cx Ad cd Ar cr,v = .tuple #[.agg #[.int .i64 S.status,.bool f,.slice A1 m1 c1,.slice A2 m2 c2,.slice Ax S.x.length cx,.slice Ad S.iw.length cd,.slice Ar S.ray.length cr],.int .i64 0]∧qe p c S∧I8 p c S∧bN H' (.agg #[.bool f,.slice A1 m1 c1,.slice A2 m2 c2]) S.value KX∧aC (aS KX) 3 H' (.slice Ax S.x.length cx) S.x∧aC (aS KX) 3 H' (.slice Ad S.iw.length cd) S.iw∧aC (aS KX) 3 H' (.slice Ar S.ray.length cr) S.ray
theorem JH{N M:Nat}{H:Heap}{v cv:Value}{p:Prg}{c:List Rat}(hp:cN N H v p)(hc:aC (aS N) 3 H cv c)(hN:N≤400000000)(aP:p.Ok)(hlen:c.length=p.free.length)(hf:Fits p c M)(hM:M≤99999998):Fn Tryz.prog 12 #[v,cv] H (Ol p c H):=by
 have hn:=aP.dR
 refine(adz hp hc hf (by omega) (by omega) (by omega)).mono ?_
 rintro v' H' ⟨hl,s,e,rfl,h3⟩
 rcases h3 with h3 | h3 | ⟨_,_,rfl,S,k4,k5,k6,k7⟩
 ·exact absurd aP h3.1
 ·exact absurd hlen h3.2.1
 ·obtain⟨f,A1,m1,c1,A2,m2,c2,Ax,cx,Ad,cd,Ar,cr,rfl,g1,g2,g3,g4⟩:=k4.k (K:=KX) (fun q hq=>Nat.le_trans (k6 q hq) (by show _≤200000000;omega))
  exact⟨hl,S,f,A1,m1,c1,A2,m2,c2,Ax,cx,Ad,cd,Ar,cr,rfl,k5,k7,g1,g2,g3,g4⟩
theorem Ol.le{p:Prg}{c:List Rat}{H:Heap}{v:Value}{H':Heap}(h:Ol p c H v H'):Heap.le H H':=h.1
def N6(H:Heap)(v:Value)(S:nN):Prop:=∃A1 c1 A2 c2 A3 c3 A4 c4,v = .agg #[.int .i64 S.status,.slice A1 S.values.length c1,.slice A2 S.x.length c2,.slice A3 S.cW.length c3,.slice A4 S.ray.length c4]∧aC (aS KX) 3 H (.slice A1 S.values.length c1) S.values∧aC (aS KX) 3 H (.slice A2 S.x.length c2) S.x∧gB KX H (.slice A3 S.cW.length c3) S.cW∧aC (aS KX) 3 H (.slice A4 S.ray.length c4) S.ray
def afe:Value:= .agg #[.int .i64 0,.slice none 0 0,.slice none 0 0,.slice none 0 0,.slice none 0 0]
def aff(p:Prg)(os:List (List Rat))(H:Heap)(v:Value)(H':Heap):Prop:=Heap.le H H'∧∃s e,v = .tuple #[s,.int .i64 e]∧zu p os e∧((e≠0∧s=afe)∨(e=0∧∃S,N6 H' s S∧uP p os S))
theorem Vq{N:Nat}{H:Heap}{g k:Nat}:aC (aS N) 3 (ins H g ⟨de [.bool false,.slice none 0 0,.slice none 0 0] ((k:Int).toNat*3),(k:Int).toNat*3,31,true⟩) (.slice (some ⟨g,0,none⟩) (k:Int).toNat (k:Int).toNat) (List.replicate k 0):=by
 rw[Int.toNat_natCast]
 exact⟨_,k,_,by rw[List.length_replicate],by rw[List.length_replicate];exact Nat.le_refl _,fu _ _ _ _ _ _,K6 (P:=aS N _) rfl NC k⟩
theorem Om(k j:Nat):fn (List.replicate k 0) j=0:=by
 unfold fn
 rw[List.getD,List.getElem?_replicate]
 split <;> rfl
theorem fS.zm{α β:Type}{P:Heap→List Value→α→Prop}{e sz:Nat}{Q:Heap→List Value→β→Prop}{e' fa:Nat}{Hb H:Heap}{v u:Value}{l:List α}{xs:List Value}{k:List β}{ys:List Value}(h:fS P e sz Q e' fa Hb H v l xs u k ys):fS P e sz Q e' fa (rem H (aB v++aB u)) H v l xs u k ys:=⟨h.own,h.tc,h.ka,h.Cg,.refl _,h.apart⟩
theorem fS.down{α β:Type}{P:Heap→List Value→α→Prop}{e sz:Nat}{Q:Heap→List Value→β→Prop}{e' fa:Nat}{Hb Hc H:Heap}{v u:Value}{l:List α}{xs:List Value}{k:List β}{ys:List Value}(h:fS P e sz Q e' fa Hb H v l xs u k ys)(hl:Heap.le Hc Hb):fS P e sz Q e' fa Hc H v l xs u k ys:=⟨h.own,h.tc,h.ka,h.Cg,hl.trans h.base,h.apart⟩
structure afg(p:Prg)(os:List (List Rat))(E f0:Nat)(H H':Heap)(i:Nat)(w:Value×Value×Value)(z:List Value×List Value)(a:List Rat×List (List Rat)×List Rat):Prop where
 On:fS (aS KX) 31 3 (jC KX) 26 1 H H' w.1 a.1 z.1 w.2.1 a.2.1 z.2
 xv:∃A c,w.2.2 = .slice A a.2.2.length c∧aC (aS KX) 3 (rem H' (aB w.1++aB w.2.1)) (.slice A a.2.2.length c) a.2.2
 vl:a.1.length=i
 dl:a.2.1.length=i
 le:i≤os.length
 Oo:∀(j:Nat)(o:List Rat)(v:Rat)(d:List Rat),os[j]? = some o→a.1[j]? = some v→a.2.1[j]? = some d→rD (cg p os (a.1.take j)) o v d
 dB:0<i→(cg p os a.1).lp.dJ 1 (fn a.2.2)∧a.2.2.length=p.free.length
 bin:∃D,j7 D (f0+i*E) (cg p os a.1)
theorem afh{N:Nat}{H:Heap}{v:Value}{p:Prg}(h:p.Ok):∀r,r∈p.rows→r.1.length≤1000:=fun r hr=>by
 obtain⟨i,hi⟩:=List.getElem?_of_mem hr
 have h1:=(h.row i r hi).1
 have h2:=h.dR
 omega
theorem gB.mono{N M:Nat}{H:Heap}{v:Value}{ls:List (List Rat)}(h:gB N H v ls)(hl:N≤M):gB M H v ls:=aC.mono h fun _ _ ⟨A,c,h1,h2⟩=>⟨A,c,h1,aC.mono h2 fun _ _ h=>aS.mono h hl⟩
theorem afi{H:Heap}{v:Value}{p:Prg}{N E f0:Nat}(hp:cN N H v p)(hN:N≤KX)(aP:p.Ok)(cP:uQ p [] E f0):
 Fn Tryz.prog 72 #[v] H (fun v' H'=>Heap.le H H'∧∃s,v' = .tuple #[s,.int .i64 0]∧∃S,N6 H' s S∧uP p [] S):=by
 obtain⟨fv,fG,rfl,cB,cF⟩:=id hp
 obtain⟨Af,cf,xf,rfl,ea,eH⟩:=cB.one
 obtain⟨Ar,cr,xr,rfl,fO,cL,du⟩:=id cF
 have dY:=aP.dR
 have Vr:N≤200000000:=hN;refine aU (args:=[_]) Tryz.func72 rfl rfl Tryz.ntmps72 rfl rfl fun w0=> ?_;refine ag [0] rfl ?_;refine ae ?_;refine bF rfl rfl ?_;refine bh pS rfl ?_;refine vr 1 ?_;refine ab [1,2] ?_;refine bL .bn [0,1,2,3,4,5,6,7,8,9,10,11] follows (by kernel_rfl) ?_;refine vr 4 ?_;refine jS Tryz.underlying26 cM rfl rfl rfl (by omega) (by omega) (by omega) (by omega) ?_;intro g hg;have hle:=Heap.bC ⟨de [.bool false,.slice none 0 0,.slice none 0 0] ((p.free.length:Int).toNat*3),(p.free.length:Int).toNat*3,31,true⟩ hg;obtain⟨D0,zD⟩:=cP.bin;obtain⟨M,vA,hM⟩:=cP.fit (vs:=[]) (o:=List.replicate p.free.length 0) (Nat.zero_le _) (.inr (Om _)) (by rw[ext_nil];exact zD);rw[ext_nil]at vA;have Oq:=cP.JI
 simp only[List.length_nil,Nat.zero_add,Nat.one_mul]at Oq
 refine aH rfl rfl (JH (N:=N) (hp.le hle) Vq (by omega) aP (by rw[List.length_replicate]) vA (by omega)) (fun _ _ h=>by first | exact h.le | exact h.1) ?_;rintro _ H2 ⟨aM,S,f2,B21,JC,I4,B22,JD,e22,B2x,e2x,Vs,Vt,B2r,e2r,rfl,kf,F6,nz,w6,mq,Bs⟩;refine vr 3 ?_;refine bh rT rfl ?_;obtain⟨ti,aj,ak⟩:=nY;refine aG (.inl ⟨rfl,rfl⟩) rfl rfl rfl aj ak rfl rfl rfl ?_;refine vr 1 ?_;refine ab [2,4,5] ?_;refine al ?_;refine ae ?_;refine vr 2 ?_;refine ab [2,4,5,16] ?_;refine dg rfl ?_;refine aw ?_;refine ag [2,4] rfl ?_;refine al ?_;refine ae ?_;refine vr 3 ?_;refine ab [2,4,21] ?_;refine az rfl (fun hb=> ?_) (fun hb=> ?_)
 ·
  have h2:S.status=2:=by simpa using hb
  obtain⟨k1,k2,k3,k4,k5⟩:=kf.QZ h2;refine ae ?_;refine vr 2 ?_;refine dM Tryz.underlying40 xR rfl rfl rfl rfl rfl rfl rfl ?_;intro gb bW;have dU:=Heap.bC (whole (cT [.slice Vs S.iw.length Vt]) 26) bW;refine dW af rfl pS rfl rfl ?_;obtain⟨ti,aj,ak⟩:=kP;refine aG (.inl ⟨rfl,rfl⟩) rfl rfl rfl aj ak rfl rfl rfl ?_;refine vr 1 ?_;refine ab [2,3] ?_;obtain⟨bX,aK,aL⟩:=kP;refine aq ⟨.inr rfl,_,.agg rfl Tryz.underlying43 aK aL (.tmp rfl (.nil)),?_⟩;refine⟨hle.trans (aM.trans dU),_,rfl,⟨2,[],[],[S.iw],[]⟩,⟨_,_,_,_,_,_,_,_,rfl,jB,jB,?_,jB⟩,.inr (.inl ⟨rfl,rfl,rfl,rfl,_,rfl,k5⟩)⟩;exact⟨_,1,_,rfl,Nat.le_refl _,fu _ _ _ _ _ _,jn (P:=jC KX _) (vs:=[.slice Vs S.iw.length Vt]) ⟨_,_,rfl,mq.le (a8 KX) dU⟩ rfl⟩
 ·
  have h2:¬S.status=2:=by simpa using hb
  have Ot:qW p S.x:=by
   rcases kf with h9 | h9 | h9
   ·exact h9.2.2.1.dB
   ·exact absurd h9.1 h2
   ·exact h9.2.2.2.dB
  refine aw ?_;refine ag [2,4] rfl ?_;refine ae ?_;refine vr 2 ?_;refine dW af rfl pS rfl rfl ?_;obtain⟨ti,aj,ak⟩:=kP;refine aG (.inl ⟨rfl,rfl⟩) rfl rfl rfl aj ak rfl rfl rfl ?_;refine vr 1 ?_;refine ab [2,3] ?_;obtain⟨bX,aK,aL⟩:=kP;refine aq ⟨.inr rfl,_,.agg rfl Tryz.underlying43 aK aL (.tmp rfl (.nil)),?_⟩;exact⟨hle.trans aM,_,rfl,⟨1,[],S.x,[],[]⟩,⟨_,_,_,_,_,_,_,_,rfl,jB,w6,jB,jB⟩,.inl ⟨rfl,rfl,rfl,Ot,rfl,Nat.le_refl _,fun i o v d h1=>by simp at h1⟩⟩
theorem U0{H:Heap}{v ov:Value}{p:Prg}{os:List (List Rat)}{N E f0:Nat}(hp:cN N H v p)(ho:gB N H ov os)(hN:N≤KX)(cH:os.length≤9223372036854775807)(cP:te p os→uQ p os E f0):
 Fn Tryz.prog 17 #[v,ov] H (aff p os H):=by
 obtain⟨fv,fG,rfl,cB,cF⟩:=id hp
 obtain⟨Af,cf,xf,rfl,ea,eH⟩:=cB.one
 obtain⟨Ar,cr,xr,rfl,fO,cL,du⟩:=id cF
 obtain⟨Ao,co,xo,rfl,jl,fI,jQ⟩:=id ho
 have Vr:N≤200000000:=hN;refine aU (args:=[_,_]) Tryz.func17 rfl rfl Tryz.ntmps17 rfl rfl fun w0=> ?_;refine ag [0,1] rfl ?_;refine ae ?_;refine bF rfl rfl ?_;refine bh pS rfl ?_;refine vr 1 ?_;refine ab [1,2,4] ?_;refine al ?_;refine ae ?_;refine vr 2 ?_;refine ar rfl rfl (Vn hp ho cH) ?_;rintro _ H1 ⟨e1,er,rfl,hE⟩;rw[e1];refine vr 1 ?_;refine ab [1,2,4,6] ?_;refine ae ?_;refine vr 2 ?_;refine ab [1,2,4,6,16] ?_;refine az rfl (fun hb=> ?_) (fun hb=> ?_)
 ·
  have h1:¬er=0:=by simpa using hb
  refine ae ?_;refine dW af rfl pS rfl rfl ?_;refine vr 1 ?_;obtain⟨ti,aj,ak⟩:=kP;refine aG (.inl ⟨rfl,rfl⟩) rfl rfl rfl aj ak rfl rfl rfl ?_;refine vr 1 ?_;refine ab [4,5] ?_;obtain⟨bX,aK,aL⟩:=kP;refine aq ⟨.inr rfl,_,.agg rfl Tryz.underlying43 aK aL (.tmp rfl (.nil)),?_⟩;exact⟨.refl _,_,er,rfl,hE,.inl ⟨h1,rfl⟩⟩
 ·
  have h1:er=0:=by simpa using hb
  subst h1;have hf:=hE.Jw;have aP:=hf.ok;have dY:=aP.dR;have iQ:=aP.rows;have JE:=hf.tf;have ahc:=hf.rows;have hz:=cP hf;have Oq:=hz.JI;refine aw ?_;refine ag [1,2,4] rfl ?_;refine al ?_;refine ae ?_;refine vr 3 ?_;refine ab [1,2,4,21] ?_;refine az rfl (fun hb=> ?_) (fun hb=> ?_)
  ·
   have h2:(os.length:Int)=0:=by simpa using hb
   have h3:os = []:=List.length_eq_zero_iff.1 (by omega);subst h3;refine ae ?_;refine vr 1 ?_;refine ar rfl rfl (afi hp hN aP hz) ?_;rintro _ H2 ⟨aM,s,rfl,S,⟨A1,c1,A2,c2,A3,c3,A4,c4,rfl,qO,dI,ET,za⟩,kf⟩;refine vr 2 ?_;obtain⟨ti,aj,ak⟩:=kP;refine aG (.inl ⟨rfl,rfl⟩) rfl rfl rfl aj ak rfl rfl rfl ?_;refine vr 1 ?_;refine ab [4,5] ?_;obtain⟨bX,aK,aL⟩:=kP;refine aq ⟨.inr rfl,_,.agg rfl Tryz.underlying43 aK aL (.tmp rfl (.nil)),?_⟩;exact⟨aM,_,0,rfl,hE,.inr ⟨rfl,S,⟨A1,c1,A2,c2,A3,c3,A4,c4,rfl,qO,dI,ET,za⟩,kf⟩⟩
  ·
   have h2:¬(os.length:Int)=0:=by simpa using hb
   have hpK:=hp.mono hN;have hoK:=ho.mono hN;refine aw ?_;refine ag [1,2,4] rfl ?_;refine ae ?_;refine bh pS rfl ?_;refine ab [1,2,4,7] ?_;refine al ?_;refine ae ?_;refine vr 3 ?_;refine ab [1,2,4,7,26,27,28] ?_;refine aD ?_;refine pQ (fun(i:Nat)(w:Value×Value×Value)(z:List Value×List Value)(a:List Rat×List (List Rat)×List Rat)=>os.length-i) (fun(i:Nat)(w:Value×Value×Value)(z:List Value×List Value)(a:List Rat×List (List Rat)×List Rat)=>put (put (put (put (put (put (put (emp) 1 (.val (.slice Ao os.length co))) 2 (.box [.slice Af p.free.length cf,.slice Ar p.rows.length cr])) 4 (.box [.int .i64 0,.slice none 0 0,.slice none 0 0,.slice none 0 0,.slice none 0 0])) 7 (.box [.int .i64 0,w.1,w.2.2,w.2.1,.slice none 0 0])) 26 (.val (.slice Ao os.length co))) 27 (.val (.int .i64 (os.length:Int)))) 28 (.val (.int .i64 (i:Int)))) (fun(i:Nat)(w:Value×Value×Value)(z:List Value×List Value)(a:List Rat×List (List Rat)×List Rat) H'=>afg p os E f0 H H' i w z a) 0 (.slice none 0 0,.slice none 0 0,.slice none 0 0) ([],[]) ([],[],[]) (⟨(Cb H).two,⟨none,0,rfl,jB⟩,rfl,rfl,Nat.zero_le _,(fun j o v d _ h=>by simp at h),(fun h=>by omega),by obtain⟨D,hD⟩:=hz.bin;exact⟨D,by rw[Nat.zero_mul,Nat.add_zero,ext_nil];exact hD⟩⟩) au ?_;rintro i w z a H2 hI;obtain⟨w1,w2,wx⟩:=w;obtain⟨z1,z2⟩:=z
   obtain⟨a1,a2,a3⟩:=a;have hG:=hI.On;have iu:=hI.vl;have Vu:=hI.dl;have ahd:=hI.le
   simp only at hG iu Vu
   obtain⟨AX,cX,eX,hX⟩:=hI.xv
   simp only at eX hX
   subst eX;obtain⟨D1,d1,rfl⟩:=hG.form;obtain⟨D2,d2,rfl⟩:=hG.UC;refine ae ?_;refine vr 1 ?_;refine ab [1,2,4,7,26,27,28,29] ?_;refine al ?_;refine az rfl (fun hb=> ?_) (fun hb=> ?_)
   ·
    have hio:i<os.length:=by simpa using hb
    obtain⟨o,eR⟩:∃o,os[i]? = some o:=⟨_,List.getElem?_eq_getElem hio⟩
    have Ou:os[a1.length]? = some o:=by rw[iu];exact eR
    obtain⟨Bo,cb,gN,dS⟩:=nP jQ eR;have Ov:=List.mem_of_getElem? eR;have hoc:=hf.vec o Ov;obtain⟨D0,zD⟩:=hI.bin;obtain⟨M,vA,hM⟩:=hz.fit (vs:=a1) (o:=o) (by omega) (.inl Ov) zD
    have Ow:M≤99999998:=by
     have h9:i*E+E≤(os.length+1)*E:=by rw[←Nat.succ_mul];exact Nat.mul_le_mul_right _ (by omega)
     omega
    have afj:(cg p os a1).Ok:=aes aP hf.vec (by omega);refine aw ?_;refine ag [1,2,4,7,26,27,28] rfl ?_;refine al ?_;refine aD ?_;refine ae ?_;refine a6 af rfl rfl rfl rfl rfl (fI.le hG.le) (by rw[Int.toNat_natCast];exact gN) (by omega) (by omega) fun _=> ?_;refine vr 1 ?_;refine ab [1,2,4,7,9,26,27,28] ?_;refine ae ?_;refine vr 4 ?_;refine ar rfl rfl (Oi (gs:=(aB (.slice D1 a1.length d1)++aB (.slice D2 a2.length d2))) (N:=KX) hG.mQ (hpK.le hG.base) (hoK.le (fX KX) hG.base) hG.own.rd hG.ka (by omega) dY iQ (afh (N:=0) (H:=H) (v:= .bool true) aP) (fun o h=>by have h9:=hf.vec o h;omega) (by omega) (by decide)) ?_;rintro _ H3 ⟨nh,Q1,q1,u1,Q2,q2,u2,rfl,hq⟩;have uS:=hG.zm.step (a8 KX) (fX KX) nh.same nh.le;refine vr 1 ?_;refine ar rfl rfl (Fn.frame uS.mQ (JH (N:=KX+2) hq ((dS.mono fun _ _ h=>aS.mono h (show N≤KX+2 by show N≤200000002;omega)).le (a8 (KX+2)) (hG.base.trans uS.base)) (by decide) afj hoc vA Ow)) ?_;rintro _ H4 ⟨⟨bE,S,f4,Vv,Vw,Vx,Vy,Vz,VB,B4x,e4x,JJ,JK,B4r,e4r,rfl,kf,F6,nz,w6,mq,Bs⟩,oE⟩;have tg:=(uS.step (a8 KX) (fX KX) oE bE).down hG.base;refine vr 3 ?_;refine bh rT rfl ?_;obtain⟨ti,aj,ak⟩:=nY;refine aG (.inl ⟨rfl,rfl⟩) rfl rfl rfl aj ak rfl rfl rfl ?_
    refine vr 1 ?_;refine ab [1,2,4,7,10,11,26,27,28] ?_;refine al ?_;refine ae ?_;refine vr 2 ?_;refine ab [1,2,4,7,10,11,26,27,28,43] ?_;refine dg rfl ?_;refine aw ?_;refine ag [1,2,4,7,10,26,27,28] rfl ?_;refine al ?_;refine ae ?_;refine vr 2 ?_;refine ab [1,2,4,7,10,26,27,28,47] ?_;refine aD ?_;refine ae ?_;refine vr 2 ?_;refine ab [1,2,4,7,10,26,27,28,47,48] ?_;refine az rfl (fun hb=> ?_) (fun hb=> ?_)
    ·
     have h2:S.status=2:=by simpa using hb
     obtain⟨k1,k2,k3,k4,k5⟩:=kf.QZ h2
     have hi0:i=0:=by
      by_cases h9:0<i
      ·exact absurd (hI.dB h9).1 (k5.cert.isInf k5.ok.valid _)
      ·omega
     have oF:a1 = []:=List.length_eq_zero_iff.1 (by omega);rw[oF,ext_nil]at k5;refine ae ?_;refine vr 2 ?_;refine dM Tryz.underlying40 xR rfl rfl rfl rfl rfl rfl rfl ?_;intro gb bW;have dU:=Heap.bC (whole (cT [.slice JJ S.iw.length JK]) 26) bW;refine dW af rfl pS rfl rfl ?_;obtain⟨ti,aj,ak⟩:=kP;refine aG (.inl ⟨rfl,rfl⟩) rfl rfl rfl aj ak rfl rfl rfl ?_;refine vr 1 ?_;refine ab [4,5] ?_;obtain⟨bX,aK,aL⟩:=kP;refine aq ⟨.inr rfl,_,.agg rfl Tryz.underlying43 aK aL (.tmp rfl (.nil)),?_⟩;refine⟨tg.le.trans dU,_,0,rfl,hE,.inr ⟨rfl,⟨2,[],[],[S.iw],[]⟩,⟨_,_,_,_,_,_,_,_,rfl,jB,jB,?_,jB⟩,.inr (.inl ⟨rfl,rfl,rfl,rfl,_,rfl,k5⟩)⟩⟩;exact⟨_,1,_,rfl,Nat.le_refl _,fu _ _ _ _ _ _,jn (P:=jC KX _) (vs:=[.slice JJ S.iw.length JK]) ⟨_,_,rfl,(mq.le (a8 KX) (bG _ _)).le (a8 KX) dU⟩ rfl⟩
    ·
     have h2:¬S.status=2:=by simpa using hb
     refine ae ?_;refine vr 2 ?_;refine ab [1,2,4,7,10,26,27,28,54] ?_;refine az rfl (fun hb=> ?_) (fun hb=> ?_)
     ·
      have h3:S.status=3:=by simpa using hb
      obtain⟨k1,k2,k3⟩:=kf.at3 h3;have rI:=UE (st:=3) (ray:=S.ray) (p:=p) (os:=os) (vs:=a1) (ds:=a2) (x:=S.x) (by omega) (by omega) hI.Oo k3.dB.meets k3.dB.len;refine bL (.tl [7]) [0,1,2,3,4,5,6,7,8,9] follows (by kernel_rfl) ?_;refine vr 5 ?_;obtain⟨ti,aj,ak⟩:=pR;refine aG (.inr rfl) rfl rfl rfl aj ak rfl rfl rfl ?_;refine vr 1 ?_;obtain⟨ti,aj,ak⟩:=xS;refine aG (.inr rfl) rfl rfl rfl aj ak rfl rfl rfl ?_;refine vr 1 ?_;obtain⟨ti,aj,ak⟩:=xS;refine aG (.inr rfl) rfl rfl rfl aj ak rfl rfl rfl ?_;refine ab [4,7] ?_;refine ae ?_;refine vr 1 ?_;obtain⟨ti,aj,ak⟩:=kP;refine aG (.inl ⟨rfl,rfl⟩) rfl rfl rfl aj ak rfl rfl rfl ?_;refine vr 1 ?_;refine ab [4,5] ?_;obtain⟨bX,aK,aL⟩:=kP;refine aq ⟨.inr rfl,_,.agg rfl Tryz.underlying43 aK aL (.tmp rfl (.nil)),?_⟩;exact⟨tg.le,_,0,rfl,hE,.inr ⟨rfl,⟨3,a1,S.x,a2,S.ray⟩,⟨_,_,_,_,_,_,_,_,rfl,((tg.one (a8 KX) (fX KX)).1.sl (a8 KX)),w6.le (a8 KX) (bG _ _),((tg.one (a8 KX) (fX KX)).2.le (fX KX) (bG _ _)),Bs.le (a8 KX) (bG _ _)⟩,.inr (.inr ⟨rfl,by show a1.length<_;omega,rI,o,Ou,k3⟩)⟩⟩
     ·
      have h3:¬S.status=3:=by simpa using hb
      have h1:S.status=1:=by rcases kf with h9 | h9 | h9;exact h9.1;exact absurd h9.1 h2;exact absurd h9.1 h3
      obtain⟨k1,k2,k3⟩:=kf.HH h1;have k3':aX p.free.length (fn o) (fn S.x)=S.value:=k3.symm
      have afk:rD (cg p os a1) o S.value S.iw:=by have h9:=rD.of k2;rwa [←k3]at h9
      have Ot:(cg p os (a1 ++ [S.value])).lp.dJ 1 (fn S.x):=aev (by omega) Ou k2.dB.meets k3';have cj:S.x.length=p.free.length:=k2.dB.len
      have afl:∃D,j7 D (f0+(i+1)*E) (cg p os (a1 ++ [S.value])):=by
       obtain⟨D',h9⟩:=hz.step (vs:=a1) (by omega) Ov zD F6 h1;exact⟨D',by rw[show f0+(i+1)*E=E+(f0+i*E) by rw[Nat.succ_mul i];omega];exact h9⟩
      have ij:=tg.zm;refine aw ?_;refine ag [1,2,4,7,10,26,27,28] rfl ?_;refine ae ?_;refine vr 3 ?_;obtain⟨ti,aj,ak⟩:=xS;refine aG (.inr rfl) rfl rfl rfl aj ak rfl rfl rfl ?_;refine ab [1,2,4,7,10,26,27,28] ?_;refine ae ?_;refine vr 4 ?_;refine dM Tryz.underlying26 cM rfl rfl rfl rfl rfl rfl rfl ?_;intro gb bW;have Ox:=ij.ins (a8 KX) (fX KX) (whole (cT [.agg #[.bool f4,.slice Vv Vw Vx,.slice Vy Vz VB]]) 31) bW;refine eW Tryz.underlying26 cM rfl rfl Ox.own (fu _ _ _ _ _ _) rfl (B7 _ _ _ _ _ _ _) (by omega) (by omega) ?_;intro v6 H6 IV;have iR:=Ox.append (a8 KX) (fX KX) (j:=[S.value]) (by simp) IV (jn (P:=aS KX _) (vs:=[.bool f4,.slice Vv Vw Vx,.slice Vy Vz VB]) (bN.le nz Ox.base) rfl);obtain⟨D6,d6,rfl⟩:=iR.form;refine vr 1 ?_;obtain⟨ti,aj,ak⟩:=xS;refine aG (.inr rfl) rfl rfl rfl aj ak rfl rfl rfl ?_;refine ab [1,2,4,7,10,26,27,28] ?_;refine aE rfl ?_;refine vr 4 ?_;refine dM Tryz.underlying40 xR rfl rfl rfl rfl rfl rfl rfl ?_;intro gc qm;have Cp:=iR.ins (a8 KX) (fX KX) (whole (cT [.slice JJ S.iw.length JK]) 26) qm;refine eW Tryz.underlying40 xR rfl rfl Cp.tc (fu _ _ _ _ _ _) rfl (UO KX _ _ S.iw ⟨_,_,rfl,mq⟩) (by omega) (by omega) ?_;intro v7 H7 FT
      have gW:=Cp.aer (a8 KX) (fX KX) (j:=[S.iw]) (by simp) FT (jn (P:=jC KX _) (vs:=[.slice JJ S.iw.length JK]) ⟨_,_,rfl,mq.le (a8 KX) Cp.base⟩ rfl);obtain⟨D7,d7,rfl⟩:=gW.UC;refine vr 1 ?_;obtain⟨ti,aj,ak⟩:=Px;refine aG (.inr rfl) rfl rfl rfl aj ak rfl rfl rfl ?_;refine aA ?_;refine ag [1,2,4,7,26,27,28] rfl ?_;refine aE rfl ?_;refine aN rfl rfl ⟨by omega,by omega⟩ ?_;refine vr 1 ?_;refine aA ?_;exact⟨i+1,(_,_,_),(_,_),(a1 ++ [S.value],a2 ++ [S.iw],S.x),by omega,au,⟨gW.down tg.base,⟨_,_,rfl,w6.le (a8 KX) gW.base⟩,by simp[iu],by simp[Vu],by omega,aeu (by omega) Ou hI.Oo afk,fun _=>⟨Ot,cj⟩,afl⟩⟩
   ·
    have hb:os.length≤i:=by simpa using hb
    obtain rfl:i=os.length:=by omega
    obtain⟨yo,cj⟩:=hI.dB (by omega)
    simp only at yo cj
    have rI:=UE (st:=1) (ray:=[]) (p:=p) (os:=os) (vs:=a1) (ds:=a2) (x:=a3) (by omega) (by omega) hI.Oo yo cj;refine bB ?_;refine ag [4,7] rfl ?_;refine ae ?_;refine vr 1 ?_;obtain⟨ti,aj,ak⟩:=pR;refine aG (.inr rfl) rfl rfl rfl aj ak rfl rfl rfl ?_;refine ab [4,7] ?_;refine ae ?_;refine vr 1 ?_;obtain⟨ti,aj,ak⟩:=kP;refine aG (.inl ⟨rfl,rfl⟩) rfl rfl rfl aj ak rfl rfl rfl ?_;refine vr 1 ?_;refine ab [4,5] ?_;obtain⟨bX,aK,aL⟩:=kP;refine aq ⟨.inr rfl,_,.agg rfl Tryz.underlying43 aK aL (.tmp rfl (.nil)),?_⟩;exact⟨hG.le,_,0,rfl,hE,.inr ⟨rfl,⟨1,a1,a3,a2,[]⟩,⟨_,_,_,_,_,_,_,_,rfl,((hG.one (a8 KX) (fX KX)).1.sl (a8 KX)),hX.le (a8 KX) (bG _ _),((hG.one (a8 KX) (fX KX)).2.le (fX KX) (bG _ _)),jB⟩,.inl ⟨rfl,iu,rfl,⟨aP,cj,((zq (by omega)).1 yo).1⟩,rI⟩⟩⟩
end Go.ay
