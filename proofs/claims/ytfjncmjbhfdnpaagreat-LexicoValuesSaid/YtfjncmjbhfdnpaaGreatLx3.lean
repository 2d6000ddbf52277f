/- Walks over package lexico, part 3: feasible, Minimize. -/
import Derived.Test.YtfjncmjbhfdnpaaGreatA14
import Derived.Test.YtfjncmjbhfdnpaaGreatLx2
import Derived.Test.YtfjncmjbhfdnpaaGreatLxz
set_option linter.unusedVariables false
namespace Go.aw
open Go.Proofs Num Lp
abbrev KX:Nat:=200000000
def alR(K:Nat)(H:Heap)(s:Value)(S:qP):Prop:=∃f A1 m1 c1 A2 m2 c2 Ax cx Ad cd Ar cr,s = .agg #[.int .i64 S.status,.bool f,.slice A1 m1 c1,.slice A2 m2 c2,.slice Ax S.x.length cx,.slice Ad S.jq.length cd,.slice Ar S.ray.length cr]∧ct H (.agg #[.bool f,.slice A1 m1 c1,.slice A2 m2 c2]) S.value K∧aR (bR K) 3 H (.slice Ax S.x.length cx) S.x∧aR (bR K) 3 H (.slice Ad S.jq.length cd) S.jq∧aR (bR K) 3 H (.slice Ar S.ray.length cr) S.ray
theorem RY.k{K:Nat}{H:Heap}{s:Value}{S:qP}(h:RY H s S)(hz:Zy K S):alR K H s S:=by
 obtain⟨f,u,w,xv,dv,rv,rfl,h4,h5,h6,h7⟩:=h
 obtain⟨Ax,cx,_,rfl,_⟩:=id h5
 obtain⟨Ad,cd,_,rfl,_⟩:=id h6
 obtain⟨Ar,cr,_,rfl,_⟩:=id h7
 have hx:=h5.xL fun q hq=>hz q (.inl hq)
 have hd:=h6.xL fun q hq=>hz q (.inr (.inl hq))
 have hr:=h7.xL fun q hq=>hz q (.inr (.inr (.inl hq)))
 rcases h4 with h4 | ⟨h4,rfl,rfl,rfl⟩
 ·obtain⟨u',w',e,hu,hw⟩:=id h4
  have e':=zf (vs:=[.bool f,u,w]) e
  simp only[List.cons.injEq,and_true]at e'
  obtain⟨_,rfl,rfl⟩:=e'
  obtain⟨A1,c1,rfl,_⟩:=id hu
  obtain⟨A2,c2,rfl,_⟩:=id hw
  exact⟨_,_,_,_,_,_,_,_,_,_,_,_,_,rfl,(bK.raw h4).mono (hz _ (.inr (.inr (.inr rfl)))),hx,hd,hr⟩
 ·exact⟨_,_,_,_,_,_,_,_,_,_,_,_,_,rfl,by rw[h4];exact Sn,hx,hd,hr⟩
def UE(p:Prg)(c:List Rat)(H:Heap)(v:Value)(H':Heap):Prop:=Heap.le H H'∧∃S f A1 m1 c1 A2 m2 c2 Ax cx Ad cd Ar cr,v = .tuple #[.agg #[.int .i64 S.status,.bool f,.slice A1 m1 c1,.slice A2 m2 c2,.slice Ax S.x.length cx,.slice Ad S.jq.length cd,.slice Ar S.ray.length cr],.int .i64 0]∧r7 p c S∧Cm p c S∧ct H' (.agg #[.bool f,.slice A1 m1 c1,.slice A2 m2 c2]) S.value KX∧aR (bR KX) 3 H' (.slice Ax S.x.length cx) S.x∧aR (bR KX) 3 H' (.slice Ad S.jq.length cd) S.jq∧aR (bR KX) 3 H' (.slice Ar S.ray.length cr) S.ray
theorem N7{N M:Nat}{H:Heap}{v cv:Value}{p:Prg}{c:List Rat}(hp:ea N H v p)(hc:aR (bR N) 3 H cv c)(hN:N≤400000000)(bx:p.Ok)(hlen:c.length=p.free.length)(hf:Fits p c M)(hM:M≤99999998):Fn Tryz.prog 12 #[v,cv] H (UE p c H):=by
 have hn:=bx.iG
 refine(ain hp hc hf (by omega) (by omega) (by omega)).mono ?_
 rintro v' H' ⟨hl,s,e,rfl,h3⟩
 rcases h3 with h3 | h3 | ⟨_,_,rfl,S,k4,k5,k6,k7⟩
 ·exact absurd bx h3.1
 ·exact absurd hlen h3.2.1
 ·obtain⟨f,A1,m1,c1,A2,m2,c2,Ax,cx,Ad,cd,Ar,cr,rfl,g1,g2,g3,g4⟩:=k4.k (K:=KX) (fun q hq=>Nat.le_trans (k6 q hq) (by show _≤200000000;omega))
  exact⟨hl,S,f,A1,m1,c1,A2,m2,c2,Ax,cx,Ad,cd,Ar,cr,rfl,k5,k7,g1,g2,g3,g4⟩
theorem UE.le{p:Prg}{c:List Rat}{H:Heap}{v:Value}{H':Heap}(h:UE p c H v H'):Heap.le H H':=h.1
def abR(H:Heap)(v:Value)(S:Fq):Prop:=∃A1 c1 A2 c2 A3 c3 A4 c4,v = .agg #[.int .i64 S.status,.slice A1 S.values.length c1,.slice A2 S.x.length c2,.slice A3 S.uC.length c3,.slice A4 S.ray.length c4]∧aR (bR KX) 3 H (.slice A1 S.values.length c1) S.values∧aR (bR KX) 3 H (.slice A2 S.x.length c2) S.x∧jw KX H (.slice A3 S.uC.length c3) S.uC∧aR (bR KX) 3 H (.slice A4 S.ray.length c4) S.ray
def alS:Value:= .agg #[.int .i64 0,.slice none 0 0,.slice none 0 0,.slice none 0 0,.slice none 0 0]
def alT(p:Prg)(os:List (List Rat))(H:Heap)(v:Value)(H':Heap):Prop:=Heap.le H H'∧∃s e,v = .tuple #[s,.int .i64 e]∧ym p os e∧((e≠0∧s=alS)∨(e=0∧∃S,abR H' s S∧JU p os S))
theorem Us{N:Nat}{H:Heap}{g k:Nat}:aR (bR N) 3 (ins H g ⟨cD [.bool false,.slice none 0 0,.slice none 0 0] ((k:Int).toNat*3),(k:Int).toNat*3,31,true⟩) (.slice (some ⟨g,0,none⟩) (k:Int).toNat (k:Int).toNat) (List.replicate k 0):=by
 rw[Int.toNat_natCast]
 exact⟨_,k,_,by rw[List.length_replicate],by rw[List.length_replicate];exact Nat.le_refl _,dE _ _ _ _ _ _,Pz (P:=bR N _) rfl Sn k⟩
theorem NX(k j:Nat):fn (List.replicate k 0) j=0:=by
 unfold fn
 rw[List.getD,List.getElem?_replicate]
 split <;> rfl
theorem gT.pJ{α β:Type}{P:Heap→List Value→α→Prop}{e sz:Nat}{Q:Heap→List Value→β→Prop}{e' eV:Nat}{Hb H:Heap}{v u:Value}{l:List α}{xs:List Value}{k:List β}{ys:List Value}(h:gT P e sz Q e' eV Hb H v l xs u k ys):gT P e sz Q e' eV (rem H (aB v++aB u)) H v l xs u k ys:=⟨h.own,h.vP,h.lT,h.E2,.refl _,h.apart⟩
theorem gT.down{α β:Type}{P:Heap→List Value→α→Prop}{e sz:Nat}{Q:Heap→List Value→β→Prop}{e' eV:Nat}{Hb Hc H:Heap}{v u:Value}{l:List α}{xs:List Value}{k:List β}{ys:List Value}(h:gT P e sz Q e' eV Hb H v l xs u k ys)(hl:Heap.le Hc Hb):gT P e sz Q e' eV Hc H v l xs u k ys:=⟨h.own,h.vP,h.lT,h.E2,hl.trans h.base,h.apart⟩
structure alU(p:Prg)(os:List (List Rat))(E f0:Nat)(H H':Heap)(i:Nat)(w:Value×Value×Value)(z:List Value×List Value)(a:List Rat×List (List Rat)×List Rat):Prop where
 JW:gT (bR KX) 31 3 (rF KX) 26 1 H H' w.1 a.1 z.1 w.2.1 a.2.1 z.2
 xv:∃A c,w.2.2 = .slice A a.2.2.length c∧aR (bR KX) 3 (rem H' (aB w.1++aB w.2.1)) (.slice A a.2.2.length c) a.2.2
 vl:a.1.length=i
 dl:a.2.1.length=i
 le:i≤os.length
 UF:∀(j:Nat)(o:List Rat)(v:Rat)(d:List Rat),os[j]? = some o→a.1[j]? = some v→a.2.1[j]? = some d→uE (b8 p os (a.1.take j)) o v d
 dd:0<i→(b8 p os a.1).lp.dY 1 (fn a.2.2)∧a.2.2.length=p.free.length
 bin:∃D,kP D (f0+i*E) (b8 p os a.1)
theorem alV{N:Nat}{H:Heap}{v:Value}{p:Prg}(h:p.Ok):∀r,r∈p.rows→r.1.length≤1000:=fun r hr=>by
 obtain⟨i,hi⟩:=List.getElem?_of_mem hr
 have h1:=(h.row i r hi).1
 have h2:=h.iG
 omega
theorem jw.mono{N M:Nat}{H:Heap}{v:Value}{ls:List (List Rat)}(h:jw N H v ls)(hl:N≤M):jw M H v ls:=aR.mono h fun _ _ ⟨A,c,h1,h2⟩=>⟨A,c,h1,aR.mono h2 fun _ _ h=>bR.mono h hl⟩
theorem alW{H:Heap}{v:Value}{p:Prg}{N E f0:Nat}(hp:ea N H v p)(hN:N≤KX)(bx:p.Ok)(cQ:uH p [] E f0):
 Fn Tryz.prog 72 #[v] H (fun v' H'=>Heap.le H H'∧∃s,v' = .tuple #[s,.int .i64 0]∧∃S,abR H' s S∧JU p [] S):=by
 obtain⟨fv,fL,rfl,dO,eo⟩:=id hp
 obtain⟨Af,cf,xf,rfl,iv,gS⟩:=dO.one
 obtain⟨Ar,cr,xr,rfl,iM,eJ,gE⟩:=id eo
 have jF:=bx.iG
 have hNK:N≤200000000:=hN;refine aZ (args:=[_]) Tryz.func72 rfl rfl Tryz.ntmps72 rfl rfl fun w0=> ?_;refine aj [0] rfl ?_;refine ag (bW rfl rfl (bn uW rfl (ab 1 rfl (ae [1,2] ?_))));refine bP .bJ [0,1,2,3,4,5,6,7,8,9,10,11] follows (by kernel_rfl) ?_;refine ab 4 rfl (gJ Tryz.underlying26 bZ rfl rfl rfl (by omega) (by omega) (by omega) (by omega) ?_);intro g hg;have hle:=Heap.bC ⟨cD [.bool false,.slice none 0 0,.slice none 0 0] ((p.free.length:Int).toNat*3),(p.free.length:Int).toNat*3,31,true⟩ hg;obtain⟨D0,C2⟩:=cQ.bin;obtain⟨M,uU,hM⟩:=cQ.fit (vs:=[]) (o:=List.replicate p.free.length 0) (Nat.zero_le _) (.inr (NX _)) (by rw[ext_nil];exact C2);rw[ext_nil]at uU;have NV:=cQ.JX
 simp only[List.length_nil,Nat.zero_add,Nat.one_mul]at NV
 refine a8 rfl rfl (N7 (N:=N) (hp.le hle) Us (by omega) bx (by rw[List.length_replicate]) uU (by omega)) (fun _ _ h=>by first | exact h.le | exact h.1) ?_;rintro _ H2 ⟨dC,S,f2,B21,N4,My,B22,N5,e22,B2x,e2x,B2d,e2d,B2r,e2r,rfl,kS,J4,tM,Al,C3,Ee⟩;refine ab 3 rfl (bn uV rfl ?_);obtain⟨ti,ak,al⟩:=p6;refine aI (.inl ⟨rfl,rfl⟩) rfl rfl rfl ak al rfl rfl rfl (ab 1 rfl (ae [2,4,5] ?_));refine aq (ag (ab 2 rfl (ae [2,4,5,16] ?_)));refine dR rfl (aA (aj [2,4] rfl ?_));refine aq (ag (ab 3 rfl (ae [2,4,21] ?_)));refine aD rfl (fun hb=> ?_) (fun hb=> ?_)
 ·
  have h2:S.status=2:=by simpa using hb
  obtain⟨k1,k2,k3,k4,k5⟩:=kS.WV h2;refine ag (ab 2 rfl (cR Tryz.underlying40 rP rfl rfl rfl rfl rfl rfl rfl ?_));intro gb bo;have fc:=Heap.bC (whole (cF [.slice B2d S.jq.length e2d]) 26) bo;refine de ah rfl uW rfl rfl ?_;obtain⟨ti,ak,al⟩:=nX;refine aI (.inl ⟨rfl,rfl⟩) rfl rfl rfl ak al rfl rfl rfl (ab 1 rfl (ae [2,3] ?_));obtain⟨bQ,aN,aO⟩:=nX;refine aE ⟨.inr rfl,_,.agg rfl Tryz.underlying43 aN aO (.tmp rfl (.nil)),?_⟩;refine⟨hle.trans (dC.trans fc),_,rfl,⟨2,[],[],[S.jq],[]⟩,⟨_,_,_,_,_,_,_,_,rfl,nQ,nQ,?_,nQ⟩,.inr (.inl ⟨rfl,rfl,rfl,rfl,_,rfl,k5⟩)⟩;exact⟨_,1,_,rfl,Nat.le_refl _,dE _ _ _ _ _ _,iE (P:=rF KX _) (vs:=[.slice B2d S.jq.length e2d]) ⟨_,_,rfl,C3.le (dz KX) fc⟩ rfl⟩
 ·
  have h2:¬S.status=2:=by simpa using hb
  have UG:GN p S.x:=by
   rcases kS with h9 | h9 | h9
   ·exact h9.2.2.1.dd
   ·exact absurd h9.1 h2
   ·exact h9.2.2.2.dd
  refine aA (aj [2,4] rfl ?_);refine ag (ab 2 rfl (de ah rfl uW rfl rfl ?_));obtain⟨ti,ak,al⟩:=nX;refine aI (.inl ⟨rfl,rfl⟩) rfl rfl rfl ak al rfl rfl rfl (ab 1 rfl (ae [2,3] ?_));obtain⟨bQ,aN,aO⟩:=nX;refine aE ⟨.inr rfl,_,.agg rfl Tryz.underlying43 aN aO (.tmp rfl (.nil)),?_⟩;exact⟨hle.trans dC,_,rfl,⟨1,[],S.x,[],[]⟩,⟨_,_,_,_,_,_,_,_,rfl,nQ,Al,nQ,nQ⟩,.inl ⟨rfl,rfl,rfl,UG,rfl,Nat.le_refl _,fun i o v d h1=>by simp at h1⟩⟩
theorem abM{H:Heap}{v ov:Value}{p:Prg}{os:List (List Rat)}{N E f0:Nat}(hp:ea N H v p)(ho:jw N H ov os)(hN:N≤KX)(cT:os.length≤9223372036854775807)(cQ:Aj p os→uH p os E f0):
 Fn Tryz.prog 17 #[v,ov] H (alT p os H):=by
 obtain⟨fv,fL,rfl,dO,eo⟩:=id hp
 obtain⟨Af,cf,xf,rfl,iv,gS⟩:=dO.one
 obtain⟨Ar,cr,xr,rfl,iM,eJ,gE⟩:=id eo
 obtain⟨Ao,co,xo,rfl,lk,kK,nU⟩:=id ho
 have hNK:N≤200000000:=hN;refine aZ (args:=[_,_]) Tryz.func17 rfl rfl Tryz.ntmps17 rfl rfl fun w0=> ?_;refine aj [0,1] rfl ?_;refine ag (bW rfl rfl (bn uW rfl (ab 1 rfl (ae [1,2,4] ?_))));refine aq (ag (ab 2 rfl (aF rfl rfl (alQ hp ho cT) ?_)));rintro _ H1 ⟨e1,er,rfl,hE⟩;rw[e1];refine ab 1 rfl (ae [1,2,4,6] ?_);refine ag (ab 2 rfl (ae [1,2,4,6,16] ?_));refine aD rfl (fun hb=> ?_) (fun hb=> ?_)
 ·
  have h1:¬er=0:=by simpa using hb
  refine ag (de ah rfl uW rfl rfl (vr 1 ?_));obtain⟨ti,ak,al⟩:=nX;refine aI (.inl ⟨rfl,rfl⟩) rfl rfl rfl ak al rfl rfl rfl (ab 1 rfl (ae [4,5] ?_));obtain⟨bQ,aN,aO⟩:=nX;refine aE ⟨.inr rfl,_,.agg rfl Tryz.underlying43 aN aO (.tmp rfl (.nil)),?_⟩;exact⟨.refl _,_,er,rfl,hE,.inl ⟨h1,rfl⟩⟩
 ·
  have h1:er=0:=by simpa using hb
  subst h1;have hf:=hE.abL;have bx:=hf.ok;have jF:=bx.iG;have tZ:=bx.rows;have abG:=hf.pQ;have anO:=hf.rows;have hz:=cQ hf;have NV:=hz.JX;refine aA (aj [1,2,4] rfl ?_);refine aq (ag (ab 3 rfl (ae [1,2,4,21] ?_)));refine aD rfl (fun hb=> ?_) (fun hb=> ?_)
  ·
   have h2:(os.length:Int)=0:=by simpa using hb
   have h3:os = []:=List.length_eq_zero_iff.1 (by omega);subst h3;refine ag (ab 1 rfl (aF rfl rfl (alW hp hN bx hz) ?_));rintro _ H2 ⟨dC,s,rfl,S,⟨A1,c1,A2,c2,A3,c3,A4,c4,rfl,nx,dI,Io,Ch⟩,kS⟩;refine vr 2 ?_;obtain⟨ti,ak,al⟩:=nX;refine aI (.inl ⟨rfl,rfl⟩) rfl rfl rfl ak al rfl rfl rfl (ab 1 rfl (ae [4,5] ?_));obtain⟨bQ,aN,aO⟩:=nX;refine aE ⟨.inr rfl,_,.agg rfl Tryz.underlying43 aN aO (.tmp rfl (.nil)),?_⟩;exact⟨dC,_,0,rfl,hE,.inr ⟨rfl,S,⟨A1,c1,A2,c2,A3,c3,A4,c4,rfl,nx,dI,Io,Ch⟩,kS⟩⟩
  have h2:¬(os.length:Int)=0:=by simpa using hb
  have Uo:=hp.mono hN;have Uq:=ho.mono hN;refine aA (aj [1,2,4] rfl ?_);refine ag (bn uW rfl (ae [1,2,4,7] ?_));refine aq (ag (ab 3 rfl (ae [1,2,4,7,26,27,28] ?_)));refine aG (oU (fun(i:Nat)(w:Value×Value×Value)(z:List Value×List Value)(a:List Rat×List (List Rat)×List Rat)=>os.length-i) (fun(i:Nat)(w:Value×Value×Value)(z:List Value×List Value)(a:List Rat×List (List Rat)×List Rat)=>put (put (put (put (put (put (put (emp) 1 (.val (.slice Ao os.length co))) 2 (.box [.slice Af p.free.length cf,.slice Ar p.rows.length cr])) 4 (.box [.int .i64 0,.slice none 0 0,.slice none 0 0,.slice none 0 0,.slice none 0 0])) 7 (.box [.int .i64 0,w.1,w.2.2,w.2.1,.slice none 0 0])) 26 (.val (.slice Ao os.length co))) 27 (.val (.int .i64 (os.length:Int)))) 28 (.val (.int .i64 (i:Int)))) (fun(i:Nat)(w:Value×Value×Value)(z:List Value×List Value)(a:List Rat×List (List Rat)×List Rat) H'=>alU p os E f0 H H' i w z a) 0 (.slice none 0 0,.slice none 0 0,.slice none 0 0) ([],[]) ([],[],[]) (⟨(EX H).two,⟨none,0,rfl,nQ⟩,rfl,rfl,Nat.zero_le _,(fun j o v d _ h=>by simp at h),(fun h=>by omega),by obtain⟨D,hD⟩:=hz.bin;exact⟨D,by rw[Nat.zero_mul,Nat.add_zero,ext_nil];exact hD⟩⟩) au ?_);rintro i w z a H2 hI;obtain⟨w1,w2,wx⟩:=w;obtain⟨z1,z2⟩:=z
  obtain⟨a1,a2,a3⟩:=a;have hG:=hI.JW;have ig:=hI.vl;have hdl:=hI.dl;have anP:=hI.le
  simp only at hG ig hdl
  obtain⟨AX,cX,eX,hX⟩:=hI.xv
  simp only at eX hX
  subst eX;obtain⟨D1,d1,rfl⟩:=hG.form;obtain⟨D2,d2,rfl⟩:=hG.aab;refine ag (ab 1 rfl (ae [1,2,4,7,26,27,28,29] ?_));refine aq (aD rfl (fun hb=> ?_) (fun hb=> ?_))
  ·
   have Ft:i<os.length:=by simpa using hb
   obtain⟨o,jx⟩:∃o,os[i]? = some o:=⟨_,List.getElem?_eq_getElem Ft⟩
   have UH:os[a1.length]? = some o:=by rw[ig];exact jx
   obtain⟨Bo,cb,kT,eT⟩:=Ak nU jx;have UI:=List.mem_of_getElem? jx;have hoc:=hf.vec o UI;obtain⟨D0,C2⟩:=hI.bin;obtain⟨M,uU,hM⟩:=hz.fit (vs:=a1) (o:=o) (by omega) (.inl UI) C2
   have UJ:M≤99999998:=by
    have h9:i*E+E≤(os.length+1)*E:=by rw[←Nat.succ_mul];exact Nat.mul_le_mul_right _ (by omega)
    omega
   have alX:(b8 p os a1).Ok:=abz bx hf.vec (by omega);refine aA (aj [1,2,4,7,26,27,28] rfl ?_);refine aq (aG (ag (aS ah rfl rfl rfl rfl rfl (kK.le hG.le) (by rw[Int.toNat_natCast];exact kT) (by omega) (by omega) fun _=> ?_)));refine ab 1 rfl (ae [1,2,4,7,9,26,27,28] ?_);refine ag (ab 4 rfl (aF rfl rfl (alO (gs:=(aB (.slice D1 a1.length d1)++aB (.slice D2 a2.length d2))) (N:=KX) hG.nS (Uo.le hG.base) (Uq.le (nV KX) hG.base) hG.own.rd hG.lT (by omega) jF tZ (alV (N:=0) (H:=H) (v:= .bool true) bx) (fun o h=>by have h9:=hf.vec o h;omega) (by omega) (by decide)) ?_));rintro _ H3 ⟨oT,Q1,q1,u1,Q2,q2,u2,rfl,hq⟩;have qy:=hG.pJ.step (dz KX) (nV KX) oT.same oT.le;refine ab 1 rfl (aF rfl rfl (Fn.frame qy.nS (N7 (N:=KX+2) hq ((eT.mono fun _ _ h=>bR.mono h (show N≤KX+2 by show N≤200000002;omega)).le (dz (KX+2)) (hG.base.trans qy.base)) (by decide) alX hoc uU UJ)) ?_);rintro _ H4 ⟨⟨dV,S,f4,B41,m41,e41,B42,m42,e42,B4x,e4x,N8,N9,B4r,e4r,rfl,kS,J4,tM,Al,C3,Ee⟩,LN⟩;have rG:=(qy.step (dz KX) (nV KX) LN dV).down hG.base;refine ab 3 rfl (bn uV rfl ?_);obtain⟨ti,ak,al⟩:=p6;refine aI (.inl ⟨rfl,rfl⟩) rfl rfl rfl ak al rfl rfl rfl ?_
   refine ab 1 rfl (ae [1,2,4,7,10,11,26,27,28] ?_);refine aq (ag (ab 2 rfl (ae [1,2,4,7,10,11,26,27,28,43] ?_)));refine dR rfl (aA (aj [1,2,4,7,10,26,27,28] rfl ?_));refine aq (ag (ab 2 rfl (ae [1,2,4,7,10,26,27,28,47] ?_)));refine aG (ag (ab 2 rfl (ae [1,2,4,7,10,26,27,28,47,48] ?_)));refine aD rfl (fun hb=> ?_) (fun hb=> ?_)
   ·
    have h2:S.status=2:=by simpa using hb
    obtain⟨k1,k2,k3,k4,k5⟩:=kS.WV h2
    have Nq:i=0:=by
     by_cases h9:0<i
     ·exact absurd (hI.dd h9).1 (k5.cert.isInf k5.ok.valid _)
     ·omega
    have zv:a1 = []:=List.length_eq_zero_iff.1 (by omega);rw[zv,ext_nil]at k5;refine ag (ab 2 rfl (cR Tryz.underlying40 rP rfl rfl rfl rfl rfl rfl rfl ?_));intro gb bo;have fc:=Heap.bC (whole (cF [.slice N8 S.jq.length N9]) 26) bo;refine de ah rfl uW rfl rfl ?_;obtain⟨ti,ak,al⟩:=nX;refine aI (.inl ⟨rfl,rfl⟩) rfl rfl rfl ak al rfl rfl rfl (ab 1 rfl (ae [4,5] ?_));obtain⟨bQ,aN,aO⟩:=nX;refine aE ⟨.inr rfl,_,.agg rfl Tryz.underlying43 aN aO (.tmp rfl (.nil)),?_⟩;refine⟨rG.le.trans fc,_,0,rfl,hE,.inr ⟨rfl,⟨2,[],[],[S.jq],[]⟩,⟨_,_,_,_,_,_,_,_,rfl,nQ,nQ,?_,nQ⟩,.inr (.inl ⟨rfl,rfl,rfl,rfl,_,rfl,k5⟩)⟩⟩;exact⟨_,1,_,rfl,Nat.le_refl _,dE _ _ _ _ _ _,iE (P:=rF KX _) (vs:=[.slice N8 S.jq.length N9]) ⟨_,_,rfl,(C3.le (dz KX) (bt _ _)).le (dz KX) fc⟩ rfl⟩
   have h2:¬S.status=2:=by simpa using hb
   refine ag (ab 2 rfl (ae [1,2,4,7,10,26,27,28,54] ?_));refine aD rfl (fun hb=> ?_) (fun hb=> ?_)
   ·
    have h3:S.status=3:=by simpa using hb
    obtain⟨k1,k2,k3⟩:=kS.at3 h3;have vZ:=abB (st:=3) (ray:=S.ray) (p:=p) (os:=os) (vs:=a1) (ds:=a2) (x:=S.x) (by omega) (by omega) hI.UF k3.dd.meets k3.dd.len;refine bP (.pT [7]) [0,1,2,3,4,5,6,7,8,9] follows (by kernel_rfl) ?_;refine vr 5 ?_;obtain⟨ti,ak,al⟩:=p3;refine aI (.inr rfl) rfl rfl rfl ak al rfl rfl rfl (vr 1 ?_);obtain⟨ti,ak,al⟩:=Ge;refine aI (.inr rfl) rfl rfl rfl ak al rfl rfl rfl (vr 1 ?_);obtain⟨ti,ak,al⟩:=Ge;refine aI (.inr rfl) rfl rfl rfl ak al rfl rfl rfl (ae [4,7] ?_);refine ag (vr 1 ?_);obtain⟨ti,ak,al⟩:=nX;refine aI (.inl ⟨rfl,rfl⟩) rfl rfl rfl ak al rfl rfl rfl (ab 1 rfl (ae [4,5] ?_));obtain⟨bQ,aN,aO⟩:=nX;refine aE ⟨.inr rfl,_,.agg rfl Tryz.underlying43 aN aO (.tmp rfl (.nil)),?_⟩;exact⟨rG.le,_,0,rfl,hE,.inr ⟨rfl,⟨3,a1,S.x,a2,S.ray⟩,⟨_,_,_,_,_,_,_,_,rfl,((rG.one (dz KX) (nV KX)).1.sl (dz KX)),Al.le (dz KX) (bt _ _),((rG.one (dz KX) (nV KX)).2.le (nV KX) (bt _ _)),Ee.le (dz KX) (bt _ _)⟩,.inr (.inr ⟨rfl,by show a1.length<_;omega,vZ,o,UH,k3⟩)⟩⟩
   have h3:¬S.status=3:=by simpa using hb
   have h1:S.status=1:=by rcases kS with h9 | h9 | h9;exact h9.1;exact absurd h9.1 h2;exact absurd h9.1 h3
   obtain⟨k1,k2,k3⟩:=kS.Ls h1;have k3':bN p.free.length (fn o) (fn S.x)=S.value:=k3.symm
   have alY:uE (b8 p os a1) o S.value S.jq:=by have h9:=uE.of k2;rwa [←k3]at h9
   have UG:(b8 p os (a1 ++ [S.value])).lp.dY 1 (fn S.x):=abC (by omega) UH k2.dd.meets k3';have cP:S.x.length=p.free.length:=k2.dd.len
   have alZ:∃D,kP D (f0+(i+1)*E) (b8 p os (a1 ++ [S.value])):=by
    obtain⟨D',h9⟩:=hz.step (vs:=a1) (by omega) UI C2 J4 h1;exact⟨D',by rw[show f0+(i+1)*E=E+(f0+i*E) by rw[Nat.succ_mul i];omega];exact h9⟩
   have gV:=rG.pJ;refine aA (aj [1,2,4,7,10,26,27,28] rfl ?_);refine ag (vr 3 ?_);obtain⟨ti,ak,al⟩:=Ge;refine aI (.inr rfl) rfl rfl rfl ak al rfl rfl rfl (ae [1,2,4,7,10,26,27,28] ?_);refine ag (ab 4 rfl (cR Tryz.underlying26 bZ rfl rfl rfl rfl rfl rfl rfl ?_));intro gb bo;have UK:=gV.ins (dz KX) (nV KX) (whole (cF [.agg #[.bool f4,.slice B41 m41 e41,.slice B42 m42 e42]]) 31) bo;refine dK Tryz.underlying26 bZ rfl rfl UK.own (dE _ _ _ _ _ _) rfl (zM _ _ _ _ _ _ _) (by omega) (by omega) ?_;intro v6 H6 Mn;have fC:=UK.append (dz KX) (nV KX) (j:=[S.value]) (by simp) Mn (iE (P:=bR KX _) (vs:=[.bool f4,.slice B41 m41 e41,.slice B42 m42 e42]) (ct.le tM UK.base) rfl);obtain⟨D6,d6,rfl⟩:=fC.form;refine vr 1 ?_;obtain⟨ti,ak,al⟩:=Ge;refine aI (.inr rfl) rfl rfl rfl ak al rfl rfl rfl (ae [1,2,4,7,10,26,27,28] ?_);refine aC rfl (ab 4 rfl (cR Tryz.underlying40 rP rfl rfl rfl rfl rfl rfl rfl ?_));intro gc kg;have ya:=fC.ins (dz KX) (nV KX) (whole (cF [.slice N8 S.jq.length N9]) 26) kg;refine dK Tryz.underlying40 rP rfl rfl ya.vP (dE _ _ _ _ _ _) rfl (alJ KX _ _ S.jq ⟨_,_,rfl,C3⟩) (by omega) (by omega) ?_;intro v7 H7 qx
   have fW:=ya.ai3 (dz KX) (nV KX) (j:=[S.jq]) (by simp) qx (iE (P:=rF KX _) (vs:=[.slice N8 S.jq.length N9]) ⟨_,_,rfl,C3.le (dz KX) ya.base⟩ rfl);obtain⟨D7,d7,rfl⟩:=fW.aab;refine vr 1 ?_;obtain⟨ti,ak,al⟩:=Gf;refine aI (.inr rfl) rfl rfl rfl ak al rfl rfl rfl (az (aj [1,2,4,7,26,27,28] rfl ?_));refine aC rfl (aH rfl rfl ⟨by omega,by omega⟩ (ab 1 rfl (az ?_)));exact⟨i+1,(_,_,_),(_,_),(a1 ++ [S.value],a2 ++ [S.jq],S.x),by omega,au,⟨fW.down rG.base,⟨_,_,rfl,Al.le (dz KX) fW.base⟩,by simp[ig],by simp[hdl],by omega,ak4 (by omega) UH hI.UF alY,fun _=>⟨UG,cP⟩,alZ⟩⟩
  have hb:os.length≤i:=by simpa using hb
  obtain rfl:i=os.length:=by omega
  obtain⟨Bt,cP⟩:=hI.dd (by omega)
  simp only at Bt cP
  have vZ:=abB (st:=1) (ray:=[]) (p:=p) (os:=os) (vs:=a1) (ds:=a2) (x:=a3) (by omega) (by omega) hI.UF Bt cP;refine aW (aj [4,7] rfl ?_);refine ag (vr 1 ?_);obtain⟨ti,ak,al⟩:=p3;refine aI (.inr rfl) rfl rfl rfl ak al rfl rfl rfl (ae [4,7] ?_);refine ag (vr 1 ?_);obtain⟨ti,ak,al⟩:=nX;refine aI (.inl ⟨rfl,rfl⟩) rfl rfl rfl ak al rfl rfl rfl (ab 1 rfl (ae [4,5] ?_));obtain⟨bQ,aN,aO⟩:=nX;refine aE ⟨.inr rfl,_,.agg rfl Tryz.underlying43 aN aO (.tmp rfl (.nil)),?_⟩;exact⟨hG.le,_,0,rfl,hE,.inr ⟨rfl,⟨1,a1,a3,a2,[]⟩,⟨_,_,_,_,_,_,_,_,rfl,((hG.one (dz KX) (nV KX)).1.sl (dz KX)),hX.le (dz KX) (bt _ _),((hG.one (dz KX) (nV KX)).2.le (nV KX) (bt _ _)),nQ⟩,.inl ⟨rfl,ig,rfl,⟨bx,cP,((Ai (by omega)).1 Bt).1⟩,vZ⟩⟩⟩
end Go.aw
