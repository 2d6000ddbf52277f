/- Walks over package amortcostref22, part 1: Dot, Value, related, above, Feasible, signed, ColumnSum, BoundSum. -/
import Derived.Test.YtfjncmjbhfdnpaaGreatA10
import Derived.Test.YtfjncmjbhfdnpaaGreatVal2
set_option linter.unusedVariables false
namespace Go.ay
open Go.Proofs Num Lp
theorem FG{n s N:Nat}(hn:n≤1000)(hs:s≤N+2)(hN:N≤400000000){k:Nat}(hk:k≤n):((k*(2*s+1)+1:Nat):Int)≤900000000000:=by
 have h1:k*(2*s+1)≤1000*(2*s+1):=Nat.mul_le_mul_right _ (by omega)
 omega
theorem FH{H:Heap}{u v:Value}{l1 l2:List Rat}{N:Nat}(hu:aC (aS N) 3 H u l1)(hv:aC (aS N) 3 H v l2)(hl:l1.length=l2.length)(hn:l1.length≤1000)(hN:N≤400000000):
 Fn Tryz.prog 64 #[u,v] H (B9 H (aX l1.length (fn l1) (fn l2))):=by
 have h1:=hu.ec
 have h2:=hv.ec
 obtain⟨A,c,ys,rfl,hc,hr,gT⟩:=hu
 obtain⟨A',c',ys',rfl,jg,dd,Lu⟩:=hv
 have tV:=Bk (f:=fn l1) (g:=fn l2) (s:=N+2) (n:=l1.length) (fun k hk=>⟨sD h1 hk,sD h2 (by omega)⟩)
 rw[←hl];refine aU (args:=[_,_]) Tryz.func64 rfl rfl Tryz.ntmps64 rfl rfl fun w0=> ?_;refine ag [0,1] rfl ?_;refine ae ?_;refine bh cM rfl ?_;refine ab [0,1,4] ?_;refine ae ?_;refine ar rfl rfl ((yN (n:=0) (by decide) (by decide)).rc) ?_;rintro _ H1 ⟨aI,t1,rfl,cn⟩;rw[show ((0:Int):Rat)=0 from rfl]at cn;refine bh cM rfl ?_;obtain⟨ti,aj,ak⟩:=bM;refine aG (.inl ⟨rfl,rfl⟩) rfl rfl rfl aj ak rfl rfl rfl ?_;refine ab [0,1,4,5] ?_;refine al ?_;refine ae ?_;refine vr 1 ?_;refine ab [0,1,4,5,6] ?_;refine aD ?_;refine jT (fun(i:Nat)(t:RC)=>l1.length-i) (fun(i:Nat)(t:RC)=>put (put (put (put (put (emp) 0 (.val (.slice A l1.length c))) 1 (.val ((.slice A' l1.length c')))) 4 (.box [.bool false,.slice none 0 0,.slice none 0 0])) 5 (.box [.bool t.f,.slice t.A1 t.m1 t.c1,.slice t.A2 t.m2 t.c2])) 6 (.val (.int .i64 (i:Int)))) (fun(i:Nat)(t:RC) H'=>Heap.le H H'∧cJ H' t.v (aX i (fn l1) (fn l2))∧i≤l1.length) 0 t1 (⟨aI,cn,Nat.zero_le _⟩) au ?_;rintro i t H2 ⟨aM,bK,hi⟩;refine al ?_;refine ae ?_;refine vr 5 ?_;refine Ps rfl rfl ?_;rw[show (if ((l1.length:Nat):Int)<((l1.length:Nat):Int)then((l1.length:Nat):Int)else((l1.length:Nat):Int))=((l1.length:Nat):Int)from if_neg (by omega)];refine vr 1 ?_;refine ab [0,1,4,5,6,14] ?_
 refine az rfl (fun hb=> ?_) (fun hb=> ?_)
 ·
  have cQ:i<l1.length:=by simpa using hb
  obtain⟨q,dG⟩:∃q,l1[i]? = some q:=⟨_,List.getElem?_eq_getElem cQ⟩;obtain⟨q2,qZ⟩:∃q,l2[i]? = some q:=⟨_,List.getElem?_eq_getElem (by omega)⟩;obtain⟨g5,B1,k1,e1,B2,k2,e2,FI,oP,gA⟩:=aC.jP gT dG;obtain⟨g6,D1,n1,d1,D2,n2,d2,NI,s0,FJ⟩:=aC.jP Lu qZ;have jG:=gq dG;have kj:=gq qZ;have jI:=tV i hi;have iK:=FG (s:=N+2) hn (Nat.le_refl _) hN hi;have q6:=nx q q2;have Uk:=oP.size;have yT:=s0.size;refine aw ?_;refine ag [0,1,4,5,6] rfl ?_;refine al ?_;refine aD ?_;refine eT .bn [0,1,2,3,4,5,6,7,8,9,10,11] follows (by kernel_rfl) ?_;refine vr 3 ?_;refine cI (vs:=[.bool g5,.slice B1 k1 e1,.slice B2 k2 e2]) af rfl rfl rfl rfl (hr.le aM) rfl (by decide) gA (by omega) (by omega) fun _=> ?_;refine vr 2 ?_;refine cI (vs:=[.bool g6,.slice D1 n1 d1,.slice D2 n2 d2]) af rfl rfl rfl rfl (dd.le aM) rfl (by decide) FJ (by omega) (by omega) fun _=> ?_;refine aH rfl rfl ((L9 (oP.le aM) (s0.le aM) (by omega)).rc) (fun _ _ h=>by first | exact h.le | exact h.1) ?_;rintro _ H3 ⟨a7,t3,rfl,fe⟩;refine aH rfl rfl ((BA (N:=900000000000) (((cJ.raw bK).mono (by unfold aX;omega)).le a7) ((cJ.raw fe).mono (by omega)) (by decide)).rc) (fun _ _ h=>by first | exact h.le | exact h.1) ?_;rintro _ H4 ⟨bE,t4,rfl,bR⟩;rw[←jG,←kj,show aX i (fn l1) (fn l2)+fn l1 i*fn l2 i=aX (i+1) (fn l1) (fn l2)from rfl]at bR
  obtain⟨ti,aj,ak⟩:=bM;refine aG (.inl ⟨rfl,rfl⟩) rfl rfl rfl aj ak rfl rfl rfl ?_;refine aA ?_;refine ag [0,1,4,5,6] rfl ?_;refine aE rfl ?_;refine vr 1 ?_;refine aN rfl rfl ⟨by omega,by omega⟩ ?_;refine vr 1 ?_;refine aA ?_;exact⟨i+1,t4,by omega,au,aM.trans (a7.trans bE),bR,by omega⟩
 ·
  have hb:l1.length≤i:=by simpa using hb
  obtain rfl:i=l1.length:=by omega
  refine bB ?_;refine ag [4,5] rfl ?_;refine ae ?_;refine vr 1 ?_;obtain⟨ti,aj,ak⟩:=bM;refine aG (.inl ⟨rfl,rfl⟩) rfl rfl rfl aj ak rfl rfl rfl ?_;refine ab [4] ?_;obtain⟨bX,aK,aL⟩:=bM;refine aq ⟨.inr rfl,_,.agg rfl Tryz.underlying31 aK aL (.nil),?_⟩;exact⟨aM,t,rfl,bK⟩
theorem Ul{H:Heap}{a b:RC}{p q:Rat}{rel:Int}{N:Nat}(ha:bN H a.v p N)(hb:bN H b.v q N)(hN:(N:Int)≤1099511627776)(hr:rel=1∨rel=2∨rel=3):
 Fn Tryz.prog 165 #[a.v,.int .i64 rel,b.v] H (fun v H'=>Heap.le H H'∧∃r,v = .bool r∧(r=true↔kr rel (p-q))):=by
 refine aU (args:=[_,_,_]) Tryz.func165 rfl rfl Tryz.ntmps165 rfl rfl fun w0=> ?_;refine ag [0,1,2] rfl ?_;refine ae ?_;refine bF rfl rfl ?_;refine bF rfl rfl ?_;refine vr 1 ?_;refine ab [1,3,5] ?_;refine ae ?_;refine vr 2 ?_;refine ar rfl rfl (EA ha hb hN) ?_;rintro _ H1 ⟨aI,rfl⟩;refine vr 1 ?_;refine ab [1,7] ?_;refine al ?_;refine ae ?_;refine vr 1 ?_;refine ab [7,11] ?_;refine aD ?_;refine ae ?_;refine vr 2 ?_;refine ab [7,11,12] ?_;refine az rfl (fun hb=> ?_) (fun hb=> ?_)
 ·
  have h1:rel=1:=by simpa using hb
  refine ae ?_;refine vr 3 ?_;refine ab [6] ?_;refine aq ⟨.inr rfl,_,.tmp rfl (.nil),?_⟩;exact⟨aI,_,rfl,by subst h1;rw[decide_eq_true_iff,Ud];exact⟨fun h=>⟨fun _=>by grind,fun e=>by omega,fun e=>by omega⟩,fun h=>by have:=h.1 rfl;grind⟩⟩
 ·
  have h1:¬rel=1:=by simpa using hb
  refine ae ?_;refine vr 2 ?_;refine ab [7,16] ?_;refine az rfl (fun hb=> ?_) (fun hb=> ?_)
  ·
   have h2:rel=2:=by simpa using hb
   refine ae ?_;refine vr 3 ?_;refine ab [6] ?_;refine aq ⟨.inr rfl,_,.tmp rfl (.nil),?_⟩;exact⟨aI,_,rfl,by subst h2;rw[beq_iff_eq,Ca];exact⟨fun h=>⟨fun e=>by omega,fun _=>by grind,fun e=>by omega⟩,fun h=>by have:=h.2.1 rfl;grind⟩⟩
  ·
   have h2:¬rel=2:=by simpa using hb
   have h3:rel=3:=by omega
   refine aw ?_;refine ag [7] rfl ?_;refine ae ?_;refine vr 3 ?_;refine ab [6] ?_;refine aq ⟨.inr rfl,_,.tmp rfl (.nil),?_⟩;exact⟨aI,_,rfl,by subst h3;rw[decide_eq_true_iff,ge_iff_le,ND];exact⟨fun h=>⟨fun e=>by omega,fun e=>by omega,fun _=>by grind⟩,fun h=>by have:=h.2.2 rfl;grind⟩⟩
theorem Um{H:Heap}{v xv:Value}{p:Prg}{x:List Rat}{N:Nat}(hp:cN N H v p)(hx:aC (aS N) 3 H xv x)(hn:p.free.length≤1000)(cj:x.length=p.free.length)(hN:N≤400000000):
 Fn Tryz.prog 164 #[v,xv] H (fun v H'=>Heap.le H H'∧∃b,v = .bool b∧(b=true↔∀j,j<p.lp.n→p.lp.free j=false→0≤fn x j)):=by
 obtain⟨fv,fG,rfl,cB,cF⟩:=id hp
 obtain⟨Af,cf,xf,rfl,ea,eH⟩:=cB.one
 obtain⟨Ar,cr,xr,rfl,fO,cL,du⟩:=cF
 obtain⟨Ax,cx,xx,rfl,Jg,mR,mS⟩:=id hx
 have s7:=hx.ec;refine aU (args:=[_,_]) Tryz.func164 rfl rfl Tryz.ntmps164 rfl rfl fun w0=> ?_;refine ag [0,1] rfl ?_;refine ae ?_;refine bF rfl rfl ?_;refine vr 1 ?_;refine ab [1,2] ?_;refine al ?_;refine ae ?_;refine vr 4 ?_;refine ab [1,2,8,9] ?_;refine aD ?_;refine ft (fun(j:Nat)=>p.free.length-j) (fun(j:Nat)=>put (put (put (put (emp) 1 (.val (.slice Ax x.length cx))) 2 (.box [.slice Af p.free.length cf,.slice Ar p.rows.length cr])) 8 (.val (.int .i64 (p.free.length:Int)))) 9 (.val (.int .i64 (j:Int)))) (fun(j:Nat) H'=>Heap.le H H'∧(∀k,k<j→p.lp.free k=false→0≤fn x k)∧j≤p.free.length) 0 (⟨.refl _,(fun k h=>by omega),Nat.zero_le _⟩) au ?_;rintro j H1 ⟨aI,cO,hj⟩;refine ae ?_;refine vr 1 ?_;refine ab [1,2,8,9,10] ?_;refine al ?_;refine az rfl (fun hb=> ?_) (fun hb=> ?_)
 ·
  have mo:j<p.free.length:=by simpa using hb
  obtain⟨b,lY⟩:∃b,p.free[j]? = some b:=⟨_,List.getElem?_eq_getElem mo⟩;obtain⟨u,hu,s8⟩:=eH j b lY
  cases s8
  have fC:=Prg.yq lY;obtain⟨q,dG⟩:∃q,x[j]? = some q:=⟨_,List.getElem?_eq_getElem (by omega)⟩;obtain⟨g5,B1,k1,e1,B2,k2,e2,FI,oP,gA⟩:=aC.jP mS dG;have eO:=gq dG;refine aw ?_;refine ag [1,2,8,9] rfl ?_;refine al ?_;refine aD ?_;refine ae ?_;refine vr 2 ?_;refine ab [1,2,5,8,9] ?_;refine ae ?_;refine vr 3 ?_;refine a6 af rfl rfl rfl rfl rfl (ea.le aI) (by rw[Int.toNat_natCast];exact hu) (by omega) (by omega) fun _=> ?_
  cases b
  ·
   skip
   refine vr 4 ?_;refine cI (vs:=[.bool g5,.slice B1 k1 e1,.slice B2 k2 e2]) af rfl rfl rfl rfl (mR.le aI) rfl (by decide) gA (by omega) (by omega) fun _=> ?_;refine ar rfl rfl (Bz (oP.le aI) (by omega)) ?_;rintro _ H2 ⟨aM,rfl⟩;refine vr 2 ?_;refine ab [1,2,8,9,25] ?_;refine az rfl (fun hb=> ?_) (fun hb=> ?_)
   ·
    have bH:dF q<0:=by simpa using hb
    refine ae ?_;refine vr 1 ?_;refine ab [4] ?_;refine aq ⟨.inr rfl,_,.tmp rfl (.nil),?_⟩;exact⟨aI.trans aM,false,rfl,⟨(fun h=>by cases h),(fun h=>by have h9:=h j mo fC;rw[eO]at h9;have h8:=kV.2 h9;omega)⟩⟩
   ·
    have vy:0≤dF q:=by simpa using hb
    refine aw ?_;refine ag [1,2,8,9] rfl ?_;refine aE rfl ?_;refine aN rfl rfl ⟨by omega,by omega⟩ ?_;refine vr 1 ?_;refine aA ?_;exact⟨j+1,by omega,au,aI.trans aM,(fun k hk hf=>by by_cases h9:k<j;exact cO k h9 hf;(obtain rfl:k=j:=by omega);rw[eO];exact kV.1 vy),by omega⟩
  ·
   skip
   refine vr 9 ?_;refine ab [1,2,8,9,25] ?_;refine dg rfl ?_;refine aw ?_;refine ag [1,2,8,9] rfl ?_;refine aE rfl ?_;refine aN rfl rfl ⟨by omega,by omega⟩ ?_;refine vr 1 ?_;refine aA ?_;exact⟨j+1,by omega,au,aI,(fun k hk hf=>by by_cases h9:k<j;exact cO k h9 hf;(obtain rfl:k=j:=by omega);rw[fC]at hf;cases hf),by omega⟩
 ·
  have hb:p.free.length≤j:=by simpa using hb
  refine bB ?_;refine ag [] rfl ?_;refine ae ?_;refine vr 1 ?_;refine ab [4] ?_;refine aq ⟨.inr rfl,_,.tmp rfl (.nil),?_⟩;exact⟨aI,true,rfl,⟨(fun _ k hk=>cO k (Nat.lt_of_lt_of_le hk hb)),fun _=>rfl⟩⟩
theorem NJ{H:Heap}{v xv:Value}{p:Prg}{x:List Rat}{N:Nat}(hp:cN N H v p)(hx:aC (aS N) 3 H xv x)(hN:N≤400000000):
 Fn Tryz.prog 92 #[v,xv] H (fun v H'=>Heap.le H H'∧∃b,v = .bool b∧(b=true↔qW p x)):=by
 obtain⟨fv,fG,rfl,cB,cF⟩:=id hp
 obtain⟨Af,cf,xf,rfl,ea,eH⟩:=cB.one
 obtain⟨Ar,cr,xr,rfl,fO,cL,du⟩:=cF
 obtain⟨Ax,cx,xx,rfl,Jg,mR,mS⟩:=id hx
 have s7:=hx.ec;refine aU (args:=[_,_]) Tryz.func92 rfl rfl Tryz.ntmps92 rfl rfl fun w0=> ?_;refine ag [0,1] rfl ?_;refine ae ?_;refine bF rfl rfl ?_;refine vr 1 ?_;refine ab [1,2] ?_;refine al ?_;refine ae ?_;refine vr 1 ?_;refine ar rfl rfl (Jh hp) ?_;rintro _ H1 ⟨e1,b1,rfl,di⟩;rw[e1]
 cases b1
 ·
  skip
  refine vr 15 ?_;refine ab [1,2,22] ?_;refine cD rfl ?_;refine ae ?_;refine vr 1 ?_;refine ab [4] ?_;refine aq ⟨.inr rfl,_,.tmp rfl (.nil),?_⟩;exact⟨.refl _,false,rfl,⟨(fun h=>by cases h),(fun h=>by have h9:=di.2 h.ok;cases h9)⟩⟩
 ·
  skip
  refine vr 7 ?_
  by_cases cj:x.length=p.free.length
  ·
   skip
   have aP:=di.1 rfl;have dY:=aP.dR;have iQ:=aP.rows;refine ax false rfl rfl (ko (by omega)) ?_;refine vr 4 ?_;refine ar rfl rfl (Um hp hx (by omega) cj hN) ?_;rintro _ H2 ⟨aM,b2,rfl,aW⟩;refine vr 2 ?_;refine ab [1,2,22] ?_;refine az rfl (fun hb=> ?_) (fun hb=> ?_)
   ·
    have aeg:b2=false:=by simpa using hb
    subst aeg;refine ae ?_;refine vr 1 ?_;refine ab [4] ?_;refine aq ⟨.inr rfl,_,.tmp rfl (.nil),?_⟩;exact⟨aM,false,rfl,⟨(fun h=>by cases h),(fun h=>by have h9:=aW.2 h.meets.1;cases h9)⟩⟩
   ·
    have aeh:b2=true:=by simpa using hb
    subst aeh;refine aw ?_;refine ag [1,2] rfl ?_;refine al ?_;refine ae ?_;refine vr 4 ?_;refine ab [1,2,25,26] ?_;refine aD ?_;refine ft (fun(i:Nat)=>p.rows.length-i) (fun(i:Nat)=>put (put (put (put (emp) 1 (.val (.slice Ax x.length cx))) 2 (.box [.slice Af p.free.length cf,.slice Ar p.rows.length cr])) 25 (.val (.int .i64 (p.rows.length:Int)))) 26 (.val (.int .i64 (i:Int)))) (fun(i:Nat) H'=>Heap.le H H'∧(∀k,k<i→kr (p.lp.rel k) (aX p.lp.n (p.lp.a k) (fn x)-p.lp.b k*1))∧i≤p.rows.length) 0 (⟨aM,(fun k h=>by omega),Nat.zero_le _⟩) au ?_;rintro i H3 ⟨a7,cO,hi⟩;refine ae ?_;refine vr 1 ?_;refine ab [1,2,25,26,27] ?_;refine al ?_;refine az rfl (fun hb=> ?_) (fun hb=> ?_)
    ·
     have cQ:i<p.rows.length:=by simpa using hb
     obtain⟨r,hr⟩:∃r,p.rows[i]? = some r:=⟨_,List.getElem?_eq_getElem cQ⟩;obtain⟨A0,c0,f,A1,m1,c1,A2,m2,c2,eC,dS,eI,dL⟩:=aC.uL du hr;have lE:p.row i=r:=Prg.gu hr;have uj:=aP.row i r hr;have NK:r.1.length=p.free.length:=uj.1
     have iA:p.lp.rel i=r.2.1:=by show (p.row i).2.1=_;rw[lE]
     have FK:aX p.lp.n (p.lp.a i) (fn x)=aX r.1.length (fn r.1) (fn x):=by show aX p.free.length (fun j=>fn (p.row i).1 j) (fn x)=_;rw[lE,uj.1]
     have zo:p.lp.b i*1=r.2.2:=by rw[Rat.mul_one];show (p.row i).2.2=_;rw[lE]
     have jI:=sZ (M:=N+2) r.1.length (fn r.1) (fn x) (fun j hj=>dS.ec _ (lI hj)) (fun j hj=>s7 _ (lI (by omega)));have iK:r.1.length*(2*(N+2)+2)≤1000*(2*(N+2)+2):=Nat.mul_le_mul_right _ (by omega);refine aw ?_;refine ag [1,2,25,26] rfl ?_;refine al ?_;refine aD ?_;refine ae ?_;refine vr 2 ?_;refine ab [1,2,5,25,26] ?_;refine bL .bn [0,1,2,3,4,5,6,8,9,10,11,12,13,14,15,16,17,18,19,7,20,21] follows (by kernel_rfl) ?_;refine vr 3 ?_;refine ml af rfl rfl rfl rfl rfl rfl rfl (cL.le a7) (dL 0 _ rfl) (by omega) (by omega) fun _ _=> ?_;refine vr 4 ?_;refine ml af rfl rfl rfl rfl rfl rfl rfl (cL.le a7) (dL 1 _ rfl) (by omega) (by omega) fun _ _=> ?_;refine vr 3 ?_;refine Je af rfl rfl rfl rfl rfl rfl (cL.le a7) rfl (by decide) (Jf dL) (by omega) (by omega) fun _ _=> ?_;refine aH rfl rfl (FH (dS.le (a8 N) a7) (hx.le (a8 N) a7) (by omega) (by omega) hN) (fun _ _ h=>by first | exact h.le | exact h.1) ?_;rintro _ H4 ⟨bE,t4,rfl,bR⟩;refine aH rfl rfl (Ul (a:=t4) (b:=⟨f,A1,m1,c1,A2,m2,c2⟩) (N:=900000000000) ((cJ.raw bR).mono (by omega)) (((eI.mono (by omega)).le a7).le bE) (by decide) uj.2) (fun _ _ h=>by first | exact h.le | exact h.1) ?_;rintro _ H5 ⟨cA,b5,rfl,nJ⟩;refine vr 1 ?_;refine ab [1,2,25,26,50] ?_
     refine az rfl (fun hb=> ?_) (fun hb=> ?_)
     ·
      have gV:b5=false:=by simpa using hb
      subst gV;refine ae ?_;refine vr 1 ?_;refine ab [4] ?_;refine aq ⟨.inr rfl,_,.tmp rfl (.nil),?_⟩;exact⟨a7.trans (bE.trans cA),false,rfl,⟨(fun h=>by cases h),(fun h=>by have h9:=h.meets.2 i cQ;rw[iA,FK,zo]at h9;have h8:=nJ.2 h9;cases h8)⟩⟩
     ·
      have jK:b5=true:=by simpa using hb
      refine aw ?_;refine ag [1,2,25,26] rfl ?_;refine aE rfl ?_;refine aN rfl rfl ⟨by omega,by omega⟩ ?_;refine vr 1 ?_;refine aA ?_;exact⟨i+1,by omega,au,a7.trans (bE.trans cA),(fun k hk=>by by_cases h9:k<i;exact cO k h9;(obtain rfl:k=i:=by omega);rw[iA,FK,zo];exact nJ.1 jK),by omega⟩
    ·
     have hb:p.rows.length≤i:=by simpa using hb
     refine bB ?_;refine ag [] rfl ?_;refine ae ?_;refine vr 1 ?_;refine ab [4] ?_;refine aq ⟨.inr rfl,_,.tmp rfl (.nil),?_⟩;exact⟨a7,true,rfl,⟨(fun _=>⟨aP,cj,aW.1 rfl,fun k hk=>cO k (Nat.lt_of_lt_of_le hk hb)⟩),fun _=>rfl⟩⟩
  ·
   skip
   have aP:=di.1 rfl;have dY:=aP.dR;have iQ:=aP.rows;refine ax true rfl rfl (kn (by omega)) ?_;refine vr 7 ?_;refine ab [1,2,22] ?_;refine cD rfl ?_;refine ae ?_;refine vr 1 ?_;refine ab [4] ?_;refine aq ⟨.inr rfl,_,.tmp rfl (.nil),?_⟩;exact⟨.refl _,false,rfl,⟨(fun h=>by cases h),(fun h=>absurd h.len cj)⟩⟩
theorem Un{H:Heap}{v xv:Value}{p:Prg}{x:List Rat}{N:Nat}(hp:cN N H v p)(hx:aC (aS N) 3 H xv x)(hm:p.rows.length≤1000)(hN:N≤400000000):
 Fn Tryz.prog 167 #[v,xv] H (fun v H'=>Heap.le H H'∧∃b,v = .bool b∧(b=true↔x.length=p.rows.length∧p.lp.Signed (fn x))):=by
 obtain⟨fv,fG,rfl,cB,cF⟩:=id hp
 obtain⟨Af,cf,xf,rfl,ea,eH⟩:=cB.one
 obtain⟨Ar,cr,xr,rfl,fO,cL,du⟩:=cF
 obtain⟨Ax,cx,xx,rfl,Jg,mR,mS⟩:=id hx
 have s7:=hx.ec;refine aU (args:=[_,_]) Tryz.func167 rfl rfl Tryz.ntmps167 rfl rfl fun w0=> ?_;refine ag [0,1] rfl ?_;refine ae ?_;refine bF rfl rfl ?_;refine vr 1 ?_;refine ab [1,2] ?_;refine al ?_;refine ae ?_;refine vr 6 ?_;refine ab [1,2,12] ?_;refine az rfl (fun hb=> ?_) (fun hb=> ?_)
 ·
  have hb:¬x.length=p.rows.length:=by simpa [Int.natCast_inj]using hb
  refine ae ?_;refine vr 1 ?_;refine ab [4] ?_;refine aq ⟨.inr rfl,_,.tmp rfl (.nil),?_⟩;exact⟨.refl _,false,rfl,⟨(fun h=>by cases h),fun h=>absurd h.1 hb⟩⟩
 ·
  have cj:x.length=p.rows.length:=by simpa [Int.natCast_inj]using hb
  refine aw ?_;refine ag [1,2] rfl ?_;refine al ?_;refine ae ?_;refine vr 4 ?_;refine ab [1,2,15,16] ?_;refine aD ?_;refine ft (fun(i:Nat)=>p.rows.length-i) (fun(i:Nat)=>put (put (put (put (emp) 1 (.val (.slice Ax x.length cx))) 2 (.box [.slice Af p.free.length cf,.slice Ar p.rows.length cr])) 15 (.val (.int .i64 (p.rows.length:Int)))) 16 (.val (.int .i64 (i:Int)))) (fun(i:Nat) H'=>Heap.le H H'∧(∀k,k<i→(p.lp.rel k=3→0≤fn x k)∧(p.lp.rel k=1→fn x k≤0))∧i≤p.rows.length) 0 (⟨.refl _,(fun k h=>by omega),Nat.zero_le _⟩) au ?_;rintro i H1 ⟨aI,cO,hi⟩;refine ae ?_;refine vr 1 ?_;refine ab [1,2,15,16,17] ?_;refine al ?_;refine az rfl (fun hb=> ?_) (fun hb=> ?_)
  ·
   have cQ:i<p.rows.length:=by simpa using hb
   obtain⟨r,hr⟩:∃r,p.rows[i]? = some r:=⟨_,List.getElem?_eq_getElem cQ⟩;obtain⟨A0,c0,f,A1,m1,c1,A2,m2,c2,eC,dS,eI,dL⟩:=aC.uL du hr;have lE:p.row i=r:=Prg.gu hr;obtain⟨q,dG⟩:∃q,x[i]? = some q:=⟨_,List.getElem?_eq_getElem (by omega)⟩;obtain⟨g5,B1,k1,e1,B2,k2,e2,FI,oP,gA⟩:=aC.jP mS dG;have eO:=gq dG
   have iA:p.lp.rel i=r.2.1:=by show (p.row i).2.1=_;rw[lE]
   refine aw ?_;refine ag [1,2,15,16] rfl ?_;refine al ?_;refine aD ?_;refine ae ?_;refine vr 2 ?_;refine ab [1,2,5,15,16] ?_;refine ae ?_;refine vr 2 ?_;refine cI (vs:=[.bool g5,.slice B1 k1 e1,.slice B2 k2 e2]) af rfl rfl rfl rfl (mR.le aI) rfl (by decide) gA (by omega) (by omega) fun _=> ?_;refine ar rfl rfl (Bz (oP.le aI) (by omega)) ?_;rintro _ H2 ⟨aM,rfl⟩;refine vr 1 ?_;refine ab [1,2,5,6,15,16] ?_
   by_cases h3:r.2.1=3
   ·
    skip
    by_cases hs:dF q<0
    ·
     skip
     refine ae ?_;refine vr 3 ?_;refine ml af rfl rfl rfl rfl rfl rfl rfl (cL.le (aI.trans aM)) (dL 1 _ rfl) (by omega) (by omega) fun _ _=> ?_;refine ax true rfl rfl (dz h3) ?_;refine vr 2 ?_;refine ax true rfl rfl (mA hs) ?_;refine vr 14 ?_;refine ab [1,2,15,16,47] ?_;refine cD rfl ?_;refine ae ?_;refine vr 1 ?_;refine ab [4] ?_;refine aq ⟨.inr rfl,_,.tmp rfl (.nil),?_⟩;exact⟨aI.trans aM,false,rfl,⟨(fun h=>by cases h),(fun h=>by have h9:=(h.2 i cQ).1 (by omega);rw[eO]at h9;have h8:=kV.2 h9;omega)⟩⟩
    ·
     skip
     refine ae ?_;refine vr 3 ?_;refine ml af rfl rfl rfl rfl rfl rfl rfl (cL.le (aI.trans aM)) (dL 1 _ rfl) (by omega) (by omega) fun _ _=> ?_;refine ax true rfl rfl (dz h3) ?_;refine vr 2 ?_;refine ax false rfl rfl (jw (by omega)) ?_;refine vr 5 ?_;refine ml af rfl rfl rfl rfl rfl rfl rfl (cL.le (aI.trans aM)) (dL 1 _ rfl) (by omega) (by omega) fun _ _=> ?_;refine ax false rfl rfl (eN (by omega)) ?_;refine vr 5 ?_;refine ab [1,2,15,16,47] ?_;refine dg rfl ?_;refine aw ?_;refine ag [1,2,15,16] rfl ?_;refine aE rfl ?_;refine aN rfl rfl ⟨by omega,by omega⟩ ?_;refine vr 1 ?_;refine aA ?_;exact⟨i+1,by omega,au,aI.trans aM,(fun k hk=>by by_cases h9:k<i;exact cO k h9;(obtain rfl:k=i:=by omega);rw[iA,eO];exact⟨fun _=>kV.1 (by omega),fun e=>by omega⟩),by omega⟩
   ·
    skip
    by_cases h1:r.2.1=1
    ·
     skip
     by_cases hs:0<dF q
     ·
      skip
      refine ae ?_;refine vr 3 ?_;refine ml af rfl rfl rfl rfl rfl rfl rfl (cL.le (aI.trans aM)) (dL 1 _ rfl) (by omega) (by omega) fun _ _=> ?_;refine ax false rfl rfl (eN h3) ?_;refine vr 8 ?_;refine ml af rfl rfl rfl rfl rfl rfl rfl (cL.le (aI.trans aM)) (dL 1 _ rfl) (by omega) (by omega) fun _ _=> ?_;refine ax true rfl rfl (dz h1) ?_;refine vr 2 ?_;refine ax true rfl rfl (iG hs) ?_;refine vr 2 ?_;refine ab [1,2,15,16,47] ?_;refine cD rfl ?_;refine ae ?_;refine vr 1 ?_;refine ab [4] ?_;refine aq ⟨.inr rfl,_,.tmp rfl (.nil),?_⟩;exact⟨aI.trans aM,false,rfl,⟨(fun h=>by cases h),(fun h=>by have h9:=(h.2 i cQ).2 (by omega);rw[eO]at h9;have h8:=nC.2 h9;omega)⟩⟩
     ·
      skip
      refine ae ?_;refine vr 3 ?_;refine ml af rfl rfl rfl rfl rfl rfl rfl (cL.le (aI.trans aM)) (dL 1 _ rfl) (by omega) (by omega) fun _ _=> ?_;refine ax false rfl rfl (eN h3) ?_;refine vr 8 ?_;refine ml af rfl rfl rfl rfl rfl rfl rfl (cL.le (aI.trans aM)) (dL 1 _ rfl) (by omega) (by omega) fun _ _=> ?_;refine ax true rfl rfl (dz h1) ?_;refine vr 2 ?_;refine ax false rfl rfl (fN (by omega)) ?_;refine vr 2 ?_;refine ab [1,2,15,16,47] ?_;refine dg rfl ?_;refine aw ?_;refine ag [1,2,15,16] rfl ?_;refine aE rfl ?_;refine aN rfl rfl ⟨by omega,by omega⟩ ?_;refine vr 1 ?_;refine aA ?_;exact⟨i+1,by omega,au,aI.trans aM,(fun k hk=>by by_cases h9:k<i;exact cO k h9;(obtain rfl:k=i:=by omega);rw[iA,eO];exact⟨fun e=>by omega,fun _=>nC.1 (by omega)⟩),by omega⟩
    ·
     skip
     refine ae ?_;refine vr 3 ?_;refine ml af rfl rfl rfl rfl rfl rfl rfl (cL.le (aI.trans aM)) (dL 1 _ rfl) (by omega) (by omega) fun _ _=> ?_;refine ax false rfl rfl (eN h3) ?_;refine vr 8 ?_;refine ml af rfl rfl rfl rfl rfl rfl rfl (cL.le (aI.trans aM)) (dL 1 _ rfl) (by omega) (by omega) fun _ _=> ?_;refine ax false rfl rfl (eN h1) ?_;refine vr 5 ?_;refine ab [1,2,15,16,47] ?_;refine dg rfl ?_;refine aw ?_;refine ag [1,2,15,16] rfl ?_;refine aE rfl ?_;refine aN rfl rfl ⟨by omega,by omega⟩ ?_;refine vr 1 ?_;refine aA ?_;exact⟨i+1,by omega,au,aI.trans aM,(fun k hk=>by by_cases h9:k<i;exact cO k h9;(obtain rfl:k=i:=by omega);rw[iA,eO];exact⟨fun e=>by omega,fun e=>by omega⟩),by omega⟩
  ·
   have hb:p.rows.length≤i:=by simpa using hb
   refine bB ?_;refine ag [] rfl ?_;refine ae ?_;refine vr 1 ?_;refine ab [4] ?_;refine aq ⟨.inr rfl,_,.tmp rfl (.nil),?_⟩;exact⟨aI,true,rfl,⟨(fun _=>⟨cj,fun k hk=>cO k (Nat.lt_of_lt_of_le hk hb)⟩),fun _=>rfl⟩⟩
theorem Uo{H:Heap}{v xv:Value}{p:Prg}{x:List Rat}{N:Nat}(hp:cN N H v p)(hx:aC (aS N) 3 H xv x)(hm:p.rows.length≤1000)(cj:x.length=p.rows.length)(hN:N≤400000000):
 Fn Tryz.prog 169 #[v,xv] H (B9 H (p.lp.lZ (fn x))):=by
 obtain⟨fv,fG,rfl,cB,cF⟩:=id hp
 obtain⟨Af,cf,xf,rfl,ea,eH⟩:=cB.one
 obtain⟨Ar,cr,xr,rfl,fO,cL,du⟩:=cF
 obtain⟨Ax,cx,xx,rfl,Jg,mR,mS⟩:=id hx
 have s7:=hx.ec
 have s9:=hp.ec
 have tV:=Bk (f:=fn x) (g:=p.lp.b) (s:=N+2) (n:=p.rows.length) (fun k hk=>⟨sD s7 (by omega),by
  have h9:=s9 _ (List.getElem_mem hk)
  have h8:p.row k=p.rows[k]:=Prg.gu (List.getElem?_eq_getElem hk)
  show aJ (p.row k).2.2≤_;rw[h8];exact h9.2⟩)
 refine aU (args:=[_,_]) Tryz.func169 rfl rfl Tryz.ntmps169 rfl rfl fun w0=> ?_;refine ag [0,1] rfl ?_;refine ae ?_;refine bF rfl rfl ?_;refine bh cM rfl ?_;refine ab [1,2,4] ?_;refine ae ?_;refine ar rfl rfl ((yN (n:=0) (by decide) (by decide)).rc) ?_;rintro _ H1 ⟨aI,t1,rfl,cn⟩;rw[show ((0:Int):Rat)=0 from rfl]at cn;refine bh cM rfl ?_;obtain⟨ti,aj,ak⟩:=bM;refine aG (.inl ⟨rfl,rfl⟩) rfl rfl rfl aj ak rfl rfl rfl ?_;refine ab [1,2,4,5] ?_;refine al ?_;refine ae ?_;refine vr 4 ?_;refine ab [1,2,4,5,10,11] ?_;refine aD ?_;refine jT (fun(i:Nat)(t:RC)=>p.rows.length-i) (fun(i:Nat)(t:RC)=>put (put (put (put (put (put (emp) 1 (.val (.slice Ax x.length cx))) 2 (.box [.slice Af p.free.length cf,.slice Ar p.rows.length cr])) 4 (.box [.bool false,.slice none 0 0,.slice none 0 0])) 5 (.box [.bool t.f,.slice t.A1 t.m1 t.c1,.slice t.A2 t.m2 t.c2])) 10 (.val (.int .i64 (p.rows.length:Int)))) 11 (.val (.int .i64 (i:Int)))) (fun(i:Nat)(t:RC) H'=>Heap.le H H'∧cJ H' t.v (aV i (fun k=>fn x k*p.lp.b k))∧i≤p.rows.length) 0 t1 (⟨aI,cn,Nat.zero_le _⟩) au ?_;rintro i t H2 ⟨aM,bK,hi⟩;refine ae ?_;refine vr 1 ?_;refine ab [1,2,4,5,10,11,12] ?_;refine al ?_;refine az rfl (fun hb=> ?_) (fun hb=> ?_)
 ·
  have cQ:i<p.rows.length:=by simpa using hb
  obtain⟨r,hr⟩:∃r,p.rows[i]? = some r:=⟨_,List.getElem?_eq_getElem cQ⟩;obtain⟨A0,c0,f,A1,m1,c1,A2,m2,c2,eC,dS,eI,dL⟩:=aC.uL du hr;have lE:p.row i=r:=Prg.gu hr;obtain⟨q,dG⟩:∃q,x[i]? = some q:=⟨_,List.getElem?_eq_getElem (by omega)⟩;obtain⟨g5,B1,k1,e1,B2,k2,e2,FI,oP,gA⟩:=aC.jP mS dG;have eO:=gq dG
  have fC:p.lp.b i=r.2.2:=by show (p.row i).2.2=_;rw[lE]
  have jI:=tV i hi;have iK:=FG (s:=N+2) hm (Nat.le_refl _) hN hi;have q6:=nx q r.2.2;have Uk:=oP.size;have yT:=eI.size;refine aw ?_;refine ag [1,2,4,5,10,11] rfl ?_;refine al ?_;refine aD ?_;refine ae ?_;refine vr 2 ?_;refine ab [1,2,4,5,6,10,11] ?_;refine eT .bn [0,1,2,3,4,5,6,7,8,9,10,11,12,13] follows (by kernel_rfl) ?_;refine vr 3 ?_;refine cI (vs:=[.bool g5,.slice B1 k1 e1,.slice B2 k2 e2]) af rfl rfl rfl rfl (mR.le aM) rfl (by decide) gA (by omega) (by omega) fun _=> ?_;refine vr 3 ?_;refine Je af rfl rfl rfl rfl rfl rfl (cL.le aM) rfl (by decide) (Jf dL) (by omega) (by omega) fun _ _=> ?_;refine aH rfl rfl ((L9 (oP.le aM) (eI.le aM) (by omega)).rc) (fun _ _ h=>by first | exact h.le | exact h.1) ?_;rintro _ H3 ⟨a7,t3,rfl,fe⟩;refine aH rfl rfl ((BA (N:=900000000000) (((cJ.raw bK).mono (Nat.le_trans jI (by omega))).le a7) ((cJ.raw fe).mono (by omega)) (by decide)).rc) (fun _ _ h=>by first | exact h.le | exact h.1) ?_;rintro _ H4 ⟨bE,t4,rfl,bR⟩;rw[←eO,←fC,show aV i (fun k=>fn x k*p.lp.b k)+fn x i*p.lp.b i=aV (i+1) (fun k=>fn x k*p.lp.b k)from rfl]at bR;obtain⟨ti,aj,ak⟩:=bM;refine aG (.inl ⟨rfl,rfl⟩) rfl rfl rfl aj ak rfl rfl rfl ?_;refine aA ?_;refine ag [1,2,4,5,10,11] rfl ?_
  refine aE rfl ?_;refine aN rfl rfl ⟨by omega,by omega⟩ ?_;refine vr 1 ?_;refine aA ?_;exact⟨i+1,t4,by omega,au,aM.trans (a7.trans bE),bR,by omega⟩
 ·
  have hb:p.rows.length≤i:=by simpa using hb
  obtain rfl:i=p.rows.length:=by omega
  refine bB ?_;refine ag [4,5] rfl ?_;refine ae ?_;refine vr 1 ?_;obtain⟨ti,aj,ak⟩:=bM;refine aG (.inl ⟨rfl,rfl⟩) rfl rfl rfl aj ak rfl rfl rfl ?_;refine ab [4] ?_;obtain⟨bX,aK,aL⟩:=bM;refine aq ⟨.inr rfl,_,.agg rfl Tryz.underlying31 aK aL (.nil),?_⟩;exact⟨aM,t,rfl,bK⟩
theorem Uq{H:Heap}{v xv:Value}{p:Prg}{x:List Rat}{N:Nat}{j:Nat}(aP:p.Ok)(hj:j<p.free.length)(hp:cN N H v p)(hx:aC (aS N) 3 H xv x)(hm:p.rows.length≤1000)(cj:x.length=p.rows.length)(hN:N≤400000000):
 Fn Tryz.prog 168 #[v,xv,.int .i64 (j:Int)] H (B9 H (p.lp.dQ (fn x) j)):=by
 obtain⟨fv,fG,rfl,cB,cF⟩:=id hp
 obtain⟨Af,cf,xf,rfl,ea,eH⟩:=cB.one
 obtain⟨Ar,cr,xr,rfl,fO,cL,du⟩:=cF
 obtain⟨Ax,cx,xx,rfl,Jg,mR,mS⟩:=id hx
 have s7:=hx.ec
 have s9:=hp.ec
 have tV:=Bk (f:=fn x) (g:=(fun k=>p.lp.a k j)) (s:=N+2) (n:=p.rows.length) (fun k hk=>⟨sD s7 (by omega),by
  have h9:=s9 _ (List.getElem_mem hk)
  have h8:p.row k=p.rows[k]:=Prg.gu (List.getElem?_eq_getElem hk)
  show aJ (fn (p.row k).1 j)≤_;rw[h8];exact sD h9.1 (by have h7:=(aP.row k _ (List.getElem?_eq_getElem hk)).1;omega)⟩)
 refine aU (args:=[_,_,_]) Tryz.func168 rfl rfl Tryz.ntmps168 rfl rfl fun w0=> ?_;refine ag [0,1,2] rfl ?_;refine ae ?_;refine bF rfl rfl ?_;refine bh cM rfl ?_;refine ab [1,2,3,6] ?_;refine ae ?_;refine ar rfl rfl ((yN (n:=0) (by decide) (by decide)).rc) ?_;rintro _ H1 ⟨aI,t1,rfl,cn⟩;rw[show ((0:Int):Rat)=0 from rfl]at cn;refine bh cM rfl ?_;obtain⟨ti,aj,ak⟩:=bM;refine aG (.inl ⟨rfl,rfl⟩) rfl rfl rfl aj ak rfl rfl rfl ?_;refine ab [1,2,3,6,7] ?_;refine al ?_;refine ae ?_;refine vr 4 ?_;refine ab [1,2,3,6,7,12,13] ?_;refine aD ?_;refine jT (fun(i:Nat)(t:RC)=>p.rows.length-i) (fun(i:Nat)(t:RC)=>put (put (put (put (put (put (put (emp) 1 (.val (.slice Ax x.length cx))) 2 (.val (.int .i64 (j:Int)))) 3 (.box [.slice Af p.free.length cf,.slice Ar p.rows.length cr])) 6 (.box [.bool false,.slice none 0 0,.slice none 0 0])) 7 (.box [.bool t.f,.slice t.A1 t.m1 t.c1,.slice t.A2 t.m2 t.c2])) 12 (.val (.int .i64 (p.rows.length:Int)))) 13 (.val (.int .i64 (i:Int)))) (fun(i:Nat)(t:RC) H'=>Heap.le H H'∧cJ H' t.v (aV i (fun k=>fn x k*(fun k=>p.lp.a k j) k))∧i≤p.rows.length) 0 t1 (⟨aI,cn,Nat.zero_le _⟩) au ?_;rintro i t H2 ⟨aM,bK,hi⟩;refine ae ?_;refine vr 1 ?_;refine ab [1,2,3,6,7,12,13,14] ?_;refine al ?_;refine az rfl (fun hb=> ?_) (fun hb=> ?_)
 ·
  have cQ:i<p.rows.length:=by simpa using hb
  obtain⟨r,hr⟩:∃r,p.rows[i]? = some r:=⟨_,List.getElem?_eq_getElem cQ⟩;obtain⟨A0,c0,f,A1,m1,c1,A2,m2,c2,eC,dS,eI,dL⟩:=aC.uL du hr;have lE:p.row i=r:=Prg.gu hr;obtain⟨q,dG⟩:∃q,x[i]? = some q:=⟨_,List.getElem?_eq_getElem (by omega)⟩;obtain⟨g5,B1,k1,e1,B2,k2,e2,FI,oP,gA⟩:=aC.jP mS dG;have eO:=gq dG;have NK:r.1.length=p.free.length:=(aP.row i r hr).1;have dY:=aP.dR;obtain⟨q2,qZ⟩:∃q,r.1[j]? = some q:=⟨_,List.getElem?_eq_getElem (by omega)⟩
  have fC:(fun k=>p.lp.a k j) i=q2:=by show fn (p.row i).1 j=_;rw[lE];exact gq qZ
  obtain⟨NL,NM,x0,e0,pb,oV,Ag⟩:=id dS
  cases e0
  obtain⟨g6,D1,n1,d1,D2,n2,d2,NI,s0,FJ⟩:=aC.jP Ag qZ;have jI:=tV i hi;have iK:=FG (s:=N+2) hm (Nat.le_refl _) hN hi;have q6:=nx q q2;have Uk:=oP.size;have yT:=s0.size;refine aw ?_;refine ag [1,2,3,6,7,12,13] rfl ?_;refine al ?_;refine aD ?_;refine ae ?_;refine vr 2 ?_;refine ab [1,2,3,6,7,8,12,13] ?_;refine eT .bn [0,1,2,3,4,5,6,7,8,9,10,11,12,13,14,15,16] follows (by kernel_rfl) ?_;refine vr 3 ?_;refine cI (vs:=[.bool g5,.slice B1 k1 e1,.slice B2 k2 e2]) af rfl rfl rfl rfl (mR.le aM) rfl (by decide) gA (by omega) (by omega) fun _=> ?_;refine vr 3 ?_;refine ml af rfl rfl rfl rfl rfl rfl rfl (cL.le aM) (dL 0 _ rfl) (by omega) (by omega) fun _ _=> ?_;refine vr 1 ?_;refine cI (vs:=[.bool g6,.slice D1 n1 d1,.slice D2 n2 d2]) af rfl rfl rfl rfl (oV.le aM) rfl (by decide) FJ (by omega) (by omega) fun _=> ?_;refine aH rfl rfl ((L9 (oP.le aM) (s0.le aM) (by omega)).rc) (fun _ _ h=>by first | exact h.le | exact h.1) ?_;rintro _ H3 ⟨a7,t3,rfl,fe⟩;refine aH rfl rfl ((BA (N:=900000000000) (((cJ.raw bK).mono (Nat.le_trans jI (by omega))).le a7) ((cJ.raw fe).mono (by omega)) (by decide)).rc) (fun _ _ h=>by first | exact h.le | exact h.1) ?_;rintro _ H4 ⟨bE,t4,rfl,bR⟩;rw[←eO,←fC,show aV i (fun k=>fn x k*(fun k=>p.lp.a k j) k)+fn x i*(fun k=>p.lp.a k j) i=aV (i+1) (fun k=>fn x k*(fun k=>p.lp.a k j) k)from rfl]at bR
  obtain⟨ti,aj,ak⟩:=bM;refine aG (.inl ⟨rfl,rfl⟩) rfl rfl rfl aj ak rfl rfl rfl ?_;refine aA ?_;refine ag [1,2,3,6,7,12,13] rfl ?_;refine aE rfl ?_;refine aN rfl rfl ⟨by omega,by omega⟩ ?_;refine vr 1 ?_;refine aA ?_;exact⟨i+1,t4,by omega,au,aM.trans (a7.trans bE),bR,by omega⟩
 ·
  have hb:p.rows.length≤i:=by simpa using hb
  obtain rfl:i=p.rows.length:=by omega
  refine bB ?_;refine ag [6,7] rfl ?_;refine ae ?_;refine vr 1 ?_;obtain⟨ti,aj,ak⟩:=bM;refine aG (.inl ⟨rfl,rfl⟩) rfl rfl rfl aj ak rfl rfl rfl ?_;refine ab [6] ?_;obtain⟨bX,aK,aL⟩:=bM;refine aq ⟨.inr rfl,_,.agg rfl Tryz.underlying31 aK aL (.nil),?_⟩;exact⟨aM,t,rfl,bK⟩
end Go.ay
