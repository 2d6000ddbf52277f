/- LexicoExtends: ref22.canonicals, ref22.Extend, lexico.Extend and the law's walk. -/
import Derived.Test.YtfjncmjbhfdnpaaGreatA10
import Derived.Test.YtfjncmjbhfdnpaaGreatLw2
import Derived.Test.YtfjncmjbhfdnpaaGreatSame
set_option linter.unusedVariables false
namespace Go.ay
open Go.Proofs Num Lp
def Cn(p:Prg)(os:List (List Rat))(vs:List Rat)(e:Int):Prop:=(¬p.Ok∧e=1)∨(p.Ok∧¬((∀o,o∈os→o.length=p.free.length)∧vs.length≤os.length)∧e=21)∨(p.Ok∧((∀o,o∈os→o.length=p.free.length)∧vs.length≤os.length)∧800<p.rows.length+vs.length∧e=9)∨(p.Ok∧((∀o,o∈os→o.length=p.free.length)∧vs.length≤os.length)∧p.rows.length+vs.length≤800∧e=0)
theorem Vd{p:Prg}{os:List (List Rat)}{vs:List Rat}{e e':Int}(h:Cn p os vs e)(h':Cn p os vs e'):e=e':=by
 rcases h with ⟨h1,h2⟩ | ⟨h1,h2,h3⟩ | ⟨h1,h2,h3,h4⟩ | ⟨h1,h2,h3,h4⟩ <;> rcases h' with ⟨k1,k2⟩ | ⟨k1,k2,k3⟩ | ⟨k1,k2,k3,k4⟩ | ⟨k1,k2,k3,k4⟩ <;>
  first | omega | exact absurd k1 h1 | exact absurd h1 k1 | exact absurd k2 h2 | exact absurd h2 k2
def Ob(p:Prg)(os:List (List Rat))(vs:List Rat)(e:Int):Prg:=if e=0 then cg p os vs else⟨[],[]⟩
theorem JB(N:Nat)(H:Heap):cN N H (.agg #[.slice none 0 0,.slice none 0 0]) ⟨[],[]⟩:=⟨_,_,rfl,jB,jB⟩
def Oc(p:Prg)(os:List (List Rat))(vs:List Rat)(N:Nat)(H:Heap)(v:Value)(H':Heap):Prop:=Heap.le H H'∧∃(A1:Option Addr)(k1 c1:Nat)(A2:Option Addr)(k2 c2:Nat)(e:Int),v = .tuple #[.agg #[.slice A1 k1 c1,.slice A2 k2 c2],.int .i64 e]∧Cn p os vs e∧cN N H' (.agg #[.slice A1 k1 c1,.slice A2 k2 c2]) (Ob p os vs e)
theorem Oc.le{p:Prg}{os:List (List Rat)}{vs:List Rat}{N:Nat}{H:Heap}{v:Value}{H':Heap}(h:Oc p os vs N H v H'):Heap.le H H':=h.1
theorem Ve{H:Heap}{v:Value}{l:List Rat}{N:Nat}(h:aC (aS N) 3 H v l)(hl:l.length≤1000)(hN:(N:Int)≤1099511627776):
 Fn Tryz.prog 147 #[v] H (fun v' H'=>Heap.le H H'∧∃A c,v' = .slice A l.length c∧aC (aS (N+2)) 3 H' v' l):=by
 have hz:=h.ec
 obtain⟨A,c,xs,rfl,hc,hr,hx⟩:=id h;refine aU (args:=[_]) Tryz.func147 rfl rfl Tryz.ntmps147 rfl rfl fun w0=> ?_;refine ag [0] rfl ?_;refine ae ?_;refine vr 1 ?_;refine ab [0] ?_;refine ae ?_;refine vr 2 ?_;refine jS Tryz.underlying26 cM rfl rfl rfl (by omega) (by omega) (by omega) (by omega) ?_;intro g hg;have m9:=ad2 (P:=gI) (e:=31) (sz:=3) (zs:=[.bool false,.slice none 0 0,.slice none 0 0]) (z:=0) (k:=(l.length:Int)) (c:=l.length) hg rfl (by omega) (by unfold maxLen;omega);refine vr 1 ?_;refine ab [0,3] ?_;refine al ?_;refine ae ?_;refine vr 3 ?_;refine ab [0,3,9,10] ?_;refine aD ?_;refine jv (fun(i:Nat)(w:Value)(ys:List Value)=>l.length-i) (fun(i:Nat)(w:Value)(ys:List Value)=>put (put (put (put (emp) 0 (.val (.slice A l.length c))) 3 (.val (w))) 9 (.val (.int .i64 (l.length:Int)))) 10 (.val (.int .i64 (i:Int)))) (fun(i:Nat)(w:Value)(ys:List Value) H'=>eA gI 31 3 H H' w (l.take i) ys∧i≤l.length) 0 _ [] (⟨by simpa using m9,Nat.zero_le _⟩) au ?_;rintro i w ys H1 ⟨hG,hi⟩;obtain⟨W,cw,rfl⟩:=hG.form
 have kH:(l.take i).length=i:=by rw[List.length_take];omega
 refine ae ?_;refine vr 1 ?_;refine ab [0,3,9,10,11] ?_;refine al ?_;refine az rfl (fun hb=> ?_) (fun hb=> ?_)
 ·
  have mx:i<l.length:=by simpa using hb
  obtain⟨q,hq⟩:∃q,l[i]? = some q:=⟨_,List.getElem?_eq_getElem mx⟩;obtain⟨f1,A1,k1,c1,A2,k2,c2,fw,FY,ee⟩:=aC.jP hx hq;refine aw ?_;refine ag [0,3,9,10] rfl ?_;refine al ?_;refine aD ?_;refine ae ?_;refine vr 2 ?_;refine ab [0,3,4,9,10] ?_;refine aE rfl ?_;refine vr 3 ?_;refine cI (vs:=[.bool f1,.slice A1 k1 c1,.slice A2 k2 c2]) af rfl rfl rfl rfl (hr.le hG.le) rfl (by decide) ee (by omega) (by omega) fun _=> ?_;refine ar rfl rfl (hG.call (wF (FY.le hG.base) (by omega))) ?_;rintro _ H2 FZ;have zv:=hG.mm ix FZ fun _ _ h=>h.1;obtain⟨⟨_,bK⟩,_⟩:=FZ;obtain⟨f2,mf,JC,mg,Od,JD,Oe,rfl⟩:=bK.form;refine dM Tryz.underlying26 cM rfl rfl rfl rfl rfl rfl rfl ?_;intro gb bW;have uS:=zv.ins ix (whole (cT [.agg #[.bool f2,.slice mf JC mg,.slice Od JD Oe]]) 31) bW;refine eW Tryz.underlying26 cM rfl rfl uS.own (fu _ _ _ _ _ _) rfl (B7 _ _ _ _ _ _ _) (by rw[kH];omega) (by rw[kH];omega) ?_;intro v4 H4 Of;have tg:=uS.append ix (k:=[q]) (by simp) Of (jn (ix _ _ _ _ (r8 _ (Heap.bC _ bW)) (show gI _ [_,_,_] _ from bK)) rfl);refine vr 1 ?_;refine aA ?_;refine ag [0,3,9,10] rfl ?_;refine aE rfl ?_;refine aN rfl rfl ⟨by omega,by omega⟩ ?_;refine vr 1 ?_;refine aA ?_
  exact⟨i+1,_,_,by omega,au,by rw[Cc hq];exact tg,by omega⟩
 ·
  have hb:l.length≤i:=by simpa using hb
  obtain rfl:i=l.length:=by omega
  rw[List.take_length]at hG;rw[List.take_length];refine bB ?_;refine ag [3] rfl ?_;refine ae ?_;refine vr 2 ?_;refine ab [2] ?_;refine aq ⟨.inr rfl,_,.tmp rfl (.nil),?_⟩;exact⟨hG.le,_,_,rfl,(hG.sl ix).B8 hz⟩
theorem Vf{H:Heap}{v ov vv:Value}{p:Prg}{os:List (List Rat)}{vs:List Rat}{N:Nat}(hp:cN N H v p)(ho:gB N H ov os)(hv:aC (aS N) 3 H vv vs)(cH:os.length≤9223372036854775807)(iu:vs.length≤4611686018427387904)(hN:(N:Int)≤1099511627776):
 Fn Tryz.prog 74 #[v,ov,vv] H (Oc p os vs (N+2) H):=by
 obtain⟨fv,fG,rfl,cB,cF⟩:=id hp
 obtain⟨Af,cf,xf,rfl,ea,eH⟩:=cB.one
 obtain⟨Ar,cr,xr,rfl,fO,cL,du⟩:=id cF
 obtain⟨Ao,co,xo,rfl,jl,fI,jQ⟩:=id ho
 obtain⟨Av,cv,xv,rfl,uh,j6,wz⟩:=id hv;refine aU (args:=[_,_,_]) Tryz.func74 rfl rfl Tryz.ntmps74 rfl rfl fun w0=> ?_;refine ag [0,1,2] rfl ?_;refine ae ?_;refine bF rfl rfl ?_;refine bh lA rfl ?_;refine vr 1 ?_;refine ab [1,2,3,6] ?_;refine al ?_;refine ae ?_;refine vr 1 ?_;refine ar rfl rfl (Jh hp) ?_;rintro _ H1 ⟨e1,b1,rfl,di⟩;rw[e1];refine vr 1 ?_;refine ab [1,2,3,6,13] ?_;refine az rfl (fun hb=> ?_) (fun hb=> ?_)
 ·
  have gV:b1=false:=by simpa using hb
  subst gV;refine ae ?_;refine dW af rfl lA rfl rfl ?_;obtain⟨ti,aj,ak⟩:=jU;refine aG (.inl ⟨rfl,rfl⟩) rfl rfl rfl aj ak rfl rfl rfl ?_;refine vr 1 ?_;refine ab [6,7] ?_;obtain⟨bX,aK,aL⟩:=jU;refine aq ⟨.inr rfl,_,.agg rfl Tryz.underlying25 aK aL (.tmp rfl (.nil)),?_⟩;exact⟨.refl _,_,_,_,_,_,_,1,rfl,.inl ⟨fun h=>(by have h9:=di.2 h;cases h9),rfl⟩,JB _ _⟩
 ·
  have jK:b1=true:=by simpa using hb
  have aP:=di.1 jK;have iQ:=aP.rows;have dY:=aP.dR;refine aw ?_;refine ag [1,2,3,6] rfl ?_;refine al ?_;refine ae ?_;refine vr 2 ?_;refine ar rfl rfl (UK hp ho cH) ?_;rintro _ H2 ⟨e2,b2,rfl,aW⟩;rw[e2]
  cases b2
  ·
   skip
   refine vr 8 ?_;refine ab [1,2,3,6,25] ?_;refine cD rfl ?_;refine ae ?_;refine dW af rfl lA rfl rfl ?_;obtain⟨ti,aj,ak⟩:=jU;refine aG (.inl ⟨rfl,rfl⟩) rfl rfl rfl aj ak rfl rfl rfl ?_;refine vr 1 ?_;refine ab [6,7] ?_;obtain⟨bX,aK,aL⟩:=jU;refine aq ⟨.inr rfl,_,.agg rfl Tryz.underlying25 aK aL (.tmp rfl (.nil)),?_⟩;exact⟨.refl _,_,_,_,_,_,_,21,rfl,.inr (.inl ⟨aP,fun h=>(by have h9:=aW.2 h.1;cases h9),rfl⟩),JB _ _⟩
  ·
   skip
   refine vr 6 ?_
   by_cases tB:os.length<vs.length
   ·
    skip
    refine ax true rfl rfl (iG (by omega)) ?_;refine vr 1 ?_;refine ab [1,2,3,6,25] ?_;refine cD rfl ?_;refine ae ?_;refine dW af rfl lA rfl rfl ?_;obtain⟨ti,aj,ak⟩:=jU;refine aG (.inl ⟨rfl,rfl⟩) rfl rfl rfl aj ak rfl rfl rfl ?_;refine vr 1 ?_;refine ab [6,7] ?_;obtain⟨bX,aK,aL⟩:=jU;refine aq ⟨.inr rfl,_,.agg rfl Tryz.underlying25 aK aL (.tmp rfl (.nil)),?_⟩;exact⟨.refl _,_,_,_,_,_,_,21,rfl,.inr (.inl ⟨aP,fun h=>(by have h9:=h.2;omega),rfl⟩),JB _ _⟩
   ·
    have rG:=aW.1 rfl
    have zw:∀o,o∈os→o.length≤1000:=fun o h=>by have:=rG o h;omega
    refine ax false rfl rfl (fN (by omega)) ?_;refine vr 1 ?_;refine ab [1,2,3,6,25] ?_;refine dg rfl ?_;refine aw ?_;refine ag [1,2,3,6] rfl ?_;refine al ?_;refine ae ?_;refine vr 5 ?_;refine aN rfl rfl ⟨by omega,by omega⟩ ?_;refine vr 1 ?_;refine ab [1,2,3,6,33] ?_;refine az rfl (fun hb=> ?_) (fun hb=> ?_)
    ·
     have FQ:(800:Int)<(p.rows.length:Int)+(vs.length:Int):=by simpa using hb
     refine ae ?_;refine dW af rfl lA rfl rfl ?_;obtain⟨ti,aj,ak⟩:=jU;refine aG (.inl ⟨rfl,rfl⟩) rfl rfl rfl aj ak rfl rfl rfl ?_;refine vr 1 ?_;refine ab [6,7] ?_;obtain⟨bX,aK,aL⟩:=jU;refine aq ⟨.inr rfl,_,.agg rfl Tryz.underlying25 aK aL (.tmp rfl (.nil)),?_⟩;exact⟨.refl _,_,_,_,_,_,_,9,rfl,.inr (.inr (.inl ⟨aP,⟨rG,by omega⟩,by omega,rfl⟩)),JB _ _⟩
    ·
     have FQ:(p.rows.length:Int)+(vs.length:Int)≤800:=by simpa using hb
     have r7:∀r,r∈p.rows→r.1.length≤1000:=fun r hr=>by obtain⟨i,hi⟩:=List.getElem?_of_mem hr;have:=(aP.row i r hi).1;omega
     refine aw ?_;refine ag [1,2,3,6] rfl ?_;refine ae ?_;refine vr 2 ?_;refine Uj qt Uh (by decide) Tryz.underlying22 C1 rfl rfl (Cb H) (by rw[rC,gn];exact cB) (by rw[List.length_nil];omega) (by rw[List.length_nil];omega) ?_;intro v7 H7 y7 F3 _;rw[List.nil_append]at F3;have F4:=F3.le;have zx:=F3.sl qt;obtain⟨E1,d1,rfl⟩:=F3.form;clear F3;refine dW af rfl lA rfl rfl ?_;refine bh lA rfl ?_;obtain⟨ti,aj,ak⟩:=jU;refine aG (.inl ⟨rfl,rfl⟩) rfl rfl rfl aj ak rfl rfl rfl ?_;refine ab [1,2,3,6,8] ?_;refine al ?_;refine ae ?_;refine vr 4 ?_;refine ab [1,2,3,6,8,41,42] ?_;refine aD ?_;refine jv (fun(i:Nat)(w:Value)(ys:List Value)=>p.rows.length-i) (fun(i:Nat)(w:Value)(ys:List Value)=>put (put (put (put (put (put (put (emp) 1 (.val (.slice Ao os.length co))) 2 (.val (.slice Av vs.length cv))) 3 (.box [.slice Af p.free.length cf,.slice Ar p.rows.length cr])) 6 (.box [.slice none 0 0,.slice none 0 0])) 8 (.box [.slice E1 p.free.length d1,w])) 41 (.val (.int .i64 (p.rows.length:Int)))) 42 (.val (.int .i64 (i:Int)))) (fun(i:Nat)(w:Value)(ys:List Value) H'=>eA (eZ (N+2)) 78 5 H7 H' w (p.rows.take i) ys∧i≤p.rows.length) 0 (.slice none 0 0) [] (⟨Cb H7,Nat.zero_le _⟩) au ?_;rintro i w ys H2 ⟨hG,hi⟩;obtain⟨W,cw,rfl⟩:=hG.form
     have kH:(p.rows.take i).length=i:=by rw[List.length_take];omega
     have aW:=F4.trans hG.base;refine ae ?_;refine vr 1 ?_;refine ab [1,2,3,6,8,41,42,43] ?_;refine al ?_;refine az rfl (fun hb=> ?_) (fun hb=> ?_)
     ·
      have cQ:i<p.rows.length:=by simpa using hb
      obtain⟨r,hr⟩:∃r,p.rows[i]? = some r:=⟨_,List.getElem?_eq_getElem cQ⟩;have p6:=r7 r (List.mem_of_getElem? hr);obtain⟨A0,c0,f,A1,m1,c1,A2,m2,c2,eC,dS,eI,dL⟩:=aC.uL du hr;have Og:=eI.size;refine aw ?_;refine ag [1,2,3,6,8,41,42] rfl ?_;refine al ?_;refine aD ?_;refine ae ?_;refine vr 2 ?_;refine ab [1,2,3,6,8,9,41,42] ?_;refine eT .bn [0,1,2,3,4,5,6,7,9,10,11,12,13,14,15,16,17,18,19,20,8,21,22,23,24,25,26] follows (by kernel_rfl) ?_;refine vr 5 ?_;refine ml af rfl rfl rfl rfl rfl rfl rfl ((cL.le aW).le (bG _ _)) (dL 0 _ rfl) (by omega) (by omega) fun _ _=> ?_;refine vr 3 ?_;refine ml af rfl rfl rfl rfl rfl rfl rfl ((cL.le aW).le (bG _ _)) (dL 1 _ rfl) (by omega) (by omega) fun _ _=> ?_;refine vr 3 ?_;refine Je af rfl rfl rfl rfl rfl rfl ((cL.le aW).le (bG _ _)) rfl (by decide) (Jf dL) (by omega) (by omega) fun _ _=> ?_;refine aH rfl rfl (hG.call (Ve (dS.le (a8 N) aW) (by omega) (by omega))) (fun _ _ h=>h.le fun _ _ h=>h.1) ?_;rintro _ H5 iD;have ij:=hG.mm (gK (N+2)) iD fun _ _ h=>h.1;obtain⟨⟨_,A5,c5,rfl,uT⟩,_⟩:=iD;refine aH rfl rfl (ij.call (wF (eI.le (F4.trans ij.base)) (by omega))) (fun _ _ h=>h.le fun _ _ h=>h.1) ?_;rintro _ H6 mr;have iR:=ij.mm (gK (N+2)) mr fun _ _ h=>h.1
      obtain⟨⟨zy,kY⟩,_⟩:=mr;obtain⟨f6,mT,mU,mV,mW,mX,mY,rfl⟩:=kY.form;have uU:eZ (N+2) (rem H6 (aB (.slice W (p.rows.take i).length cw))) [.slice A5 r.1.length c5,.int .i64 r.2.1,.bool f6,.slice mT mU mV,.slice mW mX mY] r:=⟨_,_,_,_,rfl,uT.le (a8 (N+2)) zy,(cJ.raw kY).mono (by omega)⟩;refine dW af rfl gY rfl rfl ?_;refine dM Tryz.underlying23 gY rfl rfl rfl rfl rfl rfl rfl ?_;intro gd iW;have gW:=iR.ins (gK (N+2)) (whole (cT [.agg #[.slice A5 r.1.length c5,.int .i64 r.2.1,.bool f6,.slice mT mU mV,.slice mW mX mY]]) 78) iW;refine eW Tryz.underlying23 gY rfl rfl gW.own (fu _ _ _ _ _ _) rfl (FD _ _ _ _ _ _ _ _ _ _ _) (by rw[kH];omega) (by rw[kH];omega) ?_;intro v8 H8 qu;have iz:=gW.append (gK (N+2)) (k:=[r]) (by simp) qu (jn (gK (N+2) _ _ _ _ (r8 _ (Heap.bC _ iW)) uU) rfl);obtain⟨F8,g8,rfl⟩:=iz.form;refine vr 1 ?_;obtain⟨ti,aj,ak⟩:=C2;refine aG (.inr rfl) rfl rfl rfl aj ak rfl rfl rfl ?_;refine aA ?_;refine ag [1,2,3,6,8,41,42] rfl ?_;refine aE rfl ?_;refine aN rfl rfl ⟨by omega,by omega⟩ ?_;refine vr 1 ?_;refine aA ?_;exact⟨i+1,_,_,by omega,au,by rw[Cc hr];exact iz,by omega⟩
     ·
      have hb:p.rows.length≤i:=by simpa using hb
      obtain rfl:i=p.rows.length:=by omega
      rw[List.take_length]at hG;rw[List.take_length];refine bB ?_;refine ag [1,2,6,8] rfl ?_;refine al ?_;refine ae ?_;refine vr 3 ?_;refine ab [1,2,6,8,73,74] ?_;refine aD ?_;refine jv (fun(i:Nat)(w:Value)(zs:List Value)=>vs.length-i) (fun(i:Nat)(w:Value)(zs:List Value)=>put (put (put (put (put (put (emp) 1 (.val (.slice Ao os.length co))) 2 (.val (.slice Av vs.length cv))) 6 (.box [.slice none 0 0,.slice none 0 0])) 8 (.box [.slice E1 p.free.length d1,w])) 73 (.val (.int .i64 (vs.length:Int)))) 74 (.val (.int .i64 (i:Int)))) (fun(i:Nat)(w:Value)(zs:List Value) H'=>eA (eZ (N+2)) 78 5 H7 H' w (p.rows++((os.zip vs).map ZF).take i) zs∧i≤vs.length) 0 _ _ (⟨by rw[List.take_zero,List.append_nil];exact hG,Nat.zero_le _⟩) au ?_;rintro i w zs H3 ⟨hG,hi⟩;obtain⟨W,cw,rfl⟩:=hG.form
      have kH:(p.rows++((os.zip vs).map ZF).take i).length=p.rows.length+i:=by rw[List.length_append,List.length_take,List.length_map,List.length_zip];omega
      have aW:=F4.trans hG.base;refine ae ?_;refine vr 1 ?_;refine ab [1,2,6,8,73,74,75] ?_;refine al ?_;refine az rfl (fun hb=> ?_) (fun hb=> ?_)
      ·
       have zz:i<vs.length:=by simpa using hb
       obtain⟨q,hq⟩:∃q,vs[i]? = some q:=⟨_,List.getElem?_eq_getElem zz⟩;obtain⟨o,eR⟩:∃o,os[i]? = some o:=⟨_,List.getElem?_eq_getElem (by omega)⟩
       have hz:((os.zip vs).map ZF)[i]? = some (o,2,q):=by rw[List.getElem?_map,NR eR hq];rfl
       have ho5:=zw o (List.mem_of_getElem? eR);obtain⟨f1,B1,k1,e1,B2,k2,e2,eC,eI,gA⟩:=aC.jP wz hq;obtain⟨Bo,cb,gN,dS⟩:=nP jQ eR;have Og:=eI.size;refine aw ?_;refine ag [1,2,6,8,73,74] rfl ?_;refine al ?_;refine aD ?_;refine ae ?_;refine vr 2 ?_;refine ab [1,2,6,8,10,73,74] ?_;refine eT .bn [0,1,2,3,4,5,7,8,9,10,6,11,12,13,14,15,16] follows (by kernel_rfl) ?_;refine vr 4 ?_;refine a6 af rfl rfl rfl rfl rfl ((fI.le aW).le (bG _ _)) (by rw[Int.toNat_natCast];exact gN) (by omega) (by omega) fun _=> ?_;refine vr 2 ?_;refine cI (vs:=[.bool f1,.slice B1 k1 e1,.slice B2 k2 e2]) af rfl rfl rfl rfl ((j6.le aW).le (bG _ _)) rfl (by decide) gA (by omega) (by omega) fun _=> ?_;refine aH rfl rfl (hG.call (Ve (dS.le (a8 N) aW) (by omega) (by omega))) (fun _ _ h=>h.le fun _ _ h=>h.1) ?_;rintro _ H5 iD;have ij:=hG.mm (gK (N+2)) iD fun _ _ h=>h.1;obtain⟨⟨_,A5,c5,rfl,uT⟩,_⟩:=iD;refine aH rfl rfl (ij.call (wF (eI.le (F4.trans ij.base)) (by omega))) (fun _ _ h=>h.le fun _ _ h=>h.1) ?_;rintro _ H6 mr;have iR:=ij.mm (gK (N+2)) mr fun _ _ h=>h.1;obtain⟨⟨zy,kY⟩,_⟩:=mr;obtain⟨f6,mT,mU,mV,mW,mX,mY,rfl⟩:=kY.form;have uU:eZ (N+2) (rem H6 (aB (.slice W (p.rows++((os.zip vs).map ZF).take i).length cw))) [.slice A5 o.length c5,.int .i64 2,.bool f6,.slice mT mU mV,.slice mW mX mY] (o,2,q):=⟨_,_,_,_,rfl,uT.le (a8 (N+2)) zy,(cJ.raw kY).mono (by omega)⟩
       refine dW af rfl gY rfl rfl ?_;refine dM Tryz.underlying23 gY rfl rfl rfl rfl rfl rfl rfl ?_;intro gd iW;have gW:=iR.ins (gK (N+2)) (whole (cT [.agg #[.slice A5 o.length c5,.int .i64 2,.bool f6,.slice mT mU mV,.slice mW mX mY]]) 78) iW;refine eW Tryz.underlying23 gY rfl rfl gW.own (fu _ _ _ _ _ _) rfl (FD _ _ _ _ _ _ _ _ _ _ _) (by rw[kH];omega) (by rw[kH];omega) ?_;intro v8 H8 qu;have iz:=gW.append (gK (N+2)) (k:=[(o,2,q)]) (by simp) qu (jn (gK (N+2) _ _ _ _ (r8 _ (Heap.bC _ iW)) uU) rfl);obtain⟨F8,g8,rfl⟩:=iz.form;refine vr 1 ?_;obtain⟨ti,aj,ak⟩:=C2;refine aG (.inr rfl) rfl rfl rfl aj ak rfl rfl rfl ?_;refine aA ?_;refine ag [1,2,6,8,73,74] rfl ?_;refine aE rfl ?_;refine aN rfl rfl ⟨by omega,by omega⟩ ?_;refine vr 1 ?_;refine aA ?_;exact⟨i+1,_,_,by omega,au,by rw[Cc hz,←List.append_assoc];exact iz,by omega⟩
      ·
       have hb:vs.length≤i:=by simpa using hb
       obtain rfl:i=vs.length:=by omega
       have CT:((os.zip vs).map ZF).length=vs.length:=by rw[List.length_map,List.length_zip];omega
       have hR:=hG.sl (gK (N+2));have e9:((os.zip vs).map ZF).take vs.length=(os.zip vs).map ZF:=List.take_of_length_le (by omega);rw[e9]at hR⊢;refine bB ?_;refine ag [6,8] rfl ?_;refine ae ?_;refine vr 1 ?_;obtain⟨ti,aj,ak⟩:=jU;refine aG (.inl ⟨rfl,rfl⟩) rfl rfl rfl aj ak rfl rfl rfl ?_;refine vr 1 ?_;refine ab [6,7] ?_;obtain⟨bX,aK,aL⟩:=jU;refine aq ⟨.inr rfl,_,.agg rfl Tryz.underlying25 aK aL (.tmp rfl (.nil)),?_⟩;exact⟨F4.trans hG.le,_,_,_,_,_,_,0,rfl,.inr (.inr (.inr ⟨aP,⟨rG,by omega⟩,by omega,rfl⟩)),_,_,rfl,(zx.le qt hG.le),by rw[show (Ob p os vs 0).rows=p.rows++(os.zip vs).map ZF from rfl];exact hR⟩
end Go.ay
