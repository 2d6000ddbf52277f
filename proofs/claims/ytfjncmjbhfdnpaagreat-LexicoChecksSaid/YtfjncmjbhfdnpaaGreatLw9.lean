/- Walks over package lexico: levels, Check. -/
import Derived.Test.YtfjncmjbhfdnpaaGreatA10
import Derived.Test.YtfjncmjbhfdnpaaGreatLw8
import Derived.Test.YtfjncmjbhfdnpaaGreatSmp9
set_option linter.unusedVariables false
namespace Go.ay
open Go.Proofs Num Lp
theorem JG.rc3{c x:List Rat}{H H':Heap}{v:Value}(h:JG c x H v H'):Heap.le H H'∧∃(t:RC)(e:Int),v = .tuple #[t.v,.int .i64 e]∧((c.length≠x.length∧e=21∧t=⟨false,none,0,0,none,0,0⟩)∨(c.length=x.length∧e=0∧cJ H' t.v (aX c.length (fn c) (fn x)))):=by
 obtain⟨hl,s,e,rfl,h⟩:=h
 refine⟨hl,?_⟩
 rcases h with ⟨h1,rfl,rfl⟩ | ⟨h1,rfl,h2⟩
 ·exact⟨⟨false,none,0,0,none,0,0⟩,21,rfl,.inl ⟨h1,rfl,rfl⟩⟩
 ·obtain⟨t,rfl⟩:=h2.rc
  exact⟨t,0,rfl,.inr ⟨h1,rfl,h2⟩⟩
theorem Vj{H:Heap}{v ov sv:Value}{p:Prg}{os:List (List Rat)}{S:nN}{N:Nat}(hp:cN N H v p)(ho:gB N H ov os)(hS:nM N H sv S)(hf:te p os)(tB:S.values.length≤os.length)(qE:S.x.length≤1000000)(hN:N+2≤400000000):
 Fn Tryz.prog 89 #[v,ov,sv] H (fun v H'=>Heap.le H H'∧∃b,v = .bool b∧(b=true↔wZ p os S)):=by
 obtain⟨fv,fG,rfl,cB,cF⟩:=id hp
 obtain⟨Af,cf,xf,rfl,ea,eH⟩:=cB.one
 obtain⟨Ar,cr,xr,rfl,fO,cL,du⟩:=id cF
 obtain⟨Ao,co,xo,rfl,jl,fI,jQ⟩:=id ho
 obtain⟨A1,c1,A2,c2,A3,c3,A4,c4,rfl,fw,eL,jN,oE⟩:=id hS
 obtain⟨Oh,Cv,x1,e1,jo,kK,mD⟩:=id fw
 cases e1
 obtain⟨Js,Jt,x3,e3,mB,iY,ou⟩:=id jN
 cases e3
 have JE:=hf.tf
 have dY:=hf.ok.dR
 have iQ:=hf.ok.rows
 have ae1:=hf.rows
 have r7:∀r,r∈p.rows→r.1.length≤1000:=fun r hr=>by obtain⟨i,hi⟩:=List.getElem?_of_mem hr;have:=(hf.ok.row i r hi).1;omega
 have zw:∀o,o∈os→o.length≤1000:=fun o h=>by have:=hf.vec o h;omega
 refine aU (args:=[_,_,_]) Tryz.func89 rfl rfl Tryz.ntmps89 rfl rfl fun w0=> ?_;refine ag [0,1,2] rfl ?_;refine ae ?_;refine bF rfl rfl ?_;refine bF rfl rfl ?_;refine vr 1 ?_;refine ab [1,3,5] ?_;refine al ?_;refine ae ?_;refine vr 7 ?_;refine ab [1,3,5,17] ?_;refine az rfl (fun hb=> ?_) (fun hb=> ?_)
 ·
  have h1:¬S.cW.length=S.values.length:=by simpa [Int.natCast_inj]using hb
  refine ae ?_;refine vr 1 ?_;refine ab [6] ?_;refine aq ⟨.inr rfl,_,.tmp rfl (.nil),?_⟩;exact⟨.refl _,false,rfl,⟨(fun h=>by cases h),fun h=>absurd h.1 h1⟩⟩
 ·
  have h1:S.cW.length=S.values.length:=by simpa [Int.natCast_inj]using hb
  refine aw ?_;refine ag [1,3,5] rfl ?_;refine al ?_;refine ae ?_;refine vr 4 ?_;refine ab [1,3,5,19,20,21] ?_;refine aD ?_;refine ft (fun(i:Nat)=>S.values.length-i) (fun(i:Nat)=>put (put (put (put (put (put (emp) 1 (.val (.slice Ao os.length co))) 3 (.box [.slice Af p.free.length cf,.slice Ar p.rows.length cr])) 5 (.box [.int .i64 S.status,.slice A1 S.values.length c1,.slice A2 S.x.length c2,.slice A3 S.cW.length c3,.slice A4 S.ray.length c4])) 19 (.val (.slice A1 S.values.length c1))) 20 (.val (.int .i64 (S.values.length:Int)))) 21 (.val (.int .i64 (i:Int)))) (fun(i:Nat) H'=>Heap.le H H'∧i≤S.values.length∧∀(j:Nat)(o:List Rat)(v:Rat)(d:List Rat),j<i→os[j]? = some o→S.values[j]? = some v→S.cW[j]? = some d→sB (cg p os (S.values.take j)) o S.x d∧aX p.free.length (fn o) (fn S.x)=v) 0 (⟨.refl _,Nat.zero_le _,fun j o v d h=>by omega⟩) au ?_;rintro i H1 ⟨aI,hi,cO⟩;refine ae ?_;refine vr 1 ?_;refine ab [1,3,5,19,20,21,22] ?_;refine al ?_;refine az rfl (fun hb=> ?_) (fun hb=> ?_)
  ·
   have zz:i<S.values.length:=by simpa using hb
   obtain⟨q,hq⟩:∃q,S.values[i]? = some q:=⟨_,List.getElem?_eq_getElem zz⟩;obtain⟨o,eR⟩:∃o,os[i]? = some o:=⟨_,List.getElem?_eq_getElem (by omega)⟩;obtain⟨d,th⟩:∃d,S.cW[i]? = some d:=⟨_,List.getElem?_eq_getElem (by omega)⟩;obtain⟨f1,B1,k1,e1,B2,k2,e2,eC,eI,gA⟩:=aC.jP mD hq;obtain⟨Bo,cb,gN,dS⟩:=nP jQ eR;obtain⟨Bd,cd,jm,mq⟩:=nP ou th;have Co:=hf.vec o (List.mem_of_getElem? eR);refine aw ?_;refine ag [1,3,5,19,20,21] rfl ?_;refine al ?_;refine aD ?_;refine ae ?_;refine vr 1 ?_;refine cI (vs:=[.bool f1,.slice B1 k1 e1,.slice B2 k2 e2]) af rfl rfl rfl rfl (kK.le aI) rfl (by decide) gA (by omega) (by omega) fun _=> ?_;refine bh cM rfl ?_;refine vr 1 ?_;obtain⟨ti,aj,ak⟩:=bM;refine aG (.inl ⟨rfl,rfl⟩) rfl rfl rfl aj ak rfl rfl rfl ?_;refine ab [1,3,5,7,8,19,20,21] ?_;refine bL .bn [0,1,2,3,4,5,6,7,8,9,10,11,12] follows (by kernel_rfl) ?_;refine vr 2 ?_;refine a6 af rfl rfl rfl rfl rfl (fI.le aI) (by rw[Int.toNat_natCast];exact gN) (by omega) (by omega) fun _=> ?_;refine vr 2 ?_;refine aH rfl rfl ((ae2 (N:=N) (dS.le (a8 N) aI) (eL.le (a8 N) aI) (by omega) (by omega)).mono fun _ _ h=>JG.rc3 h) (fun _ _ h=>by first | exact h.le | exact h.1) ?_;rintro _ H2 ⟨aM,t2,e,rfl,fM⟩;have tj:=aI.trans aM
   refine vr 3 ?_;refine bh cM rfl ?_;obtain⟨ti,aj,ak⟩:=bM;refine aG (.inl ⟨rfl,rfl⟩) rfl rfl rfl aj ak rfl rfl rfl ?_;refine vr 1 ?_;refine ab [1,3,5,7,8,9,10,19,20,21] ?_;refine al ?_;obtain⟨bD,rfl,_⟩ | ⟨cj,rfl,bK⟩:=fM
   ·
    skip
    refine ae ?_;refine vr 1 ?_;refine ax true rfl rfl (kn (by decide)) ?_;refine vr 6 ?_;refine ab [1,3,5,7,19,20,21,43] ?_;refine cD rfl ?_;refine ae ?_;refine vr 1 ?_;refine ab [6] ?_;refine aq ⟨.inr rfl,_,.tmp rfl (.nil),?_⟩;exact⟨tj,false,rfl,⟨(fun h=>by cases h),fun h=>absurd (Co.trans (h.2.2 i o q d eR hq th).1.dB.len.symm) bD⟩⟩
   ·
    skip
    refine ae ?_;refine vr 1 ?_;refine ax false rfl rfl (ko rfl) ?_;refine vr 3 ?_;refine ar rfl rfl (ae3 (N:=900000000000) ((eI.mono (by omega)).le tj) ((cJ.raw bK).mono (FL (N:=N) dS.ec eL.ec (by omega) (by omega) (by omega))) (by decide)) ?_;rintro _ H3 ⟨a7,rfl⟩;have gM:=tj.trans a7;refine vr 2 ?_;refine ab [1,3,5,7,19,20,21,43] ?_;refine az rfl (fun hb=> ?_) (fun hb=> ?_)
    ·
     have bD:¬gQ q (aX o.length (fn o) (fn S.x))=0:=by simpa using hb
     refine ae ?_;refine vr 1 ?_;refine ab [6] ?_;refine aq ⟨.inr rfl,_,.tmp rfl (.nil),?_⟩;exact⟨gM,false,rfl,⟨(fun h=>by cases h),fun h=>absurd (Ca.2 (by rw[Co];exact(h.2.2 i o q d eR hq th).2.symm)) bD⟩⟩
    ·
     have h9:gQ q (aX o.length (fn o) (fn S.x))=0:=by simpa using hb
     have Dl:aX p.free.length (fn o) (fn S.x)=q:=by rw[Co]at h9;exact(Ca.1 h9).symm
     refine aw ?_;refine ag [1,3,5,7,19,20,21] rfl ?_;refine bL .bn [0,1,2,3,4,5,7,8,9,10,11,12,13,14,15,16,17,6,18,19] follows (by kernel_rfl) ?_;refine vr 5 ?_;refine pP af rfl rfl (.inl ⟨rfl,rfl⟩) (.inr ⟨_,_,rfl,rfl⟩) (by omega) (by omega) ?_;refine vr 2 ?_;refine a6 af rfl rfl rfl rfl rfl (fI.le gM) (by rw[Int.toNat_natCast];exact gN) (by omega) (by omega) fun _=> ?_;refine vr 5 ?_;refine a6 af rfl rfl rfl rfl rfl (iY.le gM) (by rw[Int.toNat_natCast];exact jm) (by omega) (by omega) fun _=> ?_;obtain⟨Au,cu,xu,eu,hcu,LS,heu⟩:=(fw.le (a8 N) gM).upto (k:=i) (by omega)
     have Vk:(S.values.take i).length=i-0:=by rw[List.length_take];omega
     rw[Vk]at eu
     simp only[Value.slice.injEq,true_and]at eu
     obtain⟨rfl,rfl⟩:=eu;have Vl:=Oi (cv:=c1-0) (gs:=[]) (fun q hq=>by cases hq) (by rw[gn];exact hp.le gM) (by rw[gn];exact ho.le (fX N) gM) LS (by rw[gn];exact heu) (by omega) dY iQ r7 zw (by omega) (by omega);rw[Vk]at Vl;refine aH rfl rfl Vl (fun _ _ h=>by have:=h.1.2;rw[gn,gn]at this;exact this) ?_;rintro _ H4 ⟨⟨_,bE⟩,Q1,g1,d1,Q2,g2,d2,rfl,bR⟩;rw[gn,gn]at bE;rw[gn]at bR;have uR:=gM.trans bE;refine aH rfl rfl (ae4 (N:=N+2) bR ((dS.le (a8 N) uR).mono fun _ _ h=>aS.mono h (by omega)) ((eL.le (a8 N) uR).mono fun _ _ h=>aS.mono h (by omega)) ((mq.le (a8 N) uR).mono fun _ _ h=>aS.mono h (by omega)) (by omega) hN) (fun _ _ h=>by first | exact h.le | exact h.1) ?_;rintro _ H6 ⟨fh,b5,rfl,nJ⟩;have Vm:=uR.trans fh;refine vr 1 ?_;refine ab [1,3,5,19,20,21,63] ?_;refine az rfl (fun hb=> ?_) (fun hb=> ?_)
     ·
      have gV:b5=false:=by simpa using hb
      refine ae ?_;refine vr 1 ?_;refine ab [6] ?_;refine aq ⟨.inr rfl,_,.tmp rfl (.nil),?_⟩;exact⟨Vm,false,rfl,⟨(fun h=>by cases h),fun h=>by rw[nJ.2 (h.2.2 i o q d eR hq th).1]at gV;cases gV⟩⟩
     ·
      have JF:=nJ.1 (by simpa using hb);refine aw ?_;refine ag [1,3,5,19,20,21] rfl ?_;refine aE rfl ?_;refine aN rfl rfl ⟨by omega,by omega⟩ ?_;refine vr 1 ?_;refine aA ?_;exact⟨i+1,by omega,au,Vm,by omega,fun j o9 v9 d9 hj k1 k2 k3=>by by_cases h9:j<i;exact cO j o9 v9 d9 h9 k1 k2 k3;(obtain rfl:j=i:=by omega);rw[eR]at k1;rw[hq]at k2;rw[th]at k3;cases k1;cases k2;cases k3;exact⟨JF,Dl⟩⟩
  ·
   have hb:S.values.length≤i:=by simpa using hb
   refine bB ?_;refine ag [] rfl ?_;refine ae ?_;refine vr 1 ?_;refine ab [6] ?_;refine aq ⟨.inr rfl,_,.tmp rfl (.nil),?_⟩;exact⟨aI,true,rfl,⟨fun _=>⟨by omega,by omega,fun j o v d k1 k2 k3=>cO j o v d (by have:=(List.getElem?_eq_some_iff.1 k2).1;omega) k1 k2 k3⟩,fun _=>rfl⟩⟩
theorem N5{H:Heap}{v ov sv:Value}{p:Prg}{os:List (List Rat)}{S:nN}{N:Nat}(hp:cN N H v p)(ho:gB N H ov os)(hS:nM N H sv S)(cH:os.length≤9223372036854775807)(qE:S.x.length≤1000000)(hN:N+2≤400000000):
 Fn Tryz.prog 29 #[v,ov,sv] H (fun v H'=>Heap.le H H'∧∃b,v = .bool b∧(b=true↔te p os∧uP p os S)):=by
 obtain⟨fv,fG,rfl,cB,cF⟩:=id hp
 obtain⟨Af,cf,xf,rfl,ea,eH⟩:=cB.one
 obtain⟨Ar,cr,xr,rfl,fO,cL,du⟩:=id cF
 obtain⟨Ao,co,xo,rfl,jl,fI,jQ⟩:=id ho
 obtain⟨A1,c1,A2,c2,A3,c3,A4,c4,rfl,fw,eL,jN,oE⟩:=id hS
 obtain⟨Oh,Cv,x1,e1,jo,kK,mD⟩:=id fw
 cases e1
 obtain⟨Js,Jt,x3,e3,mB,iY,ou⟩:=id jN
 cases e3
 refine aU (args:=[_,_,_]) Tryz.func29 rfl rfl Tryz.ntmps29 rfl rfl fun w0=> ?_;refine ag [0,1,2] rfl ?_;refine ae ?_;refine bF rfl rfl ?_;refine bF rfl rfl ?_;refine vr 1 ?_;refine ab [1,3,5] ?_;refine al ?_;refine ae ?_;refine vr 2 ?_;refine ar rfl rfl (Vn hp ho cH) ?_;rintro _ H1 ⟨e1,er,rfl,hE⟩;rw[e1];refine vr 1 ?_;refine ab [1,3,5,11] ?_;refine az rfl (fun hb=> ?_) (fun hb=> ?_)
 ·
  have zB:¬er=0:=by simpa using hb
  refine ae ?_;refine vr 1 ?_;refine ab [6] ?_;refine aq ⟨.inr rfl,_,.tmp rfl (.nil),?_⟩;exact⟨.refl _,false,rfl,⟨(fun h=>by cases h),fun h=>absurd (Jv hE (.inr (.inr (.inr ⟨h.1,rfl⟩)))) zB⟩⟩
 ·
  have zB:er=0:=by simpa using hb
  subst zB;have hf:=hE.Jw;have JE:=hf.tf;have dY:=hf.ok.dR;have iQ:=hf.ok.rows;have ae1:=hf.rows
  have r7:∀r,r∈p.rows→r.1.length≤1000:=fun r hr=>by obtain⟨i,hi⟩:=List.getElem?_of_mem hr;have:=(hf.ok.row i r hi).1;omega
  have zw:∀o,o∈os→o.length≤1000:=fun o h=>by have:=hf.vec o h;omega
  refine aw ?_;refine ag [1,3,5] rfl ?_;refine al ?_;refine ae ?_;refine vr 4 ?_;refine ab [1,3,5,7] ?_;refine ae ?_;refine vr 2 ?_;refine ab [1,3,5,7,16] ?_;refine aD ?_;refine ae ?_;refine vr 2 ?_;refine ab [1,3,5,7,16,17] ?_;refine az rfl (fun hb=> ?_) (fun hb=> ?_)
  ·
   have dH:S.status=1:=by simpa using hb
   by_cases h1:¬S.values.length=os.length
   ·
    skip
    refine ae ?_;refine vr 3 ?_;refine ax false rfl rfl (eN (by omega)) ?_;refine vr 19 ?_;refine ab [6] ?_;refine aq ⟨.inr rfl,_,.tmp rfl (.nil),?_⟩;exact⟨.refl _,false,rfl,⟨(fun h=>by cases h),fun h=>by obtain⟨_,h⟩:=h;rcases h with ⟨_,h9,_⟩ | ⟨h9,_⟩ | ⟨h9,_⟩ <;> omega⟩⟩
   ·
    skip
    refine ae ?_;refine vr 3 ?_;refine ax true rfl rfl (dz (by omega)) ?_;refine vr 4 ?_
    by_cases h2:¬S.ray.length=0
    ·
     skip
     refine ax false rfl rfl (eN (by omega)) ?_;refine vr 14 ?_;refine ab [6] ?_;refine aq ⟨.inr rfl,_,.tmp rfl (.nil),?_⟩;exact⟨.refl _,false,rfl,⟨(fun h=>by cases h),fun h=>by obtain⟨_,h⟩:=h;rcases h with ⟨_,_,h9,_⟩ | ⟨h9,_⟩ | ⟨h9,_⟩;(rw[h9]at h2;exact absurd rfl h2);omega;omega⟩⟩
    ·
     skip
     refine ax true rfl rfl (dz (by omega)) ?_;refine vr 5 ?_;refine ar rfl rfl (Oj hp eL (by omega) (by omega)) ?_;rintro _ H2 ⟨aM,b2,rfl,aW⟩
     cases b2
     ·
      skip
      refine vr 8 ?_;refine ab [6] ?_;refine aq ⟨.inr rfl,_,.tmp rfl (.nil),?_⟩;exact⟨aM,false,rfl,⟨(fun h=>by cases h),fun h=>by obtain⟨_,h⟩:=h;rcases h with ⟨_,_,_,h9,_⟩ | ⟨h9,_⟩ | ⟨h9,_⟩;exact aW.2 h9;omega;omega⟩⟩
     ·
      skip
      refine vr 5 ?_;refine ar rfl rfl (Vj (hp.le aM) (ho.le (fX N) aM) (hS.le aM) hf (by omega) qE hN) ?_;rintro _ H3 ⟨a7,b3,rfl,iL⟩;refine vr 2 ?_;refine ab [6] ?_;refine aq ⟨.inr rfl,_,.tmp rfl (.nil),?_⟩;exact⟨aM.trans a7,b3,rfl,⟨fun h=>⟨hf,.inl ⟨dH,by omega,List.length_eq_zero_iff.1 (by omega),aW.1 rfl,iL.1 h⟩⟩,fun h=>by obtain⟨_,h⟩:=h;rcases h with ⟨_,_,_,_,h9⟩ | ⟨h9,_⟩ | ⟨h9,_⟩;exact iL.2 h9;omega;omega⟩⟩
  ·
   have mu:¬S.status=1:=by simpa using hb
   refine ae ?_;refine vr 2 ?_;refine ab [1,3,5,7,16,41] ?_;refine az rfl (fun hb=> ?_) (fun hb=> ?_)
   ·
    have dH:S.status=2:=by simpa using hb
    by_cases h1:¬S.values.length=0
    ·
     skip
     refine bL .bn [0,1,2,3,4,5,6,7,8,9,10,11,12,13,14,15,16,17,18,19,20,21,22,23,24,25,26,27,28] follows (by kernel_rfl) ?_;refine vr 1 ?_;refine ax false rfl rfl (eN (by omega)) ?_;refine vr 27 ?_;refine ab [6] ?_;refine aq ⟨.inr rfl,_,.tmp rfl (.nil),?_⟩;exact⟨.refl _,false,rfl,⟨(fun h=>by cases h),fun h=>by obtain⟨_,h⟩:=h;rcases h with ⟨h9,_⟩ | ⟨_,h5,h6,h7,d,h8,_⟩ | ⟨h9,_⟩;exact absurd h9 mu;(exact(h1 (by rw[h5];rfl)).elim);omega⟩⟩
    ·
     skip
     by_cases h2:¬S.x.length=0
     ·
      skip
      refine bL .bn [0,1,2,3,4,5,6,7,8,9,10,11,12,13,14,15,16,17,18,19,20,21,22,23,24,25,26,27,28] follows (by kernel_rfl) ?_;refine vr 1 ?_;refine ax true rfl rfl (dz (by omega)) ?_;refine vr 4 ?_;refine ax false rfl rfl (eN (by omega)) ?_;refine vr 22 ?_;refine ab [6] ?_;refine aq ⟨.inr rfl,_,.tmp rfl (.nil),?_⟩;exact⟨.refl _,false,rfl,⟨(fun h=>by cases h),fun h=>by obtain⟨_,h⟩:=h;rcases h with ⟨h9,_⟩ | ⟨_,h5,h6,h7,d,h8,_⟩ | ⟨h9,_⟩;exact absurd h9 mu;(exact(h2 (by rw[h6];rfl)).elim);omega⟩⟩
     ·
      skip
      by_cases h3:¬S.ray.length=0
      ·
       skip
       refine bL .bn [0,1,2,3,4,5,6,7,8,9,10,11,12,13,14,15,16,17,18,19,20,21,22,23,24,25,26,27,28] follows (by kernel_rfl) ?_;refine vr 1 ?_;refine ax true rfl rfl (dz (by omega)) ?_;refine vr 4 ?_;refine ax true rfl rfl (dz (by omega)) ?_;refine vr 5 ?_;refine ax false rfl rfl (eN (by omega)) ?_;refine vr 16 ?_;refine ab [6] ?_;refine aq ⟨.inr rfl,_,.tmp rfl (.nil),?_⟩;exact⟨.refl _,false,rfl,⟨(fun h=>by cases h),fun h=>by obtain⟨_,h⟩:=h;rcases h with ⟨h9,_⟩ | ⟨_,h5,h6,h7,d,h8,_⟩ | ⟨h9,_⟩;exact absurd h9 mu;(exact(h3 (by rw[h7];rfl)).elim);omega⟩⟩
      ·
       skip
       by_cases h4:¬S.cW.length=1
       ·
        skip
        refine bL .bn [0,1,2,3,4,5,6,7,8,9,10,11,12,13,14,15,16,17,18,19,20,21,22,23,24,25,26,27,28] follows (by kernel_rfl) ?_;refine vr 1 ?_;refine ax true rfl rfl (dz (by omega)) ?_;refine vr 4 ?_;refine ax true rfl rfl (dz (by omega)) ?_;refine vr 5 ?_;refine ax true rfl rfl (dz (by omega)) ?_;refine vr 5 ?_;refine ax false rfl rfl (eN (by omega)) ?_;refine vr 10 ?_;refine ab [6] ?_;refine aq ⟨.inr rfl,_,.tmp rfl (.nil),?_⟩;exact⟨.refl _,false,rfl,⟨(fun h=>by cases h),fun h=>by obtain⟨_,h⟩:=h;rcases h with ⟨h9,_⟩ | ⟨_,h5,h6,h7,d,h8,_⟩ | ⟨h9,_⟩;exact absurd h9 mu;(exact(h4 (by rw[h8];rfl)).elim);omega⟩⟩
       ·
        obtain⟨d,hd⟩:∃d,S.cW = [d]:=by
         match F5:S.cW with
         | [d]=>exact⟨d,rfl⟩
         | []=>rw[F5]at h4;simp at h4
         | _::_::_=>rw[F5]at h4;simp at h4
        obtain⟨Bd,cd,jm,mq⟩:=nP ou (i:=0) (l:=d) (by rw[hd];rfl);refine bL .bn [0,1,2,3,4,5,6,7,8,9,10,11,12,13,14,15,16,17,18,19,20,21,22,23,24,25,26,27,28] follows (by kernel_rfl) ?_;refine vr 1 ?_;refine ax true rfl rfl (dz (by omega)) ?_;refine vr 4 ?_;refine ax true rfl rfl (dz (by omega)) ?_;refine vr 5 ?_;refine ax true rfl rfl (dz (by omega)) ?_;refine vr 5 ?_;refine ax true rfl rfl (dz (by omega)) ?_;refine vr 5 ?_;refine a6 af rfl rfl rfl rfl rfl (iY) (jm) (by omega) (by omega) fun _=> ?_;refine aH rfl rfl (ae5 hp mq (by omega)) (fun _ _ h=>by first | exact h.le | exact h.1) ?_;rintro _ H2 ⟨aM,b2,rfl,aW⟩;refine vr 2 ?_;refine ab [6] ?_;refine aq ⟨.inr rfl,_,.tmp rfl (.nil),?_⟩;exact⟨aM,b2,rfl,⟨fun h=>⟨hf,.inr (.inl ⟨dH,List.length_eq_zero_iff.1 (by omega),List.length_eq_zero_iff.1 (by omega),List.length_eq_zero_iff.1 (by omega),d,hd,aW.1 h⟩)⟩,fun h=>by obtain⟨_,h⟩:=h;rcases h with ⟨h9,_⟩ | ⟨_,_,_,_,d9,h8,h9⟩ | ⟨h9,_⟩;exact absurd h9 mu;(rw[hd]at h8;cases h8;exact aW.2 h9);omega⟩⟩
   ·
    have zC:¬S.status=2:=by simpa using hb
    refine ae ?_;refine vr 2 ?_;refine ab [1,3,5,7,71] ?_;refine az rfl (fun hb=> ?_) (fun hb=> ?_)
    ·
     have dH:S.status=3:=by simpa using hb
     by_cases h1:os.length≤S.values.length
     ·
      skip
      refine bL .bn [0,1,2,3,4,5,6,7,8,9,10,11,12,13,14,16,17,18,19,20,21,22,23,15,24,25,26] follows (by kernel_rfl) ?_;refine vr 3 ?_;refine ax false rfl rfl (jw (by omega)) ?_;refine vr 23 ?_;refine ab [6] ?_;refine aq ⟨.inr rfl,_,.tmp rfl (.nil),?_⟩;exact⟨.refl _,false,rfl,⟨(fun h=>by cases h),fun h=>by obtain⟨_,h⟩:=h;rcases h with ⟨h9,_⟩ | ⟨h9,_⟩ | ⟨_,h9,_⟩ <;> omega⟩⟩
     ·
      obtain⟨o,eR⟩:∃o,os[S.values.length]? = some o:=⟨_,List.getElem?_eq_getElem (by omega)⟩;obtain⟨Bo,cb,gN,dS⟩:=nP jQ eR;refine bL .bn [0,1,2,3,4,5,6,7,8,9,10,11,12,13,14,16,17,18,19,20,21,22,23,15,24,25,26] follows (by kernel_rfl) ?_;refine vr 3 ?_;refine ax true rfl rfl (mA (by omega)) ?_;refine vr 4 ?_;refine aH rfl rfl (Vj hp ho hS hf (by omega) qE hN) (fun _ _ h=>by first | exact h.le | exact h.1) ?_;rintro _ H2 ⟨aM,b2,rfl,aW⟩
      cases b2
      ·
       skip
       refine vr 18 ?_;refine ab [6] ?_;refine aq ⟨.inr rfl,_,.tmp rfl (.nil),?_⟩;exact⟨aM,false,rfl,⟨(fun h=>by cases h),fun h=>by obtain⟨_,h⟩:=h;rcases h with ⟨h9,_⟩ | ⟨h9,_⟩ | ⟨_,_,h9,_⟩;exact absurd h9 mu;exact absurd h9 zC;exact aW.2 h9⟩⟩
      ·
       skip
       have rI:=aW.1 rfl;refine vr 8 ?_;refine a6 af rfl rfl rfl rfl rfl (fI.le aM) (by rw[Int.toNat_natCast];exact gN) (by omega) (by omega) fun _=> ?_;refine vr 4 ?_;refine aH rfl rfl (Oi (gs:=[]) (fun q hq=>by cases hq) (by rw[gn];exact hp.le aM) (by rw[gn];exact ho.le (fX N) aM) (kK.le aM) (by rw[gn];exact mD.mono fun vs a=>a8 N _ _ vs a aM) (by omega) dY iQ r7 zw (by omega) (by omega)) (fun _ _ h=>by have:=h.1.2;rw[gn,gn]at this;exact this) ?_;rintro _ H3 ⟨⟨_,a7⟩,Q1,g1,d1,Q2,g2,d2,rfl,fe⟩;rw[gn,gn]at a7;rw[gn]at fe;have gM:=aM.trans a7;refine aH rfl rfl (ae6 (N:=N+2) fe ((dS.le (a8 N) gM).mono fun _ _ h=>aS.mono h (by omega)) ((eL.le (a8 N) gM).mono fun _ _ h=>aS.mono h (by omega)) ((oE.le (a8 N) gM).mono fun _ _ h=>aS.mono h (by omega)) (by omega) hN) (fun _ _ h=>by first | exact h.le | exact h.1) ?_;rintro _ H4 ⟨bE,b4,rfl,oH⟩;refine vr 2 ?_;refine ab [6] ?_;refine aq ⟨.inr rfl,_,.tmp rfl (.nil),?_⟩;exact⟨gM.trans bE,b4,rfl,⟨fun h=>⟨hf,.inr (.inr ⟨dH,by omega,rI,o,eR,oH.1 h⟩)⟩,fun h=>by obtain⟨_,h⟩:=h;rcases h with ⟨h9,_⟩ | ⟨h9,_⟩ | ⟨_,_,_,o9,k1,h9⟩;exact absurd h9 mu;exact absurd h9 zC;(rw[eR]at k1;cases k1;exact oH.2 h9)⟩⟩
    ·
     have Ed:¬S.status=3:=by simpa using hb
     refine aw ?_;refine ag [] rfl ?_;refine ae ?_;refine vr 1 ?_;refine ab [6] ?_;refine aq ⟨.inr rfl,_,.tmp rfl (.nil),?_⟩;exact⟨.refl _,false,rfl,⟨(fun h=>by cases h),fun h=>by obtain⟨_,h⟩:=h;rcases h with ⟨h9,_⟩ | ⟨h9,_⟩ | ⟨h9,_⟩;exact absurd h9 mu;exact absurd h9 zC;exact absurd h9 Ed⟩⟩
end Go.ay
