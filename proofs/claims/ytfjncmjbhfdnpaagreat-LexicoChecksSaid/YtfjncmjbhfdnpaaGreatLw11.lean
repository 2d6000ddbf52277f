/- LexicoChecks: which results are accepted. -/
import Derived.Test.YtfjncmjbhfdnpaaGreatA10
import Derived.Test.YtfjncmjbhfdnpaaGreatLw10
set_option linter.unusedVariables false
namespace Go.ay
open Go.Proofs Num Lp
theorem UX{p:Prg}{os:List (List Rat)}{S:nN}(h:wZ p os S):∀d,d∈S.cW→d.length≤p.rows.length+os.length:=fun d hd=>by
 obtain⟨i,hi⟩:=List.getElem?_of_mem hd
 have hl:=(List.getElem?_eq_some_iff.1 hi).1
 obtain⟨h1,h2,h3⟩:=h
 obtain⟨o,ho⟩:∃o,os[i]? = some o:=⟨_,List.getElem?_eq_getElem (by omega)⟩
 obtain⟨v,hv⟩:∃v,S.values[i]? = some v:=⟨_,List.getElem?_eq_getElem (by omega)⟩
 have h4:=(h3 i o v d ho hv hi).1.sC
 rw[uO (by rw[List.length_take];omega),List.length_take]at h4
 omega
theorem aeO{p:Prg}{os:List (List Rat)}{S:nN}(hk:uP p os S)(hn:p.free.length≤4)(hm:p.rows.length≤5)(ho:os.length≤4):(0≤S.status∧S.status≤3)∧S.values.length≤1000∧S.x.length≤1000∧S.cW.length≤1000∧∀d,d∈S.cW→d.length≤1000:=by
 rcases hk with ⟨h1,h2,h3,h4,h5⟩ | ⟨h1,h2,h3,h4,d,h5,h6⟩ | ⟨h1,h2,h3,o,h4,h5⟩
 ·have h6:=h4.len
  have h7:=h5.1
  exact⟨by omega,by omega,by omega,by omega,fun d hd=>by have:=UX h5 d hd;omega⟩
 ·have h7:=h6.sC
  rw[h2,h3,h5]
  exact⟨by omega,by simp,by simp,by simp,fun e he=>by rw[List.mem_singleton.1 he];omega⟩
 ·have h6:=h5.dB.len
  have h7:=h3.1
  exact⟨by omega,by omega,by have:(cg p os S.values).free=p.free:=rfl;rw[this]at h6;omega,by omega,fun d hd=>by have:=UX h3 d hd;omega⟩
theorem aen{H:Heap}{v ov sv bv:Value}{p:Prg}{os:List (List Rat)}{S:nN}{N:Nat}{q:Rat}{w a:Int}(hp:cN N H v p)(ho:gB N H ov os)(hS:nM N H sv S)(ni:bN H bv q N)(wq:0≤w)(fi:w≤255)(AN:0≤a)(oF:a≤255)(cH:os.length≤9223372036854775807):
 Fn Tryz.prog 7 #[v,ov,sv,.int .u8 w,.int .u8 a,bv] H (fun v H'=>Heap.le H H'∧v = .bool true):=by
 obtain⟨fv,fG,rfl,cB,cF⟩:=id hp
 obtain⟨Af,cf,xf,rfl,ea,eH⟩:=cB.one
 obtain⟨Ar,cr,xr,rfl,fO,cL,du⟩:=id cF
 obtain⟨Ao,co,xo,rfl,jl,fI,jQ⟩:=id ho
 obtain⟨A1,c1,A2,c2,A3,c3,A4,c4,rfl,fw,eL,jN,oE⟩:=id hS
 obtain⟨t,rfl⟩:∃t:RC,bv=t.v:=ni.UN
 obtain⟨Js,Jt,x3,e3,mB,iY,ou⟩:=id jN
 cases e3
 refine aU (args:=[_,_,_,_,_,_]) Tryz.func7 rfl rfl Tryz.ntmps7 rfl rfl fun w0=> ?_;refine ag [0,1,2,3,4,5] rfl ?_;refine ae ?_;refine bF rfl rfl ?_;refine bF rfl rfl ?_;refine bF rfl rfl ?_;refine vr 1 ?_;refine ab [1,3,4,6,8,11] ?_;refine al ?_;refine ae ?_;refine ar rfl rfl (aeP) ?_;rintro _ H1 ⟨aI,rfl⟩;refine vr 1 ?_;refine ab [1,3,4,6,8,11,17] ?_;refine dg rfl ?_;refine aw ?_;refine ag [1,3,4,6,8,11] rfl ?_;refine al ?_;refine ae ?_;refine vr 2 ?_;refine ar rfl rfl (aeH (hp.le aI) (ho.le (fX N) aI)) ?_;rintro _ H2 ⟨e2,b2,rfl,aW⟩;rw[e2];clear e2 H2
 cases b2
 ·
  skip
  refine vr 30 ?_;refine ab [1,3,4,6,8,11,50] ?_;refine cD rfl ?_;refine ae ?_;refine vr 1 ?_;refine ab [12] ?_;refine aq ⟨.inr rfl,_,.tmp rfl (.nil),?_⟩;exact⟨aI,rfl⟩
 ·
  skip
  refine vr 4 ?_;refine ar rfl rfl (FC (n:=6) (fw.le (a8 N) aI) (by omega)) ?_;rintro _ H2 ⟨e2,b3,rfl,iL⟩;rw[e2];clear e2 H2
  cases b3
  ·
   skip
   refine vr 25 ?_;refine ab [1,3,4,6,8,11,50] ?_;refine cD rfl ?_;refine ae ?_;refine vr 1 ?_;refine ab [12] ?_;refine aq ⟨.inr rfl,_,.tmp rfl (.nil),?_⟩;exact⟨aI,rfl⟩
  ·
   skip
   refine vr 5 ?_;refine ar rfl rfl (FC (n:=6) (eL.le (a8 N) aI) (by omega)) ?_;rintro _ H2 ⟨e2,b4,rfl,oH⟩;rw[e2];clear e2 H2
   cases b4
   ·
    skip
    refine vr 19 ?_;refine ab [1,3,4,6,8,11,50] ?_;refine cD rfl ?_;refine ae ?_;refine vr 1 ?_;refine ab [12] ?_;refine aq ⟨.inr rfl,_,.tmp rfl (.nil),?_⟩;exact⟨aI,rfl⟩
   ·
    skip
    refine vr 5 ?_;refine ar rfl rfl (T7 (m:=6) (n:=10) (iY.le aI) rfl (gB.UF (ou.mono fun vs a=>fX N _ _ vs a aI)) (by omega) (by omega)) ?_;rintro _ H2 ⟨e2,b5,rfl,nJ⟩;rw[e2];clear e2 H2
    cases b5
    ·
     skip
     refine vr 13 ?_;refine ab [1,3,4,6,8,11,50] ?_;refine cD rfl ?_;refine ae ?_;refine vr 1 ?_;refine ab [12] ?_;refine aq ⟨.inr rfl,_,.tmp rfl (.nil),?_⟩;exact⟨aI,rfl⟩
    ·
     skip
     refine vr 5 ?_;refine ar rfl rfl (FC (n:=6) (oE.le (a8 N) aI) (by omega)) ?_;rintro _ H2 ⟨e2,b6,rfl,L8⟩;rw[e2];clear e2 H2
     cases b6
     ·
      skip
      refine vr 7 ?_;refine ab [1,3,4,6,8,11,50] ?_;refine cD rfl ?_;refine ae ?_;refine vr 1 ?_;refine ab [12] ?_;refine aq ⟨.inr rfl,_,.tmp rfl (.nil),?_⟩;exact⟨aI,rfl⟩
     ·
      skip
      refine vr 4 ?_;refine ar rfl rfl (Nv) ?_;rintro _ H2 ⟨e2,rfl⟩;rw[e2];clear e2 H2;refine vr 2 ?_;refine ab [1,3,4,6,8,11,50] ?_;refine az rfl (fun hb=> ?_) (fun hb=> ?_)
      ·
       skip
       refine ae ?_;refine vr 1 ?_;refine ab [12] ?_;refine aq ⟨.inr rfl,_,.tmp rfl (.nil),?_⟩;exact⟨aI,rfl⟩
      ·
       have hz:t.m1≤2∧t.m2≤2:=by simpa using hb
       have hk:=aW rfl;obtain⟨l3,s3⟩:=iL rfl;obtain⟨l4,s4⟩:=oH rfl;obtain⟨s5,_,l5⟩:=nJ rfl;obtain⟨l6,s6⟩:=L8 rfl;have hlen:=hk.len;have UY:nM 2 H1 (.agg #[.int .i64 S.status,.slice A1 S.values.length c1,.slice A2 S.x.length c2,.slice A3 S.cW.length c3,.slice A4 S.ray.length c4]) S:=⟨_,_,_,_,_,_,_,_,rfl,s3,s4,⟨_,c3,x3,rfl,mB,iY.le aI,s5.ls⟩,s6⟩;have aeQ:bN H1 t.v q 2:=(ni.le aI).small hz.1 hz.2;refine aw ?_;refine ag [1,3,4,6,8,11] rfl ?_;refine al ?_;refine GC (put (put (put (put (put (put (emp) 1 (.val (.slice Ao os.length co))) 3 (.val (.int .u8 w))) 4 (.val (.int .u8 a))) 6 (.box [.slice Af p.free.length cf,.slice Ar p.rows.length cr])) 11 (.box [.bool t.f,.slice t.A1 t.m1 t.c1,.slice t.A2 t.m2 t.c2])) 59 (.val (.bool false))) (fun H'=>Heap.le H1 H') ?_ ?_
       ·
        refine eT .bn [0,1,2,4,5,6,3,7,8] follows (by kernel_rfl) ?_;refine vr 6 ?_;refine aH rfl rfl (N5 (N:=2) hk.qx.prog hk.obj UY cH (by omega) (by decide)) (fun _ _ h=>by first | exact h.le | exact h.1) ?_;rintro _ H6 ⟨fh,b7,rfl,hb7⟩;refine aH rfl rfl (UZ (N:=2) (hk.qx.prog.le fh) (hk.obj.le (fX 2) fh) (UY.le fh) cH (by decide)) (fun _ _ h=>by first | exact h.le | exact h.1) ?_;rintro _ H7 ⟨gw,b8,rfl,Ju⟩
        obtain rfl:b8=b7:=by rw[Bool.eq_iff_iff,Ju,hb7]
        cases b8
        ·
         skip
         refine zT Tryz.underlying4 rfl rfl ?_;refine aA ?_;exact⟨au,fh.trans gw⟩
        ·
         skip
         refine zT Tryz.underlying4 rfl rfl ?_;refine aA ?_;exact⟨au,fh.trans gw⟩
       ·
        rintro H3 a7;have gM:=aI.trans a7;refine dg rfl ?_;refine aw ?_;refine ag [1,3,4,6,11] rfl ?_;refine ae ?_;refine vr 2 ?_;refine ar rfl rfl (U0 (N:=2) (hk.qx.prog.le a7) (hk.obj.le (fX 2) a7) (by decide) (by omega) (fun hf=>hk.sz hf)) ?_;rintro _ H4 ⟨bE,s,e,rfl,hE,fM⟩
        obtain⟨T,⟨B1,d1,B2,d2,B3,d3,B4,d4,rfl,U3,gX,uy,ht4⟩,hT⟩:∃T,N6 H4 s T∧((e≠0∧T=⟨0,[],[],[],[]⟩)∨(e=0∧uP p os T)):=by
         rcases fM with ⟨h9,h8⟩ | ⟨h9,T,h8,h7⟩
         ·exact⟨⟨0,[],[],[],[]⟩,⟨_,_,_,_,_,_,_,_,h8,jB,jB,jB,jB⟩,.inl ⟨h9,rfl⟩⟩
         ·exact⟨T,h8,.inr ⟨h9,h7⟩⟩
        have U4:nM KX H4 (.agg #[.int .i64 T.status,.slice B1 T.values.length d1,.slice B2 T.x.length d2,.slice B3 T.cW.length d3,.slice B4 T.ray.length d4]) T:=⟨_,_,_,_,_,_,_,_,rfl,U3,gX,uy,ht4⟩;have qn:=a7.trans bE;have uR:=aI.trans qn;refine vr 3 ?_;refine bh pS rfl ?_;obtain⟨ti,aj,ak⟩:=kP;refine aG (.inl ⟨rfl,rfl⟩) rfl rfl rfl aj ak rfl rfl rfl ?_;refine vr 1 ?_;refine ab [1,3,4,6,11,13,14] ?_;refine al ?_;refine ae ?_;refine vr 2 ?_;refine ab [1,3,4,6,11,13,14,67] ?_;refine az rfl (fun hb=> ?_) (fun hb=> ?_)
        ·
         have bD:¬e=0:=by simpa using hb
         refine ae ?_;refine vr 2 ?_;refine ar rfl rfl (UL (hk.qx.prog.le qn) (hk.obj.le (fX 2) qn) cH) ?_;rintro _ H5 ⟨e5,e',rfl,hE'⟩;rw[e5];obtain rfl:=Jv hE hE';refine vr 1 ?_;refine ax true rfl rfl (dz rfl) ?_;refine vr 1 ?_;refine ab [12] ?_;refine aq ⟨.inr rfl,_,.tmp rfl (.nil),?_⟩;exact⟨uR,rfl⟩
        ·
         have heq:e=0:=by simpa using hb
         subst heq
         have kf:uP p os T:=by
          rcases hT with ⟨h9,_⟩ | ⟨_,h9⟩
          ·exact absurd rfl h9
          ·exact h9
         obtain⟨g1,g2,g3,g4,g5⟩:=aeO kf hk.qx.dR hk.qx.rows hlen;have hK:KX=200000000:=rfl;refine aw ?_;refine ag [1,3,4,6,11,13] rfl ?_;refine ae ?_;refine vr 4 ?_;refine ar rfl rfl (aeJ (N:=KX) U4 (aeQ.le qn) (by decide) wq fi AN oF g1 g2 g3 g4 g5 (by decide)) ?_;rintro _ H5 ⟨cA,U,⟨E1,f1,E2,f2,E3,f3,E4,f4,rfl,ep,eY,nA,qQ⟩,hux⟩;have hU:nM (KX+20) H5 (.agg #[.int .i64 U.status,.slice E1 U.values.length f1,.slice E2 U.x.length f2,.slice E3 U.cW.length f3,.slice E4 U.ray.length f4]) U:=⟨_,_,_,_,_,_,_,_,rfl,ep,eY,nA,qQ⟩;have qo:=qn.trans cA;refine bh pS rfl ?_;obtain⟨ti,aj,ak⟩:=kP;refine aG (.inl ⟨rfl,rfl⟩) rfl rfl rfl aj ak rfl rfl rfl ?_;refine ab [1,6,13,15] ?_;refine bL .bn [0,1,2,3,4,5,6,7,9,10,11,8,12,13,14,15] follows (okM [0,0,0,7,15,31,31,31,255,31,31,31,4095,8191,16383,32767] (by kernel_rfl)) ?_;refine vr 3 ?_;refine aH rfl rfl (N5 (N:=KX) ((hk.qx.prog.le qo).mono (by decide)) ((hk.obj.le (fX 2) qo).mono fun _ _ h=>jC.mono h (by decide)) (U4.le cA) cH (by omega) (by decide)) (fun _ _ h=>by first | exact h.le | exact h.1) ?_;rintro _ H6 ⟨fh,b9,rfl,Ck⟩;obtain rfl:b9=true:=Ck.2 ⟨hE.Jw,kf⟩;have Bw:=qo.trans fh;refine vr 7 ?_;refine aH rfl rfl (N5 (N:=KX+20) ((hk.qx.prog.le Bw).mono (by decide)) ((hk.obj.le (fX 2) Bw).mono fun _ _ h=>jC.mono h (by decide)) (hU.le fh) cH (by omega) (by decide)) (fun _ _ h=>by first | exact h.le | exact h.1) ?_
         rintro _ H7 ⟨gw,FU,rfl,RV⟩;have Jy:=Bw.trans gw;refine aH rfl rfl (UZ (N:=KX+20) ((hk.qx.prog.le Jy).mono (by decide)) ((hk.obj.le (fX 2) Jy).mono fun _ _ h=>jC.mono h (by decide)) (hU.le (fh.trans gw)) cH (by decide)) (fun _ _ h=>by first | exact h.le | exact h.1) ?_;rintro _ H8 ⟨jt,Jz,rfl,aeR⟩
         obtain rfl:Jz=FU:=by rw[Bool.eq_iff_iff,aeR,RV]
         cases Jz
         ·
          skip
          refine CN Tryz.underlying4 rfl rfl ?_;refine vr 2 ?_;refine ab [12] ?_;refine aq ⟨.inr rfl,_,.tmp rfl (.nil),?_⟩;exact⟨aI.trans (Jy.trans jt),rfl⟩
         ·
          skip
          refine CN Tryz.underlying4 rfl rfl ?_;refine vr 2 ?_;refine ab [12] ?_;refine aq ⟨.inr rfl,_,.tmp rfl (.nil),?_⟩;exact⟨aI.trans (Jy.trans jt),rfl⟩
end Go.ay
