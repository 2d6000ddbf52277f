/- Part 17 of the proof: Tr3, Te. -/
import Derived.Test.YtdjoookebbbjkaaGreatA16
set_option linter.unusedVariables false
namespace Go.aq
open Go.Proofs Num Lp
theorem amz{fs:List aJ}{g:aJ}{b:Bool}{P:Prop}(h:zE fs g↔(((2:Int)=1∧P)∨(2:Int)=3∨((2:Int)=2∧∃y,Ref fs y)))(hb:b=true↔¬∃y,Ref fs y):(!b)=true↔zE fs g:=by
 rw[h]
 cases b
 ·exact⟨fun _=> .inr (.inr ⟨rfl,Classical.not_not.1 fun h=>by have:=hb.2 h;cases this⟩),fun _=>rfl⟩
 ·refine⟨fun h=>by simp at h,fun h=> ?_⟩
  rcases h with ⟨h9,_⟩ | h9 | ⟨_,h9⟩
  ·exact absurd h9 (by decide)
  ·exact absurd h9 (by decide)
  ·exact absurd h9 (hb.1 rfl)
theorem amA{H:Heap}{v:Value}{fs:List aJ}(hv:kn H v fs)(cE:lj fs)(kS:fs.length≤6):
 Fn Tryz.prog 26 #[v] H (fun v' H'=>Heap.le H H'∧∃b,v' = .bool b∧(b=true↔¬∃y,Ref fs y)):=by
 have il:=abQ cE
 obtain⟨A,c,xs,rfl,hc,hr,hx⟩:=id hv;refine aY (args:=[_]) Tryz.func26 rfl rfl Tryz.ntmps26 rfl rfl fun w0=> ?_;refine ah [0] rfl ?_;refine ae (aa 1 rfl (ab [0] ?_));refine ae (aa 1 rfl (di ag rfl im rfl rfl (aB rfl rfl (acb (goal:=jX) (A0:=none) (c0:=0) hv aN.nil cE Mj kS il) ?_)));rintro _ H3 ⟨dK,A1,k1,c1,A2,k2,c2,A3,k3,c3,rfl,dY,pN⟩;obtain⟨M,AF,hM⟩:=aca (vs:=ct (fs ++ [jX])) cE.ok Mj kS il;refine aa 3 rfl (bm yB rfl ?_);obtain⟨ti,aj,ak⟩:=C4;refine aI (.inl ⟨rfl,rfl⟩) rfl rfl rfl aj ak rfl rfl rfl (aa 1 rfl (ab [3,4] ?_));refine ae (aa 2 rfl (aB rfl rfl (abw (ab7 (by omega) (by omega)) (by simp[ep,wq]) dY pN (by decide) AF hM) ?_));rintro _ H4 ⟨cM,st,t4,xv,q,rfl,uY,_⟩;refine aa 4 rfl (bm cj rfl (vr 1 ?_));obtain⟨ti,aj,ak⟩:=aX;refine aI (.inl ⟨rfl,rfl⟩) rfl rfl rfl aj ak rfl rfl rfl (aa 1 rfl (ab [5] ?_));refine ae (aa 3 rfl (ab [2] ?_));refine az ⟨.inr rfl,_,.tmp rfl (.nil),?_⟩;exact⟨dK.trans cM,_,rfl,by rw[←sat_iff uY];simp⟩
theorem amB{H:Heap}{v:Value}{fs:List aJ}{goal:aJ}{A0:Option Addr}{c0:Nat}(hv:kn H v fs)(eH:aN gX 2 H (.slice A0 goal.ts.length c0) goal.ts)(cE:lj fs)(dV:eV goal)(yj:Nw fs goal):
 Fn Tryz.prog 10 #[v,.agg #[.int .i64 goal.c,.slice A0 goal.ts.length c0]] H (fun v' H'=>Heap.le H H'∧∃b,v' = .bool b∧(b=true↔zE fs goal)):=by
 obtain⟨A,c,xs,rfl,hc,hr,hx⟩:=id hv
 obtain⟨kS,CG⟩:=yj cE dV
 have Nk:=dV.len
 have kI:=dV.const;refine aY (args:=[_,_]) Tryz.func10 rfl rfl Tryz.ntmps10 rfl rfl fun w0=> ?_;refine ah [0,1] rfl ?_;refine ae (bZ rfl rfl (aa 1 rfl (ab [0,3] ?_)));refine ao (ae (aa 1 rfl (aB rfl rfl (NA hv) ?_)));rintro _ H1 ⟨bg,b1,rfl,dU⟩;obtain rfl:=dU.2 cE;refine aa 3 rfl (aB rfl rfl (Nx (eH.le fc bg)) ?_);rintro _ H2 ⟨e2,b2,rfl,dg⟩;rw[e2];obtain rfl:=dg.2 dV;refine aa 2 rfl (ab [0,3,17] ?_);refine dd rfl (aw (ah [0,3] rfl ?_));refine ae (aa 2 rfl (aB rfl rfl (acb (hv.le gJ bg) (eH.le fc bg) cE dV kS CG) ?_));rintro _ H3 ⟨dK,A1,k1,c1,A2,k2,c2,A3,k3,c3,rfl,dY,pN⟩;obtain⟨M,AF,hM⟩:=aca (vs:=ct (fs ++ [goal])) cE.ok dV kS CG;have kP:=bg.trans dK;refine aa 3 rfl (bm yB rfl ?_);obtain⟨ti,aj,ak⟩:=C4;refine aI (.inl ⟨rfl,rfl⟩) rfl rfl rfl aj ak rfl rfl rfl (aa 1 rfl (ab [0,3,5,6] ?_));refine ae (aa 2 rfl (aB rfl rfl (abw (ab7 (by omega) (by omega)) (by simp[ep,wq]) dY pN (by decide) AF hM) ?_));rintro _ H4 ⟨cM,st,t4,xv,q,rfl,uY,cn,EU,_⟩;have jx:=kP.trans cM;have NC:=amr uY
 have Xx:=uY.st;refine aa 4 rfl (bm cj rfl (vr 1 ?_));obtain⟨ti,aj,ak⟩:=aX;refine aI (.inl ⟨rfl,rfl⟩) rfl rfl rfl aj ak rfl rfl rfl (aa 1 rfl (ab [0,3,7,8] ?_));refine ao ?_
 by_cases dZ:st=1
 ·
  subst dZ;refine bN .bK [0,1,2,3,4,6,5,7,8,9] follows (by kernel_rfl) ?_;refine aa 1 rfl (aG true rfl rfl (gi rfl) (aa 4 rfl (aW rfl rfl ((lG (n:=goal.c) (by omega) (by omega)).rc) (fun _ _ h=>by first | exact h.le | exact h.1) ?_)));rintro _ H5 ⟨dR,t5,rfl,eI⟩;have sQ:=rb (n:=goal.c) (by omega);refine aW rfl rfl (Lv (N:=99999998) ((bH.raw eI).mono (by omega)) ((bH.raw (cn.le dR)).mono (by omega)) (by decide)) (fun _ _ h=>by first | exact h.le | exact h.1) ?_;rintro _ H6 ⟨fM,rfl⟩;have pg:=(jx.trans dR).trans fM
  by_cases GS:q≤((goal.c:Int):Rat)
  ·
   have FE:=ZD.2 GS;refine aG true rfl rfl (lT FE) (aa 1 rfl (ab [0,7,40] ?_));refine cI rfl (ae (aa 1 rfl (ab [4] ?_)));refine az ⟨.inr rfl,_,.tmp rfl (.nil),?_⟩;exact⟨pg,_,rfl,fun _=>NC.2 (.inl ⟨rfl,GS⟩),fun _=>rfl⟩
  ·
   have FE:nJ ((goal.c:Int):Rat) q<0:=amt.2 (by grind)
   have Uk:¬zE fs goal:=fun h=>by exact(NC.1 h).elim (fun h9=>GS h9.2) (fun h9=>h9.elim (fun h8=>by omega) (fun h8=>by omega))
   refine aG false rfl rfl (pE FE) (aa 1 rfl (ab [0,7,40] ?_));refine dd rfl (aw (ah [0,7] rfl ?_));refine ae (aa 1 rfl (aG false rfl rfl (jn (by decide)) (aa 2 rfl (aG false rfl rfl (jn (by decide)) (aa 7 rfl (ab [4] ?_))))));refine az ⟨.inr rfl,_,.tmp rfl (.nil),?_⟩;exact⟨pg,_,rfl,fun h=>by simp at h,fun h=>absurd h Uk⟩
 ·
  skip
  refine bN .bK [0,1,2,3,4,6,5,7,8,9] follows (by kernel_rfl) ?_;refine aa 1 rfl (aG false rfl rfl (jn dZ) (aa 8 rfl (ab [0,7,40] ?_)));refine dd rfl (aw (ah [0,7] rfl ?_))
  by_cases amC:st=3
  ·
   subst amC;refine ae (aa 1 rfl (aG true rfl rfl (gi rfl) (aa 10 rfl (ab [4] ?_))));refine az ⟨.inr rfl,_,.tmp rfl (.nil),?_⟩;exact⟨jx,_,rfl,fun _=>NC.2 (.inr (.inl rfl)),fun _=>rfl⟩
  obtain rfl:st=2:=by omega
  refine ae (aa 1 rfl (aG false rfl rfl (jn (by decide)) (aa 2 rfl (aG true rfl rfl (gi rfl) (aa 2 rfl (aB rfl rfl (amA (hv.le gJ jx) cE kS) ?_))))));rintro _ H5 ⟨dR,b5,rfl,BJ⟩;refine aa 4 rfl (ab [4] ?_);refine az ⟨.inr rfl,_,.tmp rfl (.nil),?_⟩;exact⟨jx.trans dR,_,rfl,amz NC BJ⟩
end Go.aq
namespace Go.aq
open Go.Proofs Num Lp
theorem amD{H:Heap}{v:Value}{fs:List aJ}{goal:aJ}{A0:Option Addr}{c0:Nat}(hv:kn H v fs)(eH:aN gX 2 H (.slice A0 goal.ts.length c0) goal.ts):
 Fn Tryz.prog 3 #[v,.agg #[.int .i64 goal.c,.slice A0 goal.ts.length c0]] H (fun v' H'=>Heap.le H H'∧v' = .bool true):=by
 obtain⟨A,c,xs,rfl,hc,hr,hx⟩:=id hv;refine aY (args:=[_,_]) Tryz.func3 rfl rfl Tryz.ntmps3 rfl rfl fun w0=> ?_;refine ah [0,1] rfl ?_;refine ae (bZ rfl rfl (aa 1 rfl (ab [0,3] ?_)));refine ao (ae (aB rfl rfl (amg) ?_));rintro _ H1 ⟨bg,rfl⟩;refine aa 1 rfl (ab [0,3,9] ?_);refine dd rfl (aw (ah [0,3] rfl ?_));refine ao (ae (aa 2 rfl (cS Tryz.underlying22 im rfl rfl rfl rfl rfl rfl rfl ?_)));intro gb a6;obtain⟨cA,kD⟩:=abU a6 (eH.le fc bg);have jZ:=bg.trans cA;refine aB rfl rfl (al3 (gs:=[goal]) (hv.le gJ jZ) kD) ?_;rintro _ H3 ⟨e3,b3,rfl,fZ⟩;rw[e3];refine aa 1 rfl (ab [0,3,14] ?_);refine aD rfl (fun hb=> ?_) (fun hb=> ?_)
 ·
  skip
  refine ae (aa 1 rfl (ab [4] ?_));refine az ⟨.inr rfl,_,.tmp rfl (.nil),?_⟩;exact⟨jZ,rfl⟩
 ·
  have hk:=fZ.1 (by simpa using hb);have yj:Nw fs goal:=fun _ hg=>al2 hk.1 hg;refine aw (ah [0,3] rfl ?_);refine ae (aa 2 rfl (aB rfl rfl (abR (hv.le gJ jZ) (eH.le fc jZ) yj) ?_));rintro _ H4 ⟨cM,A4,k4,c4,b4,e4,rfl,cn⟩;have jx:=jZ.trans cM;refine aa 7 rfl (ab [0,3,5,6,7] ?_);refine ao (ae (aa 1 rfl (aB rfl rfl (NA (hv.le gJ jx)) ?_)));rintro _ H5 ⟨dR,b5,rfl,BJ⟩;have ln:=jx.trans dR
  cases b5
  ·
   have yi:¬(lj fs∧eV goal):=fun h=>(by have h9:=BJ.2 h.1;cases h9);obtain⟨_,rfl,rfl,rfl,rfl,rfl⟩:=cn.elim id (fun h=>absurd (And.intro h.1 h.2.1) yi);refine aa 6 rfl (ab [0,3,5,6,7,29] ?_);refine cI rfl (ae (aa 1 rfl (aG true rfl rfl (gi rfl) (aa 7 rfl (aG true rfl rfl (gi rfl) (aa 2 rfl (ab [4] ?_)))))));refine az ⟨.inr rfl,_,.tmp rfl (.nil),?_⟩;exact⟨ln,rfl⟩
  skip
  refine aa 3 rfl (aB rfl rfl (Nx (eH.le fc ln)) ?_);rintro _ H6 ⟨e6,b6,rfl,ni⟩;rw[e6]
  cases b6
  ·
   have yi:¬(lj fs∧eV goal):=fun h=>(by have h9:=ni.2 h.2;cases h9);obtain⟨_,rfl,rfl,rfl,rfl,rfl⟩:=cn.elim id (fun h=>absurd (And.intro h.1 h.2.1) yi);refine aa 2 rfl (ab [0,3,5,6,7,29] ?_);refine cI rfl (ae (aa 1 rfl (aG true rfl rfl (gi rfl) (aa 7 rfl (aG true rfl rfl (gi rfl) (aa 2 rfl (ab [4] ?_)))))));refine az ⟨.inr rfl,_,.tmp rfl (.nil),?_⟩;exact⟨ln,rfl⟩
  have cE:=BJ.1 rfl;have dV:=ni.1 rfl;have kS:=(yj cE dV).1;obtain⟨_,_,rfl,mq⟩:=cn.elim (fun h=>absurd (And.intro cE dV) h.1) id;refine aa 2 rfl (ab [0,3,5,6,7,29] ?_);refine dd rfl (aw (ah [0,3,5,6,7] rfl ?_));refine ao (ae (aa 2 rfl (aB rfl rfl (amB (hv.le gJ ln) (eH.le fc ln) cE dV yj) ?_)));rintro _ H7 ⟨jt,b7,rfl,RB⟩;have qf:=ln.trans jt
  rcases mq with ⟨rfl,x,rfl,cY,vo,Gv⟩|⟨rfl,rfl,rfl,rfl,Uk⟩
  ·
   obtain rfl:b7=true:=RB.2 (Gv.elim (fun h=> .inl ⟨_,h⟩) (fun h=> .inr ⟨_,h⟩));refine aa 1 rfl (ab [0,3,5,6,7,44] ?_);refine dd rfl (aw (ah [0,3,5,6,7] rfl ?_));refine ae (aa 1 rfl (aG true rfl rfl (gi rfl) (aa 7 rfl (aB rfl rfl ((aml (N:=KX) ⟨hv.le gJ qf,vo.le (pS KX) (dR.trans jt),by decide⟩ (eH.le fc qf) (by omega)).yes ⟨cE,dV,⟨cY,Gv.elim (fun h=>h.pos) (fun h=>h.pos)⟩,Gv⟩) ?_))));rintro _ H8 ⟨gA,rfl⟩;refine aa 2 rfl (ab [4] ?_);refine az ⟨.inr rfl,_,.tmp rfl (.nil),?_⟩;exact⟨qf.trans gA,rfl⟩
  obtain rfl:b7=false:=by
   cases b7
   ·rfl
   ·exact absurd (RB.1 rfl) Uk
  refine aa 1 rfl (ab [0,3,5,6,7,44] ?_);refine cI rfl (ae (aa 1 rfl (aG true rfl rfl (gi rfl) (aa 7 rfl (aG true rfl rfl (gi rfl) (aa 2 rfl (ab [4] ?_)))))));refine az ⟨.inr rfl,_,.tmp rfl (.nil),?_⟩;exact⟨qf,rfl⟩
end Go.aq
