/- Walks over package amortcostlaw22: sane. -/
import Derived.Test.YtgjimcieaecdkaaGreatA10
import Derived.Test.YtgjimcieaecdkaaGreatSane1
import Derived.Test.YtgjimcieaecdkaaGreatSmp8
set_option linter.unusedVariables false
namespace Go.au
open Go.Proofs Num Lp
theorem D9{H:Heap}{v:Value}{a b:Int}(hv:aM o6 1 H v [a,b])(ha: -9≤a∧a≤9)(hb: -9≤b∧b≤9):Fn Tryz.prog 16 #[v] H (fun v' H'=>Heap.le H H'∧∃A c,v' = .slice A 2 c∧aM fe 3 H' (.slice A 2 c) [(a:Rat),(b:Rat)]):=
 (Zb hv (fun z hz=>by simp only[List.mem_cons,List.not_mem_nil,or_false]at hz;rcases hz with rfl | rfl <;> omega) (by show ((2:Nat):Int)≤_;decide)).mono fun v' H' ⟨h1,h2⟩=>by
  obtain⟨A,c,xs,rfl,h3⟩:=id h2
  exact⟨h1,A,c,rfl,h2⟩
theorem Zm{H H':Heap}{v:Value}(h:AI sp [1,1] (bits sl sp.lp.m sp.lp.m (2*al.dZ sl)) H v H'):Heap.le H H'∧∃f A1 m1 c1 A2 m2 c2 Ax kx cx Ad kd cd Ar kr cr S,v = .tuple #[.agg #[.int .i64 1,.bool f,.slice A1 m1 c1,.slice A2 m2 c2,.slice Ax kx cx,.slice Ad kd cd,.slice Ar kr cr],.int .i64 0]∧S.status=1∧S.value=14/5∧du H' (.agg #[.bool f,.slice A1 m1 c1,.slice A2 m2 c2]) S.value∧aM fe 3 H' (.slice Ax kx cx) S.x∧aM fe 3 H' (.slice Ad kd cd) S.j0∧aM fe 3 H' (.slice Ar kr cr) S.ik∧fc sp [1,1] S∧Il 1000000 S:=by
 obtain⟨hl,s,e,rfl,h⟩:=h
 refine⟨hl,?_⟩
 rcases h with ⟨h1,_⟩ | ⟨_,h1,_⟩ | ⟨_,_,rfl,S,h1,h2,h3,_⟩
 ·exact absurd O8 h1
 ·exact absurd rfl h1
 ·obtain⟨f,u,w,xv,dv,rv,rfl,h4,h5,h6,h7⟩:=h1
  obtain⟨k1,k2⟩:S.status=1∧S.value=14/5:=by
   rcases h2.Gb with ⟨k1,k2⟩ | ⟨k1,k2,_⟩ | ⟨k1,k2,_⟩
   ·exact⟨k1,LP.TC k2 IJ⟩
   ·exact(LP.TA IJ k2).elim
   ·exact(LP.TB IJ k2).elim
  have h8:du H' (.agg #[.bool f,u,w]) S.value:=by
   rcases h4 with h4 | ⟨h4,_⟩
   ·exact h4
   ·rw[k2]at h4;exact absurd h4 (by grind)
  obtain⟨u',w',e,hu,hw⟩:=id h8
  have e':=tV (vs:=[.bool f,u,w]) e
  simp only[List.cons.injEq,and_true]at e'
  obtain⟨_,rfl,rfl⟩:=e'
  obtain⟨A1,c1,rfl,_⟩:=id hu
  obtain⟨A2,c2,rfl,_⟩:=id hw
  obtain⟨Ax,cx,_,rfl,_⟩:=id h5
  obtain⟨Ad,cd,_,rfl,_⟩:=id h6
  obtain⟨Ar,cr,_,rfl,_⟩:=id h7
  have h9:=O9
  exact⟨_,_,_,_,_,_,_,_,_,_,_,_,_,_,_,_,S,by rw[k1],k1,k2,h8,h5,h6,h7,h2,fun q hq=>Nat.le_trans (h3 q hq) (by omega)⟩
theorem Zn{H:Heap}:
 Fn Tryz.prog 5 #[] H (fun v H'=>Heap.le H H'∧v = .bool true):=by
 refine aU (args:=[]) Tryz.func5 rfl rfl Tryz.ntmps5 rfl rfl fun w0=> ?_;refine ah [] rfl ?_;refine ae (aa 1 rfl (ab [] ?_));refine ae (dD Tryz.underlying22 JM rfl rfl rfl rfl rfl rfl rfl ?_);intro g0 kn;have Pb:aM zH 1 _ _ [false,false]:=IH (H:=H) (g:=g0) (e:=4) (P:=zH) (sz:=1) (k:=2) (xs:=eB [.bool false,.bool false]) (l:=[false,false]) rfl (wZ (vs:=[.bool false]) rfl rfl (wZ (vs:=[.bool false]) rfl rfl rz));have Dd:=Heap.bh (whole (eB [.bool false,.bool false]) 4) kn;refine dD Tryz.underlying88 xP rfl rfl rfl rfl rfl rfl rfl ?_;intro g1 jz;have bC:=Heap.bh (whole (eB [.int .i64 1,.int .i64 2]) 2) jz;refine aq rfl rfl (D9 (D4 1 2) (by omega) (by omega)) ?_;rintro _ H2 ⟨aW,A2,c2,rfl,fN⟩;have IK:=bC.trans aW;refine aq rfl rfl (OH (by omega) (by omega)) ?_;rintro _ H3 ⟨dH,f3,Ea,Eb,Ec,Ed,m32,Ee,rfl,eV⟩;have h03:=IK.trans dH;refine eC ag rfl ko rfl rfl (dD Tryz.underlying88 xP rfl rfl rfl rfl rfl rfl rfl ?_);intro g4 uq;have dr:=Heap.bh (whole (eB [.int .i64 3,.int .i64 1]) 2) uq;refine aq rfl rfl (D9 (D4 3 1) (by omega) (by omega)) ?_;rintro _ H5 ⟨cU,A5,c5,rfl,Ef⟩;have Zo:=dr.trans cU;refine aq rfl rfl (OH (by omega) (by omega)) ?_;rintro _ H6 ⟨gg,f6,Eg,Eh,Ei,Ej,Ek,El,rfl,Di⟩
 have Pc:=Zo.trans gg;refine eC ag rfl ko rfl rfl (dD Tryz.underlying23 ko rfl rfl rfl rfl rfl rfl rfl ?_);intro g9 rP;have eo:=Heap.bh (whole (eB [.agg #[.slice A2 2 c2,.int .i64 3,.bool f3,.slice Ea Eb Ec,.slice Ed m32 Ee],.agg #[.slice A5 2 c5,.int .i64 3,.bool f6,.slice Eg Eh Ei,.slice Ej Ek El]]) 31) rP
 show aE _ _ _ _ _ _ (ins H6 g9 (whole (eB [.agg #[.slice A2 2 c2,.int .i64 3,.bool f3,.slice Ea Eb Ec,.slice Ed m32 Ee],.agg #[.slice A5 2 c5,.int .i64 3,.bool f6,.slice Eg Eh Ei,.slice Ej Ek El]]) 31)) _
 generalize Zp:ins H6 g9 (whole (eB [.agg #[.slice A2 2 c2,.int .i64 3,.bool f3,.slice Ea Eb Ec,.slice Ed m32 Ee],.agg #[.slice A5 2 c5,.int .i64 3,.bool f6,.slice Eg Eh Ei,.slice Ej Ek El]]) 31)=H9 at eo⊢
 have IL:=(dH.trans Pc).trans eo
 have Pd:dN 2 H9 (.agg #[.slice (some ⟨g0,0,none⟩) 2 2,.slice (some ⟨g9,0,none⟩) 2 2]) sp:=by
  refine⟨_,_,rfl,Pb.le Hd (IK.trans IL),?_⟩
  have jX:∀q:Rat,q∈[((1:Int):Rat),((2:Int):Rat)]→aC q≤2:=by decide
  have g8:∀q:Rat,q∈[((3:Int):Rat),((1:Int):Rat)]→aC q≤2:=by decide
  have r1:ep 2 H9 [.slice A2 2 c2,.int .i64 3,.bool f3,.slice Ea Eb Ec,.slice Ed m32 Ee] ([1,2],3,4):=⟨_,_,_,_,rfl,(fN.pJ jX).le (fu 2) IL,((du.raw eV).mono (by decide)).le (Pc.trans eo)⟩;have r2:ep 2 H9 [.slice A5 2 c5,.int .i64 3,.bool f6,.slice Eg Eh Ei,.slice Ej Ek El] ([3,1],3,6):=⟨_,_,_,_,rfl,(Ef.pJ g8).le (fu 2) (gg.trans eo),((du.raw Di).mono (by decide)).le eo⟩;rw[←Zp]at r1 r2⊢;exact IH (l:=sp.rows) rfl (wZ r1 rfl (wZ r2 rfl rz))
 have Zq:=(Dd.trans IK).trans IL;clear Pb fN Ef eV Di;refine eC ag rfl xQ rfl rfl (bG xQ rfl ?_);obtain⟨ti,aj,ak⟩:=JN;refine aO (.inl ⟨rfl,rfl⟩) rfl rfl rfl aj ak rfl rfl rfl (ab [1] ?_);refine bT .bN [0,1,2,3,4,5,6,7,8,9] follows (by kernel_rfl) ?_;refine aa 1 rfl (dD Tryz.underlying88 xP rfl rfl rfl rfl rfl rfl rfl ?_);intro g1 jz;have bC:=Heap.bh (whole (eB [.int .i64 1,.int .i64 1]) 2) jz;refine aI rfl rfl (D9 (D4 1 1) (by omega) (by omega)) (fun _ _ h=>by first | exact h.le | exact h.1) ?_;rintro _ uy ⟨pE,Zr,Zs,rfl,GN⟩;have IM:=bC.trans pE
 have jX:∀q:Rat,q∈[((1:Int):Rat),((1:Int):Rat)]→aC q≤2:=by decide
 have DW:aM (ca 2) 3 uy (.slice Zr 2 Zs) [1,1]:=GN.pJ jX;refine aI rfl rfl ((Ol (Pd.le IM) DW Zl (by decide) (by decide) (by have h9:=O9;omega)).mono fun _ _ h=>Zm h) (fun _ _ h=>by first | exact h.le | exact h.1) ?_;rintro _ jJ ⟨qG,f11,B1,m1,e1,B2,m2,e2,Bx,kx,ex,Bd,kd,ed,Br,kr,er,S,rfl,cJ,qe,lq,Zt,Zu,Gw,Pe,bZ⟩;refine aa 3 rfl (bG oK rfl ?_);obtain⟨ti,aj,ak⟩:=lQ;refine aO (.inl ⟨rfl,rfl⟩) rfl rfl rfl aj ak rfl rfl rfl (aa 1 rfl (ab [1,2,3] ?_));have Zv:=Zq.trans (IM.trans qG);have zr:=Pd.le (IM.trans qG)
 have Zw:fc sp [1,1] ⟨1,S.value,S.x,S.j0,S.ik⟩:=by rw[←cJ];exact Pe
 have ck:(S.x.length:Int)≤1099511627776:=by
  rcases Pe with ⟨_,_,h,_⟩ | ⟨h,_⟩ | ⟨h,_⟩
  ·rw[h.ej.len];decide
  ·rw[cJ]at h;exact absurd h (by decide)
  ·rw[cJ]at h;exact absurd h (by decide)
 refine bT .bN [0,1,2,3,4,5,6,7,8,9,10,11,12,13,14,15,18,16,17,19,20,21] follows (by kernel_rfl) ?_;refine vr 10 ?_
 refine aI rfl rfl ((V4 (H:=jJ) (a:=14) (b:=5) (by decide) (by decide) (by decide) (by decide)).mono fun v H' h=>(⟨h.1,by
 exact⟨v,rfl,by rw[qe,show (14/5:Rat)=((14:Int):Rat)/((5:Int):Rat)from rfl];exact h.2⟩⟩:Heap.le jJ H'∧∃v0,v=v0∧du H' v0 S.value)) (fun _ _ h=>by first | exact h.le | exact h.1) ?_
 rintro _ cS ⟨ng,zC,rfl,zD⟩;refine aI rfl rfl ((MV (N:=1000000) (((du.raw lq).mono (bZ _ (.inr (.inr (.inr rfl))))).le ng) ((du.raw zD).mono (bZ _ (.inr (.inr (.inr rfl))))) (by decide)).mono fun v H' h=>(⟨h.1,by rw[h.2,YB]⟩:Heap.le cS H'∧v = .int .i64 0)) (fun _ _ h=>by first | exact h.le | exact h.1) ?_;rintro _ kS ⟨kT,rfl⟩;refine aa 5 rfl (dD Tryz.underlying88 xP rfl rfl rfl rfl rfl rfl rfl ?_);intro g1 jz;have Zx:=Heap.bh (whole (eB [.int .i64 1,.int .i64 1]) 2) jz;refine aI rfl rfl (D9 (D4 1 1) (by omega) (by omega)) (fun _ _ h=>by first | exact h.le | exact h.1) ?_;rintro _ pH ⟨Zy,Zz,ZA,rfl,ZB⟩;have g8:∀q:Rat,q∈[((1:Int):Rat),((1:Int):Rat)]→aC q≤1000000:=fun q hq=>Nat.le_trans (jX q hq) (by decide);have ZC:aM (ca 1000000) 3 pH (.slice Zz 2 ZA) [1,1]:=ZB.pJ g8;have w8:=(ng.trans kT).trans (Zx.trans Zy);refine aI rfl rfl (Fn.yes (ZD (S:=⟨1,S.value,S.x,S.j0,S.ik⟩) (N:=1000000) ((zr.mono (by decide)).le w8) ZC (((du.raw lq).mono (bZ _ (.inr (.inr (.inr rfl))))).le w8) ((Zt.pJ fun q hq=>bZ q (.inl hq)).le (fu _) w8) ((Zu.pJ fun q hq=>bZ q (.inr (.inl hq))).le (fu _) w8) ((Gw.pJ fun q hq=>bZ q (.inr (.inr (.inl hq)))).le (fu _) w8) ck (by decide)) Zw) (fun _ _ h=>by first | exact h.le | exact h.1) ?_
 rintro _ H16 ⟨ZE,rfl⟩;refine aa 2 rfl (ab [0] ?_);refine ar ⟨.inr rfl,_,.tmp rfl (.nil),?_⟩;exact⟨Zv.trans (w8.trans ZE),rfl⟩
end Go.au
