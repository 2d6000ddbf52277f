/- Walks over package amortcostlaw22: sane. -/
import Derived.Test.YtfjncmjbhfdnpaaGreatA15
import Derived.Test.YtfjncmjbhfdnpaaGreatSane1
import Derived.Test.YtfjncmjbhfdnpaaGreatSmp8
set_option linter.unusedVariables false
namespace Go.ar
open Go.Proofs Num Lp
theorem LZ{H:Heap}{v:Value}{a b:Int}(hv:aR uk 1 H v [a,b])(ha: -9≤a∧a≤9)(hb: -9≤b∧b≤9):Fn Tryz.prog 42 #[v] H (fun v' H'=>Heap.le H H'∧∃A c,v' = .slice A 2 c∧aR bT 3 H' (.slice A 2 c) [(a:Rat),(b:Rat)]):=
 (ajt hv (fun z hz=>by simp only[List.mem_cons,List.not_mem_nil,or_false]at hz;rcases hz with rfl | rfl <;> omega) (by show ((2:Nat):Int)≤_;decide)).mono fun v' H' ⟨h1,h2⟩=>by
  obtain⟨A,c,xs,rfl,h3⟩:=id h2
  exact⟨h1,A,c,rfl,h2⟩
theorem ajD{H H':Heap}{v:Value}(h:GM sp [1,1] (bits sl sp.lp.m sp.lp.m (2*ao.fL sl)) H v H'):Heap.le H H'∧∃f A1 m1 c1 A2 m2 c2 Ax kx cx Ad kd cd Ar kr cr S,v = .tuple #[.agg #[.int .i64 1,.bool f,.slice A1 m1 c1,.slice A2 m2 c2,.slice Ax kx cx,.slice Ad kd cd,.slice Ar kr cr],.int .i64 0]∧S.status=1∧S.value=14/5∧bK H' (.agg #[.bool f,.slice A1 m1 c1,.slice A2 m2 c2]) S.value∧aR bT 3 H' (.slice Ax kx cx) S.x∧aR bT 3 H' (.slice Ad kd cd) S.m9∧aR bT 3 H' (.slice Ar kr cr) S.kV∧iC sp [1,1] S∧PV 1000000 S:=by
 obtain⟨hl,s,e,rfl,h⟩:=h
 refine⟨hl,?_⟩
 rcases h with ⟨h1,_⟩ | ⟨_,h1,_⟩ | ⟨_,_,rfl,S,h1,h2,h3,_⟩
 ·exact absurd Z8 h1
 ·exact absurd rfl h1
 ·obtain⟨f,u,w,xv,dv,rv,rfl,h4,h5,h6,h7⟩:=h1
  obtain⟨k1,k2⟩:S.status=1∧S.value=14/5:=by
   rcases h2.Jw with ⟨k1,k2⟩ | ⟨k1,k2,_⟩ | ⟨k1,k2,_⟩
   ·exact⟨k1,LP.UB k2 Sa⟩
   ·exact(LP.NQ Sa k2).elim
   ·exact(LP.NR Sa k2).elim
  have h8:bK H' (.agg #[.bool f,u,w]) S.value:=by
   rcases h4 with h4 | ⟨h4,_⟩
   ·exact h4
   ·rw[k2]at h4;exact absurd h4 (by grind)
  obtain⟨u',w',e,hu,hw⟩:=id h8
  have e':=uh (vs:=[.bool f,u,w]) e
  simp only[List.cons.injEq,and_true]at e'
  obtain⟨_,rfl,rfl⟩:=e'
  obtain⟨A1,c1,rfl,_⟩:=id hu
  obtain⟨A2,c2,rfl,_⟩:=id hw
  obtain⟨Ax,cx,_,rfl,_⟩:=id h5
  obtain⟨Ad,cd,_,rfl,_⟩:=id h6
  obtain⟨Ar,cr,_,rfl,_⟩:=id h7
  have h9:=Z9
  exact⟨_,_,_,_,_,_,_,_,_,_,_,_,_,_,_,_,S,by rw[k1],k1,k2,h8,h5,h6,h7,h2,fun q hq=>Nat.le_trans (h3 q hq) (by omega)⟩
theorem ajE{H:Heap}:
 Fn Tryz.prog 10 #[] H (fun v H'=>Heap.le H H'∧v = .bool true):=by
 refine aZ (args:=[]) Tryz.func10 rfl rfl Tryz.ntmps10 rfl rfl fun w0=> ?_;refine ag [] rfl ?_;refine ab ?_;refine vr 1 ?_;refine aa [] ?_;refine ab ?_;refine dI Tryz.underlying22 Td rfl rfl rfl rfl rfl rfl rfl ?_;intro g0 nK;have G8:aR FW 1 _ _ [false,false]:=Qh (H:=H) (g:=g0) (e:=4) (P:=FW) (sz:=1) (k:=2) (xs:=eT [.bool false,.bool false]) (l:=[false,false]) rfl (Dq (vs:=[.bool false]) rfl rfl (Dq (vs:=[.bool false]) rfl rfl sI));have AH:=Heap.bI (whole (eT [.bool false,.bool false]) 4) nK;refine dI Tryz.underlying146 Ej rfl rfl rfl rfl rfl rfl rfl ?_;intro g1 kG;have bH:=Heap.bI (whole (eT [.int .i64 1,.int .i64 2]) 2) kG;refine aw rfl rfl (LZ (KP 1 2) (by omega) (by omega)) ?_;rintro _ H2 ⟨bh,A2,c2,rfl,jn⟩;have DH:=bH.trans bh;refine aw rfl rfl (XP (by omega) (by omega)) ?_;rintro _ H3 ⟨dC,f3,L0,HW,L1,L2,m32,L3,rfl,gD⟩;have h03:=DH.trans dC;refine dS ae rfl kR rfl rfl ?_;refine dI Tryz.underlying146 Ej rfl rfl rfl rfl rfl rfl rfl ?_;intro g4 vT;have cE:=Heap.bI (whole (eT [.int .i64 3,.int .i64 1]) 2) vT;refine aw rfl rfl (LZ (KP 3 1) (by omega) (by omega)) ?_;rintro _ H5 ⟨dy,A5,c5,rfl,L4⟩;have h35:=cE.trans dy;refine aw rfl rfl (XP (by omega) (by omega)) ?_;rintro _ H6 ⟨jr,f6,L6,L7,L8,L9,Ma,Mb,rfl,nv⟩
 have h36:=h35.trans jr;refine dS ae rfl kR rfl rfl ?_;refine dI Tryz.underlying23 kR rfl rfl rfl rfl rfl rfl rfl ?_;intro g9 qk;have dX:=Heap.bI (whole (eT [.agg #[.slice A2 2 c2,.int .i64 3,.bool f3,.slice L0 HW L1,.slice L2 m32 L3],.agg #[.slice A5 2 c5,.int .i64 3,.bool f6,.slice L6 L7 L8,.slice L9 Ma Mb]]) 78) qk
 show aP _ _ _ _ _ _ (ins H6 g9 (whole (eT [.agg #[.slice A2 2 c2,.int .i64 3,.bool f3,.slice L0 HW L1,.slice L2 m32 L3],.agg #[.slice A5 2 c5,.int .i64 3,.bool f6,.slice L6 L7 L8,.slice L9 Ma Mb]]) 78)) _
 generalize hH9:ins H6 g9 (whole (eT [.agg #[.slice A2 2 c2,.int .i64 3,.bool f3,.slice L0 HW L1,.slice L2 m32 L3],.agg #[.slice A5 2 c5,.int .i64 3,.bool f6,.slice L6 L7 L8,.slice L9 Ma Mb]]) 78)=H9 at dX⊢
 have Sb:=(dC.trans h36).trans dX
 have nC:eJ 2 H9 (.agg #[.slice (some ⟨g0,0,none⟩) 2 2,.slice (some ⟨g9,0,none⟩) 2 2]) sp:=by
  refine⟨_,_,rfl,G8.le Wq (DH.trans Sb),?_⟩
  have jz:∀q:Rat,q∈[((1:Int):Rat),((2:Int):Rat)]→aG q≤2:=by decide
  have j0:∀q:Rat,q∈[((3:Int):Rat),((1:Int):Rat)]→aG q≤2:=by decide
  have r1:eV 2 H9 [.slice A2 2 c2,.int .i64 3,.bool f3,.slice L0 HW L1,.slice L2 m32 L3] ([1,2],3,4):=⟨_,_,_,_,rfl,(jn.qx jz).le (ik 2) Sb,((bK.raw gD).mono (by decide)).le (h36.trans dX)⟩;have r2:eV 2 H9 [.slice A5 2 c5,.int .i64 3,.bool f6,.slice L6 L7 L8,.slice L9 Ma Mb] ([3,1],3,6):=⟨_,_,_,_,rfl,(L4.qx j0).le (ik 2) (jr.trans dX),((bK.raw nv).mono (by decide)).le dX⟩;rw[←hH9]at r1 r2⊢;exact Qh (l:=sp.rows) rfl (Dq r1 rfl (Dq r2 rfl sI))
 have h09:=(AH.trans DH).trans Sb;clear G8 jn L4 gD nv;refine dS ae rfl ML rfl rfl ?_;refine bt ML rfl ?_;obtain⟨ti,aj,ak⟩:=acs;refine aJ (.inl ⟨rfl,rfl⟩) rfl rfl rfl aj ak rfl rfl rfl ?_;refine aa [1] ?_;refine bJ .bF [0,1,2,3,4,5,6,7,8,9] follows (by kernel_rfl) ?_;refine vr 1 ?_;refine dI Tryz.underlying146 Ej rfl rfl rfl rfl rfl rfl rfl ?_;intro g1 kG;have bH:=Heap.bI (whole (eT [.int .i64 1,.int .i64 1]) 2) kG;refine aO rfl rfl (LZ (KP 1 1) (by omega) (by omega)) (fun _ _ h=>by first | exact h.le | exact h.1) ?_;rintro _ pj ⟨oE,A10,c10,rfl,AG⟩;have Sd:=bH.trans oE
 have jz:∀q:Rat,q∈[((1:Int):Rat),((1:Int):Rat)]→aG q≤2:=by decide
 have Dk:aR (ck 2) 3 pj (.slice A10 2 c10) [1,1]:=AG.qx jz;refine aO rfl rfl ((Xx (nC.le Sd) Dk ajC (by decide) (by decide) (by have h9:=Z9;omega)).mono fun _ _ h=>ajD h) (fun _ _ h=>by first | exact h.le | exact h.1) ?_;rintro _ im ⟨rL,f11,B1,m1,e1,B2,m2,e2,Bx,kx,ex,Bd,kd,ed,Br,kr,er,S,rfl,cQ,xU,pf,hsx,hsd,Ol,aaa,cO⟩;refine vr 3 ?_;refine bt vp rfl ?_;obtain⟨ti,aj,ak⟩:=qQ;refine aJ (.inl ⟨rfl,rfl⟩) rfl rfl rfl aj ak rfl rfl rfl ?_;refine vr 1 ?_;refine aa [1,2,3] ?_;have ajF:=h09.trans (Sd.trans rL);have FI:=nC.le (Sd.trans rL)
 have ajG:iC sp [1,1] ⟨1,S.value,S.x,S.m9,S.kV⟩:=by rw[←cQ];exact aaa
 have cB:(S.x.length:Int)≤1099511627776:=by
  rcases aaa with ⟨_,_,h,_⟩ | ⟨h,_⟩ | ⟨h,_⟩
  ·rw[h.eF.len];decide
  ·rw[cQ]at h;exact absurd h (by decide)
  ·rw[cQ]at h;exact absurd h (by decide)
 refine bJ .bF [0,1,2,3,4,5,6,7,8,9,10,11,12,13,14,15,18,16,17,19,20,21] follows (by kernel_rfl) ?_;refine vr 10 ?_
 refine aO rfl rfl ((OM (H:=im) (a:=14) (b:=5) (by decide) (by decide) (by decide) (by decide)).mono fun v H' h=>(⟨h.1,by
 exact⟨v,rfl,by rw[xU,show (14/5:Rat)=((14:Int):Rat)/((5:Int):Rat)from rfl];exact h.2⟩⟩:Heap.le im H'∧∃v0,v=v0∧bK H' v0 S.value)) (fun _ _ h=>by first | exact h.le | exact h.1) ?_
 rintro _ cV ⟨iX,v12,rfl,py⟩;refine aO rfl rfl ((OK (N:=1000000) (((bK.raw pf).mono (cO _ (.inr (.inr (.inr rfl))))).le iX) ((bK.raw py).mono (cO _ (.inr (.inr (.inr rfl))))) (by decide)).mono fun v H' h=>(⟨h.1,by rw[h.2,XQ]⟩:Heap.le cV H'∧v = .int .i64 0)) (fun _ _ h=>by first | exact h.le | exact h.1) ?_;rintro _ kN ⟨jT,rfl⟩;refine vr 5 ?_;refine dI Tryz.underlying146 Ej rfl rfl rfl rfl rfl rfl rfl ?_;intro g1 kG;have uX:=Heap.bI (whole (eT [.int .i64 1,.int .i64 1]) 2) kG;refine aO rfl rfl (LZ (KP 1 1) (by omega) (by omega)) (fun _ _ h=>by first | exact h.le | exact h.1) ?_;rintro _ lf ⟨ZX,A15,c15,rfl,ajH⟩;have j0:∀q:Rat,q∈[((1:Int):Rat),((1:Int):Rat)]→aG q≤1000000:=fun q hq=>Nat.le_trans (jz q hq) (by decide);have ajI:aR (ck 1000000) 3 lf (.slice A15 2 c15) [1,1]:=ajH.qx j0;have DI:=(iX.trans jT).trans (uX.trans ZX);refine aO rfl rfl (Fn.yes (ajJ (S:=⟨1,S.value,S.x,S.m9,S.kV⟩) (N:=1000000) ((FI.mono (by decide)).le DI) ajI (((bK.raw pf).mono (cO _ (.inr (.inr (.inr rfl))))).le DI) ((hsx.qx fun q hq=>cO q (.inl hq)).le (ik _) DI) ((hsd.qx fun q hq=>cO q (.inr (.inl hq))).le (ik _) DI) ((Ol.qx fun q hq=>cO q (.inr (.inr (.inl hq)))).le (ik _) DI) cB (by decide)) ajG) (fun _ _ h=>by first | exact h.le | exact h.1) ?_
 rintro _ BI ⟨R4,rfl⟩;refine vr 2 ?_;refine aa [0] ?_;refine az ⟨.inr rfl,_,.tmp rfl (.nil),?_⟩;exact⟨ajF.trans (DI.trans R4),rfl⟩
end Go.ar
