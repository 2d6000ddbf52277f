/- law23's sane. -/
import Derived.Test.YtfjncmjbhfdnpaaGreatA10
import Derived.Test.YtfjncmjbhfdnpaaGreatLw1
import Derived.Test.YtfjncmjbhfdnpaaGreatSn3
import Derived.Test.YtfjncmjbhfdnpaaGreatSame
set_option linter.unusedVariables false
namespace Go.ay
open Go.Proofs Num Lp
theorem FV{H:Heap}{N g:Nat}{t u:RC}{a b:Rat}(hg:H g=none)(h1:bN H t.v a N)(h2:bN H u.v b N):aC (aS N) 3 (ins H g (whole (cT [t.v,u.v]) 31)) (.slice (some ⟨g,0,none⟩) 2 2) [a,b]:=
 ⟨_,2,_,rfl,Nat.le_refl _,fu _ _ _ _ _ _,NA (P:=aS N _) (vs:=[.bool t.f,.slice t.A1 t.m1 t.c1,.slice t.A2 t.m2 t.c2]) (bN.le h1 (Heap.bC _ hg)) rfl (jn (P:=aS N _) (vs:=[.bool u.f,.slice u.A1 u.m1 u.c1,.slice u.A2 u.m2 u.c2]) (bN.le h2 (Heap.bC _ hg)) rfl)⟩
theorem aeS{H:Heap}{N g:Nat}{A B:Option Addr}{c d:Nat}{a b:List Rat}(hg:H g=none)(h1:aC (aS N) 3 H (.slice A a.length c) a)(h2:aC (aS N) 3 H (.slice B b.length d) b):gB N (ins H g (whole (cT [.slice A a.length c,.slice B b.length d]) 26)) (.slice (some ⟨g,0,none⟩) 2 2) [a,b]:=
 ⟨_,2,_,rfl,Nat.le_refl _,fu _ _ _ _ _ _,NA (P:=jC N _) (vs:=[.slice A a.length c]) ⟨_,_,rfl,h1.le (a8 N) (Heap.bC _ hg)⟩ rfl (jn (P:=jC N _) (vs:=[.slice B b.length d]) ⟨_,_,rfl,h2.le (a8 N) (Heap.bC _ hg)⟩ rfl)⟩
theorem aeT{H:Heap}{g:Nat}{a b:Bool}:aC pz 1 (ins H g (whole (cT [.bool a,.bool b]) 4)) (.slice (some ⟨g,0,none⟩) 2 2) [a,b]:=
 ⟨_,2,_,rfl,Nat.le_refl _,fu _ _ _ _ _ _,NA (P:=pz _) (vs:=[.bool a]) rfl rfl (jn (P:=pz _) (vs:=[.bool b]) rfl rfl)⟩
theorem aeU{H:Heap}{N g:Nat}{A:Option Addr}{c:Nat}{a:List Rat}{z:Int}{t:RC}{b:Rat}(hg:H g=none)(h1:aC (aS N) 3 H (.slice A a.length c) a)(h2:bN H t.v b N):aC (eZ N) 5 (ins H g (whole (cT [.agg #[.slice A a.length c,.int .i64 z,.bool t.f,.slice t.A1 t.m1 t.c1,.slice t.A2 t.m2 t.c2]]) 78)) (.slice (some ⟨g,0,none⟩) 1 1) [(a,z,b)]:=
 ⟨_,1,_,rfl,Nat.le_refl _,fu _ _ _ _ _ _,jn (P:=eZ N _) (vs:=[.slice A a.length c,.int .i64 z,.bool t.f,.slice t.A1 t.m1 t.c1,.slice t.A2 t.m2 t.c2]) ⟨_,_,_,_,rfl,h1.le (a8 N) (Heap.bC _ hg),bN.le h2 (Heap.bC _ hg)⟩ rfl⟩
theorem N7{H:Heap}{v:Value}{q:Rat}(h:cJ H v q)(hz:aJ q≤2):bN H v q 2:=(cJ.raw h).mono hz
theorem aeP{H:Heap}:
 Fn Tryz.prog 15 #[] H (fun v H'=>Heap.le H H'∧v = .bool true):=by
 refine aU (args:=[]) Tryz.func15 rfl rfl Tryz.ntmps15 rfl rfl fun w0=> ?_;refine ag [] rfl ?_;refine ae ?_;refine vr 1 ?_;refine ab [] ?_;refine ae ?_;refine ar rfl rfl (Fn.rc (yN (n:=0) (by decide) (by decide))) ?_;rintro _ H1 ⟨CF,t0,rfl,N8⟩
 replace N8:bN H1 t0.v (0:Rat) 2:=N7 N8 (show aJ (0:Rat)≤2 by decide)
 refine ar rfl rfl (Fn.rc (yN (n:=1) (by decide) (by decide))) ?_;rintro _ H2 ⟨U5,t1,rfl,N9⟩
 replace N9:bN H2 t1.v (1:Rat) 2:=N7 N9 (show aJ (1:Rat)≤2 by decide)
 refine ar rfl rfl (Fn.rc (yN (n:=2) (by decide) (by decide))) ?_;rintro _ H3 ⟨D5,t2,rfl,FW⟩
 replace FW:bN H3 t2.v (2:Rat) 2:=N7 FW (show aJ (2:Rat)≤2 by decide)
 have z0:=(N8.le U5).le D5;have z1:=N9.le D5;have l03:=CF.trans (U5.trans D5);refine bh cM rfl ?_;refine bh cM rfl ?_;refine bh cM rfl ?_;obtain⟨ti,aj,ak⟩:=bM;refine aG (.inl ⟨rfl,rfl⟩) rfl rfl rfl aj ak rfl rfl rfl ?_;obtain⟨ti,aj,ak⟩:=bM;refine aG (.inl ⟨rfl,rfl⟩) rfl rfl rfl aj ak rfl rfl rfl ?_;obtain⟨ti,aj,ak⟩:=bM;refine aG (.inl ⟨rfl,rfl⟩) rfl rfl rfl aj ak rfl rfl rfl ?_;refine ab [1,2,3] ?_;refine ae ?_;refine dM Tryz.underlying22 C1 rfl rfl rfl rfl rfl rfl rfl ?_;intro ga yL;have hF:=aeT (H:=H3) (g:=ga) (a:=false) (b:=false);have la:=Heap.bC (whole (cT [.bool false,.bool false]) 4) yL
 show aO _ _ _ _ _ _ (ins H3 ga (whole (cT [.bool false,.bool false]) 4)) _
 generalize ins H3 ga (whole (cT [.bool false,.bool false]) 4)=Ha at hF la⊢
 refine vr 2 ?_;refine dM Tryz.underlying26 cM rfl rfl rfl rfl rfl rfl rfl ?_;intro gb bW;have hC:=FV (N:=2) bW (z1.le la) (z1.le la);have lb:=Heap.bC (whole (cT [t1.v,t1.v]) 31) bW
 show aO _ _ _ _ _ _ (ins Ha gb (whole (cT [t1.v,t1.v]) 31)) _
 generalize ins Ha gb (whole (cT [t1.v,t1.v]) 31)=Hb at hC lb⊢
 refine vr 1 ?_;refine dW af rfl gY rfl rfl ?_;refine dM Tryz.underlying23 gY rfl rfl rfl rfl rfl rfl rfl ?_;intro gc qm;have hR:=aeU (a:=[1,1]) (z:=3) qm hC ((FW.le la).le lb);have lc:=Heap.bC (whole (cT [.agg #[.slice (some ⟨gb,0,none⟩) 2 2,.int .i64 3,.bool t2.f,.slice t2.A1 t2.m1 t2.c1,.slice t2.A2 t2.m2 t2.c2]]) 78) qm;have hP:cN 2 _ (.agg #[.slice (some ⟨ga,0,none⟩) 2 2,.slice (some ⟨gc,0,none⟩) 1 1]) ju:=⟨_,_,rfl,(hF.le qt lb).le qt lc,hR⟩;have Cl:=la.trans (lb.trans lc)
 change cN 2 (ins Hb gc (whole (cT [.agg #[.slice (some ⟨gb,0,none⟩) 2 2,.int .i64 3,.bool t2.f,.slice t2.A1 t2.m1 t2.c1,.slice t2.A2 t2.m2 t2.c2]]) 78)) _ _ at hP
 show aO _ _ _ _ _ _ (ins Hb gc (whole (cT [.agg #[.slice (some ⟨gb,0,none⟩) 2 2,.int .i64 3,.bool t2.f,.slice t2.A1 t2.m1 t2.c1,.slice t2.A2 t2.m2 t2.c2]]) 78)) _
 generalize ins Hb gc (whole (cT [.agg #[.slice (some ⟨gb,0,none⟩) 2 2,.int .i64 3,.bool t2.f,.slice t2.A1 t2.m1 t2.c1,.slice t2.A2 t2.m2 t2.c2]]) 78)=Hc at hP Cl⊢
 refine dW af rfl lA rfl rfl ?_;refine bh lA rfl ?_;obtain⟨ti,aj,ak⟩:=jU;refine aG (.inl ⟨rfl,rfl⟩) rfl rfl rfl aj ak rfl rfl rfl ?_;refine ab [1,2,3,4] ?_;refine ae ?_;refine vr 3 ?_;refine dM Tryz.underlying26 cM rfl rfl rfl rfl rfl rfl rfl ?_;intro gd iW;have U6:=FV (N:=2) iW (z1.le Cl) (z0.le Cl);have ld:=Heap.bC (whole (cT [t1.v,t0.v]) 31) iW
 show aO _ _ _ _ _ _ (ins Hc gd (whole (cT [t1.v,t0.v]) 31)) _
 generalize ins Hc gd (whole (cT [t1.v,t0.v]) 31)=Hd at U6 ld⊢
 refine vr 2 ?_;refine dM Tryz.underlying26 cM rfl rfl rfl rfl rfl rfl rfl ?_;intro ge vy;have U7:=FV (N:=2) vy ((z0.le Cl).le ld) ((z1.le Cl).le ld);have le:=Heap.bC (whole (cT [t0.v,t1.v]) 31) vy
 show aO _ _ _ _ _ _ (ins Hd ge (whole (cT [t0.v,t1.v]) 31)) _
 generalize ins Hd ge (whole (cT [t0.v,t1.v]) 31)=He at U7 le⊢
 refine dM Tryz.underlying40 xR rfl rfl rfl rfl rfl rfl rfl ?_;intro gf U8;have hO:=aeS (N:=2) (a:=[1,0]) (b:=[0,1]) U8 (U6.le (a8 2) le) U7;have lf:=Heap.bC (whole (cT [.slice (some ⟨gd,0,none⟩) 2 2,.slice (some ⟨ge,0,none⟩) 2 2]) 26) U8
 change gB 2 (ins He gf (whole (cT [.slice (some ⟨gd,0,none⟩) 2 2,.slice (some ⟨ge,0,none⟩) 2 2]) 26)) _ _ at hO
 show aO _ _ _ _ _ _ (ins He gf (whole (cT [.slice (some ⟨gd,0,none⟩) 2 2,.slice (some ⟨ge,0,none⟩) 2 2]) 26)) _
 generalize ins He gf (whole (cT [.slice (some ⟨gd,0,none⟩) 2 2,.slice (some ⟨ge,0,none⟩) 2 2]) 26)=Hf at hO lf⊢
 have Oa:=ld.trans (le.trans lf);refine ar rfl rfl (U0 (N:=2) (p:=ju) (os:=rH) (hP.le Oa) hO (by decide) (by decide) (fun _=>aeV)) ?_;rintro _ H4 ⟨bE,s,e,rfl,hE,fM⟩;have he:=Jv hE (.inr (.inr (.inr ⟨aeW,rfl⟩)));subst he;obtain⟨h9,_⟩ | ⟨_,S,⟨A1,c1,A2,c2,A3,c3,A4,c4,rfl,qO,dI,ET,za⟩,kf⟩:=fM
 ·exact absurd rfl h9
 obtain⟨dH,kM⟩:=aet kf.HG aeX;obtain⟨st,vs,x,ds,ry⟩:=S
 simp only at dH kM
 subst dH;subst kM
 simp only at qO
 have l34:=Cl.trans (Oa.trans bE);refine vr 3 ?_;refine bh pS rfl ?_;obtain⟨ti,aj,ak⟩:=kP;refine aG (.inl ⟨rfl,rfl⟩) rfl rfl rfl aj ak rfl rfl rfl ?_;refine vr 1 ?_;refine ab [1,3,4,5,6] ?_;refine ae ?_;refine vr 1 ?_;refine ar rfl rfl (aeY (N:=2) (l:=[0,1]) ((hP.le Oa).le bE) (by decide) (fun _=>aeZ)) ?_;rintro _ H5 ⟨cA,B,k,cb,e,rfl,fM⟩;obtain⟨h9,_⟩ | ⟨_,⟨j,hj⟩,_⟩ | ⟨_,_,h9,_⟩ | ⟨_,_,rfl,y,hy,hys⟩:=fM
 ·exact absurd U9 h9
 ·exact absurd hj (by match j with | 0=>decide | 1=>decide | j+2=>simp[ju])
 ·exact absurd Cm (h9 _)
 have El:=aeC hy ae0 rfl hy.meets Cm;subst El;have FX:=l34.trans cA;refine vr 5 ?_;refine ab [1,3,5,6,7,8] ?_;refine ae ?_;refine vr 9 ?_;refine ax true rfl rfl (dz rfl) ?_;refine vr 6 ?_;refine dM Tryz.underlying26 cM rfl rfl rfl rfl rfl rfl rfl ?_;intro gg wi;have hW:=(FV (N:=2) wi (z0.le FX) (FW.le FX)).mono (P':=aS KX) fun _ _ h=>aS.mono h (by decide);have lg:=Heap.bC (whole (cT [t0.v,t2.v]) 31) wi
 show aO _ _ _ _ _ _ (ins H5 gg (whole (cT [t0.v,t2.v]) 31)) _
 generalize ins H5 gg (whole (cT [t0.v,t2.v]) 31)=Hg at hW lg⊢
 refine ar rfl rfl (Va (l:=[0,2]) ((qO.le (a8 KX) cA).le (a8 KX) lg) hW (by decide) (by decide)) ?_;rintro _ H6 ⟨fh,rfl⟩;have JA:=lg.trans fh;refine vr 5 ?_;refine dM Tryz.underlying26 cM rfl rfl rfl rfl rfl rfl rfl ?_;intro gh Vb;have Vc:=(FV (N:=2) Vb ((z0.le FX).le JA) ((FW.le FX).le JA)).mono (P':=aS KX) fun _ _ h=>aS.mono h (by decide);have lh:=Heap.bC (whole (cT [t0.v,t2.v]) 31) Vb
 show aO _ _ _ _ _ _ (ins H6 gh (whole (cT [t0.v,t2.v]) 31)) _
 generalize ins H6 gh (whole (cT [t0.v,t2.v]) 31)=Hh at Vc lh⊢
 refine ar rfl rfl (Va (l:=[0,2]) ((hys.le (a8 KX) JA).le (a8 KX) lh) Vc (by decide) (by decide)) ?_;rintro _ H7 ⟨gw,rfl⟩;refine vr 2 ?_;refine ab [0] ?_;refine aq ⟨.inr rfl,_,.tmp rfl (.nil),?_⟩;exact⟨l03.trans (FX.trans (JA.trans (lh.trans gw))),rfl⟩
end Go.ay
