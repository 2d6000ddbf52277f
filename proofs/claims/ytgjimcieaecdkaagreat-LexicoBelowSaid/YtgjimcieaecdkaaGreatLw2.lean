/- law23's sane. -/
import Derived.Test.YtgjimcieaecdkaaGreatA10
import Derived.Test.YtgjimcieaecdkaaGreatLw1
import Derived.Test.YtgjimcieaecdkaaGreatSn3
import Derived.Test.YtgjimcieaecdkaaGreatSame
set_option linter.unusedVariables false
namespace Go.ar
open Go.Proofs Num Lp
theorem Cr{H:Heap}{N g:Nat}{t u:RC}{a b:Rat}(hg:H g=none)(h1:bL H t.v a N)(h2:bL H u.v b N):aH (bJ N) 3 (ins H g (whole (cz [t.v,u.v]) 29)) (.slice (some ⟨g,0,none⟩) 2 2) [a,b]:=
 ⟨_,2,_,rfl,Nat.le_refl _,eH _ _ _ _ _ _,KG (P:=bJ N _) (vs:=[.bool t.f,.slice t.A1 t.m1 t.c1,.slice t.A2 t.m2 t.c2]) (bL.le h1 (Heap.a0 _ hg)) rfl (iq (P:=bJ N _) (vs:=[.bool u.f,.slice u.A1 u.m1 u.c1,.slice u.A2 u.m2 u.c2]) (bL.le h2 (Heap.a0 _ hg)) rfl)⟩
theorem abH{H:Heap}{N g:Nat}{A B:Option Addr}{c d:Nat}{a b:List Rat}(hg:H g=none)(h1:aH (bJ N) 3 H (.slice A a.length c) a)(h2:aH (bJ N) 3 H (.slice B b.length d) b):mg N (ins H g (whole (cz [.slice A a.length c,.slice B b.length d]) 26)) (.slice (some ⟨g,0,none⟩) 2 2) [a,b]:=
 ⟨_,2,_,rfl,Nat.le_refl _,eH _ _ _ _ _ _,KG (P:=m9 N _) (vs:=[.slice A a.length c]) ⟨_,_,rfl,h1.le (cD N) (Heap.a0 _ hg)⟩ rfl (iq (P:=m9 N _) (vs:=[.slice B b.length d]) ⟨_,_,rfl,h2.le (cD N) (Heap.a0 _ hg)⟩ rfl)⟩
theorem abI{H:Heap}{g:Nat}{a b:Bool}:aH mW 1 (ins H g (whole (cz [.bool a,.bool b]) 4)) (.slice (some ⟨g,0,none⟩) 2 2) [a,b]:=
 ⟨_,2,_,rfl,Nat.le_refl _,eH _ _ _ _ _ _,KG (P:=mW _) (vs:=[.bool a]) rfl rfl (iq (P:=mW _) (vs:=[.bool b]) rfl rfl)⟩
theorem abJ{H:Heap}{N g:Nat}{A:Option Addr}{c:Nat}{a:List Rat}{z:Int}{t:RC}{b:Rat}(hg:H g=none)(h1:aH (bJ N) 3 H (.slice A a.length c) a)(h2:bL H t.v b N):aH (ez N) 5 (ins H g (whole (cz [.agg #[.slice A a.length c,.int .i64 z,.bool t.f,.slice t.A1 t.m1 t.c1,.slice t.A2 t.m2 t.c2]]) 31)) (.slice (some ⟨g,0,none⟩) 1 1) [(a,z,b)]:=
 ⟨_,1,_,rfl,Nat.le_refl _,eH _ _ _ _ _ _,iq (P:=ez N _) (vs:=[.slice A a.length c,.int .i64 z,.bool t.f,.slice t.A1 t.m1 t.c1,.slice t.A2 t.m2 t.c2]) ⟨_,_,_,_,rfl,h1.le (cD N) (Heap.a0 _ hg),bL.le h2 (Heap.a0 _ hg)⟩ rfl⟩
theorem KT{H:Heap}{v:Value}{q:Rat}(h:dI H v q)(hz:aK q≤2):bL H v q 2:=(dI.raw h).mono hz
theorem abK{H:Heap}:
 Fn Tryz.prog 9 #[] H (fun v H'=>Heap.le H H'∧v = .bool true):=by
 refine aW (args:=[]) Tryz.func9 rfl rfl Tryz.ntmps9 rfl rfl fun w0=> ?_;refine aj [] rfl ?_;refine af (ab 1 rfl (ae [] ?_));refine af (au rfl rfl (Fn.rc (I6 (n:=0) (by decide) (by decide))) ?_);rintro _ H1 ⟨y9,t0,rfl,KU⟩
 replace KU:bL H1 t0.v (0:Rat) 2:=KT KU (show aK (0:Rat)≤2 by decide)
 refine au rfl rfl (Fn.rc (I6 (n:=1) (by decide) (by decide))) ?_;rintro _ H2 ⟨Ry,t1,rfl,KV⟩
 replace KV:bL H2 t1.v (1:Rat) 2:=KT KV (show aK (1:Rat)≤2 by decide)
 refine au rfl rfl (Fn.rc (I6 (n:=2) (by decide) (by decide))) ?_;rintro _ H3 ⟨AK,t2,rfl,Cs⟩
 replace Cs:bL H3 t2.v (2:Rat) 2:=KT Cs (show aK (2:Rat)≤2 by decide)
 have z0:=(KU.le Ry).le AK;have z1:=KV.le AK;have l03:=y9.trans (Ry.trans AK);refine bD cZ rfl (bD cZ rfl (bD cZ rfl ?_));obtain⟨ti,ak,al⟩:=bT;refine aM (.inl ⟨rfl,rfl⟩) rfl rfl rfl ak al rfl rfl rfl ?_;obtain⟨ti,ak,al⟩:=bT;refine aM (.inl ⟨rfl,rfl⟩) rfl rfl rfl ak al rfl rfl rfl ?_;obtain⟨ti,ak,al⟩:=bT;refine aM (.inl ⟨rfl,rfl⟩) rfl rfl rfl ak al rfl rfl rfl (ae [1,2,3] ?_);refine af (cU Tryz.underlying22 C9 rfl rfl rfl rfl rfl rfl rfl ?_);intro ga vD;have hF:=abI (H:=H3) (g:=ga) (a:=false) (b:=false);have la:=Heap.a0 (whole (cz [.bool false,.bool false]) 4) vD
 show aE _ _ _ _ _ _ (ins H3 ga (whole (cz [.bool false,.bool false]) 4)) _
 generalize ins H3 ga (whole (cz [.bool false,.bool false]) 4)=Ha at hF la⊢
 refine ab 2 rfl (cU Tryz.underlying26 cZ rfl rfl rfl rfl rfl rfl rfl ?_);intro gb bH;have hC:=Cr (N:=2) bH (z1.le la) (z1.le la);have lb:=Heap.a0 (whole (cz [t1.v,t1.v]) 29) bH
 show aE _ _ _ _ _ _ (ins Ha gb (whole (cz [t1.v,t1.v]) 29)) _
 generalize ins Ha gb (whole (cz [t1.v,t1.v]) 29)=Hb at hC lb⊢
 refine ab 1 rfl (dH ag rfl gU rfl rfl (cU Tryz.underlying23 gU rfl rfl rfl rfl rfl rfl rfl ?_));intro gc nW;have hR:=abJ (a:=[1,1]) (z:=3) nW hC ((Cs.le la).le lb);have lc:=Heap.a0 (whole (cz [.agg #[.slice (some ⟨gb,0,none⟩) 2 2,.int .i64 3,.bool t2.f,.slice t2.A1 t2.m1 t2.c1,.slice t2.A2 t2.m2 t2.c2]]) 31) nW;have hP:dE 2 _ (.agg #[.slice (some ⟨ga,0,none⟩) 2 2,.slice (some ⟨gc,0,none⟩) 1 1]) gE:=⟨_,_,rfl,(hF.le qm lb).le qm lc,hR⟩;have yO:=la.trans (lb.trans lc)
 change dE 2 (ins Hb gc (whole (cz [.agg #[.slice (some ⟨gb,0,none⟩) 2 2,.int .i64 3,.bool t2.f,.slice t2.A1 t2.m1 t2.c1,.slice t2.A2 t2.m2 t2.c2]]) 31)) _ _ at hP
 show aE _ _ _ _ _ _ (ins Hb gc (whole (cz [.agg #[.slice (some ⟨gb,0,none⟩) 2 2,.int .i64 3,.bool t2.f,.slice t2.A1 t2.m1 t2.c1,.slice t2.A2 t2.m2 t2.c2]]) 31)) _
 generalize ins Hb gc (whole (cz [.agg #[.slice (some ⟨gb,0,none⟩) 2 2,.int .i64 3,.bool t2.f,.slice t2.A1 t2.m1 t2.c1,.slice t2.A2 t2.m2 t2.c2]]) 31)=Hc at hP yO⊢
 refine dH ag rfl oG rfl rfl (bD oG rfl ?_);obtain⟨ti,ak,al⟩:=qM;refine aM (.inl ⟨rfl,rfl⟩) rfl rfl rfl ak al rfl rfl rfl (ae [1,2,3,4] ?_);refine af (ab 3 rfl (cU Tryz.underlying26 cZ rfl rfl rfl rfl rfl rfl rfl ?_));intro gd ie;have Rz:=Cr (N:=2) ie (z1.le yO) (z0.le yO);have ld:=Heap.a0 (whole (cz [t1.v,t0.v]) 29) ie
 show aE _ _ _ _ _ _ (ins Hc gd (whole (cz [t1.v,t0.v]) 29)) _
 generalize ins Hc gd (whole (cz [t1.v,t0.v]) 29)=Hd at Rz ld⊢
 refine ab 2 rfl (cU Tryz.underlying26 cZ rfl rfl rfl rfl rfl rfl rfl ?_);intro ge wI;have RA:=Cr (N:=2) wI ((z0.le yO).le ld) ((z1.le yO).le ld);have le:=Heap.a0 (whole (cz [t0.v,t1.v]) 29) wI
 show aE _ _ _ _ _ _ (ins Hd ge (whole (cz [t0.v,t1.v]) 29)) _
 generalize ins Hd ge (whole (cz [t0.v,t1.v]) 29)=He at RA le⊢
 refine cU Tryz.underlying75 wL rfl rfl rfl rfl rfl rfl rfl ?_;intro gf RB;have hO:=abH (N:=2) (a:=[1,0]) (b:=[0,1]) RB (Rz.le (cD 2) le) RA;have lf:=Heap.a0 (whole (cz [.slice (some ⟨gd,0,none⟩) 2 2,.slice (some ⟨ge,0,none⟩) 2 2]) 26) RB
 change mg 2 (ins He gf (whole (cz [.slice (some ⟨gd,0,none⟩) 2 2,.slice (some ⟨ge,0,none⟩) 2 2]) 26)) _ _ at hO
 show aE _ _ _ _ _ _ (ins He gf (whole (cz [.slice (some ⟨gd,0,none⟩) 2 2,.slice (some ⟨ge,0,none⟩) 2 2]) 26)) _
 generalize ins He gf (whole (cz [.slice (some ⟨gd,0,none⟩) 2 2,.slice (some ⟨ge,0,none⟩) 2 2]) 26)=Hf at hO lf⊢
 have lE:=ld.trans (le.trans lf);refine au rfl rfl (abL (N:=2) (p:=gE) (os:=pe) (hP.le lE) hO (by decide) (by decide) (fun _=>abM)) ?_;rintro _ H4 ⟨eZ,s,e,rfl,hE,fe⟩;have he:=abN hE (.inr (.inr (.inr ⟨abO,rfl⟩)));subst he;obtain⟨h9,_⟩ | ⟨_,S,⟨A1,c1,A2,c2,A3,c3,A4,c4,rfl,oJ,de,BH,vN⟩,jN⟩:=fe
 ·exact absurd rfl h9
 obtain⟨dO,ko⟩:=abt jN.Ej abP;obtain⟨st,vs,x,ds,ry⟩:=S
 simp only at dO ko
 subst dO;subst ko
 simp only at oJ
 have l34:=yO.trans (lE.trans eZ);refine ab 3 rfl (bD qO rfl ?_);obtain⟨ti,ak,al⟩:=kT;refine aM (.inl ⟨rfl,rfl⟩) rfl rfl rfl ak al rfl rfl rfl (ab 1 rfl (ae [1,3,4,5,6] ?_));refine af (ab 1 rfl (au rfl rfl (F6 (N:=2) (l:=[0,1]) ((hP.le lE).le eZ) (by decide) (fun _=>abQ)) ?_));rintro _ H5 ⟨gL,B,k,cb,e,rfl,fe⟩;obtain⟨h9,_⟩ | ⟨_,⟨j,hj⟩,_⟩ | ⟨_,_,h9,_⟩ | ⟨_,_,rfl,y,hy,rM⟩:=fe
 ·exact absurd RD h9
 ·exact absurd hj (by match j with | 0=>decide | 1=>decide | j+2=>simp[gE])
 ·exact absurd yP (h9 _)
 have A7:=KS hy abR rfl hy.meets yP;subst A7;have Ct:=l34.trans gL;refine ab 5 rfl (ae [1,3,5,6,7,8] ?_);refine af (ab 9 rfl (aS true rfl rfl (lM rfl) (ab 6 rfl (cU Tryz.underlying26 cZ rfl rfl rfl rfl rfl rfl rfl ?_))));intro gg s6;have hW:=(Cr (N:=2) s6 (z0.le Ct) (Cs.le Ct)).mono (P':=bJ KX) fun _ _ h=>bJ.mono h (by decide);have lg:=Heap.a0 (whole (cz [t0.v,t2.v]) 29) s6
 show aE _ _ _ _ _ _ (ins H5 gg (whole (cz [t0.v,t2.v]) 29)) _
 generalize ins H5 gg (whole (cz [t0.v,t2.v]) 29)=Hg at hW lg⊢
 refine au rfl rfl (F9 (l:=[0,2]) ((oJ.le (cD KX) gL).le (cD KX) lg) hW (by decide) (by decide)) ?_;rintro _ H6 ⟨iQ,rfl⟩;have Ga:=lg.trans iQ;refine ab 5 rfl (cU Tryz.underlying26 cZ rfl rfl rfl rfl rfl rfl rfl ?_);intro gh RE;have RF:=(Cr (N:=2) RE ((z0.le Ct).le Ga) ((Cs.le Ct).le Ga)).mono (P':=bJ KX) fun _ _ h=>bJ.mono h (by decide);have lh:=Heap.a0 (whole (cz [t0.v,t2.v]) 29) RE
 show aE _ _ _ _ _ _ (ins H6 gh (whole (cz [t0.v,t2.v]) 29)) _
 generalize ins H6 gh (whole (cz [t0.v,t2.v]) 29)=Hh at RF lh⊢
 refine au rfl rfl (F9 (l:=[0,2]) ((rM.le (cD KX) Ga).le (cD KX) lh) RF (by decide) (by decide)) ?_;rintro _ H7 ⟨fW,rfl⟩;refine ab 2 rfl (ae [0] ?_);refine aw ⟨.inr rfl,_,.tmp rfl (.nil),?_⟩;exact⟨l03.trans (Ct.trans (Ga.trans (lh.trans fW))),rfl⟩
end Go.ar
