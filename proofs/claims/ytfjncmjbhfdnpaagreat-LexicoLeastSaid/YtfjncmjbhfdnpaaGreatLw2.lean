/- law23's sane. -/
import Derived.Test.YtfjncmjbhfdnpaaGreatA14
import Derived.Test.YtfjncmjbhfdnpaaGreatLw1
import Derived.Test.YtfjncmjbhfdnpaaGreatSn3
import Derived.Test.YtfjncmjbhfdnpaaGreatSame
set_option linter.unusedVariables false
namespace Go.au
open Go.Proofs Num Lp
theorem JO{H:Heap}{N g:Nat}{t u:RC}{a b:Rat}(hg:H g=none)(h1:cn H t.v a N)(h2:cn H u.v b N):aR (bN N) 3 (ins H g (whole (cG [t.v,u.v]) 31)) (.slice (some ⟨g,0,none⟩) 2 2) [a,b]:=
 ⟨_,2,_,rfl,Nat.le_refl _,dD _ _ _ _ _ _,Su (P:=bN N _) (vs:=[.bool t.f,.slice t.A1 t.m1 t.c1,.slice t.A2 t.m2 t.c2]) (cn.le h1 (Heap.bB _ hg)) rfl (iP (P:=bN N _) (vs:=[.bool u.f,.slice u.A1 u.m1 u.c1,.slice u.A2 u.m2 u.c2]) (cn.le h2 (Heap.bB _ hg)) rfl)⟩
theorem alB{H:Heap}{N g:Nat}{A B:Option Addr}{c d:Nat}{a b:List Rat}(hg:H g=none)(h1:aR (bN N) 3 H (.slice A a.length c) a)(h2:aR (bN N) 3 H (.slice B b.length d) b):qh N (ins H g (whole (cG [.slice A a.length c,.slice B b.length d]) 26)) (.slice (some ⟨g,0,none⟩) 2 2) [a,b]:=
 ⟨_,2,_,rfl,Nat.le_refl _,dD _ _ _ _ _ _,Su (P:=sV N _) (vs:=[.slice A a.length c]) ⟨_,_,rfl,h1.le (dI N) (Heap.bB _ hg)⟩ rfl (iP (P:=sV N _) (vs:=[.slice B b.length d]) ⟨_,_,rfl,h2.le (dI N) (Heap.bB _ hg)⟩ rfl)⟩
theorem alC{H:Heap}{g:Nat}{a b:Bool}:aR qO 1 (ins H g (whole (cG [.bool a,.bool b]) 4)) (.slice (some ⟨g,0,none⟩) 2 2) [a,b]:=
 ⟨_,2,_,rfl,Nat.le_refl _,dD _ _ _ _ _ _,Su (P:=qO _) (vs:=[.bool a]) rfl rfl (iP (P:=qO _) (vs:=[.bool b]) rfl rfl)⟩
theorem alD{H:Heap}{N g:Nat}{A:Option Addr}{c:Nat}{a:List Rat}{z:Int}{t:RC}{b:Rat}(hg:H g=none)(h1:aR (bN N) 3 H (.slice A a.length c) a)(h2:cn H t.v b N):aR (fu N) 5 (ins H g (whole (cG [.agg #[.slice A a.length c,.int .i64 z,.bool t.f,.slice t.A1 t.m1 t.c1,.slice t.A2 t.m2 t.c2]]) 78)) (.slice (some ⟨g,0,none⟩) 1 1) [(a,z,b)]:=
 ⟨_,1,_,rfl,Nat.le_refl _,dD _ _ _ _ _ _,iP (P:=fu N _) (vs:=[.slice A a.length c,.int .i64 z,.bool t.f,.slice t.A1 t.m1 t.c1,.slice t.A2 t.m2 t.c2]) ⟨_,_,_,_,rfl,h1.le (dI N) (Heap.bB _ hg),cn.le h2 (Heap.bB _ hg)⟩ rfl⟩
theorem UA{H:Heap}{v:Value}{q:Rat}(h:bJ H v q)(hz:aO q≤2):cn H v q 2:=(bJ.raw h).mono hz
theorem alm{H:Heap}:
 Fn Tryz.prog 15 #[] H (fun v H'=>Heap.le H H'∧v = .bool true):=by
 refine a7 (args:=[]) Tryz.func15 rfl rfl Tryz.ntmps15 rfl rfl fun w0=> ?_;refine aj [] rfl ?_;refine ag (ab 1 rfl (ae [] ?_));refine ag (aE rfl rfl (Fn.rc (pX (n:=0) (by decide) (by decide))) ?_);rintro _ H1 ⟨Fw,t0,rfl,UB⟩
 replace UB:cn H1 t0.v (0:Rat) 2:=UA UB (show aO (0:Rat)≤2 by decide)
 refine aE rfl rfl (Fn.rc (pX (n:=1) (by decide) (by decide))) ?_;rintro _ H2 ⟨hH2,t1,rfl,UC⟩
 replace UC:cn H2 t1.v (1:Rat) 2:=UA UC (show aO (1:Rat)≤2 by decide)
 refine aE rfl rfl (Fn.rc (pX (n:=2) (by decide) (by decide))) ?_;rintro _ H3 ⟨Hj,t2,rfl,JP⟩
 replace JP:cn H3 t2.v (2:Rat) 2:=UA JP (show aO (2:Rat)≤2 by decide)
 have z0:=(UB.le hH2).le Hj;have z1:=UC.le Hj;have l03:=Fw.trans (hH2.trans Hj);refine bt bY rfl (bt bY rfl (bt bY rfl ?_));obtain⟨ti,ak,al⟩:=aY;refine aH (.inl ⟨rfl,rfl⟩) rfl rfl rfl ak al rfl rfl rfl ?_;obtain⟨ti,ak,al⟩:=aY;refine aH (.inl ⟨rfl,rfl⟩) rfl rfl rfl ak al rfl rfl rfl ?_;obtain⟨ti,ak,al⟩:=aY;refine aH (.inl ⟨rfl,rfl⟩) rfl rfl rfl ak al rfl rfl rfl (ae [1,2,3] ?_);refine ag (cW Tryz.underlying22 Kn rfl rfl rfl rfl rfl rfl rfl ?_);intro ga BN;have hF:=alC (H:=H3) (g:=ga) (a:=false) (b:=false);have la:=Heap.bB (whole (cG [.bool false,.bool false]) 4) BN
 show aP _ _ _ _ _ _ (ins H3 ga (whole (cG [.bool false,.bool false]) 4)) _
 generalize ins H3 ga (whole (cG [.bool false,.bool false]) 4)=Ha at hF la⊢
 refine ab 2 rfl (cW Tryz.underlying26 bY rfl rfl rfl rfl rfl rfl rfl ?_);intro gb bx;have hC:=JO (N:=2) bx (z1.le la) (z1.le la);have lb:=Heap.bB (whole (cG [t1.v,t1.v]) 31) bx
 show aP _ _ _ _ _ _ (ins Ha gb (whole (cG [t1.v,t1.v]) 31)) _
 generalize ins Ha gb (whole (cG [t1.v,t1.v]) 31)=Hb at hC lb⊢
 refine ab 1 rfl (dy ah rfl gY rfl rfl (cW Tryz.underlying23 gY rfl rfl rfl rfl rfl rfl rfl ?_));intro gc j9;have hR:=alD (a:=[1,1]) (z:=3) j9 hC ((JP.le la).le lb);have lc:=Heap.bB (whole (cG [.agg #[.slice (some ⟨gb,0,none⟩) 2 2,.int .i64 3,.bool t2.f,.slice t2.A1 t2.m1 t2.c1,.slice t2.A2 t2.m2 t2.c2]]) 78) j9;have hP:eH 2 _ (.agg #[.slice (some ⟨ga,0,none⟩) 2 2,.slice (some ⟨gc,0,none⟩) 1 1]) km:=⟨_,_,rfl,(hF.le qP lb).le qP lc,hR⟩;have Fg:=la.trans (lb.trans lc)
 change eH 2 (ins Hb gc (whole (cG [.agg #[.slice (some ⟨gb,0,none⟩) 2 2,.int .i64 3,.bool t2.f,.slice t2.A1 t2.m1 t2.c1,.slice t2.A2 t2.m2 t2.c2]]) 78)) _ _ at hP
 show aP _ _ _ _ _ _ (ins Hb gc (whole (cG [.agg #[.slice (some ⟨gb,0,none⟩) 2 2,.int .i64 3,.bool t2.f,.slice t2.A1 t2.m1 t2.c1,.slice t2.A2 t2.m2 t2.c2]]) 78)) _
 generalize ins Hb gc (whole (cG [.agg #[.slice (some ⟨gb,0,none⟩) 2 2,.int .i64 3,.bool t2.f,.slice t2.A1 t2.m1 t2.c1,.slice t2.A2 t2.m2 t2.c2]]) 78)=Hc at hP Fg⊢
 refine dy ah rfl uL rfl rfl (bt uL rfl ?_);obtain⟨ti,ak,al⟩:=wk;refine aH (.inl ⟨rfl,rfl⟩) rfl rfl rfl ak al rfl rfl rfl (ae [1,2,3,4] ?_);refine ag (ab 3 rfl (cW Tryz.underlying26 bY rfl rfl rfl rfl rfl rfl rfl ?_));intro gd ju;have hO1:=JO (N:=2) ju (z1.le Fg) (z0.le Fg);have ld:=Heap.bB (whole (cG [t1.v,t0.v]) 31) ju
 show aP _ _ _ _ _ _ (ins Hc gd (whole (cG [t1.v,t0.v]) 31)) _
 generalize ins Hc gd (whole (cG [t1.v,t0.v]) 31)=Hd at hO1 ld⊢
 refine ab 2 rfl (cW Tryz.underlying26 bY rfl rfl rfl rfl rfl rfl rfl ?_);intro ge Kh;have hO2:=JO (N:=2) Kh ((z0.le Fg).le ld) ((z1.le Fg).le ld);have le:=Heap.bB (whole (cG [t0.v,t1.v]) 31) Kh
 show aP _ _ _ _ _ _ (ins Hd ge (whole (cG [t0.v,t1.v]) 31)) _
 generalize ins Hd ge (whole (cG [t0.v,t1.v]) 31)=He at hO2 le⊢
 refine cW Tryz.underlying40 rE rfl rfl rfl rfl rfl rfl rfl ?_;intro gf hgf;have hO:=alB (N:=2) (a:=[1,0]) (b:=[0,1]) hgf (hO1.le (dI 2) le) hO2;have lf:=Heap.bB (whole (cG [.slice (some ⟨gd,0,none⟩) 2 2,.slice (some ⟨ge,0,none⟩) 2 2]) 26) hgf
 change qh 2 (ins He gf (whole (cG [.slice (some ⟨gd,0,none⟩) 2 2,.slice (some ⟨ge,0,none⟩) 2 2]) 26)) _ _ at hO
 show aP _ _ _ _ _ _ (ins He gf (whole (cG [.slice (some ⟨gd,0,none⟩) 2 2,.slice (some ⟨ge,0,none⟩) 2 2]) 26)) _
 generalize ins He gf (whole (cG [.slice (some ⟨gd,0,none⟩) 2 2,.slice (some ⟨ge,0,none⟩) 2 2]) 26)=Hf at hO lf⊢
 have rh:=ld.trans (le.trans lf);refine aE rfl rfl (alE (N:=2) (p:=km) (os:=uy) (hP.le rh) hO (by decide) (by decide) (fun _=>alF)) ?_;rintro _ H4 ⟨dW,s,e,rfl,hE,iM⟩;have he:=alG hE (.inr (.inr (.inr ⟨alH,rfl⟩)));subst he;obtain⟨h9,_⟩ | ⟨_,S,⟨A1,c1,A2,c2,A3,c3,A4,c4,rfl,oM,dF,HU,B9⟩,mW⟩:=iM
 ·exact absurd rfl h9
 obtain⟨dO,lO⟩:=alo mW.Lk alI;obtain⟨st,vs,x,ds,ry⟩:=S
 simp only at dO lO
 subst dO;subst lO
 simp only at oM
 have l34:=Fg.trans (rh.trans dW);refine ab 3 rfl (bt wm rfl ?_);obtain⟨ti,ak,al⟩:=oF;refine aH (.inl ⟨rfl,rfl⟩) rfl rfl rfl ak al rfl rfl rfl (ab 1 rfl (ae [1,3,4,5,6] ?_));refine ag (ab 1 rfl (aE rfl rfl (abJ (N:=2) (l:=[0,1]) ((hP.le rh).le dW) (by decide) (fun _=>alJ)) ?_));rintro _ H5 ⟨fI,B,k,cb,e,rfl,iM⟩;obtain⟨h9,_⟩ | ⟨_,⟨j,hj⟩,_⟩ | ⟨_,_,h9,_⟩ | ⟨_,_,rfl,y,hy,hys⟩:=iM
 ·exact absurd abP h9
 ·exact absurd hj (by match j with | 0=>decide | 1=>decide | j+2=>simp[km])
 ·exact absurd Fh (h9 _)
 have Eg:=abI hy alK rfl hy.meets Fh;subst Eg;have JQ:=l34.trans fI;refine ab 5 rfl (ae [1,3,5,6,7,8] ?_);refine ag (ab 9 rfl (aI true rfl rfl (jY rfl) (ab 6 rfl (cW Tryz.underlying26 bY rfl rfl rfl rfl rfl rfl rfl ?_))));intro gg zb;have hW:=(JO (N:=2) zb (z0.le JQ) (JP.le JQ)).mono (P':=bN KX) fun _ _ h=>bN.mono h (by decide);have lg:=Heap.bB (whole (cG [t0.v,t2.v]) 31) zb
 show aP _ _ _ _ _ _ (ins H5 gg (whole (cG [t0.v,t2.v]) 31)) _
 generalize ins H5 gg (whole (cG [t0.v,t2.v]) 31)=Hg at hW lg⊢
 refine aE rfl rfl (Uu (l:=[0,2]) ((oM.le (dI KX) fI).le (dI KX) lg) hW (by decide) (by decide)) ?_;rintro _ H6 ⟨rV,rfl⟩;have N9:=lg.trans rV;refine ab 5 rfl (cW Tryz.underlying26 bY rfl rfl rfl rfl rfl rfl rfl ?_);intro gh hgh;have hW2:=(JO (N:=2) hgh ((z0.le JQ).le N9) ((JP.le JQ).le N9)).mono (P':=bN KX) fun _ _ h=>bN.mono h (by decide);have lh:=Heap.bB (whole (cG [t0.v,t2.v]) 31) hgh
 show aP _ _ _ _ _ _ (ins H6 gh (whole (cG [t0.v,t2.v]) 31)) _
 generalize ins H6 gh (whole (cG [t0.v,t2.v]) 31)=Hh at hW2 lh⊢
 refine aE rfl rfl (Uu (l:=[0,2]) ((hys.le (dI KX) N9).le (dI KX) lh) hW2 (by decide) (by decide)) ?_;rintro _ H7 ⟨pc,rfl⟩;refine ab 2 rfl (ae [0] ?_);refine aD ⟨.inr rfl,_,.tmp rfl (.nil),?_⟩;exact⟨l03.trans (JQ.trans (N9.trans (lh.trans pc))),rfl⟩
end Go.au
