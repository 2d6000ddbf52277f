/- law23's sane. -/
import Derived.Test.YtfjncmjbhfdnpaaGreatA14
import Derived.Test.YtfjncmjbhfdnpaaGreatLw1
import Derived.Test.YtfjncmjbhfdnpaaGreatSn3
import Derived.Test.YtfjncmjbhfdnpaaGreatSame
set_option linter.unusedVariables false
namespace Go.aw
open Go.Proofs Num Lp
theorem J0{H:Heap}{N g:Nat}{t u:RC}{a b:Rat}(hg:H g=none)(h1:ct H t.v a N)(h2:ct H u.v b N):aR (bR N) 3 (ins H g (whole (cF [t.v,u.v]) 31)) (.slice (some ⟨g,0,none⟩) 2 2) [a,b]:=
 ⟨_,2,_,rfl,Nat.le_refl _,dE _ _ _ _ _ _,Sk (P:=bR N _) (vs:=[.bool t.f,.slice t.A1 t.m1 t.c1,.slice t.A2 t.m2 t.c2]) (ct.le h1 (Heap.bC _ hg)) rfl (iE (P:=bR N _) (vs:=[.bool u.f,.slice u.A1 u.m1 u.c1,.slice u.A2 u.m2 u.c2]) (ct.le h2 (Heap.bC _ hg)) rfl)⟩
theorem alz{H:Heap}{N g:Nat}{A B:Option Addr}{c d:Nat}{a b:List Rat}(hg:H g=none)(h1:aR (bR N) 3 H (.slice A a.length c) a)(h2:aR (bR N) 3 H (.slice B b.length d) b):jw N (ins H g (whole (cF [.slice A a.length c,.slice B b.length d]) 26)) (.slice (some ⟨g,0,none⟩) 2 2) [a,b]:=
 ⟨_,2,_,rfl,Nat.le_refl _,dE _ _ _ _ _ _,Sk (P:=rF N _) (vs:=[.slice A a.length c]) ⟨_,_,rfl,h1.le (dz N) (Heap.bC _ hg)⟩ rfl (iE (P:=rF N _) (vs:=[.slice B b.length d]) ⟨_,_,rfl,h2.le (dz N) (Heap.bC _ hg)⟩ rfl)⟩
theorem alA{H:Heap}{g:Nat}{a b:Bool}:aR ql 1 (ins H g (whole (cF [.bool a,.bool b]) 4)) (.slice (some ⟨g,0,none⟩) 2 2) [a,b]:=
 ⟨_,2,_,rfl,Nat.le_refl _,dE _ _ _ _ _ _,Sk (P:=ql _) (vs:=[.bool a]) rfl rfl (iE (P:=ql _) (vs:=[.bool b]) rfl rfl)⟩
theorem alB{H:Heap}{N g:Nat}{A:Option Addr}{c:Nat}{a:List Rat}{z:Int}{t:RC}{b:Rat}(hg:H g=none)(h1:aR (bR N) 3 H (.slice A a.length c) a)(h2:ct H t.v b N):aR (fA N) 5 (ins H g (whole (cF [.agg #[.slice A a.length c,.int .i64 z,.bool t.f,.slice t.A1 t.m1 t.c1,.slice t.A2 t.m2 t.c2]]) 78)) (.slice (some ⟨g,0,none⟩) 1 1) [(a,z,b)]:=
 ⟨_,1,_,rfl,Nat.le_refl _,dE _ _ _ _ _ _,iE (P:=fA N _) (vs:=[.slice A a.length c,.int .i64 z,.bool t.f,.slice t.A1 t.m1 t.c1,.slice t.A2 t.m2 t.c2]) ⟨_,_,_,_,rfl,h1.le (dz N) (Heap.bC _ hg),ct.le h2 (Heap.bC _ hg)⟩ rfl⟩
theorem Ux{H:Heap}{v:Value}{q:Rat}(h:bK H v q)(hz:aP q≤2):ct H v q 2:=(bK.raw h).mono hz
theorem alq{H:Heap}:
 Fn Tryz.prog 15 #[] H (fun v H'=>Heap.le H H'∧v = .bool true):=by
 refine aZ (args:=[]) Tryz.func15 rfl rfl Tryz.ntmps15 rfl rfl fun w0=> ?_;refine aj [] rfl ?_;refine ag (ab 1 rfl (ae [] ?_));refine ag (aF rfl rfl (Fn.rc (qZ (n:=0) (by decide) (by decide))) ?_);rintro _ H1 ⟨FI,t0,rfl,Uy⟩
 replace Uy:ct H1 t0.v (0:Rat) 2:=Ux Uy (show aP (0:Rat)≤2 by decide)
 refine aF rfl rfl (Fn.rc (qZ (n:=1) (by decide) (by decide))) ?_;rintro _ H2 ⟨hH2,t1,rfl,Uz⟩
 replace Uz:ct H2 t1.v (1:Rat) 2:=Ux Uz (show aP (1:Rat)≤2 by decide)
 refine aF rfl rfl (Fn.rc (qZ (n:=2) (by decide) (by decide))) ?_;rintro _ H3 ⟨Hz,t2,rfl,J1⟩
 replace J1:ct H3 t2.v (2:Rat) 2:=Ux J1 (show aP (2:Rat)≤2 by decide)
 have z0:=(Uy.le hH2).le Hz;have z1:=Uz.le Hz;have l03:=FI.trans (hH2.trans Hz);refine bn bZ rfl (bn bZ rfl (bn bZ rfl ?_));obtain⟨ti,ak,al⟩:=a6;refine aI (.inl ⟨rfl,rfl⟩) rfl rfl rfl ak al rfl rfl rfl ?_;obtain⟨ti,ak,al⟩:=a6;refine aI (.inl ⟨rfl,rfl⟩) rfl rfl rfl ak al rfl rfl rfl ?_;obtain⟨ti,ak,al⟩:=a6;refine aI (.inl ⟨rfl,rfl⟩) rfl rfl rfl ak al rfl rfl rfl (ae [1,2,3] ?_);refine ag (cR Tryz.underlying22 Gb rfl rfl rfl rfl rfl rfl rfl ?_);intro ga BW;have hF:=alA (H:=H3) (g:=ga) (a:=false) (b:=false);have la:=Heap.bC (whole (cF [.bool false,.bool false]) 4) BW
 show aQ _ _ _ _ _ _ (ins H3 ga (whole (cF [.bool false,.bool false]) 4)) _
 generalize ins H3 ga (whole (cF [.bool false,.bool false]) 4)=Ha at hF la⊢
 refine ab 2 rfl (cR Tryz.underlying26 bZ rfl rfl rfl rfl rfl rfl rfl ?_);intro gb bo;have hC:=J0 (N:=2) bo (z1.le la) (z1.le la);have lb:=Heap.bC (whole (cF [t1.v,t1.v]) 31) bo
 show aQ _ _ _ _ _ _ (ins Ha gb (whole (cF [t1.v,t1.v]) 31)) _
 generalize ins Ha gb (whole (cF [t1.v,t1.v]) 31)=Hb at hC lb⊢
 refine ab 1 rfl (de ah rfl gL rfl rfl (cR Tryz.underlying23 gL rfl rfl rfl rfl rfl rfl rfl ?_));intro gc kg;have hR:=alB (a:=[1,1]) (z:=3) kg hC ((J1.le la).le lb);have lc:=Heap.bC (whole (cF [.agg #[.slice (some ⟨gb,0,none⟩) 2 2,.int .i64 3,.bool t2.f,.slice t2.A1 t2.m1 t2.c1,.slice t2.A2 t2.m2 t2.c2]]) 78) kg;have hP:ea 2 _ (.agg #[.slice (some ⟨ga,0,none⟩) 2 2,.slice (some ⟨gc,0,none⟩) 1 1]) kp:=⟨_,_,rfl,(hF.le sK lb).le sK lc,hR⟩;have Fu:=la.trans (lb.trans lc)
 change ea 2 (ins Hb gc (whole (cF [.agg #[.slice (some ⟨gb,0,none⟩) 2 2,.int .i64 3,.bool t2.f,.slice t2.A1 t2.m1 t2.c1,.slice t2.A2 t2.m2 t2.c2]]) 78)) _ _ at hP
 show aQ _ _ _ _ _ _ (ins Hb gc (whole (cF [.agg #[.slice (some ⟨gb,0,none⟩) 2 2,.int .i64 3,.bool t2.f,.slice t2.A1 t2.m1 t2.c1,.slice t2.A2 t2.m2 t2.c2]]) 78)) _
 generalize ins Hb gc (whole (cF [.agg #[.slice (some ⟨gb,0,none⟩) 2 2,.int .i64 3,.bool t2.f,.slice t2.A1 t2.m1 t2.c1,.slice t2.A2 t2.m2 t2.c2]]) 78)=Hc at hP Fu⊢
 refine de ah rfl p4 rfl rfl (bn p4 rfl ?_);obtain⟨ti,ak,al⟩:=p5;refine aI (.inl ⟨rfl,rfl⟩) rfl rfl rfl ak al rfl rfl rfl (ae [1,2,3,4] ?_);refine ag (ab 3 rfl (cR Tryz.underlying26 bZ rfl rfl rfl rfl rfl rfl rfl ?_));intro gd iA;have hO1:=J0 (N:=2) iA (z1.le Fu) (z0.le Fu);have ld:=Heap.bC (whole (cF [t1.v,t0.v]) 31) iA
 show aQ _ _ _ _ _ _ (ins Hc gd (whole (cF [t1.v,t0.v]) 31)) _
 generalize ins Hc gd (whole (cF [t1.v,t0.v]) 31)=Hd at hO1 ld⊢
 refine ab 2 rfl (cR Tryz.underlying26 bZ rfl rfl rfl rfl rfl rfl rfl ?_);intro ge Kr;have hO2:=J0 (N:=2) Kr ((z0.le Fu).le ld) ((z1.le Fu).le ld);have le:=Heap.bC (whole (cF [t0.v,t1.v]) 31) Kr
 show aQ _ _ _ _ _ _ (ins Hd ge (whole (cF [t0.v,t1.v]) 31)) _
 generalize ins Hd ge (whole (cF [t0.v,t1.v]) 31)=He at hO2 le⊢
 refine cR Tryz.underlying40 rP rfl rfl rfl rfl rfl rfl rfl ?_;intro gf hgf;have hO:=alz (N:=2) (a:=[1,0]) (b:=[0,1]) hgf (hO1.le (dz 2) le) hO2;have lf:=Heap.bC (whole (cF [.slice (some ⟨gd,0,none⟩) 2 2,.slice (some ⟨ge,0,none⟩) 2 2]) 26) hgf
 change jw 2 (ins He gf (whole (cF [.slice (some ⟨gd,0,none⟩) 2 2,.slice (some ⟨ge,0,none⟩) 2 2]) 26)) _ _ at hO
 show aQ _ _ _ _ _ _ (ins He gf (whole (cF [.slice (some ⟨gd,0,none⟩) 2 2,.slice (some ⟨ge,0,none⟩) 2 2]) 26)) _
 generalize ins He gf (whole (cF [.slice (some ⟨gd,0,none⟩) 2 2,.slice (some ⟨ge,0,none⟩) 2 2]) 26)=Hf at hO lf⊢
 have UA:=ld.trans (le.trans lf);refine aF rfl rfl (abM (N:=2) (p:=kp) (os:=uJ) (hP.le UA) hO (by decide) (by decide) (fun _=>alC)) ?_;rintro _ H4 ⟨dV,s,e,rfl,hE,iz⟩;have he:=abN hE (.inr (.inr (.inr ⟨alD,rfl⟩)));subst he;obtain⟨h9,_⟩ | ⟨_,S,⟨A1,c1,A2,c2,A3,c3,A4,c4,rfl,nx,dI,Io,Ch⟩,kS⟩:=iz
 ·exact absurd rfl h9
 obtain⟨dS,kW⟩:=abA kS.GO alE;obtain⟨st,vs,x,ds,ry⟩:=S
 simp only at dS kW
 subst dS;subst kW
 simp only at nx
 have l34:=Fu.trans (UA.trans dV);refine ab 3 rfl (bn uW rfl ?_);obtain⟨ti,ak,al⟩:=nX;refine aI (.inl ⟨rfl,rfl⟩) rfl rfl rfl ak al rfl rfl rfl (ab 1 rfl (ae [1,3,4,5,6] ?_));refine ag (ab 1 rfl (aF rfl rfl (alF (N:=2) (l:=[0,1]) ((hP.le UA).le dV) (by decide) (fun _=>alG)) ?_));rintro _ H5 ⟨gq,B,k,cb,e,rfl,iz⟩;obtain⟨h9,_⟩ | ⟨_,⟨j,hj⟩,_⟩ | ⟨_,_,h9,_⟩ | ⟨_,_,rfl,y,hy,hys⟩:=iz
 ·exact absurd abO h9
 ·exact absurd hj (by match j with | 0=>decide | 1=>decide | j+2=>simp[kp])
 ·exact absurd Fv (h9 _)
 have Ep:=alb hy alH rfl hy.meets Fv;subst Ep;have J2:=l34.trans gq;refine ab 5 rfl (ae [1,3,5,6,7,8] ?_);refine ag (ab 9 rfl (aJ true rfl rfl (jR rfl) (ab 6 rfl (cR Tryz.underlying26 bZ rfl rfl rfl rfl rfl rfl rfl ?_))));intro gg zj;have hW:=(J0 (N:=2) zj (z0.le J2) (J1.le J2)).mono (P':=bR KX) fun _ _ h=>bR.mono h (by decide);have lg:=Heap.bC (whole (cF [t0.v,t2.v]) 31) zj
 show aQ _ _ _ _ _ _ (ins H5 gg (whole (cF [t0.v,t2.v]) 31)) _
 generalize ins H5 gg (whole (cF [t0.v,t2.v]) 31)=Hg at hW lg⊢
 refine aF rfl rfl (Uu (l:=[0,2]) ((nx.le (dz KX) gq).le (dz KX) lg) hW (by decide) (by decide)) ?_;rintro _ H6 ⟨sj,rfl⟩;have N2:=lg.trans sj;refine ab 5 rfl (cR Tryz.underlying26 bZ rfl rfl rfl rfl rfl rfl rfl ?_);intro gh hgh;have hW2:=(J0 (N:=2) hgh ((z0.le J2).le N2) ((J1.le J2).le N2)).mono (P':=bR KX) fun _ _ h=>bR.mono h (by decide);have lh:=Heap.bC (whole (cF [t0.v,t2.v]) 31) hgh
 show aQ _ _ _ _ _ _ (ins H6 gh (whole (cF [t0.v,t2.v]) 31)) _
 generalize ins H6 gh (whole (cF [t0.v,t2.v]) 31)=Hh at hW2 lh⊢
 refine aF rfl rfl (Uu (l:=[0,2]) ((hys.le (dz KX) N2).le (dz KX) lh) hW2 (by decide) (by decide)) ?_;rintro _ H7 ⟨pC,rfl⟩;refine ab 2 rfl (ae [0] ?_);refine aE ⟨.inr rfl,_,.tmp rfl (.nil),?_⟩;exact⟨l03.trans (J2.trans (N2.trans (lh.trans pC))),rfl⟩
end Go.aw
