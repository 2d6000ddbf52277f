/- Part 12 of the proof: Qi, Rlay, QDat3, Qc, Qv, Rtw, QDat4, SDat2. -/
import Derived.Test.YtdjoookebbbjkaaGreatA11
set_option linter.unusedVariables false
namespace Go.aq
open Go.Proofs Num Lp
structure ie(M:Nat→Nat→Rat)(B:Nat→Nat)(T:av)(m W:Nat):Prop where
 em:T.m=m
 en:T.n+1=W
 eA:∀i,i<m→∀j,j<W→M i j=T.A i j
 ec:∀j,j<W→M m j=T.c j
 eB:∀i,i<m→B i=T.B i
section
variable {M M':Nat→Nat→Rat} {B:Nat→Nat} {T:av} {m W u r s:Nat} {q:Rat}
theorem ie.Gn(h:ie M B T m W)(hu:u<W)(hs:s<u)(gg:M m s<0)(hf:∀j,j<s→0≤M m j)(hr:r<m)(hp:0<M r s)(hl:Lst M B (W-1) s m r q):T.oQ u r s:=by
 have en:W-1=T.n:=by have:=h.en;omega
 have hn:=h.en
 refine⟨hs,by rw[←h.ec s (by omega)];exact gg,fun j hj=>by rw[←h.ec j (by omega)];exact hf j hj,by rw[h.em];exact hr,by rw[←h.eA r hr s (by omega)];exact hp,fun i hi cX=> ?_⟩
 rw[h.em]at hi
 have h1:=hl.2 i hi (by rw[h.eA i hi s (by omega)];exact cX)
 rw[hl.1,en,h.eA i hi _ (by omega),h.eA i hi _ (by omega),h.eA r hr _ (by omega),h.eA r hr _ (by omega),h.eB r hr,h.eB i hi]at h1
 exact h1
theorem ie.pivot(h:ie M B T m W)(hr:r<m)(hs:s<W)(hM:∀i,i<m+1→∀j,j<W→M' i j=ma M r s i j):ie M' (fun i=>if i=r then s else B i) (T.pivot r s) m W:=by
 refine⟨h.em,h.en,fun i hi j hj=> ?_,fun j hj=> ?_,fun i hi=> ?_⟩
 ·rw[hM i (by omega) j hj]
  show _=if i=r then T.A r j/T.A r s else T.A i j-T.A i s*(T.A r j/T.A r s)
  unfold ma
  rw[h.eA r hr j hj,h.eA r hr s hs,h.eA i hi j hj,h.eA i hi s hs]
 ·rw[hM m (by omega) j hj]
  show _=T.c j-T.c s*(T.A r j/T.A r s)
  unfold ma
  rw[if_neg (by omega),h.eA r hr j hj,h.eA r hr s hs,h.ec j hj,h.ec s hs]
 ·show _=if i=r then s else T.B i
  by_cases e:i=r
  ·rw[if_pos e,if_pos e]
  ·rw[if_neg e,if_neg e];exact h.eB i hi
end
def R8(u:Nat)(a b:Option av):Prop:=∃T,b=some T∧(a=none∨∃S,a=some S∧av.Step u S T)
theorem ajX{u:Nat}{T:av}(h:Acc (av.Step u) T):Acc (R8 u) (some T):=by
 induction h with
 | intro T _ ih=>
  refine⟨_,fun a ⟨T',e,ha⟩=> ?_⟩
  cases e
  rcases ha with rfl | ⟨S,rfl,hs⟩
  ·exact⟨_,fun b ⟨T'',e,_⟩=>by cases e⟩
  ·exact ih S hs
theorem ajY{u:Nat}:Acc (R8 u) none:=⟨_,fun b ⟨T'',e,_⟩=>by cases e⟩
def ME(o o1:Bool)(Φ:av→Prop)(M:Nat→Nat→Rat)(B:Nat→Nat)(m W:Nat):Option av→Prop
 | none=>o1=true
 | some T=>o1=false∧o=false∧Φ T∧ie M B T m W
def ajZ(o o1:Bool)(Φ:av→Prop)(M:Nat→Nat→Rat)(B:Nat→Nat)(m W u:Nat)(b:Bool):Prop:=o1=false→o=false∧∃T,Φ T∧ie M B T m W∧(b=true→∀j,j<u→0≤M m j)∧(b=false→∃s,s<u∧M m s<0∧∀i,i<m→M i s≤0)
theorem aaA{o:Bool}{H:Heap}{g:Nat}{G:GG}{W m u:Nat}{M:Nat→Nat→Rat}{B:Nat→Nat}{Φ:av→Prop}{x:Option av}(h:QV o H g G (m+1) W m M B)(hu:u<W)(hm:(m:Int)≤900000)(hW:(W:Int)≤1000000)(dZ:∀T r s,Φ T→T.oQ u r s→Φ (T.pivot r s))(hx:ME o o Φ M B m W x)(Fs:∀T,x=some T→Acc (av.Step u) T)(hB:∀i,i<m→B i<W):
 Fn Tryz.prog 99 #[.pointer (some ⟨g,0,none⟩),.int .i64 (u:Int)] H (fun v H'=>∃M' B' o' b,v = .bool b∧QV o' H' g G (m+1) W m M' B'∧Heap.le (rem H G.gs) (rem H' G.gs)∧ajZ o o' Φ M' B' m W u b∧∀i,i<m→B' i<W):=by
 refine aY (args:=[_,_]) Tryz.func99 rfl rfl Tryz.ntmps99 rfl rfl fun w0=> ?_;refine ah [0,1] rfl ?_;refine ae (aa 1 rfl (ab [0,1] ?_));refine ao (aE (JQ (γ:=Option av) (R8 u) (fun(y:Option av)=>put (put (emp) 0 (.val (.pointer (some ⟨g,0,none⟩)))) 1 (.val (.int .i64 (u:Int)))) (fun(y:Option av) H'=>∃M1 B1 o1,QV o1 H' g G (m+1) W m M1 B1∧Heap.le (rem H G.gs) (rem H' G.gs)∧ME o o1 Φ M1 B1 m W y∧∀i,i<m→B1 i<W) (x) ((by cases x with | none=>exact ajY | some T=>exact ajX (Fs T rfl))) ar (⟨M,B,o,h,.refl _,hx,hB⟩) ?_));rintro y H1 ⟨M1,B1,o1,h1,fF,hy,zJ⟩;obtain⟨xs1,gL,aj0,fK⟩:=h1.rk;obtain⟨pm,td⟩:=h1.de.get (Nat.lt_succ_self m);obtain⟨xm,sm,Cp,Cq⟩:=h1.row td;refine ao (ae (aa 2 rfl (aV ag rfl rfl rfl (aR ag rfl rfl rfl (h1.RQ) (aa 1 rfl (ab [0,1,13] ?_))))));refine aD rfl (fun hb=> ?_) (fun hb=> ?_)
 ·
  have hb:o1=false:=by simpa using hb
  subst hb;refine aw (ah [0,1] rfl ?_);refine aE (ae (aa 1 rfl (ab [0,1,5] ?_)));refine bN .bK [0,1,2,3,4,5,6,7,8,9,10,11,12] follows (by kernel_rfl) ?_;refine aa 2 rfl (aV ag rfl rfl rfl (aR ag rfl rfl rfl (h1.iS) (aa 2 rfl (aV ag rfl rfl rfl (aR ag rfl rfl rfl (h1.iS) (aa 1 rfl (cQ rfl rfl ⟨by omega,by omega⟩ (aS ag rfl rfl rfl rfl rfl (aj0) (by rw[show (((m+1:Nat):Int)-1).toNat=m by omega];exact fK m pm td) (by omega) (by omega) fun _=> ?_))))))));refine aa 1 rfl (ab [0,1,5,6] ?_);refine kT (fun(z:Int)=>put (put (put (emp) 0 (.val (.pointer (some ⟨g,0,none⟩)))) 1 (.val (.int .i64 (u:Int)))) 5 (.val (.int .i64 z))) (fun(z:Int) H'=>H'=H1∧((z = -1∧∀j,j<u→0≤M1 m j)∨∃s:Nat,z=(s:Int)∧s<u∧M1 m s<0∧∀j,j<s→0≤M1 m j)) ?_ ?_
  ·
   refine ae (aa 1 rfl (ab [0,1,5,6,7] ?_));refine aE (fX (fun(k:Nat)(z:Int)=>u-k) (fun(k:Nat)(z:Int)=>put (put (put (put (put (emp) 0 (.val (.pointer (some ⟨g,0,none⟩)))) 1 (.val (.int .i64 (u:Int)))) 5 (.val (.int .i64 z))) 6 (.val (.slice (some ⟨pm.1,0,none⟩) W pm.2))) 7 (.val (.int .i64 (k:Int)))) (fun(k:Nat)(z:Int) H'=>H'=H1∧k≤u∧((z = -1∧∀j,j<k→0≤M1 m j)∨∃s:Nat,z=(s:Int)∧s<u∧M1 m s<0∧∀j,j<s→0≤M1 m j)) 0 (-1) (⟨rfl,Nat.zero_le _,.inl ⟨rfl,fun j hj=>absurd hj (Nat.not_lt_zero _)⟩⟩) ar ?_);rintro k z H2 ⟨e2,K8,hz⟩;rw[e2];clear e2 H2;refine ao ?_
   by_cases Cr:k<u
   ·
    skip
    by_cases jh:z<0
    ·
     obtain⟨ez,fm⟩:z = -1∧∀j,j<k→0≤M1 m j:=by
      rcases hz with h9 | ⟨s,h9,_⟩
      ·exact h9
      ·omega
     obtain⟨n1,d1,iZ,jf,i1,i2,i3,i4,bX⟩:=mN Cq (show k<W by omega);refine ae (aa 2 rfl (aG true rfl rfl (je (by omega)) (aa 2 rfl (aG true rfl rfl (je jh) (aa 1 rfl (ab [0,1,5,6,7,32] ?_))))));refine cI rfl (aw (ah [0,1,5,6,7] rfl ?_));refine ao (aE (ae (aa 2 rfl (jW ag rfl rfl rfl rfl rfl rfl rfl (dQ Cp) (by rw[Int.toNat_natCast];exact jf 0 _ rfl) (by omega) (by omega) fun _ _=> ?_))));refine aa 1 rfl (ab [0,1,5,6,7,40] ?_);refine aD rfl (fun hb=> ?_) (fun hb=> ?_)
     ·
      have hb:n1<0:=by simpa using hb
      refine aA rfl (aa 2 rfl (au (ah [0,1,5,6,7] rfl ?_)));refine aA rfl (aa 1 rfl (aF rfl rfl ⟨by omega,by omega⟩ (aa 1 rfl (au ?_))));exact⟨k+1,k,by omega,ar,rfl,by omega,.inr ⟨k,rfl,Cr,by rw[bX];exact(Mq i3).2 hb,fm⟩⟩
     have hb:¬n1<0:=by simpa using hb
     refine aw (ah [0,1,5,6,7] rfl ?_);refine aA rfl (aa 1 rfl (aF rfl rfl ⟨by omega,by omega⟩ (aa 1 rfl (au ?_))))
     exact⟨k+1,_,by omega,ar,rfl,by omega,.inl ⟨ez,fun j hj=>by
      by_cases ej:j=k
      ·subst ej;rw[bX];have:=(Mq (n:=n1) i3).1;grind
      ·exact fm j (by omega)⟩⟩
    skip
    refine ae (aa 2 rfl (aG true rfl rfl (je (by omega)) (aa 2 rfl (aG false rfl rfl (iq (by omega)) (aa 1 rfl (ab [0,1,5,6,7,32] ?_))))));refine dd rfl (aU ?_)
    rcases hz with ⟨h9,_⟩ | hz
    ·omega
    ·exact⟨_,ar,rfl,.inr hz⟩
   skip
   refine ae (aa 2 rfl (aG false rfl rfl (iq (by omega)) (aa 4 rfl (ab [0,1,5,6,7,32] ?_))));refine dd rfl (aU ?_)
   rcases hz with ⟨h9,h8⟩ | hz
   ·exact⟨_,ar,rfl,.inl ⟨h9,fun j hj=>h8 j (by omega)⟩⟩
   ·exact⟨_,ar,rfl,.inr hz⟩
  ·
   rintro z H2 ⟨e2,hz⟩;rw[e2];clear e2 H2
   obtain⟨T,rfl,ho,tB,iW⟩:∃T,y=some T∧o=false∧Φ T∧ie M1 B1 T m W:=by
    cases y with
    | none=>cases hy
    | some T=>exact⟨T,rfl,hy.2⟩
   refine ao (ae (aa 2 rfl (ab [0,1,5,43] ?_)));refine aD rfl (fun hb=> ?_) (fun hb=> ?_)
   ·
    have hb:z<0:=by simpa using hb
    obtain⟨_,fm⟩:z = -1∧∀j,j<u→0≤M1 m j:=by
     rcases hz with h9 | ⟨s,h9,_⟩
     ·exact h9
     ·omega
    refine ae (aa 1 rfl (ab [4] ?_));refine az ⟨.inr rfl,_,.tmp rfl (.nil),?_⟩;exact⟨M1,B1,false,true,rfl,h1,fF,fun _=>⟨ho,T,tB,iW,fun _=>fm,(fun h9=>by cases h9)⟩,zJ⟩
   have hb:¬z<0:=by simpa using hb
   obtain⟨s,rfl,IT,mB,R9⟩:∃s:Nat,z=(s:Int)∧s<u∧M1 m s<0∧∀j,j<s→0≤M1 m j:=by
    rcases hz with ⟨h9,_⟩ | h9
    ·omega
    ·exact h9
   refine aw (ah [0,1,5] rfl ?_);refine ae (aa 2 rfl (aB rfl rfl (ajW h1 (by omega) (show s<W by omega) (by omega) hW) ?_));rintro _ H2 ⟨z2,o2,rfl,fC,EM,IU⟩;have h2:=h1.vc fC EM;refine aa 1 rfl (ab [0,1,5,8] ?_);refine ao (ae (aa 2 rfl (ab [0,1,5,8,48] ?_)));refine aD rfl (fun hb=> ?_) (fun hb=> ?_)
   ·
    have hb:z2<0:=by simpa using hb
    have fm:∀i,i<m→M1 i s≤0:=by
     rcases IU.2 with h9 | ⟨r,h9,_⟩
     ·exact h9.2
     ·omega
    refine ae (aa 1 rfl (ab [4] ?_));refine az ⟨.inr rfl,_,.tmp rfl (.nil),?_⟩;exact⟨M1,B1,o2,false,rfl,h2,fF.trans fC.le,fun h9=>⟨ho,T,tB,iW,(fun h8=>by cases h8),fun _=>⟨s,IT,mB,fm⟩⟩,zJ⟩
   have hb:¬z2<0:=by simpa using hb
   obtain⟨r,rfl,kG,cZ,hL⟩:∃r:Nat,z2=(r:Int)∧r<m∧0<M1 r s∧(o2=false→∃q,Lst M1 B1 (W-1) s m r q):=by
    rcases IU.2 with ⟨h9,_⟩ | h9
    ·omega
    ·exact h9
   refine aw (ah [0,1,5,8] rfl ?_);refine aA rfl (aa 3 rfl (aB rfl rfl (aal h2 kG (by omega) (show s<W by omega) (by grind) (by omega) hW) ?_));rintro v3 H3 ⟨M3,o3,h3,hM3,iA⟩;refine au ?_;have hle:=(fF.trans fC.le).trans iA
   have hB3:∀i,i<m→(if i=r then s else B1 i)<W:=fun i hi=>by
    split
    ·omega
    ·exact zJ i hi
   cases o3 with
   | true=>exact⟨none,⟨T,rfl,.inl rfl⟩,ar,M3,_,true,h3,hle,rfl,hB3⟩
   | false=>
    obtain⟨h9,hpM⟩:=hM3 rfl;obtain⟨q,hq⟩:=hL h9;have kB:=iW.Gn hu IT mB R9 kG cZ hq;exact⟨some (T.pivot r s),⟨T,rfl,.inr ⟨_,rfl,r,s,kB,rfl⟩⟩,ar,M3,_,false,h3,hle,⟨rfl,ho,dZ _ _ _ tB kB,iW.pivot kG (by omega) hpM⟩,hB3⟩
 ·
  have hb:o1=true:=by simpa using hb
  subst hb;refine aU (ah [] rfl ?_);refine ae (aa 1 rfl (ab [4] ?_));refine az ⟨.inr rfl,_,.tmp rfl (.nil),?_⟩;exact⟨M1,B1,true,true,rfl,h1,fF,(fun h9=>by cases h9),zJ⟩
end Go.aq
namespace Go.aq
open Go.Proofs Num Lp
def MF(fr:Nat→Bool):Nat→Nat→Nat
 | 0,_=>0
 | k+1,t=>if fr k=true∧t=a7 fr k-k then a7 fr k+1 else MF fr k t
section
variable {fr:Nat→Bool}
theorem zK(k:Nat):k≤a7 fr k:=by
 induction k with
 | zero=>exact Nat.le_refl _
 | succ k ih=>
  have h1:a7 fr (k+1)=a7 fr k+1+(if fr k then 1 else 0):=rfl
  omega
theorem MG{j k:Nat}(h:j≤k):a7 fr j+k≤a7 fr k+j:=by
 induction k with
 | zero=>obtain rfl:j=0:=by omega
         exact Nat.le_refl _
 | succ k ih=>
  have h1:a7 fr (k+1)=a7 fr k+1+(if fr k then 1 else 0):=rfl
  by_cases e:j=k+1
  ·subst e;exact Nat.le_refl _
  ·have:=ih (by omega);omega
theorem MH{k:Nat}(h:fr k=true):a7 fr (k+1)=a7 fr k+2:=by
 show a7 fr k+1+(if fr k then 1 else 0)=_
 rw[if_pos h]
theorem aj1{k j:Nat}(hj:j<k)(hf:fr j=true):MF fr k (a7 fr j-j)=a7 fr j+1:=by
 induction k with
 | zero=>omega
 | succ k ih=>
  unfold MF
  by_cases e:j=k
  ·subst e;rw[if_pos ⟨hf,rfl⟩]
  ·rw[if_neg,ih (by omega)]
   intro⟨h1,h2⟩
   have h3:=MG (fr:=fr) (show j+1≤k by omega)
   have h4:=MH hf
   have h5:=zK (fr:=fr) j
   omega
theorem aj2{k t:Nat}(h:t<a7 fr k-k):∃j,j<k∧fr j=true∧t=a7 fr j-j:=by
 induction k with
 | zero=>exact absurd h (Nat.not_lt_zero _)
 | succ k ih=>
  by_cases e:fr k=true∧t=a7 fr k-k
  ·exact⟨k,by omega,e.1,e.2⟩
  ·have h1:a7 fr (k+1)=a7 fr k+1+(if fr k then 1 else 0):=rfl
   have h2:=zK (fr:=fr) k
   have h3:t<a7 fr k-k:=by
    by_cases hf:fr k=true
    ·rw[if_pos hf]at h1
     have:t≠a7 fr k-k:=fun e'=>e ⟨hf,e'⟩
     omega
    ·rw[if_neg hf]at h1;omega
   obtain⟨j,g1,g2,g3⟩:=ih h3
   exact⟨j,by omega,g2,g3⟩
theorem aj3{k y:Nat}(h:y<a7 fr k):∃j,j<k∧(y=a7 fr j∨(fr j=true∧y=a7 fr j+1)):=by
 induction k with
 | zero=>exact absurd h (Nat.not_lt_zero _)
 | succ k ih=>
  by_cases e:y<a7 fr k
  ·obtain⟨j,g1,g2⟩:=ih e
   exact⟨j,by omega,g2⟩
  ·have h1:a7 fr (k+1)=a7 fr k+1+(if fr k then 1 else 0):=rfl
   by_cases hf:fr k=true
   ·rw[if_pos hf]at h1
    by_cases e2:y=a7 fr k
    ·exact⟨k,by omega,.inl e2⟩
    ·exact⟨k,by omega,.inr ⟨hf,by omega⟩⟩
   ·rw[if_neg hf]at h1
    exact⟨k,by omega,.inl (by omega)⟩
end
def _root_.Lp.Prg.pi(p:Prg)(x:Nat):Nat:=if x<p.lp.n then a7 p.lp.free x else if x<p.c1 then MF p.lp.free p.lp.n (x-p.lp.n)else x
abbrev _root_.Lp.Prg.mi(p:Prg)(j:Nat):Nat:=p.lp.n+(a7 p.lp.free j-j)
section
variable {p:Prg}
theorem xY{x:Nat}(h:x<p.lp.n):p.pi x=a7 p.lp.free x:=by unfold Prg.pi;rw[if_pos h]
theorem xZ:p.lp.n≤p.c1:=zK _
theorem MI{j:Nat}:p.lp.n≤p.mi j:=Nat.le_add_right _ _
theorem wc{x:Nat}(h:p.c1≤x):p.pi x=x:=by
 have:=xZ (p:=p)
 unfold Prg.pi;rw[if_neg (by omega),if_neg (by omega)]
theorem we{j:Nat}(h:j<p.lp.n)(hf:p.lp.free j=true):p.mi j<p.c1:=by
 have h1:=MG (fr:=p.lp.free) (show j+1≤p.lp.n by omega)
 have h2:=MH hf
 have h3:=zK (fr:=p.lp.free) j
 show p.lp.n+(a7 p.lp.free j-j)<a7 p.lp.free p.lp.n
 omega
theorem zL{j:Nat}(h:j<p.lp.n)(hf:p.lp.free j=true):p.pi (p.mi j)=a7 p.lp.free j+1:=by
 have:=we h hf
 have h2:=MI (p:=p) (j:=j)
 unfold Prg.pi
 rw[if_neg (by omega),if_pos this,Nat.add_sub_cancel_left]
 exact aj1 h hf
theorem IV{x:Nat}(h1:p.lp.n≤x)(h2:x<p.c1):∃j,j<p.lp.n∧p.lp.free j=true∧x=p.mi j:=by
 obtain⟨j,g1,g2,g3⟩:=aj2 (fr:=p.lp.free) (k:=p.lp.n) (t:=x-p.lp.n) (Nat.sub_lt_sub_right h1 h2)
 exact⟨j,g1,g2,by show x=p.lp.n+_;omega⟩
theorem MJ{x:Nat}(h:x<p.c1):p.pi x<p.c1:=by
 by_cases e:x<p.lp.n
 ·rw[xY e];exact HB p e
 ·obtain⟨j,g1,g2,rfl⟩:=IV (by omega) h
  rw[zL g1 g2]
  have h1:=MG (fr:=p.lp.free) (show j+1≤p.lp.n by omega)
  have h2:=MH g2
  show a7 p.lp.free j+1<a7 p.lp.free p.lp.n
  omega
theorem zM{x:Nat}(h:x<p.u):p.pi x<p.u:=by
 have h1:=mI p
 by_cases e:x<p.c1
 ·have:=MJ e;omega
 ·rw[wc (by omega)];exact h
theorem Sa{x:Nat}(h:p.u≤x):p.pi x=x:=wc (by have:=mI p;omega)
theorem Sb{x:Nat}(h:x<p.w):p.pi x<p.w:=by
 have h1:=fy p
 by_cases e:x<p.u
 ·have:=zM e;omega
 ·rw[Sa (by omega)];exact h
theorem Cs:p.pi p.w=p.w:=Sa (fy p)
theorem MK{x:Nat}(h:x≤p.w):p.pi x≤p.w:=by
 by_cases e:x=p.w
 ·rw[e,Cs];exact Nat.le_refl _
 ·have:=Sb (p:=p) (x:=x) (by omega);omega
theorem ML{y:Nat}(h:y<p.u):∃x,x<p.u∧p.pi x=y:=by
 have h1:=mI p
 by_cases e:y<p.c1
 ·obtain⟨j,g1,g2⟩:=aj3 e
  rcases g2 with rfl | ⟨g2,rfl⟩
  ·have:=xZ (p:=p)
   exact⟨j,by omega,xY g1⟩
  ·have:=we g1 g2
   exact⟨p.mi j,by omega,zL g1 g2⟩
 ·exact⟨y,h,wc (by omega)⟩
def fe(p:Prg)(a:Nat→Rat)(s:Rat):Nat→Nat→Rat
 | 0=>fun _=>0
 | k+1=>if p.lp.free k then bT (bT (fe p a s k) k (a k*s)) (p.mi k) (-(a k*s))else bT (fe p a s k) k (a k*s)
variable {a:Nat→Rat} {s:Rat}
theorem aj4{k x:Nat}(hk:k≤p.lp.n)(hx:x<k):fe p a s k x=a x*s:=by
 induction k with
 | zero=>omega
 | succ k ih=>
  have key:bT (fe p a s k) k (a k*s) x=a x*s:=by
   by_cases e:x=k
   ·rw[e,jw]
   ·rw[eM e,ih (by omega) (by omega)]
  unfold fe
  split
  ·rw[eM (by show x≠p.lp.n+_;omega),key]
  ·exact key
theorem aj5{k j:Nat}(hk:k≤p.lp.n)(hj:j<k)(hf:p.lp.free j=true):fe p a s k (p.mi j) = -(a j*s):=by
 induction k with
 | zero=>omega
 | succ k ih=>
  unfold fe
  by_cases e:j=k
  ·subst e;rw[if_pos hf,jw]
  ·have h3:=MG (fr:=p.lp.free) (show j+1≤k by omega)
   have h4:=MH hf
   have h5:=zK (fr:=p.lp.free) j
   split
   ·rw[eM (by show p.lp.n+_≠p.lp.n+_;omega),eM (by show p.lp.n+_≠k;omega),ih (by omega) (by omega)]
   ·rw[eM (by show p.lp.n+_≠k;omega),ih (by omega) (by omega)]
theorem aaB{k x:Nat}(hk:k≤p.lp.n)(hx:p.c1≤x):fe p a s k x=0:=by
 have h0:=xZ (p:=p)
 induction k with
 | zero=>rfl
 | succ k ih=>
  unfold fe
  split
  ·rename_i hf
   have:=we (p:=p) (j:=k) (by omega) hf
   rw[eM (by omega),eM (by omega),ih (by omega)]
  ·rw[eM (by omega),ih (by omega)]
theorem IW(x:Nat):fe p a s p.lp.n x=jT p.lay a s p.lp.n (p.pi x):=by
 by_cases e:x<p.lp.n
 ·rw[aj4 (Nat.le_refl _) e,xY e,(Ei (Nat.le_refl _) e).1]
 ·by_cases e2:x<p.c1
  ·obtain⟨j,g1,g2,rfl⟩:=IV (by omega) e2
   rw[aj5 (Nat.le_refl _) g1 g2,zL g1 g2,(Ei (Nat.le_refl _) g1).2 g2]
  ·rw[aaB (Nat.le_refl _) (Nat.le_of_not_lt e2),wc (Nat.le_of_not_lt e2),Eh (Nat.le_refl _) (Nat.le_of_not_lt e2)]
def kr(rel s:Int):Int:=if s=1 then rel else if rel=2 then 2 else 4-rel
theorem Sd{rel s:Int}(hr:rel=1∨rel=2∨rel=3)(hs:s=1∨s = -1):fa rel s=true↔kr rel s=1:=by
 unfold fa kr
 rw[decide_eq_true_eq]
 rcases hr with rfl | rfl | rfl <;> rcases hs with rfl | rfl <;> simp
def dM(p:Prg)(i:Nat):Nat→Rat:=
 let r1:=bT (fe p (p.lp.a i) (p.aH i:Rat) p.lp.n) p.w (p.lp.b i*(p.aH i:Rat))
 let r2:=if p.lp.rel i=2 then r1 else bT r1 (bB p.lp.rel p.c1 i) (if kr (p.lp.rel i) (p.aH i)=1 then 1 else -1)
 if kr (p.lp.rel i) (p.aH i)=1 then r2 else bT r2 (a8 p.lp.rel p.aH p.u i) 1
theorem Se(hv:p.lp.Valid){i:Nat}(hi:i<p.lp.m){x:Nat}(hx:x≤p.w):dM p i x=p.eh.A i (p.pi x):=by
 have hr:=hv i hi
 have hs:=sS (p.lp.b i) (p.lp.rel i)
 have hu:=nU p hi
 have hcu:=mI p
 have mG:=fy p
 have hug:=LF (p:=p) (i:=i)
 have h2:=(qQ p.lp.rel p.aH p.u i).2
 have h3:=(sT p.lp.rel p.c1 i).2
 have ka:p.lp.rel i≠2→bB p.lp.rel p.c1 i<p.u:=fun h=>BQ hi h
 have cG:=Sd hr hs
 by_cases e:x<p.c1
 ·rw[Qj (MJ e),←IW]
  unfold dM
  have hb:bT (fe p (p.lp.a i) (p.aH i:Rat) p.lp.n) p.w (p.lp.b i*(p.aH i:Rat)) x=fe p (p.lp.a i) (p.aH i:Rat) p.lp.n x:=eM (by omega)
  split
  ·split
   ·exact hb
   ·rw[eM (by omega)];exact hb
  ·rw[eM (by omega)]
   split
   ·exact hb
   ·rw[eM (by omega)];exact hb
 ·rw[wc (by omega),BR]
  have z1:jT p.lay (p.lp.a i) (p.aH i:Rat) p.lp.n x=0:=Eh (Nat.le_refl _) (Nat.le_of_not_lt e)
  have z2:fe p (p.lp.a i) (p.aH i:Rat) p.lp.n x=0:=aaB (Nat.le_refl _) (by omega)
  unfold dM
  by_cases hw:x=p.w
  ·subst hw
   rw[jw]
   have hb:=jw (fe p (p.lp.a i) (p.aH i:Rat) p.lp.n) p.w (p.lp.b i*(p.aH i:Rat))
   by_cases o:fa (p.lp.rel i) (p.aH i)=true
   ·rw[if_pos (cG.1 o)]
    split
    ·exact hb
    ·rw[eM (by have:=ka (by assumption);omega)];exact hb
   ·rw[if_neg (fun h=>o (cG.2 h)),eM (by rw[vT o]at hu;omega)]
    split
    ·exact hb
    ·rw[eM (by have:=ka (by assumption);omega)];exact hb
  ·rw[eM (f:=bT _ _ _) hw]
   have hb:bT (fe p (p.lp.a i) (p.aH i:Rat) p.lp.n) p.w (p.lp.b i*(p.aH i:Rat)) x=0:=by rw[eM hw,z2]
   by_cases o:fa (p.lp.rel i) (p.aH i)=true
   ·have oU:p.lp.rel i≠2:=by have:=Ej o;omega
    rw[if_pos (cG.1 o),if_neg oU,zr o,if_pos (cG.1 o)]
    by_cases ex:x=bB p.lp.rel p.c1 i
    ·rw[ex,jw,jw]
    ·rw[eM ex,eM ex,hb,Ek (fun _=>by rw[BS oU];exact ex),z1]
   ·rw[if_neg (fun h=>o (cG.2 h)),vT o,if_neg (fun h=>o (cG.2 h))]
    by_cases ex:x=a8 p.lp.rel p.aH p.u i
    ·rw[ex,jw,jw]
    ·rw[eM ex,eM ex]
     by_cases oU:p.lp.rel i=2
     ·rw[if_pos oU,hb,Ek (fun h=>absurd oU h),z1]
     ·rw[if_neg oU]
      by_cases ey:x=bB p.lp.rel p.c1 i
      ·rw[ey,jw]
       unfold sL
       rw[BS oU]
       rcases hr with k | k | k
       ·rw[if_pos k,jw]
        have:p.aH i = -1:=by
         rcases hs with h | h
         ·exact absurd (cG.2 (by unfold kr;rw[if_pos h];exact k)) o
         ·exact h
        rw[this];rfl
       ·exact absurd k oU
       ·rw[if_neg (by omega),if_pos k,jw]
        have:p.aH i=1:=by
         rcases hs with h | h
         ·exact h
         ·exact absurd (cG.2 (by unfold kr;rw[h,k];decide)) o
        rw[this];rfl
      ·rw[eM ey,hb,Ek (fun _=>by rw[BS oU];exact ey),z1]
end
end Go.aq
namespace Go.aq
open Go.Proofs Num Lp
section
variable {C:CK} {H H' K:Heap} {G:GG} {R W m:Nat} {M:Nat→Nat→Rat} {B:Nat→Nat} {t:List Nat} {f:Nat→Rat}
def GG.more(G:GG)(t:List Nat)(z c:Nat)(A:Option Addr)(cr R:Nat):GG:={G with top:=t,hb:=aC (.slice A (R+1) cr),Ar:=A,cr:=cr,rg:=G.rg ++ [(z,c)]}
theorem cD.more{z c lM:Nat}{A':Option Addr}(h:cD C H (G.on (z::t)) R W m M B)(hz:pa C (rem H (G.on (z::t)).gs) H z (aK f W))(ha:App H (.slice G.Ar R G.cr) C.he 1 (R+1) (iV (G.rg ++ [(z,c)]) W) (.slice A' (R+1) lM) H'):
  cD C H' (G.more t z c A' lM R) (R+1) W m (fun i=>if i=R then f else M i) B∧Heap.le (rem H (G.on (z::t)).gs) (rem H' (G.more t z c A' lM R).gs):=by
 have bA:=h.ne
 have dW:=h.nd
 have jF:(G.on (z::t)).gs=z::(t++(G.hb++(G.bb++G.rg.map (·.1)))):=rfl
 have IX:(G.more t z c A' lM R).gs=t++(aC (.slice A' (R+1) lM)++(G.bb++(G.rg ++ [(z,c)]).map (·.1))):=rfl
 have MM:G.hb=aC (.slice G.Ar R G.cr):=h.l9
 rw[jF]at dW bA
 obtain⟨n1,n2⟩:=List.nodup_cons.1 dW
 obtain⟨n3,n4,n5⟩:=List.nodup_append.1 n2
 obtain⟨n6,n7,n8⟩:=List.nodup_append.1 n4
 obtain⟨n9,n10,tc⟩:=List.nodup_append.1 n7
 have qD:∀q,q∈z::(t++(G.bb++G.rg.map (·.1)))→H' q=H q:=fun q hq=>by
  have hm:q∈z::(t++(G.hb++(G.bb++G.rg.map (·.1)))):=by
   simp only[List.mem_cons,List.mem_append]at hq⊢;grind
  obtain⟨en,he⟩:=Option.ne_none_iff_exists'.1 (bA q hm)
  rw[he]
  refine ha.same q en he fun h1=> ?_
  have h2:q∈G.hb:=by rw[MM];exact dh.2 h1
  rcases List.mem_cons.1 hq with rfl | hq
  ·exact n1 (List.mem_append_right _ (List.mem_append_left _ h2))
  ·rcases List.mem_append.1 hq with hq | hq
   ·exact n5 q hq q (List.mem_append_left _ h2) rfl
   ·exact n8 q h2 q hq rfl
 have LD:∀q,q∈aC (.slice A' (R+1) lM)→¬q∈z::(t++(G.bb++G.rg.map (·.1))):=fun q hq hm=>by
  rcases ha.new q hq with h1 | h1
  ·rw[←MM]at h1
   rcases List.mem_cons.1 hm with rfl | hm
   ·exact n1 (List.mem_append_right _ (List.mem_append_left _ h1))
   ·rcases List.mem_append.1 hm with hm | hm
    ·exact n5 q hm q (List.mem_append_left _ h1) rfl
    ·exact n8 q h1 q hm rfl
  ·refine bA q ?_ h1
   simp only[List.mem_cons,List.mem_append]at hm⊢;grind
 have hl:Heap.le (rem H (G.on (z::t)).gs) (rem H' (G.more t z c A' lM R).gs):=fun q en hq=>by
  by_cases hm:q∈(G.on (z::t)).gs
  ·rw[rem_in hm]at hq;cases hq
  ·rw[bM hm]at hq
   have kD:¬q∈G.hb:=fun k=>hm (by rw[jF];exact List.mem_cons_of_mem _ (List.mem_append_right _ (List.mem_append_left _ k)))
   have h1:=ha.same q en hq fun e=>kD (by rw[MM];exact dh.2 e)
   refine⟨en,?_,.refl _⟩
   rw[bM,h1]
   intro h2
   rw[IX]at h2
   rcases List.mem_append.1 h2 with h3 | h3
   ·exact hm (by rw[jF];exact List.mem_cons_of_mem _ (List.mem_append_left _ h3))
   ·rcases List.mem_append.1 h3 with h3 | h3
    ·rcases ha.new q h3 with h4 | h4
     ·rw[←MM]at h4;exact kD h4
     ·rw[h4]at hq;cases hq
    ·refine hm ?_
     rw[jF]
     simp only[List.map_append,List.map_cons,List.map_nil,List.mem_cons,List.mem_append,List.not_mem_nil,or_false]at h3⊢;grind
 have oV:=h.iC
 have oV:G.rg.length=R:=oV
 refine⟨⟨?_,fun q hq=> ?_,?_,rfl,ha.own,fun i p hp=> ?_,?_⟩,hl⟩
 ·rw[IX]
  refine List.nodup_append.2 ⟨n3,List.nodup_append.2 ⟨RP _,List.nodup_append.2 ⟨n9,?_,fun q hq r hr e=> ?_⟩,fun q hq r hr e=> ?_⟩,fun q hq r hr e=> ?_⟩
  ·rw[List.map_append]
   refine List.nodup_append.2 ⟨n10,List.nodup_cons.2 ⟨List.not_mem_nil,List.nodup_nil⟩,fun q hq r hr e=> ?_⟩
   subst e
   rw[List.map_cons,List.map_nil,List.mem_singleton]at hr
   subst hr
   exact n1 (List.mem_append_right _ (List.mem_append_right _ (List.mem_append_right _ hq)))
  ·subst e
   rw[List.map_append]at hr
   rcases List.mem_append.1 hr with hr | hr
   ·exact tc q hq q hr rfl
   ·rw[List.map_cons,List.map_nil,List.mem_singleton]at hr
    subst hr
    exact n1 (List.mem_append_right _ (List.mem_append_right _ (List.mem_append_left _ hq)))
  ·subst e
   refine LD q hq ?_
   simp only[List.map_append,List.map_cons,List.map_nil,List.mem_cons,List.mem_append,List.not_mem_nil,or_false]at hr⊢;grind
  ·subst e
   rcases List.mem_append.1 hr with hr | hr
   ·exact LD q hr (List.mem_cons_of_mem _ (List.mem_append_left _ hq))
   ·rw[List.map_append]at hr
    rcases List.mem_append.1 hr with hr | hr
    ·exact n5 q hq q (List.mem_append_right _ (List.mem_append_left _ hr)) rfl
    ·rcases List.mem_append.1 hr with hr | hr
     ·exact n5 q hq q (List.mem_append_right _ (List.mem_append_right _ hr)) rfl
     ·rw[List.map_cons,List.map_nil,List.mem_singleton]at hr
      subst hr
      exact n1 (List.mem_append_left _ hq)
 ·rw[qD q (List.mem_cons_of_mem _ (List.mem_append_left _ hq))]
  exact bA q (List.mem_cons_of_mem _ (List.mem_append_left _ hq))
 ·show (G.rg ++ [(z,c)]).length=R+1
  rw[List.length_append,oV];rfl
 ·have dJ:(G.rg ++ [(z,c)])[i]? = some p:=hp
  by_cases hi:i<R
  ·rw[List.getElem?_append_left (by omega)]at dJ
   show pa C _ H' p.1 (aK (if i=R then f else M i) W)
   rw[if_neg (by omega)]
   exact(h.row i p dJ).le hl (qD _ (List.mem_cons_of_mem _ (List.mem_append_right _ (List.mem_append_right _ (List.mem_map.2 ⟨p,List.mem_of_getElem? dJ,rfl⟩)))))
  ·have bP:=(List.getElem?_eq_some_iff.1 dJ).1
   rw[List.length_append,oV,List.length_singleton]at bP
   obtain rfl:i=R:=by omega
   rw[List.getElem?_append_right (by omega),oV,Nat.sub_self]at dJ
   cases dJ
   show pa C _ H' z (aK (if i=i then f else M i) W)
   rw[if_pos rfl]
   exact hz.le hl (qD _ (List.mem_cons_self ..))
 ·rcases h.basis with h1 | ⟨gb,cb,sz,h1,h2,h3⟩
  ·exact .inl h1
  ·refine .inr ⟨gb,cb,sz,h1,h2,?_⟩
   rw[qD gb (List.mem_cons_of_mem _ (List.mem_append_right _ (List.mem_append_left _ (by show gb∈G.bb;have:G.bb = [gb]:=h1;rw[this];exact List.mem_singleton.2 rfl))))]
   exact h3
def GG.less(G:GG)(R:Nat):GG:={G with hb:=aC (.slice G.Ar R G.cr),rg:=G.rg.take R}
theorem cD.less(h:cD C H G (R+1) W m M B):∃H',Heap.le H' H∧cD C H' (G.less R) R W m M B∧Heap.le (rem H G.gs) (rem H' (G.less R).gs)∧(∀q,q∈G.top→H' q=H q)∧G.cr=G.cr∧R≤G.cr:=by
 have oV:=h.iC
 rcases h.rows.2 with ⟨h1,h2⟩ | ⟨gr,cap,h1,h2,h3,h4⟩
 ·omega
 ·have eA:G.Ar=some ⟨gr,0,none⟩:=(Value.slice.inj h1).1
  have eC:G.cr=cap:=(Value.slice.inj h1).2.2
  have eb:aC (.slice G.Ar R G.cr)=G.hb:=by rw[h.l9,eA];rfl
  have eg:G.hb = [gr]:=by rw[h.l9,eA];rfl
  have hm:gr∈G.hb:=by rw[eg];exact List.mem_singleton.2 rfl
  have ht:iV (G.rg.take R) W=(iV G.rg W).take R:=by unfold iV;rw[List.map_take]
  have vD:∀q,q∈(G.less R).low→q∈G.low:=fun q hq=>by
   have hq:q∈aC (.slice G.Ar R G.cr)++(G.bb++(G.rg.take R).map (·.1)):=hq
   rw[eb]at hq
   rcases List.mem_append.1 hq with hq | hq
   ·exact GG.Cf hq
   ·rcases List.mem_append.1 hq with hq | hq
    ·exact GG.mE hq
    ·obtain⟨p,hp,rfl⟩:=List.mem_map.1 hq
     exact List.mem_append_right _ (List.mem_append_right _ (List.mem_map.2 ⟨p,List.mem_of_mem_take hp,rfl⟩))
  have jF:∀q,q∈(G.less R).gs→q∈G.gs:=fun q hq=>by
   rcases List.mem_append.1 hq with hq | hq
   ·exact List.mem_append_left _ hq
   ·exact List.mem_append_right _ (vD q hq)
  have hng:gr∈(G.less R).gs:=List.mem_append_right _ (List.mem_append_left _ (by show gr∈aC _;rw[eb];exact hm))
  have hl:Heap.le (rem H G.gs) (rem (ins H gr ⟨iV (G.rg.take R) W,cap*1,C.he,true⟩) (G.less R).gs):=by
   rw[cJ _ hng];exact xM jF
  have EO:∀q,q∈G.top∨q∈G.bb∨(∃(i:Nat)(p:Nat×Nat),G.rg[i]? = some p∧p.1=q)→q≠gr:=fun q hq=>by
   rcases hq with hq | hq | ⟨i,p,hp,rfl⟩
   ·exact GG.uR h.nd hq (GG.Cf hm)
   ·exact Ne.symm (GG.Mn h.nd hm (.inl hq))
   ·exact Ne.symm (GG.Mn h.nd hm (.inr ⟨i,p,hp,rfl⟩))
  refine⟨ins H gr ⟨iV (G.rg.take R) W,cap*1,C.he,true⟩,?_,⟨?_,fun q hq=> ?_,?_,rfl,?_,fun i p hp=> ?_,?_⟩,hl,fun q hq=>bn _ _ (EO q (.inl hq)),rfl,by omega⟩
  ·intro q en hq
   by_cases e:q=gr
   ·subst e
    rw[bC]at hq
    cases hq
    exact⟨_,h2,rfl,rfl,rfl,by rw[ht];exact List.take_prefix _ _⟩
   ·rw[bn _ _ e]at hq
    exact⟨en,hq,.refl _⟩
  ·have dW:=h.nd
   show (G.top++(aC (.slice G.Ar R G.cr)++(G.bb++(G.rg.take R).map (·.1)))).Nodup
   rw[eb]
   refine List.Nodup.sublist ?_ dW
   exact List.Sublist.append (.refl _) (List.Sublist.append (.refl _) (List.Sublist.append (.refl _) (List.Sublist.map _ (List.take_sublist _ _))))
  ·rw[bn _ _ (EO q (.inl hq))];exact h.top q hq
  ·show (G.rg.take R).length=R
   rw[List.length_take];omega
  ·refine⟨?_,.inr ⟨gr,cap,?_,bC _ _ _,by omega,h4⟩⟩
   ·show (iV (G.rg.take R) W).length=R*1
    unfold iV;rw[List.length_map,List.length_take];omega
   ·show Value.slice G.Ar R G.cr=_
    rw[eA,eC]
  ·have dJ:(G.rg.take R)[i]? = some p:=hp
   rw[List.getElem?_take]at dJ
   split at dJ
   ·exact(h.row i p dJ).le hl (bn _ _ (EO _ (.inr (.inr ⟨i,p,dJ,rfl⟩))))
   ·cases dJ
  ·rcases h.basis with k1 | ⟨gb,cb,sz,k1,k2,k3⟩
   ·exact .inl k1
   ·exact .inr ⟨gb,cb,sz,k1,k2,by rw[bn _ _ (EO gb (.inr (.inl (by rw[k1];exact List.mem_singleton.2 rfl))))];exact k3⟩
theorem cD.apart(h:cD C H G R W m M B){z:Nat}{e:Ent}(hz:H z=none):cD C (ins H z e) (G.on (z::G.top)) R W m M B∧rem (ins H z e) (G.on (z::G.top)).gs=rem H G.gs:=by
 have hm:¬z∈G.gs:=fun hm=>h.ne z hm hz
 have jF:(G.on (z::G.top)).gs=z::G.gs:=rfl
 have e1:rem (ins H z e) (G.on (z::G.top)).gs=rem H G.gs:=by
  rw[jF];exact sh _ hz
 refine⟨h.Cg (t:=z::G.top) (List.nodup_cons.2 ⟨hm,h.nd⟩) (fun q hq=> ?_) (fun q hq=>bn _ _ fun(e':q=z)=>hm (by rw[←e'];exact GG.kO hq)) (by rw[e1];exact .refl _),e1⟩
 rcases List.mem_cons.1 hq with rfl | hq
 ·rw[bC];simp
 ·rw[bn _ _ (fun(e':q=z)=>hm (by rw[←e'];exact GG.Ce hq))];exact h.top q hq
end
end Go.aq
namespace Go.aq
open Go.Proofs Num Lp
theorem MN{xs vs:List Value}{f:Nat→Rat}{n k:Nat}{q:Rat}(h:bG fA 2 xs (aK f n))(hk:k<n)(hv:fA vs q):bG fA 2 (aL xs (k*2) vs) (aK (bT f k q) n):=by
 rw[←Lc]
 exact h.set (by rw[bh];exact hk) hv (by obtain⟨a,b,rfl,_⟩:=hv;rfl)
abbrev rj(_:Heap)(vs:List Value)(q:Rat):Prop:=fA vs q
theorem zN:Up rj:=fun _ _ _ _ _ h=>h
abbrev qb(W:Nat)(xs:List Value)(f:Nat→Rat)(k:Nat):Prop:=bG (iw rj (fun _=>none)) 2 xs (fill (aK f W) k)
theorem MO{W k:Nat}{xs:List Value}{f:Nat→Rat}(h:qb W xs f k)(hk:k≤W):xs.length=W*2:=by
 have:=h.len
 rwa [m9 (by rw[bh];exact hk),bh]at this
theorem Sf{W k:Nat}{xs vs:List Value}{f:Nat→Rat}(h:qb W xs f k)(hk:k<W)(hv:fA vs (f k)):qb W (aL xs (k*2) vs) f (k+1):=by
 show bG _ _ _ _
 rw[←y7 (dD hk)]
 exact h.set (by rw[m9 (by rw[bh];omega),bh];exact hk) (show iw rj _ vs (some (f k))from hv) (by obtain⟨a,b,rfl,_⟩:=hv;rfl)
theorem Sg{W:Nat}{xs:List Value}{f:Nat→Rat}(h:qb W xs f W):bG fA 2 xs (aK f W):=by
 refine DJ (P:=rj) (H:=fun _=>none) ?_
 rw[bh];exact h
theorem Sh{W:Nat}{f:Nat→Rat}:qb W (cR [.int .i64 0,.int .i64 0] (W*2)) f 0:=by
 have:=Bs (P:=rj) (H:=fun _=>none) (zs:=[.int .i64 0,.int .i64 0]) (sz:=2) rfl (aK f W)
 rwa [bh]at this
theorem EP{xs vs:List Value}{s e k:Nat}:({(⟨xs,s,e,true⟩:Ent)with xs:=aL xs (0+k*2) vs}:Ent)=⟨aL xs (k*2) vs,s,e,true⟩:=by rw[Nat.zero_add]
theorem wg{p:Prg}{j:Nat}:p.mi (j+1)=p.mi j+(if p.lp.free j then 1 else 0):=by
 have h1:a7 p.lp.free (j+1)=a7 p.lp.free j+1+(if p.lp.free j then 1 else 0):=rfl
 have h2:=zK (fr:=p.lp.free) j
 show p.lp.n+(a7 p.lp.free (j+1)-(j+1))=p.lp.n+(a7 p.lp.free j-j)+_
 omega
def lN(M:Nat→Nat→Rat)(B:Nat→Nat)(f:Nat→Rat):Nat→Nat→Rat
 | 0=>f
 | i+1=>fun k=>lN M B f i k-lN M B f i (B i)*M i k
theorem aaC{M:Nat→Nat→Rat}{B:Nat→Nat}{f:Nat→Rat}{i:Nat}(h:lN M B f i (B i)=0)(k:Nat):lN M B f (i+1) k=lN M B f i k:=by
 show lN M B f i k-lN M B f i (B i)*M i k=_
 rw[h];grind
structure QZ(o:Bool)(K S H:Heap)(g:Nat)(G:GG)(R W m:Nat)(M:Nat→Nat→Rat)(B:Nat→Nat)(z:Nat)(f:Nat→Rat):Prop where
 q:QV o H g (G.on (z::G.top)) R W m M B
 row:∃xs,H z=some ⟨xs,W*2,138,true⟩∧bG fA 2 xs (aK f W)
 ne:z≠g
 le:Heap.le K (rem H (G.on (z::G.top)).gs)
 same:∀q,q∈G.gs→q≠g→H q=S q
section
variable {o o':Bool} {K S H H':Heap} {g:Nat} {G:GG} {R W m z:Nat} {M:Nat→Nat→Rat} {B:Nat→Nat} {f:Nat→Rat}
theorem QZ.Si(h:QZ o K S H g G R W m M B z f):¬z∈G.gs:=(List.nodup_cons.1 (show (z::G.gs).Nodup from h.q.de.nd)).1
theorem QZ.mO:z∈(G.on (z::G.top)).gs:=List.mem_append_left _ (List.mem_cons_self ..)
theorem QZ.fresh(h:QZ o K S H g G R W m M B z f){k:Nat}{e:Ent}(hk:H k=none):QZ o K S (ins H k e) g G R W m M B z f:=by
 obtain⟨h1,h2⟩:=h.q.fresh (e:=e) hk
 obtain⟨xs,h3,h4⟩:=h.row
 refine⟨h1,⟨xs,?_,h4⟩,h.ne,h.le.trans h2,fun q hq bA=>by rw[bn _ _ (fun(e':q=k)=>h.q.de.ne q (List.mem_cons_of_mem _ hq) (by rw[e'];exact hk))];exact h.same q hq bA⟩
 rw[bn _ _ (fun e'=>by rw[e',hk]at h3;cases h3)];exact h3
theorem QZ.set(h:QZ o K S H g G R W m M B z f)(ht:fU (G.on (z::G.top)).gs g H H')(iG:H' g=some ⟨[.slice G.Ar R G.cr,G.bv,.bool o'],3,135,true⟩){xs:List Value}(hx:H z=some ⟨xs,W*2,138,true⟩)(iE:bG fA 2 xs (aK f W)){k:Nat}(hk:k<W){vs:List Value}{q:Rat}(hv:fA vs q):
  QZ o' K S (ins H' z ⟨aL xs (k*2) vs,W*2,138,true⟩) g G R W m M B z (bT f k q):=by
 have h1:=h.q.vc ht iG
 have hm:z∈(G.on (z::G.top)).gs:=QZ.mO
 have hT:fU (G.on (z::G.top)).gs z H' (ins H' z ⟨aL xs (k*2) vs,W*2,138,true⟩):=((Kept.refl _ _).iI z).ins hm _
 exact⟨⟨h1.de.Ch (List.mem_cons_self ..) hT (by rw[bC];simp),h1.gt,by rw[bn _ _ (Ne.symm h.ne)];exact h1.st⟩,⟨_,bC _ _ _,MN iE hk hv⟩,h.ne,h.le.trans (ht.le.trans hT.le),fun r hr bA=>by rw[bn _ _ (fun(e':r=z)=>h.Si (by rw[←e'];exact hr)),ht.same r (List.mem_cons_of_mem _ hr) bA];exact h.same r hr bA⟩
theorem QZ.vZ(h:QZ o K S H g G R W m M B z f):QZ o (rem H (G.on (z::G.top)).gs) S H g G R W m M B z f:=⟨h.q,h.row,h.ne,.refl _,h.same⟩
theorem QZ.down{K':Heap}(h:QZ o K S H g G R W m M B z f)(hl:Heap.le K' K):QZ o K' S H g G R W m M B z f:=⟨h.q,h.row,h.ne,hl.trans h.le,h.same⟩
end
theorem aj6{o:Bool}{H:Heap}{g:Nat}{G:GG}{W m N:Nat}{M:Nat→Nat→Rat}{B:Nat→Nat}{p:Prg}{pv cv:Value}{c:List Rat}(h:QV o H g G m W m M B)(hp:nt N (rem H G.gs) pv p)(hc:aN rj 2 (rem H G.gs) cv c)(fj:c.length=p.free.length)(te:p.c1≤W)(hB:∀i,i<m→B i<W)(hm:(m:Int)≤900000)(hW:(W:Int)≤1000000):
 Fn Tryz.prog 101 #[.pointer (some ⟨g,0,none⟩),pv,cv,.int .i64 (W:Int)] H (fun v H'=>∃z f o',v = .slice (some ⟨z,0,none⟩) W W∧QZ o' (rem H G.gs) H H' g G m W m M B z f∧(o'=false→o=false∧∀k,k<W→f k=lN M B (fe p (fn c) 1 p.lp.n) m k)):=by
 obtain⟨fv,kK,rfl,nx,ny⟩:=id hp
 obtain⟨Af,cf,xf,rfl,p3,p4⟩:=nx.one
 obtain⟨Ar,cr,xr,rfl,qu,kL,sX⟩:=id ny
 obtain⟨Ac,cc,xc,rfl,L1,nP,uc⟩:=id hc
 have du:=xZ (p:=p)
 have Sj:p.free.length≤W:=Nat.le_trans du te;refine aY (args:=[_,_,_,_]) Tryz.func101 rfl rfl Tryz.ntmps101 rfl rfl fun w0=> ?_;refine ah [0,1,2,3] rfl ?_;refine ae (bZ rfl rfl (aa 1 rfl (ab [0,2,3,5] ?_)));refine ae (aa 1 rfl (gO Tryz.underlying136 fQ rfl rfl rfl (by omega) (by omega) (by omega) (by omega) ?_));intro z hz;rw[Int.toNat_natCast]
 have nS:z≠g:=fun e9=>by rw[e9,h.st]at hz;cases hz
 have ER:∀e9:Ent,Heap.le (rem H G.gs) (ins H z e9):=fun e9=>(bF _ _).trans (Heap.bI _ hz)
 obtain⟨Ab,cb,dy,fJ⟩:∃Ab cb,G.bv = .slice Ab m cb∧∀o' t H',cD wa H' (G.on t) m W m M B→∀i,i<m→Rd H' Ab (eP B m):=by
  rcases h.de.basis with ⟨h1,h2,h3⟩ | ⟨gb,cb,sz,h1,h2,h3⟩
  ·exact⟨none,0,by rw[h3,h1],fun _ _ _ _ i hi=>by omega⟩
  ·
   refine⟨_,cb,h2,fun o' t H' h' i hi=> ?_⟩
   rcases h'.basis with ⟨k1,k2,k3⟩ | ⟨Cn,EL,qm,k1,k2,k3⟩
   ·omega
   have k1:G.bb = [Cn]:=k1;rw[h1]at k1;cases k1;exact dQ k3
 refine aa 1 rfl (ab [0,2,5,9] ?_);refine ao (ae (aa 3 rfl (ab [0,2,5,9,19,20] ?_)));refine aE (fX (fun(k:Nat)(xs:List Value)=>W-k) (fun(k:Nat)(xs:List Value)=>put (put (put (put (put (put (emp) 0 (.val (.pointer (some ⟨g,0,none⟩)))) 2 (.val (.slice Ac c.length cc))) 5 (.box [.slice Af p.free.length cf,.slice Ar p.rows.length cr])) 9 (.val (.slice (some ⟨z,0,none⟩) W W))) 19 (.val (.int .i64 (W:Int)))) 20 (.val (.int .i64 (k:Int)))) (fun(k:Nat)(xs:List Value) H'=>H'=ins H z ⟨xs,W*2,138,true⟩∧qb W xs (fun _=>0) k∧k≤W) 0 (cR [.int .i64 0,.int .i64 0] (W*2)) (⟨rfl,Sh,Nat.zero_le _⟩) ar ?_);rintro k xs H2 ⟨e2,hF,hk⟩;rw[e2];clear e2 H2;have cY:=MO hF hk;refine ae (aa 1 rfl (ab [0,2,5,9,19,20,21] ?_));refine ao (aD rfl (fun hb=> ?_) (fun hb=> ?_))
 ·
  have fk:k<W:=by simpa using hb
  refine aw (ah [0,2,5,9,19,20] rfl ?_);refine ao (aE (ae (aa 2 rfl (ab [0,2,5,9,10,19,20] ?_))));refine aA rfl (aa 2 rfl (di ag rfl fQ rfl rfl ?_));obtain⟨ti,aj,ak⟩:=eF;refine cT (.inl rfl) ag rfl rfl rfl (by omega) (by omega) (bC _ _ _) rfl (by show 0+W*2≤xs.length;omega) aj ak (fun _=>rfl) rfl rfl rfl fun _=> ?_;refine au (ah [0,2,5,9,19,20] rfl ?_);refine aA rfl (aF rfl rfl ⟨by omega,by omega⟩ (aa 1 rfl (au ?_)));rw[EP,nF];exact⟨k+1,_,by omega,ar,rfl,by rw[Int.toNat_natCast];exact Sf hF fk EF,by omega⟩
 ·
  have hb:W≤k:=by simpa using hb
  obtain rfl:k=W:=by omega
  have Sk:=Sg hF;refine aU (ah [0,2,5,9] rfl ?_);refine ae (aa 4 rfl (ab [0,2,5,9,11] ?_));refine ao (ae (aa 4 rfl (ab [0,2,5,9,11,33,34] ?_)));refine aE (fX (fun(j:Nat)(ys:List Value)=>p.free.length-j) (fun(j:Nat)(ys:List Value)=>put (put (put (put (put (put (put (emp) 0 (.val (.pointer (some ⟨g,0,none⟩)))) 2 (.val (.slice Ac c.length cc))) 5 (.box [.slice Af p.free.length cf,.slice Ar p.rows.length cr])) 9 (.val (.slice (some ⟨z,0,none⟩) k k))) 11 (.val (.int .i64 (p.mi j:Int)))) 33 (.val (.int .i64 (p.free.length:Int)))) 34 (.val (.int .i64 (j:Int)))) (fun(j:Nat)(ys:List Value) H'=>H'=ins H z ⟨ys,k*2,138,true⟩∧bG fA 2 ys (aK (fe p (fn c) 1 j) k)∧j≤p.free.length) 0 xs (⟨rfl,Sk,Nat.zero_le _⟩) (by repeat (first | exact iN _ | refine dB rfl ?_ | refine dB (jb (by first | omega | (simp;done) | rfl)) ?_)) ?_);rintro j ys H3 ⟨e3,hE,hj⟩;rw[e3];clear e3 H3;have kR:=hE.len;rw[bh]at kR;refine ae (aa 1 rfl (ab [0,2,5,9,11,33,34,35] ?_));refine ao (aD rfl (fun hb=> ?_) (fun hb=> ?_))
  ·
   have gY:j<p.free.length:=by simpa using hb
   obtain⟨vs,_,Ct,mP⟩:=uc.get (show c[j]? = some (fn c j) by rw[List.getElem?_eq_getElem (by omega),m8 (List.getElem?_eq_getElem (by omega))]);obtain⟨n1,d1,rfl,i1,i2,i3,i4,bX⟩:=id (show fA vs (fn c j)from Ct)
   have Cu:fA [.int .i64 n1,.int .i64 d1] (fn c j*1):=by rw[Rat.mul_one];exact Ct
   have Sm:=MN hE (show j<k by omega) Cu;have aj7:=Sm.len;rw[bh]at aj7;obtain⟨uf,qS,ks⟩:=p4 j _ (List.getElem?_eq_getElem gY);have ks: [uf] = [Value.bool p.free[j]]:=ks
   cases ks
   have jI:p.lp.free j=p.free[j]:=Prg.Bh (List.getElem?_eq_getElem gY);have aaD:=MI (p:=p) (j:=j);refine aw (ah [0,2,5,9,11,33,34] rfl ?_);refine ao (aE (ae (aa 2 rfl (ab [0,2,5,9,11,12,33,34] ?_))));refine ae (aa 4 rfl (bY (vs:=[.int .i64 n1,.int .i64 d1]) ag rfl rfl rfl rfl (nP.le (ER _)) rfl (by decide) (by rw[Int.toNat_natCast];exact mP) (by omega) (by omega) fun _=> ?_));obtain⟨ti,aj,ak⟩:=eF;refine cT (.inl rfl) ag rfl rfl rfl (by omega) (by omega) (bC _ _ _) rfl (by show 0+k*2≤ys.length;omega) aj ak (fun _=>rfl) rfl rfl rfl fun _=> ?_;refine ab [0,2,5,9,11,12,33,34] ?_;rw[EP,nF,Int.toNat_natCast];refine ae (aa 3 rfl (aS ag rfl rfl rfl rfl rfl (p3.le (ER _)) (by rw[Int.toNat_natCast];exact qS) (by omega) (by omega) fun _=> ?_));refine ab [0,2,5,9,11,12,33,34,48] ?_;refine aD rfl (fun hb=> ?_) (fun hb=> ?_)
   ·
    have fN:p.lp.free j=true:=by rw[jI];simpa using hb
    have x8:p.mi j<k:=Nat.lt_of_lt_of_le (we gY fN) te;have gg:fA [.int .i64 (-n1),.int .i64 d1] (-(fn c j*1)):=⟨-n1,d1,rfl,by omega,by omega,i3,i4,by rw[Rat.mul_one,bX,Rat.intCast_neg,Rat.div_def,Rat.div_def];grind⟩;refine bN .gD [0,1,2,3,4,5,6,7,8,9,10,11,12,13,14,15] follows (gV [0,0,0,0,12,28,60,124,0,0,768,1792,3840,8188,16383,32767] (by kernel_rfl)) ?_;refine aa 4 rfl (jW ag rfl rfl rfl rfl rfl rfl rfl (nP.le (ER _)) (by rw[Int.toNat_natCast];exact mP 0 _ rfl) (by omega) (by omega) fun _ _=> ?_);refine tD rfl ⟨by omega,by omega⟩ (aa 2 rfl (jW ag rfl rfl rfl rfl rfl rfl rfl (nP.le (ER _)) (by rw[Int.toNat_natCast];exact mP 1 _ rfl) (by omega) (by omega) fun _ _=> ?_));refine di ag rfl fQ rfl rfl ?_;obtain⟨ti,aj,ak⟩:=eF;refine cT (.inr rfl) ag rfl rfl rfl (by omega) (by omega) (bC _ _ _) rfl (by show 0+k*2≤(aL ys (j*2) _).length;omega) aj ak (fun _=>rfl) rfl rfl rfl fun _=> ?_;refine ab [0,2,5,9,11,33,34] ?_;refine aA rfl (aa 1 rfl (aF rfl rfl ⟨by omega,by omega⟩ (aa 1 rfl (au (ah [0,2,5,9,11,33,34] rfl ?_)))));refine aA rfl (aF rfl rfl ⟨by omega,by omega⟩ (aa 1 rfl (au ?_)));rw[EP,nF]
    have e8:p.mi (j+1)=p.mi j+1:=by rw[wg,if_pos fN]
    exact⟨j+1,_,by omega,ar,rfl,by rw[Int.toNat_natCast];unfold fe;rw[if_pos fN];exact MN Sm x8 gg,by omega⟩
   have fN:¬p.lp.free j=true:=by rw[jI];simpa using hb
   refine aw (ah [0,2,5,9,11,33,34] rfl ?_);refine aA rfl (aF rfl rfl ⟨by omega,by omega⟩ (aa 1 rfl (au ?_)))
   have e8:p.mi (j+1)=p.mi j:=by rw[wg,if_neg fN,Nat.add_zero]
   exact⟨j+1,_,by omega,ar,rfl,by unfold fe;rw[if_neg fN];exact Sm,by omega⟩
  have gY:p.free.length≤j:=by simpa using hb
  obtain rfl:j=p.free.length:=by omega
  obtain⟨DP,Sn⟩:=h.de.apart (e:=⟨ys,k*2,138,true⟩) hz;have hZ0:QZ o (rem H G.gs) H (ins H z ⟨ys,k*2,138,true⟩) g G m k m M B z (fe p (fn c) 1 p.lp.n):=⟨⟨DP,List.mem_cons_of_mem _ h.gt,by rw[bn _ _ (Ne.symm nS)];exact h.st⟩,⟨_,bC _ _ _,hE⟩,nS,by rw[Sn];exact .refl _,fun q hq _=>bn _ _ fun(e':q=z)=>h.de.ne q hq (by rw[e'];exact hz)⟩;refine aU (ah [0,9] rfl ?_);refine ao (ae (aa 2 rfl (aV ag rfl rfl rfl (aR ag rfl rfl rfl (show cell _ _=some (.slice Ab m cb)from by rw[←dy];exact hZ0.q.mM) ?_))));refine aa 2 rfl (ab [0,9,71,72] ?_);refine aE (fD (fun(i:Nat)(f:Nat→Rat)(o1:Bool)=>m-i) (fun(i:Nat)(f:Nat→Rat)(o1:Bool)=>put (put (put (put (emp) 0 (.val (.pointer (some ⟨g,0,none⟩)))) 9 (.val (.slice (some ⟨z,0,none⟩) k k))) 71 (.val (.int .i64 (m:Int)))) 72 (.val (.int .i64 (i:Int)))) (fun(i:Nat)(f:Nat→Rat)(o1:Bool) H'=>QZ o1 (rem H G.gs) H H' g G m k m M B z f∧(o1=false→o=false∧∀q,q<k→f q=lN M B (fe p (fn c) 1 p.lp.n) i q)∧i≤m) 0 (fe p (fn c) 1 p.lp.n) o (⟨hZ0,fun h9=>⟨h9,fun _ _=>rfl⟩,Nat.zero_le _⟩) ar ?_);rintro i f o1 H4 ⟨hZ,hI,hi⟩;obtain⟨zs,qo,sZ⟩:=hZ.row;refine ae (aa 1 rfl (ab [0,9,71,72,73] ?_));refine ao (aD rfl (fun hb=> ?_) (fun hb=> ?_))
  ·
   have aO:i<m:=by simpa using hb
   have uV:=hB i aO;obtain⟨n4,d4,Fv,mq,i1,i2,i3,i4,cn⟩:=mN sZ uV;refine aw (ah [0,9,71,72] rfl ?_);refine ao (aE (ae (aa 2 rfl (ab [0,9,13,71,72] ?_))));refine ae (aa 3 rfl (aV ag rfl rfl rfl (aR ag rfl rfl rfl (show cell _ _=some (.slice Ab m cb)from by rw[←dy];exact hZ.q.mM) ?_)));refine aa 1 rfl (aS ag rfl rfl rfl rfl rfl (fJ o _ _ hZ.q.de i aO) (by rw[Int.toNat_natCast];exact gQ aO) (by omega) (by omega) fun _=> ?_);refine bY (vs:=[.int .i64 n4,.int .i64 d4]) ag rfl rfl rfl rfl (dQ qo) rfl (by decide) (by rw[Int.toNat_natCast];exact mq) (by omega) (by omega) fun _=> ?_;refine bm fQ rfl ?_;obtain⟨ti,aj,ak⟩:=eF;refine aI (.inl ⟨rfl,rfl⟩) rfl rfl rfl aj ak rfl rfl rfl (ab [0,9,13,14,71,72] ?_);refine Mo 14 rfl fun g14 ya oY=>(ao (ae (aV ag rfl rfl rfl (aR ag rfl rfl rfl (show cell _ ((⟨g14,0,none⟩:Addr).add 0)=_ by simp[cell,iu,ins];rfl) ?_))));refine aa 1 rfl (ab [0,9,13,14,71,72,87] ?_);refine aD rfl (fun hb=> ?_) (fun hb=> ?_)
   ·
    have hb:n4=0:=by simpa using hb
    refine aU (ah [0,9,71,72] rfl ?_);refine aA rfl (aF rfl rfl ⟨by omega,by omega⟩ (aa 1 rfl (au ?_)));exact⟨i+1,f,o1,by omega,ar,hZ.fresh oY,fun h9=>⟨(hI h9).1,fun q hq=>by rw[aaC (by rw[←(hI h9).2 _ (hB i aO),cn];exact(uS i3).2 hb)];exact(hI h9).2 q hq⟩,by omega⟩
   have hb:n4≠0:=by simpa using hb
   have aj8:=hZ.fresh (e:=⟨[.int .i64 n4,.int .i64 d4],2,ya,true⟩) oY;obtain⟨_,zO⟩:=hZ.q.fresh (e:=⟨[.int .i64 n4,.int .i64 d4],2,ya,true⟩) oY;have aj9:Rd (rem (ins H4 g14 ⟨[.int .i64 n4,.int .i64 d4],2,ya,true⟩) (G.on (z::G.top)).gs) (some ⟨g14,0,none⟩) [.int .i64 n4,.int .i64 d4]:=RR (eN _ _ _ _ _ _) fun hm=>hZ.q.de.ne _ hm oY
   show VC _ _ _ _ _ _ _ (ins H4 g14 ⟨[.int .i64 n4,.int .i64 d4],2,ya,true⟩)
   generalize ins H4 g14 ⟨[.int .i64 n4,.int .i64 d4],2,ya,true⟩=H5 at *
   have qc:=aj8.vZ;obtain⟨pi,cX⟩:=h.de.get aO;refine aw (ah [0,9,13,14,71,72] rfl ?_);refine ae (aa 3 rfl (ab [0,9,13,14,71,72,89,90] ?_));refine aE (fD (fun(q:Nat)(f2:Nat→Rat)(o2:Bool)=>k-q) (fun(q:Nat)(f2:Nat→Rat)(o2:Bool)=>put (put (put (put (put (put (put (put (emp) 0 (.val (.pointer (some ⟨g,0,none⟩)))) 9 (.val (.slice (some ⟨z,0,none⟩) k k))) 13 (.val (.int .i64 (i:Int)))) 14 (.val (.pointer (some ⟨g14,0,none⟩)))) 71 (.val (.int .i64 (m:Int)))) 72 (.val (.int .i64 (i:Int)))) 89 (.val (.int .i64 (k:Int)))) 90 (.val (.int .i64 (q:Int)))) (fun(q:Nat)(f2:Nat→Rat)(o2:Bool) H'=>QZ o2 (rem H5 (G.on (z::G.top)).gs) H H' g G m k m M B z f2∧(o2=false→o1=false∧∀j,f2 j=if j<q then f j-f (B i)*M i j else f j)∧q≤k) 0 f o1 (⟨qc,fun h9=>⟨h9,fun j=>by rw[if_neg (Nat.not_lt_zero _)]⟩,Nat.zero_le _⟩) ar ?_);rintro q f2 o2 H6 ⟨hY,hR,fT⟩;obtain⟨ws,tf,nI⟩:=hY.row;obtain⟨DQ,qI,aan,pX⟩:=hY.q.rk;obtain⟨xi6,si6,Sq,Sr⟩:=hY.q.row (G:=G.on _) cX;have pJ:=nI.len;rw[bh]at pJ;refine ae (aa 1 rfl (ab [0,9,13,14,71,72,89,90,91] ?_));refine ao (aD rfl (fun hb=> ?_) (fun hb=> ?_))
   ·
    have tg:q<k:=by simpa using hb
    obtain⟨n5,d5,CW,l4,_⟩:=mN nI tg;obtain⟨n6,d6,kS,pT,_⟩:=mN Sr tg;refine aw (ah [0,9,13,14,71,72,89,90] rfl ?_);refine ao (aE (ae (aa 2 rfl (ab [0,9,13,14,15,71,72,89,90] ?_))));have bo:=IE g H6;refine eK (.cO (lk g H6)) [0,1,2,3,4,5,6,7,8,9,10,11,12,13,14,15,16,17,18,19,20,21,22] follows (gV [0,0,0,0,0,24,56,0,0,0,512,1536,3584,0,15872,32256,0,130560,261632,524160,1048572,2097151,4194303] (by kernel_rfl)) ?_;refine eR bo rfl (eR bo rfl (eR bo rfl (eR bo rfl (eR bo rfl (Ck bo ag rfl rfl rfl rfl (zF tf nS) rfl (by decide) (by rw[Int.toNat_natCast];exact l4) (by omega) (by omega) fun _=> ?_)))));refine eR bo rfl (IF bo ag rfl rfl rfl (((aj9.le hY.le).kx hY.q.mem).at) (eR bo rfl (l6 bo rfl (l7 bo ag rfl rfl rfl (jS bo ag rfl rfl rfl (hY.q.k0) (eR bo rfl (Cj bo ag rfl rfl rfl rfl rfl (qI) (by rw[Int.toNat_natCast];exact pX i pi cX) (by omega) (by omega) fun _=> ?_)))))));refine eR bo rfl (Ck bo ag rfl rfl rfl rfl (zF Sq (hY.q.xQ (G:=G.on _) cX)) rfl (by decide) (by rw[Int.toNat_natCast];exact pT) (by omega) (by omega) fun _=> ?_)
    refine Cl rfl rfl (Rz hY.q.mem hY.q.st (show fA _ (f (B i)) by rw[cn];exact⟨n4,d4,rfl,i1,i2,i3,i4,rfl⟩) kS) (fun v H9 rf=>by obtain⟨k1,_,_,_,_,_,k2,_⟩:=rf;exact hY.q.fO k1 k2) ?_;rintro v7 H7 ⟨s5,vs7,o7,q7,rfl,aka,aaE,iT⟩;have bo:=hY.q.fO s5 aaE;refine Cl rfl rfl (RA hY.q.mem aaE CW aka) (fun v H9 rf=>by obtain⟨k1,_,_,_,_,_,k2,_⟩:=rf;exact hY.q.fO (s5.trans k1) k2) ?_;rintro v8 H8 ⟨qZ,vs8,o8,q8,rfl,aaF,s9,eJ⟩;obtain⟨n8,d8,rfl,_⟩:=id aaF;have bo:=hY.q.fO (s5.trans qZ) s9;have Ss:=((s5.trans qZ).same z QZ.mO nS).trans tf;have Su:=hY.set (s5.trans qZ) s9 tf nI tg aaF;obtain⟨ti,aj,ak⟩:=eF;refine Mp bo ag rfl rfl rfl (by omega) (by omega) (Ss) rfl (by show k*2≤ws.length;omega) aj ak (fun _=>rfl) rfl rfl rfl fun _=> ?_;refine au (ah [0,9,13,14,71,72,89,90] rfl ?_);refine aA rfl (aF rfl rfl ⟨by omega,by omega⟩ (aa 1 rfl (au ?_)))
    exact⟨q+1,bT f2 q q8,o8,by omega,ar,Su,fun h9=>⟨(hR (iT (eJ h9).1).1).1,fun j=>by
     have g1:=eJ h9;have g2:=iT g1.1;have g3:=hR g2.1
     by_cases ej:j=q
     ·
      subst ej;rw[re,g1.2,g2.2,g3.2 j,if_neg (by omega),if_pos (by omega)]
     ·
      rw[pc ej,g3.2 j]
      by_cases hj:j<q
      ·rw[if_pos hj,if_pos (by omega)]
      ·rw[if_neg hj,if_neg (by omega)]⟩,by omega⟩
   have tg:k≤q:=by simpa using hb
   obtain rfl:q=k:=by omega
   refine aU (ah [0,9,71,72] rfl ?_);refine aA rfl (aF rfl rfl ⟨by omega,by omega⟩ (aa 1 rfl (au ?_)))
   exact⟨i+1,f2,o2,by omega,ar,hY.down (hZ.le.trans zO),fun h9=>⟨(hI (hR h9).1).1,fun q hq=>by
    rw[(hR h9).2 q,if_pos hq,(hI (hR h9).1).2 q hq,(hI (hR h9).1).2 _ (hB i aO)];rfl⟩,by omega⟩
  have aO:m≤i:=by simpa using hb
  obtain rfl:i=m:=by omega
  refine aU (ah [9] rfl ?_);refine ae (aa 2 rfl (ab [8] ?_));refine az ⟨.inr rfl,_,.tmp rfl (.nil),?_⟩;exact⟨z,f,o1,rfl,hZ,hI⟩
end Go.aq
namespace Go.aq
open Go.Proofs Num Lp
def iL(M:Nat→Nat→Rat)(B:Nat→Nat)(n:Nat):Nat→Nat→Rat
 | 0=>fun _=>0
 | i+1=>bT (iL M B n i) (B i) (M i n)
theorem SA{n d:Int}{q:Rat}(h1: -1073741824≤n)(h2:n≤1073741824)(h3:1≤d)(h4:d≤1073741824)(h:q=(n:Rat)/(d:Rat)):aM q≤8:=by
 have hz:∀k:Int,-1073741824≤k→k≤1073741824→aM (k:Rat)≤2:=fun k g1 g2=>KH.2 (by
  rw[Rat.num_intCast,Rat.den_intCast,ck];omega)
 have k1:=hz n h1 h2
 have k2:=hz d (by omega) h4
 have k3:=DU (n:Rat) (d:Rat)
 rw[h];omega
def jJ(p:Prg)(a:Nat→Rat)(j:Nat):Rat:=if p.lp.free j then a j-a (p.mi j)else a j
theorem aaG{o:Bool}{H:Heap}{g:Nat}{G:GG}{W m N:Nat}{M:Nat→Nat→Rat}{B:Nat→Nat}{p:Prg}{pv:Value}(h:QV o H g G (m+1) W m M B)(hp:nt N (rem H G.gs) pv p)(te:p.c1≤W)(h1W:1≤W)(hB:∀i,i<m→B i<W)(hm:(m:Int)≤900000)(hW:(W:Int)≤1000000):
 Fn Tryz.prog 102 #[.pointer (some ⟨g,0,none⟩),pv,.int .i64 (W:Int)] H (fun v H'=>Heap.le H H'∧aN cg 3 H' v (aK (jJ p (iL M B (W-1) m)) p.free.length)∧∀q,q<p.free.length→aM (jJ p (iL M B (W-1) m) q)≤17):=by
 obtain⟨fv,kK,rfl,nx,ny⟩:=id hp
 obtain⟨Af,cf,xf,rfl,p3,p4⟩:=nx.one
 obtain⟨Ar,cr,xr,rfl,qu,kL,sX⟩:=id ny
 have du:=xZ (p:=p)
 have Sj:p.free.length≤W:=Nat.le_trans du te;refine aY (args:=[_,_,_]) Tryz.func102 rfl rfl Tryz.ntmps102 rfl rfl fun w0=> ?_;refine ah [0,1,2] rfl ?_;refine ae (bZ rfl rfl (aa 1 rfl (ab [0,2,4] ?_)));refine ae (aa 1 rfl (gO Tryz.underlying136 fQ rfl rfl rfl (by omega) (by omega) (by omega) (by omega) ?_));intro z hz;rw[Int.toNat_natCast]
 have nS:z≠g:=fun e9=>by rw[e9,h.st]at hz;cases hz
 have ER:∀e9:Ent,Heap.le (rem H G.gs) (ins H z e9):=fun e9=>(bF _ _).trans (Heap.bI _ hz)
 obtain⟨Ab,cb,dy,fJ⟩:∃Ab cb,G.bv = .slice Ab m cb∧∀i,i<m→Rd H Ab (eP B m):=by
  rcases h.de.basis with ⟨h1,h2,h3⟩ | ⟨gb,cb,sz,h1,h2,h3⟩
  ·exact⟨none,0,by rw[h3,h1],fun i hi=>by omega⟩
  ·exact⟨_,cb,h2,fun i hi=>dQ h3⟩
 have FA:∀(e9:Ent) k v,cell H ((⟨g,0,none⟩:Addr).add k)=some v→cell (ins H z e9) ((⟨g,0,none⟩:Addr).add k)=some v:=fun e9 k v h9=>cF (Heap.bI _ hz) h9;refine aa 1 rfl (ab [0,2,4,7] ?_);refine ao (ae (aa 3 rfl (ab [0,2,4,7,17,18] ?_)));refine aE (fX (fun(k:Nat)(xs:List Value)=>W-k) (fun(k:Nat)(xs:List Value)=>put (put (put (put (put (put (emp) 0 (.val (.pointer (some ⟨g,0,none⟩)))) 2 (.val (.int .i64 (W:Int)))) 4 (.box [.slice Af p.free.length cf,.slice Ar p.rows.length cr])) 7 (.val (.slice (some ⟨z,0,none⟩) W W))) 17 (.val (.int .i64 (W:Int)))) 18 (.val (.int .i64 (k:Int)))) (fun(k:Nat)(xs:List Value) H'=>H'=ins H z ⟨xs,W*2,138,true⟩∧qb W xs (fun _=>0) k∧k≤W) 0 (cR [.int .i64 0,.int .i64 0] (W*2)) (⟨rfl,Sh,Nat.zero_le _⟩) ar ?_);rintro k xs H2 ⟨e2,hF,hk⟩;rw[e2];clear e2 H2;have cY:=MO hF hk;refine ae (aa 1 rfl (ab [0,2,4,7,17,18,19] ?_));refine ao (aD rfl (fun hb=> ?_) (fun hb=> ?_))
 ·
  have fk:k<W:=by simpa using hb
  refine aw (ah [0,2,4,7,17,18] rfl ?_);refine ao (aE (ae (aa 2 rfl (ab [0,2,4,7,8,17,18] ?_))));refine aA rfl (aa 2 rfl (di ag rfl fQ rfl rfl ?_));obtain⟨ti,aj,ak⟩:=eF;refine cT (.inl rfl) ag rfl rfl rfl (by omega) (by omega) (bC _ _ _) rfl (by show 0+W*2≤xs.length;omega) aj ak (fun _=>rfl) rfl rfl rfl fun _=> ?_;refine au (ah [0,2,4,7,17,18] rfl ?_);refine aA rfl (aF rfl rfl ⟨by omega,by omega⟩ (aa 1 rfl (au ?_)));rw[EP,nF];exact⟨k+1,_,by omega,ar,rfl,by rw[Int.toNat_natCast];exact Sf hF fk EF,by omega⟩
 ·
  have hb:W≤k:=by simpa using hb
  obtain rfl:k=W:=by omega
  have Sk:=Sg hF;refine aU (ah [0,2,4,7] rfl ?_);refine ao (ae (aa 2 rfl (aV ag rfl rfl rfl (aR ag rfl rfl rfl (FA _ 1 (.slice Ab m cb) (by rw[←dy];exact h.mM)) ?_))));refine aa 2 rfl (ab [0,2,4,7,30,31] ?_);refine aE (fX (fun(i:Nat)(ys:List Value)=>m-i) (fun(i:Nat)(ys:List Value)=>put (put (put (put (put (put (emp) 0 (.val (.pointer (some ⟨g,0,none⟩)))) 2 (.val (.int .i64 (k:Int)))) 4 (.box [.slice Af p.free.length cf,.slice Ar p.rows.length cr])) 7 (.val (.slice (some ⟨z,0,none⟩) k k))) 30 (.val (.int .i64 (m:Int)))) 31 (.val (.int .i64 (i:Int)))) (fun(i:Nat)(ys:List Value) H'=>H'=ins H z ⟨ys,k*2,138,true⟩∧bG fA 2 ys (aK (iL M B (k-1) i) k)∧i≤m) 0 xs (⟨rfl,Sk,Nat.zero_le _⟩) ar ?_);rintro i ys H3 ⟨e3,hE,hi⟩;rw[e3];clear e3 H3;have kR:=hE.len;rw[bh]at kR;refine ae (aa 1 rfl (ab [0,2,4,7,30,31,32] ?_));refine ao (aD rfl (fun hb=> ?_) (fun hb=> ?_))
  ·
   have aO:i<m:=by simpa using hb
   have uV:=hB i aO;obtain⟨pi,cX⟩:=h.de.get (show i<m+1 by omega);obtain⟨xi,si,s8,xW⟩:=h.row cX;obtain⟨PD,_,xt,ic⟩:=h.rk;obtain⟨n4,d4,Fv,mq,_⟩:=mN xW (show k-1<k by omega);refine aw (ah [0,2,4,7,30,31] rfl ?_);refine ao (aE (ae (aa 2 rfl (ab [0,2,4,7,9,30,31] ?_))));refine eK .gD [0,1,2,3,4,5,6,7,8,9,10,11,12,13,14,15,16,17,18,19,20] follows (gV [0,0,2,6,14,0,62,126,0,256,768,1792,0,7936,16128,0,32768,130816,261888,524287,1048575] (by kernel_rfl)) ?_;refine aa 3 rfl (aV ag rfl rfl rfl (aR ag rfl rfl rfl (FA _ 1 (.slice Ab m cb) (by rw[←dy];exact h.mM)) ?_));refine aa 1 rfl (aS ag rfl rfl rfl rfl rfl ((fJ i aO).le (Heap.bI _ hz)) (by rw[Int.toNat_natCast];exact gQ aO) (by omega) (by omega) fun _=> ?_);refine aa 2 rfl (aV ag rfl rfl rfl (aR ag rfl rfl rfl (FA _ 0 _ h.iS) (aa 1 rfl (aS ag rfl rfl rfl rfl rfl (xt.le (Heap.bI _ hz)) (by rw[Int.toNat_natCast];exact ic i pi cX) (by omega) (by omega) fun _=> ?_))));refine aa 1 rfl (cQ rfl rfl ⟨by omega,by omega⟩ (bY (vs:=[.int .i64 n4,.int .i64 d4]) ag rfl rfl rfl rfl ((dQ s8).le (Heap.bI _ hz)) rfl (by decide) (by rw[show ((k:Int)-1).toNat=k-1 by omega];exact mq) (by omega) (by omega) fun _=> ?_))
   obtain⟨ti,aj,ak⟩:=eF;refine cT (.inr rfl) ag rfl rfl rfl (by omega) (by omega) (bC _ _ _) rfl (by show 0+k*2≤ys.length;omega) aj ak (fun _=>rfl) rfl rfl rfl fun _=> ?_;refine au (ah [0,2,4,7,30,31] rfl ?_);refine aA rfl (aF rfl rfl ⟨by omega,by omega⟩ (aa 1 rfl (au ?_)));rw[EP,nF];exact⟨i+1,_,by omega,ar,rfl,by rw[Int.toNat_natCast];exact MN hE uV Fv,by omega⟩
  have aO:m≤i:=by simpa using hb
  obtain rfl:i=m:=by omega
  have cM:=ER ⟨ys,k*2,138,true⟩;have Cv:Rd (ins H z ⟨ys,k*2,138,true⟩) (some ⟨z,0,none⟩) ys:=eN _ _ _ _ _ _;have SB:Heap.le H (ins H z ⟨ys,k*2,138,true⟩):=Heap.bI _ hz
  show VC _ _ _ _ _ _ _ (ins H z ⟨ys,k*2,138,true⟩)
  generalize ins H z ⟨ys,k*2,138,true⟩=H4 at *
  refine aU (ah [4,7] rfl ?_);refine ae (aa 3 rfl (gO Tryz.underlying28 cj rfl rfl rfl (by omega) (by omega) (by omega) (by omega) ?_));intro gx lB;have zP:=Iw (P:=cg) (e:=38) (sz:=3) (zs:=[.bool false,.slice none 0 0,.slice none 0 0]) (z:=0) (k:=(p.free.length:Int)) (c:=p.free.length) lB rfl (Int.toNat_natCast _) (by unfold maxLen;omega);rw[Int.toNat_natCast]at zP⊢;refine aa 1 rfl (ab [4,7,10] ?_);refine ae (aa 4 rfl (ab [4,7,10,11] ?_));refine ao (ae (aa 4 rfl (ab [4,7,10,11,64,65] ?_)));refine aE (fD (fun(j:Nat)(w:Value)(ws:List Value)=>p.free.length-j) (fun(j:Nat)(w:Value)(ws:List Value)=>put (put (put (put (put (put (emp) 4 (.box [.slice Af p.free.length cf,.slice Ar p.rows.length cr])) 7 (.val (.slice (some ⟨z,0,none⟩) k k))) 10 (.val (w))) 11 (.val (.int .i64 (p.mi j:Int)))) 64 (.val (.int .i64 (p.free.length:Int)))) 65 (.val (.int .i64 (j:Int)))) (fun(j:Nat)(w:Value)(ws:List Value) H'=>eo cg 38 3 H4 H' w (aK (jJ p (iL M B (k-1) i)) j) ws∧j≤p.free.length∧∀q,q<j→aM (jJ p (iL M B (k-1) i) q)≤17) 0 _ _ (⟨zP,Nat.zero_le _,fun q hq=>absurd hq (Nat.not_lt_zero _)⟩) (by repeat (first | exact iN _ | refine dB rfl ?_ | refine dB (jb (by first | omega | (simp;done) | rfl)) ?_)) ?_)
  rintro j w ws H5 ⟨hG,hj,cP⟩;obtain⟨A5,c5,e5⟩:=hG.form;rw[bh]at e5;subst e5;refine ae (aa 1 rfl (ab [4,7,10,11,64,65,66] ?_));refine ao (aD rfl (fun hb=> ?_) (fun hb=> ?_))
  ·
   have gY:j<p.free.length:=by simpa using hb
   obtain⟨n5,d5,CW,l4,i1,i2,i3,i4,eI⟩:=mN hE (show j<k by omega);obtain⟨uf,qS,ks⟩:=p4 j _ (List.getElem?_eq_getElem gY);have ks: [uf] = [Value.bool p.free[j]]:=ks
   cases ks
   have jI:p.lp.free j=p.free[j]:=Prg.Bh (List.getElem?_eq_getElem gY);have anU:=SA i1 i2 i3 i4 eI
   have Xi:aM (jJ p (iL M B (k-1) i) j)≤17:=by
    unfold jJ
    split
    ·
     rename_i rp
     obtain⟨n9,d9,_,_,k1,k2,k3,k4,k5⟩:=mN hE (show p.mi j<k from Nat.lt_of_lt_of_le (we gY rp) te);have k6:=SA k1 k2 k3 k4 k5;have k7:=so (iL M B (k-1) i j) (iL M B (k-1) i (p.mi j))
     omega
    ·omega
   refine aw (ah [4,7,10,11,64,65] rfl ?_);refine ao (aE (ae (aa 2 rfl (ab [4,7,10,11,12,64,65] ?_))));refine bN .bK [0,1,2,3,4,5,6,7,8,9,10,11,12] follows (by kernel_rfl) ?_;refine aa 2 rfl (jW ag rfl rfl rfl rfl rfl rfl rfl (Cv.le hG.le) (by rw[Int.toNat_natCast];exact l4 0 _ rfl) (by omega) (by omega) fun _ _=> ?_);refine aa 2 rfl (jW ag rfl rfl rfl rfl rfl rfl rfl (Cv.le hG.le) (by rw[Int.toNat_natCast];exact l4 1 _ rfl) (by omega) (by omega) fun _ _=> ?_);refine aW rfl rfl (hG.call (X5 (a:=n5) (b:=d5) (by omega) (by omega) (by omega) (by omega)).rc) (fun _ _ h=>h.le fun _ _ h=>h.1) ?_;rintro _ H6 lO;have iJ:=hG.km ef lO fun _ _ h=>h.1;obtain⟨⟨_,t6,rfl,nT⟩,_⟩:=lO;rw[←eI]at nT;refine bm cj rfl ?_;obtain⟨ti,aj,ak⟩:=aX;refine aI (.inl ⟨rfl,rfl⟩) rfl rfl rfl aj ak rfl rfl rfl (ab [4,7,10,11,12,13,64,65] ?_);refine AI (fun(t:RC)(a:Nat)=>put (put (put (put (put (put (put (emp) 4 (.box [.slice Af p.free.length cf,.slice Ar p.rows.length cr])) 7 (.val (.slice (some ⟨z,0,none⟩) k k))) 10 (.val (.slice A5 j c5))) 11 (.val (.int .i64 (a:Int)))) 13 (.box [.bool t.f,.slice t.A1 t.m1 t.c1,.slice t.A2 t.m2 t.c2])) 64 (.val (.int .i64 (p.free.length:Int)))) 65 (.val (.int .i64 (j:Int)))) (fun(t:RC)(a:Nat) H'=>eo cg 38 3 H4 H' (.slice A5 j c5) (aK (jJ p (iL M B (k-1) i)) j) ws∧a=p.mi (j+1)∧bH (rem H' (aC (.slice A5 j c5))) t.v (jJ p (iL M B (k-1) i) j)) ?_ ?_
   ·
    refine ae (aa 3 rfl (aS ag rfl rfl rfl rfl rfl (p3.le (cM.trans iJ.le)) (by rw[Int.toNat_natCast];exact qS) (by omega) (by omega) fun _=> ?_));refine ab [4,7,10,11,13,64,65,83] ?_;refine aD rfl (fun hb=> ?_) (fun hb=> ?_)
    ·
     have fN:p.lp.free j=true:=by rw[jI];simpa using hb
     have x8:p.mi j<k:=Nat.lt_of_lt_of_le (we gY fN) te;obtain⟨n7,d7,PJ,qY,j1,j2,j3,j4,aaH⟩:=mN hE x8;have anV:=SA j1 j2 j3 j4 aaH;refine bN .bK [0,1,2,3,4,5,6,7,8,9,10,11,12,13] follows (by kernel_rfl) ?_;refine aa 3 rfl (jW ag rfl rfl rfl rfl rfl rfl rfl (Cv.le iJ.le) (by rw[Int.toNat_natCast];exact qY 0 _ rfl) (by omega) (by omega) fun _ _=> ?_);refine aa 2 rfl (jW ag rfl rfl rfl rfl rfl rfl rfl (Cv.le iJ.le) (by rw[Int.toNat_natCast];exact qY 1 _ rfl) (by omega) (by omega) fun _ _=> ?_);refine aW rfl rfl (iJ.call (X5 (a:=n7) (b:=d7) (by omega) (by omega) (by omega) (by omega)).rc) (fun _ _ h=>h.le fun _ _ h=>h.1) ?_;rintro _ H7 SC;have oa:=iJ.km ef SC fun _ _ h=>h.1;have akb:=nT.le SC.post.1;obtain⟨⟨_,t7,rfl,iT⟩,_⟩:=SC;rw[←aaH]at iT;refine aW rfl rfl (oa.call (Ed (N:=10) ((bH.raw akb).mono (by omega)) ((bH.raw iT).mono (by omega)) (by decide)).rc) (fun _ _ h=>h.le fun _ _ h=>h.1) ?_;rintro _ H8 qd;have qT:=oa.km ef qd fun _ _ h=>h.1;obtain⟨⟨_,t8,rfl,eJ⟩,_⟩:=qd;obtain⟨ti,aj,ak⟩:=aX;refine aI (.inl ⟨rfl,rfl⟩) rfl rfl rfl aj ak rfl rfl rfl (ab [4,7,10,11,13,64,65] ?_);refine aA rfl (aa 1 rfl (aF rfl rfl ⟨by omega,by omega⟩ (vr 1 ?_)))
     refine au ?_;exact⟨t8,p.mi j+1,ar,qT,by rw[wg,if_pos fN],by unfold jJ;rw[if_pos fN];exact eJ⟩
    have fN:¬p.lp.free j=true:=by rw[jI];simpa using hb
    refine aw ?_;exact⟨t6,p.mi j,ar,iJ,by rw[wg,if_neg fN,Nat.add_zero],by unfold jJ;rw[if_neg fN];exact nT⟩
   rintro t a H9 ⟨nW,uA,fu⟩;subst uA;refine aA rfl (aa 2 rfl (cS Tryz.underlying28 cj rfl rfl rfl rfl rfl rfl rfl ?_));intro gb a6;have nD:=nW.ins ef (whole (ee [.agg #[.bool t.f,.slice t.A1 t.m1 t.c1,.slice t.A2 t.m2 t.c2]]) 38) a6;refine eD Tryz.underlying28 cj rfl rfl nD.own (eN _ _ _ _ _ _) rfl (ED _ _ _ _ _ _ _) (by rw[bh];omega) (by rw[bh];omega) ?_;intro W9 ju SD;have nW:=nD.append ef (k:=[jJ p (iL M B (k-1) i) j]) (by simp) SD (jq (ef _ _ _ _ (se _ (Heap.bI _ a6)) (show cg _ [_,_,_] _ from fu)) rfl);refine aa 1 rfl (au (ah [4,7,10,11,64,65] rfl ?_));refine aA rfl (aF rfl rfl ⟨by omega,by omega⟩ (aa 1 rfl (au ?_)))
   exact⟨j+1,_,_,by omega,ar,by rw[xA];exact nW,by omega,fun q hq=>by
    by_cases eq:q=j
    ·subst eq;exact Xi
    ·exact cP q (by omega)⟩
  have gY:p.free.length≤j:=by simpa using hb
  obtain rfl:j=p.free.length:=by omega
  refine aU (ah [10] rfl ?_);refine ae (aa 2 rfl (ab [6] ?_));refine az ⟨.inr rfl,_,.tmp rfl (.nil),?_⟩;exact⟨SB.trans hG.le,hG.sl ef,cP⟩
end Go.aq
namespace Go.aq
open Go.Proofs Num Lp
section
variable {p:Prg}
theorem akc{x y:Nat}(hx:x<p.w)(hy:y<p.w)(h:p.pi x=p.pi y):x=y:=by
 have lo:∀{a b:Nat},a<p.lp.n→b<p.lp.n→a7 p.lp.free a=a7 p.lp.free b→a=b:=fun{a b} _ _ e=>by
  rcases Nat.lt_trichotomy a b with k | k | k
  ·have:=BM (fr:=p.lp.free) k;omega
  ·exact k
  ·have:=BM (fr:=p.lp.free) k;omega
 have mx:∀{a b:Nat},p.lp.free b=true→a7 p.lp.free a≠a7 p.lp.free b+1:=fun{a b} hb e=>by
  rcases Nat.lt_trichotomy a b with k | k | k
  ·have:=BM (fr:=p.lp.free) k;omega
  ·subst k;omega
  ·have:=BM (fr:=p.lp.free) k
   rw[if_pos hb]at this;omega
 by_cases cx:x<p.c1
 ·have rZ:y<p.c1:=by
   have h1:=MJ cx
   refine Classical.byContradiction fun hn=> ?_
   rw[wc (Nat.le_of_not_lt hn)]at h
   omega
  by_cases ax:x<p.lp.n
  ·by_cases ay:y<p.lp.n
   ·rw[xY ax,xY ay]at h;exact lo ax ay h
   ·obtain⟨j,g1,g2,rfl⟩:=IV (Nat.le_of_not_lt ay) rZ
    rw[xY ax,zL g1 g2]at h
    exact absurd h (mx g2)
  ·obtain⟨i,k1,k2,rfl⟩:=IV (Nat.le_of_not_lt ax) cx
   by_cases ay:y<p.lp.n
   ·rw[xY ay,zL k1 k2]at h
    exact absurd h.symm (mx k2)
   ·obtain⟨j,g1,g2,rfl⟩:=IV (Nat.le_of_not_lt ay) rZ
    rw[zL k1 k2,zL g1 g2]at h
    rw[lo k1 g1 (by omega)]
 ·by_cases cy:y<p.c1
  ·have h1:=MJ cy
   rw[wc (Nat.le_of_not_lt cx)]at h
   omega
  ·rw[wc (Nat.le_of_not_lt cx),wc (Nat.le_of_not_lt cy)]at h;exact h
structure Tw(p:Prg)(S T:av):Prop where
 em:T.m=S.m
 en:T.n=S.n
 ew:S.n=p.w
 eA:∀i,i<S.m→∀j,j≤p.w→T.A i j=S.A i (p.pi j)
 ec:∀j,j≤p.w→T.c j=S.c (p.pi j)
 eB:∀i,i<S.m→S.B i=p.pi (T.B i)∧T.B i<p.w
variable {S T:av} {c0:Nat→Rat} {c:List Rat}
theorem Tw.pivot(h:Tw p S T){r s:Nat}(hr:r<S.m)(hs:s<p.w):Tw p (S.pivot r (p.pi s)) (T.pivot r s):=by
 refine⟨h.em,h.en,h.ew,fun i hi j hj=> ?_,fun j hj=> ?_,fun i hi=> ?_⟩
 ·have hi:i<S.m:=hi
  show (if i=r then T.A r j/T.A r s else T.A i j-T.A i s*(T.A r j/T.A r s))=if i=r then S.A r (p.pi j)/S.A r (p.pi s)else S.A i (p.pi j)-S.A i (p.pi s)*(S.A r (p.pi j)/S.A r (p.pi s))
  rw[h.eA r hr j hj,h.eA r hr s (by omega),h.eA i hi j hj,h.eA i hi s (by omega)]
 ·show T.c j-T.c s*(T.A r j/T.A r s)=S.c (p.pi j)-S.c (p.pi s)*(S.A r (p.pi j)/S.A r (p.pi s))
  rw[h.ec j hj,h.ec s (by omega),h.eA r hr j hj,h.eA r hr s (by omega)]
 ·have hi:i<S.m:=hi
  show (if i=r then p.pi s else S.B i)=p.pi (if i=r then s else T.B i)∧(if i=r then s else T.B i)<p.w
  split
  ·exact⟨rfl,hs⟩
  ·exact h.eB i hi
theorem Tw.wf(h:Tw p S T)(hW:S.WF):T.WF where
 lt i hi:=by rw[h.en,h.ew];exact(h.eB i (by rw[←h.em];exact hi)).2
 unit i k hi hk:=by
  rw[h.em]at hi hk
  have:=h.eB i hi
  rw[h.eA k hk _ (by omega),←this.1]
  exact hW.unit i k hi hk
 zero i hi:=by
  rw[h.em]at hi
  have:=h.eB i hi
  rw[h.ec _ (by omega),←this.1]
  exact hW.zero i hi
theorem Tw.rhs(h:Tw p S T){i:Nat}(hi:i<S.m):T.A i T.n=S.A i S.n:=by
 rw[h.en,h.ew,h.eA i hi _ (Nat.le_refl _),Cs]
theorem Tw.fp(h:Tw p S T)(hF:S.jQ):T.jQ:=fun i hi=>by
 rw[h.em]at hi
 rw[h.rhs hi];exact hF i hi
theorem Tw.akd(h:Tw p S T)(hF:T.jQ):S.jQ:=fun i hi=>by
 rw[←h.rhs hi];exact hF i (by rw[h.em];exact hi)
theorem Tw.ES(h:Tw p S T){i:Nat}(hi:i<S.m):p.u≤S.B i↔p.u≤T.B i:=by
 have h1:=h.eB i hi
 constructor
 ·intro k
  refine Classical.byContradiction fun hn=> ?_
  have:=zM (p:=p) (x:=T.B i) (by omega)
  omega
 ·intro k
  rw[h1.1,Sa k];exact k
theorem Tw.clean(h:Tw p S T){k:Nat}(hC:av.Clean p.u k S):av.Clean p.u k T where
 zero i hi hu:=by
  rw[h.em]at hi
  rw[h.rhs hi];exact hC.zero i hi ((h.ES hi).2 hu)
 row i hk hi hu j hj:=by
  rw[h.em]at hi
  have:=fy p
  rw[h.eA i hi j (by omega)]
  exact hC.row i hk hi ((h.ES hi).2 hu) _ (zM hj)
theorem Tw.ake(h:Tw p S T){k:Nat}(hC:av.Clean p.u k T):av.Clean p.u k S where
 zero i hi hu:=by
  rw[←h.rhs hi];exact hC.zero i (by rw[h.em];exact hi) ((h.ES hi).1 hu)
 row i hk hi hu y hy:=by
  obtain⟨x,hx,rfl⟩:=ML hy
  have:=fy p
  rw[←h.eA i hi x (by omega)]
  exact hC.row i hk (by rw[h.em];exact hi) ((h.ES hi).1 hu) x hx
theorem Tw.inv(h:Tw p S T)(hI:Inv p c0 S){r s:Nat}(hr:r<S.m)(hs:s<p.w)(hp:T.A r s≠0)(hF:(T.pivot r s).jQ):Inv p c0 (S.pivot r (p.pi s)):=by
 have yA:S.A r (p.pi s)≠0:=by rw[←h.eA r hr s (by omega)];exact hp
 have hm:r<p.lp.m:=by rw[←hI.rows.m];exact hr
 have hw:=Sb hs
 exact⟨av.Be hI.wf hr (by rw[h.ew];exact hw) yA,(h.pivot hr hs).akd hF,hI.rows.pivot hm yA,hI.rows.Pe hI.off hm⟩
def mb(p:Prg)(T:av):Prop:=∃S,Inv p (pn p) S∧Tw p S T
def oc(p:Prg)(c:List Rat)(T:av):Prop:=∃S,I2 p c S∧Tw p S T
def iX(p:Prg)(k:Nat)(T:av):Prop:=∃S,Jx p k S∧Tw p S T
theorem mb.step{r s:Nat}(h:mb p T)(hb:T.oQ p.u r s):mb p (T.pivot r s):=by
 obtain⟨S,hI,hT⟩:=h
 have hr:r<S.m:=by rw[←hT.em];exact hb.rm
 have hs:s<p.w:=Nat.lt_of_lt_of_le hb.su (fy p)
 exact⟨_,hT.inv hI hr hs (by have:=hb.pos;grind) (av.Gj (hT.fp hI.fp) hb),hT.pivot hr hs⟩
theorem oc.step{r s:Nat}(h:oc p c T)(hb:T.oQ p.u r s):oc p c (T.pivot r s):=by
 obtain⟨S,hI,hT⟩:=h
 have hr:r<S.m:=by rw[←hT.em];exact hb.rm
 have hs:s<p.w:=Nat.lt_of_lt_of_le hb.su (fy p)
 have hP:=hT.pivot hr hs
 have hC:=hT.clean hI.2
 rw[←hT.em]at hC
 exact⟨_,⟨hT.inv hI.1 hr hs (by have:=hb.pos;grind) (av.Gj (hT.fp hI.1.fp) hb),by have h9:=hP.ake (hC.Gn hb);rw[hP.em]at h9;exact h9⟩,hP⟩
theorem mb.acc(h:mb p T):Acc (av.Step p.u) T:=by
 obtain⟨S,hI,hT⟩:=h
 exact av.Pb (hT.wf hI.wf) (hT.fp hI.fp) (by rw[hT.en,hT.ew];exact fy p)
theorem oc.acc(h:oc p c T):Acc (av.Step p.u) T:=by
 obtain⟨S,hI,hT⟩:=h
 exact av.Pb (hT.wf hI.1.wf) (hT.fp hI.1.fp) (by rw[hT.en,hT.ew];exact fy p)
theorem iX.skip{k:Nat}(h:iX p k T)(hk:k<T.m)(hz:T.B k<p.u∨∀j,j<p.u→T.A k j=0):iX p (k+1) T:=by
 obtain⟨S,hI,hT⟩:=h
 rw[hT.em]at hk
 refine⟨S,hI.skip ?_,hT⟩
 rcases hz with hz | hz
 ·have:=hT.ES hk
  exact .inl (by omega)
 ·refine .inr fun y hy=> ?_
  obtain⟨x,hx,rfl⟩:=ML hy
  have:=fy p
  rw[←hT.eA k hk x (by omega)];exact hz x hx
theorem iX.pivot{k s:Nat}(h:iX p k T)(hk:k<T.m)(hu:p.u≤T.B k)(hs:s<p.u)(hp:T.A k s≠0):iX p (k+1) (T.pivot k s):=by
 obtain⟨S,hI,hT⟩:=h
 rw[hT.em]at hk
 have hw:=fy p
 exact⟨_,hI.pivot hk ((hT.ES hk).2 hu) (zM hs) (by rw[←hT.eA k hk s (by omega)];exact hp),hT.pivot hk (by omega)⟩
theorem mb.clean(h:mb p T)(hn:∀j,j<p.u→0≤T.c j)(h0:T.c p.w=0):iX p 0 T:=by
 obtain⟨S,hI,hT⟩:=h
 have:S.c p.w=0:=by rw[hT.ec _ (Nat.le_refl _),Cs]at h0;exact h0
 exact⟨S,⟨hI,YB hI (by grind)⟩,hT⟩
theorem mb.inf(bO:p.Ok)(h:mb p T)(hn:∀j,j<p.u→0≤T.c j)(h0:T.c p.w≠0):p.lp.yZ:=by
 obtain⟨S,hI,hT⟩:=h
 have e:T.c p.w=S.c p.w:=by rw[hT.ec _ (Nat.le_refl _),Cs]
 have hw:=fy p
 have hS:∀y,y<p.u→0≤S.c y:=fun y hy=>by
  obtain⟨x,hx,rfl⟩:=ML hy
  rw[←hT.ec x (by omega)];exact hn x hx
 have h1:=av.Wp hI.wf hI.fp hI.rows hI.off
 have gg:S.c p.w<0:=Classical.byContradiction fun hk=>h0 (by rw[e];exact(h1 (by grind)).1)
 have h2:=YA bO hI hS gg
 exact h2.cert.isInf bO.valid
theorem mb.aaI(h:mb p T){s:Nat}(hs:s<p.u)(gg:T.c s<0)(hA:∀i,i<T.m→T.A i s≤0):False:=by
 obtain⟨S,hI,hT⟩:=h
 have hw:=fy p
 refine YC hI (zM hs) (by rw[←hT.ec s (by omega)];exact gg) fun i hi=> ?_
 rw[←hT.eA i hi s (by omega)];exact hA i (by rw[hT.em];exact hi)
theorem akf(hv:p.lp.Valid):∀{k:Nat}{j:Nat},k≤p.lp.m→p.u≤j→j<a8 p.lp.rel p.aH p.u k→∃i,i<k∧p.unit i=j:=by
 intro k
 induction k with
 | zero=>
  intro j _ h1 h2
  exact absurd h2 (by show ¬j<p.u;omega)
 | succ k ih=>
  intro j hk h1 h2
  have e:a8 p.lp.rel p.aH p.u (k+1)=a8 p.lp.rel p.aH p.u k+(if fa (p.lp.rel k) (p.aH k)then 0 else 1):=rfl
  by_cases hj:j<a8 p.lp.rel p.aH p.u k
  ·obtain⟨i,g1,g2⟩:=ih (by omega) h1 hj
   exact⟨i,by omega,g2⟩
  ·by_cases o:fa (p.lp.rel k) (p.aH k)=true
   ·rw[if_pos o]at e;omega
   ·rw[if_neg o]at e
    exact⟨k,by omega,by rw[vT o];omega⟩
def ru(p:Prg)(M:Nat→Nat→Rat)(k:Nat):Rat:=if k<p.u∨k=p.w then-aZ p.lp.m (fun i=>if p.u≤p.unit i then M i k else 0)else 0
def yb(M:Nat→Nat→Rat)(B:Nat→Nat)(m w:Nat):av:=⟨m,w,M,M m,B⟩
theorem MP{M:Nat→Nat→Rat}{B:Nat→Nat}{m w:Nat}:ie M B (yb M B m w) m (w+1):=⟨rfl,rfl,fun _ _ _ _=>rfl,fun _ _=>rfl,fun _ _=>rfl⟩
theorem aaJ(i:Nat):p.pi (p.unit i)=p.unit i:=wc LF
theorem aaK(bO:p.Ok){M:Nat→Nat→Rat}(hM:∀i,i<p.lp.m→∀j,j≤p.w→M i j=dM p i j)(hc:∀j,j≤p.w→M p.lp.m j=ru p M j):mb p (yb M p.unit p.lp.m p.w):=by
 have hI:Inv p (pn p) (pZ p.eh (pn p)):=Inv.base BT
 have hA:∀i,i<p.lp.m→∀j,j≤p.w→M i j=p.eh.A i (p.pi j):=fun i hi j hj=>by rw[hM i hi j hj,Se bO.valid hi hj]
 refine⟨_,hI,rfl,rfl,rfl,hA,fun j hj=> ?_,fun i hi=>⟨(aaJ i).symm,nU p hi⟩⟩
 show M p.lp.m j=gU p.eh (pn p) p.lp.m (p.pi j)
 rw[hc j hj]
 have hpu:∀i,i<p.lp.m→pn p (p.unit i)=if p.u≤p.unit i then 1 else 0:=fun i hi=>by
  show av.js _ _ _=_
  unfold av.js
  by_cases k:p.u≤p.unit i
  ·rw[if_pos k,if_pos ⟨k,nU p hi⟩]
  ·rw[if_neg k,if_neg (fun k'=>k k'.1)]
 have DH:aZ p.lp.m (fun i=>pn p (p.eh.B i)*p.eh.A i (p.pi j))=aZ p.lp.m (fun i=>if p.u≤p.unit i then M i j else 0):=eG fun i hi=>by
  show pn p (p.unit i)*_=_
  rw[hpu i hi,hA i hi j hj]
  split <;> grind
 unfold ru gU
 rw[DH]
 by_cases h1:j<p.u
 ·have h2:=fy p
  have h3:=zM h1
  have e:pn p (p.pi j)=0:=av.Pg h3
  rw[if_pos (.inl h1),if_neg (by show ¬p.pi j=p.w;omega),e];grind
 ·by_cases h2:j=p.w
  ·rw[if_pos (.inr h2),h2,if_pos (show p.pi p.w=p.eh.n from Cs)];grind
  ·rw[if_neg (fun k=>k.elim h1 h2)]
   obtain⟨i0,hi0,e0⟩:=akf bO.valid (Nat.le_refl _) (Nat.le_of_not_lt h1) (show j<p.w by omega)
   have hz:=hI.wf.zero i0 hi0
   have hz:gU p.eh (pn p) p.lp.m (p.unit i0)=0:=hz
   unfold gU at hz
   rw[←DH,←e0,aaJ];exact hz.symm
theorem aaL{M:Nat→Nat→Rat}{B:Nat→Nat}{f:Nat→Rat}{m:Nat}(hu:∀i k,i<m→k<m→M k (B i)=if k=i then 1 else 0):∀i,i≤m→∀k,lN M B f i k=f k-aZ i (fun q=>f (B q)*M q k):=by
 intro i
 induction i with
 | zero=>intro _ k;show f k=f k-0;grind
 | succ i ih=>
  intro hi k
  have e1:lN M B f i (B i)=f (B i):=by
   rw[ih (by omega),lA fun q hq=> ?_]
   ·grind
   ·rw[hu i q (by omega) (by omega),if_neg (by omega)];grind
  show lN M B f i k-lN M B f i (B i)*M i k=_
  rw[e1,ih (by omega),gn];grind
theorem aaM{M:Nat→Nat→Rat}{B:Nat→Nat}(h:iX p p.lp.m T)(hr:ie M B T p.lp.m (p.w+1)){M':Nat→Nat→Rat}(hM:∀i,i<p.lp.m→∀j,j≤p.w→M' i j=M i j)(jA:∀j,j≤p.w→M' p.lp.m j=lN M B (fe p (fn c) 1 p.lp.n) p.lp.m j):oc p c (yb M' B p.lp.m p.w):=by
 obtain⟨S,hI,hT⟩:=h
 have hm:S.m=p.lp.m:=hI.1.rows.m
 have hW:=hT.wf hI.1.wf
 have hn:=hT.en.trans hT.ew
 refine⟨_,I2.start hI,hm.symm,hT.ew.symm,hT.ew,fun i hi j hj=> ?_,fun j hj=> ?_,fun i hi=> ?_⟩
 ·have hi:i<S.m:=hi
  show M' i j=S.A i (p.pi j)
  rw[hM i (by omega) j hj,hr.eA i (by omega) j (by omega),hT.eA i hi j hj]
 ·show M' p.lp.m j=gU S (ki p c) S.m (p.pi j)
  have hu:∀i k,i<p.lp.m→k<p.lp.m→M k (B i)=if k=i then 1 else 0:=fun i k hi hk=>by
   have h1:=hW.lt i (by rw[hr.em];exact hi)
   rw[hr.eB i hi,hr.eA k hk _ (by omega)]
   exact hW.unit i k (by rw[hr.em];exact hi) (by rw[hr.em];exact hk)
  rw[jA j hj,aaL hu _ (Nat.le_refl _)]
  unfold gU
  have e1:fe p (fn c) 1 p.lp.n j=if p.pi j=S.n then 0 else ki p c (p.pi j):=by
   rw[IW]
   by_cases e:p.pi j=S.n
   ·rw[if_pos e]
    have e':p.pi j=p.w:=e.trans hT.ew
    have h1:=LL (p:=p) (c:=c)
    rw[e'];exact h1
   ·rw[if_neg e]
  rw[e1,hm]
  congr 1
  refine eG fun i hi=> ?_
  have h1:=hT.eB i (by omega)
  rw[hr.eB i hi,IW,hr.eA i hi j (by omega),hT.eA i (by omega) j hj,h1.1]
 ·have hi:i<S.m:=hi
  have h1:=hT.eB i hi
  show S.B i=p.pi (B i)∧B i<p.w
  rw[hr.eB i (by omega)];exact h1
theorem akg{M:Nat→Nat→Rat}{B:Nat→Nat}{n m:Nat}(lx:∀i k,i<m→k<m→B i=B k→i=k):∀i,i≤m→∀x,iL M B n i x=aZ i (fun q=>if B q=x then M q n else 0):=by
 intro i
 induction i with
 | zero=>intro _ x;rfl
 | succ i ih=>
  intro hi x
  rw[gn]
  show bT (iL M B n i) (B i) (M i n) x=_
  by_cases e:x=B i
  ·subst e
   rw[re,if_pos rfl,lA fun q hq=> ?_]
   ·grind
   ·rw[if_neg (fun e'=>by have:=lx q i (by omega) (by omega) e';omega)]
  ·rw[pc e,ih (by omega),if_neg (fun e'=>e e'.symm)];grind
theorem akh{M:Nat→Nat→Rat}{B:Nat→Nat}(hI:I2 p c S)(hT:Tw p S T)(hr:ie M B T p.lp.m (p.w+1)){j:Nat}(hj:j<p.lp.n):jJ p (iL M B p.w p.lp.m) j=dL.vec p.lay.pF p.lay.mF S.pt j:=by
 have hm:S.m=p.lp.m:=hI.1.rows.m
 have hW:=hT.wf hI.1.wf
 have hn:=hT.en.trans hT.ew
 have key:∀x,x<p.w→iL M B p.w p.lp.m x=S.pt (p.pi x):=fun x hx=>by
  have h1:=Sb hx
  rw[akg (m:=p.lp.m) (fun i k hi hk e=> ?_) _ (Nat.le_refl _)]
  ·unfold av.pt
   rw[if_neg (by rw[hT.ew];omega),hm]
   refine eG fun i hi=> ?_
   have h2:=hT.eB i (by omega)
   have e:B i=x↔S.B i=p.pi x:=by
    rw[hr.eB i hi,h2.1]
    exact⟨fun e=>by rw[e],fun e=>akc h2.2 hx e⟩
   by_cases e2:B i=x
   ·rw[if_pos e2,if_pos (e.1 e2),hr.eA i hi _ (by omega),hT.eA i (by omega) _ (Nat.le_refl _),Cs,hT.ew]
   ·rw[if_neg e2,if_neg (fun k=>e2 (e.2 k))]
  ·rw[hr.eB i hi,hr.eB k hk]at e
   exact hW.inj (by rw[hr.em];exact hi) (by rw[hr.em];exact hk) e
 have h1:=xZ (p:=p)
 have h2:=mI p
 have h3:=fy p
 unfold jJ dL.vec
 rw[zq p hj,El hj]
 by_cases hf:p.lp.free j=true
 ·rw[if_pos hf,if_pos hf,key j (by omega),xY hj]
  have h4:=we hj hf
  rw[key _ (by omega),zL hj hf];rfl
 ·rw[if_neg hf,if_neg hf,key j (by omega),xY hj]
  show _=_-0
  grind
def od(p:Prg)(c:List Rat)(st:Int)(v:Rat):Prop:=(st=1∧p.lp.Gm (fn c) v∧∃T,I2 p c T∧v = -(T.c p.w))∨(st=2∧p.lp.yZ∧v=0)∨(st=3∧p.lp.KU (fn c)∧v=0)
theorem oc.opt(bO:p.Ok)(fj:c.length=p.free.length)(h:oc p c T)(hn:∀j,j<p.u→0≤T.c j){M:Nat→Nat→Rat}{B:Nat→Nat}(hr:ie M B T p.lp.m (p.w+1)):
  od p c 1 (cH p.free.length (fn c) (fn (aK (jJ p (iL M B p.w p.lp.m)) p.free.length))):=by
 obtain⟨S,hI,hT⟩:=h
 have hw:=fy p
 have hS:∀y,y<p.u→0≤S.c y:=fun y hy=>by
  obtain⟨x,hx,rfl⟩:=ML hy
  rw[←hT.ec x (by omega)];exact hn x hx
 obtain⟨h1,h2⟩:=YD bO fj hI hS
 have e:aK (jJ p (iL M B p.w p.lp.m)) p.free.length=aK (dL.vec p.lay.pF p.lay.mF S.pt) p.lp.n:=la fun j hj=>akh hI hT hr hj
 rw[e]
 exact .inl ⟨rfl,h1.cert.Wc bO.valid,S,hI,h2.symm⟩
theorem oc.unb(bO:p.Ok)(fj:c.length=p.free.length)(h:oc p c T){s:Nat}(hs:s<p.u)(gg:T.c s<0)(hA:∀i,i<T.m→T.A i s≤0):od p c 3 0:=by
 obtain⟨S,hI,hT⟩:=h
 have hw:=fy p
 have h1:=YE bO fj hI (zM hs) (by rw[←hT.ec s (by omega)];exact gg) fun i hi=>by
  rw[←hT.eA i hi s (by omega)];exact hA i (by rw[hT.em];exact hi)
 exact .inr (.inr ⟨rfl,h1.cert.Wd,rfl⟩)
end
end Go.aq
namespace Go.aq
open Go.Proofs Num Lp
theorem aaN{H:Heap}{a b:List Nat}(h:∀q,q∈a↔q∈b):rem H a=rem H b:=by
 funext q
 unfold rem
 simp only[h]
theorem aki{α:Type}{P:Heap→List Value→α→Prop}{e sz:Nat}{H:Heap}{gs:List Nat}{g c:Nat}{zs:List Value}{z k:Int}(hg:H g=none)(hz:z.toNat=0)(hk:k.toNat=c)(hc:c≤maxLen)(hl:∀q,q∈gs→H q≠none):gH gs H P e sz (ins H g ⟨cR zs (z.toNat*sz),k.toNat*sz,e,true⟩) (.slice (some ⟨g,0,none⟩) z.toNat k.toNat) [] []:=by
 have h1:=Iw (P:=P) (e:=e) (sz:=sz) (zs:=zs) hg hz hk hc
 have hn:¬g∈gs:=fun hm=>hl g hm hg
 refine⟨h1.own,sj,?_,fun q hq=>bn _ _ fun(e':q=g)=>hn (by rw[←e'];exact hq),hl,fun q hq hb=> ?_⟩
 ·intro q en hq
  by_cases hm:q∈gs
  ·rw[rem_in hm]at hq;cases hq
  ·rw[bM hm]at hq
   have bA:q≠g:=fun e'=>by rw[e',hg]at hq;cases hq
   refine⟨en,?_,.refl _⟩
   rw[bM,bn _ _ bA]
   ·exact hq
   ·intro h2
    rcases List.mem_append.1 h2 with h2 | h2
    ·exact hm h2
    ·exact bA (List.mem_singleton.1 h2)
 ·have hb:q∈[g]:=hb
  exact hn (by rw[←List.mem_singleton.1 hb];exact hq)
section
variable {C:CK} {o:Bool} {H H' H0:Heap} {g:Nat} {G:GG} {R W m:Nat} {M:Nat→Nat→Rat} {B:Nat→Nat} {f:Nat→Rat}
theorem gH.de{α:Type}{P:Heap→List Value→α→Prop}{e sz n c z:Nat}{l:List α}{xs:List Value}(h:cD C H0 G R W m M B)(hG:gH G.gs H0 P e sz H (.slice (some ⟨z,0,none⟩) n c) l xs):cD C H (G.on (z::G.top)) R W m M B∧Heap.le (rem H0 G.gs) (rem H (G.on (z::G.top)).gs)∧rem H (G.on (z::G.top)).gs=rem H (G.gs++aC (.slice (some ⟨z,0,none⟩) n c)):=by
 have e1:rem H (G.on (z::G.top)).gs=rem H (G.gs++aC (.slice (some ⟨z,0,none⟩) n c)):=aaN fun q=>by
  show q∈z::G.gs↔q∈G.gs ++ [z]
  simp[or_comm]
 have hz:z∈aC (.slice (some ⟨z,0,none⟩) n c):=List.mem_singleton.2 rfl
 have hm:¬z∈G.gs:=fun hm=>hG.apart z hm hz
 refine⟨h.Cg (t:=z::G.top) (List.nodup_cons.2 ⟨hm,h.nd⟩) (fun q hq=> ?_) (fun q hq=>hG.same q (GG.kO hq)) (by rw[e1];exact hG.base),by rw[e1];exact hG.base,e1⟩
 rcases List.mem_cons.1 hq with rfl | hq
 ·exact hG.uK q (List.mem_append_right _ hz)
 ·rw[hG.same q (GG.Ce hq)];exact h.top q hq
theorem QV.more{z c lM:Nat}{A':Option Addr}(h:QV o H g (G.on (z::G.top)) R W m M B)(hg:g∈G.top)(bA:z≠g)(hz:pa wa (rem H (G.on (z::G.top)).gs) H z (aK f W))(ha:App H (.slice G.Ar R G.cr) 136 1 (R+1) (iV (G.rg ++ [(z,c)]) W) (.slice A' (R+1) lM) H'):
  QV o (ins H' g ⟨[.slice A' (R+1) lM,G.bv,.bool o],3,135,true⟩) g (G.more G.top z c A' lM R) (R+1) W m (fun i=>if i=R then f else M i) B∧Heap.le (rem H (G.on (z::G.top)).gs) (rem (ins H' g ⟨[.slice A' (R+1) lM,G.bv,.bool o],3,135,true⟩) (G.more G.top z c A' lM R).gs)∧H' g=some ⟨[.slice G.Ar R G.cr,G.bv,.bool o],3,135,true⟩:=by
 obtain⟨h1,h2⟩:=h.de.more hz ha
 have hm:g∈(G.more G.top z c A' lM R).top:=hg
 have qL:g∈(G.more G.top z c A' lM R).gs:=GG.Ce hm
 have hT:fU (G.more G.top z c A' lM R).gs g H' (ins H' g ⟨[.slice A' (R+1) lM,G.bv,.bool o],3,135,true⟩):=((Kept.refl _ _).iI g).ins qL _
 refine⟨⟨h1.Ch hm hT (by rw[bC];simp),hm,bC _ _ _⟩,h2.trans hT.le,?_⟩
 refine ha.same g _ h.st fun e=> ?_
 have hb:g∈(G.on (z::G.top)).hb:=by rw[h.de.l9];exact dh.2 e
 exact GG.uR h.de.nd (q:=g) (r:=g) (List.mem_cons_of_mem _ hg) (GG.Cf hb) rfl
theorem QV.less(h:QV o H g G (R+1) W m M B):∃H',Heap.le H' (ins H g ⟨[.slice G.Ar R G.cr,G.bv,.bool o],3,135,true⟩)∧QV o H' g (G.less R) R W m M B∧Heap.le (rem H G.gs) (rem H' (G.less R).gs)∧R≤G.cr:=by
 have hT:fU G.gs g H (ins H g ⟨[.slice G.Ar R G.cr,G.bv,.bool o],3,135,true⟩):=((Kept.refl _ _).iI g).ins h.mem _
 have h1:=h.de.Ch h.gt hT (by rw[bC];simp)
 obtain⟨H',k1,k2,k3,k4,_,k5⟩:=h1.less
 exact⟨H',k1,⟨k2,h.gt,by rw[k4 g h.gt];exact bC _ _ _⟩,hT.le.trans k3,k5⟩
end
structure IY(H:Heap)(Ar:Option Addr)(Ab:Option Addr)(rg:List (Nat×Nat))(m W:Nat)(M:Nat→Nat→Rat)(B:Nat→Nat):Prop where
 len:rg.length=m
 kX:Rd H Ar (iV rg W)
 row:∀(i:Nat)(p:Nat×Nat),rg[i]? = some p→∃xs,Rd H (some ⟨p.1,0,none⟩) xs∧bG (cg H) 3 xs (aK (M i) W)
 th:Rd H Ab (eP B m)
theorem IY.le{H H':Heap}{Ar Ab:Option Addr}{rg:List (Nat×Nat)}{m W:Nat}{M:Nat→Nat→Rat}{B:Nat→Nat}(h:IY H Ar Ab rg m W M B)(hl:Heap.le H H'):IY H' Ar Ab rg m W M B:=
 ⟨h.len,h.kX.le hl,fun i p hp=>by
  obtain⟨xs,h1,h2⟩:=h.row i p hp
  exact⟨xs,h1.le hl,h2.mono fun vs a=>ef _ _ vs a hl⟩,h.th.le hl⟩
theorem akj{H H':Heap}(gs:List Nat)(hl:Heap.le H H')(bA:∀q,q∈gs→H q≠none):∃tn,Heap.le tn H'∧Kept gs H tn:=by
 refine⟨fun q=>if q∈gs then H q else H' q,fun q en hq=> ?_,fun q en hq=> ?_,fun q hq=>by simp[hq]⟩
 ·by_cases hm:q∈gs
  ·simp only[hm,if_true]at hq;exact hl q en hq
  ·simp only[hm,if_false]at hq;exact⟨en,hq,.refl _⟩
 ·by_cases hm:q∈gs
  ·rw[rem_in hm]at hq;cases hq
  ·rw[bM hm]at hq
   rw[bM hm]
   simp only[hm,if_false];exact hl q en hq
end Go.aq
namespace Go.aq
open Go.Proofs Num Lp
structure KQ(gs:List Nat)(H:Heap)(q:Rat)(v:Value)(H':Heap):Prop where
 kept:Kept gs H H'
 le:Heap.le H H'
 val:∃t:RC,v=t.v∧bH (rem H' gs) t.v q
theorem Fn.kq{P:Program}{f:FuncId}{args:Array Value}{H:Heap}{gs:List Nat}{q:Rat}(jF:∀g,g∈gs→H g≠none)(h:Fn P f args (rem H gs) (j7 (rem H gs) q)):Fn P f args H (KQ gs H q):=
 (Fn.frame jF h.rc).mono fun v H' hf=>⟨.of hf fun v K hp=>hp.1,hf.le fun v K hp=>hp.1,hf.post.2⟩
theorem mc{K:Heap}{xs:List Value}{f:Nat→Rat}{W k:Nat}(h:bG (cg K) 3 xs (aK f W))(hk:k<W):∃t:RC,bH K t.v (f k)∧∀(j:Nat)(v:Value),[.bool t.f,.slice t.A1 t.m1 t.c1,.slice t.A2 t.m2 t.c2][j]? = some v→xs[k*3+j]? = some v:=by
 obtain⟨vs,_,h2,h3⟩:=h.get (dD hk)
 obtain⟨t,e⟩:=bH.rc (show bH K (.agg vs.toArray) (f k)from h2)
 have e2:=DK e
 subst e2
 exact⟨t,h2,h3⟩
theorem aaO{K:Heap}{xs vs:List Value}{f:Nat→Rat}{n k:Nat}{q:Rat}(h:bG (cg K) 3 xs (aK f n))(hk:k<n)(hv:cg K vs q):bG (cg K) 3 (aL xs (k*3) vs) (aK (bT f k q) n):=by
 rw[←Lc]
 exact h.set (by rw[bh];exact hk) hv (iK.len _ _ _ hv)
section
variable {K H H':Heap} {G:GG} {R W m:Nat} {M M':Nat→Nat→Rat} {B:Nat→Nat} {u u':Value} {l:List Nat} {f:Nat→Rat}
theorem cD.hd{C:CK}(h:cD C H G R W m M B):Rd H G.Ar (iV G.rg W):=h.rows.rd
theorem cD.th{C:CK}(h:cD C H G R W m M B):∃Ab cb,G.bv = .slice Ab m cb∧∀{H' t R' M' B'},cD C H' (G.on t) R' W m M' B'→∀i,i<m→Rd H' Ab (eP B' m):=by
 rcases h.basis with ⟨h1,h2,h3⟩ | ⟨gb,cb,sz,h1,h2,h3⟩
 ·exact⟨none,0,by rw[h3,h1],fun _ i hi=>by omega⟩
 ·refine⟨_,cb,h2,fun h' i hi=> ?_⟩
  rcases h'.basis with ⟨k1,k2,k3⟩ | ⟨Cn,EL,qm,k1,k2,k3⟩
  ·omega
  ·have k1:G.bb = [Cn]:=k1
   rw[h1]at k1;cases k1;exact dQ k3
theorem cD.ry(h:cD iK H G R W m M B){i:Nat}{p:Nat×Nat}(hp:G.rg[i]? = some p):∃xs sz,H p.1=some ⟨xs,sz,38,true⟩∧bG (cg (rem H G.gs)) 3 xs (aK (M i) W):=h.row i p hp
theorem cD.akk(h:cD iK H G R W m M B){i:Nat}{p:Nat×Nat}(hp:G.rg[i]? = some p)(iM:Kept G.gs H H'){xs:List Value}{sz:Nat}(hx:H p.1=some ⟨xs,sz,38,true⟩)(iE:bG (cg (rem H G.gs)) 3 xs (aK (M i) W)){k:Nat}(hk:k<W){vs:List Value}{q:Rat}(hv:cg (rem H' G.gs) vs q):
  cD iK (ins H' p.1 ⟨aL xs (k*3) vs,sz,38,true⟩) G R W m (iF M i (bT (M i) k q)) B∧Heap.le (rem H G.gs) (rem (ins H' p.1 ⟨aL xs (k*3) vs,sz,38,true⟩) G.gs):=by
 have hm:=GG.kO (GG.gS hp)
 have h1:=h.kept iM
 have hT:fU G.gs p.1 H' (ins H' p.1 ⟨aL xs (k*3) vs,sz,38,true⟩):=((Kept.refl _ _).iI p.1).ins hm _
 refine⟨h1.setRow hp hT ⟨_,_,bC _ _ _,?_⟩,iM.le.trans hT.le⟩
 rw[cJ _ hm]
 exact aaO (iE.mono fun vs a=>ef _ _ vs a iM.le) hk hv
theorem cD.fresh{C:CK}(h:cD C H G R W m M B){k:Nat}{e:Ent}(hk:H k=none):cD C (ins H k e) G R W m M B∧Heap.le (rem H G.gs) (rem (ins H k e) G.gs):=by
 have hm:¬k∈G.gs:=fun hm=>h.ne k hm hk
 have hl:Heap.le (rem H G.gs) (rem (ins H k e) G.gs):=by
  rw[wW _ hm]
  exact Heap.bI _ (by rw[bM hm];exact hk)
 exact⟨h.kept ⟨hl,fun q hq=>bn _ _ fun(e':q=k)=>hm (by rw[←e'];exact hq)⟩,hl⟩
theorem cD.Cw{C:CK}(h:cD C H G R W m M B)(hM:∀i,i<R→∀j,j<W→M' i j=M i j):cD C H G R W m M' B:=h.congr hM fun _ _=>rfl
structure GU(K H:Heap)(G:GG)(R W m:Nat)(M:Nat→Nat→Rat)(B:Nat→Nat)(u:Value)(l:List Nat):Prop where
 q:cD iK H (G.on (aC u++G.top)) R W m M B
 own:bW H u 3 1 l.length (wb l)
 le:Heap.le K (rem H (G.on (aC u++G.top)).gs)
theorem GU.step(h:GU K H G R W m M B u l)(hq:cD iK H' (G.on (aC u++G.top)) R W m M' B)(hl:Heap.le (rem H (G.on (aC u++G.top)).gs) (rem H' (G.on (aC u++G.top)).gs))(hs:∀q,q∈aC u→H' q=H q):GU K H' G R W m M' B u l:=
 ⟨hq,h.own.same fun q tA=>hs q (dh.2 tA),h.le.trans hl⟩
theorem GU.kept(h:GU K H G R W m M B u l)(k:Kept (G.on (aC u++G.top)).gs H H'):GU K H' G R W m M B u l:=h.step (h.q.kept k) k.le fun q hq=>k.same q (QU.xR hq)
theorem GU.set(h:GU K H G R W m M B u l){i:Nat}{p:Nat×Nat}(hp:G.rg[i]? = some p)(iM:Kept (G.on (aC u++G.top)).gs H H'){xs:List Value}{sz:Nat}(hx:H p.1=some ⟨xs,sz,38,true⟩)(iE:bG (cg (rem H (G.on (aC u++G.top)).gs)) 3 xs (aK (M i) W)){k:Nat}(hk:k<W){vs:List Value}{q:Rat}(hv:cg (rem H' (G.on (aC u++G.top)).gs) vs q):
  GU K (ins H' p.1 ⟨aL xs (k*3) vs,sz,38,true⟩) G R W m (iF M i (bT (M i) k q)) B u l:=by
 obtain⟨h1,h2⟩:=h.q.akk (G:=G.on (aC u++G.top)) hp iM hx iE hk hv
 refine h.step h1 h2 fun r hr=> ?_
 rw[bn _ _ (fun e=>GG.uR h.q.nd (q:=r) (r:=p.1) (List.mem_append_left _ hr) (GG.gS (G:=G.on (aC u++G.top)) hp) e)]
 exact iM.same r (QU.xR hr)
theorem GU.app(h:GU K H G R W m M B u l){k n:Nat}(hn:n=l.length+1)(ha:App H u 3 1 n (wb l ++ [.int .i64 (k:Int)]) u' H'):GU K H' G R W m M B u' (l ++ [k]):=by
 obtain⟨h1,h2⟩:=h.q.app ha
 refine⟨h1,?_,h.le.trans h2⟩
 have:=ha.own
 rw[hn]at this
 rw[List.length_append,wb,List.map_append];exact this
theorem GU.fresh(h:GU K H G R W m M B u l){k:Nat}{e:Ent}(hk:H k=none):GU K (ins H k e) G R W m M B u l:=by
 obtain⟨h1,h2⟩:=h.q.fresh (e:=e) hk
 exact h.step h1 h2 fun q hq=>bn _ _ fun(e':q=k)=>h.q.ne q (QU.xR hq) (by rw[e'];exact hk)
theorem GU.vZ(h:GU K H G R W m M B u l):GU (rem H (G.on (aC u++G.top)).gs) H G R W m M B u l:=⟨h.q,h.own,.refl _⟩
theorem GU.down{K':Heap}(h:GU K H G R W m M B u l)(hl:Heap.le K' K):GU K' H G R W m M B u l:=⟨h.q,h.own,hl.trans h.le⟩
theorem GU.drop(h:GU K H G R W m M B u l):cD iK H G R W m M B∧Heap.le K (rem H G.gs):=by
 have hl:Heap.le (rem H (G.on (aC u++G.top)).gs) (rem H G.gs):=xM fun q hq=>by
  rw[GG.xP,List.append_assoc];exact List.mem_append_right _ hq
 have dW:=h.q.nd
 rw[GG.xP,List.append_assoc]at dW
 exact⟨h.q.Cg (t:=G.top) (List.nodup_append.1 dW).2.1 (fun q hq=>h.q.top q (List.mem_append_right _ hq)) (fun _ _=>rfl) hl,h.le.trans hl⟩
theorem GU.rd{A:Option Addr}{n c:Nat}(h:GU K H G R W m M B (.slice A n c) l):Rd H A (wb l):=by
 have h1:=h.own
 obtain⟨A',c',e⟩:=h1.form
 cases e
 exact h1.rd
end
end Go.aq
