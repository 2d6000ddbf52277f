/- Part 7 of the proof: Ref5, Ref6, Tab9, Nt, Nt2, Nt3, Lay1. -/
import Derived.Test.YtgjimcieaecdkaaGreatA06
set_option linter.unusedVariables false
namespace Go.ar
open Go.Proofs Num
theorem OU{x y:Nat}:(0<gV x y)↔y<x:=by
 unfold gV;split
 ·omega
 ·split <;> omega
theorem Yt{x y:Nat}:(gV x y<0)↔x<y:=by
 unfold gV;split
 ·omega
 ·split <;> omega
theorem Ba{x y:Nat}:(0≤gV x y)↔y≤x:=by
 unfold gV;split
 ·omega
 ·split <;> omega
theorem OV{l:List Nat}{k d:Nat}(h:l[k]? = some d):val (l.drop k)=d+B*val (l.drop (k+1)):=by
 obtain⟨hk,e⟩:=List.getElem?_eq_some_iff.1 h
 rw[List.drop_eq_getElem_cons hk,e,fH]
theorem Yu{a:Nat}{l:List Nat}(ha:a<B)(h:Lt l):Lt (a::l):=fun z hz=>by
 rcases List.mem_cons.1 hz with rfl | hz
 ·exact ha
 ·exact h z hz
theorem il.Yv{H:Heap}{v:Value}{l:List Nat}(h:bE H v 92 1 l.length (U l)):fI H v l:=il.my h
theorem Bb{H:Heap}{u v:Value}{x y:Nat}(hx:cB H u x)(hy:cB H v y)(fE:0<y)(hm:((ah x).length:Int)<4398046511104)(aV:((ah y).length:Int)<4398046511104):
 Fn Tryz.prog 87 #[u,v] H (MM H x y):=by
 have gn:=hx
 have uK:=hy
 obtain⟨A,c,rfl,hc,hr⟩:=hx
 obtain⟨A',c',rfl,gF,cM⟩:=hy
 have fJ:=(dU x).lt
 have eD:=(dU y).lt
 have VI:(ah y).length≠0:=fun e=>Hs fE (List.eq_nil_of_length_eq_zero e);refine aW (args:=[_,_]) Tryz.func87 rfl rfl Tryz.ntmps87 rfl rfl fun w0=> ?_;refine aj [0,1] rfl ?_;refine af (ab 2 rfl (ae [0,1] ?_));refine aq (af (ab 2 rfl (au rfl rfl (EK gn uK (by omega)) ?_)));rintro v1 H1 ⟨e1,rfl⟩;rw[e1];refine ab 1 rfl (ae [0,1,15] ?_);refine az rfl (fun hb=> ?_) (fun hb=> ?_)
 ·
  have qU:x<y:=Yt.1 (by simpa using hb);refine af (ab 1 rfl (au rfl rfl (vB gn fJ (by omega)) ?_));rintro v1 H1 hp;rw[ck]at hp;refine ab 2 rfl (ae [4,5] ?_);refine aw ⟨.inr rfl,_,.tmp rfl (.tmp rfl (.nil)),?_⟩;exact⟨hp.le,_,_,rfl,by rw[Nat.div_eq_of_lt qU];exact qP _,by rw[Nat.mod_eq_of_lt qU];exact hp.nat⟩
 ·
  have qU:y≤x:=Ba.1 (by simpa using hb);refine ax (aj [0,1] rfl ?_);refine aq (af (ab 3 rfl (ae [0,1,20] ?_)));refine az rfl (fun hb=> ?_) (fun hb=> ?_)
  ·
   have hb:(ah y).length=1:=by simp at hb;omega
   have A7:(ah y)[0]? = some y:=by
    obtain⟨z,hz⟩:=List.length_eq_one_iff.1 hb;have:=ck y;rw[hz]at this⊢
    simp[val]at this
    simp[this]
   have zG:=eD.get A7;rw[bG]at zG;refine af (ab 2 rfl (a9 ag rfl rfl rfl rfl rfl (cM) (cH A7) (by omega) (by omega) fun _=>(cF ag rfl rfl rfl ⟨by omega,by omega⟩ (au rfl rfl (Ym gn fJ zG fE (by omega)) ?_))));rintro v1 H2 ⟨hle,q,rfl,hq⟩;refine vr 1 ?_;rw[ck]at hq⊢;refine ab 4 rfl (ae [6,7] ?_);refine af (ab 2 rfl (au rfl rfl (AW (x:=x%y) (by have:=Nat.mod_lt x fE;omega)) ?_));intro v1 H3 hp;refine ab 2 rfl (ae [4,5] ?_);refine aw ⟨.inr rfl,_,.tmp rfl (.tmp rfl (.nil)),?_⟩;exact⟨hle.trans hp.le,_,_,rfl,hq.le hp.le,hp.nat⟩
  have hb:(ah y).length≠1:=by simp at hb;omega
  have gJ:2≤(ah y).length:=by omega
  refine ax (aj [0,1] rfl ?_);refine af (ab 2 rfl (iF Tryz.underlying27 cW rfl rfl rfl (by omega) (by omega) (by omega) (by omega) ?_));intro g hg;rw[show (((ah x).length:Int)).toNat=(ah x).length from by omega,sD];refine ab 1 rfl (ae [0,1,8] ?_);refine af (ab 1 rfl (ae [0,1,8,9] ?_));refine aq (af (ab 2 rfl (di rfl rfl ⟨by omega,by omega⟩ (ab 1 rfl (ae [0,1,8,9,10] ?_)))));refine aD (nz (fun(k:Nat)(rv:Value)(r:Nat)(l:List Nat)=>k) (fun(k:Nat)(rv:Value)(r:Nat)(l:List Nat)=>put (put (put (put (put (emp) 0 (.val (.slice A (ah x).length c))) 1 (.val (.slice A' (ah y).length c'))) 8 (.val (.slice (some ⟨g,0,none⟩) (ah x).length (ah x).length))) 9 (.val (rv))) 10 (.val (.int .i64 ((k:Int)-1)))) (fun(k:Nat)(rv:Value)(r:Nat)(l:List Nat) H'=>Heap.le H (rem H' [g])∧H' g=some (cL l (ah x).length)∧l.length=(ah x).length∧Lt l∧k≤(ah x).length∧r<y∧cB (rem H' [g]) rv r∧val ((ah x).drop k)=val (l.drop k)*y+r) (ah x).length (.slice none 0 0) 0 _ (⟨by rw[q3 _ hg,pS];exact .refl _,bx _ _ _,by simp,Lt.replicate _,Nat.le_refl _,fE,qP _,by simp[val]⟩) ay ?_);rintro k rv r l H1 ⟨hle,zB,qS,a7,hk,IU,jn,hv⟩
  obtain⟨Ar,cr,rfl,iH,vp⟩:=id jn;have adb:=jB (Nat.le_of_lt IU);have lk:=hle.trans (bn H1 [g]);refine aq (af (ab 2 rfl (ae [0,1,8,9,10,40] ?_)));refine az rfl (fun hb=> ?_) (fun hb=> ?_)
  ·
   have hb:0<k:=by simp at hb;omega
   obtain⟨ai,IV⟩:∃d,(ah x)[k-1]? = some d:=⟨_,List.getElem?_eq_getElem (by omega)⟩;have OW:=fJ.get IV;rw[bG]at OW
   have OX:(((k:Int)-1)).toNat=k-1:=by omega
   refine ax (aj [0,1,8,9,10] rfl ?_);refine aq (aD (af (ab 2 rfl (a9 ag rfl rfl rfl rfl rfl (hr.le lk) (by rw[OX];exact cH IV) (by omega) (by omega) fun _=> ?_))));refine cU Tryz.underlying27 cW rfl rfl rfl rfl rfl rfl rfl ?_;intro gb bH
   have IW:gb≠g:=fun e=>by subst e;rw[zB]at bH;cases bH
   refine ab 1 rfl (dY Tryz.underlying27 cW rfl rfl ((⟨rfl,.inr ⟨gb,1,rfl,bx _ _ _,Nat.le_refl _,by decide⟩⟩:bE _ _ 92 1 1 (U [ai]))) ((vp.le (bn _ _)).le (Heap.a0 _ bH)) (by rw[uz,Nat.mul_one]) (kV _) (by omega) (by omega) ?_);intro v1 H2 ha;have ow:=ha.rem (gs:=[g]) (fun q hq=>by simp only[List.mem_singleton]at hq;subst hq;rw[bA _ _ (Ne.symm IW),zB];simp) (fun q hq=>by simp only[List.mem_singleton]at hq;subst hq;intro e;cases e;exact IW rfl)
   have dN:H2 g=some (cL l (ah x).length):=by rw[ow.2 g (List.mem_singleton.2 rfl),bA _ _ (Ne.symm IW),zB]
   have dA:Heap.le (rem H1 [g]) (rem H2 [g]):=(uY [g] (Heap.a0 _ bH)).trans ow.1.le;have Yw:fI (rem H2 [g]) v1 (ai::ah r):=il.Yv (by have h0:=ow.1.own;rw[←Dg,Nat.add_comm]at h0;exact h0);refine au rfl rfl (Fn.frame (gs:=[g]) (fun q hq=>by simp only[List.mem_singleton]at hq;subst hq;rw[dN];simp) (vB Yw (Yu (by rw[bG];exact OW) (dU r).lt) (by rw[List.length_cons];omega))) ?_;rintro v2 H3 ⟨eE,AQ⟩;rw[fH,ck]at eE;obtain⟨r1,OY⟩:∃r1,r1=ai+B*r:=⟨_,rfl⟩;rw[←OY]at eE;have mA:=(AQ g (List.mem_singleton.2 rfl)).trans dN;have fL:=dA.trans eE.le
   have EP:r1<B*y:=by rw[OY,bG];omega
   have Yx:(ah r1).length≤(ah y).length+1:=gm.2 (by rw[Nat.pow_succ,Nat.mul_comm _ B];exact Nat.lt_trans EP (Nat.mul_lt_mul_of_pos_left (wM y) jT));have Bc:=(uK.le hle).le fL;have fM:=eE.nat;obtain⟨A3,c3,rfl,qX,mD⟩:=id fM;refine ab 1 rfl (ae [0,1,8,9,10] ?_);refine af (ab 2 rfl (au rfl rfl (Fn.frame (gs:=[g]) (fun q hq=>by simp only[List.mem_singleton]at hq;subst hq;rw[mA];simp) (Yo fM Bc gJ Yx (by omega))) ?_));rintro v3 H4 ⟨⟨fh,d0,rfl,rz⟩,EG⟩;have Be:=(EG g (List.mem_singleton.2 rfl)).trans mA
   have eY:Heap.le (rem H1 [g]) (rem H4 [g]):=by rw[fh];exact fL
   refine ab 1 rfl (ae [0,1,8,9,10,11] ?_);refine oD (fun(d:Nat)=>put (put (put (put (put (put (emp) 0 (.val (.slice A (ah x).length c))) 1 (.val (.slice A' (ah y).length c'))) 8 (.val (.slice (some ⟨g,0,none⟩) (ah x).length (ah x).length))) 9 (.val (.slice A3 (ah r1).length c3))) 10 (.val (.int .i64 ((k:Int)-1)))) 11 (.val (.int .u64 (d:Int)))) (fun(d:Nat) H'=>Heap.le (rem H3 [g]) (rem H' [g])∧H' g=some (cL l (ah x).length)∧d≤999999999∧y*d≤r1) ?_ ?_
   ·
    refine aD (gj (fun(d:Nat)=>d) (fun(d:Nat)=>put (put (put (put (put (put (emp) 0 (.val (.slice A (ah x).length c))) 1 (.val (.slice A' (ah y).length c'))) 8 (.val (.slice (some ⟨g,0,none⟩) (ah x).length (ah x).length))) 9 (.val (.slice A3 (ah r1).length c3))) 10 (.val (.int .i64 ((k:Int)-1)))) 11 (.val (.int .u64 (d:Int)))) (fun(d:Nat) H'=>Heap.le (rem H3 [g]) (rem H' [g])∧H' g=some (cL l (ah x).length)∧d≤999999999) d0 (⟨by rw[fh];exact .refl _,Be,rz⟩) ay ?_);rintro d H5 ⟨fg,qi,Yy⟩;have vC:=Bc.le fg;have Yz:=fM.le fg;refine aq ?_
    rcases Nat.eq_zero_or_pos d with rz | rz
    ·
     subst rz;refine af (ab 1 rfl (aS false rfl rfl (lO (by omega)) (ab 9 rfl (ae [0,1,8,9,10,11,64] ?_))));refine dG rfl (bC ?_);exact⟨0,ay,fg,qi,by omega,by omega⟩
    have IA:(ah d).length≤3:=gm.2 (by rw[bG];omega);refine af (ab 1 rfl (aS true rfl rfl (pO (by omega)) (ab 3 rfl (au rfl rfl (Fn.frame (gs:=[g]) (fun q hq=>by simp only[List.mem_singleton]at hq;subst hq;rw[qi];simp) (AW (x:=d) (by omega))) ?_))));rintro v4 Ha ⟨rA,IX⟩;have vD:=(IX g (List.mem_singleton.2 rfl)).trans qi;refine au rfl rfl (Fn.frame (gs:=[g]) (fun q hq=>by simp only[List.mem_singleton]at hq;subst hq;rw[vD];simp) (AZ (vC.le rA.le) rA.nat (by omega) (by omega))) ?_;rintro v5 Hb ⟨vE,IY⟩;have Bf:=(IY g (List.mem_singleton.2 rfl)).trans vD;have ny:=oL y d;refine ab 1 rfl (au rfl rfl (Fn.frame (gs:=[g]) (fun q hq=>by simp only[List.mem_singleton]at hq;subst hq;rw[Bf];simp) (EK vE.nat ((Yz.le rA.le).le vE.le) (by omega))) ?_);rintro v6 Hc ⟨⟨IZ,rfl⟩,uL⟩;have Bg:=(uL g (List.mem_singleton.2 rfl)).trans Bf
    have OZ:Heap.le (rem H3 [g]) (rem Hc [g]):=by rw[IZ];exact(fg.trans rA.le).trans vE.le
    refine ab 2 rfl (ae [0,1,8,9,10,11,64] ?_);refine az rfl (fun hb=> ?_) (fun hb=> ?_)
    ·
     have hb:r1<y*d:=OU.1 (by simpa using hb);refine ax (aj [0,1,8,9,10,11] rfl ?_);refine aD (aF rfl (ab 1 rfl (di rfl rfl ⟨by omega,by omega⟩ (ab 1 rfl (aA ?_)))));exact⟨d-1,by omega,ay,OZ,Bg,by omega⟩
    have hb:y*d≤r1:=by
     have:¬0<gV (y*d) r1:=by simpa using hb
     rw[OU]at this;omega
    refine bC ?_;exact⟨d,ay,OZ,Bg,Yy,hb⟩
   rintro d H6 ⟨nT,mP,hd6,YA⟩;have YB:=Bc.le nT;have ER:=fM.le nT;have IA:(ah d).length≤3:=gm.2 (by rw[bG];omega);refine af (ab 3 rfl (au rfl rfl (Fn.frame (gs:=[g]) (fun q hq=>by simp only[List.mem_singleton]at hq;subst hq;rw[mP];simp) (AW (x:=d) (by omega))) ?_));rintro v4 Ha ⟨rA,IX⟩;have vD:=(IX g (List.mem_singleton.2 rfl)).trans mP;refine au rfl rfl (Fn.frame (gs:=[g]) (fun q hq=>by simp only[List.mem_singleton]at hq;subst hq;rw[vD];simp) (AZ (YB.le rA.le) rA.nat (by omega) (by omega))) ?_;rintro v5 Hb ⟨vE,IY⟩;have Bf:=(IY g (List.mem_singleton.2 rfl)).trans vD;refine au rfl rfl (Fn.frame (gs:=[g]) (fun q hq=>by simp only[List.mem_singleton]at hq;subst hq;rw[Bf];simp) (EN ((ER.le rA.le).le vE.le) vE.nat YA (by omega))) ?_;rintro v6 Hc ⟨O0,uL⟩;have nW:=(uL g (List.mem_singleton.2 rfl)).trans Bf;have YC:=((nT.trans rA.le).trans vE.le).trans O0.le;refine ab 1 rfl (ae [0,1,8,9,10,11] ?_);refine aq (aD (jb (fun(d2:Nat)(Bh:Value)(r2:Nat)=>r2) (fun(d2:Nat)(Bh:Value)(r2:Nat)=>put (put (put (put (put (put (emp) 0 (.val (.slice A (ah x).length c))) 1 (.val (.slice A' (ah y).length c'))) 8 (.val (.slice (some ⟨g,0,none⟩) (ah x).length (ah x).length))) 9 (.val (Bh))) 10 (.val (.int .i64 ((k:Int)-1)))) 11 (.val (.int .u64 (d2:Int)))) (fun(d2:Nat)(Bh:Value)(r2:Nat) H'=>Heap.le (rem H3 [g]) (rem H' [g])∧H' g=some (cL l (ah x).length)∧cB (rem H' [g]) Bh r2∧r1=y*d2+r2) d _ (r1-y*d) (⟨YC,nW,O0.nat,by omega⟩) ay ?_))
   rintro d2 Bh r2 tl ⟨mS,ly,Bi,he8⟩;obtain⟨A8,c8,rfl,I0,hr8⟩:=id Bi;have YD:=Bc.le mS;have ln:=jB (show r2≤r1 by omega)
   have ade:d2<1000000000:=by
    false_or_by_contra
    have:y*1000000000≤y*d2:=Nat.mul_le_mul_left _ (by omega);rw[bG,Nat.mul_comm]at EP;omega
   refine aq (af (ab 2 rfl (au rfl rfl (Fn.frame (gs:=[g]) (fun q hq=>by simp only[List.mem_singleton]at hq;subst hq;rw[ly];simp) (EK Bi YD (by omega))) ?_)));rintro v7 H9 ⟨⟨yc,rfl⟩,oW⟩;have yd:=(oW g (List.mem_singleton.2 rfl)).trans ly
   have Aw:Heap.le (rem H3 [g]) (rem H9 [g]):=by rw[yc];exact mS
   have O1:cB (rem H9 [g]) (.slice A8 (ah r2).length c8) r2:=by rw[yc];exact Bi
   refine ab 1 rfl (ae [0,1,8,9,10,11,76] ?_);refine az rfl (fun hb=> ?_) (fun hb=> ?_)
   ·
    have hb:y≤r2:=Ba.1 (by simpa using hb);refine ax (aj [0,1,8,9,10,11] rfl ?_);refine aD (af (ab 2 rfl (au rfl rfl (Fn.frame (gs:=[g]) (fun q hq=>by simp only[List.mem_singleton]at hq;subst hq;rw[yd];simp) (EN O1 (Bc.le Aw) hb (by omega))) ?_)));rintro v8 ES ⟨O2,YE⟩;have YF:=(YE g (List.mem_singleton.2 rfl)).trans yd;refine ab 1 rfl (ae [0,1,8,9,10,11] ?_);refine aF rfl (ab 1 rfl (aO rfl rfl ⟨by omega,by omega⟩ (ab 1 rfl (aA ?_))));exact⟨d2+1,_,r2-y,by omega,ay,Aw.trans O2.le,YF,O2.nat,by rw[Nat.mul_add,Nat.mul_one];omega⟩
   have YG:r2<y:=by
    have:¬0≤gV r2 y:=by simp at hb;omega
    rw[Ba]at this;omega
   obtain⟨r3,rfl⟩:∃r3,r3=r2:=⟨_,rfl⟩;obtain⟨d3,rfl⟩:∃d3,d3=d2:=⟨_,rfl⟩;refine bC (aj [0,1,8,9,10,11] rfl ?_);refine aF rfl (ab 3 rfl (cF ag rfl rfl rfl ⟨by omega,by omega⟩ ?_));obtain⟨ti,ak,al⟩:=kU;refine dP (.inl rfl) ag rfl rfl rfl (by omega) (by omega) (yd) rfl (by rw[kW];omega) ak al (fun _=>rfl) rfl rfl rfl fun _=> ?_;refine aA ?_
   have O3:ins H9 g {cL l (ah x).length with xs:=aC (cL l (ah x).length).xs (0+((k:Int)-1).toNat*1) [.int .u32 (d3:Int)]}=ins H9 g (cL (l.set (k-1) d3) (ah x).length):=by
    rw[OX];simp only[cL,aC,Nat.zero_add,Nat.mul_one,G9]
   have I1:Heap.le H (rem (ins H9 g {cL l (ah x).length with xs:=aC (cL l (ah x).length).xs (0+((k:Int)-1).toNat*1) [.int .u32 (d3:Int)]}) [g]):=by
    rw[bZ _ (List.mem_singleton.2 rfl)];exact(hle.trans fL).trans Aw
   have Bj:=O1;refine aj [0,1,8,9,10] rfl ?_;refine aF rfl (ab 1 rfl (di rfl rfl ⟨by omega,by omega⟩ (ab 1 rfl (aA ?_))));refine⟨k-1,_,r3,l.set (k-1) d3,by omega,ay,I1,by rw[O3,bx],by simp[qS],a7.set (by rw[bG];omega),by omega,YG,by rw[O3,bZ _ (List.mem_singleton.2 rfl)];exact Bj,?_⟩;rw[OV IV,show k-1+1=k by omega,OV (l:=l.set (k-1) d3) (List.getElem?_set_self (by omega)),show k-1+1=k by omega,List.drop_set_of_lt (by omega),hv]
   have h1:B*(val (List.drop k l)*y+r)=B*val (List.drop k l)*y+B*r:=by rw[Nat.mul_add,Nat.mul_assoc]
   have h2:(d3+B*val (List.drop k l))*y=y*d3+B*val (List.drop k l)*y:=by rw[Nat.add_mul,Nat.mul_comm d3]
   rw[h1,h2];omega
  have hb:k=0:=by simp at hb;omega
  subst hb;rw[List.drop_zero,List.drop_zero,ck]at hv
  have YH:val l=x/y:=by rw[hv,Nat.add_comm,Nat.add_mul_div_right _ _ fE,Nat.div_eq_of_lt IU,Nat.zero_add]
  have lq:r=x%y:=by rw[hv,Nat.add_comm,Nat.add_mul_mod_self_right,Nat.mod_eq_of_lt IU]
  refine bC (aj [8,9] rfl ?_);refine af (ab 1 rfl (au rfl rfl (vB (l:=l) ⟨some ⟨g,0,none⟩,_,by rw[qS],by omega,fun i v hv=>⟨_,rfl,by simp[cell,jd,zB,cL,hv]⟩⟩ a7 (by omega)) ?_));rintro v9 mT I3;refine ab 3 rfl (ae [4,5] ?_);refine aw ⟨.inr rfl,_,.tmp rfl (.tmp rfl (.nil)),?_⟩;exact⟨(hle.trans (bn _ _)).trans I3.le,_,_,rfl,by rw[←YH];exact I3.nat,by rw[←lq];exact(jn.le (bn _ _)).le I3.le⟩
end Go.ar
namespace Go.ar
open Go.Proofs Num
theorem YI(f:Bool)(n d:Nat)(k:Nat)(hn:(ah n).length≤k)(hd:(ah d).length≤k):aK (bS f n d)≤k+1∧(0<d→aK (bS f n d)≤k):=by
 rcases Nat.eq_zero_or_pos d with e | e
 ·subst e
  rw[zJ]
  refine⟨?_,fun h=>by omega⟩
  have:aK 0=1:=by
   unfold aK
   show max (ah 0).length (ah 1).length=1
   rw[oH,qW];rfl
  omega
 ·have h1:=jB (Nat.div_le_self n (Nat.gcd n d))
  have h2:=jB (Nat.div_le_self d (Nat.gcd n d))
  have:aK (bS f n d)≤k:=by
   unfold aK
   rw[uM e,sL e];omega
  exact⟨by omega,fun _=>this⟩
theorem bL.size{H:Heap}{v:Value}{q:Rat}{N:Nat}(h:bL H v q N):aK q≤N+2:=by
 obtain⟨f,u,w,l1,l2,_,_,_,h1,h2,h3,h4,rfl⟩:=h
 have k1:=wY h1
 have k2:=wY h2
 exact(YI f _ _ (N+1) (by omega) (by omega)).1
theorem O4{H:Heap}{w:Value}(hw:cB H w 1):dI H (.agg #[.bool false,.slice none 0 0,w]) 0:=⟨_,_,rfl,qP H,hw⟩
theorem YJ{H:Heap}{f:Bool}{u w:Value}{n d:Nat}(hn:0<n)(hd:0<d)(hu:cB H u (n/Nat.gcd n d))(hw:cB H w (d/Nat.gcd n d)):dI H (.agg #[.bool f,u,w]) (bS f n d):=by
 refine⟨u,w,?_,by rw[uM hd];exact hu,by rw[sL hd];exact hw⟩
 rw[zK hd hn]
theorem YK(p q:Rat):fK (p-q)=qV p q:=by
 unfold fK qV
 by_cases h:p<q
 ·rw[if_pos (by grind),if_pos h]
 ·rw[if_neg (by grind),if_neg h]
  by_cases e:p=q
  ·rw[if_pos (by grind),if_pos e]
  ·rw[if_neg (by grind),if_neg e]
theorem cB.tm{H:Heap}{v:Value}{x:Nat}(h:cB H v x):fI H v (ah x):=h
theorem YL{H:Heap}{u v:Value}{x y:Nat}(hx:cB H u x)(hy:cB H v y)(hm:((ah x).length:Int)<4398046511104)(aV:((ah y).length:Int)<4398046511104):
 Fn Tryz.prog 86 #[u,v] H (jV H (Nat.gcd x y)):=by
 refine aW (args:=[_,_]) Tryz.func86 rfl rfl Tryz.ntmps86 rfl rfl fun w0=> ?_;refine aj [0,1] rfl ?_;refine af (ab 1 rfl (ae [0,1] ?_));refine aq (aD (nz (fun(u:Value)(a:Nat)(v:Value)(b:Nat)=>b) (fun(u:Value)(a:Nat)(v:Value)(b:Nat)=>put (put (emp) 0 (.val (u))) 1 (.val (v))) (fun(u:Value)(a:Nat)(v:Value)(b:Nat) H'=>Heap.le H H'∧cB H' u a∧cB H' v b∧((ah a).length:Int)<4398046511104∧((ah b).length:Int)<4398046511104∧Nat.gcd a b=Nat.gcd x y) _ x _ y (⟨.refl _,hx,hy,hm,aV,rfl⟩) ay ?_));rintro u a v b H1 ⟨hle,ha,iP,fJ,eD,hg⟩;obtain⟨Aha,cha,rfl,adf,adg⟩:=id ha;obtain⟨adh,adi,rfl,adj,adk⟩:=id iP;refine aq (af (ab 3 rfl (ae [0,1,9] ?_)));refine az rfl (fun hb=> ?_) (fun hb=> ?_)
 ·
  have hb:0<b:=Nat.pos_of_ne_zero fun e=>by rw[ik.2 e]at hb;simp at hb
  refine ax (aj [0,1] rfl ?_);refine aD (af (ab 2 rfl (au rfl rfl (Bb ha iP hb fJ eD) ?_)));rintro v2 H2 ⟨ct,q2,r2,rfl,bF,kr⟩;refine ab 5 rfl (ae [1,6] ?_);refine aF rfl (ab 4 rfl (aA ?_));have vk:=jB (Nat.le_of_lt (Nat.mod_lt a hb));exact⟨_,b,_,a%b,Nat.mod_lt a hb,ay,hle.trans ct,iP.le ct,kr,eD,by omega,by rw[←hg,Nat.gcd_comm b,←Nat.gcd_rec,Nat.gcd_comm]⟩
 ·
  have hb:b=0:=ik.1 (by have:=of_decide_eq_false hb;omega);subst hb;rw[Nat.gcd_zero_right]at hg;subst hg;refine bC (aj [0] rfl ?_);refine af (ab 2 rfl (ae [4] ?_));refine aw ⟨.inr rfl,_,.tmp rfl (.nil),?_⟩;exact⟨hle,ha⟩
theorem vF{H:Heap}{u v:Value}{f:Bool}{l1 l2:List Nat}(hu:fI H u l1)(hv:fI H v l2)(h1:∀x,x∈l1→x<4294967296)(h2:∀x,x∈l2→x<4294967296)(hm:(l1.length:Int)≤4398046511000)(aV:(l2.length:Int)≤4398046511000):
 Fn Tryz.prog 50 #[.bool f,u,v] H (iI H (bS f (val l1) (val l2))):=by
 have k1:=wY h1
 have k2:=wY h2
 obtain⟨Ahu,chu,rfl,adl,adm⟩:=id hu
 obtain⟨Ahv,chv,rfl,adn,ado⟩:=id hv;refine aW (args:=[_,_,_]) Tryz.func50 rfl rfl Tryz.ntmps50 rfl rfl fun w0=> ?_;refine aj [0,1,2] rfl ?_;refine af (bD cZ rfl (ae [0,1,2,6] ?_));refine af (ab 1 rfl (au rfl rfl (OS hu h1 (by omega)) ?_));rintro v1 H1 eV;refine ab 1 rfl (au rfl rfl (OS (hv.le eV.le) h2 (by omega)) ?_);rintro v2 H2 eI;obtain⟨n,hn⟩:∃n,n=val l1:=⟨_,rfl⟩;obtain⟨d,hd⟩:∃d,d=val l2:=⟨_,rfl⟩;rw[←hn]at eV k1;rw[←hd]at eI k2;have dB:=eV.nat.le eI.le;have gJ:=eI.nat;obtain⟨HH,HI,rfl,HJ,HK⟩:=id dB;obtain⟨M4,M5,rfl,M6,M7⟩:=id gJ;have hle:=eV.le.trans eI.le;rw[←hn,←hd];refine ab 2 rfl (ae [0,1,2,6] ?_);refine aq ?_
 rcases Nat.eq_zero_or_pos n with gW | gW
 ·
  have ET:=ik.2 gW;refine af (ab 2 rfl (aS true rfl rfl (lM (by omega)) (ab 5 rfl (ae [0,1,2,6,19] ?_))));refine eL rfl (af (cU Tryz.underlying27 cW rfl rfl rfl rfl rfl rfl rfl ?_));intro gb bH;refine dH ag rfl cZ rfl rfl ?_;obtain⟨ti,ak,al⟩:=bT;refine aM (.inl ⟨rfl,rfl⟩) rfl rfl rfl ak al rfl rfl rfl (ae [6] ?_);obtain⟨bO,aI,aJ⟩:=bT;refine aw ⟨.inr rfl,_,.agg rfl Tryz.underlying29 aI aJ (.nil),?_⟩;exact⟨hle.trans (Heap.a0 _ bH),by rw[gW,sK];exact O4 sM⟩
 ·
  have ET:(ah n).length≠0:=fun e=>by rw[ik]at e;omega
  rcases Nat.eq_zero_or_pos d with rz | rz
  ·
   have ET:=ik.2 rz;refine af (ab 2 rfl (aS false rfl rfl (lN (by omega)) (ab 3 rfl (aS true rfl rfl (lM (by omega)) (ab 1 rfl (ae [0,1,2,6,19] ?_))))));refine eL rfl (af (cU Tryz.underlying27 cW rfl rfl rfl rfl rfl rfl rfl ?_));intro gb bH;refine dH ag rfl cZ rfl rfl ?_;obtain⟨ti,ak,al⟩:=bT;refine aM (.inl ⟨rfl,rfl⟩) rfl rfl rfl ak al rfl rfl rfl (ae [6] ?_);obtain⟨bO,aI,aJ⟩:=bT;refine aw ⟨.inr rfl,_,.agg rfl Tryz.underlying29 aI aJ (.nil),?_⟩;exact⟨hle.trans (Heap.a0 _ bH),by rw[rz,zJ];exact O4 sM⟩
  have cn:(ah d).length≠0:=fun e=>by rw[ik]at e;omega
  refine af (ab 2 rfl (aS false rfl rfl (lN (by omega)) (ab 3 rfl (aS false rfl rfl (lN (by omega)) (ab 1 rfl (ae [0,1,2,6,19] ?_))))));refine dG rfl (ax (aj [0,1,2,6] rfl ?_));refine af (ab 2 rfl (au rfl rfl (YL dB gJ (by omega) (by omega)) ?_));rintro v3 H3 eE;obtain⟨g,hg⟩:∃g,g=Nat.gcd n d:=⟨_,rfl⟩;rw[←hg]at eE
  have mo:0<g:=by rw[hg];exact Nat.gcd_pos_of_pos_left _ gW
  have fM:=eE.nat;have rf:=jB (show g≤n by rw[hg];exact Nat.gcd_le_left _ gW);have I4:=dB.le eE.le;have I5:=gJ.le eE.le;obtain⟨HL,HM,rfl,HN,DB⟩:=id fM;refine ab 1 rfl (ae [0,1,2,6,7] ?_);refine GV (fun(u3:Value)(v3:Value)=>put (put (put (put (emp) 0 (.val (.bool f))) 1 (.val (u3))) 2 (.val (v3))) 6 (.box [.bool false,.slice none 0 0,.slice none 0 0])) (fun(u3:Value)(v3:Value) H'=>Heap.le H H'∧cB H' u3 (n/g)∧cB H' v3 (d/g)) ?_ ?_
  ·
   by_cases hl:(ah g).length=1
   ·
    obtain⟨z,hz⟩:=List.length_eq_one_iff.1 hl
    have O5:z=g:=by have:=ck g;rw[hz]at this;simpa [val]using this
    have AP:(ah g)[0]? = some g:=by rw[hz,O5];rfl
    refine af (ab 2 rfl (aS false rfl rfl (wP (by omega)) (ab 2 rfl (a9 ag rfl rfl rfl rfl rfl (DB) (cH AP) (by omega) (by omega) fun _=>(ab 2 rfl (ae [0,1,2,6,7,33] ?_))))));refine az rfl (fun hb=> ?_) (fun hb=> ?_)
    ·
     skip
     refine af (ab 2 rfl (au rfl rfl (Bb I4 fM mo (by omega) (by omega)) ?_));rintro v4 H4 ⟨eZ,q4,r4,rfl,cJ,Dz⟩;refine ab 4 rfl (ae [0,1,2,6,7] ?_);refine aF rfl (ab 2 rfl (au rfl rfl (Bb (I5.le eZ) (fM.le eZ) mo (by omega) (by omega)) ?_));rintro v5 H5 ⟨gL,q5,r5,rfl,p8,oK⟩;refine ab 4 rfl (aA ?_);exact⟨_,_,ay,(hle.trans eE.le).trans (eZ.trans gL),cJ.le gL,p8⟩
    have oI:g=1:=by simp at hb;omega
    refine ax ?_;exact⟨_,_,ay,hle.trans eE.le,by rw[oI,Nat.div_one];exact I4,by rw[oI,Nat.div_one];exact I5⟩
   skip
   refine af (ab 2 rfl (aS true rfl rfl (pL (by omega)) (ab 6 rfl (ae [0,1,2,6,7,33] ?_))));refine eL rfl (af (ab 2 rfl (au rfl rfl (Bb I4 fM mo (by omega) (by omega)) ?_)));rintro v4 H4 ⟨eZ,q4,r4,rfl,cJ,Dz⟩;refine ab 4 rfl (ae [0,1,2,6,7] ?_);refine aF rfl (ab 2 rfl (au rfl rfl (Bb (I5.le eZ) (fM.le eZ) mo (by omega) (by omega)) ?_));rintro v5 H5 ⟨gL,q5,r5,rfl,p8,oK⟩;refine ab 4 rfl (aA ?_);exact⟨_,_,ay,(hle.trans eE.le).trans (eZ.trans gL),cJ.le gL,p8⟩
  rintro u3 v3 H6 ⟨nT,O6,tq⟩;obtain⟨adp,adq,rfl,adr,ads⟩:=id O6;obtain⟨adt,adu,rfl,adv,adw⟩:=id tq;refine af (ab 3 rfl (dH ag rfl cZ rfl rfl ?_));obtain⟨ti,ak,al⟩:=bT;refine aM (.inl ⟨rfl,rfl⟩) rfl rfl rfl ak al rfl rfl rfl (ae [6] ?_);obtain⟨bO,aI,aJ⟩:=bT;refine aw ⟨.inr rfl,_,.agg rfl Tryz.underlying29 aI aJ (.nil),?_⟩;exact⟨nT,YJ gW rz (by rw[←hg];exact O6) (by rw[←hg];exact tq)⟩
theorem I6{H:Heap}{n:Int}(h1: -9223372036854775808≤n)(h2:n≤9223372036854775807):
 Fn Tryz.prog 17 #[.int .i64 n] H (iI H (n:Rat)):=by
 have fu:(ah n.natAbs).length≤3:=gm.2 (by rw[bG];omega)
 have Bk:=Dw n
 have fq:val (ah 1)=1:=ck 1
 have cn:(ah 1).length=1:=by rw[qW];rfl
 refine aW (args:=[_]) Tryz.func17 rfl rfl Tryz.ntmps17 rfl rfl fun w0=> ?_;refine aj [0] rfl ?_;refine af (bD cZ rfl (ae [0,2] ?_));refine aq (af (ab 2 rfl (ae [0,2,4] ?_)));refine az rfl (fun hb=> ?_) (fun hb=> ?_)
 ·
  have hb:n<0:=by simpa using hb
  rw[decide_eq_true hb]at Bk;refine af (ab 1 rfl (aO rfl rfl ⟨by omega,by omega⟩ (wF rfl ⟨by omega,by omega⟩ (cF ag rfl rfl rfl ⟨by omega,by omega⟩ (aO rfl rfl ⟨by omega,by omega⟩ ?_)))));rw[show -(n+1)+1=((n.natAbs:Nat):Int) by omega];refine au rfl rfl (AW (by omega)) ?_;rintro v1 H1 eV;refine cU Tryz.underlying27 cW rfl rfl rfl rfl rfl rfl rfl ?_;intro gb bH;refine au rfl rfl (vF (eV.nat.le (Heap.a0 _ bH)) (sM).tm nG nG (by omega) (by omega)) ?_;rintro w2 G2 ⟨cR,bF⟩;rw[ck,fq,Bk]at bF;obtain⟨u2,x2,rfl,eo,dQ⟩:=id bF;obtain⟨lS,lT,rfl,lU,lV⟩:=id eo;obtain⟨lW,lX,rfl,lY,lZ⟩:=id dQ;obtain⟨ti,ak,al⟩:=bT;refine aM (.inl ⟨rfl,rfl⟩) rfl rfl rfl ak al rfl rfl rfl (ae [2] ?_);obtain⟨bO,aI,aJ⟩:=bT;refine aw ⟨.inr rfl,_,.agg rfl Tryz.underlying29 aI aJ (.nil),?_⟩;exact⟨(eV.le.trans (Heap.a0 _ bH)).trans cR,bF⟩
 ·
  have hb:¬n<0:=by simpa using hb
  rw[decide_eq_false hb]at Bk;obtain⟨m,rfl⟩:∃m:Nat,n=(m:Int):=⟨n.natAbs,by omega⟩;rw[Int.natAbs_natCast]at Bk fu;refine ax (aj [0,2] rfl ?_);refine af (ab 1 rfl (cF ag rfl rfl rfl ⟨by omega,by omega⟩ (au rfl rfl (AW (x:=m) (by omega)) ?_)));rintro v1 H1 eV;refine cU Tryz.underlying27 cW rfl rfl rfl rfl rfl rfl rfl ?_;intro gb bH;refine au rfl rfl (vF (eV.nat.le (Heap.a0 _ bH)) (sM).tm nG nG (by omega) (by omega)) ?_;rintro w2 G2 ⟨cR,bF⟩;rw[ck,fq,Bk]at bF;obtain⟨u2,x2,rfl,eo,dQ⟩:=id bF;obtain⟨lS,lT,rfl,lU,lV⟩:=id eo;obtain⟨lW,lX,rfl,lY,lZ⟩:=id dQ;obtain⟨ti,ak,al⟩:=bT;refine aM (.inl ⟨rfl,rfl⟩) rfl rfl rfl ak al rfl rfl rfl (ae [2] ?_);obtain⟨bO,aI,aJ⟩:=bT;refine aw ⟨.inr rfl,_,.agg rfl Tryz.underlying29 aI aJ (.nil),?_⟩;exact⟨(eV.le.trans (Heap.a0 _ bH)).trans cR,bF⟩
theorem I7{H:Heap}{v:Value}{q:Rat}{N:Nat}(hv:bL H v q N)(hN:(N:Int)≤4398046511000):
 Fn Tryz.prog 70 #[v] H (iI H q):=by
 obtain⟨bf,bu,bw,mE,mG,rfl,dZ,bU,jD,ye,I8,I9,rfl⟩:=id hv;refine aW (args:=[_]) Tryz.func70 rfl rfl Tryz.ntmps70 rfl rfl fun w0=> ?_;refine aj [0] rfl ?_;refine af (bY rfl rfl (bD cZ rfl (ae [1,2] ?_)));refine af (ab 6 rfl (au rfl rfl (vF dZ bU jD ye (by omega) (by omega)) ?_));rintro w2 G2 ⟨cR,bF⟩;obtain⟨u2,x2,rfl,eo,dQ⟩:=id bF;obtain⟨lS,lT,rfl,lU,lV⟩:=id eo;obtain⟨lW,lX,rfl,lY,lZ⟩:=id dQ;obtain⟨ti,ak,al⟩:=bT;refine aM (.inl ⟨rfl,rfl⟩) rfl rfl rfl ak al rfl rfl rfl (ae [2] ?_);obtain⟨bO,aI,aJ⟩:=bT;refine aw ⟨.inr rfl,_,.agg rfl Tryz.underlying29 aI aJ (.nil),?_⟩;exact⟨cR,bF⟩
theorem YM{H:Heap}{v:Value}{q:Rat}{N:Nat}(hv:bL H v q N)(hN:(N:Int)≤4398046511000):
 Fn Tryz.prog 37 #[v] H (fun v H'=>Heap.le H H'∧v = .int .i64 (fK q)):=by
 obtain⟨bf,bu,bw,mE,mG,rfl,_⟩:=id hv
 have jE:=Nf q;refine aW (args:=[_]) Tryz.func37 rfl rfl Tryz.ntmps37 rfl rfl fun w0=> ?_;refine aj [0] rfl ?_;refine af (bY rfl rfl (ab 1 rfl (ae [1] ?_)));refine af (ab 1 rfl (au rfl rfl (I7 hv hN) ?_));rintro w2 G2 ⟨cR,bF⟩;obtain⟨u2,x2,rfl,eo,dQ⟩:=id bF;obtain⟨lS,lT,rfl,lU,lV⟩:=id eo;obtain⟨lW,lX,rfl,lY,lZ⟩:=id dQ;obtain⟨ti,ak,al⟩:=bT;refine aM (.inl ⟨rfl,rfl⟩) rfl rfl rfl ak al rfl rfl rfl (ae [1] ?_);refine aq (aD (af (ab 5 rfl (ae [1,5] ?_))));refine az rfl (fun hb=> ?_) (fun hb=> ?_)
 ·
  have hb:q.num.natAbs=0:=ik.1 (by have:=eq_of_beq hb;omega);rw[if_pos hb]at jE;refine af (ab 1 rfl (ae [2] ?_));refine aw ⟨.inr rfl,_,.tmp rfl (.nil),?_⟩;exact⟨cR,by rw[jE];rfl⟩
 ·
  have hb:q.num.natAbs≠0:=fun e=>by rw[ik.2 e]at hb;simp at hb
  rw[if_neg hb]at jE;refine af (ab 3 rfl (ae [10] ?_));refine az rfl (fun hb=> ?_) (fun hb=> ?_)
  ·
   rw[hb]at jE;refine af (ab 1 rfl (ae [2] ?_));refine aw ⟨.inr rfl,_,.tmp rfl (.nil),?_⟩;exact⟨cR,by rw[jE];rfl⟩
  rw[hb]at jE;refine ax (aj [] rfl ?_);refine af (ab 1 rfl (ae [2] ?_));refine aw ⟨.inr rfl,_,.tmp rfl (.nil),?_⟩;exact⟨cR,by rw[jE];rfl⟩
theorem YN{H:Heap}{v:Value}{q:Rat}{N:Nat}(hv:bL H v q N)(hN:(N:Int)≤4398046511000):
 Fn Tryz.prog 72 #[v] H (iI H (-q)):=by
 obtain⟨bf,bu,bw,mE,mG,rfl,dZ,bU,jD,ye,I8,I9,rfl⟩:=id hv;refine aW (args:=[_]) Tryz.func72 rfl rfl Tryz.ntmps72 rfl rfl fun w0=> ?_;refine aj [0] rfl ?_;refine af (bY rfl rfl (bD cZ rfl (ae [1,2] ?_)));refine af (ab 7 rfl (au rfl rfl (vF (f:= !bf) dZ bU jD ye (by omega) (by omega)) ?_));rintro w2 G2 ⟨cR,bF⟩;rw[←HF]at bF;obtain⟨u2,x2,rfl,eo,dQ⟩:=id bF;obtain⟨lS,lT,rfl,lU,lV⟩:=id eo;obtain⟨lW,lX,rfl,lY,lZ⟩:=id dQ;obtain⟨ti,ak,al⟩:=bT;refine aM (.inl ⟨rfl,rfl⟩) rfl rfl rfl ak al rfl rfl rfl (ae [2] ?_);obtain⟨bO,aI,aJ⟩:=bT;refine aw ⟨.inr rfl,_,.agg rfl Tryz.underlying29 aI aJ (.nil),?_⟩;exact⟨cR,bF⟩
theorem YO{H:Heap}{v v2:Value}{q q2:Rat}{N:Nat}(hv:bL H v q N)(de:bL H v2 q2 N)(hN:(N:Int)≤1099511627780):
 Fn Tryz.prog 71 #[v,v2] H (iI H (q+q2)):=by
 obtain⟨bf,bu,bw,mE,mG,rfl,_⟩:=id hv
 obtain⟨cf,cu,cw,xe,xg,rfl,_⟩:=id de
 have jg:=hv.size
 have EU:=de.size
 have ej:=Nat.pos_of_ne_zero q.den_nz
 have jW:=Nat.pos_of_ne_zero q2.den_nz
 have EW:=zL q
 have EX:=zL q2
 obtain⟨f1,jR⟩:∃f1,f1=decide (q.num<0):=⟨_,rfl⟩
 obtain⟨f2,kR⟩:∃f2,f2=decide (q2.num<0):=⟨_,rfl⟩
 obtain⟨n1,dB⟩:∃n1,n1=q.num.natAbs:=⟨_,rfl⟩
 obtain⟨n2,gJ⟩:∃n2,n2=q2.num.natAbs:=⟨_,rfl⟩
 obtain⟨d1,EY⟩:∃d1,d1=q.den:=⟨_,rfl⟩
 obtain⟨d2,EZ⟩:∃d2,d2=q2.den:=⟨_,rfl⟩
 have hz:(ah n1).length≤N+2∧(ah d1).length≤N+2∧(ah n2).length≤N+2∧(ah d2).length≤N+2:=by
  unfold aK at jg EU
  rw[dB,gJ,EY,EZ];omega
 rw[←jR,←dB,←EY]at EW
 rw[←kR,←gJ,←EZ]at EX
 rw[←EY]at ej
 rw[←EZ]at jW
 have pR:=oL n1 d2
 have kZ:=oL n2 d1
 have HG:=oL d1 d2
 have DA:=Nat.mul_pos ej jW
 have im:=MX (x:=n1*d2) (y:=n2*d1) (k:=2*(N+2)) (by omega) (by omega);refine aW (args:=[_,_]) Tryz.func71 rfl rfl Tryz.ntmps71 rfl rfl fun w0=> ?_;refine aj [0,1] rfl ?_;refine af (bY rfl rfl (bY rfl rfl (bD cZ rfl (ae [2,3,4] ?_))));refine cg .bR [0,2,1,3,4,5] follows (by kernel_rfl) ?_;refine ab 2 rfl (aT rfl rfl (I7 hv (by omega)) (fun _ _ h=>by first | exact h.le | exact h.1) ?_);rintro w1 G1 ⟨cn,Ja⟩
 unfold dI at Ja
 rw[←jR,←dB,←EY]at Ja;obtain⟨uO,uP,rfl,gI,gX⟩:=id Ja;obtain⟨uQ,uR,rfl,uS,uT⟩:=id gI;obtain⟨uU,uV,rfl,uW,uX⟩:=id gX;refine aT rfl rfl (I7 (de.le cn) (by omega)) (fun _ _ h=>by first | exact h.le | exact h.1) ?_;rintro w2 G2 ⟨ct,Jb⟩
 unfold dI at Jb
 rw[←kR,←gJ,←EZ]at Jb;obtain⟨DG,DH,rfl,mH,l0⟩:=id Jb;obtain⟨zN,zO,rfl,DI,DJ⟩:=id mH;obtain⟨zP,zQ,rfl,DK,DL⟩:=id l0;have gI:=gI.le ct;have gX:=gX.le ct;have hle:=cn.trans ct;obtain⟨ti,ak,al⟩:=bT;refine aM (.inl ⟨rfl,rfl⟩) rfl rfl rfl ak al rfl rfl rfl ?_;obtain⟨ti,ak,al⟩:=bT;refine aM (.inl ⟨rfl,rfl⟩) rfl rfl rfl ak al rfl rfl rfl (ae [2,3,4] ?_);refine cg .bR [0,1,2,3,5,6,7,8,4,9,10,11] follows (by kernel_rfl) ?_;refine ab 8 rfl (aT rfl rfl (AZ gI l0 (by omega) (by omega)) (fun _ _ h=>by first | exact h.le | exact h.1) ?_);rintro v3 H3 eE;refine aT rfl rfl (AZ (mH.le eE.le) (gX.le eE.le) (by omega) (by omega)) (fun _ _ h=>by first | exact h.le | exact h.1) ?_;rintro v4 H4 fh;refine ab 2 rfl (ae [2,3,4,5,6] ?_);refine af (ab 4 rfl (au rfl rfl (AZ ((gX.le eE.le).le fh.le) ((l0.le eE.le).le fh.le) (by omega) (by omega)) ?_));rintro v5 H5 E0;have fg:=((hle.trans eE.le).trans fh.le).trans E0.le;have yf:=(eE.nat.le fh.le).le E0.le;have vC:=fh.nat.le E0.le;have E2:=E0.nat;obtain⟨adx,ady,rfl,adz,adA⟩:=id yf;obtain⟨adB,adC,rfl,adD,adE⟩:=id vC;obtain⟨adF,adG,rfl,adH,adI⟩:=id E2;refine vr 1 ?_
 refine ae [2,3,4,5,6,7] ?_;refine aq (af (ab 4 rfl (GK Tryz.underlying4 rfl rfl (ae [2,3,4,5,6,7,31] ?_))));refine az rfl (fun hb=> ?_) (fun hb=> ?_)
 ·
  have mC:f1=f2:=by simpa using hb
  refine cg .bR [0,1,2,3,5,4,6,7] follows (by kernel_rfl) ?_;refine ab 5 rfl (aT rfl rfl (Yl yf vC (by omega) (by omega)) (fun _ _ h=>by first | exact h.le | exact h.1) ?_);rintro v6 H6 jX;have Bl:=E2.le jX.le;have tr:=jX.nat;obtain⟨O7,O8,rfl,O9,Pb⟩:=id tr;refine aT rfl rfl (vF (f:=f1) tr.tm Bl.tm nG nG (by omega) (by omega)) (fun _ _ h=>by first | exact h.le | exact h.1) ?_;rintro w7 G7 ⟨Bm,ka⟩;rw[ck,ck,←MR f1 ej jW,EW,mC,EX]at ka;obtain⟨u7,x7,rfl,Bn,Bp⟩:=id ka;obtain⟨Pc,Pd,rfl,Pe,Pf⟩:=id Bn;obtain⟨Pg,Ph,rfl,Pj,Pk⟩:=id Bp;obtain⟨ti,ak,al⟩:=bT;refine aM (.inl ⟨rfl,rfl⟩) rfl rfl rfl ak al rfl rfl rfl (ae [4] ?_);obtain⟨bO,aI,aJ⟩:=bT;refine aw ⟨.inr rfl,_,.agg rfl Tryz.underlying29 aI aJ (.nil),?_⟩;exact⟨(fg.trans jX.le).trans Bm,ka⟩
 ·
  have mC:f1≠f2:=by simpa using hb
  refine ax (aj [2,3,4,5,6,7] rfl ?_);refine aq (af (ab 2 rfl (au rfl rfl (EK yf vC (by omega)) ?_)));rintro v6 H6 ⟨e6,rfl⟩;rw[e6];refine ab 1 rfl (ae [2,3,4,5,6,7,42] ?_);refine az rfl (fun hb=> ?_) (fun hb=> ?_)
  ·
   have hb:n2*d1≤n1*d2:=Ba.1 (by simpa using hb);have jY:=jB (Nat.sub_le (n1*d2) (n2*d1));refine cg .bR [0,1,2,3,5,4,6,7] follows (by kernel_rfl) ?_;refine ab 5 rfl (aT rfl rfl (EN yf vC hb (by omega)) (fun _ _ h=>by first | exact h.le | exact h.1) ?_);rintro v6 H6 jX;have Bl:=E2.le jX.le;have tr:=jX.nat;obtain⟨O7,O8,rfl,O9,Pb⟩:=id tr;refine aT rfl rfl (vF (f:=f1) tr.tm Bl.tm nG nG (by omega) (by omega)) (fun _ _ h=>by first | exact h.le | exact h.1) ?_;rintro w7 G7 ⟨Bm,ka⟩;rw[ck,ck,←HE mC ej jW hb,EW,EX]at ka;obtain⟨u7,x7,rfl,Bn,Bp⟩:=id ka;obtain⟨Pc,Pd,rfl,Pe,Pf⟩:=id Bn;obtain⟨Pg,Ph,rfl,Pj,Pk⟩:=id Bp;obtain⟨ti,ak,al⟩:=bT;refine aM (.inl ⟨rfl,rfl⟩) rfl rfl rfl ak al rfl rfl rfl (ae [4] ?_);obtain⟨bO,aI,aJ⟩:=bT;refine aw ⟨.inr rfl,_,.agg rfl Tryz.underlying29 aI aJ (.nil),?_⟩;exact⟨(fg.trans jX.le).trans Bm,ka⟩
  have hb:n1*d2≤n2*d1:=by
   have:¬0≤gV (n1*d2) (n2*d1):=by simp at hb;omega
   rw[Ba]at this;omega
  have jY:=jB (Nat.sub_le (n2*d1) (n1*d2));refine ax (aj [3,4,5,6,7] rfl ?_);refine cg .bR [0,1,2,3,5,4,6,7] follows (by kernel_rfl) ?_;refine ab 5 rfl (aT rfl rfl (EN vC yf hb (by omega)) (fun _ _ h=>by first | exact h.le | exact h.1) ?_);rintro v6 H6 jX;have Bl:=E2.le jX.le;have tr:=jX.nat;obtain⟨O7,O8,rfl,O9,Pb⟩:=id tr;refine aT rfl rfl (vF (f:=f2) tr.tm Bl.tm nG nG (by omega) (by omega)) (fun _ _ h=>by first | exact h.le | exact h.1) ?_;rintro w7 G7 ⟨Bm,ka⟩;rw[ck,ck,←MS mC ej jW hb,EW,EX]at ka;obtain⟨u7,x7,rfl,Bn,Bp⟩:=id ka;obtain⟨Pc,Pd,rfl,Pe,Pf⟩:=id Bn;obtain⟨Pg,Ph,rfl,Pj,Pk⟩:=id Bp;obtain⟨ti,ak,al⟩:=bT;refine aM (.inl ⟨rfl,rfl⟩) rfl rfl rfl ak al rfl rfl rfl (ae [4] ?_);obtain⟨bO,aI,aJ⟩:=bT;refine aw ⟨.inr rfl,_,.agg rfl Tryz.underlying29 aI aJ (.nil),?_⟩;exact⟨(fg.trans jX.le).trans Bm,ka⟩
theorem YP{H:Heap}{v v2:Value}{q q2:Rat}{N:Nat}(hv:bL H v q N)(de:bL H v2 q2 N)(hN:(N:Int)≤1099511627778):
 Fn Tryz.prog 38 #[v,v2] H (iI H (q-q2)):=by
 obtain⟨bf,bu,bw,mE,mG,rfl,_⟩:=id hv
 obtain⟨cf,cu,cw,xe,xg,rfl,_⟩:=id de
 have EU:=de.size;refine aW (args:=[_,_]) Tryz.func38 rfl rfl Tryz.ntmps38 rfl rfl fun w0=> ?_;refine aj [0,1] rfl ?_;refine af (bY rfl rfl (bY rfl rfl (bD cZ rfl (ae [2,3,4] ?_))));refine cg .bR [0,1,2,3,4] follows (by kernel_rfl) ?_;refine ab 2 rfl (aT rfl rfl (YN de (by omega)) (fun _ _ h=>by first | exact h.le | exact h.1) ?_);rintro w2 G2 ⟨cR,bF⟩;obtain⟨u2,x2,rfl,eo,dQ⟩:=id bF;obtain⟨lS,lT,rfl,lU,lV⟩:=id eo;obtain⟨lW,lX,rfl,lY,lZ⟩:=id dQ;have kr:=bF.raw;rw[show aK (-q2)=aK q2 by unfold aK;rw[Rat.neg_num,Int.natAbs_neg,Rat.neg_den]]at kr;refine aT rfl rfl (YO (N:=N+2) ((hv.le cR).mono (by omega)) (kr.mono EU) (by omega)) (fun _ _ h=>by first | exact h.le | exact h.1) ?_;rintro w3 G3 ⟨kv,gx⟩;rw[←Rat.sub_eq_add_neg]at gx;obtain⟨u3,x3,rfl,mM,eW⟩:=id gx;obtain⟨xD,xE,rfl,xF,xG⟩:=id mM;obtain⟨xH,xI,rfl,xJ,xK⟩:=id eW;obtain⟨ti,ak,al⟩:=bT;refine aM (.inl ⟨rfl,rfl⟩) rfl rfl rfl ak al rfl rfl rfl (ae [4] ?_);obtain⟨bO,aI,aJ⟩:=bT;refine aw ⟨.inr rfl,_,.agg rfl Tryz.underlying29 aI aJ (.nil),?_⟩;exact⟨cR.trans kv,gx⟩
theorem Pm{H:Heap}{v v2:Value}{q q2:Rat}{N:Nat}(hv:bL H v q N)(de:bL H v2 q2 N)(hN:(N:Int)≤1099511627776):
 Fn Tryz.prog 8 #[v,v2] H (fun v H'=>Heap.le H H'∧v = .int .i64 (qV q q2)):=by
 obtain⟨bf,bu,bw,mE,mG,rfl,_⟩:=id hv
 obtain⟨cf,cu,cw,xe,xg,rfl,_⟩:=id de
 have jg:=hv.size
 have EU:=de.size;refine aW (args:=[_,_]) Tryz.func8 rfl rfl Tryz.ntmps8 rfl rfl fun w0=> ?_;refine aj [0,1] rfl ?_;refine af (bY rfl rfl (bY rfl rfl (ab 1 rfl (ae [2,3] ?_))));refine af (ab 2 rfl (au rfl rfl (YP hv de (by omega)) ?_));rintro w2 G2 ⟨cR,bF⟩;obtain⟨u2,x2,rfl,eo,dQ⟩:=id bF;obtain⟨lS,lT,rfl,lU,lV⟩:=id eo;obtain⟨lW,lX,rfl,lY,lZ⟩:=id dQ;have bV:=pV q q2;refine au rfl rfl (YM bF.raw (by omega)) ?_;rintro v3 H3 ⟨fu,rfl⟩;refine ab 1 rfl (ae [4] ?_);refine aw ⟨.inr rfl,_,.tmp rfl (.nil),?_⟩;exact⟨cR.trans fu,by rw[YK];rfl⟩
end Go.ar
namespace Go.ar
open Go.Proofs Num Lp
theorem vG(L:TL)(a:Nat→Rat)(sg:Rat)(k:Nat):g7 L a sg (k+1)=if 0≤L.mZ k then ed (ed (g7 L a sg k) (L.pF k) (a k*sg)) (L.mZ k).toNat (-(a k*sg))else ed (g7 L a sg k) (L.pF k) (a k*sg):=rfl
theorem YQ{H:Heap}{g:Nat}{ts:List Value}{pv mv:Value}{L:TL}{n N:Nat}{vs ss:List Value}{r:List Rat×Int×Rat}{slack:Int}{unit:Nat}{sg:Rat}
 (hg:H g=some ⟨ts,9,68,true⟩) (MN:ts[0]? = some (.int .i64 (L.w:Int))) (fF:ts[2]? = some pv) (vH:ts[3]? = some mv) (qc:aH p9 1 (rem H [g]) pv L.plus) (qd:aH vq 1 (rem H [g]) mv L.minus)
 (hr:ez N (rem H [g]) vs r) (hs:aZ (rem H [g]) ss sg) (im:aK sg≤1) (hn:r.1.length=n) (C6:L.plus.length=n) (ny:L.minus.length=n) (rY:∀j,j<n→L.pF j<L.w) (OF:∀j,j<n→L.mZ j<L.w)
 (gw:r.2.1≠2→0≤slack∧slack<L.w) (nE:unit<L.w) (hN:(N:Int)≤549755813888) (hw:(L.w:Int)≤1000000) (Jc:(n:Int)≤1000000):
 Fn Tryz.prog 60 #[.pointer (some ⟨g,0,none⟩),.agg vs.toArray,.agg ss.toArray,.int .i64 slack,.int .i64 (unit:Int)] H (fun v H'=>Heap.le H H'∧∃z xs,v = .slice (some ⟨z,0,none⟩) (L.w+1) (L.w+1)∧dJ [g] H H' z xs ((L.w+1)*3) 61∧bg (aZ (rem H' (z :: [g]))) 3 xs (aN (EJ L n (fn r.1) r.2.2 r.2.1 slack unit sg) (L.w+1))):=by
 obtain⟨ns,ds,bs,rfl⟩:=hs.cells
 obtain⟨Ac,cc,kk,f,A1,m1,c1,A2,m2,c2,rfl,rfl⟩:=hr.cells
 obtain⟨c',f',u',w',ko,lQ,mB⟩:=id hr
 simp only[List.cons.injEq,Value.bool.injEq,and_true,true_and]at ko
 obtain⟨rfl,rfl,rfl,rfl⟩:=ko
 have a6:∀q,q∈[g]→H q≠none:=fun q hq=>by rw[List.mem_singleton.1 hq,hg];simp
 obtain⟨Ap,cp,xp,rfl,jm,vv⟩:=qc.one
 obtain⟨Am,cm,xm,rfl,lq,AG⟩:=qd.one
 rw[C6]at fF
 rw[ny]at vH
 have vA:∀{H':Heap}{z:Nat}{xs:List Value}{s e:Nat},dJ [g] H H' z xs s e→H' g=some ⟨ts,9,68,true⟩:=fun g0=>(g0.same g (List.mem_singleton.2 rfl)).trans hg
 have gC:∀{H':Heap}{k:Nat}{v:Value},H' g=some ⟨ts,9,68,true⟩→ts[k]? = some v→cell H' ((⟨g,0,none⟩:Addr).add k)=some v:=fun h1 h2=>by simp[cell,jd,h1,h2]
 have Pn:∀{H':Heap},H' g=some ⟨ts,9,68,true⟩→cell H' (⟨g,0,none⟩:Addr)=some (.int .i64 (L.w:Int)):=fun h1=>by have:=gC (k:=0) h1 MN;rwa [jd]at this
 have YR:∀j,j<n→L.plus[j]? = some (L.pF j):=fun j hj=>by
  have:j<L.plus.length:=by rw[C6];exact hj
  simp[TL.pF,List.getD,List.getElem?_eq_getElem this]
 have YS:∀j,j<n→L.minus[j]? = some (L.mZ j):=fun j hj=>by
  have:j<L.minus.length:=by rw[ny];exact hj
  simp[TL.mZ,List.getD,List.getElem?_eq_getElem this]
 refine aW (args:=[_,_,_,_,_]) Tryz.func60 rfl rfl Tryz.ntmps60 rfl rfl fun w0=> ?_;refine aj [0,1,2,3,4] rfl ?_;refine af (bY rfl rfl (bY rfl rfl (ab 1 rfl (ae [0,3,4,6,7] ?_))));refine af (ab 2 rfl (a4 ag rfl rfl rfl (aQ ag rfl rfl rfl (Pn hg) (aO rfl rfl ⟨by omega,by omega⟩ (au rfl rfl (Az (gs:=[g]) (n:=L.w+1) a6 (by omega)) ?_)))));rintro v1 H1 ⟨cn,z,nQ,rfl,x6,Po⟩;have YT:=(Po H).len;rw[cE]at YT;refine ab 1 rfl (ae [0,3,4,6,7,11] ?_);refine aq (af (ab 2 rfl (au rfl rfl (Fn.EC (gs:=z :: [g]) (x6.ne a6) (Em (lQ.le (cD N) x6.le) (by omega) (by omega))) ?_)));rintro v2 H2 ⟨gi,ct,jY⟩;have dg:=x6.kept gi;obtain⟨Av,cv,xv,rfl,jn,pA⟩:=jY.num;rw[hn];refine ab 2 rfl (ae [0,3,4,6,7,11,22,23,24] ?_);refine aD (jS (fun(k:Nat)(xs:List Value)=>n-k) (fun(k:Nat)(xs:List Value)=>put (put (put (put (put (put (put (put (put (emp) 0 (.val (.pointer (some ⟨g,0,none⟩)))) 3 (.val (.int .i64 slack))) 4 (.val (.int .i64 (unit:Int)))) 6 (.box [.slice Ac n cc,.int .i64 r.2.1,.bool f,.slice A1 m1 c1,.slice A2 m2 c2])) 7 (.box [.int .i64 ns,.int .i64 ds,.pointer bs])) 11 (.val (.slice (some ⟨z,0,none⟩) (L.w+1) (L.w+1)))) 22 (.val (.slice Av n cv))) 23 (.val (.int .i64 (n:Int)))) 24 (.val (.int .i64 (k:Int)))) (fun(k:Nat)(xs:List Value) H'=>dJ [g] H H' z xs ((L.w+1)*3) 61∧bg (aZ (rem H' (z :: [g]))) 3 xs (aN (g7 L (fn r.1) sg k) (L.w+1))∧Heap.le (rem H2 (z :: [g])) (rem H' (z :: [g]))∧Heap.le H H'∧k≤n) 0 nQ (⟨dg,by rw[j8 (f:=g7 L (fn r.1) sg 0) (g:=fun _=>0) (fun j _=>rfl)];exact Po _,.refl _,cn.trans ct,Nat.zero_le _⟩) ay ?_)
 rintro k xs H3 ⟨gN,ru,fL,adJ,dC⟩;have cj:=ru.len;rw[cE]at cj;have mA:=vA gN;refine af (ab 1 rfl (ae [0,3,4,6,7,11,22,23,24,25] ?_));refine aq (az rfl (fun hb=> ?_) (fun hb=> ?_))
 ·
  have ew:k<n:=by simpa using hb
  obtain⟨q,gA⟩:∃q,r.1[k]? = some q:=⟨_,List.getElem?_eq_getElem (by omega)⟩;obtain⟨n1,d1,b1,dB,dD⟩:=pA k q gA;have tt:fn r.1 k=q:=iu gA
  have E3:aK q≤N+2:=by
   obtain⟨A9,c9,x9,_,_,_,h9⟩:=lQ;exact bL.size (h9.at_ k q gA)
  obtain⟨up,AH,AI⟩:=vv k _ (YR k ew);obtain⟨um,tg,AJ⟩:=AG k _ (YS k ew)
  cases AI
  cases AJ
  have YU:=rY k ew;have YV:=OF k ew;refine ax (aj [0,3,4,6,7,11,22,23,24] rfl ?_);refine aq (aD (af (ab 1 rfl (cS (vs:=[.int .i64 n1,.int .i64 d1,.pointer b1]) ag rfl rfl rfl rfl ((jn.le fL).le (bn _ _)) rfl (by decide) dD (by omega) (by omega) fun _=>(bD dd rfl (vr 1 ?_))))));obtain⟨ti,ak,al⟩:=bI;refine aM (.inl ⟨rfl,rfl⟩) rfl rfl rfl ak al rfl rfl rfl (ae [0,3,4,6,7,11,12,13,22,23,24] ?_);refine cg .fR [0,1,2,3,4,5,6,7,8,9,10,11,12] follows (by kernel_rfl) ?_;refine ab 3 rfl (a4 ag rfl rfl rfl (aQ ag rfl rfl rfl (gC mA fF) (ab 1 rfl (a9 ag rfl rfl rfl rfl rfl ((jm.le gN.le).le (bn _ _)) (by rw[Int.toNat_natCast];exact AH) (by omega) (by omega) fun _=> ?_))));refine ab 2 rfl (aT rfl rfl (Fn.iM (gN.ne a6) (vh (N:=N+2) (dB.le fL) (hs.le gN.le) E3 (by omega) (by omega))) (fun _ _ h=>by first | exact h.le | exact h.1) ?_);rintro v4 H4 ⟨ey,eZ,n4,d4,b4,rfl,cJ⟩;have nV:=gN.kept ey;rw[←tt]at cJ;obtain⟨ti,ak,al⟩:=bI;refine dP (.inr rfl) ag rfl rfl rfl (by omega) (by omega) (nV.aB) rfl (by show 0+(L.w+1)*3≤xs.length;omega) ak al (fun _=>rfl) rfl rfl rfl fun _=> ?_
  refine ae [0,3,4,6,7,11,12,13,22,23,24] ?_;have nX:dJ [g] H (ins H4 z {(⟨xs,(L.w+1)*3,61,true⟩:aG)with xs:=aC xs (0+((L.pF k:Nat):Int).toNat*3) [.int .i64 n4,.int .i64 d4,.pointer b4]}) z (aC xs (L.pF k*3) [.int .i64 n4,.int .i64 d4,.pointer b4]) ((L.w+1)*3) 61:=nV.set (by rw[Int.toNat_natCast];exact lr)
  have E4:bg (aZ (rem (ins H4 z {(⟨xs,(L.w+1)*3,61,true⟩:aG)with xs:=aC xs (0+((L.pF k:Nat):Int).toNat*3) [.int .i64 n4,.int .i64 d4,.pointer b4]}) (z :: [g]))) 3 (aC xs (L.pF k*3) [.int .i64 n4,.int .i64 d4,.pointer b4]) (aN (ed (g7 L (fn r.1) sg k) (L.pF k) (fn r.1 k*sg)) (L.w+1)):=by
   rw[bZ _ (List.mem_cons_self ..)];exact nU (ru.mono fun vs a=>fi _ _ vs a ey.le) (by omega) cJ
  have fg:Heap.le (rem H2 (z :: [g])) (rem (ins H4 z {(⟨xs,(L.w+1)*3,61,true⟩:aG)with xs:=aC xs (0+((L.pF k:Nat):Int).toNat*3) [.int .i64 n4,.int .i64 d4,.pointer b4]}) (z :: [g])):=by
   rw[bZ _ (List.mem_cons_self ..)];exact fL.trans ey.le
  generalize ins H4 z {(⟨xs,(L.w+1)*3,61,true⟩:aG)with xs:=aC xs (0+((L.pF k:Nat):Int).toNat*3) [.int .i64 n4,.int .i64 d4,.pointer b4]}=H5 at nX E4 fg⊢
  have qi:=vA nX;have Jd:=E4.len;rw[cE]at Jd;refine af (ab 2 rfl (a4 ag rfl rfl rfl (aQ ag rfl rfl rfl (gC qi vH) (ab 1 rfl (a9 ag rfl rfl rfl rfl rfl ((lq.le nX.le).le (bn _ _)) (by rw[Int.toNat_natCast];exact tg) (by omega) (by omega) fun _=> ?_)))));refine ab 1 rfl (ae [0,3,4,6,7,11,12,13,22,23,24,48] ?_);refine az rfl (fun hb=> ?_) (fun hb=> ?_)
  ·
   have hb:0≤L.mZ k:=by simpa using hb
   refine fc .fR [0,1,2,3,4,5,6,7,8,9,10,11,12,13] follows (by kernel_rfl) ?_;refine ab 3 rfl (a4 ag rfl rfl rfl (aQ ag rfl rfl rfl (gC qi vH) (ab 1 rfl (a9 ag rfl rfl rfl rfl rfl ((lq.le nX.le).le (bn _ _)) (by rw[Int.toNat_natCast];exact tg) (by omega) (by omega) fun _=> ?_))));refine ab 2 rfl (aT rfl rfl (Fn.iM (nX.ne a6) (vh (N:=N+2) (dB.le fg) (hs.le nX.le) E3 (by omega) (by omega))) (fun _ _ h=>by first | exact h.le | exact h.1) ?_);rintro v6 H6 ⟨qb,iQ,n6,d6,b6,rfl,ix⟩;have Pp:=nX.kept qb;have GS:=pU q sg;refine aT rfl rfl (Fn.iM (Pp.ne a6) (xn ix (by omega))) (fun _ _ h=>by first | exact h.le | exact h.1) ?_;rintro v7 H7 ⟨tf,fW,n7,d7,b7,rfl,ka⟩;have Pq:=Pp.kept tf;rw[←tt]at ka;obtain⟨ti,ak,al⟩:=bI;refine dP (.inr rfl) ag rfl rfl rfl (by omega) (by omega) (Pq.aB) rfl (by show 0+(L.w+1)*3≤(aC xs (L.pF k*3) [.int .i64 n4,.int .i64 d4,.pointer b4]).length;omega) ak al (fun _=>rfl) rfl rfl rfl fun _=> ?_;refine aA ?_;have Pr:=Pq.set (lr (xs:=aC xs (L.pF k*3) [.int .i64 n4,.int .i64 d4,.pointer b4]) (vs:=[.int .i64 n7,.int .i64 d7,.pointer b7]) (k:=(L.mZ k).toNat) (sz:=3));refine aj [0,3,4,6,7,11,22,23,24] rfl ?_;refine aF rfl (aO rfl rfl ⟨by omega,by omega⟩ ?_)
   refine ab 1 rfl (aA ?_);exact⟨k+1,_,by omega,ay,Pr,by rw[bZ _ (List.mem_cons_self ..),vG,if_pos hb];exact nU (E4.mono fun vs a=>fi _ _ vs a (qb.le.trans tf.le)) (by omega) ka,by rw[bZ _ (List.mem_cons_self ..)];exact(fg.trans qb.le).trans tf.le,Pr.hle,by omega⟩
  ·
   have hb:¬0≤L.mZ k:=by simpa using hb
   refine ax (aj [0,3,4,6,7,11,22,23,24] rfl ?_);refine aF rfl (aO rfl rfl ⟨by omega,by omega⟩ (ab 1 rfl (aA ?_)));exact⟨k+1,_,by omega,ay,nX,by rw[vG,if_neg hb];exact E4,fg,nX.hle,by omega⟩
 ·
  have hb:n≤k:=by simpa using hb
  obtain rfl:n=k:=by omega
  refine bC (aj [0,3,4,6,7,11] rfl ?_);refine oD (fun(ys:List Value)=>put (put (put (put (put (emp) 0 (.val (.pointer (some ⟨g,0,none⟩)))) 4 (.val (.int .i64 (unit:Int)))) 6 (.box [.slice Ac n cc,.int .i64 r.2.1,.bool f,.slice A1 m1 c1,.slice A2 m2 c2])) 7 (.box [.int .i64 ns,.int .i64 ds,.pointer bs])) 11 (.val (.slice (some ⟨z,0,none⟩) (L.w+1) (L.w+1)))) (fun(ys:List Value) H'=>dJ [g] H H' z ys ((L.w+1)*3) 61∧bg (aZ (rem H' (z :: [g]))) 3 ys (aN (oX (g7 L (fn r.1) sg n) r.2.1 slack sg) (L.w+1))) ?_ ?_
  ·
   refine af (ab 2 rfl (ae [0,3,4,6,7,11,64] ?_));refine aD (af (ab 2 rfl (ae [0,3,4,6,7,11,64,65] ?_)));refine az rfl (fun hb=> ?_) (fun hb=> ?_)
   ·
    have hb:r.2.1=1:=by simpa using hb
    have YW:=gw (by omega);refine aF rfl (vr 3 ?_);obtain⟨ti,ak,al⟩:=bI;refine dP (.inl rfl) ag rfl rfl rfl (by omega) (by omega) (gN.aB) rfl (by show 0+(L.w+1)*3≤xs.length;omega) ak al (fun _=>rfl) rfl rfl rfl fun _=> ?_;refine aA ?_;exact⟨_,ay,gN.set lr,by rw[bZ _ (List.mem_cons_self ..)];unfold oX;rw[if_pos hb];exact nU ru (by omega) (hs.le gN.le)⟩
   have hb:¬r.2.1=1:=by simpa using hb
   refine af (ab 2 rfl (ae [0,3,4,6,7,11,71] ?_));refine az rfl (fun hb=> ?_) (fun hb=> ?_)
   ·
    have jD:r.2.1=3:=by simpa using hb
    have hb:¬r.2.1=1:=by omega
    have YW:=gw (by omega);refine aF rfl (ab 3 rfl (au rfl rfl (Fn.iM (gN.ne a6) (xn (hs.le gN.le) (by omega))) ?_));rintro v9 H9 ⟨kB,jI,n9,d9,b9,rfl,nY⟩;have Bq:=gN.kept kB;obtain⟨ti,ak,al⟩:=bI;refine dP (.inl rfl) ag rfl rfl rfl (by omega) (by omega) (Bq.aB) rfl (by show 0+(L.w+1)*3≤xs.length;omega) ak al (fun _=>rfl) rfl rfl rfl fun _=> ?_;refine aA ?_;exact⟨_,ay,Bq.set lr,by rw[bZ _ (List.mem_cons_self ..)];unfold oX;rw[if_neg hb,if_pos jD];exact nU (ru.mono fun vs a=>fi _ _ vs a kB.le) (by omega) nY⟩
   have jD:¬r.2.1=3:=by simpa using hb
   have hb:¬r.2.1=1:=by assumption
   refine ax ?_;exact⟨_,ay,gN,by unfold oX;rw[if_neg hb,if_neg jD];exact ru⟩
  rintro ys H9 ⟨Bq,Ps⟩;have Pt:=Ps.len;rw[cE]at Pt;refine af (ab 2 rfl (au rfl rfl (oP) ?_));rintro v10 ES ⟨YX,rfl⟩;rw[YX];obtain⟨ti,ak,al⟩:=bI;refine dP (.inl rfl) ag rfl rfl rfl (by omega) (by omega) (Bq.aB) rfl (by show 0+(L.w+1)*3≤ys.length;omega) ak al (fun _=>rfl) rfl rfl rfl fun _=> ?_;refine ae [0,6,7,11] ?_;have Br:dJ [g] H (ins H9 z {(⟨ys,(L.w+1)*3,61,true⟩:aG)with xs:=aC ys (0+((unit:Int)).toNat*3) [.int .i64 1,.int .i64 1,.pointer none]}) z (aC ys (unit*3) [.int .i64 1,.int .i64 1,.pointer none]) ((L.w+1)*3) 61:=Bq.set (by rw[Int.toNat_natCast];exact lr)
  have Je:bg (aZ (rem (ins H9 z {(⟨ys,(L.w+1)*3,61,true⟩:aG)with xs:=aC ys (0+((unit:Int)).toNat*3) [.int .i64 1,.int .i64 1,.pointer none]}) (z :: [g]))) 3 (aC ys (unit*3) [.int .i64 1,.int .i64 1,.pointer none]) (aN (ed (oX (g7 L (fn r.1) sg n) r.2.1 slack sg) unit 1) (L.w+1)):=by
   rw[bZ _ (List.mem_cons_self ..)];exact nU Ps (by omega) (oO _ (n:=1) (by decide) (by decide))
  generalize ins H9 z {(⟨ys,(L.w+1)*3,61,true⟩:aG)with xs:=aC ys (0+((unit:Int)).toNat*3) [.int .i64 1,.int .i64 1,.pointer none]}=mT at Br Je⊢
  have E5:=vA Br;have YY:=Je.len;rw[cE]at YY;have Jf:=mB.size;refine cg .fR [0,1,2,3,4,5,6,8,7,9,10,11] follows (by kernel_rfl) ?_;refine ab 3 rfl (a4 ag rfl rfl rfl (aQ ag rfl rfl rfl (Pn E5) (ab 3 rfl (aT rfl rfl (Fn.iM (Br.ne a6) (D4 (mB.le Br.le) (by omega))) (fun _ _ h=>by first | exact h.le | exact h.1) ?_))));rintro Pu dr ⟨E6,yg,n12,d12,b12,rfl,YZ⟩;have vI:=Br.kept E6;refine aT rfl rfl (Fn.iM (vI.ne a6) (vh (N:=N+2) YZ (hs.le vI.le) Jf (by omega) (by omega))) (fun _ _ h=>by first | exact h.le | exact h.1) ?_;rintro Y0 mU ⟨E7,Bs,Pv,d13,Pw,rfl,Y1⟩;have E8:=vI.kept E7;obtain⟨ti,ak,al⟩:=bI;refine dP (.inr rfl) ag rfl rfl rfl (by omega) (by omega) (E8.aB) rfl (by show 0+(L.w+1)*3≤(aC ys (unit*3) [.int .i64 1,.int .i64 1,.pointer none]).length;omega) ak al (fun _=>rfl) rfl rfl rfl fun _=> ?_;refine ae [11] ?_;have rB:dJ [g] H (ins mU z {(⟨aC ys (unit*3) [.int .i64 1,.int .i64 1,.pointer none],(L.w+1)*3,61,true⟩:aG)with xs:=aC (aC ys (unit*3) [.int .i64 1,.int .i64 1,.pointer none]) (0+((L.w:Int)).toNat*3) [.int .i64 Pv,.int .i64 d13,.pointer Pw]}) z (aC (aC ys (unit*3) [.int .i64 1,.int .i64 1,.pointer none]) (L.w*3) [.int .i64 Pv,.int .i64 d13,.pointer Pw]) ((L.w+1)*3) 61:=E8.set (by rw[Int.toNat_natCast];exact lr)
  refine af (ab 2 rfl (ae [10] ?_));refine aw ⟨.inr rfl,_,.tmp rfl (.nil),?_⟩;exact⟨rB.hle,z,_,rfl,rB,by rw[bZ _ (List.mem_cons_self ..)];exact nU (Je.mono fun vs a=>fi _ _ vs a (E6.le.trans E7.le)) (by omega) Y1⟩
end Go.ar
namespace Go.ar
open Go.Proofs Num Lp
def bt(fr:Nat→Bool):Nat→Nat
 | 0=>0
 | k+1=>bt fr k+1+(if fr k then 1 else 0)
def jJ(fr:Nat→Bool)(k:Nat):Int:=if fr k then((bt fr k+1:Nat):Int)else -1
def bh(rel:Nat→Int)(c:Nat):Nat→Nat
 | 0=>c
 | i+1=>bh rel c i+(if rel i=2 then 0 else 1)
def dt(rel:Nat→Int)(c i:Nat):Int:=if rel i=2 then -1 else(bh rel c i:Int)
def kD(b:Rat)(rel:Int):Int:=if b<0∨(b=0∧rel=3)then -1 else 1
def eN(rel s:Int):Bool:=decide ((rel=1∧s=1)∨(rel=3∧s = -1))
def aY(rel sg:Nat→Int)(u:Nat):Nat→Nat
 | 0=>u
 | i+1=>aY rel sg u i+(if eN (rel i) (sg i)then 0 else 1)
def mV(rel sg:Nat→Int)(c u i:Nat):Nat:=if eN (rel i) (sg i)then bh rel c i else aY rel sg u i
theorem yh(b:Rat)(rel:Int):kD b rel=1∨kD b rel = -1:=by unfold kD;split <;> simp
theorem Jg(fr:Nat→Bool)(k:Nat):bt fr k≤2*k:=by
 induction k with
 | zero=>exact Nat.le_refl _
 | succ k ih=>unfold bt;split <;> omega
theorem rC(rel:Nat→Int)(c k:Nat):bh rel c k≤c+k∧c≤bh rel c k:=by
 induction k with
 | zero=>exact⟨Nat.le_refl _,Nat.le_refl _⟩
 | succ k ih=>unfold bh;split <;> omega
theorem tu(rel sg:Nat→Int)(u k:Nat):aY rel sg u k≤u+k∧u≤aY rel sg u k:=by
 induction k with
 | zero=>exact⟨Nat.le_refl _,Nat.le_refl _⟩
 | succ k ih=>unfold aY;split <;> omega
theorem Jh{fr:Nat→Bool}{j k:Nat}(h:j<k):bt fr j+1+(if fr j then 1 else 0)≤bt fr k:=by
 induction k with
 | zero=>omega
 | succ k ih=>
  by_cases e:j=k
  ·subst e;exact Nat.le_refl _
  ·have:=ih (by omega)
   show _≤bt fr k+1+(if fr k then 1 else 0)
   omega
theorem Ji{rel:Nat→Int}{c j k:Nat}(h:j<k):bh rel c j+(if rel j=2 then 0 else 1)≤bh rel c k:=by
 induction k with
 | zero=>omega
 | succ k ih=>
  by_cases e:j=k
  ·subst e;exact Nat.le_refl _
  ·have:=ih (by omega)
   show _≤bh rel c k+(if rel k=2 then 0 else 1)
   omega
theorem Jj{rel sg:Nat→Int}{u j k:Nat}(h:j<k):aY rel sg u j+(if eN (rel j) (sg j)then 0 else 1)≤aY rel sg u k:=by
 induction k with
 | zero=>omega
 | succ k ih=>
  by_cases e:j=k
  ·subst e;exact Nat.le_refl _
  ·have:=ih (by omega)
   show _≤aY rel sg u k+(if eN (rel k) (sg k)then 0 else 1)
   omega
def ints(f:Nat→Int)(k:Nat):List Value:=(List.range k).map fun j=> .int .i64 (f j)
theorem qj(f:Nat→Int)(k:Nat):ints f (k+1)=ints f k ++ [.int .i64 (f k)]:=by
 unfold ints;rw[List.range_succ,List.map_append];rfl
theorem vJ(f:Nat→Int)(k:Nat):(ints f k).length=k:=by simp[ints]
theorem qk{f:Nat→Int}{k i:Nat}(h:i<k):(ints f k)[i]? = some (.int .i64 (f i)):=by simp[ints,h]
theorem bE.ints{K:Heap}{v:Value}{f:Nat→Int}{k:Nat}(h:bE K v 3 1 k (ar.ints f k)):aH vq 1 K v ((List.range k).map f):=by
 obtain⟨A,c,rfl⟩:=h.form
 refine⟨A,c,_,by rw[List.length_map,List.length_range],?_,h.rd,⟨by rw[vJ,List.length_map,List.length_range,Nat.mul_one],fun i z hz=> ?_⟩⟩
 ·rw[List.length_map,List.length_range]
  rcases h.2 with ⟨k1,k2⟩ | ⟨g,cap,k1,_,k3,_⟩
  ·omega
  ·cases k1;exact k3
 ·rw[List.getElem?_map]at hz
  have hi:i<k:=by
   false_or_by_contra
   rw[List.getElem?_eq_none (by rw[List.length_range];omega)]at hz;cases hz
  rw[List.getElem?_range hi]at hz
  cases hz
  rw[HU (qk hi)];rfl
theorem bE.Jk{K:Heap}{v:Value}{f:Nat→Nat}{k:Nat}(h:bE K v 3 1 k (ar.ints (fun j=>(f j:Int)) k)):aH p9 1 K v ((List.range k).map f):=by
 obtain⟨A,c,xs,h1,h2,h3,h4⟩:=bE.ints h
 rw[List.length_map,List.length_range]at h1 h2
 refine⟨A,c,xs,by rw[List.length_map,List.length_range];exact h1,by rw[List.length_map,List.length_range];exact h2,h3,⟨by rw[h4.len,List.length_map,List.length_map],fun i z hz=> ?_⟩⟩
 rw[List.getElem?_map]at hz
 cases hr:(List.range k)[i]? with
 | none=>rw[hr]at hz;cases hz
 | some j=>
  rw[hr]at hz
  cases hz
  exact h4.at_ i (f j:Int) (by rw[List.getElem?_map,hr];rfl)
def vK(v v':Value):Prop:=∀q,v.ownBlock=some q→v'.ownBlock≠some q
theorem vK.symm{v v':Value}(h:vK v v'):vK v' v:=fun q h1 h2=>h q h2 h1
structure jq(K0:Heap)(jC:Value)(e sz n:Nat)(xs:List Value)(v:Value)(K:Heap):Prop where
 own:bE K v e sz n xs
 le:Heap.le K0 K
 new:∀q,v.ownBlock=some q→jC.ownBlock=some q∨K0 q=none
 ia:∀(v':Value)(e' dS n':Nat)(mh:List Value),bE K0 v' e' dS n' mh→vK jC v'→bE K v' e' dS n' mh∧vK v v'
theorem bE.lift{H:Heap}{gs:List Nat}{v:Value}{e sz n:Nat}{xs:List Value}(h:bE (rem H gs) v e sz n xs):bE H v e sz n xs∧∀q,q∈gs→v.ownBlock≠some q:=by
 have h2:∀q,q∈gs→v.ownBlock≠some q:=fun q hq hv=>by
  obtain⟨en,he⟩:=h.block hv
  rw[rem_in hq]at he;cases he
 exact⟨h.same fun q hq=>(bo (fun hm=>h2 q hm hq)).symm,h2⟩
theorem l6{H1 H3:Heap}{gs:List Nat}{jC v3:Value}{e sz n0 n gb:Nat}{nQ xs:List Value}{en:aG}(a6:∀q,q∈gs→H1 q≠none)(bH:H1 gb=none)(ho:bE (rem H1 gs) jC e sz n0 nQ)(ha:App (ins H1 gb en) jC e sz n xs v3 H3):
  jq (rem H1 gs) jC e sz n xs v3 (rem H3 gs)∧∀q,q∈gs→H3 q=H1 q:=by
 obtain⟨hl,hh⟩:=ho.lift
 have E9:¬gb∈gs:=fun h=>a6 gb h bH
 have rh:∀q,q∈gs→ins H1 gb en q≠none:=fun q hq=>by rw[bA _ _ (fun e=>E9 (by rw[←e];exact hq))];exact a6 q hq
 obtain⟨kn,hs⟩:=ha.rem rh hh
 rw[qZ _ E9]at kn
 have hK:rem H1 gs gb=none:=by rw[bo E9];exact bH
 refine⟨⟨kn.own,(Heap.a0 _ hK).trans kn.le,fun q hq=>(by
  rcases kn.at_ with h4 | ⟨g',h4,h5⟩
  ·exact .inl (by rw[←h4];exact hq)
  ·rw[h4]at hq
   cases hq
   exact .inr (uJ h5).2),fun v' e' dS n' mh h' Fa=> ?_⟩,fun q hq=>by rw[hs q hq,bA _ _ (fun e=>E9 (by rw[←e];exact hq))]⟩
 have h1:bE (ins (rem H1 gs) gb en) v' e' dS n' mh:=h'.ins _ hK
 refine⟨h1.same fun q hq=> ?_,fun q h2 h3=> ?_⟩
 ·obtain⟨Fb,Bt⟩:=h1.block hq
  rw[kn.same q Fb Bt (fun h=>Fa q h hq),Bt]
 ·rcases kn.at_ with h4 | ⟨g',h4,h5⟩
  ·exact Fa q (by rw[←h4];exact h2) h3
  ·rw[h4]at h2
   cases h2
   obtain⟨Fb,Bt⟩:=h1.block h3
   rw[h5]at Bt;cases Bt
def nZ(a1:Addr)(v1:Value)(a2:Addr)(v2:Value)(ad:Addr):Option Value:=if ad=a1 then some v1 else if ad=a2 then some v2 else none
theorem iR{a1 a2:Addr}{v1 v2:Value}{H:Heap}(h1:cell H a1=some v1)(h2:cell H a2=some v2):(Mode.dR (nZ a1 v1 a2 v2)).og H:=fun ad v h=>by
 have h':nZ a1 v1 a2 v2 ad=some v:=h
 unfold nZ at h'
 split at h'
 ·rename_i e;rw[e,h1];exact h'
 ·split at h'
  ·rename_i e;rw[e,h2];exact h'
  ·cases h'
theorem ql{a1 a2:Addr}{v1 v2:Value}:nZ a1 v1 a2 v2 a1=some v1:=by simp[nZ]
theorem Bu{a1 a2:Addr}{v1 v2:Value}(h:a2≠a1):nZ a1 v1 a2 v2 a2=some v2:=by simp[nZ,h]
theorem Bv{g g' o o':Nat}(h:g≠g'):(⟨g,o,none⟩:Addr)≠⟨g',o',none⟩:=fun e=>h (by cases e;rfl)
def mW(_:Heap)(vs:List Value)(b:Bool):Prop:=vs = [.bool b]
theorem qm:Up mW:=fun _ _ _ _ _ h=>h
def dE(N:Nat)(H:Heap)(v:Value)(p:Prg):Prop:=∃fv rv,v = .agg #[fv,rv]∧aH mW 1 H fv p.free∧aH (ez N) 5 H rv p.rows
theorem dE.le{N:Nat}{H H':Heap}{v:Value}{p:Prg}(h:dE N H v p)(hl:Heap.le H H'):dE N H' v p:=by
 obtain⟨fv,rv,h1,h2,h3⟩:=h
 exact⟨fv,rv,h1,h2.le qm hl,h3.le (fO N) hl⟩
section
variable (p:Prg)
abbrev _root_.Lp.Prg.aL(i:Nat):Int:=kD (p.lp.b i) (p.lp.rel i)
abbrev _root_.Lp.Prg.c1:Nat:=bt p.lp.free p.lp.n
abbrev _root_.Lp.Prg.u:Nat:=bh p.lp.rel p.c1 p.lp.m
abbrev _root_.Lp.Prg.w:Nat:=aY p.lp.rel p.aL p.u p.lp.m
abbrev _root_.Lp.Prg.unit(i:Nat):Nat:=mV p.lp.rel p.aL p.c1 p.u i
def _root_.Lp.Prg.lay:TL:=⟨p.w,p.u,(List.range p.lp.n).map (bt p.lp.free),(List.range p.lp.n).map (jJ p.lp.free),(List.range p.lp.m).map p.unit,aN (fun i=>(p.aL i:Rat)) p.lp.m⟩
def _root_.Lp.Prg.ee:ao:=⟨p.lp.m,p.w,fun i=>EJ p.lay p.lp.n (p.lp.a i) (p.lp.b i) (p.lp.rel i) (dt p.lp.rel p.c1 i) (p.unit i) (p.aL i:Rat),fun _=>0,p.unit⟩
end
end Go.ar
namespace Go.ar
theorem qn{H:Heap}{gv g:Nat}{e:aG}{v:Value}(h:cell H ⟨gv,0,none⟩=some v)(a6:gv≠g):cell (ins H g e) ⟨gv,0,none⟩=some v:=by
 simp only[cell,bA _ _ a6]at h⊢;exact h
theorem rD(z:Int):∀u,u∈[Value.int .i64 z]→u.oneCell'=true:=fun u hu=>by rw[List.mem_singleton]at hu;rw[hu];rfl
theorem ints_set{f:Nat→Int}{m i:Nat}{z:Int}:(ints f m).set i (.int .i64 z)=ints (fun j=>if j=i then z else f j) m:=by
 apply List.ext_getElem?
 intro j
 by_cases hj:j<m
 ·by_cases e:j=i
  ·subst e
   rw[List.getElem?_set_self (by rw[vJ];exact hj),qk hj,if_pos rfl]
  ·rw[List.getElem?_set_ne (fun e'=>e e'.symm),qk hj,qk hj,if_neg e]
 ·rw[List.getElem?_eq_none (by rw[List.length_set,vJ];omega),List.getElem?_eq_none (by rw[vJ];omega)]
theorem Jl{f g:Nat→Int}{m:Nat}(h:∀j,j<m→f j=g j):ints f m=ints g m:=by
 unfold ints
 apply List.map_congr_left
 intro j hj
 rw[h j (List.mem_range.1 hj)]
theorem aH.row{N:Nat}{H:Heap}{v:Value}{l:List (List Rat×Int×Rat)}(h:aH (ez N) 5 H v l):∃A c xs,v = .slice A l.length c∧Rd H A xs∧∀(i:Nat)(r:List Rat×Int×Rat),l[i]? = some r→∃A0 c0 f A1 m1 c1 A2 m2 c2,ez N H [.slice A0 r.1.length c0,.int .i64 r.2.1,.bool f,.slice A1 m1 c1,.slice A2 m2 c2] r∧∀(j:Nat)(u:Value),[.slice A0 r.1.length c0,.int .i64 r.2.1,.bool f,.slice A1 m1 c1,.slice A2 m2 c2][j]? = some u→xs[i*5+j]? = some u:=by
 obtain⟨A,c,xs,h1,_,h3,h4⟩:=h
 refine⟨A,c,xs,h1,h3,fun i r hr=> ?_⟩
 obtain⟨vs,_,h5,h6⟩:=h4.get hr
 obtain⟨A0,c0,k,f,A1,m1,c1,A2,m2,c2,rfl,rfl⟩:=h5.cells
 exact⟨A0,c0,f,A1,m1,c1,A2,m2,c2,h5,h6⟩
theorem ez.bound{N:Nat}{H:Heap}{r:List Rat×Int×Rat}{v0:Value}{f:Bool}{u w:Value}(h:ez N H [v0,.int .i64 r.2.1,.bool f,u,w] r):bL H (.agg #[.bool f,u,w]) r.2.2 N:=by
 obtain⟨c,f',u',w',h1,_,h3⟩:=h
 simp only[List.cons.injEq,Value.bool.injEq,and_true,true_and]at h1
 obtain⟨rfl,rfl,rfl,rfl⟩:=h1
 exact h3
end Go.ar
namespace Go.ar
def aB(v:Value):List Nat:=match v.ownBlock with | some q=>[q] | none=>[]
theorem du{v:Value}{q:Nat}:q∈aB v↔v.ownBlock=some q:=by
 unfold aB
 cases h:v.ownBlock with
 | none=>simp
 | some q'=>simp;exact eq_comm
theorem Y2{H H':Heap}{gs:List Nat}{v:Value}{e sz n:Nat}{xs:List Value}(h:Kept (aB v++gs) H H')(ho:bE (rem H gs) v e sz n xs):bE (rem H' gs) v e sz n xs∧Heap.le (rem H gs) (rem H' gs)∧∀q,q∈gs→H' q=H q:=by
 have hs:∀q,q∈aB v++gs→H' q=H q:=h.same
 have hv:=ho.lift.2
 refine⟨ho.same fun q hq=> ?_,fun q en hq=> ?_,fun q hq=>hs q (List.mem_append_right _ hq)⟩
 ·have:¬q∈gs:=fun hm=>hv q hm hq
  rw[bo this,bo this,hs q (List.mem_append_left _ (du.2 hq))]
 ·by_cases hb:q∈aB v
  ·by_cases hm:q∈gs
   ·rw[rem_in hm]at hq;cases hq
   ·rw[bo hm]at hq
    exact⟨en,by rw[bo hm,hs q (List.mem_append_left _ hb)];exact hq,.refl en⟩
  ·by_cases hm:q∈gs
   ·rw[rem_in hm]at hq;cases hq
   ·have hn:¬q∈aB v++gs:=fun h=>by
     rcases List.mem_append.1 h with h | h
     ·exact hb h
     ·exact hm h
    obtain⟨e',h1,h2⟩:=h.le q en (by rw[bo hn];rwa [bo hm]at hq)
    exact⟨e',by rw[bo hm];rwa [bo hn]at h1,h2⟩
theorem Y3{H:Heap}{gs:List Nat}{v:Value}{e sz n:Nat}{xs:List Value}(a6:∀q,q∈gs→H q≠none)(ho:bE (rem H gs) v e sz n xs):∀q,q∈aB v++gs→H q≠none:=fun q hq=>by
 rcases List.mem_append.1 hq with h | h
 ·obtain⟨en,he⟩:=ho.lift.1.block (du.1 h)
  rw[he];simp
 ·exact a6 q h
theorem Px{K:Heap}{v:Value}{e sz n:Nat}{xs:List Value}(h:bE K v e sz n xs)(hn:0<n):∃q c,v = .slice (some ⟨q,0,none⟩) n c∧K q=some ⟨xs,c*sz,e,true⟩:=by
 rcases h.2 with ⟨_,h2⟩ | ⟨g,cap,h1,h2,_⟩
 ·omega
 ·exact⟨g,cap,h1,h2⟩
theorem Y4{H H':Heap}{gs b:List Nat}(h:Heap.le H (rem H' gs))(hb:∀q,q∈b→H q=none):Heap.le H (rem H' (b++gs)):=fun q e hq=>by
 obtain⟨e',h1,h2⟩:=h q e hq
 have hm:¬q∈gs:=fun hm=>by rw[rem_in hm]at h1;cases h1
 refine⟨e',?_,h2⟩
 rw[bo (fun h3=>by
  rcases List.mem_append.1 h3 with h3 | h3
  ·rw[hb q h3]at hq;cases hq
  ·exact hm h3)]
 rwa [bo hm]at h1
theorem le_none{H K:Heap}(h:Heap.le H K){q:Nat}(hq:K q=none):H q=none:=by
 cases hh:H q with
 | none=>rfl
 | some e=>(obtain⟨e',h1,_⟩:=h q e hh;rw[hq]at h1;cases h1)
theorem jq.aB{K0 K H:Heap}{jC v:Value}{e sz n:Nat}{xs:List Value}(h:jq K0 jC e sz n xs v K)(hl:Heap.le H K0)(hb:∀q,q∈ar.aB jC→H q=none):∀q,q∈ar.aB v→H q=none:=fun q hq=>by
 rcases h.new q (du.1 hq)with h1 | h1
 ·exact hb q (du.2 h1)
 ·exact le_none hl h1
end Go.ar
namespace Go.ar
open Go.Proofs Num Lp
def dK(rg:List (Nat×Nat))(bv:Value)(gk g:Nat):List Nat:=rg.map (·.1)++(aB bv ++ [gk,g])
def ke(rg:List (Nat×Nat))(gk g:Nat):List Nat:=rg.map (·.1) ++ [gk,g]
def kf(rv:Value)(rg:List (Nat×Nat))(bv:Value)(gk:Nat):List Nat:=aB rv++(rg.map (·.1)++(aB bv ++ [gk]))
def Jm(w:Nat)(p:Nat×Nat):Value:= .slice (some ⟨p.1,0,none⟩) (w+1) p.2
theorem dW{rg:List (Nat×Nat)}{bv:Value}{gk g q:Nat}:q∈dK rg bv gk g↔q∈rg.map (·.1)∨q∈aB bv∨q=gk∨q=g:=by
 unfold dK;simp only[List.mem_append,List.mem_cons,List.not_mem_nil,or_false]
theorem mX{rg:List (Nat×Nat)}{gk g q:Nat}:q∈ke rg gk g↔q∈rg.map (·.1)∨q=gk∨q=g:=by
 unfold ke;simp only[List.mem_append,List.mem_cons,List.not_mem_nil,or_false]
theorem oY{rg:List (Nat×Nat)}{rv bv:Value}{gk q:Nat}:q∈kf rv rg bv gk↔q∈aB rv∨q∈rg.map (·.1)∨q∈aB bv∨q=gk:=by
 unfold kf;simp only[List.mem_append,List.mem_cons,List.not_mem_nil,or_false]
structure fP(K:Heap)(g gk w:Nat)(A:Nat→Nat→Rat)(unit:Nat→Nat)(H:Heap)(rv:Value)(k:Nat)(hd:List Value)(bv:Value)(kb:Nat)(rg:List (Nat×Nat)):Prop where
 ne:∀q,q∈dK rg bv gk g→H q≠none
 nd:(dK rg bv gk g).Nodup
 le:Heap.le K (rem H (dK rg bv gk g))
 tv:bE (rem H (dK rg bv gk g)) rv 56 1 k hd
 Fc:∀q,q∈aB rv→K q=none
 Bw:bE H bv 3 1 kb (ints (fun j=>(unit j:Int)) kb)
 row:∀(j:Nat)(p:Nat×Nat),rg[j]? = some p→iL (rem H (dK rg bv gk g)) H p.1 (aN (A j) (w+1))
section
variable {K:Heap} {g gk w:Nat} {A:Nat→Nat→Rat} {unit:Nat→Nat} {H H2:Heap} {rv:Value} {k:Nat} {hd:List Value} {bv:Value} {kb:Nat} {rg:List (Nat×Nat)}
theorem fP.Bx(h:fP K g gk w A unit H rv k hd bv kb rg):∀q,q∈aB rv→¬q∈dK rg bv gk g∧H q≠none:=fun q hq=>by
 have h1:=h.tv.lift
 refine⟨fun hm=>h1.2 q hm (du.1 hq),?_⟩
 obtain⟨e,he⟩:=h1.1.block (du.1 hq)
 rw[he];simp
theorem fP.Y5(h:fP K g gk w A unit H rv k hd bv kb rg):∀q,q∈kf rv rg bv gk→H q≠none:=fun q hq=>by
 rcases oY.1 hq with h1 | h1 | h1 | h1
 ·exact(h.Bx q h1).2
 ·exact h.ne q (dW.2 (.inl h1))
 ·exact h.ne q (dW.2 (.inr (.inl h1)))
 ·exact h.ne q (dW.2 (.inr (.inr (.inl h1))))
theorem By{rg:List (Nat×Nat)}{bv:Value}{gk g:Nat}(h:(dK rg bv gk g).Nodup):¬g∈rg.map (·.1)∧¬g∈aB bv∧gk≠g∧(∀q,q∈aB bv→¬q∈rg.map (·.1)∧q≠gk)∧¬gk∈rg.map (·.1):=by
 unfold dK at h
 rw[List.nodup_append,List.nodup_append]at h
 obtain⟨_,⟨_,h2,h3⟩,h4⟩:=h
 have h5:gk≠g:=by
  rw[List.nodup_cons]at h2
  exact fun e=>h2.1 (by rw[e];exact List.mem_singleton.2 rfl)
 refine⟨fun hm=>h4 g hm g (by simp) rfl,fun hm=>h3 g hm g (by simp) rfl,h5,fun q hq=>⟨fun hm=>h4 q hm q (List.mem_append_left _ hq) rfl,fun e=>h3 q hq gk (by simp) e⟩,fun hm=>h4 gk hm gk (by simp) rfl⟩
theorem fP.gR(h:fP K g gk w A unit H rv k hd bv kb rg):¬g∈kf rv rg bv gk:=fun hm=>by
 obtain⟨n1,n2,n3,_⟩:=By h.nd
 rcases oY.1 hm with h1 | h1 | h1 | h1
 ·exact(h.Bx g h1).1 (dW.2 (.inr (.inr (.inr rfl))))
 ·exact n1 h1
 ·exact n2 h1
 ·exact n3 h1.symm
theorem fP.Y6(h:fP K g gk w A unit H rv k hd bv kb rg){z c:Nat}{xs:List Value}{sz:Nat}(hs:∀q,q∈kf rv rg bv gk→H2 q=H q)(g0:dJ [g] (rem H (kf rv rg bv gk)) (rem H2 (kf rv rg bv gk)) z xs sz 61)
  (jG:bg (aZ (rem (rem H2 (kf rv rg bv gk)) (z :: [g]))) 3 xs (aN (A rg.length) (w+1))):fP K g gk w A unit H2 rv k hd bv kb (rg ++ [(z,c)])∧H2 g=H g∧H2 gk=H gk:=by
 have Py:=h.gR
 have dN:H2 g=H g:=by
  have:=g0.same g (List.mem_singleton.2 rfl)
  rwa [bo Py,bo Py]at this
 have Pz:H2 gk=H gk:=hs gk (oY.2 (.inr (.inr (.inr rfl))))
 have PA:¬z∈kf rv rg bv gk:=fun hm=>by have:=g0.aB;rw[rem_in hm]at this;cases this
 have kX:H2 z=some ⟨xs,sz,61,true⟩:=by have:=g0.aB;rwa [bo PA]at this
 have rp:H z=none:=by have:=g0.zn;rwa [bo PA]at this
 have O5:z≠g:=fun e=>g0.zg (List.mem_singleton.2 e)
 have PB:¬z∈dK rg bv gk g:=fun hm=>h.ne z hm rp
 have pE:∀q,q∈dK (rg ++ [(z,c)]) bv gk g↔q=z∨q∈dK rg bv gk g:=fun q=>by
  rw[dW,dW,List.map_append,List.mem_append]
  simp only[List.map_cons,List.map_nil,List.mem_singleton]
  constructor
  ·rintro((h | h) | h | h | h)
   ·exact .inr (.inl h)
   ·exact .inl h
   ·exact .inr (.inr (.inl h))
   ·exact .inr (.inr (.inr (.inl h)))
   ·exact .inr (.inr (.inr (.inr h)))
  ·rintro(h | h | h | h | h)
   ·exact .inl (.inr h)
   ·exact .inl (.inl h)
   ·exact .inr (.inl h)
   ·exact .inr (.inr (.inl h))
   ·exact .inr (.inr (.inr h))
 have Jn:∀q,q∈dK rg bv gk g→H2 q=H q:=fun q hq=>by
  rcases dW.1 hq with h1 | h1 | h1 | h1
  ·exact hs q (oY.2 (.inr (.inl h1)))
  ·exact hs q (oY.2 (.inr (.inr (.inl h1))))
  ·rw[h1];exact Pz
  ·rw[h1];exact dN
 have jn:∀q,q∈aB rv→H2 q=H q:=fun q hq=>hs q (oY.2 (.inl hq))
 have hle:Heap.le (rem H (dK rg bv gk g)) (rem H2 (dK (rg ++ [(z,c)]) bv gk g)):=fun q e hq=>by
  have hm:¬q∈dK rg bv gk g:=fun hm=>by rw[rem_in hm]at hq;cases hq
  rw[bo hm]at hq
  have Fe:q≠z:=fun e'=>by rw[e',rp]at hq;cases hq
  have kZ:¬q∈dK (rg ++ [(z,c)]) bv gk g:=fun kZ=>by
   rcases(pE q).1 kZ with h1 | h1
   ·exact Fe h1
   ·exact hm h1
  by_cases hb:q∈aB rv
  ·exact⟨e,by rw[bo kZ,jn q hb];exact hq,.refl e⟩
  ·have hR:¬q∈kf rv rg bv gk:=fun hR=>by
    rcases oY.1 hR with h1 | h1 | h1 | h1
    ·exact hb h1
    ·exact hm (dW.2 (.inl h1))
    ·exact hm (dW.2 (.inr (.inl h1)))
    ·exact hm (dW.2 (.inr (.inr (.inl h1))))
   have zE:q≠g:=fun e'=>hm (dW.2 (.inr (.inr (.inr e'))))
   obtain⟨e',h1,h2⟩:=g0.le q e (by rw[bo (fun h'=>zE (List.mem_singleton.1 h')),bo hR];exact hq)
   have Y7:¬q∈z :: [g]:=fun h'=>by
    rcases List.mem_cons.1 h' with h' | h'
    ·exact Fe h'
    ·exact zE (List.mem_singleton.1 h')
   rw[bo Y7,bo hR]at h1
   exact⟨e',by rw[bo kZ];exact h1,h2⟩
 have Y8:Heap.le (rem (rem H2 (kf rv rg bv gk)) (z :: [g])) (rem H2 (dK (rg ++ [(z,c)]) bv gk g)):=fun q e hq=>by
  have h1:¬q∈z :: [g]:=fun h'=>by rw[rem_in h']at hq;cases hq
  rw[bo h1]at hq
  have h2:¬q∈kf rv rg bv gk:=fun h'=>by rw[rem_in h']at hq;cases hq
  rw[bo h2]at hq
  refine⟨e,?_,.refl e⟩
  rw[bo]
  ·exact hq
  ·intro h3
   rcases(pE q).1 h3 with h4 | h4
   ·exact h1 (by rw[h4];exact List.mem_cons_self ..)
   ·rcases dW.1 h4 with h5 | h5 | h5 | h5
    ·exact h2 (oY.2 (.inr (.inl h5)))
    ·exact h2 (oY.2 (.inr (.inr (.inl h5))))
    ·exact h2 (oY.2 (.inr (.inr (.inr h5))))
    ·exact h1 (by rw[h5];exact List.mem_cons_of_mem _ (List.mem_singleton.2 rfl))
 refine⟨⟨fun q hq=> ?_,?_,h.le.trans hle,h.tv.same fun q hq=> ?_,h.Fc,h.Bw.same fun q hq=>Jn q (dW.2 (.inr (.inl (du.2 hq)))),fun j p hp=> ?_⟩,dN,Pz⟩
 ·rcases(pE q).1 hq with h1 | h1
  ·rw[h1,kX];simp
  ·rw[Jn q h1];exact h.ne q h1
 ·have gT:=h.nd
  unfold dK at gT⊢
  rw[List.map_append,List.append_assoc,List.nodup_append]at *
  refine⟨gT.1,?_,fun a ha b hb=> ?_⟩
  ·simp only[List.map_cons,List.map_nil,List.singleton_append,List.nodup_cons]
   exact⟨fun hm=>PB (by unfold dK;exact List.mem_append_right _ hm),gT.2.1⟩
  ·simp only[List.map_cons,List.map_nil,List.singleton_append,List.mem_cons]at hb
   rcases hb with hb | hb
   ·intro e
    exact PB (by unfold dK;rw[←hb,←e];exact List.mem_append_left _ ha)
   ·exact gT.2.2 a ha b (by simpa using hb)
 ·have h1:=h.Bx q (du.2 hq)
  have Fe:q≠z:=fun e=>h1.2 (by rw[e];exact rp)
  rw[bo h1.1,bo (fun h2=>by
   rcases(pE q).1 h2 with h3 | h3
   ·exact Fe h3
   ·exact h1.1 h3),jn q (du.2 hq)]
 ·by_cases hj:j<rg.length
  ·rw[List.getElem?_append_left hj]at hp
   exact(h.row j p hp).le hle (Jn _ (dW.2 (.inl (List.mem_map.2 ⟨p,List.mem_of_getElem? hp,rfl⟩))))
  ·rw[List.getElem?_append_right (by omega)]at hp
   have Y9:j-rg.length=0:=by
    have:=(List.getElem?_eq_some_iff.1 hp).1
    simp at this;omega
   rw[Y9]at hp
   simp only[List.getElem?_cons_zero,Option.some.injEq]at hp
   subst hp
   have:j=rg.length:=by omega
   rw[this]
   exact⟨xs,sz,kX,jG.mono fun vs a=>fi _ _ vs a Y8⟩
theorem fP.Za(h:fP K g gk w A unit H rv k hd bv kb rg){PC:Value}{k':Nat}{jO:List Value}(hG:jq (rem H (dK rg bv gk g)) rv 56 1 k' jO PC (rem H2 (dK rg bv gk g)))(hs:∀q,q∈dK rg bv gk g→q≠g→H2 q=H q)(hg:H2 g≠none):fP K g gk w A unit H2 PC k' jO bv kb rg:=by
 obtain⟨n1,n2,n3,n4,n5⟩:=By h.nd
 refine⟨fun q hq=> ?_,h.nd,h.le.trans hG.le,hG.own,hG.aB h.le h.Fc,h.Bw.same fun q hq=> ?_,fun j p hp=> ?_⟩
 ·by_cases e:q=g
  ·rw[e];exact hg
  ·rw[hs q hq e];exact h.ne q hq
 ·have:=du.2 hq
  exact hs q (dW.2 (.inr (.inl this))) (fun e=>n2 (by rw[←e];exact this))
 ·have hm:p.1∈rg.map (·.1):=List.mem_map.2 ⟨p,List.mem_of_getElem? hp,rfl⟩
  exact(h.row j p hp).le hG.le (hs _ (dW.2 (.inl hm)) (fun e=>n1 (by rw[←e];exact hm)))
theorem fP.Zb(h:fP K g gk w A unit H rv k hd bv kb rg){Bz:Value}(hG:jq (rem H (ke rg gk g)) bv 3 1 (kb+1) (ints (fun j=>(unit j:Int)) (kb+1)) Bz (rem H2 (ke rg gk g)))(hs:∀q,q∈ke rg gk g→q≠g→H2 q=H q)(hg:H2 g≠none):fP K g gk w A unit H2 rv k hd Bz (kb+1) rg:=by
 obtain⟨n1,n2,n3,n4,n5⟩:=By h.nd
 have Jo:∀q,q∈ke rg gk g→q∈dK rg bv gk g:=fun q hq=>by
  rcases mX.1 hq with h1 | h1 | h1
  ·exact dW.2 (.inl h1)
  ·exact dW.2 (.inr (.inr (.inl h1)))
  ·exact dW.2 (.inr (.inr (.inr h1)))
 have PD:∀q,q∈ke rg gk g→H2 q≠none:=fun q hq=>by
  by_cases e:q=g
  ·rw[e];exact hg
  ·rw[hs q hq e];exact h.ne q (Jo q hq)
 have tN:=hG.own.lift
 have Jp:∀q,q∈aB Bz→¬q∈ke rg gk g:=fun q hq hm=>tN.2 q hm (du.1 hq)
 have Zc:∀q,q∈aB Bz→q∈aB bv∨H q=none:=fun q hq=>by
  rcases hG.new q (du.1 hq)with h1 | h1
  ·exact .inl (du.2 h1)
  ·exact .inr (by rwa [bo (Jp q hq)]at h1)
 have hle:Heap.le (rem H (dK rg bv gk g)) (rem H2 (dK rg Bz gk g)):=fun q e hq=>by
  have hm:¬q∈dK rg bv gk g:=fun hm=>by rw[rem_in hm]at hq;cases hq
  rw[bo hm]at hq
  have hJ:¬q∈ke rg gk g:=fun h1=>hm (Jo q h1)
  obtain⟨e',h1,h2⟩:=hG.le q e (by rw[bo hJ];exact hq)
  rw[bo hJ]at h1
  refine⟨e',?_,h2⟩
  rw[bo]
  ·exact h1
  ·intro h3
   rcases dW.1 h3 with h4 | h4 | h4
   ·exact hm (dW.2 (.inl h4))
   ·rcases Zc q h4 with h5 | h5
    ·exact hm (dW.2 (.inr (.inl h5)))
    ·rw[h5]at hq;cases hq
   ·exact hm (dW.2 (.inr (.inr h4)))
 have Zd:bE (rem H (ke rg gk g)) rv 56 1 k hd:=h.tv.same fun q hq=>by
  have h1:=(h.Bx q (du.2 hq)).1
  rw[bo h1,bo (fun h2=>h1 (Jo q h2))]
 have Fa:vK bv rv:=fun q h1 h2=>(h.Bx q (du.2 h2)).1 (dW.2 (.inr (.inl (du.2 h1))))
 obtain⟨xZ,Jq⟩:=hG.ia _ _ _ _ _ Zd Fa
 refine⟨fun q hq=> ?_,?_,h.le.trans hle,xZ.same fun q hq=> ?_,h.Fc,tN.1,fun j p hp=> ?_⟩
 ·rcases dW.1 hq with h1 | h1 | h1
  ·exact PD q (mX.2 (.inl h1))
  ·obtain⟨e,he⟩:=tN.1.block (du.1 h1)
   rw[he];simp
  ·exact PD q (mX.2 (.inr h1))
 ·have gT:=h.nd
  unfold dK at gT⊢
  rw[List.nodup_append,List.nodup_append]at *
  refine⟨gT.1,⟨?_,gT.2.1.2.1,fun a ha b hb e=> ?_⟩,fun a ha b hb e=> ?_⟩
  ·unfold aB;split <;> simp
  ·refine Jp a ha (mX.2 (.inr ?_))
   rw[e];simpa using hb
  ·rcases List.mem_append.1 hb with h1 | h1
   ·exact Jp b h1 (mX.2 (.inl (by rw[←e];exact ha)))
   ·exact gT.2.2 a ha b (List.mem_append_right _ h1) e
 ·have h1:¬q∈ke rg gk g:=fun h1=>xZ.lift.2 q h1 hq
  rw[bo h1,bo]
  intro h2
  rcases dW.1 h2 with h3 | h3 | h3
  ·exact h1 (mX.2 (.inl h3))
  ·exact Jq q (du.1 h3) hq
  ·exact h1 (mX.2 (.inr h3))
 ·have hm:p.1∈rg.map (·.1):=List.mem_map.2 ⟨p,List.mem_of_getElem? hp,rfl⟩
  exact(h.row j p hp).le hle (hs _ (mX.2 (.inl hm)) (fun e=>n1 (by rw[←e];exact hm)))
theorem fP.PE(h:fP K g gk w A unit H rv k hd bv kb rg):bE (rem H (ke rg gk g)) bv 3 1 kb (ints (fun j=>(unit j:Int)) kb):=by
 obtain⟨n1,n2,n3,n4,n5⟩:=By h.nd
 refine h.Bw.same fun q hq=> ?_
 have hb:=du.2 hq
 rw[bo]
 intro h1
 rcases mX.1 h1 with h2 | h2 | h2
 ·exact(n4 q hb).1 h2
 ·exact(n4 q hb).2 h2
 ·exact n2 (by rw[←h2];exact hb)
theorem fP.Ze(h:fP K g gk w A unit H rv k hd bv kb rg):Heap.le K (rem (rem H (kf rv rg bv gk)) [g]):=fun q e hq=>by
 obtain⟨e',h1,h2⟩:=h.le q e hq
 have hm:¬q∈dK rg bv gk g:=fun hm=>by rw[rem_in hm]at h1;cases h1
 rw[bo hm]at h1
 refine⟨e',?_,h2⟩
 rw[bo (fun h3=>hm (dW.2 (.inr (.inr (.inr (List.mem_singleton.1 h3)))))),bo]
 ·exact h1
 ·intro h3
  rcases oY.1 h3 with h4 | h4 | h4 | h4
  ·rw[h.Fc q h4]at hq;cases hq
  ·exact hm (dW.2 (.inl h4))
  ·exact hm (dW.2 (.inr (.inl h4)))
  ·exact hm (dW.2 (.inr (.inr (.inl h4))))
end
end Go.ar
namespace Go.ar
open Go.Proofs Num Lp
section
variable (p:Prg)
theorem vL{j:Nat}(h:j<p.lp.n):p.lay.pF j=bt p.lp.free j:=by
 simp[TL.pF,Prg.lay,List.getD,h]
theorem BA{j:Nat}(h:j<p.lp.n):p.lay.mZ j=jJ p.lp.free j:=by
 simp[TL.mZ,Prg.lay,List.getD,h]
theorem oZ:p.c1≤p.u:=(rC p.lp.rel p.c1 p.lp.m).2
theorem jr:p.u≤p.w:=(tu p.lp.rel p.aL p.u p.lp.m).2
theorem Ff{j:Nat}(h:j<p.lp.n):bt p.lp.free j<p.c1:=by
 have:=Jh (fr:=p.lp.free) h
 have e:p.c1=bt p.lp.free p.lp.n:=rfl
 omega
theorem yi{j:Nat}(h:j<p.lp.n):jJ p.lp.free j<p.c1:=by
 have:=Jh (fr:=p.lp.free) h
 have e:p.c1=bt p.lp.free p.lp.n:=rfl
 unfold jJ
 by_cases hf:p.lp.free j
 ·rw[if_pos hf]at this⊢;omega
 ·rw[if_neg hf];omega
theorem Jr{i:Nat}(h:i<p.lp.m)(hr:p.lp.rel i≠2):(p.c1:Int)≤dt p.lp.rel p.c1 i∧dt p.lp.rel p.c1 i<p.u:=by
 have h1:=Ji (rel:=p.lp.rel) (c:=p.c1) h
 have h2:=(rC p.lp.rel p.c1 i).2
 rw[if_neg hr]at h1
 have e:p.u=bh p.lp.rel p.c1 p.lp.m:=rfl
 unfold dt
 rw[if_neg hr];omega
theorem rE{i:Nat}(h:i<p.lp.m):p.unit i<p.w:=by
 have h3:=jr p
 show mV _ _ _ _ _<_
 unfold mV
 by_cases ho:eN (p.lp.rel i) (p.aL i)=true
 ·rw[if_pos ho]
  have hr:p.lp.rel i≠2:=by
   unfold eN at ho
   rw[decide_eq_true_eq]at ho
   omega
  have:=Jr p h hr
  unfold dt at this
  rw[if_neg hr]at this
  omega
 ·rw[if_neg ho]
  have:=Jj (rel:=p.lp.rel) (sg:=p.aL) (u:=p.u) h
  rw[if_neg ho]at this
  have e:p.w=aY p.lp.rel p.aL p.u p.lp.m:=rfl
  omega
theorem PF:p.w≤2*p.lp.n+2*p.lp.m:=by
 have h1:=(tu p.lp.rel p.aL p.u p.lp.m).1
 have h2:=(rC p.lp.rel p.c1 p.lp.m).1
 have h3:=Jg p.lp.free p.lp.n
 have e1:p.w=aY p.lp.rel p.aL p.u p.lp.m:=rfl
 have e2:p.u=bh p.lp.rel p.c1 p.lp.m:=rfl
 have e3:p.c1=bt p.lp.free p.lp.n:=rfl
 omega
theorem Zf{i:Nat}{r:List Rat×Int×Rat}(h:p.rows[i]? = some r):p.ee.A i=EJ p.lay p.lp.n (fn r.1) r.2.2 r.2.1 (dt p.lp.rel p.c1 i) (p.unit i) (p.aL i:Rat):=by
 show EJ p.lay p.lp.n (fn (p.row i).1) (p.row i).2.2 (p.row i).2.1 _ _ _=_
 rw[Prg.jF h]
end
theorem fP.tab{K H:Heap}{g gk:Nat}{p:Prg}{rv bv pv mv uv sv:Value}{rg:List (Nat×Nat)}(h:fP K g gk p.w p.ee.A p.unit H rv p.lp.m (rg.map (Jm p.w)) bv p.lp.m rg)(hl:rg.length=p.lp.m)
  (hg:H g=some ⟨[.int .i64 (p.w:Int),.int .i64 (p.u:Int),pv,mv,uv,sv,rv,.slice none 0 0,bv],9,68,true⟩) (qc:aH p9 1 K pv p.lay.plus) (qd:aH vq 1 K mv p.lay.minus) (AN:aH p9 1 K uv p.lay.gM) (qR:aH aZ 3 K sv p.lay.gB):
  ∃G:TG,Value.pointer (some ⟨g,0,none⟩) = .pointer (some ⟨G.g,0,none⟩)∧cK H G p.lay p.ee∧G.cb = []∧Heap.le K (rem H G.gs):=by
 obtain⟨Ar,cr,rfl⟩:=h.tv.form
 obtain⟨n1,n2,n3,n4,n5⟩:=By h.nd
 have gT:=h.nd
 unfold dK at gT
 rw[List.nodup_append,List.nodup_append]at gT
 let G:TG:=⟨g,cr,Ar,pv,mv,uv,sv,.slice none 0 0,bv,rg,[],aB bv⟩
 have pE:∀q,q∈G.gs→q∈dK rg bv gk g:=fun q hq=>by
  rcases List.mem_cons.1 hq with h1 | h1
  ·exact dW.2 (.inr (.inr (.inr h1)))
  ·rcases List.mem_append.1 h1 with h2 | h2
   ·cases h2
   ·rcases List.mem_append.1 h2 with h3 | h3
    ·exact dW.2 (.inr (.inl h3))
    ·exact dW.2 (.inl h3)
 have hle:Heap.le (rem H (dK rg bv gk g)) (rem H G.gs):=fun q e hq=>by
  have hm:¬q∈dK rg bv gk g:=fun hm=>by rw[rem_in hm]at hq;cases hq
  rw[bo hm]at hq
  exact⟨e,by rw[bo (fun h'=>hm (pE q h'))];exact hq,.refl e⟩
 have hK:=h.le.trans hle
 refine⟨G,rfl,⟨rfl,jr p,hg,?_,hl,⟨_,h.tv.rd.le hle,fun i q hq=> ?_⟩,fun i q hq=>(h.row i q hq).le hle rfl,?_,qc.le jH hK,qd.le qa hK,AN.le jH hK,qR.le fi hK,fun q hq=>by cases hq⟩,rfl,hK⟩
 ·show (g::([]++(aB bv++rg.map (·.1)))).Nodup
  rw[List.nil_append,List.nodup_cons,List.nodup_append]
  refine⟨fun hm=> ?_,gT.2.1.1,gT.1,fun a ha b hb e=>(n4 a ha).1 (by rw[e];exact hb)⟩
  rcases List.mem_append.1 hm with h1 | h1
  ·exact n2 h1
  ·exact n1 h1
 ·rw[List.getElem?_map,show rg[i]? = some q from hq];rfl
 ·rcases h.Bw.2 with ⟨h1,h2⟩ | ⟨gb,cb,h1,h2,_⟩
  ·refine .inl ⟨h2,?_,h1⟩
   show aB bv = []
   rw[h1];rfl
  ·refine .inr ⟨gb,cb,_,?_,h1,h2⟩
   show aB bv = [gb]
   rw[h1];rfl
theorem fP.new{H:Heap}{g gk w:Nat}{A:Nat→Nat→Rat}{unit:Nat→Nat}(a6:∀q,q∈[gk,g]→H q≠none)(h:gk≠g):fP (rem H [gk,g]) g gk w A unit H (.slice none 0 0) 0 [] (.slice none 0 0) 0 []:=
 ⟨a6,(by show [gk,g].Nodup;simp[h]),.refl _,mu _ _ _,(fun q hq=>by cases hq),mu _ _ _,(fun j p hp=>by simp at hp)⟩
theorem bE.nums{K K':Heap}{v:Value}{f:Nat→Rat}{k:Nat}{ys:List Value}(h:bE K v 61 3 k ys)(hy:∀K:Heap,bg (aZ K) 3 ys (aN f k))(hl:Heap.le K K'):aH aZ 3 K' v (aN f k):=by
 obtain⟨A,c,rfl⟩:=h.form
 refine⟨A,c,_,by rw[cE],?_,h.rd.le hl,hy _⟩
 rw[cE]
 rcases h.2 with ⟨k1,k2⟩ | ⟨g,cap,k1,_,k3,_⟩
 ·omega
 ·cases k1;exact k3
theorem PG{s:Int}(h:s=1∨s = -1):aK (s:Rat)≤1:=by
 rcases h with h | h <;> subst h <;> decide
theorem Zg(A:Option Addr)(k c:Nat):∀u,u∈[Value.slice A k c]→u.oneCell'=true:=fun u hu=>by rw[List.mem_singleton]at hu;rw[hu];rfl
end Go.ar
namespace Go.ar
open Go.Proofs Num Lp
theorem rF(f:Nat→Rat)(k:Nat)(v:Rat):ed f k v k=v:=by simp[ed]
theorem iS{f:Nat→Rat}{k j:Nat}{v:Rat}(h:j≠k):ed f k v j=f j:=by simp[ed,h]
section
variable {p:Prg}
theorem Fg{a:Nat→Rat}{sg:Rat}{k x:Nat}(hk:k≤p.lp.n)(hx:bt p.lp.free k≤x):g7 p.lay a sg k x=0:=by
 induction k with
 | zero=>rfl
 | succ k ih=>
  have h1:bt p.lp.free (k+1)=bt p.lp.free k+1+(if p.lp.free k then 1 else 0):=rfl
  rw[vG,vL p (by omega),BA p (by omega)]
  unfold jJ
  by_cases hf:p.lp.free k=true
  ·rw[if_pos hf]at h1
   rw[if_pos hf,if_pos (by omega),iS (by rw[Int.toNat_natCast];omega),iS (by omega)]
   exact ih (by omega) (by omega)
  ·rw[if_neg hf]at h1
   rw[if_neg hf,if_neg (by omega),iS (by omega)]
   exact ih (by omega) (by omega)
theorem Fh{a:Nat→Rat}{sg:Rat}{k j:Nat}(hk:k≤p.lp.n)(hj:j<k):g7 p.lay a sg k (bt p.lp.free j)=a j*sg∧(p.lp.free j=true→g7 p.lay a sg k (bt p.lp.free j+1) = -(a j*sg)):=by
 induction k with
 | zero=>omega
 | succ k ih=>
  rw[vG,vL p (by omega),BA p (by omega)]
  unfold jJ
  by_cases e:j=k
  ·subst e
   by_cases hf:p.lp.free j=true
   ·rw[if_pos hf,if_pos (by omega),Int.toNat_natCast]
    refine⟨?_,fun _=>rF _ _ _⟩
    rw[iS (by omega),rF]
   ·rw[if_neg hf,if_neg (by omega),rF]
    exact⟨rfl,fun h=>absurd h hf⟩
  ·have hm:=Jh (fr:=p.lp.free) (show j<k by omega)
   have pK:=ih (by omega) (by omega)
   by_cases hf:p.lp.free k=true
   ·rw[if_pos hf,if_pos (by omega),Int.toNat_natCast]
    refine⟨?_,fun h=> ?_⟩
    ·rw[iS (by omega),iS (by omega)];exact pK.1
    ·rw[if_pos h]at hm
     rw[iS (by omega),iS (by omega)];exact pK.2 h
   ·rw[if_neg hf,if_neg (by omega)]
    refine⟨?_,fun h=> ?_⟩
    ·rw[iS (by omega)];exact pK.1
    ·rw[if_pos h]at hm
     rw[iS (by omega)];exact pK.2 h
theorem PH{i:Nat}:p.c1≤p.unit i:=by
 show _≤mV _ _ _ _ _
 unfold mV
 split
 ·exact(rC _ _ _).2
 ·exact Nat.le_trans (oZ p) (tu _ _ _ _).2
theorem BB{i:Nat}(h:eN (p.lp.rel i) (p.aL i)=true):(p.lp.rel i=1∧p.aL i=1)∨(p.lp.rel i=3∧p.aL i = -1):=by
 unfold eN at h
 rwa [decide_eq_true_eq]at h
theorem yj{i:Nat}(h:eN (p.lp.rel i) (p.aL i)=true):p.unit i=bh p.lp.rel p.c1 i:=by
 show mV _ _ _ _ _=_;unfold mV;rw[if_pos h]
theorem yk{i:Nat}(h:¬eN (p.lp.rel i) (p.aL i)=true):p.unit i=aY p.lp.rel p.aL p.u i:=by
 show mV _ _ _ _ _=_;unfold mV;rw[if_neg h]
theorem Js{rel:Nat→Int}{c i q:Nat}(hi:rel i≠2)(hq:rel q≠2)(h:q≠i):bh rel c q≠bh rel c i:=by
 rcases Nat.lt_or_gt_of_ne h with h | h
 ·have:=Ji (rel:=rel) (c:=c) h
  rw[if_neg hq]at this;omega
 ·have:=Ji (rel:=rel) (c:=c) h
  rw[if_neg hi]at this;omega
theorem BC{i:Nat}(hi:i<p.lp.m)(hr:p.lp.rel i≠2):bh p.lp.rel p.c1 i<p.u:=by
 have:=Jr p hi hr
 unfold dt at this
 rw[if_neg hr]at this
 omega
theorem Zh{i q:Nat}(hi:i<p.lp.m)(hq:q<p.lp.m)(h:q≠i):p.unit q≠p.unit i:=by
 by_cases oi:eN (p.lp.rel i) (p.aL i)=true
 ·have ri:p.lp.rel i≠2:=by have:=BB oi;omega
  by_cases oq:eN (p.lp.rel q) (p.aL q)=true
  ·have rq:p.lp.rel q≠2:=by have:=BB oq;omega
   rw[yj oi,yj oq];exact Js ri rq h
  ·rw[yj oi,yk oq]
   have:=BC hi ri
   have:=(tu p.lp.rel p.aL p.u q).2
   omega
 ·by_cases oq:eN (p.lp.rel q) (p.aL q)=true
  ·have rq:p.lp.rel q≠2:=by have:=BB oq;omega
   rw[yk oi,yj oq]
   have:=BC hq rq
   have:=(tu p.lp.rel p.aL p.u i).2
   omega
  ·rw[yk oi,yk oq]
   rcases Nat.lt_or_gt_of_ne h with h | h
   ·have:=Jj (rel:=p.lp.rel) (sg:=p.aL) (u:=p.u) h
    rw[if_neg oq]at this;omega
   ·have:=Jj (rel:=p.lp.rel) (sg:=p.aL) (u:=p.u) h
    rw[if_neg oi]at this;omega
theorem PI{i q:Nat}(hi:i<p.lp.m)(ri:p.lp.rel i≠2)(h:q≠i):p.unit q≠bh p.lp.rel p.c1 i:=by
 by_cases oq:eN (p.lp.rel q) (p.aL q)=true
 ·have rq:p.lp.rel q≠2:=by have:=BB oq;omega
  rw[yj oq];exact Js ri rq h
 ·rw[yk oq]
  have:=BC hi ri
  have:=(tu p.lp.rel p.aL p.u q).2
  omega
theorem yl(i:Nat):p.ee.A i=ed (ed (oX (g7 p.lay (p.lp.a i) (p.aL i:Rat) p.lp.n) (p.lp.rel i) (dt p.lp.rel p.c1 i) (p.aL i:Rat)) (p.unit i) 1) p.w (p.lp.b i*(p.aL i:Rat)):=rfl
theorem Jt{f:Nat→Rat}{rel slack:Int}{sg:Rat}{x:Nat}(h:rel≠2→x≠slack.toNat):oX f rel slack sg x=f x:=by
 unfold oX
 split
 ·exact iS (h (by omega))
 ·split
  ·exact iS (h (by omega))
  ·rfl
theorem Fi{i:Nat}(hr:p.lp.rel i≠2):(dt p.lp.rel p.c1 i).toNat=bh p.lp.rel p.c1 i:=by
 unfold dt;rw[if_neg hr,Int.toNat_natCast]
theorem PJ{i x:Nat}(hx:x<p.c1):p.ee.A i x=g7 p.lay (p.lp.a i) (p.aL i:Rat) p.lp.n x:=by
 have h1:=oZ p
 have h2:=jr p
 have h3:=PH (p:=p) (i:=i)
 rw[yl,iS (by omega),iS (by omega),Jt]
 intro hr
 rw[Fi hr]
 have:=(rC p.lp.rel p.c1 i).2
 omega
theorem Zi{i j:Nat}(hj:j<p.lp.n):p.ee.A i (bt p.lp.free j)=p.lp.a i j*(p.aL i:Rat):=by
 rw[PJ (Ff p hj)];exact(Fh (Nat.le_refl _) hj).1
theorem Zj{i j:Nat}(hj:j<p.lp.n)(hf:p.lp.free j=true):p.ee.A i (bt p.lp.free j+1) = -(p.lp.a i j*(p.aL i:Rat)):=by
 have:=yi p hj
 unfold jJ at this
 rw[if_pos hf]at this
 rw[PJ (by omega)];exact(Fh (Nat.le_refl _) hj).2 hf
theorem Zk{i q:Nat}(hi:i<p.lp.m)(hv:p.lp.rel i=1∨p.lp.rel i=3):p.ee.A q (bh p.lp.rel p.c1 i)=if q=i then(if p.lp.rel i=1 then(p.aL i:Rat)else -(p.aL i:Rat))else 0:=by
 have hr:p.lp.rel i≠2:=by omega
 have h1:=BC hi hr
 have h2:=jr p
 have h3:=(rC p.lp.rel p.c1 i).2
 rw[yl,iS (by omega)]
 by_cases e:q=i
 ·subst e
  rw[if_pos rfl]
  by_cases o:eN (p.lp.rel q) (p.aL q)=true
  ·rw[yj o,rF]
   rcases BB o with ⟨k1,k2⟩ | ⟨k1,k2⟩
   ·rw[if_pos k1,k2];rfl
   ·rw[if_neg (by omega),k2];grind
  ·rw[iS (by rw[yk o];have:=(tu p.lp.rel p.aL p.u q).2;omega)]
   unfold oX
   rw[Fi hr]
   by_cases k1:p.lp.rel q=1
   ·rw[if_pos k1,if_pos k1,rF]
   ·rw[if_neg k1,if_neg k1,if_pos (by omega),rF]
 ·rw[if_neg e,iS (Ne.symm (PI hi hr e)),Jt (fun hq=>by rw[Fi hq];exact Ne.symm (Js hr hq e))]
  exact Fg (Nat.le_refl _) h3
theorem PK{i q:Nat}(hi:i<p.lp.m)(hq:q<p.lp.m):p.ee.A q (p.unit i)=if q=i then 1 else 0:=by
 have h1:=rE p hi
 rw[yl,iS (by omega)]
 by_cases e:q=i
 ·subst e
  rw[if_pos rfl,rF]
 ·rw[if_neg e,iS (Ne.symm (Zh hi hq e)),Jt]
  ·exact Fg (Nat.le_refl _) PH
  ·intro rq
   rw[Fi rq]
   exact PI hq rq (Ne.symm e)
theorem PL(i:Nat):p.ee.A i p.w=p.lp.b i*(p.aL i:Rat)∧0≤p.ee.A i p.w:=by
 have h:p.ee.A i p.w=p.lp.b i*(p.aL i:Rat):=by rw[yl,rF]
 refine⟨h,?_⟩
 rw[h]
 show 0≤p.lp.b i*((kD (p.lp.b i) (p.lp.rel i):Int):Rat)
 unfold kD
 split
 ·rename_i hc
  have:p.lp.b i≤0:=by rcases hc with hc | hc <;> grind
  show 0≤p.lp.b i*((-1:Int):Rat)
  grind
 ·rename_i hc
  have:0≤p.lp.b i:=by
   have:¬p.lp.b i<0:=fun h=>hc (.inl h)
   grind
  show 0≤p.lp.b i*((1:Int):Rat)
  grind
def _root_.Lp.Prg.o0(p:Prg)(i:Nat):Option Nat:=if p.lp.rel i=2 then none else some (bh p.lp.rel p.c1 i)
theorem ym{j:Nat}(h:j<p.lp.n):p.lay.mF j=if p.lp.free j then some (bt p.lp.free j+1)else none:=by
 unfold TL.mF
 rw[BA p h]
 unfold jJ
 by_cases hf:p.lp.free j=true
 ·rw[if_pos hf,if_pos hf,if_pos (by omega),Int.toNat_natCast]
 ·rw[if_neg hf,if_neg hf,if_neg (by omega)]
theorem PM{i:Nat}(h:i<p.lp.m):p.lay.uF i=p.unit i:=by
 simp[TL.uF,Prg.lay,List.getD,h]
theorem yn{i:Nat}(h:i<p.lp.m):p.lay.sF i=(p.aL i:Rat):=by
 have:p.lay.gB[i]? = some ((p.aL i:Int):Rat):=eF (f:=fun i=>(p.aL i:Rat)) h
 exact iu this
theorem Zl(f:Nat→Rat){k:Nat}(hk:k≤p.lp.n):aP (bt p.lp.free k) f=aP k (fun j=>f (p.lay.pF j)+eS f (p.lay.mF j)):=by
 induction k with
 | zero=>rfl
 | succ k ih=>
  have h1:bt p.lp.free (k+1)=bt p.lp.free k+1+(if p.lp.free k then 1 else 0):=rfl
  rw[eu,←ih (by omega),vL p (by omega),ym (by omega)]
  by_cases hf:p.lp.free k=true
  ·rw[if_pos hf]at h1⊢
   rw[h1,eu,eu]
   simp only[eS];grind
  ·rw[if_neg hf]at h1⊢
   rw[h1,Nat.add_zero,eu]
   simp only[eS];grind
theorem Zm(f:Nat→Rat)(k:Nat):aP (bh p.lp.rel p.c1 k) f=aP p.c1 f+aP k (fun i=>eS f (p.o0 i)):=by
 induction k with
 | zero=>rw[sT,Rat.add_zero];rfl
 | succ k ih=>
  have h1:bh p.lp.rel p.c1 (k+1)=bh p.lp.rel p.c1 k+(if p.lp.rel k=2 then 0 else 1):=rfl
  rw[eu]
  by_cases hr:p.lp.rel k=2
  ·rw[if_pos hr]at h1
   have:p.o0 k=none:=by unfold Prg.o0;rw[if_pos hr]
   rw[h1,Nat.add_zero,this,ih]
   simp only[eS];grind
  ·rw[if_neg hr]at h1
   have:p.o0 k=some (bh p.lp.rel p.c1 k):=by unfold Prg.o0;rw[if_neg hr]
   rw[h1,this,eu,ih]
   simp only[eS];grind
theorem Fj(a8:p.Ok):cP p.lp p.ee.A p.w p.u p.lay.pF p.lay.mF p.o0 p.lay.uF p.lay.sF where
 valid:=a8.valid
 uw:=jr p
 NA i hi:=by
  rw[yn hi]
  rcases yh (p.lp.b i) (p.lp.rel i)with h | h
  ·left;show ((kD _ _:Int):Rat)=1;rw[h];rfl
  ·right;show ((kD _ _:Int):Rat) = -1;rw[h];rfl
 rhs i hi:=by rw[yn hi];exact PL i
 pl j hj:=by
  rw[vL p hj]
  refine⟨Nat.lt_of_lt_of_le (Ff p hj) (oZ p),fun i hi=> ?_⟩
  rw[yn hi];exact Zi hj
 mi j hj:=by
  rw[ym hj]
  refine⟨fun h=>by rw[h];rfl,fun k hk=> ?_⟩
  by_cases hf:p.lp.free j=true
  ·rw[if_pos hf]at hk
   cases hk
   have h1:=yi p hj
   unfold jJ at h1
   rw[if_pos hf]at h1
   have h2:=oZ p
   refine⟨by omega,fun i hi=> ?_⟩
   rw[yn hi];exact Zj hj hf
  ·rw[if_neg hf]at hk;cases hk
 Io j hj hf:=by
  rw[ym hj,if_pos hf];exact⟨_,rfl⟩
 sl i hi:=by
  refine⟨fun h=>by unfold Prg.o0;rw[if_pos h],fun h=>⟨_,by unfold Prg.o0;rw[if_neg h]⟩,fun k hk=> ?_⟩
  unfold Prg.o0 at hk
  by_cases hr:p.lp.rel i=2
  ·rw[if_pos hr]at hk;cases hk
  ·rw[if_neg hr]at hk
   cases hk
   refine⟨BC hi hr,fun q hq=> ?_⟩
   rw[yn hi]
   exact Zk hi (by have:=a8.valid i hi;omega)
 un i hi:=by
  rw[PM hi]
  exact⟨rE p hi,fun q hq=>PK hi hq⟩
 sum f:=by
  have h1:p.u=bh p.lp.rel p.c1 p.lp.m:=rfl
  rw[h1,Zm,show p.c1=bt p.lp.free p.lp.n from rfl,Zl f (Nat.le_refl _)]
theorem kE:p.lay.Ok p.lp.n p.lp.m where
 EE:=by simp[Prg.lay]
 EF:=by simp[Prg.lay]
 IL:=by simp[Prg.lay]
 IM:=cE _ _
 pw j hj:=by
  rw[vL p hj]
  have:=Ff p hj;have:=oZ p;have:=jr p
  show _<p.w;omega
 mw j hj:=by
  rw[BA p hj]
  have:=yi p hj;have:=oZ p;have:=jr p
  show _<((p.w:Nat):Int);omega
 uw i hi:=by rw[PM hi];exact rE p hi
 s1 i hi:=by rw[yn hi];exact PG (yh _ _)
theorem Zn:p.ee.WF where
 lt i hi:=rE p hi
 unit i k hi hk:=PK hi hk
 zero i hi:=rfl
theorem Zo:p.ee.ji:=fun i _=>(PL i).2
theorem Zp:ao.Rows p.ee.A p.lp.m p.w p.ee:=ao.Ww (fun _ _=>rfl) rfl rfl
end
end Go.ar
