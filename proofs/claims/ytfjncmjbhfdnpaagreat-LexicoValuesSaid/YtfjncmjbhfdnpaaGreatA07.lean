/- Part 7 of the proof: Ref5, Ref6, Tab9, Nt, Nt2, Nt3. -/
import Derived.Test.YtfjncmjbhfdnpaaGreatA06
set_option linter.unusedVariables false
namespace Go.aw
open Go.Proofs Num
theorem XQ{x y:Nat}:(0<kJ x y)↔y<x:=by
 unfold kJ;split
 ·omega
 ·split <;> omega
theorem agO{x y:Nat}:(kJ x y<0)↔x<y:=by
 unfold kJ;split
 ·omega
 ·split <;> omega
theorem HE{x y:Nat}:(0≤kJ x y)↔y≤x:=by
 unfold kJ;split
 ·omega
 ·split <;> omega
theorem XR{l:List Nat}{k d:Nat}(h:l[k]? = some d):val (l.drop k)=d+B*val (l.drop (k+1)):=by
 obtain⟨hk,e⟩:=List.getElem?_eq_some_iff.1 h
 rw[List.drop_eq_getElem_cons hk,e,jA]
theorem agP{a:Nat}{l:List Nat}(ha:a<B)(h:Lt l):Lt (a::l):=fun z hz=>by
 rcases List.mem_cons.1 hz with rfl | hz
 ·exact ha
 ·exact h z hz
theorem kZ.agQ{H:Heap}{v:Value}{l:List Nat}(h:cg H v 121 1 l.length (U l)):jB H v l:=kZ.lim h
theorem HF{H:Heap}{u v:Value}{x y:Nat}(hx:dh H u x)(hy:dh H v y)(jz:0<y)(hm:((ao x).length:Int)<4398046511104)(bI:((ao y).length:Int)<4398046511104):
 Fn Tryz.prog 150 #[u,v] H (VY H x y):=by
 have jo:=hx
 have tw:=hy
 obtain⟨A,c,rfl,hc,hr⟩:=hx
 obtain⟨A',c',rfl,jO,dU⟩:=hy
 have jC:=(fQ x).lt
 have eF:=(fQ y).lt
 have aeP:(ao y).length≠0:=fun e=>O2 jz (List.eq_nil_of_length_eq_zero e);refine aZ (args:=[_,_]) Tryz.func150 rfl rfl Tryz.ntmps150 rfl rfl fun w0=> ?_;refine aj [0,1] rfl ?_;refine ag (ab 2 rfl (ae [0,1] ?_));refine aq (ag (ab 2 rfl (aF rfl rfl (LS jo tw (by omega)) ?_)));rintro v1 H1 ⟨e1,rfl⟩;rw[e1];refine ab 1 rfl (ae [0,1,15] ?_);refine aD rfl (fun hb=> ?_) (fun hb=> ?_)
 ·
  have qK:x<y:=agO.1 (by simpa using hb);refine ag (ab 1 rfl (aF rfl rfl (BT jo jC (by omega)) ?_));rintro v1 H1 hp;rw[cS]at hp;refine ab 2 rfl (ae [4,5] ?_);refine aE ⟨.inr rfl,_,.tmp rfl (.tmp rfl (.nil)),?_⟩;exact⟨hp.le,_,_,rfl,by rw[Nat.div_eq_of_lt qK];exact wu _,by rw[Nat.mod_eq_of_lt qK];exact hp.nat⟩
 ·
  have qK:y≤x:=HE.1 (by simpa using hb);refine aA (aj [0,1] rfl ?_);refine aq (ag (ab 3 rfl (ae [0,1,20] ?_)));refine aD rfl (fun hb=> ?_) (fun hb=> ?_)
  ·
   have hb:(ao y).length=1:=by simp at hb;omega
   have Ep:(ao y)[0]? = some y:=by
    obtain⟨z,hz⟩:=List.length_eq_one_iff.1 hb;have:=cS y;rw[hz]at this⊢
    simp[val]at this
    simp[this]
   have Gt:=eF.get Ep;rw[cn]at Gt;refine ag (ab 2 rfl (aS ah rfl rfl rfl rfl rfl (dU) (du Ep) (by omega) (by omega) fun _=>(dg ah rfl rfl rfl ⟨by omega,by omega⟩ (aF rfl rfl (agI jo jC Gt jz (by omega)) ?_))));rintro v1 H2 ⟨hle,q,rfl,hq⟩;refine vr 1 ?_;rw[cS]at hq⊢;refine ab 4 rfl (ae [6,7] ?_);refine ag (ab 2 rfl (aF rfl rfl (HC (x:=x%y) (by have:=Nat.mod_lt x jz;omega)) ?_));intro v1 H3 hp;refine ab 2 rfl (ae [4,5] ?_);refine aE ⟨.inr rfl,_,.tmp rfl (.tmp rfl (.nil)),?_⟩;exact⟨hle.trans hp.le,_,_,rfl,hq.le hp.le,hp.nat⟩
  have hb:(ao y).length≠1:=by simp at hb;omega
  have gX:2≤(ao y).length:=by omega
  refine aA (aj [0,1] rfl ?_);refine ag (ab 2 rfl (gJ Tryz.underlying29 eG rfl rfl rfl (by omega) (by omega) (by omega) (by omega) ?_));intro g hg;rw[show (((ao x).length:Int)).toNat=(ao x).length from by omega,yQ];refine ab 1 rfl (ae [0,1,8] ?_);refine ag (ab 1 rfl (ae [0,1,8,9] ?_));refine aq (ag (ab 2 rfl (cY rfl rfl ⟨by omega,by omega⟩ (ab 1 rfl (ae [0,1,8,9,10] ?_)))));refine aG (oU (fun(k:Nat)(rv:Value)(r:Nat)(l:List Nat)=>k) (fun(k:Nat)(rv:Value)(r:Nat)(l:List Nat)=>put (put (put (put (put (emp) 0 (.val (.slice A (ao x).length c))) 1 (.val (.slice A' (ao y).length c'))) 8 (.val (.slice (some ⟨g,0,none⟩) (ao x).length (ao x).length))) 9 (.val (rv))) 10 (.val (.int .i64 ((k:Int)-1)))) (fun(k:Nat)(rv:Value)(r:Nat)(l:List Nat) H'=>Heap.le H (rem H' [g])∧H' g=some (dH l (ao x).length)∧l.length=(ao x).length∧Lt l∧k≤(ao x).length∧r<y∧dh (rem H' [g]) rv r∧val ((ao x).drop k)=val (l.drop k)*y+r) (ao x).length (.slice none 0 0) 0 _ (⟨by rw[tA _ hg,tz];exact .refl _,bF _ _ _,by simp,Lt.replicate _,Nat.le_refl _,jz,wu _,by simp[val]⟩) au ?_);rintro k rv r l H1 ⟨hle,Gp,vd,bL,hk,Qy,lr,hv⟩
  obtain⟨Ar,cr,rfl,iM,nE⟩:=id lr;have amH:=mH (Nat.le_of_lt Qy);have pB:=hle.trans (bt H1 [g]);refine aq (ag (ab 2 rfl (ae [0,1,8,9,10,40] ?_)));refine aD rfl (fun hb=> ?_) (fun hb=> ?_)
  ·
   have hb:0<k:=by simp at hb;omega
   obtain⟨ai,LX⟩:∃d,(ao x)[k-1]? = some d:=⟨_,List.getElem?_eq_getElem (by omega)⟩;have XS:=jC.get LX;rw[cn]at XS
   have XT:(((k:Int)-1)).toNat=k-1:=by omega
   refine aA (aj [0,1,8,9,10] rfl ?_);refine aq (aG (ag (ab 2 rfl (aS ah rfl rfl rfl rfl rfl (hr.le pB) (by rw[XT];exact du LX) (by omega) (by omega) fun _=> ?_))));refine cR Tryz.underlying29 eG rfl rfl rfl rfl rfl rfl rfl ?_;intro gb bo
   have Qz:gb≠g:=fun e=>by subst e;rw[Gp]at bo;cases bo
   refine ab 1 rfl (dK Tryz.underlying29 eG rfl rfl ((⟨rfl,.inr ⟨gb,1,rfl,bF _ _ _,Nat.le_refl _,by decide⟩⟩:cg _ _ 121 1 1 (U [ai]))) ((nE.le (bt _ _)).le (Heap.bC _ bo)) (by rw[AW,Nat.mul_one]) (oX _) (by omega) (by omega) ?_);intro v1 H2 ha;have tf:=ha.rem (gs:=[g]) (fun q hq=>by simp only[List.mem_singleton]at hq;subst hq;rw[bg _ _ (Ne.symm Qz),Gp];simp) (fun q hq=>by simp only[List.mem_singleton]at hq;subst hq;intro e;cases e;exact Qz rfl)
   have eu:H2 g=some (dH l (ao x).length):=by rw[tf.2 g (List.mem_singleton.2 rfl),bg _ _ (Ne.symm Qz),Gp]
   have fc:Heap.le (rem H1 [g]) (rem H2 [g]):=(og [g] (Heap.bC _ bo)).trans tf.1.le;have agR:jB (rem H2 [g]) v1 (ai::ao r):=kZ.agQ (by have h0:=tf.1.own;rw[←KE,Nat.add_comm]at h0;exact h0);refine aF rfl rfl (Fn.frame (gs:=[g]) (fun q hq=>by simp only[List.mem_singleton]at hq;subst hq;rw[eu];simp) (BT agR (agP (by rw[cn];exact XS) (fQ r).lt) (by rw[List.length_cons];omega))) ?_;rintro v2 H3 ⟨eH,LO⟩;rw[jA,cS]at eH;obtain⟨r1,XU⟩:∃r1,r1=ai+B*r:=⟨_,rfl⟩;rw[←XU]at eH;have l5:=(LO g (List.mem_singleton.2 rfl)).trans eu;have iD:=fc.trans eH.le
   have LW:r1<B*y:=by rw[XU,cn];omega
   have agS:(ao r1).length≤(ao y).length+1:=jn.2 (by rw[Nat.pow_succ,Nat.mul_comm _ B];exact Nat.lt_trans LW (Nat.mul_lt_mul_of_pos_left (Dn y) nt));have HG:=(tw.le hle).le iD;have j7:=eH.nat;obtain⟨A3,c3,rfl,vn,qM⟩:=id j7;refine ab 1 rfl (ae [0,1,8,9,10] ?_);refine ag (ab 2 rfl (aF rfl rfl (Fn.frame (gs:=[g]) (fun q hq=>by simp only[List.mem_singleton]at hq;subst hq;rw[l5];simp) (agK j7 HG gX agS (by omega))) ?_));rintro v3 H4 ⟨⟨fI,d0,rfl,xA⟩,LN⟩;have BU:=(LN g (List.mem_singleton.2 rfl)).trans l5
   have kM:Heap.le (rem H1 [g]) (rem H4 [g]):=by rw[fI];exact iD
   refine ab 1 rfl (ae [0,1,8,9,10,11] ?_);refine kI (fun(d:Nat)=>put (put (put (put (put (put (emp) 0 (.val (.slice A (ao x).length c))) 1 (.val (.slice A' (ao y).length c'))) 8 (.val (.slice (some ⟨g,0,none⟩) (ao x).length (ao x).length))) 9 (.val (.slice A3 (ao r1).length c3))) 10 (.val (.int .i64 ((k:Int)-1)))) 11 (.val (.int .u64 (d:Int)))) (fun(d:Nat) H'=>Heap.le (rem H3 [g]) (rem H' [g])∧H' g=some (dH l (ao x).length)∧d≤999999999∧y*d≤r1) ?_ ?_
   ·
    refine aG (gK (fun(d:Nat)=>d) (fun(d:Nat)=>put (put (put (put (put (put (emp) 0 (.val (.slice A (ao x).length c))) 1 (.val (.slice A' (ao y).length c'))) 8 (.val (.slice (some ⟨g,0,none⟩) (ao x).length (ao x).length))) 9 (.val (.slice A3 (ao r1).length c3))) 10 (.val (.int .i64 ((k:Int)-1)))) 11 (.val (.int .u64 (d:Int)))) (fun(d:Nat) H'=>Heap.le (rem H3 [g]) (rem H' [g])∧H' g=some (dH l (ao x).length)∧d≤999999999) d0 (⟨by rw[fI];exact .refl _,BU,xA⟩) au ?_);rintro d H5 ⟨iY,vB,hd5⟩;have BV:=HG.le iY;have hn5:=j7.le iY;refine aq ?_
    rcases Nat.eq_zero_or_pos d with xA | xA
    ·
     subst xA;refine ag (ab 1 rfl (aJ false rfl rfl (iW (by omega)) (ab 9 rfl (ae [0,1,8,9,10,11,64] ?_))));refine dR rfl (aW ?_);exact⟨0,au,iY,vB,by omega,by omega⟩
    have P6:(ao d).length≤3:=jn.2 (by rw[cn];omega);refine ag (ab 1 rfl (aJ true rfl rfl (mI (by omega)) (ab 3 rfl (aF rfl rfl (Fn.frame (gs:=[g]) (fun q hq=>by simp only[List.mem_singleton]at hq;subst hq;rw[vB];simp) (HC (x:=d) (by omega))) ?_))));rintro v4 Ha ⟨xB,QA⟩;have BW:=(QA g (List.mem_singleton.2 rfl)).trans vB;refine aF rfl rfl (Fn.frame (gs:=[g]) (fun q hq=>by simp only[List.mem_singleton]at hq;subst hq;rw[BW];simp) (xz (BV.le xB.le) xB.nat (by omega) (by omega))) ?_;rintro v5 Hb ⟨BX,QB⟩;have HH:=(QB g (List.mem_singleton.2 rfl)).trans BW;have rO:=pa y d;refine ab 1 rfl (aF rfl rfl (Fn.frame (gs:=[g]) (fun q hq=>by simp only[List.mem_singleton]at hq;subst hq;rw[HH];simp) (LS BX.nat ((hn5.le xB.le).le BX.le) (by omega))) ?_);rintro v6 Hc ⟨⟨QC,rfl⟩,Bg⟩;have BY:=(Bg g (List.mem_singleton.2 rfl)).trans HH
    have XV:Heap.le (rem H3 [g]) (rem Hc [g]):=by rw[QC];exact(iY.trans xB.le).trans BX.le
    refine ab 2 rfl (ae [0,1,8,9,10,11,64] ?_);refine aD rfl (fun hb=> ?_) (fun hb=> ?_)
    ·
     have hb:r1<y*d:=XQ.1 (by simpa using hb);refine aA (aj [0,1,8,9,10,11] rfl ?_);refine aG (aC rfl (ab 1 rfl (cY rfl rfl ⟨by omega,by omega⟩ (ab 1 rfl (az ?_)))));exact⟨d-1,by omega,au,XV,BY,by omega⟩
    have hb:y*d≤r1:=by
     have:¬0<kJ (y*d) r1:=by simpa using hb
     rw[XQ]at this;omega
    refine aW ?_;exact⟨d,au,XV,BY,hd5,hb⟩
   rintro d H6 ⟨sh,oj,hd6,hyd⟩;have hy6:=HG.le sh;have hn6:=j7.le sh;have P6:(ao d).length≤3:=jn.2 (by rw[cn];omega);refine ag (ab 3 rfl (aF rfl rfl (Fn.frame (gs:=[g]) (fun q hq=>by simp only[List.mem_singleton]at hq;subst hq;rw[oj];simp) (HC (x:=d) (by omega))) ?_));rintro v4 Ha ⟨xB,QA⟩;have BW:=(QA g (List.mem_singleton.2 rfl)).trans oj;refine aF rfl rfl (Fn.frame (gs:=[g]) (fun q hq=>by simp only[List.mem_singleton]at hq;subst hq;rw[BW];simp) (xz (hy6.le xB.le) xB.nat (by omega) (by omega))) ?_;rintro v5 Hb ⟨BX,QB⟩;have HH:=(QB g (List.mem_singleton.2 rfl)).trans BW;refine aF rfl rfl (Fn.frame (gs:=[g]) (fun q hq=>by simp only[List.mem_singleton]at hq;subst hq;rw[HH];simp) (LV ((hn6.le xB.le).le BX.le) BX.nat hyd (by omega))) ?_;rintro v6 Hc ⟨XW,Bg⟩;have kg:=(Bg g (List.mem_singleton.2 rfl)).trans HH;have agT:=((sh.trans xB.le).trans BX.le).trans XW.le;refine ab 1 rfl (ae [0,1,8,9,10,11] ?_);refine aq (aG (fG (fun(d2:Nat)(HI:Value)(r2:Nat)=>r2) (fun(d2:Nat)(HI:Value)(r2:Nat)=>put (put (put (put (put (put (emp) 0 (.val (.slice A (ao x).length c))) 1 (.val (.slice A' (ao y).length c'))) 8 (.val (.slice (some ⟨g,0,none⟩) (ao x).length (ao x).length))) 9 (.val (HI))) 10 (.val (.int .i64 ((k:Int)-1)))) 11 (.val (.int .u64 (d2:Int)))) (fun(d2:Nat)(HI:Value)(r2:Nat) H'=>Heap.le (rem H3 [g]) (rem H' [g])∧H' g=some (dH l (ao x).length)∧dh (rem H' [g]) HI r2∧r1=y*d2+r2) d _ (r1-y*d) (⟨agT,kg,XW.nat,by omega⟩) au ?_))
   rintro d2 HI r2 zx ⟨qY,pE,HJ,he8⟩;obtain⟨A8,c8,rfl,QD,hr8⟩:=id HJ;have hy8:=HG.le qY;have zq:=mH (show r2≤r1 by omega)
   have amI:d2<1000000000:=by
    false_or_by_contra
    have:y*1000000000≤y*d2:=Nat.mul_le_mul_left _ (by omega);rw[cn,Nat.mul_comm]at LW;omega
   refine aq (ag (ab 2 rfl (aF rfl rfl (Fn.frame (gs:=[g]) (fun q hq=>by simp only[List.mem_singleton]at hq;subst hq;rw[pE];simp) (LS HJ hy8 (by omega))) ?_)));rintro v7 H9 ⟨⟨XX,rfl⟩,sx⟩;have tR:=(sx g (List.mem_singleton.2 rfl)).trans pE
   have Hn:Heap.le (rem H3 [g]) (rem H9 [g]):=by rw[XX];exact qY
   have HK:dh (rem H9 [g]) (.slice A8 (ao r2).length c8) r2:=by rw[XX];exact HJ
   refine ab 1 rfl (ae [0,1,8,9,10,11,76] ?_);refine aD rfl (fun hb=> ?_) (fun hb=> ?_)
   ·
    have hb:y≤r2:=HE.1 (by simpa using hb);refine aA (aj [0,1,8,9,10,11] rfl ?_);refine aG (ag (ab 2 rfl (aF rfl rfl (Fn.frame (gs:=[g]) (fun q hq=>by simp only[List.mem_singleton]at hq;subst hq;rw[tR];simp) (LV HK (HG.le Hn) hb (by omega))) ?_)));rintro v8 xC ⟨XY,HL⟩;have tS:=(HL g (List.mem_singleton.2 rfl)).trans tR;refine ab 1 rfl (ae [0,1,8,9,10,11] ?_);refine aC rfl (ab 1 rfl (aH rfl rfl ⟨by omega,by omega⟩ (ab 1 rfl (az ?_))));exact⟨d2+1,_,r2-y,by omega,au,Hn.trans XY.le,tS,XY.nat,by rw[Nat.mul_add,Nat.mul_one];omega⟩
   have agU:r2<y:=by
    have:¬0≤kJ r2 y:=by simp at hb;omega
    rw[HE]at this;omega
   obtain⟨r3,rfl⟩:∃r3,r3=r2:=⟨_,rfl⟩;obtain⟨d3,rfl⟩:∃d3,d3=d2:=⟨_,rfl⟩;refine aW (aj [0,1,8,9,10,11] rfl ?_);refine aC rfl (ab 3 rfl (dg ah rfl rfl rfl ⟨by omega,by omega⟩ ?_));obtain⟨ti,ak,al⟩:=oW;refine cV (.inl rfl) ah rfl rfl rfl (by omega) (by omega) (tR) rfl (by rw[oY];omega) ak al (fun _=>rfl) rfl rfl rfl fun _=> ?_;refine az ?_
   have XZ:ins H9 g {dH l (ao x).length with xs:=aM (dH l (ao x).length).xs (0+((k:Int)-1).toNat*1) [.int .u32 (d3:Int)]}=ins H9 g (dH (l.set (k-1) d3) (ao x).length):=by
    rw[XT];simp only[dH,aM,Nat.zero_add,Nat.mul_one,OS]
   have HM:Heap.le H (rem (ins H9 g {dH l (ao x).length with xs:=aM (dH l (ao x).length).xs (0+((k:Int)-1).toNat*1) [.int .u32 (d3:Int)]}) [g]):=by
    rw[cK _ (List.mem_singleton.2 rfl)];exact(hle.trans iD).trans Hn
   have HN:=HK;refine aj [0,1,8,9,10] rfl ?_;refine aC rfl (ab 1 rfl (cY rfl rfl ⟨by omega,by omega⟩ (ab 1 rfl (az ?_))));refine⟨k-1,_,r3,l.set (k-1) d3,by omega,au,HM,by rw[XZ,bF],by simp[vd],bL.set (by rw[cn];omega),by omega,agU,by rw[XZ,cK _ (List.mem_singleton.2 rfl)];exact HN,?_⟩;rw[XR LX,show k-1+1=k by omega,XR (l:=l.set (k-1) d3) (List.getElem?_set_self (by omega)),show k-1+1=k by omega,List.drop_set_of_lt (by omega),hv]
   have h1:B*(val (List.drop k l)*y+r)=B*val (List.drop k l)*y+B*r:=by rw[Nat.mul_add,Nat.mul_assoc]
   have h2:(d3+B*val (List.drop k l))*y=y*d3+B*val (List.drop k l)*y:=by rw[Nat.add_mul,Nat.mul_comm d3]
   rw[h1,h2];omega
  have hb:k=0:=by simp at hb;omega
  subst hb;rw[List.drop_zero,List.drop_zero,cS]at hv
  have LY:val l=x/y:=by rw[hv,Nat.add_comm,Nat.add_mul_div_right _ _ jz,Nat.div_eq_of_lt Qy,Nat.zero_add]
  have kf:r=x%y:=by rw[hv,Nat.add_comm,Nat.add_mul_mod_self_right,Nat.mod_eq_of_lt Qy]
  refine aW (aj [8,9] rfl ?_);refine ag (ab 1 rfl (aF rfl rfl (BT (l:=l) ⟨some ⟨g,0,none⟩,_,by rw[vd],by omega,fun i v hv=>⟨_,rfl,by simp[cell,iX,Gp,dH,hv]⟩⟩ bL (by omega)) ?_));rintro v9 kz QE;refine ab 3 rfl (ae [4,5] ?_);refine aE ⟨.inr rfl,_,.tmp rfl (.tmp rfl (.nil)),?_⟩;exact⟨(hle.trans (bt _ _)).trans QE.le,_,_,rfl,by rw[←LY];exact QE.nat,by rw[←kf];exact(lr.le (bt _ _)).le QE.le⟩
end Go.aw
namespace Go.aw
open Go.Proofs Num
theorem X0(f:Bool)(n d:Nat)(k:Nat)(hn:(ao n).length≤k)(hd:(ao d).length≤k):aP (cL f n d)≤k+1∧(0<d→aP (cL f n d)≤k):=by
 rcases Nat.eq_zero_or_pos d with e | e
 ·subst e
  rw[Gw]
  refine⟨?_,fun h=>by omega⟩
  have:aP 0=1:=by
   unfold aP
   show max (ao 0).length (ao 1).length=1
   rw[qI,vk];rfl
  omega
 ·have h1:=mH (Nat.div_le_self n (Nat.gcd n d))
  have h2:=mH (Nat.div_le_self d (Nat.gcd n d))
  have:aP (cL f n d)≤k:=by
   unfold aP
   rw[Bh e,yU e];omega
  exact⟨by omega,fun _=>this⟩
theorem ct.size{H:Heap}{v:Value}{q:Rat}{N:Nat}(h:ct H v q N):aP q≤N+2:=by
 obtain⟨f,u,w,l1,l2,_,_,_,h1,h2,h3,h4,rfl⟩:=h
 have k1:=Dz h1
 have k2:=Dz h2
 exact(X0 f _ _ (N+1) (by omega) (by omega)).1
theorem X1{H:Heap}{w:Value}(hw:dh H w 1):bK H (.agg #[.bool false,.slice none 0 0,w]) 0:=⟨_,_,rfl,wu H,hw⟩
theorem agV{H:Heap}{f:Bool}{u w:Value}{n d:Nat}(hn:0<n)(hd:0<d)(hu:dh H u (n/Nat.gcd n d))(hw:dh H w (d/Nat.gcd n d)):bK H (.agg #[.bool f,u,w]) (cL f n d):=by
 refine⟨u,w,?_,by rw[Bh hd];exact hu,by rw[yU hd];exact hw⟩
 rw[Gx hd hn]
theorem agW(p q:Rat):ik (p-q)=wD p q:=by
 unfold ik wD
 by_cases h:p<q
 ·rw[if_pos (by grind),if_pos h]
 ·rw[if_neg (by grind),if_neg h]
  by_cases e:p=q
  ·rw[if_pos (by grind),if_pos e]
  ·rw[if_neg (by grind),if_neg e]
theorem dh.sC{H:Heap}{v:Value}{x:Nat}(h:dh H v x):jB H v (ao x):=h
theorem agX{H:Heap}{u v:Value}{x y:Nat}(hx:dh H u x)(hy:dh H v y)(hm:((ao x).length:Int)<4398046511104)(bI:((ao y).length:Int)<4398046511104):
 Fn Tryz.prog 149 #[u,v] H (nv H (Nat.gcd x y)):=by
 refine aZ (args:=[_,_]) Tryz.func149 rfl rfl Tryz.ntmps149 rfl rfl fun w0=> ?_;refine aj [0,1] rfl ?_;refine ag (ab 1 rfl (ae [0,1] ?_));refine aq (aG (oU (fun(u:Value)(a:Nat)(v:Value)(b:Nat)=>b) (fun(u:Value)(a:Nat)(v:Value)(b:Nat)=>put (put (emp) 0 (.val (u))) 1 (.val (v))) (fun(u:Value)(a:Nat)(v:Value)(b:Nat) H'=>Heap.le H H'∧dh H' u a∧dh H' v b∧((ao a).length:Int)<4398046511104∧((ao b).length:Int)<4398046511104∧Nat.gcd a b=Nat.gcd x y) _ x _ y (⟨.refl _,hx,hy,hm,bI,rfl⟩) au ?_));rintro u a v b H1 ⟨hle,ha,dr,jC,eF,hg⟩;obtain⟨Aha,cha,rfl,amJ,amK⟩:=id ha;obtain⟨amL,amM,rfl,amN,amO⟩:=id dr;refine aq (ag (ab 3 rfl (ae [0,1,9] ?_)));refine aD rfl (fun hb=> ?_) (fun hb=> ?_)
 ·
  have hb:0<b:=Nat.pos_of_ne_zero fun e=>by rw[j6.2 e]at hb;simp at hb
  refine aA (aj [0,1] rfl ?_);refine aG (ag (ab 2 rfl (aF rfl rfl (HF ha dr hb jC eF) ?_)));rintro v2 H2 ⟨dC,q2,r2,rfl,bO,mJ⟩;refine ab 5 rfl (ae [1,6] ?_);refine aC rfl (ab 4 rfl (az ?_));have zi:=mH (Nat.le_of_lt (Nat.mod_lt a hb));exact⟨_,b,_,a%b,Nat.mod_lt a hb,au,hle.trans dC,dr.le dC,mJ,eF,by omega,by rw[←hg,Nat.gcd_comm b,←Nat.gcd_rec,Nat.gcd_comm]⟩
 ·
  have hb:b=0:=j6.1 (by have:=of_decide_eq_false hb;omega);subst hb;rw[Nat.gcd_zero_right]at hg;subst hg;refine aW (aj [0] rfl ?_);refine ag (ab 2 rfl (ae [4] ?_));refine aE ⟨.inr rfl,_,.tmp rfl (.nil),?_⟩;exact⟨hle,ha⟩
theorem xD{H:Heap}{u v:Value}{f:Bool}{l1 l2:List Nat}(hu:jB H u l1)(hv:jB H v l2)(h1:∀x,x∈l1→x<4294967296)(h2:∀x,x∈l2→x<4294967296)(hm:(l1.length:Int)≤4398046511000)(bI:(l2.length:Int)≤4398046511000):
 Fn Tryz.prog 75 #[.bool f,u,v] H (kt H (cL f (val l1) (val l2))):=by
 have k1:=Dz h1
 have k2:=Dz h2
 obtain⟨Ahu,chu,rfl,amP,amQ⟩:=id hu
 obtain⟨Ahv,chv,rfl,amR,amS⟩:=id hv;refine aZ (args:=[_,_,_]) Tryz.func75 rfl rfl Tryz.ntmps75 rfl rfl fun w0=> ?_;refine aj [0,1,2] rfl ?_;refine ag (bn bZ rfl (ae [0,1,2,6] ?_));refine ag (ab 1 rfl (aF rfl rfl (XO hu h1 (by omega)) ?_));rintro v1 H1 fH;refine ab 1 rfl (aF rfl rfl (XO (hv.le fH.le) h2 (by omega)) ?_);rintro v2 H2 ee;obtain⟨n,hn⟩:∃n,n=val l1:=⟨_,rfl⟩;obtain⟨d,hd⟩:∃d,d=val l2:=⟨_,rfl⟩;rw[←hn]at fH k1;rw[←hd]at ee k2;have di:=fH.nat.le ee.le;have gX:=ee.nat;obtain⟨Pm,Pn,rfl,Po,Pp⟩:=id di;obtain⟨Wb,Wc,rfl,Wd,We⟩:=id gX;have hle:=fH.le.trans ee.le;rw[←hn,←hd];refine ab 2 rfl (ae [0,1,2,6] ?_);refine aq ?_
 rcases Nat.eq_zero_or_pos n with jE | jE
 ·
  have BZ:=j6.2 jE;refine ag (ab 2 rfl (aJ true rfl rfl (jR (by omega)) (ab 5 rfl (ae [0,1,2,6,19] ?_))));refine dJ rfl (ag (cR Tryz.underlying29 eG rfl rfl rfl rfl rfl rfl rfl ?_));intro gb bo;refine de ah rfl bZ rfl rfl ?_;obtain⟨ti,ak,al⟩:=a6;refine aI (.inl ⟨rfl,rfl⟩) rfl rfl rfl ak al rfl rfl rfl (ae [6] ?_);obtain⟨bQ,aN,aO⟩:=a6;refine aE ⟨.inr rfl,_,.agg rfl Tryz.underlying31 aN aO (.nil),?_⟩;exact⟨hle.trans (Heap.bC _ bo),by rw[jE,wC];exact X1 yV⟩
 ·
  have BZ:(ao n).length≠0:=fun e=>by rw[j6]at e;omega
  rcases Nat.eq_zero_or_pos d with xA | xA
  ·
   have BZ:=j6.2 xA;refine ag (ab 2 rfl (aJ false rfl rfl (lD (by omega)) (ab 3 rfl (aJ true rfl rfl (jR (by omega)) (ab 1 rfl (ae [0,1,2,6,19] ?_))))));refine dJ rfl (ag (cR Tryz.underlying29 eG rfl rfl rfl rfl rfl rfl rfl ?_));intro gb bo;refine de ah rfl bZ rfl rfl ?_;obtain⟨ti,ak,al⟩:=a6;refine aI (.inl ⟨rfl,rfl⟩) rfl rfl rfl ak al rfl rfl rfl (ae [6] ?_);obtain⟨bQ,aN,aO⟩:=a6;refine aE ⟨.inr rfl,_,.agg rfl Tryz.underlying31 aN aO (.nil),?_⟩;exact⟨hle.trans (Heap.bC _ bo),by rw[xA,Gw];exact X1 yV⟩
  have cH:(ao d).length≠0:=fun e=>by rw[j6]at e;omega
  refine ag (ab 2 rfl (aJ false rfl rfl (lD (by omega)) (ab 3 rfl (aJ false rfl rfl (lD (by omega)) (ab 1 rfl (ae [0,1,2,6,19] ?_))))));refine dR rfl (aA (aj [0,1,2,6] rfl ?_));refine ag (ab 2 rfl (aF rfl rfl (agX di gX (by omega) (by omega)) ?_));rintro v3 H3 eH;obtain⟨g,hg⟩:∃g,g=Nat.gcd n d:=⟨_,rfl⟩;rw[←hg]at eH
  have oP:0<g:=by rw[hg];exact Nat.gcd_pos_of_pos_left _ jE
  have j7:=eH.nat;have wY:=mH (show g≤n by rw[hg];exact Nat.gcd_le_left _ jE);have QF:=di.le eH.le;have QG:=gX.le eH.le;obtain⟨Pq,Pr,rfl,Ps,KZ⟩:=id j7;refine ab 1 rfl (ae [0,1,2,6,7] ?_);refine AU (fun(u3:Value)(v3:Value)=>put (put (put (put (emp) 0 (.val (.bool f))) 1 (.val (u3))) 2 (.val (v3))) 6 (.box [.bool false,.slice none 0 0,.slice none 0 0])) (fun(u3:Value)(v3:Value) H'=>Heap.le H H'∧dh H' u3 (n/g)∧dh H' v3 (d/g)) ?_ ?_
  ·
   by_cases hl:(ao g).length=1
   ·
    obtain⟨z,hz⟩:=List.length_eq_one_iff.1 hl
    have ou:z=g:=by have:=cS g;rw[hz]at this;simpa [val]using this
    have xt:(ao g)[0]? = some g:=by rw[hz,ou];rfl
    refine ag (ab 2 rfl (aJ false rfl rfl (wq (by omega)) (ab 2 rfl (aS ah rfl rfl rfl rfl rfl (KZ) (du xt) (by omega) (by omega) fun _=>(ab 2 rfl (ae [0,1,2,6,7,33] ?_))))));refine aD rfl (fun hb=> ?_) (fun hb=> ?_)
    ·
     skip
     refine ag (ab 2 rfl (aF rfl rfl (HF QF j7 oP (by omega) (by omega)) ?_));rintro v4 H4 ⟨dV,q4,r4,rfl,cI,DA⟩;refine ab 4 rfl (ae [0,1,2,6,7] ?_);refine aC rfl (ab 2 rfl (aF rfl rfl (HF (QG.le dV) (j7.le dV) oP (by omega) (by omega)) ?_));rintro v5 H5 ⟨gq,q5,r5,rfl,eW,rV⟩;refine ab 4 rfl (az ?_);exact⟨_,_,au,(hle.trans eH.le).trans (dV.trans gq),cI.le gq,eW⟩
    have o0:g=1:=by simp at hb;omega
    refine aA ?_;exact⟨_,_,au,hle.trans eH.le,by rw[o0,Nat.div_one];exact QF,by rw[o0,Nat.div_one];exact QG⟩
   skip
   refine ag (ab 2 rfl (aJ true rfl rfl (u0 (by omega)) (ab 6 rfl (ae [0,1,2,6,7,33] ?_))));refine dJ rfl (ag (ab 2 rfl (aF rfl rfl (HF QF j7 oP (by omega) (by omega)) ?_)));rintro v4 H4 ⟨dV,q4,r4,rfl,cI,DA⟩;refine ab 4 rfl (ae [0,1,2,6,7] ?_);refine aC rfl (ab 2 rfl (aF rfl rfl (HF (QG.le dV) (j7.le dV) oP (by omega) (by omega)) ?_));rintro v5 H5 ⟨gq,q5,r5,rfl,eW,rV⟩;refine ab 4 rfl (az ?_);exact⟨_,_,au,(hle.trans eH.le).trans (dV.trans gq),cI.le gq,eW⟩
  rintro u3 v3 H6 ⟨sh,X2,zy⟩;obtain⟨amT,amU,rfl,amV,amW⟩:=id X2;obtain⟨amX,amY,rfl,amZ,am0⟩:=id zy;refine ag (ab 3 rfl (de ah rfl bZ rfl rfl ?_));obtain⟨ti,ak,al⟩:=a6;refine aI (.inl ⟨rfl,rfl⟩) rfl rfl rfl ak al rfl rfl rfl (ae [6] ?_);obtain⟨bQ,aN,aO⟩:=a6;refine aE ⟨.inr rfl,_,.agg rfl Tryz.underlying31 aN aO (.nil),?_⟩;exact⟨sh,agV jE xA (by rw[←hg];exact X2) (by rw[←hg];exact zy)⟩
theorem qZ{H:Heap}{n:Int}(h1: -9223372036854775808≤n)(h2:n≤9223372036854775807):
 Fn Tryz.prog 20 #[.int .i64 n] H (kt H (n:Rat)):=by
 have gN:(ao n.natAbs).length≤3:=jn.2 (by rw[cn];omega)
 have HO:=Gy n
 have ji:val (ao 1)=1:=cS 1
 have cH:(ao 1).length=1:=by rw[vk];rfl
 refine aZ (args:=[_]) Tryz.func20 rfl rfl Tryz.ntmps20 rfl rfl fun w0=> ?_;refine aj [0] rfl ?_;refine ag (bn bZ rfl (ae [0,2] ?_));refine aq (ag (ab 2 rfl (ae [0,2,4] ?_)));refine aD rfl (fun hb=> ?_) (fun hb=> ?_)
 ·
  have hb:n<0:=by simpa using hb
  rw[decide_eq_true hb]at HO;refine ag (ab 1 rfl (aH rfl rfl ⟨by omega,by omega⟩ (tl rfl ⟨by omega,by omega⟩ (dg ah rfl rfl rfl ⟨by omega,by omega⟩ (aH rfl rfl ⟨by omega,by omega⟩ ?_)))));rw[show -(n+1)+1=((n.natAbs:Nat):Int) by omega];refine aF rfl rfl (HC (by omega)) ?_;rintro v1 H1 fH;refine cR Tryz.underlying29 eG rfl rfl rfl rfl rfl rfl rfl ?_;intro gb bo;refine aF rfl rfl (xD (fH.nat.le (Heap.bC _ bo)) (yV).sC oa oa (by omega) (by omega)) ?_;rintro w2 G2 ⟨dT,bO⟩;rw[cS,ji,HO]at bO;obtain⟨u2,x2,rfl,fR,eR⟩:=id bO;obtain⟨pd,pe,rfl,pf,pg⟩:=id fR;obtain⟨ph,pj,rfl,po,px⟩:=id eR;obtain⟨ti,ak,al⟩:=a6;refine aI (.inl ⟨rfl,rfl⟩) rfl rfl rfl ak al rfl rfl rfl (ae [2] ?_);obtain⟨bQ,aN,aO⟩:=a6;refine aE ⟨.inr rfl,_,.agg rfl Tryz.underlying31 aN aO (.nil),?_⟩;exact⟨(fH.le.trans (Heap.bC _ bo)).trans dT,bO⟩
 ·
  have hb:¬n<0:=by simpa using hb
  rw[decide_eq_false hb]at HO;obtain⟨m,rfl⟩:∃m:Nat,n=(m:Int):=⟨n.natAbs,by omega⟩;rw[Int.natAbs_natCast]at HO gN;refine aA (aj [0,2] rfl ?_);refine ag (ab 1 rfl (dg ah rfl rfl rfl ⟨by omega,by omega⟩ (aF rfl rfl (HC (x:=m) (by omega)) ?_)));rintro v1 H1 fH;refine cR Tryz.underlying29 eG rfl rfl rfl rfl rfl rfl rfl ?_;intro gb bo;refine aF rfl rfl (xD (fH.nat.le (Heap.bC _ bo)) (yV).sC oa oa (by omega) (by omega)) ?_;rintro w2 G2 ⟨dT,bO⟩;rw[cS,ji,HO]at bO;obtain⟨u2,x2,rfl,fR,eR⟩:=id bO;obtain⟨pd,pe,rfl,pf,pg⟩:=id fR;obtain⟨ph,pj,rfl,po,px⟩:=id eR;obtain⟨ti,ak,al⟩:=a6;refine aI (.inl ⟨rfl,rfl⟩) rfl rfl rfl ak al rfl rfl rfl (ae [2] ?_);obtain⟨bQ,aN,aO⟩:=a6;refine aE ⟨.inr rfl,_,.agg rfl Tryz.underlying31 aN aO (.nil),?_⟩;exact⟨(fH.le.trans (Heap.bC _ bo)).trans dT,bO⟩
theorem qg{H:Heap}{v:Value}{q:Rat}{N:Nat}(hv:ct H v q N)(hN:(N:Int)≤4398046511000):
 Fn Tryz.prog 77 #[v] H (kt H q):=by
 obtain⟨bf,bu,bw,od,oe,rfl,fa,bU,ny,LZ,X3,Er,rfl⟩:=id hv;refine aZ (args:=[_]) Tryz.func77 rfl rfl Tryz.ntmps77 rfl rfl fun w0=> ?_;refine aj [0] rfl ?_;refine ag (bW rfl rfl (bn bZ rfl (ae [1,2] ?_)));refine ag (ab 6 rfl (aF rfl rfl (xD fa bU ny LZ (by omega) (by omega)) ?_));rintro w2 G2 ⟨dT,bO⟩;obtain⟨u2,x2,rfl,fR,eR⟩:=id bO;obtain⟨pd,pe,rfl,pf,pg⟩:=id fR;obtain⟨ph,pj,rfl,po,px⟩:=id eR;obtain⟨ti,ak,al⟩:=a6;refine aI (.inl ⟨rfl,rfl⟩) rfl rfl rfl ak al rfl rfl rfl (ae [2] ?_);obtain⟨bQ,aN,aO⟩:=a6;refine aE ⟨.inr rfl,_,.agg rfl Tryz.underlying31 aN aO (.nil),?_⟩;exact⟨dT,bO⟩
theorem xE{H:Heap}{v:Value}{q:Rat}{N:Nat}(hv:ct H v q N)(hN:(N:Int)≤4398046511000):
 Fn Tryz.prog 67 #[v] H (fun v H'=>Heap.le H H'∧v = .int .i64 (ik q)):=by
 obtain⟨bf,bu,bw,od,oe,rfl,_⟩:=id hv
 have ln:=Wm q;refine aZ (args:=[_]) Tryz.func67 rfl rfl Tryz.ntmps67 rfl rfl fun w0=> ?_;refine aj [0] rfl ?_;refine ag (bW rfl rfl (ab 1 rfl (ae [1] ?_)));refine ag (ab 1 rfl (aF rfl rfl (qg hv hN) ?_));rintro w2 G2 ⟨dT,bO⟩;obtain⟨u2,x2,rfl,fR,eR⟩:=id bO;obtain⟨pd,pe,rfl,pf,pg⟩:=id fR;obtain⟨ph,pj,rfl,po,px⟩:=id eR;obtain⟨ti,ak,al⟩:=a6;refine aI (.inl ⟨rfl,rfl⟩) rfl rfl rfl ak al rfl rfl rfl (ae [1] ?_);refine aq (aG (ag (ab 5 rfl (ae [1,5] ?_))));refine aD rfl (fun hb=> ?_) (fun hb=> ?_)
 ·
  have hb:q.num.natAbs=0:=j6.1 (by have:=eq_of_beq hb;omega);rw[if_pos hb]at ln;refine ag (ab 1 rfl (ae [2] ?_));refine aE ⟨.inr rfl,_,.tmp rfl (.nil),?_⟩;exact⟨dT,by rw[ln];rfl⟩
 ·
  have hb:q.num.natAbs≠0:=fun e=>by rw[j6.2 e]at hb;simp at hb
  rw[if_neg hb]at ln;refine ag (ab 3 rfl (ae [10] ?_));refine aD rfl (fun hb=> ?_) (fun hb=> ?_)
  ·
   rw[hb]at ln;refine ag (ab 1 rfl (ae [2] ?_));refine aE ⟨.inr rfl,_,.tmp rfl (.nil),?_⟩;exact⟨dT,by rw[ln];rfl⟩
  rw[hb]at ln;refine aA (aj [] rfl ?_);refine ag (ab 1 rfl (ae [2] ?_));refine aE ⟨.inr rfl,_,.tmp rfl (.nil),?_⟩;exact⟨dT,by rw[ln];rfl⟩
theorem Es{H:Heap}{v:Value}{q:Rat}{N:Nat}(hv:ct H v q N)(hN:(N:Int)≤4398046511000):
 Fn Tryz.prog 135 #[v] H (kt H (-q)):=by
 obtain⟨bf,bu,bw,od,oe,rfl,fa,bU,ny,LZ,X3,Er,rfl⟩:=id hv;refine aZ (args:=[_]) Tryz.func135 rfl rfl Tryz.ntmps135 rfl rfl fun w0=> ?_;refine aj [0] rfl ?_;refine ag (bW rfl rfl (bn bZ rfl (ae [1,2] ?_)));refine ag (ab 7 rfl (aF rfl rfl (xD (f:= !bf) fa bU ny LZ (by omega) (by omega)) ?_));rintro w2 G2 ⟨dT,bO⟩;rw[←Pg]at bO;obtain⟨u2,x2,rfl,fR,eR⟩:=id bO;obtain⟨pd,pe,rfl,pf,pg⟩:=id fR;obtain⟨ph,pj,rfl,po,px⟩:=id eR;obtain⟨ti,ak,al⟩:=a6;refine aI (.inl ⟨rfl,rfl⟩) rfl rfl rfl ak al rfl rfl rfl (ae [2] ?_);obtain⟨bQ,aN,aO⟩:=a6;refine aE ⟨.inr rfl,_,.agg rfl Tryz.underlying31 aN aO (.nil),?_⟩;exact⟨dT,bO⟩
theorem X4{H:Heap}{v v2:Value}{q q2:Rat}{N:Nat}(hv:ct H v q N)(dI:ct H v2 q2 N)(hN:(N:Int)≤1099511627780):
 Fn Tryz.prog 21 #[v,v2] H (kt H (q+q2)):=by
 obtain⟨bf,bu,bw,od,oe,rfl,_⟩:=id hv
 obtain⟨cf,cu,cw,yX,yY,rfl,_⟩:=id dI
 have jD:=hv.size
 have tT:=dI.size
 have fh:=Nat.pos_of_ne_zero q.den_nz
 have ks:=Nat.pos_of_ne_zero q2.den_nz
 have vC:=wE q
 have sD:=wE q2
 obtain⟨f1,jg⟩:∃f1,f1=decide (q.num<0):=⟨_,rfl⟩
 obtain⟨f2,j0⟩:∃f2,f2=decide (q2.num<0):=⟨_,rfl⟩
 obtain⟨n1,di⟩:∃n1,n1=q.num.natAbs:=⟨_,rfl⟩
 obtain⟨n2,gX⟩:∃n2,n2=q2.num.natAbs:=⟨_,rfl⟩
 obtain⟨d1,qh⟩:∃d1,d1=q.den:=⟨_,rfl⟩
 obtain⟨d2,qi⟩:∃d2,d2=q2.den:=⟨_,rfl⟩
 have hz:(ao n1).length≤N+2∧(ao d1).length≤N+2∧(ao n2).length≤N+2∧(ao d2).length≤N+2:=by
  unfold aP at jD tT
  rw[di,gX,qh,qi];omega
 rw[←jg,←di,←qh]at vC
 rw[←j0,←gX,←qi]at sD
 rw[←qh]at fh
 rw[←qi]at ks
 have rX:=pa n1 d2
 have lF:=pa n2 d1
 have Pk:=pa d1 d2
 have KY:=Nat.mul_pos fh ks
 have lE:=V5 (x:=n1*d2) (y:=n2*d1) (k:=2*(N+2)) (by omega) (by omega);refine aZ (args:=[_,_]) Tryz.func21 rfl rfl Tryz.ntmps21 rfl rfl fun w0=> ?_;refine aj [0,1] rfl ?_;refine ag (bW rfl rfl (bW rfl rfl (bn bZ rfl (ae [2,3,4] ?_))));refine bP .bJ [0,2,1,3,4,5] follows (by kernel_rfl) ?_;refine ab 2 rfl (a8 rfl rfl (qg hv (by omega)) (fun _ _ h=>by first | exact h.le | exact h.1) ?_);rintro w1 G1 ⟨cH,tU⟩
 unfold bK at tU
 rw[←jg,←di,←qh]at tU;obtain⟨wF,wG,rfl,gM,gY⟩:=id tU;obtain⟨wH,wI,rfl,wJ,wK⟩:=id gM;obtain⟨wL,wM,rfl,wN,wO⟩:=id gY;refine a8 rfl rfl (qg (dI.le cH) (by omega)) (fun _ _ h=>by first | exact h.le | exact h.1) ?_;rintro w2 G2 ⟨dC,tV⟩
 unfold bK at tV
 rw[←j0,←gX,←qi]at tV;obtain⟨DH,DI,rfl,l7,lG⟩:=id tV;obtain⟨Bi,Bj,rfl,DJ,DK⟩:=id l7;obtain⟨Bk,Bl,rfl,DL,DM⟩:=id lG;have gM:=gM.le dC;have gY:=gY.le dC;have hle:=cH.trans dC;obtain⟨ti,ak,al⟩:=a6;refine aI (.inl ⟨rfl,rfl⟩) rfl rfl rfl ak al rfl rfl rfl ?_;obtain⟨ti,ak,al⟩:=a6;refine aI (.inl ⟨rfl,rfl⟩) rfl rfl rfl ak al rfl rfl rfl (ae [2,3,4] ?_);refine bP .bJ [0,1,2,3,5,6,7,8,4,9,10,11] follows (by kernel_rfl) ?_;refine ab 8 rfl (a8 rfl rfl (xz gM lG (by omega) (by omega)) (fun _ _ h=>by first | exact h.le | exact h.1) ?_);rintro v3 H3 eH;refine a8 rfl rfl (xz (l7.le eH.le) (gY.le eH.le) (by omega) (by omega)) (fun _ _ h=>by first | exact h.le | exact h.1) ?_;rintro v4 H4 fI;refine ab 2 rfl (ae [2,3,4,5,6] ?_);refine ag (ab 4 rfl (aF rfl rfl (xz ((gY.le eH.le).le fI.le) ((lG.le eH.le).le fI.le) (by omega) (by omega)) ?_));rintro v5 H5 L0;have iY:=((hle.trans eH.le).trans fI.le).trans L0.le;have q3:=(eH.nat.le fI.le).le L0.le;have BV:=fI.nat.le L0.le;have vD:=L0.nat;obtain⟨QH,QI,rfl,QJ,QK⟩:=id q3;obtain⟨am1,am2,rfl,am3,am4⟩:=id BV;obtain⟨am5,am6,rfl,am7,am8⟩:=id vD;refine vr 1 ?_
 refine ae [2,3,4,5,6,7] ?_;refine aq (ag (ab 4 rfl (OC Tryz.underlying4 rfl rfl (ae [2,3,4,5,6,7,31] ?_))));refine aD rfl (fun hb=> ?_) (fun hb=> ?_)
 ·
  have qL:f1=f2:=by simpa using hb
  refine bP .bJ [0,1,2,3,5,4,6,7] follows (by kernel_rfl) ?_;refine ab 5 rfl (a8 rfl rfl (agH q3 BV (by omega) (by omega)) (fun _ _ h=>by first | exact h.le | exact h.1) ?_);rintro v6 H6 o6;have vE:=vD.le o6.le;have sE:=o6.nat;obtain⟨X5,X6,rfl,X7,X8⟩:=id sE;refine a8 rfl rfl (xD (f:=f1) sE.sC vE.sC oa oa (by omega) (by omega)) (fun _ _ h=>by first | exact h.le | exact h.1) ?_;rintro w7 G7 ⟨HP,jb⟩;rw[cS,cS,←V1 f1 fh ks,vC,qL,sD]at jb;obtain⟨u7,x7,rfl,HQ,xF⟩:=id jb;obtain⟨X9,Ya,rfl,Yb,Yc⟩:=id HQ;obtain⟨Yd,Ye,rfl,Yf,Yg⟩:=id xF;obtain⟨ti,ak,al⟩:=a6;refine aI (.inl ⟨rfl,rfl⟩) rfl rfl rfl ak al rfl rfl rfl (ae [4] ?_);obtain⟨bQ,aN,aO⟩:=a6;refine aE ⟨.inr rfl,_,.agg rfl Tryz.underlying31 aN aO (.nil),?_⟩;exact⟨(iY.trans o6.le).trans HP,jb⟩
 ·
  have qL:f1≠f2:=by simpa using hb
  refine aA (aj [2,3,4,5,6,7] rfl ?_);refine aq (ag (ab 2 rfl (aF rfl rfl (LS q3 BV (by omega)) ?_)));rintro v6 H6 ⟨e6,rfl⟩;rw[e6];refine ab 1 rfl (ae [2,3,4,5,6,7,42] ?_);refine aD rfl (fun hb=> ?_) (fun hb=> ?_)
  ·
   have hb:n2*d1≤n1*d2:=HE.1 (by simpa using hb);have oc:=mH (Nat.sub_le (n1*d2) (n2*d1));refine bP .bJ [0,1,2,3,5,4,6,7] follows (by kernel_rfl) ?_;refine ab 5 rfl (a8 rfl rfl (LV q3 BV hb (by omega)) (fun _ _ h=>by first | exact h.le | exact h.1) ?_);rintro v6 H6 o6;have vE:=vD.le o6.le;have sE:=o6.nat;obtain⟨X5,X6,rfl,X7,X8⟩:=id sE;refine a8 rfl rfl (xD (f:=f1) sE.sC vE.sC oa oa (by omega) (by omega)) (fun _ _ h=>by first | exact h.le | exact h.1) ?_;rintro w7 G7 ⟨HP,jb⟩;rw[cS,cS,←Pf qL fh ks hb,vC,sD]at jb;obtain⟨u7,x7,rfl,HQ,xF⟩:=id jb;obtain⟨X9,Ya,rfl,Yb,Yc⟩:=id HQ;obtain⟨Yd,Ye,rfl,Yf,Yg⟩:=id xF;obtain⟨ti,ak,al⟩:=a6;refine aI (.inl ⟨rfl,rfl⟩) rfl rfl rfl ak al rfl rfl rfl (ae [4] ?_);obtain⟨bQ,aN,aO⟩:=a6;refine aE ⟨.inr rfl,_,.agg rfl Tryz.underlying31 aN aO (.nil),?_⟩;exact⟨(iY.trans o6.le).trans HP,jb⟩
  have hb:n1*d2≤n2*d1:=by
   have:¬0≤kJ (n1*d2) (n2*d1):=by simp at hb;omega
   rw[HE]at this;omega
  have oc:=mH (Nat.sub_le (n2*d1) (n1*d2));refine aA (aj [3,4,5,6,7] rfl ?_);refine bP .bJ [0,1,2,3,5,4,6,7] follows (by kernel_rfl) ?_;refine ab 5 rfl (a8 rfl rfl (LV BV q3 hb (by omega)) (fun _ _ h=>by first | exact h.le | exact h.1) ?_);rintro v6 H6 o6;have vE:=vD.le o6.le;have sE:=o6.nat;obtain⟨X5,X6,rfl,X7,X8⟩:=id sE;refine a8 rfl rfl (xD (f:=f2) sE.sC vE.sC oa oa (by omega) (by omega)) (fun _ _ h=>by first | exact h.le | exact h.1) ?_;rintro w7 G7 ⟨HP,jb⟩;rw[cS,cS,←V2 qL fh ks hb,vC,sD]at jb;obtain⟨u7,x7,rfl,HQ,xF⟩:=id jb;obtain⟨X9,Ya,rfl,Yb,Yc⟩:=id HQ;obtain⟨Yd,Ye,rfl,Yf,Yg⟩:=id xF;obtain⟨ti,ak,al⟩:=a6;refine aI (.inl ⟨rfl,rfl⟩) rfl rfl rfl ak al rfl rfl rfl (ae [4] ?_);obtain⟨bQ,aN,aO⟩:=a6;refine aE ⟨.inr rfl,_,.agg rfl Tryz.underlying31 aN aO (.nil),?_⟩;exact⟨(iY.trans o6.le).trans HP,jb⟩
theorem Et{H:Heap}{v v2:Value}{q q2:Rat}{N:Nat}(hv:ct H v q N)(dI:ct H v2 q2 N)(hN:(N:Int)≤1099511627778):
 Fn Tryz.prog 65 #[v,v2] H (kt H (q-q2)):=by
 obtain⟨bf,bu,bw,od,oe,rfl,_⟩:=id hv
 obtain⟨cf,cu,cw,yX,yY,rfl,_⟩:=id dI
 have tT:=dI.size;refine aZ (args:=[_,_]) Tryz.func65 rfl rfl Tryz.ntmps65 rfl rfl fun w0=> ?_;refine aj [0,1] rfl ?_;refine ag (bW rfl rfl (bW rfl rfl (bn bZ rfl (ae [2,3,4] ?_))));refine bP .bJ [0,1,2,3,4] follows (by kernel_rfl) ?_;refine ab 2 rfl (a8 rfl rfl (Es dI (by omega)) (fun _ _ h=>by first | exact h.le | exact h.1) ?_);rintro w2 G2 ⟨dT,bO⟩;obtain⟨u2,x2,rfl,fR,eR⟩:=id bO;obtain⟨pd,pe,rfl,pf,pg⟩:=id fR;obtain⟨ph,pj,rfl,po,px⟩:=id eR;have mJ:=bO.raw;rw[show aP (-q2)=aP q2 by unfold aP;rw[Rat.neg_num,Int.natAbs_neg,Rat.neg_den]]at mJ;refine a8 rfl rfl (X4 (N:=N+2) ((hv.le dT).mono (by omega)) (mJ.mono tT) (by omega)) (fun _ _ h=>by first | exact h.le | exact h.1) ?_;rintro w3 G3 ⟨qQ,iN⟩;rw[←Rat.sub_eq_add_neg]at iN;obtain⟨u3,x3,rfl,pA,gD⟩:=id iN;obtain⟨Bw,Bx,rfl,By,Bz⟩:=id pA;obtain⟨BA,BB,rfl,BC,BD⟩:=id gD;obtain⟨ti,ak,al⟩:=a6;refine aI (.inl ⟨rfl,rfl⟩) rfl rfl rfl ak al rfl rfl rfl (ae [4] ?_);obtain⟨bQ,aN,aO⟩:=a6;refine aE ⟨.inr rfl,_,.agg rfl Tryz.underlying31 aN aO (.nil),?_⟩;exact⟨dT.trans qQ,iN⟩
theorem Yh{H:Heap}{v v2:Value}{q q2:Rat}{N:Nat}(hv:ct H v q N)(dI:ct H v2 q2 N)(hN:(N:Int)≤1099511627776):
 Fn Tryz.prog 14 #[v,v2] H (fun v H'=>Heap.le H H'∧v = .int .i64 (wD q q2)):=by
 obtain⟨bf,bu,bw,od,oe,rfl,_⟩:=id hv
 obtain⟨cf,cu,cw,yX,yY,rfl,_⟩:=id dI
 have jD:=hv.size
 have tT:=dI.size;refine aZ (args:=[_,_]) Tryz.func14 rfl rfl Tryz.ntmps14 rfl rfl fun w0=> ?_;refine aj [0,1] rfl ?_;refine ag (bW rfl rfl (bW rfl rfl (ab 1 rfl (ae [2,3] ?_))));refine ag (ab 2 rfl (aF rfl rfl (Et hv dI (by omega)) ?_));rintro w2 G2 ⟨dT,bO⟩;obtain⟨u2,x2,rfl,fR,eR⟩:=id bO;obtain⟨pd,pe,rfl,pf,pg⟩:=id fR;obtain⟨ph,pj,rfl,po,px⟩:=id eR;have cQ:=tC q q2;refine aF rfl rfl (xE bO.raw (by omega)) ?_;rintro v3 H3 ⟨gN,rfl⟩;refine ab 1 rfl (ae [4] ?_);refine aE ⟨.inr rfl,_,.tmp rfl (.nil),?_⟩;exact⟨dT.trans gN,by rw[agW];rfl⟩
theorem L1{H:Heap}{v v2:Value}{q q2:Rat}{N:Nat}(hv:ct H v q N)(dI:ct H v2 q2 N)(hN:(N:Int)≤1099511627780):
 Fn Tryz.prog 22 #[v,v2] H (kt H (q*q2)):=by
 obtain⟨bf,bu,bw,od,oe,rfl,_⟩:=id hv
 obtain⟨cf,cu,cw,yX,yY,rfl,_⟩:=id dI
 have jD:=hv.size
 have tT:=dI.size
 have fh:=Nat.pos_of_ne_zero q.den_nz
 have ks:=Nat.pos_of_ne_zero q2.den_nz
 have vC:=wE q
 have sD:=wE q2
 obtain⟨f1,jg⟩:∃f1,f1=decide (q.num<0):=⟨_,rfl⟩
 obtain⟨f2,j0⟩:∃f2,f2=decide (q2.num<0):=⟨_,rfl⟩
 obtain⟨n1,di⟩:∃n1,n1=q.num.natAbs:=⟨_,rfl⟩
 obtain⟨n2,gX⟩:∃n2,n2=q2.num.natAbs:=⟨_,rfl⟩
 obtain⟨d1,qh⟩:∃d1,d1=q.den:=⟨_,rfl⟩
 obtain⟨d2,qi⟩:∃d2,d2=q2.den:=⟨_,rfl⟩
 have hz:(ao n1).length≤N+2∧(ao d1).length≤N+2∧(ao n2).length≤N+2∧(ao d2).length≤N+2:=by
  unfold aP at jD tT
  rw[di,gX,qh,qi];omega
 rw[←jg,←di,←qh]at vC
 rw[←j0,←gX,←qi]at sD
 rw[←qh]at fh
 rw[←qi]at ks
 have rX:=pa n1 n2
 have lF:=pa d1 d2;refine aZ (args:=[_,_]) Tryz.func22 rfl rfl Tryz.ntmps22 rfl rfl fun w0=> ?_;refine aj [0,1] rfl ?_;refine ag (bW rfl rfl (bW rfl rfl (bn bZ rfl (ae [2,3,4] ?_))));refine bP .bJ [0,2,1,3,4,5] follows (by kernel_rfl) ?_;refine ab 2 rfl (a8 rfl rfl (qg hv (by omega)) (fun _ _ h=>by first | exact h.le | exact h.1) ?_);rintro w1 G1 ⟨cH,tU⟩
 unfold bK at tU
 rw[←jg,←di,←qh]at tU;obtain⟨wF,wG,rfl,gM,gY⟩:=id tU;obtain⟨wH,wI,rfl,wJ,wK⟩:=id gM;obtain⟨wL,wM,rfl,wN,wO⟩:=id gY;refine a8 rfl rfl (qg (dI.le cH) (by omega)) (fun _ _ h=>by first | exact h.le | exact h.1) ?_;rintro w2 G2 ⟨dC,tV⟩
 unfold bK at tV
 rw[←j0,←gX,←qi]at tV;obtain⟨DH,DI,rfl,l7,lG⟩:=id tV;obtain⟨Bi,Bj,rfl,DJ,DK⟩:=id l7;obtain⟨Bk,Bl,rfl,DL,DM⟩:=id lG;have gM:=gM.le dC;have gY:=gY.le dC;have hle:=cH.trans dC;obtain⟨ti,ak,al⟩:=a6;refine aI (.inl ⟨rfl,rfl⟩) rfl rfl rfl ak al rfl rfl rfl ?_;obtain⟨ti,ak,al⟩:=a6;refine aI (.inl ⟨rfl,rfl⟩) rfl rfl rfl ak al rfl rfl rfl (ae [2,3,4] ?_);refine bP .bJ [0,1,2,3,4,5,6,7,8,10,11,12,13,9,14,15,16] follows (by kernel_rfl) ?_;refine ab 4 rfl (FQ Tryz.underlying4 rfl rfl (ab 8 rfl (a8 rfl rfl (xz gM l7 (by omega) (by omega)) (fun _ _ h=>by first | exact h.le | exact h.1) ?_)));rintro v3 H3 eH;refine a8 rfl rfl (xz (gY.le eH.le) (lG.le eH.le) (by omega) (by omega)) (fun _ _ h=>by first | exact h.le | exact h.1) ?_;rintro v4 H4 fI;have l8:=eH.nat.le fI.le;have HR:=fI.nat;obtain⟨DN,DO,rfl,DP,DQ⟩:=id l8;obtain⟨agY,agZ,rfl,ag0,ag1⟩:=id HR;refine a8 rfl rfl (xD (f:=f1 != f2) l8.sC HR.sC oa oa (by omega) (by omega)) (fun _ _ h=>by first | exact h.le | exact h.1) ?_;rintro w5 G5 ⟨HS,eW⟩;rw[cS,cS,←Ph,vC,sD]at eW;obtain⟨u5,x5,rfl,HT,q3⟩:=id eW;obtain⟨Yi,Yj,rfl,Yk,Yl⟩:=id HT
 obtain⟨QH,QI,rfl,QJ,QK⟩:=id q3;obtain⟨ti,ak,al⟩:=a6;refine aI (.inl ⟨rfl,rfl⟩) rfl rfl rfl ak al rfl rfl rfl (ae [4] ?_);obtain⟨bQ,aN,aO⟩:=a6;refine aE ⟨.inr rfl,_,.agg rfl Tryz.underlying31 aN aO (.nil),?_⟩;exact⟨((hle.trans eH.le).trans fI.le).trans HS,eW⟩
theorem QL{H:Heap}{v v2:Value}{q q2:Rat}{N:Nat}(hv:ct H v q N)(dI:ct H v2 q2 N)(hN:(N:Int)≤1099511627780):
 Fn Tryz.prog 117 #[v,v2] H (fun v H'=>Heap.le H H'∧∃r,v = .tuple #[r,.bool (decide (q2≠0))]∧bK H' r (q/q2)):=by
 obtain⟨bf,bu,bw,od,oe,rfl,_⟩:=id hv
 obtain⟨cf,cu,cw,yX,yY,rfl,_⟩:=id dI
 have jD:=hv.size
 have tT:=dI.size
 have fh:=Nat.pos_of_ne_zero q.den_nz
 have ks:=Nat.pos_of_ne_zero q2.den_nz
 have vC:=wE q
 have sD:=wE q2
 obtain⟨f1,jg⟩:∃f1,f1=decide (q.num<0):=⟨_,rfl⟩
 obtain⟨f2,j0⟩:∃f2,f2=decide (q2.num<0):=⟨_,rfl⟩
 obtain⟨n1,di⟩:∃n1,n1=q.num.natAbs:=⟨_,rfl⟩
 obtain⟨n2,gX⟩:∃n2,n2=q2.num.natAbs:=⟨_,rfl⟩
 obtain⟨d1,qh⟩:∃d1,d1=q.den:=⟨_,rfl⟩
 obtain⟨d2,qi⟩:∃d2,d2=q2.den:=⟨_,rfl⟩
 have hz:(ao n1).length≤N+2∧(ao d1).length≤N+2∧(ao n2).length≤N+2∧(ao d2).length≤N+2:=by
  unfold aP at jD tT
  rw[di,gX,qh,qi];omega
 rw[←jg,←di,←qh]at vC
 rw[←j0,←gX,←qi]at sD
 rw[←qh]at fh
 rw[←qi]at ks
 have rX:=pa n1 d2
 have lF:=pa d1 n2;refine aZ (args:=[_,_]) Tryz.func117 rfl rfl Tryz.ntmps117 rfl rfl fun w0=> ?_;refine aj [0,1] rfl ?_;refine ag (bW rfl rfl (bW rfl rfl (bn bZ rfl (ab 1 rfl (ae [2,3,4] ?_)))));refine bP .bJ [0,2,1,3,4,5] follows (by kernel_rfl) ?_;refine ab 2 rfl (a8 rfl rfl (qg hv (by omega)) (fun _ _ h=>by first | exact h.le | exact h.1) ?_);rintro w1 G1 ⟨cH,tU⟩
 unfold bK at tU
 rw[←jg,←di,←qh]at tU;obtain⟨wF,wG,rfl,gM,gY⟩:=id tU;obtain⟨wH,wI,rfl,wJ,wK⟩:=id gM;obtain⟨wL,wM,rfl,wN,wO⟩:=id gY;refine a8 rfl rfl (qg (dI.le cH) (by omega)) (fun _ _ h=>by first | exact h.le | exact h.1) ?_;rintro w2 G2 ⟨dC,tV⟩
 unfold bK at tV
 rw[←j0,←gX,←qi]at tV;obtain⟨DH,DI,rfl,l7,lG⟩:=id tV;obtain⟨Bi,Bj,rfl,DJ,DK⟩:=id l7;obtain⟨Bk,Bl,rfl,DL,DM⟩:=id lG;have gM:=gM.le dC;have gY:=gY.le dC;have hle:=cH.trans dC;obtain⟨ti,ak,al⟩:=a6;refine aI (.inl ⟨rfl,rfl⟩) rfl rfl rfl ak al rfl rfl rfl ?_;obtain⟨ti,ak,al⟩:=a6;refine aI (.inl ⟨rfl,rfl⟩) rfl rfl rfl ak al rfl rfl rfl (ae [2,3,4] ?_);refine aq (ag (ab 4 rfl (ae [2,3,4,13] ?_)));refine aD rfl (fun hb=> ?_) (fun hb=> ?_)
 ·
  have hb:n2=0:=j6.1 (by have:=eq_of_beq hb;omega)
  have L2:q2=0:=by rw[←sD,hb,wC]
  refine ag (aF rfl rfl (qZ (n:=0) (by decide) (by decide)) ?_);rintro w5 G5 ⟨HS,eW⟩;obtain⟨u5,x5,rfl,HT,q3⟩:=id eW;obtain⟨Yi,Yj,rfl,Yk,Yl⟩:=id HT;obtain⟨QH,QI,rfl,QJ,QK⟩:=id q3;obtain⟨ti,ak,al⟩:=a6;refine aI (.inl ⟨rfl,rfl⟩) rfl rfl rfl ak al rfl rfl rfl (ab 1 rfl (ae [4,5] ?_));obtain⟨bQ,aN,aO⟩:=a6;refine aE ⟨.inr rfl,_,.agg rfl Tryz.underlying31 aN aO (.tmp rfl (.nil)),?_⟩;refine⟨hle.trans HS,_,?_,by rw[L2,Rat.div_def,Rat.inv_zero,Rat.mul_zero];exact eW⟩;rw[L2];rfl
 ·
  have jE:0<n2:=Nat.pos_of_ne_zero fun e=>by rw[j6.2 e]at hb;simp at hb
  have L2:q2≠0:=fun e=>by rw[←sD,Pe ks]at e;omega
  refine aA (aj [2,3,4] rfl ?_);refine bP .bJ [0,1,2,3,4,5,6,7,8,10,11,12,13,9,14,15,16,17] follows (by kernel_rfl) ?_;refine ab 4 rfl (FQ Tryz.underlying4 rfl rfl (ab 8 rfl (a8 rfl rfl (xz gM lG (by omega) (by omega)) (fun _ _ h=>by first | exact h.le | exact h.1) ?_)));rintro v3 H3 eH;refine a8 rfl rfl (xz (gY.le eH.le) (l7.le eH.le) (by omega) (by omega)) (fun _ _ h=>by first | exact h.le | exact h.1) ?_;rintro v4 H4 fI;have l8:=eH.nat.le fI.le;have HR:=fI.nat;obtain⟨DN,DO,rfl,DP,DQ⟩:=id l8;obtain⟨agY,agZ,rfl,ag0,ag1⟩:=id HR;refine a8 rfl rfl (xD (f:=f1 != f2) l8.sC HR.sC oa oa (by omega) (by omega)) (fun _ _ h=>by first | exact h.le | exact h.1) ?_;rintro w5 G5 ⟨HS,eW⟩;rw[cS,cS,←Pj jE,vC,sD]at eW;obtain⟨u5,x5,rfl,HT,q3⟩:=id eW;obtain⟨Yi,Yj,rfl,Yk,Yl⟩:=id HT;obtain⟨QH,QI,rfl,QJ,QK⟩:=id q3;obtain⟨ti,ak,al⟩:=a6;refine aI (.inl ⟨rfl,rfl⟩) rfl rfl rfl ak al rfl rfl rfl (ab 1 rfl (ae [4,5] ?_));obtain⟨bQ,aN,aO⟩:=a6;refine aE ⟨.inr rfl,_,.agg rfl Tryz.underlying31 aN aO (.tmp rfl (.nil)),?_⟩;refine⟨((hle.trans eH.le).trans fI.le).trans HS,_,?_,eW⟩;rw[show decide (q2≠0)=true from decide_eq_true L2];rfl
theorem Ym{H:Heap}{a b:Int}(h1: -9223372036854775808≤a)(h2:a≤9223372036854775807)(h3: -9223372036854775808≤b)(h4:b≤9223372036854775807):
 Fn Tryz.prog 43 #[.int .i64 a,.int .i64 b] H (kt H ((a:Rat)/(b:Rat))):=by
 have hs:∀n:Int,-9223372036854775808≤n→n≤9223372036854775807→aP (n:Rat)≤3:=fun n h1 h2=>by
  have k1:(ao n.natAbs).length≤3:=jn.2 (by rw[cn];omega)
  have k2:(ao 1).length≤3:=by rw[vk];decide
  have:=(X0 (decide (n<0)) n.natAbs 1 3 k1 k2).2 (by decide)
  rwa [Gy]at this
 refine aZ (args:=[_,_]) Tryz.func43 rfl rfl Tryz.ntmps43 rfl rfl fun w0=> ?_;refine aj [0,1] rfl ?_;refine ag (bn bZ rfl (ae [0,1,4] ?_));refine ag (ab 1 rfl (aF rfl rfl (qZ h1 h2) ?_));rintro w1 G1 ⟨fw,cC⟩;obtain⟨u1,x1,rfl,eO,eP⟩:=id cC;obtain⟨mK,mL,rfl,mM,mN⟩:=id eO;obtain⟨tF,tG,rfl,tH,tI⟩:=id eP;refine ab 1 rfl (aF rfl rfl (qZ h3 h4) ?_);rintro w2 G2 ⟨dT,bO⟩;obtain⟨u2,x2,rfl,fR,eR⟩:=id bO;obtain⟨pd,pe,rfl,pf,pg⟩:=id fR;obtain⟨ph,pj,rfl,po,px⟩:=id eR;refine aF rfl rfl (QL (N:=3) ((cC.le dT).raw.mono (hs a h1 h2)) (bO.raw.mono (hs b h3 h4)) (by decide)) ?_;rintro v3 H3 ⟨gN,r3,rfl,iN⟩;obtain⟨u3,x3,rfl,pA,gD⟩:=id iN;obtain⟨Bw,Bx,rfl,By,Bz⟩:=id pA;obtain⟨BA,BB,rfl,BC,BD⟩:=id gD;refine ab 3 rfl (bn bZ rfl ?_);obtain⟨ti,ak,al⟩:=a6;refine aI (.inl ⟨rfl,rfl⟩) rfl rfl rfl ak al rfl rfl rfl (ab 1 rfl (ae [4,5] ?_));refine ag (vr 1 ?_);obtain⟨ti,ak,al⟩:=a6;refine aI (.inl ⟨rfl,rfl⟩) rfl rfl rfl ak al rfl rfl rfl (ae [4] ?_);obtain⟨bQ,aN,aO⟩:=a6;refine aE ⟨.inr rfl,_,.agg rfl Tryz.underlying31 aN aO (.nil),?_⟩
 exact⟨(fw.trans dT).trans gN,iN⟩
end Go.aw
namespace Go.aw
open Go.Proofs Num Lp
theorem B0(L:TL)(a:Nat→Rat)(sg:Rat)(k:Nat):kj L a sg (k+1)=if 0≤L.mZ k then bY (bY (kj L a sg k) (L.pF k) (a k*sg)) (L.mZ k).toNat (-(a k*sg))else bY (kj L a sg k) (L.pF k) (a k*sg):=rfl
theorem ag2{H:Heap}{g:Nat}{ts:List Value}{pv mv:Value}{L:TL}{n N:Nat}{vs ss:List Value}{r:List Rat×Int×Rat}{slack:Int}{unit:Nat}{sg:Rat}
 (hg:H g=some ⟨ts,9,97,true⟩) (KS:ts[0]? = some (.int .i64 (L.w:Int))) (fj:ts[2]? = some pv) (B3:ts[3]? = some mv) (sq:aR vw 1 (rem H [g]) pv L.plus) (vz:aR BH 1 (rem H [g]) mv L.minus)
 (hr:fA N (rem H [g]) vs r) (hs:bS (rem H [g]) ss sg) (lE:aP sg≤1) (hn:r.1.length=n) (Ku:L.plus.length=n) (rO:L.minus.length=n) (yy:∀j,j<n→L.pF j<L.w) (XC:∀j,j<n→L.mZ j<L.w)
 (eT:r.2.1≠2→0≤slack∧slack<L.w) (qa:unit<L.w) (hN:(N:Int)≤549755813888) (hw:(L.w:Int)≤1000000) (QM:(n:Int)≤1000000):
 Fn Tryz.prog 124 #[.pointer (some ⟨g,0,none⟩),.agg vs.toArray,.agg ss.toArray,.int .i64 slack,.int .i64 (unit:Int)] H (fun v H'=>Heap.le H H'∧∃z xs,v = .slice (some ⟨z,0,none⟩) (L.w+1) (L.w+1)∧fy [g] H H' z xs ((L.w+1)*3) 90∧bE (bS (rem H' (z :: [g]))) 3 xs (aL (LR L n (fn r.1) r.2.2 r.2.1 slack unit sg) (L.w+1))):=by
 obtain⟨ns,ds,bs,rfl⟩:=hs.cells
 obtain⟨Ac,cc,kk,f,A1,m1,c1,A2,m2,c2,rfl,rfl⟩:=hr.cells
 obtain⟨c',f',u',w',kW,lk,qb⟩:=id hr
 simp only[List.cons.injEq,Value.bool.injEq,and_true,true_and]at kW
 obtain⟨rfl,rfl,rfl,rfl⟩:=kW
 have a7:∀q,q∈[g]→H q≠none:=fun q hq=>by rw[List.mem_singleton.1 hq,hg];simp
 obtain⟨Ap,cp,xp,rfl,mh,BL⟩:=sq.one
 obtain⟨Am,cm,xm,rfl,kf,Ht⟩:=vz.one
 rw[Ku]at fj
 rw[rO]at B3
 have BR:∀{H':Heap}{z:Nat}{xs:List Value}{s e:Nat},fy [g] H H' z xs s e→H' g=some ⟨ts,9,97,true⟩:=fun kN=>(kN.same g (List.mem_singleton.2 rfl)).trans hg
 have fo:∀{H':Heap}{k:Nat}{v:Value},H' g=some ⟨ts,9,97,true⟩→ts[k]? = some v→cell H' ((⟨g,0,none⟩:Addr).add k)=some v:=fun h1 h2=>by simp[cell,iX,h1,h2]
 have Yn:∀{H':Heap},H' g=some ⟨ts,9,97,true⟩→cell H' (⟨g,0,none⟩:Addr)=some (.int .i64 (L.w:Int)):=fun h1=>by have:=fo (k:=0) h1 KS;rwa [iX]at this
 have hLp:∀j,j<n→L.plus[j]? = some (L.pF j):=fun j hj=>by
  have:j<L.plus.length:=by rw[Ku];exact hj
  simp[TL.pF,List.getD,List.getElem?_eq_getElem this]
 have hLm:∀j,j<n→L.minus[j]? = some (L.mZ j):=fun j hj=>by
  have:j<L.minus.length:=by rw[rO];exact hj
  simp[TL.mZ,List.getD,List.getElem?_eq_getElem this]
 refine aZ (args:=[_,_,_,_,_]) Tryz.func124 rfl rfl Tryz.ntmps124 rfl rfl fun w0=> ?_;refine aj [0,1,2,3,4] rfl ?_;refine ag (bW rfl rfl (bW rfl rfl (ab 1 rfl (ae [0,3,4,6,7] ?_))));refine ag (ab 2 rfl (aV ah rfl rfl rfl (aT ah rfl rfl rfl (Yn hg) (aH rfl rfl ⟨by omega,by omega⟩ (aF rfl rfl (Hp (gs:=[g]) (n:=L.w+1) a7 (by omega)) ?_)))));rintro v1 H1 ⟨cH,z,qT,rfl,Ei,Yo⟩;have ag3:=(Yo H).len;rw[bh]at ag3;refine ab 1 rfl (ae [0,3,4,6,7,11] ?_);refine aq (ag (ab 2 rfl (aF rfl rfl (Fn.LI (gs:=z :: [g]) (Ei.ne a7) (W0 (lk.le (dz N) Ei.le) (by omega) (by omega))) ?_)));rintro v2 H2 ⟨fO,dC,oc⟩;have eM:=Ei.kept fO;obtain⟨Av,cv,xv,rfl,lr,uO⟩:=oc.num;rw[hn];refine ab 2 rfl (ae [0,3,4,6,7,11,22,23,24] ?_);refine aG (ij (fun(k:Nat)(xs:List Value)=>n-k) (fun(k:Nat)(xs:List Value)=>put (put (put (put (put (put (put (put (put (emp) 0 (.val (.pointer (some ⟨g,0,none⟩)))) 3 (.val (.int .i64 slack))) 4 (.val (.int .i64 (unit:Int)))) 6 (.box [.slice Ac n cc,.int .i64 r.2.1,.bool f,.slice A1 m1 c1,.slice A2 m2 c2])) 7 (.box [.int .i64 ns,.int .i64 ds,.pointer bs])) 11 (.val (.slice (some ⟨z,0,none⟩) (L.w+1) (L.w+1)))) 22 (.val (.slice Av n cv))) 23 (.val (.int .i64 (n:Int)))) 24 (.val (.int .i64 (k:Int)))) (fun(k:Nat)(xs:List Value) H'=>fy [g] H H' z xs ((L.w+1)*3) 90∧bE (bS (rem H' (z :: [g]))) 3 xs (aL (kj L (fn r.1) sg k) (L.w+1))∧Heap.le (rem H2 (z :: [g])) (rem H' (z :: [g]))∧Heap.le H H'∧k≤n) 0 qT (⟨eM,by rw[lI (f:=kj L (fn r.1) sg 0) (g:=fun _=>0) (fun j _=>rfl)];exact Yo _,.refl _,cH.trans dC,Nat.zero_le _⟩) au ?_)
 rintro k xs H3 ⟨kv,xg,iD,am9,dy⟩;have cP:=xg.len;rw[bh]at cP;have l5:=BR kv;refine ag (ab 1 rfl (ae [0,3,4,6,7,11,22,23,24,25] ?_));refine aq (aD rfl (fun hb=> ?_) (fun hb=> ?_))
 ·
  have gn:k<n:=by simpa using hb
  obtain⟨q,jU⟩:∃q,r.1[k]? = some q:=⟨_,List.getElem?_eq_getElem (by omega)⟩;obtain⟨n1,d1,b1,di,eP⟩:=uO k q jU;have nH:fn r.1 k=q:=mb jU
  have QN:aP q≤N+2:=by
   obtain⟨A9,c9,x9,_,_,_,h9⟩:=lk;exact ct.size (h9.at_ k q jU)
  obtain⟨up,Hu,Hv⟩:=BL k _ (hLp k gn);obtain⟨um,zr,Hw⟩:=Ht k _ (hLm k gn)
  cases Hv
  cases Hw
  have ag4:=yy k gn;have ag5:=XC k gn;refine aA (aj [0,3,4,6,7,11,22,23,24] rfl ?_);refine aq (aG (ag (ab 1 rfl (ck (vs:=[.int .i64 n1,.int .i64 d1,.pointer b1]) ah rfl rfl rfl rfl ((lr.le iD).le (bt _ _)) rfl (by decide) eP (by omega) (by omega) fun _=>(bn fk rfl (vr 1 ?_))))));obtain⟨ti,ak,al⟩:=cJ;refine aI (.inl ⟨rfl,rfl⟩) rfl rfl rfl ak al rfl rfl rfl (ae [0,3,4,6,7,11,12,13,22,23,24] ?_);refine bP .gH [0,1,2,3,4,5,6,7,8,9,10,11,12] follows (by kernel_rfl) ?_;refine ab 3 rfl (aV ah rfl rfl rfl (aT ah rfl rfl rfl (fo l5 fj) (ab 1 rfl (aS ah rfl rfl rfl rfl rfl ((mh.le kv.le).le (bt _ _)) (by rw[Int.toNat_natCast];exact Hu) (by omega) (by omega) fun _=> ?_))));refine ab 2 rfl (a8 rfl rfl (Fn.lK (kv.ne a7) (GR (N:=N+2) (di.le iD) (hs.le kv.le) QN (by omega) (by omega))) (fun _ _ h=>by first | exact h.le | exact h.1) ?_);rintro v4 H4 ⟨gp,dV,n4,d4,b4,rfl,cI⟩;have sw:=kv.kept gp;rw[←nH]at cI;obtain⟨ti,ak,al⟩:=cJ;refine cV (.inr rfl) ah rfl rfl rfl (by omega) (by omega) (sw.aB) rfl (by show 0+(L.w+1)*3≤xs.length;omega) ak al (fun _=>rfl) rfl rfl rfl fun _=> ?_
  refine ae [0,3,4,6,7,11,12,13,22,23,24] ?_;have sA:fy [g] H (ins H4 z {(⟨xs,(L.w+1)*3,90,true⟩:Ent)with xs:=aM xs (0+((L.pF k:Nat):Int).toNat*3) [.int .i64 n4,.int .i64 d4,.pointer b4]}) z (aM xs (L.pF k*3) [.int .i64 n4,.int .i64 d4,.pointer b4]) ((L.w+1)*3) 90:=sw.set (by rw[Int.toNat_natCast];exact pD)
  have L3:bE (bS (rem (ins H4 z {(⟨xs,(L.w+1)*3,90,true⟩:Ent)with xs:=aM xs (0+((L.pF k:Nat):Int).toNat*3) [.int .i64 n4,.int .i64 d4,.pointer b4]}) (z :: [g]))) 3 (aM xs (L.pF k*3) [.int .i64 n4,.int .i64 d4,.pointer b4]) (aL (bY (kj L (fn r.1) sg k) (L.pF k) (fn r.1 k*sg)) (L.w+1)):=by
   rw[cK _ (List.mem_cons_self ..)];exact sk (xg.mono fun vs a=>jr _ _ vs a gp.le) (by omega) cI
  have iY:Heap.le (rem H2 (z :: [g])) (rem (ins H4 z {(⟨xs,(L.w+1)*3,90,true⟩:Ent)with xs:=aM xs (0+((L.pF k:Nat):Int).toNat*3) [.int .i64 n4,.int .i64 d4,.pointer b4]}) (z :: [g])):=by
   rw[cK _ (List.mem_cons_self ..)];exact iD.trans gp.le
  generalize ins H4 z {(⟨xs,(L.w+1)*3,90,true⟩:Ent)with xs:=aM xs (0+((L.pF k:Nat):Int).toNat*3) [.int .i64 n4,.int .i64 d4,.pointer b4]}=H5 at sA L3 iY⊢
  have vB:=BR sA;have QO:=L3.len;rw[bh]at QO;refine ag (ab 2 rfl (aV ah rfl rfl rfl (aT ah rfl rfl rfl (fo vB B3) (ab 1 rfl (aS ah rfl rfl rfl rfl rfl ((kf.le sA.le).le (bt _ _)) (by rw[Int.toNat_natCast];exact zr) (by omega) (by omega) fun _=> ?_)))));refine ab 1 rfl (ae [0,3,4,6,7,11,12,13,22,23,24,48] ?_);refine aD rfl (fun hb=> ?_) (fun hb=> ?_)
  ·
   have hb:0≤L.mZ k:=by simpa using hb
   refine ep .gH [0,1,2,3,4,5,6,7,8,9,10,11,12,13] follows (by kernel_rfl) ?_;refine ab 3 rfl (aV ah rfl rfl rfl (aT ah rfl rfl rfl (fo vB B3) (ab 1 rfl (aS ah rfl rfl rfl rfl rfl ((kf.le sA.le).le (bt _ _)) (by rw[Int.toNat_natCast];exact zr) (by omega) (by omega) fun _=> ?_))));refine ab 2 rfl (a8 rfl rfl (Fn.lK (sA.ne a7) (GR (N:=N+2) (di.le iY) (hs.le sA.le) QN (by omega) (by omega))) (fun _ _ h=>by first | exact h.le | exact h.1) ?_);rintro v6 H6 ⟨qW,sj,n6,d6,b6,rfl,iu⟩;have Yp:=sA.kept qW;have wk:=vp q sg;refine a8 rfl rfl (Fn.lK (Yp.ne a7) (DS iu (by omega))) (fun _ _ h=>by first | exact h.le | exact h.1) ?_;rintro v7 H7 ⟨tQ,pC,n7,d7,b7,rfl,jb⟩;have Yq:=Yp.kept tQ;rw[←nH]at jb;obtain⟨ti,ak,al⟩:=cJ;refine cV (.inr rfl) ah rfl rfl rfl (by omega) (by omega) (Yq.aB) rfl (by show 0+(L.w+1)*3≤(aM xs (L.pF k*3) [.int .i64 n4,.int .i64 d4,.pointer b4]).length;omega) ak al (fun _=>rfl) rfl rfl rfl fun _=> ?_;refine az ?_;have Yr:=Yq.set (pD (xs:=aM xs (L.pF k*3) [.int .i64 n4,.int .i64 d4,.pointer b4]) (vs:=[.int .i64 n7,.int .i64 d7,.pointer b7]) (k:=(L.mZ k).toNat) (sz:=3));refine aj [0,3,4,6,7,11,22,23,24] rfl ?_;refine aC rfl (aH rfl rfl ⟨by omega,by omega⟩ ?_)
   refine ab 1 rfl (az ?_);exact⟨k+1,_,by omega,au,Yr,by rw[cK _ (List.mem_cons_self ..),B0,if_pos hb];exact sk (L3.mono fun vs a=>jr _ _ vs a (qW.le.trans tQ.le)) (by omega) jb,by rw[cK _ (List.mem_cons_self ..)];exact(iY.trans qW.le).trans tQ.le,Yr.hle,by omega⟩
  ·
   have hb:¬0≤L.mZ k:=by simpa using hb
   refine aA (aj [0,3,4,6,7,11,22,23,24] rfl ?_);refine aC rfl (aH rfl rfl ⟨by omega,by omega⟩ (ab 1 rfl (az ?_)));exact⟨k+1,_,by omega,au,sA,by rw[B0,if_neg hb];exact L3,iY,sA.hle,by omega⟩
 ·
  have hb:n≤k:=by simpa using hb
  obtain rfl:n=k:=by omega
  refine aW (aj [0,3,4,6,7,11] rfl ?_);refine kI (fun(ys:List Value)=>put (put (put (put (put (emp) 0 (.val (.pointer (some ⟨g,0,none⟩)))) 4 (.val (.int .i64 (unit:Int)))) 6 (.box [.slice Ac n cc,.int .i64 r.2.1,.bool f,.slice A1 m1 c1,.slice A2 m2 c2])) 7 (.box [.int .i64 ns,.int .i64 ds,.pointer bs])) 11 (.val (.slice (some ⟨z,0,none⟩) (L.w+1) (L.w+1)))) (fun(ys:List Value) H'=>fy [g] H H' z ys ((L.w+1)*3) 90∧bE (bS (rem H' (z :: [g]))) 3 ys (aL (sB (kj L (fn r.1) sg n) r.2.1 slack sg) (L.w+1))) ?_ ?_
  ·
   refine ag (ab 2 rfl (ae [0,3,4,6,7,11,64] ?_));refine aG (ag (ab 2 rfl (ae [0,3,4,6,7,11,64,65] ?_)));refine aD rfl (fun hb=> ?_) (fun hb=> ?_)
   ·
    have hb:r.2.1=1:=by simpa using hb
    have ag6:=eT (by omega);refine aC rfl (vr 3 ?_);obtain⟨ti,ak,al⟩:=cJ;refine cV (.inl rfl) ah rfl rfl rfl (by omega) (by omega) (kv.aB) rfl (by show 0+(L.w+1)*3≤xs.length;omega) ak al (fun _=>rfl) rfl rfl rfl fun _=> ?_;refine az ?_;exact⟨_,au,kv.set pD,by rw[cK _ (List.mem_cons_self ..)];unfold sB;rw[if_pos hb];exact sk xg (by omega) (hs.le kv.le)⟩
   have hb:¬r.2.1=1:=by simpa using hb
   refine ag (ab 2 rfl (ae [0,3,4,6,7,11,71] ?_));refine aD rfl (fun hb=> ?_) (fun hb=> ?_)
   ·
    have ny:r.2.1=3:=by simpa using hb
    have hb:¬r.2.1=1:=by omega
    have ag6:=eT (by omega);refine aC rfl (ab 3 rfl (aF rfl rfl (Fn.lK (kv.ne a7) (DS (hs.le kv.le) (by omega))) ?_));rintro v9 H9 ⟨gZ,iJ,n9,d9,b9,rfl,fK⟩;have HU:=kv.kept gZ;obtain⟨ti,ak,al⟩:=cJ;refine cV (.inl rfl) ah rfl rfl rfl (by omega) (by omega) (HU.aB) rfl (by show 0+(L.w+1)*3≤xs.length;omega) ak al (fun _=>rfl) rfl rfl rfl fun _=> ?_;refine az ?_;exact⟨_,au,HU.set pD,by rw[cK _ (List.mem_cons_self ..)];unfold sB;rw[if_neg hb,if_pos ny];exact sk (xg.mono fun vs a=>jr _ _ vs a gZ.le) (by omega) fK⟩
   have ny:¬r.2.1=3:=by simpa using hb
   have hb:¬r.2.1=1:=by assumption
   refine aA ?_;exact⟨_,au,kv,by unfold sB;rw[if_neg hb,if_neg ny];exact xg⟩
  rintro ys H9 ⟨HU,Ys⟩;have Yt:=Ys.len;rw[bh]at Yt;refine ag (ab 2 rfl (aF rfl rfl (wS) ?_));rintro v10 xC ⟨B4,rfl⟩;rw[B4];obtain⟨ti,ak,al⟩:=cJ;refine cV (.inl rfl) ah rfl rfl rfl (by omega) (by omega) (HU.aB) rfl (by show 0+(L.w+1)*3≤ys.length;omega) ak al (fun _=>rfl) rfl rfl rfl fun _=> ?_;refine ae [0,6,7,11] ?_;have HV:fy [g] H (ins H9 z {(⟨ys,(L.w+1)*3,90,true⟩:Ent)with xs:=aM ys (0+((unit:Int)).toNat*3) [.int .i64 1,.int .i64 1,.pointer none]}) z (aM ys (unit*3) [.int .i64 1,.int .i64 1,.pointer none]) ((L.w+1)*3) 90:=HU.set (by rw[Int.toNat_natCast];exact pD)
  have QP:bE (bS (rem (ins H9 z {(⟨ys,(L.w+1)*3,90,true⟩:Ent)with xs:=aM ys (0+((unit:Int)).toNat*3) [.int .i64 1,.int .i64 1,.pointer none]}) (z :: [g]))) 3 (aM ys (unit*3) [.int .i64 1,.int .i64 1,.pointer none]) (aL (bY (sB (kj L (fn r.1) sg n) r.2.1 slack sg) unit 1) (L.w+1)):=by
   rw[cK _ (List.mem_cons_self ..)];exact sk Ys (by omega) (wR _ (n:=1) (by decide) (by decide))
  generalize ins H9 z {(⟨ys,(L.w+1)*3,90,true⟩:Ent)with xs:=aM ys (0+((unit:Int)).toNat*3) [.int .i64 1,.int .i64 1,.pointer none]}=kz at HV QP⊢
  have Eu:=BR HV;have ag7:=QP.len;rw[bh]at ag7;have Yu:=qb.size;refine bP .gH [0,1,2,3,4,5,6,8,7,9,10,11] follows (by kernel_rfl) ?_;refine ab 3 rfl (aV ah rfl rfl rfl (aT ah rfl rfl rfl (Yn Eu) (ab 3 rfl (a8 rfl rfl (Fn.lK (HV.ne a7) (PB (qb.le HV.le) (by omega))) (fun _ _ h=>by first | exact h.le | exact h.1) ?_))));rintro v12 dN ⟨zz,nI,n12,d12,b12,rfl,vF⟩;have B5:=HV.kept zz;refine a8 rfl rfl (Fn.lK (B5.ne a7) (GR (N:=N+2) vF (hs.le B5.le) Yu (by omega) (by omega))) (fun _ _ h=>by first | exact h.le | exact h.1) ?_;rintro v13 mo ⟨xG,qj,QQ,d13,Yv,rfl,sG⟩;have L4:=B5.kept xG;obtain⟨ti,ak,al⟩:=cJ;refine cV (.inr rfl) ah rfl rfl rfl (by omega) (by omega) (L4.aB) rfl (by show 0+(L.w+1)*3≤(aM ys (unit*3) [.int .i64 1,.int .i64 1,.pointer none]).length;omega) ak al (fun _=>rfl) rfl rfl rfl fun _=> ?_;refine ae [11] ?_;have xH:fy [g] H (ins mo z {(⟨aM ys (unit*3) [.int .i64 1,.int .i64 1,.pointer none],(L.w+1)*3,90,true⟩:Ent)with xs:=aM (aM ys (unit*3) [.int .i64 1,.int .i64 1,.pointer none]) (0+((L.w:Int)).toNat*3) [.int .i64 QQ,.int .i64 d13,.pointer Yv]}) z (aM (aM ys (unit*3) [.int .i64 1,.int .i64 1,.pointer none]) (L.w*3) [.int .i64 QQ,.int .i64 d13,.pointer Yv]) ((L.w+1)*3) 90:=L4.set (by rw[Int.toNat_natCast];exact pD)
  refine ag (ab 2 rfl (ae [10] ?_));refine aE ⟨.inr rfl,_,.tmp rfl (.nil),?_⟩;exact⟨xH.hle,z,_,rfl,xH,by rw[cK _ (List.mem_cons_self ..)];exact sk (QP.mono fun vs a=>jr _ _ vs a (zz.le.trans xG.le)) (by omega) sG⟩
end Go.aw
namespace Go.aw
open Go.Proofs Num Lp
def aX(fr:Nat→Bool):Nat→Nat
 | 0=>0
 | k+1=>aX fr k+1+(if fr k then 1 else 0)
def mV(fr:Nat→Bool)(k:Nat):Int:=if fr k then((aX fr k+1:Nat):Int)else -1
def bD(rel:Nat→Int)(c:Nat):Nat→Nat
 | 0=>c
 | i+1=>bD rel c i+(if rel i=2 then 0 else 1)
def eY(rel:Nat→Int)(c i:Nat):Int:=if rel i=2 then -1 else(bD rel c i:Int)
def kO(b:Rat)(rel:Int):Int:=if b<0∨(b=0∧rel=3)then -1 else 1
def fe(rel s:Int):Bool:=decide ((rel=1∧s=1)∨(rel=3∧s = -1))
def aY(rel sg:Nat→Int)(u:Nat):Nat→Nat
 | 0=>u
 | i+1=>aY rel sg u i+(if fe (rel i) (sg i)then 0 else 1)
def q6(rel sg:Nat→Int)(c u i:Nat):Nat:=if fe (rel i) (sg i)then bD rel c i else aY rel sg u i
theorem sH(b:Rat)(rel:Int):kO b rel=1∨kO b rel = -1:=by unfold kO;split <;> simp
theorem QR(fr:Nat→Bool)(k:Nat):aX fr k≤2*k:=by
 induction k with
 | zero=>exact Nat.le_refl _
 | succ k ih=>unfold aX;split <;> omega
theorem sI(rel:Nat→Int)(c k:Nat):bD rel c k≤c+k∧c≤bD rel c k:=by
 induction k with
 | zero=>exact⟨Nat.le_refl _,Nat.le_refl _⟩
 | succ k ih=>unfold bD;split <;> omega
theorem tW(rel sg:Nat→Int)(u k:Nat):aY rel sg u k≤u+k∧u≤aY rel sg u k:=by
 induction k with
 | zero=>exact⟨Nat.le_refl _,Nat.le_refl _⟩
 | succ k ih=>unfold aY;split <;> omega
theorem B6{fr:Nat→Bool}{j k:Nat}(h:j<k):aX fr j+1+(if fr j then 1 else 0)≤aX fr k:=by
 induction k with
 | zero=>omega
 | succ k ih=>
  by_cases e:j=k
  ·subst e;exact Nat.le_refl _
  ·have:=ih (by omega)
   show _≤aX fr k+1+(if fr k then 1 else 0)
   omega
theorem QS{rel:Nat→Int}{c j k:Nat}(h:j<k):bD rel c j+(if rel j=2 then 0 else 1)≤bD rel c k:=by
 induction k with
 | zero=>omega
 | succ k ih=>
  by_cases e:j=k
  ·subst e;exact Nat.le_refl _
  ·have:=ih (by omega)
   show _≤bD rel c k+(if rel k=2 then 0 else 1)
   omega
theorem QT{rel sg:Nat→Int}{u j k:Nat}(h:j<k):aY rel sg u j+(if fe (rel j) (sg j)then 0 else 1)≤aY rel sg u k:=by
 induction k with
 | zero=>omega
 | succ k ih=>
  by_cases e:j=k
  ·subst e;exact Nat.le_refl _
  ·have:=ih (by omega)
   show _≤aY rel sg u k+(if fe (rel k) (sg k)then 0 else 1)
   omega
def ints(f:Nat→Int)(k:Nat):List Value:=(List.range k).map fun j=> .int .i64 (f j)
theorem vG(f:Nat→Int)(k:Nat):ints f (k+1)=ints f k ++ [.int .i64 (f k)]:=by
 unfold ints;rw[List.range_succ,List.map_append];rfl
theorem B7(f:Nat→Int)(k:Nat):(ints f k).length=k:=by simp[ints]
theorem vH{f:Nat→Int}{k i:Nat}(h:i<k):(ints f k)[i]? = some (.int .i64 (f i)):=by simp[ints,h]
theorem cg.ints{K:Heap}{v:Value}{f:Nat→Int}{k:Nat}(h:cg K v 3 1 k (aw.ints f k)):aR BH 1 K v ((List.range k).map f):=by
 obtain⟨A,c,rfl⟩:=h.form
 refine⟨A,c,_,by rw[List.length_map,List.length_range],?_,h.rd,⟨by rw[B7,List.length_map,List.length_range,Nat.mul_one],fun i z hz=> ?_⟩⟩
 ·rw[List.length_map,List.length_range]
  rcases h.2 with ⟨k1,k2⟩ | ⟨g,cap,k1,_,k3,_⟩
  ·omega
  ·cases k1;exact k3
 ·rw[List.getElem?_map]at hz
  have hi:i<k:=by
   false_or_by_contra
   rw[List.getElem?_eq_none (by rw[List.length_range];omega)]at hz;cases hz
  rw[List.getElem?_range hi]at hz
  cases hz
  rw[Px (vH hi)];rfl
theorem cg.QW{K:Heap}{v:Value}{f:Nat→Nat}{k:Nat}(h:cg K v 3 1 k (aw.ints (fun j=>(f j:Int)) k)):aR vw 1 K v ((List.range k).map f):=by
 obtain⟨A,c,xs,h1,h2,h3,h4⟩:=cg.ints h
 rw[List.length_map,List.length_range]at h1 h2
 refine⟨A,c,xs,by rw[List.length_map,List.length_range];exact h1,by rw[List.length_map,List.length_range];exact h2,h3,⟨by rw[h4.len,List.length_map,List.length_map],fun i z hz=> ?_⟩⟩
 rw[List.getElem?_map]at hz
 cases hr:(List.range k)[i]? with
 | none=>rw[hr]at hz;cases hz
 | some j=>
  rw[hr]at hz
  cases hz
  exact h4.at_ i (f j:Int) (by rw[List.getElem?_map,hr];rfl)
def B8(v v':Value):Prop:=∀q,v.ownBlock=some q→v'.ownBlock≠some q
theorem B8.symm{v v':Value}(h:B8 v v'):B8 v' v:=fun q h1 h2=>h q h2 h1
structure mq(K0:Heap)(lj:Value)(e sz n:Nat)(xs:List Value)(v:Value)(K:Heap):Prop where
 own:cg K v e sz n xs
 le:Heap.le K0 K
 new:∀q,v.ownBlock=some q→lj.ownBlock=some q∨K0 q=none
 keep:∀(v':Value)(e' eV n':Nat)(qz:List Value),cg K0 v' e' eV n' qz→B8 lj v'→cg K v' e' eV n' qz∧B8 v v'
theorem cg.lift{H:Heap}{gs:List Nat}{v:Value}{e sz n:Nat}{xs:List Value}(h:cg (rem H gs) v e sz n xs):cg H v e sz n xs∧∀q,q∈gs→v.ownBlock≠some q:=by
 have h2:∀q,q∈gs→v.ownBlock≠some q:=fun q hq hv=>by
  obtain⟨en,he⟩:=h.block hv
  rw[rem_in hq]at he;cases he
 exact⟨h.same fun q hq=>(bM (fun hm=>h2 q hm hq)).symm,h2⟩
theorem qk{H1 H3:Heap}{gs:List Nat}{lj v3:Value}{e sz n0 n gb:Nat}{qT xs:List Value}{en:Ent}(a7:∀q,q∈gs→H1 q≠none)(bo:H1 gb=none)(ho:cg (rem H1 gs) lj e sz n0 qT)(ha:App (ins H1 gb en) lj e sz n xs v3 H3):
  mq (rem H1 gs) lj e sz n xs v3 (rem H3 gs)∧∀q,q∈gs→H3 q=H1 q:=by
 obtain⟨hl,hh⟩:=ho.lift
 have L6:¬gb∈gs:=fun h=>a7 gb h bo
 have wZ:∀q,q∈gs→ins H1 gb en q≠none:=fun q hq=>by rw[bg _ _ (fun e=>L6 (by rw[←e];exact hq))];exact a7 q hq
 obtain⟨lY,hs⟩:=ha.rem wZ hh
 rw[rY _ L6]at lY
 have hK:rem H1 gs gb=none:=by rw[bM L6];exact bo
 refine⟨⟨lY.own,(Heap.bC _ hK).trans lY.le,fun q hq=>(by
  rcases lY.at_ with h4 | ⟨g',h4,h5⟩
  ·exact .inl (by rw[←h4];exact hq)
  ·rw[h4]at hq
   cases hq
   exact .inr (Bf h5).2),fun v' e' eV n' qz h' L7=> ?_⟩,fun q hq=>by rw[hs q hq,bg _ _ (fun e=>L6 (by rw[←e];exact hq))]⟩
 have h1:cg (ins (rem H1 gs) gb en) v' e' eV n' qz:=h'.ins _ hK
 refine⟨h1.same fun q hq=> ?_,fun q h2 h3=> ?_⟩
 ·obtain⟨Ev,HW⟩:=h1.block hq
  rw[lY.same q Ev HW (fun h=>L7 q h hq),HW]
 ·rcases lY.at_ with h4 | ⟨g',h4,h5⟩
  ·exact L7 q (by rw[←h4];exact h2) h3
  ·rw[h4]at h2
   cases h2
   obtain⟨Ev,HW⟩:=h1.block h3
   rw[h5]at HW;cases HW
def sJ(a1:Addr)(v1:Value)(a2:Addr)(v2:Value)(ad:Addr):Option Value:=if ad=a1 then some v1 else if ad=a2 then some v2 else none
theorem lN{a1 a2:Addr}{v1 v2:Value}{H:Heap}(h1:cell H a1=some v1)(h2:cell H a2=some v2):(Mode.cO (sJ a1 v1 a2 v2)).fN H:=fun ad v h=>by
 have h':sJ a1 v1 a2 v2 ad=some v:=h
 unfold sJ at h'
 split at h'
 ·rename_i e;rw[e,h1];exact h'
 ·split at h'
  ·rename_i e;rw[e,h2];exact h'
  ·cases h'
theorem vI{a1 a2:Addr}{v1 v2:Value}:sJ a1 v1 a2 v2 a1=some v1:=by simp[sJ]
theorem HX{a1 a2:Addr}{v1 v2:Value}(h:a2≠a1):sJ a1 v1 a2 v2 a2=some v2:=by simp[sJ,h]
theorem HY{g g' o o':Nat}(h:g≠g'):(⟨g,o,none⟩:Addr)≠⟨g',o',none⟩:=fun e=>h (by cases e;rfl)
def ql(_:Heap)(vs:List Value)(b:Bool):Prop:=vs = [.bool b]
theorem sK:Up ql:=fun _ _ _ _ _ h=>h
def ea(N:Nat)(H:Heap)(v:Value)(p:Prg):Prop:=∃fv rv,v = .agg #[fv,rv]∧aR ql 1 H fv p.free∧aR (fA N) 5 H rv p.rows
theorem ea.le{N:Nat}{H H':Heap}{v:Value}{p:Prg}(h:ea N H v p)(hl:Heap.le H H'):ea N H' v p:=by
 obtain⟨fv,rv,h1,h2,h3⟩:=h
 exact⟨fv,rv,h1,h2.le sK hl,h3.le (fJ N) hl⟩
section
variable (p:Prg)
abbrev _root_.Lp.Prg.aK(i:Nat):Int:=kO (p.lp.b i) (p.lp.rel i)
abbrev _root_.Lp.Prg.c1:Nat:=aX p.lp.free p.lp.n
abbrev _root_.Lp.Prg.u:Nat:=bD p.lp.rel p.c1 p.lp.m
abbrev _root_.Lp.Prg.w:Nat:=aY p.lp.rel p.aK p.u p.lp.m
abbrev _root_.Lp.Prg.unit(i:Nat):Nat:=q6 p.lp.rel p.aK p.c1 p.u i
def _root_.Lp.Prg.lay:TL:=⟨p.w,p.u,(List.range p.lp.n).map (aX p.lp.free),(List.range p.lp.n).map (mV p.lp.free),(List.range p.lp.m).map p.unit,aL (fun i=>(p.aK i:Rat)) p.lp.m⟩
def _root_.Lp.Prg.eh:ar:=⟨p.lp.m,p.w,fun i=>LR p.lay p.lp.n (p.lp.a i) (p.lp.b i) (p.lp.rel i) (eY p.lp.rel p.c1 i) (p.unit i) (p.aK i:Rat),fun _=>0,p.unit⟩
end
end Go.aw
namespace Go.aw
theorem vJ{H:Heap}{gv g:Nat}{e:Ent}{v:Value}(h:cell H ⟨gv,0,none⟩=some v)(a7:gv≠g):cell (ins H g e) ⟨gv,0,none⟩=some v:=by
 simp only[cell,bg _ _ a7]at h⊢;exact h
theorem sL(z:Int):∀u,u∈[Value.int .i64 z]→u.oneCell'=true:=fun u hu=>by rw[List.mem_singleton]at hu;rw[hu];rfl
theorem ints_set{f:Nat→Int}{m i:Nat}{z:Int}:(ints f m).set i (.int .i64 z)=ints (fun j=>if j=i then z else f j) m:=by
 apply List.ext_getElem?
 intro j
 by_cases hj:j<m
 ·by_cases e:j=i
  ·subst e
   rw[List.getElem?_set_self (by rw[B7];exact hj),vH hj,if_pos rfl]
  ·rw[List.getElem?_set_ne (fun e'=>e e'.symm),vH hj,vH hj,if_neg e]
 ·rw[List.getElem?_eq_none (by rw[List.length_set,B7];omega),List.getElem?_eq_none (by rw[B7];omega)]
theorem QX{f g:Nat→Int}{m:Nat}(h:∀j,j<m→f j=g j):ints f m=ints g m:=by
 unfold ints
 apply List.map_congr_left
 intro j hj
 rw[h j (List.mem_range.1 hj)]
theorem aR.row{N:Nat}{H:Heap}{v:Value}{l:List (List Rat×Int×Rat)}(h:aR (fA N) 5 H v l):∃A c xs,v = .slice A l.length c∧Rd H A xs∧∀(i:Nat)(r:List Rat×Int×Rat),l[i]? = some r→∃A0 c0 f A1 m1 c1 A2 m2 c2,fA N H [.slice A0 r.1.length c0,.int .i64 r.2.1,.bool f,.slice A1 m1 c1,.slice A2 m2 c2] r∧∀(j:Nat)(u:Value),[.slice A0 r.1.length c0,.int .i64 r.2.1,.bool f,.slice A1 m1 c1,.slice A2 m2 c2][j]? = some u→xs[i*5+j]? = some u:=by
 obtain⟨A,c,xs,h1,_,h3,h4⟩:=h
 refine⟨A,c,xs,h1,h3,fun i r hr=> ?_⟩
 obtain⟨vs,_,h5,h6⟩:=h4.get hr
 obtain⟨A0,c0,k,f,A1,m1,c1,A2,m2,c2,rfl,rfl⟩:=h5.cells
 exact⟨A0,c0,f,A1,m1,c1,A2,m2,c2,h5,h6⟩
theorem fA.bound{N:Nat}{H:Heap}{r:List Rat×Int×Rat}{v0:Value}{f:Bool}{u w:Value}(h:fA N H [v0,.int .i64 r.2.1,.bool f,u,w] r):ct H (.agg #[.bool f,u,w]) r.2.2 N:=by
 obtain⟨c,f',u',w',h1,_,h3⟩:=h
 simp only[List.cons.injEq,Value.bool.injEq,and_true,true_and]at h1
 obtain⟨rfl,rfl,rfl,rfl⟩:=h1
 exact h3
end Go.aw
namespace Go.aw
def aB(v:Value):List Nat:=match v.ownBlock with | some q=>[q] | none=>[]
theorem cM{v:Value}{q:Nat}:q∈aB v↔v.ownBlock=some q:=by
 unfold aB
 cases h:v.ownBlock with
 | none=>simp
 | some q'=>simp;exact eq_comm
theorem ag8{H H':Heap}{gs:List Nat}{v:Value}{e sz n:Nat}{xs:List Value}(h:Kept (aB v++gs) H H')(ho:cg (rem H gs) v e sz n xs):cg (rem H' gs) v e sz n xs∧Heap.le (rem H gs) (rem H' gs)∧∀q,q∈gs→H' q=H q:=by
 have hs:∀q,q∈aB v++gs→H' q=H q:=h.same
 have hv:=ho.lift.2
 refine⟨ho.same fun q hq=> ?_,fun q en hq=> ?_,fun q hq=>hs q (List.mem_append_right _ hq)⟩
 ·have:¬q∈gs:=fun hm=>hv q hm hq
  rw[bM this,bM this,hs q (List.mem_append_left _ (cM.2 hq))]
 ·by_cases hb:q∈aB v
  ·by_cases hm:q∈gs
   ·rw[rem_in hm]at hq;cases hq
   ·rw[bM hm]at hq
    exact⟨en,by rw[bM hm,hs q (List.mem_append_left _ hb)];exact hq,.refl en⟩
  ·by_cases hm:q∈gs
   ·rw[rem_in hm]at hq;cases hq
   ·have hn:¬q∈aB v++gs:=fun h=>by
     rcases List.mem_append.1 h with h | h
     ·exact hb h
     ·exact hm h
    obtain⟨e',h1,h2⟩:=h.le q en (by rw[bM hn];rwa [bM hm]at hq)
    exact⟨e',by rw[bM hm];rwa [bM hn]at h1,h2⟩
theorem ag9{H:Heap}{gs:List Nat}{v:Value}{e sz n:Nat}{xs:List Value}(a7:∀q,q∈gs→H q≠none)(ho:cg (rem H gs) v e sz n xs):∀q,q∈aB v++gs→H q≠none:=fun q hq=>by
 rcases List.mem_append.1 hq with h | h
 ·obtain⟨en,he⟩:=ho.lift.1.block (cM.1 h)
  rw[he];simp
 ·exact a7 q h
theorem Q0{K:Heap}{v:Value}{e sz n:Nat}{xs:List Value}(h:cg K v e sz n xs)(hn:0<n):∃q c,v = .slice (some ⟨q,0,none⟩) n c∧K q=some ⟨xs,c*sz,e,true⟩:=by
 rcases h.2 with ⟨_,h2⟩ | ⟨g,cap,h1,h2,_⟩
 ·omega
 ·exact⟨g,cap,h1,h2⟩
theorem aha{H H':Heap}{gs b:List Nat}(h:Heap.le H (rem H' gs))(hb:∀q,q∈b→H q=none):Heap.le H (rem H' (b++gs)):=fun q e hq=>by
 obtain⟨e',h1,h2⟩:=h q e hq
 have hm:¬q∈gs:=fun hm=>by rw[rem_in hm]at h1;cases h1
 refine⟨e',?_,h2⟩
 rw[bM (fun h3=>by
  rcases List.mem_append.1 h3 with h3 | h3
  ·rw[hb q h3]at hq;cases hq
  ·exact hm h3)]
 rwa [bM hm]at h1
theorem le_none{H K:Heap}(h:Heap.le H K){q:Nat}(hq:K q=none):H q=none:=by
 cases hh:H q with
 | none=>rfl
 | some e=>(obtain⟨e',h1,_⟩:=h q e hh;rw[hq]at h1;cases h1)
theorem mq.aB{K0 K H:Heap}{lj v:Value}{e sz n:Nat}{xs:List Value}(h:mq K0 lj e sz n xs v K)(hl:Heap.le H K0)(hb:∀q,q∈aw.aB lj→H q=none):∀q,q∈aw.aB v→H q=none:=fun q hq=>by
 rcases h.new q (cM.1 hq)with h1 | h1
 ·exact hb q (cM.2 h1)
 ·exact le_none hl h1
end Go.aw
namespace Go.aw
open Go.Proofs Num Lp
def fB(rg:List (Nat×Nat))(bv:Value)(gk g:Nat):List Nat:=rg.map (·.1)++(aB bv ++ [gk,g])
def nJ(rg:List (Nat×Nat))(gk g:Nat):List Nat:=rg.map (·.1) ++ [gk,g]
def nK(rv:Value)(rg:List (Nat×Nat))(bv:Value)(gk:Nat):List Nat:=aB rv++(rg.map (·.1)++(aB bv ++ [gk]))
def Q3(w:Nat)(p:Nat×Nat):Value:= .slice (some ⟨p.1,0,none⟩) (w+1) p.2
theorem fU{rg:List (Nat×Nat)}{bv:Value}{gk g q:Nat}:q∈fB rg bv gk g↔q∈rg.map (·.1)∨q∈aB bv∨q=gk∨q=g:=by
 unfold fB;simp only[List.mem_append,List.mem_cons,List.not_mem_nil,or_false]
theorem ra{rg:List (Nat×Nat)}{gk g q:Nat}:q∈nJ rg gk g↔q∈rg.map (·.1)∨q=gk∨q=g:=by
 unfold nJ;simp only[List.mem_append,List.mem_cons,List.not_mem_nil,or_false]
theorem tX{rg:List (Nat×Nat)}{rv bv:Value}{gk q:Nat}:q∈nK rv rg bv gk↔q∈aB rv∨q∈rg.map (·.1)∨q∈aB bv∨q=gk:=by
 unfold nK;simp only[List.mem_append,List.mem_cons,List.not_mem_nil,or_false]
structure jH(K:Heap)(g gk w:Nat)(A:Nat→Nat→Rat)(unit:Nat→Nat)(H:Heap)(rv:Value)(k:Nat)(hd:List Value)(bv:Value)(kb:Nat)(rg:List (Nat×Nat)):Prop where
 ne:∀q,q∈fB rg bv gk g→H q≠none
 nd:(fB rg bv gk g).Nodup
 le:Heap.le K (rem H (fB rg bv gk g))
 zA:cg (rem H (fB rg bv gk g)) rv 85 1 k hd
 L8:∀q,q∈aB rv→K q=none
 HZ:cg H bv 3 1 kb (ints (fun j=>(unit j:Int)) kb)
 row:∀(j:Nat)(p:Nat×Nat),rg[j]? = some p→lJ (rem H (fB rg bv gk g)) H p.1 (aL (A j) (w+1))
section
variable {K:Heap} {g gk w:Nat} {A:Nat→Nat→Rat} {unit:Nat→Nat} {H H2:Heap} {rv:Value} {k:Nat} {hd:List Value} {bv:Value} {kb:Nat} {rg:List (Nat×Nat)}
theorem jH.Ia(h:jH K g gk w A unit H rv k hd bv kb rg):∀q,q∈aB rv→¬q∈fB rg bv gk g∧H q≠none:=fun q hq=>by
 have h1:=h.zA.lift
 refine⟨fun hm=>h1.2 q hm (cM.1 hq),?_⟩
 obtain⟨e,he⟩:=h1.1.block (cM.1 hq)
 rw[he];simp
theorem jH.neR(h:jH K g gk w A unit H rv k hd bv kb rg):∀q,q∈nK rv rg bv gk→H q≠none:=fun q hq=>by
 rcases tX.1 hq with h1 | h1 | h1 | h1
 ·exact(h.Ia q h1).2
 ·exact h.ne q (fU.2 (.inl h1))
 ·exact h.ne q (fU.2 (.inr (.inl h1)))
 ·exact h.ne q (fU.2 (.inr (.inr (.inl h1))))
theorem Ib{rg:List (Nat×Nat)}{bv:Value}{gk g:Nat}(h:(fB rg bv gk g).Nodup):¬g∈rg.map (·.1)∧¬g∈aB bv∧gk≠g∧(∀q,q∈aB bv→¬q∈rg.map (·.1)∧q≠gk)∧¬gk∈rg.map (·.1):=by
 unfold fB at h
 rw[List.nodup_append,List.nodup_append]at h
 obtain⟨_,⟨_,h2,h3⟩,h4⟩:=h
 have h5:gk≠g:=by
  rw[List.nodup_cons]at h2
  exact fun e=>h2.1 (by rw[e];exact List.mem_singleton.2 rfl)
 refine⟨fun hm=>h4 g hm g (by simp) rfl,fun hm=>h3 g hm g (by simp) rfl,h5,fun q hq=>⟨fun hm=>h4 q hm q (List.mem_append_left _ hq) rfl,fun e=>h3 q hq gk (by simp) e⟩,fun hm=>h4 gk hm gk (by simp) rfl⟩
theorem jH.gR(h:jH K g gk w A unit H rv k hd bv kb rg):¬g∈nK rv rg bv gk:=fun hm=>by
 obtain⟨n1,n2,n3,_⟩:=Ib h.nd
 rcases tX.1 hm with h1 | h1 | h1 | h1
 ·exact(h.Ia g h1).1 (fU.2 (.inr (.inr (.inr rfl))))
 ·exact n1 h1
 ·exact n2 h1
 ·exact n3 h1.symm
theorem jH.ahb(h:jH K g gk w A unit H rv k hd bv kb rg){z c:Nat}{xs:List Value}{sz:Nat}(hs:∀q,q∈nK rv rg bv gk→H2 q=H q)(kN:fy [g] (rem H (nK rv rg bv gk)) (rem H2 (nK rv rg bv gk)) z xs sz 90)
  (iI:bE (bS (rem (rem H2 (nK rv rg bv gk)) (z :: [g]))) 3 xs (aL (A rg.length) (w+1))):jH K g gk w A unit H2 rv k hd bv kb (rg ++ [(z,c)])∧H2 g=H g∧H2 gk=H gk:=by
 have Yw:=h.gR
 have eu:H2 g=H g:=by
  have:=kN.same g (List.mem_singleton.2 rfl)
  rwa [bM Yw,bM Yw]at this
 have Yx:H2 gk=H gk:=hs gk (tX.2 (.inr (.inr (.inr rfl))))
 have Yy:¬z∈nK rv rg bv gk:=fun hm=>by have:=kN.aB;rw[rem_in hm]at this;cases this
 have oZ:H2 z=some ⟨xs,sz,90,true⟩:=by have:=kN.aB;rwa [bM Yy]at this
 have js:H z=none:=by have:=kN.zn;rwa [bM Yy]at this
 have ou:z≠g:=fun e=>kN.zg (List.mem_singleton.2 e)
 have Yz:¬z∈fB rg bv gk g:=fun hm=>h.ne z hm js
 have oQ:∀q,q∈fB (rg ++ [(z,c)]) bv gk g↔q=z∨q∈fB rg bv gk g:=fun q=>by
  rw[fU,fU,List.map_append,List.mem_append]
  simp only[List.map_cons,List.map_nil,List.mem_singleton]
  constructor
  ·rintro((h | h) | h | h | h)
   ·exact .inr (.inl h)
   ·exact .inl h
   ·exact .inr (.inr (.inl h))
   ·exact .inr (.inr (.inr (.inl h)))
   ·exact .inr (.inr (.inr (.inr h)))
  ·rintro(h | h | h | h | h)
   ·exact .inl (.inr h)
   ·exact .inl (.inl h)
   ·exact .inr (.inl h)
   ·exact .inr (.inr (.inl h))
   ·exact .inr (.inr (.inr h))
 have Q4:∀q,q∈fB rg bv gk g→H2 q=H q:=fun q hq=>by
  rcases fU.1 hq with h1 | h1 | h1 | h1
  ·exact hs q (tX.2 (.inr (.inl h1)))
  ·exact hs q (tX.2 (.inr (.inr (.inl h1))))
  ·rw[h1];exact Yx
  ·rw[h1];exact eu
 have lr:∀q,q∈aB rv→H2 q=H q:=fun q hq=>hs q (tX.2 (.inl hq))
 have hle:Heap.le (rem H (fB rg bv gk g)) (rem H2 (fB (rg ++ [(z,c)]) bv gk g)):=fun q e hq=>by
  have hm:¬q∈fB rg bv gk g:=fun hm=>by rw[rem_in hm]at hq;cases hq
  rw[bM hm]at hq
  have L9:q≠z:=fun e'=>by rw[e',js]at hq;cases hq
  have lF:¬q∈fB (rg ++ [(z,c)]) bv gk g:=fun lF=>by
   rcases(oQ q).1 lF with h1 | h1
   ·exact L9 h1
   ·exact hm h1
  by_cases hb:q∈aB rv
  ·exact⟨e,by rw[bM lF,lr q hb];exact hq,.refl e⟩
  ·have hR:¬q∈nK rv rg bv gk:=fun hR=>by
    rcases tX.1 hR with h1 | h1 | h1 | h1
    ·exact hb h1
    ·exact hm (fU.2 (.inl h1))
    ·exact hm (fU.2 (.inr (.inl h1)))
    ·exact hm (fU.2 (.inr (.inr (.inl h1))))
   have Gr:q≠g:=fun e'=>hm (fU.2 (.inr (.inr (.inr e'))))
   obtain⟨e',h1,h2⟩:=kN.le q e (by rw[bM (fun h'=>Gr (List.mem_singleton.1 h')),bM hR];exact hq)
   have ahc:¬q∈z :: [g]:=fun h'=>by
    rcases List.mem_cons.1 h' with h' | h'
    ·exact L9 h'
    ·exact Gr (List.mem_singleton.1 h')
   rw[bM ahc,bM hR]at h1
   exact⟨e',by rw[bM lF];exact h1,h2⟩
 have ahd:Heap.le (rem (rem H2 (nK rv rg bv gk)) (z :: [g])) (rem H2 (fB (rg ++ [(z,c)]) bv gk g)):=fun q e hq=>by
  have h1:¬q∈z :: [g]:=fun h'=>by rw[rem_in h']at hq;cases hq
  rw[bM h1]at hq
  have h2:¬q∈nK rv rg bv gk:=fun h'=>by rw[rem_in h']at hq;cases hq
  rw[bM h2]at hq
  refine⟨e,?_,.refl e⟩
  rw[bM]
  ·exact hq
  ·intro h3
   rcases(oQ q).1 h3 with h4 | h4
   ·exact h1 (by rw[h4];exact List.mem_cons_self ..)
   ·rcases fU.1 h4 with h5 | h5 | h5 | h5
    ·exact h2 (tX.2 (.inr (.inl h5)))
    ·exact h2 (tX.2 (.inr (.inr (.inl h5))))
    ·exact h2 (tX.2 (.inr (.inr (.inr h5))))
    ·exact h1 (by rw[h5];exact List.mem_cons_of_mem _ (List.mem_singleton.2 rfl))
 refine⟨⟨fun q hq=> ?_,?_,h.le.trans hle,h.zA.same fun q hq=> ?_,h.L8,h.HZ.same fun q hq=>Q4 q (fU.2 (.inr (.inl (cM.2 hq)))),fun j p hp=> ?_⟩,eu,Yx⟩
 ·rcases(oQ q).1 hq with h1 | h1
  ·rw[h1,oZ];simp
  ·rw[Q4 q h1];exact h.ne q h1
 ·have dX:=h.nd
  unfold fB at dX⊢
  rw[List.map_append,List.append_assoc,List.nodup_append]at *
  refine⟨dX.1,?_,fun a ha b hb=> ?_⟩
  ·simp only[List.map_cons,List.map_nil,List.singleton_append,List.nodup_cons]
   exact⟨fun hm=>Yz (by unfold fB;exact List.mem_append_right _ hm),dX.2.1⟩
  ·simp only[List.map_cons,List.map_nil,List.singleton_append,List.mem_cons]at hb
   rcases hb with hb | hb
   ·intro e
    exact Yz (by unfold fB;rw[←hb,←e];exact List.mem_append_left _ ha)
   ·exact dX.2.2 a ha b (by simpa using hb)
 ·have h1:=h.Ia q (cM.2 hq)
  have L9:q≠z:=fun e=>h1.2 (by rw[e];exact js)
  rw[bM h1.1,bM (fun h2=>by
   rcases(oQ q).1 h2 with h3 | h3
   ·exact L9 h3
   ·exact h1.1 h3),lr q (cM.2 hq)]
 ·by_cases hj:j<rg.length
  ·rw[List.getElem?_append_left hj]at hp
   exact(h.row j p hp).le hle (Q4 _ (fU.2 (.inl (List.mem_map.2 ⟨p,List.mem_of_getElem? hp,rfl⟩))))
  ·rw[List.getElem?_append_right (by omega)]at hp
   have hj0:j-rg.length=0:=by
    have:=(List.getElem?_eq_some_iff.1 hp).1
    simp at this;omega
   rw[hj0]at hp
   simp only[List.getElem?_cons_zero,Option.some.injEq]at hp
   subst hp
   have:j=rg.length:=by omega
   rw[this]
   exact⟨xs,sz,oZ,iI.mono fun vs a=>jr _ _ vs a ahd⟩
theorem jH.ahe(h:jH K g gk w A unit H rv k hd bv kb rg){YA:Value}{k':Nat}{m8:List Value}(hG:mq (rem H (fB rg bv gk g)) rv 85 1 k' m8 YA (rem H2 (fB rg bv gk g)))(hs:∀q,q∈fB rg bv gk g→q≠g→H2 q=H q)(hg:H2 g≠none):jH K g gk w A unit H2 YA k' m8 bv kb rg:=by
 obtain⟨n1,n2,n3,n4,n5⟩:=Ib h.nd
 refine⟨fun q hq=> ?_,h.nd,h.le.trans hG.le,hG.own,hG.aB h.le h.L8,h.HZ.same fun q hq=> ?_,fun j p hp=> ?_⟩
 ·by_cases e:q=g
  ·rw[e];exact hg
  ·rw[hs q hq e];exact h.ne q hq
 ·have:=cM.2 hq
  exact hs q (fU.2 (.inr (.inl this))) (fun e=>n2 (by rw[←e];exact this))
 ·have hm:p.1∈rg.map (·.1):=List.mem_map.2 ⟨p,List.mem_of_getElem? hp,rfl⟩
  exact(h.row j p hp).le hG.le (hs _ (fU.2 (.inl hm)) (fun e=>n1 (by rw[←e];exact hm)))
theorem jH.ahf(h:jH K g gk w A unit H rv k hd bv kb rg){Ic:Value}(hG:mq (rem H (nJ rg gk g)) bv 3 1 (kb+1) (ints (fun j=>(unit j:Int)) (kb+1)) Ic (rem H2 (nJ rg gk g)))(hs:∀q,q∈nJ rg gk g→q≠g→H2 q=H q)(hg:H2 g≠none):jH K g gk w A unit H2 rv k hd Ic (kb+1) rg:=by
 obtain⟨n1,n2,n3,n4,n5⟩:=Ib h.nd
 have Q5:∀q,q∈nJ rg gk g→q∈fB rg bv gk g:=fun q hq=>by
  rcases ra.1 hq with h1 | h1 | h1
  ·exact fU.2 (.inl h1)
  ·exact fU.2 (.inr (.inr (.inl h1)))
  ·exact fU.2 (.inr (.inr (.inr h1)))
 have YB:∀q,q∈nJ rg gk g→H2 q≠none:=fun q hq=>by
  by_cases e:q=g
  ·rw[e];exact hg
  ·rw[hs q hq e];exact h.ne q (Q5 q hq)
 have s6:=hG.own.lift
 have Q6:∀q,q∈aB Ic→¬q∈nJ rg gk g:=fun q hq hm=>s6.2 q hm (cM.1 hq)
 have Ma:∀q,q∈aB Ic→q∈aB bv∨H q=none:=fun q hq=>by
  rcases hG.new q (cM.1 hq)with h1 | h1
  ·exact .inl (cM.2 h1)
  ·exact .inr (by rwa [bM (Q6 q hq)]at h1)
 have hle:Heap.le (rem H (fB rg bv gk g)) (rem H2 (fB rg Ic gk g)):=fun q e hq=>by
  have hm:¬q∈fB rg bv gk g:=fun hm=>by rw[rem_in hm]at hq;cases hq
  rw[bM hm]at hq
  have hJ:¬q∈nJ rg gk g:=fun h1=>hm (Q5 q h1)
  obtain⟨e',h1,h2⟩:=hG.le q e (by rw[bM hJ];exact hq)
  rw[bM hJ]at h1
  refine⟨e',?_,h2⟩
  rw[bM]
  ·exact h1
  ·intro h3
   rcases fU.1 h3 with h4 | h4 | h4
   ·exact hm (fU.2 (.inl h4))
   ·rcases Ma q h4 with h5 | h5
    ·exact hm (fU.2 (.inr (.inl h5)))
    ·rw[h5]at hq;cases hq
   ·exact hm (fU.2 (.inr (.inr h4)))
 have ahg:cg (rem H (nJ rg gk g)) rv 85 1 k hd:=h.zA.same fun q hq=>by
  have h1:=(h.Ia q (cM.2 hq)).1
  rw[bM h1,bM (fun h2=>h1 (Q5 q h2))]
 have L7:B8 bv rv:=fun q h1 h2=>(h.Ia q (cM.2 h2)).1 (fU.2 (.inr (.inl (cM.2 h1))))
 obtain⟨Eg,Q7⟩:=hG.keep _ _ _ _ _ ahg L7
 refine⟨fun q hq=> ?_,?_,h.le.trans hle,Eg.same fun q hq=> ?_,h.L8,s6.1,fun j p hp=> ?_⟩
 ·rcases fU.1 hq with h1 | h1 | h1
  ·exact YB q (ra.2 (.inl h1))
  ·obtain⟨e,he⟩:=s6.1.block (cM.1 h1)
   rw[he];simp
  ·exact YB q (ra.2 (.inr h1))
 ·have dX:=h.nd
  unfold fB at dX⊢
  rw[List.nodup_append,List.nodup_append]at *
  refine⟨dX.1,⟨?_,dX.2.1.2.1,fun a ha b hb e=> ?_⟩,fun a ha b hb e=> ?_⟩
  ·unfold aB;split <;> simp
  ·refine Q6 a ha (ra.2 (.inr ?_))
   rw[e];simpa using hb
  ·rcases List.mem_append.1 hb with h1 | h1
   ·exact Q6 b h1 (ra.2 (.inl (by rw[←e];exact ha)))
   ·exact dX.2.2 a ha b (List.mem_append_right _ h1) e
 ·have h1:¬q∈nJ rg gk g:=fun h1=>Eg.lift.2 q h1 hq
  rw[bM h1,bM]
  intro h2
  rcases fU.1 h2 with h3 | h3 | h3
  ·exact h1 (ra.2 (.inl h3))
  ·exact Q7 q (cM.1 h3) hq
  ·exact h1 (ra.2 (.inr h3))
 ·have hm:p.1∈rg.map (·.1):=List.mem_map.2 ⟨p,List.mem_of_getElem? hp,rfl⟩
  exact(h.row j p hp).le hle (hs _ (ra.2 (.inl hm)) (fun e=>n1 (by rw[←e];exact hm)))
theorem jH.YC(h:jH K g gk w A unit H rv k hd bv kb rg):cg (rem H (nJ rg gk g)) bv 3 1 kb (ints (fun j=>(unit j:Int)) kb):=by
 obtain⟨n1,n2,n3,n4,n5⟩:=Ib h.nd
 refine h.HZ.same fun q hq=> ?_
 have hb:=cM.2 hq
 rw[bM]
 intro h1
 rcases ra.1 h1 with h2 | h2 | h2
 ·exact(n4 q hb).1 h2
 ·exact(n4 q hb).2 h2
 ·exact n2 (by rw[←h2];exact hb)
theorem jH.leR(h:jH K g gk w A unit H rv k hd bv kb rg):Heap.le K (rem (rem H (nK rv rg bv gk)) [g]):=fun q e hq=>by
 obtain⟨e',h1,h2⟩:=h.le q e hq
 have hm:¬q∈fB rg bv gk g:=fun hm=>by rw[rem_in hm]at h1;cases h1
 rw[bM hm]at h1
 refine⟨e',?_,h2⟩
 rw[bM (fun h3=>hm (fU.2 (.inr (.inr (.inr (List.mem_singleton.1 h3)))))),bM]
 ·exact h1
 ·intro h3
  rcases tX.1 h3 with h4 | h4 | h4 | h4
  ·rw[h.L8 q h4]at hq;cases hq
  ·exact hm (fU.2 (.inl h4))
  ·exact hm (fU.2 (.inr (.inl h4)))
  ·exact hm (fU.2 (.inr (.inr (.inl h4))))
end
end Go.aw
namespace Go.aw
open Go.Proofs Num Lp
section
variable (p:Prg)
theorem zB{j:Nat}(h:j<p.lp.n):p.lay.pF j=aX p.lp.free j:=by
 simp[TL.pF,Prg.lay,List.getD,h]
theorem Ie{j:Nat}(h:j<p.lp.n):p.lay.mZ j=mV p.lp.free j:=by
 simp[TL.mZ,Prg.lay,List.getD,h]
theorem mr:p.c1≤p.u:=(sI p.lp.rel p.c1 p.lp.m).2
theorem fp:p.u≤p.w:=(tW p.lp.rel p.aK p.u p.lp.m).2
theorem Ig{j:Nat}(h:j<p.lp.n):aX p.lp.free j<p.c1:=by
 have:=B6 (fr:=p.lp.free) h
 have e:p.c1=aX p.lp.free p.lp.n:=rfl
 omega
theorem Ew{j:Nat}(h:j<p.lp.n):mV p.lp.free j<p.c1:=by
 have:=B6 (fr:=p.lp.free) h
 have e:p.c1=aX p.lp.free p.lp.n:=rfl
 unfold mV
 by_cases hf:p.lp.free j
 ·rw[if_pos hf]at this⊢;omega
 ·rw[if_neg hf];omega
theorem Q8{i:Nat}(h:i<p.lp.m)(hr:p.lp.rel i≠2):(p.c1:Int)≤eY p.lp.rel p.c1 i∧eY p.lp.rel p.c1 i<p.u:=by
 have h1:=QS (rel:=p.lp.rel) (c:=p.c1) h
 have h2:=(sI p.lp.rel p.c1 i).2
 rw[if_neg hr]at h1
 have e:p.u=bD p.lp.rel p.c1 p.lp.m:=rfl
 unfold eY
 rw[if_neg hr];omega
theorem ow{i:Nat}(h:i<p.lp.m):p.unit i<p.w:=by
 have h3:=fp p
 show q6 _ _ _ _ _<_
 unfold q6
 by_cases ho:fe (p.lp.rel i) (p.aK i)=true
 ·rw[if_pos ho]
  have hr:p.lp.rel i≠2:=by
   unfold fe at ho
   rw[decide_eq_true_eq]at ho
   omega
  have:=Q8 p h hr
  unfold eY at this
  rw[if_neg hr]at this
  omega
 ·rw[if_neg ho]
  have:=QT (rel:=p.lp.rel) (sg:=p.aK) (u:=p.u) h
  rw[if_neg ho]at this
  have e:p.w=aY p.lp.rel p.aK p.u p.lp.m:=rfl
  omega
theorem Ih:p.w≤2*p.lp.n+2*p.lp.m:=by
 have h1:=(tW p.lp.rel p.aK p.u p.lp.m).1
 have h2:=(sI p.lp.rel p.c1 p.lp.m).1
 have h3:=QR p.lp.free p.lp.n
 have e1:p.w=aY p.lp.rel p.aK p.u p.lp.m:=rfl
 have e2:p.u=bD p.lp.rel p.c1 p.lp.m:=rfl
 have e3:p.c1=aX p.lp.free p.lp.n:=rfl
 omega
theorem ahh{i:Nat}{r:List Rat×Int×Rat}(h:p.rows[i]? = some r):p.eh.A i=LR p.lay p.lp.n (fn r.1) r.2.2 r.2.1 (eY p.lp.rel p.c1 i) (p.unit i) (p.aK i:Rat):=by
 show LR p.lay p.lp.n (fn (p.row i).1) (p.row i).2.2 (p.row i).2.1 _ _ _=_
 rw[Prg.mc h]
end
theorem jH.tab{K H:Heap}{g gk:Nat}{p:Prg}{rv bv pv mv uv sv:Value}{rg:List (Nat×Nat)}(h:jH K g gk p.w p.eh.A p.unit H rv p.lp.m (rg.map (Q3 p.w)) bv p.lp.m rg)(hl:rg.length=p.lp.m)
  (hg:H g=some ⟨[.int .i64 (p.w:Int),.int .i64 (p.u:Int),pv,mv,uv,sv,rv,.slice none 0 0,bv],9,97,true⟩) (sq:aR vw 1 K pv p.lay.plus) (vz:aR BH 1 K mv p.lay.minus) (HB:aR vw 1 K uv p.lay.ku) (wz:aR bS 3 K sv p.lay.ke):
  ∃G:TG,Value.pointer (some ⟨g,0,none⟩) = .pointer (some ⟨G.g,0,none⟩)∧dG H G p.lay p.eh∧G.cb = []∧Heap.le K (rem H G.gs):=by
 obtain⟨Ar,cr,rfl⟩:=h.zA.form
 obtain⟨n1,n2,n3,n4,n5⟩:=Ib h.nd
 have dX:=h.nd
 unfold fB at dX
 rw[List.nodup_append,List.nodup_append]at dX
 let G:TG:=⟨g,cr,Ar,pv,mv,uv,sv,.slice none 0 0,bv,rg,[],aB bv⟩
 have oQ:∀q,q∈G.gs→q∈fB rg bv gk g:=fun q hq=>by
  rcases List.mem_cons.1 hq with h1 | h1
  ·exact fU.2 (.inr (.inr (.inr h1)))
  ·rcases List.mem_append.1 h1 with h2 | h2
   ·cases h2
   ·rcases List.mem_append.1 h2 with h3 | h3
    ·exact fU.2 (.inr (.inl h3))
    ·exact fU.2 (.inl h3)
 have hle:Heap.le (rem H (fB rg bv gk g)) (rem H G.gs):=fun q e hq=>by
  have hm:¬q∈fB rg bv gk g:=fun hm=>by rw[rem_in hm]at hq;cases hq
  rw[bM hm]at hq
  exact⟨e,by rw[bM (fun h'=>hm (oQ q h'))];exact hq,.refl e⟩
 have hK:=h.le.trans hle
 refine⟨G,rfl,⟨rfl,fp p,hg,?_,hl,⟨_,h.zA.rd.le hle,fun i q hq=> ?_⟩,fun i q hq=>(h.row i q hq).le hle rfl,?_,sq.le mS hK,vz.le vx hK,HB.le mS hK,wz.le jr hK,fun q hq=>by cases hq⟩,rfl,hK⟩
 ·show (g::([]++(aB bv++rg.map (·.1)))).Nodup
  rw[List.nil_append,List.nodup_cons,List.nodup_append]
  refine⟨fun hm=> ?_,dX.2.1.1,dX.1,fun a ha b hb e=>(n4 a ha).1 (by rw[e];exact hb)⟩
  rcases List.mem_append.1 hm with h1 | h1
  ·exact n2 h1
  ·exact n1 h1
 ·rw[List.getElem?_map,show rg[i]? = some q from hq];rfl
 ·rcases h.HZ.2 with ⟨h1,h2⟩ | ⟨gb,cb,h1,h2,_⟩
  ·refine .inl ⟨h2,?_,h1⟩
   show aB bv = []
   rw[h1];rfl
  ·refine .inr ⟨gb,cb,_,?_,h1,h2⟩
   show aB bv = [gb]
   rw[h1];rfl
theorem jH.new{H:Heap}{g gk w:Nat}{A:Nat→Nat→Rat}{unit:Nat→Nat}(a7:∀q,q∈[gk,g]→H q≠none)(h:gk≠g):jH (rem H [gk,g]) g gk w A unit H (.slice none 0 0) 0 [] (.slice none 0 0) 0 []:=
 ⟨a7,(by show [gk,g].Nodup;simp[h]),.refl _,lB _ _ _,(fun q hq=>by cases hq),lB _ _ _,(fun j p hp=>by simp at hp)⟩
theorem cg.nums{K K':Heap}{v:Value}{f:Nat→Rat}{k:Nat}{ys:List Value}(h:cg K v 90 3 k ys)(hy:∀K:Heap,bE (bS K) 3 ys (aL f k))(hl:Heap.le K K'):aR bS 3 K' v (aL f k):=by
 obtain⟨A,c,rfl⟩:=h.form
 refine⟨A,c,_,by rw[bh],?_,h.rd.le hl,hy _⟩
 rw[bh]
 rcases h.2 with ⟨k1,k2⟩ | ⟨g,cap,k1,_,k3,_⟩
 ·omega
 ·cases k1;exact k3
theorem YD{s:Int}(h:s=1∨s = -1):aP (s:Rat)≤1:=by
 rcases h with h | h <;> subst h <;> decide
theorem B9(A:Option Addr)(k c:Nat):∀u,u∈[Value.slice A k c]→u.oneCell'=true:=fun u hu=>by rw[List.mem_singleton]at hu;rw[hu];rfl
end Go.aw
