/- Part 7 of the proof: Ref5, Ref6, Tab9, Nt, Nt2, Nt3. -/
import Derived.Test.YtdjoookebbbjkaaGreatA06
set_option linter.unusedVariables false
namespace Go.aq
open Go.Proofs Num
theorem XC{x y:Nat}:(0<kz x y)↔y<x:=by
 unfold kz;split
 ·omega
 ·split <;> omega
theorem ag0{x y:Nat}:(kz x y<0)↔x<y:=by
 unfold kz;split
 ·omega
 ·split <;> omega
theorem GY{x y:Nat}:(0≤kz x y)↔y≤x:=by
 unfold kz;split
 ·omega
 ·split <;> omega
theorem XD{l:List Nat}{k d:Nat}(h:l[k]? = some d):val (l.drop k)=d+B*val (l.drop (k+1)):=by
 obtain⟨hk,e⟩:=List.getElem?_eq_some_iff.1 h
 rw[List.drop_eq_getElem_cons hk,e,jC]
theorem ag1{a:Nat}{l:List Nat}(ha:a<B)(h:Lt l):Lt (a::l):=fun z hz=>by
 rcases List.mem_cons.1 hz with rfl | hz
 ·exact ha
 ·exact h z hz
theorem kW.ag2{H:Heap}{v:Value}{l:List Nat}(h:bW H v 74 1 l.length (U l)):jD H v l:=kW.lim h
theorem GZ{H:Heap}{u v:Value}{x y:Nat}(hx:dt H u x)(hy:dt H v y)(jm:0<y)(hm:((al x).length:Int)<4398046511104)(bL:((al y).length:Int)<4398046511104):
 Fn Tryz.prog 76 #[u,v] H (Vv H x y):=by
 have mo:=hx
 have rZ:=hy
 obtain⟨A,c,rfl,hc,hr⟩:=hx
 obtain⟨A',c',rfl,jA,dS⟩:=hy
 have fY:=(fR x).lt
 have dO:=(fR y).lt
 have ae5:(al y).length≠0:=fun e=>Ou jm (List.eq_nil_of_length_eq_zero e);refine aY (args:=[_,_]) Tryz.func76 rfl rfl Tryz.ntmps76 rfl rfl fun w0=> ?_;refine ah [0,1] rfl ?_;refine ae (aa 2 rfl (ab [0,1] ?_));refine ao (ae (aa 2 rfl (aB rfl rfl (Lk mo rZ (by omega)) ?_)));rintro v1 H1 ⟨e1,rfl⟩;rw[e1];refine aa 1 rfl (ab [0,1,15] ?_);refine aD rfl (fun hb=> ?_) (fun hb=> ?_)
 ·
  have qx:x<y:=ag0.1 (by simpa using hb);refine ae (aa 1 rfl (aB rfl rfl (BF mo fY (by omega)) ?_));rintro v1 H1 hp;rw[cU]at hp;refine aa 2 rfl (ab [4,5] ?_);refine az ⟨.inr rfl,_,.tmp rfl (.tmp rfl (.nil)),?_⟩;exact⟨hp.le,_,_,rfl,by rw[Nat.div_eq_of_lt qx];exact wF _,by rw[Nat.mod_eq_of_lt qx];exact hp.nat⟩
 ·
  have qx:y≤x:=GY.1 (by simpa using hb);refine aw (ah [0,1] rfl ?_);refine ao (ae (aa 3 rfl (ab [0,1,20] ?_)));refine aD rfl (fun hb=> ?_) (fun hb=> ?_)
  ·
   have hb:(al y).length=1:=by simp at hb;omega
   have Ln:(al y)[0]? = some y:=by
    obtain⟨z,hz⟩:=List.length_eq_one_iff.1 hb;have:=cU y;rw[hz]at this⊢
    simp[val]at this
    simp[this]
   have F2:=dO.get Ln;rw[ck]at F2;refine ae (aa 2 rfl (aS ag rfl rfl rfl rfl rfl (dS) (dC Ln) (by omega) (by omega) fun _=>(dr ag rfl rfl rfl ⟨by omega,by omega⟩ (aB rfl rfl (agU mo fY F2 jm (by omega)) ?_))));rintro v1 H2 ⟨hle,q,rfl,hq⟩;refine vr 1 ?_;rw[cU]at hq⊢;refine aa 4 rfl (ab [6,7] ?_);refine ae (aa 2 rfl (aB rfl rfl (GW (x:=x%y) (by have:=Nat.mod_lt x jm;omega)) ?_));intro v1 H3 hp;refine aa 2 rfl (ab [4,5] ?_);refine az ⟨.inr rfl,_,.tmp rfl (.tmp rfl (.nil)),?_⟩;exact⟨hle.trans hp.le,_,_,rfl,hq.le hp.le,hp.nat⟩
  have hb:(al y).length≠1:=by simp at hb;omega
  have ia:2≤(al y).length:=by omega
  refine aw (ah [0,1] rfl ?_);refine ae (aa 2 rfl (gO Tryz.underlying36 eL rfl rfl rfl (by omega) (by omega) (by omega) (by omega) ?_));intro g hg;rw[show (((al x).length:Int)).toNat=(al x).length from by omega,yJ];refine aa 1 rfl (ab [0,1,8] ?_);refine ae (aa 1 rfl (ab [0,1,8,9] ?_));refine ao (ae (aa 2 rfl (cQ rfl rfl ⟨by omega,by omega⟩ (aa 1 rfl (ab [0,1,8,9,10] ?_)))));refine aE (rS (fun(k:Nat)(rv:Value)(r:Nat)(l:List Nat)=>k) (fun(k:Nat)(rv:Value)(r:Nat)(l:List Nat)=>put (put (put (put (put (emp) 0 (.val (.slice A (al x).length c))) 1 (.val (.slice A' (al y).length c'))) 8 (.val (.slice (some ⟨g,0,none⟩) (al x).length (al x).length))) 9 (.val (rv))) 10 (.val (.int .i64 ((k:Int)-1)))) (fun(k:Nat)(rv:Value)(r:Nat)(l:List Nat) H'=>Heap.le H (rem H' [g])∧H' g=some (dH l (al x).length)∧l.length=(al x).length∧Lt l∧k≤(al x).length∧r<y∧dt (rem H' [g]) rv r∧val ((al x).drop k)=val (l.drop k)*y+r) (al x).length (.slice none 0 0) 0 _ (⟨by rw[sh _ hg,oO];exact .refl _,bC _ _ _,by simp,Lt.replicate _,Nat.le_refl _,jm,wF _,by simp[val]⟩) ar ?_);rintro k rv r l H1 ⟨hle,FX,tI,bP,hk,PK,lg,hv⟩
  obtain⟨Ar,cr,rfl,qu,oU⟩:=id lg;have am7:=ml (Nat.le_of_lt PK);have oT:=hle.trans (bF H1 [g]);refine ao (ae (aa 2 rfl (ab [0,1,8,9,10,40] ?_)));refine aD rfl (fun hb=> ?_) (fun hb=> ?_)
  ·
   have hb:0<k:=by simp at hb;omega
   obtain⟨ai,Lq⟩:∃d,(al x)[k-1]? = some d:=⟨_,List.getElem?_eq_getElem (by omega)⟩;have XE:=fY.get Lq;rw[ck]at XE
   have XF:(((k:Int)-1)).toNat=k-1:=by omega
   refine aw (ah [0,1,8,9,10] rfl ?_);refine ao (aE (ae (aa 2 rfl (aS ag rfl rfl rfl rfl rfl (hr.le oT) (by rw[XF];exact dC Lq) (by omega) (by omega) fun _=> ?_))));refine cS Tryz.underlying36 eL rfl rfl rfl rfl rfl rfl rfl ?_;intro gb a6
   have PL:gb≠g:=fun e=>by subst e;rw[FX]at a6;cases a6
   refine aa 1 rfl (eD Tryz.underlying36 eL rfl rfl ((⟨rfl,.inr ⟨gb,1,rfl,bC _ _ _,Nat.le_refl _,by decide⟩⟩:bW _ _ 74 1 1 (U [ai]))) ((oU.le (bF _ _)).le (Heap.bI _ a6)) (by rw[C9,Nat.mul_one]) (oC _) (by omega) (by omega) ?_);intro v1 H2 ha;have pA:=ha.rem (gs:=[g]) (fun q hq=>by simp only[List.mem_singleton]at hq;subst hq;rw[bn _ _ (Ne.symm PL),FX];simp) (fun q hq=>by simp only[List.mem_singleton]at hq;subst hq;intro e;cases e;exact PL rfl)
   have eu:H2 g=some (dH l (al x).length):=by rw[pA.2 g (List.mem_singleton.2 rfl),bn _ _ (Ne.symm PL),FX]
   have ga:Heap.le (rem H1 [g]) (rem H2 [g]):=(se [g] (Heap.bI _ a6)).trans pA.1.le;have ag3:jD (rem H2 [g]) v1 (ai::al r):=kW.ag2 (by have h0:=pA.1.own;rw[←Kd,Nat.add_comm]at h0;exact h0);refine aB rfl rfl (Fn.frame (gs:=[g]) (fun q hq=>by simp only[List.mem_singleton]at hq;subst hq;rw[eu];simp) (BF ag3 (ag1 (by rw[ck];exact XE) (fR r).lt) (by rw[List.length_cons];omega))) ?_;rintro v2 H3 ⟨dY,BC⟩;rw[jC,cU]at dY;obtain⟨r1,XG⟩:∃r1,r1=ai+B*r:=⟨_,rfl⟩;rw[←XG]at dY;have lV:=(BC g (List.mem_singleton.2 rfl)).trans eu;have iA:=ga.trans dY.le
   have Lo:r1<B*y:=by rw[XG,ck];omega
   have ag4:(al r1).length≤(al y).length+1:=jd.2 (by rw[Nat.pow_succ,Nat.mul_comm _ B];exact Nat.lt_trans Lo (Nat.mul_lt_mul_of_pos_left (C6 y) mU));have Eb:=(rZ.le hle).le iA;have jP:=dY.nat;obtain⟨A3,c3,rfl,pN,qA⟩:=id jP;refine aa 1 rfl (ab [0,1,8,9,10] ?_);refine ae (aa 2 rfl (aB rfl rfl (Fn.frame (gs:=[g]) (fun q hq=>by simp only[List.mem_singleton]at hq;subst hq;rw[lV];simp) (agW jP Eb ia ag4 (by omega))) ?_));rintro v3 H4 ⟨⟨fL,d0,rfl,xC⟩,zf⟩;have BG:=(zf g (List.mem_singleton.2 rfl)).trans lV
   have kC:Heap.le (rem H1 [g]) (rem H4 [g]):=by rw[fL];exact iA
   refine aa 1 rfl (ab [0,1,8,9,10,11] ?_);refine kT (fun(d:Nat)=>put (put (put (put (put (put (emp) 0 (.val (.slice A (al x).length c))) 1 (.val (.slice A' (al y).length c'))) 8 (.val (.slice (some ⟨g,0,none⟩) (al x).length (al x).length))) 9 (.val (.slice A3 (al r1).length c3))) 10 (.val (.int .i64 ((k:Int)-1)))) 11 (.val (.int .u64 (d:Int)))) (fun(d:Nat) H'=>Heap.le (rem H3 [g]) (rem H' [g])∧H' g=some (dH l (al x).length)∧d≤999999999∧y*d≤r1) ?_ ?_
   ·
    refine aE (fI (fun(d:Nat)=>d) (fun(d:Nat)=>put (put (put (put (put (put (emp) 0 (.val (.slice A (al x).length c))) 1 (.val (.slice A' (al y).length c'))) 8 (.val (.slice (some ⟨g,0,none⟩) (al x).length (al x).length))) 9 (.val (.slice A3 (al r1).length c3))) 10 (.val (.int .i64 ((k:Int)-1)))) 11 (.val (.int .u64 (d:Int)))) (fun(d:Nat) H'=>Heap.le (rem H3 [g]) (rem H' [g])∧H' g=some (dH l (al x).length)∧d≤999999999) d0 (⟨by rw[fL];exact .refl _,BG,xC⟩) ar ?_);rintro d H5 ⟨iP,sM,hd5⟩;have zi:=Eb.le iP;have hn5:=jP.le iP;refine ao ?_
    rcases Nat.eq_zero_or_pos d with xC | xC
    ·
     subst xC;refine ae (aa 1 rfl (aG false rfl rfl (kA (by omega)) (aa 9 rfl (ab [0,1,8,9,10,11,64] ?_))));refine dd rfl (aU ?_);exact⟨0,ar,iP,sM,by omega,by omega⟩
    have Pr:(al d).length≤3:=jd.2 (by rw[ck];omega);refine ae (aa 1 rfl (aG true rfl rfl (oB (by omega)) (aa 3 rfl (aB rfl rfl (Fn.frame (gs:=[g]) (fun q hq=>by simp only[List.mem_singleton]at hq;subst hq;rw[sM];simp) (GW (x:=d) (by omega))) ?_))));rintro v4 Ha ⟨xD,PM⟩;have G6:=(PM g (List.mem_singleton.2 rfl)).trans sM;refine aB rfl rfl (Fn.frame (gs:=[g]) (fun q hq=>by simp only[List.mem_singleton]at hq;subst hq;rw[G6];simp) (xB (zi.le xD.le) xD.nat (by omega) (by omega))) ?_;rintro v5 Hb ⟨BH,PN⟩;have zj:=(PN g (List.mem_singleton.2 rfl)).trans G6;have pD:=oF y d;refine aa 1 rfl (aB rfl rfl (Fn.frame (gs:=[g]) (fun q hq=>by simp only[List.mem_singleton]at hq;subst hq;rw[zj];simp) (Lk BH.nat ((hn5.le xD.le).le BH.le) (by omega))) ?_);rintro v6 Hc ⟨⟨PO,rfl⟩,AU⟩;have qL:=(AU g (List.mem_singleton.2 rfl)).trans zj
    have XH:Heap.le (rem H3 [g]) (rem Hc [g]):=by rw[PO];exact(iP.trans xD.le).trans BH.le
    refine aa 2 rfl (ab [0,1,8,9,10,11,64] ?_);refine aD rfl (fun hb=> ?_) (fun hb=> ?_)
    ·
     have hb:r1<y*d:=XC.1 (by simpa using hb);refine aw (ah [0,1,8,9,10,11] rfl ?_);refine aE (aA rfl (aa 1 rfl (cQ rfl rfl ⟨by omega,by omega⟩ (aa 1 rfl (au ?_)))));exact⟨d-1,by omega,ar,XH,qL,by omega⟩
    have hb:y*d≤r1:=by
     have:¬0<kz (y*d) r1:=by simpa using hb
     rw[XC]at this;omega
    refine aU ?_;exact⟨d,ar,XH,qL,hd5,hb⟩
   rintro d H6 ⟨sD,nO,hd6,hyd⟩;have hy6:=Eb.le sD;have hn6:=jP.le sD;have Pr:(al d).length≤3:=jd.2 (by rw[ck];omega);refine ae (aa 3 rfl (aB rfl rfl (Fn.frame (gs:=[g]) (fun q hq=>by simp only[List.mem_singleton]at hq;subst hq;rw[nO];simp) (GW (x:=d) (by omega))) ?_));rintro v4 Ha ⟨xD,PM⟩;have G6:=(PM g (List.mem_singleton.2 rfl)).trans nO;refine aB rfl rfl (Fn.frame (gs:=[g]) (fun q hq=>by simp only[List.mem_singleton]at hq;subst hq;rw[G6];simp) (xB (hy6.le xD.le) xD.nat (by omega) (by omega))) ?_;rintro v5 Hb ⟨BH,PN⟩;have zj:=(PN g (List.mem_singleton.2 rfl)).trans G6;refine aB rfl rfl (Fn.frame (gs:=[g]) (fun q hq=>by simp only[List.mem_singleton]at hq;subst hq;rw[zj];simp) (Lm ((hn6.le xD.le).le BH.le) BH.nat hyd (by omega))) ?_;rintro v6 Hc ⟨XI,AU⟩;have kI:=(AU g (List.mem_singleton.2 rfl)).trans zj;have ag5:=((sD.trans xD.le).trans BH.le).trans XI.le;refine aa 1 rfl (ab [0,1,8,9,10,11] ?_);refine ao (aE (fD (fun(d2:Nat)(G8:Value)(r2:Nat)=>r2) (fun(d2:Nat)(G8:Value)(r2:Nat)=>put (put (put (put (put (put (emp) 0 (.val (.slice A (al x).length c))) 1 (.val (.slice A' (al y).length c'))) 8 (.val (.slice (some ⟨g,0,none⟩) (al x).length (al x).length))) 9 (.val (G8))) 10 (.val (.int .i64 ((k:Int)-1)))) 11 (.val (.int .u64 (d2:Int)))) (fun(d2:Nat)(G8:Value)(r2:Nat) H'=>Heap.le (rem H3 [g]) (rem H' [g])∧H' g=some (dH l (al x).length)∧dt (rem H' [g]) G8 r2∧r1=y*d2+r2) d _ (r1-y*d) (⟨ag5,kI,XI.nat,by omega⟩) ar ?_))
   rintro d2 G8 r2 zk ⟨qM,ng,Hd,he8⟩;obtain⟨A8,c8,rfl,PQ,hr8⟩:=id Hd;have hy8:=Eb.le qM;have gA:=ml (show r2≤r1 by omega)
   have am8:d2<1000000000:=by
    false_or_by_contra
    have:y*1000000000≤y*d2:=Nat.mul_le_mul_left _ (by omega);rw[ck,Nat.mul_comm]at Lo;omega
   refine ao (ae (aa 2 rfl (aB rfl rfl (Fn.frame (gs:=[g]) (fun q hq=>by simp only[List.mem_singleton]at hq;subst hq;rw[ng];simp) (Lk Hd hy8 (by omega))) ?_)));rintro v7 H9 ⟨⟨XJ,rfl⟩,sI⟩;have uh:=(sI g (List.mem_singleton.2 rfl)).trans ng
   have GH:Heap.le (rem H3 [g]) (rem H9 [g]):=by rw[XJ];exact qM
   have He:dt (rem H9 [g]) (.slice A8 (al r2).length c8) r2:=by rw[XJ];exact Hd
   refine aa 1 rfl (ab [0,1,8,9,10,11,76] ?_);refine aD rfl (fun hb=> ?_) (fun hb=> ?_)
   ·
    have hb:y≤r2:=GY.1 (by simpa using hb);refine aw (ah [0,1,8,9,10,11] rfl ?_);refine aE (ae (aa 2 rfl (aB rfl rfl (Fn.frame (gs:=[g]) (fun q hq=>by simp only[List.mem_singleton]at hq;subst hq;rw[uh];simp) (Lm He (Eb.le GH) hb (by omega))) ?_)));rintro v8 nh ⟨XK,Hf⟩;have qN:=(Hf g (List.mem_singleton.2 rfl)).trans uh;refine aa 1 rfl (ab [0,1,8,9,10,11] ?_);refine aA rfl (aa 1 rfl (aF rfl rfl ⟨by omega,by omega⟩ (aa 1 rfl (au ?_))));exact⟨d2+1,_,r2-y,by omega,ar,GH.trans XK.le,qN,XK.nat,by rw[Nat.mul_add,Nat.mul_one];omega⟩
   have ag6:r2<y:=by
    have:¬0≤kz r2 y:=by simp at hb;omega
    rw[GY]at this;omega
   obtain⟨r3,rfl⟩:∃r3,r3=r2:=⟨_,rfl⟩;obtain⟨d3,rfl⟩:∃d3,d3=d2:=⟨_,rfl⟩;refine aU (ah [0,1,8,9,10,11] rfl ?_);refine aA rfl (aa 3 rfl (dr ag rfl rfl rfl ⟨by omega,by omega⟩ ?_));obtain⟨ti,aj,ak⟩:=oz;refine cT (.inl rfl) ag rfl rfl rfl (by omega) (by omega) (uh) rfl (by rw[oD];omega) aj ak (fun _=>rfl) rfl rfl rfl fun _=> ?_;refine au ?_
   have XL:ins H9 g {dH l (al x).length with xs:=aL (dH l (al x).length).xs (0+((k:Int)-1).toNat*1) [.int .u32 (d3:Int)]}=ins H9 g (dH (l.set (k-1) d3) (al x).length):=by
    rw[XF];simp only[dH,aL,Nat.zero_add,Nat.mul_one,Of]
   have PR:Heap.le H (rem (ins H9 g {dH l (al x).length with xs:=aL (dH l (al x).length).xs (0+((k:Int)-1).toNat*1) [.int .u32 (d3:Int)]}) [g]):=by
    rw[cJ _ (List.mem_singleton.2 rfl)];exact(hle.trans iA).trans GH
   have BI:=He;refine ah [0,1,8,9,10] rfl ?_;refine aA rfl (aa 1 rfl (cQ rfl rfl ⟨by omega,by omega⟩ (aa 1 rfl (au ?_))));refine⟨k-1,_,r3,l.set (k-1) d3,by omega,ar,PR,by rw[XL,bC],by simp[tI],bP.set (by rw[ck];omega),by omega,ag6,by rw[XL,cJ _ (List.mem_singleton.2 rfl)];exact BI,?_⟩;rw[XD Lq,show k-1+1=k by omega,XD (l:=l.set (k-1) d3) (List.getElem?_set_self (by omega)),show k-1+1=k by omega,List.drop_set_of_lt (by omega),hv]
   have h1:B*(val (List.drop k l)*y+r)=B*val (List.drop k l)*y+B*r:=by rw[Nat.mul_add,Nat.mul_assoc]
   have h2:(d3+B*val (List.drop k l))*y=y*d3+B*val (List.drop k l)*y:=by rw[Nat.add_mul,Nat.mul_comm d3]
   rw[h1,h2];omega
  have hb:k=0:=by simp at hb;omega
  subst hb;rw[List.drop_zero,List.drop_zero,cU]at hv
  have Lr:val l=x/y:=by rw[hv,Nat.add_comm,Nat.add_mul_div_right _ _ jm,Nat.div_eq_of_lt PK,Nat.zero_add]
  have kG:r=x%y:=by rw[hv,Nat.add_comm,Nat.add_mul_mod_self_right,Nat.mod_eq_of_lt PK]
  refine aU (ah [8,9] rfl ?_);refine ae (aa 1 rfl (aB rfl rfl (BF (l:=l) ⟨some ⟨g,0,none⟩,_,by rw[tI],by omega,fun i v hv=>⟨_,rfl,by simp[cell,iu,FX,dH,hv]⟩⟩ bP (by omega)) ?_));rintro v9 ju Hg;refine aa 3 rfl (ab [4,5] ?_);refine az ⟨.inr rfl,_,.tmp rfl (.tmp rfl (.nil)),?_⟩;exact⟨(hle.trans (bF _ _)).trans Hg.le,_,_,rfl,by rw[←Lr];exact Hg.nat,by rw[←kG];exact(lg.le (bF _ _)).le Hg.le⟩
end Go.aq
namespace Go.aq
open Go.Proofs Num
theorem XM(f:Bool)(n d:Nat)(k:Nat)(hn:(al n).length≤k)(hd:(al d).length≤k):aM (cV f n d)≤k+1∧(0<d→aM (cV f n d)≤k):=by
 rcases Nat.eq_zero_or_pos d with e | e
 ·subst e
  rw[Ks]
  refine⟨?_,fun h=>by omega⟩
  have:aM 0=1:=by
   unfold aM
   show max (al 0).length (al 1).length=1
   rw[qt,vE];rfl
  omega
 ·have h1:=ml (Nat.div_le_self n (Nat.gcd n d))
  have h2:=ml (Nat.div_le_self d (Nat.gcd n d))
  have:aM (cV f n d)≤k:=by
   unfold aM
   rw[Dj e,AV e];omega
  exact⟨by omega,fun _=>this⟩
theorem cW.size{H:Heap}{v:Value}{q:Rat}{N:Nat}(h:cW H v q N):aM q≤N+2:=by
 obtain⟨f,u,w,l1,l2,_,_,_,h1,h2,h3,h4,rfl⟩:=h
 have k1:=Dk h1
 have k2:=Dk h2
 exact(XM f _ _ (N+1) (by omega) (by omega)).1
theorem XN{H:Heap}{w:Value}(hw:dt H w 1):bH H (.agg #[.bool false,.slice none 0 0,w]) 0:=⟨_,_,rfl,wF H,hw⟩
theorem ag7{H:Heap}{f:Bool}{u w:Value}{n d:Nat}(hn:0<n)(hd:0<d)(hu:dt H u (n/Nat.gcd n d))(hw:dt H w (d/Nat.gcd n d)):bH H (.agg #[.bool f,u,w]) (cV f n d):=by
 refine⟨u,w,?_,by rw[Dj hd];exact hu,by rw[AV hd];exact hw⟩
 rw[F5 hd hn]
theorem ag8(p q:Rat):eY (p-q)=nJ p q:=by
 unfold eY nJ
 by_cases h:p<q
 ·rw[if_pos (by grind),if_pos h]
 ·rw[if_neg (by grind),if_neg h]
  by_cases e:p=q
  ·rw[if_pos (by grind),if_pos e]
  ·rw[if_neg (by grind),if_neg e]
theorem dt.sN{H:Heap}{v:Value}{x:Nat}(h:dt H v x):jD H v (al x):=h
theorem ag9{H:Heap}{u v:Value}{x y:Nat}(hx:dt H u x)(hy:dt H v y)(hm:((al x).length:Int)<4398046511104)(bL:((al y).length:Int)<4398046511104):
 Fn Tryz.prog 75 #[u,v] H (mW H (Nat.gcd x y)):=by
 refine aY (args:=[_,_]) Tryz.func75 rfl rfl Tryz.ntmps75 rfl rfl fun w0=> ?_;refine ah [0,1] rfl ?_;refine ae (aa 1 rfl (ab [0,1] ?_));refine ao (aE (rS (fun(u:Value)(a:Nat)(v:Value)(b:Nat)=>b) (fun(u:Value)(a:Nat)(v:Value)(b:Nat)=>put (put (emp) 0 (.val (u))) 1 (.val (v))) (fun(u:Value)(a:Nat)(v:Value)(b:Nat) H'=>Heap.le H H'∧dt H' u a∧dt H' v b∧((al a).length:Int)<4398046511104∧((al b).length:Int)<4398046511104∧Nat.gcd a b=Nat.gcd x y) _ x _ y (⟨.refl _,hx,hy,hm,bL,rfl⟩) ar ?_));rintro u a v b H1 ⟨hle,ha,dy,fY,dO,hg⟩;obtain⟨Aha,cha,rfl,am9,ana⟩:=id ha;obtain⟨anb,anc,rfl,ane,anf⟩:=id dy;refine ao (ae (aa 3 rfl (ab [0,1,9] ?_)));refine aD rfl (fun hb=> ?_) (fun hb=> ?_)
 ·
  have hb:0<b:=Nat.pos_of_ne_zero fun e=>by rw[jO.2 e]at hb;simp at hb
  refine aw (ah [0,1] rfl ?_);refine aE (ae (aa 2 rfl (aB rfl rfl (GZ ha dy hb fY dO) ?_)));rintro v2 H2 ⟨cA,q2,r2,rfl,bS,kY⟩;refine aa 5 rfl (ab [1,6] ?_);refine aA rfl (aa 4 rfl (au ?_));have ua:=ml (Nat.le_of_lt (Nat.mod_lt a hb));exact⟨_,b,_,a%b,Nat.mod_lt a hb,ar,hle.trans cA,dy.le cA,kY,dO,by omega,by rw[←hg,Nat.gcd_comm b,←Nat.gcd_rec,Nat.gcd_comm]⟩
 ·
  have hb:b=0:=jO.1 (by have:=of_decide_eq_false hb;omega);subst hb;rw[Nat.gcd_zero_right]at hg;subst hg;refine aU (ah [0] rfl ?_);refine ae (aa 2 rfl (ab [4] ?_));refine az ⟨.inr rfl,_,.tmp rfl (.nil),?_⟩;exact⟨hle,ha⟩
theorem xE{H:Heap}{u v:Value}{f:Bool}{l1 l2:List Nat}(hu:jD H u l1)(hv:jD H v l2)(h1:∀x,x∈l1→x<4294967296)(h2:∀x,x∈l2→x<4294967296)(hm:(l1.length:Int)≤4398046511000)(bL:(l2.length:Int)≤4398046511000):
 Fn Tryz.prog 40 #[.bool f,u,v] H (j7 H (cV f (val l1) (val l2))):=by
 have k1:=Dk h1
 have k2:=Dk h2
 obtain⟨Ahu,chu,rfl,ang,anh⟩:=id hu
 obtain⟨Ahv,chv,rfl,ani,anj⟩:=id hv;refine aY (args:=[_,_,_]) Tryz.func40 rfl rfl Tryz.ntmps40 rfl rfl fun w0=> ?_;refine ah [0,1,2] rfl ?_;refine ae (bm cj rfl (ab [0,1,2,6] ?_));refine ae (aa 1 rfl (aB rfl rfl (XB hu h1 (by omega)) ?_));rintro v1 H1 fi;refine aa 1 rfl (aB rfl rfl (XB (hv.le fi.le) h2 (by omega)) ?_);rintro v2 H2 dJ;obtain⟨n,hn⟩:∃n,n=val l1:=⟨_,rfl⟩;obtain⟨d,hd⟩:∃d,d=val l2:=⟨_,rfl⟩;rw[←hn]at fi k1;rw[←hd]at dJ k2;have du:=fi.nat.le dJ.le;have ia:=dJ.nat;obtain⟨OL,OM,rfl,ON,OO⟩:=id du;obtain⟨VK,VL,rfl,VM,VN⟩:=id ia;have hle:=fi.le.trans dJ.le;rw[←hn,←hd];refine aa 2 rfl (ab [0,1,2,6] ?_);refine ao ?_
 rcases Nat.eq_zero_or_pos n with jo | jo
 ·
  have ui:=jO.2 jo;refine ae (aa 2 rfl (aG true rfl rfl (gi (by omega)) (aa 5 rfl (ab [0,1,2,6,19] ?_))));refine cI rfl (ae (cS Tryz.underlying36 eL rfl rfl rfl rfl rfl rfl rfl ?_));intro gb a6;refine di ag rfl cj rfl rfl ?_;obtain⟨ti,aj,ak⟩:=aX;refine aI (.inl ⟨rfl,rfl⟩) rfl rfl rfl aj ak rfl rfl rfl (ab [6] ?_);obtain⟨b8,aP,aQ⟩:=aX;refine az ⟨.inr rfl,_,.agg rfl Tryz.underlying38 aP aQ (.nil),?_⟩;exact⟨hle.trans (Heap.bI _ a6),by rw[jo,wJ];exact XN yN⟩
 ·
  have ui:(al n).length≠0:=fun e=>by rw[jO]at e;omega
  rcases Nat.eq_zero_or_pos d with xC | xC
  ·
   have ui:=jO.2 xC;refine ae (aa 2 rfl (aG false rfl rfl (jn (by omega)) (aa 3 rfl (aG true rfl rfl (gi (by omega)) (aa 1 rfl (ab [0,1,2,6,19] ?_))))));refine cI rfl (ae (cS Tryz.underlying36 eL rfl rfl rfl rfl rfl rfl rfl ?_));intro gb a6;refine di ag rfl cj rfl rfl ?_;obtain⟨ti,aj,ak⟩:=aX;refine aI (.inl ⟨rfl,rfl⟩) rfl rfl rfl aj ak rfl rfl rfl (ab [6] ?_);obtain⟨b8,aP,aQ⟩:=aX;refine az ⟨.inr rfl,_,.agg rfl Tryz.underlying38 aP aQ (.nil),?_⟩;exact⟨hle.trans (Heap.bI _ a6),by rw[xC,Ks];exact XN yN⟩
  have bg:(al d).length≠0:=fun e=>by rw[jO]at e;omega
  refine ae (aa 2 rfl (aG false rfl rfl (jn (by omega)) (aa 3 rfl (aG false rfl rfl (jn (by omega)) (aa 1 rfl (ab [0,1,2,6,19] ?_))))));refine dd rfl (aw (ah [0,1,2,6] rfl ?_));refine ae (aa 2 rfl (aB rfl rfl (ag9 du ia (by omega) (by omega)) ?_));rintro v3 H3 dY;obtain⟨g,hg⟩:∃g,g=Nat.gcd n d:=⟨_,rfl⟩;rw[←hg]at dY
  have ql:0<g:=by rw[hg];exact Nat.gcd_pos_of_pos_left _ jo
  have jP:=dY.nat;have eH:=ml (show g≤n by rw[hg];exact Nat.gcd_le_left _ jo);have PS:=du.le dY.le;have PT:=ia.le dY.le;obtain⟨OP,OQ,rfl,OR,Kw⟩:=id jP;refine aa 1 rfl (ab [0,1,2,6,7] ?_);refine AI (fun(u3:Value)(v3:Value)=>put (put (put (put (emp) 0 (.val (.bool f))) 1 (.val (u3))) 2 (.val (v3))) 6 (.box [.bool false,.slice none 0 0,.slice none 0 0])) (fun(u3:Value)(v3:Value) H'=>Heap.le H H'∧dt H' u3 (n/g)∧dt H' v3 (d/g)) ?_ ?_
  ·
   by_cases hl:(al g).length=1
   ·
    obtain⟨z,hz⟩:=List.length_eq_one_iff.1 hl
    have nS:z=g:=by have:=cU g;rw[hz]at this;simpa [val]using this
    have GV:(al g)[0]? = some g:=by rw[hz,nS];rfl
    refine ae (aa 2 rfl (aG false rfl rfl (wE (by omega)) (aa 2 rfl (aS ag rfl rfl rfl rfl rfl (Kw) (dC GV) (by omega) (by omega) fun _=>(aa 2 rfl (ab [0,1,2,6,7,33] ?_))))));refine aD rfl (fun hb=> ?_) (fun hb=> ?_)
    ·
     skip
     refine ae (aa 2 rfl (aB rfl rfl (GZ PS jP ql (by omega) (by omega)) ?_));rintro v4 H4 ⟨cM,q4,r4,rfl,cn,r7⟩;refine aa 4 rfl (ab [0,1,2,6,7] ?_);refine aA rfl (aa 2 rfl (aB rfl rfl (GZ (PT.le cM) (jP.le cM) ql (by omega) (by omega)) ?_));rintro v5 H5 ⟨dR,q5,r5,rfl,eI,pM⟩;refine aa 4 rfl (au ?_);exact⟨_,_,ar,(hle.trans dY.le).trans (cM.trans dR),cn.le dR,eI⟩
    have mX:g=1:=by simp at hb;omega
    refine aw ?_;exact⟨_,_,ar,hle.trans dY.le,by rw[mX,Nat.div_one];exact PS,by rw[mX,Nat.div_one];exact PT⟩
   skip
   refine ae (aa 2 rfl (aG true rfl rfl (vx (by omega)) (aa 6 rfl (ab [0,1,2,6,7,33] ?_))));refine cI rfl (ae (aa 2 rfl (aB rfl rfl (GZ PS jP ql (by omega) (by omega)) ?_)));rintro v4 H4 ⟨cM,q4,r4,rfl,cn,r7⟩;refine aa 4 rfl (ab [0,1,2,6,7] ?_);refine aA rfl (aa 2 rfl (aB rfl rfl (GZ (PT.le cM) (jP.le cM) ql (by omega) (by omega)) ?_));rintro v5 H5 ⟨dR,q5,r5,rfl,eI,pM⟩;refine aa 4 rfl (au ?_);exact⟨_,_,ar,(hle.trans dY.le).trans (cM.trans dR),cn.le dR,eI⟩
  rintro u3 v3 H6 ⟨sD,XO,zl⟩;obtain⟨ank,anl,rfl,anm,ann⟩:=id XO;obtain⟨ano,anp,rfl,anq,anr⟩:=id zl;refine ae (aa 3 rfl (di ag rfl cj rfl rfl ?_));obtain⟨ti,aj,ak⟩:=aX;refine aI (.inl ⟨rfl,rfl⟩) rfl rfl rfl aj ak rfl rfl rfl (ab [6] ?_);obtain⟨b8,aP,aQ⟩:=aX;refine az ⟨.inr rfl,_,.agg rfl Tryz.underlying38 aP aQ (.nil),?_⟩;exact⟨sD,ag7 jo xC (by rw[←hg];exact XO) (by rw[←hg];exact zl)⟩
theorem lG{H:Heap}{n:Int}(h1: -9223372036854775808≤n)(h2:n≤9223372036854775807):
 Fn Tryz.prog 15 #[.int .i64 n] H (j7 H (n:Rat)):=by
 have dK:(al n.natAbs).length≤3:=jd.2 (by rw[ck];omega)
 have Hh:=F6 n
 have ik:val (al 1)=1:=cU 1
 have bg:(al 1).length=1:=by rw[vE];rfl
 refine aY (args:=[_]) Tryz.func15 rfl rfl Tryz.ntmps15 rfl rfl fun w0=> ?_;refine ah [0] rfl ?_;refine ae (bm cj rfl (ab [0,2] ?_));refine ao (ae (aa 2 rfl (ab [0,2,4] ?_)));refine aD rfl (fun hb=> ?_) (fun hb=> ?_)
 ·
  have hb:n<0:=by simpa using hb
  rw[decide_eq_true hb]at Hh;refine ae (aa 1 rfl (aF rfl rfl ⟨by omega,by omega⟩ (tD rfl ⟨by omega,by omega⟩ (dr ag rfl rfl rfl ⟨by omega,by omega⟩ (aF rfl rfl ⟨by omega,by omega⟩ ?_)))));rw[show -(n+1)+1=((n.natAbs:Nat):Int) by omega];refine aB rfl rfl (GW (by omega)) ?_;rintro v1 H1 fi;refine cS Tryz.underlying36 eL rfl rfl rfl rfl rfl rfl rfl ?_;intro gb a6;refine aB rfl rfl (xE (fi.nat.le (Heap.bI _ a6)) (yN).sN nK nK (by omega) (by omega)) ?_;rintro w2 G2 ⟨dP,bS⟩;rw[cU,ik,Hh]at bS;obtain⟨u2,x2,rfl,fS,eT⟩:=id bS;obtain⟨oG,oH,rfl,oI,oJ⟩:=id fS;obtain⟨oK,oL,rfl,oM,oN⟩:=id eT;obtain⟨ti,aj,ak⟩:=aX;refine aI (.inl ⟨rfl,rfl⟩) rfl rfl rfl aj ak rfl rfl rfl (ab [2] ?_);obtain⟨b8,aP,aQ⟩:=aX;refine az ⟨.inr rfl,_,.agg rfl Tryz.underlying38 aP aQ (.nil),?_⟩;exact⟨(fi.le.trans (Heap.bI _ a6)).trans dP,bS⟩
 ·
  have hb:¬n<0:=by simpa using hb
  rw[decide_eq_false hb]at Hh;obtain⟨m,rfl⟩:∃m:Nat,n=(m:Int):=⟨n.natAbs,by omega⟩;rw[Int.natAbs_natCast]at Hh dK;refine aw (ah [0,2] rfl ?_);refine ae (aa 1 rfl (dr ag rfl rfl rfl ⟨by omega,by omega⟩ (aB rfl rfl (GW (x:=m) (by omega)) ?_)));rintro v1 H1 fi;refine cS Tryz.underlying36 eL rfl rfl rfl rfl rfl rfl rfl ?_;intro gb a6;refine aB rfl rfl (xE (fi.nat.le (Heap.bI _ a6)) (yN).sN nK nK (by omega) (by omega)) ?_;rintro w2 G2 ⟨dP,bS⟩;rw[cU,ik,Hh]at bS;obtain⟨u2,x2,rfl,fS,eT⟩:=id bS;obtain⟨oG,oH,rfl,oI,oJ⟩:=id fS;obtain⟨oK,oL,rfl,oM,oN⟩:=id eT;obtain⟨ti,aj,ak⟩:=aX;refine aI (.inl ⟨rfl,rfl⟩) rfl rfl rfl aj ak rfl rfl rfl (ab [2] ?_);obtain⟨b8,aP,aQ⟩:=aX;refine az ⟨.inr rfl,_,.agg rfl Tryz.underlying38 aP aQ (.nil),?_⟩;exact⟨(fi.le.trans (Heap.bI _ a6)).trans dP,bS⟩
theorem uj{H:Heap}{v:Value}{q:Rat}{N:Nat}(hv:cW H v q N)(hN:(N:Int)≤4398046511000):
 Fn Tryz.prog 69 #[v] H (j7 H q):=by
 obtain⟨bf,bu,bw,nL,nM,rfl,dU,dg,fZ,xF,BJ,ni,rfl⟩:=id hv;refine aY (args:=[_]) Tryz.func69 rfl rfl Tryz.ntmps69 rfl rfl fun w0=> ?_;refine ah [0] rfl ?_;refine ae (bZ rfl rfl (bm cj rfl (ab [1,2] ?_)));refine ae (aa 6 rfl (aB rfl rfl (xE dU dg fZ xF (by omega) (by omega)) ?_));rintro w2 G2 ⟨dP,bS⟩;obtain⟨u2,x2,rfl,fS,eT⟩:=id bS;obtain⟨oG,oH,rfl,oI,oJ⟩:=id fS;obtain⟨oK,oL,rfl,oM,oN⟩:=id eT;obtain⟨ti,aj,ak⟩:=aX;refine aI (.inl ⟨rfl,rfl⟩) rfl rfl rfl aj ak rfl rfl rfl (ab [2] ?_);obtain⟨b8,aP,aQ⟩:=aX;refine az ⟨.inr rfl,_,.agg rfl Tryz.underlying38 aP aQ (.nil),?_⟩;exact⟨dP,bS⟩
theorem sO{H:Heap}{v:Value}{q:Rat}{N:Nat}(hv:cW H v q N)(hN:(N:Int)≤4398046511000):
 Fn Tryz.prog 38 #[v] H (fun v H'=>Heap.le H H'∧v = .int .i64 (eY q)):=by
 obtain⟨bf,bu,bw,nL,nM,rfl,_⟩:=id hv
 have sx:=VU q;refine aY (args:=[_]) Tryz.func38 rfl rfl Tryz.ntmps38 rfl rfl fun w0=> ?_;refine ah [0] rfl ?_;refine ae (bZ rfl rfl (aa 1 rfl (ab [1] ?_)));refine ae (aa 1 rfl (aB rfl rfl (uj hv hN) ?_));rintro w2 G2 ⟨dP,bS⟩;obtain⟨u2,x2,rfl,fS,eT⟩:=id bS;obtain⟨oG,oH,rfl,oI,oJ⟩:=id fS;obtain⟨oK,oL,rfl,oM,oN⟩:=id eT;obtain⟨ti,aj,ak⟩:=aX;refine aI (.inl ⟨rfl,rfl⟩) rfl rfl rfl aj ak rfl rfl rfl (ab [1] ?_);refine ao (aE (ae (aa 5 rfl (ab [1,5] ?_))));refine aD rfl (fun hb=> ?_) (fun hb=> ?_)
 ·
  have hb:q.num.natAbs=0:=jO.1 (by have:=eq_of_beq hb;omega);rw[if_pos hb]at sx;refine ae (aa 1 rfl (ab [2] ?_));refine az ⟨.inr rfl,_,.tmp rfl (.nil),?_⟩;exact⟨dP,by rw[sx];rfl⟩
 ·
  have hb:q.num.natAbs≠0:=fun e=>by rw[jO.2 e]at hb;simp at hb
  rw[if_neg hb]at sx;refine ae (aa 3 rfl (ab [10] ?_));refine aD rfl (fun hb=> ?_) (fun hb=> ?_)
  ·
   rw[hb]at sx;refine ae (aa 1 rfl (ab [2] ?_));refine az ⟨.inr rfl,_,.tmp rfl (.nil),?_⟩;exact⟨dP,by rw[sx];rfl⟩
  rw[hb]at sx;refine aw (ah [] rfl ?_);refine ae (aa 1 rfl (ab [2] ?_));refine az ⟨.inr rfl,_,.tmp rfl (.nil),?_⟩;exact⟨dP,by rw[sx];rfl⟩
theorem Ec{H:Heap}{v:Value}{q:Rat}{N:Nat}(hv:cW H v q N)(hN:(N:Int)≤4398046511000):
 Fn Tryz.prog 68 #[v] H (j7 H (-q)):=by
 obtain⟨bf,bu,bw,nL,nM,rfl,dU,dg,fZ,xF,BJ,ni,rfl⟩:=id hv;refine aY (args:=[_]) Tryz.func68 rfl rfl Tryz.ntmps68 rfl rfl fun w0=> ?_;refine ah [0] rfl ?_;refine ae (bZ rfl rfl (bm cj rfl (ab [1,2] ?_)));refine ae (aa 7 rfl (aB rfl rfl (xE (f:= !bf) dU dg fZ xF (by omega) (by omega)) ?_));rintro w2 G2 ⟨dP,bS⟩;rw[←OH]at bS;obtain⟨u2,x2,rfl,fS,eT⟩:=id bS;obtain⟨oG,oH,rfl,oI,oJ⟩:=id fS;obtain⟨oK,oL,rfl,oM,oN⟩:=id eT;obtain⟨ti,aj,ak⟩:=aX;refine aI (.inl ⟨rfl,rfl⟩) rfl rfl rfl aj ak rfl rfl rfl (ab [2] ?_);obtain⟨b8,aP,aQ⟩:=aX;refine az ⟨.inr rfl,_,.agg rfl Tryz.underlying38 aP aQ (.nil),?_⟩;exact⟨dP,bS⟩
theorem Ls{H:Heap}{v v2:Value}{q q2:Rat}{N:Nat}(hv:cW H v q N)(dT:cW H v2 q2 N)(hN:(N:Int)≤1099511627780):
 Fn Tryz.prog 37 #[v,v2] H (j7 H (q+q2)):=by
 obtain⟨bf,bu,bw,nL,nM,rfl,_⟩:=id hv
 obtain⟨cf,cu,cw,yP,yQ,rfl,_⟩:=id dT
 have mm:=hv.size
 have uk:=dT.size
 have ff:=Nat.pos_of_ne_zero q.den_nz
 have j6:=Nat.pos_of_ne_zero q2.den_nz
 have vL:=wK q
 have sP:=wK q2
 obtain⟨f1,iZ⟩:∃f1,f1=decide (q.num<0):=⟨_,rfl⟩
 obtain⟨f2,jN⟩:∃f2,f2=decide (q2.num<0):=⟨_,rfl⟩
 obtain⟨n1,du⟩:∃n1,n1=q.num.natAbs:=⟨_,rfl⟩
 obtain⟨n2,ia⟩:∃n2,n2=q2.num.natAbs:=⟨_,rfl⟩
 obtain⟨d1,pV⟩:∃d1,d1=q.den:=⟨_,rfl⟩
 obtain⟨d2,pW⟩:∃d2,d2=q2.den:=⟨_,rfl⟩
 have hz:(al n1).length≤N+2∧(al d1).length≤N+2∧(al n2).length≤N+2∧(al d2).length≤N+2:=by
  unfold aM at mm uk
  rw[du,ia,pV,pW];omega
 rw[←iZ,←du,←pV]at vL
 rw[←jN,←ia,←pW]at sP
 rw[←pV]at ff
 rw[←pW]at j6
 have r8:=oF n1 d2
 have kD:=oF n2 d1
 have OK:=oF d1 d2
 have Kv:=Nat.mul_pos ff j6
 have qy:=VD (x:=n1*d2) (y:=n2*d1) (k:=2*(N+2)) (by omega) (by omega);refine aY (args:=[_,_]) Tryz.func37 rfl rfl Tryz.ntmps37 rfl rfl fun w0=> ?_;refine ah [0,1] rfl ?_;refine ae (bZ rfl rfl (bZ rfl rfl (bm cj rfl (ab [2,3,4] ?_))));refine bN .bK [0,2,1,3,4,5] follows (by kernel_rfl) ?_;refine aa 2 rfl (aW rfl rfl (uj hv (by omega)) (fun _ _ h=>by first | exact h.le | exact h.1) ?_);rintro w1 G1 ⟨bg,uo⟩
 unfold bH at uo
 rw[←iZ,←du,←pV]at uo;obtain⟨wL,wM,rfl,gP,ib⟩:=id uo;obtain⟨wN,wO,rfl,wP,wQ⟩:=id gP;obtain⟨wR,wS,rfl,wT,wU⟩:=id ib;refine aW rfl rfl (uj (dT.le bg) (by omega)) (fun _ _ h=>by first | exact h.le | exact h.1) ?_;rintro w2 G2 ⟨cA,uq⟩
 unfold bH at uq
 rw[←jN,←ia,←pW]at uq;obtain⟨Dr,Ds,rfl,lX,ly⟩:=id uq;obtain⟨AW,AX,rfl,Dt,Du⟩:=id lX;obtain⟨AY,AZ,rfl,Dv,Dw⟩:=id ly;have gP:=gP.le cA;have ib:=ib.le cA;have hle:=bg.trans cA;obtain⟨ti,aj,ak⟩:=aX;refine aI (.inl ⟨rfl,rfl⟩) rfl rfl rfl aj ak rfl rfl rfl ?_;obtain⟨ti,aj,ak⟩:=aX;refine aI (.inl ⟨rfl,rfl⟩) rfl rfl rfl aj ak rfl rfl rfl (ab [2,3,4] ?_);refine bN .bK [0,1,2,3,5,6,7,8,4,9,10,11] follows (by kernel_rfl) ?_;refine aa 8 rfl (aW rfl rfl (xB gP ly (by omega) (by omega)) (fun _ _ h=>by first | exact h.le | exact h.1) ?_);rintro v3 H3 dY;refine aW rfl rfl (xB (lX.le dY.le) (ib.le dY.le) (by omega) (by omega)) (fun _ _ h=>by first | exact h.le | exact h.1) ?_;rintro v4 H4 fL;refine aa 2 rfl (ab [2,3,4,5,6] ?_);refine ae (aa 4 rfl (aB rfl rfl (xB ((ib.le dY.le).le fL.le) ((ly.le dY.le).le fL.le) (by omega) (by omega)) ?_));rintro v5 H5 Lu;have iP:=((hle.trans dY.le).trans fL.le).trans Lu.le;have nn:=(dY.nat.le fL.le).le Lu.le;have zi:=fL.nat.le Lu.le;have sQ:=Lu.nat;obtain⟨PU,PV,rfl,PW,PX⟩:=id nn;obtain⟨ans,ant,rfl,anu,anv⟩:=id zi;obtain⟨anw,anx,rfl,anz,anA⟩:=id sQ;refine vr 1 ?_
 refine ab [2,3,4,5,6,7] ?_;refine ao (ae (aa 4 rfl (US Tryz.underlying4 rfl rfl (ab [2,3,4,5,6,7,31] ?_))));refine aD rfl (fun hb=> ?_) (fun hb=> ?_)
 ·
  have qz:f1=f2:=by simpa using hb
  refine bN .bK [0,1,2,3,5,4,6,7] follows (by kernel_rfl) ?_;refine aa 5 rfl (aW rfl rfl (agT nn zi (by omega) (by omega)) (fun _ _ h=>by first | exact h.le | exact h.1) ?_);rintro v6 H6 oE;have vM:=sQ.le oE.le;have pX:=oE.nat;obtain⟨XP,XQ,rfl,XR,XS⟩:=id pX;refine aW rfl rfl (xE (f:=f1) pX.sN vM.sN nK nK (by omega) (by omega)) (fun _ _ h=>by first | exact h.le | exact h.1) ?_;rintro w7 G7 ⟨Hi,iT⟩;rw[cU,cU,←Vy f1 ff j6,vL,qz,sP]at iT;obtain⟨u7,x7,rfl,Hj,ur⟩:=id iT;obtain⟨XT,XU,rfl,XV,XW⟩:=id Hj;obtain⟨XX,XY,rfl,XZ,X0⟩:=id ur;obtain⟨ti,aj,ak⟩:=aX;refine aI (.inl ⟨rfl,rfl⟩) rfl rfl rfl aj ak rfl rfl rfl (ab [4] ?_);obtain⟨b8,aP,aQ⟩:=aX;refine az ⟨.inr rfl,_,.agg rfl Tryz.underlying38 aP aQ (.nil),?_⟩;exact⟨(iP.trans oE.le).trans Hi,iT⟩
 ·
  have qz:f1≠f2:=by simpa using hb
  refine aw (ah [2,3,4,5,6,7] rfl ?_);refine ao (ae (aa 2 rfl (aB rfl rfl (Lk nn zi (by omega)) ?_)));rintro v6 H6 ⟨e6,rfl⟩;rw[e6];refine aa 1 rfl (ab [2,3,4,5,6,7,42] ?_);refine aD rfl (fun hb=> ?_) (fun hb=> ?_)
  ·
   have hb:n2*d1≤n1*d2:=GY.1 (by simpa using hb);have lW:=ml (Nat.sub_le (n1*d2) (n2*d1));refine bN .bK [0,1,2,3,5,4,6,7] follows (by kernel_rfl) ?_;refine aa 5 rfl (aW rfl rfl (Lm nn zi hb (by omega)) (fun _ _ h=>by first | exact h.le | exact h.1) ?_);rintro v6 H6 oE;have vM:=sQ.le oE.le;have pX:=oE.nat;obtain⟨XP,XQ,rfl,XR,XS⟩:=id pX;refine aW rfl rfl (xE (f:=f1) pX.sN vM.sN nK nK (by omega) (by omega)) (fun _ _ h=>by first | exact h.le | exact h.1) ?_;rintro w7 G7 ⟨Hi,iT⟩;rw[cU,cU,←OG qz ff j6 hb,vL,sP]at iT;obtain⟨u7,x7,rfl,Hj,ur⟩:=id iT;obtain⟨XT,XU,rfl,XV,XW⟩:=id Hj;obtain⟨XX,XY,rfl,XZ,X0⟩:=id ur;obtain⟨ti,aj,ak⟩:=aX;refine aI (.inl ⟨rfl,rfl⟩) rfl rfl rfl aj ak rfl rfl rfl (ab [4] ?_);obtain⟨b8,aP,aQ⟩:=aX;refine az ⟨.inr rfl,_,.agg rfl Tryz.underlying38 aP aQ (.nil),?_⟩;exact⟨(iP.trans oE.le).trans Hi,iT⟩
  have hb:n1*d2≤n2*d1:=by
   have:¬0≤kz (n1*d2) (n2*d1):=by simp at hb;omega
   rw[GY]at this;omega
  have lW:=ml (Nat.sub_le (n2*d1) (n1*d2));refine aw (ah [3,4,5,6,7] rfl ?_);refine bN .bK [0,1,2,3,5,4,6,7] follows (by kernel_rfl) ?_;refine aa 5 rfl (aW rfl rfl (Lm zi nn hb (by omega)) (fun _ _ h=>by first | exact h.le | exact h.1) ?_);rintro v6 H6 oE;have vM:=sQ.le oE.le;have pX:=oE.nat;obtain⟨XP,XQ,rfl,XR,XS⟩:=id pX;refine aW rfl rfl (xE (f:=f2) pX.sN vM.sN nK nK (by omega) (by omega)) (fun _ _ h=>by first | exact h.le | exact h.1) ?_;rintro w7 G7 ⟨Hi,iT⟩;rw[cU,cU,←Vz qz ff j6 hb,vL,sP]at iT;obtain⟨u7,x7,rfl,Hj,ur⟩:=id iT;obtain⟨XT,XU,rfl,XV,XW⟩:=id Hj;obtain⟨XX,XY,rfl,XZ,X0⟩:=id ur;obtain⟨ti,aj,ak⟩:=aX;refine aI (.inl ⟨rfl,rfl⟩) rfl rfl rfl aj ak rfl rfl rfl (ab [4] ?_);obtain⟨b8,aP,aQ⟩:=aX;refine az ⟨.inr rfl,_,.agg rfl Tryz.underlying38 aP aQ (.nil),?_⟩;exact⟨(iP.trans oE.le).trans Hi,iT⟩
theorem Ed{H:Heap}{v v2:Value}{q q2:Rat}{N:Nat}(hv:cW H v q N)(dT:cW H v2 q2 N)(hN:(N:Int)≤1099511627778):
 Fn Tryz.prog 39 #[v,v2] H (j7 H (q-q2)):=by
 obtain⟨bf,bu,bw,nL,nM,rfl,_⟩:=id hv
 obtain⟨cf,cu,cw,yP,yQ,rfl,_⟩:=id dT
 have uk:=dT.size;refine aY (args:=[_,_]) Tryz.func39 rfl rfl Tryz.ntmps39 rfl rfl fun w0=> ?_;refine ah [0,1] rfl ?_;refine ae (bZ rfl rfl (bZ rfl rfl (bm cj rfl (ab [2,3,4] ?_))));refine bN .bK [0,1,2,3,4] follows (by kernel_rfl) ?_;refine aa 2 rfl (aW rfl rfl (Ec dT (by omega)) (fun _ _ h=>by first | exact h.le | exact h.1) ?_);rintro w2 G2 ⟨dP,bS⟩;obtain⟨u2,x2,rfl,fS,eT⟩:=id bS;obtain⟨oG,oH,rfl,oI,oJ⟩:=id fS;obtain⟨oK,oL,rfl,oM,oN⟩:=id eT;have kY:=bS.raw;rw[show aM (-q2)=aM q2 by unfold aM;rw[Rat.neg_num,Int.natAbs_neg,Rat.neg_den]]at kY;refine aW rfl rfl (Ls (N:=N+2) ((hv.le dP).mono (by omega)) (kY.mono uk) (by omega)) (fun _ _ h=>by first | exact h.le | exact h.1) ?_;rintro w3 G3 ⟨qG,iD⟩;rw[←Rat.sub_eq_add_neg]at iD;obtain⟨u3,x3,rfl,oS,ic⟩:=id iD;obtain⟨Bj,Bk,rfl,Bl,Bm⟩:=id oS;obtain⟨Bn,Bo,rfl,Bp,Bq⟩:=id ic;obtain⟨ti,aj,ak⟩:=aX;refine aI (.inl ⟨rfl,rfl⟩) rfl rfl rfl aj ak rfl rfl rfl (ab [4] ?_);obtain⟨b8,aP,aQ⟩:=aX;refine az ⟨.inr rfl,_,.agg rfl Tryz.underlying38 aP aQ (.nil),?_⟩;exact⟨dP.trans qG,iD⟩
theorem Lv{H:Heap}{v v2:Value}{q q2:Rat}{N:Nat}(hv:cW H v q N)(dT:cW H v2 q2 N)(hN:(N:Int)≤1099511627776):
 Fn Tryz.prog 14 #[v,v2] H (fun v H'=>Heap.le H H'∧v = .int .i64 (nJ q q2)):=by
 obtain⟨bf,bu,bw,nL,nM,rfl,_⟩:=id hv
 obtain⟨cf,cu,cw,yP,yQ,rfl,_⟩:=id dT
 have mm:=hv.size
 have uk:=dT.size;refine aY (args:=[_,_]) Tryz.func14 rfl rfl Tryz.ntmps14 rfl rfl fun w0=> ?_;refine ah [0,1] rfl ?_;refine ae (bZ rfl rfl (bZ rfl rfl (aa 1 rfl (ab [2,3] ?_))));refine ae (aa 2 rfl (aB rfl rfl (Ed hv dT (by omega)) ?_));rintro w2 G2 ⟨dP,bS⟩;obtain⟨u2,x2,rfl,fS,eT⟩:=id bS;obtain⟨oG,oH,rfl,oI,oJ⟩:=id fS;obtain⟨oK,oL,rfl,oM,oN⟩:=id eT;have cP:=so q q2;refine aB rfl rfl (sO bS.raw (by omega)) ?_;rintro v3 H3 ⟨dK,rfl⟩;refine aa 1 rfl (ab [4] ?_);refine az ⟨.inr rfl,_,.tmp rfl (.nil),?_⟩;exact⟨dP.trans dK,by rw[ag8];rfl⟩
theorem Ee{H:Heap}{v v2:Value}{q q2:Rat}{N:Nat}(hv:cW H v q N)(dT:cW H v2 q2 N)(hN:(N:Int)≤1099511627780):
 Fn Tryz.prog 61 #[v,v2] H (j7 H (q*q2)):=by
 obtain⟨bf,bu,bw,nL,nM,rfl,_⟩:=id hv
 obtain⟨cf,cu,cw,yP,yQ,rfl,_⟩:=id dT
 have mm:=hv.size
 have uk:=dT.size
 have ff:=Nat.pos_of_ne_zero q.den_nz
 have j6:=Nat.pos_of_ne_zero q2.den_nz
 have vL:=wK q
 have sP:=wK q2
 obtain⟨f1,iZ⟩:∃f1,f1=decide (q.num<0):=⟨_,rfl⟩
 obtain⟨f2,jN⟩:∃f2,f2=decide (q2.num<0):=⟨_,rfl⟩
 obtain⟨n1,du⟩:∃n1,n1=q.num.natAbs:=⟨_,rfl⟩
 obtain⟨n2,ia⟩:∃n2,n2=q2.num.natAbs:=⟨_,rfl⟩
 obtain⟨d1,pV⟩:∃d1,d1=q.den:=⟨_,rfl⟩
 obtain⟨d2,pW⟩:∃d2,d2=q2.den:=⟨_,rfl⟩
 have hz:(al n1).length≤N+2∧(al d1).length≤N+2∧(al n2).length≤N+2∧(al d2).length≤N+2:=by
  unfold aM at mm uk
  rw[du,ia,pV,pW];omega
 rw[←iZ,←du,←pV]at vL
 rw[←jN,←ia,←pW]at sP
 rw[←pV]at ff
 rw[←pW]at j6
 have r8:=oF n1 n2
 have kD:=oF d1 d2;refine aY (args:=[_,_]) Tryz.func61 rfl rfl Tryz.ntmps61 rfl rfl fun w0=> ?_;refine ah [0,1] rfl ?_;refine ae (bZ rfl rfl (bZ rfl rfl (bm cj rfl (ab [2,3,4] ?_))));refine bN .bK [0,2,1,3,4,5] follows (by kernel_rfl) ?_;refine aa 2 rfl (aW rfl rfl (uj hv (by omega)) (fun _ _ h=>by first | exact h.le | exact h.1) ?_);rintro w1 G1 ⟨bg,uo⟩
 unfold bH at uo
 rw[←iZ,←du,←pV]at uo;obtain⟨wL,wM,rfl,gP,ib⟩:=id uo;obtain⟨wN,wO,rfl,wP,wQ⟩:=id gP;obtain⟨wR,wS,rfl,wT,wU⟩:=id ib;refine aW rfl rfl (uj (dT.le bg) (by omega)) (fun _ _ h=>by first | exact h.le | exact h.1) ?_;rintro w2 G2 ⟨cA,uq⟩
 unfold bH at uq
 rw[←jN,←ia,←pW]at uq;obtain⟨Dr,Ds,rfl,lX,ly⟩:=id uq;obtain⟨AW,AX,rfl,Dt,Du⟩:=id lX;obtain⟨AY,AZ,rfl,Dv,Dw⟩:=id ly;have gP:=gP.le cA;have ib:=ib.le cA;have hle:=bg.trans cA;obtain⟨ti,aj,ak⟩:=aX;refine aI (.inl ⟨rfl,rfl⟩) rfl rfl rfl aj ak rfl rfl rfl ?_;obtain⟨ti,aj,ak⟩:=aX;refine aI (.inl ⟨rfl,rfl⟩) rfl rfl rfl aj ak rfl rfl rfl (ab [2,3,4] ?_);refine bN .bK [0,1,2,3,4,5,6,7,8,10,11,12,13,9,14,15,16] follows (by kernel_rfl) ?_;refine aa 4 rfl (Fw Tryz.underlying4 rfl rfl (aa 8 rfl (aW rfl rfl (xB gP lX (by omega) (by omega)) (fun _ _ h=>by first | exact h.le | exact h.1) ?_)));rintro v3 H3 dY;refine aW rfl rfl (xB (ib.le dY.le) (ly.le dY.le) (by omega) (by omega)) (fun _ _ h=>by first | exact h.le | exact h.1) ?_;rintro v4 H4 fL;have k8:=dY.nat.le fL.le;have Hk:=fL.nat;obtain⟨Dx,Dy,rfl,Dz,DA⟩:=id k8;obtain⟨aha,ahb,rfl,ahc,ahd⟩:=id Hk;refine aW rfl rfl (xE (f:=f1 != f2) k8.sN Hk.sN nK nK (by omega) (by omega)) (fun _ _ h=>by first | exact h.le | exact h.1) ?_;rintro w5 G5 ⟨Hl,eI⟩;rw[cU,cU,←OI,vL,sP]at eI;obtain⟨u5,x5,rfl,Hm,nn⟩:=id eI;obtain⟨X1,X2,rfl,X3,X4⟩:=id Hm
 obtain⟨PU,PV,rfl,PW,PX⟩:=id nn;obtain⟨ti,aj,ak⟩:=aX;refine aI (.inl ⟨rfl,rfl⟩) rfl rfl rfl aj ak rfl rfl rfl (ab [4] ?_);obtain⟨b8,aP,aQ⟩:=aX;refine az ⟨.inr rfl,_,.agg rfl Tryz.underlying38 aP aQ (.nil),?_⟩;exact⟨((hle.trans dY.le).trans fL.le).trans Hl,eI⟩
theorem PY{H:Heap}{v v2:Value}{q q2:Rat}{N:Nat}(hv:cW H v q N)(dT:cW H v2 q2 N)(hN:(N:Int)≤1099511627780):
 Fn Tryz.prog 105 #[v,v2] H (fun v H'=>Heap.le H H'∧∃r,v = .tuple #[r,.bool (decide (q2≠0))]∧bH H' r (q/q2)):=by
 obtain⟨bf,bu,bw,nL,nM,rfl,_⟩:=id hv
 obtain⟨cf,cu,cw,yP,yQ,rfl,_⟩:=id dT
 have mm:=hv.size
 have uk:=dT.size
 have ff:=Nat.pos_of_ne_zero q.den_nz
 have j6:=Nat.pos_of_ne_zero q2.den_nz
 have vL:=wK q
 have sP:=wK q2
 obtain⟨f1,iZ⟩:∃f1,f1=decide (q.num<0):=⟨_,rfl⟩
 obtain⟨f2,jN⟩:∃f2,f2=decide (q2.num<0):=⟨_,rfl⟩
 obtain⟨n1,du⟩:∃n1,n1=q.num.natAbs:=⟨_,rfl⟩
 obtain⟨n2,ia⟩:∃n2,n2=q2.num.natAbs:=⟨_,rfl⟩
 obtain⟨d1,pV⟩:∃d1,d1=q.den:=⟨_,rfl⟩
 obtain⟨d2,pW⟩:∃d2,d2=q2.den:=⟨_,rfl⟩
 have hz:(al n1).length≤N+2∧(al d1).length≤N+2∧(al n2).length≤N+2∧(al d2).length≤N+2:=by
  unfold aM at mm uk
  rw[du,ia,pV,pW];omega
 rw[←iZ,←du,←pV]at vL
 rw[←jN,←ia,←pW]at sP
 rw[←pV]at ff
 rw[←pW]at j6
 have r8:=oF n1 d2
 have kD:=oF d1 n2;refine aY (args:=[_,_]) Tryz.func105 rfl rfl Tryz.ntmps105 rfl rfl fun w0=> ?_;refine ah [0,1] rfl ?_;refine ae (bZ rfl rfl (bZ rfl rfl (bm cj rfl (aa 1 rfl (ab [2,3,4] ?_)))));refine bN .bK [0,2,1,3,4,5] follows (by kernel_rfl) ?_;refine aa 2 rfl (aW rfl rfl (uj hv (by omega)) (fun _ _ h=>by first | exact h.le | exact h.1) ?_);rintro w1 G1 ⟨bg,uo⟩
 unfold bH at uo
 rw[←iZ,←du,←pV]at uo;obtain⟨wL,wM,rfl,gP,ib⟩:=id uo;obtain⟨wN,wO,rfl,wP,wQ⟩:=id gP;obtain⟨wR,wS,rfl,wT,wU⟩:=id ib;refine aW rfl rfl (uj (dT.le bg) (by omega)) (fun _ _ h=>by first | exact h.le | exact h.1) ?_;rintro w2 G2 ⟨cA,uq⟩
 unfold bH at uq
 rw[←jN,←ia,←pW]at uq;obtain⟨Dr,Ds,rfl,lX,ly⟩:=id uq;obtain⟨AW,AX,rfl,Dt,Du⟩:=id lX;obtain⟨AY,AZ,rfl,Dv,Dw⟩:=id ly;have gP:=gP.le cA;have ib:=ib.le cA;have hle:=bg.trans cA;obtain⟨ti,aj,ak⟩:=aX;refine aI (.inl ⟨rfl,rfl⟩) rfl rfl rfl aj ak rfl rfl rfl ?_;obtain⟨ti,aj,ak⟩:=aX;refine aI (.inl ⟨rfl,rfl⟩) rfl rfl rfl aj ak rfl rfl rfl (ab [2,3,4] ?_);refine ao (ae (aa 4 rfl (ab [2,3,4,13] ?_)));refine aD rfl (fun hb=> ?_) (fun hb=> ?_)
 ·
  have hb:n2=0:=jO.1 (by have:=eq_of_beq hb;omega)
  have Lw:q2=0:=by rw[←sP,hb,wJ]
  refine ae (aB rfl rfl (lG (n:=0) (by decide) (by decide)) ?_);rintro w5 G5 ⟨Hl,eI⟩;obtain⟨u5,x5,rfl,Hm,nn⟩:=id eI;obtain⟨X1,X2,rfl,X3,X4⟩:=id Hm;obtain⟨PU,PV,rfl,PW,PX⟩:=id nn;obtain⟨ti,aj,ak⟩:=aX;refine aI (.inl ⟨rfl,rfl⟩) rfl rfl rfl aj ak rfl rfl rfl (aa 1 rfl (ab [4,5] ?_));obtain⟨b8,aP,aQ⟩:=aX;refine az ⟨.inr rfl,_,.agg rfl Tryz.underlying38 aP aQ (.tmp rfl (.nil)),?_⟩;refine⟨hle.trans Hl,_,?_,by rw[Lw,Rat.div_def,Rat.inv_zero,Rat.mul_zero];exact eI⟩;rw[Lw];rfl
 ·
  have jo:0<n2:=Nat.pos_of_ne_zero fun e=>by rw[jO.2 e]at hb;simp at hb
  have Lw:q2≠0:=fun e=>by rw[←sP,OF j6]at e;omega
  refine aw (ah [2,3,4] rfl ?_);refine bN .bK [0,1,2,3,4,5,6,7,8,10,11,12,13,9,14,15,16,17] follows (by kernel_rfl) ?_;refine aa 4 rfl (Fw Tryz.underlying4 rfl rfl (aa 8 rfl (aW rfl rfl (xB gP ly (by omega) (by omega)) (fun _ _ h=>by first | exact h.le | exact h.1) ?_)));rintro v3 H3 dY;refine aW rfl rfl (xB (ib.le dY.le) (lX.le dY.le) (by omega) (by omega)) (fun _ _ h=>by first | exact h.le | exact h.1) ?_;rintro v4 H4 fL;have k8:=dY.nat.le fL.le;have Hk:=fL.nat;obtain⟨Dx,Dy,rfl,Dz,DA⟩:=id k8;obtain⟨aha,ahb,rfl,ahc,ahd⟩:=id Hk;refine aW rfl rfl (xE (f:=f1 != f2) k8.sN Hk.sN nK nK (by omega) (by omega)) (fun _ _ h=>by first | exact h.le | exact h.1) ?_;rintro w5 G5 ⟨Hl,eI⟩;rw[cU,cU,←OJ jo,vL,sP]at eI;obtain⟨u5,x5,rfl,Hm,nn⟩:=id eI;obtain⟨X1,X2,rfl,X3,X4⟩:=id Hm;obtain⟨PU,PV,rfl,PW,PX⟩:=id nn;obtain⟨ti,aj,ak⟩:=aX;refine aI (.inl ⟨rfl,rfl⟩) rfl rfl rfl aj ak rfl rfl rfl (aa 1 rfl (ab [4,5] ?_));obtain⟨b8,aP,aQ⟩:=aX;refine az ⟨.inr rfl,_,.agg rfl Tryz.underlying38 aP aQ (.tmp rfl (.nil)),?_⟩;refine⟨((hle.trans dY.le).trans fL.le).trans Hl,_,?_,eI⟩;rw[show decide (q2≠0)=true from decide_eq_true Lw];rfl
theorem X5{H:Heap}{a b:Int}(h1: -9223372036854775808≤a)(h2:a≤9223372036854775807)(h3: -9223372036854775808≤b)(h4:b≤9223372036854775807):
 Fn Tryz.prog 138 #[.int .i64 a,.int .i64 b] H (j7 H ((a:Rat)/(b:Rat))):=by
 have hs:∀n:Int,-9223372036854775808≤n→n≤9223372036854775807→aM (n:Rat)≤3:=fun n h1 h2=>by
  have k1:(al n.natAbs).length≤3:=jd.2 (by rw[ck];omega)
  have k2:(al 1).length≤3:=by rw[vE];decide
  have:=(XM (decide (n<0)) n.natAbs 1 3 k1 k2).2 (by decide)
  rwa [F6]at this
 refine aY (args:=[_,_]) Tryz.func138 rfl rfl Tryz.ntmps138 rfl rfl fun w0=> ?_;refine ah [0,1] rfl ?_;refine ae (bm cj rfl (ab [0,1,4] ?_));refine ae (aa 1 rfl (aB rfl rfl (lG h1 h2) ?_));rintro w1 G1 ⟨fo,bX⟩;obtain⟨u1,x1,rfl,eS,fK⟩:=id bX;obtain⟨mu,my,rfl,mz,mA⟩:=id eS;obtain⟨tP,tQ,rfl,tR,tS⟩:=id fK;refine aa 1 rfl (aB rfl rfl (lG h3 h4) ?_);rintro w2 G2 ⟨dP,bS⟩;obtain⟨u2,x2,rfl,fS,eT⟩:=id bS;obtain⟨oG,oH,rfl,oI,oJ⟩:=id fS;obtain⟨oK,oL,rfl,oM,oN⟩:=id eT;refine aB rfl rfl (PY (N:=3) ((bX.le dP).raw.mono (hs a h1 h2)) (bS.raw.mono (hs b h3 h4)) (by decide)) ?_;rintro v3 H3 ⟨dK,r3,rfl,iD⟩;obtain⟨u3,x3,rfl,oS,ic⟩:=id iD;obtain⟨Bj,Bk,rfl,Bl,Bm⟩:=id oS;obtain⟨Bn,Bo,rfl,Bp,Bq⟩:=id ic;refine aa 3 rfl (bm cj rfl ?_);obtain⟨ti,aj,ak⟩:=aX;refine aI (.inl ⟨rfl,rfl⟩) rfl rfl rfl aj ak rfl rfl rfl (aa 1 rfl (ab [4,5] ?_));refine ae (vr 1 ?_);obtain⟨ti,aj,ak⟩:=aX;refine aI (.inl ⟨rfl,rfl⟩) rfl rfl rfl aj ak rfl rfl rfl (ab [4] ?_);obtain⟨b8,aP,aQ⟩:=aX;refine az ⟨.inr rfl,_,.agg rfl Tryz.underlying38 aP aQ (.nil),?_⟩
 exact⟨(fo.trans dP).trans dK,iD⟩
end Go.aq
namespace Go.aq
open Go.Proofs Num Lp
theorem BK(L:TL)(a:Nat→Rat)(sg:Rat)(k:Nat):jT L a sg (k+1)=if 0≤L.mZ k then bT (bT (jT L a sg k) (L.pF k) (a k*sg)) (L.mZ k).toNat (-(a k*sg))else bT (jT L a sg k) (L.pF k) (a k*sg):=rfl
theorem ahe{H:Heap}{g:Nat}{ts:List Value}{pv mv:Value}{L:TL}{n N:Nat}{vs ss:List Value}{r:List Rat×Int×Rat}{slack:Int}{unit:Nat}{sg:Rat}
 (hg:H g=some ⟨ts,9,127,true⟩) (Kp:ts[0]? = some (.int .i64 (L.w:Int))) (fC:ts[2]? = some pv) (Hn:ts[3]? = some mv) (sG:aN vI 1 (rem H [g]) pv L.plus) (vJ:aN ke 1 (rem H [g]) mv L.minus)
 (hr:gB N (rem H [g]) vs r) (hs:bQ (rem H [g]) ss sg) (qy:aM sg≤1) (hn:r.1.length=n) (J1:L.plus.length=n) (pD:L.minus.length=n) (yn:∀j,j<n→L.pF j<L.w) (Xo:∀j,j<n→L.mZ j<L.w)
 (ka:r.2.1≠2→0≤slack∧slack<L.w) (pK:unit<L.w) (hN:(N:Int)≤549755813888) (hw:(L.w:Int)≤1000000) (hnn:(n:Int)≤1000000):
 Fn Tryz.prog 123 #[.pointer (some ⟨g,0,none⟩),.agg vs.toArray,.agg ss.toArray,.int .i64 slack,.int .i64 (unit:Int)] H (fun v H'=>Heap.le H H'∧∃z xs,v = .slice (some ⟨z,0,none⟩) (L.w+1) (L.w+1)∧ft [g] H H' z xs ((L.w+1)*3) 121∧bG (bQ (rem H' (z :: [g]))) 3 xs (aK (Lj L n (fn r.1) r.2.2 r.2.1 slack unit sg) (L.w+1))):=by
 obtain⟨ns,ds,bs,rfl⟩:=hs.cells
 obtain⟨Ac,cc,kk,f,A1,m1,c1,A2,m2,c2,rfl,rfl⟩:=hr.cells
 obtain⟨c',f',u',w',mh,pH,pL⟩:=id hr
 simp only[List.cons.injEq,Value.bool.injEq,and_true,true_and]at mh
 obtain⟨rfl,rfl,rfl,rfl⟩:=mh
 have bA:∀q,q∈[g]→H q≠none:=fun q hq=>by rw[List.mem_singleton.1 hq,hg];simp
 obtain⟨Ap,cp,xp,rfl,gT,ld⟩:=sG.one
 obtain⟨Am,cm,xm,rfl,kG,xx⟩:=vJ.one
 rw[J1]at fC
 rw[pD]at Hn
 have BD:∀{H':Heap}{z:Nat}{xs:List Value}{s e:Nat},ft [g] H H' z xs s e→H' g=some ⟨ts,9,127,true⟩:=fun kH=>(kH.same g (List.mem_singleton.2 rfl)).trans hg
 have fj:∀{H':Heap}{k:Nat}{v:Value},H' g=some ⟨ts,9,127,true⟩→ts[k]? = some v→cell H' ((⟨g,0,none⟩:Addr).add k)=some v:=fun h1 h2=>by simp[cell,iu,h1,h2]
 have X6:∀{H':Heap},H' g=some ⟨ts,9,127,true⟩→cell H' (⟨g,0,none⟩:Addr)=some (.int .i64 (L.w:Int)):=fun h1=>by have:=fj (k:=0) h1 Kp;rwa [iu]at this
 have hLp:∀j,j<n→L.plus[j]? = some (L.pF j):=fun j hj=>by
  have:j<L.plus.length:=by rw[J1];exact hj
  simp[TL.pF,List.getD,List.getElem?_eq_getElem this]
 have hLm:∀j,j<n→L.minus[j]? = some (L.mZ j):=fun j hj=>by
  have:j<L.minus.length:=by rw[pD];exact hj
  simp[TL.mZ,List.getD,List.getElem?_eq_getElem this]
 refine aY (args:=[_,_,_,_,_]) Tryz.func123 rfl rfl Tryz.ntmps123 rfl rfl fun w0=> ?_;refine ah [0,1,2,3,4] rfl ?_;refine ae (bZ rfl rfl (bZ rfl rfl (aa 1 rfl (ab [0,3,4,6,7] ?_))));refine ae (aa 2 rfl (aV ag rfl rfl rfl (aR ag rfl rfl rfl (X6 hg) (aF rfl rfl ⟨by omega,by omega⟩ (aB rfl rfl (GJ (gs:=[g]) (n:=L.w+1) bA (by omega)) ?_)))));rintro v1 H1 ⟨bg,z,sB,rfl,D3,X7⟩;have ahf:=(X7 H).len;rw[bh]at ahf;refine aa 1 rfl (ab [0,3,4,6,7,11] ?_);refine ao (ae (aa 2 rfl (aB rfl rfl (Fn.Lb (gs:=z :: [g]) (D3.ne bA) (WD (pH.le (pS N) D3.le) (by omega) (by omega))) ?_)));rintro v2 H2 ⟨fP,cA,lW⟩;have eQ:=D3.kept fP;obtain⟨Av,cv,xv,rfl,lg,po⟩:=lW.num;rw[hn];refine aa 2 rfl (ab [0,3,4,6,7,11,22,23,24] ?_);refine aE (fX (fun(k:Nat)(xs:List Value)=>n-k) (fun(k:Nat)(xs:List Value)=>put (put (put (put (put (put (put (put (put (emp) 0 (.val (.pointer (some ⟨g,0,none⟩)))) 3 (.val (.int .i64 slack))) 4 (.val (.int .i64 (unit:Int)))) 6 (.box [.slice Ac n cc,.int .i64 r.2.1,.bool f,.slice A1 m1 c1,.slice A2 m2 c2])) 7 (.box [.int .i64 ns,.int .i64 ds,.pointer bs])) 11 (.val (.slice (some ⟨z,0,none⟩) (L.w+1) (L.w+1)))) 22 (.val (.slice Av n cv))) 23 (.val (.int .i64 (n:Int)))) 24 (.val (.int .i64 (k:Int)))) (fun(k:Nat)(xs:List Value) H'=>ft [g] H H' z xs ((L.w+1)*3) 121∧bG (bQ (rem H' (z :: [g]))) 3 xs (aK (jT L (fn r.1) sg k) (L.w+1))∧Heap.le (rem H2 (z :: [g])) (rem H' (z :: [g]))∧Heap.le H H'∧k≤n) 0 sB (⟨eQ,by rw[la (f:=jT L (fn r.1) sg 0) (g:=fun _=>0) (fun j _=>rfl)];exact X7 _,.refl _,bg.trans cA,Nat.zero_le _⟩) ar ?_)
 rintro k xs H3 ⟨kg,xz,iA,anB,dz⟩;have cY:=xz.len;rw[bh]at cY;have lV:=BD kg;refine ae (aa 1 rfl (ab [0,3,4,6,7,11,22,23,24,25] ?_));refine ao (aD rfl (fun hb=> ?_) (fun hb=> ?_))
 ·
  have gw:k<n:=by simpa using hb
  obtain⟨q,fT⟩:∃q,r.1[k]? = some q:=⟨_,List.getElem?_eq_getElem (by omega)⟩;obtain⟨n1,d1,b1,du,fK⟩:=po k q fT;have iU:fn r.1 k=q:=m8 fT
  have PZ:aM q≤N+2:=by
   obtain⟨A9,c9,x9,_,_,_,h9⟩:=pH;exact cW.size (h9.at_ k q fT)
  obtain⟨up,GN,GO⟩:=ld k _ (hLp k gw);obtain⟨um,zd,GP⟩:=xx k _ (hLm k gw)
  cases GO
  cases GP
  have ahg:=yn k gw;have ahh:=Xo k gw;refine aw (ah [0,3,4,6,7,11,22,23,24] rfl ?_);refine ao (aE (ae (aa 1 rfl (bY (vs:=[.int .i64 n1,.int .i64 d1,.pointer b1]) ag rfl rfl rfl rfl ((lg.le iA).le (bF _ _)) rfl (by decide) fK (by omega) (by omega) fun _=>(bm fh rfl (vr 1 ?_))))));obtain⟨ti,aj,ak⟩:=cL;refine aI (.inl ⟨rfl,rfl⟩) rfl rfl rfl aj ak rfl rfl rfl (ab [0,3,4,6,7,11,12,13,22,23,24] ?_);refine bN .gD [0,1,2,3,4,5,6,7,8,9,10,11,12] follows (by kernel_rfl) ?_;refine aa 3 rfl (aV ag rfl rfl rfl (aR ag rfl rfl rfl (fj lV fC) (aa 1 rfl (aS ag rfl rfl rfl rfl rfl ((gT.le kg.le).le (bF _ _)) (by rw[Int.toNat_natCast];exact GN) (by omega) (by omega) fun _=> ?_))));refine aa 2 rfl (aW rfl rfl (Fn.lD (kg.ne bA) (Gs (N:=N+2) (du.le iA) (hs.le kg.le) PZ (by omega) (by omega))) (fun _ _ h=>by first | exact h.le | exact h.1) ?_);rintro v4 H4 ⟨gy,cM,n4,d4,b4,rfl,cn⟩;have sH:=kg.kept gy;rw[←iU]at cn;obtain⟨ti,aj,ak⟩:=cL;refine cT (.inr rfl) ag rfl rfl rfl (by omega) (by omega) (sH.aC) rfl (by show 0+(L.w+1)*3≤xs.length;omega) aj ak (fun _=>rfl) rfl rfl rfl fun _=> ?_
  refine ab [0,3,4,6,7,11,12,13,22,23,24] ?_;have sK:ft [g] H (ins H4 z {(⟨xs,(L.w+1)*3,121,true⟩:Ent)with xs:=aL xs (0+((L.pF k:Nat):Int).toNat*3) [.int .i64 n4,.int .i64 d4,.pointer b4]}) z (aL xs (L.pF k*3) [.int .i64 n4,.int .i64 d4,.pointer b4]) ((L.w+1)*3) 121:=sH.set (by rw[Int.toNat_natCast];exact oW)
  have Lx:bG (bQ (rem (ins H4 z {(⟨xs,(L.w+1)*3,121,true⟩:Ent)with xs:=aL xs (0+((L.pF k:Nat):Int).toNat*3) [.int .i64 n4,.int .i64 d4,.pointer b4]}) (z :: [g]))) 3 (aL xs (L.pF k*3) [.int .i64 n4,.int .i64 d4,.pointer b4]) (aK (bT (jT L (fn r.1) sg k) (L.pF k) (fn r.1 k*sg)) (L.w+1)):=by
   rw[cJ _ (List.mem_cons_self ..)];exact sE (xz.mono fun vs a=>jg _ _ vs a gy.le) (by omega) cn
  have iP:Heap.le (rem H2 (z :: [g])) (rem (ins H4 z {(⟨xs,(L.w+1)*3,121,true⟩:Ent)with xs:=aL xs (0+((L.pF k:Nat):Int).toNat*3) [.int .i64 n4,.int .i64 d4,.pointer b4]}) (z :: [g])):=by
   rw[cJ _ (List.mem_cons_self ..)];exact iA.trans gy.le
  generalize ins H4 z {(⟨xs,(L.w+1)*3,121,true⟩:Ent)with xs:=aL xs (0+((L.pF k:Nat):Int).toNat*3) [.int .i64 n4,.int .i64 d4,.pointer b4]}=H5 at sK Lx iP⊢
  have sM:=BD sK;have P0:=Lx.len;rw[bh]at P0;refine ae (aa 2 rfl (aV ag rfl rfl rfl (aR ag rfl rfl rfl (fj sM Hn) (aa 1 rfl (aS ag rfl rfl rfl rfl rfl ((kG.le sK.le).le (bF _ _)) (by rw[Int.toNat_natCast];exact zd) (by omega) (by omega) fun _=> ?_)))));refine aa 1 rfl (ab [0,3,4,6,7,11,12,13,22,23,24,48] ?_);refine aD rfl (fun hb=> ?_) (fun hb=> ?_)
  ·
   have hb:0≤L.mZ k:=by simpa using hb
   refine eK .gD [0,1,2,3,4,5,6,7,8,9,10,11,12,13] follows (by kernel_rfl) ?_;refine aa 3 rfl (aV ag rfl rfl rfl (aR ag rfl rfl rfl (fj sM Hn) (aa 1 rfl (aS ag rfl rfl rfl rfl rfl ((kG.le sK.le).le (bF _ _)) (by rw[Int.toNat_natCast];exact zd) (by omega) (by omega) fun _=> ?_))));refine aa 2 rfl (aW rfl rfl (Fn.lD (sK.ne bA) (Gs (N:=N+2) (du.le iP) (hs.le sK.le) PZ (by omega) (by omega))) (fun _ _ h=>by first | exact h.le | exact h.1) ?_);rintro v6 H6 ⟨qI,fM,n6,d6,b6,rfl,nT⟩;have X8:=sK.kept qI;have wC:=sk q sg;refine aW rfl rfl (Fn.lD (X8.ne bA) (DC nT (by omega))) (fun _ _ h=>by first | exact h.le | exact h.1) ?_;rintro v7 H7 ⟨pU,jt,n7,d7,b7,rfl,iT⟩;have X9:=X8.kept pU;rw[←iU]at iT;obtain⟨ti,aj,ak⟩:=cL;refine cT (.inr rfl) ag rfl rfl rfl (by omega) (by omega) (X9.aC) rfl (by show 0+(L.w+1)*3≤(aL xs (L.pF k*3) [.int .i64 n4,.int .i64 d4,.pointer b4]).length;omega) aj ak (fun _=>rfl) rfl rfl rfl fun _=> ?_;refine au ?_;have Ya:=X9.set (oW (xs:=aL xs (L.pF k*3) [.int .i64 n4,.int .i64 d4,.pointer b4]) (vs:=[.int .i64 n7,.int .i64 d7,.pointer b7]) (k:=(L.mZ k).toNat) (sz:=3));refine ah [0,3,4,6,7,11,22,23,24] rfl ?_;refine aA rfl (aF rfl rfl ⟨by omega,by omega⟩ ?_)
   refine aa 1 rfl (au ?_);exact⟨k+1,_,by omega,ar,Ya,by rw[cJ _ (List.mem_cons_self ..),BK,if_pos hb];exact sE (Lx.mono fun vs a=>jg _ _ vs a (qI.le.trans pU.le)) (by omega) iT,by rw[cJ _ (List.mem_cons_self ..)];exact(iP.trans qI.le).trans pU.le,Ya.hle,by omega⟩
  ·
   have hb:¬0≤L.mZ k:=by simpa using hb
   refine aw (ah [0,3,4,6,7,11,22,23,24] rfl ?_);refine aA rfl (aF rfl rfl ⟨by omega,by omega⟩ (aa 1 rfl (au ?_)));exact⟨k+1,_,by omega,ar,sK,by rw[BK,if_neg hb];exact Lx,iP,sK.hle,by omega⟩
 ·
  have hb:n≤k:=by simpa using hb
  obtain rfl:n=k:=by omega
  refine aU (ah [0,3,4,6,7,11] rfl ?_);refine kT (fun(ys:List Value)=>put (put (put (put (put (emp) 0 (.val (.pointer (some ⟨g,0,none⟩)))) 4 (.val (.int .i64 (unit:Int)))) 6 (.box [.slice Ac n cc,.int .i64 r.2.1,.bool f,.slice A1 m1 c1,.slice A2 m2 c2])) 7 (.box [.int .i64 ns,.int .i64 ds,.pointer bs])) 11 (.val (.slice (some ⟨z,0,none⟩) (L.w+1) (L.w+1)))) (fun(ys:List Value) H'=>ft [g] H H' z ys ((L.w+1)*3) 121∧bG (bQ (rem H' (z :: [g]))) 3 ys (aK (sL (jT L (fn r.1) sg n) r.2.1 slack sg) (L.w+1))) ?_ ?_
  ·
   refine ae (aa 2 rfl (ab [0,3,4,6,7,11,64] ?_));refine aE (ae (aa 2 rfl (ab [0,3,4,6,7,11,64,65] ?_)));refine aD rfl (fun hb=> ?_) (fun hb=> ?_)
   ·
    have hb:r.2.1=1:=by simpa using hb
    have ahi:=ka (by omega);refine aA rfl (vr 3 ?_);obtain⟨ti,aj,ak⟩:=cL;refine cT (.inl rfl) ag rfl rfl rfl (by omega) (by omega) (kg.aC) rfl (by show 0+(L.w+1)*3≤xs.length;omega) aj ak (fun _=>rfl) rfl rfl rfl fun _=> ?_;refine au ?_;exact⟨_,ar,kg.set oW,by rw[cJ _ (List.mem_cons_self ..)];unfold sL;rw[if_pos hb];exact sE xz (by omega) (hs.le kg.le)⟩
   have hb:¬r.2.1=1:=by simpa using hb
   refine ae (aa 2 rfl (ab [0,3,4,6,7,11,71] ?_));refine aD rfl (fun hb=> ?_) (fun hb=> ?_)
   ·
    have fZ:r.2.1=3:=by simpa using hb
    have hb:¬r.2.1=1:=by omega
    have ahi:=ka (by omega);refine aA rfl (aa 3 rfl (aB rfl rfl (Fn.lD (kg.ne bA) (DC (hs.le kg.le) (by omega))) ?_));rintro v9 H9 ⟨gG,ea,n9,d9,b9,rfl,fu⟩;have Ho:=kg.kept gG;obtain⟨ti,aj,ak⟩:=cL;refine cT (.inl rfl) ag rfl rfl rfl (by omega) (by omega) (Ho.aC) rfl (by show 0+(L.w+1)*3≤xs.length;omega) aj ak (fun _=>rfl) rfl rfl rfl fun _=> ?_;refine au ?_;exact⟨_,ar,Ho.set oW,by rw[cJ _ (List.mem_cons_self ..)];unfold sL;rw[if_neg hb,if_pos fZ];exact sE (xz.mono fun vs a=>jg _ _ vs a gG.le) (by omega) fu⟩
   have fZ:¬r.2.1=3:=by simpa using hb
   have hb:¬r.2.1=1:=by assumption
   refine aw ?_;exact⟨_,ar,kg,by unfold sL;rw[if_neg hb,if_neg fZ];exact xz⟩
  rintro ys H9 ⟨Ho,Yb⟩;have ahj:=Yb.len;rw[bh]at ahj;refine ae (aa 2 rfl (aB rfl rfl (wZ) ?_));rintro v10 nh ⟨qO,rfl⟩;rw[qO];obtain⟨ti,aj,ak⟩:=cL;refine cT (.inl rfl) ag rfl rfl rfl (by omega) (by omega) (Ho.aC) rfl (by show 0+(L.w+1)*3≤ys.length;omega) aj ak (fun _=>rfl) rfl rfl rfl fun _=> ?_;refine ab [0,6,7,11] ?_;have Hp:ft [g] H (ins H9 z {(⟨ys,(L.w+1)*3,121,true⟩:Ent)with xs:=aL ys (0+((unit:Int)).toNat*3) [.int .i64 1,.int .i64 1,.pointer none]}) z (aL ys (unit*3) [.int .i64 1,.int .i64 1,.pointer none]) ((L.w+1)*3) 121:=Ho.set (by rw[Int.toNat_natCast];exact oW)
  have P1:bG (bQ (rem (ins H9 z {(⟨ys,(L.w+1)*3,121,true⟩:Ent)with xs:=aL ys (0+((unit:Int)).toNat*3) [.int .i64 1,.int .i64 1,.pointer none]}) (z :: [g]))) 3 (aL ys (unit*3) [.int .i64 1,.int .i64 1,.pointer none]) (aK (bT (sL (jT L (fn r.1) sg n) r.2.1 slack sg) unit 1) (L.w+1)):=by
   rw[cJ _ (List.mem_cons_self ..)];exact sE Yb (by omega) (wY _ (n:=1) (by decide) (by decide))
  generalize ins H9 z {(⟨ys,(L.w+1)*3,121,true⟩:Ent)with xs:=aL ys (0+((unit:Int)).toNat*3) [.int .i64 1,.int .i64 1,.pointer none]}=ju at Hp P1⊢
  have zm:=BD Hp;have ahk:=P1.len;rw[bh]at ahk;have Yc:=pL.size;refine bN .gD [0,1,2,3,4,5,6,8,7,9,10,11] follows (by kernel_rfl) ?_;refine aa 3 rfl (aV ag rfl rfl rfl (aR ag rfl rfl rfl (X6 zm) (aa 3 rfl (aW rfl rfl (Fn.lD (Hp.ne bA) (OY (pL.le Hp.le) (by omega))) (fun _ _ h=>by first | exact h.le | exact h.1) ?_))));rintro v12 dG ⟨zo,lh,n12,d12,b12,rfl,vN⟩;have BL:=Hp.kept zo;refine aW rfl rfl (Fn.lD (BL.ne bA) (Gs (N:=N+2) vN (hs.le BL.le) Yc (by omega) (by omega))) (fun _ _ h=>by first | exact h.le | exact h.1) ?_;rintro Yd lH ⟨xG,mH,P2,d13,Ye,rfl,sR⟩;have Ly:=BL.kept xG;obtain⟨ti,aj,ak⟩:=cL;refine cT (.inr rfl) ag rfl rfl rfl (by omega) (by omega) (Ly.aC) rfl (by show 0+(L.w+1)*3≤(aL ys (unit*3) [.int .i64 1,.int .i64 1,.pointer none]).length;omega) aj ak (fun _=>rfl) rfl rfl rfl fun _=> ?_;refine ab [11] ?_;have xH:ft [g] H (ins lH z {(⟨aL ys (unit*3) [.int .i64 1,.int .i64 1,.pointer none],(L.w+1)*3,121,true⟩:Ent)with xs:=aL (aL ys (unit*3) [.int .i64 1,.int .i64 1,.pointer none]) (0+((L.w:Int)).toNat*3) [.int .i64 P2,.int .i64 d13,.pointer Ye]}) z (aL (aL ys (unit*3) [.int .i64 1,.int .i64 1,.pointer none]) (L.w*3) [.int .i64 P2,.int .i64 d13,.pointer Ye]) ((L.w+1)*3) 121:=Ly.set (by rw[Int.toNat_natCast];exact oW)
  refine ae (aa 2 rfl (ab [10] ?_));refine az ⟨.inr rfl,_,.tmp rfl (.nil),?_⟩;exact⟨xH.hle,z,_,rfl,xH,by rw[cJ _ (List.mem_cons_self ..)];exact sE (P1.mono fun vs a=>jg _ _ vs a (zo.le.trans xG.le)) (by omega) sR⟩
end Go.aq
namespace Go.aq
open Go.Proofs Num Lp
def a7(fr:Nat→Bool):Nat→Nat
 | 0=>0
 | k+1=>a7 fr k+1+(if fr k then 1 else 0)
def nr(fr:Nat→Bool)(k:Nat):Int:=if fr k then((a7 fr k+1:Nat):Int)else -1
def bB(rel:Nat→Int)(c:Nat):Nat→Nat
 | 0=>c
 | i+1=>bB rel c i+(if rel i=2 then 0 else 1)
def eW(rel:Nat→Int)(c i:Nat):Int:=if rel i=2 then -1 else(bB rel c i:Int)
def kJ(b:Rat)(rel:Int):Int:=if b<0∨(b=0∧rel=3)then -1 else 1
def fa(rel s:Int):Bool:=decide ((rel=1∧s=1)∨(rel=3∧s = -1))
def a8(rel sg:Nat→Int)(u:Nat):Nat→Nat
 | 0=>u
 | i+1=>a8 rel sg u i+(if fa (rel i) (sg i)then 0 else 1)
def qP(rel sg:Nat→Int)(c u i:Nat):Nat:=if fa (rel i) (sg i)then bB rel c i else a8 rel sg u i
theorem sS(b:Rat)(rel:Int):kJ b rel=1∨kJ b rel = -1:=by unfold kJ;split <;> simp
theorem P3(fr:Nat→Bool)(k:Nat):a7 fr k≤2*k:=by
 induction k with
 | zero=>exact Nat.le_refl _
 | succ k ih=>unfold a7;split <;> omega
theorem sT(rel:Nat→Int)(c k:Nat):bB rel c k≤c+k∧c≤bB rel c k:=by
 induction k with
 | zero=>exact⟨Nat.le_refl _,Nat.le_refl _⟩
 | succ k ih=>unfold bB;split <;> omega
theorem qQ(rel sg:Nat→Int)(u k:Nat):a8 rel sg u k≤u+k∧u≤a8 rel sg u k:=by
 induction k with
 | zero=>exact⟨Nat.le_refl _,Nat.le_refl _⟩
 | succ k ih=>unfold a8;split <;> omega
theorem BM{fr:Nat→Bool}{j k:Nat}(h:j<k):a7 fr j+1+(if fr j then 1 else 0)≤a7 fr k:=by
 induction k with
 | zero=>omega
 | succ k ih=>
  by_cases e:j=k
  ·subst e;exact Nat.le_refl _
  ·have:=ih (by omega)
   show _≤a7 fr k+1+(if fr k then 1 else 0)
   omega
theorem P4{rel:Nat→Int}{c j k:Nat}(h:j<k):bB rel c j+(if rel j=2 then 0 else 1)≤bB rel c k:=by
 induction k with
 | zero=>omega
 | succ k ih=>
  by_cases e:j=k
  ·subst e;exact Nat.le_refl _
  ·have:=ih (by omega)
   show _≤bB rel c k+(if rel k=2 then 0 else 1)
   omega
theorem P5{rel sg:Nat→Int}{u j k:Nat}(h:j<k):a8 rel sg u j+(if fa (rel j) (sg j)then 0 else 1)≤a8 rel sg u k:=by
 induction k with
 | zero=>omega
 | succ k ih=>
  by_cases e:j=k
  ·subst e;exact Nat.le_refl _
  ·have:=ih (by omega)
   show _≤a8 rel sg u k+(if fa (rel k) (sg k)then 0 else 1)
   omega
def ints(f:Nat→Int)(k:Nat):List Value:=(List.range k).map fun j=> .int .i64 (f j)
theorem vO(f:Nat→Int)(k:Nat):ints f (k+1)=ints f k ++ [.int .i64 (f k)]:=by
 unfold ints;rw[List.range_succ,List.map_append];rfl
theorem BN(f:Nat→Int)(k:Nat):(ints f k).length=k:=by simp[ints]
theorem vP{f:Nat→Int}{k i:Nat}(h:i<k):(ints f k)[i]? = some (.int .i64 (f i)):=by simp[ints,h]
theorem bW.ints{K:Heap}{v:Value}{f:Nat→Int}{k:Nat}(h:bW K v 3 1 k (aq.ints f k)):aN ke 1 K v ((List.range k).map f):=by
 obtain⟨A,c,rfl⟩:=h.form
 refine⟨A,c,_,by rw[List.length_map,List.length_range],?_,h.rd,⟨by rw[BN,List.length_map,List.length_range,Nat.mul_one],fun i z hz=> ?_⟩⟩
 ·rw[List.length_map,List.length_range]
  rcases h.2 with ⟨k1,k2⟩ | ⟨g,cap,k1,_,k3,_⟩
  ·omega
  ·cases k1;exact k3
 ·rw[List.getElem?_map]at hz
  have hi:i<k:=by
   false_or_by_contra
   rw[List.getElem?_eq_none (by rw[List.length_range];omega)]at hz;cases hz
  rw[List.getElem?_range hi]at hz
  cases hz
  rw[OW (vP hi)];rfl
theorem bW.P6{K:Heap}{v:Value}{f:Nat→Nat}{k:Nat}(h:bW K v 3 1 k (aq.ints (fun j=>(f j:Int)) k)):aN vI 1 K v ((List.range k).map f):=by
 obtain⟨A,c,xs,h1,h2,h3,h4⟩:=bW.ints h
 rw[List.length_map,List.length_range]at h1 h2
 refine⟨A,c,xs,by rw[List.length_map,List.length_range];exact h1,by rw[List.length_map,List.length_range];exact h2,h3,⟨by rw[h4.len,List.length_map,List.length_map],fun i z hz=> ?_⟩⟩
 rw[List.getElem?_map]at hz
 cases hr:(List.range k)[i]? with
 | none=>rw[hr]at hz;cases hz
 | some j=>
  rw[hr]at hz
  cases hz
  exact h4.at_ i (f j:Int) (by rw[List.getElem?_map,hr];rfl)
def BO(v v':Value):Prop:=∀q,v.ownBlock=some q→v'.ownBlock≠some q
theorem BO.symm{v v':Value}(h:BO v v'):BO v' v:=fun q h1 h2=>h q h2 h1
structure l8(K0:Heap)(kX:Value)(e sz n:Nat)(xs:List Value)(v:Value)(K:Heap):Prop where
 own:bW K v e sz n xs
 le:Heap.le K0 K
 new:∀q,v.ownBlock=some q→kX.ownBlock=some q∨K0 q=none
 keep:∀(v':Value)(e' qm n':Nat)(oj:List Value),bW K0 v' e' qm n' oj→BO kX v'→bW K v' e' qm n' oj∧BO v v'
theorem bW.lift{H:Heap}{gs:List Nat}{v:Value}{e sz n:Nat}{xs:List Value}(h:bW (rem H gs) v e sz n xs):bW H v e sz n xs∧∀q,q∈gs→v.ownBlock≠some q:=by
 have h2:∀q,q∈gs→v.ownBlock≠some q:=fun q hq hv=>by
  obtain⟨en,he⟩:=h.block hv
  rw[rem_in hq]at he;cases he
 exact⟨h.same fun q hq=>(bM (fun hm=>h2 q hm hq)).symm,h2⟩
theorem pY{H1 H3:Heap}{gs:List Nat}{kX v3:Value}{e sz n0 n gb:Nat}{sB xs:List Value}{en:Ent}(bA:∀q,q∈gs→H1 q≠none)(a6:H1 gb=none)(ho:bW (rem H1 gs) kX e sz n0 sB)(ha:App (ins H1 gb en) kX e sz n xs v3 H3):
  l8 (rem H1 gs) kX e sz n xs v3 (rem H3 gs)∧∀q,q∈gs→H3 q=H1 q:=by
 obtain⟨hl,hh⟩:=ho.lift
 have LA:¬gb∈gs:=fun h=>bA gb h a6
 have xh:∀q,q∈gs→ins H1 gb en q≠none:=fun q hq=>by rw[bn _ _ (fun e=>LA (by rw[←e];exact hq))];exact bA q hq
 obtain⟨lR,hs⟩:=ha.rem xh hh
 rw[wW _ LA]at lR
 have hK:rem H1 gs gb=none:=by rw[bM LA];exact a6
 refine⟨⟨lR.own,(Heap.bI _ hK).trans lR.le,fun q hq=>(by
  rcases lR.at_ with h4 | ⟨g',h4,h5⟩
  ·exact .inl (by rw[←h4];exact hq)
  ·rw[h4]at hq
   cases hq
   exact .inr (AT h5).2),fun v' e' qm n' oj h' vQ=> ?_⟩,fun q hq=>by rw[hs q hq,bn _ _ (fun e=>LA (by rw[←e];exact hq))]⟩
 have h1:bW (ins (rem H1 gs) gb en) v' e' qm n' oj:=h'.ins _ hK
 refine⟨h1.same fun q hq=> ?_,fun q h2 h3=> ?_⟩
 ·obtain⟨Ef,Hq⟩:=h1.block hq
  rw[lR.same q Ef Hq (fun h=>vQ q h hq),Hq]
 ·rcases lR.at_ with h4 | ⟨g',h4,h5⟩
  ·exact vQ q (by rw[←h4];exact h2) h3
  ·rw[h4]at h2
   cases h2
   obtain⟨Ef,Hq⟩:=h1.block h3
   rw[h5]at Hq;cases Hq
def sU(a1:Addr)(v1:Value)(a2:Addr)(v2:Value)(ad:Addr):Option Value:=if ad=a1 then some v1 else if ad=a2 then some v2 else none
theorem lI{a1 a2:Addr}{v1 v2:Value}{H:Heap}(h1:cell H a1=some v1)(h2:cell H a2=some v2):(Mode.cO (sU a1 v1 a2 v2)).fO H:=fun ad v h=>by
 have h':sU a1 v1 a2 v2 ad=some v:=h
 unfold sU at h'
 split at h'
 ·rename_i e;rw[e,h1];exact h'
 ·split at h'
  ·rename_i e;rw[e,h2];exact h'
  ·cases h'
theorem vR{a1 a2:Addr}{v1 v2:Value}:sU a1 v1 a2 v2 a1=some v1:=by simp[sU]
theorem Hr{a1 a2:Addr}{v1 v2:Value}(h:a2≠a1):sU a1 v1 a2 v2 a2=some v2:=by simp[sU,h]
theorem Hs{g g' o o':Nat}(h:g≠g'):(⟨g,o,none⟩:Addr)≠⟨g',o',none⟩:=fun e=>h (by cases e;rfl)
def Eg(_:Heap)(vs:List Value)(b:Bool):Prop:=vs = [.bool b]
theorem P7:Up Eg:=fun _ _ _ _ _ h=>h
def nt(N:Nat)(H:Heap)(v:Value)(p:Prg):Prop:=∃fv rv,v = .agg #[fv,rv]∧aN Eg 1 H fv p.free∧aN (gB N) 5 H rv p.rows
theorem nt.le{N:Nat}{H H':Heap}{v:Value}{p:Prg}(h:nt N H v p)(hl:Heap.le H H'):nt N H' v p:=by
 obtain⟨fv,rv,h1,h2,h3⟩:=h
 exact⟨fv,rv,h1,h2.le P7 hl,h3.le (lF N) hl⟩
section
variable (p:Prg)
abbrev _root_.Lp.Prg.aH(i:Nat):Int:=kJ (p.lp.b i) (p.lp.rel i)
abbrev _root_.Lp.Prg.c1:Nat:=a7 p.lp.free p.lp.n
abbrev _root_.Lp.Prg.u:Nat:=bB p.lp.rel p.c1 p.lp.m
abbrev _root_.Lp.Prg.w:Nat:=a8 p.lp.rel p.aH p.u p.lp.m
abbrev _root_.Lp.Prg.unit(i:Nat):Nat:=qP p.lp.rel p.aH p.c1 p.u i
def _root_.Lp.Prg.lay:TL:=⟨p.w,p.u,(List.range p.lp.n).map (a7 p.lp.free),(List.range p.lp.n).map (nr p.lp.free),(List.range p.lp.m).map p.unit,aK (fun i=>(p.aH i:Rat)) p.lp.m⟩
def _root_.Lp.Prg.eh:av:=⟨p.lp.m,p.w,fun i=>Lj p.lay p.lp.n (p.lp.a i) (p.lp.b i) (p.lp.rel i) (eW p.lp.rel p.c1 i) (p.unit i) (p.aH i:Rat),fun _=>0,p.unit⟩
end
end Go.aq
namespace Go.aq
theorem vS{H:Heap}{gv g:Nat}{e:Ent}{v:Value}(h:cell H ⟨gv,0,none⟩=some v)(bA:gv≠g):cell (ins H g e) ⟨gv,0,none⟩=some v:=by
 simp only[cell,bn _ _ bA]at h⊢;exact h
theorem sV(z:Int):∀u,u∈[Value.int .i64 z]→u.oneCell'=true:=fun u hu=>by rw[List.mem_singleton]at hu;rw[hu];rfl
theorem ints_set{f:Nat→Int}{m i:Nat}{z:Int}:(ints f m).set i (.int .i64 z)=ints (fun j=>if j=i then z else f j) m:=by
 apply List.ext_getElem?
 intro j
 by_cases hj:j<m
 ·by_cases e:j=i
  ·subst e
   rw[List.getElem?_set_self (by rw[BN];exact hj),vP hj,if_pos rfl]
  ·rw[List.getElem?_set_ne (fun e'=>e e'.symm),vP hj,vP hj,if_neg e]
 ·rw[List.getElem?_eq_none (by rw[List.length_set,BN];omega),List.getElem?_eq_none (by rw[BN];omega)]
theorem P8{f g:Nat→Int}{m:Nat}(h:∀j,j<m→f j=g j):ints f m=ints g m:=by
 unfold ints
 apply List.map_congr_left
 intro j hj
 rw[h j (List.mem_range.1 hj)]
theorem aN.row{N:Nat}{H:Heap}{v:Value}{l:List (List Rat×Int×Rat)}(h:aN (gB N) 5 H v l):∃A c xs,v = .slice A l.length c∧Rd H A xs∧∀(i:Nat)(r:List Rat×Int×Rat),l[i]? = some r→∃A0 c0 f A1 m1 c1 A2 m2 c2,gB N H [.slice A0 r.1.length c0,.int .i64 r.2.1,.bool f,.slice A1 m1 c1,.slice A2 m2 c2] r∧∀(j:Nat)(u:Value),[.slice A0 r.1.length c0,.int .i64 r.2.1,.bool f,.slice A1 m1 c1,.slice A2 m2 c2][j]? = some u→xs[i*5+j]? = some u:=by
 obtain⟨A,c,xs,h1,_,h3,h4⟩:=h
 refine⟨A,c,xs,h1,h3,fun i r hr=> ?_⟩
 obtain⟨vs,_,h5,h6⟩:=h4.get hr
 obtain⟨A0,c0,k,f,A1,m1,c1,A2,m2,c2,rfl,rfl⟩:=h5.cells
 exact⟨A0,c0,f,A1,m1,c1,A2,m2,c2,h5,h6⟩
theorem gB.bound{N:Nat}{H:Heap}{r:List Rat×Int×Rat}{v0:Value}{f:Bool}{u w:Value}(h:gB N H [v0,.int .i64 r.2.1,.bool f,u,w] r):cW H (.agg #[.bool f,u,w]) r.2.2 N:=by
 obtain⟨c,f',u',w',h1,_,h3⟩:=h
 simp only[List.cons.injEq,Value.bool.injEq,and_true,true_and]at h1
 obtain⟨rfl,rfl,rfl,rfl⟩:=h1
 exact h3
end Go.aq
namespace Go.aq
def aC(v:Value):List Nat:=match v.ownBlock with | some q=>[q] | none=>[]
theorem dh{v:Value}{q:Nat}:q∈aC v↔v.ownBlock=some q:=by
 unfold aC
 cases h:v.ownBlock with
 | none=>simp
 | some q'=>simp;exact eq_comm
theorem ahl{H H':Heap}{gs:List Nat}{v:Value}{e sz n:Nat}{xs:List Value}(h:Kept (aC v++gs) H H')(ho:bW (rem H gs) v e sz n xs):bW (rem H' gs) v e sz n xs∧Heap.le (rem H gs) (rem H' gs)∧∀q,q∈gs→H' q=H q:=by
 have hs:∀q,q∈aC v++gs→H' q=H q:=h.same
 have hv:=ho.lift.2
 refine⟨ho.same fun q hq=> ?_,fun q en hq=> ?_,fun q hq=>hs q (List.mem_append_right _ hq)⟩
 ·have:¬q∈gs:=fun hm=>hv q hm hq
  rw[bM this,bM this,hs q (List.mem_append_left _ (dh.2 hq))]
 ·by_cases hb:q∈aC v
  ·by_cases hm:q∈gs
   ·rw[rem_in hm]at hq;cases hq
   ·rw[bM hm]at hq
    exact⟨en,by rw[bM hm,hs q (List.mem_append_left _ hb)];exact hq,.refl en⟩
  ·by_cases hm:q∈gs
   ·rw[rem_in hm]at hq;cases hq
   ·have hn:¬q∈aC v++gs:=fun h=>by
     rcases List.mem_append.1 h with h | h
     ·exact hb h
     ·exact hm h
    obtain⟨e',h1,h2⟩:=h.le q en (by rw[bM hn];rwa [bM hm]at hq)
    exact⟨e',by rw[bM hm];rwa [bM hn]at h1,h2⟩
theorem ahm{H:Heap}{gs:List Nat}{v:Value}{e sz n:Nat}{xs:List Value}(bA:∀q,q∈gs→H q≠none)(ho:bW (rem H gs) v e sz n xs):∀q,q∈aC v++gs→H q≠none:=fun q hq=>by
 rcases List.mem_append.1 hq with h | h
 ·obtain⟨en,he⟩:=ho.lift.1.block (dh.1 h)
  rw[he];simp
 ·exact bA q h
theorem P9{K:Heap}{v:Value}{e sz n:Nat}{xs:List Value}(h:bW K v e sz n xs)(hn:0<n):∃q c,v = .slice (some ⟨q,0,none⟩) n c∧K q=some ⟨xs,c*sz,e,true⟩:=by
 rcases h.2 with ⟨_,h2⟩ | ⟨g,cap,h1,h2,_⟩
 ·omega
 ·exact⟨g,cap,h1,h2⟩
theorem ahn{H H':Heap}{gs b:List Nat}(h:Heap.le H (rem H' gs))(hb:∀q,q∈b→H q=none):Heap.le H (rem H' (b++gs)):=fun q e hq=>by
 obtain⟨e',h1,h2⟩:=h q e hq
 have hm:¬q∈gs:=fun hm=>by rw[rem_in hm]at h1;cases h1
 refine⟨e',?_,h2⟩
 rw[bM (fun h3=>by
  rcases List.mem_append.1 h3 with h3 | h3
  ·rw[hb q h3]at hq;cases hq
  ·exact hm h3)]
 rwa [bM hm]at h1
theorem le_none{H K:Heap}(h:Heap.le H K){q:Nat}(hq:K q=none):H q=none:=by
 cases hh:H q with
 | none=>rfl
 | some e=>(obtain⟨e',h1,_⟩:=h q e hh;rw[hq]at h1;cases h1)
theorem l8.aC{K0 K H:Heap}{kX v:Value}{e sz n:Nat}{xs:List Value}(h:l8 K0 kX e sz n xs v K)(hl:Heap.le H K0)(hb:∀q,q∈aq.aC kX→H q=none):∀q,q∈aq.aC v→H q=none:=fun q hq=>by
 rcases h.new q (dh.1 hq)with h1 | h1
 ·exact hb q (dh.2 h1)
 ·exact le_none hl h1
end Go.aq
namespace Go.aq
open Go.Proofs Num Lp
def fw(rg:List (Nat×Nat))(bv:Value)(gk g:Nat):List Nat:=rg.map (·.1)++(aC bv ++ [gk,g])
def nu(rg:List (Nat×Nat))(gk g:Nat):List Nat:=rg.map (·.1) ++ [gk,g]
def nv(rv:Value)(rg:List (Nat×Nat))(bv:Value)(gk:Nat):List Nat:=aC rv++(rg.map (·.1)++(aC bv ++ [gk]))
def Qa(w:Nat)(p:Nat×Nat):Value:= .slice (some ⟨p.1,0,none⟩) (w+1) p.2
theorem fW{rg:List (Nat×Nat)}{bv:Value}{gk g q:Nat}:q∈fw rg bv gk g↔q∈rg.map (·.1)∨q∈aC bv∨q=gk∨q=g:=by
 unfold fw;simp only[List.mem_append,List.mem_cons,List.not_mem_nil,or_false]
theorem qR{rg:List (Nat×Nat)}{gk g q:Nat}:q∈nu rg gk g↔q∈rg.map (·.1)∨q=gk∨q=g:=by
 unfold nu;simp only[List.mem_append,List.mem_cons,List.not_mem_nil,or_false]
theorem ux{rg:List (Nat×Nat)}{rv bv:Value}{gk q:Nat}:q∈nv rv rg bv gk↔q∈aC rv∨q∈rg.map (·.1)∨q∈aC bv∨q=gk:=by
 unfold nv;simp only[List.mem_append,List.mem_cons,List.not_mem_nil,or_false]
structure jv(K:Heap)(g gk w:Nat)(A:Nat→Nat→Rat)(unit:Nat→Nat)(H:Heap)(rv:Value)(k:Nat)(hd:List Value)(bv:Value)(kb:Nat)(rg:List (Nat×Nat)):Prop where
 ne:∀q,q∈fw rg bv gk g→H q≠none
 nd:(fw rg bv gk g).Nodup
 le:Heap.le K (rem H (fw rg bv gk g))
 zp:bW (rem H (fw rg bv gk g)) rv 117 1 k hd
 LB:∀q,q∈aC rv→K q=none
 Ht:bW H bv 3 1 kb (ints (fun j=>(unit j:Int)) kb)
 row:∀(j:Nat)(p:Nat×Nat),rg[j]? = some p→lC (rem H (fw rg bv gk g)) H p.1 (aK (A j) (w+1))
section
variable {K:Heap} {g gk w:Nat} {A:Nat→Nat→Rat} {unit:Nat→Nat} {H H2:Heap} {rv:Value} {k:Nat} {hd:List Value} {bv:Value} {kb:Nat} {rg:List (Nat×Nat)}
theorem jv.Hu(h:jv K g gk w A unit H rv k hd bv kb rg):∀q,q∈aC rv→¬q∈fw rg bv gk g∧H q≠none:=fun q hq=>by
 have h1:=h.zp.lift
 refine⟨fun hm=>h1.2 q hm (dh.1 hq),?_⟩
 obtain⟨e,he⟩:=h1.1.block (dh.1 hq)
 rw[he];simp
theorem jv.neR(h:jv K g gk w A unit H rv k hd bv kb rg):∀q,q∈nv rv rg bv gk→H q≠none:=fun q hq=>by
 rcases ux.1 hq with h1 | h1 | h1 | h1
 ·exact(h.Hu q h1).2
 ·exact h.ne q (fW.2 (.inl h1))
 ·exact h.ne q (fW.2 (.inr (.inl h1)))
 ·exact h.ne q (fW.2 (.inr (.inr (.inl h1))))
theorem Hv{rg:List (Nat×Nat)}{bv:Value}{gk g:Nat}(h:(fw rg bv gk g).Nodup):¬g∈rg.map (·.1)∧¬g∈aC bv∧gk≠g∧(∀q,q∈aC bv→¬q∈rg.map (·.1)∧q≠gk)∧¬gk∈rg.map (·.1):=by
 unfold fw at h
 rw[List.nodup_append,List.nodup_append]at h
 obtain⟨_,⟨_,h2,h3⟩,h4⟩:=h
 have h5:gk≠g:=by
  rw[List.nodup_cons]at h2
  exact fun e=>h2.1 (by rw[e];exact List.mem_singleton.2 rfl)
 refine⟨fun hm=>h4 g hm g (by simp) rfl,fun hm=>h3 g hm g (by simp) rfl,h5,fun q hq=>⟨fun hm=>h4 q hm q (List.mem_append_left _ hq) rfl,fun e=>h3 q hq gk (by simp) e⟩,fun hm=>h4 gk hm gk (by simp) rfl⟩
theorem jv.gR(h:jv K g gk w A unit H rv k hd bv kb rg):¬g∈nv rv rg bv gk:=fun hm=>by
 obtain⟨n1,n2,n3,_⟩:=Hv h.nd
 rcases ux.1 hm with h1 | h1 | h1 | h1
 ·exact(h.Hu g h1).1 (fW.2 (.inr (.inr (.inr rfl))))
 ·exact n1 h1
 ·exact n2 h1
 ·exact n3 h1.symm
theorem jv.aho(h:jv K g gk w A unit H rv k hd bv kb rg){z c:Nat}{xs:List Value}{sz:Nat}(hs:∀q,q∈nv rv rg bv gk→H2 q=H q)(kH:ft [g] (rem H (nv rv rg bv gk)) (rem H2 (nv rv rg bv gk)) z xs sz 121)
  (iE:bG (bQ (rem (rem H2 (nv rv rg bv gk)) (z :: [g]))) 3 xs (aK (A rg.length) (w+1))):jv K g gk w A unit H2 rv k hd bv kb (rg ++ [(z,c)])∧H2 g=H g∧H2 gk=H gk:=by
 have Yf:=h.gR
 have eu:H2 g=H g:=by
  have:=kH.same g (List.mem_singleton.2 rfl)
  rwa [bM Yf,bM Yf]at this
 have Yg:H2 gk=H gk:=hs gk (ux.2 (.inr (.inr (.inr rfl))))
 have Yh:¬z∈nv rv rg bv gk:=fun hm=>by have:=kH.aC;rw[rem_in hm]at this;cases this
 have pI:H2 z=some ⟨xs,sz,121,true⟩:=by have:=kH.aC;rwa [bM Yh]at this
 have jh:H z=none:=by have:=kH.zn;rwa [bM Yh]at this
 have nS:z≠g:=fun e=>kH.zg (List.mem_singleton.2 e)
 have Yi:¬z∈fw rg bv gk g:=fun hm=>h.ne z hm jh
 have ot:∀q,q∈fw (rg ++ [(z,c)]) bv gk g↔q=z∨q∈fw rg bv gk g:=fun q=>by
  rw[fW,fW,List.map_append,List.mem_append]
  simp only[List.map_cons,List.map_nil,List.mem_singleton]
  constructor
  ·rintro((h | h) | h | h | h)
   ·exact .inr (.inl h)
   ·exact .inl h
   ·exact .inr (.inr (.inl h))
   ·exact .inr (.inr (.inr (.inl h)))
   ·exact .inr (.inr (.inr (.inr h)))
  ·rintro(h | h | h | h | h)
   ·exact .inl (.inr h)
   ·exact .inl (.inl h)
   ·exact .inr (.inl h)
   ·exact .inr (.inr (.inl h))
   ·exact .inr (.inr (.inr h))
 have Qb:∀q,q∈fw rg bv gk g→H2 q=H q:=fun q hq=>by
  rcases fW.1 hq with h1 | h1 | h1 | h1
  ·exact hs q (ux.2 (.inr (.inl h1)))
  ·exact hs q (ux.2 (.inr (.inr (.inl h1))))
  ·rw[h1];exact Yg
  ·rw[h1];exact eu
 have lg:∀q,q∈aC rv→H2 q=H q:=fun q hq=>hs q (ux.2 (.inl hq))
 have hle:Heap.le (rem H (fw rg bv gk g)) (rem H2 (fw (rg ++ [(z,c)]) bv gk g)):=fun q e hq=>by
  have hm:¬q∈fw rg bv gk g:=fun hm=>by rw[rem_in hm]at hq;cases hq
  rw[bM hm]at hq
  have LC:q≠z:=fun e'=>by rw[e',jh]at hq;cases hq
  have kD:¬q∈fw (rg ++ [(z,c)]) bv gk g:=fun kD=>by
   rcases(ot q).1 kD with h1 | h1
   ·exact LC h1
   ·exact hm h1
  by_cases hb:q∈aC rv
  ·exact⟨e,by rw[bM kD,lg q hb];exact hq,.refl e⟩
  ·have hR:¬q∈nv rv rg bv gk:=fun hR=>by
    rcases ux.1 hR with h1 | h1 | h1 | h1
    ·exact hb h1
    ·exact hm (fW.2 (.inl h1))
    ·exact hm (fW.2 (.inr (.inl h1)))
    ·exact hm (fW.2 (.inr (.inr (.inl h1))))
   have FZ:q≠g:=fun e'=>hm (fW.2 (.inr (.inr (.inr e'))))
   obtain⟨e',h1,h2⟩:=kH.le q e (by rw[bM (fun h'=>FZ (List.mem_singleton.1 h')),bM hR];exact hq)
   have ahp:¬q∈z :: [g]:=fun h'=>by
    rcases List.mem_cons.1 h' with h' | h'
    ·exact LC h'
    ·exact FZ (List.mem_singleton.1 h')
   rw[bM ahp,bM hR]at h1
   exact⟨e',by rw[bM kD];exact h1,h2⟩
 have ahq:Heap.le (rem (rem H2 (nv rv rg bv gk)) (z :: [g])) (rem H2 (fw (rg ++ [(z,c)]) bv gk g)):=fun q e hq=>by
  have h1:¬q∈z :: [g]:=fun h'=>by rw[rem_in h']at hq;cases hq
  rw[bM h1]at hq
  have h2:¬q∈nv rv rg bv gk:=fun h'=>by rw[rem_in h']at hq;cases hq
  rw[bM h2]at hq
  refine⟨e,?_,.refl e⟩
  rw[bM]
  ·exact hq
  ·intro h3
   rcases(ot q).1 h3 with h4 | h4
   ·exact h1 (by rw[h4];exact List.mem_cons_self ..)
   ·rcases fW.1 h4 with h5 | h5 | h5 | h5
    ·exact h2 (ux.2 (.inr (.inl h5)))
    ·exact h2 (ux.2 (.inr (.inr (.inl h5))))
    ·exact h2 (ux.2 (.inr (.inr (.inr h5))))
    ·exact h1 (by rw[h5];exact List.mem_cons_of_mem _ (List.mem_singleton.2 rfl))
 refine⟨⟨fun q hq=> ?_,?_,h.le.trans hle,h.zp.same fun q hq=> ?_,h.LB,h.Ht.same fun q hq=>Qb q (fW.2 (.inr (.inl (dh.2 hq)))),fun j p hp=> ?_⟩,eu,Yg⟩
 ·rcases(ot q).1 hq with h1 | h1
  ·rw[h1,pI];simp
  ·rw[Qb q h1];exact h.ne q h1
 ·have dW:=h.nd
  unfold fw at dW⊢
  rw[List.map_append,List.append_assoc,List.nodup_append]at *
  refine⟨dW.1,?_,fun a ha b hb=> ?_⟩
  ·simp only[List.map_cons,List.map_nil,List.singleton_append,List.nodup_cons]
   exact⟨fun hm=>Yi (by unfold fw;exact List.mem_append_right _ hm),dW.2.1⟩
  ·simp only[List.map_cons,List.map_nil,List.singleton_append,List.mem_cons]at hb
   rcases hb with hb | hb
   ·intro e
    exact Yi (by unfold fw;rw[←hb,←e];exact List.mem_append_left _ ha)
   ·exact dW.2.2 a ha b (by simpa using hb)
 ·have h1:=h.Hu q (dh.2 hq)
  have LC:q≠z:=fun e=>h1.2 (by rw[e];exact jh)
  rw[bM h1.1,bM (fun h2=>by
   rcases(ot q).1 h2 with h3 | h3
   ·exact LC h3
   ·exact h1.1 h3),lg q (dh.2 hq)]
 ·by_cases hj:j<rg.length
  ·rw[List.getElem?_append_left hj]at hp
   exact(h.row j p hp).le hle (Qb _ (fW.2 (.inl (List.mem_map.2 ⟨p,List.mem_of_getElem? hp,rfl⟩))))
  ·rw[List.getElem?_append_right (by omega)]at hp
   have hj0:j-rg.length=0:=by
    have:=(List.getElem?_eq_some_iff.1 hp).1
    simp at this;omega
   rw[hj0]at hp
   simp only[List.getElem?_cons_zero,Option.some.injEq]at hp
   subst hp
   have:j=rg.length:=by omega
   rw[this]
   exact⟨xs,sz,pI,iE.mono fun vs a=>jg _ _ vs a ahq⟩
theorem jv.ahr(h:jv K g gk w A unit H rv k hd bv kb rg){Hw:Value}{k':Nat}{mQ:List Value}(hG:l8 (rem H (fw rg bv gk g)) rv 117 1 k' mQ Hw (rem H2 (fw rg bv gk g)))(hs:∀q,q∈fw rg bv gk g→q≠g→H2 q=H q)(hg:H2 g≠none):jv K g gk w A unit H2 Hw k' mQ bv kb rg:=by
 obtain⟨n1,n2,n3,n4,n5⟩:=Hv h.nd
 refine⟨fun q hq=> ?_,h.nd,h.le.trans hG.le,hG.own,hG.aC h.le h.LB,h.Ht.same fun q hq=> ?_,fun j p hp=> ?_⟩
 ·by_cases e:q=g
  ·rw[e];exact hg
  ·rw[hs q hq e];exact h.ne q hq
 ·have:=dh.2 hq
  exact hs q (fW.2 (.inr (.inl this))) (fun e=>n2 (by rw[←e];exact this))
 ·have hm:p.1∈rg.map (·.1):=List.mem_map.2 ⟨p,List.mem_of_getElem? hp,rfl⟩
  exact(h.row j p hp).le hG.le (hs _ (fW.2 (.inl hm)) (fun e=>n1 (by rw[←e];exact hm)))
theorem jv.ahs(h:jv K g gk w A unit H rv k hd bv kb rg){Hz:Value}(hG:l8 (rem H (nu rg gk g)) bv 3 1 (kb+1) (ints (fun j=>(unit j:Int)) (kb+1)) Hz (rem H2 (nu rg gk g)))(hs:∀q,q∈nu rg gk g→q≠g→H2 q=H q)(hg:H2 g≠none):jv K g gk w A unit H2 rv k hd Hz (kb+1) rg:=by
 obtain⟨n1,n2,n3,n4,n5⟩:=Hv h.nd
 have Qd:∀q,q∈nu rg gk g→q∈fw rg bv gk g:=fun q hq=>by
  rcases qR.1 hq with h1 | h1 | h1
  ·exact fW.2 (.inl h1)
  ·exact fW.2 (.inr (.inr (.inl h1)))
  ·exact fW.2 (.inr (.inr (.inr h1)))
 have Yj:∀q,q∈nu rg gk g→H2 q≠none:=fun q hq=>by
  by_cases e:q=g
  ·rw[e];exact hg
  ·rw[hs q hq e];exact h.ne q (Qd q hq)
 have tq:=hG.own.lift
 have Qe:∀q,q∈aC Hz→¬q∈nu rg gk g:=fun q hq hm=>tq.2 q hm (dh.1 hq)
 have LD:∀q,q∈aC Hz→q∈aC bv∨H q=none:=fun q hq=>by
  rcases hG.new q (dh.1 hq)with h1 | h1
  ·exact .inl (dh.2 h1)
  ·exact .inr (by rwa [bM (Qe q hq)]at h1)
 have hle:Heap.le (rem H (fw rg bv gk g)) (rem H2 (fw rg Hz gk g)):=fun q e hq=>by
  have hm:¬q∈fw rg bv gk g:=fun hm=>by rw[rem_in hm]at hq;cases hq
  rw[bM hm]at hq
  have hJ:¬q∈nu rg gk g:=fun h1=>hm (Qd q h1)
  obtain⟨e',h1,h2⟩:=hG.le q e (by rw[bM hJ];exact hq)
  rw[bM hJ]at h1
  refine⟨e',?_,h2⟩
  rw[bM]
  ·exact h1
  ·intro h3
   rcases fW.1 h3 with h4 | h4 | h4
   ·exact hm (fW.2 (.inl h4))
   ·rcases LD q h4 with h5 | h5
    ·exact hm (fW.2 (.inr (.inl h5)))
    ·rw[h5]at hq;cases hq
   ·exact hm (fW.2 (.inr (.inr h4)))
 have aht:bW (rem H (nu rg gk g)) rv 117 1 k hd:=h.zp.same fun q hq=>by
  have h1:=(h.Hu q (dh.2 hq)).1
  rw[bM h1,bM (fun h2=>h1 (Qd q h2))]
 have vQ:BO bv rv:=fun q h1 h2=>(h.Hu q (dh.2 h2)).1 (fW.2 (.inr (.inl (dh.2 h1))))
 obtain⟨DY,Qf⟩:=hG.keep _ _ _ _ _ aht vQ
 refine⟨fun q hq=> ?_,?_,h.le.trans hle,DY.same fun q hq=> ?_,h.LB,tq.1,fun j p hp=> ?_⟩
 ·rcases fW.1 hq with h1 | h1 | h1
  ·exact Yj q (qR.2 (.inl h1))
  ·obtain⟨e,he⟩:=tq.1.block (dh.1 h1)
   rw[he];simp
  ·exact Yj q (qR.2 (.inr h1))
 ·have dW:=h.nd
  unfold fw at dW⊢
  rw[List.nodup_append,List.nodup_append]at *
  refine⟨dW.1,⟨?_,dW.2.1.2.1,fun a ha b hb e=> ?_⟩,fun a ha b hb e=> ?_⟩
  ·unfold aC;split <;> simp
  ·refine Qe a ha (qR.2 (.inr ?_))
   rw[e];simpa using hb
  ·rcases List.mem_append.1 hb with h1 | h1
   ·exact Qe b h1 (qR.2 (.inl (by rw[←e];exact ha)))
   ·exact dW.2.2 a ha b (List.mem_append_right _ h1) e
 ·have h1:¬q∈nu rg gk g:=fun h1=>DY.lift.2 q h1 hq
  rw[bM h1,bM]
  intro h2
  rcases fW.1 h2 with h3 | h3 | h3
  ·exact h1 (qR.2 (.inl h3))
  ·exact Qf q (dh.1 h3) hq
  ·exact h1 (qR.2 (.inr h3))
 ·have hm:p.1∈rg.map (·.1):=List.mem_map.2 ⟨p,List.mem_of_getElem? hp,rfl⟩
  exact(h.row j p hp).le hle (hs _ (qR.2 (.inl hm)) (fun e=>n1 (by rw[←e];exact hm)))
theorem jv.Yk(h:jv K g gk w A unit H rv k hd bv kb rg):bW (rem H (nu rg gk g)) bv 3 1 kb (ints (fun j=>(unit j:Int)) kb):=by
 obtain⟨n1,n2,n3,n4,n5⟩:=Hv h.nd
 refine h.Ht.same fun q hq=> ?_
 have hb:=dh.2 hq
 rw[bM]
 intro h1
 rcases qR.1 h1 with h2 | h2 | h2
 ·exact(n4 q hb).1 h2
 ·exact(n4 q hb).2 h2
 ·exact n2 (by rw[←h2];exact hb)
theorem jv.leR(h:jv K g gk w A unit H rv k hd bv kb rg):Heap.le K (rem (rem H (nv rv rg bv gk)) [g]):=fun q e hq=>by
 obtain⟨e',h1,h2⟩:=h.le q e hq
 have hm:¬q∈fw rg bv gk g:=fun hm=>by rw[rem_in hm]at h1;cases h1
 rw[bM hm]at h1
 refine⟨e',?_,h2⟩
 rw[bM (fun h3=>hm (fW.2 (.inr (.inr (.inr (List.mem_singleton.1 h3)))))),bM]
 ·exact h1
 ·intro h3
  rcases ux.1 h3 with h4 | h4 | h4 | h4
  ·rw[h.LB q h4]at hq;cases hq
  ·exact hm (fW.2 (.inl h4))
  ·exact hm (fW.2 (.inr (.inl h4)))
  ·exact hm (fW.2 (.inr (.inr (.inl h4))))
end
end Go.aq
namespace Go.aq
open Go.Proofs Num Lp
section
variable (p:Prg)
theorem zq{j:Nat}(h:j<p.lp.n):p.lay.pF j=a7 p.lp.free j:=by
 simp[TL.pF,Prg.lay,List.getD,h]
theorem HA{j:Nat}(h:j<p.lp.n):p.lay.mZ j=nr p.lp.free j:=by
 simp[TL.mZ,Prg.lay,List.getD,h]
theorem mI:p.c1≤p.u:=(sT p.lp.rel p.c1 p.lp.m).2
theorem fy:p.u≤p.w:=(qQ p.lp.rel p.aH p.u p.lp.m).2
theorem HB{j:Nat}(h:j<p.lp.n):a7 p.lp.free j<p.c1:=by
 have:=BM (fr:=p.lp.free) h
 have e:p.c1=a7 p.lp.free p.lp.n:=rfl
 omega
theorem HC{j:Nat}(h:j<p.lp.n):nr p.lp.free j<p.c1:=by
 have:=BM (fr:=p.lp.free) h
 have e:p.c1=a7 p.lp.free p.lp.n:=rfl
 unfold nr
 by_cases hf:p.lp.free j
 ·rw[if_pos hf]at this⊢;omega
 ·rw[if_neg hf];omega
theorem Qg{i:Nat}(h:i<p.lp.m)(hr:p.lp.rel i≠2):(p.c1:Int)≤eW p.lp.rel p.c1 i∧eW p.lp.rel p.c1 i<p.u:=by
 have h1:=P4 (rel:=p.lp.rel) (c:=p.c1) h
 have h2:=(sT p.lp.rel p.c1 i).2
 rw[if_neg hr]at h1
 have e:p.u=bB p.lp.rel p.c1 p.lp.m:=rfl
 unfold eW
 rw[if_neg hr];omega
theorem nU{i:Nat}(h:i<p.lp.m):p.unit i<p.w:=by
 have h3:=fy p
 show qP _ _ _ _ _<_
 unfold qP
 by_cases ho:fa (p.lp.rel i) (p.aH i)=true
 ·rw[if_pos ho]
  have hr:p.lp.rel i≠2:=by
   unfold fa at ho
   rw[decide_eq_true_eq]at ho
   omega
  have:=Qg p h hr
  unfold eW at this
  rw[if_neg hr]at this
  omega
 ·rw[if_neg ho]
  have:=P5 (rel:=p.lp.rel) (sg:=p.aH) (u:=p.u) h
  rw[if_neg ho]at this
  have e:p.w=a8 p.lp.rel p.aH p.u p.lp.m:=rfl
  omega
theorem HD:p.w≤2*p.lp.n+2*p.lp.m:=by
 have h1:=(qQ p.lp.rel p.aH p.u p.lp.m).1
 have h2:=(sT p.lp.rel p.c1 p.lp.m).1
 have h3:=P3 p.lp.free p.lp.n
 have e1:p.w=a8 p.lp.rel p.aH p.u p.lp.m:=rfl
 have e2:p.u=bB p.lp.rel p.c1 p.lp.m:=rfl
 have e3:p.c1=a7 p.lp.free p.lp.n:=rfl
 omega
theorem ahu{i:Nat}{r:List Rat×Int×Rat}(h:p.rows[i]? = some r):p.eh.A i=Lj p.lay p.lp.n (fn r.1) r.2.2 r.2.1 (eW p.lp.rel p.c1 i) (p.unit i) (p.aH i:Rat):=by
 show Lj p.lay p.lp.n (fn (p.row i).1) (p.row i).2.2 (p.row i).2.1 _ _ _=_
 rw[Prg.qF h]
end
theorem jv.tab{K H:Heap}{g gk:Nat}{p:Prg}{rv bv pv mv uv sv:Value}{rg:List (Nat×Nat)}(h:jv K g gk p.w p.eh.A p.unit H rv p.lp.m (rg.map (Qa p.w)) bv p.lp.m rg)(hl:rg.length=p.lp.m)
  (hg:H g=some ⟨[.int .i64 (p.w:Int),.int .i64 (p.u:Int),pv,mv,uv,sv,rv,.slice none 0 0,bv],9,127,true⟩) (sG:aN vI 1 K pv p.lay.plus) (vJ:aN ke 1 K mv p.lay.minus) (GR:aN vI 1 K uv p.lay.kf) (wH:aN bQ 3 K sv p.lay.jR):
  ∃G:TG,Value.pointer (some ⟨g,0,none⟩) = .pointer (some ⟨G.g,0,none⟩)∧dF H G p.lay p.eh∧G.cb = []∧Heap.le K (rem H G.gs):=by
 obtain⟨Ar,cr,rfl⟩:=h.zp.form
 obtain⟨n1,n2,n3,n4,n5⟩:=Hv h.nd
 have dW:=h.nd
 unfold fw at dW
 rw[List.nodup_append,List.nodup_append]at dW
 let G:TG:=⟨g,cr,Ar,pv,mv,uv,sv,.slice none 0 0,bv,rg,[],aC bv⟩
 have ot:∀q,q∈G.gs→q∈fw rg bv gk g:=fun q hq=>by
  rcases List.mem_cons.1 hq with h1 | h1
  ·exact fW.2 (.inr (.inr (.inr h1)))
  ·rcases List.mem_append.1 h1 with h2 | h2
   ·cases h2
   ·rcases List.mem_append.1 h2 with h3 | h3
    ·exact fW.2 (.inr (.inl h3))
    ·exact fW.2 (.inl h3)
 have hle:Heap.le (rem H (fw rg bv gk g)) (rem H G.gs):=fun q e hq=>by
  have hm:¬q∈fw rg bv gk g:=fun hm=>by rw[rem_in hm]at hq;cases hq
  rw[bM hm]at hq
  exact⟨e,by rw[bM (fun h'=>hm (ot q h'))];exact hq,.refl e⟩
 have hK:=h.le.trans hle
 refine⟨G,rfl,⟨rfl,fy p,hg,?_,hl,⟨_,h.zp.rd.le hle,fun i q hq=> ?_⟩,fun i q hq=>(h.row i q hq).le hle rfl,?_,sG.le mD hK,vJ.le lb hK,GR.le mD hK,wH.le jg hK,fun q hq=>by cases hq⟩,rfl,hK⟩
 ·show (g::([]++(aC bv++rg.map (·.1)))).Nodup
  rw[List.nil_append,List.nodup_cons,List.nodup_append]
  refine⟨fun hm=> ?_,dW.2.1.1,dW.1,fun a ha b hb e=>(n4 a ha).1 (by rw[e];exact hb)⟩
  rcases List.mem_append.1 hm with h1 | h1
  ·exact n2 h1
  ·exact n1 h1
 ·rw[List.getElem?_map,show rg[i]? = some q from hq];rfl
 ·rcases h.Ht.2 with ⟨h1,h2⟩ | ⟨gb,cb,h1,h2,_⟩
  ·refine .inl ⟨h2,?_,h1⟩
   show aC bv = []
   rw[h1];rfl
  ·refine .inr ⟨gb,cb,_,?_,h1,h2⟩
   show aC bv = [gb]
   rw[h1];rfl
theorem jv.new{H:Heap}{g gk w:Nat}{A:Nat→Nat→Rat}{unit:Nat→Nat}(bA:∀q,q∈[gk,g]→H q≠none)(h:gk≠g):jv (rem H [gk,g]) g gk w A unit H (.slice none 0 0) 0 [] (.slice none 0 0) 0 []:=
 ⟨bA,(by show [gk,g].Nodup;simp[h]),.refl _,lv _ _ _,(fun q hq=>by cases hq),lv _ _ _,(fun j p hp=>by simp at hp)⟩
theorem bW.nums{K K':Heap}{v:Value}{f:Nat→Rat}{k:Nat}{ys:List Value}(h:bW K v 121 3 k ys)(hy:∀K:Heap,bG (bQ K) 3 ys (aK f k))(hl:Heap.le K K'):aN bQ 3 K' v (aK f k):=by
 obtain⟨A,c,rfl⟩:=h.form
 refine⟨A,c,_,by rw[bh],?_,h.rd.le hl,hy _⟩
 rw[bh]
 rcases h.2 with ⟨k1,k2⟩ | ⟨g,cap,k1,_,k3,_⟩
 ·omega
 ·cases k1;exact k3
theorem Yl{s:Int}(h:s=1∨s = -1):aM (s:Rat)≤1:=by
 rcases h with h | h <;> subst h <;> decide
theorem BP(A:Option Addr)(k c:Nat):∀u,u∈[Value.slice A k c]→u.oneCell'=true:=fun u hu=>by rw[List.mem_singleton]at hu;rw[hu];rfl
end Go.aq
