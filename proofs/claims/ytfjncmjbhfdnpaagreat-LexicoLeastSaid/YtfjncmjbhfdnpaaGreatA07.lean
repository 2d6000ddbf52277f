/- Part 7 of the proof: Ref5, Ref6, Tab9, Nt, Nt2, Nt3. -/
import Derived.Test.YtfjncmjbhfdnpaaGreatA06
set_option linter.unusedVariables false
namespace Go.au
open Go.Proofs Num
theorem XT{x y:Nat}:(0<kF x y)↔y<x:=by
 unfold kF;split
 ·omega
 ·split <;> omega
theorem agM{x y:Nat}:(kF x y<0)↔x<y:=by
 unfold kF;split
 ·omega
 ·split <;> omega
theorem Ho{x y:Nat}:(0≤kF x y)↔y≤x:=by
 unfold kF;split
 ·omega
 ·split <;> omega
theorem XU{l:List Nat}{k d:Nat}(h:l[k]? = some d):val (l.drop k)=d+B*val (l.drop (k+1)):=by
 obtain⟨hk,e⟩:=List.getElem?_eq_some_iff.1 h
 rw[List.drop_eq_getElem_cons hk,e,jv]
theorem agN{a:Nat}{l:List Nat}(ha:a<B)(h:Lt l):Lt (a::l):=fun z hz=>by
 rcases List.mem_cons.1 hz with rfl | hz
 ·exact ha
 ·exact h z hz
theorem kQ.agO{H:Heap}{v:Value}{l:List Nat}(h:bW H v 121 1 l.length (U l)):jx H v l:=kQ.lim h
theorem Hp{H:Heap}{u v:Value}{x y:Nat}(hx:de H u x)(hy:de H v y)(jt:0<y)(hm:((an x).length:Int)<4398046511104)(bH:((an y).length:Int)<4398046511104):
 Fn Tryz.prog 150 #[u,v] H (V2 H x y):=by
 have je:=hx
 have tn:=hy
 obtain⟨A,c,rfl,hc,hr⟩:=hx
 obtain⟨A',c',rfl,jH,dQ⟩:=hy
 have jy:=(fP x).lt
 have eo:=(fP y).lt
 have aeO:(an y).length≠0:=fun e=>O6 jt (List.eq_nil_of_length_eq_zero e);refine a7 (args:=[_,_]) Tryz.func150 rfl rfl Tryz.ntmps150 rfl rfl fun w0=> ?_;refine aj [0,1] rfl ?_;refine ag (ab 2 rfl (ae [0,1] ?_));refine ao (ag (ab 2 rfl (aE rfl rfl (LM je tn (by omega)) ?_)));rintro v1 H1 ⟨e1,rfl⟩;rw[e1];refine ab 1 rfl (ae [0,1,15] ?_);refine aC rfl (fun hb=> ?_) (fun hb=> ?_)
 ·
  have qy:x<y:=agM.1 (by simpa using hb);refine ag (ab 1 rfl (aE rfl rfl (BJ je jy (by omega)) ?_));rintro v1 H1 hp;rw[cR]at hp;refine ab 2 rfl (ae [4,5] ?_);refine aD ⟨.inr rfl,_,.tmp rfl (.tmp rfl (.nil)),?_⟩;exact⟨hp.le,_,_,rfl,by rw[Nat.div_eq_of_lt qy];exact wq _,by rw[Nat.mod_eq_of_lt qy];exact hp.nat⟩
 ·
  have qy:y≤x:=Ho.1 (by simpa using hb);refine aA (aj [0,1] rfl ?_);refine ao (ag (ab 3 rfl (ae [0,1,20] ?_)));refine aC rfl (fun hb=> ?_) (fun hb=> ?_)
  ·
   have hb:(an y).length=1:=by simp at hb;omega
   have Eg:(an y)[0]? = some y:=by
    obtain⟨z,hz⟩:=List.length_eq_one_iff.1 hb;have:=cR y;rw[hz]at this⊢
    simp[val]at this
    simp[this]
   have Gf:=eo.get Eg;rw[cj]at Gf;refine ag (ab 2 rfl (aQ ah rfl rfl rfl rfl rfl (dQ) (dr Eg) (by omega) (by omega) fun _=>(dd ah rfl rfl rfl ⟨by omega,by omega⟩ (aE rfl rfl (agG je jy Gf jt (by omega)) ?_))));rintro v1 H2 ⟨hle,q,rfl,hq⟩;refine vr 1 ?_;rw[cR]at hq⊢;refine ab 4 rfl (ae [6,7] ?_);refine ag (ab 2 rfl (aE rfl rfl (Hm (x:=x%y) (by have:=Nat.mod_lt x jt;omega)) ?_));intro v1 H3 hp;refine ab 2 rfl (ae [4,5] ?_);refine aD ⟨.inr rfl,_,.tmp rfl (.tmp rfl (.nil)),?_⟩;exact⟨hle.trans hp.le,_,_,rfl,hq.le hp.le,hp.nat⟩
  have hb:(an y).length≠1:=by simp at hb;omega
  have gN:2≤(an y).length:=by omega
  refine aA (aj [0,1] rfl ?_);refine ag (ab 2 rfl (gF Tryz.underlying29 eD rfl rfl rfl (by omega) (by omega) (by omega) (by omega) ?_));intro g hg;rw[show (((an x).length:Int)).toNat=(an x).length from by omega,yK];refine ab 1 rfl (ae [0,1,8] ?_);refine ag (ab 1 rfl (ae [0,1,8,9] ?_));refine ao (ag (ab 2 rfl (cV rfl rfl ⟨by omega,by omega⟩ (ab 1 rfl (ae [0,1,8,9,10] ?_)))));refine aF (oD (fun(k:Nat)(rv:Value)(r:Nat)(l:List Nat)=>k) (fun(k:Nat)(rv:Value)(r:Nat)(l:List Nat)=>put (put (put (put (put (emp) 0 (.val (.slice A (an x).length c))) 1 (.val (.slice A' (an y).length c'))) 8 (.val (.slice (some ⟨g,0,none⟩) (an x).length (an x).length))) 9 (.val (rv))) 10 (.val (.int .i64 ((k:Int)-1)))) (fun(k:Nat)(rv:Value)(r:Nat)(l:List Nat) H'=>Heap.le H (rem H' [g])∧H' g=some (dE l (an x).length)∧l.length=(an x).length∧Lt l∧k≤(an x).length∧r<y∧de (rem H' [g]) rv r∧val ((an x).drop k)=val (l.drop k)*y+r) (an x).length (.slice none 0 0) 0 _ (⟨by rw[rN _ hg,tt];exact .refl _,bD _ _ _,by simp,Lt.replicate _,Nat.le_refl _,jt,wq _,by simp[val]⟩) ar ?_);rintro k rv r l H1 ⟨hle,Gb,uT,bI,hk,QD,l5,hv⟩
  obtain⟨Ar,cr,rfl,jL,nA⟩:=id l5;have amL:=my (Nat.le_of_lt QD);have pb:=hle.trans (bE H1 [g]);refine ao (ag (ab 2 rfl (ae [0,1,8,9,10,40] ?_)));refine aC rfl (fun hb=> ?_) (fun hb=> ?_)
  ·
   have hb:0<k:=by simp at hb;omega
   obtain⟨ai,LR⟩:∃d,(an x)[k-1]? = some d:=⟨_,List.getElem?_eq_getElem (by omega)⟩;have XV:=jy.get LR;rw[cj]at XV
   have XW:(((k:Int)-1)).toNat=k-1:=by omega
   refine aA (aj [0,1,8,9,10] rfl ?_);refine ao (aF (ag (ab 2 rfl (aQ ah rfl rfl rfl rfl rfl (hr.le pb) (by rw[XW];exact dr LR) (by omega) (by omega) fun _=> ?_))));refine cW Tryz.underlying29 eD rfl rfl rfl rfl rfl rfl rfl ?_;intro gb bx
   have QE:gb≠g:=fun e=>by subst e;rw[Gb]at bx;cases bx
   refine ab 1 rfl (dR Tryz.underlying29 eD rfl rfl ((⟨rfl,.inr ⟨gb,1,rfl,bD _ _ _,Nat.le_refl _,by decide⟩⟩:bW _ _ 121 1 1 (U [ai]))) ((nA.le (bE _ _)).le (Heap.bB _ bx)) (by rw[AL,Nat.mul_one]) (oH _) (by omega) (by omega) ?_);intro v1 H2 ha;have s7:=ha.rem (gs:=[g]) (fun q hq=>by simp only[List.mem_singleton]at hq;subst hq;rw[a6 _ _ (Ne.symm QE),Gb];simp) (fun q hq=>by simp only[List.mem_singleton]at hq;subst hq;intro e;cases e;exact QE rfl)
   have ed:H2 g=some (dE l (an x).length):=by rw[s7.2 g (List.mem_singleton.2 rfl),a6 _ _ (Ne.symm QE),Gb]
   have eW:Heap.le (rem H1 [g]) (rem H2 [g]):=(qB [g] (Heap.bB _ bx)).trans s7.1.le;have agP:jx (rem H2 [g]) v1 (ai::an r):=kQ.agO (by have h0:=s7.1.own;rw[←Kw,Nat.add_comm]at h0;exact h0);refine aE rfl rfl (Fn.frame (gs:=[g]) (fun q hq=>by simp only[List.mem_singleton]at hq;subst hq;rw[ed];simp) (BJ agP (agN (by rw[cj];exact XV) (fP r).lt) (by rw[List.length_cons];omega))) ?_;rintro v2 H3 ⟨eE,LJ⟩;rw[jv,cR]at eE;obtain⟨r1,XX⟩:∃r1,r1=ai+B*r:=⟨_,rfl⟩;rw[←XX]at eE;have lS:=(LJ g (List.mem_singleton.2 rfl)).trans ed;have im:=eW.trans eE.le
   have LQ:r1<B*y:=by rw[XX,cj];omega
   have agQ:(an r1).length≤(an y).length+1:=jd.2 (by rw[Nat.pow_succ,Nat.mul_comm _ B];exact Nat.lt_trans LQ (Nat.mul_lt_mul_of_pos_left (Df y) nh));have BK:=(tn.le hle).le im;have jZ:=eE.nat;obtain⟨A3,c3,rfl,u0,qA⟩:=id jZ;refine ab 1 rfl (ae [0,1,8,9,10] ?_);refine ag (ab 2 rfl (aE rfl rfl (Fn.frame (gs:=[g]) (fun q hq=>by simp only[List.mem_singleton]at hq;subst hq;rw[lS];simp) (agI jZ BK gN agQ (by omega))) ?_));rintro v3 H4 ⟨⟨fG,d0,rfl,xt⟩,LI⟩;have BL:=(LI g (List.mem_singleton.2 rfl)).trans lS
   have kH:Heap.le (rem H1 [g]) (rem H4 [g]):=by rw[fG];exact im
   refine ab 1 rfl (ae [0,1,8,9,10,11] ?_);refine kE (fun(d:Nat)=>put (put (put (put (put (put (emp) 0 (.val (.slice A (an x).length c))) 1 (.val (.slice A' (an y).length c'))) 8 (.val (.slice (some ⟨g,0,none⟩) (an x).length (an x).length))) 9 (.val (.slice A3 (an r1).length c3))) 10 (.val (.int .i64 ((k:Int)-1)))) 11 (.val (.int .u64 (d:Int)))) (fun(d:Nat) H'=>Heap.le (rem H3 [g]) (rem H' [g])∧H' g=some (dE l (an x).length)∧d≤999999999∧y*d≤r1) ?_ ?_
   ·
    refine aF (gG (fun(d:Nat)=>d) (fun(d:Nat)=>put (put (put (put (put (put (emp) 0 (.val (.slice A (an x).length c))) 1 (.val (.slice A' (an y).length c'))) 8 (.val (.slice (some ⟨g,0,none⟩) (an x).length (an x).length))) 9 (.val (.slice A3 (an r1).length c3))) 10 (.val (.int .i64 ((k:Int)-1)))) 11 (.val (.int .u64 (d:Int)))) (fun(d:Nat) H'=>Heap.le (rem H3 [g]) (rem H' [g])∧H' g=some (dE l (an x).length)∧d≤999999999) d0 (⟨by rw[fG];exact .refl _,BL,xt⟩) ar ?_);rintro d H5 ⟨iO,vq,hd5⟩;have BM:=BK.le iO;have hn5:=jZ.le iO;refine ao ?_
    rcases Nat.eq_zero_or_pos d with xt | xt
    ·
     subst xt;refine ag (ab 1 rfl (aI false rfl rfl (jw (by omega)) (ab 9 rfl (ae [0,1,8,9,10,11,64] ?_))));refine dU rfl (aV ?_);exact⟨0,ar,iO,vq,by omega,by omega⟩
    have Qa:(an d).length≤3:=jd.2 (by rw[cj];omega);refine ag (ab 1 rfl (aI true rfl rfl (nn (by omega)) (ab 3 rfl (aE rfl rfl (Fn.frame (gs:=[g]) (fun q hq=>by simp only[List.mem_singleton]at hq;subst hq;rw[vq];simp) (Hm (x:=d) (by omega))) ?_))));rintro v4 Ha ⟨xz,QF⟩;have BN:=(QF g (List.mem_singleton.2 rfl)).trans vq;refine aE rfl rfl (Fn.frame (gs:=[g]) (fun q hq=>by simp only[List.mem_singleton]at hq;subst hq;rw[BN];simp) (xh (BM.le xz.le) xz.nat (by omega) (by omega))) ?_;rintro v5 Hb ⟨BO,QG⟩;have Hq:=(QG g (List.mem_singleton.2 rfl)).trans BN;have qq:=oO y d;refine ab 1 rfl (aE rfl rfl (Fn.frame (gs:=[g]) (fun q hq=>by simp only[List.mem_singleton]at hq;subst hq;rw[Hq];simp) (LM BO.nat ((hn5.le xz.le).le BO.le) (by omega))) ?_);rintro v6 Hc ⟨⟨QH,rfl⟩,AT⟩;have BP:=(AT g (List.mem_singleton.2 rfl)).trans Hq
    have XY:Heap.le (rem H3 [g]) (rem Hc [g]):=by rw[QH];exact(iO.trans xz.le).trans BO.le
    refine ab 2 rfl (ae [0,1,8,9,10,11,64] ?_);refine aC rfl (fun hb=> ?_) (fun hb=> ?_)
    ·
     have hb:r1<y*d:=XT.1 (by simpa using hb);refine aA (aj [0,1,8,9,10,11] rfl ?_);refine aF (aB rfl (ab 1 rfl (cV rfl rfl ⟨by omega,by omega⟩ (ab 1 rfl (aw ?_)))));exact⟨d-1,by omega,ar,XY,BP,by omega⟩
    have hb:y*d≤r1:=by
     have:¬0<kF (y*d) r1:=by simpa using hb
     rw[XT]at this;omega
    refine aV ?_;exact⟨d,ar,XY,BP,hd5,hb⟩
   rintro d H6 ⟨rU,nS,hd6,hyd⟩;have hy6:=BK.le rU;have hn6:=jZ.le rU;have Qa:(an d).length≤3:=jd.2 (by rw[cj];omega);refine ag (ab 3 rfl (aE rfl rfl (Fn.frame (gs:=[g]) (fun q hq=>by simp only[List.mem_singleton]at hq;subst hq;rw[nS];simp) (Hm (x:=d) (by omega))) ?_));rintro v4 Ha ⟨xz,QF⟩;have BN:=(QF g (List.mem_singleton.2 rfl)).trans nS;refine aE rfl rfl (Fn.frame (gs:=[g]) (fun q hq=>by simp only[List.mem_singleton]at hq;subst hq;rw[BN];simp) (xh (hy6.le xz.le) xz.nat (by omega) (by omega))) ?_;rintro v5 Hb ⟨BO,QG⟩;have Hq:=(QG g (List.mem_singleton.2 rfl)).trans BN;refine aE rfl rfl (Fn.frame (gs:=[g]) (fun q hq=>by simp only[List.mem_singleton]at hq;subst hq;rw[Hq];simp) (LO ((hn6.le xz.le).le BO.le) BO.nat hyd (by omega))) ?_;rintro v6 Hc ⟨XZ,AT⟩;have j9:=(AT g (List.mem_singleton.2 rfl)).trans Hq;have agR:=((rU.trans xz.le).trans BO.le).trans XZ.le;refine ab 1 rfl (ae [0,1,8,9,10,11] ?_);refine ao (aF (fZ (fun(d2:Nat)(Hr:Value)(r2:Nat)=>r2) (fun(d2:Nat)(Hr:Value)(r2:Nat)=>put (put (put (put (put (put (emp) 0 (.val (.slice A (an x).length c))) 1 (.val (.slice A' (an y).length c'))) 8 (.val (.slice (some ⟨g,0,none⟩) (an x).length (an x).length))) 9 (.val (Hr))) 10 (.val (.int .i64 ((k:Int)-1)))) 11 (.val (.int .u64 (d2:Int)))) (fun(d2:Nat)(Hr:Value)(r2:Nat) H'=>Heap.le (rem H3 [g]) (rem H' [g])∧H' g=some (dE l (an x).length)∧de (rem H' [g]) Hr r2∧r1=y*d2+r2) d _ (r1-y*d) (⟨agR,j9,XZ.nat,by omega⟩) ar ?_))
   rintro d2 Hr r2 zo ⟨qM,pe,Hs,he8⟩;obtain⟨A8,c8,rfl,QI,hr8⟩:=id Hs;have hy8:=BK.le qM;have zi:=my (show r2≤r1 by omega)
   have amM:d2<1000000000:=by
    false_or_by_contra
    have:y*1000000000≤y*d2:=Nat.mul_le_mul_left _ (by omega);rw[cj,Nat.mul_comm]at LQ;omega
   refine ao (ag (ab 2 rfl (aE rfl rfl (Fn.frame (gs:=[g]) (fun q hq=>by simp only[List.mem_singleton]at hq;subst hq;rw[pe];simp) (LM Hs hy8 (by omega))) ?_)));rintro v7 H9 ⟨⟨X0,rfl⟩,r7⟩;have tK:=(r7 g (List.mem_singleton.2 rfl)).trans pe
   have GR:Heap.le (rem H3 [g]) (rem H9 [g]):=by rw[X0];exact qM
   have Ht:de (rem H9 [g]) (.slice A8 (an r2).length c8) r2:=by rw[X0];exact Hs
   refine ab 1 rfl (ae [0,1,8,9,10,11,76] ?_);refine aC rfl (fun hb=> ?_) (fun hb=> ?_)
   ·
    have hb:y≤r2:=Ho.1 (by simpa using hb);refine aA (aj [0,1,8,9,10,11] rfl ?_);refine aF (ag (ab 2 rfl (aE rfl rfl (Fn.frame (gs:=[g]) (fun q hq=>by simp only[List.mem_singleton]at hq;subst hq;rw[tK];simp) (LO Ht (BK.le GR) hb (by omega))) ?_)));rintro v8 vt ⟨X1,Hu⟩;have tL:=(Hu g (List.mem_singleton.2 rfl)).trans tK;refine ab 1 rfl (ae [0,1,8,9,10,11] ?_);refine aB rfl (ab 1 rfl (aG rfl rfl ⟨by omega,by omega⟩ (ab 1 rfl (aw ?_))));exact⟨d2+1,_,r2-y,by omega,ar,GR.trans X1.le,tL,X1.nat,by rw[Nat.mul_add,Nat.mul_one];omega⟩
   have agS:r2<y:=by
    have:¬0≤kF r2 y:=by simp at hb;omega
    rw[Ho]at this;omega
   obtain⟨r3,rfl⟩:∃r3,r3=r2:=⟨_,rfl⟩;obtain⟨d3,rfl⟩:∃d3,d3=d2:=⟨_,rfl⟩;refine aV (aj [0,1,8,9,10,11] rfl ?_);refine aB rfl (ab 3 rfl (dd ah rfl rfl rfl ⟨by omega,by omega⟩ ?_));obtain⟨ti,ak,al⟩:=oG;refine cQ (.inl rfl) ah rfl rfl rfl (by omega) (by omega) (tK) rfl (by rw[oI];omega) ak al (fun _=>rfl) rfl rfl rfl fun _=> ?_;refine aw ?_
   have X2:ins H9 g {dE l (an x).length with xs:=aL (dE l (an x).length).xs (0+((k:Int)-1).toNat*1) [.int .u32 (d3:Int)]}=ins H9 g (dE (l.set (k-1) d3) (an x).length):=by
    rw[XW];simp only[dE,aL,Nat.zero_add,Nat.mul_one,OW]
   have QJ:Heap.le H (rem (ins H9 g {dE l (an x).length with xs:=aL (dE l (an x).length).xs (0+((k:Int)-1).toNat*1) [.int .u32 (d3:Int)]}) [g]):=by
    rw[cF _ (List.mem_singleton.2 rfl)];exact(hle.trans im).trans GR
   have Hv:=Ht;refine aj [0,1,8,9,10] rfl ?_;refine aB rfl (ab 1 rfl (cV rfl rfl ⟨by omega,by omega⟩ (ab 1 rfl (aw ?_))));refine⟨k-1,_,r3,l.set (k-1) d3,by omega,ar,QJ,by rw[X2,bD],by simp[uT],bI.set (by rw[cj];omega),by omega,agS,by rw[X2,cF _ (List.mem_singleton.2 rfl)];exact Hv,?_⟩;rw[XU LR,show k-1+1=k by omega,XU (l:=l.set (k-1) d3) (List.getElem?_set_self (by omega)),show k-1+1=k by omega,List.drop_set_of_lt (by omega),hv]
   have h1:B*(val (List.drop k l)*y+r)=B*val (List.drop k l)*y+B*r:=by rw[Nat.mul_add,Nat.mul_assoc]
   have h2:(d3+B*val (List.drop k l))*y=y*d3+B*val (List.drop k l)*y:=by rw[Nat.add_mul,Nat.mul_comm d3]
   rw[h1,h2];omega
  have hb:k=0:=by simp at hb;omega
  subst hb;rw[List.drop_zero,List.drop_zero,cR]at hv
  have LS:val l=x/y:=by rw[hv,Nat.add_comm,Nat.add_mul_div_right _ _ jt,Nat.div_eq_of_lt QD,Nat.zero_add]
  have j8:r=x%y:=by rw[hv,Nat.add_comm,Nat.add_mul_mod_self_right,Nat.mod_eq_of_lt QD]
  refine aV (aj [8,9] rfl ?_);refine ag (ab 1 rfl (aE rfl rfl (BJ (l:=l) ⟨some ⟨g,0,none⟩,_,by rw[uT],by omega,fun i v hv=>⟨_,rfl,by simp[cell,iN,Gb,dE,hv]⟩⟩ bI (by omega)) ?_));rintro v9 ks QK;refine ab 3 rfl (ae [4,5] ?_);refine aD ⟨.inr rfl,_,.tmp rfl (.tmp rfl (.nil)),?_⟩;exact⟨(hle.trans (bE _ _)).trans QK.le,_,_,rfl,by rw[←LS];exact QK.nat,by rw[←j8];exact(l5.le (bE _ _)).le QK.le⟩
end Go.au
namespace Go.au
open Go.Proofs Num
theorem X3(f:Bool)(n d:Nat)(k:Nat)(hn:(an n).length≤k)(hd:(an d).length≤k):aO (cL f n d)≤k+1∧(0<d→aO (cL f n d)≤k):=by
 rcases Nat.eq_zero_or_pos d with e | e
 ·subst e
  rw[Gi]
  refine⟨?_,fun h=>by omega⟩
  have:aO 0=1:=by
   unfold aO
   show max (an 0).length (an 1).length=1
   rw[qv,uZ];rfl
  omega
 ·have h1:=my (Nat.div_le_self n (Nat.gcd n d))
  have h2:=my (Nat.div_le_self d (Nat.gcd n d))
  have:aO (cL f n d)≤k:=by
   unfold aO
   rw[AU e,yO e];omega
  exact⟨by omega,fun _=>this⟩
theorem cn.size{H:Heap}{v:Value}{q:Rat}{N:Nat}(h:cn H v q N):aO q≤N+2:=by
 obtain⟨f,u,w,l1,l2,_,_,_,h1,h2,h3,h4,rfl⟩:=h
 have k1:=Dr h1
 have k2:=Dr h2
 exact(X3 f _ _ (N+1) (by omega) (by omega)).1
theorem X4{H:Heap}{w:Value}(hw:de H w 1):bJ H (.agg #[.bool false,.slice none 0 0,w]) 0:=⟨_,_,rfl,wq H,hw⟩
theorem agT{H:Heap}{f:Bool}{u w:Value}{n d:Nat}(hn:0<n)(hd:0<d)(hu:de H u (n/Nat.gcd n d))(hw:de H w (d/Nat.gcd n d)):bJ H (.agg #[.bool f,u,w]) (cL f n d):=by
 refine⟨u,w,?_,by rw[AU hd];exact hu,by rw[yO hd];exact hw⟩
 rw[Gj hd hn]
theorem agU(p q:Rat):gZ (p-q)=wC p q:=by
 unfold gZ wC
 by_cases h:p<q
 ·rw[if_pos (by grind),if_pos h]
 ·rw[if_neg (by grind),if_neg h]
  by_cases e:p=q
  ·rw[if_pos (by grind),if_pos e]
  ·rw[if_neg (by grind),if_neg e]
theorem de.sj{H:Heap}{v:Value}{x:Nat}(h:de H v x):jx H v (an x):=h
theorem agV{H:Heap}{u v:Value}{x y:Nat}(hx:de H u x)(hy:de H v y)(hm:((an x).length:Int)<4398046511104)(bH:((an y).length:Int)<4398046511104):
 Fn Tryz.prog 149 #[u,v] H (nr H (Nat.gcd x y)):=by
 refine a7 (args:=[_,_]) Tryz.func149 rfl rfl Tryz.ntmps149 rfl rfl fun w0=> ?_;refine aj [0,1] rfl ?_;refine ag (ab 1 rfl (ae [0,1] ?_));refine ao (aF (oD (fun(u:Value)(a:Nat)(v:Value)(b:Nat)=>b) (fun(u:Value)(a:Nat)(v:Value)(b:Nat)=>put (put (emp) 0 (.val (u))) 1 (.val (v))) (fun(u:Value)(a:Nat)(v:Value)(b:Nat) H'=>Heap.le H H'∧de H' u a∧de H' v b∧((an a).length:Int)<4398046511104∧((an b).length:Int)<4398046511104∧Nat.gcd a b=Nat.gcd x y) _ x _ y (⟨.refl _,hx,hy,hm,bH,rfl⟩) ar ?_));rintro u a v b H1 ⟨hle,ha,dh,jy,eo,hg⟩;obtain⟨Aha,cha,rfl,amN,amO⟩:=id ha;obtain⟨amP,amQ,rfl,amR,amS⟩:=id dh;refine ao (ag (ab 3 rfl (ae [0,1,9] ?_)));refine aC rfl (fun hb=> ?_) (fun hb=> ?_)
 ·
  have hb:0<b:=Nat.pos_of_ne_zero fun e=>by rw[jX.2 e]at hb;simp at hb
  refine aA (aj [0,1] rfl ?_);refine aF (ag (ab 2 rfl (aE rfl rfl (Hp ha dh hb jy eo) ?_)));rintro v2 H2 ⟨dG,q2,r2,rfl,bU,mz⟩;refine ab 5 rfl (ae [1,6] ?_);refine aB rfl (ab 4 rfl (aw ?_));have za:=my (Nat.le_of_lt (Nat.mod_lt a hb));exact⟨_,b,_,a%b,Nat.mod_lt a hb,ar,hle.trans dG,dh.le dG,mz,eo,by omega,by rw[←hg,Nat.gcd_comm b,←Nat.gcd_rec,Nat.gcd_comm]⟩
 ·
  have hb:b=0:=jX.1 (by have:=of_decide_eq_false hb;omega);subst hb;rw[Nat.gcd_zero_right]at hg;subst hg;refine aV (aj [0] rfl ?_);refine ag (ab 2 rfl (ae [4] ?_));refine aD ⟨.inr rfl,_,.tmp rfl (.nil),?_⟩;exact⟨hle,ha⟩
theorem xA{H:Heap}{u v:Value}{f:Bool}{l1 l2:List Nat}(hu:jx H u l1)(hv:jx H v l2)(h1:∀x,x∈l1→x<4294967296)(h2:∀x,x∈l2→x<4294967296)(hm:(l1.length:Int)≤4398046511000)(bH:(l2.length:Int)≤4398046511000):
 Fn Tryz.prog 75 #[.bool f,u,v] H (kp H (cL f (val l1) (val l2))):=by
 have k1:=Dr h1
 have k2:=Dr h2
 obtain⟨Ahu,chu,rfl,amT,amU⟩:=id hu
 obtain⟨Ahv,chv,rfl,amV,amW⟩:=id hv;refine a7 (args:=[_,_,_]) Tryz.func75 rfl rfl Tryz.ntmps75 rfl rfl fun w0=> ?_;refine aj [0,1,2] rfl ?_;refine ag (bt bY rfl (ae [0,1,2,6] ?_));refine ag (ab 1 rfl (aE rfl rfl (XR hu h1 (by omega)) ?_));rintro v1 H1 fF;refine ab 1 rfl (aE rfl rfl (XR (hv.le fF.le) h2 (by omega)) ?_);rintro v2 H2 dX;obtain⟨n,hn⟩:∃n,n=val l1:=⟨_,rfl⟩;obtain⟨d,hd⟩:∃d,d=val l2:=⟨_,rfl⟩;rw[←hn]at fF k1;rw[←hd]at dX k2;have dg:=fF.nat.le dX.le;have gN:=dX.nat;obtain⟨Pq,Pr,rfl,Ps,Pt⟩:=id dg;obtain⟨Wf,Wg,rfl,Wh,Wi⟩:=id gN;have hle:=fF.le.trans dX.le;rw[←hn,←hd];refine ab 2 rfl (ae [0,1,2,6] ?_);refine ao ?_
 rcases Nat.eq_zero_or_pos n with jA | jA
 ·
  have BQ:=jX.2 jA;refine ag (ab 2 rfl (aI true rfl rfl (jY (by omega)) (ab 5 rfl (ae [0,1,2,6,19] ?_))));refine dN rfl (ag (cW Tryz.underlying29 eD rfl rfl rfl rfl rfl rfl rfl ?_));intro gb bx;refine dy ah rfl bY rfl rfl ?_;obtain⟨ti,ak,al⟩:=aY;refine aH (.inl ⟨rfl,rfl⟩) rfl rfl rfl ak al rfl rfl rfl (ae [6] ?_);obtain⟨bQ,aM,aN⟩:=aY;refine aD ⟨.inr rfl,_,.agg rfl Tryz.underlying31 aM aN (.nil),?_⟩;exact⟨hle.trans (Heap.bB _ bx),by rw[jA,wB];exact X4 yP⟩
 ·
  have BQ:(an n).length≠0:=fun e=>by rw[jX]at e;omega
  rcases Nat.eq_zero_or_pos d with xt | xt
  ·
   have BQ:=jX.2 xt;refine ag (ab 2 rfl (aI false rfl rfl (ln (by omega)) (ab 3 rfl (aI true rfl rfl (jY (by omega)) (ab 1 rfl (ae [0,1,2,6,19] ?_))))));refine dN rfl (ag (cW Tryz.underlying29 eD rfl rfl rfl rfl rfl rfl rfl ?_));intro gb bx;refine dy ah rfl bY rfl rfl ?_;obtain⟨ti,ak,al⟩:=aY;refine aH (.inl ⟨rfl,rfl⟩) rfl rfl rfl ak al rfl rfl rfl (ae [6] ?_);obtain⟨bQ,aM,aN⟩:=aY;refine aD ⟨.inr rfl,_,.agg rfl Tryz.underlying31 aM aN (.nil),?_⟩;exact⟨hle.trans (Heap.bB _ bx),by rw[xt,Gi];exact X4 yP⟩
  have cH:(an d).length≠0:=fun e=>by rw[jX]at e;omega
  refine ag (ab 2 rfl (aI false rfl rfl (ln (by omega)) (ab 3 rfl (aI false rfl rfl (ln (by omega)) (ab 1 rfl (ae [0,1,2,6,19] ?_))))));refine dU rfl (aA (aj [0,1,2,6] rfl ?_));refine ag (ab 2 rfl (aE rfl rfl (agV dg gN (by omega) (by omega)) ?_));rintro v3 H3 eE;obtain⟨g,hg⟩:∃g,g=Nat.gcd n d:=⟨_,rfl⟩;rw[←hg]at eE
  have qn:0<g:=by rw[hg];exact Nat.gcd_pos_of_pos_left _ jA
  have jZ:=eE.nat;have wX:=my (show g≤n by rw[hg];exact Nat.gcd_le_left _ jA);have QL:=dg.le eE.le;have QM:=gN.le eE.le;obtain⟨Pu,Pv,rfl,Pw,KR⟩:=id jZ;refine ab 1 rfl (ae [0,1,2,6,7] ?_);refine AJ (fun(u3:Value)(v3:Value)=>put (put (put (put (emp) 0 (.val (.bool f))) 1 (.val (u3))) 2 (.val (v3))) 6 (.box [.bool false,.slice none 0 0,.slice none 0 0])) (fun(u3:Value)(v3:Value) H'=>Heap.le H H'∧de H' u3 (n/g)∧de H' v3 (d/g)) ?_ ?_
  ·
   by_cases hl:(an g).length=1
   ·
    obtain⟨z,hz⟩:=List.length_eq_one_iff.1 hl
    have nW:z=g:=by have:=cR g;rw[hz]at this;simpa [val]using this
    have vo:(an g)[0]? = some g:=by rw[hz,nW];rfl
    refine ag (ab 2 rfl (aI false rfl rfl (wo (by omega)) (ab 2 rfl (aQ ah rfl rfl rfl rfl rfl (KR) (dr vo) (by omega) (by omega) fun _=>(ab 2 rfl (ae [0,1,2,6,7,33] ?_))))));refine aC rfl (fun hb=> ?_) (fun hb=> ?_)
    ·
     skip
     refine ag (ab 2 rfl (aE rfl rfl (Hp QL jZ qn (by omega) (by omega)) ?_));rintro v4 H4 ⟨dW,q4,r4,rfl,cJ,KO⟩;refine ab 4 rfl (ae [0,1,2,6,7] ?_);refine aB rfl (ab 2 rfl (aE rfl rfl (Hp (QM.le dW) (jZ.le dW) qn (by omega) (by omega)) ?_));rintro v5 H5 ⟨fI,q5,r5,rfl,ep,tq⟩;refine ab 4 rfl (aw ?_);exact⟨_,_,ar,(hle.trans eE.le).trans (dW.trans fI),cJ.le fI,ep⟩
    have oL:g=1:=by simp at hb;omega
    refine aA ?_;exact⟨_,_,ar,hle.trans eE.le,by rw[oL,Nat.div_one];exact QL,by rw[oL,Nat.div_one];exact QM⟩
   skip
   refine ag (ab 2 rfl (aI true rfl rfl (uQ (by omega)) (ab 6 rfl (ae [0,1,2,6,7,33] ?_))));refine dN rfl (ag (ab 2 rfl (aE rfl rfl (Hp QL jZ qn (by omega) (by omega)) ?_)));rintro v4 H4 ⟨dW,q4,r4,rfl,cJ,KO⟩;refine ab 4 rfl (ae [0,1,2,6,7] ?_);refine aB rfl (ab 2 rfl (aE rfl rfl (Hp (QM.le dW) (jZ.le dW) qn (by omega) (by omega)) ?_));rintro v5 H5 ⟨fI,q5,r5,rfl,ep,tq⟩;refine ab 4 rfl (aw ?_);exact⟨_,_,ar,(hle.trans eE.le).trans (dW.trans fI),cJ.le fI,ep⟩
  rintro u3 v3 H6 ⟨rU,X5,zp⟩;obtain⟨amX,amY,rfl,amZ,am0⟩:=id X5;obtain⟨am1,am2,rfl,am3,am4⟩:=id zp;refine ag (ab 3 rfl (dy ah rfl bY rfl rfl ?_));obtain⟨ti,ak,al⟩:=aY;refine aH (.inl ⟨rfl,rfl⟩) rfl rfl rfl ak al rfl rfl rfl (ae [6] ?_);obtain⟨bQ,aM,aN⟩:=aY;refine aD ⟨.inr rfl,_,.agg rfl Tryz.underlying31 aM aN (.nil),?_⟩;exact⟨rU,agT jA xt (by rw[←hg];exact X5) (by rw[←hg];exact zp)⟩
theorem pX{H:Heap}{n:Int}(h1: -9223372036854775808≤n)(h2:n≤9223372036854775807):
 Fn Tryz.prog 20 #[.int .i64 n] H (kp H (n:Rat)):=by
 have gO:(an n.natAbs).length≤3:=jd.2 (by rw[cj];omega)
 have Hw:=Gk n
 have iZ:val (an 1)=1:=cR 1
 have cH:(an 1).length=1:=by rw[uZ];rfl
 refine a7 (args:=[_]) Tryz.func20 rfl rfl Tryz.ntmps20 rfl rfl fun w0=> ?_;refine aj [0] rfl ?_;refine ag (bt bY rfl (ae [0,2] ?_));refine ao (ag (ab 2 rfl (ae [0,2,4] ?_)));refine aC rfl (fun hb=> ?_) (fun hb=> ?_)
 ·
  have hb:n<0:=by simpa using hb
  rw[decide_eq_true hb]at Hw;refine ag (ab 1 rfl (aG rfl rfl ⟨by omega,by omega⟩ (te rfl ⟨by omega,by omega⟩ (dd ah rfl rfl rfl ⟨by omega,by omega⟩ (aG rfl rfl ⟨by omega,by omega⟩ ?_)))));rw[show -(n+1)+1=((n.natAbs:Nat):Int) by omega];refine aE rfl rfl (Hm (by omega)) ?_;rintro v1 H1 fF;refine cW Tryz.underlying29 eD rfl rfl rfl rfl rfl rfl rfl ?_;intro gb bx;refine aE rfl rfl (xA (fF.nat.le (Heap.bB _ bx)) (yP).sj nO nO (by omega) (by omega)) ?_;rintro w2 G2 ⟨dP,bU⟩;rw[cR,iZ,Hw]at bU;obtain⟨u2,x2,rfl,fQ,eP⟩:=id bU;obtain⟨oR,oS,rfl,oT,oU⟩:=id fQ;obtain⟨oV,oW,rfl,oX,oY⟩:=id eP;obtain⟨ti,ak,al⟩:=aY;refine aH (.inl ⟨rfl,rfl⟩) rfl rfl rfl ak al rfl rfl rfl (ae [2] ?_);obtain⟨bQ,aM,aN⟩:=aY;refine aD ⟨.inr rfl,_,.agg rfl Tryz.underlying31 aM aN (.nil),?_⟩;exact⟨(fF.le.trans (Heap.bB _ bx)).trans dP,bU⟩
 ·
  have hb:¬n<0:=by simpa using hb
  rw[decide_eq_false hb]at Hw;obtain⟨m,rfl⟩:∃m:Nat,n=(m:Int):=⟨n.natAbs,by omega⟩;rw[Int.natAbs_natCast]at Hw gO;refine aA (aj [0,2] rfl ?_);refine ag (ab 1 rfl (dd ah rfl rfl rfl ⟨by omega,by omega⟩ (aE rfl rfl (Hm (x:=m) (by omega)) ?_)));rintro v1 H1 fF;refine cW Tryz.underlying29 eD rfl rfl rfl rfl rfl rfl rfl ?_;intro gb bx;refine aE rfl rfl (xA (fF.nat.le (Heap.bB _ bx)) (yP).sj nO nO (by omega) (by omega)) ?_;rintro w2 G2 ⟨dP,bU⟩;rw[cR,iZ,Hw]at bU;obtain⟨u2,x2,rfl,fQ,eP⟩:=id bU;obtain⟨oR,oS,rfl,oT,oU⟩:=id fQ;obtain⟨oV,oW,rfl,oX,oY⟩:=id eP;obtain⟨ti,ak,al⟩:=aY;refine aH (.inl ⟨rfl,rfl⟩) rfl rfl rfl ak al rfl rfl rfl (ae [2] ?_);obtain⟨bQ,aM,aN⟩:=aY;refine aD ⟨.inr rfl,_,.agg rfl Tryz.underlying31 aM aN (.nil),?_⟩;exact⟨(fF.le.trans (Heap.bB _ bx)).trans dP,bU⟩
theorem tM{H:Heap}{v:Value}{q:Rat}{N:Nat}(hv:cn H v q N)(hN:(N:Int)≤4398046511000):
 Fn Tryz.prog 77 #[v] H (kp H q):=by
 obtain⟨bf,bu,bw,nP,nQ,rfl,fE,cD,nt,LU,X6,Eh,rfl⟩:=id hv;refine a7 (args:=[_]) Tryz.func77 rfl rfl Tryz.ntmps77 rfl rfl fun w0=> ?_;refine aj [0] rfl ?_;refine ag (bX rfl rfl (bt bY rfl (ae [1,2] ?_)));refine ag (ab 6 rfl (aE rfl rfl (xA fE cD nt LU (by omega) (by omega)) ?_));rintro w2 G2 ⟨dP,bU⟩;obtain⟨u2,x2,rfl,fQ,eP⟩:=id bU;obtain⟨oR,oS,rfl,oT,oU⟩:=id fQ;obtain⟨oV,oW,rfl,oX,oY⟩:=id eP;obtain⟨ti,ak,al⟩:=aY;refine aH (.inl ⟨rfl,rfl⟩) rfl rfl rfl ak al rfl rfl rfl (ae [2] ?_);obtain⟨bQ,aM,aN⟩:=aY;refine aD ⟨.inr rfl,_,.agg rfl Tryz.underlying31 aM aN (.nil),?_⟩;exact⟨dP,bU⟩
theorem xB{H:Heap}{v:Value}{q:Rat}{N:Nat}(hv:cn H v q N)(hN:(N:Int)≤4398046511000):
 Fn Tryz.prog 67 #[v] H (fun v H'=>Heap.le H H'∧v = .int .i64 (gZ q)):=by
 obtain⟨bf,bu,bw,nP,nQ,rfl,_⟩:=id hv
 have lX:=Wq q;refine a7 (args:=[_]) Tryz.func67 rfl rfl Tryz.ntmps67 rfl rfl fun w0=> ?_;refine aj [0] rfl ?_;refine ag (bX rfl rfl (ab 1 rfl (ae [1] ?_)));refine ag (ab 1 rfl (aE rfl rfl (tM hv hN) ?_));rintro w2 G2 ⟨dP,bU⟩;obtain⟨u2,x2,rfl,fQ,eP⟩:=id bU;obtain⟨oR,oS,rfl,oT,oU⟩:=id fQ;obtain⟨oV,oW,rfl,oX,oY⟩:=id eP;obtain⟨ti,ak,al⟩:=aY;refine aH (.inl ⟨rfl,rfl⟩) rfl rfl rfl ak al rfl rfl rfl (ae [1] ?_);refine ao (aF (ag (ab 5 rfl (ae [1,5] ?_))));refine aC rfl (fun hb=> ?_) (fun hb=> ?_)
 ·
  have hb:q.num.natAbs=0:=jX.1 (by have:=eq_of_beq hb;omega);rw[if_pos hb]at lX;refine ag (ab 1 rfl (ae [2] ?_));refine aD ⟨.inr rfl,_,.tmp rfl (.nil),?_⟩;exact⟨dP,by rw[lX];rfl⟩
 ·
  have hb:q.num.natAbs≠0:=fun e=>by rw[jX.2 e]at hb;simp at hb
  rw[if_neg hb]at lX;refine ag (ab 3 rfl (ae [10] ?_));refine aC rfl (fun hb=> ?_) (fun hb=> ?_)
  ·
   rw[hb]at lX;refine ag (ab 1 rfl (ae [2] ?_));refine aD ⟨.inr rfl,_,.tmp rfl (.nil),?_⟩;exact⟨dP,by rw[lX];rfl⟩
  rw[hb]at lX;refine aA (aj [] rfl ?_);refine ag (ab 1 rfl (ae [2] ?_));refine aD ⟨.inr rfl,_,.tmp rfl (.nil),?_⟩;exact⟨dP,by rw[lX];rfl⟩
theorem Ei{H:Heap}{v:Value}{q:Rat}{N:Nat}(hv:cn H v q N)(hN:(N:Int)≤4398046511000):
 Fn Tryz.prog 135 #[v] H (kp H (-q)):=by
 obtain⟨bf,bu,bw,nP,nQ,rfl,fE,cD,nt,LU,X6,Eh,rfl⟩:=id hv;refine a7 (args:=[_]) Tryz.func135 rfl rfl Tryz.ntmps135 rfl rfl fun w0=> ?_;refine aj [0] rfl ?_;refine ag (bX rfl rfl (bt bY rfl (ae [1,2] ?_)));refine ag (ab 7 rfl (aE rfl rfl (xA (f:= !bf) fE cD nt LU (by omega) (by omega)) ?_));rintro w2 G2 ⟨dP,bU⟩;rw[←Pm]at bU;obtain⟨u2,x2,rfl,fQ,eP⟩:=id bU;obtain⟨oR,oS,rfl,oT,oU⟩:=id fQ;obtain⟨oV,oW,rfl,oX,oY⟩:=id eP;obtain⟨ti,ak,al⟩:=aY;refine aH (.inl ⟨rfl,rfl⟩) rfl rfl rfl ak al rfl rfl rfl (ae [2] ?_);obtain⟨bQ,aM,aN⟩:=aY;refine aD ⟨.inr rfl,_,.agg rfl Tryz.underlying31 aM aN (.nil),?_⟩;exact⟨dP,bU⟩
theorem X7{H:Heap}{v v2:Value}{q q2:Rat}{N:Nat}(hv:cn H v q N)(dF:cn H v2 q2 N)(hN:(N:Int)≤1099511627780):
 Fn Tryz.prog 21 #[v,v2] H (kp H (q+q2)):=by
 obtain⟨bf,bu,bw,nP,nQ,rfl,_⟩:=id hv
 obtain⟨cf,cu,cw,yR,yS,rfl,_⟩:=id dF
 have jz:=hv.size
 have tN:=dF.size
 have fa:=Nat.pos_of_ne_zero q.den_nz
 have ko:=Nat.pos_of_ne_zero q2.den_nz
 have vu:=wD q
 have sk:=wD q2
 obtain⟨f1,iX⟩:∃f1,f1=decide (q.num<0):=⟨_,rfl⟩
 obtain⟨f2,jV⟩:∃f2,f2=decide (q2.num<0):=⟨_,rfl⟩
 obtain⟨n1,dg⟩:∃n1,n1=q.num.natAbs:=⟨_,rfl⟩
 obtain⟨n2,gN⟩:∃n2,n2=q2.num.natAbs:=⟨_,rfl⟩
 obtain⟨d1,pY⟩:∃d1,d1=q.den:=⟨_,rfl⟩
 obtain⟨d2,pZ⟩:∃d2,d2=q2.den:=⟨_,rfl⟩
 have hz:(an n1).length≤N+2∧(an d1).length≤N+2∧(an n2).length≤N+2∧(an d2).length≤N+2:=by
  unfold aO at jz tN
  rw[dg,gN,pY,pZ];omega
 rw[←iX,←dg,←pY]at vu
 rw[←jV,←gN,←pZ]at sk
 rw[←pY]at fa
 rw[←pZ]at ko
 have rL:=oO n1 d2
 have lq:=oO n2 d1
 have Pp:=oO d1 d2
 have KP:=Nat.mul_pos fa ko
 have lR:=V9 (x:=n1*d2) (y:=n2*d1) (k:=2*(N+2)) (by omega) (by omega);refine a7 (args:=[_,_]) Tryz.func21 rfl rfl Tryz.ntmps21 rfl rfl fun w0=> ?_;refine aj [0,1] rfl ?_;refine ag (bX rfl rfl (bX rfl rfl (bt bY rfl (ae [2,3,4] ?_))));refine bO .bL [0,2,1,3,4,5] follows (by kernel_rfl) ?_;refine ab 2 rfl (bm rfl rfl (tM hv (by omega)) (fun _ _ h=>by first | exact h.le | exact h.1) ?_);rintro w1 G1 ⟨cH,tO⟩
 unfold bJ at tO
 rw[←iX,←dg,←pY]at tO;obtain⟨wE,wF,rfl,gH,gP⟩:=id tO;obtain⟨wG,wH,rfl,wI,wJ⟩:=id gH;obtain⟨wK,wL,rfl,wM,wN⟩:=id gP;refine bm rfl rfl (tM (dF.le cH) (by omega)) (fun _ _ h=>by first | exact h.le | exact h.1) ?_;rintro w2 G2 ⟨dG,tP⟩
 unfold bJ at tP
 rw[←jV,←gN,←pZ]at tP;obtain⟨Dy,Dz,rfl,lU,lr⟩:=id tP;obtain⟨AV,AW,rfl,DA,DB⟩:=id lU;obtain⟨AY,AZ,rfl,DC,DD⟩:=id lr;have gH:=gH.le dG;have gP:=gP.le dG;have hle:=cH.trans dG;obtain⟨ti,ak,al⟩:=aY;refine aH (.inl ⟨rfl,rfl⟩) rfl rfl rfl ak al rfl rfl rfl ?_;obtain⟨ti,ak,al⟩:=aY;refine aH (.inl ⟨rfl,rfl⟩) rfl rfl rfl ak al rfl rfl rfl (ae [2,3,4] ?_);refine bO .bL [0,1,2,3,5,6,7,8,4,9,10,11] follows (by kernel_rfl) ?_;refine ab 8 rfl (bm rfl rfl (xh gH lr (by omega) (by omega)) (fun _ _ h=>by first | exact h.le | exact h.1) ?_);rintro v3 H3 eE;refine bm rfl rfl (xh (lU.le eE.le) (gP.le eE.le) (by omega) (by omega)) (fun _ _ h=>by first | exact h.le | exact h.1) ?_;rintro v4 H4 fG;refine ab 2 rfl (ae [2,3,4,5,6] ?_);refine ag (ab 4 rfl (aE rfl rfl (xh ((gP.le eE.le).le fG.le) ((lr.le eE.le).le fG.le) (by omega) (by omega)) ?_));rintro v5 H5 LV;have iO:=((hle.trans eE.le).trans fG.le).trans LV.le;have nC:=(eE.nat.le fG.le).le LV.le;have BM:=fG.nat.le LV.le;have vv:=LV.nat;obtain⟨QN,QO,rfl,QP,QQ⟩:=id nC;obtain⟨am5,am6,rfl,am7,am8⟩:=id BM;obtain⟨am9,ana,rfl,anb,anc⟩:=id vv;refine vr 1 ?_
 refine ae [2,3,4,5,6,7] ?_;refine ao (ag (ab 4 rfl (OG Tryz.underlying4 rfl rfl (ae [2,3,4,5,6,7,31] ?_))));refine aC rfl (fun hb=> ?_) (fun hb=> ?_)
 ·
  have qz:f1=f2:=by simpa using hb
  refine bO .bL [0,1,2,3,5,4,6,7] follows (by kernel_rfl) ?_;refine ab 5 rfl (bm rfl rfl (agF nC BM (by omega) (by omega)) (fun _ _ h=>by first | exact h.le | exact h.1) ?_);rintro v6 H6 oN;have vw:=vv.le oN.le;have so:=oN.nat;obtain⟨X8,X9,rfl,Ya,Yb⟩:=id so;refine bm rfl rfl (xA (f:=f1) so.sj vw.sj nO nO (by omega) (by omega)) (fun _ _ h=>by first | exact h.le | exact h.1) ?_;rintro w7 G7 ⟨Hz,iS⟩;rw[cR,cR,←V5 f1 fa ko,vu,qz,sk]at iS;obtain⟨u7,x7,rfl,HA,xC⟩:=id iS;obtain⟨Yc,Yd,rfl,Ye,Yf⟩:=id HA;obtain⟨Yg,Yh,rfl,Yi,Yj⟩:=id xC;obtain⟨ti,ak,al⟩:=aY;refine aH (.inl ⟨rfl,rfl⟩) rfl rfl rfl ak al rfl rfl rfl (ae [4] ?_);obtain⟨bQ,aM,aN⟩:=aY;refine aD ⟨.inr rfl,_,.agg rfl Tryz.underlying31 aM aN (.nil),?_⟩;exact⟨(iO.trans oN.le).trans Hz,iS⟩
 ·
  have qz:f1≠f2:=by simpa using hb
  refine aA (aj [2,3,4,5,6,7] rfl ?_);refine ao (ag (ab 2 rfl (aE rfl rfl (LM nC BM (by omega)) ?_)));rintro v6 H6 ⟨e6,rfl⟩;rw[e6];refine ab 1 rfl (ae [2,3,4,5,6,7,42] ?_);refine aC rfl (fun hb=> ?_) (fun hb=> ?_)
  ·
   have hb:n2*d1≤n1*d2:=Ho.1 (by simpa using hb);have pT:=my (Nat.sub_le (n1*d2) (n2*d1));refine bO .bL [0,1,2,3,5,4,6,7] follows (by kernel_rfl) ?_;refine ab 5 rfl (bm rfl rfl (LO nC BM hb (by omega)) (fun _ _ h=>by first | exact h.le | exact h.1) ?_);rintro v6 H6 oN;have vw:=vv.le oN.le;have so:=oN.nat;obtain⟨X8,X9,rfl,Ya,Yb⟩:=id so;refine bm rfl rfl (xA (f:=f1) so.sj vw.sj nO nO (by omega) (by omega)) (fun _ _ h=>by first | exact h.le | exact h.1) ?_;rintro w7 G7 ⟨Hz,iS⟩;rw[cR,cR,←Pk qz fa ko hb,vu,sk]at iS;obtain⟨u7,x7,rfl,HA,xC⟩:=id iS;obtain⟨Yc,Yd,rfl,Ye,Yf⟩:=id HA;obtain⟨Yg,Yh,rfl,Yi,Yj⟩:=id xC;obtain⟨ti,ak,al⟩:=aY;refine aH (.inl ⟨rfl,rfl⟩) rfl rfl rfl ak al rfl rfl rfl (ae [4] ?_);obtain⟨bQ,aM,aN⟩:=aY;refine aD ⟨.inr rfl,_,.agg rfl Tryz.underlying31 aM aN (.nil),?_⟩;exact⟨(iO.trans oN.le).trans Hz,iS⟩
  have hb:n1*d2≤n2*d1:=by
   have:¬0≤kF (n1*d2) (n2*d1):=by simp at hb;omega
   rw[Ho]at this;omega
  have pT:=my (Nat.sub_le (n2*d1) (n1*d2));refine aA (aj [3,4,5,6,7] rfl ?_);refine bO .bL [0,1,2,3,5,4,6,7] follows (by kernel_rfl) ?_;refine ab 5 rfl (bm rfl rfl (LO BM nC hb (by omega)) (fun _ _ h=>by first | exact h.le | exact h.1) ?_);rintro v6 H6 oN;have vw:=vv.le oN.le;have so:=oN.nat;obtain⟨X8,X9,rfl,Ya,Yb⟩:=id so;refine bm rfl rfl (xA (f:=f2) so.sj vw.sj nO nO (by omega) (by omega)) (fun _ _ h=>by first | exact h.le | exact h.1) ?_;rintro w7 G7 ⟨Hz,iS⟩;rw[cR,cR,←V6 qz fa ko hb,vu,sk]at iS;obtain⟨u7,x7,rfl,HA,xC⟩:=id iS;obtain⟨Yc,Yd,rfl,Ye,Yf⟩:=id HA;obtain⟨Yg,Yh,rfl,Yi,Yj⟩:=id xC;obtain⟨ti,ak,al⟩:=aY;refine aH (.inl ⟨rfl,rfl⟩) rfl rfl rfl ak al rfl rfl rfl (ae [4] ?_);obtain⟨bQ,aM,aN⟩:=aY;refine aD ⟨.inr rfl,_,.agg rfl Tryz.underlying31 aM aN (.nil),?_⟩;exact⟨(iO.trans oN.le).trans Hz,iS⟩
theorem Ej{H:Heap}{v v2:Value}{q q2:Rat}{N:Nat}(hv:cn H v q N)(dF:cn H v2 q2 N)(hN:(N:Int)≤1099511627778):
 Fn Tryz.prog 65 #[v,v2] H (kp H (q-q2)):=by
 obtain⟨bf,bu,bw,nP,nQ,rfl,_⟩:=id hv
 obtain⟨cf,cu,cw,yR,yS,rfl,_⟩:=id dF
 have tN:=dF.size;refine a7 (args:=[_,_]) Tryz.func65 rfl rfl Tryz.ntmps65 rfl rfl fun w0=> ?_;refine aj [0,1] rfl ?_;refine ag (bX rfl rfl (bX rfl rfl (bt bY rfl (ae [2,3,4] ?_))));refine bO .bL [0,1,2,3,4] follows (by kernel_rfl) ?_;refine ab 2 rfl (bm rfl rfl (Ei dF (by omega)) (fun _ _ h=>by first | exact h.le | exact h.1) ?_);rintro w2 G2 ⟨dP,bU⟩;obtain⟨u2,x2,rfl,fQ,eP⟩:=id bU;obtain⟨oR,oS,rfl,oT,oU⟩:=id fQ;obtain⟨oV,oW,rfl,oX,oY⟩:=id eP;have mz:=bU.raw;rw[show aO (-q2)=aO q2 by unfold aO;rw[Rat.neg_num,Int.natAbs_neg,Rat.neg_den]]at mz;refine bm rfl rfl (X7 (N:=N+2) ((hv.le dP).mono (by omega)) (mz.mono tN) (by omega)) (fun _ _ h=>by first | exact h.le | exact h.1) ?_;rintro w3 G3 ⟨qF,jC⟩;rw[←Rat.sub_eq_add_neg]at jC;obtain⟨u3,x3,rfl,o6,gA⟩:=id jC;obtain⟨Bl,Bm,rfl,Bn,Bp⟩:=id o6;obtain⟨Bq,Br,rfl,Bs,Bt⟩:=id gA;obtain⟨ti,ak,al⟩:=aY;refine aH (.inl ⟨rfl,rfl⟩) rfl rfl rfl ak al rfl rfl rfl (ae [4] ?_);obtain⟨bQ,aM,aN⟩:=aY;refine aD ⟨.inr rfl,_,.agg rfl Tryz.underlying31 aM aN (.nil),?_⟩;exact⟨dP.trans qF,jC⟩
theorem Yk{H:Heap}{v v2:Value}{q q2:Rat}{N:Nat}(hv:cn H v q N)(dF:cn H v2 q2 N)(hN:(N:Int)≤1099511627776):
 Fn Tryz.prog 14 #[v,v2] H (fun v H'=>Heap.le H H'∧v = .int .i64 (wC q q2)):=by
 obtain⟨bf,bu,bw,nP,nQ,rfl,_⟩:=id hv
 obtain⟨cf,cu,cw,yR,yS,rfl,_⟩:=id dF
 have jz:=hv.size
 have tN:=dF.size;refine a7 (args:=[_,_]) Tryz.func14 rfl rfl Tryz.ntmps14 rfl rfl fun w0=> ?_;refine aj [0,1] rfl ?_;refine ag (bX rfl rfl (bX rfl rfl (ab 1 rfl (ae [2,3] ?_))));refine ag (ab 2 rfl (aE rfl rfl (Ej hv dF (by omega)) ?_));rintro w2 G2 ⟨dP,bU⟩;obtain⟨u2,x2,rfl,fQ,eP⟩:=id bU;obtain⟨oR,oS,rfl,oT,oU⟩:=id fQ;obtain⟨oV,oW,rfl,oX,oY⟩:=id eP;have cK:=tv q q2;refine aE rfl rfl (xB bU.raw (by omega)) ?_;rintro v3 H3 ⟨gO,rfl⟩;refine ab 1 rfl (ae [4] ?_);refine aD ⟨.inr rfl,_,.tmp rfl (.nil),?_⟩;exact⟨dP.trans gO,by rw[agU];rfl⟩
theorem LW{H:Heap}{v v2:Value}{q q2:Rat}{N:Nat}(hv:cn H v q N)(dF:cn H v2 q2 N)(hN:(N:Int)≤1099511627780):
 Fn Tryz.prog 22 #[v,v2] H (kp H (q*q2)):=by
 obtain⟨bf,bu,bw,nP,nQ,rfl,_⟩:=id hv
 obtain⟨cf,cu,cw,yR,yS,rfl,_⟩:=id dF
 have jz:=hv.size
 have tN:=dF.size
 have fa:=Nat.pos_of_ne_zero q.den_nz
 have ko:=Nat.pos_of_ne_zero q2.den_nz
 have vu:=wD q
 have sk:=wD q2
 obtain⟨f1,iX⟩:∃f1,f1=decide (q.num<0):=⟨_,rfl⟩
 obtain⟨f2,jV⟩:∃f2,f2=decide (q2.num<0):=⟨_,rfl⟩
 obtain⟨n1,dg⟩:∃n1,n1=q.num.natAbs:=⟨_,rfl⟩
 obtain⟨n2,gN⟩:∃n2,n2=q2.num.natAbs:=⟨_,rfl⟩
 obtain⟨d1,pY⟩:∃d1,d1=q.den:=⟨_,rfl⟩
 obtain⟨d2,pZ⟩:∃d2,d2=q2.den:=⟨_,rfl⟩
 have hz:(an n1).length≤N+2∧(an d1).length≤N+2∧(an n2).length≤N+2∧(an d2).length≤N+2:=by
  unfold aO at jz tN
  rw[dg,gN,pY,pZ];omega
 rw[←iX,←dg,←pY]at vu
 rw[←jV,←gN,←pZ]at sk
 rw[←pY]at fa
 rw[←pZ]at ko
 have rL:=oO n1 n2
 have lq:=oO d1 d2;refine a7 (args:=[_,_]) Tryz.func22 rfl rfl Tryz.ntmps22 rfl rfl fun w0=> ?_;refine aj [0,1] rfl ?_;refine ag (bX rfl rfl (bX rfl rfl (bt bY rfl (ae [2,3,4] ?_))));refine bO .bL [0,2,1,3,4,5] follows (by kernel_rfl) ?_;refine ab 2 rfl (bm rfl rfl (tM hv (by omega)) (fun _ _ h=>by first | exact h.le | exact h.1) ?_);rintro w1 G1 ⟨cH,tO⟩
 unfold bJ at tO
 rw[←iX,←dg,←pY]at tO;obtain⟨wE,wF,rfl,gH,gP⟩:=id tO;obtain⟨wG,wH,rfl,wI,wJ⟩:=id gH;obtain⟨wK,wL,rfl,wM,wN⟩:=id gP;refine bm rfl rfl (tM (dF.le cH) (by omega)) (fun _ _ h=>by first | exact h.le | exact h.1) ?_;rintro w2 G2 ⟨dG,tP⟩
 unfold bJ at tP
 rw[←jV,←gN,←pZ]at tP;obtain⟨Dy,Dz,rfl,lU,lr⟩:=id tP;obtain⟨AV,AW,rfl,DA,DB⟩:=id lU;obtain⟨AY,AZ,rfl,DC,DD⟩:=id lr;have gH:=gH.le dG;have gP:=gP.le dG;have hle:=cH.trans dG;obtain⟨ti,ak,al⟩:=aY;refine aH (.inl ⟨rfl,rfl⟩) rfl rfl rfl ak al rfl rfl rfl ?_;obtain⟨ti,ak,al⟩:=aY;refine aH (.inl ⟨rfl,rfl⟩) rfl rfl rfl ak al rfl rfl rfl (ae [2,3,4] ?_);refine bO .bL [0,1,2,3,4,5,6,7,8,10,11,12,13,9,14,15,16] follows (by kernel_rfl) ?_;refine ab 4 rfl (FF Tryz.underlying4 rfl rfl (ab 8 rfl (bm rfl rfl (xh gH lU (by omega) (by omega)) (fun _ _ h=>by first | exact h.le | exact h.1) ?_)));rintro v3 H3 eE;refine bm rfl rfl (xh (gP.le eE.le) (lr.le eE.le) (by omega) (by omega)) (fun _ _ h=>by first | exact h.le | exact h.1) ?_;rintro v4 H4 fG;have lV:=eE.nat.le fG.le;have BR:=fG.nat;obtain⟨DE,DF,rfl,DG,DH⟩:=id lV;obtain⟨agW,agX,rfl,agY,agZ⟩:=id BR;refine bm rfl rfl (xA (f:=f1 != f2) lV.sj BR.sj nO nO (by omega) (by omega)) (fun _ _ h=>by first | exact h.le | exact h.1) ?_;rintro w5 G5 ⟨HB,ep⟩;rw[cR,cR,←Pn,vu,sk]at ep;obtain⟨u5,x5,rfl,HC,nC⟩:=id ep;obtain⟨Yl,Ym,rfl,Yn,Yo⟩:=id HC
 obtain⟨QN,QO,rfl,QP,QQ⟩:=id nC;obtain⟨ti,ak,al⟩:=aY;refine aH (.inl ⟨rfl,rfl⟩) rfl rfl rfl ak al rfl rfl rfl (ae [4] ?_);obtain⟨bQ,aM,aN⟩:=aY;refine aD ⟨.inr rfl,_,.agg rfl Tryz.underlying31 aM aN (.nil),?_⟩;exact⟨((hle.trans eE.le).trans fG.le).trans HB,ep⟩
theorem QR{H:Heap}{v v2:Value}{q q2:Rat}{N:Nat}(hv:cn H v q N)(dF:cn H v2 q2 N)(hN:(N:Int)≤1099511627780):
 Fn Tryz.prog 117 #[v,v2] H (fun v H'=>Heap.le H H'∧∃r,v = .tuple #[r,.bool (decide (q2≠0))]∧bJ H' r (q/q2)):=by
 obtain⟨bf,bu,bw,nP,nQ,rfl,_⟩:=id hv
 obtain⟨cf,cu,cw,yR,yS,rfl,_⟩:=id dF
 have jz:=hv.size
 have tN:=dF.size
 have fa:=Nat.pos_of_ne_zero q.den_nz
 have ko:=Nat.pos_of_ne_zero q2.den_nz
 have vu:=wD q
 have sk:=wD q2
 obtain⟨f1,iX⟩:∃f1,f1=decide (q.num<0):=⟨_,rfl⟩
 obtain⟨f2,jV⟩:∃f2,f2=decide (q2.num<0):=⟨_,rfl⟩
 obtain⟨n1,dg⟩:∃n1,n1=q.num.natAbs:=⟨_,rfl⟩
 obtain⟨n2,gN⟩:∃n2,n2=q2.num.natAbs:=⟨_,rfl⟩
 obtain⟨d1,pY⟩:∃d1,d1=q.den:=⟨_,rfl⟩
 obtain⟨d2,pZ⟩:∃d2,d2=q2.den:=⟨_,rfl⟩
 have hz:(an n1).length≤N+2∧(an d1).length≤N+2∧(an n2).length≤N+2∧(an d2).length≤N+2:=by
  unfold aO at jz tN
  rw[dg,gN,pY,pZ];omega
 rw[←iX,←dg,←pY]at vu
 rw[←jV,←gN,←pZ]at sk
 rw[←pY]at fa
 rw[←pZ]at ko
 have rL:=oO n1 d2
 have lq:=oO d1 n2;refine a7 (args:=[_,_]) Tryz.func117 rfl rfl Tryz.ntmps117 rfl rfl fun w0=> ?_;refine aj [0,1] rfl ?_;refine ag (bX rfl rfl (bX rfl rfl (bt bY rfl (ab 1 rfl (ae [2,3,4] ?_)))));refine bO .bL [0,2,1,3,4,5] follows (by kernel_rfl) ?_;refine ab 2 rfl (bm rfl rfl (tM hv (by omega)) (fun _ _ h=>by first | exact h.le | exact h.1) ?_);rintro w1 G1 ⟨cH,tO⟩
 unfold bJ at tO
 rw[←iX,←dg,←pY]at tO;obtain⟨wE,wF,rfl,gH,gP⟩:=id tO;obtain⟨wG,wH,rfl,wI,wJ⟩:=id gH;obtain⟨wK,wL,rfl,wM,wN⟩:=id gP;refine bm rfl rfl (tM (dF.le cH) (by omega)) (fun _ _ h=>by first | exact h.le | exact h.1) ?_;rintro w2 G2 ⟨dG,tP⟩
 unfold bJ at tP
 rw[←jV,←gN,←pZ]at tP;obtain⟨Dy,Dz,rfl,lU,lr⟩:=id tP;obtain⟨AV,AW,rfl,DA,DB⟩:=id lU;obtain⟨AY,AZ,rfl,DC,DD⟩:=id lr;have gH:=gH.le dG;have gP:=gP.le dG;have hle:=cH.trans dG;obtain⟨ti,ak,al⟩:=aY;refine aH (.inl ⟨rfl,rfl⟩) rfl rfl rfl ak al rfl rfl rfl ?_;obtain⟨ti,ak,al⟩:=aY;refine aH (.inl ⟨rfl,rfl⟩) rfl rfl rfl ak al rfl rfl rfl (ae [2,3,4] ?_);refine ao (ag (ab 4 rfl (ae [2,3,4,13] ?_)));refine aC rfl (fun hb=> ?_) (fun hb=> ?_)
 ·
  have hb:n2=0:=jX.1 (by have:=eq_of_beq hb;omega)
  have LX:q2=0:=by rw[←sk,hb,wB]
  refine ag (aE rfl rfl (pX (n:=0) (by decide) (by decide)) ?_);rintro w5 G5 ⟨HB,ep⟩;obtain⟨u5,x5,rfl,HC,nC⟩:=id ep;obtain⟨Yl,Ym,rfl,Yn,Yo⟩:=id HC;obtain⟨QN,QO,rfl,QP,QQ⟩:=id nC;obtain⟨ti,ak,al⟩:=aY;refine aH (.inl ⟨rfl,rfl⟩) rfl rfl rfl ak al rfl rfl rfl (ab 1 rfl (ae [4,5] ?_));obtain⟨bQ,aM,aN⟩:=aY;refine aD ⟨.inr rfl,_,.agg rfl Tryz.underlying31 aM aN (.tmp rfl (.nil)),?_⟩;refine⟨hle.trans HB,_,?_,by rw[LX,Rat.div_def,Rat.inv_zero,Rat.mul_zero];exact ep⟩;rw[LX];rfl
 ·
  have jA:0<n2:=Nat.pos_of_ne_zero fun e=>by rw[jX.2 e]at hb;simp at hb
  have LX:q2≠0:=fun e=>by rw[←sk,Pj ko]at e;omega
  refine aA (aj [2,3,4] rfl ?_);refine bO .bL [0,1,2,3,4,5,6,7,8,10,11,12,13,9,14,15,16,17] follows (by kernel_rfl) ?_;refine ab 4 rfl (FF Tryz.underlying4 rfl rfl (ab 8 rfl (bm rfl rfl (xh gH lr (by omega) (by omega)) (fun _ _ h=>by first | exact h.le | exact h.1) ?_)));rintro v3 H3 eE;refine bm rfl rfl (xh (gP.le eE.le) (lU.le eE.le) (by omega) (by omega)) (fun _ _ h=>by first | exact h.le | exact h.1) ?_;rintro v4 H4 fG;have lV:=eE.nat.le fG.le;have BR:=fG.nat;obtain⟨DE,DF,rfl,DG,DH⟩:=id lV;obtain⟨agW,agX,rfl,agY,agZ⟩:=id BR;refine bm rfl rfl (xA (f:=f1 != f2) lV.sj BR.sj nO nO (by omega) (by omega)) (fun _ _ h=>by first | exact h.le | exact h.1) ?_;rintro w5 G5 ⟨HB,ep⟩;rw[cR,cR,←Po jA,vu,sk]at ep;obtain⟨u5,x5,rfl,HC,nC⟩:=id ep;obtain⟨Yl,Ym,rfl,Yn,Yo⟩:=id HC;obtain⟨QN,QO,rfl,QP,QQ⟩:=id nC;obtain⟨ti,ak,al⟩:=aY;refine aH (.inl ⟨rfl,rfl⟩) rfl rfl rfl ak al rfl rfl rfl (ab 1 rfl (ae [4,5] ?_));obtain⟨bQ,aM,aN⟩:=aY;refine aD ⟨.inr rfl,_,.agg rfl Tryz.underlying31 aM aN (.tmp rfl (.nil)),?_⟩;refine⟨((hle.trans eE.le).trans fG.le).trans HB,_,?_,ep⟩;rw[show decide (q2≠0)=true from decide_eq_true LX];rfl
theorem Yp{H:Heap}{a b:Int}(h1: -9223372036854775808≤a)(h2:a≤9223372036854775807)(h3: -9223372036854775808≤b)(h4:b≤9223372036854775807):
 Fn Tryz.prog 43 #[.int .i64 a,.int .i64 b] H (kp H ((a:Rat)/(b:Rat))):=by
 have hs:∀n:Int,-9223372036854775808≤n→n≤9223372036854775807→aO (n:Rat)≤3:=fun n h1 h2=>by
  have k1:(an n.natAbs).length≤3:=jd.2 (by rw[cj];omega)
  have k2:(an 1).length≤3:=by rw[uZ];decide
  have:=(X3 (decide (n<0)) n.natAbs 1 3 k1 k2).2 (by decide)
  rwa [Gk]at this
 refine a7 (args:=[_,_]) Tryz.func43 rfl rfl Tryz.ntmps43 rfl rfl fun w0=> ?_;refine aj [0,1] rfl ?_;refine ag (bt bY rfl (ae [0,1,4] ?_));refine ag (ab 1 rfl (aE rfl rfl (pX h1 h2) ?_));rintro w1 G1 ⟨fq,cB⟩;obtain⟨u1,x1,rfl,eO,eV⟩:=id cB;obtain⟨mA,mB,rfl,mC,mD⟩:=id eO;obtain⟨tz,tA,rfl,tB,tC⟩:=id eV;refine ab 1 rfl (aE rfl rfl (pX h3 h4) ?_);rintro w2 G2 ⟨dP,bU⟩;obtain⟨u2,x2,rfl,fQ,eP⟩:=id bU;obtain⟨oR,oS,rfl,oT,oU⟩:=id fQ;obtain⟨oV,oW,rfl,oX,oY⟩:=id eP;refine aE rfl rfl (QR (N:=3) ((cB.le dP).raw.mono (hs a h1 h2)) (bU.raw.mono (hs b h3 h4)) (by decide)) ?_;rintro v3 H3 ⟨gO,r3,rfl,jC⟩;obtain⟨u3,x3,rfl,o6,gA⟩:=id jC;obtain⟨Bl,Bm,rfl,Bn,Bp⟩:=id o6;obtain⟨Bq,Br,rfl,Bs,Bt⟩:=id gA;refine ab 3 rfl (bt bY rfl ?_);obtain⟨ti,ak,al⟩:=aY;refine aH (.inl ⟨rfl,rfl⟩) rfl rfl rfl ak al rfl rfl rfl (ab 1 rfl (ae [4,5] ?_));refine ag (vr 1 ?_);obtain⟨ti,ak,al⟩:=aY;refine aH (.inl ⟨rfl,rfl⟩) rfl rfl rfl ak al rfl rfl rfl (ae [4] ?_);obtain⟨bQ,aM,aN⟩:=aY;refine aD ⟨.inr rfl,_,.agg rfl Tryz.underlying31 aM aN (.nil),?_⟩
 exact⟨(fq.trans dP).trans gO,jC⟩
end Go.au
namespace Go.au
open Go.Proofs Num Lp
theorem BS(L:TL)(a:Nat→Rat)(sg:Rat)(k:Nat):ke L a sg (k+1)=if 0≤L.mZ k then bV (bV (ke L a sg k) (L.pF k) (a k*sg)) (L.mZ k).toNat (-(a k*sg))else bV (ke L a sg k) (L.pF k) (a k*sg):=rfl
theorem ag0{H:Heap}{g:Nat}{ts:List Value}{pv mv:Value}{L:TL}{n N:Nat}{vs ss:List Value}{r:List Rat×Int×Rat}{slack:Int}{unit:Nat}{sg:Rat}
 (hg:H g=some ⟨ts,9,97,true⟩) (KJ:ts[0]? = some (.int .i64 (L.w:Int))) (fe:ts[2]? = some pv) (BT:ts[3]? = some mv) (rZ:aR vj 1 (rem H [g]) pv L.plus) (vn:aR Bx 1 (rem H [g]) mv L.minus)
 (hr:fu N (rem H [g]) vs r) (hs:bR (rem H [g]) ss sg) (lR:aO sg≤1) (hn:r.1.length=n) (Kk:L.plus.length=n) (qq:L.minus.length=n) (yq:∀j,j<n→L.pF j<L.w) (XF:∀j,j<n→L.mZ j<L.w)
 (fH:r.2.1≠2→0≤slack∧slack<L.w) (pR:unit<L.w) (hN:(N:Int)≤549755813888) (hw:(L.w:Int)≤1000000) (QS:(n:Int)≤1000000):
 Fn Tryz.prog 124 #[.pointer (some ⟨g,0,none⟩),.agg vs.toArray,.agg ss.toArray,.int .i64 slack,.int .i64 (unit:Int)] H (fun v H'=>Heap.le H H'∧∃z xs,v = .slice (some ⟨z,0,none⟩) (L.w+1) (L.w+1)∧ft [g] H H' z xs ((L.w+1)*3) 90∧bC (bR (rem H' (z :: [g]))) 3 xs (aK (LL L n (fn r.1) r.2.2 r.2.1 slack unit sg) (L.w+1))):=by
 obtain⟨ns,ds,bs,rfl⟩:=hs.cells
 obtain⟨Ac,cc,kk,f,A1,m1,c1,A2,m2,c2,rfl,rfl⟩:=hr.cells
 obtain⟨c',f',u',w',lO,oJ,pS⟩:=id hr
 simp only[List.cons.injEq,Value.bool.injEq,and_true,true_and]at lO
 obtain⟨rfl,rfl,rfl,rfl⟩:=lO
 have aZ:∀q,q∈[g]→H q≠none:=fun q hq=>by rw[List.mem_singleton.1 hq,hg];simp
 obtain⟨Ap,cp,xp,rfl,l4,BB⟩:=rZ.one
 obtain⟨Am,cm,xm,rfl,j8,GZ⟩:=vn.one
 rw[Kk]at fe
 rw[qq]at BT
 have BH:∀{H':Heap}{z:Nat}{xs:List Value}{s e:Nat},ft [g] H H' z xs s e→H' g=some ⟨ts,9,97,true⟩:=fun kI=>(kI.same g (List.mem_singleton.2 rfl)).trans hg
 have fi:∀{H':Heap}{k:Nat}{v:Value},H' g=some ⟨ts,9,97,true⟩→ts[k]? = some v→cell H' ((⟨g,0,none⟩:Addr).add k)=some v:=fun h1 h2=>by simp[cell,iN,h1,h2]
 have Yq:∀{H':Heap},H' g=some ⟨ts,9,97,true⟩→cell H' (⟨g,0,none⟩:Addr)=some (.int .i64 (L.w:Int)):=fun h1=>by have:=fi (k:=0) h1 KJ;rwa [iN]at this
 have hLp:∀j,j<n→L.plus[j]? = some (L.pF j):=fun j hj=>by
  have:j<L.plus.length:=by rw[Kk];exact hj
  simp[TL.pF,List.getD,List.getElem?_eq_getElem this]
 have hLm:∀j,j<n→L.minus[j]? = some (L.mZ j):=fun j hj=>by
  have:j<L.minus.length:=by rw[qq];exact hj
  simp[TL.mZ,List.getD,List.getElem?_eq_getElem this]
 refine a7 (args:=[_,_,_,_,_]) Tryz.func124 rfl rfl Tryz.ntmps124 rfl rfl fun w0=> ?_;refine aj [0,1,2,3,4] rfl ?_;refine ag (bX rfl rfl (bX rfl rfl (ab 1 rfl (ae [0,3,4,6,7] ?_))));refine ag (ab 2 rfl (aU ah rfl rfl rfl (aS ah rfl rfl rfl (Yq hg) (aG rfl rfl ⟨by omega,by omega⟩ (aE rfl rfl (GV (gs:=[g]) (n:=L.w+1) aZ (by omega)) ?_)))));rintro v1 H1 ⟨cH,z,qH,rfl,D8,Yr⟩;have ag1:=(Yr H).len;rw[bg]at ag1;refine ab 1 rfl (ae [0,3,4,6,7,11] ?_);refine ao (ag (ab 2 rfl (aE rfl rfl (Fn.LC (gs:=z :: [g]) (D8.ne aZ) (W3 (oJ.le (dI N) D8.le) (by omega) (by omega))) ?_)));rintro v2 H2 ⟨fN,dG,pT⟩;have eM:=D8.kept fN;obtain⟨Av,cv,xv,rfl,l5,uD⟩:=pT.num;rw[hn];refine ab 2 rfl (ae [0,3,4,6,7,11,22,23,24] ?_);refine aF (gX (fun(k:Nat)(xs:List Value)=>n-k) (fun(k:Nat)(xs:List Value)=>put (put (put (put (put (put (put (put (put (emp) 0 (.val (.pointer (some ⟨g,0,none⟩)))) 3 (.val (.int .i64 slack))) 4 (.val (.int .i64 (unit:Int)))) 6 (.box [.slice Ac n cc,.int .i64 r.2.1,.bool f,.slice A1 m1 c1,.slice A2 m2 c2])) 7 (.box [.int .i64 ns,.int .i64 ds,.pointer bs])) 11 (.val (.slice (some ⟨z,0,none⟩) (L.w+1) (L.w+1)))) 22 (.val (.slice Av n cv))) 23 (.val (.int .i64 (n:Int)))) 24 (.val (.int .i64 (k:Int)))) (fun(k:Nat)(xs:List Value) H'=>ft [g] H H' z xs ((L.w+1)*3) 90∧bC (bR (rem H' (z :: [g]))) 3 xs (aK (ke L (fn r.1) sg k) (L.w+1))∧Heap.le (rem H2 (z :: [g])) (rem H' (z :: [g]))∧Heap.le H H'∧k≤n) 0 qH (⟨eM,by rw[lz (f:=ke L (fn r.1) sg 0) (g:=fun _=>0) (fun j _=>rfl)];exact Yr _,.refl _,cH.trans dG,Nat.zero_le _⟩) ar ?_)
 rintro k xs H3 ⟨kr,xe,im,ane,dt⟩;have cP:=xe.len;rw[bg]at cP;have lS:=BH kr;refine ag (ab 1 rfl (ae [0,3,4,6,7,11,22,23,24,25] ?_));refine ao (aC rfl (fun hb=> ?_) (fun hb=> ?_))
 ·
  have gi:k<n:=by simpa using hb
  obtain⟨q,jN⟩:∃q,r.1[k]? = some q:=⟨_,List.getElem?_eq_getElem (by omega)⟩;obtain⟨n1,d1,b1,dg,eV⟩:=uD k q jN;have nD:fn r.1 k=q:=kT jN
  have QT:aO q≤N+2:=by
   obtain⟨A9,c9,x9,_,_,_,h9⟩:=oJ;exact cn.size (h9.at_ k q jN)
  obtain⟨up,G6,G8⟩:=BB k _ (hLp k gi);obtain⟨um,zj,Hi⟩:=GZ k _ (hLm k gi)
  cases G8
  cases Hi
  have ag2:=yq k gi;have ag3:=XF k gi;refine aA (aj [0,3,4,6,7,11,22,23,24] rfl ?_);refine ao (aF (ag (ab 1 rfl (ck (vs:=[.int .i64 n1,.int .i64 d1,.pointer b1]) ah rfl rfl rfl rfl ((l5.le im).le (bE _ _)) rfl (by decide) eV (by omega) (by omega) fun _=>(bt fg rfl (vr 1 ?_))))));obtain⟨ti,ak,al⟩:=cI;refine aH (.inl ⟨rfl,rfl⟩) rfl rfl rfl ak al rfl rfl rfl (ae [0,3,4,6,7,11,12,13,22,23,24] ?_);refine bO .gD [0,1,2,3,4,5,6,7,8,9,10,11,12] follows (by kernel_rfl) ?_;refine ab 3 rfl (aU ah rfl rfl rfl (aS ah rfl rfl rfl (fi lS fe) (ab 1 rfl (aQ ah rfl rfl rfl rfl rfl ((l4.le kr.le).le (bE _ _)) (by rw[Int.toNat_natCast];exact G6) (by omega) (by omega) fun _=> ?_))));refine ab 2 rfl (bm rfl rfl (Fn.lB (kr.ne aZ) (GA (N:=N+2) (dg.le im) (hs.le kr.le) QT (by omega) (by omega))) (fun _ _ h=>by first | exact h.le | exact h.1) ?_);rintro v4 H4 ⟨gj,dW,n4,d4,b4,rfl,cJ⟩;have r6:=kr.kept gj;rw[←nD]at cJ;obtain⟨ti,ak,al⟩:=cI;refine cQ (.inr rfl) ah rfl rfl rfl (by omega) (by omega) (r6.az) rfl (by show 0+(L.w+1)*3≤xs.length;omega) ak al (fun _=>rfl) rfl rfl rfl fun _=> ?_
  refine ae [0,3,4,6,7,11,12,13,22,23,24] ?_;have se:ft [g] H (ins H4 z {(⟨xs,(L.w+1)*3,90,true⟩:Ent)with xs:=aL xs (0+((L.pF k:Nat):Int).toNat*3) [.int .i64 n4,.int .i64 d4,.pointer b4]}) z (aL xs (L.pF k*3) [.int .i64 n4,.int .i64 d4,.pointer b4]) ((L.w+1)*3) 90:=r6.set (by rw[Int.toNat_natCast];exact pd)
  have LY:bC (bR (rem (ins H4 z {(⟨xs,(L.w+1)*3,90,true⟩:Ent)with xs:=aL xs (0+((L.pF k:Nat):Int).toNat*3) [.int .i64 n4,.int .i64 d4,.pointer b4]}) (z :: [g]))) 3 (aL xs (L.pF k*3) [.int .i64 n4,.int .i64 d4,.pointer b4]) (aK (bV (ke L (fn r.1) sg k) (L.pF k) (fn r.1 k*sg)) (L.w+1)):=by
   rw[cF _ (List.mem_cons_self ..)];exact rX (xe.mono fun vs a=>jh _ _ vs a gj.le) (by omega) cJ
  have iO:Heap.le (rem H2 (z :: [g])) (rem (ins H4 z {(⟨xs,(L.w+1)*3,90,true⟩:Ent)with xs:=aL xs (0+((L.pF k:Nat):Int).toNat*3) [.int .i64 n4,.int .i64 d4,.pointer b4]}) (z :: [g])):=by
   rw[cF _ (List.mem_cons_self ..)];exact im.trans gj.le
  generalize ins H4 z {(⟨xs,(L.w+1)*3,90,true⟩:Ent)with xs:=aL xs (0+((L.pF k:Nat):Int).toNat*3) [.int .i64 n4,.int .i64 d4,.pointer b4]}=H5 at se LY iO⊢
  have vq:=BH se;have QW:=LY.len;rw[bg]at QW;refine ag (ab 2 rfl (aU ah rfl rfl rfl (aS ah rfl rfl rfl (fi vq BT) (ab 1 rfl (aQ ah rfl rfl rfl rfl rfl ((j8.le se.le).le (bE _ _)) (by rw[Int.toNat_natCast];exact zj) (by omega) (by omega) fun _=> ?_)))));refine ab 1 rfl (ae [0,3,4,6,7,11,12,13,22,23,24,48] ?_);refine aC rfl (fun hb=> ?_) (fun hb=> ?_)
  ·
   have hb:0≤L.mZ k:=by simpa using hb
   refine eu .gD [0,1,2,3,4,5,6,7,8,9,10,11,12,13] follows (by kernel_rfl) ?_;refine ab 3 rfl (aU ah rfl rfl rfl (aS ah rfl rfl rfl (fi vq BT) (ab 1 rfl (aQ ah rfl rfl rfl rfl rfl ((j8.le se.le).le (bE _ _)) (by rw[Int.toNat_natCast];exact zj) (by omega) (by omega) fun _=> ?_))));refine ab 2 rfl (bm rfl rfl (Fn.lB (se.ne aZ) (GA (N:=N+2) (dg.le iO) (hs.le se.le) QT (by omega) (by omega))) (fun _ _ h=>by first | exact h.le | exact h.1) ?_);rintro v6 H6 ⟨qK,rV,n6,d6,b6,rfl,jO⟩;have Ys:=se.kept qK;have wh:=vc q sg;refine bm rfl rfl (Fn.lB (Ys.ne aZ) (DJ jO (by omega))) (fun _ _ h=>by first | exact h.le | exact h.1) ?_;rintro v7 H7 ⟨tJ,pc,n7,d7,b7,rfl,iS⟩;have Yt:=Ys.kept tJ;rw[←nD]at iS;obtain⟨ti,ak,al⟩:=cI;refine cQ (.inr rfl) ah rfl rfl rfl (by omega) (by omega) (Yt.az) rfl (by show 0+(L.w+1)*3≤(aL xs (L.pF k*3) [.int .i64 n4,.int .i64 d4,.pointer b4]).length;omega) ak al (fun _=>rfl) rfl rfl rfl fun _=> ?_;refine aw ?_;have Yu:=Yt.set (pd (xs:=aL xs (L.pF k*3) [.int .i64 n4,.int .i64 d4,.pointer b4]) (vs:=[.int .i64 n7,.int .i64 d7,.pointer b7]) (k:=(L.mZ k).toNat) (sz:=3));refine aj [0,3,4,6,7,11,22,23,24] rfl ?_;refine aB rfl (aG rfl rfl ⟨by omega,by omega⟩ ?_)
   refine ab 1 rfl (aw ?_);exact⟨k+1,_,by omega,ar,Yu,by rw[cF _ (List.mem_cons_self ..),BS,if_pos hb];exact rX (LY.mono fun vs a=>jh _ _ vs a (qK.le.trans tJ.le)) (by omega) iS,by rw[cF _ (List.mem_cons_self ..)];exact(iO.trans qK.le).trans tJ.le,Yu.hle,by omega⟩
  ·
   have hb:¬0≤L.mZ k:=by simpa using hb
   refine aA (aj [0,3,4,6,7,11,22,23,24] rfl ?_);refine aB rfl (aG rfl rfl ⟨by omega,by omega⟩ (ab 1 rfl (aw ?_)));exact⟨k+1,_,by omega,ar,se,by rw[BS,if_neg hb];exact LY,iO,se.hle,by omega⟩
 ·
  have hb:n≤k:=by simpa using hb
  obtain rfl:n=k:=by omega
  refine aV (aj [0,3,4,6,7,11] rfl ?_);refine kE (fun(ys:List Value)=>put (put (put (put (put (emp) 0 (.val (.pointer (some ⟨g,0,none⟩)))) 4 (.val (.int .i64 (unit:Int)))) 6 (.box [.slice Ac n cc,.int .i64 r.2.1,.bool f,.slice A1 m1 c1,.slice A2 m2 c2])) 7 (.box [.int .i64 ns,.int .i64 ds,.pointer bs])) 11 (.val (.slice (some ⟨z,0,none⟩) (L.w+1) (L.w+1)))) (fun(ys:List Value) H'=>ft [g] H H' z ys ((L.w+1)*3) 90∧bC (bR (rem H' (z :: [g]))) 3 ys (aK (sh (ke L (fn r.1) sg n) r.2.1 slack sg) (L.w+1))) ?_ ?_
  ·
   refine ag (ab 2 rfl (ae [0,3,4,6,7,11,64] ?_));refine aF (ag (ab 2 rfl (ae [0,3,4,6,7,11,64,65] ?_)));refine aC rfl (fun hb=> ?_) (fun hb=> ?_)
   ·
    have hb:r.2.1=1:=by simpa using hb
    have ag4:=fH (by omega);refine aB rfl (vr 3 ?_);obtain⟨ti,ak,al⟩:=cI;refine cQ (.inl rfl) ah rfl rfl rfl (by omega) (by omega) (kr.az) rfl (by show 0+(L.w+1)*3≤xs.length;omega) ak al (fun _=>rfl) rfl rfl rfl fun _=> ?_;refine aw ?_;exact⟨_,ar,kr.set pd,by rw[cF _ (List.mem_cons_self ..)];unfold sh;rw[if_pos hb];exact rX xe (by omega) (hs.le kr.le)⟩
   have hb:¬r.2.1=1:=by simpa using hb
   refine ag (ab 2 rfl (ae [0,3,4,6,7,11,71] ?_));refine aC rfl (fun hb=> ?_) (fun hb=> ?_)
   ·
    have nt:r.2.1=3:=by simpa using hb
    have hb:¬r.2.1=1:=by omega
    have ag4:=fH (by omega);refine aB rfl (ab 3 rfl (aE rfl rfl (Fn.lB (kr.ne aZ) (DJ (hs.le kr.le) (by omega))) ?_));rintro v9 H9 ⟨gQ,ix,n9,d9,b9,rfl,fJ⟩;have HD:=kr.kept gQ;obtain⟨ti,ak,al⟩:=cI;refine cQ (.inl rfl) ah rfl rfl rfl (by omega) (by omega) (HD.az) rfl (by show 0+(L.w+1)*3≤xs.length;omega) ak al (fun _=>rfl) rfl rfl rfl fun _=> ?_;refine aw ?_;exact⟨_,ar,HD.set pd,by rw[cF _ (List.mem_cons_self ..)];unfold sh;rw[if_neg hb,if_pos nt];exact rX (xe.mono fun vs a=>jh _ _ vs a gQ.le) (by omega) fJ⟩
   have nt:¬r.2.1=3:=by simpa using hb
   have hb:¬r.2.1=1:=by assumption
   refine aA ?_;exact⟨_,ar,kr,by unfold sh;rw[if_neg hb,if_neg nt];exact xe⟩
  rintro ys H9 ⟨HD,Yv⟩;have Yw:=Yv.len;rw[bg]at Yw;refine ag (ab 2 rfl (aE rfl rfl (wR) ?_));rintro v10 vt ⟨BU,rfl⟩;rw[BU];obtain⟨ti,ak,al⟩:=cI;refine cQ (.inl rfl) ah rfl rfl rfl (by omega) (by omega) (HD.az) rfl (by show 0+(L.w+1)*3≤ys.length;omega) ak al (fun _=>rfl) rfl rfl rfl fun _=> ?_;refine ae [0,6,7,11] ?_;have HE:ft [g] H (ins H9 z {(⟨ys,(L.w+1)*3,90,true⟩:Ent)with xs:=aL ys (0+((unit:Int)).toNat*3) [.int .i64 1,.int .i64 1,.pointer none]}) z (aL ys (unit*3) [.int .i64 1,.int .i64 1,.pointer none]) ((L.w+1)*3) 90:=HD.set (by rw[Int.toNat_natCast];exact pd)
  have QX:bC (bR (rem (ins H9 z {(⟨ys,(L.w+1)*3,90,true⟩:Ent)with xs:=aL ys (0+((unit:Int)).toNat*3) [.int .i64 1,.int .i64 1,.pointer none]}) (z :: [g]))) 3 (aL ys (unit*3) [.int .i64 1,.int .i64 1,.pointer none]) (aK (bV (sh (ke L (fn r.1) sg n) r.2.1 slack sg) unit 1) (L.w+1)):=by
   rw[cF _ (List.mem_cons_self ..)];exact rX Yv (by omega) (wQ _ (n:=1) (by decide) (by decide))
  generalize ins H9 z {(⟨ys,(L.w+1)*3,90,true⟩:Ent)with xs:=aL ys (0+((unit:Int)).toNat*3) [.int .i64 1,.int .i64 1,.pointer none]}=ks at HE QX⊢
  have Ek:=BH HE;have ag5:=QX.len;rw[bg]at ag5;have Yx:=pS.size;refine bO .gD [0,1,2,3,4,5,6,8,7,9,10,11] follows (by kernel_rfl) ?_;refine ab 3 rfl (aU ah rfl rfl rfl (aS ah rfl rfl rfl (Yq Ek) (ab 3 rfl (bm rfl rfl (Fn.lB (HE.ne aZ) (PE (pS.le HE.le) (by omega))) (fun _ _ h=>by first | exact h.le | exact h.1) ?_))));rintro v12 dK ⟨zq,nE,n12,d12,b12,rfl,vx⟩;have BV:=HE.kept zq;refine bm rfl rfl (Fn.lB (BV.ne aZ) (GA (N:=N+2) vx (hs.le BV.le) Yx (by omega) (by omega))) (fun _ _ h=>by first | exact h.le | exact h.1) ?_;rintro v13 ma ⟨xD,p3,Q0,d13,Yy,rfl,sq⟩;have LZ:=BV.kept xD;obtain⟨ti,ak,al⟩:=cI;refine cQ (.inr rfl) ah rfl rfl rfl (by omega) (by omega) (LZ.az) rfl (by show 0+(L.w+1)*3≤(aL ys (unit*3) [.int .i64 1,.int .i64 1,.pointer none]).length;omega) ak al (fun _=>rfl) rfl rfl rfl fun _=> ?_;refine ae [11] ?_;have xE:ft [g] H (ins ma z {(⟨aL ys (unit*3) [.int .i64 1,.int .i64 1,.pointer none],(L.w+1)*3,90,true⟩:Ent)with xs:=aL (aL ys (unit*3) [.int .i64 1,.int .i64 1,.pointer none]) (0+((L.w:Int)).toNat*3) [.int .i64 Q0,.int .i64 d13,.pointer Yy]}) z (aL (aL ys (unit*3) [.int .i64 1,.int .i64 1,.pointer none]) (L.w*3) [.int .i64 Q0,.int .i64 d13,.pointer Yy]) ((L.w+1)*3) 90:=LZ.set (by rw[Int.toNat_natCast];exact pd)
  refine ag (ab 2 rfl (ae [10] ?_));refine aD ⟨.inr rfl,_,.tmp rfl (.nil),?_⟩;exact⟨xE.hle,z,_,rfl,xE,by rw[cF _ (List.mem_cons_self ..)];exact rX (QX.mono fun vs a=>jh _ _ vs a (zq.le.trans xD.le)) (by omega) sq⟩
end Go.au
namespace Go.au
open Go.Proofs Num Lp
def aW(fr:Nat→Bool):Nat→Nat
 | 0=>0
 | k+1=>aW fr k+1+(if fr k then 1 else 0)
def mN(fr:Nat→Bool)(k:Nat):Int:=if fr k then((aW fr k+1:Nat):Int)else -1
def bA(rel:Nat→Int)(c:Nat):Nat→Nat
 | 0=>c
 | i+1=>bA rel c i+(if rel i=2 then 0 else 1)
def eT(rel:Nat→Int)(c i:Nat):Int:=if rel i=2 then -1 else(bA rel c i:Int)
def kJ(b:Rat)(rel:Int):Int:=if b<0∨(b=0∧rel=3)then -1 else 1
def eY(rel s:Int):Bool:=decide ((rel=1∧s=1)∨(rel=3∧s = -1))
def aX(rel sg:Nat→Int)(u:Nat):Nat→Nat
 | 0=>u
 | i+1=>aX rel sg u i+(if eY (rel i) (sg i)then 0 else 1)
def qN(rel sg:Nat→Int)(c u i:Nat):Nat:=if eY (rel i) (sg i)then bA rel c i else aX rel sg u i
theorem sw(b:Rat)(rel:Int):kJ b rel=1∨kJ b rel = -1:=by unfold kJ;split <;> simp
theorem Q3(fr:Nat→Bool)(k:Nat):aW fr k≤2*k:=by
 induction k with
 | zero=>exact Nat.le_refl _
 | succ k ih=>unfold aW;split <;> omega
theorem sx(rel:Nat→Int)(c k:Nat):bA rel c k≤c+k∧c≤bA rel c k:=by
 induction k with
 | zero=>exact⟨Nat.le_refl _,Nat.le_refl _⟩
 | succ k ih=>unfold bA;split <;> omega
theorem tQ(rel sg:Nat→Int)(u k:Nat):aX rel sg u k≤u+k∧u≤aX rel sg u k:=by
 induction k with
 | zero=>exact⟨Nat.le_refl _,Nat.le_refl _⟩
 | succ k ih=>unfold aX;split <;> omega
theorem BW{fr:Nat→Bool}{j k:Nat}(h:j<k):aW fr j+1+(if fr j then 1 else 0)≤aW fr k:=by
 induction k with
 | zero=>omega
 | succ k ih=>
  by_cases e:j=k
  ·subst e;exact Nat.le_refl _
  ·have:=ih (by omega)
   show _≤aW fr k+1+(if fr k then 1 else 0)
   omega
theorem Q4{rel:Nat→Int}{c j k:Nat}(h:j<k):bA rel c j+(if rel j=2 then 0 else 1)≤bA rel c k:=by
 induction k with
 | zero=>omega
 | succ k ih=>
  by_cases e:j=k
  ·subst e;exact Nat.le_refl _
  ·have:=ih (by omega)
   show _≤bA rel c k+(if rel k=2 then 0 else 1)
   omega
theorem Q5{rel sg:Nat→Int}{u j k:Nat}(h:j<k):aX rel sg u j+(if eY (rel j) (sg j)then 0 else 1)≤aX rel sg u k:=by
 induction k with
 | zero=>omega
 | succ k ih=>
  by_cases e:j=k
  ·subst e;exact Nat.le_refl _
  ·have:=ih (by omega)
   show _≤aX rel sg u k+(if eY (rel k) (sg k)then 0 else 1)
   omega
def ints(f:Nat→Int)(k:Nat):List Value:=(List.range k).map fun j=> .int .i64 (f j)
theorem vy(f:Nat→Int)(k:Nat):ints f (k+1)=ints f k ++ [.int .i64 (f k)]:=by
 unfold ints;rw[List.range_succ,List.map_append];rfl
theorem BX(f:Nat→Int)(k:Nat):(ints f k).length=k:=by simp[ints]
theorem vz{f:Nat→Int}{k i:Nat}(h:i<k):(ints f k)[i]? = some (.int .i64 (f i)):=by simp[ints,h]
theorem bW.ints{K:Heap}{v:Value}{f:Nat→Int}{k:Nat}(h:bW K v 3 1 k (au.ints f k)):aR Bx 1 K v ((List.range k).map f):=by
 obtain⟨A,c,rfl⟩:=h.form
 refine⟨A,c,_,by rw[List.length_map,List.length_range],?_,h.rd,⟨by rw[BX,List.length_map,List.length_range,Nat.mul_one],fun i z hz=> ?_⟩⟩
 ·rw[List.length_map,List.length_range]
  rcases h.2 with ⟨k1,k2⟩ | ⟨g,cap,k1,_,k3,_⟩
  ·omega
  ·cases k1;exact k3
 ·rw[List.getElem?_map]at hz
  have hi:i<k:=by
   false_or_by_contra
   rw[List.getElem?_eq_none (by rw[List.length_range];omega)]at hz;cases hz
  rw[List.getElem?_range hi]at hz
  cases hz
  rw[PB (vz hi)];rfl
theorem bW.Q6{K:Heap}{v:Value}{f:Nat→Nat}{k:Nat}(h:bW K v 3 1 k (au.ints (fun j=>(f j:Int)) k)):aR vj 1 K v ((List.range k).map f):=by
 obtain⟨A,c,xs,h1,h2,h3,h4⟩:=bW.ints h
 rw[List.length_map,List.length_range]at h1 h2
 refine⟨A,c,xs,by rw[List.length_map,List.length_range];exact h1,by rw[List.length_map,List.length_range];exact h2,h3,⟨by rw[h4.len,List.length_map,List.length_map],fun i z hz=> ?_⟩⟩
 rw[List.getElem?_map]at hz
 cases hr:(List.range k)[i]? with
 | none=>rw[hr]at hz;cases hz
 | some j=>
  rw[hr]at hz
  cases hz
  exact h4.at_ i (f j:Int) (by rw[List.getElem?_map,hr];rfl)
def BY(v v':Value):Prop:=∀q,v.ownBlock=some q→v'.ownBlock≠some q
theorem BY.symm{v v':Value}(h:BY v v'):BY v' v:=fun q h1 h2=>h q h2 h1
structure mb(K0:Heap)(kR:Value)(e sz n:Nat)(xs:List Value)(v:Value)(K:Heap):Prop where
 own:bW K v e sz n xs
 le:Heap.le K0 K
 new:∀q,v.ownBlock=some q→kR.ownBlock=some q∨K0 q=none
 keep:∀(v':Value)(e' eS n':Nat)(qi:List Value),bW K0 v' e' eS n' qi→BY kR v'→bW K v' e' eS n' qi∧BY v v'
theorem bW.lift{H:Heap}{gs:List Nat}{v:Value}{e sz n:Nat}{xs:List Value}(h:bW (rem H gs) v e sz n xs):bW H v e sz n xs∧∀q,q∈gs→v.ownBlock≠some q:=by
 have h2:∀q,q∈gs→v.ownBlock≠some q:=fun q hq hv=>by
  obtain⟨en,he⟩:=h.block hv
  rw[rem_in hq]at he;cases he
 exact⟨h.same fun q hq=>(bM (fun hm=>h2 q hm hq)).symm,h2⟩
theorem p4{H1 H3:Heap}{gs:List Nat}{kR v3:Value}{e sz n0 n gb:Nat}{qH xs:List Value}{en:Ent}(aZ:∀q,q∈gs→H1 q≠none)(bx:H1 gb=none)(ho:bW (rem H1 gs) kR e sz n0 qH)(ha:App (ins H1 gb en) kR e sz n xs v3 H3):
  mb (rem H1 gs) kR e sz n xs v3 (rem H3 gs)∧∀q,q∈gs→H3 q=H1 q:=by
 obtain⟨hl,hh⟩:=ho.lift
 have L0:¬gb∈gs:=fun h=>aZ gb h bx
 have wY:∀q,q∈gs→ins H1 gb en q≠none:=fun q hq=>by rw[a6 _ _ (fun e=>L0 (by rw[←e];exact hq))];exact aZ q hq
 obtain⟨lN,hs⟩:=ha.rem wY hh
 rw[rM _ L0]at lN
 have hK:rem H1 gs gb=none:=by rw[bM L0];exact bx
 refine⟨⟨lN.own,(Heap.bB _ hK).trans lN.le,fun q hq=>(by
  rcases lN.at_ with h4 | ⟨g',h4,h5⟩
  ·exact .inl (by rw[←h4];exact hq)
  ·rw[h4]at hq
   cases hq
   exact .inr (AS h5).2),fun v' e' eS n' qi h' L1=> ?_⟩,fun q hq=>by rw[hs q hq,a6 _ _ (fun e=>L0 (by rw[←e];exact hq))]⟩
 have h1:bW (ins (rem H1 gs) gb en) v' e' eS n' qi:=h'.ins _ hK
 refine⟨h1.same fun q hq=> ?_,fun q h2 h3=> ?_⟩
 ·obtain⟨El,HF⟩:=h1.block hq
  rw[lN.same q El HF (fun h=>L1 q h hq),HF]
 ·rcases lN.at_ with h4 | ⟨g',h4,h5⟩
  ·exact L1 q (by rw[←h4];exact h2) h3
  ·rw[h4]at h2
   cases h2
   obtain⟨El,HF⟩:=h1.block h3
   rw[h5]at HF;cases HF
def sy(a1:Addr)(v1:Value)(a2:Addr)(v2:Value)(ad:Addr):Option Value:=if ad=a1 then some v1 else if ad=a2 then some v2 else none
theorem lE{a1 a2:Addr}{v1 v2:Value}{H:Heap}(h1:cell H a1=some v1)(h2:cell H a2=some v2):(Mode.cO (sy a1 v1 a2 v2)).fM H:=fun ad v h=>by
 have h':sy a1 v1 a2 v2 ad=some v:=h
 unfold sy at h'
 split at h'
 ·rename_i e;rw[e,h1];exact h'
 ·split at h'
  ·rename_i e;rw[e,h2];exact h'
  ·cases h'
theorem vA{a1 a2:Addr}{v1 v2:Value}:sy a1 v1 a2 v2 a1=some v1:=by simp[sy]
theorem HG{a1 a2:Addr}{v1 v2:Value}(h:a2≠a1):sy a1 v1 a2 v2 a2=some v2:=by simp[sy,h]
theorem HH{g g' o o':Nat}(h:g≠g'):(⟨g,o,none⟩:Addr)≠⟨g',o',none⟩:=fun e=>h (by cases e;rfl)
def qO(_:Heap)(vs:List Value)(b:Bool):Prop:=vs = [.bool b]
theorem qP:Up qO:=fun _ _ _ _ _ h=>h
def eH(N:Nat)(H:Heap)(v:Value)(p:Prg):Prop:=∃fv rv,v = .agg #[fv,rv]∧aR qO 1 H fv p.free∧aR (fu N) 5 H rv p.rows
theorem eH.le{N:Nat}{H H':Heap}{v:Value}{p:Prg}(h:eH N H v p)(hl:Heap.le H H'):eH N H' v p:=by
 obtain⟨fv,rv,h1,h2,h3⟩:=h
 exact⟨fv,rv,h1,h2.le qP hl,h3.le (gm N) hl⟩
section
variable (p:Prg)
abbrev _root_.Lp.Prg.aJ(i:Nat):Int:=kJ (p.lp.b i) (p.lp.rel i)
abbrev _root_.Lp.Prg.c1:Nat:=aW p.lp.free p.lp.n
abbrev _root_.Lp.Prg.u:Nat:=bA p.lp.rel p.c1 p.lp.m
abbrev _root_.Lp.Prg.w:Nat:=aX p.lp.rel p.aJ p.u p.lp.m
abbrev _root_.Lp.Prg.unit(i:Nat):Nat:=qN p.lp.rel p.aJ p.c1 p.u i
def _root_.Lp.Prg.lay:TL:=⟨p.w,p.u,(List.range p.lp.n).map (aW p.lp.free),(List.range p.lp.n).map (mN p.lp.free),(List.range p.lp.m).map p.unit,aK (fun i=>(p.aJ i:Rat)) p.lp.m⟩
def _root_.Lp.Prg.dZ:aq:=⟨p.lp.m,p.w,fun i=>LL p.lay p.lp.n (p.lp.a i) (p.lp.b i) (p.lp.rel i) (eT p.lp.rel p.c1 i) (p.unit i) (p.aJ i:Rat),fun _=>0,p.unit⟩
end
end Go.au
namespace Go.au
theorem vB{H:Heap}{gv g:Nat}{e:Ent}{v:Value}(h:cell H ⟨gv,0,none⟩=some v)(aZ:gv≠g):cell (ins H g e) ⟨gv,0,none⟩=some v:=by
 simp only[cell,a6 _ _ aZ]at h⊢;exact h
theorem sA(z:Int):∀u,u∈[Value.int .i64 z]→u.oneCell'=true:=fun u hu=>by rw[List.mem_singleton]at hu;rw[hu];rfl
theorem ints_set{f:Nat→Int}{m i:Nat}{z:Int}:(ints f m).set i (.int .i64 z)=ints (fun j=>if j=i then z else f j) m:=by
 apply List.ext_getElem?
 intro j
 by_cases hj:j<m
 ·by_cases e:j=i
  ·subst e
   rw[List.getElem?_set_self (by rw[BX];exact hj),vz hj,if_pos rfl]
  ·rw[List.getElem?_set_ne (fun e'=>e e'.symm),vz hj,vz hj,if_neg e]
 ·rw[List.getElem?_eq_none (by rw[List.length_set,BX];omega),List.getElem?_eq_none (by rw[BX];omega)]
theorem Q7{f g:Nat→Int}{m:Nat}(h:∀j,j<m→f j=g j):ints f m=ints g m:=by
 unfold ints
 apply List.map_congr_left
 intro j hj
 rw[h j (List.mem_range.1 hj)]
theorem aR.row{N:Nat}{H:Heap}{v:Value}{l:List (List Rat×Int×Rat)}(h:aR (fu N) 5 H v l):∃A c xs,v = .slice A l.length c∧Rd H A xs∧∀(i:Nat)(r:List Rat×Int×Rat),l[i]? = some r→∃A0 c0 f A1 m1 c1 A2 m2 c2,fu N H [.slice A0 r.1.length c0,.int .i64 r.2.1,.bool f,.slice A1 m1 c1,.slice A2 m2 c2] r∧∀(j:Nat)(u:Value),[.slice A0 r.1.length c0,.int .i64 r.2.1,.bool f,.slice A1 m1 c1,.slice A2 m2 c2][j]? = some u→xs[i*5+j]? = some u:=by
 obtain⟨A,c,xs,h1,_,h3,h4⟩:=h
 refine⟨A,c,xs,h1,h3,fun i r hr=> ?_⟩
 obtain⟨vs,_,h5,h6⟩:=h4.get hr
 obtain⟨A0,c0,k,f,A1,m1,c1,A2,m2,c2,rfl,rfl⟩:=h5.cells
 exact⟨A0,c0,f,A1,m1,c1,A2,m2,c2,h5,h6⟩
theorem fu.bound{N:Nat}{H:Heap}{r:List Rat×Int×Rat}{v0:Value}{f:Bool}{u w:Value}(h:fu N H [v0,.int .i64 r.2.1,.bool f,u,w] r):cn H (.agg #[.bool f,u,w]) r.2.2 N:=by
 obtain⟨c,f',u',w',h1,_,h3⟩:=h
 simp only[List.cons.injEq,Value.bool.injEq,and_true,true_and]at h1
 obtain⟨rfl,rfl,rfl,rfl⟩:=h1
 exact h3
end Go.au
namespace Go.au
def az(v:Value):List Nat:=match v.ownBlock with | some q=>[q] | none=>[]
theorem cM{v:Value}{q:Nat}:q∈az v↔v.ownBlock=some q:=by
 unfold az
 cases h:v.ownBlock with
 | none=>simp
 | some q'=>simp;exact eq_comm
theorem ag6{H H':Heap}{gs:List Nat}{v:Value}{e sz n:Nat}{xs:List Value}(h:Kept (az v++gs) H H')(ho:bW (rem H gs) v e sz n xs):bW (rem H' gs) v e sz n xs∧Heap.le (rem H gs) (rem H' gs)∧∀q,q∈gs→H' q=H q:=by
 have hs:∀q,q∈az v++gs→H' q=H q:=h.same
 have hv:=ho.lift.2
 refine⟨ho.same fun q hq=> ?_,fun q en hq=> ?_,fun q hq=>hs q (List.mem_append_right _ hq)⟩
 ·have:¬q∈gs:=fun hm=>hv q hm hq
  rw[bM this,bM this,hs q (List.mem_append_left _ (cM.2 hq))]
 ·by_cases hb:q∈az v
  ·by_cases hm:q∈gs
   ·rw[rem_in hm]at hq;cases hq
   ·rw[bM hm]at hq
    exact⟨en,by rw[bM hm,hs q (List.mem_append_left _ hb)];exact hq,.refl en⟩
  ·by_cases hm:q∈gs
   ·rw[rem_in hm]at hq;cases hq
   ·have hn:¬q∈az v++gs:=fun h=>by
     rcases List.mem_append.1 h with h | h
     ·exact hb h
     ·exact hm h
    obtain⟨e',h1,h2⟩:=h.le q en (by rw[bM hn];rwa [bM hm]at hq)
    exact⟨e',by rw[bM hm];rwa [bM hn]at h1,h2⟩
theorem ag7{H:Heap}{gs:List Nat}{v:Value}{e sz n:Nat}{xs:List Value}(aZ:∀q,q∈gs→H q≠none)(ho:bW (rem H gs) v e sz n xs):∀q,q∈az v++gs→H q≠none:=fun q hq=>by
 rcases List.mem_append.1 hq with h | h
 ·obtain⟨en,he⟩:=ho.lift.1.block (cM.1 h)
  rw[he];simp
 ·exact aZ q h
theorem Q8{K:Heap}{v:Value}{e sz n:Nat}{xs:List Value}(h:bW K v e sz n xs)(hn:0<n):∃q c,v = .slice (some ⟨q,0,none⟩) n c∧K q=some ⟨xs,c*sz,e,true⟩:=by
 rcases h.2 with ⟨_,h2⟩ | ⟨g,cap,h1,h2,_⟩
 ·omega
 ·exact⟨g,cap,h1,h2⟩
theorem ag8{H H':Heap}{gs b:List Nat}(h:Heap.le H (rem H' gs))(hb:∀q,q∈b→H q=none):Heap.le H (rem H' (b++gs)):=fun q e hq=>by
 obtain⟨e',h1,h2⟩:=h q e hq
 have hm:¬q∈gs:=fun hm=>by rw[rem_in hm]at h1;cases h1
 refine⟨e',?_,h2⟩
 rw[bM (fun h3=>by
  rcases List.mem_append.1 h3 with h3 | h3
  ·rw[hb q h3]at hq;cases hq
  ·exact hm h3)]
 rwa [bM hm]at h1
theorem le_none{H K:Heap}(h:Heap.le H K){q:Nat}(hq:K q=none):H q=none:=by
 cases hh:H q with
 | none=>rfl
 | some e=>(obtain⟨e',h1,_⟩:=h q e hh;rw[hq]at h1;cases h1)
theorem mb.az{K0 K H:Heap}{kR v:Value}{e sz n:Nat}{xs:List Value}(h:mb K0 kR e sz n xs v K)(hl:Heap.le H K0)(hb:∀q,q∈au.az kR→H q=none):∀q,q∈au.az v→H q=none:=fun q hq=>by
 rcases h.new q (cM.1 hq)with h1 | h1
 ·exact hb q (cM.2 h1)
 ·exact le_none hl h1
end Go.au
namespace Go.au
open Go.Proofs Num Lp
def fw(rg:List (Nat×Nat))(bv:Value)(gk g:Nat):List Nat:=rg.map (·.1)++(az bv ++ [gk,g])
def nF(rg:List (Nat×Nat))(gk g:Nat):List Nat:=rg.map (·.1) ++ [gk,g]
def nG(rv:Value)(rg:List (Nat×Nat))(bv:Value)(gk:Nat):List Nat:=az rv++(rg.map (·.1)++(az bv ++ [gk]))
def Q9(w:Nat)(p:Nat×Nat):Value:= .slice (some ⟨p.1,0,none⟩) (w+1) p.2
theorem fT{rg:List (Nat×Nat)}{bv:Value}{gk g q:Nat}:q∈fw rg bv gk g↔q∈rg.map (·.1)∨q∈az bv∨q=gk∨q=g:=by
 unfold fw;simp only[List.mem_append,List.mem_cons,List.not_mem_nil,or_false]
theorem qQ{rg:List (Nat×Nat)}{gk g q:Nat}:q∈nF rg gk g↔q∈rg.map (·.1)∨q=gk∨q=g:=by
 unfold nF;simp only[List.mem_append,List.mem_cons,List.not_mem_nil,or_false]
theorem tR{rg:List (Nat×Nat)}{rv bv:Value}{gk q:Nat}:q∈nG rv rg bv gk↔q∈az rv∨q∈rg.map (·.1)∨q∈az bv∨q=gk:=by
 unfold nG;simp only[List.mem_append,List.mem_cons,List.not_mem_nil,or_false]
structure jD(K:Heap)(g gk w:Nat)(A:Nat→Nat→Rat)(unit:Nat→Nat)(H:Heap)(rv:Value)(k:Nat)(hd:List Value)(bv:Value)(kb:Nat)(rg:List (Nat×Nat)):Prop where
 ne:∀q,q∈fw rg bv gk g→H q≠none
 nd:(fw rg bv gk g).Nodup
 le:Heap.le K (rem H (fw rg bv gk g))
 zr:bW (rem H (fw rg bv gk g)) rv 85 1 k hd
 L2:∀q,q∈az rv→K q=none
 HI:bW H bv 3 1 kb (ints (fun j=>(unit j:Int)) kb)
 row:∀(j:Nat)(p:Nat×Nat),rg[j]? = some p→lA (rem H (fw rg bv gk g)) H p.1 (aK (A j) (w+1))
section
variable {K:Heap} {g gk w:Nat} {A:Nat→Nat→Rat} {unit:Nat→Nat} {H H2:Heap} {rv:Value} {k:Nat} {hd:List Value} {bv:Value} {kb:Nat} {rg:List (Nat×Nat)}
theorem jD.HJ(h:jD K g gk w A unit H rv k hd bv kb rg):∀q,q∈az rv→¬q∈fw rg bv gk g∧H q≠none:=fun q hq=>by
 have h1:=h.zr.lift
 refine⟨fun hm=>h1.2 q hm (cM.1 hq),?_⟩
 obtain⟨e,he⟩:=h1.1.block (cM.1 hq)
 rw[he];simp
theorem jD.neR(h:jD K g gk w A unit H rv k hd bv kb rg):∀q,q∈nG rv rg bv gk→H q≠none:=fun q hq=>by
 rcases tR.1 hq with h1 | h1 | h1 | h1
 ·exact(h.HJ q h1).2
 ·exact h.ne q (fT.2 (.inl h1))
 ·exact h.ne q (fT.2 (.inr (.inl h1)))
 ·exact h.ne q (fT.2 (.inr (.inr (.inl h1))))
theorem HK{rg:List (Nat×Nat)}{bv:Value}{gk g:Nat}(h:(fw rg bv gk g).Nodup):¬g∈rg.map (·.1)∧¬g∈az bv∧gk≠g∧(∀q,q∈az bv→¬q∈rg.map (·.1)∧q≠gk)∧¬gk∈rg.map (·.1):=by
 unfold fw at h
 rw[List.nodup_append,List.nodup_append]at h
 obtain⟨_,⟨_,h2,h3⟩,h4⟩:=h
 have h5:gk≠g:=by
  rw[List.nodup_cons]at h2
  exact fun e=>h2.1 (by rw[e];exact List.mem_singleton.2 rfl)
 refine⟨fun hm=>h4 g hm g (by simp) rfl,fun hm=>h3 g hm g (by simp) rfl,h5,fun q hq=>⟨fun hm=>h4 q hm q (List.mem_append_left _ hq) rfl,fun e=>h3 q hq gk (by simp) e⟩,fun hm=>h4 gk hm gk (by simp) rfl⟩
theorem jD.gR(h:jD K g gk w A unit H rv k hd bv kb rg):¬g∈nG rv rg bv gk:=fun hm=>by
 obtain⟨n1,n2,n3,_⟩:=HK h.nd
 rcases tR.1 hm with h1 | h1 | h1 | h1
 ·exact(h.HJ g h1).1 (fT.2 (.inr (.inr (.inr rfl))))
 ·exact n1 h1
 ·exact n2 h1
 ·exact n3 h1.symm
theorem jD.ag9(h:jD K g gk w A unit H rv k hd bv kb rg){z c:Nat}{xs:List Value}{sz:Nat}(hs:∀q,q∈nG rv rg bv gk→H2 q=H q)(kI:ft [g] (rem H (nG rv rg bv gk)) (rem H2 (nG rv rg bv gk)) z xs sz 90)
  (iw:bC (bR (rem (rem H2 (nG rv rg bv gk)) (z :: [g]))) 3 xs (aK (A rg.length) (w+1))):jD K g gk w A unit H2 rv k hd bv kb (rg ++ [(z,c)])∧H2 g=H g∧H2 gk=H gk:=by
 have Yz:=h.gR
 have ed:H2 g=H g:=by
  have:=kI.same g (List.mem_singleton.2 rfl)
  rwa [bM Yz,bM Yz]at this
 have YA:H2 gk=H gk:=hs gk (tR.2 (.inr (.inr (.inr rfl))))
 have YB:¬z∈nG rv rg bv gk:=fun hm=>by have:=kI.az;rw[rem_in hm]at this;cases this
 have oK:H2 z=some ⟨xs,sz,90,true⟩:=by have:=kI.az;rwa [bM YB]at this
 have ji:H z=none:=by have:=kI.zn;rwa [bM YB]at this
 have nW:z≠g:=fun e=>kI.zg (List.mem_singleton.2 e)
 have YC:¬z∈fw rg bv gk g:=fun hm=>h.ne z hm ji
 have oz:∀q,q∈fw (rg ++ [(z,c)]) bv gk g↔q=z∨q∈fw rg bv gk g:=fun q=>by
  rw[fT,fT,List.map_append,List.mem_append]
  simp only[List.map_cons,List.map_nil,List.mem_singleton]
  constructor
  ·rintro((h | h) | h | h | h)
   ·exact .inr (.inl h)
   ·exact .inl h
   ·exact .inr (.inr (.inl h))
   ·exact .inr (.inr (.inr (.inl h)))
   ·exact .inr (.inr (.inr (.inr h)))
  ·rintro(h | h | h | h | h)
   ·exact .inl (.inr h)
   ·exact .inl (.inl h)
   ·exact .inr (.inl h)
   ·exact .inr (.inr (.inl h))
   ·exact .inr (.inr (.inr h))
 have Ra:∀q,q∈fw rg bv gk g→H2 q=H q:=fun q hq=>by
  rcases fT.1 hq with h1 | h1 | h1 | h1
  ·exact hs q (tR.2 (.inr (.inl h1)))
  ·exact hs q (tR.2 (.inr (.inr (.inl h1))))
  ·rw[h1];exact YA
  ·rw[h1];exact ed
 have l5:∀q,q∈az rv→H2 q=H q:=fun q hq=>hs q (tR.2 (.inl hq))
 have hle:Heap.le (rem H (fw rg bv gk g)) (rem H2 (fw (rg ++ [(z,c)]) bv gk g)):=fun q e hq=>by
  have hm:¬q∈fw rg bv gk g:=fun hm=>by rw[rem_in hm]at hq;cases hq
  rw[bM hm]at hq
  have L3:q≠z:=fun e'=>by rw[e',ji]at hq;cases hq
  have lq:¬q∈fw (rg ++ [(z,c)]) bv gk g:=fun lq=>by
   rcases(oz q).1 lq with h1 | h1
   ·exact L3 h1
   ·exact hm h1
  by_cases hb:q∈az rv
  ·exact⟨e,by rw[bM lq,l5 q hb];exact hq,.refl e⟩
  ·have hR:¬q∈nG rv rg bv gk:=fun hR=>by
    rcases tR.1 hR with h1 | h1 | h1 | h1
    ·exact hb h1
    ·exact hm (fT.2 (.inl h1))
    ·exact hm (fT.2 (.inr (.inl h1)))
    ·exact hm (fT.2 (.inr (.inr (.inl h1))))
   have Gd:q≠g:=fun e'=>hm (fT.2 (.inr (.inr (.inr e'))))
   obtain⟨e',h1,h2⟩:=kI.le q e (by rw[bM (fun h'=>Gd (List.mem_singleton.1 h')),bM hR];exact hq)
   have aha:¬q∈z :: [g]:=fun h'=>by
    rcases List.mem_cons.1 h' with h' | h'
    ·exact L3 h'
    ·exact Gd (List.mem_singleton.1 h')
   rw[bM aha,bM hR]at h1
   exact⟨e',by rw[bM lq];exact h1,h2⟩
 have ahb:Heap.le (rem (rem H2 (nG rv rg bv gk)) (z :: [g])) (rem H2 (fw (rg ++ [(z,c)]) bv gk g)):=fun q e hq=>by
  have h1:¬q∈z :: [g]:=fun h'=>by rw[rem_in h']at hq;cases hq
  rw[bM h1]at hq
  have h2:¬q∈nG rv rg bv gk:=fun h'=>by rw[rem_in h']at hq;cases hq
  rw[bM h2]at hq
  refine⟨e,?_,.refl e⟩
  rw[bM]
  ·exact hq
  ·intro h3
   rcases(oz q).1 h3 with h4 | h4
   ·exact h1 (by rw[h4];exact List.mem_cons_self ..)
   ·rcases fT.1 h4 with h5 | h5 | h5 | h5
    ·exact h2 (tR.2 (.inr (.inl h5)))
    ·exact h2 (tR.2 (.inr (.inr (.inl h5))))
    ·exact h2 (tR.2 (.inr (.inr (.inr h5))))
    ·exact h1 (by rw[h5];exact List.mem_cons_of_mem _ (List.mem_singleton.2 rfl))
 refine⟨⟨fun q hq=> ?_,?_,h.le.trans hle,h.zr.same fun q hq=> ?_,h.L2,h.HI.same fun q hq=>Ra q (fT.2 (.inr (.inl (cM.2 hq)))),fun j p hp=> ?_⟩,ed,YA⟩
 ·rcases(oz q).1 hq with h1 | h1
  ·rw[h1,oK];simp
  ·rw[Ra q h1];exact h.ne q h1
 ·have dT:=h.nd
  unfold fw at dT⊢
  rw[List.map_append,List.append_assoc,List.nodup_append]at *
  refine⟨dT.1,?_,fun a ha b hb=> ?_⟩
  ·simp only[List.map_cons,List.map_nil,List.singleton_append,List.nodup_cons]
   exact⟨fun hm=>YC (by unfold fw;exact List.mem_append_right _ hm),dT.2.1⟩
  ·simp only[List.map_cons,List.map_nil,List.singleton_append,List.mem_cons]at hb
   rcases hb with hb | hb
   ·intro e
    exact YC (by unfold fw;rw[←hb,←e];exact List.mem_append_left _ ha)
   ·exact dT.2.2 a ha b (by simpa using hb)
 ·have h1:=h.HJ q (cM.2 hq)
  have L3:q≠z:=fun e=>h1.2 (by rw[e];exact ji)
  rw[bM h1.1,bM (fun h2=>by
   rcases(oz q).1 h2 with h3 | h3
   ·exact L3 h3
   ·exact h1.1 h3),l5 q (cM.2 hq)]
 ·by_cases hj:j<rg.length
  ·rw[List.getElem?_append_left hj]at hp
   exact(h.row j p hp).le hle (Ra _ (fT.2 (.inl (List.mem_map.2 ⟨p,List.mem_of_getElem? hp,rfl⟩))))
  ·rw[List.getElem?_append_right (by omega)]at hp
   have hj0:j-rg.length=0:=by
    have:=(List.getElem?_eq_some_iff.1 hp).1
    simp at this;omega
   rw[hj0]at hp
   simp only[List.getElem?_cons_zero,Option.some.injEq]at hp
   subst hp
   have:j=rg.length:=by omega
   rw[this]
   exact⟨xs,sz,oK,iw.mono fun vs a=>jh _ _ vs a ahb⟩
theorem jD.ahc(h:jD K g gk w A unit H rv k hd bv kb rg){YD:Value}{k':Nat}{mX:List Value}(hG:mb (rem H (fw rg bv gk g)) rv 85 1 k' mX YD (rem H2 (fw rg bv gk g)))(hs:∀q,q∈fw rg bv gk g→q≠g→H2 q=H q)(hg:H2 g≠none):jD K g gk w A unit H2 YD k' mX bv kb rg:=by
 obtain⟨n1,n2,n3,n4,n5⟩:=HK h.nd
 refine⟨fun q hq=> ?_,h.nd,h.le.trans hG.le,hG.own,hG.az h.le h.L2,h.HI.same fun q hq=> ?_,fun j p hp=> ?_⟩
 ·by_cases e:q=g
  ·rw[e];exact hg
  ·rw[hs q hq e];exact h.ne q hq
 ·have:=cM.2 hq
  exact hs q (fT.2 (.inr (.inl this))) (fun e=>n2 (by rw[←e];exact this))
 ·have hm:p.1∈rg.map (·.1):=List.mem_map.2 ⟨p,List.mem_of_getElem? hp,rfl⟩
  exact(h.row j p hp).le hG.le (hs _ (fT.2 (.inl hm)) (fun e=>n1 (by rw[←e];exact hm)))
theorem jD.ahd(h:jD K g gk w A unit H rv k hd bv kb rg){HL:Value}(hG:mb (rem H (nF rg gk g)) bv 3 1 (kb+1) (ints (fun j=>(unit j:Int)) (kb+1)) HL (rem H2 (nF rg gk g)))(hs:∀q,q∈nF rg gk g→q≠g→H2 q=H q)(hg:H2 g≠none):jD K g gk w A unit H2 rv k hd HL (kb+1) rg:=by
 obtain⟨n1,n2,n3,n4,n5⟩:=HK h.nd
 have Rb:∀q,q∈nF rg gk g→q∈fw rg bv gk g:=fun q hq=>by
  rcases qQ.1 hq with h1 | h1 | h1
  ·exact fT.2 (.inl h1)
  ·exact fT.2 (.inr (.inr (.inl h1)))
  ·exact fT.2 (.inr (.inr (.inr h1)))
 have YE:∀q,q∈nF rg gk g→H2 q≠none:=fun q hq=>by
  by_cases e:q=g
  ·rw[e];exact hg
  ·rw[hs q hq e];exact h.ne q (Rb q hq)
 have sY:=hG.own.lift
 have Rc:∀q,q∈az HL→¬q∈nF rg gk g:=fun q hq hm=>sY.2 q hm (cM.1 hq)
 have L4:∀q,q∈az HL→q∈az bv∨H q=none:=fun q hq=>by
  rcases hG.new q (cM.1 hq)with h1 | h1
  ·exact .inl (cM.2 h1)
  ·exact .inr (by rwa [bM (Rc q hq)]at h1)
 have hle:Heap.le (rem H (fw rg bv gk g)) (rem H2 (fw rg HL gk g)):=fun q e hq=>by
  have hm:¬q∈fw rg bv gk g:=fun hm=>by rw[rem_in hm]at hq;cases hq
  rw[bM hm]at hq
  have hJ:¬q∈nF rg gk g:=fun h1=>hm (Rb q h1)
  obtain⟨e',h1,h2⟩:=hG.le q e (by rw[bM hJ];exact hq)
  rw[bM hJ]at h1
  refine⟨e',?_,h2⟩
  rw[bM]
  ·exact h1
  ·intro h3
   rcases fT.1 h3 with h4 | h4 | h4
   ·exact hm (fT.2 (.inl h4))
   ·rcases L4 q h4 with h5 | h5
    ·exact hm (fT.2 (.inr (.inl h5)))
    ·rw[h5]at hq;cases hq
   ·exact hm (fT.2 (.inr (.inr h4)))
 have ahe:bW (rem H (nF rg gk g)) rv 85 1 k hd:=h.zr.same fun q hq=>by
  have h1:=(h.HJ q (cM.2 hq)).1
  rw[bM h1,bM (fun h2=>h1 (Rb q h2))]
 have L1:BY bv rv:=fun q h1 h2=>(h.HJ q (cM.2 h2)).1 (fT.2 (.inr (.inl (cM.2 h1))))
 obtain⟨D4,Re⟩:=hG.keep _ _ _ _ _ ahe L1
 refine⟨fun q hq=> ?_,?_,h.le.trans hle,D4.same fun q hq=> ?_,h.L2,sY.1,fun j p hp=> ?_⟩
 ·rcases fT.1 hq with h1 | h1 | h1
  ·exact YE q (qQ.2 (.inl h1))
  ·obtain⟨e,he⟩:=sY.1.block (cM.1 h1)
   rw[he];simp
  ·exact YE q (qQ.2 (.inr h1))
 ·have dT:=h.nd
  unfold fw at dT⊢
  rw[List.nodup_append,List.nodup_append]at *
  refine⟨dT.1,⟨?_,dT.2.1.2.1,fun a ha b hb e=> ?_⟩,fun a ha b hb e=> ?_⟩
  ·unfold az;split <;> simp
  ·refine Rc a ha (qQ.2 (.inr ?_))
   rw[e];simpa using hb
  ·rcases List.mem_append.1 hb with h1 | h1
   ·exact Rc b h1 (qQ.2 (.inl (by rw[←e];exact ha)))
   ·exact dT.2.2 a ha b (List.mem_append_right _ h1) e
 ·have h1:¬q∈nF rg gk g:=fun h1=>D4.lift.2 q h1 hq
  rw[bM h1,bM]
  intro h2
  rcases fT.1 h2 with h3 | h3 | h3
  ·exact h1 (qQ.2 (.inl h3))
  ·exact Re q (cM.1 h3) hq
  ·exact h1 (qQ.2 (.inr h3))
 ·have hm:p.1∈rg.map (·.1):=List.mem_map.2 ⟨p,List.mem_of_getElem? hp,rfl⟩
  exact(h.row j p hp).le hle (hs _ (qQ.2 (.inl hm)) (fun e=>n1 (by rw[←e];exact hm)))
theorem jD.YF(h:jD K g gk w A unit H rv k hd bv kb rg):bW (rem H (nF rg gk g)) bv 3 1 kb (ints (fun j=>(unit j:Int)) kb):=by
 obtain⟨n1,n2,n3,n4,n5⟩:=HK h.nd
 refine h.HI.same fun q hq=> ?_
 have hb:=cM.2 hq
 rw[bM]
 intro h1
 rcases qQ.1 h1 with h2 | h2 | h2
 ·exact(n4 q hb).1 h2
 ·exact(n4 q hb).2 h2
 ·exact n2 (by rw[←h2];exact hb)
theorem jD.leR(h:jD K g gk w A unit H rv k hd bv kb rg):Heap.le K (rem (rem H (nG rv rg bv gk)) [g]):=fun q e hq=>by
 obtain⟨e',h1,h2⟩:=h.le q e hq
 have hm:¬q∈fw rg bv gk g:=fun hm=>by rw[rem_in hm]at h1;cases h1
 rw[bM hm]at h1
 refine⟨e',?_,h2⟩
 rw[bM (fun h3=>hm (fT.2 (.inr (.inr (.inr (List.mem_singleton.1 h3)))))),bM]
 ·exact h1
 ·intro h3
  rcases tR.1 h3 with h4 | h4 | h4 | h4
  ·rw[h.L2 q h4]at hq;cases hq
  ·exact hm (fT.2 (.inl h4))
  ·exact hm (fT.2 (.inr (.inl h4)))
  ·exact hm (fT.2 (.inr (.inr (.inl h4))))
end
end Go.au
namespace Go.au
open Go.Proofs Num Lp
section
variable (p:Prg)
theorem zt{j:Nat}(h:j<p.lp.n):p.lay.pF j=aW p.lp.free j:=by
 simp[TL.pF,Prg.lay,List.getD,h]
theorem HM{j:Nat}(h:j<p.lp.n):p.lay.mZ j=mN p.lp.free j:=by
 simp[TL.mZ,Prg.lay,List.getD,h]
theorem mc:p.c1≤p.u:=(sx p.lp.rel p.c1 p.lp.m).2
theorem fj:p.u≤p.w:=(tQ p.lp.rel p.aJ p.u p.lp.m).2
theorem HN{j:Nat}(h:j<p.lp.n):aW p.lp.free j<p.c1:=by
 have:=BW (fr:=p.lp.free) h
 have e:p.c1=aW p.lp.free p.lp.n:=rfl
 omega
theorem Em{j:Nat}(h:j<p.lp.n):mN p.lp.free j<p.c1:=by
 have:=BW (fr:=p.lp.free) h
 have e:p.c1=aW p.lp.free p.lp.n:=rfl
 unfold mN
 by_cases hf:p.lp.free j
 ·rw[if_pos hf]at this⊢;omega
 ·rw[if_neg hf];omega
theorem Rf{i:Nat}(h:i<p.lp.m)(hr:p.lp.rel i≠2):(p.c1:Int)≤eT p.lp.rel p.c1 i∧eT p.lp.rel p.c1 i<p.u:=by
 have h1:=Q4 (rel:=p.lp.rel) (c:=p.c1) h
 have h2:=(sx p.lp.rel p.c1 i).2
 rw[if_neg hr]at h1
 have e:p.u=bA p.lp.rel p.c1 p.lp.m:=rfl
 unfold eT
 rw[if_neg hr];omega
theorem nX{i:Nat}(h:i<p.lp.m):p.unit i<p.w:=by
 have h3:=fj p
 show qN _ _ _ _ _<_
 unfold qN
 by_cases ho:eY (p.lp.rel i) (p.aJ i)=true
 ·rw[if_pos ho]
  have hr:p.lp.rel i≠2:=by
   unfold eY at ho
   rw[decide_eq_true_eq]at ho
   omega
  have:=Rf p h hr
  unfold eT at this
  rw[if_neg hr]at this
  omega
 ·rw[if_neg ho]
  have:=Q5 (rel:=p.lp.rel) (sg:=p.aJ) (u:=p.u) h
  rw[if_neg ho]at this
  have e:p.w=aX p.lp.rel p.aJ p.u p.lp.m:=rfl
  omega
theorem HO:p.w≤2*p.lp.n+2*p.lp.m:=by
 have h1:=(tQ p.lp.rel p.aJ p.u p.lp.m).1
 have h2:=(sx p.lp.rel p.c1 p.lp.m).1
 have h3:=Q3 p.lp.free p.lp.n
 have e1:p.w=aX p.lp.rel p.aJ p.u p.lp.m:=rfl
 have e2:p.u=bA p.lp.rel p.c1 p.lp.m:=rfl
 have e3:p.c1=aW p.lp.free p.lp.n:=rfl
 omega
theorem ahf{i:Nat}{r:List Rat×Int×Rat}(h:p.rows[i]? = some r):p.dZ.A i=LL p.lay p.lp.n (fn r.1) r.2.2 r.2.1 (eT p.lp.rel p.c1 i) (p.unit i) (p.aJ i:Rat):=by
 show LL p.lay p.lp.n (fn (p.row i).1) (p.row i).2.2 (p.row i).2.1 _ _ _=_
 rw[Prg.ly h]
end
theorem jD.tab{K H:Heap}{g gk:Nat}{p:Prg}{rv bv pv mv uv sv:Value}{rg:List (Nat×Nat)}(h:jD K g gk p.w p.dZ.A p.unit H rv p.lp.m (rg.map (Q9 p.w)) bv p.lp.m rg)(hl:rg.length=p.lp.m)
  (hg:H g=some ⟨[.int .i64 (p.w:Int),.int .i64 (p.u:Int),pv,mv,uv,sv,rv,.slice none 0 0,bv],9,97,true⟩) (rZ:aR vj 1 K pv p.lay.plus) (vn:aR Bx 1 K mv p.lay.minus) (Hl:aR vj 1 K uv p.lay.eG) (wy:aR bR 3 K sv p.lay.j7):
  ∃G:TG,Value.pointer (some ⟨g,0,none⟩) = .pointer (some ⟨G.g,0,none⟩)∧dC H G p.lay p.dZ∧G.cb = []∧Heap.le K (rem H G.gs):=by
 obtain⟨Ar,cr,rfl⟩:=h.zr.form
 obtain⟨n1,n2,n3,n4,n5⟩:=HK h.nd
 have dT:=h.nd
 unfold fw at dT
 rw[List.nodup_append,List.nodup_append]at dT
 let G:TG:=⟨g,cr,Ar,pv,mv,uv,sv,.slice none 0 0,bv,rg,[],az bv⟩
 have oz:∀q,q∈G.gs→q∈fw rg bv gk g:=fun q hq=>by
  rcases List.mem_cons.1 hq with h1 | h1
  ·exact fT.2 (.inr (.inr (.inr h1)))
  ·rcases List.mem_append.1 h1 with h2 | h2
   ·cases h2
   ·rcases List.mem_append.1 h2 with h3 | h3
    ·exact fT.2 (.inr (.inl h3))
    ·exact fT.2 (.inl h3)
 have hle:Heap.le (rem H (fw rg bv gk g)) (rem H G.gs):=fun q e hq=>by
  have hm:¬q∈fw rg bv gk g:=fun hm=>by rw[rem_in hm]at hq;cases hq
  rw[bM hm]at hq
  exact⟨e,by rw[bM (fun h'=>hm (oz q h'))];exact hq,.refl e⟩
 have hK:=h.le.trans hle
 refine⟨G,rfl,⟨rfl,fj p,hg,?_,hl,⟨_,h.zr.rd.le hle,fun i q hq=> ?_⟩,fun i q hq=>(h.row i q hq).le hle rfl,?_,rZ.le mJ hK,vn.le vk hK,Hl.le mJ hK,wy.le jh hK,fun q hq=>by cases hq⟩,rfl,hK⟩
 ·show (g::([]++(az bv++rg.map (·.1)))).Nodup
  rw[List.nil_append,List.nodup_cons,List.nodup_append]
  refine⟨fun hm=> ?_,dT.2.1.1,dT.1,fun a ha b hb e=>(n4 a ha).1 (by rw[e];exact hb)⟩
  rcases List.mem_append.1 hm with h1 | h1
  ·exact n2 h1
  ·exact n1 h1
 ·rw[List.getElem?_map,show rg[i]? = some q from hq];rfl
 ·rcases h.HI.2 with ⟨h1,h2⟩ | ⟨gb,cb,h1,h2,_⟩
  ·refine .inl ⟨h2,?_,h1⟩
   show az bv = []
   rw[h1];rfl
  ·refine .inr ⟨gb,cb,_,?_,h1,h2⟩
   show az bv = [gb]
   rw[h1];rfl
theorem jD.new{H:Heap}{g gk w:Nat}{A:Nat→Nat→Rat}{unit:Nat→Nat}(aZ:∀q,q∈[gk,g]→H q≠none)(h:gk≠g):jD (rem H [gk,g]) g gk w A unit H (.slice none 0 0) 0 [] (.slice none 0 0) 0 []:=
 ⟨aZ,(by show [gk,g].Nodup;simp[h]),.refl _,lk _ _ _,(fun q hq=>by cases hq),lk _ _ _,(fun j p hp=>by simp at hp)⟩
theorem bW.nums{K K':Heap}{v:Value}{f:Nat→Rat}{k:Nat}{ys:List Value}(h:bW K v 90 3 k ys)(hy:∀K:Heap,bC (bR K) 3 ys (aK f k))(hl:Heap.le K K'):aR bR 3 K' v (aK f k):=by
 obtain⟨A,c,rfl⟩:=h.form
 refine⟨A,c,_,by rw[bg],?_,h.rd.le hl,hy _⟩
 rw[bg]
 rcases h.2 with ⟨k1,k2⟩ | ⟨g,cap,k1,_,k3,_⟩
 ·omega
 ·cases k1;exact k3
theorem YG{s:Int}(h:s=1∨s = -1):aO (s:Rat)≤1:=by
 rcases h with h | h <;> subst h <;> decide
theorem BZ(A:Option Addr)(k c:Nat):∀u,u∈[Value.slice A k c]→u.oneCell'=true:=fun u hu=>by rw[List.mem_singleton]at hu;rw[hu];rfl
end Go.au
