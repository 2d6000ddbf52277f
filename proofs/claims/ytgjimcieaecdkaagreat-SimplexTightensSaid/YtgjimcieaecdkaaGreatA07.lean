/- Part 7 of the proof: Ref5, Ref6, Tab9, Nt, Nt2, Nt3, Lay1. -/
import Derived.Test.YtgjimcieaecdkaaGreatA06
set_option linter.unusedVariables false
namespace Go.au
open Go.Proofs Num
theorem Mo{x y:Nat}:(0<gN x y)↔y<x:=by
 unfold gN;split
 ·omega
 ·split <;> omega
theorem VF{x y:Nat}:(gN x y<0)↔x<y:=by
 unfold gN;split
 ·omega
 ·split <;> omega
theorem zh{x y:Nat}:(0≤gN x y)↔y≤x:=by
 unfold gN;split
 ·omega
 ·split <;> omega
theorem Mp{l:List Nat}{k d:Nat}(h:l[k]? = some d):val (l.drop k)=d+B*val (l.drop (k+1)):=by
 obtain⟨hk,e⟩:=List.getElem?_eq_some_iff.1 h
 rw[List.drop_eq_getElem_cons hk,e,fV]
theorem VG{a:Nat}{l:List Nat}(ha:a<B)(h:Lt l):Lt (a::l):=fun z hz=>by
 rcases List.mem_cons.1 hz with rfl | hz
 ·exact ha
 ·exact h z hz
theorem gZ.VH{H:Heap}{v:Value}{l:List Nat}(h:bm H v 92 1 l.length (U l)):fI H v l:=gZ.lR h
theorem zi{H:Heap}{u v:Value}{x y:Nat}(hx:cn H u x)(hy:cn H v y)(fE:0<y)(hm:((af x).length:Int)<4398046511104)(aS:((af y).length:Int)<4398046511104):
 Fn Tryz.prog 87 #[u,v] H (Ke H x y):=by
 have g6:=hx
 have tj:=hy
 obtain⟨A,c,rfl,hc,hr⟩:=hx
 obtain⟨A',c',rfl,gA,cF⟩:=hy
 have fJ:=(dO x).lt
 have eh:=(dO y).lt
 have SK:(af y).length≠0:=fun e=>Fj fE (List.eq_nil_of_length_eq_zero e);refine aU (args:=[_,_]) Tryz.func87 rfl rfl Tryz.ntmps87 rfl rfl fun w0=> ?_;refine ah [0,1] rfl ?_;refine ae (aa 2 rfl (ab [0,1] ?_));refine ao (ae (aa 2 rfl (aq rfl rfl (C7 g6 tj (by omega)) ?_)));rintro v1 H1 ⟨e1,rfl⟩;rw[e1];refine aa 1 rfl (ab [0,1,15] ?_);refine az rfl (fun hb=> ?_) (fun hb=> ?_)
 ·
  have p3:x<y:=VF.1 (by simpa using hb);refine ae (aa 1 rfl (aq rfl rfl (uk g6 fJ (by omega)) ?_));rintro v1 H1 hp;rw[bX]at hp;refine aa 2 rfl (ab [4,5] ?_);refine ar ⟨.inr rfl,_,.tmp rfl (.tmp rfl (.nil)),?_⟩;exact⟨hp.le,_,_,rfl,by rw[Nat.div_eq_of_lt p3];exact pV _,by rw[Nat.mod_eq_of_lt p3];exact hp.nat⟩
 ·
  have p3:y≤x:=zh.1 (by simpa using hb);refine aw (ah [0,1] rfl ?_);refine ao (ae (aa 3 rfl (ab [0,1,20] ?_)));refine az rfl (fun hb=> ?_) (fun hb=> ?_)
  ·
   have hb:(af y).length=1:=by simp at hb;omega
   have GG:(af y)[0]? = some y:=by
    obtain⟨z,hz⟩:=List.length_eq_one_iff.1 hb;have:=bX y;rw[hz]at this⊢
    simp[val]at this
    simp[this]
   have ye:=eh.get GG;rw[bt]at ye;refine ae (aa 2 rfl (a5 ag rfl rfl rfl rfl rfl (cF) (cA GG) (by omega) (by omega) fun _=>(ct ag rfl rfl rfl ⟨by omega,by omega⟩ (aq rfl rfl (Vw g6 fJ ye fE (by omega)) ?_))));rintro v1 H2 ⟨hle,q,rfl,hq⟩;refine vr 1 ?_;rw[bX]at hq⊢;refine aa 4 rfl (ab [6,7] ?_);refine ae (aa 2 rfl (aq rfl rfl (ze (x:=x%y) (by have:=Nat.mod_lt x fE;omega)) ?_));intro v1 H3 hp;refine aa 2 rfl (ab [4,5] ?_);refine ar ⟨.inr rfl,_,.tmp rfl (.tmp rfl (.nil)),?_⟩;exact⟨hle.trans hp.le,_,_,rfl,hq.le hp.le,hp.nat⟩
  have hb:(af y).length≠1:=by simp at hb;omega
  have fp:2≤(af y).length:=by omega
  refine aw (ah [0,1] rfl ?_);refine ae (aa 2 rfl (ja Tryz.underlying27 cR rfl rfl rfl (by omega) (by omega) (by omega) (by omega) ?_));intro g hg;rw[show (((af x).length:Int)).toNat=(af x).length from by omega,rf];refine aa 1 rfl (ab [0,1,8] ?_);refine ae (aa 1 rfl (ab [0,1,8,9] ?_));refine ao (ae (aa 2 rfl (cY rfl rfl ⟨by omega,by omega⟩ (aa 1 rfl (ab [0,1,8,9,10] ?_)))));refine aD (oI (fun(k:Nat)(rv:Value)(r:Nat)(l:List Nat)=>k) (fun(k:Nat)(rv:Value)(r:Nat)(l:List Nat)=>put (put (put (put (put (emp) 0 (.val (.slice A (af x).length c))) 1 (.val (.slice A' (af y).length c'))) 8 (.val (.slice (some ⟨g,0,none⟩) (af x).length (af x).length))) 9 (.val (rv))) 10 (.val (.int .i64 ((k:Int)-1)))) (fun(k:Nat)(rv:Value)(r:Nat)(l:List Nat) H'=>Heap.le H (rem H' [g])∧H' g=some (cC l (af x).length)∧l.length=(af x).length∧Lt l∧k≤(af x).length∧r<y∧cn (rem H' [g]) rv r∧val ((af x).drop k)=val (l.drop k)*y+r) (af x).length (.slice none 0 0) 0 _ (⟨by rw[tG _ hg,ry];exact .refl _,bn _ _ _,by simp,Lt.replicate _,Nat.le_refl _,fE,pV _,by simp[val]⟩) av ?_);rintro k rv r l H1 ⟨hle,x8,pY,a8,hk,GH,jI,hv⟩
  obtain⟨Ar,cr,rfl,nK,yF⟩:=id jI;have aaD:=jd (Nat.le_of_lt GH);have kL:=hle.trans (bE H1 [g]);refine ao (ae (aa 2 rfl (ab [0,1,8,9,10,40] ?_)));refine az rfl (fun hb=> ?_) (fun hb=> ?_)
  ·
   have hb:0<k:=by simp at hb;omega
   obtain⟨ai,GI⟩:∃d,(af x)[k-1]? = some d:=⟨_,List.getElem?_eq_getElem (by omega)⟩;have Mq:=fJ.get GI;rw[bt]at Mq
   have Mr:(((k:Int)-1)).toNat=k-1:=by omega
   refine aw (ah [0,1,8,9,10] rfl ?_);refine ao (aD (ae (aa 2 rfl (a5 ag rfl rfl rfl rfl rfl (hr.le kL) (by rw[Mr];exact cA GI) (by omega) (by omega) fun _=> ?_))));refine dD Tryz.underlying27 cR rfl rfl rfl rfl rfl rfl rfl ?_;intro gb bO
   have GJ:gb≠g:=fun e=>by subst e;rw[x8]at bO;cases bO
   refine aa 1 rfl (eX Tryz.underlying27 cR rfl rfl ((⟨rfl,.inr ⟨gb,1,rfl,bn _ _ _,Nat.le_refl _,by decide⟩⟩:bm _ _ 92 1 1 (U [ai]))) ((yF.le (bE _ _)).le (Heap.bh _ bO)) (by rw[s5,Nat.mul_one]) (ks _) (by omega) (by omega) ?_);intro v1 H2 ha;have nB:=ha.rem (gs:=[g]) (fun q hq=>by simp only[List.mem_singleton]at hq;subst hq;rw[bD _ _ (Ne.symm GJ),x8];simp) (fun q hq=>by simp only[List.mem_singleton]at hq;subst hq;intro e;cases e;exact GJ rfl)
   have dC:H2 g=some (cC l (af x).length):=by rw[nB.2 g (List.mem_singleton.2 rfl),bD _ _ (Ne.symm GJ),x8]
   have ez:Heap.le (rem H1 [g]) (rem H2 [g]):=(KG [g] (Heap.bh _ bO)).trans nB.1.le;have VI:fI (rem H2 [g]) v1 (ai::af r):=gZ.VH (by have h0:=nB.1.own;rw[←BM,Nat.add_comm]at h0;exact h0);refine aq rfl rfl (Fn.frame (gs:=[g]) (fun q hq=>by simp only[List.mem_singleton]at hq;subst hq;rw[dC];simp) (uk VI (VG (by rw[bt];exact Mq) (dO r).lt) (by rw[List.length_cons];omega))) ?_;rintro v2 H3 ⟨dG,ui⟩;rw[fV,bX]at dG;obtain⟨r1,Ms⟩:∃r1,r1=ai+B*r:=⟨_,rfl⟩;rw[←Ms]at dG;have lU:=(ui g (List.mem_singleton.2 rfl)).trans dC;have fL:=ez.trans dG.le
   have Db:r1<B*y:=by rw[Ms,bt];omega
   have VJ:(af r1).length≤(af y).length+1:=fW.2 (by rw[Nat.pow_succ,Nat.mul_comm _ B];exact Nat.lt_trans Db (Nat.mul_lt_mul_of_pos_left (vx y) jv));have zj:=(tj.le hle).le fL;have fM:=dG.nat;obtain⟨A3,c3,rfl,oV,lg⟩:=id fM;refine aa 1 rfl (ab [0,1,8,9,10] ?_);refine ae (aa 2 rfl (aq rfl rfl (Fn.frame (gs:=[g]) (fun q hq=>by simp only[List.mem_singleton]at hq;subst hq;rw[lU];simp) (Vy fM zj fp VJ (by omega))) ?_));rintro v3 H4 ⟨⟨eF,d0,rfl,mh⟩,Md⟩;have uq:=(Md g (List.mem_singleton.2 rfl)).trans lU
   have eY:Heap.le (rem H1 [g]) (rem H4 [g]):=by rw[eF];exact fL
   refine aa 1 rfl (ab [0,1,8,9,10,11] ?_);refine nH (fun(d:Nat)=>put (put (put (put (put (put (emp) 0 (.val (.slice A (af x).length c))) 1 (.val (.slice A' (af y).length c'))) 8 (.val (.slice (some ⟨g,0,none⟩) (af x).length (af x).length))) 9 (.val (.slice A3 (af r1).length c3))) 10 (.val (.int .i64 ((k:Int)-1)))) 11 (.val (.int .u64 (d:Int)))) (fun(d:Nat) H'=>Heap.le (rem H3 [g]) (rem H' [g])∧H' g=some (cC l (af x).length)∧d≤999999999∧y*d≤r1) ?_ ?_
   ·
    refine aD (gm (fun(d:Nat)=>d) (fun(d:Nat)=>put (put (put (put (put (put (emp) 0 (.val (.slice A (af x).length c))) 1 (.val (.slice A' (af y).length c'))) 8 (.val (.slice (some ⟨g,0,none⟩) (af x).length (af x).length))) 9 (.val (.slice A3 (af r1).length c3))) 10 (.val (.int .i64 ((k:Int)-1)))) 11 (.val (.int .u64 (d:Int)))) (fun(d:Nat) H'=>Heap.le (rem H3 [g]) (rem H' [g])∧H' g=some (cC l (af x).length)∧d≤999999999) d0 (⟨by rw[eF];exact .refl _,uq,mh⟩) av ?_);rintro d H5 ⟨eR,ph,VK⟩;have ur:=zj.le eR;have Dc:=fM.le eR;refine ao ?_
    rcases Nat.eq_zero_or_pos d with mh | mh
    ·
     subst mh;refine ae (aa 1 rfl (ax false rfl rfl (gD (by omega)) (aa 9 rfl (ab [0,1,8,9,10,11,64] ?_))));refine cP rfl (bA ?_);exact⟨0,av,eR,ph,by omega,by omega⟩
    have Gk:(af d).length≤3:=fW.2 (by rw[bt];omega);refine ae (aa 1 rfl (ax true rfl rfl (jU (by omega)) (aa 3 rfl (aq rfl rfl (Fn.frame (gs:=[g]) (fun q hq=>by simp only[List.mem_singleton]at hq;subst hq;rw[ph];simp) (ze (x:=d) (by omega))) ?_))));rintro v4 Ha ⟨qp,GK⟩;have zk:=(GK g (List.mem_singleton.2 rfl)).trans ph;refine aq rfl rfl (Fn.frame (gs:=[g]) (fun q hq=>by simp only[List.mem_singleton]at hq;subst hq;rw[zk];simp) (uo (ur.le qp.le) qp.nat (by omega) (by omega))) ?_;rintro v5 Hb ⟨ux,GL⟩;have zl:=(GL g (List.mem_singleton.2 rfl)).trans zk;have mM:=lW y d;refine aa 1 rfl (aq rfl rfl (Fn.frame (gs:=[g]) (fun q hq=>by simp only[List.mem_singleton]at hq;subst hq;rw[zl];simp) (C7 ux.nat ((Dc.le qp.le).le ux.le) (by omega))) ?_);rintro v6 Hc ⟨⟨zm,rfl⟩,tk⟩;have zo:=(tk g (List.mem_singleton.2 rfl)).trans zl
    have Mt:Heap.le (rem H3 [g]) (rem Hc [g]):=by rw[zm];exact(eR.trans qp.le).trans ux.le
    refine aa 2 rfl (ab [0,1,8,9,10,11,64] ?_);refine az rfl (fun hb=> ?_) (fun hb=> ?_)
    ·
     have hb:r1<y*d:=Mo.1 (by simpa using hb);refine aw (ah [0,1,8,9,10,11] rfl ?_);refine aD (aB rfl (aa 1 rfl (cY rfl rfl ⟨by omega,by omega⟩ (aa 1 rfl (ay ?_)))));exact⟨d-1,by omega,av,Mt,zo,by omega⟩
    have hb:y*d≤r1:=by
     have:¬0<gN (y*d) r1:=by simpa using hb
     rw[Mo]at this;omega
    refine bA ?_;exact⟨d,av,Mt,zo,VK,hb⟩
   rintro d H6 ⟨jH,ma,hd6,VL⟩;have VM:=zj.le jH;have rN:=fM.le jH;have Gk:(af d).length≤3:=fW.2 (by rw[bt];omega);refine ae (aa 3 rfl (aq rfl rfl (Fn.frame (gs:=[g]) (fun q hq=>by simp only[List.mem_singleton]at hq;subst hq;rw[ma];simp) (ze (x:=d) (by omega))) ?_));rintro v4 Ha ⟨qp,GK⟩;have zk:=(GK g (List.mem_singleton.2 rfl)).trans ma;refine aq rfl rfl (Fn.frame (gs:=[g]) (fun q hq=>by simp only[List.mem_singleton]at hq;subst hq;rw[zk];simp) (uo (VM.le qp.le) qp.nat (by omega) (by omega))) ?_;rintro v5 Hb ⟨ux,GL⟩;have zl:=(GL g (List.mem_singleton.2 rfl)).trans zk;refine aq rfl rfl (Fn.frame (gs:=[g]) (fun q hq=>by simp only[List.mem_singleton]at hq;subst hq;rw[zl];simp) (Da ((rN.le qp.le).le ux.le) ux.nat VL (by omega))) ?_;rintro v6 Hc ⟨Mu,tk⟩;have uh:=(tk g (List.mem_singleton.2 rfl)).trans zl;have VN:=((jH.trans qp.le).trans ux.le).trans Mu.le;refine aa 1 rfl (ab [0,1,8,9,10,11] ?_);refine ao (aD (ju (fun(d2:Nat)(zp:Value)(r2:Nat)=>r2) (fun(d2:Nat)(zp:Value)(r2:Nat)=>put (put (put (put (put (put (emp) 0 (.val (.slice A (af x).length c))) 1 (.val (.slice A' (af y).length c'))) 8 (.val (.slice (some ⟨g,0,none⟩) (af x).length (af x).length))) 9 (.val (zp))) 10 (.val (.int .i64 ((k:Int)-1)))) 11 (.val (.int .u64 (d2:Int)))) (fun(d2:Nat)(zp:Value)(r2:Nat) H'=>Heap.le (rem H3 [g]) (rem H' [g])∧H' g=some (cC l (af x).length)∧cn (rem H' [g]) zp r2∧r1=y*d2+r2) d _ (r1-y*d) (⟨VN,uh,Mu.nat,by omega⟩) av ?_))
   rintro d2 zp r2 rO ⟨mj,kQ,qq,he8⟩;obtain⟨A8,c8,rfl,GM,hr8⟩:=id qq;have VO:=zj.le mj;have gG:=jd (show r2≤r1 by omega)
   have aaE:d2<1000000000:=by
    false_or_by_contra
    have:y*1000000000≤y*d2:=Nat.mul_le_mul_left _ (by omega);rw[bt,Nat.mul_comm]at Db;omega
   refine ao (ae (aa 2 rfl (aq rfl rfl (Fn.frame (gs:=[g]) (fun q hq=>by simp only[List.mem_singleton]at hq;subst hq;rw[kQ];simp) (C7 qq VO (by omega))) ?_)));rintro v7 H9 ⟨⟨Mw,rfl⟩,kN⟩;have rP:=(kN g (List.mem_singleton.2 rfl)).trans kQ
   have yP:Heap.le (rem H3 [g]) (rem H9 [g]):=by rw[Mw];exact mj
   have Mx:cn (rem H9 [g]) (.slice A8 (af r2).length c8) r2:=by rw[Mw];exact qq
   refine aa 1 rfl (ab [0,1,8,9,10,11,76] ?_);refine az rfl (fun hb=> ?_) (fun hb=> ?_)
   ·
    have hb:y≤r2:=zh.1 (by simpa using hb);refine aw (ah [0,1,8,9,10,11] rfl ?_);refine aD (ae (aa 2 rfl (aq rfl rfl (Fn.frame (gs:=[g]) (fun q hq=>by simp only[List.mem_singleton]at hq;subst hq;rw[rP];simp) (Da Mx (zj.le yP) hb (by omega))) ?_)));rintro v8 uy ⟨My,GN⟩;have VP:=(GN g (List.mem_singleton.2 rfl)).trans rP;refine aa 1 rfl (ab [0,1,8,9,10,11] ?_);refine aB rfl (aa 1 rfl (aJ rfl rfl ⟨by omega,by omega⟩ (aa 1 rfl (ay ?_))));exact⟨d2+1,_,r2-y,by omega,av,yP.trans My.le,VP,My.nat,by rw[Nat.mul_add,Nat.mul_one];omega⟩
   have VQ:r2<y:=by
    have:¬0≤gN r2 y:=by simp at hb;omega
    rw[zh]at this;omega
   obtain⟨r3,rfl⟩:∃r3,r3=r2:=⟨_,rfl⟩;obtain⟨d3,rfl⟩:∃d3,d3=d2:=⟨_,rfl⟩;refine bA (ah [0,1,8,9,10,11] rfl ?_);refine aB rfl (aa 3 rfl (ct ag rfl rfl rfl ⟨by omega,by omega⟩ ?_));obtain⟨ti,aj,ak⟩:=kp;refine dE (.inl rfl) ag rfl rfl rfl (by omega) (by omega) (rP) rfl (by rw[kt];omega) aj ak (fun _=>rfl) rfl rfl rfl fun _=> ?_;refine ay ?_
   have MA:ins H9 g {cC l (af x).length with xs:=aA (cC l (af x).length).xs (0+((k:Int)-1).toNat*1) [.int .u32 (d3:Int)]}=ins H9 g (cC (l.set (k-1) d3) (af x).length):=by
    rw[Mr];simp only[cC,aA,Nat.zero_add,Nat.mul_one,E7]
   have GO:Heap.le H (rem (ins H9 g {cC l (af x).length with xs:=aA (cC l (af x).length).xs (0+((k:Int)-1).toNat*1) [.int .u32 (d3:Int)]}) [g]):=by
    rw[bY _ (List.mem_singleton.2 rfl)];exact(hle.trans fL).trans yP
   have zq:=Mx;refine ah [0,1,8,9,10] rfl ?_;refine aB rfl (aa 1 rfl (cY rfl rfl ⟨by omega,by omega⟩ (aa 1 rfl (ay ?_))));refine⟨k-1,_,r3,l.set (k-1) d3,by omega,av,GO,by rw[MA,bn],by simp[pY],a8.set (by rw[bt];omega),by omega,VQ,by rw[MA,bY _ (List.mem_singleton.2 rfl)];exact zq,?_⟩;rw[Mp GI,show k-1+1=k by omega,Mp (l:=l.set (k-1) d3) (List.getElem?_set_self (by omega)),show k-1+1=k by omega,List.drop_set_of_lt (by omega),hv]
   have h1:B*(val (List.drop k l)*y+r)=B*val (List.drop k l)*y+B*r:=by rw[Nat.mul_add,Nat.mul_assoc]
   have h2:(d3+B*val (List.drop k l))*y=y*d3+B*val (List.drop k l)*y:=by rw[Nat.add_mul,Nat.mul_comm d3]
   rw[h1,h2];omega
  have hb:k=0:=by simp at hb;omega
  subst hb;rw[List.drop_zero,List.drop_zero,bX]at hv
  have VR:val l=x/y:=by rw[hv,Nat.add_comm,Nat.add_mul_div_right _ _ fE,Nat.div_eq_of_lt GH,Nat.zero_add]
  have mf:r=x%y:=by rw[hv,Nat.add_comm,Nat.add_mul_mod_self_right,Nat.mod_eq_of_lt GH]
  refine bA (ah [8,9] rfl ?_);refine ae (aa 1 rfl (aq rfl rfl (uk (l:=l) ⟨some ⟨g,0,none⟩,_,by rw[pY],by omega,fun i v hv=>⟨_,rfl,by simp[cell,iJ,x8,cC,hv]⟩⟩ a8 (by omega)) ?_));rintro v9 jJ zr;refine aa 3 rfl (ab [4,5] ?_);refine ar ⟨.inr rfl,_,.tmp rfl (.tmp rfl (.nil)),?_⟩;exact⟨(hle.trans (bE _ _)).trans zr.le,_,_,rfl,by rw[←VR];exact zr.nat,by rw[←mf];exact(jI.le (bE _ _)).le zr.le⟩
end Go.au
namespace Go.au
open Go.Proofs Num
theorem MB(f:Bool)(n d:Nat)(k:Nat)(hn:(af n).length≤k)(hd:(af d).length≤k):aC (bQ f n d)≤k+1∧(0<d→aC (bQ f n d)≤k):=by
 rcases Nat.eq_zero_or_pos d with e | e
 ·subst e
  rw[BZ]
  refine⟨?_,fun h=>by omega⟩
  have:aC 0=1:=by
   unfold aC
   show max (af 0).length (af 1).length=1
   rw[nJ,oU];rfl
  omega
 ·have h1:=jd (Nat.div_le_self n (Nat.gcd n d))
  have h2:=jd (Nat.div_le_self d (Nat.gcd n d))
  have:aC (bQ f n d)≤k:=by
   unfold aC
   rw[vJ e,tl e];omega
  exact⟨by omega,fun _=>this⟩
theorem cj.size{H:Heap}{v:Value}{q:Rat}{N:Nat}(h:cj H v q N):aC q≤N+2:=by
 obtain⟨f,u,w,l1,l2,_,_,_,h1,h2,h3,h4,rfl⟩:=h
 have k1:=vK h1
 have k2:=vK h2
 exact(MB f _ _ (N+1) (by omega) (by omega)).1
theorem MC{H:Heap}{w:Value}(hw:cn H w 1):du H (.agg #[.bool false,.slice none 0 0,w]) 0:=⟨_,_,rfl,pV H,hw⟩
theorem VS{H:Heap}{f:Bool}{u w:Value}{n d:Nat}(hn:0<n)(hd:0<d)(hu:cn H u (n/Nat.gcd n d))(hw:cn H w (d/Nat.gcd n d)):du H (.agg #[.bool f,u,w]) (bQ f n d):=by
 refine⟨u,w,?_,by rw[vJ hd];exact hu,by rw[tl hd];exact hw⟩
 rw[yh hd hn]
theorem VT(p q:Rat):eE (p-q)=tm p q:=by
 unfold eE tm
 by_cases h:p<q
 ·rw[if_pos (by grind),if_pos h]
 ·rw[if_neg (by grind),if_neg h]
  by_cases e:p=q
  ·rw[if_pos (by grind),if_pos e]
  ·rw[if_neg (by grind),if_neg e]
theorem cn.pj{H:Heap}{v:Value}{x:Nat}(h:cn H v x):fI H v (af x):=h
theorem VU{H:Heap}{u v:Value}{x y:Nat}(hx:cn H u x)(hy:cn H v y)(hm:((af x).length:Int)<4398046511104)(aS:((af y).length:Int)<4398046511104):
 Fn Tryz.prog 86 #[u,v] H (jy H (Nat.gcd x y)):=by
 refine aU (args:=[_,_]) Tryz.func86 rfl rfl Tryz.ntmps86 rfl rfl fun w0=> ?_;refine ah [0,1] rfl ?_;refine ae (aa 1 rfl (ab [0,1] ?_));refine ao (aD (oI (fun(u:Value)(a:Nat)(v:Value)(b:Nat)=>b) (fun(u:Value)(a:Nat)(v:Value)(b:Nat)=>put (put (emp) 0 (.val (u))) 1 (.val (v))) (fun(u:Value)(a:Nat)(v:Value)(b:Nat) H'=>Heap.le H H'∧cn H' u a∧cn H' v b∧((af a).length:Int)<4398046511104∧((af b).length:Int)<4398046511104∧Nat.gcd a b=Nat.gcd x y) _ x _ y (⟨.refl _,hx,hy,hm,aS,rfl⟩) av ?_));rintro u a v b H1 ⟨hle,ha,iw,fJ,eh,hg⟩;obtain⟨Aha,cha,rfl,aaF,aaG⟩:=id ha;obtain⟨aaH,aaI,rfl,aaJ,aaK⟩:=id iw;refine ao (ae (aa 3 rfl (ab [0,1,9] ?_)));refine az rfl (fun hb=> ?_) (fun hb=> ?_)
 ·
  have hb:0<b:=Nat.pos_of_ne_zero fun e=>by rw[gC.2 e]at hb;simp at hb
  refine aw (ah [0,1] rfl ?_);refine aD (ae (aa 2 rfl (aq rfl rfl (zi ha iw hb fJ eh) ?_)));rintro v2 H2 ⟨aW,q2,r2,rfl,bB,jA⟩;refine aa 5 rfl (ab [1,6] ?_);refine aB rfl (aa 4 rfl (ay ?_));have tY:=jd (Nat.le_of_lt (Nat.mod_lt a hb));exact⟨_,b,_,a%b,Nat.mod_lt a hb,av,hle.trans aW,iw.le aW,jA,eh,by omega,by rw[←hg,Nat.gcd_comm b,←Nat.gcd_rec,Nat.gcd_comm]⟩
 ·
  have hb:b=0:=gC.1 (by have:=of_decide_eq_false hb;omega);subst hb;rw[Nat.gcd_zero_right]at hg;subst hg;refine bA (ah [0] rfl ?_);refine ae (aa 2 rfl (ab [4] ?_));refine ar ⟨.inr rfl,_,.tmp rfl (.nil),?_⟩;exact⟨hle,ha⟩
theorem rQ{H:Heap}{u v:Value}{f:Bool}{l1 l2:List Nat}(hu:fI H u l1)(hv:fI H v l2)(h1:∀x,x∈l1→x<4294967296)(h2:∀x,x∈l2→x<4294967296)(hm:(l1.length:Int)≤4398046511000)(aS:(l2.length:Int)≤4398046511000):
 Fn Tryz.prog 50 #[.bool f,u,v] H (iL H (bQ f (val l1) (val l2))):=by
 have k1:=vK h1
 have k2:=vK h2
 obtain⟨Ahu,chu,rfl,aaL,aaM⟩:=id hu
 obtain⟨Ahv,chv,rfl,aaN,aaO⟩:=id hv;refine aU (args:=[_,_,_]) Tryz.func50 rfl rfl Tryz.ntmps50 rfl rfl fun w0=> ?_;refine ah [0,1,2] rfl ?_;refine ae (bG eD rfl (ab [0,1,2,6] ?_));refine ae (aa 1 rfl (aq rfl rfl (Mn hu h1 (by omega)) ?_));rintro v1 H1 eS;refine aa 1 rfl (aq rfl rfl (Mn (hv.le eS.le) h2 (by omega)) ?_);rintro v2 H2 e9;obtain⟨n,hn⟩:∃n,n=val l1:=⟨_,rfl⟩;obtain⟨d,hd⟩:∃d,d=val l2:=⟨_,rfl⟩;rw[←hn]at eS k1;rw[←hd]at e9 k2;have cM:=eS.nat.le e9.le;have fp:=e9.nat;obtain⟨Fy,Fz,rfl,FA,FB⟩:=id cM;obtain⟨Kv,Kw,rfl,Kx,Ky⟩:=id fp;have hle:=eS.le.trans e9.le;rw[←hn,←hd];refine aa 2 rfl (ab [0,1,2,6] ?_);refine ao ?_
 rcases Nat.eq_zero_or_pos n with gn | gn
 ·
  have Dd:=gC.2 gn;refine ae (aa 2 rfl (ax true rfl rfl (eQ (by omega)) (aa 5 rfl (ab [0,1,2,6,19] ?_))));refine cI rfl (ae (dD Tryz.underlying27 cR rfl rfl rfl rfl rfl rfl rfl ?_));intro gb bO;refine eC ag rfl eD rfl rfl ?_;obtain⟨ti,aj,ak⟩:=bP;refine aO (.inl ⟨rfl,rfl⟩) rfl rfl rfl aj ak rfl rfl rfl (ab [6] ?_);obtain⟨bU,aK,aL⟩:=bP;refine ar ⟨.inr rfl,_,.agg rfl Tryz.underlying29 aK aL (.nil),?_⟩;exact⟨hle.trans (Heap.bh _ bO),by rw[gn,p4];exact MC ru⟩
 ·
  have Dd:(af n).length≠0:=fun e=>by rw[gC]at e;omega
  rcases Nat.eq_zero_or_pos d with mh | mh
  ·
   have Dd:=gC.2 mh;refine ae (aa 2 rfl (ax false rfl rfl (fX (by omega)) (aa 3 rfl (ax true rfl rfl (eQ (by omega)) (aa 1 rfl (ab [0,1,2,6,19] ?_))))));refine cI rfl (ae (dD Tryz.underlying27 cR rfl rfl rfl rfl rfl rfl rfl ?_));intro gb bO;refine eC ag rfl eD rfl rfl ?_;obtain⟨ti,aj,ak⟩:=bP;refine aO (.inl ⟨rfl,rfl⟩) rfl rfl rfl aj ak rfl rfl rfl (ab [6] ?_);obtain⟨bU,aK,aL⟩:=bP;refine ar ⟨.inr rfl,_,.agg rfl Tryz.underlying29 aK aL (.nil),?_⟩;exact⟨hle.trans (Heap.bh _ bO),by rw[mh,BZ];exact MC ru⟩
  have bC:(af d).length≠0:=fun e=>by rw[gC]at e;omega
  refine ae (aa 2 rfl (ax false rfl rfl (fX (by omega)) (aa 3 rfl (ax false rfl rfl (fX (by omega)) (aa 1 rfl (ab [0,1,2,6,19] ?_))))));refine cP rfl (aw (ah [0,1,2,6] rfl ?_));refine ae (aa 2 rfl (aq rfl rfl (VU cM fp (by omega) (by omega)) ?_));rintro v3 H3 dG;obtain⟨g,hg⟩:∃g,g=Nat.gcd n d:=⟨_,rfl⟩;rw[←hg]at dG
  have kn:0<g:=by rw[hg];exact Nat.gcd_pos_of_pos_left _ gn
  have fM:=dG.nat;have qj:=jd (show g≤n by rw[hg];exact Nat.gcd_le_left _ gn);have GP:=cM.le dG.le;have GQ:=fp.le dG.le;obtain⟨FC,FD,rfl,FE,B5⟩:=id fM;refine aa 1 rfl (ab [0,1,2,6,7] ?_);refine EY (fun(u3:Value)(v3:Value)=>put (put (put (put (emp) 0 (.val (.bool f))) 1 (.val (u3))) 2 (.val (v3))) 6 (.box [.bool false,.slice none 0 0,.slice none 0 0])) (fun(u3:Value)(v3:Value) H'=>Heap.le H H'∧cn H' u3 (n/g)∧cn H' v3 (d/g)) ?_ ?_
  ·
   by_cases hl:(af g).length=1
   ·
    obtain⟨z,hz⟩:=List.length_eq_one_iff.1 hl
    have MD:z=g:=by have:=bX g;rw[hz]at this;simpa [val]using this
    have y8:(af g)[0]? = some g:=by rw[hz,MD];rfl
    refine ae (aa 2 rfl (ax false rfl rfl (la (by omega)) (aa 2 rfl (a5 ag rfl rfl rfl rfl rfl (B5) (cA y8) (by omega) (by omega) fun _=>(aa 2 rfl (ab [0,1,2,6,7,33] ?_))))));refine az rfl (fun hb=> ?_) (fun hb=> ?_)
    ·
     skip
     refine ae (aa 2 rfl (aq rfl rfl (zi GP fM kn (by omega) (by omega)) ?_));rintro v4 H4 ⟨dr,q4,r4,rfl,cE,Kr⟩;refine aa 4 rfl (ab [0,1,2,6,7] ?_);refine aB rfl (aa 2 rfl (aq rfl rfl (zi (GQ.le dr) (fM.le dr) kn (by omega) (by omega)) ?_));rintro v5 H5 ⟨cU,q5,r5,rfl,jG,oS⟩;refine aa 4 rfl (ay ?_);exact⟨_,_,av,(hle.trans dG.le).trans (dr.trans cU),cE.le cU,jG⟩
    have jz:g=1:=by simp at hb;omega
    refine aw ?_;exact⟨_,_,av,hle.trans dG.le,by rw[jz,Nat.div_one];exact GP,by rw[jz,Nat.div_one];exact GQ⟩
   skip
   refine ae (aa 2 rfl (ax true rfl rfl (kq (by omega)) (aa 6 rfl (ab [0,1,2,6,7,33] ?_))));refine cI rfl (ae (aa 2 rfl (aq rfl rfl (zi GP fM kn (by omega) (by omega)) ?_)));rintro v4 H4 ⟨dr,q4,r4,rfl,cE,Kr⟩;refine aa 4 rfl (ab [0,1,2,6,7] ?_);refine aB rfl (aa 2 rfl (aq rfl rfl (zi (GQ.le dr) (fM.le dr) kn (by omega) (by omega)) ?_));rintro v5 H5 ⟨cU,q5,r5,rfl,jG,oS⟩;refine aa 4 rfl (ay ?_);exact⟨_,_,av,(hle.trans dG.le).trans (dr.trans cU),cE.le cU,jG⟩
  rintro u3 v3 H6 ⟨jH,ME,rR⟩;obtain⟨aaP,aaQ,rfl,aaR,aaS⟩:=id ME;obtain⟨aaT,aaU,rfl,aaV,aaW⟩:=id rR;refine ae (aa 3 rfl (eC ag rfl eD rfl rfl ?_));obtain⟨ti,aj,ak⟩:=bP;refine aO (.inl ⟨rfl,rfl⟩) rfl rfl rfl aj ak rfl rfl rfl (ab [6] ?_);obtain⟨bU,aK,aL⟩:=bP;refine ar ⟨.inr rfl,_,.agg rfl Tryz.underlying29 aK aL (.nil),?_⟩;exact⟨jH,VS gn mh (by rw[←hg];exact ME) (by rw[←hg];exact rR)⟩
theorem zt{H:Heap}{n:Int}(h1: -9223372036854775808≤n)(h2:n≤9223372036854775807):
 Fn Tryz.prog 17 #[.int .i64 n] H (iL H (n:Rat)):=by
 have dH:(af n.natAbs).length≤3:=fW.2 (by rw[bt];omega)
 have zu:=yi n
 have fo:val (af 1)=1:=bX 1
 have bC:(af 1).length=1:=by rw[oU];rfl
 refine aU (args:=[_]) Tryz.func17 rfl rfl Tryz.ntmps17 rfl rfl fun w0=> ?_;refine ah [0] rfl ?_;refine ae (bG eD rfl (ab [0,2] ?_));refine ao (ae (aa 2 rfl (ab [0,2,4] ?_)));refine az rfl (fun hb=> ?_) (fun hb=> ?_)
 ·
  have hb:n<0:=by simpa using hb
  rw[decide_eq_true hb]at zu;refine ae (aa 1 rfl (aJ rfl rfl ⟨by omega,by omega⟩ (vo rfl ⟨by omega,by omega⟩ (ct ag rfl rfl rfl ⟨by omega,by omega⟩ (aJ rfl rfl ⟨by omega,by omega⟩ ?_)))));rw[show -(n+1)+1=((n.natAbs:Nat):Int) by omega];refine aq rfl rfl (ze (by omega)) ?_;rintro v1 H1 eS;refine dD Tryz.underlying27 cR rfl rfl rfl rfl rfl rfl rfl ?_;intro gb bO;refine aq rfl rfl (rQ (eS.nat.le (Heap.bh _ bO)) (ru).pj lf lf (by omega) (by omega)) ?_;rintro w2 G2 ⟨cG,bB⟩;rw[bX,fo,zu]at bB;obtain⟨u2,x2,rfl,dF,dL⟩:=id bB;obtain⟨kz,kA,rfl,kB,kC⟩:=id dF;obtain⟨kD,kE,rfl,kF,kG⟩:=id dL;obtain⟨ti,aj,ak⟩:=bP;refine aO (.inl ⟨rfl,rfl⟩) rfl rfl rfl aj ak rfl rfl rfl (ab [2] ?_);obtain⟨bU,aK,aL⟩:=bP;refine ar ⟨.inr rfl,_,.agg rfl Tryz.underlying29 aK aL (.nil),?_⟩;exact⟨(eS.le.trans (Heap.bh _ bO)).trans cG,bB⟩
 ·
  have hb:¬n<0:=by simpa using hb
  rw[decide_eq_false hb]at zu;obtain⟨m,rfl⟩:∃m:Nat,n=(m:Int):=⟨n.natAbs,by omega⟩;rw[Int.natAbs_natCast]at zu dH;refine aw (ah [0,2] rfl ?_);refine ae (aa 1 rfl (ct ag rfl rfl rfl ⟨by omega,by omega⟩ (aq rfl rfl (ze (x:=m) (by omega)) ?_)));rintro v1 H1 eS;refine dD Tryz.underlying27 cR rfl rfl rfl rfl rfl rfl rfl ?_;intro gb bO;refine aq rfl rfl (rQ (eS.nat.le (Heap.bh _ bO)) (ru).pj lf lf (by omega) (by omega)) ?_;rintro w2 G2 ⟨cG,bB⟩;rw[bX,fo,zu]at bB;obtain⟨u2,x2,rfl,dF,dL⟩:=id bB;obtain⟨kz,kA,rfl,kB,kC⟩:=id dF;obtain⟨kD,kE,rfl,kF,kG⟩:=id dL;obtain⟨ti,aj,ak⟩:=bP;refine aO (.inl ⟨rfl,rfl⟩) rfl rfl rfl aj ak rfl rfl rfl (ab [2] ?_);obtain⟨bU,aK,aL⟩:=bP;refine ar ⟨.inr rfl,_,.agg rfl Tryz.underlying29 aK aL (.nil),?_⟩;exact⟨(eS.le.trans (Heap.bh _ bO)).trans cG,bB⟩
theorem zv{H:Heap}{v:Value}{q:Rat}{N:Nat}(hv:cj H v q N)(hN:(N:Int)≤4398046511000):
 Fn Tryz.prog 70 #[v] H (iL H q):=by
 obtain⟨bf,bu,bw,lY,lZ,rfl,e8,cD,fY,wB,GR,GS,rfl⟩:=id hv;refine aU (args:=[_]) Tryz.func70 rfl rfl Tryz.ntmps70 rfl rfl fun w0=> ?_;refine ah [0] rfl ?_;refine ae (bR rfl rfl (bG eD rfl (ab [1,2] ?_)));refine ae (aa 6 rfl (aq rfl rfl (rQ e8 cD fY wB (by omega) (by omega)) ?_));rintro w2 G2 ⟨cG,bB⟩;obtain⟨u2,x2,rfl,dF,dL⟩:=id bB;obtain⟨kz,kA,rfl,kB,kC⟩:=id dF;obtain⟨kD,kE,rfl,kF,kG⟩:=id dL;obtain⟨ti,aj,ak⟩:=bP;refine aO (.inl ⟨rfl,rfl⟩) rfl rfl rfl aj ak rfl rfl rfl (ab [2] ?_);obtain⟨bU,aK,aL⟩:=bP;refine ar ⟨.inr rfl,_,.agg rfl Tryz.underlying29 aK aL (.nil),?_⟩;exact⟨cG,bB⟩
theorem VV{H:Heap}{v:Value}{q:Rat}{N:Nat}(hv:cj H v q N)(hN:(N:Int)≤4398046511000):
 Fn Tryz.prog 37 #[v] H (fun v H'=>Heap.le H H'∧v = .int .i64 (eE q)):=by
 obtain⟨bf,bu,bw,lY,lZ,rfl,_⟩:=id hv
 have ga:=KM q;refine aU (args:=[_]) Tryz.func37 rfl rfl Tryz.ntmps37 rfl rfl fun w0=> ?_;refine ah [0] rfl ?_;refine ae (bR rfl rfl (aa 1 rfl (ab [1] ?_)));refine ae (aa 1 rfl (aq rfl rfl (zv hv hN) ?_));rintro w2 G2 ⟨cG,bB⟩;obtain⟨u2,x2,rfl,dF,dL⟩:=id bB;obtain⟨kz,kA,rfl,kB,kC⟩:=id dF;obtain⟨kD,kE,rfl,kF,kG⟩:=id dL;obtain⟨ti,aj,ak⟩:=bP;refine aO (.inl ⟨rfl,rfl⟩) rfl rfl rfl aj ak rfl rfl rfl (ab [1] ?_);refine ao (aD (ae (aa 5 rfl (ab [1,5] ?_))));refine az rfl (fun hb=> ?_) (fun hb=> ?_)
 ·
  have hb:q.num.natAbs=0:=gC.1 (by have:=eq_of_beq hb;omega);rw[if_pos hb]at ga;refine ae (aa 1 rfl (ab [2] ?_));refine ar ⟨.inr rfl,_,.tmp rfl (.nil),?_⟩;exact⟨cG,by rw[ga];rfl⟩
 ·
  have hb:q.num.natAbs≠0:=fun e=>by rw[gC.2 e]at hb;simp at hb
  rw[if_neg hb]at ga;refine ae (aa 3 rfl (ab [10] ?_));refine az rfl (fun hb=> ?_) (fun hb=> ?_)
  ·
   rw[hb]at ga;refine ae (aa 1 rfl (ab [2] ?_));refine ar ⟨.inr rfl,_,.tmp rfl (.nil),?_⟩;exact⟨cG,by rw[ga];rfl⟩
  rw[hb]at ga;refine aw (ah [] rfl ?_);refine ae (aa 1 rfl (ab [2] ?_));refine ar ⟨.inr rfl,_,.tmp rfl (.nil),?_⟩;exact⟨cG,by rw[ga];rfl⟩
theorem VW{H:Heap}{v:Value}{q:Rat}{N:Nat}(hv:cj H v q N)(hN:(N:Int)≤4398046511000):
 Fn Tryz.prog 72 #[v] H (iL H (-q)):=by
 obtain⟨bf,bu,bw,lY,lZ,rfl,e8,cD,fY,wB,GR,GS,rfl⟩:=id hv;refine aU (args:=[_]) Tryz.func72 rfl rfl Tryz.ntmps72 rfl rfl fun w0=> ?_;refine ah [0] rfl ?_;refine ae (bR rfl rfl (bG eD rfl (ab [1,2] ?_)));refine ae (aa 7 rfl (aq rfl rfl (rQ (f:= !bf) e8 cD fY wB (by omega) (by omega)) ?_));rintro w2 G2 ⟨cG,bB⟩;rw[←Kk]at bB;obtain⟨u2,x2,rfl,dF,dL⟩:=id bB;obtain⟨kz,kA,rfl,kB,kC⟩:=id dF;obtain⟨kD,kE,rfl,kF,kG⟩:=id dL;obtain⟨ti,aj,ak⟩:=bP;refine aO (.inl ⟨rfl,rfl⟩) rfl rfl rfl aj ak rfl rfl rfl (ab [2] ?_);obtain⟨bU,aK,aL⟩:=bP;refine ar ⟨.inr rfl,_,.agg rfl Tryz.underlying29 aK aL (.nil),?_⟩;exact⟨cG,bB⟩
theorem VX{H:Heap}{v v2:Value}{q q2:Rat}{N:Nat}(hv:cj H v q N)(cZ:cj H v2 q2 N)(hN:(N:Int)≤1099511627780):
 Fn Tryz.prog 71 #[v,v2] H (iL H (q+q2)):=by
 obtain⟨bf,bu,bw,lY,lZ,rfl,_⟩:=id hv
 obtain⟨cf,cu,cw,vQ,vR,rfl,_⟩:=id cZ
 have jV:=hv.size
 have wC:=cZ.size
 have dX:=Nat.pos_of_ne_zero q.den_nz
 have jf:=Nat.pos_of_ne_zero q2.den_nz
 have uz:=tq q
 have qt:=tq q2
 obtain⟨f1,ie⟩:∃f1,f1=decide (q.num<0):=⟨_,rfl⟩
 obtain⟨f2,gW⟩:∃f2,f2=decide (q2.num<0):=⟨_,rfl⟩
 obtain⟨n1,cM⟩:∃n1,n1=q.num.natAbs:=⟨_,rfl⟩
 obtain⟨n2,fp⟩:∃n2,n2=q2.num.natAbs:=⟨_,rfl⟩
 obtain⟨d1,qu⟩:∃d1,d1=q.den:=⟨_,rfl⟩
 obtain⟨d2,qv⟩:∃d2,d2=q2.den:=⟨_,rfl⟩
 have hz:(af n1).length≤N+2∧(af d1).length≤N+2∧(af n2).length≤N+2∧(af d2).length≤N+2:=by
  unfold aC at jV wC
  rw[cM,fp,qu,qv];omega
 rw[←ie,←cM,←qu]at uz
 rw[←gW,←fp,←qv]at qt
 rw[←qu]at dX
 rw[←qv]at jf
 have p6:=lW n1 d2
 have nM:=lW n2 d1
 have Ku:=lW d1 d2
 have B4:=Nat.mul_pos dX jf
 have ld:=Ko (x:=n1*d2) (y:=n2*d1) (k:=2*(N+2)) (by omega) (by omega);refine aU (args:=[_,_]) Tryz.func71 rfl rfl Tryz.ntmps71 rfl rfl fun w0=> ?_;refine ah [0,1] rfl ?_;refine ae (bR rfl rfl (bR rfl rfl (bG eD rfl (ab [2,3,4] ?_))));refine bT .bN [0,2,1,3,4,5] follows (by kernel_rfl) ?_;refine aa 2 rfl (aI rfl rfl (zv hv (by omega)) (fun _ _ h=>by first | exact h.le | exact h.1) ?_);rintro w1 G1 ⟨bC,uA⟩
 unfold du at uA
 rw[←ie,←cM,←qu]at uA;obtain⟨tu,tv,rfl,fK,fZ⟩:=id uA;obtain⟨tw,tx,rfl,tz,tA⟩:=id fK;obtain⟨tB,tC,rfl,tD,tE⟩:=id fZ;refine aI rfl rfl (zv (cZ.le bC) (by omega)) (fun _ _ h=>by first | exact h.le | exact h.1) ?_;rintro w2 G2 ⟨aW,uB⟩
 unfold du at uB
 rw[←gW,←fp,←qv]at uB;obtain⟨Ca,Cb,rfl,l0,lj⟩:=id uB;obtain⟨Cc,Cd,rfl,Ce,Cf⟩:=id l0;obtain⟨Cg,Ch,rfl,Ci,Cj⟩:=id lj;have fK:=fK.le aW;have fZ:=fZ.le aW;have hle:=bC.trans aW;obtain⟨ti,aj,ak⟩:=bP;refine aO (.inl ⟨rfl,rfl⟩) rfl rfl rfl aj ak rfl rfl rfl ?_;obtain⟨ti,aj,ak⟩:=bP;refine aO (.inl ⟨rfl,rfl⟩) rfl rfl rfl aj ak rfl rfl rfl (ab [2,3,4] ?_);refine bT .bN [0,1,2,3,5,6,7,8,4,9,10,11] follows (by kernel_rfl) ?_;refine aa 8 rfl (aI rfl rfl (uo fK lj (by omega) (by omega)) (fun _ _ h=>by first | exact h.le | exact h.1) ?_);rintro v3 H3 dG;refine aI rfl rfl (uo (l0.le dG.le) (fZ.le dG.le) (by omega) (by omega)) (fun _ _ h=>by first | exact h.le | exact h.1) ?_;rintro v4 H4 eF;refine aa 2 rfl (ab [2,3,4,5,6] ?_);refine ae (aa 4 rfl (aq rfl rfl (uo ((fZ.le dG.le).le eF.le) ((lj.le dG.le).le eF.le) (by omega) (by omega)) ?_));rintro v5 H5 De;have eR:=((hle.trans dG.le).trans eF.le).trans De.le;have qw:=(dG.nat.le eF.le).le De.le;have ur:=eF.nat.le De.le;have Df:=De.nat;obtain⟨MF,MG,rfl,MH,MI⟩:=id qw;obtain⟨aaX,aaY,rfl,aaZ,aa0⟩:=id ur;obtain⟨aa1,aa2,rfl,aa3,aa4⟩:=id Df;refine vr 1 ?_
 refine ab [2,3,4,5,6,7] ?_;refine ao (ae (aa 4 rfl (Jz Tryz.underlying4 rfl rfl (ab [2,3,4,5,6,7,31] ?_))));refine az rfl (fun hb=> ?_) (fun hb=> ?_)
 ·
  have lV:f1=f2:=by simpa using hb
  refine bT .bN [0,1,2,3,5,4,6,7] follows (by kernel_rfl) ?_;refine aa 5 rfl (aI rfl rfl (Vv qw ur (by omega) (by omega)) (fun _ _ h=>by first | exact h.le | exact h.1) ?_);rintro v6 H6 kv;have zw:=Df.le kv.le;have rS:=kv.nat;obtain⟨MJ,MK,rfl,ML,MM⟩:=id rS;refine aI rfl rfl (rQ (f:=f1) rS.pj zw.pj lf lf (by omega) (by omega)) (fun _ _ h=>by first | exact h.le | exact h.1) ?_;rintro w7 G7 ⟨zx,j6⟩;rw[bX,bX,←Ki f1 dX jf,uz,lV,qt]at j6;obtain⟨u7,x7,rfl,zy,zz⟩:=id j6;obtain⟨MN,MO,rfl,MP,MQ⟩:=id zy;obtain⟨MR,MS,rfl,MT,MU⟩:=id zz;obtain⟨ti,aj,ak⟩:=bP;refine aO (.inl ⟨rfl,rfl⟩) rfl rfl rfl aj ak rfl rfl rfl (ab [4] ?_);obtain⟨bU,aK,aL⟩:=bP;refine ar ⟨.inr rfl,_,.agg rfl Tryz.underlying29 aK aL (.nil),?_⟩;exact⟨(eR.trans kv.le).trans zx,j6⟩
 ·
  have lV:f1≠f2:=by simpa using hb
  refine aw (ah [2,3,4,5,6,7] rfl ?_);refine ao (ae (aa 2 rfl (aq rfl rfl (C7 qw ur (by omega)) ?_)));rintro v6 H6 ⟨e6,rfl⟩;rw[e6];refine aa 1 rfl (ab [2,3,4,5,6,7,42] ?_);refine az rfl (fun hb=> ?_) (fun hb=> ?_)
  ·
   have hb:n2*d1≤n1*d2:=zh.1 (by simpa using hb);have fN:=jd (Nat.sub_le (n1*d2) (n2*d1));refine bT .bN [0,1,2,3,5,4,6,7] follows (by kernel_rfl) ?_;refine aa 5 rfl (aI rfl rfl (Da qw ur hb (by omega)) (fun _ _ h=>by first | exact h.le | exact h.1) ?_);rintro v6 H6 kv;have zw:=Df.le kv.le;have rS:=kv.nat;obtain⟨MJ,MK,rfl,ML,MM⟩:=id rS;refine aI rfl rfl (rQ (f:=f1) rS.pj zw.pj lf lf (by omega) (by omega)) (fun _ _ h=>by first | exact h.le | exact h.1) ?_;rintro w7 G7 ⟨zx,j6⟩;rw[bX,bX,←Fv lV dX jf hb,uz,qt]at j6;obtain⟨u7,x7,rfl,zy,zz⟩:=id j6;obtain⟨MN,MO,rfl,MP,MQ⟩:=id zy;obtain⟨MR,MS,rfl,MT,MU⟩:=id zz;obtain⟨ti,aj,ak⟩:=bP;refine aO (.inl ⟨rfl,rfl⟩) rfl rfl rfl aj ak rfl rfl rfl (ab [4] ?_);obtain⟨bU,aK,aL⟩:=bP;refine ar ⟨.inr rfl,_,.agg rfl Tryz.underlying29 aK aL (.nil),?_⟩;exact⟨(eR.trans kv.le).trans zx,j6⟩
  have hb:n1*d2≤n2*d1:=by
   have:¬0≤gN (n1*d2) (n2*d1):=by simp at hb;omega
   rw[zh]at this;omega
  have fN:=jd (Nat.sub_le (n2*d1) (n1*d2));refine aw (ah [3,4,5,6,7] rfl ?_);refine bT .bN [0,1,2,3,5,4,6,7] follows (by kernel_rfl) ?_;refine aa 5 rfl (aI rfl rfl (Da ur qw hb (by omega)) (fun _ _ h=>by first | exact h.le | exact h.1) ?_);rintro v6 H6 kv;have zw:=Df.le kv.le;have rS:=kv.nat;obtain⟨MJ,MK,rfl,ML,MM⟩:=id rS;refine aI rfl rfl (rQ (f:=f2) rS.pj zw.pj lf lf (by omega) (by omega)) (fun _ _ h=>by first | exact h.le | exact h.1) ?_;rintro w7 G7 ⟨zx,j6⟩;rw[bX,bX,←Kj lV dX jf hb,uz,qt]at j6;obtain⟨u7,x7,rfl,zy,zz⟩:=id j6;obtain⟨MN,MO,rfl,MP,MQ⟩:=id zy;obtain⟨MR,MS,rfl,MT,MU⟩:=id zz;obtain⟨ti,aj,ak⟩:=bP;refine aO (.inl ⟨rfl,rfl⟩) rfl rfl rfl aj ak rfl rfl rfl (ab [4] ?_);obtain⟨bU,aK,aL⟩:=bP;refine ar ⟨.inr rfl,_,.agg rfl Tryz.underlying29 aK aL (.nil),?_⟩;exact⟨(eR.trans kv.le).trans zx,j6⟩
theorem VY{H:Heap}{v v2:Value}{q q2:Rat}{N:Nat}(hv:cj H v q N)(cZ:cj H v2 q2 N)(hN:(N:Int)≤1099511627778):
 Fn Tryz.prog 38 #[v,v2] H (iL H (q-q2)):=by
 obtain⟨bf,bu,bw,lY,lZ,rfl,_⟩:=id hv
 obtain⟨cf,cu,cw,vQ,vR,rfl,_⟩:=id cZ
 have wC:=cZ.size;refine aU (args:=[_,_]) Tryz.func38 rfl rfl Tryz.ntmps38 rfl rfl fun w0=> ?_;refine ah [0,1] rfl ?_;refine ae (bR rfl rfl (bR rfl rfl (bG eD rfl (ab [2,3,4] ?_))));refine bT .bN [0,1,2,3,4] follows (by kernel_rfl) ?_;refine aa 2 rfl (aI rfl rfl (VW cZ (by omega)) (fun _ _ h=>by first | exact h.le | exact h.1) ?_);rintro w2 G2 ⟨cG,bB⟩;obtain⟨u2,x2,rfl,dF,dL⟩:=id bB;obtain⟨kz,kA,rfl,kB,kC⟩:=id dF;obtain⟨kD,kE,rfl,kF,kG⟩:=id dL;have jA:=bB.raw;rw[show aC (-q2)=aC q2 by unfold aC;rw[Rat.neg_num,Int.natAbs_neg,Rat.neg_den]]at jA;refine aI rfl rfl (VX (N:=N+2) ((hv.le cG).mono (by omega)) (jA.mono wC) (by omega)) (fun _ _ h=>by first | exact h.le | exact h.1) ?_;rintro w3 G3 ⟨j1,eV⟩;rw[←Rat.sub_eq_add_neg]at eV;obtain⟨u3,x3,rfl,kK,fa⟩:=id eV;obtain⟨tM,tN,rfl,tO,tP⟩:=id kK;obtain⟨tQ,tR,rfl,tS,tT⟩:=id fa;obtain⟨ti,aj,ak⟩:=bP;refine aO (.inl ⟨rfl,rfl⟩) rfl rfl rfl aj ak rfl rfl rfl (ab [4] ?_);obtain⟨bU,aK,aL⟩:=bP;refine ar ⟨.inr rfl,_,.agg rfl Tryz.underlying29 aK aL (.nil),?_⟩;exact⟨cG.trans j1,eV⟩
theorem MV{H:Heap}{v v2:Value}{q q2:Rat}{N:Nat}(hv:cj H v q N)(cZ:cj H v2 q2 N)(hN:(N:Int)≤1099511627776):
 Fn Tryz.prog 8 #[v,v2] H (fun v H'=>Heap.le H H'∧v = .int .i64 (tm q q2)):=by
 obtain⟨bf,bu,bw,lY,lZ,rfl,_⟩:=id hv
 obtain⟨cf,cu,cw,vQ,vR,rfl,_⟩:=id cZ
 have jV:=hv.size
 have wC:=cZ.size;refine aU (args:=[_,_]) Tryz.func8 rfl rfl Tryz.ntmps8 rfl rfl fun w0=> ?_;refine ah [0,1] rfl ?_;refine ae (bR rfl rfl (bR rfl rfl (aa 1 rfl (ab [2,3] ?_))));refine ae (aa 2 rfl (aq rfl rfl (VY hv cZ (by omega)) ?_));rintro w2 G2 ⟨cG,bB⟩;obtain⟨u2,x2,rfl,dF,dL⟩:=id bB;obtain⟨kz,kA,rfl,kB,kC⟩:=id dF;obtain⟨kD,kE,rfl,kF,kG⟩:=id dL;have bZ:=l5 q q2;refine aq rfl rfl (VV bB.raw (by omega)) ?_;rintro v3 H3 ⟨dH,rfl⟩;refine aa 1 rfl (ab [4] ?_);refine ar ⟨.inr rfl,_,.tmp rfl (.nil),?_⟩;exact⟨cG.trans dH,by rw[VT];rfl⟩
theorem VZ{H:Heap}{v v2:Value}{q q2:Rat}{N:Nat}(hv:cj H v q N)(cZ:cj H v2 q2 N)(hN:(N:Int)≤1099511627780):
 Fn Tryz.prog 52 #[v,v2] H (fun v H'=>Heap.le H H'∧∃r,v = .tuple #[r,.bool (decide (q2≠0))]∧du H' r (q/q2)):=by
 obtain⟨bf,bu,bw,lY,lZ,rfl,_⟩:=id hv
 obtain⟨cf,cu,cw,vQ,vR,rfl,_⟩:=id cZ
 have jV:=hv.size
 have wC:=cZ.size
 have dX:=Nat.pos_of_ne_zero q.den_nz
 have jf:=Nat.pos_of_ne_zero q2.den_nz
 have uz:=tq q
 have qt:=tq q2
 obtain⟨f1,ie⟩:∃f1,f1=decide (q.num<0):=⟨_,rfl⟩
 obtain⟨f2,gW⟩:∃f2,f2=decide (q2.num<0):=⟨_,rfl⟩
 obtain⟨n1,cM⟩:∃n1,n1=q.num.natAbs:=⟨_,rfl⟩
 obtain⟨n2,fp⟩:∃n2,n2=q2.num.natAbs:=⟨_,rfl⟩
 obtain⟨d1,qu⟩:∃d1,d1=q.den:=⟨_,rfl⟩
 obtain⟨d2,qv⟩:∃d2,d2=q2.den:=⟨_,rfl⟩
 have hz:(af n1).length≤N+2∧(af d1).length≤N+2∧(af n2).length≤N+2∧(af d2).length≤N+2:=by
  unfold aC at jV wC
  rw[cM,fp,qu,qv];omega
 rw[←ie,←cM,←qu]at uz
 rw[←gW,←fp,←qv]at qt
 rw[←qu]at dX
 rw[←qv]at jf
 have p6:=lW n1 d2
 have nM:=lW d1 n2;refine aU (args:=[_,_]) Tryz.func52 rfl rfl Tryz.ntmps52 rfl rfl fun w0=> ?_;refine ah [0,1] rfl ?_;refine ae (bR rfl rfl (bR rfl rfl (bG eD rfl (aa 1 rfl (ab [2,3,4] ?_)))));refine bT .bN [0,2,1,3,4,5] follows (by kernel_rfl) ?_;refine aa 2 rfl (aI rfl rfl (zv hv (by omega)) (fun _ _ h=>by first | exact h.le | exact h.1) ?_);rintro w1 G1 ⟨bC,uA⟩
 unfold du at uA
 rw[←ie,←cM,←qu]at uA;obtain⟨tu,tv,rfl,fK,fZ⟩:=id uA;obtain⟨tw,tx,rfl,tz,tA⟩:=id fK;obtain⟨tB,tC,rfl,tD,tE⟩:=id fZ;refine aI rfl rfl (zv (cZ.le bC) (by omega)) (fun _ _ h=>by first | exact h.le | exact h.1) ?_;rintro w2 G2 ⟨aW,uB⟩
 unfold du at uB
 rw[←gW,←fp,←qv]at uB;obtain⟨Ca,Cb,rfl,l0,lj⟩:=id uB;obtain⟨Cc,Cd,rfl,Ce,Cf⟩:=id l0;obtain⟨Cg,Ch,rfl,Ci,Cj⟩:=id lj;have fK:=fK.le aW;have fZ:=fZ.le aW;have hle:=bC.trans aW;obtain⟨ti,aj,ak⟩:=bP;refine aO (.inl ⟨rfl,rfl⟩) rfl rfl rfl aj ak rfl rfl rfl ?_;obtain⟨ti,aj,ak⟩:=bP;refine aO (.inl ⟨rfl,rfl⟩) rfl rfl rfl aj ak rfl rfl rfl (ab [2,3,4] ?_);refine ao (ae (aa 4 rfl (ab [2,3,4,13] ?_)));refine az rfl (fun hb=> ?_) (fun hb=> ?_)
 ·
  have hb:n2=0:=gC.1 (by have:=eq_of_beq hb;omega)
  have Dg:q2=0:=by rw[←qt,hb,p4]
  refine ae (aq rfl rfl (zt (n:=0) (by decide) (by decide)) ?_);rintro w5 G5 ⟨GU,jG⟩;obtain⟨u5,x5,rfl,GV,qw⟩:=id jG;obtain⟨V0,V1,rfl,V2,V3⟩:=id GV;obtain⟨MF,MG,rfl,MH,MI⟩:=id qw;obtain⟨ti,aj,ak⟩:=bP;refine aO (.inl ⟨rfl,rfl⟩) rfl rfl rfl aj ak rfl rfl rfl (aa 1 rfl (ab [4,5] ?_));obtain⟨bU,aK,aL⟩:=bP;refine ar ⟨.inr rfl,_,.agg rfl Tryz.underlying29 aK aL (.tmp rfl (.nil)),?_⟩;refine⟨hle.trans GU,_,?_,by rw[Dg,Rat.div_def,Rat.inv_zero,Rat.mul_zero];exact jG⟩;rw[Dg];rfl
 ·
  have gn:0<n2:=Nat.pos_of_ne_zero fun e=>by rw[gC.2 e]at hb;simp at hb
  have Dg:q2≠0:=fun e=>by rw[←qt,Fu jf]at e;omega
  refine aw (ah [2,3,4] rfl ?_);refine bT .bN [0,1,2,3,4,5,6,7,8,10,11,12,13,9,14,15,16,17] follows (by kernel_rfl) ?_;refine aa 4 rfl (BA Tryz.underlying4 rfl rfl (aa 8 rfl (aI rfl rfl (uo fK lj (by omega) (by omega)) (fun _ _ h=>by first | exact h.le | exact h.1) ?_)));rintro v3 H3 dG;refine aI rfl rfl (uo (fZ.le dG.le) (l0.le dG.le) (by omega) (by omega)) (fun _ _ h=>by first | exact h.le | exact h.1) ?_;rintro v4 H4 eF;have lk:=dG.nat.le eF.le;have MW:=eF.nat;obtain⟨Ck,Cl,rfl,Cm,Cn⟩:=id lk;obtain⟨aa5,aa6,rfl,aa7,aa8⟩:=id MW;refine aI rfl rfl (rQ (f:=f1 != f2) lk.pj MW.pj lf lf (by omega) (by omega)) (fun _ _ h=>by first | exact h.le | exact h.1) ?_;rintro w5 G5 ⟨GU,jG⟩;rw[bX,bX,←Fw gn,uz,qt]at jG;obtain⟨u5,x5,rfl,GV,qw⟩:=id jG;obtain⟨V0,V1,rfl,V2,V3⟩:=id GV;obtain⟨MF,MG,rfl,MH,MI⟩:=id qw;obtain⟨ti,aj,ak⟩:=bP;refine aO (.inl ⟨rfl,rfl⟩) rfl rfl rfl aj ak rfl rfl rfl (aa 1 rfl (ab [4,5] ?_));obtain⟨bU,aK,aL⟩:=bP;refine ar ⟨.inr rfl,_,.agg rfl Tryz.underlying29 aK aL (.tmp rfl (.nil)),?_⟩;refine⟨((hle.trans dG.le).trans eF.le).trans GU,_,?_,jG⟩;rw[show decide (q2≠0)=true from decide_eq_true Dg];rfl
theorem V4{H:Heap}{a b:Int}(h1: -9223372036854775808≤a)(h2:a≤9223372036854775807)(h3: -9223372036854775808≤b)(h4:b≤9223372036854775807):
 Fn Tryz.prog 18 #[.int .i64 a,.int .i64 b] H (iL H ((a:Rat)/(b:Rat))):=by
 have hs:∀n:Int,-9223372036854775808≤n→n≤9223372036854775807→aC (n:Rat)≤3:=fun n h1 h2=>by
  have k1:(af n.natAbs).length≤3:=fW.2 (by rw[bt];omega)
  have k2:(af 1).length≤3:=by rw[oU];decide
  have:=(MB (decide (n<0)) n.natAbs 1 3 k1 k2).2 (by decide)
  rwa [yi]at this
 refine aU (args:=[_,_]) Tryz.func18 rfl rfl Tryz.ntmps18 rfl rfl fun w0=> ?_;refine ah [0,1] rfl ?_;refine ae (bG eD rfl (ab [0,1,4] ?_));refine ae (aa 1 rfl (aq rfl rfl (zt h1 h2) ?_));rintro w1 G1 ⟨dy,bJ⟩;obtain⟨u1,x1,rfl,cW,di⟩:=id bJ;obtain⟨jg,jh,rfl,ji,jk⟩:=id cW;obtain⟨nP,nQ,rfl,nR,nS⟩:=id di;refine aa 1 rfl (aq rfl rfl (zt h3 h4) ?_);rintro w2 G2 ⟨cG,bB⟩;obtain⟨u2,x2,rfl,dF,dL⟩:=id bB;obtain⟨kz,kA,rfl,kB,kC⟩:=id dF;obtain⟨kD,kE,rfl,kF,kG⟩:=id dL;refine aq rfl rfl (VZ (N:=3) ((bJ.le cG).raw.mono (hs a h1 h2)) (bB.raw.mono (hs b h3 h4)) (by decide)) ?_;rintro v3 H3 ⟨dH,r3,rfl,eV⟩;obtain⟨u3,x3,rfl,kK,fa⟩:=id eV;obtain⟨tM,tN,rfl,tO,tP⟩:=id kK;obtain⟨tQ,tR,rfl,tS,tT⟩:=id fa;refine aa 3 rfl (bG eD rfl ?_);obtain⟨ti,aj,ak⟩:=bP;refine aO (.inl ⟨rfl,rfl⟩) rfl rfl rfl aj ak rfl rfl rfl (aa 1 rfl (ab [4,5] ?_));refine ae (vr 1 ?_);obtain⟨ti,aj,ak⟩:=bP;refine aO (.inl ⟨rfl,rfl⟩) rfl rfl rfl aj ak rfl rfl rfl (ab [4] ?_);obtain⟨bU,aK,aL⟩:=bP;refine ar ⟨.inr rfl,_,.agg rfl Tryz.underlying29 aK aL (.nil),?_⟩
 exact⟨(dy.trans cG).trans dH,eV⟩
end Go.au
namespace Go.au
open Go.Proofs Num Lp
theorem uC(L:TL)(a:Nat→Rat)(sg:Rat)(k:Nat):gQ L a sg (k+1)=if 0≤L.mZ k then dU (dU (gQ L a sg k) (L.pF k) (a k*sg)) (L.mZ k).toNat (-(a k*sg))else dU (gQ L a sg k) (L.pF k) (a k*sg):=rfl
theorem V5{H:Heap}{g:Nat}{ts:List Value}{pv mv:Value}{L:TL}{n N:Nat}{vs ss:List Value}{r:List Rat×Int×Rat}{slack:Int}{unit:Nat}{sg:Rat}
 (hg:H g=some ⟨ts,9,68,true⟩) (Kf:ts[0]? = some (.int .i64 (L.w:Int))) (fG:ts[2]? = some pv) (uD:ts[3]? = some mv) (pc:aM o7 1 (rem H [g]) pv L.plus) (pd:aM o6 1 (rem H [g]) mv L.minus)
 (hr:ep N (rem H [g]) vs r) (hs:aT (rem H [g]) ss sg) (ld:aC sg≤1) (hn:r.1.length=n) (BE:L.plus.length=n) (mM:L.minus.length=n) (qQ:∀j,j<n→L.pF j<L.w) (L8:∀j,j<n→L.mZ j<L.w)
 (lv:r.2.1≠2→0≤slack∧slack<L.w) (mT:unit<L.w) (hN:(N:Int)≤549755813888) (hw:(L.w:Int)≤1000000) (hnn:(n:Int)≤1000000):
 Fn Tryz.prog 60 #[.pointer (some ⟨g,0,none⟩),.agg vs.toArray,.agg ss.toArray,.int .i64 slack,.int .i64 (unit:Int)] H (fun v H'=>Heap.le H H'∧∃z xs,v = .slice (some ⟨z,0,none⟩) (L.w+1) (L.w+1)∧c7 [g] H H' z xs ((L.w+1)*3) 61∧bF (aT (rem H' (z :: [g]))) 3 xs (aH (C6 L n (fn r.1) r.2.2 r.2.1 slack unit sg) (L.w+1))):=by
 obtain⟨ns,ds,bs,rfl⟩:=hs.cells
 obtain⟨Ac,cc,kk,f,A1,m1,c1,A2,m2,c2,rfl,rfl⟩:=hr.cells
 obtain⟨c',f',u',w',lN,oP,jW⟩:=id hr
 simp only[List.cons.injEq,Value.bool.injEq,and_true,true_and]at lN
 obtain⟨rfl,rfl,rfl,rfl⟩:=lN
 have a4:∀q,q∈[g]→H q≠none:=fun q hq=>by rw[List.mem_singleton.1 hq,hg];simp
 obtain⟨Ap,cp,xp,rfl,eH,ub⟩:=pc.one
 obtain⟨Am,cm,xm,rfl,mf,yX⟩:=pd.one
 rw[BE]at fG
 rw[mM]at uD
 have uj:∀{H':Heap}{z:Nat}{xs:List Value}{s e:Nat},c7 [g] H H' z xs s e→H' g=some ⟨ts,9,68,true⟩:=fun gP=>(gP.same g (List.mem_singleton.2 rfl)).trans hg
 have dJ:∀{H':Heap}{k:Nat}{v:Value},H' g=some ⟨ts,9,68,true⟩→ts[k]? = some v→cell H' ((⟨g,0,none⟩:Addr).add k)=some v:=fun h1 h2=>by simp[cell,iJ,h1,h2]
 have MY:∀{H':Heap},H' g=some ⟨ts,9,68,true⟩→cell H' (⟨g,0,none⟩:Addr)=some (.int .i64 (L.w:Int)):=fun h1=>by have:=dJ (k:=0) h1 Kf;rwa [iJ]at this
 have V6:∀j,j<n→L.plus[j]? = some (L.pF j):=fun j hj=>by
  have:j<L.plus.length:=by rw[BE];exact hj
  simp[TL.pF,List.getD,List.getElem?_eq_getElem this]
 have V7:∀j,j<n→L.minus[j]? = some (L.mZ j):=fun j hj=>by
  have:j<L.minus.length:=by rw[mM];exact hj
  simp[TL.mZ,List.getD,List.getElem?_eq_getElem this]
 refine aU (args:=[_,_,_,_,_]) Tryz.func60 rfl rfl Tryz.ntmps60 rfl rfl fun w0=> ?_;refine ah [0,1,2,3,4] rfl ?_;refine ae (bR rfl rfl (bR rfl rfl (aa 1 rfl (ab [0,3,4,6,7] ?_))));refine ae (aa 2 rfl (aX ag rfl rfl rfl (aP ag rfl rfl rfl (MY hg) (aJ rfl rfl ⟨by omega,by omega⟩ (aq rfl rfl (wu (gs:=[g]) (n:=L.w+1) a4 (by omega)) ?_)))));rintro v1 H1 ⟨bC,z,ly,rfl,rL,rT⟩;have V8:=(rT H).len;rw[bV]at V8;refine aa 1 rfl (ab [0,3,4,6,7,11] ?_);refine ao (ae (aa 2 rfl (aq rfl rfl (Fn.C0 (gs:=z :: [g]) (rL.ne a4) (o4 (oP.le (fu N) rL.le) (by omega) (by omega))) ?_)));rintro v2 H2 ⟨gj,aW,fN⟩;have cV:=rL.kept gj;obtain⟨Av,cv,xv,rfl,jI,oB⟩:=fN.num;rw[hn];refine aa 2 rfl (ab [0,3,4,6,7,11,22,23,24] ?_);refine aD (jb (fun(k:Nat)(xs:List Value)=>n-k) (fun(k:Nat)(xs:List Value)=>put (put (put (put (put (put (put (put (put (emp) 0 (.val (.pointer (some ⟨g,0,none⟩)))) 3 (.val (.int .i64 slack))) 4 (.val (.int .i64 (unit:Int)))) 6 (.box [.slice Ac n cc,.int .i64 r.2.1,.bool f,.slice A1 m1 c1,.slice A2 m2 c2])) 7 (.box [.int .i64 ns,.int .i64 ds,.pointer bs])) 11 (.val (.slice (some ⟨z,0,none⟩) (L.w+1) (L.w+1)))) 22 (.val (.slice Av n cv))) 23 (.val (.int .i64 (n:Int)))) 24 (.val (.int .i64 (k:Int)))) (fun(k:Nat)(xs:List Value) H'=>c7 [g] H H' z xs ((L.w+1)*3) 61∧bF (aT (rem H' (z :: [g]))) 3 xs (aH (gQ L (fn r.1) sg k) (L.w+1))∧Heap.le (rem H2 (z :: [g])) (rem H' (z :: [g]))∧Heap.le H H'∧k≤n) 0 ly (⟨cV,by rw[il (f:=gQ L (fn r.1) sg 0) (g:=fun _=>0) (fun j _=>rfl)];exact rT _,.refl _,bC.trans aW,Nat.zero_le _⟩) av ?_)
 rintro k xs H3 ⟨eN,mg,fL,aa9,dh⟩;have ck:=mg.len;rw[bV]at ck;have lU:=uj eN;refine ae (aa 1 rfl (ab [0,3,4,6,7,11,22,23,24,25] ?_));refine ao (az rfl (fun hb=> ?_) (fun hb=> ?_))
 ·
  have ea:k<n:=by simpa using hb
  obtain⟨q,dI⟩:∃q,r.1[k]? = some q:=⟨_,List.getElem?_eq_getElem (by omega)⟩;obtain⟨n1,d1,b1,cM,di⟩:=oB k q dI;have ia:fn r.1 k=q:=jl dI
  have po:aC q≤N+2:=by
   obtain⟨A9,c9,x9,_,_,_,h9⟩:=oP;exact cj.size (h9.at_ k q dI)
  obtain⟨up,yY,yZ⟩:=ub k _ (V6 k ea);obtain⟨um,rJ,y3⟩:=yX k _ (V7 k ea)
  cases yZ
  cases y3
  have V9:=qQ k ea;have Wa:=L8 k ea;refine aw (ah [0,3,4,6,7,11,22,23,24] rfl ?_);refine ao (aD (ae (aa 1 rfl (cQ (vs:=[.int .i64 n1,.int .i64 d1,.pointer b1]) ag rfl rfl rfl rfl ((jI.le fL).le (bE _ _)) rfl (by decide) di (by omega) (by omega) fun _=>(bG cN rfl (vr 1 ?_))))));obtain⟨ti,aj,ak⟩:=a9;refine aO (.inl ⟨rfl,rfl⟩) rfl rfl rfl aj ak rfl rfl rfl (ab [0,3,4,6,7,11,12,13,22,23,24] ?_);refine bT .fC [0,1,2,3,4,5,6,7,8,9,10,11,12] follows (by kernel_rfl) ?_;refine aa 3 rfl (aX ag rfl rfl rfl (aP ag rfl rfl rfl (dJ lU fG) (aa 1 rfl (a5 ag rfl rfl rfl rfl rfl ((eH.le eN.le).le (bE _ _)) (by rw[Int.toNat_natCast];exact yY) (by omega) (by omega) fun _=> ?_))));refine aa 2 rfl (aI rfl rfl (Fn.fw (eN.ne a4) (qh (N:=N+2) (cM.le fL) (hs.le eN.le) po (by omega) (by omega))) (fun _ _ h=>by first | exact h.le | exact h.1) ?_);rintro v4 H4 ⟨dM,dr,n4,d4,b4,rfl,cE⟩;have kM:=eN.kept dM;rw[←ia]at cE;obtain⟨ti,aj,ak⟩:=a9;refine dE (.inr rfl) ag rfl rfl rfl (by omega) (by omega) (kM.a6) rfl (by show 0+(L.w+1)*3≤xs.length;omega) aj ak (fun _=>rfl) rfl rfl rfl fun _=> ?_
  refine ab [0,3,4,6,7,11,12,13,22,23,24] ?_;have kO:c7 [g] H (ins H4 z {(⟨xs,(L.w+1)*3,61,true⟩:aG)with xs:=aA xs (0+((L.pF k:Nat):Int).toNat*3) [.int .i64 n4,.int .i64 d4,.pointer b4]}) z (aA xs (L.pF k*3) [.int .i64 n4,.int .i64 d4,.pointer b4]) ((L.w+1)*3) 61:=kM.set (by rw[Int.toNat_natCast];exact j4)
  have Dh:bF (aT (rem (ins H4 z {(⟨xs,(L.w+1)*3,61,true⟩:aG)with xs:=aA xs (0+((L.pF k:Nat):Int).toNat*3) [.int .i64 n4,.int .i64 d4,.pointer b4]}) (z :: [g]))) 3 (aA xs (L.pF k*3) [.int .i64 n4,.int .i64 d4,.pointer b4]) (aH (dU (gQ L (fn r.1) sg k) (L.pF k) (fn r.1 k*sg)) (L.w+1)):=by
   rw[bY _ (List.mem_cons_self ..)];exact m8 (mg.mono fun vs a=>dT _ _ vs a dM.le) (by omega) cE
  have eR:Heap.le (rem H2 (z :: [g])) (rem (ins H4 z {(⟨xs,(L.w+1)*3,61,true⟩:aG)with xs:=aA xs (0+((L.pF k:Nat):Int).toNat*3) [.int .i64 n4,.int .i64 d4,.pointer b4]}) (z :: [g])):=by
   rw[bY _ (List.mem_cons_self ..)];exact fL.trans dM.le
  generalize ins H4 z {(⟨xs,(L.w+1)*3,61,true⟩:aG)with xs:=aA xs (0+((L.pF k:Nat):Int).toNat*3) [.int .i64 n4,.int .i64 d4,.pointer b4]}=H5 at kO Dh eR⊢
  have ph:=uj kO;have GW:=Dh.len;rw[bV]at GW;refine ae (aa 2 rfl (aX ag rfl rfl rfl (aP ag rfl rfl rfl (dJ ph uD) (aa 1 rfl (a5 ag rfl rfl rfl rfl rfl ((mf.le kO.le).le (bE _ _)) (by rw[Int.toNat_natCast];exact rJ) (by omega) (by omega) fun _=> ?_)))));refine aa 1 rfl (ab [0,3,4,6,7,11,12,13,22,23,24,48] ?_);refine az rfl (fun hb=> ?_) (fun hb=> ?_)
  ·
   have hb:0≤L.mZ k:=by simpa using hb
   refine fk .fC [0,1,2,3,4,5,6,7,8,9,10,11,12,13] follows (by kernel_rfl) ?_;refine aa 3 rfl (aX ag rfl rfl rfl (aP ag rfl rfl rfl (dJ ph uD) (aa 1 rfl (a5 ag rfl rfl rfl rfl rfl ((mf.le kO.le).le (bE _ _)) (by rw[Int.toNat_natCast];exact rJ) (by omega) (by omega) fun _=> ?_))));refine aa 2 rfl (aI rfl rfl (Fn.fw (kO.ne a4) (qh (N:=N+2) (cM.le eR) (hs.le kO.le) po (by omega) (by omega))) (fun _ _ h=>by first | exact h.le | exact h.1) ?_);rintro v6 H6 ⟨pb,gg,n6,d6,b6,rfl,Di⟩;have px:=kO.kept pb;have EW:=nN q sg;refine aI rfl rfl (Fn.fw (px.ne a4) (vV Di (by omega))) (fun _ _ h=>by first | exact h.le | exact h.1) ?_;rintro v7 H7 ⟨lB,gw,n7,d7,b7,rfl,j6⟩;have zA:=px.kept lB;rw[←ia]at j6;obtain⟨ti,aj,ak⟩:=a9;refine dE (.inr rfl) ag rfl rfl rfl (by omega) (by omega) (zA.a6) rfl (by show 0+(L.w+1)*3≤(aA xs (L.pF k*3) [.int .i64 n4,.int .i64 d4,.pointer b4]).length;omega) aj ak (fun _=>rfl) rfl rfl rfl fun _=> ?_;refine ay ?_;have zB:=zA.set (j4 (xs:=aA xs (L.pF k*3) [.int .i64 n4,.int .i64 d4,.pointer b4]) (vs:=[.int .i64 n7,.int .i64 d7,.pointer b7]) (k:=(L.mZ k).toNat) (sz:=3));refine ah [0,3,4,6,7,11,22,23,24] rfl ?_;refine aB rfl (aJ rfl rfl ⟨by omega,by omega⟩ ?_)
   refine aa 1 rfl (ay ?_);exact⟨k+1,_,by omega,av,zB,by rw[bY _ (List.mem_cons_self ..),uC,if_pos hb];exact m8 (Dh.mono fun vs a=>dT _ _ vs a (pb.le.trans lB.le)) (by omega) j6,by rw[bY _ (List.mem_cons_self ..)];exact(eR.trans pb.le).trans lB.le,zB.hle,by omega⟩
  ·
   have hb:¬0≤L.mZ k:=by simpa using hb
   refine aw (ah [0,3,4,6,7,11,22,23,24] rfl ?_);refine aB rfl (aJ rfl rfl ⟨by omega,by omega⟩ (aa 1 rfl (ay ?_)));exact⟨k+1,_,by omega,av,kO,by rw[uC,if_neg hb];exact Dh,eR,kO.hle,by omega⟩
 ·
  have hb:n≤k:=by simpa using hb
  obtain rfl:n=k:=by omega
  refine bA (ah [0,3,4,6,7,11] rfl ?_);refine nH (fun(ys:List Value)=>put (put (put (put (put (emp) 0 (.val (.pointer (some ⟨g,0,none⟩)))) 4 (.val (.int .i64 (unit:Int)))) 6 (.box [.slice Ac n cc,.int .i64 r.2.1,.bool f,.slice A1 m1 c1,.slice A2 m2 c2])) 7 (.box [.int .i64 ns,.int .i64 ds,.pointer bs])) 11 (.val (.slice (some ⟨z,0,none⟩) (L.w+1) (L.w+1)))) (fun(ys:List Value) H'=>c7 [g] H H' z ys ((L.w+1)*3) 61∧bF (aT (rem H' (z :: [g]))) 3 ys (aH (oc (gQ L (fn r.1) sg n) r.2.1 slack sg) (L.w+1))) ?_ ?_
  ·
   refine ae (aa 2 rfl (ab [0,3,4,6,7,11,64] ?_));refine aD (ae (aa 2 rfl (ab [0,3,4,6,7,11,64,65] ?_)));refine az rfl (fun hb=> ?_) (fun hb=> ?_)
   ·
    have hb:r.2.1=1:=by simpa using hb
    have Wb:=lv (by omega);refine aB rfl (vr 3 ?_);obtain⟨ti,aj,ak⟩:=a9;refine dE (.inl rfl) ag rfl rfl rfl (by omega) (by omega) (eN.a6) rfl (by show 0+(L.w+1)*3≤xs.length;omega) aj ak (fun _=>rfl) rfl rfl rfl fun _=> ?_;refine ay ?_;exact⟨_,av,eN.set j4,by rw[bY _ (List.mem_cons_self ..)];unfold oc;rw[if_pos hb];exact m8 mg (by omega) (hs.le eN.le)⟩
   have hb:¬r.2.1=1:=by simpa using hb
   refine ae (aa 2 rfl (ab [0,3,4,6,7,11,71] ?_));refine az rfl (fun hb=> ?_) (fun hb=> ?_)
   ·
    have fY:r.2.1=3:=by simpa using hb
    have hb:¬r.2.1=1:=by omega
    have Wb:=lv (by omega);refine aB rfl (aa 3 rfl (aq rfl rfl (Fn.fw (eN.ne a4) (vV (hs.le eN.le) (by omega))) ?_));rintro v9 H9 ⟨ix,eo,n9,d9,b9,rfl,kR⟩;have rU:=eN.kept ix;obtain⟨ti,aj,ak⟩:=a9;refine dE (.inl rfl) ag rfl rfl rfl (by omega) (by omega) (rU.a6) rfl (by show 0+(L.w+1)*3≤xs.length;omega) aj ak (fun _=>rfl) rfl rfl rfl fun _=> ?_;refine ay ?_;exact⟨_,av,rU.set j4,by rw[bY _ (List.mem_cons_self ..)];unfold oc;rw[if_neg hb,if_pos fY];exact m8 (mg.mono fun vs a=>dT _ _ vs a ix.le) (by omega) kR⟩
   have fY:¬r.2.1=3:=by simpa using hb
   have hb:¬r.2.1=1:=by assumption
   refine aw ?_;exact⟨_,av,eN,by unfold oc;rw[if_neg hb,if_neg fY];exact mg⟩
  rintro ys H9 ⟨rU,MZ⟩;have Wc:=MZ.len;rw[bV]at Wc;refine ae (aa 2 rfl (aq rfl rfl (ln) ?_));rintro v10 uy ⟨Wd,rfl⟩;rw[Wd];obtain⟨ti,aj,ak⟩:=a9;refine dE (.inl rfl) ag rfl rfl rfl (by omega) (by omega) (rU.a6) rfl (by show 0+(L.w+1)*3≤ys.length;omega) aj ak (fun _=>rfl) rfl rfl rfl fun _=> ?_;refine ab [0,6,7,11] ?_;have rV:c7 [g] H (ins H9 z {(⟨ys,(L.w+1)*3,61,true⟩:aG)with xs:=aA ys (0+((unit:Int)).toNat*3) [.int .i64 1,.int .i64 1,.pointer none]}) z (aA ys (unit*3) [.int .i64 1,.int .i64 1,.pointer none]) ((L.w+1)*3) 61:=rU.set (by rw[Int.toNat_natCast];exact j4)
  have GX:bF (aT (rem (ins H9 z {(⟨ys,(L.w+1)*3,61,true⟩:aG)with xs:=aA ys (0+((unit:Int)).toNat*3) [.int .i64 1,.int .i64 1,.pointer none]}) (z :: [g]))) 3 (aA ys (unit*3) [.int .i64 1,.int .i64 1,.pointer none]) (aH (dU (oc (gQ L (fn r.1) sg n) r.2.1 slack sg) unit 1) (L.w+1)):=by
   rw[bY _ (List.mem_cons_self ..)];exact m8 MZ (by omega) (ll _ (n:=1) (by decide) (by decide))
  generalize ins H9 z {(⟨ys,(L.w+1)*3,61,true⟩:aG)with xs:=aA ys (0+((unit:Int)).toNat*3) [.int .i64 1,.int .i64 1,.pointer none]}=jJ at rV GX⊢
  have Dj:=uj rV;have We:=GX.len;rw[bV]at We;have Dk:=jW.size;refine bT .fC [0,1,2,3,4,5,6,8,7,9,10,11] follows (by kernel_rfl) ?_;refine aa 3 rfl (aX ag rfl rfl rfl (aP ag rfl rfl rfl (MY Dj) (aa 3 rfl (aI rfl rfl (Fn.fw (rV.ne a4) (p9 (jW.le rV.le) (by omega))) (fun _ _ h=>by first | exact h.le | exact h.1) ?_))));rintro zC cS ⟨uE,ng,M0,d12,M1,rfl,zD⟩;have uG:=rV.kept uE;refine aI rfl rfl (Fn.fw (uG.ne a4) (qh (N:=N+2) zD (hs.le uG.le) Dk (by omega) (by omega))) (fun _ _ h=>by first | exact h.le | exact h.1) ?_;rintro GY kS ⟨Dl,kT,Dm,d13,Dn,rfl,Dp⟩;have wD:=uG.kept Dl;obtain⟨ti,aj,ak⟩:=a9;refine dE (.inr rfl) ag rfl rfl rfl (by omega) (by omega) (wD.a6) rfl (by show 0+(L.w+1)*3≤(aA ys (unit*3) [.int .i64 1,.int .i64 1,.pointer none]).length;omega) aj ak (fun _=>rfl) rfl rfl rfl fun _=> ?_;refine ab [11] ?_;have qx:c7 [g] H (ins kS z {(⟨aA ys (unit*3) [.int .i64 1,.int .i64 1,.pointer none],(L.w+1)*3,61,true⟩:aG)with xs:=aA (aA ys (unit*3) [.int .i64 1,.int .i64 1,.pointer none]) (0+((L.w:Int)).toNat*3) [.int .i64 Dm,.int .i64 d13,.pointer Dn]}) z (aA (aA ys (unit*3) [.int .i64 1,.int .i64 1,.pointer none]) (L.w*3) [.int .i64 Dm,.int .i64 d13,.pointer Dn]) ((L.w+1)*3) 61:=wD.set (by rw[Int.toNat_natCast];exact j4)
  refine ae (aa 2 rfl (ab [10] ?_));refine ar ⟨.inr rfl,_,.tmp rfl (.nil),?_⟩;exact⟨qx.hle,z,_,rfl,qx,by rw[bY _ (List.mem_cons_self ..)];exact m8 (GX.mono fun vs a=>dT _ _ vs a (uE.le.trans Dl.le)) (by omega) Dp⟩
end Go.au
namespace Go.au
open Go.Proofs Num Lp
def bg(fr:Nat→Bool):Nat→Nat
 | 0=>0
 | k+1=>bg fr k+1+(if fr k then 1 else 0)
def jK(fr:Nat→Bool)(k:Nat):Int:=if fr k then((bg fr k+1:Nat):Int)else -1
def aZ(rel:Nat→Int)(c:Nat):Nat→Nat
 | 0=>c
 | i+1=>aZ rel c i+(if rel i=2 then 0 else 1)
def dd(rel:Nat→Int)(c i:Nat):Int:=if rel i=2 then -1 else(aZ rel c i:Int)
def j7(b:Rat)(rel:Int):Int:=if b<0∨(b=0∧rel=3)then -1 else 1
def eI(rel s:Int):Bool:=decide ((rel=1∧s=1)∨(rel=3∧s = -1))
def aV(rel sg:Nat→Int)(u:Nat):Nat→Nat
 | 0=>u
 | i+1=>aV rel sg u i+(if eI (rel i) (sg i)then 0 else 1)
def ml(rel sg:Nat→Int)(c u i:Nat):Nat:=if eI (rel i) (sg i)then aZ rel c i else aV rel sg u i
theorem wE(b:Rat)(rel:Int):j7 b rel=1∨j7 b rel = -1:=by unfold j7;split <;> simp
theorem GZ(fr:Nat→Bool)(k:Nat):bg fr k≤2*k:=by
 induction k with
 | zero=>exact Nat.le_refl _
 | succ k ih=>unfold bg;split <;> omega
theorem qy(rel:Nat→Int)(c k:Nat):aZ rel c k≤c+k∧c≤aZ rel c k:=by
 induction k with
 | zero=>exact⟨Nat.le_refl _,Nat.le_refl _⟩
 | succ k ih=>unfold aZ;split <;> omega
theorem rW(rel sg:Nat→Int)(u k:Nat):aV rel sg u k≤u+k∧u≤aV rel sg u k:=by
 induction k with
 | zero=>exact⟨Nat.le_refl _,Nat.le_refl _⟩
 | succ k ih=>unfold aV;split <;> omega
theorem G0{fr:Nat→Bool}{j k:Nat}(h:j<k):bg fr j+1+(if fr j then 1 else 0)≤bg fr k:=by
 induction k with
 | zero=>omega
 | succ k ih=>
  by_cases e:j=k
  ·subst e;exact Nat.le_refl _
  ·have:=ih (by omega)
   show _≤bg fr k+1+(if fr k then 1 else 0)
   omega
theorem G6{rel:Nat→Int}{c j k:Nat}(h:j<k):aZ rel c j+(if rel j=2 then 0 else 1)≤aZ rel c k:=by
 induction k with
 | zero=>omega
 | succ k ih=>
  by_cases e:j=k
  ·subst e;exact Nat.le_refl _
  ·have:=ih (by omega)
   show _≤aZ rel c k+(if rel k=2 then 0 else 1)
   omega
theorem G8{rel sg:Nat→Int}{u j k:Nat}(h:j<k):aV rel sg u j+(if eI (rel j) (sg j)then 0 else 1)≤aV rel sg u k:=by
 induction k with
 | zero=>omega
 | succ k ih=>
  by_cases e:j=k
  ·subst e;exact Nat.le_refl _
  ·have:=ih (by omega)
   show _≤aV rel sg u k+(if eI (rel k) (sg k)then 0 else 1)
   omega
def ints(f:Nat→Int)(k:Nat):List Value:=(List.range k).map fun j=> .int .i64 (f j)
theorem py(f:Nat→Int)(k:Nat):ints f (k+1)=ints f k ++ [.int .i64 (f k)]:=by
 unfold ints;rw[List.range_succ,List.map_append];rfl
theorem uH(f:Nat→Int)(k:Nat):(ints f k).length=k:=by simp[ints]
theorem pz{f:Nat→Int}{k i:Nat}(h:i<k):(ints f k)[i]? = some (.int .i64 (f i)):=by simp[ints,h]
theorem bm.ints{K:Heap}{v:Value}{f:Nat→Int}{k:Nat}(h:bm K v 3 1 k (au.ints f k)):aM o6 1 K v ((List.range k).map f):=by
 obtain⟨A,c,rfl⟩:=h.form
 refine⟨A,c,_,by rw[List.length_map,List.length_range],?_,h.rd,⟨by rw[uH,List.length_map,List.length_range,Nat.mul_one],fun i z hz=> ?_⟩⟩
 ·rw[List.length_map,List.length_range]
  rcases h.2 with ⟨k1,k2⟩ | ⟨g,cap,k1,_,k3,_⟩
  ·omega
  ·cases k1;exact k3
 ·rw[List.getElem?_map]at hz
  have hi:i<k:=by
   false_or_by_contra
   rw[List.getElem?_eq_none (by rw[List.length_range];omega)]at hz;cases hz
  rw[List.getElem?_range hi]at hz
  cases hz
  rw[KL (pz hi)];rfl
theorem bm.G9{K:Heap}{v:Value}{f:Nat→Nat}{k:Nat}(h:bm K v 3 1 k (au.ints (fun j=>(f j:Int)) k)):aM o7 1 K v ((List.range k).map f):=by
 obtain⟨A,c,xs,h1,h2,h3,h4⟩:=bm.ints h
 rw[List.length_map,List.length_range]at h1 h2
 refine⟨A,c,xs,by rw[List.length_map,List.length_range];exact h1,by rw[List.length_map,List.length_range];exact h2,h3,⟨by rw[h4.len,List.length_map,List.length_map],fun i z hz=> ?_⟩⟩
 rw[List.getElem?_map]at hz
 cases hr:(List.range k)[i]? with
 | none=>rw[hr]at hz;cases hz
 | some j=>
  rw[hr]at hz
  cases hz
  exact h4.at_ i (f j:Int) (by rw[List.getElem?_map,hr];rfl)
def uI(v v':Value):Prop:=∀q,v.ownBlock=some q→v'.ownBlock≠some q
theorem uI.symm{v v':Value}(h:uI v v'):uI v' v:=fun q h1 h2=>h q h2 h1
structure iP(K0:Heap)(je:Value)(e sz n:Nat)(xs:List Value)(v:Value)(K:Heap):Prop where
 own:bm K v e sz n xs
 le:Heap.le K0 K
 new:∀q,v.ownBlock=some q→je.ownBlock=some q∨K0 q=none
 gU:∀(v':Value)(e' qW n':Nat)(lJ:List Value),bm K0 v' e' qW n' lJ→uI je v'→bm K v' e' qW n' lJ∧uI v v'
theorem bm.lift{H:Heap}{gs:List Nat}{v:Value}{e sz n:Nat}{xs:List Value}(h:bm (rem H gs) v e sz n xs):bm H v e sz n xs∧∀q,q∈gs→v.ownBlock≠some q:=by
 have h2:∀q,q∈gs→v.ownBlock≠some q:=fun q hq hv=>by
  obtain⟨en,he⟩:=h.block hv
  rw[rem_in hq]at he;cases he
 exact⟨h.same fun q hq=>(bK (fun hm=>h2 q hm hq)).symm,h2⟩
theorem lC{H1 H3:Heap}{gs:List Nat}{je v3:Value}{e sz n0 n gb:Nat}{ly xs:List Value}{en:aG}(a4:∀q,q∈gs→H1 q≠none)(bO:H1 gb=none)(ho:bm (rem H1 gs) je e sz n0 ly)(ha:App (ins H1 gb en) je e sz n xs v3 H3):
  iP (rem H1 gs) je e sz n xs v3 (rem H3 gs)∧∀q,q∈gs→H3 q=H1 q:=by
 obtain⟨hl,hh⟩:=ho.lift
 have Dq:¬gb∈gs:=fun h=>a4 gb h bO
 have qk:∀q,q∈gs→ins H1 gb en q≠none:=fun q hq=>by rw[bD _ _ (fun e=>Dq (by rw[←e];exact hq))];exact a4 q hq
 obtain⟨kX,hs⟩:=ha.rem qk hh
 rw[yk _ Dq]at kX
 have hK:rem H1 gs gb=none:=by rw[bK Dq];exact bO
 refine⟨⟨kX.own,(Heap.bh _ hK).trans kX.le,fun q hq=>(by
  rcases kX.at_ with h4 | ⟨g',h4,h5⟩
  ·exact .inl (by rw[←h4];exact hq)
  ·rw[h4]at hq
   cases hq
   exact .inr (th h5).2),fun v' e' qW n' lJ h' Dr=> ?_⟩,fun q hq=>by rw[hs q hq,bD _ _ (fun e=>Dq (by rw[←e];exact hq))]⟩
 have h1:bm (ins (rem H1 gs) gb en) v' e' qW n' lJ:=h'.ins _ hK
 refine⟨h1.same fun q hq=> ?_,fun q h2 h3=> ?_⟩
 ·obtain⟨M3,zE⟩:=h1.block hq
  rw[kX.same q M3 zE (fun h=>Dr q h hq),zE]
 ·rcases kX.at_ with h4 | ⟨g',h4,h5⟩
  ·exact Dr q (by rw[←h4];exact h2) h3
  ·rw[h4]at h2
   cases h2
   obtain⟨M3,zE⟩:=h1.block h3
   rw[h5]at zE;cases zE
def nh(a1:Addr)(v1:Value)(a2:Addr)(v2:Value)(ad:Addr):Option Value:=if ad=a1 then some v1 else if ad=a2 then some v2 else none
theorem iy{a1 a2:Addr}{v1 v2:Value}{H:Heap}(h1:cell H a1=some v1)(h2:cell H a2=some v2):(Mode.dK (nh a1 v1 a2 v2)).nt H:=fun ad v h=>by
 have h':nh a1 v1 a2 v2 ad=some v:=h
 unfold nh at h'
 split at h'
 ·rename_i e;rw[e,h1];exact h'
 ·split at h'
  ·rename_i e;rw[e,h2];exact h'
  ·cases h'
theorem pA{a1 a2:Addr}{v1 v2:Value}:nh a1 v1 a2 v2 a1=some v1:=by simp[nh]
theorem zF{a1 a2:Addr}{v1 v2:Value}(h:a2≠a1):nh a1 v1 a2 v2 a2=some v2:=by simp[nh,h]
theorem zG{g g' o o':Nat}(h:g≠g'):(⟨g,o,none⟩:Addr)≠⟨g',o',none⟩:=fun e=>h (by cases e;rfl)
def zH(_:Heap)(vs:List Value)(b:Bool):Prop:=vs = [.bool b]
theorem Hd:Up zH:=fun _ _ _ _ _ h=>h
def dN(N:Nat)(H:Heap)(v:Value)(p:Prg):Prop:=∃fv rv,v = .agg #[fv,rv]∧aM zH 1 H fv p.free∧aM (ep N) 5 H rv p.rows
theorem dN.le{N:Nat}{H H':Heap}{v:Value}{p:Prg}(h:dN N H v p)(hl:Heap.le H H'):dN N H' v p:=by
 obtain⟨fv,rv,h1,h2,h3⟩:=h
 exact⟨fv,rv,h1,h2.le Hd hl,h3.le (qo N) hl⟩
section
variable (p:Prg)
abbrev _root_.Lp.Prg.aF(i:Nat):Int:=j7 (p.lp.b i) (p.lp.rel i)
abbrev _root_.Lp.Prg.c1:Nat:=bg p.lp.free p.lp.n
abbrev _root_.Lp.Prg.u:Nat:=aZ p.lp.rel p.c1 p.lp.m
abbrev _root_.Lp.Prg.w:Nat:=aV p.lp.rel p.aF p.u p.lp.m
abbrev _root_.Lp.Prg.unit(i:Nat):Nat:=ml p.lp.rel p.aF p.c1 p.u i
def _root_.Lp.Prg.lay:TL:=⟨p.w,p.u,(List.range p.lp.n).map (bg p.lp.free),(List.range p.lp.n).map (jK p.lp.free),(List.range p.lp.m).map p.unit,aH (fun i=>(p.aF i:Rat)) p.lp.m⟩
def _root_.Lp.Prg.dV:al:=⟨p.lp.m,p.w,fun i=>C6 p.lay p.lp.n (p.lp.a i) (p.lp.b i) (p.lp.rel i) (dd p.lp.rel p.c1 i) (p.unit i) (p.aF i:Rat),fun _=>0,p.unit⟩
end
end Go.au
namespace Go.au
theorem pB{H:Heap}{gv g:Nat}{e:aG}{v:Value}(h:cell H ⟨gv,0,none⟩=some v)(a4:gv≠g):cell (ins H g e) ⟨gv,0,none⟩=some v:=by
 simp only[cell,bD _ _ a4]at h⊢;exact h
theorem qz(z:Int):∀u,u∈[Value.int .i64 z]→u.oneCell'=true:=fun u hu=>by rw[List.mem_singleton]at hu;rw[hu];rfl
theorem ints_set{f:Nat→Int}{m i:Nat}{z:Int}:(ints f m).set i (.int .i64 z)=ints (fun j=>if j=i then z else f j) m:=by
 apply List.ext_getElem?
 intro j
 by_cases hj:j<m
 ·by_cases e:j=i
  ·subst e
   rw[List.getElem?_set_self (by rw[uH];exact hj),pz hj,if_pos rfl]
  ·rw[List.getElem?_set_ne (fun e'=>e e'.symm),pz hj,pz hj,if_neg e]
 ·rw[List.getElem?_eq_none (by rw[List.length_set,uH];omega),List.getElem?_eq_none (by rw[uH];omega)]
theorem He{f g:Nat→Int}{m:Nat}(h:∀j,j<m→f j=g j):ints f m=ints g m:=by
 unfold ints
 apply List.map_congr_left
 intro j hj
 rw[h j (List.mem_range.1 hj)]
theorem aM.row{N:Nat}{H:Heap}{v:Value}{l:List (List Rat×Int×Rat)}(h:aM (ep N) 5 H v l):∃A c xs,v = .slice A l.length c∧Rd H A xs∧∀(i:Nat)(r:List Rat×Int×Rat),l[i]? = some r→∃A0 c0 f A1 m1 c1 A2 m2 c2,ep N H [.slice A0 r.1.length c0,.int .i64 r.2.1,.bool f,.slice A1 m1 c1,.slice A2 m2 c2] r∧∀(j:Nat)(u:Value),[.slice A0 r.1.length c0,.int .i64 r.2.1,.bool f,.slice A1 m1 c1,.slice A2 m2 c2][j]? = some u→xs[i*5+j]? = some u:=by
 obtain⟨A,c,xs,h1,_,h3,h4⟩:=h
 refine⟨A,c,xs,h1,h3,fun i r hr=> ?_⟩
 obtain⟨vs,_,h5,h6⟩:=h4.get hr
 obtain⟨A0,c0,k,f,A1,m1,c1,A2,m2,c2,rfl,rfl⟩:=h5.cells
 exact⟨A0,c0,f,A1,m1,c1,A2,m2,c2,h5,h6⟩
theorem ep.bound{N:Nat}{H:Heap}{r:List Rat×Int×Rat}{v0:Value}{f:Bool}{u w:Value}(h:ep N H [v0,.int .i64 r.2.1,.bool f,u,w] r):cj H (.agg #[.bool f,u,w]) r.2.2 N:=by
 obtain⟨c,f',u',w',h1,_,h3⟩:=h
 simp only[List.cons.injEq,Value.bool.injEq,and_true,true_and]at h1
 obtain⟨rfl,rfl,rfl,rfl⟩:=h1
 exact h3
end Go.au
namespace Go.au
def a6(v:Value):List Nat:=match v.ownBlock with | some q=>[q] | none=>[]
theorem fP{v:Value}{q:Nat}:q∈a6 v↔v.ownBlock=some q:=by
 unfold a6
 cases h:v.ownBlock with
 | none=>simp
 | some q'=>simp;exact eq_comm
theorem Wf{H H':Heap}{gs:List Nat}{v:Value}{e sz n:Nat}{xs:List Value}(h:Kept (a6 v++gs) H H')(ho:bm (rem H gs) v e sz n xs):bm (rem H' gs) v e sz n xs∧Heap.le (rem H gs) (rem H' gs)∧∀q,q∈gs→H' q=H q:=by
 have hs:∀q,q∈a6 v++gs→H' q=H q:=h.same
 have hv:=ho.lift.2
 refine⟨ho.same fun q hq=> ?_,fun q en hq=> ?_,fun q hq=>hs q (List.mem_append_right _ hq)⟩
 ·have:¬q∈gs:=fun hm=>hv q hm hq
  rw[bK this,bK this,hs q (List.mem_append_left _ (fP.2 hq))]
 ·by_cases hb:q∈a6 v
  ·by_cases hm:q∈gs
   ·rw[rem_in hm]at hq;cases hq
   ·rw[bK hm]at hq
    exact⟨en,by rw[bK hm,hs q (List.mem_append_left _ hb)];exact hq,.refl en⟩
  ·by_cases hm:q∈gs
   ·rw[rem_in hm]at hq;cases hq
   ·have hn:¬q∈a6 v++gs:=fun h=>by
     rcases List.mem_append.1 h with h | h
     ·exact hb h
     ·exact hm h
    obtain⟨e',h1,h2⟩:=h.le q en (by rw[bK hn];rwa [bK hm]at hq)
    exact⟨e',by rw[bK hm];rwa [bK hn]at h1,h2⟩
theorem Wg{H:Heap}{gs:List Nat}{v:Value}{e sz n:Nat}{xs:List Value}(a4:∀q,q∈gs→H q≠none)(ho:bm (rem H gs) v e sz n xs):∀q,q∈a6 v++gs→H q≠none:=fun q hq=>by
 rcases List.mem_append.1 hq with h | h
 ·obtain⟨en,he⟩:=ho.lift.1.block (fP.1 h)
  rw[he];simp
 ·exact a4 q h
theorem M4{K:Heap}{v:Value}{e sz n:Nat}{xs:List Value}(h:bm K v e sz n xs)(hn:0<n):∃q c,v = .slice (some ⟨q,0,none⟩) n c∧K q=some ⟨xs,c*sz,e,true⟩:=by
 rcases h.2 with ⟨_,h2⟩ | ⟨g,cap,h1,h2,_⟩
 ·omega
 ·exact⟨g,cap,h1,h2⟩
theorem Wh{H H':Heap}{gs b:List Nat}(h:Heap.le H (rem H' gs))(hb:∀q,q∈b→H q=none):Heap.le H (rem H' (b++gs)):=fun q e hq=>by
 obtain⟨e',h1,h2⟩:=h q e hq
 have hm:¬q∈gs:=fun hm=>by rw[rem_in hm]at h1;cases h1
 refine⟨e',?_,h2⟩
 rw[bK (fun h3=>by
  rcases List.mem_append.1 h3 with h3 | h3
  ·rw[hb q h3]at hq;cases hq
  ·exact hm h3)]
 rwa [bK hm]at h1
theorem le_none{H K:Heap}(h:Heap.le H K){q:Nat}(hq:K q=none):H q=none:=by
 cases hh:H q with
 | none=>rfl
 | some e=>(obtain⟨e',h1,_⟩:=h q e hh;rw[hq]at h1;cases h1)
theorem iP.a6{K0 K H:Heap}{je v:Value}{e sz n:Nat}{xs:List Value}(h:iP K0 je e sz n xs v K)(hl:Heap.le H K0)(hb:∀q,q∈au.a6 je→H q=none):∀q,q∈au.a6 v→H q=none:=fun q hq=>by
 rcases h.new q (fP.1 hq)with h1 | h1
 ·exact hb q (fP.2 h1)
 ·exact le_none hl h1
end Go.au
namespace Go.au
open Go.Proofs Num Lp
def dA(rg:List (Nat×Nat))(bv:Value)(gk g:Nat):List Nat:=rg.map (·.1)++(a6 bv ++ [gk,g])
def jL(rg:List (Nat×Nat))(gk g:Nat):List Nat:=rg.map (·.1) ++ [gk,g]
def jM(rv:Value)(rg:List (Nat×Nat))(bv:Value)(gk:Nat):List Nat:=a6 rv++(rg.map (·.1)++(a6 bv ++ [gk]))
def Hf(w:Nat)(p:Nat×Nat):Value:= .slice (some ⟨p.1,0,none⟩) (w+1) p.2
theorem dR{rg:List (Nat×Nat)}{bv:Value}{gk g q:Nat}:q∈dA rg bv gk g↔q∈rg.map (·.1)∨q∈a6 bv∨q=gk∨q=g:=by
 unfold dA;simp only[List.mem_append,List.mem_cons,List.not_mem_nil,or_false]
theorem mm{rg:List (Nat×Nat)}{gk g q:Nat}:q∈jL rg gk g↔q∈rg.map (·.1)∨q=gk∨q=g:=by
 unfold jL;simp only[List.mem_append,List.mem_cons,List.not_mem_nil,or_false]
theorem od{rg:List (Nat×Nat)}{rv bv:Value}{gk q:Nat}:q∈jM rv rg bv gk↔q∈a6 rv∨q∈rg.map (·.1)∨q∈a6 bv∨q=gk:=by
 unfold jM;simp only[List.mem_append,List.mem_cons,List.not_mem_nil,or_false]
structure fQ(K:Heap)(g gk w:Nat)(A:Nat→Nat→Rat)(unit:Nat→Nat)(H:Heap)(rv:Value)(k:Nat)(hd:List Value)(bv:Value)(kb:Nat)(rg:List (Nat×Nat)):Prop where
 ne:∀q,q∈dA rg bv gk g→H q≠none
 nd:(dA rg bv gk g).Nodup
 le:Heap.le K (rem H (dA rg bv gk g))
 rX:bm (rem H (dA rg bv gk g)) rv 56 1 k hd
 Ds:∀q,q∈a6 rv→K q=none
 zI:bm H bv 3 1 kb (ints (fun j=>(unit j:Int)) kb)
 row:∀(j:Nat)(p:Nat×Nat),rg[j]? = some p→im (rem H (dA rg bv gk g)) H p.1 (aH (A j) (w+1))
section
variable {K:Heap} {g gk w:Nat} {A:Nat→Nat→Rat} {unit:Nat→Nat} {H H2:Heap} {rv:Value} {k:Nat} {hd:List Value} {bv:Value} {kb:Nat} {rg:List (Nat×Nat)}
theorem fQ.zJ(h:fQ K g gk w A unit H rv k hd bv kb rg):∀q,q∈a6 rv→¬q∈dA rg bv gk g∧H q≠none:=fun q hq=>by
 have h1:=h.rX.lift
 refine⟨fun hm=>h1.2 q hm (fP.1 hq),?_⟩
 obtain⟨e,he⟩:=h1.1.block (fP.1 hq)
 rw[he];simp
theorem fQ.Wi(h:fQ K g gk w A unit H rv k hd bv kb rg):∀q,q∈jM rv rg bv gk→H q≠none:=fun q hq=>by
 rcases od.1 hq with h1 | h1 | h1 | h1
 ·exact(h.zJ q h1).2
 ·exact h.ne q (dR.2 (.inl h1))
 ·exact h.ne q (dR.2 (.inr (.inl h1)))
 ·exact h.ne q (dR.2 (.inr (.inr (.inl h1))))
theorem zK{rg:List (Nat×Nat)}{bv:Value}{gk g:Nat}(h:(dA rg bv gk g).Nodup):¬g∈rg.map (·.1)∧¬g∈a6 bv∧gk≠g∧(∀q,q∈a6 bv→¬q∈rg.map (·.1)∧q≠gk)∧¬gk∈rg.map (·.1):=by
 unfold dA at h
 rw[List.nodup_append,List.nodup_append]at h
 obtain⟨_,⟨_,h2,h3⟩,h4⟩:=h
 have h5:gk≠g:=by
  rw[List.nodup_cons]at h2
  exact fun e=>h2.1 (by rw[e];exact List.mem_singleton.2 rfl)
 refine⟨fun hm=>h4 g hm g (by simp) rfl,fun hm=>h3 g hm g (by simp) rfl,h5,fun q hq=>⟨fun hm=>h4 q hm q (List.mem_append_left _ hq) rfl,fun e=>h3 q hq gk (by simp) e⟩,fun hm=>h4 gk hm gk (by simp) rfl⟩
theorem fQ.gR(h:fQ K g gk w A unit H rv k hd bv kb rg):¬g∈jM rv rg bv gk:=fun hm=>by
 obtain⟨n1,n2,n3,_⟩:=zK h.nd
 rcases od.1 hm with h1 | h1 | h1 | h1
 ·exact(h.zJ g h1).1 (dR.2 (.inr (.inr (.inr rfl))))
 ·exact n1 h1
 ·exact n2 h1
 ·exact n3 h1.symm
theorem fQ.Wj(h:fQ K g gk w A unit H rv k hd bv kb rg){z c:Nat}{xs:List Value}{sz:Nat}(hs:∀q,q∈jM rv rg bv gk→H2 q=H q)(gP:c7 [g] (rem H (jM rv rg bv gk)) (rem H2 (jM rv rg bv gk)) z xs sz 61)
  (jm:bF (aT (rem (rem H2 (jM rv rg bv gk)) (z :: [g]))) 3 xs (aH (A rg.length) (w+1))):fQ K g gk w A unit H2 rv k hd bv kb (rg ++ [(z,c)])∧H2 g=H g∧H2 gk=H gk:=by
 have M5:=h.gR
 have dC:H2 g=H g:=by
  have:=gP.same g (List.mem_singleton.2 rfl)
  rwa [bK M5,bK M5]at this
 have M6:H2 gk=H gk:=hs gk (od.2 (.inr (.inr (.inr rfl))))
 have M7:¬z∈jM rv rg bv gk:=fun hm=>by have:=gP.a6;rw[rem_in hm]at this;cases this
 have g8:H2 z=some ⟨xs,sz,61,true⟩:=by have:=gP.a6;rwa [bK M7]at this
 have qn:H z=none:=by have:=gP.zn;rwa [bK M7]at this
 have MD:z≠g:=fun e=>gP.zg (List.mem_singleton.2 e)
 have M8:¬z∈dA rg bv gk g:=fun hm=>h.ne z hm qn
 have oF:∀q,q∈dA (rg ++ [(z,c)]) bv gk g↔q=z∨q∈dA rg bv gk g:=fun q=>by
  rw[dR,dR,List.map_append,List.mem_append]
  simp only[List.map_cons,List.map_nil,List.mem_singleton]
  constructor
  ·rintro((h | h) | h | h | h)
   ·exact .inr (.inl h)
   ·exact .inl h
   ·exact .inr (.inr (.inl h))
   ·exact .inr (.inr (.inr (.inl h)))
   ·exact .inr (.inr (.inr (.inr h)))
  ·rintro(h | h | h | h | h)
   ·exact .inl (.inr h)
   ·exact .inl (.inl h)
   ·exact .inr (.inl h)
   ·exact .inr (.inr (.inl h))
   ·exact .inr (.inr (.inr h))
 have Hg:∀q,q∈dA rg bv gk g→H2 q=H q:=fun q hq=>by
  rcases dR.1 hq with h1 | h1 | h1 | h1
  ·exact hs q (od.2 (.inr (.inl h1)))
  ·exact hs q (od.2 (.inr (.inr (.inl h1))))
  ·rw[h1];exact M6
  ·rw[h1];exact dC
 have jI:∀q,q∈a6 rv→H2 q=H q:=fun q hq=>hs q (od.2 (.inl hq))
 have hle:Heap.le (rem H (dA rg bv gk g)) (rem H2 (dA (rg ++ [(z,c)]) bv gk g)):=fun q e hq=>by
  have hm:¬q∈dA rg bv gk g:=fun hm=>by rw[rem_in hm]at hq;cases hq
  rw[bK hm]at hq
  have Dt:q≠z:=fun e'=>by rw[e',qn]at hq;cases hq
  have nM:¬q∈dA (rg ++ [(z,c)]) bv gk g:=fun nM=>by
   rcases(oF q).1 nM with h1 | h1
   ·exact Dt h1
   ·exact hm h1
  by_cases hb:q∈a6 rv
  ·exact⟨e,by rw[bK nM,jI q hb];exact hq,.refl e⟩
  ·have hR:¬q∈jM rv rg bv gk:=fun hR=>by
    rcases od.1 hR with h1 | h1 | h1 | h1
    ·exact hb h1
    ·exact hm (dR.2 (.inl h1))
    ·exact hm (dR.2 (.inr (.inl h1)))
    ·exact hm (dR.2 (.inr (.inr (.inl h1))))
   have yc:q≠g:=fun e'=>hm (dR.2 (.inr (.inr (.inr e'))))
   obtain⟨e',h1,h2⟩:=gP.le q e (by rw[bK (fun h'=>yc (List.mem_singleton.1 h')),bK hR];exact hq)
   have Wk:¬q∈z :: [g]:=fun h'=>by
    rcases List.mem_cons.1 h' with h' | h'
    ·exact Dt h'
    ·exact yc (List.mem_singleton.1 h')
   rw[bK Wk,bK hR]at h1
   exact⟨e',by rw[bK nM];exact h1,h2⟩
 have Wl:Heap.le (rem (rem H2 (jM rv rg bv gk)) (z :: [g])) (rem H2 (dA (rg ++ [(z,c)]) bv gk g)):=fun q e hq=>by
  have h1:¬q∈z :: [g]:=fun h'=>by rw[rem_in h']at hq;cases hq
  rw[bK h1]at hq
  have h2:¬q∈jM rv rg bv gk:=fun h'=>by rw[rem_in h']at hq;cases hq
  rw[bK h2]at hq
  refine⟨e,?_,.refl e⟩
  rw[bK]
  ·exact hq
  ·intro h3
   rcases(oF q).1 h3 with h4 | h4
   ·exact h1 (by rw[h4];exact List.mem_cons_self ..)
   ·rcases dR.1 h4 with h5 | h5 | h5 | h5
    ·exact h2 (od.2 (.inr (.inl h5)))
    ·exact h2 (od.2 (.inr (.inr (.inl h5))))
    ·exact h2 (od.2 (.inr (.inr (.inr h5))))
    ·exact h1 (by rw[h5];exact List.mem_cons_of_mem _ (List.mem_singleton.2 rfl))
 refine⟨⟨fun q hq=> ?_,?_,h.le.trans hle,h.rX.same fun q hq=> ?_,h.Ds,h.zI.same fun q hq=>Hg q (dR.2 (.inr (.inl (fP.2 hq)))),fun j p hp=> ?_⟩,dC,M6⟩
 ·rcases(oF q).1 hq with h1 | h1
  ·rw[h1,g8];simp
  ·rw[Hg q h1];exact h.ne q h1
 ·have gL:=h.nd
  unfold dA at gL⊢
  rw[List.map_append,List.append_assoc,List.nodup_append]at *
  refine⟨gL.1,?_,fun a ha b hb=> ?_⟩
  ·simp only[List.map_cons,List.map_nil,List.singleton_append,List.nodup_cons]
   exact⟨fun hm=>M8 (by unfold dA;exact List.mem_append_right _ hm),gL.2.1⟩
  ·simp only[List.map_cons,List.map_nil,List.singleton_append,List.mem_cons]at hb
   rcases hb with hb | hb
   ·intro e
    exact M8 (by unfold dA;rw[←hb,←e];exact List.mem_append_left _ ha)
   ·exact gL.2.2 a ha b (by simpa using hb)
 ·have h1:=h.zJ q (fP.2 hq)
  have Dt:q≠z:=fun e=>h1.2 (by rw[e];exact qn)
  rw[bK h1.1,bK (fun h2=>by
   rcases(oF q).1 h2 with h3 | h3
   ·exact Dt h3
   ·exact h1.1 h3),jI q (fP.2 hq)]
 ·by_cases hj:j<rg.length
  ·rw[List.getElem?_append_left hj]at hp
   exact(h.row j p hp).le hle (Hg _ (dR.2 (.inl (List.mem_map.2 ⟨p,List.mem_of_getElem? hp,rfl⟩))))
  ·rw[List.getElem?_append_right (by omega)]at hp
   have Wm:j-rg.length=0:=by
    have:=(List.getElem?_eq_some_iff.1 hp).1
    simp at this;omega
   rw[Wm]at hp
   simp only[List.getElem?_cons_zero,Option.some.injEq]at hp
   subst hp
   have:j=rg.length:=by omega
   rw[this]
   exact⟨xs,sz,g8,jm.mono fun vs a=>dT _ _ vs a Wl⟩
theorem fQ.Wn(h:fQ K g gk w A unit H rv k hd bv kb rg){M9:Value}{k':Nat}{jr:List Value}(hG:iP (rem H (dA rg bv gk g)) rv 56 1 k' jr M9 (rem H2 (dA rg bv gk g)))(hs:∀q,q∈dA rg bv gk g→q≠g→H2 q=H q)(hg:H2 g≠none):fQ K g gk w A unit H2 M9 k' jr bv kb rg:=by
 obtain⟨n1,n2,n3,n4,n5⟩:=zK h.nd
 refine⟨fun q hq=> ?_,h.nd,h.le.trans hG.le,hG.own,hG.a6 h.le h.Ds,h.zI.same fun q hq=> ?_,fun j p hp=> ?_⟩
 ·by_cases e:q=g
  ·rw[e];exact hg
  ·rw[hs q hq e];exact h.ne q hq
 ·have:=fP.2 hq
  exact hs q (dR.2 (.inr (.inl this))) (fun e=>n2 (by rw[←e];exact this))
 ·have hm:p.1∈rg.map (·.1):=List.mem_map.2 ⟨p,List.mem_of_getElem? hp,rfl⟩
  exact(h.row j p hp).le hG.le (hs _ (dR.2 (.inl hm)) (fun e=>n1 (by rw[←e];exact hm)))
theorem fQ.Wo(h:fQ K g gk w A unit H rv k hd bv kb rg){zL:Value}(hG:iP (rem H (jL rg gk g)) bv 3 1 (kb+1) (ints (fun j=>(unit j:Int)) (kb+1)) zL (rem H2 (jL rg gk g)))(hs:∀q,q∈jL rg gk g→q≠g→H2 q=H q)(hg:H2 g≠none):fQ K g gk w A unit H2 rv k hd zL (kb+1) rg:=by
 obtain⟨n1,n2,n3,n4,n5⟩:=zK h.nd
 have Hh:∀q,q∈jL rg gk g→q∈dA rg bv gk g:=fun q hq=>by
  rcases mm.1 hq with h1 | h1 | h1
  ·exact dR.2 (.inl h1)
  ·exact dR.2 (.inr (.inr (.inl h1)))
  ·exact dR.2 (.inr (.inr (.inr h1)))
 have Na:∀q,q∈jL rg gk g→H2 q≠none:=fun q hq=>by
  by_cases e:q=g
  ·rw[e];exact hg
  ·rw[hs q hq e];exact h.ne q (Hh q hq)
 have sy:=hG.own.lift
 have Hi:∀q,q∈a6 zL→¬q∈jL rg gk g:=fun q hq hm=>sy.2 q hm (fP.1 hq)
 have Wp:∀q,q∈a6 zL→q∈a6 bv∨H q=none:=fun q hq=>by
  rcases hG.new q (fP.1 hq)with h1 | h1
  ·exact .inl (fP.2 h1)
  ·exact .inr (by rwa [bK (Hi q hq)]at h1)
 have hle:Heap.le (rem H (dA rg bv gk g)) (rem H2 (dA rg zL gk g)):=fun q e hq=>by
  have hm:¬q∈dA rg bv gk g:=fun hm=>by rw[rem_in hm]at hq;cases hq
  rw[bK hm]at hq
  have hJ:¬q∈jL rg gk g:=fun h1=>hm (Hh q h1)
  obtain⟨e',h1,h2⟩:=hG.le q e (by rw[bK hJ];exact hq)
  rw[bK hJ]at h1
  refine⟨e',?_,h2⟩
  rw[bK]
  ·exact h1
  ·intro h3
   rcases dR.1 h3 with h4 | h4 | h4
   ·exact hm (dR.2 (.inl h4))
   ·rcases Wp q h4 with h5 | h5
    ·exact hm (dR.2 (.inr (.inl h5)))
    ·rw[h5]at hq;cases hq
   ·exact hm (dR.2 (.inr (.inr h4)))
 have Wq:bm (rem H (jL rg gk g)) rv 56 1 k hd:=h.rX.same fun q hq=>by
  have h1:=(h.zJ q (fP.2 hq)).1
  rw[bK h1,bK (fun h2=>h1 (Hh q h2))]
 have Dr:uI bv rv:=fun q h1 h2=>(h.zJ q (fP.2 h2)).1 (dR.2 (.inr (.inl (fP.2 h1))))
 obtain⟨wv,Hj⟩:=hG.gU _ _ _ _ _ Wq Dr
 refine⟨fun q hq=> ?_,?_,h.le.trans hle,wv.same fun q hq=> ?_,h.Ds,sy.1,fun j p hp=> ?_⟩
 ·rcases dR.1 hq with h1 | h1 | h1
  ·exact Na q (mm.2 (.inl h1))
  ·obtain⟨e,he⟩:=sy.1.block (fP.1 h1)
   rw[he];simp
  ·exact Na q (mm.2 (.inr h1))
 ·have gL:=h.nd
  unfold dA at gL⊢
  rw[List.nodup_append,List.nodup_append]at *
  refine⟨gL.1,⟨?_,gL.2.1.2.1,fun a ha b hb e=> ?_⟩,fun a ha b hb e=> ?_⟩
  ·unfold a6;split <;> simp
  ·refine Hi a ha (mm.2 (.inr ?_))
   rw[e];simpa using hb
  ·rcases List.mem_append.1 hb with h1 | h1
   ·exact Hi b h1 (mm.2 (.inl (by rw[←e];exact ha)))
   ·exact gL.2.2 a ha b (List.mem_append_right _ h1) e
 ·have h1:¬q∈jL rg gk g:=fun h1=>wv.lift.2 q h1 hq
  rw[bK h1,bK]
  intro h2
  rcases dR.1 h2 with h3 | h3 | h3
  ·exact h1 (mm.2 (.inl h3))
  ·exact Hj q (fP.1 h3) hq
  ·exact h1 (mm.2 (.inr h3))
 ·have hm:p.1∈rg.map (·.1):=List.mem_map.2 ⟨p,List.mem_of_getElem? hp,rfl⟩
  exact(h.row j p hp).le hle (hs _ (mm.2 (.inl hm)) (fun e=>n1 (by rw[←e];exact hm)))
theorem fQ.Nb(h:fQ K g gk w A unit H rv k hd bv kb rg):bm (rem H (jL rg gk g)) bv 3 1 kb (ints (fun j=>(unit j:Int)) kb):=by
 obtain⟨n1,n2,n3,n4,n5⟩:=zK h.nd
 refine h.zI.same fun q hq=> ?_
 have hb:=fP.2 hq
 rw[bK]
 intro h1
 rcases mm.1 h1 with h2 | h2 | h2
 ·exact(n4 q hb).1 h2
 ·exact(n4 q hb).2 h2
 ·exact n2 (by rw[←h2];exact hb)
theorem fQ.Wr(h:fQ K g gk w A unit H rv k hd bv kb rg):Heap.le K (rem (rem H (jM rv rg bv gk)) [g]):=fun q e hq=>by
 obtain⟨e',h1,h2⟩:=h.le q e hq
 have hm:¬q∈dA rg bv gk g:=fun hm=>by rw[rem_in hm]at h1;cases h1
 rw[bK hm]at h1
 refine⟨e',?_,h2⟩
 rw[bK (fun h3=>hm (dR.2 (.inr (.inr (.inr (List.mem_singleton.1 h3)))))),bK]
 ·exact h1
 ·intro h3
  rcases od.1 h3 with h4 | h4 | h4 | h4
  ·rw[h.Ds q h4]at hq;cases hq
  ·exact hm (dR.2 (.inl h4))
  ·exact hm (dR.2 (.inr (.inl h4)))
  ·exact hm (dR.2 (.inr (.inr (.inl h4))))
end
end Go.au
namespace Go.au
open Go.Proofs Num Lp
section
variable (p:Prg)
theorem uJ{j:Nat}(h:j<p.lp.n):p.lay.pF j=bg p.lp.free j:=by
 simp[TL.pF,Prg.lay,List.getD,h]
theorem zM{j:Nat}(h:j<p.lp.n):p.lay.mZ j=jK p.lp.free j:=by
 simp[TL.mZ,Prg.lay,List.getD,h]
theorem pC:p.c1≤p.u:=(qy p.lp.rel p.c1 p.lp.m).2
theorem jo:p.u≤p.w:=(rW p.lp.rel p.aF p.u p.lp.m).2
theorem Du{j:Nat}(h:j<p.lp.n):bg p.lp.free j<p.c1:=by
 have:=G0 (fr:=p.lp.free) h
 have e:p.c1=bg p.lp.free p.lp.n:=rfl
 omega
theorem zN{j:Nat}(h:j<p.lp.n):jK p.lp.free j<p.c1:=by
 have:=G0 (fr:=p.lp.free) h
 have e:p.c1=bg p.lp.free p.lp.n:=rfl
 unfold jK
 by_cases hf:p.lp.free j
 ·rw[if_pos hf]at this⊢;omega
 ·rw[if_neg hf];omega
theorem Hk{i:Nat}(h:i<p.lp.m)(hr:p.lp.rel i≠2):(p.c1:Int)≤dd p.lp.rel p.c1 i∧dd p.lp.rel p.c1 i<p.u:=by
 have h1:=G6 (rel:=p.lp.rel) (c:=p.c1) h
 have h2:=(qy p.lp.rel p.c1 i).2
 rw[if_neg hr]at h1
 have e:p.u=aZ p.lp.rel p.c1 p.lp.m:=rfl
 unfold dd
 rw[if_neg hr];omega
theorem qA{i:Nat}(h:i<p.lp.m):p.unit i<p.w:=by
 have h3:=jo p
 show ml _ _ _ _ _<_
 unfold ml
 by_cases ho:eI (p.lp.rel i) (p.aF i)=true
 ·rw[if_pos ho]
  have hr:p.lp.rel i≠2:=by
   unfold eI at ho
   rw[decide_eq_true_eq]at ho
   omega
  have:=Hk p h hr
  unfold dd at this
  rw[if_neg hr]at this
  omega
 ·rw[if_neg ho]
  have:=G8 (rel:=p.lp.rel) (sg:=p.aF) (u:=p.u) h
  rw[if_neg ho]at this
  have e:p.w=aV p.lp.rel p.aF p.u p.lp.m:=rfl
  omega
theorem Nc:p.w≤2*p.lp.n+2*p.lp.m:=by
 have h1:=(rW p.lp.rel p.aF p.u p.lp.m).1
 have h2:=(qy p.lp.rel p.c1 p.lp.m).1
 have h3:=GZ p.lp.free p.lp.n
 have e1:p.w=aV p.lp.rel p.aF p.u p.lp.m:=rfl
 have e2:p.u=aZ p.lp.rel p.c1 p.lp.m:=rfl
 have e3:p.c1=bg p.lp.free p.lp.n:=rfl
 omega
theorem Ws{i:Nat}{r:List Rat×Int×Rat}(h:p.rows[i]? = some r):p.dV.A i=C6 p.lay p.lp.n (fn r.1) r.2.2 r.2.1 (dd p.lp.rel p.c1 i) (p.unit i) (p.aF i:Rat):=by
 show C6 p.lay p.lp.n (fn (p.row i).1) (p.row i).2.2 (p.row i).2.1 _ _ _=_
 rw[Prg.l7 h]
end
theorem fQ.tab{K H:Heap}{g gk:Nat}{p:Prg}{rv bv pv mv uv sv:Value}{rg:List (Nat×Nat)}(h:fQ K g gk p.w p.dV.A p.unit H rv p.lp.m (rg.map (Hf p.w)) bv p.lp.m rg)(hl:rg.length=p.lp.m)
  (hg:H g=some ⟨[.int .i64 (p.w:Int),.int .i64 (p.u:Int),pv,mv,uv,sv,rv,.slice none 0 0,bv],9,68,true⟩) (pc:aM o7 1 K pv p.lay.plus) (pd:aM o6 1 K mv p.lay.minus) (y6:aM o7 1 K uv p.lay.gF) (lS:aM aT 3 K sv p.lay.gu):
  ∃G:TG,Value.pointer (some ⟨g,0,none⟩) = .pointer (some ⟨G.g,0,none⟩)∧cB H G p.lay p.dV∧G.cb = []∧Heap.le K (rem H G.gs):=by
 obtain⟨Ar,cr,rfl⟩:=h.rX.form
 obtain⟨n1,n2,n3,n4,n5⟩:=zK h.nd
 have gL:=h.nd
 unfold dA at gL
 rw[List.nodup_append,List.nodup_append]at gL
 let G:TG:=⟨g,cr,Ar,pv,mv,uv,sv,.slice none 0 0,bv,rg,[],a6 bv⟩
 have oF:∀q,q∈G.gs→q∈dA rg bv gk g:=fun q hq=>by
  rcases List.mem_cons.1 hq with h1 | h1
  ·exact dR.2 (.inr (.inr (.inr h1)))
  ·rcases List.mem_append.1 h1 with h2 | h2
   ·cases h2
   ·rcases List.mem_append.1 h2 with h3 | h3
    ·exact dR.2 (.inr (.inl h3))
    ·exact dR.2 (.inl h3)
 have hle:Heap.le (rem H (dA rg bv gk g)) (rem H G.gs):=fun q e hq=>by
  have hm:¬q∈dA rg bv gk g:=fun hm=>by rw[rem_in hm]at hq;cases hq
  rw[bK hm]at hq
  exact⟨e,by rw[bK (fun h'=>hm (oF q h'))];exact hq,.refl e⟩
 have hK:=h.le.trans hle
 refine⟨G,rfl,⟨rfl,jo p,hg,?_,hl,⟨_,h.rX.rd.le hle,fun i q hq=> ?_⟩,fun i q hq=>(h.row i q hq).le hle rfl,?_,pc.le jn hK,pd.le o8 hK,y6.le jn hK,lS.le dT hK,fun q hq=>by cases hq⟩,rfl,hK⟩
 ·show (g::([]++(a6 bv++rg.map (·.1)))).Nodup
  rw[List.nil_append,List.nodup_cons,List.nodup_append]
  refine⟨fun hm=> ?_,gL.2.1.1,gL.1,fun a ha b hb e=>(n4 a ha).1 (by rw[e];exact hb)⟩
  rcases List.mem_append.1 hm with h1 | h1
  ·exact n2 h1
  ·exact n1 h1
 ·rw[List.getElem?_map,show rg[i]? = some q from hq];rfl
 ·rcases h.zI.2 with ⟨h1,h2⟩ | ⟨gb,cb,h1,h2,_⟩
  ·refine .inl ⟨h2,?_,h1⟩
   show a6 bv = []
   rw[h1];rfl
  ·refine .inr ⟨gb,cb,_,?_,h1,h2⟩
   show a6 bv = [gb]
   rw[h1];rfl
theorem fQ.new{H:Heap}{g gk w:Nat}{A:Nat→Nat→Rat}{unit:Nat→Nat}(a4:∀q,q∈[gk,g]→H q≠none)(h:gk≠g):fQ (rem H [gk,g]) g gk w A unit H (.slice none 0 0) 0 [] (.slice none 0 0) 0 []:=
 ⟨a4,(by show [gk,g].Nodup;simp[h]),.refl _,oG _ _ _,(fun q hq=>by cases hq),oG _ _ _,(fun j p hp=>by simp at hp)⟩
theorem bm.nums{K K':Heap}{v:Value}{f:Nat→Rat}{k:Nat}{ys:List Value}(h:bm K v 61 3 k ys)(hy:∀K:Heap,bF (aT K) 3 ys (aH f k))(hl:Heap.le K K'):aM aT 3 K' v (aH f k):=by
 obtain⟨A,c,rfl⟩:=h.form
 refine⟨A,c,_,by rw[bV],?_,h.rd.le hl,hy _⟩
 rw[bV]
 rcases h.2 with ⟨k1,k2⟩ | ⟨g,cap,k1,_,k3,_⟩
 ·omega
 ·cases k1;exact k3
theorem Nd{s:Int}(h:s=1∨s = -1):aC (s:Rat)≤1:=by
 rcases h with h | h <;> subst h <;> decide
theorem Wt(A:Option Addr)(k c:Nat):∀u,u∈[Value.slice A k c]→u.oneCell'=true:=fun u hu=>by rw[List.mem_singleton]at hu;rw[hu];rfl
end Go.au
namespace Go.au
open Go.Proofs Num Lp
theorem qB(f:Nat→Rat)(k:Nat)(v:Rat):dU f k v k=v:=by simp[dU]
theorem iz{f:Nat→Rat}{k j:Nat}{v:Rat}(h:j≠k):dU f k v j=f j:=by simp[dU,h]
section
variable {p:Prg}
theorem Dv{a:Nat→Rat}{sg:Rat}{k x:Nat}(hk:k≤p.lp.n)(hx:bg p.lp.free k≤x):gQ p.lay a sg k x=0:=by
 induction k with
 | zero=>rfl
 | succ k ih=>
  have h1:bg p.lp.free (k+1)=bg p.lp.free k+1+(if p.lp.free k then 1 else 0):=rfl
  rw[uC,uJ p (by omega),zM p (by omega)]
  unfold jK
  by_cases hf:p.lp.free k=true
  ·rw[if_pos hf]at h1
   rw[if_pos hf,if_pos (by omega),iz (by rw[Int.toNat_natCast];omega),iz (by omega)]
   exact ih (by omega) (by omega)
  ·rw[if_neg hf]at h1
   rw[if_neg hf,if_neg (by omega),iz (by omega)]
   exact ih (by omega) (by omega)
theorem Dw{a:Nat→Rat}{sg:Rat}{k j:Nat}(hk:k≤p.lp.n)(hj:j<k):gQ p.lay a sg k (bg p.lp.free j)=a j*sg∧(p.lp.free j=true→gQ p.lay a sg k (bg p.lp.free j+1) = -(a j*sg)):=by
 induction k with
 | zero=>omega
 | succ k ih=>
  rw[uC,uJ p (by omega),zM p (by omega)]
  unfold jK
  by_cases e:j=k
  ·subst e
   by_cases hf:p.lp.free j=true
   ·rw[if_pos hf,if_pos (by omega),Int.toNat_natCast]
    refine⟨?_,fun _=>qB _ _ _⟩
    rw[iz (by omega),qB]
   ·rw[if_neg hf,if_neg (by omega),qB]
    exact⟨rfl,fun h=>absurd h hf⟩
  ·have hm:=G0 (fr:=p.lp.free) (show j<k by omega)
   have oM:=ih (by omega) (by omega)
   by_cases hf:p.lp.free k=true
   ·rw[if_pos hf,if_pos (by omega),Int.toNat_natCast]
    refine⟨?_,fun h=> ?_⟩
    ·rw[iz (by omega),iz (by omega)];exact oM.1
    ·rw[if_pos h]at hm
     rw[iz (by omega),iz (by omega)];exact oM.2 h
   ·rw[if_neg hf,if_neg (by omega)]
    refine⟨?_,fun h=> ?_⟩
    ·rw[iz (by omega)];exact oM.1
    ·rw[if_pos h]at hm
     rw[iz (by omega)];exact oM.2 h
theorem Nf{i:Nat}:p.c1≤p.unit i:=by
 show _≤ml _ _ _ _ _
 unfold ml
 split
 ·exact(qy _ _ _).2
 ·exact Nat.le_trans (pC p) (rW _ _ _ _).2
theorem zO{i:Nat}(h:eI (p.lp.rel i) (p.aF i)=true):(p.lp.rel i=1∧p.aF i=1)∨(p.lp.rel i=3∧p.aF i = -1):=by
 unfold eI at h
 rwa [decide_eq_true_eq]at h
theorem wF{i:Nat}(h:eI (p.lp.rel i) (p.aF i)=true):p.unit i=aZ p.lp.rel p.c1 i:=by
 show ml _ _ _ _ _=_;unfold ml;rw[if_pos h]
theorem wG{i:Nat}(h:¬eI (p.lp.rel i) (p.aF i)=true):p.unit i=aV p.lp.rel p.aF p.u i:=by
 show ml _ _ _ _ _=_;unfold ml;rw[if_neg h]
theorem Hl{rel:Nat→Int}{c i q:Nat}(hi:rel i≠2)(hq:rel q≠2)(h:q≠i):aZ rel c q≠aZ rel c i:=by
 rcases Nat.lt_or_gt_of_ne h with h | h
 ·have:=G6 (rel:=rel) (c:=c) h
  rw[if_neg hq]at this;omega
 ·have:=G6 (rel:=rel) (c:=c) h
  rw[if_neg hi]at this;omega
theorem zP{i:Nat}(hi:i<p.lp.m)(hr:p.lp.rel i≠2):aZ p.lp.rel p.c1 i<p.u:=by
 have:=Hk p hi hr
 unfold dd at this
 rw[if_neg hr]at this
 omega
theorem Wu{i q:Nat}(hi:i<p.lp.m)(hq:q<p.lp.m)(h:q≠i):p.unit q≠p.unit i:=by
 by_cases oi:eI (p.lp.rel i) (p.aF i)=true
 ·have ri:p.lp.rel i≠2:=by have:=zO oi;omega
  by_cases oq:eI (p.lp.rel q) (p.aF q)=true
  ·have rq:p.lp.rel q≠2:=by have:=zO oq;omega
   rw[wF oi,wF oq];exact Hl ri rq h
  ·rw[wF oi,wG oq]
   have:=zP hi ri
   have:=(rW p.lp.rel p.aF p.u q).2
   omega
 ·by_cases oq:eI (p.lp.rel q) (p.aF q)=true
  ·have rq:p.lp.rel q≠2:=by have:=zO oq;omega
   rw[wG oi,wF oq]
   have:=zP hq rq
   have:=(rW p.lp.rel p.aF p.u i).2
   omega
  ·rw[wG oi,wG oq]
   rcases Nat.lt_or_gt_of_ne h with h | h
   ·have:=G8 (rel:=p.lp.rel) (sg:=p.aF) (u:=p.u) h
    rw[if_neg oq]at this;omega
   ·have:=G8 (rel:=p.lp.rel) (sg:=p.aF) (u:=p.u) h
    rw[if_neg oi]at this;omega
theorem Ng{i q:Nat}(hi:i<p.lp.m)(ri:p.lp.rel i≠2)(h:q≠i):p.unit q≠aZ p.lp.rel p.c1 i:=by
 by_cases oq:eI (p.lp.rel q) (p.aF q)=true
 ·have rq:p.lp.rel q≠2:=by have:=zO oq;omega
  rw[wF oq];exact Hl ri rq h
 ·rw[wG oq]
  have:=zP hi ri
  have:=(rW p.lp.rel p.aF p.u q).2
  omega
theorem wH(i:Nat):p.dV.A i=dU (dU (oc (gQ p.lay (p.lp.a i) (p.aF i:Rat) p.lp.n) (p.lp.rel i) (dd p.lp.rel p.c1 i) (p.aF i:Rat)) (p.unit i) 1) p.w (p.lp.b i*(p.aF i:Rat)):=rfl
theorem Hm{f:Nat→Rat}{rel slack:Int}{sg:Rat}{x:Nat}(h:rel≠2→x≠slack.toNat):oc f rel slack sg x=f x:=by
 unfold oc
 split
 ·exact iz (h (by omega))
 ·split
  ·exact iz (h (by omega))
  ·rfl
theorem Dx{i:Nat}(hr:p.lp.rel i≠2):(dd p.lp.rel p.c1 i).toNat=aZ p.lp.rel p.c1 i:=by
 unfold dd;rw[if_neg hr,Int.toNat_natCast]
theorem Nh{i x:Nat}(hx:x<p.c1):p.dV.A i x=gQ p.lay (p.lp.a i) (p.aF i:Rat) p.lp.n x:=by
 have h1:=pC p
 have h2:=jo p
 have h3:=Nf (p:=p) (i:=i)
 rw[wH,iz (by omega),iz (by omega),Hm]
 intro hr
 rw[Dx hr]
 have:=(qy p.lp.rel p.c1 i).2
 omega
theorem Wv{i j:Nat}(hj:j<p.lp.n):p.dV.A i (bg p.lp.free j)=p.lp.a i j*(p.aF i:Rat):=by
 rw[Nh (Du p hj)];exact(Dw (Nat.le_refl _) hj).1
theorem Ww{i j:Nat}(hj:j<p.lp.n)(hf:p.lp.free j=true):p.dV.A i (bg p.lp.free j+1) = -(p.lp.a i j*(p.aF i:Rat)):=by
 have:=zN p hj
 unfold jK at this
 rw[if_pos hf]at this
 rw[Nh (by omega)];exact(Dw (Nat.le_refl _) hj).2 hf
theorem Wx{i q:Nat}(hi:i<p.lp.m)(hv:p.lp.rel i=1∨p.lp.rel i=3):p.dV.A q (aZ p.lp.rel p.c1 i)=if q=i then(if p.lp.rel i=1 then(p.aF i:Rat)else -(p.aF i:Rat))else 0:=by
 have hr:p.lp.rel i≠2:=by omega
 have h1:=zP hi hr
 have h2:=jo p
 have h3:=(qy p.lp.rel p.c1 i).2
 rw[wH,iz (by omega)]
 by_cases e:q=i
 ·subst e
  rw[if_pos rfl]
  by_cases o:eI (p.lp.rel q) (p.aF q)=true
  ·rw[wF o,qB]
   rcases zO o with ⟨k1,k2⟩ | ⟨k1,k2⟩
   ·rw[if_pos k1,k2];rfl
   ·rw[if_neg (by omega),k2];grind
  ·rw[iz (by rw[wG o];have:=(rW p.lp.rel p.aF p.u q).2;omega)]
   unfold oc
   rw[Dx hr]
   by_cases k1:p.lp.rel q=1
   ·rw[if_pos k1,if_pos k1,qB]
   ·rw[if_neg k1,if_neg k1,if_pos (by omega),qB]
 ·rw[if_neg e,iz (Ne.symm (Ng hi hr e)),Hm (fun hq=>by rw[Dx hq];exact Ne.symm (Hl hr hq e))]
  exact Dv (Nat.le_refl _) h3
theorem Ni{i q:Nat}(hi:i<p.lp.m)(hq:q<p.lp.m):p.dV.A q (p.unit i)=if q=i then 1 else 0:=by
 have h1:=qA p hi
 rw[wH,iz (by omega)]
 by_cases e:q=i
 ·subst e
  rw[if_pos rfl,qB]
 ·rw[if_neg e,iz (Ne.symm (Wu hi hq e)),Hm]
  ·exact Dv (Nat.le_refl _) Nf
  ·intro rq
   rw[Dx rq]
   exact Ng hq rq (Ne.symm e)
theorem Nj(i:Nat):p.dV.A i p.w=p.lp.b i*(p.aF i:Rat)∧0≤p.dV.A i p.w:=by
 have h:p.dV.A i p.w=p.lp.b i*(p.aF i:Rat):=by rw[wH,qB]
 refine⟨h,?_⟩
 rw[h]
 show 0≤p.lp.b i*((j7 (p.lp.b i) (p.lp.rel i):Int):Rat)
 unfold j7
 split
 ·rename_i hc
  have:p.lp.b i≤0:=by rcases hc with hc | hc <;> grind
  show 0≤p.lp.b i*((-1:Int):Rat)
  grind
 ·rename_i hc
  have:0≤p.lp.b i:=by
   have:¬p.lp.b i<0:=fun h=>hc (.inl h)
   grind
  show 0≤p.lp.b i*((1:Int):Rat)
  grind
def _root_.Lp.Prg.oe(p:Prg)(i:Nat):Option Nat:=if p.lp.rel i=2 then none else some (aZ p.lp.rel p.c1 i)
theorem zQ{j:Nat}(h:j<p.lp.n):p.lay.mF j=if p.lp.free j then some (bg p.lp.free j+1)else none:=by
 unfold TL.mF
 rw[zM p h]
 unfold jK
 by_cases hf:p.lp.free j=true
 ·rw[if_pos hf,if_pos hf,if_pos (by omega),Int.toNat_natCast]
 ·rw[if_neg hf,if_neg hf,if_neg (by omega)]
theorem Nk{i:Nat}(h:i<p.lp.m):p.lay.uF i=p.unit i:=by
 simp[TL.uF,Prg.lay,List.getD,h]
theorem wI{i:Nat}(h:i<p.lp.m):p.lay.sF i=(p.aF i:Rat):=by
 have:p.lay.gu[i]? = some ((p.aF i:Int):Rat):=dQ (f:=fun i=>(p.aF i:Rat)) h
 exact jl this
theorem Wy(f:Nat→Rat){k:Nat}(hk:k≤p.lp.n):aN (bg p.lp.free k) f=aN k (fun j=>f (p.lay.pF j)+eU f (p.lay.mF j)):=by
 induction k with
 | zero=>rfl
 | succ k ih=>
  have h1:bg p.lp.free (k+1)=bg p.lp.free k+1+(if p.lp.free k then 1 else 0):=rfl
  rw[eG,←ih (by omega),uJ p (by omega),zQ (by omega)]
  by_cases hf:p.lp.free k=true
  ·rw[if_pos hf]at h1⊢
   rw[h1,eG,eG]
   simp only[eU];grind
  ·rw[if_neg hf]at h1⊢
   rw[h1,Nat.add_zero,eG]
   simp only[eU];grind
theorem Wz(f:Nat→Rat)(k:Nat):aN (aZ p.lp.rel p.c1 k) f=aN p.c1 f+aN k (fun i=>eU f (p.oe i)):=by
 induction k with
 | zero=>rw[vW,Rat.add_zero];rfl
 | succ k ih=>
  have h1:aZ p.lp.rel p.c1 (k+1)=aZ p.lp.rel p.c1 k+(if p.lp.rel k=2 then 0 else 1):=rfl
  rw[eG]
  by_cases hr:p.lp.rel k=2
  ·rw[if_pos hr]at h1
   have:p.oe k=none:=by unfold Prg.oe;rw[if_pos hr]
   rw[h1,Nat.add_zero,this,ih]
   simp only[eU];grind
  ·rw[if_neg hr]at h1
   have:p.oe k=some (aZ p.lp.rel p.c1 k):=by unfold Prg.oe;rw[if_neg hr]
   rw[h1,this,eG,ih]
   simp only[eU];grind
theorem Dy(bx:p.Ok):cL p.lp p.dV.A p.w p.u p.lay.pF p.lay.mF p.oe p.lay.uF p.lay.sF where
 valid:=bx.valid
 uw:=jo p
 K6 i hi:=by
  rw[wI hi]
  rcases wE (p.lp.b i) (p.lp.rel i)with h | h
  ·left;show ((j7 _ _:Int):Rat)=1;rw[h];rfl
  ·right;show ((j7 _ _:Int):Rat) = -1;rw[h];rfl
 rhs i hi:=by rw[wI hi];exact Nj i
 pl j hj:=by
  rw[uJ p hj]
  refine⟨Nat.lt_of_lt_of_le (Du p hj) (pC p),fun i hi=> ?_⟩
  rw[wI hi];exact Wv hj
 mi j hj:=by
  rw[zQ hj]
  refine⟨fun h=>by rw[h];rfl,fun k hk=> ?_⟩
  by_cases hf:p.lp.free j=true
  ·rw[if_pos hf]at hk
   cases hk
   have h1:=zN p hj
   unfold jK at h1
   rw[if_pos hf]at h1
   have h2:=pC p
   refine⟨by omega,fun i hi=> ?_⟩
   rw[wI hi];exact Ww hj hf
  ·rw[if_neg hf]at hk;cases hk
 F6 j hj hf:=by
  rw[zQ hj,if_pos hf];exact⟨_,rfl⟩
 sl i hi:=by
  refine⟨fun h=>by unfold Prg.oe;rw[if_pos h],fun h=>⟨_,by unfold Prg.oe;rw[if_neg h]⟩,fun k hk=> ?_⟩
  unfold Prg.oe at hk
  by_cases hr:p.lp.rel i=2
  ·rw[if_pos hr]at hk;cases hk
  ·rw[if_neg hr]at hk
   cases hk
   refine⟨zP hi hr,fun q hq=> ?_⟩
   rw[wI hi]
   exact Wx hi (by have:=bx.valid i hi;omega)
 un i hi:=by
  rw[Nk hi]
  exact⟨qA p hi,fun q hq=>Ni hi hq⟩
 sum f:=by
  have h1:p.u=aZ p.lp.rel p.c1 p.lp.m:=rfl
  rw[h1,Wz,show p.c1=bg p.lp.free p.lp.n from rfl,Wy f (Nat.le_refl _)]
theorem kU:p.lay.Ok p.lp.n p.lp.m where
 C1:=by simp[Prg.lay]
 C2:=by simp[Prg.lay]
 Gz:=by simp[Prg.lay]
 GA:=bV _ _
 pw j hj:=by
  rw[uJ p hj]
  have:=Du p hj;have:=pC p;have:=jo p
  show _<p.w;omega
 mw j hj:=by
  rw[zM p hj]
  have:=zN p hj;have:=pC p;have:=jo p
  show _<((p.w:Nat):Int);omega
 uw i hi:=by rw[Nk hi];exact qA p hi
 s1 i hi:=by rw[wI hi];exact Nd (wE _ _)
theorem WA:p.dV.WF where
 lt i hi:=qA p hi
 unit i k hi hk:=Ni hi hk
 zero i hi:=rfl
theorem WB:p.dV.iM:=fun i _=>(Nj i).2
theorem WC:al.Rows p.dV.A p.lp.m p.w p.dV:=al.TE (fun _ _=>rfl) rfl rfl
end
end Go.au
