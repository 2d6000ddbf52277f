/- Part 7 of the proof: Ref5, Ref6, Tab9, Nt, Nt2, Nt3. -/
import Derived.Test.YtdjoookebbbjkaaGreatA06
set_option linter.unusedVariables false
namespace Go.aq
open Go.Proofs Num
theorem Xs{x y:Nat}:(0<kr x y)↔y<x:=by
 unfold kr;split
 ·omega
 ·split <;> omega
theorem agH{x y:Nat}:(kr x y<0)↔x<y:=by
 unfold kr;split
 ·omega
 ·split <;> omega
theorem GV{x y:Nat}:(0≤kr x y)↔y≤x:=by
 unfold kr;split
 ·omega
 ·split <;> omega
theorem Xt{l:List Nat}{k d:Nat}(h:l[k]? = some d):val (l.drop k)=d+B*val (l.drop (k+1)):=by
 obtain⟨hk,e⟩:=List.getElem?_eq_some_iff.1 h
 rw[List.drop_eq_getElem_cons hk,e,jy]
theorem agI{a:Nat}{l:List Nat}(ha:a<B)(h:Lt l):Lt (a::l):=fun z hz=>by
 rcases List.mem_cons.1 hz with rfl | hz
 ·exact ha
 ·exact h z hz
theorem kO.agJ{H:Heap}{v:Value}{l:List Nat}(h:bR H v 74 1 l.length (U l)):jz H v l:=kO.lim h
theorem GW{H:Heap}{u v:Value}{x y:Nat}(hx:dr H u x)(hy:dr H v y)(jk:0<y)(hm:((al x).length:Int)<4398046511104)(bK:((al y).length:Int)<4398046511104):
 Fn Tryz.prog 76 #[u,v] H (Vk H x y):=by
 have mg:=hx
 have tD:=hy
 obtain⟨A,c,rfl,hc,hr⟩:=hx
 obtain⟨A',c',rfl,jw,dR⟩:=hy
 have iD:=(fP x).lt
 have eE:=(fP y).lt
 have aeK:(al y).length≠0:=fun e=>Oy jk (List.eq_nil_of_length_eq_zero e);refine aZ (args:=[_,_]) Tryz.func76 rfl rfl Tryz.ntmps76 rfl rfl fun w0=> ?_;refine ah [0,1] rfl ?_;refine ae (aa 2 rfl (ab [0,1] ?_));refine ao (ae (aa 2 rfl (aC rfl rfl (Ln mg tD (by omega)) ?_)));rintro v1 H1 ⟨e1,rfl⟩;rw[e1];refine aa 1 rfl (ab [0,1,15] ?_);refine aD rfl (fun hb=> ?_) (fun hb=> ?_)
 ·
  have qp:x<y:=agH.1 (by simpa using hb);refine ae (aa 1 rfl (aC rfl rfl (BQ mg iD (by omega)) ?_));rintro v1 H1 hp;rw[cR]at hp;refine aa 2 rfl (ab [4,5] ?_);refine aB ⟨.inr rfl,_,.tmp rfl (.tmp rfl (.nil)),?_⟩;exact⟨hp.le,_,_,rfl,by rw[Nat.div_eq_of_lt qp];exact wG _,by rw[Nat.mod_eq_of_lt qp];exact hp.nat⟩
 ·
  have qp:y≤x:=GV.1 (by simpa using hb);refine az (ah [0,1] rfl ?_);refine ao (ae (aa 3 rfl (ab [0,1,20] ?_)));refine aD rfl (fun hb=> ?_) (fun hb=> ?_)
  ·
   have hb:(al y).length=1:=by simp at hb;omega
   have Lr:(al y)[0]? = some y:=by
    obtain⟨z,hz⟩:=List.length_eq_one_iff.1 hb;have:=cR y;rw[hz]at this⊢
    simp[val]at this
    simp[this]
   have F4:=eE.get Lr;rw[cg]at F4;refine ae (aa 2 rfl (aS ag rfl rfl rfl rfl rfl (dR) (dB Lr) (by omega) (by omega) fun _=>(di ag rfl rfl rfl ⟨by omega,by omega⟩ (aC rfl rfl (agB mg iD F4 jk (by omega)) ?_))));rintro v1 H2 ⟨hle,q,rfl,hq⟩;refine vr 1 ?_;rw[cR]at hq⊢;refine aa 4 rfl (ab [6,7] ?_);refine ae (aa 2 rfl (aC rfl rfl (GR (x:=x%y) (by have:=Nat.mod_lt x jk;omega)) ?_));intro v1 H3 hp;refine aa 2 rfl (ab [4,5] ?_);refine aB ⟨.inr rfl,_,.tmp rfl (.tmp rfl (.nil)),?_⟩;exact⟨hle.trans hp.le,_,_,rfl,hq.le hp.le,hp.nat⟩
  have hb:(al y).length≠1:=by simp at hb;omega
  have gQ:2≤(al y).length:=by omega
  refine az (ah [0,1] rfl ?_);refine ae (aa 2 rfl (gP Tryz.underlying36 eH rfl rfl rfl (by omega) (by omega) (by omega) (by omega) ?_));intro g hg;rw[show (((al x).length:Int)).toNat=(al x).length from by omega,yS];refine aa 1 rfl (ab [0,1,8] ?_);refine ae (aa 1 rfl (ab [0,1,8,9] ?_));refine ao (ae (aa 2 rfl (cQ rfl rfl ⟨by omega,by omega⟩ (aa 1 rfl (ab [0,1,8,9,10] ?_)))));refine aE (pC (fun(k:Nat)(rv:Value)(r:Nat)(l:List Nat)=>k) (fun(k:Nat)(rv:Value)(r:Nat)(l:List Nat)=>put (put (put (put (put (emp) 0 (.val (.slice A (al x).length c))) 1 (.val (.slice A' (al y).length c'))) 8 (.val (.slice (some ⟨g,0,none⟩) (al x).length (al x).length))) 9 (.val (rv))) 10 (.val (.int .i64 ((k:Int)-1)))) (fun(k:Nat)(rv:Value)(r:Nat)(l:List Nat) H'=>Heap.le H (rem H' [g])∧H' g=some (dH l (al x).length)∧l.length=(al x).length∧Lt l∧k≤(al x).length∧r<y∧dr (rem H' [g]) rv r∧val ((al x).drop k)=val (l.drop k)*y+r) (al x).length (.slice none 0 0) 0 _ (⟨by rw[tF _ hg,qv];exact .refl _,bn _ _ _,by simp,Lt.replicate _,Nat.le_refl _,jk,wG _,by simp[val]⟩) ar ?_);rintro k rv r l H1 ⟨hle,FZ,tA,bX,hk,PU,ka,hv⟩
  obtain⟨Ar,cr,rfl,qm,oQ⟩:=id ka;have amW:=mc (Nat.le_of_lt PU);have oP:=hle.trans (bD H1 [g]);refine ao (ae (aa 2 rfl (ab [0,1,8,9,10,40] ?_)));refine aD rfl (fun hb=> ?_) (fun hb=> ?_)
  ·
   have hb:0<k:=by simp at hb;omega
   obtain⟨ai,Lu⟩:∃d,(al x)[k-1]? = some d:=⟨_,List.getElem?_eq_getElem (by omega)⟩;have Xu:=iD.get Lu;rw[cg]at Xu
   have Xv:(((k:Int)-1)).toNat=k-1:=by omega
   refine az (ah [0,1,8,9,10] rfl ?_);refine ao (aE (ae (aa 2 rfl (aS ag rfl rfl rfl rfl rfl (hr.le oP) (by rw[Xv];exact dB Lu) (by omega) (by omega) fun _=> ?_))));refine cI Tryz.underlying36 eH rfl rfl rfl rfl rfl rfl rfl ?_;intro gb aV
   have PV:gb≠g:=fun e=>by subst e;rw[FZ]at aV;cases aV
   refine aa 1 rfl (dW Tryz.underlying36 eH rfl rfl ((⟨rfl,.inr ⟨gb,1,rfl,bn _ _ _,Nat.le_refl _,by decide⟩⟩:bR _ _ 74 1 1 (U [ai]))) ((oQ.le (bD _ _)).le (Heap.bG _ aV)) (by rw[Dj,Nat.mul_one]) (ow _) (by omega) (by omega) ?_);intro v1 H2 ha;have px:=ha.rem (gs:=[g]) (fun q hq=>by simp only[List.mem_singleton]at hq;subst hq;rw[bg _ _ (Ne.symm PV),FZ];simp) (fun q hq=>by simp only[List.mem_singleton]at hq;subst hq;intro e;cases e;exact PV rfl)
   have ep:H2 g=some (dH l (al x).length):=by rw[px.2 g (List.mem_singleton.2 rfl),bg _ _ (Ne.symm PV),FZ]
   have fU:Heap.le (rem H1 [g]) (rem H2 [g]):=(pK [g] (Heap.bG _ aV)).trans px.1.le;have agK:jz (rem H2 [g]) v1 (ai::al r):=kO.agJ (by have h0:=px.1.own;rw[←Kf,Nat.add_comm]at h0;exact h0);refine aC rfl rfl (Fn.frame (gs:=[g]) (fun q hq=>by simp only[List.mem_singleton]at hq;subst hq;rw[ep];simp) (BQ agK (agI (by rw[cg];exact Xu) (fP r).lt) (by rw[List.length_cons];omega))) ?_;rintro v2 H3 ⟨ef,GQ⟩;rw[jy,cR]at ef;obtain⟨r1,Xw⟩:∃r1,r1=ai+B*r:=⟨_,rfl⟩;rw[←Xw]at ef;have lI:=(GQ g (List.mem_singleton.2 rfl)).trans ep;have gH:=fU.trans ef.le
   have Ls:r1<B*y:=by rw[Xw,cg];omega
   have agL:(al r1).length≤(al y).length+1:=iZ.2 (by rw[Nat.pow_succ,Nat.mul_comm _ B];exact Nat.lt_trans Ls (Nat.mul_lt_mul_of_pos_left (Dg y) mQ));have GX:=(tD.le hle).le gH;have jN:=ef.nat;obtain⟨A3,c3,rfl,rR,qu⟩:=id jN;refine aa 1 rfl (ab [0,1,8,9,10] ?_);refine ae (aa 2 rfl (aC rfl rfl (Fn.frame (gs:=[g]) (fun q hq=>by simp only[List.mem_singleton]at hq;subst hq;rw[lI];simp) (agD jN GX gQ agL (by omega))) ?_));rintro v3 H4 ⟨⟨fJ,d0,rfl,xG⟩,zq⟩;have BR:=(zq g (List.mem_singleton.2 rfl)).trans lI
   have ku:Heap.le (rem H1 [g]) (rem H4 [g]):=by rw[fJ];exact gH
   refine aa 1 rfl (ab [0,1,8,9,10,11] ?_);refine kM (fun(d:Nat)=>put (put (put (put (put (put (emp) 0 (.val (.slice A (al x).length c))) 1 (.val (.slice A' (al y).length c'))) 8 (.val (.slice (some ⟨g,0,none⟩) (al x).length (al x).length))) 9 (.val (.slice A3 (al r1).length c3))) 10 (.val (.int .i64 ((k:Int)-1)))) 11 (.val (.int .u64 (d:Int)))) (fun(d:Nat) H'=>Heap.le (rem H3 [g]) (rem H' [g])∧H' g=some (dH l (al x).length)∧d≤999999999∧y*d≤r1) ?_ ?_
   ·
    refine aE (fY (fun(d:Nat)=>d) (fun(d:Nat)=>put (put (put (put (put (put (emp) 0 (.val (.slice A (al x).length c))) 1 (.val (.slice A' (al y).length c'))) 8 (.val (.slice (some ⟨g,0,none⟩) (al x).length (al x).length))) 9 (.val (.slice A3 (al r1).length c3))) 10 (.val (.int .i64 ((k:Int)-1)))) 11 (.val (.int .u64 (d:Int)))) (fun(d:Nat) H'=>Heap.le (rem H3 [g]) (rem H' [g])∧H' g=some (dH l (al x).length)∧d≤999999999) d0 (⟨by rw[fJ];exact .refl _,BR,xG⟩) ar ?_);rintro d H5 ⟨iM,sD,hd5⟩;have BS:=GX.le iM;have hn5:=jN.le iM;refine ao ?_
    rcases Nat.eq_zero_or_pos d with xG | xG
    ·
     subst xG;refine ae (aa 1 rfl (aG false rfl rfl (kt (by omega)) (aa 9 rfl (ab [0,1,8,9,10,11,64] ?_))));refine dh rfl (aX ?_);exact⟨0,ar,iM,sD,by omega,by omega⟩
    have Py:(al d).length≤3:=iZ.2 (by rw[cg];omega);refine ae (aa 1 rfl (aG true rfl rfl (ov (by omega)) (aa 3 rfl (aC rfl rfl (Fn.frame (gs:=[g]) (fun q hq=>by simp only[List.mem_singleton]at hq;subst hq;rw[sD];simp) (GR (x:=d) (by omega))) ?_))));rintro v4 Ha ⟨xH,PW⟩;have GY:=(PW g (List.mem_singleton.2 rfl)).trans sD;refine aC rfl rfl (Fn.frame (gs:=[g]) (fun q hq=>by simp only[List.mem_singleton]at hq;subst hq;rw[GY];simp) (xF (BS.le xH.le) xH.nat (by omega) (by omega))) ?_;rintro v5 Hb ⟨BT,PX⟩;have tV:=(PX g (List.mem_singleton.2 rfl)).trans GY;have pB:=oA y d;refine aa 1 rfl (aC rfl rfl (Fn.frame (gs:=[g]) (fun q hq=>by simp only[List.mem_singleton]at hq;subst hq;rw[tV];simp) (Ln BT.nat ((hn5.le xH.le).le BT.le) (by omega))) ?_);rintro v6 Hc ⟨⟨PY,rfl⟩,Bi⟩;have qG:=(Bi g (List.mem_singleton.2 rfl)).trans tV
    have Xx:Heap.le (rem H3 [g]) (rem Hc [g]):=by rw[PY];exact(iM.trans xH.le).trans BT.le
    refine aa 2 rfl (ab [0,1,8,9,10,11,64] ?_);refine aD rfl (fun hb=> ?_) (fun hb=> ?_)
    ·
     have hb:r1<y*d:=Xs.1 (by simpa using hb);refine az (ah [0,1,8,9,10,11] rfl ?_);refine aE (aA rfl (aa 1 rfl (cQ rfl rfl ⟨by omega,by omega⟩ (aa 1 rfl (au ?_)))));exact⟨d-1,by omega,ar,Xx,qG,by omega⟩
    have hb:y*d≤r1:=by
     have:¬0<kr (y*d) r1:=by simpa using hb
     rw[Xs]at this;omega
    refine aX ?_;exact⟨d,ar,Xx,qG,hd5,hb⟩
   rintro d H6 ⟨sk,nJ,hd6,hyd⟩;have hy6:=GX.le sk;have hn6:=jN.le sk;have Py:(al d).length≤3:=iZ.2 (by rw[cg];omega);refine ae (aa 3 rfl (aC rfl rfl (Fn.frame (gs:=[g]) (fun q hq=>by simp only[List.mem_singleton]at hq;subst hq;rw[nJ];simp) (GR (x:=d) (by omega))) ?_));rintro v4 Ha ⟨xH,PW⟩;have GY:=(PW g (List.mem_singleton.2 rfl)).trans nJ;refine aC rfl rfl (Fn.frame (gs:=[g]) (fun q hq=>by simp only[List.mem_singleton]at hq;subst hq;rw[GY];simp) (xF (hy6.le xH.le) xH.nat (by omega) (by omega))) ?_;rintro v5 Hb ⟨BT,PX⟩;have tV:=(PX g (List.mem_singleton.2 rfl)).trans GY;refine aC rfl rfl (Fn.frame (gs:=[g]) (fun q hq=>by simp only[List.mem_singleton]at hq;subst hq;rw[tV];simp) (Lq ((hn6.le xH.le).le BT.le) BT.nat hyd (by omega))) ?_;rintro v6 Hc ⟨Xy,Bi⟩;have kB:=(Bi g (List.mem_singleton.2 rfl)).trans tV;have agM:=((sk.trans xH.le).trans BT.le).trans Xy.le;refine aa 1 rfl (ab [0,1,8,9,10,11] ?_);refine ao (aE (fB (fun(d2:Nat)(GZ:Value)(r2:Nat)=>r2) (fun(d2:Nat)(GZ:Value)(r2:Nat)=>put (put (put (put (put (put (emp) 0 (.val (.slice A (al x).length c))) 1 (.val (.slice A' (al y).length c'))) 8 (.val (.slice (some ⟨g,0,none⟩) (al x).length (al x).length))) 9 (.val (GZ))) 10 (.val (.int .i64 ((k:Int)-1)))) 11 (.val (.int .u64 (d2:Int)))) (fun(d2:Nat)(GZ:Value)(r2:Nat) H'=>Heap.le (rem H3 [g]) (rem H' [g])∧H' g=some (dH l (al x).length)∧dr (rem H' [g]) GZ r2∧r1=y*d2+r2) d _ (r1-y*d) (⟨agM,kB,Xy.nat,by omega⟩) ar ?_))
   rintro d2 GZ r2 zt ⟨qH,mY,G6,he8⟩;obtain⟨A8,c8,rfl,PZ,hr8⟩:=id G6;have hy8:=GX.le qH;have jQ:=mc (show r2≤r1 by omega)
   have amX:d2<1000000000:=by
    false_or_by_contra
    have:y*1000000000≤y*d2:=Nat.mul_le_mul_left _ (by omega);rw[cg,Nat.mul_comm]at Ls;omega
   refine ao (ae (aa 2 rfl (aC rfl rfl (Fn.frame (gs:=[g]) (fun q hq=>by simp only[List.mem_singleton]at hq;subst hq;rw[mY];simp) (Ln G6 hy8 (by omega))) ?_)));rintro v7 H9 ⟨⟨Xz,rfl⟩,sy⟩;have tW:=(sy g (List.mem_singleton.2 rfl)).trans mY
   have GC:Heap.le (rem H3 [g]) (rem H9 [g]):=by rw[Xz];exact qH
   have G8:dr (rem H9 [g]) (.slice A8 (al r2).length c8) r2:=by rw[Xz];exact G6
   refine aa 1 rfl (ab [0,1,8,9,10,11,76] ?_);refine aD rfl (fun hb=> ?_) (fun hb=> ?_)
   ·
    have hb:y≤r2:=GV.1 (by simpa using hb);refine az (ah [0,1,8,9,10,11] rfl ?_);refine aE (ae (aa 2 rfl (aC rfl rfl (Fn.frame (gs:=[g]) (fun q hq=>by simp only[List.mem_singleton]at hq;subst hq;rw[tW];simp) (Lq G8 (GX.le GC) hb (by omega))) ?_)));rintro v8 lW ⟨XA,Hd⟩;have qI:=(Hd g (List.mem_singleton.2 rfl)).trans tW;refine aa 1 rfl (ab [0,1,8,9,10,11] ?_);refine aA rfl (aa 1 rfl (aF rfl rfl ⟨by omega,by omega⟩ (aa 1 rfl (au ?_))));exact⟨d2+1,_,r2-y,by omega,ar,GC.trans XA.le,qI,XA.nat,by rw[Nat.mul_add,Nat.mul_one];omega⟩
   have agN:r2<y:=by
    have:¬0≤kr r2 y:=by simp at hb;omega
    rw[GV]at this;omega
   obtain⟨r3,rfl⟩:∃r3,r3=r2:=⟨_,rfl⟩;obtain⟨d3,rfl⟩:∃d3,d3=d2:=⟨_,rfl⟩;refine aX (ah [0,1,8,9,10,11] rfl ?_);refine aA rfl (aa 3 rfl (di ag rfl rfl rfl ⟨by omega,by omega⟩ ?_));obtain⟨ti,aj,ak⟩:=ou;refine cV (.inl rfl) ag rfl rfl rfl (by omega) (by omega) (tW) rfl (by rw[ox];omega) aj ak (fun _=>rfl) rfl rfl rfl fun _=> ?_;refine au ?_
   have XB:ins H9 g {dH l (al x).length with xs:=aJ (dH l (al x).length).xs (0+((k:Int)-1).toNat*1) [.int .u32 (d3:Int)]}=ins H9 g (dH (l.set (k-1) d3) (al x).length):=by
    rw[Xv];simp only[dH,aJ,Nat.zero_add,Nat.mul_one,Oj]
   have P0:Heap.le H (rem (ins H9 g {dH l (al x).length with xs:=aJ (dH l (al x).length).xs (0+((k:Int)-1).toNat*1) [.int .u32 (d3:Int)]}) [g]):=by
    rw[cE _ (List.mem_singleton.2 rfl)];exact(hle.trans gH).trans GC
   have He:=G8;refine ah [0,1,8,9,10] rfl ?_;refine aA rfl (aa 1 rfl (cQ rfl rfl ⟨by omega,by omega⟩ (aa 1 rfl (au ?_))));refine⟨k-1,_,r3,l.set (k-1) d3,by omega,ar,P0,by rw[XB,bn],by simp[tA],bX.set (by rw[cg];omega),by omega,agN,by rw[XB,cE _ (List.mem_singleton.2 rfl)];exact He,?_⟩;rw[Xt Lu,show k-1+1=k by omega,Xt (l:=l.set (k-1) d3) (List.getElem?_set_self (by omega)),show k-1+1=k by omega,List.drop_set_of_lt (by omega),hv]
   have h1:B*(val (List.drop k l)*y+r)=B*val (List.drop k l)*y+B*r:=by rw[Nat.mul_add,Nat.mul_assoc]
   have h2:(d3+B*val (List.drop k l))*y=y*d3+B*val (List.drop k l)*y:=by rw[Nat.add_mul,Nat.mul_comm d3]
   rw[h1,h2];omega
  have hb:k=0:=by simp at hb;omega
  subst hb;rw[List.drop_zero,List.drop_zero,cR]at hv
  have Lv:val l=x/y:=by rw[hv,Nat.add_comm,Nat.add_mul_div_right _ _ jk,Nat.div_eq_of_lt PU,Nat.zero_add]
  have kz:r=x%y:=by rw[hv,Nat.add_comm,Nat.add_mul_mod_self_right,Nat.mod_eq_of_lt PU]
  refine aX (ah [8,9] rfl ?_);refine ae (aa 1 rfl (aC rfl rfl (BQ (l:=l) ⟨some ⟨g,0,none⟩,_,by rw[tA],by omega,fun i v hv=>⟨_,rfl,by simp[cell,im,FZ,dH,hv]⟩⟩ bX (by omega)) ?_));rintro v9 je Hf;refine aa 3 rfl (ab [4,5] ?_);refine aB ⟨.inr rfl,_,.tmp rfl (.tmp rfl (.nil)),?_⟩;exact⟨(hle.trans (bD _ _)).trans Hf.le,_,_,rfl,by rw[←Lv];exact Hf.nat,by rw[←kz];exact(ka.le (bD _ _)).le Hf.le⟩
end Go.aq
namespace Go.aq
open Go.Proofs Num
theorem XC(f:Bool)(n d:Nat)(k:Nat)(hn:(al n).length≤k)(hd:(al d).length≤k):aN (cS f n d)≤k+1∧(0<d→aN (cS f n d)≤k):=by
 rcases Nat.eq_zero_or_pos d with e | e
 ·subst e
  rw[Kv]
  refine⟨?_,fun h=>by omega⟩
  have:aN 0=1:=by
   unfold aN
   show max (al 0).length (al 1).length=1
   rw[qk,vt];rfl
  omega
 ·have h1:=mc (Nat.div_le_self n (Nat.gcd n d))
  have h2:=mc (Nat.div_le_self d (Nat.gcd n d))
  have:aN (cS f n d)≤k:=by
   unfold aN
   rw[Ds e,Bj e];omega
  exact⟨by omega,fun _=>this⟩
theorem cT.size{H:Heap}{v:Value}{q:Rat}{N:Nat}(h:cT H v q N):aN q≤N+2:=by
 obtain⟨f,u,w,l1,l2,_,_,_,h1,h2,h3,h4,rfl⟩:=h
 have k1:=Dt h1
 have k2:=Dt h2
 exact(XC f _ _ (N+1) (by omega) (by omega)).1
theorem XD{H:Heap}{w:Value}(hw:dr H w 1):bH H (.agg #[.bool false,.slice none 0 0,w]) 0:=⟨_,_,rfl,wG H,hw⟩
theorem agO{H:Heap}{f:Bool}{u w:Value}{n d:Nat}(hn:0<n)(hd:0<d)(hu:dr H u (n/Nat.gcd n d))(hw:dr H w (d/Nat.gcd n d)):bH H (.agg #[.bool f,u,w]) (cS f n d):=by
 refine⟨u,w,?_,by rw[Ds hd];exact hu,by rw[Bj hd];exact hw⟩
 rw[F8 hd hn]
theorem agP(p q:Rat):fI (p-q)=wM p q:=by
 unfold fI wM
 by_cases h:p<q
 ·rw[if_pos (by grind),if_pos h]
 ·rw[if_neg (by grind),if_neg h]
  by_cases e:p=q
  ·rw[if_pos (by grind),if_pos e]
  ·rw[if_neg (by grind),if_neg e]
theorem dr.sE{H:Heap}{v:Value}{x:Nat}(h:dr H v x):jz H v (al x):=h
theorem agQ{H:Heap}{u v:Value}{x y:Nat}(hx:dr H u x)(hy:dr H v y)(hm:((al x).length:Int)<4398046511104)(bK:((al y).length:Int)<4398046511104):
 Fn Tryz.prog 75 #[u,v] H (mS H (Nat.gcd x y)):=by
 refine aZ (args:=[_,_]) Tryz.func75 rfl rfl Tryz.ntmps75 rfl rfl fun w0=> ?_;refine ah [0,1] rfl ?_;refine ae (aa 1 rfl (ab [0,1] ?_));refine ao (aE (pC (fun(u:Value)(a:Nat)(v:Value)(b:Nat)=>b) (fun(u:Value)(a:Nat)(v:Value)(b:Nat)=>put (put (emp) 0 (.val (u))) 1 (.val (v))) (fun(u:Value)(a:Nat)(v:Value)(b:Nat) H'=>Heap.le H H'∧dr H' u a∧dr H' v b∧((al a).length:Int)<4398046511104∧((al b).length:Int)<4398046511104∧Nat.gcd a b=Nat.gcd x y) _ x _ y (⟨.refl _,hx,hy,hm,bK,rfl⟩) ar ?_));rintro u a v b H1 ⟨hle,ha,du,iD,eE,hg⟩;obtain⟨Aha,cha,rfl,amY,amZ⟩:=id ha;obtain⟨am0,am1,rfl,am2,am3⟩:=id du;refine ao (ae (aa 3 rfl (ab [0,1,9] ?_)));refine aD rfl (fun hb=> ?_) (fun hb=> ?_)
 ·
  have hb:0<b:=Nat.pos_of_ne_zero fun e=>by rw[jL.2 e]at hb;simp at hb
  refine az (ah [0,1] rfl ?_);refine aE (ae (aa 2 rfl (aC rfl rfl (GW ha du hb iD eE) ?_)));rintro v2 H2 ⟨cD,q2,r2,rfl,bU,kQ⟩;refine aa 5 rfl (ab [1,6] ?_);refine aA rfl (aa 4 rfl (au ?_));have pQ:=mc (Nat.le_of_lt (Nat.mod_lt a hb));exact⟨_,b,_,a%b,Nat.mod_lt a hb,ar,hle.trans cD,du.le cD,kQ,eE,by omega,by rw[←hg,Nat.gcd_comm b,←Nat.gcd_rec,Nat.gcd_comm]⟩
 ·
  have hb:b=0:=jL.1 (by have:=of_decide_eq_false hb;omega);subst hb;rw[Nat.gcd_zero_right]at hg;subst hg;refine aX (ah [0] rfl ?_);refine ae (aa 2 rfl (ab [4] ?_));refine aB ⟨.inr rfl,_,.tmp rfl (.nil),?_⟩;exact⟨hle,ha⟩
theorem xI{H:Heap}{u v:Value}{f:Bool}{l1 l2:List Nat}(hu:jz H u l1)(hv:jz H v l2)(h1:∀x,x∈l1→x<4294967296)(h2:∀x,x∈l2→x<4294967296)(hm:(l1.length:Int)≤4398046511000)(bK:(l2.length:Int)≤4398046511000):
 Fn Tryz.prog 40 #[.bool f,u,v] H (j0 H (cS f (val l1) (val l2))):=by
 have k1:=Dt h1
 have k2:=Dt h2
 obtain⟨Ahu,chu,rfl,am4,am5⟩:=id hu
 obtain⟨Ahv,chv,rfl,am6,am7⟩:=id hv;refine aZ (args:=[_,_,_]) Tryz.func40 rfl rfl Tryz.ntmps40 rfl rfl fun w0=> ?_;refine ah [0,1,2] rfl ?_;refine ae (bh bQ rfl (ab [0,1,2,6] ?_));refine ae (aa 1 rfl (aC rfl rfl (Xr hu h1 (by omega)) ?_));rintro v1 H1 fg;refine aa 1 rfl (aC rfl rfl (Xr (hv.le fg.le) h2 (by omega)) ?_);rintro v2 H2 dK;obtain⟨n,hn⟩:∃n,n=val l1:=⟨_,rfl⟩;obtain⟨d,hd⟩:∃d,d=val l2:=⟨_,rfl⟩;rw[←hn]at fg k1;rw[←hd]at dK k2;have dt:=fg.nat.le dK.le;have gQ:=dK.nat;obtain⟨OP,OQ,rfl,OR,OS⟩:=id dt;obtain⟨Vz,VA,rfl,VB,VD⟩:=id gQ;have hle:=fg.le.trans dK.le;rw[←hn,←hd];refine aa 2 rfl (ab [0,1,2,6] ?_);refine ao ?_
 rcases Nat.eq_zero_or_pos n with jn | jn
 ·
  have tX:=jL.2 jn;refine ae (aa 2 rfl (aG true rfl rfl (iL (by omega)) (aa 5 rfl (ab [0,1,2,6,19] ?_))));refine cK rfl (ae (cI Tryz.underlying36 eH rfl rfl rfl rfl rfl rfl rfl ?_));intro gb aV;refine cL ag rfl bQ rfl rfl ?_;obtain⟨ti,aj,ak⟩:=aU;refine aH (.inl ⟨rfl,rfl⟩) rfl rfl rfl aj ak rfl rfl rfl (ab [6] ?_);obtain⟨bP,aL,aM⟩:=aU;refine aB ⟨.inr rfl,_,.agg rfl Tryz.underlying38 aL aM (.nil),?_⟩;exact⟨hle.trans (Heap.bG _ aV),by rw[jn,wL];exact XD yW⟩
 ·
  have tX:(al n).length≠0:=fun e=>by rw[jL]at e;omega
  rcases Nat.eq_zero_or_pos d with xG | xG
  ·
   have tX:=jL.2 xG;refine ae (aa 2 rfl (aG false rfl rfl (ks (by omega)) (aa 3 rfl (aG true rfl rfl (iL (by omega)) (aa 1 rfl (ab [0,1,2,6,19] ?_))))));refine cK rfl (ae (cI Tryz.underlying36 eH rfl rfl rfl rfl rfl rfl rfl ?_));intro gb aV;refine cL ag rfl bQ rfl rfl ?_;obtain⟨ti,aj,ak⟩:=aU;refine aH (.inl ⟨rfl,rfl⟩) rfl rfl rfl aj ak rfl rfl rfl (ab [6] ?_);obtain⟨bP,aL,aM⟩:=aU;refine aB ⟨.inr rfl,_,.agg rfl Tryz.underlying38 aL aM (.nil),?_⟩;exact⟨hle.trans (Heap.bG _ aV),by rw[xG,Kv];exact XD yW⟩
  have bx:(al d).length≠0:=fun e=>by rw[jL]at e;omega
  refine ae (aa 2 rfl (aG false rfl rfl (ks (by omega)) (aa 3 rfl (aG false rfl rfl (ks (by omega)) (aa 1 rfl (ab [0,1,2,6,19] ?_))))));refine dh rfl (az (ah [0,1,2,6] rfl ?_));refine ae (aa 2 rfl (aC rfl rfl (agQ dt gQ (by omega) (by omega)) ?_));rintro v3 H3 ef;obtain⟨g,hg⟩:∃g,g=Nat.gcd n d:=⟨_,rfl⟩;rw[←hg]at ef
  have qf:0<g:=by rw[hg];exact Nat.gcd_pos_of_pos_left _ jn
  have jN:=ef.nat;have eG:=mc (show g≤n by rw[hg];exact Nat.gcd_le_left _ jn);have P1:=dt.le ef.le;have P2:=gQ.le ef.le;obtain⟨OT,OU,rfl,OV,Kz⟩:=id jN;refine aa 1 rfl (ab [0,1,2,6,7] ?_);refine AW (fun(u3:Value)(v3:Value)=>put (put (put (put (emp) 0 (.val (.bool f))) 1 (.val (u3))) 2 (.val (v3))) 6 (.box [.bool false,.slice none 0 0,.slice none 0 0])) (fun(u3:Value)(v3:Value) H'=>Heap.le H H'∧dr H' u3 (n/g)∧dr H' v3 (d/g)) ?_ ?_
  ·
   by_cases hl:(al g).length=1
   ·
    obtain⟨z,hz⟩:=List.length_eq_one_iff.1 hl
    have nN:z=g:=by have:=cR g;rw[hz]at this;simpa [val]using this
    have GP:(al g)[0]? = some g:=by rw[hz,nN];rfl
    refine ae (aa 2 rfl (aG false rfl rfl (vi (by omega)) (aa 2 rfl (aS ag rfl rfl rfl rfl rfl (Kz) (dB GP) (by omega) (by omega) fun _=>(aa 2 rfl (ab [0,1,2,6,7,33] ?_))))));refine aD rfl (fun hb=> ?_) (fun hb=> ?_)
    ·
     skip
     refine ae (aa 2 rfl (aC rfl rfl (GW P1 jN qf (by omega) (by omega)) ?_));rintro v4 H4 ⟨cM,q4,r4,rfl,ct,rS⟩;refine aa 4 rfl (ab [0,1,2,6,7] ?_);refine aA rfl (aa 2 rfl (aC rfl rfl (GW (P2.le cM) (jN.le cM) qf (by omega) (by omega)) ?_));rintro v5 H5 ⟨eI,q5,r5,rfl,dZ,nD⟩;refine aa 4 rfl (au ?_);exact⟨_,_,ar,(hle.trans ef.le).trans (cM.trans eI),ct.le eI,dZ⟩
    have mT:g=1:=by simp at hb;omega
    refine az ?_;exact⟨_,_,ar,hle.trans ef.le,by rw[mT,Nat.div_one];exact P1,by rw[mT,Nat.div_one];exact P2⟩
   skip
   refine ae (aa 2 rfl (aG true rfl rfl (vh (by omega)) (aa 6 rfl (ab [0,1,2,6,7,33] ?_))));refine cK rfl (ae (aa 2 rfl (aC rfl rfl (GW P1 jN qf (by omega) (by omega)) ?_)));rintro v4 H4 ⟨cM,q4,r4,rfl,ct,rS⟩;refine aa 4 rfl (ab [0,1,2,6,7] ?_);refine aA rfl (aa 2 rfl (aC rfl rfl (GW (P2.le cM) (jN.le cM) qf (by omega) (by omega)) ?_));rintro v5 H5 ⟨eI,q5,r5,rfl,dZ,nD⟩;refine aa 4 rfl (au ?_);exact⟨_,_,ar,(hle.trans ef.le).trans (cM.trans eI),ct.le eI,dZ⟩
  rintro u3 v3 H6 ⟨sk,XE,zu⟩;obtain⟨am8,am9,rfl,ana,anb⟩:=id XE;obtain⟨anc,ane,rfl,anf,ang⟩:=id zu;refine ae (aa 3 rfl (cL ag rfl bQ rfl rfl ?_));obtain⟨ti,aj,ak⟩:=aU;refine aH (.inl ⟨rfl,rfl⟩) rfl rfl rfl aj ak rfl rfl rfl (ab [6] ?_);obtain⟨bP,aL,aM⟩:=aU;refine aB ⟨.inr rfl,_,.agg rfl Tryz.underlying38 aL aM (.nil),?_⟩;exact⟨sk,agO jn xG (by rw[←hg];exact XE) (by rw[←hg];exact zu)⟩
theorem oU{H:Heap}{n:Int}(h1: -9223372036854775808≤n)(h2:n≤9223372036854775807):
 Fn Tryz.prog 15 #[.int .i64 n] H (j0 H (n:Rat)):=by
 have eF:(al n.natAbs).length≤3:=iZ.2 (by rw[cg];omega)
 have Hg:=Ga n
 have gZ:val (al 1)=1:=cR 1
 have bx:(al 1).length=1:=by rw[vt];rfl
 refine aZ (args:=[_]) Tryz.func15 rfl rfl Tryz.ntmps15 rfl rfl fun w0=> ?_;refine ah [0] rfl ?_;refine ae (bh bQ rfl (ab [0,2] ?_));refine ao (ae (aa 2 rfl (ab [0,2,4] ?_)));refine aD rfl (fun hb=> ?_) (fun hb=> ?_)
 ·
  have hb:n<0:=by simpa using hb
  rw[decide_eq_true hb]at Hg;refine ae (aa 1 rfl (aF rfl rfl ⟨by omega,by omega⟩ (rH rfl ⟨by omega,by omega⟩ (di ag rfl rfl rfl ⟨by omega,by omega⟩ (aF rfl rfl ⟨by omega,by omega⟩ ?_)))));rw[show -(n+1)+1=((n.natAbs:Nat):Int) by omega];refine aC rfl rfl (GR (by omega)) ?_;rintro v1 H1 fg;refine cI Tryz.underlying36 eH rfl rfl rfl rfl rfl rfl rfl ?_;intro gb aV;refine aC rfl rfl (xI (fg.nat.le (Heap.bG _ aV)) (yW).sE nE nE (by omega) (by omega)) ?_;rintro w2 G2 ⟨dP,bU⟩;rw[cR,gZ,Hg]at bU;obtain⟨u2,x2,rfl,fQ,eS⟩:=id bU;obtain⟨oC,oD,rfl,oE,oF⟩:=id fQ;obtain⟨oG,oH,rfl,oI,oJ⟩:=id eS;obtain⟨ti,aj,ak⟩:=aU;refine aH (.inl ⟨rfl,rfl⟩) rfl rfl rfl aj ak rfl rfl rfl (ab [2] ?_);obtain⟨bP,aL,aM⟩:=aU;refine aB ⟨.inr rfl,_,.agg rfl Tryz.underlying38 aL aM (.nil),?_⟩;exact⟨(fg.le.trans (Heap.bG _ aV)).trans dP,bU⟩
 ·
  have hb:¬n<0:=by simpa using hb
  rw[decide_eq_false hb]at Hg;obtain⟨m,rfl⟩:∃m:Nat,n=(m:Int):=⟨n.natAbs,by omega⟩;rw[Int.natAbs_natCast]at Hg eF;refine az (ah [0,2] rfl ?_);refine ae (aa 1 rfl (di ag rfl rfl rfl ⟨by omega,by omega⟩ (aC rfl rfl (GR (x:=m) (by omega)) ?_)));rintro v1 H1 fg;refine cI Tryz.underlying36 eH rfl rfl rfl rfl rfl rfl rfl ?_;intro gb aV;refine aC rfl rfl (xI (fg.nat.le (Heap.bG _ aV)) (yW).sE nE nE (by omega) (by omega)) ?_;rintro w2 G2 ⟨dP,bU⟩;rw[cR,gZ,Hg]at bU;obtain⟨u2,x2,rfl,fQ,eS⟩:=id bU;obtain⟨oC,oD,rfl,oE,oF⟩:=id fQ;obtain⟨oG,oH,rfl,oI,oJ⟩:=id eS;obtain⟨ti,aj,ak⟩:=aU;refine aH (.inl ⟨rfl,rfl⟩) rfl rfl rfl aj ak rfl rfl rfl (ab [2] ?_);obtain⟨bP,aL,aM⟩:=aU;refine aB ⟨.inr rfl,_,.agg rfl Tryz.underlying38 aL aM (.nil),?_⟩;exact⟨(fg.le.trans (Heap.bG _ aV)).trans dP,bU⟩
theorem tY{H:Heap}{v:Value}{q:Rat}{N:Nat}(hv:cT H v q N)(hN:(N:Int)≤4398046511000):
 Fn Tryz.prog 69 #[v] H (j0 H q):=by
 obtain⟨bf,bu,bw,nG,nH,rfl,dY,de,gG,xJ,XF,pR,rfl⟩:=id hv;refine aZ (args:=[_]) Tryz.func69 rfl rfl Tryz.ntmps69 rfl rfl fun w0=> ?_;refine ah [0] rfl ?_;refine ae (bY rfl rfl (bh bQ rfl (ab [1,2] ?_)));refine ae (aa 6 rfl (aC rfl rfl (xI dY de gG xJ (by omega) (by omega)) ?_));rintro w2 G2 ⟨dP,bU⟩;obtain⟨u2,x2,rfl,fQ,eS⟩:=id bU;obtain⟨oC,oD,rfl,oE,oF⟩:=id fQ;obtain⟨oG,oH,rfl,oI,oJ⟩:=id eS;obtain⟨ti,aj,ak⟩:=aU;refine aH (.inl ⟨rfl,rfl⟩) rfl rfl rfl aj ak rfl rfl rfl (ab [2] ?_);obtain⟨bP,aL,aM⟩:=aU;refine aB ⟨.inr rfl,_,.agg rfl Tryz.underlying38 aL aM (.nil),?_⟩;exact⟨dP,bU⟩
theorem xK{H:Heap}{v:Value}{q:Rat}{N:Nat}(hv:cT H v q N)(hN:(N:Int)≤4398046511000):
 Fn Tryz.prog 38 #[v] H (fun v H'=>Heap.le H H'∧v = .int .i64 (fI q)):=by
 obtain⟨bf,bu,bw,nG,nH,rfl,_⟩:=id hv
 have rZ:=VJ q;refine aZ (args:=[_]) Tryz.func38 rfl rfl Tryz.ntmps38 rfl rfl fun w0=> ?_;refine ah [0] rfl ?_;refine ae (bY rfl rfl (aa 1 rfl (ab [1] ?_)));refine ae (aa 1 rfl (aC rfl rfl (tY hv hN) ?_));rintro w2 G2 ⟨dP,bU⟩;obtain⟨u2,x2,rfl,fQ,eS⟩:=id bU;obtain⟨oC,oD,rfl,oE,oF⟩:=id fQ;obtain⟨oG,oH,rfl,oI,oJ⟩:=id eS;obtain⟨ti,aj,ak⟩:=aU;refine aH (.inl ⟨rfl,rfl⟩) rfl rfl rfl aj ak rfl rfl rfl (ab [1] ?_);refine ao (aE (ae (aa 5 rfl (ab [1,5] ?_))));refine aD rfl (fun hb=> ?_) (fun hb=> ?_)
 ·
  have hb:q.num.natAbs=0:=jL.1 (by have:=eq_of_beq hb;omega);rw[if_pos hb]at rZ;refine ae (aa 1 rfl (ab [2] ?_));refine aB ⟨.inr rfl,_,.tmp rfl (.nil),?_⟩;exact⟨dP,by rw[rZ];rfl⟩
 ·
  have hb:q.num.natAbs≠0:=fun e=>by rw[jL.2 e]at hb;simp at hb
  rw[if_neg hb]at rZ;refine ae (aa 3 rfl (ab [10] ?_));refine aD rfl (fun hb=> ?_) (fun hb=> ?_)
  ·
   rw[hb]at rZ;refine ae (aa 1 rfl (ab [2] ?_));refine aB ⟨.inr rfl,_,.tmp rfl (.nil),?_⟩;exact⟨dP,by rw[rZ];rfl⟩
  rw[hb]at rZ;refine az (ah [] rfl ?_);refine ae (aa 1 rfl (ab [2] ?_));refine aB ⟨.inr rfl,_,.tmp rfl (.nil),?_⟩;exact⟨dP,by rw[rZ];rfl⟩
theorem BU{H:Heap}{v:Value}{q:Rat}{N:Nat}(hv:cT H v q N)(hN:(N:Int)≤4398046511000):
 Fn Tryz.prog 68 #[v] H (j0 H (-q)):=by
 obtain⟨bf,bu,bw,nG,nH,rfl,dY,de,gG,xJ,XF,pR,rfl⟩:=id hv;refine aZ (args:=[_]) Tryz.func68 rfl rfl Tryz.ntmps68 rfl rfl fun w0=> ?_;refine ah [0] rfl ?_;refine ae (bY rfl rfl (bh bQ rfl (ab [1,2] ?_)));refine ae (aa 7 rfl (aC rfl rfl (xI (f:= !bf) dY de gG xJ (by omega) (by omega)) ?_));rintro w2 G2 ⟨dP,bU⟩;rw[←OL]at bU;obtain⟨u2,x2,rfl,fQ,eS⟩:=id bU;obtain⟨oC,oD,rfl,oE,oF⟩:=id fQ;obtain⟨oG,oH,rfl,oI,oJ⟩:=id eS;obtain⟨ti,aj,ak⟩:=aU;refine aH (.inl ⟨rfl,rfl⟩) rfl rfl rfl aj ak rfl rfl rfl (ab [2] ?_);obtain⟨bP,aL,aM⟩:=aU;refine aB ⟨.inr rfl,_,.agg rfl Tryz.underlying38 aL aM (.nil),?_⟩;exact⟨dP,bU⟩
theorem P3{H:Heap}{v v2:Value}{q q2:Rat}{N:Nat}(hv:cT H v q N)(dT:cT H v2 q2 N)(hN:(N:Int)≤1099511627780):
 Fn Tryz.prog 37 #[v,v2] H (j0 H (q+q2)):=by
 obtain⟨bf,bu,bw,nG,nH,rfl,_⟩:=id hv
 obtain⟨cf,cu,cw,yY,yZ,rfl,_⟩:=id dT
 have mf:=hv.size
 have tZ:=dT.size
 have fc:=Nat.pos_of_ne_zero q.den_nz
 have jZ:=Nat.pos_of_ne_zero q2.den_nz
 have vI:=wN q
 have sG:=wN q2
 obtain⟨f1,iV⟩:∃f1,f1=decide (q.num<0):=⟨_,rfl⟩
 obtain⟨f2,jK⟩:∃f2,f2=decide (q2.num<0):=⟨_,rfl⟩
 obtain⟨n1,dt⟩:∃n1,n1=q.num.natAbs:=⟨_,rfl⟩
 obtain⟨n2,gQ⟩:∃n2,n2=q2.num.natAbs:=⟨_,rfl⟩
 obtain⟨d1,pS⟩:∃d1,d1=q.den:=⟨_,rfl⟩
 obtain⟨d2,pT⟩:∃d2,d2=q2.den:=⟨_,rfl⟩
 have hz:(al n1).length≤N+2∧(al d1).length≤N+2∧(al n2).length≤N+2∧(al d2).length≤N+2:=by
  unfold aN at mf tZ
  rw[dt,gQ,pS,pT];omega
 rw[←iV,←dt,←pS]at vI
 rw[←jK,←gQ,←pT]at sG
 rw[←pS]at fc
 rw[←pT]at jZ
 have rT:=oA n1 d2
 have jo:=oA n2 d1
 have OO:=oA d1 d2
 have Ky:=Nat.mul_pos fc jZ
 have qq:=Vs (x:=n1*d2) (y:=n2*d1) (k:=2*(N+2)) (by omega) (by omega);refine aZ (args:=[_,_]) Tryz.func37 rfl rfl Tryz.ntmps37 rfl rfl fun w0=> ?_;refine ah [0,1] rfl ?_;refine ae (bY rfl rfl (bY rfl rfl (bh bQ rfl (ab [2,3,4] ?_))));refine bM .bJ [0,2,1,3,4,5] follows (by kernel_rfl) ?_;refine aa 2 rfl (aY rfl rfl (tY hv (by omega)) (fun _ _ h=>by first | exact h.le | exact h.1) ?_);rintro w1 G1 ⟨bx,ua⟩
 unfold bH at ua
 rw[←iV,←dt,←pS]at ua;obtain⟨wO,wP,rfl,gF,gS⟩:=id ua;obtain⟨wQ,wR,rfl,wS,wT⟩:=id gF;obtain⟨wU,wV,rfl,wW,wX⟩:=id gS;refine aY rfl rfl (tY (dT.le bx) (by omega)) (fun _ _ h=>by first | exact h.le | exact h.1) ?_;rintro w2 G2 ⟨cD,ub⟩
 unfold bH at ub
 rw[←jK,←gQ,←pT]at ub;obtain⟨Dy,Dz,rfl,lK,lk⟩:=id ub;obtain⟨Bk,Bl,rfl,DA,DB⟩:=id lK;obtain⟨Bm,Bn,rfl,DC,DD⟩:=id lk;have gF:=gF.le cD;have gS:=gS.le cD;have hle:=bx.trans cD;obtain⟨ti,aj,ak⟩:=aU;refine aH (.inl ⟨rfl,rfl⟩) rfl rfl rfl aj ak rfl rfl rfl ?_;obtain⟨ti,aj,ak⟩:=aU;refine aH (.inl ⟨rfl,rfl⟩) rfl rfl rfl aj ak rfl rfl rfl (ab [2,3,4] ?_);refine bM .bJ [0,1,2,3,5,6,7,8,4,9,10,11] follows (by kernel_rfl) ?_;refine aa 8 rfl (aY rfl rfl (xF gF lk (by omega) (by omega)) (fun _ _ h=>by first | exact h.le | exact h.1) ?_);rintro v3 H3 ef;refine aY rfl rfl (xF (lK.le ef.le) (gS.le ef.le) (by omega) (by omega)) (fun _ _ h=>by first | exact h.le | exact h.1) ?_;rintro v4 H4 fJ;refine aa 2 rfl (ab [2,3,4,5,6] ?_);refine ae (aa 4 rfl (aC rfl rfl (xF ((gS.le ef.le).le fJ.le) ((lk.le ef.le).le fJ.le) (by omega) (by omega)) ?_));rintro v5 H5 Lw;have iM:=((hle.trans ef.le).trans fJ.le).trans Lw.le;have m0:=(ef.nat.le fJ.le).le Lw.le;have BS:=fJ.nat.le Lw.le;have uc:=Lw.nat;obtain⟨P4,P5,rfl,P6,P7⟩:=id m0;obtain⟨anh,ani,rfl,anj,ank⟩:=id BS;obtain⟨anl,anm,rfl,ann,ano⟩:=id uc;refine vr 1 ?_
 refine ab [2,3,4,5,6,7] ?_;refine ao (ae (aa 4 rfl (UJ Tryz.underlying4 rfl rfl (ab [2,3,4,5,6,7,31] ?_))));refine aD rfl (fun hb=> ?_) (fun hb=> ?_)
 ·
  have qt:f1=f2:=by simpa using hb
  refine bM .bJ [0,1,2,3,5,4,6,7] follows (by kernel_rfl) ?_;refine aa 5 rfl (aY rfl rfl (agA m0 BS (by omega) (by omega)) (fun _ _ h=>by first | exact h.le | exact h.1) ?_);rintro v6 H6 oz;have ue:=uc.le oz.le;have sH:=oz.nat;obtain⟨XG,XH,rfl,XI,XJ⟩:=id sH;refine aY rfl rfl (xI (f:=f1) sH.sE ue.sE nE nE (by omega) (by omega)) (fun _ _ h=>by first | exact h.le | exact h.1) ?_;rintro w7 G7 ⟨Hh,jf⟩;rw[cR,cR,←Vo f1 fc jZ,vI,qt,sG]at jf;obtain⟨u7,x7,rfl,Hi,xL⟩:=id jf;obtain⟨XK,XL,rfl,XM,XN⟩:=id Hi;obtain⟨XO,XP,rfl,XQ,XR⟩:=id xL;obtain⟨ti,aj,ak⟩:=aU;refine aH (.inl ⟨rfl,rfl⟩) rfl rfl rfl aj ak rfl rfl rfl (ab [4] ?_);obtain⟨bP,aL,aM⟩:=aU;refine aB ⟨.inr rfl,_,.agg rfl Tryz.underlying38 aL aM (.nil),?_⟩;exact⟨(iM.trans oz.le).trans Hh,jf⟩
 ·
  have qt:f1≠f2:=by simpa using hb
  refine az (ah [2,3,4,5,6,7] rfl ?_);refine ao (ae (aa 2 rfl (aC rfl rfl (Ln m0 BS (by omega)) ?_)));rintro v6 H6 ⟨e6,rfl⟩;rw[e6];refine aa 1 rfl (ab [2,3,4,5,6,7,42] ?_);refine aD rfl (fun hb=> ?_) (fun hb=> ?_)
  ·
   have hb:n2*d1≤n1*d2:=GV.1 (by simpa using hb);have lJ:=mc (Nat.sub_le (n1*d2) (n2*d1));refine bM .bJ [0,1,2,3,5,4,6,7] follows (by kernel_rfl) ?_;refine aa 5 rfl (aY rfl rfl (Lq m0 BS hb (by omega)) (fun _ _ h=>by first | exact h.le | exact h.1) ?_);rintro v6 H6 oz;have ue:=uc.le oz.le;have sH:=oz.nat;obtain⟨XG,XH,rfl,XI,XJ⟩:=id sH;refine aY rfl rfl (xI (f:=f1) sH.sE ue.sE nE nE (by omega) (by omega)) (fun _ _ h=>by first | exact h.le | exact h.1) ?_;rintro w7 G7 ⟨Hh,jf⟩;rw[cR,cR,←OK qt fc jZ hb,vI,sG]at jf;obtain⟨u7,x7,rfl,Hi,xL⟩:=id jf;obtain⟨XK,XL,rfl,XM,XN⟩:=id Hi;obtain⟨XO,XP,rfl,XQ,XR⟩:=id xL;obtain⟨ti,aj,ak⟩:=aU;refine aH (.inl ⟨rfl,rfl⟩) rfl rfl rfl aj ak rfl rfl rfl (ab [4] ?_);obtain⟨bP,aL,aM⟩:=aU;refine aB ⟨.inr rfl,_,.agg rfl Tryz.underlying38 aL aM (.nil),?_⟩;exact⟨(iM.trans oz.le).trans Hh,jf⟩
  have hb:n1*d2≤n2*d1:=by
   have:¬0≤kr (n1*d2) (n2*d1):=by simp at hb;omega
   rw[GV]at this;omega
  have lJ:=mc (Nat.sub_le (n2*d1) (n1*d2));refine az (ah [3,4,5,6,7] rfl ?_);refine bM .bJ [0,1,2,3,5,4,6,7] follows (by kernel_rfl) ?_;refine aa 5 rfl (aY rfl rfl (Lq BS m0 hb (by omega)) (fun _ _ h=>by first | exact h.le | exact h.1) ?_);rintro v6 H6 oz;have ue:=uc.le oz.le;have sH:=oz.nat;obtain⟨XG,XH,rfl,XI,XJ⟩:=id sH;refine aY rfl rfl (xI (f:=f2) sH.sE ue.sE nE nE (by omega) (by omega)) (fun _ _ h=>by first | exact h.le | exact h.1) ?_;rintro w7 G7 ⟨Hh,jf⟩;rw[cR,cR,←Vp qt fc jZ hb,vI,sG]at jf;obtain⟨u7,x7,rfl,Hi,xL⟩:=id jf;obtain⟨XK,XL,rfl,XM,XN⟩:=id Hi;obtain⟨XO,XP,rfl,XQ,XR⟩:=id xL;obtain⟨ti,aj,ak⟩:=aU;refine aH (.inl ⟨rfl,rfl⟩) rfl rfl rfl aj ak rfl rfl rfl (ab [4] ?_);obtain⟨bP,aL,aM⟩:=aU;refine aB ⟨.inr rfl,_,.agg rfl Tryz.underlying38 aL aM (.nil),?_⟩;exact⟨(iM.trans oz.le).trans Hh,jf⟩
theorem Ej{H:Heap}{v v2:Value}{q q2:Rat}{N:Nat}(hv:cT H v q N)(dT:cT H v2 q2 N)(hN:(N:Int)≤1099511627778):
 Fn Tryz.prog 39 #[v,v2] H (j0 H (q-q2)):=by
 obtain⟨bf,bu,bw,nG,nH,rfl,_⟩:=id hv
 obtain⟨cf,cu,cw,yY,yZ,rfl,_⟩:=id dT
 have tZ:=dT.size;refine aZ (args:=[_,_]) Tryz.func39 rfl rfl Tryz.ntmps39 rfl rfl fun w0=> ?_;refine ah [0,1] rfl ?_;refine ae (bY rfl rfl (bY rfl rfl (bh bQ rfl (ab [2,3,4] ?_))));refine bM .bJ [0,1,2,3,4] follows (by kernel_rfl) ?_;refine aa 2 rfl (aY rfl rfl (BU dT (by omega)) (fun _ _ h=>by first | exact h.le | exact h.1) ?_);rintro w2 G2 ⟨dP,bU⟩;obtain⟨u2,x2,rfl,fQ,eS⟩:=id bU;obtain⟨oC,oD,rfl,oE,oF⟩:=id fQ;obtain⟨oG,oH,rfl,oI,oJ⟩:=id eS;have kQ:=bU.raw;rw[show aN (-q2)=aN q2 by unfold aN;rw[Rat.neg_num,Int.natAbs_neg,Rat.neg_den]]at kQ;refine aY rfl rfl (P3 (N:=N+2) ((hv.le dP).mono (by omega)) (kQ.mono tZ) (by omega)) (fun _ _ h=>by first | exact h.le | exact h.1) ?_;rintro w3 G3 ⟨qA,iw⟩;rw[←Rat.sub_eq_add_neg]at iw;obtain⟨u3,x3,rfl,oO,gT⟩:=id iw;obtain⟨Bw,By,rfl,Bz,BA⟩:=id oO;obtain⟨BB,BC,rfl,BD,BE⟩:=id gT;obtain⟨ti,aj,ak⟩:=aU;refine aH (.inl ⟨rfl,rfl⟩) rfl rfl rfl aj ak rfl rfl rfl (ab [4] ?_);obtain⟨bP,aL,aM⟩:=aU;refine aB ⟨.inr rfl,_,.agg rfl Tryz.underlying38 aL aM (.nil),?_⟩;exact⟨dP.trans qA,iw⟩
theorem XS{H:Heap}{v v2:Value}{q q2:Rat}{N:Nat}(hv:cT H v q N)(dT:cT H v2 q2 N)(hN:(N:Int)≤1099511627776):
 Fn Tryz.prog 14 #[v,v2] H (fun v H'=>Heap.le H H'∧v = .int .i64 (wM q q2)):=by
 obtain⟨bf,bu,bw,nG,nH,rfl,_⟩:=id hv
 obtain⟨cf,cu,cw,yY,yZ,rfl,_⟩:=id dT
 have mf:=hv.size
 have tZ:=dT.size;refine aZ (args:=[_,_]) Tryz.func14 rfl rfl Tryz.ntmps14 rfl rfl fun w0=> ?_;refine ah [0,1] rfl ?_;refine ae (bY rfl rfl (bY rfl rfl (aa 1 rfl (ab [2,3] ?_))));refine ae (aa 2 rfl (aC rfl rfl (Ej hv dT (by omega)) ?_));rintro w2 G2 ⟨dP,bU⟩;obtain⟨u2,x2,rfl,fQ,eS⟩:=id bU;obtain⟨oC,oD,rfl,oE,oF⟩:=id fQ;obtain⟨oG,oH,rfl,oI,oJ⟩:=id eS;have cP:=rU q q2;refine aC rfl rfl (xK bU.raw (by omega)) ?_;rintro v3 H3 ⟨eF,rfl⟩;refine aa 1 rfl (ab [4] ?_);refine aB ⟨.inr rfl,_,.tmp rfl (.nil),?_⟩;exact⟨dP.trans eF,by rw[agP];rfl⟩
theorem Lx{H:Heap}{v v2:Value}{q q2:Rat}{N:Nat}(hv:cT H v q N)(dT:cT H v2 q2 N)(hN:(N:Int)≤1099511627780):
 Fn Tryz.prog 61 #[v,v2] H (j0 H (q*q2)):=by
 obtain⟨bf,bu,bw,nG,nH,rfl,_⟩:=id hv
 obtain⟨cf,cu,cw,yY,yZ,rfl,_⟩:=id dT
 have mf:=hv.size
 have tZ:=dT.size
 have fc:=Nat.pos_of_ne_zero q.den_nz
 have jZ:=Nat.pos_of_ne_zero q2.den_nz
 have vI:=wN q
 have sG:=wN q2
 obtain⟨f1,iV⟩:∃f1,f1=decide (q.num<0):=⟨_,rfl⟩
 obtain⟨f2,jK⟩:∃f2,f2=decide (q2.num<0):=⟨_,rfl⟩
 obtain⟨n1,dt⟩:∃n1,n1=q.num.natAbs:=⟨_,rfl⟩
 obtain⟨n2,gQ⟩:∃n2,n2=q2.num.natAbs:=⟨_,rfl⟩
 obtain⟨d1,pS⟩:∃d1,d1=q.den:=⟨_,rfl⟩
 obtain⟨d2,pT⟩:∃d2,d2=q2.den:=⟨_,rfl⟩
 have hz:(al n1).length≤N+2∧(al d1).length≤N+2∧(al n2).length≤N+2∧(al d2).length≤N+2:=by
  unfold aN at mf tZ
  rw[dt,gQ,pS,pT];omega
 rw[←iV,←dt,←pS]at vI
 rw[←jK,←gQ,←pT]at sG
 rw[←pS]at fc
 rw[←pT]at jZ
 have rT:=oA n1 n2
 have jo:=oA d1 d2;refine aZ (args:=[_,_]) Tryz.func61 rfl rfl Tryz.ntmps61 rfl rfl fun w0=> ?_;refine ah [0,1] rfl ?_;refine ae (bY rfl rfl (bY rfl rfl (bh bQ rfl (ab [2,3,4] ?_))));refine bM .bJ [0,2,1,3,4,5] follows (by kernel_rfl) ?_;refine aa 2 rfl (aY rfl rfl (tY hv (by omega)) (fun _ _ h=>by first | exact h.le | exact h.1) ?_);rintro w1 G1 ⟨bx,ua⟩
 unfold bH at ua
 rw[←iV,←dt,←pS]at ua;obtain⟨wO,wP,rfl,gF,gS⟩:=id ua;obtain⟨wQ,wR,rfl,wS,wT⟩:=id gF;obtain⟨wU,wV,rfl,wW,wX⟩:=id gS;refine aY rfl rfl (tY (dT.le bx) (by omega)) (fun _ _ h=>by first | exact h.le | exact h.1) ?_;rintro w2 G2 ⟨cD,ub⟩
 unfold bH at ub
 rw[←jK,←gQ,←pT]at ub;obtain⟨Dy,Dz,rfl,lK,lk⟩:=id ub;obtain⟨Bk,Bl,rfl,DA,DB⟩:=id lK;obtain⟨Bm,Bn,rfl,DC,DD⟩:=id lk;have gF:=gF.le cD;have gS:=gS.le cD;have hle:=bx.trans cD;obtain⟨ti,aj,ak⟩:=aU;refine aH (.inl ⟨rfl,rfl⟩) rfl rfl rfl aj ak rfl rfl rfl ?_;obtain⟨ti,aj,ak⟩:=aU;refine aH (.inl ⟨rfl,rfl⟩) rfl rfl rfl aj ak rfl rfl rfl (ab [2,3,4] ?_);refine bM .bJ [0,1,2,3,4,5,6,7,8,10,11,12,13,9,14,15,16] follows (by kernel_rfl) ?_;refine aa 4 rfl (FB Tryz.underlying4 rfl rfl (aa 8 rfl (aY rfl rfl (xF gF lK (by omega) (by omega)) (fun _ _ h=>by first | exact h.le | exact h.1) ?_)));rintro v3 H3 ef;refine aY rfl rfl (xF (gS.le ef.le) (lk.le ef.le) (by omega) (by omega)) (fun _ _ h=>by first | exact h.le | exact h.1) ?_;rintro v4 H4 fJ;have lL:=ef.nat.le fJ.le;have Hj:=fJ.nat;obtain⟨DE,DF,rfl,DG,DH⟩:=id lL;obtain⟨agR,agS,rfl,agT,agU⟩:=id Hj;refine aY rfl rfl (xI (f:=f1 != f2) lL.sE Hj.sE nE nE (by omega) (by omega)) (fun _ _ h=>by first | exact h.le | exact h.1) ?_;rintro w5 G5 ⟨Hk,dZ⟩;rw[cR,cR,←OM,vI,sG]at dZ;obtain⟨u5,x5,rfl,Hl,m0⟩:=id dZ;obtain⟨XT,XU,rfl,XV,XW⟩:=id Hl
 obtain⟨P4,P5,rfl,P6,P7⟩:=id m0;obtain⟨ti,aj,ak⟩:=aU;refine aH (.inl ⟨rfl,rfl⟩) rfl rfl rfl aj ak rfl rfl rfl (ab [4] ?_);obtain⟨bP,aL,aM⟩:=aU;refine aB ⟨.inr rfl,_,.agg rfl Tryz.underlying38 aL aM (.nil),?_⟩;exact⟨((hle.trans ef.le).trans fJ.le).trans Hk,dZ⟩
theorem P8{H:Heap}{v v2:Value}{q q2:Rat}{N:Nat}(hv:cT H v q N)(dT:cT H v2 q2 N)(hN:(N:Int)≤1099511627780):
 Fn Tryz.prog 105 #[v,v2] H (fun v H'=>Heap.le H H'∧∃r,v = .tuple #[r,.bool (decide (q2≠0))]∧bH H' r (q/q2)):=by
 obtain⟨bf,bu,bw,nG,nH,rfl,_⟩:=id hv
 obtain⟨cf,cu,cw,yY,yZ,rfl,_⟩:=id dT
 have mf:=hv.size
 have tZ:=dT.size
 have fc:=Nat.pos_of_ne_zero q.den_nz
 have jZ:=Nat.pos_of_ne_zero q2.den_nz
 have vI:=wN q
 have sG:=wN q2
 obtain⟨f1,iV⟩:∃f1,f1=decide (q.num<0):=⟨_,rfl⟩
 obtain⟨f2,jK⟩:∃f2,f2=decide (q2.num<0):=⟨_,rfl⟩
 obtain⟨n1,dt⟩:∃n1,n1=q.num.natAbs:=⟨_,rfl⟩
 obtain⟨n2,gQ⟩:∃n2,n2=q2.num.natAbs:=⟨_,rfl⟩
 obtain⟨d1,pS⟩:∃d1,d1=q.den:=⟨_,rfl⟩
 obtain⟨d2,pT⟩:∃d2,d2=q2.den:=⟨_,rfl⟩
 have hz:(al n1).length≤N+2∧(al d1).length≤N+2∧(al n2).length≤N+2∧(al d2).length≤N+2:=by
  unfold aN at mf tZ
  rw[dt,gQ,pS,pT];omega
 rw[←iV,←dt,←pS]at vI
 rw[←jK,←gQ,←pT]at sG
 rw[←pS]at fc
 rw[←pT]at jZ
 have rT:=oA n1 d2
 have jo:=oA d1 n2;refine aZ (args:=[_,_]) Tryz.func105 rfl rfl Tryz.ntmps105 rfl rfl fun w0=> ?_;refine ah [0,1] rfl ?_;refine ae (bY rfl rfl (bY rfl rfl (bh bQ rfl (aa 1 rfl (ab [2,3,4] ?_)))));refine bM .bJ [0,2,1,3,4,5] follows (by kernel_rfl) ?_;refine aa 2 rfl (aY rfl rfl (tY hv (by omega)) (fun _ _ h=>by first | exact h.le | exact h.1) ?_);rintro w1 G1 ⟨bx,ua⟩
 unfold bH at ua
 rw[←iV,←dt,←pS]at ua;obtain⟨wO,wP,rfl,gF,gS⟩:=id ua;obtain⟨wQ,wR,rfl,wS,wT⟩:=id gF;obtain⟨wU,wV,rfl,wW,wX⟩:=id gS;refine aY rfl rfl (tY (dT.le bx) (by omega)) (fun _ _ h=>by first | exact h.le | exact h.1) ?_;rintro w2 G2 ⟨cD,ub⟩
 unfold bH at ub
 rw[←jK,←gQ,←pT]at ub;obtain⟨Dy,Dz,rfl,lK,lk⟩:=id ub;obtain⟨Bk,Bl,rfl,DA,DB⟩:=id lK;obtain⟨Bm,Bn,rfl,DC,DD⟩:=id lk;have gF:=gF.le cD;have gS:=gS.le cD;have hle:=bx.trans cD;obtain⟨ti,aj,ak⟩:=aU;refine aH (.inl ⟨rfl,rfl⟩) rfl rfl rfl aj ak rfl rfl rfl ?_;obtain⟨ti,aj,ak⟩:=aU;refine aH (.inl ⟨rfl,rfl⟩) rfl rfl rfl aj ak rfl rfl rfl (ab [2,3,4] ?_);refine ao (ae (aa 4 rfl (ab [2,3,4,13] ?_)));refine aD rfl (fun hb=> ?_) (fun hb=> ?_)
 ·
  have hb:n2=0:=jL.1 (by have:=eq_of_beq hb;omega)
  have Ly:q2=0:=by rw[←sG,hb,wL]
  refine ae (aC rfl rfl (oU (n:=0) (by decide) (by decide)) ?_);rintro w5 G5 ⟨Hk,dZ⟩;obtain⟨u5,x5,rfl,Hl,m0⟩:=id dZ;obtain⟨XT,XU,rfl,XV,XW⟩:=id Hl;obtain⟨P4,P5,rfl,P6,P7⟩:=id m0;obtain⟨ti,aj,ak⟩:=aU;refine aH (.inl ⟨rfl,rfl⟩) rfl rfl rfl aj ak rfl rfl rfl (aa 1 rfl (ab [4,5] ?_));obtain⟨bP,aL,aM⟩:=aU;refine aB ⟨.inr rfl,_,.agg rfl Tryz.underlying38 aL aM (.tmp rfl (.nil)),?_⟩;refine⟨hle.trans Hk,_,?_,by rw[Ly,Rat.div_def,Rat.inv_zero,Rat.mul_zero];exact dZ⟩;rw[Ly];rfl
 ·
  have jn:0<n2:=Nat.pos_of_ne_zero fun e=>by rw[jL.2 e]at hb;simp at hb
  have Ly:q2≠0:=fun e=>by rw[←sG,OJ jZ]at e;omega
  refine az (ah [2,3,4] rfl ?_);refine bM .bJ [0,1,2,3,4,5,6,7,8,10,11,12,13,9,14,15,16,17] follows (by kernel_rfl) ?_;refine aa 4 rfl (FB Tryz.underlying4 rfl rfl (aa 8 rfl (aY rfl rfl (xF gF lk (by omega) (by omega)) (fun _ _ h=>by first | exact h.le | exact h.1) ?_)));rintro v3 H3 ef;refine aY rfl rfl (xF (gS.le ef.le) (lK.le ef.le) (by omega) (by omega)) (fun _ _ h=>by first | exact h.le | exact h.1) ?_;rintro v4 H4 fJ;have lL:=ef.nat.le fJ.le;have Hj:=fJ.nat;obtain⟨DE,DF,rfl,DG,DH⟩:=id lL;obtain⟨agR,agS,rfl,agT,agU⟩:=id Hj;refine aY rfl rfl (xI (f:=f1 != f2) lL.sE Hj.sE nE nE (by omega) (by omega)) (fun _ _ h=>by first | exact h.le | exact h.1) ?_;rintro w5 G5 ⟨Hk,dZ⟩;rw[cR,cR,←ON jn,vI,sG]at dZ;obtain⟨u5,x5,rfl,Hl,m0⟩:=id dZ;obtain⟨XT,XU,rfl,XV,XW⟩:=id Hl;obtain⟨P4,P5,rfl,P6,P7⟩:=id m0;obtain⟨ti,aj,ak⟩:=aU;refine aH (.inl ⟨rfl,rfl⟩) rfl rfl rfl aj ak rfl rfl rfl (aa 1 rfl (ab [4,5] ?_));obtain⟨bP,aL,aM⟩:=aU;refine aB ⟨.inr rfl,_,.agg rfl Tryz.underlying38 aL aM (.tmp rfl (.nil)),?_⟩;refine⟨((hle.trans ef.le).trans fJ.le).trans Hk,_,?_,dZ⟩;rw[show decide (q2≠0)=true from decide_eq_true Ly];rfl
theorem XX{H:Heap}{a b:Int}(h1: -9223372036854775808≤a)(h2:a≤9223372036854775807)(h3: -9223372036854775808≤b)(h4:b≤9223372036854775807):
 Fn Tryz.prog 138 #[.int .i64 a,.int .i64 b] H (j0 H ((a:Rat)/(b:Rat))):=by
 have hs:∀n:Int,-9223372036854775808≤n→n≤9223372036854775807→aN (n:Rat)≤3:=fun n h1 h2=>by
  have k1:(al n.natAbs).length≤3:=iZ.2 (by rw[cg];omega)
  have k2:(al 1).length≤3:=by rw[vt];decide
  have:=(XC (decide (n<0)) n.natAbs 1 3 k1 k2).2 (by decide)
  rwa [Ga]at this
 refine aZ (args:=[_,_]) Tryz.func138 rfl rfl Tryz.ntmps138 rfl rfl fun w0=> ?_;refine ah [0,1] rfl ?_;refine ae (bh bQ rfl (ab [0,1,4] ?_));refine ae (aa 1 rfl (aC rfl rfl (oU h1 h2) ?_));rintro w1 G1 ⟨fl,b8⟩;obtain⟨u1,x1,rfl,eR,fH⟩:=id b8;obtain⟨mj,ml,rfl,mm,mo⟩:=id eR;obtain⟨tJ,tK,rfl,tL,tM⟩:=id fH;refine aa 1 rfl (aC rfl rfl (oU h3 h4) ?_);rintro w2 G2 ⟨dP,bU⟩;obtain⟨u2,x2,rfl,fQ,eS⟩:=id bU;obtain⟨oC,oD,rfl,oE,oF⟩:=id fQ;obtain⟨oG,oH,rfl,oI,oJ⟩:=id eS;refine aC rfl rfl (P8 (N:=3) ((b8.le dP).raw.mono (hs a h1 h2)) (bU.raw.mono (hs b h3 h4)) (by decide)) ?_;rintro v3 H3 ⟨eF,r3,rfl,iw⟩;obtain⟨u3,x3,rfl,oO,gT⟩:=id iw;obtain⟨Bw,By,rfl,Bz,BA⟩:=id oO;obtain⟨BB,BC,rfl,BD,BE⟩:=id gT;refine aa 3 rfl (bh bQ rfl ?_);obtain⟨ti,aj,ak⟩:=aU;refine aH (.inl ⟨rfl,rfl⟩) rfl rfl rfl aj ak rfl rfl rfl (aa 1 rfl (ab [4,5] ?_));refine ae (vr 1 ?_);obtain⟨ti,aj,ak⟩:=aU;refine aH (.inl ⟨rfl,rfl⟩) rfl rfl rfl aj ak rfl rfl rfl (ab [4] ?_);obtain⟨bP,aL,aM⟩:=aU;refine aB ⟨.inr rfl,_,.agg rfl Tryz.underlying38 aL aM (.nil),?_⟩
 exact⟨(fl.trans dP).trans eF,iw⟩
end Go.aq
namespace Go.aq
open Go.Proofs Num Lp
theorem BV(L:TL)(a:Nat→Rat)(sg:Rat)(k:Nat):jS L a sg (k+1)=if 0≤L.mZ k then bZ (bZ (jS L a sg k) (L.pF k) (a k*sg)) (L.mZ k).toNat (-(a k*sg))else bZ (jS L a sg k) (L.pF k) (a k*sg):=rfl
theorem agV{H:Heap}{g:Nat}{ts:List Value}{pv mv:Value}{L:TL}{n N:Nat}{vs ss:List Value}{r:List Rat×Int×Rat}{slack:Int}{unit:Nat}{sg:Rat}
 (hg:H g=some ⟨ts,9,127,true⟩) (Ks:ts[0]? = some (.int .i64 (L.w:Int))) (fy:ts[2]? = some pv) (Hm:ts[3]? = some mv) (sw:aQ vE 1 (rem H [g]) pv L.plus) (vG:aQ j8 1 (rem H [g]) mv L.minus)
 (hr:fK N (rem H [g]) vs r) (hs:bS (rem H [g]) ss sg) (qq:aN sg≤1) (hn:r.1.length=n) (J2:L.plus.length=n) (pB:L.minus.length=n) (yy:∀j,j<n→L.pF j<L.w) (Xf:∀j,j<n→L.mZ j<L.w)
 (j7:r.2.1≠2→0≤slack∧slack<L.w) (pI:unit<L.w) (hN:(N:Int)≤549755813888) (hw:(L.w:Int)≤1000000) (hnn:(n:Int)≤1000000):
 Fn Tryz.prog 123 #[.pointer (some ⟨g,0,none⟩),.agg vs.toArray,.agg ss.toArray,.int .i64 slack,.int .i64 (unit:Int)] H (fun v H'=>Heap.le H H'∧∃z xs,v = .slice (some ⟨z,0,none⟩) (L.w+1) (L.w+1)∧fp [g] H H' z xs ((L.w+1)*3) 121∧bA (bS (rem H' (z :: [g]))) 3 xs (aK (Lm L n (fn r.1) r.2.2 r.2.1 slack unit sg) (L.w+1))):=by
 obtain⟨ns,ds,bs,rfl⟩:=hs.cells
 obtain⟨Ac,cc,kk,f,A1,m1,c1,A2,m2,c2,rfl,rfl⟩:=hr.cells
 obtain⟨c',f',u',w',ma,oy,pJ⟩:=id hr
 simp only[List.cons.injEq,Value.bool.injEq,and_true,true_and]at ma
 obtain⟨rfl,rfl,rfl,rfl⟩:=ma
 have bo:∀q,q∈[g]→H q≠none:=fun q hq=>by rw[List.mem_singleton.1 hq,hg];simp
 obtain⟨Ap,cp,xp,rfl,jr,oS⟩:=sw.one
 obtain⟨Am,cm,xm,rfl,kz,xC⟩:=vG.one
 rw[J2]at fy
 rw[pB]at Hm
 have BO:∀{H':Heap}{z:Nat}{xs:List Value}{s e:Nat},fp [g] H H' z xs s e→H' g=some ⟨ts,9,127,true⟩:=fun kA=>(kA.same g (List.mem_singleton.2 rfl)).trans hg
 have fh:∀{H':Heap}{k:Nat}{v:Value},H' g=some ⟨ts,9,127,true⟩→ts[k]? = some v→cell H' ((⟨g,0,none⟩:Addr).add k)=some v:=fun h1 h2=>by simp[cell,im,h1,h2]
 have XY:∀{H':Heap},H' g=some ⟨ts,9,127,true⟩→cell H' (⟨g,0,none⟩:Addr)=some (.int .i64 (L.w:Int)):=fun h1=>by have:=fh (k:=0) h1 Ks;rwa [im]at this
 have hLp:∀j,j<n→L.plus[j]? = some (L.pF j):=fun j hj=>by
  have:j<L.plus.length:=by rw[J2];exact hj
  simp[TL.pF,List.getD,List.getElem?_eq_getElem this]
 have hLm:∀j,j<n→L.minus[j]? = some (L.mZ j):=fun j hj=>by
  have:j<L.minus.length:=by rw[pB];exact hj
  simp[TL.mZ,List.getD,List.getElem?_eq_getElem this]
 refine aZ (args:=[_,_,_,_,_]) Tryz.func123 rfl rfl Tryz.ntmps123 rfl rfl fun w0=> ?_;refine ah [0,1,2,3,4] rfl ?_;refine ae (bY rfl rfl (bY rfl rfl (aa 1 rfl (ab [0,3,4,6,7] ?_))));refine ae (aa 2 rfl (aW ag rfl rfl rfl (aR ag rfl rfl rfl (XY hg) (aF rfl rfl ⟨by omega,by omega⟩ (aC rfl rfl (GF (gs:=[g]) (n:=L.w+1) bo (by omega)) ?_)))));rintro v1 H1 ⟨bx,z,sh,rfl,Eb,XZ⟩;have agW:=(XZ H).len;rw[bB]at agW;refine aa 1 rfl (ab [0,3,4,6,7,11] ?_);refine ao (ae (aa 2 rfl (aC rfl rfl (Fn.Le (gs:=z :: [g]) (Eb.ne bo) (Ww (oy.le (r8 N) Eb.le) (by omega) (by omega))) ?_)));rintro v2 H2 ⟨fN,cD,lJ⟩;have eO:=Eb.kept fN;obtain⟨Av,cv,xv,rfl,ka,ny⟩:=lJ.num;rw[hn];refine aa 2 rfl (ab [0,3,4,6,7,11,22,23,24] ?_);refine aE (gn (fun(k:Nat)(xs:List Value)=>n-k) (fun(k:Nat)(xs:List Value)=>put (put (put (put (put (put (put (put (put (emp) 0 (.val (.pointer (some ⟨g,0,none⟩)))) 3 (.val (.int .i64 slack))) 4 (.val (.int .i64 (unit:Int)))) 6 (.box [.slice Ac n cc,.int .i64 r.2.1,.bool f,.slice A1 m1 c1,.slice A2 m2 c2])) 7 (.box [.int .i64 ns,.int .i64 ds,.pointer bs])) 11 (.val (.slice (some ⟨z,0,none⟩) (L.w+1) (L.w+1)))) 22 (.val (.slice Av n cv))) 23 (.val (.int .i64 (n:Int)))) 24 (.val (.int .i64 (k:Int)))) (fun(k:Nat)(xs:List Value) H'=>fp [g] H H' z xs ((L.w+1)*3) 121∧bA (bS (rem H' (z :: [g]))) 3 xs (aK (jS L (fn r.1) sg k) (L.w+1))∧Heap.le (rem H2 (z :: [g])) (rem H' (z :: [g]))∧Heap.le H H'∧k≤n) 0 sh (⟨eO,by rw[ln (f:=jS L (fn r.1) sg 0) (g:=fun _=>0) (fun j _=>rfl)];exact XZ _,.refl _,bx.trans cD,Nat.zero_le _⟩) ar ?_)
 rintro k xs H3 ⟨ke,xD,gH,anp,dz⟩;have cZ:=xD.len;rw[bB]at cZ;have lI:=BO ke;refine ae (aa 1 rfl (ab [0,3,4,6,7,11,22,23,24,25] ?_));refine ao (aD rfl (fun hb=> ?_) (fun hb=> ?_))
 ·
  have ga:k<n:=by simpa using hb
  obtain⟨q,ie⟩:∃q,r.1[k]? = some q:=⟨_,List.getElem?_eq_getElem (by omega)⟩;obtain⟨n1,d1,b1,dt,fH⟩:=ny k q ie;have kC:fn r.1 k=q:=oN ie
  have P9:aN q≤N+2:=by
   obtain⟨A9,c9,x9,_,_,_,h9⟩:=oy;exact cT.size (h9.at_ k q ie)
  obtain⟨up,GK,GL⟩:=oS k _ (hLp k ga);obtain⟨um,zo,GM⟩:=xC k _ (hLm k ga)
  cases GL
  cases GM
  have agX:=yy k ga;have agY:=Xf k ga;refine az (ah [0,3,4,6,7,11,22,23,24] rfl ?_);refine ao (aE (ae (aa 1 rfl (cj (vs:=[.int .i64 n1,.int .i64 d1,.pointer b1]) ag rfl rfl rfl rfl ((ka.le gH).le (bD _ _)) rfl (by decide) fH (by omega) (by omega) fun _=>(bh ff rfl (vr 1 ?_))))));obtain⟨ti,aj,ak⟩:=cH;refine aH (.inl ⟨rfl,rfl⟩) rfl rfl rfl aj ak rfl rfl rfl (ab [0,3,4,6,7,11,12,13,22,23,24] ?_);refine bM .gB [0,1,2,3,4,5,6,7,8,9,10,11,12] follows (by kernel_rfl) ?_;refine aa 3 rfl (aW ag rfl rfl rfl (aR ag rfl rfl rfl (fh lI fy) (aa 1 rfl (aS ag rfl rfl rfl rfl rfl ((jr.le ke.le).le (bD _ _)) (by rw[Int.toNat_natCast];exact GK) (by omega) (by omega) fun _=> ?_))));refine aa 2 rfl (aY rfl rfl (Fn.lr (ke.ne bo) (Gq (N:=N+2) (dt.le gH) (hs.le ke.le) P9 (by omega) (by omega))) (fun _ _ h=>by first | exact h.le | exact h.1) ?_);rintro v4 H4 ⟨gg,cM,n4,d4,b4,rfl,ct⟩;have sx:=ke.kept gg;rw[←kC]at ct;obtain⟨ti,aj,ak⟩:=cH;refine cV (.inr rfl) ag rfl rfl rfl (by omega) (by omega) (sx.aw) rfl (by show 0+(L.w+1)*3≤xs.length;omega) aj ak (fun _=>rfl) rfl rfl rfl fun _=> ?_
  refine ab [0,3,4,6,7,11,12,13,22,23,24] ?_;have sB:fp [g] H (ins H4 z {(⟨xs,(L.w+1)*3,121,true⟩:Ent)with xs:=aJ xs (0+((L.pF k:Nat):Int).toNat*3) [.int .i64 n4,.int .i64 d4,.pointer b4]}) z (aJ xs (L.pF k*3) [.int .i64 n4,.int .i64 d4,.pointer b4]) ((L.w+1)*3) 121:=sx.set (by rw[Int.toNat_natCast];exact oT)
  have LA:bA (bS (rem (ins H4 z {(⟨xs,(L.w+1)*3,121,true⟩:Ent)with xs:=aJ xs (0+((L.pF k:Nat):Int).toNat*3) [.int .i64 n4,.int .i64 d4,.pointer b4]}) (z :: [g]))) 3 (aJ xs (L.pF k*3) [.int .i64 n4,.int .i64 d4,.pointer b4]) (aK (bZ (jS L (fn r.1) sg k) (L.pF k) (fn r.1 k*sg)) (L.w+1)):=by
   rw[cE _ (List.mem_cons_self ..)];exact so (xD.mono fun vs a=>jc _ _ vs a gg.le) (by omega) ct
  have iM:Heap.le (rem H2 (z :: [g])) (rem (ins H4 z {(⟨xs,(L.w+1)*3,121,true⟩:Ent)with xs:=aJ xs (0+((L.pF k:Nat):Int).toNat*3) [.int .i64 n4,.int .i64 d4,.pointer b4]}) (z :: [g])):=by
   rw[cE _ (List.mem_cons_self ..)];exact gH.trans gg.le
  generalize ins H4 z {(⟨xs,(L.w+1)*3,121,true⟩:Ent)with xs:=aJ xs (0+((L.pF k:Nat):Int).toNat*3) [.int .i64 n4,.int .i64 d4,.pointer b4]}=H5 at sB LA iM⊢
  have sD:=BO sB;have Qa:=LA.len;rw[bB]at Qa;refine ae (aa 2 rfl (aW ag rfl rfl rfl (aR ag rfl rfl rfl (fh sD Hm) (aa 1 rfl (aS ag rfl rfl rfl rfl rfl ((kz.le sB.le).le (bD _ _)) (by rw[Int.toNat_natCast];exact zo) (by omega) (by omega) fun _=> ?_)))));refine aa 1 rfl (ab [0,3,4,6,7,11,12,13,22,23,24,48] ?_);refine aD rfl (fun hb=> ?_) (fun hb=> ?_)
  ·
   have hb:0≤L.mZ k:=by simpa using hb
   refine eo .gB [0,1,2,3,4,5,6,7,8,9,10,11,12,13] follows (by kernel_rfl) ?_;refine aa 3 rfl (aW ag rfl rfl rfl (aR ag rfl rfl rfl (fh sD Hm) (aa 1 rfl (aS ag rfl rfl rfl rfl rfl ((kz.le sB.le).le (bD _ _)) (by rw[Int.toNat_natCast];exact zo) (by omega) (by omega) fun _=> ?_))));refine aa 2 rfl (aY rfl rfl (Fn.lr (sB.ne bo) (Gq (N:=N+2) (dt.le iM) (hs.le sB.le) P9 (by omega) (by omega))) (fun _ _ h=>by first | exact h.le | exact h.1) ?_);rintro v6 H6 ⟨qD,iy,n6,d6,b6,rfl,oV⟩;have X0:=sB.kept qD;have wD:=vx q sg;refine aY rfl rfl (Fn.lr (X0.ne bo) (DK oV (by omega))) (fun _ _ h=>by first | exact h.le | exact h.1) ?_;rintro v7 H7 ⟨qF,kT,n7,d7,b7,rfl,jf⟩;have X1:=X0.kept qF;rw[←kC]at jf;obtain⟨ti,aj,ak⟩:=cH;refine cV (.inr rfl) ag rfl rfl rfl (by omega) (by omega) (X1.aw) rfl (by show 0+(L.w+1)*3≤(aJ xs (L.pF k*3) [.int .i64 n4,.int .i64 d4,.pointer b4]).length;omega) aj ak (fun _=>rfl) rfl rfl rfl fun _=> ?_;refine au ?_;have X2:=X1.set (oT (xs:=aJ xs (L.pF k*3) [.int .i64 n4,.int .i64 d4,.pointer b4]) (vs:=[.int .i64 n7,.int .i64 d7,.pointer b7]) (k:=(L.mZ k).toNat) (sz:=3));refine ah [0,3,4,6,7,11,22,23,24] rfl ?_;refine aA rfl (aF rfl rfl ⟨by omega,by omega⟩ ?_)
   refine aa 1 rfl (au ?_);exact⟨k+1,_,by omega,ar,X2,by rw[cE _ (List.mem_cons_self ..),BV,if_pos hb];exact so (LA.mono fun vs a=>jc _ _ vs a (qD.le.trans qF.le)) (by omega) jf,by rw[cE _ (List.mem_cons_self ..)];exact(iM.trans qD.le).trans qF.le,X2.hle,by omega⟩
  ·
   have hb:¬0≤L.mZ k:=by simpa using hb
   refine az (ah [0,3,4,6,7,11,22,23,24] rfl ?_);refine aA rfl (aF rfl rfl ⟨by omega,by omega⟩ (aa 1 rfl (au ?_)));exact⟨k+1,_,by omega,ar,sB,by rw[BV,if_neg hb];exact LA,iM,sB.hle,by omega⟩
 ·
  have hb:n≤k:=by simpa using hb
  obtain rfl:n=k:=by omega
  refine aX (ah [0,3,4,6,7,11] rfl ?_);refine kM (fun(ys:List Value)=>put (put (put (put (put (emp) 0 (.val (.pointer (some ⟨g,0,none⟩)))) 4 (.val (.int .i64 (unit:Int)))) 6 (.box [.slice Ac n cc,.int .i64 r.2.1,.bool f,.slice A1 m1 c1,.slice A2 m2 c2])) 7 (.box [.int .i64 ns,.int .i64 ds,.pointer bs])) 11 (.val (.slice (some ⟨z,0,none⟩) (L.w+1) (L.w+1)))) (fun(ys:List Value) H'=>fp [g] H H' z ys ((L.w+1)*3) 121∧bA (bS (rem H' (z :: [g]))) 3 ys (aK (sC (jS L (fn r.1) sg n) r.2.1 slack sg) (L.w+1))) ?_ ?_
  ·
   refine ae (aa 2 rfl (ab [0,3,4,6,7,11,64] ?_));refine aE (ae (aa 2 rfl (ab [0,3,4,6,7,11,64,65] ?_)));refine aD rfl (fun hb=> ?_) (fun hb=> ?_)
   ·
    have hb:r.2.1=1:=by simpa using hb
    have agZ:=j7 (by omega);refine aA rfl (vr 3 ?_);obtain⟨ti,aj,ak⟩:=cH;refine cV (.inl rfl) ag rfl rfl rfl (by omega) (by omega) (ke.aw) rfl (by show 0+(L.w+1)*3≤xs.length;omega) aj ak (fun _=>rfl) rfl rfl rfl fun _=> ?_;refine au ?_;exact⟨_,ar,ke.set oT,by rw[cE _ (List.mem_cons_self ..)];unfold sC;rw[if_pos hb];exact so xD (by omega) (hs.le ke.le)⟩
   have hb:¬r.2.1=1:=by simpa using hb
   refine ae (aa 2 rfl (ab [0,3,4,6,7,11,71] ?_));refine aD rfl (fun hb=> ?_) (fun hb=> ?_)
   ·
    have gG:r.2.1=3:=by simpa using hb
    have hb:¬r.2.1=1:=by omega
    have agZ:=j7 (by omega);refine aA rfl (aa 3 rfl (aC rfl rfl (Fn.lr (ke.ne bo) (DK (hs.le ke.le) (by omega))) ?_));rintro v9 H9 ⟨gw,eT,n9,d9,b9,rfl,fW⟩;have Hn:=ke.kept gw;obtain⟨ti,aj,ak⟩:=cH;refine cV (.inl rfl) ag rfl rfl rfl (by omega) (by omega) (Hn.aw) rfl (by show 0+(L.w+1)*3≤xs.length;omega) aj ak (fun _=>rfl) rfl rfl rfl fun _=> ?_;refine au ?_;exact⟨_,ar,Hn.set oT,by rw[cE _ (List.mem_cons_self ..)];unfold sC;rw[if_neg hb,if_pos gG];exact so (xD.mono fun vs a=>jc _ _ vs a gw.le) (by omega) fW⟩
   have gG:¬r.2.1=3:=by simpa using hb
   have hb:¬r.2.1=1:=by assumption
   refine az ?_;exact⟨_,ar,ke,by unfold sC;rw[if_neg hb,if_neg gG];exact xD⟩
  rintro ys H9 ⟨Hn,X3⟩;have ag0:=X3.len;rw[bB]at ag0;refine ae (aa 2 rfl (aC rfl rfl (xa) ?_));rintro v10 lW ⟨qJ,rfl⟩;rw[qJ];obtain⟨ti,aj,ak⟩:=cH;refine cV (.inl rfl) ag rfl rfl rfl (by omega) (by omega) (Hn.aw) rfl (by show 0+(L.w+1)*3≤ys.length;omega) aj ak (fun _=>rfl) rfl rfl rfl fun _=> ?_;refine ab [0,6,7,11] ?_;have Ho:fp [g] H (ins H9 z {(⟨ys,(L.w+1)*3,121,true⟩:Ent)with xs:=aJ ys (0+((unit:Int)).toNat*3) [.int .i64 1,.int .i64 1,.pointer none]}) z (aJ ys (unit*3) [.int .i64 1,.int .i64 1,.pointer none]) ((L.w+1)*3) 121:=Hn.set (by rw[Int.toNat_natCast];exact oT)
  have Qb:bA (bS (rem (ins H9 z {(⟨ys,(L.w+1)*3,121,true⟩:Ent)with xs:=aJ ys (0+((unit:Int)).toNat*3) [.int .i64 1,.int .i64 1,.pointer none]}) (z :: [g]))) 3 (aJ ys (unit*3) [.int .i64 1,.int .i64 1,.pointer none]) (aK (bZ (sC (jS L (fn r.1) sg n) r.2.1 slack sg) unit 1) (L.w+1)):=by
   rw[cE _ (List.mem_cons_self ..)];exact so X3 (by omega) (w9 _ (n:=1) (by decide) (by decide))
  generalize ins H9 z {(⟨ys,(L.w+1)*3,121,true⟩:Ent)with xs:=aJ ys (0+((unit:Int)).toNat*3) [.int .i64 1,.int .i64 1,.pointer none]}=je at Ho Qb⊢
  have zv:=BO Ho;have ag1:=Qb.len;rw[bB]at ag1;have X4:=pJ.size;refine bM .gB [0,1,2,3,4,5,6,8,7,9,10,11] follows (by kernel_rfl) ?_;refine aa 3 rfl (aW ag rfl rfl rfl (aR ag rfl rfl rfl (XY zv) (aa 3 rfl (aY rfl rfl (Fn.lr (Ho.ne bo) (O4 (pJ.le Ho.le) (by omega))) (fun _ _ h=>by first | exact h.le | exact h.1) ?_))));rintro v12 dC ⟨zw,kV,n12,d12,b12,rfl,vJ⟩;have BW:=Ho.kept zw;refine aY rfl rfl (Fn.lr (BW.ne bo) (Gq (N:=N+2) vJ (hs.le BW.le) X4 (by omega) (by omega))) (fun _ _ h=>by first | exact h.le | exact h.1) ?_;rintro Qd kW ⟨xM,mB,Qe,d13,X5,rfl,sI⟩;have LB:=BW.kept xM;obtain⟨ti,aj,ak⟩:=cH;refine cV (.inr rfl) ag rfl rfl rfl (by omega) (by omega) (LB.aw) rfl (by show 0+(L.w+1)*3≤(aJ ys (unit*3) [.int .i64 1,.int .i64 1,.pointer none]).length;omega) aj ak (fun _=>rfl) rfl rfl rfl fun _=> ?_;refine ab [11] ?_;have xN:fp [g] H (ins kW z {(⟨aJ ys (unit*3) [.int .i64 1,.int .i64 1,.pointer none],(L.w+1)*3,121,true⟩:Ent)with xs:=aJ (aJ ys (unit*3) [.int .i64 1,.int .i64 1,.pointer none]) (0+((L.w:Int)).toNat*3) [.int .i64 Qe,.int .i64 d13,.pointer X5]}) z (aJ (aJ ys (unit*3) [.int .i64 1,.int .i64 1,.pointer none]) (L.w*3) [.int .i64 Qe,.int .i64 d13,.pointer X5]) ((L.w+1)*3) 121:=LB.set (by rw[Int.toNat_natCast];exact oT)
  refine ae (aa 2 rfl (ab [10] ?_));refine aB ⟨.inr rfl,_,.tmp rfl (.nil),?_⟩;exact⟨xN.hle,z,_,rfl,xN,by rw[cE _ (List.mem_cons_self ..)];exact so (Qb.mono fun vs a=>jc _ _ vs a (zw.le.trans xM.le)) (by omega) sI⟩
end Go.aq
namespace Go.aq
open Go.Proofs Num Lp
def a6(fr:Nat→Bool):Nat→Nat
 | 0=>0
 | k+1=>a6 fr k+1+(if fr k then 1 else 0)
def m6(fr:Nat→Bool)(k:Nat):Int:=if fr k then((a6 fr k+1:Nat):Int)else -1
def bC(rel:Nat→Int)(c:Nat):Nat→Nat
 | 0=>c
 | i+1=>bC rel c i+(if rel i=2 then 0 else 1)
def eV(rel:Nat→Int)(c i:Nat):Int:=if rel i=2 then -1 else(bC rel c i:Int)
def kD(b:Rat)(rel:Int):Int:=if b<0∨(b=0∧rel=3)then -1 else 1
def eY(rel s:Int):Bool:=decide ((rel=1∧s=1)∨(rel=3∧s = -1))
def a8(rel sg:Nat→Int)(u:Nat):Nat→Nat
 | 0=>u
 | i+1=>a8 rel sg u i+(if eY (rel i) (sg i)then 0 else 1)
def qK(rel sg:Nat→Int)(c u i:Nat):Nat:=if eY (rel i) (sg i)then bC rel c i else a8 rel sg u i
theorem sJ(b:Rat)(rel:Int):kD b rel=1∨kD b rel = -1:=by unfold kD;split <;> simp
theorem Qf(fr:Nat→Bool)(k:Nat):a6 fr k≤2*k:=by
 induction k with
 | zero=>exact Nat.le_refl _
 | succ k ih=>unfold a6;split <;> omega
theorem sK(rel:Nat→Int)(c k:Nat):bC rel c k≤c+k∧c≤bC rel c k:=by
 induction k with
 | zero=>exact⟨Nat.le_refl _,Nat.le_refl _⟩
 | succ k ih=>unfold bC;split <;> omega
theorem sL(rel sg:Nat→Int)(u k:Nat):a8 rel sg u k≤u+k∧u≤a8 rel sg u k:=by
 induction k with
 | zero=>exact⟨Nat.le_refl _,Nat.le_refl _⟩
 | succ k ih=>unfold a8;split <;> omega
theorem BX{fr:Nat→Bool}{j k:Nat}(h:j<k):a6 fr j+1+(if fr j then 1 else 0)≤a6 fr k:=by
 induction k with
 | zero=>omega
 | succ k ih=>
  by_cases e:j=k
  ·subst e;exact Nat.le_refl _
  ·have:=ih (by omega)
   show _≤a6 fr k+1+(if fr k then 1 else 0)
   omega
theorem Qg{rel:Nat→Int}{c j k:Nat}(h:j<k):bC rel c j+(if rel j=2 then 0 else 1)≤bC rel c k:=by
 induction k with
 | zero=>omega
 | succ k ih=>
  by_cases e:j=k
  ·subst e;exact Nat.le_refl _
  ·have:=ih (by omega)
   show _≤bC rel c k+(if rel k=2 then 0 else 1)
   omega
theorem Qh{rel sg:Nat→Int}{u j k:Nat}(h:j<k):a8 rel sg u j+(if eY (rel j) (sg j)then 0 else 1)≤a8 rel sg u k:=by
 induction k with
 | zero=>omega
 | succ k ih=>
  by_cases e:j=k
  ·subst e;exact Nat.le_refl _
  ·have:=ih (by omega)
   show _≤a8 rel sg u k+(if eY (rel k) (sg k)then 0 else 1)
   omega
def ints(f:Nat→Int)(k:Nat):List Value:=(List.range k).map fun j=> .int .i64 (f j)
theorem vK(f:Nat→Int)(k:Nat):ints f (k+1)=ints f k ++ [.int .i64 (f k)]:=by
 unfold ints;rw[List.range_succ,List.map_append];rfl
theorem BY(f:Nat→Int)(k:Nat):(ints f k).length=k:=by simp[ints]
theorem vL{f:Nat→Int}{k i:Nat}(h:i<k):(ints f k)[i]? = some (.int .i64 (f i)):=by simp[ints,h]
theorem bR.ints{K:Heap}{v:Value}{f:Nat→Int}{k:Nat}(h:bR K v 3 1 k (aq.ints f k)):aQ j8 1 K v ((List.range k).map f):=by
 obtain⟨A,c,rfl⟩:=h.form
 refine⟨A,c,_,by rw[List.length_map,List.length_range],?_,h.rd,⟨by rw[BY,List.length_map,List.length_range,Nat.mul_one],fun i z hz=> ?_⟩⟩
 ·rw[List.length_map,List.length_range]
  rcases h.2 with ⟨k1,k2⟩ | ⟨g,cap,k1,_,k3,_⟩
  ·omega
  ·cases k1;exact k3
 ·rw[List.getElem?_map]at hz
  have hi:i<k:=by
   false_or_by_contra
   rw[List.getElem?_eq_none (by rw[List.length_range];omega)]at hz;cases hz
  rw[List.getElem?_range hi]at hz
  cases hz
  rw[O1 (vL hi)];rfl
theorem bR.Qj{K:Heap}{v:Value}{f:Nat→Nat}{k:Nat}(h:bR K v 3 1 k (aq.ints (fun j=>(f j:Int)) k)):aQ vE 1 K v ((List.range k).map f):=by
 obtain⟨A,c,xs,h1,h2,h3,h4⟩:=bR.ints h
 rw[List.length_map,List.length_range]at h1 h2
 refine⟨A,c,xs,by rw[List.length_map,List.length_range];exact h1,by rw[List.length_map,List.length_range];exact h2,h3,⟨by rw[h4.len,List.length_map,List.length_map],fun i z hz=> ?_⟩⟩
 rw[List.getElem?_map]at hz
 cases hr:(List.range k)[i]? with
 | none=>rw[hr]at hz;cases hz
 | some j=>
  rw[hr]at hz
  cases hz
  exact h4.at_ i (f j:Int) (by rw[List.getElem?_map,hr];rfl)
def BZ(v v':Value):Prop:=∀q,v.ownBlock=some q→v'.ownBlock≠some q
theorem BZ.symm{v v':Value}(h:BZ v v'):BZ v' v:=fun q h1 h2=>h q h2 h1
structure lX(K0:Heap)(kP:Value)(e sz n:Nat)(xs:List Value)(v:Value)(K:Heap):Prop where
 own:bR K v e sz n xs
 le:Heap.le K0 K
 new:∀q,v.ownBlock=some q→kP.ownBlock=some q∨K0 q=none
 keep:∀(v':Value)(e' fk n':Nat)(oc:List Value),bR K0 v' e' fk n' oc→BZ kP v'→bR K v' e' fk n' oc∧BZ v v'
theorem bR.lift{H:Heap}{gs:List Nat}{v:Value}{e sz n:Nat}{xs:List Value}(h:bR (rem H gs) v e sz n xs):bR H v e sz n xs∧∀q,q∈gs→v.ownBlock≠some q:=by
 have h2:∀q,q∈gs→v.ownBlock≠some q:=fun q hq hv=>by
  obtain⟨en,he⟩:=h.block hv
  rw[rem_in hq]at he;cases he
 exact⟨h.same fun q hq=>(bL (fun hm=>h2 q hm hq)).symm,h2⟩
theorem pU{H1 H3:Heap}{gs:List Nat}{kP v3:Value}{e sz n0 n gb:Nat}{sh xs:List Value}{en:Ent}(bo:∀q,q∈gs→H1 q≠none)(aV:H1 gb=none)(ho:bR (rem H1 gs) kP e sz n0 sh)(ha:App (ins H1 gb en) kP e sz n xs v3 H3):
  lX (rem H1 gs) kP e sz n xs v3 (rem H3 gs)∧∀q,q∈gs→H3 q=H1 q:=by
 obtain⟨hl,hh⟩:=ho.lift
 have LC:¬gb∈gs:=fun h=>bo gb h aV
 have xt:∀q,q∈gs→ins H1 gb en q≠none:=fun q hq=>by rw[bg _ _ (fun e=>LC (by rw[←e];exact hq))];exact bo q hq
 obtain⟨lF,hs⟩:=ha.rem xt hh
 rw[vw _ LC]at lF
 have hK:rem H1 gs gb=none:=by rw[bL LC];exact aV
 refine⟨⟨lF.own,(Heap.bG _ hK).trans lF.le,fun q hq=>(by
  rcases lF.at_ with h4 | ⟨g',h4,h5⟩
  ·exact .inl (by rw[←h4];exact hq)
  ·rw[h4]at hq
   cases hq
   exact .inr (Bh h5).2),fun v' e' fk n' oc h' vM=> ?_⟩,fun q hq=>by rw[hs q hq,bg _ _ (fun e=>LC (by rw[←e];exact hq))]⟩
 have h1:bR (ins (rem H1 gs) gb en) v' e' fk n' oc:=h'.ins _ hK
 refine⟨h1.same fun q hq=> ?_,fun q h2 h3=> ?_⟩
 ·obtain⟨Ek,Hp⟩:=h1.block hq
  rw[lF.same q Ek Hp (fun h=>vM q h hq),Hp]
 ·rcases lF.at_ with h4 | ⟨g',h4,h5⟩
  ·exact vM q (by rw[←h4];exact h2) h3
  ·rw[h4]at h2
   cases h2
   obtain⟨Ek,Hp⟩:=h1.block h3
   rw[h5]at Hp;cases Hp
def sM(a1:Addr)(v1:Value)(a2:Addr)(v2:Value)(ad:Addr):Option Value:=if ad=a1 then some v1 else if ad=a2 then some v2 else none
theorem lv{a1 a2:Addr}{v1 v2:Value}{H:Heap}(h1:cell H a1=some v1)(h2:cell H a2=some v2):(Mode.cO (sM a1 v1 a2 v2)).fM H:=fun ad v h=>by
 have h':sM a1 v1 a2 v2 ad=some v:=h
 unfold sM at h'
 split at h'
 ·rename_i e;rw[e,h1];exact h'
 ·split at h'
  ·rename_i e;rw[e,h2];exact h'
  ·cases h'
theorem vN{a1 a2:Addr}{v1 v2:Value}:sM a1 v1 a2 v2 a1=some v1:=by simp[sM]
theorem Hq{a1 a2:Addr}{v1 v2:Value}(h:a2≠a1):sM a1 v1 a2 v2 a2=some v2:=by simp[sM,h]
theorem Hr{g g' o o':Nat}(h:g≠g'):(⟨g,o,none⟩:Addr)≠⟨g',o',none⟩:=fun e=>h (by cases e;rfl)
def pV(_:Heap)(vs:List Value)(b:Bool):Prop:=vs = [.bool b]
theorem ug:Up pV:=fun _ _ _ _ _ h=>h
def m7(N:Nat)(H:Heap)(v:Value)(p:Prg):Prop:=∃fv rv,v = .agg #[fv,rv]∧aQ pV 1 H fv p.free∧aQ (fK N) 5 H rv p.rows
theorem m7.le{N:Nat}{H H':Heap}{v:Value}{p:Prg}(h:m7 N H v p)(hl:Heap.le H H'):m7 N H' v p:=by
 obtain⟨fv,rv,h1,h2,h3⟩:=h
 exact⟨fv,rv,h1,h2.le ug hl,h3.le (jC N) hl⟩
section
variable (p:Prg)
abbrev _root_.Lp.Prg.aI(i:Nat):Int:=kD (p.lp.b i) (p.lp.rel i)
abbrev _root_.Lp.Prg.c1:Nat:=a6 p.lp.free p.lp.n
abbrev _root_.Lp.Prg.u:Nat:=bC p.lp.rel p.c1 p.lp.m
abbrev _root_.Lp.Prg.w:Nat:=a8 p.lp.rel p.aI p.u p.lp.m
abbrev _root_.Lp.Prg.unit(i:Nat):Nat:=qK p.lp.rel p.aI p.c1 p.u i
def _root_.Lp.Prg.lay:TL:=⟨p.w,p.u,(List.range p.lp.n).map (a6 p.lp.free),(List.range p.lp.n).map (m6 p.lp.free),(List.range p.lp.m).map p.unit,aK (fun i=>(p.aI i:Rat)) p.lp.m⟩
def _root_.Lp.Prg.eh:av:=⟨p.lp.m,p.w,fun i=>Lm p.lay p.lp.n (p.lp.a i) (p.lp.b i) (p.lp.rel i) (eV p.lp.rel p.c1 i) (p.unit i) (p.aI i:Rat),fun _=>0,p.unit⟩
end
end Go.aq
namespace Go.aq
theorem vO{H:Heap}{gv g:Nat}{e:Ent}{v:Value}(h:cell H ⟨gv,0,none⟩=some v)(bo:gv≠g):cell (ins H g e) ⟨gv,0,none⟩=some v:=by
 simp only[cell,bg _ _ bo]at h⊢;exact h
theorem sN(z:Int):∀u,u∈[Value.int .i64 z]→u.oneCell'=true:=fun u hu=>by rw[List.mem_singleton]at hu;rw[hu];rfl
theorem ints_set{f:Nat→Int}{m i:Nat}{z:Int}:(ints f m).set i (.int .i64 z)=ints (fun j=>if j=i then z else f j) m:=by
 apply List.ext_getElem?
 intro j
 by_cases hj:j<m
 ·by_cases e:j=i
  ·subst e
   rw[List.getElem?_set_self (by rw[BY];exact hj),vL hj,if_pos rfl]
  ·rw[List.getElem?_set_ne (fun e'=>e e'.symm),vL hj,vL hj,if_neg e]
 ·rw[List.getElem?_eq_none (by rw[List.length_set,BY];omega),List.getElem?_eq_none (by rw[BY];omega)]
theorem Qk{f g:Nat→Int}{m:Nat}(h:∀j,j<m→f j=g j):ints f m=ints g m:=by
 unfold ints
 apply List.map_congr_left
 intro j hj
 rw[h j (List.mem_range.1 hj)]
theorem aQ.row{N:Nat}{H:Heap}{v:Value}{l:List (List Rat×Int×Rat)}(h:aQ (fK N) 5 H v l):∃A c xs,v = .slice A l.length c∧Rd H A xs∧∀(i:Nat)(r:List Rat×Int×Rat),l[i]? = some r→∃A0 c0 f A1 m1 c1 A2 m2 c2,fK N H [.slice A0 r.1.length c0,.int .i64 r.2.1,.bool f,.slice A1 m1 c1,.slice A2 m2 c2] r∧∀(j:Nat)(u:Value),[.slice A0 r.1.length c0,.int .i64 r.2.1,.bool f,.slice A1 m1 c1,.slice A2 m2 c2][j]? = some u→xs[i*5+j]? = some u:=by
 obtain⟨A,c,xs,h1,_,h3,h4⟩:=h
 refine⟨A,c,xs,h1,h3,fun i r hr=> ?_⟩
 obtain⟨vs,_,h5,h6⟩:=h4.get hr
 obtain⟨A0,c0,k,f,A1,m1,c1,A2,m2,c2,rfl,rfl⟩:=h5.cells
 exact⟨A0,c0,f,A1,m1,c1,A2,m2,c2,h5,h6⟩
theorem fK.bound{N:Nat}{H:Heap}{r:List Rat×Int×Rat}{v0:Value}{f:Bool}{u w:Value}(h:fK N H [v0,.int .i64 r.2.1,.bool f,u,w] r):cT H (.agg #[.bool f,u,w]) r.2.2 N:=by
 obtain⟨c,f',u',w',h1,_,h3⟩:=h
 simp only[List.cons.injEq,Value.bool.injEq,and_true,true_and]at h1
 obtain⟨rfl,rfl,rfl,rfl⟩:=h1
 exact h3
end Go.aq
namespace Go.aq
def aw(v:Value):List Nat:=match v.ownBlock with | some q=>[q] | none=>[]
theorem cF{v:Value}{q:Nat}:q∈aw v↔v.ownBlock=some q:=by
 unfold aw
 cases h:v.ownBlock with
 | none=>simp
 | some q'=>simp;exact eq_comm
theorem ag2{H H':Heap}{gs:List Nat}{v:Value}{e sz n:Nat}{xs:List Value}(h:Kept (aw v++gs) H H')(ho:bR (rem H gs) v e sz n xs):bR (rem H' gs) v e sz n xs∧Heap.le (rem H gs) (rem H' gs)∧∀q,q∈gs→H' q=H q:=by
 have hs:∀q,q∈aw v++gs→H' q=H q:=h.same
 have hv:=ho.lift.2
 refine⟨ho.same fun q hq=> ?_,fun q en hq=> ?_,fun q hq=>hs q (List.mem_append_right _ hq)⟩
 ·have:¬q∈gs:=fun hm=>hv q hm hq
  rw[bL this,bL this,hs q (List.mem_append_left _ (cF.2 hq))]
 ·by_cases hb:q∈aw v
  ·by_cases hm:q∈gs
   ·rw[rem_in hm]at hq;cases hq
   ·rw[bL hm]at hq
    exact⟨en,by rw[bL hm,hs q (List.mem_append_left _ hb)];exact hq,.refl en⟩
  ·by_cases hm:q∈gs
   ·rw[rem_in hm]at hq;cases hq
   ·have hn:¬q∈aw v++gs:=fun h=>by
     rcases List.mem_append.1 h with h | h
     ·exact hb h
     ·exact hm h
    obtain⟨e',h1,h2⟩:=h.le q en (by rw[bL hn];rwa [bL hm]at hq)
    exact⟨e',by rw[bL hm];rwa [bL hn]at h1,h2⟩
theorem ag3{H:Heap}{gs:List Nat}{v:Value}{e sz n:Nat}{xs:List Value}(bo:∀q,q∈gs→H q≠none)(ho:bR (rem H gs) v e sz n xs):∀q,q∈aw v++gs→H q≠none:=fun q hq=>by
 rcases List.mem_append.1 hq with h | h
 ·obtain⟨en,he⟩:=ho.lift.1.block (cF.1 h)
  rw[he];simp
 ·exact bo q h
theorem Qm{K:Heap}{v:Value}{e sz n:Nat}{xs:List Value}(h:bR K v e sz n xs)(hn:0<n):∃q c,v = .slice (some ⟨q,0,none⟩) n c∧K q=some ⟨xs,c*sz,e,true⟩:=by
 rcases h.2 with ⟨_,h2⟩ | ⟨g,cap,h1,h2,_⟩
 ·omega
 ·exact⟨g,cap,h1,h2⟩
theorem ag4{H H':Heap}{gs b:List Nat}(h:Heap.le H (rem H' gs))(hb:∀q,q∈b→H q=none):Heap.le H (rem H' (b++gs)):=fun q e hq=>by
 obtain⟨e',h1,h2⟩:=h q e hq
 have hm:¬q∈gs:=fun hm=>by rw[rem_in hm]at h1;cases h1
 refine⟨e',?_,h2⟩
 rw[bL (fun h3=>by
  rcases List.mem_append.1 h3 with h3 | h3
  ·rw[hb q h3]at hq;cases hq
  ·exact hm h3)]
 rwa [bL hm]at h1
theorem le_none{H K:Heap}(h:Heap.le H K){q:Nat}(hq:K q=none):H q=none:=by
 cases hh:H q with
 | none=>rfl
 | some e=>(obtain⟨e',h1,_⟩:=h q e hh;rw[hq]at h1;cases h1)
theorem lX.aw{K0 K H:Heap}{kP v:Value}{e sz n:Nat}{xs:List Value}(h:lX K0 kP e sz n xs v K)(hl:Heap.le H K0)(hb:∀q,q∈aq.aw kP→H q=none):∀q,q∈aq.aw v→H q=none:=fun q hq=>by
 rcases h.new q (cF.1 hq)with h1 | h1
 ·exact hb q (cF.2 h1)
 ·exact le_none hl h1
end Go.aq
namespace Go.aq
open Go.Proofs Num Lp
def fq(rg:List (Nat×Nat))(bv:Value)(gk g:Nat):List Nat:=rg.map (·.1)++(aw bv ++ [gk,g])
def m8(rg:List (Nat×Nat))(gk g:Nat):List Nat:=rg.map (·.1) ++ [gk,g]
def m9(rv:Value)(rg:List (Nat×Nat))(bv:Value)(gk:Nat):List Nat:=aw rv++(rg.map (·.1)++(aw bv ++ [gk]))
def Qn(w:Nat)(p:Nat×Nat):Value:= .slice (some ⟨p.1,0,none⟩) (w+1) p.2
theorem fS{rg:List (Nat×Nat)}{bv:Value}{gk g q:Nat}:q∈fq rg bv gk g↔q∈rg.map (·.1)∨q∈aw bv∨q=gk∨q=g:=by
 unfold fq;simp only[List.mem_append,List.mem_cons,List.not_mem_nil,or_false]
theorem qL{rg:List (Nat×Nat)}{gk g q:Nat}:q∈m8 rg gk g↔q∈rg.map (·.1)∨q=gk∨q=g:=by
 unfold m8;simp only[List.mem_append,List.mem_cons,List.not_mem_nil,or_false]
theorem uh{rg:List (Nat×Nat)}{rv bv:Value}{gk q:Nat}:q∈m9 rv rg bv gk↔q∈aw rv∨q∈rg.map (·.1)∨q∈aw bv∨q=gk:=by
 unfold m9;simp only[List.mem_append,List.mem_cons,List.not_mem_nil,or_false]
structure js(K:Heap)(g gk w:Nat)(A:Nat→Nat→Rat)(unit:Nat→Nat)(H:Heap)(rv:Value)(k:Nat)(hd:List Value)(bv:Value)(kb:Nat)(rg:List (Nat×Nat)):Prop where
 ne:∀q,q∈fq rg bv gk g→H q≠none
 nd:(fq rg bv gk g).Nodup
 le:Heap.le K (rem H (fq rg bv gk g))
 zx:bR (rem H (fq rg bv gk g)) rv 117 1 k hd
 LD:∀q,q∈aw rv→K q=none
 Hs:bR H bv 3 1 kb (ints (fun j=>(unit j:Int)) kb)
 row:∀(j:Nat)(p:Nat×Nat),rg[j]? = some p→lq (rem H (fq rg bv gk g)) H p.1 (aK (A j) (w+1))
section
variable {K:Heap} {g gk w:Nat} {A:Nat→Nat→Rat} {unit:Nat→Nat} {H H2:Heap} {rv:Value} {k:Nat} {hd:List Value} {bv:Value} {kb:Nat} {rg:List (Nat×Nat)}
theorem js.Ht(h:js K g gk w A unit H rv k hd bv kb rg):∀q,q∈aw rv→¬q∈fq rg bv gk g∧H q≠none:=fun q hq=>by
 have h1:=h.zx.lift
 refine⟨fun hm=>h1.2 q hm (cF.1 hq),?_⟩
 obtain⟨e,he⟩:=h1.1.block (cF.1 hq)
 rw[he];simp
theorem js.neR(h:js K g gk w A unit H rv k hd bv kb rg):∀q,q∈m9 rv rg bv gk→H q≠none:=fun q hq=>by
 rcases uh.1 hq with h1 | h1 | h1 | h1
 ·exact(h.Ht q h1).2
 ·exact h.ne q (fS.2 (.inl h1))
 ·exact h.ne q (fS.2 (.inr (.inl h1)))
 ·exact h.ne q (fS.2 (.inr (.inr (.inl h1))))
theorem Hu{rg:List (Nat×Nat)}{bv:Value}{gk g:Nat}(h:(fq rg bv gk g).Nodup):¬g∈rg.map (·.1)∧¬g∈aw bv∧gk≠g∧(∀q,q∈aw bv→¬q∈rg.map (·.1)∧q≠gk)∧¬gk∈rg.map (·.1):=by
 unfold fq at h
 rw[List.nodup_append,List.nodup_append]at h
 obtain⟨_,⟨_,h2,h3⟩,h4⟩:=h
 have h5:gk≠g:=by
  rw[List.nodup_cons]at h2
  exact fun e=>h2.1 (by rw[e];exact List.mem_singleton.2 rfl)
 refine⟨fun hm=>h4 g hm g (by simp) rfl,fun hm=>h3 g hm g (by simp) rfl,h5,fun q hq=>⟨fun hm=>h4 q hm q (List.mem_append_left _ hq) rfl,fun e=>h3 q hq gk (by simp) e⟩,fun hm=>h4 gk hm gk (by simp) rfl⟩
theorem js.gR(h:js K g gk w A unit H rv k hd bv kb rg):¬g∈m9 rv rg bv gk:=fun hm=>by
 obtain⟨n1,n2,n3,_⟩:=Hu h.nd
 rcases uh.1 hm with h1 | h1 | h1 | h1
 ·exact(h.Ht g h1).1 (fS.2 (.inr (.inr (.inr rfl))))
 ·exact n1 h1
 ·exact n2 h1
 ·exact n3 h1.symm
theorem js.ag5(h:js K g gk w A unit H rv k hd bv kb rg){z c:Nat}{xs:List Value}{sz:Nat}(hs:∀q,q∈m9 rv rg bv gk→H2 q=H q)(kA:fp [g] (rem H (m9 rv rg bv gk)) (rem H2 (m9 rv rg bv gk)) z xs sz 121)
  (ix:bA (bS (rem (rem H2 (m9 rv rg bv gk)) (z :: [g]))) 3 xs (aK (A rg.length) (w+1))):js K g gk w A unit H2 rv k hd bv kb (rg ++ [(z,c)])∧H2 g=H g∧H2 gk=H gk:=by
 have X6:=h.gR
 have ep:H2 g=H g:=by
  have:=kA.same g (List.mem_singleton.2 rfl)
  rwa [bL X6,bL X6]at this
 have X7:H2 gk=H gk:=hs gk (uh.2 (.inr (.inr (.inr rfl))))
 have X8:¬z∈m9 rv rg bv gk:=fun hm=>by have:=kA.aw;rw[rem_in hm]at this;cases this
 have pG:H2 z=some ⟨xs,sz,121,true⟩:=by have:=kA.aw;rwa [bL X8]at this
 have jd:H z=none:=by have:=kA.zn;rwa [bL X8]at this
 have nN:z≠g:=fun e=>kA.zg (List.mem_singleton.2 e)
 have X9:¬z∈fq rg bv gk g:=fun hm=>h.ne z hm jd
 have og:∀q,q∈fq (rg ++ [(z,c)]) bv gk g↔q=z∨q∈fq rg bv gk g:=fun q=>by
  rw[fS,fS,List.map_append,List.mem_append]
  simp only[List.map_cons,List.map_nil,List.mem_singleton]
  constructor
  ·rintro((h | h) | h | h | h)
   ·exact .inr (.inl h)
   ·exact .inl h
   ·exact .inr (.inr (.inl h))
   ·exact .inr (.inr (.inr (.inl h)))
   ·exact .inr (.inr (.inr (.inr h)))
  ·rintro(h | h | h | h | h)
   ·exact .inl (.inr h)
   ·exact .inl (.inl h)
   ·exact .inr (.inl h)
   ·exact .inr (.inr (.inl h))
   ·exact .inr (.inr (.inr h))
 have Qo:∀q,q∈fq rg bv gk g→H2 q=H q:=fun q hq=>by
  rcases fS.1 hq with h1 | h1 | h1 | h1
  ·exact hs q (uh.2 (.inr (.inl h1)))
  ·exact hs q (uh.2 (.inr (.inr (.inl h1))))
  ·rw[h1];exact X7
  ·rw[h1];exact ep
 have ka:∀q,q∈aw rv→H2 q=H q:=fun q hq=>hs q (uh.2 (.inl hq))
 have hle:Heap.le (rem H (fq rg bv gk g)) (rem H2 (fq (rg ++ [(z,c)]) bv gk g)):=fun q e hq=>by
  have hm:¬q∈fq rg bv gk g:=fun hm=>by rw[rem_in hm]at hq;cases hq
  rw[bL hm]at hq
  have LF:q≠z:=fun e'=>by rw[e',jd]at hq;cases hq
  have jo:¬q∈fq (rg ++ [(z,c)]) bv gk g:=fun jo=>by
   rcases(og q).1 jo with h1 | h1
   ·exact LF h1
   ·exact hm h1
  by_cases hb:q∈aw rv
  ·exact⟨e,by rw[bL jo,ka q hb];exact hq,.refl e⟩
  ·have hR:¬q∈m9 rv rg bv gk:=fun hR=>by
    rcases uh.1 hR with h1 | h1 | h1 | h1
    ·exact hb h1
    ·exact hm (fS.2 (.inl h1))
    ·exact hm (fS.2 (.inr (.inl h1)))
    ·exact hm (fS.2 (.inr (.inr (.inl h1))))
   have F2:q≠g:=fun e'=>hm (fS.2 (.inr (.inr (.inr e'))))
   obtain⟨e',h1,h2⟩:=kA.le q e (by rw[bL (fun h'=>F2 (List.mem_singleton.1 h')),bL hR];exact hq)
   have ag6:¬q∈z :: [g]:=fun h'=>by
    rcases List.mem_cons.1 h' with h' | h'
    ·exact LF h'
    ·exact F2 (List.mem_singleton.1 h')
   rw[bL ag6,bL hR]at h1
   exact⟨e',by rw[bL jo];exact h1,h2⟩
 have ag7:Heap.le (rem (rem H2 (m9 rv rg bv gk)) (z :: [g])) (rem H2 (fq (rg ++ [(z,c)]) bv gk g)):=fun q e hq=>by
  have h1:¬q∈z :: [g]:=fun h'=>by rw[rem_in h']at hq;cases hq
  rw[bL h1]at hq
  have h2:¬q∈m9 rv rg bv gk:=fun h'=>by rw[rem_in h']at hq;cases hq
  rw[bL h2]at hq
  refine⟨e,?_,.refl e⟩
  rw[bL]
  ·exact hq
  ·intro h3
   rcases(og q).1 h3 with h4 | h4
   ·exact h1 (by rw[h4];exact List.mem_cons_self ..)
   ·rcases fS.1 h4 with h5 | h5 | h5 | h5
    ·exact h2 (uh.2 (.inr (.inl h5)))
    ·exact h2 (uh.2 (.inr (.inr (.inl h5))))
    ·exact h2 (uh.2 (.inr (.inr (.inr h5))))
    ·exact h1 (by rw[h5];exact List.mem_cons_of_mem _ (List.mem_singleton.2 rfl))
 refine⟨⟨fun q hq=> ?_,?_,h.le.trans hle,h.zx.same fun q hq=> ?_,h.LD,h.Hs.same fun q hq=>Qo q (fS.2 (.inr (.inl (cF.2 hq)))),fun j p hp=> ?_⟩,ep,X7⟩
 ·rcases(og q).1 hq with h1 | h1
  ·rw[h1,pG];simp
  ·rw[Qo q h1];exact h.ne q h1
 ·have dV:=h.nd
  unfold fq at dV⊢
  rw[List.map_append,List.append_assoc,List.nodup_append]at *
  refine⟨dV.1,?_,fun a ha b hb=> ?_⟩
  ·simp only[List.map_cons,List.map_nil,List.singleton_append,List.nodup_cons]
   exact⟨fun hm=>X9 (by unfold fq;exact List.mem_append_right _ hm),dV.2.1⟩
  ·simp only[List.map_cons,List.map_nil,List.singleton_append,List.mem_cons]at hb
   rcases hb with hb | hb
   ·intro e
    exact X9 (by unfold fq;rw[←hb,←e];exact List.mem_append_left _ ha)
   ·exact dV.2.2 a ha b (by simpa using hb)
 ·have h1:=h.Ht q (cF.2 hq)
  have LF:q≠z:=fun e=>h1.2 (by rw[e];exact jd)
  rw[bL h1.1,bL (fun h2=>by
   rcases(og q).1 h2 with h3 | h3
   ·exact LF h3
   ·exact h1.1 h3),ka q (cF.2 hq)]
 ·by_cases hj:j<rg.length
  ·rw[List.getElem?_append_left hj]at hp
   exact(h.row j p hp).le hle (Qo _ (fS.2 (.inl (List.mem_map.2 ⟨p,List.mem_of_getElem? hp,rfl⟩))))
  ·rw[List.getElem?_append_right (by omega)]at hp
   have hj0:j-rg.length=0:=by
    have:=(List.getElem?_eq_some_iff.1 hp).1
    simp at this;omega
   rw[hj0]at hp
   simp only[List.getElem?_cons_zero,Option.some.injEq]at hp
   subst hp
   have:j=rg.length:=by omega
   rw[this]
   exact⟨xs,sz,pG,ix.mono fun vs a=>jc _ _ vs a ag7⟩
theorem js.ag8(h:js K g gk w A unit H rv k hd bv kb rg){Hv:Value}{k':Nat}{mL:List Value}(hG:lX (rem H (fq rg bv gk g)) rv 117 1 k' mL Hv (rem H2 (fq rg bv gk g)))(hs:∀q,q∈fq rg bv gk g→q≠g→H2 q=H q)(hg:H2 g≠none):js K g gk w A unit H2 Hv k' mL bv kb rg:=by
 obtain⟨n1,n2,n3,n4,n5⟩:=Hu h.nd
 refine⟨fun q hq=> ?_,h.nd,h.le.trans hG.le,hG.own,hG.aw h.le h.LD,h.Hs.same fun q hq=> ?_,fun j p hp=> ?_⟩
 ·by_cases e:q=g
  ·rw[e];exact hg
  ·rw[hs q hq e];exact h.ne q hq
 ·have:=cF.2 hq
  exact hs q (fS.2 (.inr (.inl this))) (fun e=>n2 (by rw[←e];exact this))
 ·have hm:p.1∈rg.map (·.1):=List.mem_map.2 ⟨p,List.mem_of_getElem? hp,rfl⟩
  exact(h.row j p hp).le hG.le (hs _ (fS.2 (.inl hm)) (fun e=>n1 (by rw[←e];exact hm)))
theorem js.ag9(h:js K g gk w A unit H rv k hd bv kb rg){Hw:Value}(hG:lX (rem H (m8 rg gk g)) bv 3 1 (kb+1) (ints (fun j=>(unit j:Int)) (kb+1)) Hw (rem H2 (m8 rg gk g)))(hs:∀q,q∈m8 rg gk g→q≠g→H2 q=H q)(hg:H2 g≠none):js K g gk w A unit H2 rv k hd Hw (kb+1) rg:=by
 obtain⟨n1,n2,n3,n4,n5⟩:=Hu h.nd
 have Qr:∀q,q∈m8 rg gk g→q∈fq rg bv gk g:=fun q hq=>by
  rcases qL.1 hq with h1 | h1 | h1
  ·exact fS.2 (.inl h1)
  ·exact fS.2 (.inr (.inr (.inl h1)))
  ·exact fS.2 (.inr (.inr (.inr h1)))
 have Ya:∀q,q∈m8 rg gk g→H2 q≠none:=fun q hq=>by
  by_cases e:q=g
  ·rw[e];exact hg
  ·rw[hs q hq e];exact h.ne q (Qr q hq)
 have tj:=hG.own.lift
 have Qs:∀q,q∈aw Hw→¬q∈m8 rg gk g:=fun q hq hm=>tj.2 q hm (cF.1 hq)
 have LG:∀q,q∈aw Hw→q∈aw bv∨H q=none:=fun q hq=>by
  rcases hG.new q (cF.1 hq)with h1 | h1
  ·exact .inl (cF.2 h1)
  ·exact .inr (by rwa [bL (Qs q hq)]at h1)
 have hle:Heap.le (rem H (fq rg bv gk g)) (rem H2 (fq rg Hw gk g)):=fun q e hq=>by
  have hm:¬q∈fq rg bv gk g:=fun hm=>by rw[rem_in hm]at hq;cases hq
  rw[bL hm]at hq
  have hJ:¬q∈m8 rg gk g:=fun h1=>hm (Qr q h1)
  obtain⟨e',h1,h2⟩:=hG.le q e (by rw[bL hJ];exact hq)
  rw[bL hJ]at h1
  refine⟨e',?_,h2⟩
  rw[bL]
  ·exact h1
  ·intro h3
   rcases fS.1 h3 with h4 | h4 | h4
   ·exact hm (fS.2 (.inl h4))
   ·rcases LG q h4 with h5 | h5
    ·exact hm (fS.2 (.inr (.inl h5)))
    ·rw[h5]at hq;cases hq
   ·exact hm (fS.2 (.inr (.inr h4)))
 have aha:bR (rem H (m8 rg gk g)) rv 117 1 k hd:=h.zx.same fun q hq=>by
  have h1:=(h.Ht q (cF.2 hq)).1
  rw[bL h1,bL (fun h2=>h1 (Qr q h2))]
 have vM:BZ bv rv:=fun q h1 h2=>(h.Ht q (cF.2 h2)).1 (fS.2 (.inr (.inl (cF.2 h1))))
 obtain⟨D9,Qt⟩:=hG.keep _ _ _ _ _ aha vM
 refine⟨fun q hq=> ?_,?_,h.le.trans hle,D9.same fun q hq=> ?_,h.LD,tj.1,fun j p hp=> ?_⟩
 ·rcases fS.1 hq with h1 | h1 | h1
  ·exact Ya q (qL.2 (.inl h1))
  ·obtain⟨e,he⟩:=tj.1.block (cF.1 h1)
   rw[he];simp
  ·exact Ya q (qL.2 (.inr h1))
 ·have dV:=h.nd
  unfold fq at dV⊢
  rw[List.nodup_append,List.nodup_append]at *
  refine⟨dV.1,⟨?_,dV.2.1.2.1,fun a ha b hb e=> ?_⟩,fun a ha b hb e=> ?_⟩
  ·unfold aw;split <;> simp
  ·refine Qs a ha (qL.2 (.inr ?_))
   rw[e];simpa using hb
  ·rcases List.mem_append.1 hb with h1 | h1
   ·exact Qs b h1 (qL.2 (.inl (by rw[←e];exact ha)))
   ·exact dV.2.2 a ha b (List.mem_append_right _ h1) e
 ·have h1:¬q∈m8 rg gk g:=fun h1=>D9.lift.2 q h1 hq
  rw[bL h1,bL]
  intro h2
  rcases fS.1 h2 with h3 | h3 | h3
  ·exact h1 (qL.2 (.inl h3))
  ·exact Qt q (cF.1 h3) hq
  ·exact h1 (qL.2 (.inr h3))
 ·have hm:p.1∈rg.map (·.1):=List.mem_map.2 ⟨p,List.mem_of_getElem? hp,rfl⟩
  exact(h.row j p hp).le hle (hs _ (qL.2 (.inl hm)) (fun e=>n1 (by rw[←e];exact hm)))
theorem js.Yb(h:js K g gk w A unit H rv k hd bv kb rg):bR (rem H (m8 rg gk g)) bv 3 1 kb (ints (fun j=>(unit j:Int)) kb):=by
 obtain⟨n1,n2,n3,n4,n5⟩:=Hu h.nd
 refine h.Hs.same fun q hq=> ?_
 have hb:=cF.2 hq
 rw[bL]
 intro h1
 rcases qL.1 h1 with h2 | h2 | h2
 ·exact(n4 q hb).1 h2
 ·exact(n4 q hb).2 h2
 ·exact n2 (by rw[←h2];exact hb)
theorem js.leR(h:js K g gk w A unit H rv k hd bv kb rg):Heap.le K (rem (rem H (m9 rv rg bv gk)) [g]):=fun q e hq=>by
 obtain⟨e',h1,h2⟩:=h.le q e hq
 have hm:¬q∈fq rg bv gk g:=fun hm=>by rw[rem_in hm]at h1;cases h1
 rw[bL hm]at h1
 refine⟨e',?_,h2⟩
 rw[bL (fun h3=>hm (fS.2 (.inr (.inr (.inr (List.mem_singleton.1 h3)))))),bL]
 ·exact h1
 ·intro h3
  rcases uh.1 h3 with h4 | h4 | h4 | h4
  ·rw[h.LD q h4]at hq;cases hq
  ·exact hm (fS.2 (.inl h4))
  ·exact hm (fS.2 (.inr (.inl h4)))
  ·exact hm (fS.2 (.inr (.inr (.inl h4))))
end
end Go.aq
namespace Go.aq
open Go.Proofs Num Lp
section
variable (p:Prg)
theorem zy{j:Nat}(h:j<p.lp.n):p.lay.pF j=a6 p.lp.free j:=by
 simp[TL.pF,Prg.lay,List.getD,h]
theorem Hz{j:Nat}(h:j<p.lp.n):p.lay.mZ j=m6 p.lp.free j:=by
 simp[TL.mZ,Prg.lay,List.getD,h]
theorem mC:p.c1≤p.u:=(sK p.lp.rel p.c1 p.lp.m).2
theorem ft:p.u≤p.w:=(sL p.lp.rel p.aI p.u p.lp.m).2
theorem HA{j:Nat}(h:j<p.lp.n):a6 p.lp.free j<p.c1:=by
 have:=BX (fr:=p.lp.free) h
 have e:p.c1=a6 p.lp.free p.lp.n:=rfl
 omega
theorem HB{j:Nat}(h:j<p.lp.n):m6 p.lp.free j<p.c1:=by
 have:=BX (fr:=p.lp.free) h
 have e:p.c1=a6 p.lp.free p.lp.n:=rfl
 unfold m6
 by_cases hf:p.lp.free j
 ·rw[if_pos hf]at this⊢;omega
 ·rw[if_neg hf];omega
theorem Qu{i:Nat}(h:i<p.lp.m)(hr:p.lp.rel i≠2):(p.c1:Int)≤eV p.lp.rel p.c1 i∧eV p.lp.rel p.c1 i<p.u:=by
 have h1:=Qg (rel:=p.lp.rel) (c:=p.c1) h
 have h2:=(sK p.lp.rel p.c1 i).2
 rw[if_neg hr]at h1
 have e:p.u=bC p.lp.rel p.c1 p.lp.m:=rfl
 unfold eV
 rw[if_neg hr];omega
theorem nO{i:Nat}(h:i<p.lp.m):p.unit i<p.w:=by
 have h3:=ft p
 show qK _ _ _ _ _<_
 unfold qK
 by_cases ho:eY (p.lp.rel i) (p.aI i)=true
 ·rw[if_pos ho]
  have hr:p.lp.rel i≠2:=by
   unfold eY at ho
   rw[decide_eq_true_eq]at ho
   omega
  have:=Qu p h hr
  unfold eV at this
  rw[if_neg hr]at this
  omega
 ·rw[if_neg ho]
  have:=Qh (rel:=p.lp.rel) (sg:=p.aI) (u:=p.u) h
  rw[if_neg ho]at this
  have e:p.w=a8 p.lp.rel p.aI p.u p.lp.m:=rfl
  omega
theorem HC:p.w≤2*p.lp.n+2*p.lp.m:=by
 have h1:=(sL p.lp.rel p.aI p.u p.lp.m).1
 have h2:=(sK p.lp.rel p.c1 p.lp.m).1
 have h3:=Qf p.lp.free p.lp.n
 have e1:p.w=a8 p.lp.rel p.aI p.u p.lp.m:=rfl
 have e2:p.u=bC p.lp.rel p.c1 p.lp.m:=rfl
 have e3:p.c1=a6 p.lp.free p.lp.n:=rfl
 omega
theorem ahb{i:Nat}{r:List Rat×Int×Rat}(h:p.rows[i]? = some r):p.eh.A i=Lm p.lay p.lp.n (fn r.1) r.2.2 r.2.1 (eV p.lp.rel p.c1 i) (p.unit i) (p.aI i:Rat):=by
 show Lm p.lay p.lp.n (fn (p.row i).1) (p.row i).2.2 (p.row i).2.1 _ _ _=_
 rw[Prg.r6 h]
end
theorem js.tab{K H:Heap}{g gk:Nat}{p:Prg}{rv bv pv mv uv sv:Value}{rg:List (Nat×Nat)}(h:js K g gk p.w p.eh.A p.unit H rv p.lp.m (rg.map (Qn p.w)) bv p.lp.m rg)(hl:rg.length=p.lp.m)
  (hg:H g=some ⟨[.int .i64 (p.w:Int),.int .i64 (p.u:Int),pv,mv,uv,sv,rv,.slice none 0 0,bv],9,127,true⟩) (sw:aQ vE 1 K pv p.lay.plus) (vG:aQ j8 1 K mv p.lay.minus) (GO:aQ vE 1 K uv p.lay.j9) (wI:aQ bS 3 K sv p.lay.jP):
  ∃G:TG,Value.pointer (some ⟨g,0,none⟩) = .pointer (some ⟨G.g,0,none⟩)∧dE H G p.lay p.eh∧G.cb = []∧Heap.le K (rem H G.gs):=by
 obtain⟨Ar,cr,rfl⟩:=h.zx.form
 obtain⟨n1,n2,n3,n4,n5⟩:=Hu h.nd
 have dV:=h.nd
 unfold fq at dV
 rw[List.nodup_append,List.nodup_append]at dV
 let G:TG:=⟨g,cr,Ar,pv,mv,uv,sv,.slice none 0 0,bv,rg,[],aw bv⟩
 have og:∀q,q∈G.gs→q∈fq rg bv gk g:=fun q hq=>by
  rcases List.mem_cons.1 hq with h1 | h1
  ·exact fS.2 (.inr (.inr (.inr h1)))
  ·rcases List.mem_append.1 h1 with h2 | h2
   ·cases h2
   ·rcases List.mem_append.1 h2 with h3 | h3
    ·exact fS.2 (.inr (.inl h3))
    ·exact fS.2 (.inl h3)
 have hle:Heap.le (rem H (fq rg bv gk g)) (rem H G.gs):=fun q e hq=>by
  have hm:¬q∈fq rg bv gk g:=fun hm=>by rw[rem_in hm]at hq;cases hq
  rw[bL hm]at hq
  exact⟨e,by rw[bL (fun h'=>hm (og q h'))];exact hq,.refl e⟩
 have hK:=h.le.trans hle
 refine⟨G,rfl,⟨rfl,ft p,hg,?_,hl,⟨_,h.zx.rd.le hle,fun i q hq=> ?_⟩,fun i q hq=>(h.row i q hq).le hle rfl,?_,sw.le my hK,vG.le kS hK,GO.le my hK,wI.le jc hK,fun q hq=>by cases hq⟩,rfl,hK⟩
 ·show (g::([]++(aw bv++rg.map (·.1)))).Nodup
  rw[List.nil_append,List.nodup_cons,List.nodup_append]
  refine⟨fun hm=> ?_,dV.2.1.1,dV.1,fun a ha b hb e=>(n4 a ha).1 (by rw[e];exact hb)⟩
  rcases List.mem_append.1 hm with h1 | h1
  ·exact n2 h1
  ·exact n1 h1
 ·rw[List.getElem?_map,show rg[i]? = some q from hq];rfl
 ·rcases h.Hs.2 with ⟨h1,h2⟩ | ⟨gb,cb,h1,h2,_⟩
  ·refine .inl ⟨h2,?_,h1⟩
   show aw bv = []
   rw[h1];rfl
  ·refine .inr ⟨gb,cb,_,?_,h1,h2⟩
   show aw bv = [gb]
   rw[h1];rfl
theorem js.new{H:Heap}{g gk w:Nat}{A:Nat→Nat→Rat}{unit:Nat→Nat}(bo:∀q,q∈[gk,g]→H q≠none)(h:gk≠g):js (rem H [gk,g]) g gk w A unit H (.slice none 0 0) 0 [] (.slice none 0 0) 0 []:=
 ⟨bo,(by show [gk,g].Nodup;simp[h]),.refl _,kL _ _ _,(fun q hq=>by cases hq),kL _ _ _,(fun j p hp=>by simp at hp)⟩
theorem bR.nums{K K':Heap}{v:Value}{f:Nat→Rat}{k:Nat}{ys:List Value}(h:bR K v 121 3 k ys)(hy:∀K:Heap,bA (bS K) 3 ys (aK f k))(hl:Heap.le K K'):aQ bS 3 K' v (aK f k):=by
 obtain⟨A,c,rfl⟩:=h.form
 refine⟨A,c,_,by rw[bB],?_,h.rd.le hl,hy _⟩
 rw[bB]
 rcases h.2 with ⟨k1,k2⟩ | ⟨g,cap,k1,_,k3,_⟩
 ·omega
 ·cases k1;exact k3
theorem Yc{s:Int}(h:s=1∨s = -1):aN (s:Rat)≤1:=by
 rcases h with h | h <;> subst h <;> decide
theorem B0(A:Option Addr)(k c:Nat):∀u,u∈[Value.slice A k c]→u.oneCell'=true:=fun u hu=>by rw[List.mem_singleton]at hu;rw[hu];rfl
end Go.aq
