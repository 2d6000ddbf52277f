/- Part 3 of the proof: Nat9, Nat10, Nat11, Q, RDat, Rat1, Rat2, Rat3, Eng12, SDat. -/
import Derived.Test.YtdjoookebbbjkaaGreatA02
set_option linter.unusedVariables false
namespace Go.aq
open Go.Proofs Num
theorem Df(H:Heap)(g:Nat)(lo w hi:List Nat)(N:Nat):Rd (ins H g (dH (lo++w++hi) N)) (some ⟨g,lo.length,none⟩) (U w):=fun i v hv=>by
 refine⟨_,rfl,?_⟩
 have bP:i<(U w).length:=(List.getElem?_eq_some_iff.1 hv).1
 have e:(⟨g,lo.length,none⟩:Addr).add i=⟨g,lo.length+i,none⟩:=by
  unfold Addr.add;split
  ·rename_i e0;rw[e0,Nat.add_zero]
  ·rfl
 rw[e]
 simp only[cell,bC,dH]
 rw[Kd,Kd,List.append_assoc,List.getElem?_append_right (by rw[C9];omega),C9,Nat.add_sub_cancel_left,List.getElem?_append_left bP]
 exact hv
theorem Km{H:Heap}{g N k:Nat}{lo w hi:List Nat}{a:Int}{y:Nat}(h:a=y)(hk:k<w.length):ins (ins H g (dH (lo++w++hi) N)) g {dH (lo++w++hi) N with xs:=aL (dH (lo++w++hi) N).xs (lo.length+k*1) [.int .u32 a]}=ins H g (dH (lo++w.set k y++hi) N):=by
 subst h
 rw[nF]
 simp only[dH,aL,Nat.mul_one]
 congr 2
 rw[Of]
 congr 1
 rw[List.append_assoc,List.set_append_right _ _ (by omega),Nat.add_sub_cancel_left,List.set_append_left _ _ hk,List.append_assoc]
theorem Ol{a b:List Nat}{i:Nat}(h:a.drop i=b.drop i):a[i]? = b[i]? :=by
 have:=congrArg (·[0]?) h
 simpa using this
theorem drop_set{a b:List Nat}{i y:Nat}(h:a.drop i=b.drop i):(a.set i y).drop (i+1)=b.drop (i+1):=by
 rw[List.drop_set_of_lt (Nat.lt_succ_self _)]
 have:=congrArg (List.drop 1) h
 simpa [List.drop_drop]using this
theorem aeX{H:Heap}{g N:Nat}{lo w hi b:List Nat}{c c' top:Nat}{A':Option Addr}(hg:H g=none)(hr:Rd H A' (U b))(pJ:w.length=b.length+1)(dg:2≤b.length)(Fe:(b.length:Int)≤8796093022208)(yM:Lt w)(dO:Lt b)(Dd:b[b.length-1]? = some top)(Om:0<top)(hq:val w<B*val b):
 Fn Tryz.prog 169 #[.slice (some ⟨g,lo.length,none⟩) (b.length+1) c,.slice A' b.length c'] (ins H g (dH (lo++w++hi) N)) (fun v H'=>∃w',H'=ins H g (dH (lo++w'++hi) N)∧w'.length=w.length∧Lt w'∧val w'=val w%val b∧v = .int .u32 ((val w/val b:Nat):Int)):=by
 obtain⟨k,hk⟩:∃k,b.length=k+2:=⟨b.length-2,by omega⟩
 have fJ:=fun e=>hr.le (Heap.bI (g:=g) e hg)
 have qw:((b.length:Int)-1).toNat=k+1:=by omega
 have tJ:((b.length:Int)-2).toNat=k:=by omega
 rw[show b.length-1=k+1 by omega]at Dd
 obtain⟨next,FW⟩:∃x,b[k]? = some x:=⟨_,List.getElem?_eq_getElem (by omega)⟩
 obtain⟨u2,fS⟩:∃x,w[k]? = some x:=⟨_,List.getElem?_eq_getElem (by omega)⟩
 obtain⟨u1,eS⟩:∃x,w[k+1]? = some x:=⟨_,List.getElem?_eq_getElem (by omega)⟩
 obtain⟨un,pK⟩:∃x,w[b.length]? = some x:=⟨_,List.getElem?_eq_getElem (by omega)⟩
 have On:=dO.get Dd
 have Vq:=dO.get FW
 have aeY:=yM.get fS
 have aeZ:=yM.get eS
 have ae0:=yM.get pK
 have hV:=aeR hk FW Dd
 have hW:=aeQ (by omega) fS eS (by rw[←hk];exact pK)
 have il:=De dO (k:=k) (by omega)
 have ae1:=De yM (k:=k) (by omega)
 have ae2:=aeN hV hW il Vq hq
 have ae3:=vu dO
 have vA:0<val b:=by
  rcases Nat.eq_zero_or_pos (val b)with e | e
  ·rw[e,Nat.mul_zero]at hq;omega
  ·exact e
 have vB:val w/val b<B:=Nat.div_lt_of_lt_mul (by rwa [Nat.mul_comm]at hq)
 obtain⟨q,AS⟩:∃q,q=val w/val b:=⟨_,rfl⟩
 rw[←AS]at vB⊢
 have Vr:val w=val (w.take b.length)+B^b.length*un:=by rw[←kV pK,List.take_of_length_le (by omega)]
 have hB:=ck
 rw[ck]at On Vq aeY aeZ ae0;refine aY (args:=[_,_]) Tryz.func169 rfl rfl Tryz.ntmps169 rfl rfl fun w0=> ?_;refine ah [0,1] rfl ?_;refine ae (aa 1 rfl (ab [0,1] ?_));refine ae (aa 3 rfl (ab [0,1,5] ?_));refine bN .bK [0,1,2,3,4,5,6,7,8,9,10,11,12,13] follows (by kernel_rfl) ?_;refine aa 2 rfl (cQ rfl rfl ⟨by omega,by omega⟩ (aS ag rfl rfl rfl rfl rfl (fJ _) (by rw[qw];exact dC Dd) (by omega) (by omega) fun _=> ?_));refine dr ag rfl rfl rfl ⟨by omega,by omega⟩ (aa 2 rfl (cQ rfl rfl ⟨by omega,by omega⟩ (aS ag rfl rfl rfl rfl rfl (fJ _) (by rw[tJ];exact dC FW) (by omega) (by omega) fun _=> ?_)));refine dr ag rfl rfl rfl ⟨by omega,by omega⟩ (aa 2 rfl (ab [0,1,5,6,7] ?_));refine bN .bK [0,1,2,3,4,5,6,7,8,9,10,11,12,13] follows (by kernel_rfl) ?_;refine aa 2 rfl (aS ag rfl rfl rfl rfl rfl (Df _ _ _ _ _ _) (dC pK) (by omega) (by omega) fun _=>(dr ag rfl rfl rfl ⟨by omega,by omega⟩ (gZ rfl rfl ⟨by omega,by omega⟩ (aa 2 rfl (cQ rfl rfl ⟨by omega,by omega⟩ (aS ag rfl rfl rfl rfl rfl (Df _ _ _ _ _ _) (by rw[qw];exact dC eS) (by omega) (by omega) fun _=> ?_))))))
 refine dr ag rfl rfl rfl ⟨by omega,by omega⟩ (aF rfl rfl ⟨by omega,by omega⟩ (aa 1 rfl (ab [0,1,5,6,7,8] ?_)));have ql:0≤((un:Int)*1000000000+(u1:Int))/(top:Int):=Int.ediv_nonneg (by omega) (by omega);have mX:((un:Int)*1000000000+(u1:Int))/(top:Int)≤(un:Int)*1000000000+(u1:Int):=Int.ediv_le_self _ (by omega);refine bN .bK [0,1,2,3,4,5,6,7] follows (by kernel_rfl) ?_;refine aa 2 rfl (lS rfl rfl (by omega) (by omega) ⟨by omega,by omega⟩ (aa 2 rfl (mT rfl rfl (by omega) (by omega) (aa 2 rfl (ab [0,1,5,6,7,9,10] ?_)))));refine kT (fun(bJ:Nat)=>put (put (put (put (emp) 0 (.val (.slice (some ⟨g,lo.length,none⟩) (b.length+1) c))) 1 (.val (.slice A' b.length c'))) 5 (.val (.int .i64 (b.length:Int)))) 9 (.val (.int .u64 (bJ:Int)))) (fun(bJ:Nat) H'=>H'=ins H g (dH (lo++w++hi) N)∧q≤bJ∧bJ≤q+1∧bJ<1000000000) ?_ ?_
 ·
  refine aE ?_
  refine fX (fun(bJ:Nat)(rest:Nat)=>bJ) (fun(bJ:Nat)(rest:Nat)=>put (put (put (put (put (put (put (emp) 0 (.val (.slice (some ⟨g,lo.length,none⟩) (b.length+1) c))) 1 (.val (.slice A' b.length c'))) 5 (.val (.int .i64 (b.length:Int)))) 6 (.val (.int .u64 (top:Int)))) 7 (.val (.int .u64 (next:Int)))) 9 (.val (.int .u64 (bJ:Int)))) 10 (.val (.int .u64 (rest:Int)))) (fun(bJ:Nat)(rest:Nat) H'=>H'=ins H g (dH (lo++w++hi) N)∧bJ*top+rest=un*B+u1∧q≤bJ∧bJ≤un*1000000000+u1∧rest≤2000000000) ((un*1000000000+u1)/top) ((un*1000000000+u1)%top) (⟨rfl,by rw[ck,Nat.mul_comm];exact Nat.div_add_mod _ _,by
   have h1:=Nat.div_add_mod (un*B+u1) top;have h2:=Nat.mod_lt (un*B+u1) Om
   have h3:val w<((un*B+u1)/top+1)*val b:=by
    have e1:B^k*(B*(un*B+u1))+B^k*B≤B^k*(B*(((un*B+u1)/top+1)*top)):=by
     rw[←Nat.mul_add];refine Nat.mul_le_mul_left _ ?_;rw[←Nat.mul_succ];refine Nat.mul_le_mul_left _ ?_;rw[Nat.add_mul,Nat.one_mul,Nat.mul_comm _ top];omega
    have e2:((un*B+u1)/top+1)*(B^k*(B*top))≤((un*B+u1)/top+1)*val b:=Nat.mul_le_mul_left _ (by rw[hV,Nat.mul_add (B^k)];omega)
    have e3:((un*B+u1)/top+1)*(B^k*(B*top))=B^k*(B*(((un*B+u1)/top+1)*top)):=by rw[Nat.mul_left_comm _ (B^k),Nat.mul_left_comm _ B]
    have e4:val w<B^k*(B*(un*B+u1))+B^k*B:=by
     have:B^k*(u2+1)≤B^k*B:=Nat.mul_le_mul_left _ (by omega);rw[hW,Nat.mul_add (B^k)];rw[Nat.mul_add (B^k)]at this;omega
    omega
   have h4:=Oi AS h3
   rw[ck]at h4;omega,Nat.div_le_self _ _,by have:=Nat.mod_lt (un*1000000000+u1) Om;omega⟩) ar ?_
  rintro bJ rest H1 ⟨rfl,eu,FZ,hgu,yL⟩;refine ao ?_
  by_cases hrB:rest<1000000000
  by_cases Kl:bJ<1000000000
  ·
   skip
   refine ae (aa 1 rfl (aG true rfl rfl (je (by omega)) (aa 2 rfl (aG false rfl rfl (pE (by omega)) (vr 3 ?_)))));have hgn:bJ*next≤999999999*999999999:=Nat.mul_le_mul (by omega) (by omega)
   have amN:(bJ:Int)*(next:Int)=((bJ*next:Nat):Int):=by simp
   refine gZ rfl rfl ⟨by omega,by omega⟩ (aa 1 rfl (gZ rfl rfl ⟨by omega,by omega⟩ (aa 2 rfl (cQ rfl rfl ⟨by omega,by omega⟩ (aS ag rfl rfl rfl rfl rfl (Df _ _ _ _ _ _) (by rw[tJ];exact dC fS) (by omega) (by omega) fun _=> ?_)))));refine dr ag rfl rfl rfl ⟨by omega,by omega⟩ (aF rfl rfl ⟨by omega,by omega⟩ (aa 3 rfl (ab [0,1,5,6,7,9,10,71] ?_)));refine aD rfl (fun hb=> ?_) (fun hb=> ?_)
   ·
    have hb:rest*1000000000+u2<bJ*next:=by simp at hb;omega
    have Vs:=Oi AS (aeL hV hW ae1 eu (by rw[ck];omega));refine aw (ah [0,1,5,6,7,9,10] rfl ?_);refine aE (ae (aa 1 rfl (cQ rfl rfl ⟨by omega,by omega⟩ (aa 1 rfl (ab [0,1,5,6,7,9,10] ?_)))));refine aA rfl (aa 2 rfl (aF rfl rfl ⟨by omega,by omega⟩ (aa 1 rfl (au ?_))));exact⟨bJ-1,rest+top,by omega,ar,rfl,Vo eu (by omega),by omega,by omega,by omega⟩
   have hb:bJ*next≤rest*1000000000+u2:=by simp at hb;omega
   refine aU ?_;exact⟨bJ,ar,rfl,FZ,aeP AS vA (aeM hV hW il Om eu (by rw[ck];omega) (by omega)),Kl⟩
  ·
   skip
   refine ae (aa 1 rfl (aG true rfl rfl (je (by omega)) (aa 2 rfl (aG true rfl rfl (lT (by omega)) (aa 16 rfl (ab [0,1,5,6,7,9,10,71] ?_))))));refine cI rfl (aw (ah [0,1,5,6,7,9,10] rfl ?_));refine aE (ae (aa 1 rfl (cQ rfl rfl ⟨by omega,by omega⟩ (aa 1 rfl (ab [0,1,5,6,7,9,10] ?_)))));refine aA rfl (aa 2 rfl (aF rfl rfl ⟨by omega,by omega⟩ (aa 1 rfl (au ?_))));exact⟨bJ-1,rest+top,by omega,ar,rfl,Vo eu (by omega),by omega,by omega,by omega⟩
  ·
   skip
   refine ae (aa 1 rfl (aG false rfl rfl (iq (by omega)) (aa 19 rfl (ab [0,1,5,6,7,9,10,71] ?_))));refine dd rfl (aU ?_);have tK:=aeO hV hW il (by omega) ae2 eu (by omega);exact⟨bJ,ar,rfl,FZ,by have:=(Nat.le_div_iff_mul_le vA).2 tK.2;rw[←AS]at this;omega,by omega⟩
 ·
  rintro bJ H2 ⟨rfl,bX,bS,Kl⟩;refine ae (aa 1 rfl (ab [0,1,5,9,11] ?_));refine ao (ae (aa 2 rfl (ab [0,1,5,9,11,77,78] ?_)));refine aE (fD (fun(i:Nat)(w1:List Nat)(br:Nat)=>b.length-i) (fun(i:Nat)(w1:List Nat)(br:Nat)=>put (put (put (put (put (put (put (emp) 0 (.val (.slice (some ⟨g,lo.length,none⟩) (b.length+1) c))) 1 (.val (.slice A' b.length c'))) 5 (.val (.int .i64 (b.length:Int)))) 9 (.val (.int .u64 (bJ:Int)))) 11 (.val (.int .i64 (br:Int)))) 77 (.val (.int .i64 (b.length:Int)))) 78 (.val (.int .i64 (i:Int)))) (fun(i:Nat)(w1:List Nat)(br:Nat) H'=>H'=ins H g (dH (lo++w1++hi) N)∧i≤b.length∧w1.length=w.length∧Lt w1∧w1.drop i=w.drop i∧br≤1000000000∧val (w.take i)+B^i*br=val (w1.take i)+bJ*val (b.take i)) 0 w 0 (⟨rfl,by omega,rfl,yM,rfl,by omega,by simp[val]⟩) ar ?_);rintro i w1 br H1 ⟨rfl,Oo,Kn,F0,kX,vz,hv⟩;refine ae (aa 1 rfl (ab [0,1,5,9,11,77,78,79] ?_));refine ao (aD rfl (fun hb=> ?_) (fun hb=> ?_))
  ·
   have hb:i<b.length:=by simpa using hb
   obtain⟨d,hd⟩:∃d,w[i]? = some d:=⟨_,List.getElem?_eq_getElem (by omega)⟩;obtain⟨p,hp⟩:∃p,b[i]? = some p:=⟨_,List.getElem?_eq_getElem (by omega)⟩;have lU:=yM.get hd;have yI:=dO.get hp;rw[ck]at lU yI
   have ff:w1[i]? = some d:=by rw[Ol kX];exact hd
   have Vt:bJ*p≤999999999*999999999:=Nat.mul_le_mul (by omega) (by omega)
   have amO:(bJ:Int)*(p:Int)=((bJ*p:Nat):Int):=by simp
   refine aw (ah [0,1,5,9,11,77,78] rfl ?_);refine ao (aE (ae (aa 2 rfl (ab [0,1,5,9,11,12,77,78] ?_))));refine bN .bK [0,1,2,3,4,5,6,7,8,9,10,11,12,13,14,15,16,17] follows (by kernel_rfl) ?_;refine aa 2 rfl (aS ag rfl rfl rfl rfl rfl (Df _ _ _ _ _ _) (dC ff) (by omega) (by omega) fun _=>(dr ag rfl rfl rfl ⟨by omega,by omega⟩ (aa 1 rfl (cQ rfl rfl ⟨by omega,by omega⟩ (aa 3 rfl (aS ag rfl rfl rfl rfl rfl (fJ _) (dC hp) (by omega) (by omega) fun _=>(dr ag rfl rfl rfl ⟨by omega,by omega⟩ (gZ rfl rfl ⟨by omega,by omega⟩ (mT rfl rfl (by omega) (by omega) (dr ag rfl rfl rfl ⟨by omega,by omega⟩ (cQ rfl rfl ⟨by omega,by omega⟩ (aa 1 rfl (ab [0,1,5,9,12,13,77,78] ?_)))))))))))));refine ae (aa 3 rfl (aS ag rfl rfl rfl rfl rfl (fJ _) (dC hp) (by omega) (by omega) fun _=>(dr ag rfl rfl rfl ⟨by omega,by omega⟩ (gZ rfl rfl ⟨by omega,by omega⟩ (lS rfl rfl (by omega) (by omega) ⟨by omega,by omega⟩ (dr ag rfl rfl rfl ⟨by omega,by omega⟩ (aa 1 rfl (ab [0,1,5,9,11,12,13,77,78] ?_))))))));refine ao ?_
   refine aE (fI (fun(t:Nat)=>3-t) (fun(t:Nat)=>put (put (put (put (put (put (put (put (put (emp) 0 (.val (.slice (some ⟨g,lo.length,none⟩) (b.length+1) c))) 1 (.val (.slice A' b.length c'))) 5 (.val (.int .i64 (b.length:Int)))) 9 (.val (.int .u64 (bJ:Int)))) 11 (.val (.int .i64 ((bJ*p/1000000000+t:Nat):Int)))) 12 (.val (.int .i64 (i:Int)))) 13 (.val (.int .i64 ((d:Int)-br-((bJ*p%1000000000:Nat):Int)+t*1000000000)))) 77 (.val (.int .i64 (b.length:Int)))) 78 (.val (.int .i64 (i:Int)))) (fun(t:Nat) H'=>H'=ins H g (dH (lo++w1++hi) N)∧t≤2∧(d:Int)-br-((bJ*p%1000000000:Nat):Int)+t*1000000000<1000000000) 0 (⟨rfl,by omega,by omega⟩) ar ?_);rintro t H1 ⟨rfl,ht,hsB⟩;refine ao (ae (aa 2 rfl (ab [0,1,5,9,11,12,13,77,78,108] ?_)));refine aD rfl (fun hb=> ?_) (fun hb=> ?_)
   ·
    simp at hb
    refine aw (ah [0,1,5,9,11,12,13,77,78] rfl ?_);refine aE (ae (aa 1 rfl (aF rfl rfl ⟨by omega,by omega⟩ (aa 1 rfl (ab [0,1,5,9,11,12,13,77,78] ?_)))));refine aA rfl (aa 1 rfl (aF rfl rfl ⟨by omega,by omega⟩ (aa 1 rfl (au ?_))));exact⟨t+1,by omega,ar,rfl,by omega,by omega⟩
   simp at hb
   refine aU (ah [0,1,5,9,11,12,13,77,78] rfl ?_);refine aA rfl (aa 3 rfl (dr ag rfl rfl rfl ⟨by omega,by omega⟩ ?_));obtain⟨ti,aj,ak⟩:=oz;refine cT (.inl rfl) ag rfl rfl rfl (by omega) (by omega) (bC _ _ _) rfl (by rw[oD];simp;omega) aj ak (fun _=>rfl) rfl rfl rfl fun _=> ?_;refine au (ah [0,1,5,9,11,77,78] rfl ?_);refine aA rfl (aF rfl rfl ⟨by omega,by omega⟩ (aa 1 rfl (au ?_)));obtain⟨y,hy⟩:∃y:Nat,(y:Int)=(d:Int)-br-((bJ*p%1000000000:Nat):Int)+t*1000000000:=⟨((d:Int)-br-((bJ*p%1000000000:Nat):Int)+t*1000000000).toNat,by omega⟩;have dZ:=FQ (o:=w1.take i) (s:=y) (br':=bJ*p/1000000000+t) (d:=d) (e:=bJ*p) (ta':=val (w.take (i+1))) (tb':=bJ*val (b.take (i+1))) (by simp;omega) hv (by rw[ck];omega) (kV hd) (by rw[kV hp,Nat.mul_add,Nat.mul_left_comm]);rw[←yK (by omega)]at dZ;exact⟨i+1,w1.set i y,bJ*p/1000000000+t,by omega,ar,by rw[Km (y:=y) hy.symm (by rw[Int.toNat_natCast];omega)];rfl,by omega,by simp[Kn],F0.set (by rw[ck];omega),drop_set kX,by omega,dZ⟩
  have hb:b.length≤i:=by simpa using hb
  obtain rfl:i=b.length:=by omega
  rw[List.take_length]at hv
  have gP:w1[b.length]? = some un:=by rw[Ol kX];exact pK
  refine aU (ah [0,1,5,9,11] rfl ?_);refine ae (aa 2 rfl (aS ag rfl rfl rfl rfl rfl (Df _ _ _ _ _ _) (dC gP) (by omega) (by omega) fun _=>(dr ag rfl rfl rfl ⟨by omega,by omega⟩ (aa 1 rfl (cQ rfl rfl ⟨by omega,by omega⟩ (aa 1 rfl (ab [0,1,5,9,14] ?_)))))));refine ao (ae (aa 2 rfl (ab [0,1,5,9,14,127] ?_)));refine aD rfl (fun hb=> ?_) (fun hb=> ?_)
  ·
   have hb:br≤un:=by simp at hb;omega
   obtain⟨iZ,jN⟩:=aeS Vr hv hb AS bX vA;refine ae (aa 3 rfl (dr ag rfl rfl rfl ⟨by omega,by omega⟩ ?_));obtain⟨ti,aj,ak⟩:=oz;refine cT (.inl rfl) ag rfl rfl rfl (by omega) (by omega) (bC _ _ _) rfl (by rw[oD];simp;omega) aj ak (fun _=>rfl) rfl rfl rfl fun _=> ?_;refine ab [9] ?_;refine ae (aa 1 rfl (dr ag rfl rfl rfl ⟨by omega,by omega⟩ (aa 1 rfl (ab [4] ?_))));refine az ⟨.inr rfl,_,.tmp rfl (.nil),?_⟩;refine⟨w1.set b.length (un-br),by rw[Km (y:=un-br) (by omega) (by rw[Int.toNat_natCast];omega)];rfl,by simp[Kn],F0.set (by rw[ck];omega),?_,by rw[←iZ];rfl⟩;rw[←jN,←List.take_length (l:=w1.set b.length (un-br)),List.length_set,Kn,pJ,yK (by omega),rU,List.length_take,Nat.min_eq_left (by omega)]
  have hb:un<br:=by simp at hb;omega
  refine aw (ah [0,1,5,9,14] rfl ?_);refine ae (aa 1 rfl (ab [0,1,5,9,14,15] ?_));refine ao (ae (aa 2 rfl (ab [0,1,5,9,14,15,135,136] ?_)));refine aE (fD (fun(i:Nat)(w2:List Nat)(cr:Nat)=>b.length-i) (fun(i:Nat)(w2:List Nat)(cr:Nat)=>put (put (put (put (put (put (put (put (emp) 0 (.val (.slice (some ⟨g,lo.length,none⟩) (b.length+1) c))) 1 (.val (.slice A' b.length c'))) 5 (.val (.int .i64 (b.length:Int)))) 9 (.val (.int .u64 (bJ:Int)))) 14 (.val (.int .i64 ((un:Int)-br)))) 15 (.val (.int .u32 (cr:Int)))) 135 (.val (.int .i64 (b.length:Int)))) 136 (.val (.int .i64 (i:Int)))) (fun(i:Nat)(w2:List Nat)(cr:Nat) H'=>H'=ins H g (dH (lo++w2++hi) N)∧i≤b.length∧w2.length=w.length∧Lt w2∧w2.drop i=w1.drop i∧cr≤1∧val (w2.take i)+B^i*cr=val (w1.take i)+val (b.take i)) 0 w1 0 (⟨rfl,by omega,Kn,F0,rfl,by omega,by simp[val]⟩) ar ?_);rintro i w2 cr H1 ⟨rfl,amP,Oq,Ot,Vu,qu,dT⟩;refine ae (aa 1 rfl (ab [0,1,5,9,14,15,135,136,137] ?_));refine ao (aD rfl (fun hb=> ?_) (fun hb=> ?_))
  ·
   have hb:i<b.length:=by simpa using hb
   obtain⟨d,hd⟩:∃d,w1[i]? = some d:=⟨_,List.getElem?_eq_getElem (by omega)⟩;obtain⟨p,hp⟩:∃p,b[i]? = some p:=⟨_,List.getElem?_eq_getElem (by omega)⟩;have lU:=F0.get hd;have yI:=dO.get hp;rw[ck]at lU yI
   have j6:w2[i]? = some d:=by rw[Ol Vu];exact hd
   refine aw (ah [0,1,5,9,14,15,135,136] rfl ?_);refine ao (aE (ae (aa 2 rfl (ab [0,1,5,9,14,15,16,135,136] ?_))));refine bN .bK [0,1,2,3,4,5,6,7,8,9,10,11] follows (by kernel_rfl) ?_;refine aa 2 rfl (aS ag rfl rfl rfl rfl rfl (Df _ _ _ _ _ _) (dC j6) (by omega) (by omega) fun _=>(aa 2 rfl (aS ag rfl rfl rfl rfl rfl (fJ _) (dC hp) (by omega) (by omega) fun _=>(aF rfl rfl ⟨by omega,by omega⟩ (aa 1 rfl (aF rfl rfl ⟨by omega,by omega⟩ (aa 1 rfl (ab [0,1,5,9,14,16,17,135,136] ?_))))))));refine ae (aa 1 rfl (lS rfl rfl (by omega) (by omega) ⟨by omega,by omega⟩ (aa 1 rfl (ab [0,1,5,9,14,15,16,17,135,136] ?_))));refine aA rfl (aa 3 rfl (mT rfl rfl (by omega) (by omega) ?_));obtain⟨ti,aj,ak⟩:=oz;refine cT (.inl rfl) ag rfl rfl rfl (by omega) (by omega) (bC _ _ _) rfl (by rw[oD];simp;omega) aj ak (fun _=>rfl) rfl rfl rfl fun _=> ?_;refine au (ah [0,1,5,9,14,15,135,136] rfl ?_);refine aA rfl (aF rfl rfl ⟨by omega,by omega⟩ (aa 1 rfl (au ?_)));have dZ:=C7 (o:=w2.take i) (s:=d+p+cr) (a:=cr) (b:=d+p) (u:=val (w1.take (i+1))+val (b.take (i+1))) (by simp;omega) dT (by omega) (by rw[kV hd,kV hp,Nat.mul_add];omega)
   rw[←yK (by omega)]at dZ;exact⟨i+1,w2.set i ((d+p+cr)%B),(d+p+cr)/B,by omega,ar,by rw[Km (y:=(d+p+cr)%B) (by rw[ck];omega) (by rw[Int.toNat_natCast];omega)];rfl,by omega,by simp[Oq],Ot.set (Nat.mod_lt _ mU),drop_set Vu,by rw[ck];omega,dZ⟩
  have hb:b.length≤i:=by simpa using hb
  obtain rfl:i=b.length:=by omega
  rw[List.take_length]at dT;obtain⟨iZ,jN,yt⟩:=aeT Vr hv (by omega) AS bS vA ae3 (De F0 (by omega)) (De Ot (by omega)) dT;refine aU (ah [0,5,9,14,15] rfl ?_);refine ae (aa 4 rfl (dr ag rfl rfl rfl ⟨by omega,by omega⟩ (aF rfl rfl ⟨by omega,by omega⟩ (dr ag rfl rfl rfl ⟨by omega,by omega⟩ ?_))));obtain⟨ti,aj,ak⟩:=oz;refine cT (.inl rfl) ag rfl rfl rfl (by omega) (by omega) (bC _ _ _) rfl (by rw[oD];simp;omega) aj ak (fun _=>rfl) rfl rfl rfl fun _=> ?_;refine ab [9] ?_;refine ae (aa 1 rfl (cQ rfl rfl ⟨by omega,by omega⟩ (dr ag rfl rfl rfl ⟨by omega,by omega⟩ (aa 1 rfl (ab [4] ?_)))));refine az ⟨.inr rfl,_,.tmp rfl (.nil),?_⟩;refine⟨w2.set b.length 0,by rw[Km (y:=0) (by omega) (by rw[Int.toNat_natCast];omega)];rfl,by simp[Oq],Ot.set (by rw[ck];omega),?_,by rw[show (bJ:Int)-1=(q:Int) by omega];rfl⟩;rw[←yt,←List.take_length (l:=w2.set b.length 0),List.length_set,Oq,pJ,yK (by omega),rU,Nat.mul_zero,Nat.add_zero]
end Go.aq
namespace Go.aq
open Go.Proofs Num
theorem AT{H:Heap}{g g':Nat}{e:Ent}(h:ins H g e g'=none):g'≠g∧H g'=none:=by
 by_cases e0:g'=g
 ·subst e0;rw[bC]at h;cases h
 ·rw[bn _ _ e0]at h;exact⟨e0,h⟩
theorem Ou{y:Nat}(h:0<y):al y≠[]:=fun e=>by
 have:=cU y
 rw[e]at this
 simp[val]at this
 omega
theorem Ov{y:Nat}(h:0<y):B^((al y).length-1)≤y:=by
 have:=(fR y).pos (Ou h)
 rwa [cU]at this
def Vv(H:Heap)(x y:Nat)(v:Value)(H':Heap):Prop:=Heap.le H H'∧∃q r,v = .tuple #[q,r]∧dt H' q (x/y)∧dt H' r (x%y)
theorem Ko{H:Heap}{u v:Value}{x y:Nat}(hx:dt H u x)(hy:dt H v y)(jm:0<y)(hm:((al x).length:Int)<8796093022208):
 Fn Tryz.prog 153 #[u,v] H (Vv H x y):=by
 obtain⟨A,c,rfl,hc,hr⟩:=hx
 obtain⟨A',c',rfl,jA,dS⟩:=hy
 have fY:=(fR x).lt
 have dO:=(fR y).lt
 have ae4:=Ov jm
 have ae5:(al y).length≠0:=fun e=>Ou jm (List.eq_nil_of_length_eq_zero e);refine aY (args:=[_,_]) Tryz.func153 rfl rfl Tryz.ntmps153 rfl rfl fun w0=> ?_;refine ah [0,1] rfl ?_;refine ae (aa 2 rfl (ab [0,1] ?_));refine ao (ae (aa 2 rfl (aB rfl rfl (Ve hr dS (by omega)) ?_)));rintro v1 H1 ⟨e1,rfl⟩;rw[e1];refine aa 1 rfl (ab [0,1,19] ?_);refine aD rfl (fun hb=> ?_) (fun hb=> ?_)
 ·
  have qx:x<y:=by unfold kz at hb;simp at hb;split at hb <;> (try split at hb) <;> simp_all
  refine ae (aa 1 rfl (eD Tryz.underlying98 eL rfl rfl (yG _) (hr) (by rw[C9,Nat.mul_one]) (oC _) (by simp;omega) (by simp;omega) ?_));intro v1 H2 ha;refine aa 2 rfl (ab [4,5] ?_);refine az ⟨.inr rfl,_,.tmp rfl (.tmp rfl (.nil)),?_⟩
  have h1:dt H2 v1 x:=by
   have:=(App.pG (a:=[]) ha rfl rfl).lim
   simpa [dt]using this
  exact⟨ha.le,_,_,rfl,by rw[Nat.div_eq_of_lt qx];exact wF H2,by rw[Nat.mod_eq_of_lt qx];exact h1⟩
 ·
  have qx:y≤x:=by unfold kz at hb;simp at hb;split at hb <;> (try split at hb) <;> simp_all <;> omega
  have hlen:=ml qx;refine aw (ah [0,1] rfl ?_);refine ao (ae (aa 3 rfl (ab [0,1,24] ?_)));refine aD rfl (fun hb=> ?_) (fun hb=> ?_)
  ·
   have hb:(al y).length=1:=by simp at hb;omega
   have rZ:(al y)[0]? = some y:=by
    obtain⟨z,hz⟩:=List.length_eq_one_iff.1 hb;have:=cU y;rw[hz]at this⊢
    simp[val]at this
    simp[this]
   have F2:=dO.get rZ;rw[ck]at F2;refine ae (aa 2 rfl (aS ag rfl rfl rfl rfl rfl (dS) (dC rZ) (by omega) (by omega) fun _=>(dr ag rfl rfl rfl ⟨by omega,by omega⟩ (aB rfl rfl (Vk (l:=al x) ⟨A,c,rfl,hc,hr⟩ fY F2 jm (by omega)) ?_))));rintro v1 H2 ⟨hle,q,rfl,hq⟩;refine vr 1 ?_;rw[cU]at hq⊢;refine aa 4 rfl (ab [6,7] ?_);refine ae (aa 2 rfl (aB rfl rfl (Kh (x:=x%y) (by have:=Nat.mod_lt x jm;omega)) ?_));intro v1 H3 hp;refine aa 2 rfl (ab [4,5] ?_);refine az ⟨.inr rfl,_,.tmp rfl (.tmp rfl (.nil)),?_⟩;exact⟨hle.trans hp.le,_,_,rfl,hq.le hp.le,hp.nat⟩
  have hb:(al y).length≠1:=by simp at hb;omega
  have ia:2≤(al y).length:=by omega
  obtain⟨t,ht⟩:∃t,(al y)[(al y).length-1]? = some t:=⟨_,List.getElem?_eq_getElem (by omega)⟩;have On:=dO.get ht;rw[ck]at On
  have qw:(((al y).length:Int)-1).toNat=(al y).length-1:=by omega
  have hs0:0≤(1000000000:Int)/((t:Int)+1):=Int.ediv_nonneg (by omega) (by omega);have qy:(1000000000:Int)/((t:Int)+1)≤1000000000:=Int.ediv_le_self _ (by omega);obtain⟨sc,AU⟩:∃sc,sc=1000000000/(t+1):=⟨_,rfl⟩
  have ae6:(1000000000:Int)/((t:Int)+1)=(sc:Int):=by rw[AU];simp
  have Dg:0<sc:=by rw[AU];exact Nat.div_pos (by omega) (by omega)
  have ae7:sc*(t+1)≤1000000000:=by rw[AU];exact Nat.div_mul_le_self _ _
  refine aw (ah [0,1] rfl ?_);refine ae (aa 3 rfl (ab [0,1,8] ?_));refine ae (aa 2 rfl (cQ rfl rfl ⟨by omega,by omega⟩ (aS ag rfl rfl rfl rfl rfl (dS) (by rw[qw];exact dC ht) (by omega) (by omega) fun _=> ?_)));refine dr ag rfl rfl rfl ⟨by omega,by omega⟩ (aF rfl rfl ⟨by omega,by omega⟩ (lS rfl rfl (by omega) (by omega) ⟨by omega,by omega⟩ ?_));rw[ae6];refine aa 1 rfl (ab [0,1,8,9] ?_)
  have Kp:0<t:=by
   rcases Nat.eq_zero_or_pos t with e|e
   ·
    exfalso
    have:=(fR y).last t (by rw[List.getLast?_eq_getElem?];exact ht);exact this e
   ·exact e
  have Ow:sc<1000000000:=by
   have:sc*2≤sc*(t+1):=Nat.mul_le_mul_left _ (by omega)
   omega
  have hyV:y*sc<B^(al y).length:=by
   have h1:y<B^((al y).length-1)*(t+1):=by
    have h2:=kV ht;rw[show (al y).length-1+1=(al y).length by omega,List.take_length,cU]at h2;have h3:=De dO (k:=(al y).length-1) (by omega);rw[Nat.mul_add,Nat.mul_one];omega
   have h2:y*sc<B^((al y).length-1)*(t+1)*sc:=Nat.mul_lt_mul_of_pos_right h1 Dg
   have h3:B^((al y).length-1)*(t+1)*sc≤B^((al y).length-1)*B:=by
    rw[Nat.mul_assoc];exact Nat.mul_le_mul_left _ (by rw[Nat.mul_comm,ck];exact ae7)
   rw[←Nat.pow_succ,Nat.succ_eq_add_one,show (al y).length-1+1=(al y).length by omega]at h3
   omega
  refine ae (aa 2 rfl (aB rfl rfl (Vh (l:=al x) ⟨A,c,rfl,hc,hr⟩ fY Ow (by omega)) ?_));rintro v1 H1 ⟨g1,l1,mX,rfl,rfl,ae8,ae9,vC⟩;rw[cU]at vC;refine aa 1 rfl (ab [0,1,8,9,10] ?_);refine ae (aa 2 rfl (aB rfl rfl (Vh (l:=al y) ⟨A',c',rfl,jA,dS.le (Heap.bI _ mX)⟩ dO Ow (by omega)) ?_));rintro v1 H1 ⟨g2,l2,eu,rfl,rfl,amQ,N4,dT⟩;rw[cU]at dT;refine aa 1 rfl (rR ag rfl rfl (.inl ⟨rfl,rfl⟩) (.inr ⟨_,_,rfl,rfl⟩) (by omega) (by omega) ?_);rw[yH];refine aa 1 rfl (ab [0,8,9,10,11] ?_);refine ae (aa 3 rfl (cQ rfl rfl ⟨by omega,by omega⟩ (aF rfl rfl ⟨by omega,by omega⟩ (gO Tryz.underlying98 eL rfl rfl rfl (by omega) (by omega) (by omega) (by omega) ?_))));intro g3 lV;obtain⟨m,eX⟩:∃m,m=(al x).length-(al y).length+1:=⟨_,rfl⟩;rw[show (((al x).length:Int)-((al y).length:Int)+1).toNat=m from by omega,yJ];obtain⟨Vw,afa⟩:=AT eu;obtain⟨AN,afb⟩:=AT lV;obtain⟨Kq,afc⟩:=AT afb
  have dU:∀e e',ins (ins H g2 e) g3 e' g1=none:=fun e e'=>by rw[bn _ _ (Ne.symm Kq),bn _ _ (Ne.symm Vw)];exact mX
  have fZ:∀e,ins H g2 e g3=none:=fun e=>by rw[bn _ _ AN];exact afc
  rw[CO H _ _ (Ne.symm Vw),CO (ins H g2 _) _ _ (Ne.symm Kq)];obtain⟨V,Kr⟩:∃V,V=y*sc:=⟨_,rfl⟩;obtain⟨b,pL⟩:∃b,b=l2.take (al y).length:=⟨_,rfl⟩
  have kB:b.length=(al y).length:=by rw[pL];simp;omega
  have F3:val b=V:=by
   have h1:=FY l2 (k:=(al y).length) (by omega);rw[dT,←pL]at h1
   rcases Nat.eq_zero_or_pos (val (l2.drop (al y).length))with e|e
   ·rw[e,Nat.mul_zero]at h1;omega
   ·
    have:B^(al y).length*1≤B^(al y).length*val (l2.drop (al y).length):=Nat.mul_le_mul_left _ e
    omega
  have Vx:Lt b:=by rw[pL];exact N4.take _
  have vA:0<V:=by rw[Kr];exact Nat.mul_pos jm Dg
  obtain⟨tp,J0⟩:∃tp,b[b.length-1]? = some tp:=⟨_,List.getElem?_eq_getElem (by omega)⟩
  have afd:0<tp:=by
   rcases Nat.eq_zero_or_pos tp with e|e
   ·
    exfalso
    have h2:=kV J0;rw[show b.length-1+1=b.length by omega,List.take_length,e,Nat.mul_zero,F3]at h2;have h3:=De Vx (k:=b.length-1) (by omega);have h4:y*1≤y*sc:=Nat.mul_le_mul_left _ Dg;rw[kB]at h2 h3
    omega
   ·exact e
  refine UP (x':= .val (.slice (some ⟨g2,0,none⟩) b.length ((al y).length+1-0))) 11 rfl (by rw[kB];rfl) ?_;refine aa 1 rfl (ab [0,8,9,10,11,12] ?_);refine ao (ae (aa 3 rfl (cQ rfl rfl ⟨by omega,by omega⟩ (aa 1 rfl (ab [8,9,10,11,12,13] ?_)))));refine aE (fD (fun(k:Nat)(l:List Nat)(o:List Nat)=>k) (fun(k:Nat)(l:List Nat)(o:List Nat)=>put (put (put (put (put (put (emp) 8 (.val (.int .i64 ((al y).length:Int)))) 9 (.val (.int .u64 (sc:Int)))) 10 (.val (.slice (some ⟨g1,0,none⟩) ((al x).length+1) ((al x).length+1)))) 11 (.val (.slice (some ⟨g2,0,none⟩) b.length ((al y).length+1-0)))) 12 (.val (.slice (some ⟨g3,0,none⟩) m m))) 13 (.val (.int .i64 ((k:Int)-1)))) (fun(k:Nat)(l:List Nat)(o:List Nat) H'=>H'=ins (ins (ins H g2 (dH l2 ((al y).length+1))) g3 (dH o m)) g1 (dH l ((al x).length+1))∧k≤m∧l.length=(al x).length+1∧Lt l∧o.length=m∧Lt o∧val (o.drop k)*V*B^k+val l=x*sc∧val (l.drop k)<V) m _ _ (⟨rfl,by omega,ae8,ae9,by simp,Lt.replicate _,by simp[val,vC],by rw[Kr];exact aeV (by omega) vC (by rw[show m+((al y).length-1)=(al x).length by omega];exact C6 x) ae4 Dg⟩) ar ?_);rintro k l o H1 ⟨rfl,hk,tI,bP,dX,eE,hinv,vD⟩;refine ao (ae ?_)
  refine aa 2 rfl (ab [8,9,10,11,12,13,66] ?_);refine aD rfl (fun hb=> ?_) (fun hb=> ?_)
  ·
   have hb:1≤k:=by simp at hb;omega
   obtain⟨k,rfl⟩:∃j,k=j+1:=⟨k-1,by omega⟩
   have gL:(((k+1:Nat):Int)-1).toNat=k:=by omega
   obtain⟨w,Dh⟩:∃w,w=(l.drop k).take ((al y).length+1):=⟨_,rfl⟩
   have pJ:w.length=(al y).length+1:=by rw[Dh];simp;omega
   obtain⟨hwz,nI,Ox⟩:=Vp bP (n:=(al y).length) (by omega) vD (by omega);rw[←Dh,←F3]at Ox
   have afe:Lt w:=by rw[Dh];exact(bP.drop k).take _
   have yM:l=l.take k++w++l.drop (k+(al y).length+1):=by
    rw[Dh,List.append_assoc]
    conv=>lhs;rw[←List.take_append_drop k l,←List.take_append_drop ((al y).length+1) (l.drop k)]
    rw[List.drop_drop]
    rfl
   have Di:(l.take k).length=k:=by simp;omega
   have fJ:Rd (ins (ins H g2 (dH l2 ((al y).length+1))) g3 (dH o m)) (some ⟨g2,0,none⟩) (U b):=by
    rw[pL,FR];exact((Kg H g2 l2 _).le (Heap.bI _ (fZ _))).take _
   refine aw (ah [8,9,10,11,12,13] rfl ?_);refine ao (aE (aA rfl (aa 6 rfl (aF rfl rfl ⟨by omega,by omega⟩ (aF rfl rfl ⟨by omega,by omega⟩ (rR ag rfl rfl (.inr ⟨_,_,rfl,congrArg (fun z=>some (Value.int .i64 z)) (show ((k+1:Nat):Int)-1=((k:Nat):Int) by omega)⟩) (.inr ⟨_,_,rfl,congrArg (fun z=>some (Value.int .i64 z)) (show ((k+1:Nat):Int)-1+((al y).length:Int)+1=((k+(al y).length+1:Nat):Int) by omega)⟩) (by omega) (by omega) (UP (x':= .val (.slice (some ⟨g1,(l.take k).length,none⟩) (b.length+1) ((al x).length+1-k))) 77 rfl (by rw[if_neg (by omega),Option.map_some,iu,Nat.mul_one,Di,show k+(al y).length+1-k=b.length+1 by omega]) ?_)))))));refine aa 1 rfl (aB rfl rfl (by have hF:=aeX (lo:=l.take k) (w:=w) (hi:=l.drop (k+(al y).length+1)) (N:=(al x).length+1) (c:=(al x).length+1-k) (c':=(al y).length+1-0) (dU _ _) fJ (by omega) (by omega) (by omega) afe Vx J0 afd Ox;rw[←yM]at hF;exact hF) ?_);rintro v1 H1 ⟨w',rfl,gE,jE,Oy,rfl⟩;obtain⟨ti,aj,ak⟩:=oz;refine cT (.inl rfl) ag rfl rfl rfl (by omega) (by omega) ((bn _ _ Kq).trans (bC _ _ _)) rfl (by rw[oD];omega) aj ak (fun _=>rfl) rfl rfl rfl fun _=> ?_;refine au ?_
   refine ah [8,9,10,11,12,13] rfl ?_;refine aA rfl (aa 1 rfl (cQ rfl rfl ⟨by omega,by omega⟩ (aa 1 rfl (au ?_))));have dZ:=aeU (q:=val w/V) bP (n:=(al y).length) (by omega) vD (by omega) (by omega) hinv (by rw[←Dh]) (by rw[←Dh,Oy,F3]) (by rw[gE,pJ]);refine⟨k,l.take k++w'++l.drop (k+(al y).length+1),o.set k (val w/V),by omega,ar,?_,by omega,?_,?_,by simp[dX],eE.set ?_,dZ.1,dZ.2⟩
   ·rw[CO _ _ _ (Ne.symm Kq),vy (y:=val w/V) (by rw[F3]),gL]
   ·simp[gE,pJ,tI];omega
   ·exact((bP.take k).append jE).append (bP.drop _)
   ·rw[←F3];exact Nat.div_lt_of_lt_mul (by rw[Nat.mul_comm];exact Ox)
  have hb:k=0:=by simp at hb;omega
  subst hb
  simp only[List.drop_zero,Nat.pow_zero,Nat.mul_one]at hinv vD
  obtain⟨hQ,hR⟩:=aeW (Q:=val o) (R:=val l) (x:=x) (y:=y) (sc:=sc) (by rw[←Kr];exact hinv) (by rw[←Kr];exact vD) Dg;refine aU (ah [9,10,12] rfl ?_);refine ae (aa 1 rfl (aB rfl rfl (Kk (AM _ _ l _ _ tI.symm (Nat.le_refl _)) bP (by omega)) ?_));intro v1 H4 hp;refine aa 1 rfl (aB rfl rfl (Vk hp.nat (fR _).lt Ow Dg (by have:=jd.2 (vu bP);omega)) ?_);rintro v2 H5 ⟨iP,r,rfl,pM⟩;rw[cU,hR]at pM;refine aa 5 rfl (ab [12,14] ?_);refine ae (aa 1 rfl (aB rfl rfl (Kk (((AM _ _ o m m dX.symm (Nat.le_refl _)).le (Heap.bI _ (dU _ _))).le (hp.le.trans iP)) eE (by omega)) ?_));intro v1 H6 oE;refine aa 3 rfl (ab [4,5] ?_);refine az ⟨.inr rfl,_,.tmp rfl (.tmp rfl (.nil)),?_⟩;exact⟨((((Heap.bI _ afa).trans (Heap.bI _ (fZ _))).trans (Heap.bI _ (dU _ _))).trans (hp.le.trans iP)).trans oE.le,_,_,rfl,by rw[←hQ];exact oE.nat,pM.le oE.le⟩
end Go.aq
namespace Go.aq
open Go.Proofs Num
theorem aff{H:Heap}{u v:Value}{x y:Nat}(hx:dt H u x)(hy:dt H v y)(hm:((al x).length:Int)<8796093022208)(bL:((al y).length:Int)<8796093022208):
  Fn Tryz.prog 152 #[u,v] H (mW H (Nat.gcd x y)):=by
 obtain⟨M,hM⟩:∃M,M=max x y:=⟨_,rfl⟩
 have hMl:((al M).length:Int)<8796093022208:=by
  rcases Nat.le_total x y with h | h
  ·rw[hM,Nat.max_eq_right h];exact bL
  ·rw[hM,Nat.max_eq_left h];exact hm
 refine aY (args:=[_,_]) Tryz.func152 rfl rfl Tryz.ntmps152 rfl rfl fun w0=> ?_;refine ah [0,1] rfl ?_;refine ae (aa 1 rfl (ab [0,1] ?_));refine ao (aE (rS (fun(x1:Nat)(y1:Nat)(u:Value)(v:Value)=>y1) (fun(x1:Nat)(y1:Nat)(u:Value)(v:Value)=>put (put (emp) 0 (.val (u))) 1 (.val (v))) (fun(x1:Nat)(y1:Nat)(u:Value)(v:Value) H'=>Heap.le H H'∧dt H' u x1∧dt H' v y1∧Nat.gcd x1 y1=Nat.gcd x y∧x1≤M∧y1≤M) x y u v (⟨.refl _,hx,hy,rfl,by omega,by omega⟩) ar ?_));rintro x1 y1 u v H1 ⟨hle,fK,rZ,hg,hxM,Oz⟩;obtain⟨A,c,rfl,hc,hr⟩:=fK;obtain⟨A',c',rfl,jA,dS⟩:=rZ;have bg:=ml hxM;have cA:=ml Oz;refine ao (ae (aa 3 rfl (ab [0,1,13] ?_)));refine aD rfl (fun hb=> ?_) (fun hb=> ?_)
 ·
  have hb:(al y1).length≠0:=by simp at hb;intro e;simp[List.eq_nil_of_length_eq_zero e]at hb
  have jm:0<y1:=by rcases Nat.eq_zero_or_pos y1 with e | e;· exact absurd (jO.2 e) hb
                   ·exact e
  refine aw (ah [0,1] rfl ?_);refine aE (ao ?_)
  by_cases h2:(al x1).length≤2
  ·
   skip
   refine ae (aa 2 rfl (aG true rfl rfl (rW (by omega)) (aa 5 rfl (ab [0,1,21] ?_))));refine aD rfl (fun hb=> ?_) (fun hb=> ?_)
   ·
    have hb:(al y1).length≤2:=by simp at hb;omega
    have OA:=jd.1 h2;have OB:=jd.1 hb;rw[ck]at OA OB
    simp only[Nat.reducePow]at OA OB
    refine ae (aa 1 rfl (aB rfl rfl (Vf hr h2) ?_));rintro v1 H2 ⟨rfl,rfl⟩;refine aa 5 rfl (ab [1,5] ?_);refine ae (aa 1 rfl (aB rfl rfl (Vf dS hb) ?_));rintro v1 H3 ⟨rfl,rfl⟩;refine aa 5 rfl (ab [5,7] ?_);refine ao (aE (fX (fun(p:Nat)(q:Nat)=>q) (fun(p:Nat)(q:Nat)=>put (put (emp) 5 (.val (.int .u64 (p:Int)))) 7 (.val (.int .u64 (q:Int)))) (fun(p:Nat)(q:Nat) H'=>Heap.le H H'∧Nat.gcd p q=Nat.gcd x y∧p<1000000000000000000∧q<1000000000000000000) x1 y1 (⟨hle,hg,OA,OB⟩) ar ?_));rintro p q H1 ⟨ga,eu,OC,F4⟩;refine ao (ae (aa 2 rfl (ab [5,7,33] ?_)));refine aD rfl (fun hb=> ?_) (fun hb=> ?_)
    ·
     have hb:0<q:=by simp at hb;omega
     refine aw (ah [5,7] rfl ?_);refine aE (eK .bK [0,1,2,3,4,5] follows (by kernel_rfl) ?_);refine aa 3 rfl (mT rfl rfl (by omega) (by omega) (aa 2 rfl (au ?_)));have bP:=Nat.mod_lt p hb;exact⟨q,p%q,bP,ar,ga,by rw[Nat.gcd_comm q,←Nat.gcd_rec,Nat.gcd_comm q];exact eu,F4,by omega⟩
    ·
     have hb:q=0:=by simp at hb;omega
     subst hb;rw[Nat.gcd_zero_right]at eu;refine aU (ah [5] rfl ?_);refine ae (aa 1 rfl (aB rfl rfl (Kh (by omega)) ?_));intro v1 H4 hp;refine aa 1 rfl (ab [4] ?_);refine az ⟨.inr rfl,_,.tmp rfl (.nil),?_⟩;exact⟨ga.trans hp.le,by rw[←eu];exact hp.nat⟩
   ·
    skip
    refine aw (ah [0,1] rfl ?_);refine ae (aa 2 rfl (aB rfl rfl (Ko (x:=x1) (y:=y1) ⟨A,c,rfl,hc,hr⟩ ⟨A',c',rfl,jA,dS⟩ jm (by omega)) ?_));rintro v1 H4 ⟨ga,q,r,rfl,bS,kY⟩;refine aa 5 rfl (ab [1,10] ?_);refine aA rfl (aa 4 rfl (au ?_));have bP:=Nat.mod_lt x1 jm;exact⟨y1,x1%y1,_,_,bP,ar,hle.trans ga,jD.le (l:=al y1) ⟨A',c',rfl,jA,dS⟩ ga,kY,by rw[Nat.gcd_comm y1,←Nat.gcd_rec,Nat.gcd_comm y1];exact hg,Oz,by omega⟩
  ·
   skip
   refine ae (aa 2 rfl (aG false rfl rfl (AL (by omega)) (aa 5 rfl (ab [0,1,21] ?_))));refine dd rfl (aw (ah [0,1] rfl ?_));refine ae (aa 2 rfl (aB rfl rfl (Ko (x:=x1) (y:=y1) ⟨A,c,rfl,hc,hr⟩ ⟨A',c',rfl,jA,dS⟩ jm (by omega)) ?_));rintro v1 H4 ⟨ga,q,r,rfl,bS,kY⟩;refine aa 5 rfl (ab [1,10] ?_);refine aA rfl (aa 4 rfl (au ?_));have bP:=Nat.mod_lt x1 jm;exact⟨y1,x1%y1,_,_,bP,ar,hle.trans ga,jD.le (l:=al y1) ⟨A',c',rfl,jA,dS⟩ ga,kY,by rw[Nat.gcd_comm y1,←Nat.gcd_rec,Nat.gcd_comm y1];exact hg,Oz,by omega⟩
 ·
  have hb:(al y1).length=0:=by simp at hb;simp[hb]
  have jm:y1=0:=jO.1 hb;subst jm;rw[Nat.gcd_zero_right]at hg;refine aU (ah [0] rfl ?_);refine ae (aa 2 rfl (ab [4] ?_));refine az ⟨.inr rfl,_,.tmp rfl (.nil),?_⟩;exact⟨hle,by rw[←hg];exact⟨A,c,rfl,hc,hr⟩⟩
end Go.aq
namespace Num
def sg(neg:Bool)(n:Nat):Int:=if neg then -(n:Int)else n
def cV(neg:Bool)(n d:Nat):Rat:=mkRat (sg neg n) d
theorem OD(f:Bool)(n:Nat):(sg f n).natAbs=n:=by cases f <;> simp[sg]
theorem afg(f:Bool):sg f 0=0:=by cases f <;> rfl
theorem wJ(f:Bool)(d:Nat):cV f 0 d=0:=by simp[cV,afg]
theorem Ks(f:Bool)(n:Nat):cV f n 0=0:=by simp[cV]
theorem AV{f:Bool}{n d:Nat}(hd:0<d):(cV f n d).den=d/Nat.gcd n d:=by
 rw[cV,Rat.den_mkRat,if_neg (by omega),OD,Nat.gcd_comm]
theorem OE{f:Bool}{n d:Nat}(hd:0<d):(cV f n d).num=sg f (n/Nat.gcd n d):=by
 rw[cV,Rat.num_mkRat,if_neg (by omega),OD,Nat.gcd_comm]
 have hdv:Nat.gcd n d∣n:=Nat.gcd_dvd_left n d
 cases f
 ·simp[sg]
 ·simp only[sg,if_true]
  rw[Int.neg_ediv_of_dvd (by exact_mod_cast hdv)]
  simp
theorem Dj{f:Bool}{n d:Nat}(hd:0<d):(cV f n d).num.natAbs=n/Nat.gcd n d:=by rw[OE hd,OD]
theorem F5{f:Bool}{n d:Nat}(hd:0<d)(hn:0<n):decide ((cV f n d).num<0)=f:=by
 rw[OE hd]
 have h1:0<n/Nat.gcd n d:=Nat.div_pos (Nat.le_of_dvd hn (Nat.gcd_dvd_left n d)) (Nat.gcd_pos_of_pos_left _ hn)
 cases f <;> simp[sg] <;> omega
theorem OF{f:Bool}{n d:Nat}(hd:0<d):cV f n d=0↔n=0:=by
 rw[cV,Rat.mkRat_eq_zero (by omega)]
 cases f <;> simp[sg]
theorem afh{f:Bool}{n d:Nat}(hd:0<d)(hn:0<n):cV f n d<0↔f=true:=by
 have h:=F5 (f:=f) hd hn
 rw[←Rat.not_le,←Rat.num_nonneg]
 constructor
 ·intro h1;rw[←h,decide_eq_true_iff];omega
 ·intro h1;rw[h1]at h⊢;have:=of_decide_eq_true h;omega
theorem Vy(f:Bool){n m d e:Nat}(hd:0<d)(he:0<e):cV f n d+cV f m e=cV f (n*e+m*d) (d*e):=by
 rw[cV,cV,Rat.mkRat_add_mkRat _ _ (by omega) (by omega),cV]
 congr 1
 cases f
 ·simp[sg]
 ·simp[sg,Int.neg_add,Int.neg_mul]
theorem OG{f g:Bool}(qz:f≠g){n m d e:Nat}(hd:0<d)(he:0<e)(h:m*d≤n*e):cV f n d+cV g m e=cV f (n*e-m*d) (d*e):=by
 rw[cV,cV,Rat.mkRat_add_mkRat _ _ (by omega) (by omega),cV]
 congr 1
 obtain rfl:g = !f:=by cases f <;> cases g <;> simp at qz⊢
 cases f
 ·simp[sg]
  rw[Int.ofNat_sub h];simp[Int.neg_mul];omega
 ·simp[sg]
  rw[Int.ofNat_sub h];simp[Int.neg_mul];omega
theorem Vz{f g:Bool}(qz:f≠g){n m d e:Nat}(hd:0<d)(he:0<e)(h:n*e≤m*d):cV f n d+cV g m e=cV g (m*d-n*e) (d*e):=by
 rw[Rat.add_comm,OG (Ne.symm qz) he hd h,Nat.mul_comm e d]
theorem OH(f:Bool)(n d:Nat): -cV f n d=cV (!f) n d:=by
 rw[cV,cV,Rat.neg_mkRat]
 cases f <;> simp[sg]
theorem OI(f g:Bool)(n m d e:Nat):cV f n d*cV g m e=cV (f != g) (n*m) (d*e):=by
 rw[cV,cV,Rat.mkRat_mul_mkRat,cV]
 congr 1
 cases f <;> cases g <;> simp[sg,Int.neg_mul,Int.mul_neg]
theorem VA{g:Bool}{m e:Nat}(_hm:0<m):(cV g m e)⁻¹=cV g e m:=by
 rw[cV,cV,←Rat.divInt_ofNat,Rat.inv_divInt,←Rat.divInt_ofNat]
 cases g
 ·rfl
 ·simp only[sg,if_true]
  rw[Rat.divInt_neg']
theorem OJ{f g:Bool}{n m d e:Nat}(hm:0<m):cV f n d/cV g m e=cV (f != g) (n*e) (d*m):=by
 rw[Rat.div_def,VA hm,OI]
theorem afi(n:Int):sg (decide (n<0)) n.natAbs=n:=by
 unfold sg;split
 ·rename_i h;simp at h;omega
 ·rename_i h;simp at h;omega
theorem F6(n:Int):cV (decide (n<0)) n.natAbs 1=(n:Rat):=by
 have:sg (decide (n<0)) n.natAbs=n:=by
  unfold sg;split
  ·rename_i h;simp at h;omega
  ·rename_i h;simp at h;omega
 rw[cV,this]
 exact Rat.mkRat_self (n:Rat)
theorem VB(a b:Int):cV (decide (a<0) != decide (b<0)) a.natAbs b.natAbs=(a:Rat)/(b:Rat):=by
 rcases Nat.eq_zero_or_pos b.natAbs with h | h
 ·rw[h,Ks]
  have:b=0:=by omega
  subst this
  simp[Rat.div_def]
 ·rw[←F6 a,←F6 b,OJ h]
  simp
def eY(q:Rat):Int:=if q<0 then -1 else if q=0 then 0 else 1
def nJ(p q:Rat):Int:=if p<q then -1 else if p=q then 0 else 1
theorem Kt{f:Bool}{n d:Nat}(hd:0<d):eY (cV f n d)=if n=0 then 0 else if f then -1 else 1:=by
 unfold eY
 by_cases hn:n=0
 ·subst hn;rw[wJ];rfl
 ·have h1:=afh (f:=f) hd (by omega:0<n)
  have h2:=OF (f:=f) (n:=n) hd
  cases f
  ·rw[if_neg (by rw[h1];simp),if_neg (by rw[h2];exact hn),if_neg hn];rfl
  ·rw[if_pos (by rw[h1]),if_neg hn];rfl
end Num
namespace Go.aq
open Go.Proofs Num
def r6(H:Heap)(v:Value)(f:Bool)(n d:Nat):Prop:=∃u w,v = .agg #[.bool f,u,w]∧dt H u n∧dt H w d
theorem r6.le{H H':Heap}{v:Value}{f:Bool}{n d:Nat}(h:r6 H v f n d)(hl:Heap.le H H'):r6 H' v f n d:=by
 obtain⟨u,w,h1,h2,h3⟩:=h
 exact⟨u,w,h1,h2.le hl,h3.le hl⟩
def bH(H:Heap)(v:Value)(q:Rat):Prop:=r6 H v (decide (q.num<0)) q.num.natAbs q.den
theorem bH.le{H H':Heap}{v:Value}{q:Rat}(h:bH H v q)(hl:Heap.le H H'):bH H' v q:=r6.le h hl
def cW(H:Heap)(v:Value)(q:Rat)(N:Nat):Prop:=∃f u w l1 l2,v = .agg #[.bool f,u,w]∧jD H u l1∧jD H w l2∧(∀x,x∈l1→x<4294967296)∧(∀x,x∈l2→x<4294967296)∧l1.length≤N∧l2.length≤N∧q=cV f (val l1) (val l2)
theorem cW.le{H H':Heap}{v:Value}{q:Rat}{N:Nat}(h:cW H v q N)(hl:Heap.le H H'):cW H' v q N:=by
 obtain⟨f,u,w,l1,l2,h1,h2,h3,h4⟩:=h
 exact⟨f,u,w,l1,l2,h1,h2.le hl,h3.le hl,h4⟩
theorem cW.mono{H:Heap}{v:Value}{q:Rat}{N M:Nat}(h:cW H v q N)(hl:N≤M):cW H v q M:=by
 obtain⟨f,u,w,l1,l2,h1,h2,h3,h4,h5,h6,h7,h8⟩:=h
 exact⟨f,u,w,l1,l2,h1,h2,h3,h4,h5,by omega,by omega,h8⟩
def aM(q:Rat):Nat:=max (al q.num.natAbs).length (al q.den).length
theorem wK(q:Rat):cV (decide (q.num<0)) q.num.natAbs q.den=q:=by
 rw[cV,afi,Rat.mkRat_self]
theorem nK{x:Nat}:∀y,y∈al x→y<4294967296:=fun y hy=>by
 have:=(fR x).lt y hy
 rw[ck]at this;omega
theorem bH.raw{H:Heap}{v:Value}{q:Rat}(h:bH H v q):cW H v q (aM q):=by
 obtain⟨u,w,h1,h2,h3⟩:=h
 exact⟨_,u,w,_,_,h1,h2,h3,nK,nK,Nat.le_max_left _ _,Nat.le_max_right _ _,by rw[cU,cU,wK]⟩
def j7(H:Heap)(q:Rat)(v:Value)(H':Heap):Prop:=Heap.le H H'∧bH H' v q
theorem j7.le{H:Heap}{q:Rat}{v:Value}{H':Heap}(h:j7 H q v H'):Heap.le H H':=h.1
def Ku(H:Heap)(q:Rat)(K:Nat)(v:Value)(H':Heap):Prop:=Heap.le H H'∧∃f n d,r6 H' v f n d∧0<d∧cV f n d=q∧(al n).length≤K∧(al d).length≤K
theorem Ku.le{H:Heap}{q:Rat}{K:Nat}{v:Value}{H':Heap}(h:Ku H q K v H'):Heap.le H H':=h.1
def j8(H:Heap)(x:Value)(v:Value)(H':Heap):Prop:=H'=H∧v=x
theorem j8.le{H:Heap}{x:Value}{v:Value}{H':Heap}(h:j8 H x v H'):Heap.le H H':=by rw[h.1];exact .refl _
theorem vE:al 1 = [1]:=by
 rw[yE (by decide)]
 rw[show 1/B=0 by decide,show 1%B=1 by decide,qt]
theorem yN{H:Heap}{g e:Nat}:dt (ins H g (whole (ee [.int .u32 1]) e)) (.slice (some ⟨g,0,none⟩) 1 1) 1:=by
 refine⟨some ⟨g,0,none⟩,1,?_,?_,?_⟩
 ·rw[vE];rfl
 ·rw[vE];exact Nat.le_refl _
 ·rw[vE];exact rX (y:=1) rfl
theorem Dk{l:List Nat}(h:∀x,x∈l→x<4294967296):(al (val l)).length≤l.length+1:=by
 refine jd.2 ?_
 have:val l+5≤5*B^l.length:=by
  induction l with
  | nil=>simp[val]
  | cons x l ih=>
   have h1:=ih (fun y hy=>h y (List.mem_cons_of_mem _ hy))
   have h2:=h x (List.mem_cons_self ..)
   rw[jC,List.length_cons,Nat.pow_succ]
   have h3:B*(val l+5)≤B*(5*B^l.length):=Nat.mul_le_mul_left _ h1
   have h4:B*(5*B^l.length)=5*(B^l.length*B):=by rw[Nat.mul_left_comm,Nat.mul_comm B]
   have h5:B*5=5000000000:=by decide
   rw[Nat.mul_add]at h3
   omega
 have h5:5*B^l.length≤B*B^l.length:=Nat.mul_le_mul_right _ (by decide)
 rw[Nat.pow_succ,Nat.mul_comm _ B];omega
theorem oF(x y:Nat):(al (x*y)).length≤(al x).length+(al y).length:=by
 refine jd.2 ?_
 rw[Nat.pow_add]
 exact Nat.mul_lt_mul'' (C6 x) (C6 y)
theorem VD{x y k:Nat}(hx:(al x).length≤k)(hy:(al y).length≤k):(al (x+y)).length≤k+1:=by
 refine jd.2 ?_
 have h1:=jd.1 hx
 have h2:=jd.1 hy
 have h3:B^k*2≤B^k*B:=Nat.mul_le_mul_left _ (by decide)
 rw[Nat.pow_succ];omega
end Go.aq
namespace Go.aq
open Go.Proofs Num
theorem afj{H:Heap}{u v:Value}{x y:Nat}(hx:dt H u x)(hy:dt H v y)(hm:((al x).length:Int)≤35184372088832):Fn Tryz.prog 111 #[u,v] H (j8 H (.int .i64 (kz x y))):=by
 obtain⟨A,c,rfl,hc,hr⟩:=hx
 obtain⟨A',c',rfl,jA,dS⟩:=hy
 exact Ve hr dS hm
theorem VE{H:Heap}{u:Value}{x:Nat}(hx:dt H u x):Fn Tryz.prog 151 #[u] H (j8 H (.bool (decide (x=1)))):=by
 obtain⟨A,c,rfl,hc,hr⟩:=hx
 exact aeE hr
theorem VF{H:Heap}{u:Value}{l:List Nat}(hu:jD H u l)(AN:∀x,x∈l→x<4294967296)(hm:(l.length:Int)≤8796093022208):Fn Tryz.prog 108 #[u] H (mW H (val l)):=by
 obtain⟨A,c,rfl,hc,hr⟩:=hu
 exact aeF AN hr hm
theorem tL{H:Heap}{v:Value}{q:Rat}{N:Nat}(hv:cW H v q N)(hN:(N:Int)≤4398046511104):
 Fn Tryz.prog 64 #[v] H (Ku H q (N+1)):=by
 obtain⟨f,u,w,l1,l2,rfl,hu,hw,h1,h2,bg,cA,rfl⟩:=hv;refine aY (args:=[_]) Tryz.func64 rfl rfl Tryz.ntmps64 rfl rfl fun w0=> ?_;refine ah [0] rfl ?_;refine ae (bZ rfl rfl (bm j5 rfl (ab [1,2] ?_)));refine bN .bK [0,1,3,4,2,5,6,7] follows (by kernel_rfl) ?_;refine aa 4 rfl (aW rfl rfl (VF hu h1 (by omega)) (fun _ _ h=>h.le) ?_);intro v1 H1 fi;refine aW rfl rfl (VF (hw.le fi.le) h2 (by omega)) (fun _ _ h=>h.le) ?_;intro v2 H2 dJ;obtain⟨B1,b1,rfl,dU,afk⟩:=fi.nat.le dJ.le;obtain⟨B2,b2,rfl,dg,F8⟩:=dJ.nat;have ga:=fi.le.trans dJ.le;have mY:=Dk h1;have pI:=Dk h2;refine aa 2 rfl (ab [1,2,3,4] ?_);refine ao ?_
 by_cases jo:(al (val l1)).length=0
 ·
  skip
  refine ae (aa 2 rfl (aG true rfl rfl (gi (by omega)) (aa 5 rfl (ab [1,2,3,4,18] ?_))));refine cI rfl (ae (cS Tryz.underlying98 eL rfl rfl rfl rfl rfl rfl rfl ?_));intro gb a6;refine di ag rfl j5 rfl rfl ?_;obtain⟨ti,aj,ak⟩:=jc;refine aI (.inl ⟨rfl,rfl⟩) rfl rfl rfl aj ak rfl rfl rfl (ab [2] ?_);obtain⟨b8,aP,aQ⟩:=jc;refine az ⟨.inr rfl,_,.agg rfl Tryz.underlying100 aP aQ (.nil),?_⟩;exact⟨ga.trans (Heap.bI _ a6),false,0,1,⟨_,_,rfl,wF _,yN⟩,by decide,by rw[jO.1 jo,wJ,wJ],by rw[qt];simp,by rw[vE];simp⟩
 ·
  skip
  refine ae (aa 2 rfl (aG false rfl rfl (jn (by omega)) (aa 5 rfl (ab [1,2,3,4,18] ?_))));refine aD rfl (fun hb=> ?_) (fun hb=> ?_)
  ·
   have hb:(al (val l2)).length=0:=by simpa using hb
   refine ae (cS Tryz.underlying98 eL rfl rfl rfl rfl rfl rfl rfl ?_);intro gb a6;refine di ag rfl j5 rfl rfl ?_;obtain⟨ti,aj,ak⟩:=jc;refine aI (.inl ⟨rfl,rfl⟩) rfl rfl rfl aj ak rfl rfl rfl (ab [2] ?_);obtain⟨b8,aP,aQ⟩:=jc;refine az ⟨.inr rfl,_,.agg rfl Tryz.underlying100 aP aQ (.nil),?_⟩;exact⟨ga.trans (Heap.bI _ a6),false,0,1,⟨_,_,rfl,wF _,yN⟩,by decide,by rw[jO.1 hb,Ks,wJ],by rw[qt];simp,by rw[vE];simp⟩
  have hb:(al (val l2)).length≠0:=by simpa using hb
  refine aw (ah [1,2,3,4] rfl ?_);refine ae (aa 4 rfl (di ag rfl j5 rfl rfl ?_));obtain⟨ti,aj,ak⟩:=jc;refine aI (.inl ⟨rfl,rfl⟩) rfl rfl rfl aj ak rfl rfl rfl (ab [2] ?_);obtain⟨b8,aP,aQ⟩:=jc;refine az ⟨.inr rfl,_,.agg rfl Tryz.underlying100 aP aQ (.nil),?_⟩;exact⟨ga,f,val l1,val l2,⟨_,_,rfl,⟨B1,b1,rfl,dU,afk⟩,⟨B2,b2,rfl,dg,F8⟩⟩,Nat.pos_of_ne_zero (fun e=>hb (jO.2 e)),rfl,by omega,by omega⟩
theorem afl{H:Heap}{v:Value}{f:Bool}{n d:Nat}(hv:r6 H v f n d)(hd:0<d)(du:((al n).length:Int)<8796093022208)(ff:((al d).length:Int)<8796093022208):
 Fn Tryz.prog 113 #[v] H (j7 H (cV f n d)):=by
 obtain⟨u,w,rfl,hu,hw⟩:=hv
 obtain⟨A,c,rfl,hc,hr⟩:=id hu
 obtain⟨A2,c2,rfl,m0,kY⟩:=id hw;refine aY (args:=[_]) Tryz.func113 rfl rfl Tryz.ntmps113 rfl rfl fun w0=> ?_;refine ah [0] rfl ?_;refine ae (bZ rfl rfl (bm j5 rfl (ab [1,2] ?_)));refine ao (ae (aa 4 rfl (ab [1,2,11] ?_)));refine aD rfl (fun hb=> ?_) (fun hb=> ?_)
 ·
  have hb:n=0:=jO.1 (by simpa using hb);subst hb;refine ae (cS Tryz.underlying98 eL rfl rfl rfl rfl rfl rfl rfl ?_);intro gb a6;refine di ag rfl j5 rfl rfl ?_;obtain⟨ti,aj,ak⟩:=jc;refine aI (.inl ⟨rfl,rfl⟩) rfl rfl rfl aj ak rfl rfl rfl (ab [2] ?_);obtain⟨b8,aP,aQ⟩:=jc;refine az ⟨.inr rfl,_,.agg rfl Tryz.underlying100 aP aQ (.nil),?_⟩;exact⟨Heap.bI _ a6,by rw[wJ];exact⟨_,_,rfl,wF _,yN⟩⟩
 ·
  have jo:0<n:=Nat.pos_of_ne_zero fun e=>by rw[jO.2 e]at hb;simp at hb
  refine aw (ah [1,2] rfl ?_);refine ao (ae (aa 2 rfl (aB rfl rfl (VE hw) ?_)));rintro v1 H1 ⟨rfl,rfl⟩;refine ab [1,2,16] ?_;refine aD rfl (fun hb=> ?_) (fun hb=> ?_)
  ·
   have j6:d=1:=by simpa using hb
   subst j6;refine ae (vr 1 ?_);obtain⟨ti,aj,ak⟩:=jc;refine aI (.inl ⟨rfl,rfl⟩) rfl rfl rfl aj ak rfl rfl rfl (ab [2] ?_);obtain⟨b8,aP,aQ⟩:=jc;refine az ⟨.inr rfl,_,.agg rfl Tryz.underlying100 aP aQ (.nil),?_⟩;refine⟨.refl _,?_⟩
   unfold bH
   rw[F5 hd jo,Dj hd,AV hd,Nat.gcd_one_right,Nat.div_one,Nat.div_one];exact⟨_,_,rfl,hu,hw⟩
  skip
  refine aw (ah [1,2] rfl ?_);refine ae (aa 4 rfl (aB rfl rfl (aff hu hw du ff) ?_));rintro v1 H2 hp;obtain⟨v1,rfl⟩:∃x,x=v1:=⟨_,rfl⟩;have ql:0<Nat.gcd n d:=Nat.gcd_pos_of_pos_left _ jo;refine aa 1 rfl (ab [1,2,3] ?_);refine ao (ae (aa 1 rfl (aB rfl rfl (VE hp.nat) ?_)));rintro v2 H3 ⟨rfl,rfl⟩;refine ab [1,2,3,24] ?_;refine aD rfl (fun hb=> ?_) (fun hb=> ?_)
  ·
   have mX:Nat.gcd n d=1:=by simpa using hb
   refine ae (vr 1 ?_);obtain⟨ti,aj,ak⟩:=jc;refine aI (.inl ⟨rfl,rfl⟩) rfl rfl rfl aj ak rfl rfl rfl (ab [2] ?_);obtain⟨b8,aP,aQ⟩:=jc;refine az ⟨.inr rfl,_,.agg rfl Tryz.underlying100 aP aQ (.nil),?_⟩;refine⟨hp.le,?_⟩
   unfold bH
   rw[F5 hd jo,Dj hd,AV hd,mX,Nat.div_one,Nat.div_one];exact⟨_,_,rfl,hu.le hp.le,hw.le hp.le⟩
  skip
  refine aw (ah [1,2,3] rfl ?_);refine ae (aa 3 rfl (aB rfl rfl (Ko (hu.le hp.le) hp.nat ql du) ?_));rintro v2 H4 ⟨kC,q1,r1,rfl,bX,pA⟩;refine aa 5 rfl (ab [1,2,3,4] ?_);refine ae (aa 3 rfl (aB rfl rfl (Ko (hw.le (hp.le.trans kC)) (hp.nat.le kC) ql ff) ?_));rintro v2 H5 ⟨iP,q2,r2,rfl,bS,pM⟩;obtain⟨A3,c3,rfl,pN,qA⟩:=bX.le iP;obtain⟨A4,c4,rfl,mq,r7⟩:=id bS;refine aa 5 rfl (ab [1,2,4,6] ?_);refine ae (aa 4 rfl (di ag rfl j5 rfl rfl ?_));obtain⟨ti,aj,ak⟩:=jc;refine aI (.inl ⟨rfl,rfl⟩) rfl rfl rfl aj ak rfl rfl rfl (ab [2] ?_);obtain⟨b8,aP,aQ⟩:=jc;refine az ⟨.inr rfl,_,.agg rfl Tryz.underlying100 aP aQ (.nil),?_⟩;refine⟨(hp.le.trans kC).trans iP,?_⟩
  unfold bH
  rw[F5 hd jo,Dj hd,AV hd];exact⟨_,_,rfl,⟨A3,c3,rfl,pN,qA⟩,bS⟩
theorem yO{H:Heap}{v:Value}{f:Bool}{n d:Nat}(hv:r6 H v f n d)(hd:0<d)(du:((al n).length:Int)<8796093022208)(ff:((al d).length:Int)<8796093022208):
 Fn Tryz.prog 66 #[v] H (j7 H (cV f n d)):=by
 obtain⟨u,w,rfl,hu,hw⟩:=id hv;refine aY (args:=[_]) Tryz.func66 rfl rfl Tryz.ntmps66 rfl rfl fun w0=> ?_;refine ah [0] rfl ?_;refine ae (bZ rfl rfl (bm cj rfl (ab [1,2] ?_)));refine ae (aa 1 rfl (aB rfl rfl (afl hv hd du ff) ?_));rintro v1 H1 ⟨hle,u1,w1,rfl,eS,gE⟩;obtain⟨A,c,rfl,hc,hr⟩:=id eS;obtain⟨A2,c2,rfl,m0,kY⟩:=id gE;refine bm j5 rfl ?_;obtain⟨ti,aj,ak⟩:=jc;refine aI (.inl ⟨rfl,rfl⟩) rfl rfl rfl aj ak rfl rfl rfl (ab [2,3] ?_);refine ae (aa 6 rfl (di ag rfl cj rfl rfl ?_));obtain⟨ti,aj,ak⟩:=aX;refine aI (.inl ⟨rfl,rfl⟩) rfl rfl rfl aj ak rfl rfl rfl (ab [2] ?_);obtain⟨b8,aP,aQ⟩:=aX;refine az ⟨.inr rfl,_,.agg rfl Tryz.underlying38 aP aQ (.nil),?_⟩;exact⟨hle,_,_,rfl,eS,gE⟩
theorem afm{H:Heap}{v:Value}{f:Bool}{n d:Nat}(hv:r6 H v f n d)(hd:0<d):
 Fn Tryz.prog 80 #[v] H (j8 H (.int .i64 (eY (cV f n d)))):=by
 obtain⟨u,w,rfl,hu,hw⟩:=id hv
 obtain⟨A,c,rfl,hc,hr⟩:=id hu;refine aY (args:=[_]) Tryz.func80 rfl rfl Tryz.ntmps80 rfl rfl fun w0=> ?_;refine ah [0] rfl ?_;refine ae (bZ rfl rfl (aa 1 rfl (ab [1] ?_)));refine ao (aE (ae (aa 5 rfl (ab [1,3] ?_))));refine aD rfl (fun hb=> ?_) (fun hb=> ?_)
 ·
  have hb:n=0:=jO.1 (by simpa using hb);refine ae (aa 1 rfl (ab [2] ?_));refine az ⟨.inr rfl,_,.tmp rfl (.nil),?_⟩;exact⟨rfl,by rw[Kt hd,if_pos hb];rfl⟩
 ·
  have jo:n≠0:=fun e=>by rw[jO.2 e]at hb;simp at hb
  refine ae (aa 3 rfl (ab [8] ?_));refine aD rfl (fun hb=> ?_) (fun hb=> ?_)
  ·
   subst hb;refine ae (aa 1 rfl (ab [2] ?_));refine az ⟨.inr rfl,_,.tmp rfl (.nil),?_⟩;exact⟨rfl,by rw[Kt hd,if_neg jo];rfl⟩
  subst hb;refine aw (ah [] rfl ?_);refine ae (aa 1 rfl (ab [2] ?_));refine az ⟨.inr rfl,_,.tmp rfl (.nil),?_⟩;exact⟨rfl,by rw[Kt hd,if_neg jo];rfl⟩
end Go.aq
namespace Go.aq
open Go.Proofs Num
theorem wrap_u64(n:Int):IntKind.u64.wrap n=n%18446744073709551616:=rfl
theorem VG{x y:Nat}:(0≤kz x y)↔y≤x:=by
 unfold kz;split
 ·omega
 ·split <;> omega
theorem VH{H:Heap}{u v:Value}{f g:Bool}{n d m e K:Nat}(hf:r6 H u f n d)(hg:r6 H v g m e)(hd:0<d)(he:0<e)(h1:(al n).length≤K)(h2:(al d).length≤K)(h3:(al m).length≤K)(h4:(al e).length≤K)(hK:(K:Int)≤2199023255552):
 Fn Tryz.prog 65 #[u,v] H (Ku H (cV f n d+cV g m e) (2*K+1)):=by
 obtain⟨un,ud,rfl,pK,VI⟩:=id hf
 obtain⟨vm,ve,rfl,hvm,VJ⟩:=id hg
 have r8:=oF n e
 have kD:=oF m d
 have OK:=oF d e
 have Kv:=Nat.mul_pos hd he
 have qy:=VD (x:=n*e) (y:=m*d) (k:=2*K) (by omega) (by omega);refine aY (args:=[_,_]) Tryz.func65 rfl rfl Tryz.ntmps65 rfl rfl fun w0=> ?_;refine ah [0,1] rfl ?_;refine ae (bZ rfl rfl (bZ rfl rfl (bm j5 rfl (ab [2,3,4] ?_))));refine bN .bK [0,1,2,3,5,6,7,8,4,9,10,11] follows (by kernel_rfl) ?_;refine aa 8 rfl (aW rfl rfl (AP pK VJ (by omega) (by omega)) (fun _ _ h=>h.le) ?_);intro v1 H1 fi;refine aW rfl rfl (AP (hvm.le fi.le) (VI.le fi.le) (by omega) (by omega)) (fun _ _ h=>h.le) ?_;intro v2 H2 dJ;refine aa 2 rfl (ab [2,3,4,5,6] ?_);refine ae (aa 4 rfl (aB rfl rfl (AP (VI.le (fi.le.trans dJ.le)) (VJ.le (fi.le.trans dJ.le)) (by omega) (by omega)) ?_));intro v3 H3 dY;have iA:=(fi.le.trans dJ.le).trans dY.le;have du:=fi.nat.le (dJ.le.trans dY.le);have ia:=dJ.nat.le dY.le;have jP:=dY.nat;obtain⟨OL,OM,rfl,ON,OO⟩:=id du;obtain⟨VK,VL,rfl,VM,VN⟩:=id ia;obtain⟨OP,OQ,rfl,OR,Kw⟩:=id jP;refine aa 1 rfl (ab [2,3,4,5,6,7] ?_);refine ao (ae (aa 4 rfl (US Tryz.underlying4 rfl rfl (ab [2,3,4,5,6,7,27] ?_))));refine aD rfl (fun hb=> ?_) (fun hb=> ?_)
 ·
  have qz:f=g:=by simpa using hb
  subst qz;refine bN .bK [0,1,2,3,5,4,6,7] follows (by kernel_rfl) ?_;refine aa 5 rfl (aW rfl rfl (aeH du ia (by omega) (by omega)) (fun _ _ h=>h.le) ?_);intro v4 H4 fL;have mr:=fL.nat;obtain⟨Kx,Ky,rfl,Kz,KA⟩:=id mr;refine di ag rfl j5 rfl rfl ?_;obtain⟨ti,aj,ak⟩:=jc;refine aI (.inl ⟨rfl,rfl⟩) rfl rfl rfl aj ak rfl rfl rfl (ab [4] ?_);obtain⟨b8,aP,aQ⟩:=jc;refine az ⟨.inr rfl,_,.agg rfl Tryz.underlying100 aP aQ (.nil),?_⟩;exact⟨iA.trans fL.le,f,n*e+m*d,d*e,⟨_,_,rfl,mr,jP.le fL.le⟩,Kv,(Vy f hd he).symm,by omega,by omega⟩
 ·
  have qz:f≠g:=by simpa using hb
  refine aw (ah [2,3,4,5,6,7] rfl ?_);refine ao (ae (aa 2 rfl (aB rfl rfl (afj du ia (by omega)) ?_)));rintro v4 H4 ⟨rfl,rfl⟩;refine aa 1 rfl (ab [2,3,4,5,6,7,38] ?_);refine aD rfl (fun hb=> ?_) (fun hb=> ?_)
  ·
   have hb:m*d≤n*e:=VG.1 (by simpa using hb);have lW:=ml (Nat.sub_le (n*e) (m*d));refine bN .bK [0,1,2,3,5,4,6,7] follows (by kernel_rfl) ?_;refine aa 5 rfl (aW rfl rfl (Vg du ia hb (by omega)) (fun _ _ h=>h.le) ?_);intro v4 H4 fL;have mr:=fL.nat;obtain⟨Kx,Ky,rfl,Kz,KA⟩:=id mr;refine di ag rfl j5 rfl rfl ?_;obtain⟨ti,aj,ak⟩:=jc;refine aI (.inl ⟨rfl,rfl⟩) rfl rfl rfl aj ak rfl rfl rfl (ab [4] ?_);obtain⟨b8,aP,aQ⟩:=jc;refine az ⟨.inr rfl,_,.agg rfl Tryz.underlying100 aP aQ (.nil),?_⟩;exact⟨iA.trans fL.le,f,n*e-m*d,d*e,⟨_,_,rfl,mr,jP.le fL.le⟩,Kv,(OG qz hd he hb).symm,by omega,by omega⟩
  have hb:¬m*d≤n*e:=fun h=>by have:=VG.2 h;simp at hb;omega
  have hb:n*e≤m*d:=by omega
  have lW:=ml (Nat.sub_le (m*d) (n*e));refine aw (ah [3,4,5,6,7] rfl ?_);refine bN .bK [0,1,2,3,5,4,6,7] follows (by kernel_rfl) ?_;refine aa 5 rfl (aW rfl rfl (Vg ia du hb (by omega)) (fun _ _ h=>h.le) ?_);intro v4 H4 fL;have mr:=fL.nat;obtain⟨Kx,Ky,rfl,Kz,KA⟩:=id mr;refine di ag rfl j5 rfl rfl ?_;obtain⟨ti,aj,ak⟩:=jc;refine aI (.inl ⟨rfl,rfl⟩) rfl rfl rfl aj ak rfl rfl rfl (ab [4] ?_);obtain⟨b8,aP,aQ⟩:=jc;refine az ⟨.inr rfl,_,.agg rfl Tryz.underlying100 aP aQ (.nil),?_⟩;exact⟨iA.trans fL.le,g,m*d-n*e,d*e,⟨_,_,rfl,mr,jP.le fL.le⟩,Kv,(Vz qz hd he hb).symm,by omega,by omega⟩
theorem OS{H:Heap}{n:Int}(h1: -9223372036854775808≤n)(h2:n≤9223372036854775807):
 Fn Tryz.prog 67 #[.int .i64 n] H (mW H n.natAbs):=by
 refine aY (args:=[_]) Tryz.func67 rfl rfl Tryz.ntmps67 rfl rfl fun w0=> ?_;refine ah [0] rfl ?_;refine ae (aa 1 rfl (ab [0] ?_));refine ao (ae (aa 2 rfl (ab [0,4] ?_)));refine aD rfl (fun hb=> ?_) (fun hb=> ?_)
 ·
  have hb:n<0:=by simpa using hb
  refine ae (aa 1 rfl (UR ag rfl rfl rfl (adk rfl ?_)));rw[show IntKind.u64.wrap (-IntKind.u64.wrap n)=((n.natAbs:Nat):Int) by rw[wrap_u64,wrap_u64];omega];refine aB rfl rfl (Kh (by omega)) ?_;intro v1 H1 hp;refine aa 1 rfl (ab [2] ?_);refine az ⟨.inr rfl,_,.tmp rfl (.nil),?_⟩;exact hp
 ·
  have hb:0≤n:=by simpa using hb
  refine aw (ah [0] rfl ?_);refine ae (aa 1 rfl (UR ag rfl rfl rfl ?_));rw[show IntKind.u64.wrap n=((n.natAbs:Nat):Int) by rw[wrap_u64];omega];refine aB rfl rfl (Kh (by omega)) ?_;intro v1 H1 hp;refine aa 1 rfl (ab [2] ?_);refine az ⟨.inr rfl,_,.tmp rfl (.nil),?_⟩;exact hp
theorem Dl{H:Heap}{n:Int}(h1: -9223372036854775808≤n)(h2:n≤9223372036854775807):
 Fn Tryz.prog 35 #[.int .i64 n] H (j7 H (n:Rat)):=by
 have dK:(al n.natAbs).length≤3:=jd.2 (by rw[ck];omega);refine aY (args:=[_]) Tryz.func35 rfl rfl Tryz.ntmps35 rfl rfl fun w0=> ?_;refine ah [0] rfl ?_;refine ae (bm cj rfl (ab [0,2] ?_));refine ae (aa 3 rfl (aB rfl rfl (OS h1 h2) ?_));intro v1 H1 hp;have du:=hp.nat;obtain⟨OL,OM,rfl,ON,OO⟩:=id du;refine cS Tryz.underlying98 eL rfl rfl rfl rfl rfl rfl rfl ?_;intro gb a6;refine di ag rfl j5 rfl rfl (aB rfl rfl (yO (f:=decide (n<0)) (n:=n.natAbs) (d:=1) ⟨_,_,rfl,du.le (Heap.bI _ a6),yN⟩ (by decide) (by omega) (by rw[vE];decide)) ?_);rintro v1 H2 ⟨hle,hq⟩;rw[F6]at hq;obtain⟨u1,w1,rfl,eS,gE⟩:=id hq;obtain⟨mu,my,rfl,mz,mA⟩:=id eS;obtain⟨Dm,Dn,rfl,Dp,Dq⟩:=id gE;obtain⟨ti,aj,ak⟩:=aX;refine aI (.inl ⟨rfl,rfl⟩) rfl rfl rfl aj ak rfl rfl rfl (ab [2] ?_);obtain⟨b8,aP,aQ⟩:=aX;refine az ⟨.inr rfl,_,.agg rfl Tryz.underlying38 aP aQ (.nil),?_⟩;exact⟨(hp.le.trans (Heap.bI _ a6)).trans hle,hq⟩
theorem VO{H:Heap}{a b:Int}(h1: -9223372036854775808≤a)(h2:a≤9223372036854775807)(h3: -9223372036854775808≤b)(h4:b≤9223372036854775807):
 Fn Tryz.prog 134 #[.int .i64 a,.int .i64 b] H (j7 H ((a:Rat)/(b:Rat))):=by
 have dK:(al a.natAbs).length≤3:=jd.2 (by rw[ck];omega)
 have cM:(al b.natAbs).length≤3:=jd.2 (by rw[ck];omega);refine aY (args:=[_,_]) Tryz.func134 rfl rfl Tryz.ntmps134 rfl rfl fun w0=> ?_;refine ah [0,1] rfl ?_;refine ae (bm cj rfl (ab [0,1,4] ?_));refine ao (ae (aa 2 rfl (ab [0,1,4,6] ?_)));refine aD rfl (fun hb=> ?_) (fun hb=> ?_)
 ·
  have hb:b=0:=by simpa using hb
  subst hb;refine ae (aB rfl rfl (Dl (n:=0) (by decide) (by decide)) ?_);rintro v1 H2 ⟨hle,hq⟩;obtain⟨u1,w1,rfl,eS,gE⟩:=id hq;obtain⟨mu,my,rfl,mz,mA⟩:=id eS;obtain⟨Dm,Dn,rfl,Dp,Dq⟩:=id gE;obtain⟨ti,aj,ak⟩:=aX;refine aI (.inl ⟨rfl,rfl⟩) rfl rfl rfl aj ak rfl rfl rfl (ab [4] ?_);obtain⟨b8,aP,aQ⟩:=aX;refine az ⟨.inr rfl,_,.agg rfl Tryz.underlying38 aP aQ (.nil),?_⟩;exact⟨hle,by rw[show (a:Rat)/((0:Int):Rat)=((0:Int):Rat) by simp[Rat.div_def]];exact hq⟩
 ·
  have hb:b≠0:=by simpa using hb
  refine aw (ah [0,1,4] rfl ?_);refine ae (aa 4 rfl (Fw Tryz.underlying4 rfl rfl (aa 1 rfl (aB rfl rfl (OS h1 h2) ?_))));intro v1 H1 fi;refine aa 1 rfl (aB rfl rfl (OS h3 h4) ?_);intro v2 H2 dJ;have du:=fi.nat.le dJ.le;have ia:=dJ.nat;obtain⟨OL,OM,rfl,ON,OO⟩:=id du;obtain⟨VK,VL,rfl,VM,VN⟩:=id ia;refine di ag rfl j5 rfl rfl (aB rfl rfl (yO (f:=decide (a<0) != decide (b<0)) (n:=a.natAbs) (d:=b.natAbs) ⟨_,_,rfl,du,ia⟩ (by omega) (by omega) (by omega)) ?_);rintro v1 H3 ⟨hle,hq⟩;rw[VB]at hq;obtain⟨u1,w1,rfl,eS,gE⟩:=id hq;obtain⟨mu,my,rfl,mz,mA⟩:=id eS;obtain⟨Dm,Dn,rfl,Dp,Dq⟩:=id gE;obtain⟨ti,aj,ak⟩:=aX;refine aI (.inl ⟨rfl,rfl⟩) rfl rfl rfl aj ak rfl rfl rfl (ab [4] ?_);obtain⟨b8,aP,aQ⟩:=aX;refine az ⟨.inr rfl,_,.agg rfl Tryz.underlying38 aP aQ (.nil),?_⟩;exact⟨(fi.le.trans dJ.le).trans hle,hq⟩
end Go.aq
namespace Go.aq
open Go.Proofs Num
theorem VP{H:Heap}{v:Value}{q:Rat}{N:Nat}(hv:cW H v q N)(hN:(N:Int)≤1099511627776):
 Fn Tryz.prog 133 #[v] H (j7 H q):=by
 obtain⟨bf,bu,bw,nL,nM,rfl,_⟩:=id hv;refine aY (args:=[_]) Tryz.func133 rfl rfl Tryz.ntmps133 rfl rfl fun w0=> ?_;refine ah [0] rfl ?_;refine ae (bZ rfl rfl (bm cj rfl (ab [1,2] ?_)));refine ae (aa 1 rfl (aB rfl rfl (tL hv (by omega)) ?_));rintro v1 H1 ⟨fF,f1,n1,d1,m6,ff,rfl,bg,r8⟩;obtain⟨wL,wM,rfl,gP,ib⟩:=id m6;obtain⟨wN,wO,rfl,wP,wQ⟩:=id gP;obtain⟨wR,wS,rfl,wT,wU⟩:=id ib;refine aB rfl rfl (yO m6 ff (by omega) (by omega)) ?_;rintro w2 G2 ⟨dP,bS⟩;obtain⟨u2,x2,rfl,fS,eT⟩:=id bS;obtain⟨oG,oH,rfl,oI,oJ⟩:=id fS;obtain⟨oK,oL,rfl,oM,oN⟩:=id eT;obtain⟨ti,aj,ak⟩:=aX;refine aI (.inl ⟨rfl,rfl⟩) rfl rfl rfl aj ak rfl rfl rfl (ab [2] ?_);obtain⟨b8,aP,aQ⟩:=aX;refine az ⟨.inr rfl,_,.agg rfl Tryz.underlying38 aP aQ (.nil),?_⟩;exact⟨fF.trans dP,bS⟩
theorem Ga{H:Heap}{v:Value}{q:Rat}{N:Nat}(hv:cW H v q N)(hN:(N:Int)≤1099511627776):
 Fn Tryz.prog 44 #[v] H (fun v H'=>Heap.le H H'∧v = .int .i64 (eY q)):=by
 obtain⟨bf,bu,bw,nL,nM,rfl,_⟩:=id hv;refine aY (args:=[_]) Tryz.func44 rfl rfl Tryz.ntmps44 rfl rfl fun w0=> ?_;refine ah [0] rfl ?_;refine ae (bZ rfl rfl (aa 1 rfl (ab [1] ?_)));refine ae (aa 1 rfl (aB rfl rfl (tL hv (by omega)) ?_));rintro v1 H1 ⟨fF,f1,n1,d1,m6,ff,rfl,bg,r8⟩;obtain⟨wL,wM,rfl,gP,ib⟩:=id m6;obtain⟨wN,wO,rfl,wP,wQ⟩:=id gP;obtain⟨wR,wS,rfl,wT,wU⟩:=id ib;refine aB rfl rfl (afm m6 ff) ?_;rintro v2 H2 ⟨rfl,rfl⟩;refine aa 1 rfl (ab [2] ?_);refine az ⟨.inr rfl,_,.tmp rfl (.nil),?_⟩;exact⟨fF,rfl⟩
theorem afn{H:Heap}{v:Value}{q:Rat}{N:Nat}(hv:cW H v q N)(hN:(N:Int)≤1099511627776):
 Fn Tryz.prog 131 #[v] H (j7 H (-q)):=by
 obtain⟨bf,bu,bw,nL,nM,rfl,_⟩:=id hv;refine aY (args:=[_]) Tryz.func131 rfl rfl Tryz.ntmps131 rfl rfl fun w0=> ?_;refine ah [0] rfl ?_;refine ae (bZ rfl rfl (bm cj rfl (ab [1,2] ?_)));refine ae (aa 1 rfl (aB rfl rfl (tL hv (by omega)) ?_));rintro v1 H1 ⟨fF,f1,n1,d1,m6,ff,rfl,bg,r8⟩;obtain⟨wL,wM,rfl,gP,ib⟩:=id m6;obtain⟨wN,wO,rfl,wP,wQ⟩:=id gP;obtain⟨wR,wS,rfl,wT,wU⟩:=id ib;refine bm j5 rfl ?_;obtain⟨ti,aj,ak⟩:=jc;refine aI (.inl ⟨rfl,rfl⟩) rfl rfl rfl aj ak rfl rfl rfl (ab [2,3] ?_);refine ae (vr 4 ?_);obtain⟨ti,aj,ak⟩:=FO;refine aI (.inr rfl) rfl rfl rfl aj ak rfl rfl rfl (ab [2,3] ?_);refine ae (aa 1 rfl (aB rfl rfl (yO (f:= !f1) ⟨_,_,rfl,gP,ib⟩ ff (by omega) (by omega)) ?_));rintro w2 G2 ⟨dP,bS⟩;rw[←OH]at bS;obtain⟨u2,x2,rfl,fS,eT⟩:=id bS;obtain⟨oG,oH,rfl,oI,oJ⟩:=id fS;obtain⟨oK,oL,rfl,oM,oN⟩:=id eT;obtain⟨ti,aj,ak⟩:=aX;refine aI (.inl ⟨rfl,rfl⟩) rfl rfl rfl aj ak rfl rfl rfl (ab [2] ?_);obtain⟨b8,aP,aQ⟩:=aX;refine az ⟨.inr rfl,_,.agg rfl Tryz.underlying38 aP aQ (.nil),?_⟩;exact⟨fF.trans dP,bS⟩
theorem VQ{H:Heap}{v v2:Value}{q q2:Rat}{N:Nat}(hv:cW H v q N)(dT:cW H v2 q2 N)(hN:(N:Int)≤1099511627776):
 Fn Tryz.prog 34 #[v,v2] H (j7 H (q+q2)):=by
 obtain⟨bf,bu,bw,nL,nM,rfl,_⟩:=id hv
 obtain⟨cf,cu,cw,yP,yQ,rfl,_⟩:=id dT;refine aY (args:=[_,_]) Tryz.func34 rfl rfl Tryz.ntmps34 rfl rfl fun w0=> ?_;refine ah [0,1] rfl ?_;refine ae (bZ rfl rfl (bZ rfl rfl (bm cj rfl (ab [2,3,4] ?_))));refine bN .bK [0,2,1,3,4,5,6] follows (by kernel_rfl) ?_;refine aa 2 rfl (aW rfl rfl (tL hv (by omega)) (fun _ _ h=>h.le) ?_);rintro v1 H1 ⟨fF,f1,n1,d1,m6,ff,rfl,bg,r8⟩;obtain⟨wL,wM,rfl,gP,ib⟩:=id m6;obtain⟨wN,wO,rfl,wP,wQ⟩:=id gP;obtain⟨wR,wS,rfl,wT,wU⟩:=id ib;refine aW rfl rfl (tL (dT.le fF) (by omega)) (fun _ _ h=>h.le) ?_;rintro v2 H2 ⟨ga,f2,n2,d2,yR,j6,rfl,cA,kD⟩;obtain⟨Dr,Ds,rfl,lX,ly⟩:=id yR;obtain⟨AW,AX,rfl,Dt,Du⟩:=id lX;obtain⟨AY,AZ,rfl,Dv,Dw⟩:=id ly;refine aW rfl rfl (VH (K:=N+1) (m6.le ga) yR ff j6 bg r8 cA kD (by omega)) (fun _ _ h=>h.le) ?_;rintro v3 H3 ⟨iA,f3,n3,d3,Gb,KB,KC,dK,OK⟩;obtain⟨un3,ud3,rfl,afo,afp⟩:=id Gb;refine aW rfl rfl (yO Gb KB (by omega) (by omega)) (fun _ _ h=>h.le) ?_;rintro w4 G4 ⟨kZ,cn⟩;rw[KC]at cn;obtain⟨u4,x4,rfl,wV,k8⟩:=id cn;obtain⟨KD,KE,rfl,KF,KG⟩:=id wV;obtain⟨Dx,Dy,rfl,Dz,DA⟩:=id k8;obtain⟨ti,aj,ak⟩:=aX;refine aI (.inl ⟨rfl,rfl⟩) rfl rfl rfl aj ak rfl rfl rfl ?_
 refine ab [4] ?_;obtain⟨b8,aP,aQ⟩:=aX;refine az ⟨.inr rfl,_,.agg rfl Tryz.underlying38 aP aQ (.nil),?_⟩;exact⟨((fF.trans ga).trans iA).trans kZ,cn⟩
theorem OT{H:Heap}{v v2:Value}{q q2:Rat}{N:Nat}(hv:cW H v q N)(dT:cW H v2 q2 N)(hN:(N:Int)≤1099511627776):
 Fn Tryz.prog 119 #[v,v2] H (j7 H (q*q2)):=by
 obtain⟨bf,bu,bw,nL,nM,rfl,_⟩:=id hv
 obtain⟨cf,cu,cw,yP,yQ,rfl,_⟩:=id dT;refine aY (args:=[_,_]) Tryz.func119 rfl rfl Tryz.ntmps119 rfl rfl fun w0=> ?_;refine ah [0,1] rfl ?_;refine ae (bZ rfl rfl (bZ rfl rfl (bm cj rfl (ab [2,3,4] ?_))));refine bN .bK [0,2,1,3,4,5,6,7] follows (by kernel_rfl) ?_;refine aa 2 rfl (aW rfl rfl (tL hv (by omega)) (fun _ _ h=>h.le) ?_);rintro v1 H1 ⟨fF,f1,n1,d1,m6,ff,rfl,bg,r8⟩;obtain⟨wL,wM,rfl,gP,ib⟩:=id m6;obtain⟨wN,wO,rfl,wP,wQ⟩:=id gP;obtain⟨wR,wS,rfl,wT,wU⟩:=id ib;refine aW rfl rfl (tL (dT.le fF) (by omega)) (fun _ _ h=>h.le) ?_;rintro v2 H2 ⟨ga,f2,n2,d2,yR,j6,rfl,cA,kD⟩;obtain⟨Dr,Ds,rfl,lX,ly⟩:=id yR;obtain⟨AW,AX,rfl,Dt,Du⟩:=id lX;obtain⟨AY,AZ,rfl,Dv,Dw⟩:=id ly;have mY:=oF n1 n2;have pI:=oF d1 d2;refine bm j5 rfl (bm j5 rfl ?_);obtain⟨ti,aj,ak⟩:=jc;refine aI (.inl ⟨rfl,rfl⟩) rfl rfl rfl aj ak rfl rfl rfl ?_;obtain⟨ti,aj,ak⟩:=jc;refine aI (.inl ⟨rfl,rfl⟩) rfl rfl rfl aj ak rfl rfl rfl (ab [4,5,6] ?_);refine bN .bK [0,1,2,3,4,5,6,7,8,10,11,12,13,9,14,15,16,17] follows (by kernel_rfl) ?_;refine aa 4 rfl (Fw Tryz.underlying4 rfl rfl ?_)
 refine aa 8 rfl (aW rfl rfl (AP (gP.le ga) lX (by omega) (by omega)) (fun _ _ h=>h.le) ?_);intro v3 H3 dY;refine aW rfl rfl (AP (ib.le (ga.trans dY.le)) (ly.le dY.le) (by omega) (by omega)) (fun _ _ h=>h.le) ?_;intro v4 H4 fL;have jP:=dY.nat.le fL.le;have mr:=fL.nat;obtain⟨OP,OQ,rfl,OR,Kw⟩:=id jP;obtain⟨Kx,Ky,rfl,Kz,KA⟩:=id mr;refine di ag rfl j5 rfl rfl (aW rfl rfl (yO (f:=f1 != f2) (n:=n1*n2) (d:=d1*d2) ⟨_,_,rfl,jP,mr⟩ (Nat.mul_pos ff j6) (by omega) (by omega)) (fun _ _ h=>h.le) ?_);rintro w4 G4 ⟨kZ,cn⟩;rw[←OI]at cn;obtain⟨u4,x4,rfl,wV,k8⟩:=id cn;obtain⟨KD,KE,rfl,KF,KG⟩:=id wV;obtain⟨Dx,Dy,rfl,Dz,DA⟩:=id k8;obtain⟨ti,aj,ak⟩:=aX;refine aI (.inl ⟨rfl,rfl⟩) rfl rfl rfl aj ak rfl rfl rfl (ab [4] ?_);obtain⟨b8,aP,aQ⟩:=aX;refine az ⟨.inr rfl,_,.agg rfl Tryz.underlying38 aP aQ (.nil),?_⟩;exact⟨(((fF.trans ga).trans dY.le).trans fL.le).trans kZ,cn⟩
theorem VR{H:Heap}{v v2:Value}{q q2:Rat}{N:Nat}(hv:cW H v q N)(dT:cW H v2 q2 N)(hN:(N:Int)≤1099511627776):
 Fn Tryz.prog 156 #[v,v2] H (fun v H'=>Heap.le H H'∧∃r,v = .tuple #[r,.bool (decide (q2≠0))]∧bH H' r (q/q2)):=by
 obtain⟨bf,bu,bw,nL,nM,rfl,_⟩:=id hv
 obtain⟨cf,cu,cw,yP,yQ,rfl,_⟩:=id dT;refine aY (args:=[_,_]) Tryz.func156 rfl rfl Tryz.ntmps156 rfl rfl fun w0=> ?_;refine ah [0,1] rfl ?_;refine ae (bZ rfl rfl (bZ rfl rfl (bm cj rfl (aa 1 rfl (ab [2,3,4] ?_)))));refine bN .bK [0,2,1,3,4,5,6,7] follows (by kernel_rfl) ?_;refine aa 2 rfl (aW rfl rfl (tL hv (by omega)) (fun _ _ h=>h.le) ?_);rintro v1 H1 ⟨fF,f1,n1,d1,m6,ff,rfl,bg,r8⟩;obtain⟨wL,wM,rfl,gP,ib⟩:=id m6;obtain⟨wN,wO,rfl,wP,wQ⟩:=id gP;obtain⟨wR,wS,rfl,wT,wU⟩:=id ib;refine aW rfl rfl (tL (dT.le fF) (by omega)) (fun _ _ h=>h.le) ?_;rintro v2 H2 ⟨ga,f2,n2,d2,yR,j6,rfl,cA,kD⟩;obtain⟨Dr,Ds,rfl,lX,ly⟩:=id yR;obtain⟨AW,AX,rfl,Dt,Du⟩:=id lX;obtain⟨AY,AZ,rfl,Dv,Dw⟩:=id ly;have mY:=oF n1 d2;have pI:=oF d1 n2;refine bm j5 rfl (bm j5 rfl ?_);obtain⟨ti,aj,ak⟩:=jc;refine aI (.inl ⟨rfl,rfl⟩) rfl rfl rfl aj ak rfl rfl rfl ?_;obtain⟨ti,aj,ak⟩:=jc;refine aI (.inl ⟨rfl,rfl⟩) rfl rfl rfl aj ak rfl rfl rfl (ab [4,6,7] ?_);refine ao (ae (aa 4 rfl (ab [4,6,7,15] ?_)));refine aD rfl (fun hb=> ?_) (fun hb=> ?_)
 ·
  have hb:n2=0:=jO.1 (by simpa using hb);subst hb;refine ae (aB rfl rfl (Dl (n:=0) (by decide) (by decide)) ?_);rintro w4 G4 ⟨kZ,cn⟩;obtain⟨u4,x4,rfl,wV,k8⟩:=id cn;obtain⟨KD,KE,rfl,KF,KG⟩:=id wV;obtain⟨Dx,Dy,rfl,Dz,DA⟩:=id k8;obtain⟨ti,aj,ak⟩:=aX;refine aI (.inl ⟨rfl,rfl⟩) rfl rfl rfl aj ak rfl rfl rfl (aa 1 rfl (ab [4,5] ?_));obtain⟨b8,aP,aQ⟩:=aX;refine az ⟨.inr rfl,_,.agg rfl Tryz.underlying38 aP aQ (.tmp rfl (.nil)),?_⟩;refine⟨(fF.trans ga).trans kZ,_,?_,by rw[wJ,Rat.div_def,Rat.inv_zero,Rat.mul_zero];exact cn⟩;rw[wJ];rfl
 ·
  have jo:0<n2:=Nat.pos_of_ne_zero fun e=>by rw[jO.2 e]at hb;simp at hb
  refine aw (ah [4,6,7] rfl ?_);refine bN .bK [0,1,2,3,4,5,6,7,8,10,11,12,13,9,14,15,16,17,18] follows (by kernel_rfl) ?_;refine aa 4 rfl (Fw Tryz.underlying4 rfl rfl (aa 8 rfl (aW rfl rfl (AP (gP.le ga) ly (by omega) (by omega)) (fun _ _ h=>h.le) ?_)));intro v3 H3 dY;refine aW rfl rfl (AP (ib.le (ga.trans dY.le)) (lX.le dY.le) (by omega) (by omega)) (fun _ _ h=>h.le) ?_;intro v4 H4 fL;have jP:=dY.nat.le fL.le;have mr:=fL.nat;obtain⟨OP,OQ,rfl,OR,Kw⟩:=id jP;obtain⟨Kx,Ky,rfl,Kz,KA⟩:=id mr;refine di ag rfl j5 rfl rfl (aW rfl rfl (yO (f:=f1 != f2) (n:=n1*d2) (d:=d1*n2) ⟨_,_,rfl,jP,mr⟩ (Nat.mul_pos ff jo) (by omega) (by omega)) (fun _ _ h=>h.le) ?_);rintro w4 G4 ⟨kZ,cn⟩;rw[←OJ jo]at cn;obtain⟨u4,x4,rfl,wV,k8⟩:=id cn;obtain⟨KD,KE,rfl,KF,KG⟩:=id wV;obtain⟨Dx,Dy,rfl,Dz,DA⟩:=id k8;obtain⟨ti,aj,ak⟩:=aX;refine aI (.inl ⟨rfl,rfl⟩) rfl rfl rfl aj ak rfl rfl rfl (aa 1 rfl (ab [4,5] ?_));obtain⟨b8,aP,aQ⟩:=aX;refine az ⟨.inr rfl,_,.agg rfl Tryz.underlying38 aP aQ (.tmp rfl (.nil)),?_⟩;refine⟨(((fF.trans ga).trans dY.le).trans fL.le).trans kZ,_,?_,cn⟩
  have bA:cV f2 n2 d2≠0:=fun e=>by rw[OF j6]at e;omega
  rw[show decide (cV f2 n2 d2≠0)=true from decide_eq_true bA];rfl
end Go.aq
namespace Go.aq
open Go
def rem(H:Heap)(gs:List Nat):Heap:=fun g=>if g∈gs then none else H g
theorem rem_in{H:Heap}{gs:List Nat}{g:Nat}(h:g∈gs):rem H gs g=none:=by simp[rem,h]
theorem bM{H:Heap}{gs:List Nat}{g:Nat}(h:¬g∈gs):rem H gs g=H g:=by simp[rem,h]
theorem oO(H:Heap):rem H []=H:=by funext g;simp[rem]
theorem bF(H:Heap)(gs:List Nat):Heap.le (rem H gs) H:=fun g e h=>by
 by_cases hg:g∈gs
 ·rw[rem_in hg]at h;cases h
 ·rw[bM hg]at h;exact⟨e,h,.refl e⟩
theorem se{H H':Heap}(gs:List Nat)(h:Heap.le H H'):Heap.le (rem H gs) (rem H' gs):=fun g e he=>by
 by_cases hg:g∈gs
 ·rw[rem_in hg]at he;cases he
 ·rw[bM hg]at he⊢;exact h g e he
theorem cJ{H:Heap}{gs:List Nat}{g:Nat}(e:Ent)(h:g∈gs):rem (ins H g e) gs=rem H gs:=by
 funext k
 by_cases hk:k∈gs
 ·rw[rem_in hk,rem_in hk]
 ·rw[bM hk,bM hk,bn _ _ (fun(e':k=g)=>hk (by rw[e'];exact h))]
theorem wW{H:Heap}{gs:List Nat}{g:Nat}(e:Ent)(h:¬g∈gs):rem (ins H g e) gs=ins (rem H gs) g e:=by
 funext k
 by_cases hk:k∈gs
 ·rw[rem_in hk,bn _ _ (fun(e':k=g)=>h (by rw[←e'];exact hk)),rem_in hk]
 ·rw[bM hk]
  unfold ins
  rw[bM hk]
theorem sh{H:Heap}{gs:List Nat}{g:Nat}(e:Ent)(h:H g=none):rem (ins H g e) (g::gs)=rem H gs:=by
 funext k
 by_cases hk:k=g
 ·subst hk
  rw[rem_in (List.mem_cons_self ..)]
  by_cases hg:k∈gs
  ·rw[rem_in hg]
  ·rw[bM hg,h]
 ·by_cases hg:k∈gs
  ·rw[rem_in hg,rem_in (List.mem_cons_of_mem _ hg)]
  ·rw[bM hg,bM (by simp[hk,hg]),bn _ _ hk]
theorem OU(H:Heap)(g:Nat)(gs:List Nat):Heap.le (rem H (g::gs)) (rem H gs):=fun k e h=>by
 by_cases hk:k∈g::gs
 ·rw[rem_in hk]at h;cases h
 ·rw[bM hk]at h
  exact⟨e,by rw[bM (fun h'=>hk (List.mem_cons_of_mem _ h'))];exact h,.refl e⟩
theorem Den.rem{H:Heap}{w:World}(h:Den H w)(gs:List Nat):Den (rem H gs) w:=h.le (bF H gs)
structure qB(gs:List Nat)(bE:Value→Heap→Prop)(H:Heap)(v:Value)(H':Heap):Prop where
 post:bE v (rem H' gs)
 same:∀g,g∈gs→H' g=H g
theorem Fn.frame{P:Program}{f:FuncId}{args:Array Value}{H:Heap}{bE:Value→Heap→Prop}{gs:List Nat}(jF:∀g,g∈gs→H g≠none)(h:Fn P f args (rem H gs) bE):Fn P f args H (qB gs bE H):=by
 refine⟨h.ent,fun w hd=>(h.run w (hd.rem gs)).mono fun e w' ⟨v,he,K,hp,mQ,hf⟩=>⟨v,he,fun g=>if g∈gs then H g else K g,?_,?_,?_⟩⟩
 ·have hk:∀g,g∈gs→K g=none:=fun g hg=>by
   cases hh:H g with
   | none=>exact absurd hh (jF g hg)
   | some e=>exact(hf.keep g (hd.lt hh) (rem_in hg)).2
  have e1:aq.rem (fun g=>if g∈gs then H g else K g) gs=K:=by
   funext g
   by_cases hg:g∈gs
   ·rw[rem_in hg,hk g hg]
   ·rw[bM hg];simp[hg]
  exact⟨by rw[e1];exact hp,fun g hg=>by simp[hg]⟩
 ·intro g e hg
  by_cases hm:g∈gs
  ·simp only[hm,if_true]at hg
   obtain⟨o,h1,h2⟩:=hd g e hg
   exact⟨o,by rw[(hf.keep g (hd.lt hg) (rem_in hm)).1];exact h1,h2⟩
  ·simp only[hm,if_false]at hg
   exact mQ g e hg
 ·refine⟨hf.os,hf.tape,hf.output,hf.size,fun g hg h0=> ?_,hf.form⟩
  have hm:¬g∈gs:=fun hm=>jF g hm h0
  have h1:=hf.keep g hg (by rw[bM hm];exact h0)
  exact⟨h1.1,by simp only[hm,if_false];exact h1.2⟩
theorem qB.le{gs:List Nat}{bE:Value→Heap→Prop}{H H':Heap}{v:Value}(h:qB gs bE H v H')(hl:∀v K,bE v K→Heap.le (rem H gs) K):Heap.le H H':=fun g e hg=>by
 by_cases hm:g∈gs
 ·exact⟨e,by rw[h.same g hm];exact hg,.refl e⟩
 ·obtain⟨e',h1,h2⟩:=hl v _ h.post g e (by rw[bM hm];exact hg)
  rw[bM hm]at h1
  exact⟨e',h1,h2⟩
theorem App.rem{H H':Heap}{v v':Value}{e sz n:Nat}{xs:List Value}{gs:List Nat}(h:App H v e sz n xs v' H')(hg:∀g,g∈gs→H g≠none)(hv:∀g,g∈gs→v.ownBlock≠some g):
  App (aq.rem H gs) v e sz n xs v' (aq.rem H' gs)∧∀g,g∈gs→H' g=H g:=by
 have hs:∀g,g∈gs→H' g=H g:=fun g hm=>by
  cases hh:H g with
  | none=>exact absurd hh (hg g hm)
  | some ent=>exact h.same g ent hh (hv g hm)
 have C2:∀g,v'.ownBlock=some g→¬g∈gs:=fun g h1 hm=>by
  rcases h.at_ with h2 | ⟨g',h2,h3⟩
  ·exact hv g hm (h2▸h1)
  ·rw[h2]at h1
   cases h1
   exact hg _ hm h3
 refine⟨⟨h.own.same fun g h1=>bM (C2 g h1),se gs h.le,fun k ent hk bA=> ?_,?_⟩,hs⟩
 ·by_cases hm:k∈gs
  ·rw[rem_in hm]at hk;cases hk
  ·rw[bM hm]at hk⊢;exact h.same k ent hk bA
 ·rcases h.at_ with h2 | ⟨g',h2,h3⟩
  ·exact .inl h2
  ·refine .inr ⟨g',h2,?_⟩
   rw[bM (C2 g' h2)];exact h3
section
variable {P:Program} {n:Nat} {tb:Tb} {all:Array Oper} {s:St} {H:Heap} {md:Mode} {K:St→Heap→Prop} {r:List Oper} {dst:Option Nat} {ty:TypeId} {pos:String} {after:Array Edge} {gd:Option (Nat×Bool)}
theorem VS{f:Operand}{iO:FuncId}{args:List Value}{xs:List Operand}{ts:Array TypeId}{bE:Value→Heap→Prop}(hf:ev s f=some (.func (.func iO) #[] #[]))(hx:qn s xs=some args)
  (h:Fn P iO args.toArray H bE) (hk:∀v H',bE v H'→aT P n all .vf r (bD s dst (.val v)) H' K) (hg:cC all s gd=some true:=by rfl) (nb:Mode.vf.nb s dst=true:=by rfl):aT P n all .vf (⟨dst,.call ⟨.value f,xs.toArray,ts⟩,ty,pos,after,gd⟩::r) s H K:=
 .iY bE (.inl FC) nb (FB (cap:=[]) hf hx hg (by simpa using h)) trivial fun v H' hp _=>hk v H' hp
theorem VT:∀(us:List Value)(A B:List Value)(p:Nat),(∀(i:Nat)(w:Value),A[i]? = some w→B[i]? = some w)→p+us.length≤A.length→∀(i:Nat)(w:Value),(aL A p us)[i]? = some w→(aL B p us)[i]? = some w:=by
 intro us
 induction us with
 | nil=>intro A B p h _ i w hw;exact h i w hw
 | cons x us ih=>
  intro A B p h hl i w hw
  simp only[List.length_cons]at hl
  refine ih (A.set p x) (B.set p x) (p+1) (fun i w hw=> ?_) (by simp;omega) i w hw
  by_cases e:i=p
  ·subst e
   have hA:i<A.length:=by omega
   have hB:i<B.length:=(List.getElem?_eq_some_iff.1 (h i _ (List.getElem?_eq_getElem hA))).1
   rw[List.getElem?_set_self hA]at hw
   rw[List.getElem?_set_self hB];exact hw
  ·rw[List.getElem?_set_ne (fun e'=>e e'.symm)]at hw⊢
   exact h i w hw
theorem j9{t:TypeId}{x y:Operand}{g o sz:Nat}{ent:Ent}{v:Value}{vs:List Value}{ii:TypeInfo}(eX:md = .plain∨md = .gD)(hx:ev s x=some (.pointer (some ⟨g,o,none⟩)))(hg:H g=some ent)(cG:ent.own=true)(lx:o+sz≤ent.xs.length)
  (wD:P.info? t=some ii) (cP:ii.size=sz) (hy:ev s y=some v) (hv:v.cells=vs.toArray) (il:vs.length=sz) (h1:vs.all yy=true)
  (hk:aT P n all md r s (ins H g {ent with xs:=aL ent.xs o vs}) K) (rQ:cC all s gd=some true:=by rfl):aT P n all md (⟨none,.store t x y,ty,pos,after,gd⟩::r) s H K:=by
 refine .iY (fun _ H'=>H'=ins H g {ent with xs:=aL ent.xs o vs}) (.inr (.inl rfl)) (by rcases eX with rfl | rfl <;> rfl) (fun a w ha hd=> ?_) (by rcases eX with rfl | rfl <;> first | trivial | exact .inl rfl) fun _ H' hH _=>by rw[hH];exact hk
 refine⟨jM ha (lr (o:=⟨none,.store t x y,ty,pos,after,gd⟩) rQ),?_⟩
 obtain⟨ob,h2,cur,fz,rfl,h3,h4,h5⟩:=hd g ent hg
 have pC:=h5 cG
 subst pC
 have FJ:cur=cur.toList.toArray:=by simp
 have hlen:ent.xs.length≤cur.toList.length:=by
  rcases Nat.eq_zero_or_pos ent.xs.length with h | h
  ·omega
  ·have hx:=h4 (ent.xs.length-1) _ (List.getElem?_eq_getElem (by omega))
   have:=(Array.getElem?_eq_some_iff.1 hx).1
   simp;omega
 rw[FJ]at h2
 obtain⟨w',h6,h7,h8,h9,gN,ik,AH⟩:=JZ (P:=P) vs cur.toList w o 0 h2 (fun u hu=>List.all_eq_true.1 h1 u hu) (by omega)
 have hex:(execOp a.eval ⟨none,.store t x y,ty,pos,after,gd⟩).run P w = .ok .skip w':=by
  simp[execOp,bR ha hx,bR ha hy,Instr.storeAt,Instr.sureAddr,storeVar,sizeOf,typeInfo,wD,cP,hv,il,h6]
 unfold lQ
 rw[hex]
 refine⟨_,rfl,CY (o:= .cells (aL cur.toList (o+0) vs).toArray ent.elem (0,0)) hd h7 h8 h9 (by omega) (fun q _ hq=>ik q hq) AH ⟨_,(0,0),rfl,?_,?_,fun _=>rfl⟩ (.inl ⟨_,hg,cG,cG,rfl,rfl⟩)⟩
 ·simp[Fz,h3]
 ·intro q u hq
  have:=VT vs ent.xs cur.toList o (fun i w hw=>by have:=h4 i w hw;simpa using this) (by omega) q u hq
  simpa using this
end
end Go.aq
namespace Go.aq
open Go.Proofs Num
def gj(xs:List Value)(i sz:Nat):List Value:=(xs.drop (i*sz)).take sz
theorem Gc{xs:List Value}{i sz q:Nat}{v:Value}(h:(gj xs i sz)[q]? = some v):xs[i*sz+q]? = some v:=by
 unfold gj at h
 rw[List.getElem?_take]at h
 split at h
 ·rwa [List.getElem?_drop]at h
 ·cases h
theorem afq{xs:List Value}{i sz n:Nat}(h:xs.length=n*sz)(hi:i<n):(gj xs i sz).length=sz:=by
 unfold gj
 rw[List.length_take,List.length_drop,h]
 have:(i+1)*sz≤n*sz:=Nat.mul_le_mul_right _ hi
 rw[Nat.add_mul]at this
 omega
theorem OV{xs ys:List Value}{i sz:Nat}(h:∀q,q<sz→xs[i*sz+q]? = ys[i*sz+q]?):gj xs i sz=gj ys i sz:=by
 apply List.ext_getElem?
 intro q
 unfold gj
 rw[List.getElem?_take,List.getElem?_take]
 split
 ·rename_i hq
  rw[List.getElem?_drop,List.getElem?_drop,h q hq]
 ·rfl
theorem OW{xs:List Value}{i:Nat}{v:Value}(h:xs[i]? = some v):gj xs i 1 = [v]:=by
 apply List.ext_getElem?
 intro q
 unfold gj
 rw[List.getElem?_take,Nat.mul_one]
 split
 ·rename_i hq
  obtain rfl:q=0:=by omega
  rw[List.getElem?_drop,Nat.add_zero,h];rfl
 ·rename_i hq
  rw[List.getElem?_eq_none (by simp;omega)]
structure bG{α:Type}(P:List Value→α→Prop)(sz:Nat)(xs:List Value)(l:List α):Prop where
 len:xs.length=l.length*sz
 at_:∀(i:Nat)(a:α),l[i]? = some a→P (gj xs i sz) a
section
variable {α β:Type} {P:List Value→α→Prop} {sz:Nat} {xs ys:List Value} {l k:List α}
theorem bG.mono{P':List Value→α→Prop}(h:bG P sz xs l)(hp:∀vs a,P vs a→P' vs a):bG P' sz xs l:=⟨h.len,fun i a ha=>hp _ _ (h.at_ i a ha)⟩
theorem bG.get(h:bG P sz xs l){i:Nat}{a:α}(ha:l[i]? = some a):∃vs,vs.length=sz∧P vs a∧∀(q:Nat)(v:Value),vs[q]? = some v→xs[i*sz+q]? = some v:=
 ⟨gj xs i sz,afq h.len (List.getElem?_eq_some_iff.1 ha).1,h.at_ i a ha,fun _ _ hv=>Gc hv⟩
theorem sj:bG P sz [] ([]:List α):=⟨by simp,fun i a h=>by simp at h⟩
theorem bG.append(h:bG P sz xs l)(h':bG P sz ys k):bG P sz (xs++ys) (l++k):=by
 refine⟨by rw[List.length_append,List.length_append,h.len,h'.len,Nat.add_mul],fun i a ha=> ?_⟩
 by_cases hi:i<l.length
 ·rw[List.getElem?_append_left hi]at ha
  have e:gj (xs++ys) i sz=gj xs i sz:=OV fun q hq=>by
   have:(i+1)*sz≤l.length*sz:=Nat.mul_le_mul_right _ hi
   rw[Nat.add_mul]at this
   rw[List.getElem?_append_left (by rw[h.len];omega)]
  rw[e];exact h.at_ i a ha
 ·rw[List.getElem?_append_right (by omega)]at ha
  have e:gj (xs++ys) i sz=gj ys (i-l.length) sz:=by
   unfold gj
   have e1:i*sz=xs.length+(i-l.length)*sz:=by
    rw[h.len,←Nat.add_mul];congr 1;omega
   rw[e1,List.drop_append,List.drop_eq_nil_of_le (by omega),List.nil_append]
   congr 2;omega
  rw[e];exact h'.at_ _ a ha
theorem jq{vs:List Value}{a:α}(h:P vs a)(hl:vs.length=sz):bG P sz vs [a]:=by
 refine⟨by simp[hl],fun i b hb=> ?_⟩
 cases i with
 | zero=>
  simp only[List.getElem?_cons_zero,Option.some.injEq]at hb
  subst hb
  unfold gj
  rw[Nat.zero_mul,List.drop_zero,List.take_of_length_le (by omega)];exact h
 | succ i=>simp at hb
theorem OX:∀(vs xs:List Value)(off i:Nat),off+vs.length≤xs.length→(aL xs off vs)[i]? = if off≤i∧i<off+vs.length then vs[i-off]? else xs[i]? :=by
 intro vs
 induction vs with
 | nil=>intro xs off i _;simp only[aL,List.length_nil,Nat.add_zero];rw[if_neg (by omega)]
 | cons v vs ih=>
  intro xs off i h
  simp only[List.length_cons]at h
  simp only[aL,List.length_cons]
  rw[ih _ _ _ (by simp;omega)]
  by_cases e:i=off
  ·subst e
   rw[if_neg (by omega),if_pos (by omega),Nat.sub_self,List.getElem?_set_self (by omega)];rfl
  ·by_cases e2:off+1≤i∧i<off+1+vs.length
   ·rw[if_pos e2,if_pos (by omega)]
    have:i-off=(i-(off+1))+1:=by omega
    rw[this];rfl
   ·rw[if_neg e2,if_neg (by omega),List.getElem?_set_ne (by omega)]
theorem bG.set(h:bG P sz xs l){i:Nat}(hi:i<l.length){vs:List Value}{a:α}(hp:P vs a)(hv:vs.length=sz):bG P sz (aL xs (i*sz) vs) (l.set i a):=by
 have lx:(i+1)*sz≤l.length*sz:=Nat.mul_le_mul_right _ hi
 rw[Nat.add_mul,Nat.one_mul]at lx
 have hle:i*sz+vs.length≤xs.length:=by rw[h.len,hv];exact lx
 refine⟨by rw[Fz,List.length_set];exact h.len,fun j b hb=> ?_⟩
 by_cases e:j=i
 ·subst e
  rw[List.getElem?_set_self hi]at hb
  cases hb
  have e:gj (aL xs (j*sz) vs) j sz=vs:=by
   apply List.ext_getElem?
   intro q
   unfold gj
   rw[List.getElem?_take]
   split
   ·rename_i hq
    rw[List.getElem?_drop,OX _ _ _ _ hle,if_pos (by omega)]
    congr 1;omega
   ·rw[List.getElem?_eq_none (by omega)]
  rw[e];exact hp
 ·rw[List.getElem?_set_ne (fun e'=>e e'.symm)]at hb
  have e:gj (aL xs (i*sz) vs) j sz=gj xs j sz:=OV fun q hq=>by
   rw[OX _ _ _ _ hle,if_neg]
   intro⟨h1,h2⟩
   rw[hv]at h2
   rcases Nat.lt_or_gt_of_ne e with bP | Vs
   ·have:(j+1)*sz≤i*sz:=Nat.mul_le_mul_right _ bP
    rw[Nat.add_mul]at this;omega
   ·have:(i+1)*sz≤j*sz:=Nat.mul_le_mul_right _ Vs
    rw[Nat.add_mul]at this;omega
  rw[e];exact h.at_ j b hb
theorem Gd{zs:List Value}{a:α}(hz:zs.length=sz)(hp:P zs a)(n:Nat):bG P sz (cR zs (n*sz)) (List.replicate n a):=by
 refine⟨by rw[UW,List.length_replicate],fun i b hb=> ?_⟩
 rw[List.getElem?_replicate]at hb
 split at hb
 ·rename_i hi
  cases hb
  have e:gj (cR zs (n*sz)) i sz=zs:=by
   apply List.ext_getElem?
   intro q
   unfold gj
   rw[List.getElem?_take]
   split
   ·rename_i hq
    rw[List.getElem?_drop,List.getElem?_eq_getElem (by omega:q<zs.length)]
    exact ac6 hz hi (List.getElem?_eq_getElem (by omega))
   ·rw[List.getElem?_eq_none (by omega)]
  rw[e];exact hp
 ·cases hb
theorem bG.drop(h:bG P sz xs l)(n:Nat):bG P sz (xs.drop (n*sz)) (l.drop n):=by
 refine⟨by rw[List.length_drop,List.length_drop,h.len,Nat.sub_mul],fun i a ha=> ?_⟩
 rw[List.getElem?_drop]at ha
 have e:gj (xs.drop (n*sz)) i sz=gj xs (n+i) sz:=by
  unfold gj
  rw[List.drop_drop,Nat.add_mul]
 rw[e];exact h.at_ _ a ha
theorem bG.take(h:bG P sz xs l){n:Nat}(hn:n≤l.length):bG P sz (xs.take (n*sz)) (l.take n):=by
 have hm:n*sz≤l.length*sz:=Nat.mul_le_mul_right _ hn
 refine⟨by rw[List.length_take,List.length_take,h.len,Nat.min_eq_left hn,Nat.min_eq_left hm],fun i a ha=> ?_⟩
 rw[List.getElem?_take]at ha
 split at ha
 ·rename_i hi
  have e:gj (xs.take (n*sz)) i sz=gj xs i sz:=OV fun q hq=>by
   have:(i+1)*sz≤n*sz:=Nat.mul_le_mul_right _ hi
   rw[Nat.add_mul]at this
   rw[List.getElem?_take,if_pos (by omega)]
  rw[e];exact h.at_ _ a ha
 ·cases ha
theorem bG.one(h:bG P 1 xs l){i:Nat}{a:α}(ha:l[i]? = some a):∃v,xs[i]? = some v∧P [v] a:=by
 have bP:=(List.getElem?_eq_some_iff.1 ha).1
 have hi:i<xs.length:=by rw[h.len];omega
 refine⟨xs[i],List.getElem?_eq_getElem hi,?_⟩
 have:=h.at_ i a ha
 rwa [OW (List.getElem?_eq_getElem hi)]at this
end
def aN{α:Type}(P:Heap→List Value→α→Prop)(sz:Nat)(H:Heap)(v:Value)(l:List α):Prop:=∃A c xs,v = .slice A l.length c∧l.length≤c∧Rd H A xs∧bG (P H) sz xs l
def Up{α:Type}(P:Heap→List Value→α→Prop):Prop:=∀H H' vs a,Heap.le H H'→P H vs a→P H' vs a
section
variable {α:Type} {P:Heap→List Value→α→Prop} {sz:Nat} {H H':Heap} {v:Value} {l:List α}
theorem aN.le(h:aN P sz H v l)(up:Up P)(hl:Heap.le H H'):aN P sz H' v l:=by
 obtain⟨A,c,xs,h1,h2,h3,h4⟩:=h
 exact⟨A,c,xs,h1,h2,h3.le hl,h4.mono fun vs a=>up H H' vs a hl⟩
theorem aN.nil:aN P sz H (.slice none 0 0) ([]:List α):=⟨none,0,[],rfl,Nat.le_refl _,Rd.nil _ _,sj⟩
def Ge{α:Type}(P:Heap→List Value→α→Prop)(e sz:Nat)(H:Heap)(v:Value)(l:List α):Prop:=∃xs,bW H v e sz l.length xs∧bG (P H) sz xs l
theorem Ge.sl{e:Nat}(h:Ge P e sz H v l):aN P sz H v l:=by
 obtain⟨xs,h1,h2⟩:=h
 obtain⟨A,c,rfl⟩:=h1.form
 refine⟨A,c,xs,rfl,?_,h1.rd,h2⟩
 rcases h1.2 with ⟨k1,k2⟩ | ⟨g,cap,k1,_,k3,_⟩
 ·omega
 ·cases k1;exact k3
end
def bQ(H:Heap)(vs:List Value)(q:Rat):Prop:=
 ∃(n d:Int)(b:Option Addr),vs = [.int .i64 n,.int .i64 d,.pointer b]∧
  ((b=none∧n=q.num∧d=q.den∧-9223372036854775807≤n∧n≤9223372036854775807∧d≤9223372036854775807)∨
   ∃ad f u w,b=some ad∧bH H (.agg #[.bool f,u,w]) q∧cell H ad=some (.bool f)∧cell H (ad.add 1)=some u∧cell H (ad.add 2)=some w)
theorem bQ.up:Up bQ:=fun H H' vs q hl h=>by
 obtain⟨n,d,b,h1,h2⟩:=h
 refine⟨n,d,b,h1,?_⟩
 rcases h2 with h2 | ⟨ad,f,u,w,h2,h3,h4,h5,h6⟩
 ·exact .inl h2
 ·exact .inr ⟨ad,f,u,w,h2,h3.le hl,cF hl h4,cF hl h5,cF hl h6⟩
theorem bQ.le{H H':Heap}{vs:List Value}{q:Rat}(h:bQ H vs q)(hl:Heap.le H H'):bQ H' vs q:=bQ.up H H' vs q hl h
theorem bQ.len{H:Heap}{vs:List Value}{q:Rat}(h:bQ H vs q):vs.length=3:=by
 obtain⟨n,d,b,rfl,_⟩:=h;rfl
def tM(H:Heap)(q:Rat)(v:Value)(H':Heap):Prop:=Heap.le H H'∧∃vs,v = .agg vs.toArray∧bQ H' vs q
theorem tM.le{H:Heap}{q:Rat}{v:Value}{H':Heap}(h:tM H q v H'):Heap.le H H':=h.1
theorem VU(q:Rat):eY q=if q.num.natAbs=0 then 0 else if decide (q.num<0)then -1 else 1:=by
 have:=Kt (f:=decide (q.num<0)) (n:=q.num.natAbs) (d:=q.den) (Nat.pos_of_ne_zero q.den_nz)
 rwa [wK]at this
theorem KH{q:Rat}{k:Nat}:aM q≤k↔q.num.natAbs<B^k∧q.den<B^k:=by
 unfold aM
 rw[Nat.max_le,jd,jd]
theorem VV{q:Rat}{n:Int}{d k:Nat}(hd:0<d)(h:q=mkRat n d)(h1:n.natAbs<B^k)(h2:d<B^k):aM q≤k:=by
 obtain⟨m,hm,h3,h4⟩:=Rat.mkRat_num_den (n:=n) (d:=d) (by omega) (n':=q.num) (d':=q.den) (z':=q.den_nz) (c:=q.reduced) h.symm
 rw[KH]
 refine⟨?_,?_⟩
 ·rw[h3,Int.natAbs_mul,Int.natAbs_natCast]at h1
  exact Nat.lt_of_le_of_lt (Nat.le_mul_of_pos_right _ (by omega)) h1
 ·rw[h4]at h2
  exact Nat.lt_of_le_of_lt (Nat.le_mul_of_pos_right _ (by omega)) h2
theorem KI(q:Rat):q.num.natAbs<B^aM q∧q.den<B^aM q:=KH.1 (Nat.le_refl _)
theorem wX(q:Rat):aM (-q)=aM q:=by unfold aM;rw[Rat.neg_num,Int.natAbs_neg,Rat.neg_den]
theorem sk(p q:Rat):aM (p*q)≤aM p+aM q:=by
 have h1:=KI p
 have h2:=KI q
 refine VV (n:=p.num*q.num) (d:=p.den*q.den) (Nat.mul_pos (Nat.pos_of_ne_zero p.den_nz) (Nat.pos_of_ne_zero q.den_nz)) ?_ ?_ ?_
 ·rw[←Rat.mkRat_mul_mkRat,Rat.mkRat_self,Rat.mkRat_self]
 ·rw[Int.natAbs_mul,Nat.pow_add];exact Nat.mul_lt_mul'' h1.1 h2.1
 ·rw[Nat.pow_add];exact Nat.mul_lt_mul'' h1.2 h2.2
theorem VW(p q:Rat):aM (p+q)≤aM p+aM q+1:=by
 have h1:=KI p
 have h2:=KI q
 have hp:=Nat.pos_of_ne_zero p.den_nz
 have hq:=Nat.pos_of_ne_zero q.den_nz
 have hB:2*(B^aM p*B^aM q)≤B^(aM p+aM q+1):=by
  rw[Nat.pow_succ,Nat.pow_add,Nat.mul_comm 2];exact Nat.mul_le_mul_left _ (by decide)
 refine VV (n:=p.num*q.den+q.num*p.den) (d:=p.den*q.den) (Nat.mul_pos hp hq) ?_ ?_ ?_
 ·rw[Rat.add_def']
 ·have h3:(p.num*q.den+q.num*p.den).natAbs≤p.num.natAbs*q.den+q.num.natAbs*p.den:=by
   have:=Int.natAbs_add_le (p.num*q.den) (q.num*p.den)
   rwa [Int.natAbs_mul,Int.natAbs_mul,Int.natAbs_natCast,Int.natAbs_natCast]at this
  have h4:=Nat.mul_lt_mul'' h1.1 h2.2
  have h5:=Nat.mul_lt_mul'' h2.1 h1.2
  rw[Nat.mul_comm (B^aM q)]at h5
  omega
 ·have h4:=Nat.mul_lt_mul'' h1.2 h2.2
  omega
theorem so(p q:Rat):aM (p-q)≤aM p+aM q+1:=by
 rw[Rat.sub_eq_add_neg]
 have:=VW p (-q)
 rwa [wX]at this
end Go.aq
