/- Part 3 of the proof: Nat9, Nat10, Nat11, Q, RDat, Rat1, Rat2, Rat3, Eng12, SDat. -/
import Derived.Test.YtgjimcieaecdkaaGreatA02
set_option linter.unusedVariables false
namespace Go.ar
open Go.Proofs Num
theorem wV(H:Heap)(g:Nat)(lo w hi:List Nat)(N:Nat):Rd (ins H g (cL (lo++w++hi) N)) (some ⟨g,lo.length,none⟩) (U w):=fun i v hv=>by
 refine⟨_,rfl,?_⟩
 have a7:i<(U w).length:=(List.getElem?_eq_some_iff.1 hv).1
 have e:(⟨g,lo.length,none⟩:Addr).add i=⟨g,lo.length+i,none⟩:=by
  unfold Addr.add;split
  ·rename_i e0;rw[e0,Nat.add_zero]
  ·rfl
 rw[e]
 simp only[cell,bx,cL]
 rw[Dg,Dg,List.append_assoc,List.getElem?_append_right (by rw[uz];omega),uz,Nat.add_sub_cancel_left,List.getElem?_append_left a7]
 exact hv
theorem Dq{H:Heap}{g N k:Nat}{lo w hi:List Nat}{a:Int}{y:Nat}(h:a=y)(hk:k<w.length):ins (ins H g (cL (lo++w++hi) N)) g {cL (lo++w++hi) N with xs:=aC (cL (lo++w++hi) N).xs (lo.length+k*1) [.int .u32 a]}=ins H g (cL (lo++w.set k y++hi) N):=by
 subst h
 rw[rX]
 simp only[cL,aC,Nat.mul_one]
 congr 2
 rw[G9]
 congr 1
 rw[List.append_assoc,List.set_append_right _ _ (by omega),Nat.add_sub_cancel_left,List.set_append_left _ _ hk,List.append_assoc]
theorem Hm{a b:List Nat}{i:Nat}(h:a.drop i=b.drop i):a[i]? = b[i]? :=by
 have:=congrArg (·[0]?) h
 simpa using this
theorem drop_set{a b:List Nat}{i y:Nat}(h:a.drop i=b.drop i):(a.set i y).drop (i+1)=b.drop (i+1):=by
 rw[List.drop_set_of_lt (Nat.lt_succ_self _)]
 have:=congrArg (List.drop 1) h
 simpa [List.drop_drop]using this
theorem Vy{H:Heap}{g N:Nat}{lo w hi b:List Nat}{c c' top:Nat}{A':Option Addr}(hg:H g=none)(hr:Rd H A' (U b))(uG:w.length=b.length+1)(bU:2≤b.length)(wo:(b.length:Int)≤8796093022208)(sH:Lt w)(eD:Lt b)(wT:b[b.length-1]? = some top)(Hn:0<top)(hq:val w<B*val b):
 Fn Tryz.prog 121 #[.slice (some ⟨g,lo.length,none⟩) (b.length+1) c,.slice A' b.length c'] (ins H g (cL (lo++w++hi) N)) (fun v H'=>∃w',H'=ins H g (cL (lo++w'++hi) N)∧w'.length=w.length∧Lt w'∧val w'=val w%val b∧v = .int .u32 ((val w/val b:Nat):Int)):=by
 obtain⟨k,hk⟩:∃k,b.length=k+2:=⟨b.length-2,by omega⟩
 have lR:=fun e=>hr.le (Heap.a0 (g:=g) e hg)
 have qT:((b.length:Int)-1).toNat=k+1:=by omega
 have uH:((b.length:Int)-2).toNat=k:=by omega
 rw[show b.length-1=k+1 by omega]at wT
 obtain⟨next,zA⟩:∃x,b[k]? = some x:=⟨_,List.getElem?_eq_getElem (by omega)⟩
 obtain⟨u2,eo⟩:∃x,w[k]? = some x:=⟨_,List.getElem?_eq_getElem (by omega)⟩
 obtain⟨u1,dz⟩:∃x,w[k+1]? = some x:=⟨_,List.getElem?_eq_getElem (by omega)⟩
 obtain⟨un,nE⟩:∃x,w[b.length]? = some x:=⟨_,List.getElem?_eq_getElem (by omega)⟩
 have Ho:=eD.get wT
 have MI:=eD.get zA
 have Vz:=sH.get eo
 have VA:=sH.get dz
 have VB:=sH.get nE
 have hV:=Vs hk zA wT
 have hW:=Vr (by omega) eo dz (by rw[←hk];exact nE)
 have fG:=wU eD (k:=k) (by omega)
 have VD:=wU sH (k:=k) (by omega)
 have VE:=Vo hV hW fG MI hq
 have VF:=pJ eD
 have zD:0<val b:=by
  rcases Nat.eq_zero_or_pos (val b)with e | e
  ·rw[e,Nat.mul_zero]at hq;omega
  ·exact e
 have VG:val w/val b<B:=Nat.div_lt_of_lt_mul (by rwa [Nat.mul_comm]at hq)
 obtain⟨q,uI⟩:∃q,q=val w/val b:=⟨_,rfl⟩
 rw[←uI]at VG⊢
 have MJ:val w=val (w.take b.length)+B^b.length*un:=by rw[←ij nE,List.take_of_length_le (by omega)]
 have hB:=bG
 rw[bG]at Ho MI Vz VA VB;refine aW (args:=[_,_]) Tryz.func121 rfl rfl Tryz.ntmps121 rfl rfl fun w0=> ?_;refine aj [0,1] rfl ?_;refine af (ab 1 rfl (ae [0,1] ?_));refine af (ab 3 rfl (ae [0,1,5] ?_));refine cg .bR [0,1,2,3,4,5,6,7,8,9,10,11,12,13] follows (by kernel_rfl) ?_;refine ab 2 rfl (di rfl rfl ⟨by omega,by omega⟩ (a9 ag rfl rfl rfl rfl rfl (lR _) (by rw[qT];exact cH wT) (by omega) (by omega) fun _=> ?_));refine cF ag rfl rfl rfl ⟨by omega,by omega⟩ (ab 2 rfl (di rfl rfl ⟨by omega,by omega⟩ (a9 ag rfl rfl rfl rfl rfl (lR _) (by rw[uH];exact cH zA) (by omega) (by omega) fun _=> ?_)));refine cF ag rfl rfl rfl ⟨by omega,by omega⟩ (ab 2 rfl (ae [0,1,5,6,7] ?_));refine cg .bR [0,1,2,3,4,5,6,7,8,9,10,11,12,13] follows (by kernel_rfl) ?_;refine ab 2 rfl (a9 ag rfl rfl rfl rfl rfl (wV _ _ _ _ _ _) (cH nE) (by omega) (by omega) fun _=>(cF ag rfl rfl rfl ⟨by omega,by omega⟩ (gG rfl rfl ⟨by omega,by omega⟩ (ab 2 rfl (di rfl rfl ⟨by omega,by omega⟩ (a9 ag rfl rfl rfl rfl rfl (wV _ _ _ _ _ _) (by rw[qT];exact cH dz) (by omega) (by omega) fun _=> ?_))))))
 refine cF ag rfl rfl rfl ⟨by omega,by omega⟩ (aO rfl rfl ⟨by omega,by omega⟩ (ab 1 rfl (ae [0,1,5,6,7,8] ?_)));have mo:0≤((un:Int)*1000000000+(u1:Int))/(top:Int):=Int.ediv_nonneg (by omega) (by omega);have oI:((un:Int)*1000000000+(u1:Int))/(top:Int)≤(un:Int)*1000000000+(u1:Int):=Int.ediv_le_self _ (by omega);refine cg .bR [0,1,2,3,4,5,6,7] follows (by kernel_rfl) ?_;refine ab 2 rfl (jy rfl rfl (by omega) (by omega) ⟨by omega,by omega⟩ (ab 2 rfl (kp rfl rfl (by omega) (by omega) (ab 2 rfl (ae [0,1,5,6,7,9,10] ?_)))));refine oD (fun(aU:Nat)=>put (put (put (put (emp) 0 (.val (.slice (some ⟨g,lo.length,none⟩) (b.length+1) c))) 1 (.val (.slice A' b.length c'))) 5 (.val (.int .i64 (b.length:Int)))) 9 (.val (.int .u64 (aU:Int)))) (fun(aU:Nat) H'=>H'=ins H g (cL (lo++w++hi) N)∧q≤aU∧aU≤q+1∧aU<1000000000) ?_ ?_
 ·
  refine aD ?_
  refine jS (fun(aU:Nat)(rest:Nat)=>aU) (fun(aU:Nat)(rest:Nat)=>put (put (put (put (put (put (put (emp) 0 (.val (.slice (some ⟨g,lo.length,none⟩) (b.length+1) c))) 1 (.val (.slice A' b.length c'))) 5 (.val (.int .i64 (b.length:Int)))) 6 (.val (.int .u64 (top:Int)))) 7 (.val (.int .u64 (next:Int)))) 9 (.val (.int .u64 (aU:Int)))) 10 (.val (.int .u64 (rest:Int)))) (fun(aU:Nat)(rest:Nat) H'=>H'=ins H g (cL (lo++w++hi) N)∧aU*top+rest=un*B+u1∧q≤aU∧aU≤un*1000000000+u1∧rest≤2000000000) ((un*1000000000+u1)/top) ((un*1000000000+u1)%top) (⟨rfl,by rw[bG,Nat.mul_comm];exact Nat.div_add_mod _ _,by
   have h1:=Nat.div_add_mod (un*B+u1) top;have h2:=Nat.mod_lt (un*B+u1) Hn
   have h3:val w<((un*B+u1)/top+1)*val b:=by
    have e1:B^k*(B*(un*B+u1))+B^k*B≤B^k*(B*(((un*B+u1)/top+1)*top)):=by
     rw[←Nat.mul_add];refine Nat.mul_le_mul_left _ ?_;rw[←Nat.mul_succ];refine Nat.mul_le_mul_left _ ?_;rw[Nat.add_mul,Nat.one_mul,Nat.mul_comm _ top];omega
    have e2:((un*B+u1)/top+1)*(B^k*(B*top))≤((un*B+u1)/top+1)*val b:=Nat.mul_le_mul_left _ (by rw[hV,Nat.mul_add (B^k)];omega)
    have e3:((un*B+u1)/top+1)*(B^k*(B*top))=B^k*(B*(((un*B+u1)/top+1)*top)):=by rw[Nat.mul_left_comm _ (B^k),Nat.mul_left_comm _ B]
    have e4:val w<B^k*(B*(un*B+u1))+B^k*B:=by
     have:B^k*(u2+1)≤B^k*B:=Nat.mul_le_mul_left _ (by omega);rw[hW,Nat.mul_add (B^k)];rw[Nat.mul_add (B^k)]at this;omega
    omega
   have h4:=Hk uI h3
   rw[bG]at h4;omega,Nat.div_le_self _ _,by have:=Nat.mod_lt (un*1000000000+u1) Hn;omega⟩) ay ?_
  rintro aU rest H1 ⟨rfl,dN,zE,hgu,sG⟩;refine aq ?_
  by_cases hrB:rest<1000000000
  by_cases Dp:aU<1000000000
  ·
   skip
   refine af (ab 1 rfl (aS true rfl rfl (sA (by omega)) (ab 2 rfl (aS false rfl rfl (Mt (by omega)) (vr 3 ?_)))));have Dr:aU*next≤999999999*999999999:=Nat.mul_le_mul (by omega) (by omega)
   have acO:(aU:Int)*(next:Int)=((aU*next:Nat):Int):=by simp
   refine gG rfl rfl ⟨by omega,by omega⟩ (ab 1 rfl (gG rfl rfl ⟨by omega,by omega⟩ (ab 2 rfl (di rfl rfl ⟨by omega,by omega⟩ (a9 ag rfl rfl rfl rfl rfl (wV _ _ _ _ _ _) (by rw[uH];exact cH eo) (by omega) (by omega) fun _=> ?_)))));refine cF ag rfl rfl rfl ⟨by omega,by omega⟩ (aO rfl rfl ⟨by omega,by omega⟩ (ab 3 rfl (ae [0,1,5,6,7,9,10,71] ?_)));refine az rfl (fun hb=> ?_) (fun hb=> ?_)
   ·
    have hb:rest*1000000000+u2<aU*next:=by simp at hb;omega
    have MK:=Hk uI (Vm hV hW VD dN (by rw[bG];omega));refine ax (aj [0,1,5,6,7,9,10] rfl ?_);refine aD (af (ab 1 rfl (di rfl rfl ⟨by omega,by omega⟩ (ab 1 rfl (ae [0,1,5,6,7,9,10] ?_)))));refine aF rfl (ab 2 rfl (aO rfl rfl ⟨by omega,by omega⟩ (ab 1 rfl (aA ?_))));exact⟨aU-1,rest+top,by omega,ay,rfl,MG dN (by omega),by omega,by omega,by omega⟩
   have hb:aU*next≤rest*1000000000+u2:=by simp at hb;omega
   refine bC ?_;exact⟨aU,ay,rfl,zE,Vq uI zD (Vn hV hW fG Hn dN (by rw[bG];omega) (by omega)),Dp⟩
  ·
   skip
   refine af (ab 1 rfl (aS true rfl rfl (sA (by omega)) (ab 2 rfl (aS true rfl rfl (Ms (by omega)) (ab 16 rfl (ae [0,1,5,6,7,9,10,71] ?_))))));refine eL rfl (ax (aj [0,1,5,6,7,9,10] rfl ?_));refine aD (af (ab 1 rfl (di rfl rfl ⟨by omega,by omega⟩ (ab 1 rfl (ae [0,1,5,6,7,9,10] ?_)))));refine aF rfl (ab 2 rfl (aO rfl rfl ⟨by omega,by omega⟩ (ab 1 rfl (aA ?_))));exact⟨aU-1,rest+top,by omega,ay,rfl,MG dN (by omega),by omega,by omega,by omega⟩
  ·
   skip
   refine af (ab 1 rfl (aS false rfl rfl (pM (by omega)) (ab 19 rfl (ae [0,1,5,6,7,9,10,71] ?_))));refine dG rfl (bC ?_);have sI:=Vp hV hW fG (by omega) VE dN (by omega);exact⟨aU,ay,rfl,zE,by have:=(Nat.le_div_iff_mul_le zD).2 sI.2;rw[←uI]at this;omega,by omega⟩
 ·
  rintro aU H2 ⟨rfl,bQ,bF,Dp⟩;refine af (ab 1 rfl (ae [0,1,5,9,11] ?_));refine aq (af (ab 2 rfl (ae [0,1,5,9,11,77,78] ?_)));refine aD (jb (fun(i:Nat)(w1:List Nat)(br:Nat)=>b.length-i) (fun(i:Nat)(w1:List Nat)(br:Nat)=>put (put (put (put (put (put (put (emp) 0 (.val (.slice (some ⟨g,lo.length,none⟩) (b.length+1) c))) 1 (.val (.slice A' b.length c'))) 5 (.val (.int .i64 (b.length:Int)))) 9 (.val (.int .u64 (aU:Int)))) 11 (.val (.int .i64 (br:Int)))) 77 (.val (.int .i64 (b.length:Int)))) 78 (.val (.int .i64 (i:Int)))) (fun(i:Nat)(w1:List Nat)(br:Nat) H'=>H'=ins H g (cL (lo++w1++hi) N)∧i≤b.length∧w1.length=w.length∧Lt w1∧w1.drop i=w.drop i∧br≤1000000000∧val (w.take i)+B^i*br=val (w1.take i)+aU*val (b.take i)) 0 w 0 (⟨rfl,by omega,rfl,sH,rfl,by omega,by simp[val]⟩) ay ?_);rintro i w1 br H1 ⟨rfl,Hp,Ds,zF,jC,pQ,hv⟩;refine af (ab 1 rfl (ae [0,1,5,9,11,77,78,79] ?_));refine aq (az rfl (fun hb=> ?_) (fun hb=> ?_))
  ·
   have hb:i<b.length:=by simpa using hb
   obtain⟨d,hd⟩:∃d,w[i]? = some d:=⟨_,List.getElem?_eq_getElem (by omega)⟩;obtain⟨p,hp⟩:∃p,b[i]? = some p:=⟨_,List.getElem?_eq_getElem (by omega)⟩;have jf:=sH.get hd;have sC:=eD.get hp;rw[bG]at jf sC
   have ej:w1[i]? = some d:=by rw[Hm jC];exact hd
   have hgp:aU*p≤999999999*999999999:=Nat.mul_le_mul (by omega) (by omega)
   have acP:(aU:Int)*(p:Int)=((aU*p:Nat):Int):=by simp
   refine ax (aj [0,1,5,9,11,77,78] rfl ?_);refine aq (aD (af (ab 2 rfl (ae [0,1,5,9,11,12,77,78] ?_))));refine cg .bR [0,1,2,3,4,5,6,7,8,9,10,11,12,13,14,15,16,17] follows (by kernel_rfl) ?_;refine ab 2 rfl (a9 ag rfl rfl rfl rfl rfl (wV _ _ _ _ _ _) (cH ej) (by omega) (by omega) fun _=>(cF ag rfl rfl rfl ⟨by omega,by omega⟩ (ab 1 rfl (di rfl rfl ⟨by omega,by omega⟩ (ab 3 rfl (a9 ag rfl rfl rfl rfl rfl (lR _) (cH hp) (by omega) (by omega) fun _=>(cF ag rfl rfl rfl ⟨by omega,by omega⟩ (gG rfl rfl ⟨by omega,by omega⟩ (kp rfl rfl (by omega) (by omega) (cF ag rfl rfl rfl ⟨by omega,by omega⟩ (di rfl rfl ⟨by omega,by omega⟩ (ab 1 rfl (ae [0,1,5,9,12,13,77,78] ?_)))))))))))));refine af (ab 3 rfl (a9 ag rfl rfl rfl rfl rfl (lR _) (cH hp) (by omega) (by omega) fun _=>(cF ag rfl rfl rfl ⟨by omega,by omega⟩ (gG rfl rfl ⟨by omega,by omega⟩ (jy rfl rfl (by omega) (by omega) ⟨by omega,by omega⟩ (cF ag rfl rfl rfl ⟨by omega,by omega⟩ (ab 1 rfl (ae [0,1,5,9,11,12,13,77,78] ?_))))))));refine aq ?_
   refine aD (gj (fun(t:Nat)=>3-t) (fun(t:Nat)=>put (put (put (put (put (put (put (put (put (emp) 0 (.val (.slice (some ⟨g,lo.length,none⟩) (b.length+1) c))) 1 (.val (.slice A' b.length c'))) 5 (.val (.int .i64 (b.length:Int)))) 9 (.val (.int .u64 (aU:Int)))) 11 (.val (.int .i64 ((aU*p/1000000000+t:Nat):Int)))) 12 (.val (.int .i64 (i:Int)))) 13 (.val (.int .i64 ((d:Int)-br-((aU*p%1000000000:Nat):Int)+t*1000000000)))) 77 (.val (.int .i64 (b.length:Int)))) 78 (.val (.int .i64 (i:Int)))) (fun(t:Nat) H'=>H'=ins H g (cL (lo++w1++hi) N)∧t≤2∧(d:Int)-br-((aU*p%1000000000:Nat):Int)+t*1000000000<1000000000) 0 (⟨rfl,by omega,by omega⟩) ay ?_);rintro t H1 ⟨rfl,ht,hsB⟩;refine aq (af (ab 2 rfl (ae [0,1,5,9,11,12,13,77,78,108] ?_)));refine az rfl (fun hb=> ?_) (fun hb=> ?_)
   ·
    simp at hb
    refine ax (aj [0,1,5,9,11,12,13,77,78] rfl ?_);refine aD (af (ab 1 rfl (aO rfl rfl ⟨by omega,by omega⟩ (ab 1 rfl (ae [0,1,5,9,11,12,13,77,78] ?_)))));refine aF rfl (ab 1 rfl (aO rfl rfl ⟨by omega,by omega⟩ (ab 1 rfl (aA ?_))));exact⟨t+1,by omega,ay,rfl,by omega,by omega⟩
   simp at hb
   refine bC (aj [0,1,5,9,11,12,13,77,78] rfl ?_);refine aF rfl (ab 3 rfl (cF ag rfl rfl rfl ⟨by omega,by omega⟩ ?_));obtain⟨ti,ak,al⟩:=kU;refine dP (.inl rfl) ag rfl rfl rfl (by omega) (by omega) (bx _ _ _) rfl (by rw[kW];simp;omega) ak al (fun _=>rfl) rfl rfl rfl fun _=> ?_;refine aA (aj [0,1,5,9,11,77,78] rfl ?_);refine aF rfl (aO rfl rfl ⟨by omega,by omega⟩ (ab 1 rfl (aA ?_)));obtain⟨y,hy⟩:∃y:Nat,(y:Int)=(d:Int)-br-((aU*p%1000000000:Nat):Int)+t*1000000000:=⟨((d:Int)-br-((aU*p%1000000000:Nat):Int)+t*1000000000).toNat,by omega⟩;have dO:=zr (o:=w1.take i) (s:=y) (br':=aU*p/1000000000+t) (d:=d) (e:=aU*p) (ta':=val (w.take (i+1))) (tb':=aU*val (b.take (i+1))) (by simp;omega) hv (by rw[bG];omega) (ij hd) (by rw[ij hp,Nat.mul_add,Nat.mul_left_comm]);rw[←sE (by omega)]at dO;exact⟨i+1,w1.set i y,aU*p/1000000000+t,by omega,ay,by rw[Dq (y:=y) hy.symm (by rw[Int.toNat_natCast];omega)];rfl,by omega,by simp[Ds],zF.set (by rw[bG];omega),drop_set jC,by omega,dO⟩
  have hb:b.length≤i:=by simpa using hb
  obtain rfl:i=b.length:=by omega
  rw[List.take_length]at hv
  have gI:w1[b.length]? = some un:=by rw[Hm jC];exact nE
  refine bC (aj [0,1,5,9,11] rfl ?_);refine af (ab 2 rfl (a9 ag rfl rfl rfl rfl rfl (wV _ _ _ _ _ _) (cH gI) (by omega) (by omega) fun _=>(cF ag rfl rfl rfl ⟨by omega,by omega⟩ (ab 1 rfl (di rfl rfl ⟨by omega,by omega⟩ (ab 1 rfl (ae [0,1,5,9,14] ?_)))))));refine aq (af (ab 2 rfl (ae [0,1,5,9,14,127] ?_)));refine az rfl (fun hb=> ?_) (fun hb=> ?_)
  ·
   have hb:br≤un:=by simp at hb;omega
   obtain⟨jR,kR⟩:=Vt MJ hv hb uI bQ zD;refine af (ab 3 rfl (cF ag rfl rfl rfl ⟨by omega,by omega⟩ ?_));obtain⟨ti,ak,al⟩:=kU;refine dP (.inl rfl) ag rfl rfl rfl (by omega) (by omega) (bx _ _ _) rfl (by rw[kW];simp;omega) ak al (fun _=>rfl) rfl rfl rfl fun _=> ?_;refine ae [9] ?_;refine af (ab 1 rfl (cF ag rfl rfl rfl ⟨by omega,by omega⟩ (ab 1 rfl (ae [4] ?_))));refine aw ⟨.inr rfl,_,.tmp rfl (.nil),?_⟩;refine⟨w1.set b.length (un-br),by rw[Dq (y:=un-br) (by omega) (by rw[Int.toNat_natCast];omega)];rfl,by simp[Ds],zF.set (by rw[bG];omega),?_,by rw[←jR];rfl⟩;rw[←kR,←List.take_length (l:=w1.set b.length (un-br)),List.length_set,Ds,uG,sE (by omega),nA,List.length_take,Nat.min_eq_left (by omega)]
  have hb:un<br:=by simp at hb;omega
  refine ax (aj [0,1,5,9,14] rfl ?_);refine af (ab 1 rfl (ae [0,1,5,9,14,15] ?_));refine aq (af (ab 2 rfl (ae [0,1,5,9,14,15,135,136] ?_)));refine aD (jb (fun(i:Nat)(w2:List Nat)(cr:Nat)=>b.length-i) (fun(i:Nat)(w2:List Nat)(cr:Nat)=>put (put (put (put (put (put (put (put (emp) 0 (.val (.slice (some ⟨g,lo.length,none⟩) (b.length+1) c))) 1 (.val (.slice A' b.length c'))) 5 (.val (.int .i64 (b.length:Int)))) 9 (.val (.int .u64 (aU:Int)))) 14 (.val (.int .i64 ((un:Int)-br)))) 15 (.val (.int .u32 (cr:Int)))) 135 (.val (.int .i64 (b.length:Int)))) 136 (.val (.int .i64 (i:Int)))) (fun(i:Nat)(w2:List Nat)(cr:Nat) H'=>H'=ins H g (cL (lo++w2++hi) N)∧i≤b.length∧w2.length=w.length∧Lt w2∧w2.drop i=w1.drop i∧cr≤1∧val (w2.take i)+B^i*cr=val (w1.take i)+val (b.take i)) 0 w1 0 (⟨rfl,by omega,Ds,zF,rfl,by omega,by simp[val]⟩) ay ?_);rintro i w2 cr H1 ⟨rfl,acQ,Hq,Hr,ML,iH,de⟩;refine af (ab 1 rfl (ae [0,1,5,9,14,15,135,136,137] ?_));refine aq (az rfl (fun hb=> ?_) (fun hb=> ?_))
  ·
   have hb:i<b.length:=by simpa using hb
   obtain⟨d,hd⟩:∃d,w1[i]? = some d:=⟨_,List.getElem?_eq_getElem (by omega)⟩;obtain⟨p,hp⟩:∃p,b[i]? = some p:=⟨_,List.getElem?_eq_getElem (by omega)⟩;have jf:=zF.get hd;have sC:=eD.get hp;rw[bG]at jf sC
   have jW:w2[i]? = some d:=by rw[Hm ML];exact hd
   refine ax (aj [0,1,5,9,14,15,135,136] rfl ?_);refine aq (aD (af (ab 2 rfl (ae [0,1,5,9,14,15,16,135,136] ?_))));refine cg .bR [0,1,2,3,4,5,6,7,8,9,10,11] follows (by kernel_rfl) ?_;refine ab 2 rfl (a9 ag rfl rfl rfl rfl rfl (wV _ _ _ _ _ _) (cH jW) (by omega) (by omega) fun _=>(ab 2 rfl (a9 ag rfl rfl rfl rfl rfl (lR _) (cH hp) (by omega) (by omega) fun _=>(aO rfl rfl ⟨by omega,by omega⟩ (ab 1 rfl (aO rfl rfl ⟨by omega,by omega⟩ (ab 1 rfl (ae [0,1,5,9,14,16,17,135,136] ?_))))))));refine af (ab 1 rfl (jy rfl rfl (by omega) (by omega) ⟨by omega,by omega⟩ (ab 1 rfl (ae [0,1,5,9,14,15,16,17,135,136] ?_))));refine aF rfl (ab 3 rfl (kp rfl rfl (by omega) (by omega) ?_));obtain⟨ti,ak,al⟩:=kU;refine dP (.inl rfl) ag rfl rfl rfl (by omega) (by omega) (bx _ _ _) rfl (by rw[kW];simp;omega) ak al (fun _=>rfl) rfl rfl rfl fun _=> ?_;refine aA (aj [0,1,5,9,14,15,135,136] rfl ?_);refine aF rfl (aO rfl rfl ⟨by omega,by omega⟩ (ab 1 rfl (aA ?_)));have dO:=wN (o:=w2.take i) (s:=d+p+cr) (a:=cr) (b:=d+p) (u:=val (w1.take (i+1))+val (b.take (i+1))) (by simp;omega) de (by omega) (by rw[ij hd,ij hp,Nat.mul_add];omega)
   rw[←sE (by omega)]at dO;exact⟨i+1,w2.set i ((d+p+cr)%B),(d+p+cr)/B,by omega,ay,by rw[Dq (y:=(d+p+cr)%B) (by rw[bG];omega) (by rw[Int.toNat_natCast];omega)];rfl,by omega,by simp[Hq],Hr.set (Nat.mod_lt _ jT),drop_set ML,by rw[bG];omega,dO⟩
  have hb:b.length≤i:=by simpa using hb
  obtain rfl:i=b.length:=by omega
  rw[List.take_length]at de;obtain⟨jR,kR,sj⟩:=Vu MJ hv (by omega) uI bF zD VF (wU zF (by omega)) (wU Hr (by omega)) de;refine bC (aj [0,5,9,14,15] rfl ?_);refine af (ab 4 rfl (cF ag rfl rfl rfl ⟨by omega,by omega⟩ (aO rfl rfl ⟨by omega,by omega⟩ (cF ag rfl rfl rfl ⟨by omega,by omega⟩ ?_))));obtain⟨ti,ak,al⟩:=kU;refine dP (.inl rfl) ag rfl rfl rfl (by omega) (by omega) (bx _ _ _) rfl (by rw[kW];simp;omega) ak al (fun _=>rfl) rfl rfl rfl fun _=> ?_;refine ae [9] ?_;refine af (ab 1 rfl (di rfl rfl ⟨by omega,by omega⟩ (cF ag rfl rfl rfl ⟨by omega,by omega⟩ (ab 1 rfl (ae [4] ?_)))));refine aw ⟨.inr rfl,_,.tmp rfl (.nil),?_⟩;refine⟨w2.set b.length 0,by rw[Dq (y:=0) (by omega) (by rw[Int.toNat_natCast];omega)];rfl,by simp[Hq],Hr.set (by rw[bG];omega),?_,by rw[show (aU:Int)-1=(q:Int) by omega];rfl⟩;rw[←sj,←List.take_length (l:=w2.set b.length 0),List.length_set,Hq,uG,sE (by omega),nA,Nat.mul_zero,Nat.add_zero]
end Go.ar
namespace Go.ar
open Go.Proofs Num
theorem uJ{H:Heap}{g g':Nat}{e:aG}(h:ins H g e g'=none):g'≠g∧H g'=none:=by
 by_cases e0:g'=g
 ·subst e0;rw[bx]at h;cases h
 ·rw[bA _ _ e0]at h;exact⟨e0,h⟩
theorem Hs{y:Nat}(h:0<y):ah y≠[]:=fun e=>by
 have:=ck y
 rw[e]at this
 simp[val]at this
 omega
theorem Ht{y:Nat}(h:0<y):B^((ah y).length-1)≤y:=by
 have:=(dU y).pos (Hs h)
 rwa [ck]at this
def MM(H:Heap)(x y:Nat)(v:Value)(H':Heap):Prop:=Heap.le H H'∧∃q r,v = .tuple #[q,r]∧cB H' q (x/y)∧cB H' r (x%y)
theorem Dt{H:Heap}{u v:Value}{x y:Nat}(hx:cB H u x)(hy:cB H v y)(fE:0<y)(hm:((ah x).length:Int)<8796093022208):
 Fn Tryz.prog 114 #[u,v] H (MM H x y):=by
 obtain⟨A,c,rfl,hc,hr⟩:=hx
 obtain⟨A',c',rfl,gF,cM⟩:=hy
 have fJ:=(dU x).lt
 have eD:=(dU y).lt
 have VH:=Ht fE
 have VI:(ah y).length≠0:=fun e=>Hs fE (List.eq_nil_of_length_eq_zero e);refine aW (args:=[_,_]) Tryz.func114 rfl rfl Tryz.ntmps114 rfl rfl fun w0=> ?_;refine aj [0,1] rfl ?_;refine af (ab 2 rfl (ae [0,1] ?_));refine aq (af (ab 2 rfl (au rfl rfl (Mw hr cM (by omega)) ?_)));rintro v1 H1 ⟨e1,rfl⟩;rw[e1];refine ab 1 rfl (ae [0,1,19] ?_);refine az rfl (fun hb=> ?_) (fun hb=> ?_)
 ·
  have qU:x<y:=by unfold gV at hb;simp at hb;split at hb <;> (try split at hb) <;> simp_all
  refine af (ab 1 rfl (dY Tryz.underlying106 cW rfl rfl (sB _) (hr) (by rw[uz,Nat.mul_one]) (kV _) (by simp;omega) (by simp;omega) ?_));intro v1 H2 ha;refine ab 2 rfl (ae [4,5] ?_);refine aw ⟨.inr rfl,_,.tmp rfl (.tmp rfl (.nil)),?_⟩
  have h1:cB H2 v1 x:=by
   have:=(App.lP (a:=[]) ha rfl rfl).my
   simpa [cB]using this
  exact⟨ha.le,_,_,rfl,by rw[Nat.div_eq_of_lt qU];exact qP H2,by rw[Nat.mod_eq_of_lt qU];exact h1⟩
 ·
  have qU:y≤x:=by unfold gV at hb;simp at hb;split at hb <;> (try split at hb) <;> simp_all <;> omega
  have hlen:=jB qU;refine ax (aj [0,1] rfl ?_);refine aq (af (ab 3 rfl (ae [0,1,24] ?_)));refine az rfl (fun hb=> ?_) (fun hb=> ?_)
  ·
   have hb:(ah y).length=1:=by simp at hb;omega
   have uK:(ah y)[0]? = some y:=by
    obtain⟨z,hz⟩:=List.length_eq_one_iff.1 hb;have:=ck y;rw[hz]at this⊢
    simp[val]at this
    simp[this]
   have zG:=eD.get uK;rw[bG]at zG;refine af (ab 2 rfl (a9 ag rfl rfl rfl rfl rfl (cM) (cH uK) (by omega) (by omega) fun _=>(cF ag rfl rfl rfl ⟨by omega,by omega⟩ (au rfl rfl (MD (l:=ah x) ⟨A,c,rfl,hc,hr⟩ fJ zG fE (by omega)) ?_))));rintro v1 H2 ⟨hle,q,rfl,hq⟩;refine vr 1 ?_;rw[ck]at hq⊢;refine ab 4 rfl (ae [6,7] ?_);refine af (ab 2 rfl (au rfl rfl (Dk (x:=x%y) (by have:=Nat.mod_lt x fE;omega)) ?_));intro v1 H3 hp;refine ab 2 rfl (ae [4,5] ?_);refine aw ⟨.inr rfl,_,.tmp rfl (.tmp rfl (.nil)),?_⟩;exact⟨hle.trans hp.le,_,_,rfl,hq.le hp.le,hp.nat⟩
  have hb:(ah y).length≠1:=by simp at hb;omega
  have gJ:2≤(ah y).length:=by omega
  obtain⟨t,ht⟩:∃t,(ah y)[(ah y).length-1]? = some t:=⟨_,List.getElem?_eq_getElem (by omega)⟩;have Ho:=eD.get ht;rw[bG]at Ho
  have qT:(((ah y).length:Int)-1).toNat=(ah y).length-1:=by omega
  have hs0:0≤(1000000000:Int)/((t:Int)+1):=Int.ediv_nonneg (by omega) (by omega);have im:(1000000000:Int)/((t:Int)+1)≤1000000000:=Int.ediv_le_self _ (by omega);obtain⟨sc,uL⟩:∃sc,sc=1000000000/(t+1):=⟨_,rfl⟩
  have VJ:(1000000000:Int)/((t:Int)+1)=(sc:Int):=by rw[uL];simp
  have wW:0<sc:=by rw[uL];exact Nat.div_pos (by omega) (by omega)
  have VK:sc*(t+1)≤1000000000:=by rw[uL];exact Nat.div_mul_le_self _ _
  refine ax (aj [0,1] rfl ?_);refine af (ab 3 rfl (ae [0,1,8] ?_));refine af (ab 2 rfl (di rfl rfl ⟨by omega,by omega⟩ (a9 ag rfl rfl rfl rfl rfl (cM) (by rw[qT];exact cH ht) (by omega) (by omega) fun _=> ?_)));refine cF ag rfl rfl rfl ⟨by omega,by omega⟩ (aO rfl rfl ⟨by omega,by omega⟩ (jy rfl rfl (by omega) (by omega) ⟨by omega,by omega⟩ ?_));rw[VJ];refine ab 1 rfl (ae [0,1,8,9] ?_)
  have MN:0<t:=by
   rcases Nat.eq_zero_or_pos t with e|e
   ·
    exfalso
    have:=(dU y).last t (by rw[List.getLast?_eq_getElem?];exact ht);exact this e
   ·exact e
  have Hu:sc<1000000000:=by
   have:sc*2≤sc*(t+1):=Nat.mul_le_mul_left _ (by omega)
   omega
  have hyV:y*sc<B^(ah y).length:=by
   have h1:y<B^((ah y).length-1)*(t+1):=by
    have h2:=ij ht;rw[show (ah y).length-1+1=(ah y).length by omega,List.take_length,ck]at h2;have h3:=wU eD (k:=(ah y).length-1) (by omega);rw[Nat.mul_add,Nat.mul_one];omega
   have h2:y*sc<B^((ah y).length-1)*(t+1)*sc:=Nat.mul_lt_mul_of_pos_right h1 wW
   have h3:B^((ah y).length-1)*(t+1)*sc≤B^((ah y).length-1)*B:=by
    rw[Nat.mul_assoc];exact Nat.mul_le_mul_left _ (by rw[Nat.mul_comm,bG];exact VK)
   rw[←Nat.pow_succ,Nat.succ_eq_add_one,show (ah y).length-1+1=(ah y).length by omega]at h3
   omega
  refine af (ab 2 rfl (au rfl rfl (MA (l:=ah x) ⟨A,c,rfl,hc,hr⟩ fJ Hu (by omega)) ?_));rintro v1 H1 ⟨g1,l1,oI,rfl,rfl,VL,VM,oJ⟩;rw[ck]at oJ;refine ab 1 rfl (ae [0,1,8,9,10] ?_);refine af (ab 2 rfl (au rfl rfl (MA (l:=ah y) ⟨A',c',rfl,gF,cM.le (Heap.a0 _ oI)⟩ eD Hu (by omega)) ?_));rintro v1 H1 ⟨g2,l2,dN,rfl,rfl,acR,GR,de⟩;rw[ck]at de;refine ab 1 rfl (qL ag rfl rfl (.inl ⟨rfl,rfl⟩) (.inr ⟨_,_,rfl,rfl⟩) (by omega) (by omega) ?_);rw[zu];refine ab 1 rfl (ae [0,8,9,10,11] ?_);refine af (ab 3 rfl (di rfl rfl ⟨by omega,by omega⟩ (aO rfl rfl ⟨by omega,by omega⟩ (iF Tryz.underlying106 cW rfl rfl rfl (by omega) (by omega) (by omega) (by omega) ?_))));intro g3 mA;obtain⟨m,dy⟩:∃m,m=(ah x).length-(ah y).length+1:=⟨_,rfl⟩;rw[show (((ah x).length:Int)-((ah y).length:Int)+1).toNat=m from by omega,sD];obtain⟨MO,VN⟩:=uJ dN;obtain⟨uB,VO⟩:=uJ mA;obtain⟨Du,VP⟩:=uJ VO
  have dZ:∀e e',ins (ins H g2 e) g3 e' g1=none:=fun e e'=>by rw[bA _ _ (Ne.symm Du),bA _ _ (Ne.symm MO)];exact oI
  have jD:∀e,ins H g2 e g3=none:=fun e=>by rw[bA _ _ uB];exact VP
  rw[wu H _ _ (Ne.symm MO),wu (ins H g2 _) _ _ (Ne.symm Du)];obtain⟨V,Dv⟩:∃V,V=y*sc:=⟨_,rfl⟩;obtain⟨b,mB⟩:∃b,b=l2.take (ah y).length:=⟨_,rfl⟩
  have kY:b.length=(ah y).length:=by rw[mB];simp;omega
  have zH:val b=V:=by
   have h1:=zC l2 (k:=(ah y).length) (by omega);rw[de,←mB]at h1
   rcases Nat.eq_zero_or_pos (val (l2.drop (ah y).length))with e|e
   ·rw[e,Nat.mul_zero]at h1;omega
   ·
    have:B^(ah y).length*1≤B^(ah y).length*val (l2.drop (ah y).length):=Nat.mul_le_mul_left _ e
    omega
  have MP:Lt b:=by rw[mB];exact GR.take _
  have zD:0<V:=by rw[Dv];exact Nat.mul_pos fE wW
  obtain⟨tp,C1⟩:∃tp,b[b.length-1]? = some tp:=⟨_,List.getElem?_eq_getElem (by omega)⟩
  have VQ:0<tp:=by
   rcases Nat.eq_zero_or_pos tp with e|e
   ·
    exfalso
    have h2:=ij C1;rw[show b.length-1+1=b.length by omega,List.take_length,e,Nat.mul_zero,zH]at h2;have h3:=wU MP (k:=b.length-1) (by omega);have h4:y*1≤y*sc:=Nat.mul_le_mul_left _ wW;rw[kY]at h2 h3
    omega
   ·exact e
  refine L5 (x':= .val (.slice (some ⟨g2,0,none⟩) b.length ((ah y).length+1-0))) 11 rfl (by rw[kY];rfl) ?_;refine ab 1 rfl (ae [0,8,9,10,11,12] ?_);refine aq (af (ab 3 rfl (di rfl rfl ⟨by omega,by omega⟩ (ab 1 rfl (ae [8,9,10,11,12,13] ?_)))));refine aD (jb (fun(k:Nat)(l:List Nat)(o:List Nat)=>k) (fun(k:Nat)(l:List Nat)(o:List Nat)=>put (put (put (put (put (put (emp) 8 (.val (.int .i64 ((ah y).length:Int)))) 9 (.val (.int .u64 (sc:Int)))) 10 (.val (.slice (some ⟨g1,0,none⟩) ((ah x).length+1) ((ah x).length+1)))) 11 (.val (.slice (some ⟨g2,0,none⟩) b.length ((ah y).length+1-0)))) 12 (.val (.slice (some ⟨g3,0,none⟩) m m))) 13 (.val (.int .i64 ((k:Int)-1)))) (fun(k:Nat)(l:List Nat)(o:List Nat) H'=>H'=ins (ins (ins H g2 (cL l2 ((ah y).length+1))) g3 (cL o m)) g1 (cL l ((ah x).length+1))∧k≤m∧l.length=(ah x).length+1∧Lt l∧o.length=m∧Lt o∧val (o.drop k)*V*B^k+val l=x*sc∧val (l.drop k)<V) m _ _ (⟨rfl,by omega,VL,VM,by simp,Lt.replicate _,by simp[val,oJ],by rw[Dv];exact Vw (by omega) oJ (by rw[show m+((ah y).length-1)=(ah x).length by omega];exact wM x) VH wW⟩) ay ?_);rintro k l o H1 ⟨rfl,hk,qS,a7,cI,cV,hinv,sJ⟩;refine aq (af ?_)
  refine ab 2 rfl (ae [8,9,10,11,12,13,66] ?_);refine az rfl (fun hb=> ?_) (fun hb=> ?_)
  ·
   have hb:1≤k:=by simp at hb;omega
   obtain⟨k,rfl⟩:∃j,k=j+1:=⟨k-1,by omega⟩
   have fU:(((k+1:Nat):Int)-1).toNat=k:=by omega
   obtain⟨w,wX⟩:∃w,w=(l.drop k).take ((ah y).length+1):=⟨_,rfl⟩
   have uG:w.length=(ah y).length+1:=by rw[wX];simp;omega
   obtain⟨hwz,hwe,Hv⟩:=MH a7 (n:=(ah y).length) (by omega) sJ (by omega);rw[←wX,←zH]at Hv
   have VR:Lt w:=by rw[wX];exact(a7.drop k).take _
   have sH:l=l.take k++w++l.drop (k+(ah y).length+1):=by
    rw[wX,List.append_assoc]
    conv=>lhs;rw[←List.take_append_drop k l,←List.take_append_drop ((ah y).length+1) (l.drop k)]
    rw[List.drop_drop]
    rfl
   have VS:(l.take k).length=k:=by simp;omega
   have lR:Rd (ins (ins H g2 (cL l2 ((ah y).length+1))) g3 (cL o m)) (some ⟨g2,0,none⟩) (U b):=by
    rw[mB,zt];exact((Di H g2 l2 _).le (Heap.a0 _ (jD _))).take _
   refine ax (aj [8,9,10,11,12,13] rfl ?_);refine aq (aD (aF rfl (ab 6 rfl (aO rfl rfl ⟨by omega,by omega⟩ (aO rfl rfl ⟨by omega,by omega⟩ (qL ag rfl rfl (.inr ⟨_,_,rfl,congrArg (fun z=>some (Value.int .i64 z)) (show ((k+1:Nat):Int)-1=((k:Nat):Int) by omega)⟩) (.inr ⟨_,_,rfl,congrArg (fun z=>some (Value.int .i64 z)) (show ((k+1:Nat):Int)-1+((ah y).length:Int)+1=((k+(ah y).length+1:Nat):Int) by omega)⟩) (by omega) (by omega) (L5 (x':= .val (.slice (some ⟨g1,(l.take k).length,none⟩) (b.length+1) ((ah x).length+1-k))) 77 rfl (by rw[if_neg (by omega),Option.map_some,jd,Nat.mul_one,VS,show k+(ah y).length+1-k=b.length+1 by omega]) ?_)))))));refine ab 1 rfl (au rfl rfl (by have hF:=Vy (lo:=l.take k) (w:=w) (hi:=l.drop (k+(ah y).length+1)) (N:=(ah x).length+1) (c:=(ah x).length+1-k) (c':=(ah y).length+1-0) (dZ _ _) lR (by omega) (by omega) (by omega) VR MP C1 VQ Hv;rw[←sH]at hF;exact hF) ?_);rintro v1 H1 ⟨w',rfl,eB,jh,Hw,rfl⟩;obtain⟨ti,ak,al⟩:=kU;refine dP (.inl rfl) ag rfl rfl rfl (by omega) (by omega) ((bA _ _ Du).trans (bx _ _ _)) rfl (by rw[kW];omega) ak al (fun _=>rfl) rfl rfl rfl fun _=> ?_;refine aA ?_
   refine aj [8,9,10,11,12,13] rfl ?_;refine aF rfl (ab 1 rfl (di rfl rfl ⟨by omega,by omega⟩ (ab 1 rfl (aA ?_))));have dO:=Vv (q:=val w/V) a7 (n:=(ah y).length) (by omega) sJ (by omega) (by omega) hinv (by rw[←wX]) (by rw[←wX,Hw,zH]) (by rw[eB,uG]);refine⟨k,l.take k++w'++l.drop (k+(ah y).length+1),o.set k (val w/V),by omega,ay,?_,by omega,?_,?_,by simp[cI],cV.set ?_,dO.1,dO.2⟩
   ·rw[wu _ _ _ (Ne.symm Du),pP (y:=val w/V) (by rw[zH]),fU]
   ·simp[eB,uG,qS];omega
   ·exact((a7.take k).append jh).append (a7.drop _)
   ·rw[←zH];exact Nat.div_lt_of_lt_mul (by rw[Nat.mul_comm];exact Hv)
  have hb:k=0:=by simp at hb;omega
  subst hb
  simp only[List.drop_zero,Nat.pow_zero,Nat.mul_one]at hinv sJ
  obtain⟨hQ,hR⟩:=Vx (Q:=val o) (R:=val l) (x:=x) (y:=y) (sc:=sc) (by rw[←Dv];exact hinv) (by rw[←Dv];exact sJ) wW;refine bC (aj [9,10,12] rfl ?_);refine af (ab 1 rfl (au rfl rfl (Dn (uA _ _ l _ _ qS.symm (Nat.le_refl _)) a7 (by omega)) ?_));intro v1 H4 hp;refine ab 1 rfl (au rfl rfl (MD hp.nat (dU _).lt Hu wW (by have:=gm.2 (pJ a7);omega)) ?_);rintro v2 H5 ⟨fg,r,rfl,oK⟩;rw[ck,hR]at oK;refine ab 5 rfl (ae [12,14] ?_);refine af (ab 1 rfl (au rfl rfl (Dn (((uA _ _ o m m cI.symm (Nat.le_refl _)).le (Heap.a0 _ (dZ _ _))).le (hp.le.trans fg)) cV (by omega)) ?_));intro v1 H6 jX;refine ab 3 rfl (ae [4,5] ?_);refine aw ⟨.inr rfl,_,.tmp rfl (.tmp rfl (.nil)),?_⟩;exact⟨((((Heap.a0 _ VN).trans (Heap.a0 _ (jD _))).trans (Heap.a0 _ (dZ _ _))).trans (hp.le.trans fg)).trans jX.le,_,_,rfl,by rw[←hQ];exact jX.nat,oK.le jX.le⟩
end Go.ar
namespace Go.ar
open Go.Proofs Num
theorem VT{H:Heap}{u v:Value}{x y:Nat}(hx:cB H u x)(hy:cB H v y)(hm:((ah x).length:Int)<8796093022208)(aV:((ah y).length:Int)<8796093022208):
  Fn Tryz.prog 113 #[u,v] H (jV H (Nat.gcd x y)):=by
 obtain⟨M,hM⟩:∃M,M=max x y:=⟨_,rfl⟩
 have hMl:((ah M).length:Int)<8796093022208:=by
  rcases Nat.le_total x y with h | h
  ·rw[hM,Nat.max_eq_right h];exact aV
  ·rw[hM,Nat.max_eq_left h];exact hm
 refine aW (args:=[_,_]) Tryz.func113 rfl rfl Tryz.ntmps113 rfl rfl fun w0=> ?_;refine aj [0,1] rfl ?_;refine af (ab 1 rfl (ae [0,1] ?_));refine aq (aD (nz (fun(x1:Nat)(y1:Nat)(u:Value)(v:Value)=>y1) (fun(x1:Nat)(y1:Nat)(u:Value)(v:Value)=>put (put (emp) 0 (.val (u))) 1 (.val (v))) (fun(x1:Nat)(y1:Nat)(u:Value)(v:Value) H'=>Heap.le H H'∧cB H' u x1∧cB H' v y1∧Nat.gcd x1 y1=Nat.gcd x y∧x1≤M∧y1≤M) x y u v (⟨.refl _,hx,hy,rfl,by omega,by omega⟩) ay ?_));rintro x1 y1 u v H1 ⟨hle,dD,uK,hg,zI,Hz⟩;obtain⟨A,c,rfl,hc,hr⟩:=dD;obtain⟨A',c',rfl,gF,cM⟩:=uK;have cn:=jB zI;have ct:=jB Hz;refine aq (af (ab 3 rfl (ae [0,1,13] ?_)));refine az rfl (fun hb=> ?_) (fun hb=> ?_)
 ·
  have hb:(ah y1).length≠0:=by simp at hb;intro e;simp[List.eq_nil_of_length_eq_zero e]at hb
  have fE:0<y1:=by rcases Nat.eq_zero_or_pos y1 with e | e;· exact absurd (ik.2 e) hb
                   ·exact e
  refine ax (aj [0,1] rfl ?_);refine aD (aq ?_)
  by_cases h2:(ah x1).length≤2
  ·
   skip
   refine af (ab 2 rfl (aS true rfl rfl (pN (by omega)) (ab 5 rfl (ae [0,1,21] ?_))));refine az rfl (fun hb=> ?_) (fun hb=> ?_)
   ·
    have hb:(ah y1).length≤2:=by simp at hb;omega
    have HA:=gm.1 h2;have HB:=gm.1 hb;rw[bG]at HA HB
    simp only[Nat.reducePow]at HA HB
    refine af (ab 1 rfl (au rfl rfl (Mx hr h2) ?_));rintro v1 H2 ⟨rfl,rfl⟩;refine ab 5 rfl (ae [1,5] ?_);refine af (ab 1 rfl (au rfl rfl (Mx cM hb) ?_));rintro v1 H3 ⟨rfl,rfl⟩;refine ab 5 rfl (ae [5,7] ?_);refine aq (aD (jS (fun(p:Nat)(q:Nat)=>q) (fun(p:Nat)(q:Nat)=>put (put (emp) 5 (.val (.int .u64 (p:Int)))) 7 (.val (.int .u64 (q:Int)))) (fun(p:Nat)(q:Nat) H'=>Heap.le H H'∧Nat.gcd p q=Nat.gcd x y∧p<1000000000000000000∧q<1000000000000000000) x1 y1 (⟨hle,hg,HA,HB⟩) ay ?_));rintro p q H1 ⟨dA,dN,acS,VU⟩;refine aq (af (ab 2 rfl (ae [5,7,33] ?_)));refine az rfl (fun hb=> ?_) (fun hb=> ?_)
    ·
     have hb:0<q:=by simp at hb;omega
     refine ax (aj [5,7] rfl ?_);refine aD (fc .bR [0,1,2,3,4,5] follows (by kernel_rfl) ?_);refine ab 3 rfl (kp rfl rfl (by omega) (by omega) (ab 2 rfl (aA ?_)));have a7:=Nat.mod_lt p hb;exact⟨q,p%q,a7,ay,dA,by rw[Nat.gcd_comm q,←Nat.gcd_rec,Nat.gcd_comm q];exact dN,VU,by omega⟩
    ·
     have hb:q=0:=by simp at hb;omega
     subst hb;rw[Nat.gcd_zero_right]at dN;refine bC (aj [5] rfl ?_);refine af (ab 1 rfl (au rfl rfl (Dk (by omega)) ?_));intro v1 H4 hp;refine ab 1 rfl (ae [4] ?_);refine aw ⟨.inr rfl,_,.tmp rfl (.nil),?_⟩;exact⟨dA.trans hp.le,by rw[←dN];exact hp.nat⟩
   ·
    skip
    refine ax (aj [0,1] rfl ?_);refine af (ab 2 rfl (au rfl rfl (Dt (x:=x1) (y:=y1) ⟨A,c,rfl,hc,hr⟩ ⟨A',c',rfl,gF,cM⟩ fE (by omega)) ?_));rintro v1 H4 ⟨dA,q,r,rfl,bF,kr⟩;refine ab 5 rfl (ae [1,10] ?_);refine aF rfl (ab 4 rfl (aA ?_));have a7:=Nat.mod_lt x1 fE;exact⟨y1,x1%y1,_,_,a7,ay,hle.trans dA,fI.le (l:=ah y1) ⟨A',c',rfl,gF,cM⟩ dA,kr,by rw[Nat.gcd_comm y1,←Nat.gcd_rec,Nat.gcd_comm y1];exact hg,Hz,by omega⟩
  ·
   skip
   refine af (ab 2 rfl (aS false rfl rfl (wQ (by omega)) (ab 5 rfl (ae [0,1,21] ?_))));refine dG rfl (ax (aj [0,1] rfl ?_));refine af (ab 2 rfl (au rfl rfl (Dt (x:=x1) (y:=y1) ⟨A,c,rfl,hc,hr⟩ ⟨A',c',rfl,gF,cM⟩ fE (by omega)) ?_));rintro v1 H4 ⟨dA,q,r,rfl,bF,kr⟩;refine ab 5 rfl (ae [1,10] ?_);refine aF rfl (ab 4 rfl (aA ?_));have a7:=Nat.mod_lt x1 fE;exact⟨y1,x1%y1,_,_,a7,ay,hle.trans dA,fI.le (l:=ah y1) ⟨A',c',rfl,gF,cM⟩ dA,kr,by rw[Nat.gcd_comm y1,←Nat.gcd_rec,Nat.gcd_comm y1];exact hg,Hz,by omega⟩
 ·
  have hb:(ah y1).length=0:=by simp at hb;simp[hb]
  have fE:y1=0:=ik.1 hb;subst fE;rw[Nat.gcd_zero_right]at hg;refine bC (aj [0] rfl ?_);refine af (ab 2 rfl (ae [4] ?_));refine aw ⟨.inr rfl,_,.tmp rfl (.nil),?_⟩;exact⟨hle,by rw[←hg];exact⟨A,c,rfl,hc,hr⟩⟩
end Go.ar
namespace Num
def sg(neg:Bool)(n:Nat):Int:=if neg then -(n:Int)else n
def bS(neg:Bool)(n d:Nat):Rat:=mkRat (sg neg n) d
theorem HC(f:Bool)(n:Nat):(sg f n).natAbs=n:=by cases f <;> simp[sg]
theorem VV(f:Bool):sg f 0=0:=by cases f <;> rfl
theorem sK(f:Bool)(d:Nat):bS f 0 d=0:=by simp[bS,VV]
theorem zJ(f:Bool)(n:Nat):bS f n 0=0:=by simp[bS]
theorem sL{f:Bool}{n d:Nat}(hd:0<d):(bS f n d).den=d/Nat.gcd n d:=by
 rw[bS,Rat.den_mkRat,if_neg (by omega),HC,Nat.gcd_comm]
theorem HD{f:Bool}{n d:Nat}(hd:0<d):(bS f n d).num=sg f (n/Nat.gcd n d):=by
 rw[bS,Rat.num_mkRat,if_neg (by omega),HC,Nat.gcd_comm]
 have VW:Nat.gcd n d∣n:=Nat.gcd_dvd_left n d
 cases f
 ·simp[sg]
 ·simp only[sg,if_true]
  rw[Int.neg_ediv_of_dvd (by exact_mod_cast VW)]
  simp
theorem uM{f:Bool}{n d:Nat}(hd:0<d):(bS f n d).num.natAbs=n/Nat.gcd n d:=by rw[HD hd,HC]
theorem zK{f:Bool}{n d:Nat}(hd:0<d)(hn:0<n):decide ((bS f n d).num<0)=f:=by
 rw[HD hd]
 have h1:0<n/Nat.gcd n d:=Nat.div_pos (Nat.le_of_dvd hn (Nat.gcd_dvd_left n d)) (Nat.gcd_pos_of_pos_left _ hn)
 cases f <;> simp[sg] <;> omega
theorem MQ{f:Bool}{n d:Nat}(hd:0<d):bS f n d=0↔n=0:=by
 rw[bS,Rat.mkRat_eq_zero (by omega)]
 cases f <;> simp[sg]
theorem VX{f:Bool}{n d:Nat}(hd:0<d)(hn:0<n):bS f n d<0↔f=true:=by
 have h:=zK (f:=f) hd hn
 rw[←Rat.not_le,←Rat.num_nonneg]
 constructor
 ·intro h1;rw[←h,decide_eq_true_iff];omega
 ·intro h1;rw[h1]at h⊢;have:=of_decide_eq_true h;omega
theorem MR(f:Bool){n m d e:Nat}(hd:0<d)(he:0<e):bS f n d+bS f m e=bS f (n*e+m*d) (d*e):=by
 rw[bS,bS,Rat.mkRat_add_mkRat _ _ (by omega) (by omega),bS]
 congr 1
 cases f
 ·simp[sg]
 ·simp[sg,Int.neg_add,Int.neg_mul]
theorem HE{f g:Bool}(mC:f≠g){n m d e:Nat}(hd:0<d)(he:0<e)(h:m*d≤n*e):bS f n d+bS g m e=bS f (n*e-m*d) (d*e):=by
 rw[bS,bS,Rat.mkRat_add_mkRat _ _ (by omega) (by omega),bS]
 congr 1
 obtain rfl:g = !f:=by cases f <;> cases g <;> simp at mC⊢
 cases f
 ·simp[sg]
  rw[Int.ofNat_sub h];simp[Int.neg_mul];omega
 ·simp[sg]
  rw[Int.ofNat_sub h];simp[Int.neg_mul];omega
theorem MS{f g:Bool}(mC:f≠g){n m d e:Nat}(hd:0<d)(he:0<e)(h:n*e≤m*d):bS f n d+bS g m e=bS g (m*d-n*e) (d*e):=by
 rw[Rat.add_comm,HE (Ne.symm mC) he hd h,Nat.mul_comm e d]
theorem HF(f:Bool)(n d:Nat): -bS f n d=bS (!f) n d:=by
 rw[bS,bS,Rat.neg_mkRat]
 cases f <;> simp[sg]
theorem MT(f g:Bool)(n m d e:Nat):bS f n d*bS g m e=bS (f != g) (n*m) (d*e):=by
 rw[bS,bS,Rat.mkRat_mul_mkRat,bS]
 congr 1
 cases f <;> cases g <;> simp[sg,Int.neg_mul,Int.mul_neg]
theorem MU{g:Bool}{m e:Nat}(_hm:0<m):(bS g m e)⁻¹=bS g e m:=by
 rw[bS,bS,←Rat.divInt_ofNat,Rat.inv_divInt,←Rat.divInt_ofNat]
 cases g
 ·rfl
 ·simp only[sg,if_true]
  rw[Rat.divInt_neg']
theorem MV{f g:Bool}{n m d e:Nat}(hm:0<m):bS f n d/bS g m e=bS (f != g) (n*e) (d*m):=by
 rw[Rat.div_def,MU hm,MT]
theorem VY(n:Int):sg (decide (n<0)) n.natAbs=n:=by
 unfold sg;split
 ·rename_i h;simp at h;omega
 ·rename_i h;simp at h;omega
theorem Dw(n:Int):bS (decide (n<0)) n.natAbs 1=(n:Rat):=by
 have:sg (decide (n<0)) n.natAbs=n:=by
  unfold sg;split
  ·rename_i h;simp at h;omega
  ·rename_i h;simp at h;omega
 rw[bS,this]
 exact Rat.mkRat_self (n:Rat)
theorem MW(a b:Int):bS (decide (a<0) != decide (b<0)) a.natAbs b.natAbs=(a:Rat)/(b:Rat):=by
 rcases Nat.eq_zero_or_pos b.natAbs with h | h
 ·rw[h,zJ]
  have:b=0:=by omega
  subst this
  simp[Rat.div_def]
 ·rw[←Dw a,←Dw b,MV h]
  simp
def fK(q:Rat):Int:=if q<0 then -1 else if q=0 then 0 else 1
def qV(p q:Rat):Int:=if p<q then -1 else if p=q then 0 else 1
theorem Dx{f:Bool}{n d:Nat}(hd:0<d):fK (bS f n d)=if n=0 then 0 else if f then -1 else 1:=by
 unfold fK
 by_cases hn:n=0
 ·subst hn;rw[sK];rfl
 ·have h1:=VX (f:=f) hd (by omega:0<n)
  have h2:=MQ (f:=f) (n:=n) hd
  cases f
  ·rw[if_neg (by rw[h1];simp),if_neg (by rw[h2];exact hn),if_neg hn];rfl
  ·rw[if_pos (by rw[h1]),if_neg hn];rfl
end Num
namespace Go.ar
open Go.Proofs Num
def nF(H:Heap)(v:Value)(f:Bool)(n d:Nat):Prop:=∃u w,v = .agg #[.bool f,u,w]∧cB H u n∧cB H w d
theorem nF.le{H H':Heap}{v:Value}{f:Bool}{n d:Nat}(h:nF H v f n d)(hl:Heap.le H H'):nF H' v f n d:=by
 obtain⟨u,w,h1,h2,h3⟩:=h
 exact⟨u,w,h1,h2.le hl,h3.le hl⟩
def dI(H:Heap)(v:Value)(q:Rat):Prop:=nF H v (decide (q.num<0)) q.num.natAbs q.den
theorem dI.le{H H':Heap}{v:Value}{q:Rat}(h:dI H v q)(hl:Heap.le H H'):dI H' v q:=nF.le h hl
def bL(H:Heap)(v:Value)(q:Rat)(N:Nat):Prop:=∃f u w l1 l2,v = .agg #[.bool f,u,w]∧fI H u l1∧fI H w l2∧(∀x,x∈l1→x<4294967296)∧(∀x,x∈l2→x<4294967296)∧l1.length≤N∧l2.length≤N∧q=bS f (val l1) (val l2)
theorem bL.le{H H':Heap}{v:Value}{q:Rat}{N:Nat}(h:bL H v q N)(hl:Heap.le H H'):bL H' v q N:=by
 obtain⟨f,u,w,l1,l2,h1,h2,h3,h4⟩:=h
 exact⟨f,u,w,l1,l2,h1,h2.le hl,h3.le hl,h4⟩
theorem bL.mono{H:Heap}{v:Value}{q:Rat}{N M:Nat}(h:bL H v q N)(hl:N≤M):bL H v q M:=by
 obtain⟨f,u,w,l1,l2,h1,h2,h3,h4,h5,h6,h7,h8⟩:=h
 exact⟨f,u,w,l1,l2,h1,h2,h3,h4,h5,by omega,by omega,h8⟩
def aK(q:Rat):Nat:=max (ah q.num.natAbs).length (ah q.den).length
theorem zL(q:Rat):bS (decide (q.num<0)) q.num.natAbs q.den=q:=by
 rw[bS,VY,Rat.mkRat_self]
theorem nG{x:Nat}:∀y,y∈ah x→y<4294967296:=fun y hy=>by
 have:=(dU x).lt y hy
 rw[bG]at this;omega
theorem dI.raw{H:Heap}{v:Value}{q:Rat}(h:dI H v q):bL H v q (aK q):=by
 obtain⟨u,w,h1,h2,h3⟩:=h
 exact⟨_,u,w,_,_,h1,h2,h3,nG,nG,Nat.le_max_left _ _,Nat.le_max_right _ _,by rw[ck,ck,zL]⟩
def iI(H:Heap)(q:Rat)(v:Value)(H':Heap):Prop:=Heap.le H H'∧dI H' v q
theorem iI.le{H:Heap}{q:Rat}{v:Value}{H':Heap}(h:iI H q v H'):Heap.le H H':=h.1
def Dy(H:Heap)(q:Rat)(K:Nat)(v:Value)(H':Heap):Prop:=Heap.le H H'∧∃f n d,nF H' v f n d∧0<d∧bS f n d=q∧(ah n).length≤K∧(ah d).length≤K
theorem Dy.le{H:Heap}{q:Rat}{K:Nat}{v:Value}{H':Heap}(h:Dy H q K v H'):Heap.le H H':=h.1
def nH(H:Heap)(x:Value)(v:Value)(H':Heap):Prop:=H'=H∧v=x
theorem nH.le{H:Heap}{x:Value}{v:Value}{H':Heap}(h:nH H x v H'):Heap.le H H':=by rw[h.1];exact .refl _
theorem qW:ah 1 = [1]:=by
 rw[uy (by decide)]
 rw[show 1/B=0 by decide,show 1%B=1 by decide,oH]
theorem sM{H:Heap}{g e:Nat}:cB (ins H g (whole (cz [.int .u32 1]) e)) (.slice (some ⟨g,0,none⟩) 1 1) 1:=by
 refine⟨some ⟨g,0,none⟩,1,?_,?_,?_⟩
 ·rw[qW];rfl
 ·rw[qW];exact Nat.le_refl _
 ·rw[qW];exact nC (y:=1) rfl
theorem wY{l:List Nat}(h:∀x,x∈l→x<4294967296):(ah (val l)).length≤l.length+1:=by
 refine gm.2 ?_
 have:val l+5≤5*B^l.length:=by
  induction l with
  | nil=>simp[val]
  | cons x l ih=>
   have h1:=ih (fun y hy=>h y (List.mem_cons_of_mem _ hy))
   have h2:=h x (List.mem_cons_self ..)
   rw[fH,List.length_cons,Nat.pow_succ]
   have h3:B*(val l+5)≤B*(5*B^l.length):=Nat.mul_le_mul_left _ h1
   have h4:B*(5*B^l.length)=5*(B^l.length*B):=by rw[Nat.mul_left_comm,Nat.mul_comm B]
   have h5:B*5=5000000000:=by decide
   rw[Nat.mul_add]at h3
   omega
 have h5:5*B^l.length≤B*B^l.length:=Nat.mul_le_mul_right _ (by decide)
 rw[Nat.pow_succ,Nat.mul_comm _ B];omega
theorem oL(x y:Nat):(ah (x*y)).length≤(ah x).length+(ah y).length:=by
 refine gm.2 ?_
 rw[Nat.pow_add]
 exact Nat.mul_lt_mul'' (wM x) (wM y)
theorem MX{x y k:Nat}(hx:(ah x).length≤k)(hy:(ah y).length≤k):(ah (x+y)).length≤k+1:=by
 refine gm.2 ?_
 have h1:=gm.1 hx
 have h2:=gm.1 hy
 have h3:B^k*2≤B^k*B:=Nat.mul_le_mul_left _ (by decide)
 rw[Nat.pow_succ];omega
end Go.ar
namespace Go.ar
open Go.Proofs Num
theorem VZ{H:Heap}{u v:Value}{x y:Nat}(hx:cB H u x)(hy:cB H v y)(hm:((ah x).length:Int)≤35184372088832):Fn Tryz.prog 116 #[u,v] H (nH H (.int .i64 (gV x y))):=by
 obtain⟨A,c,rfl,hc,hr⟩:=hx
 obtain⟨A',c',rfl,gF,cM⟩:=hy
 exact Mw hr cM hm
theorem MY{H:Heap}{u:Value}{x:Nat}(hx:cB H u x):Fn Tryz.prog 112 #[u] H (nH H (.bool (decide (x=1)))):=by
 obtain⟨A,c,rfl,hc,hr⟩:=hx
 exact Vf hr
theorem MZ{H:Heap}{u:Value}{l:List Nat}(hu:fI H u l)(uB:∀x,x∈l→x<4294967296)(hm:(l.length:Int)≤8796093022208):Fn Tryz.prog 102 #[u] H (jV H (val l)):=by
 obtain⟨A,c,rfl,hc,hr⟩:=hu
 exact Vg uB hr hm
theorem oM{H:Heap}{v:Value}{q:Rat}{N:Nat}(hv:bL H v q N)(hN:(N:Int)≤4398046511104):
 Fn Tryz.prog 77 #[v] H (Dy H q (N+1)):=by
 obtain⟨f,u,w,l1,l2,rfl,hu,hw,h1,h2,cn,ct,rfl⟩:=hv;refine aW (args:=[_]) Tryz.func77 rfl rfl Tryz.ntmps77 rfl rfl fun w0=> ?_;refine aj [0] rfl ?_;refine af (bY rfl rfl (bD gH rfl (ae [1,2] ?_)));refine cg .bR [0,1,3,4,2,5,6,7] follows (by kernel_rfl) ?_;refine ab 4 rfl (aT rfl rfl (MZ hu h1 (by omega)) (fun _ _ h=>h.le) ?_);intro v1 H1 eV;refine aT rfl rfl (MZ (hw.le eV.le) h2 (by omega)) (fun _ _ h=>h.le) ?_;intro v2 H2 eI;obtain⟨B1,b1,rfl,dZ,V0⟩:=eV.nat.le eI.le;obtain⟨B2,b2,rfl,bU,zM⟩:=eI.nat;have dA:=eV.le.trans eI.le;have sN:=wY h1;have kX:=wY h2;refine ab 2 rfl (ae [1,2,3,4] ?_);refine aq ?_
 by_cases gW:(ah (val l1)).length=0
 ·
  skip
  refine af (ab 2 rfl (aS true rfl rfl (lM (by omega)) (ab 5 rfl (ae [1,2,3,4,18] ?_))));refine eL rfl (af (cU Tryz.underlying106 cW rfl rfl rfl rfl rfl rfl rfl ?_));intro gb bH;refine dH ag rfl gH rfl rfl ?_;obtain⟨ti,ak,al⟩:=ft;refine aM (.inl ⟨rfl,rfl⟩) rfl rfl rfl ak al rfl rfl rfl (ae [2] ?_);obtain⟨bO,aI,aJ⟩:=ft;refine aw ⟨.inr rfl,_,.agg rfl Tryz.underlying108 aI aJ (.nil),?_⟩;exact⟨dA.trans (Heap.a0 _ bH),false,0,1,⟨_,_,rfl,qP _,sM⟩,by decide,by rw[ik.1 gW,sK,sK],by rw[oH];simp,by rw[qW];simp⟩
 ·
  skip
  refine af (ab 2 rfl (aS false rfl rfl (lN (by omega)) (ab 5 rfl (ae [1,2,3,4,18] ?_))));refine az rfl (fun hb=> ?_) (fun hb=> ?_)
  ·
   have hb:(ah (val l2)).length=0:=by simpa using hb
   refine af (cU Tryz.underlying106 cW rfl rfl rfl rfl rfl rfl rfl ?_);intro gb bH;refine dH ag rfl gH rfl rfl ?_;obtain⟨ti,ak,al⟩:=ft;refine aM (.inl ⟨rfl,rfl⟩) rfl rfl rfl ak al rfl rfl rfl (ae [2] ?_);obtain⟨bO,aI,aJ⟩:=ft;refine aw ⟨.inr rfl,_,.agg rfl Tryz.underlying108 aI aJ (.nil),?_⟩;exact⟨dA.trans (Heap.a0 _ bH),false,0,1,⟨_,_,rfl,qP _,sM⟩,by decide,by rw[ik.1 hb,zJ,sK],by rw[oH];simp,by rw[qW];simp⟩
  have hb:(ah (val l2)).length≠0:=by simpa using hb
  refine ax (aj [1,2,3,4] rfl ?_);refine af (ab 4 rfl (dH ag rfl gH rfl rfl ?_));obtain⟨ti,ak,al⟩:=ft;refine aM (.inl ⟨rfl,rfl⟩) rfl rfl rfl ak al rfl rfl rfl (ae [2] ?_);obtain⟨bO,aI,aJ⟩:=ft;refine aw ⟨.inr rfl,_,.agg rfl Tryz.underlying108 aI aJ (.nil),?_⟩;exact⟨dA,f,val l1,val l2,⟨_,_,rfl,⟨B1,b1,rfl,dZ,V0⟩,⟨B2,b2,rfl,bU,zM⟩⟩,Nat.pos_of_ne_zero (fun e=>hb (ik.2 e)),rfl,by omega,by omega⟩
theorem V1{H:Heap}{v:Value}{f:Bool}{n d:Nat}(hv:nF H v f n d)(hd:0<d)(dB:((ah n).length:Int)<8796093022208)(ej:((ah d).length:Int)<8796093022208):
 Fn Tryz.prog 104 #[v] H (iI H (bS f n d)):=by
 obtain⟨u,w,rfl,hu,hw⟩:=hv
 obtain⟨A,c,rfl,hc,hr⟩:=id hu
 obtain⟨A2,c2,rfl,nI,kr⟩:=id hw;refine aW (args:=[_]) Tryz.func104 rfl rfl Tryz.ntmps104 rfl rfl fun w0=> ?_;refine aj [0] rfl ?_;refine af (bY rfl rfl (bD gH rfl (ae [1,2] ?_)));refine aq (af (ab 4 rfl (ae [1,2,11] ?_)));refine az rfl (fun hb=> ?_) (fun hb=> ?_)
 ·
  have hb:n=0:=ik.1 (by simpa using hb);subst hb;refine af (cU Tryz.underlying106 cW rfl rfl rfl rfl rfl rfl rfl ?_);intro gb bH;refine dH ag rfl gH rfl rfl ?_;obtain⟨ti,ak,al⟩:=ft;refine aM (.inl ⟨rfl,rfl⟩) rfl rfl rfl ak al rfl rfl rfl (ae [2] ?_);obtain⟨bO,aI,aJ⟩:=ft;refine aw ⟨.inr rfl,_,.agg rfl Tryz.underlying108 aI aJ (.nil),?_⟩;exact⟨Heap.a0 _ bH,by rw[sK];exact⟨_,_,rfl,qP _,sM⟩⟩
 ·
  have gW:0<n:=Nat.pos_of_ne_zero fun e=>by rw[ik.2 e]at hb;simp at hb
  refine ax (aj [1,2] rfl ?_);refine aq (af (ab 2 rfl (au rfl rfl (MY hw) ?_)));rintro v1 H1 ⟨rfl,rfl⟩;refine ae [1,2,16] ?_;refine az rfl (fun hb=> ?_) (fun hb=> ?_)
  ·
   have jW:d=1:=by simpa using hb
   subst jW;refine af (vr 1 ?_);obtain⟨ti,ak,al⟩:=ft;refine aM (.inl ⟨rfl,rfl⟩) rfl rfl rfl ak al rfl rfl rfl (ae [2] ?_);obtain⟨bO,aI,aJ⟩:=ft;refine aw ⟨.inr rfl,_,.agg rfl Tryz.underlying108 aI aJ (.nil),?_⟩;refine⟨.refl _,?_⟩
   unfold dI
   rw[zK hd gW,uM hd,sL hd,Nat.gcd_one_right,Nat.div_one,Nat.div_one];exact⟨_,_,rfl,hu,hw⟩
  skip
  refine ax (aj [1,2] rfl ?_);refine af (ab 4 rfl (au rfl rfl (VT hu hw dB ej) ?_));rintro v1 H2 hp;obtain⟨v1,rfl⟩:∃x,x=v1:=⟨_,rfl⟩;have mo:0<Nat.gcd n d:=Nat.gcd_pos_of_pos_left _ gW;refine ab 1 rfl (ae [1,2,3] ?_);refine aq (af (ab 1 rfl (au rfl rfl (MY hp.nat) ?_)));rintro v2 H3 ⟨rfl,rfl⟩;refine ae [1,2,3,24] ?_;refine az rfl (fun hb=> ?_) (fun hb=> ?_)
  ·
   have oI:Nat.gcd n d=1:=by simpa using hb
   refine af (vr 1 ?_);obtain⟨ti,ak,al⟩:=ft;refine aM (.inl ⟨rfl,rfl⟩) rfl rfl rfl ak al rfl rfl rfl (ae [2] ?_);obtain⟨bO,aI,aJ⟩:=ft;refine aw ⟨.inr rfl,_,.agg rfl Tryz.underlying108 aI aJ (.nil),?_⟩;refine⟨hp.le,?_⟩
   unfold dI
   rw[zK hd gW,uM hd,sL hd,oI,Nat.div_one,Nat.div_one];exact⟨_,_,rfl,hu.le hp.le,hw.le hp.le⟩
  skip
  refine ax (aj [1,2,3] rfl ?_);refine af (ab 3 rfl (au rfl rfl (Dt (hu.le hp.le) hp.nat mo dB) ?_));rintro v2 H4 ⟨eY,q1,r1,rfl,bQ,ow⟩;refine ab 5 rfl (ae [1,2,3,4] ?_);refine af (ab 3 rfl (au rfl rfl (Dt (hw.le (hp.le.trans eY)) (hp.nat.le eY) mo ej) ?_));rintro v2 H5 ⟨fg,q2,r2,rfl,bF,oK⟩;obtain⟨A3,c3,rfl,qX,mD⟩:=bQ.le fg;obtain⟨A4,c4,rfl,uN,Dz⟩:=id bF;refine ab 5 rfl (ae [1,2,4,6] ?_);refine af (ab 4 rfl (dH ag rfl gH rfl rfl ?_));obtain⟨ti,ak,al⟩:=ft;refine aM (.inl ⟨rfl,rfl⟩) rfl rfl rfl ak al rfl rfl rfl (ae [2] ?_);obtain⟨bO,aI,aJ⟩:=ft;refine aw ⟨.inr rfl,_,.agg rfl Tryz.underlying108 aI aJ (.nil),?_⟩;refine⟨(hp.le.trans eY).trans fg,?_⟩
  unfold dI
  rw[zK hd gW,uM hd,sL hd];exact⟨_,_,rfl,⟨A3,c3,rfl,qX,mD⟩,bF⟩
theorem sO{H:Heap}{v:Value}{f:Bool}{n d:Nat}(hv:nF H v f n d)(hd:0<d)(dB:((ah n).length:Int)<8796093022208)(ej:((ah d).length:Int)<8796093022208):
 Fn Tryz.prog 80 #[v] H (iI H (bS f n d)):=by
 obtain⟨u,w,rfl,hu,hw⟩:=id hv;refine aW (args:=[_]) Tryz.func80 rfl rfl Tryz.ntmps80 rfl rfl fun w0=> ?_;refine aj [0] rfl ?_;refine af (bY rfl rfl (bD cZ rfl (ae [1,2] ?_)));refine af (ab 1 rfl (au rfl rfl (V1 hv hd dB ej) ?_));rintro v1 H1 ⟨hle,u1,w1,rfl,dz,eB⟩;obtain⟨A,c,rfl,hc,hr⟩:=id dz;obtain⟨A2,c2,rfl,nI,kr⟩:=id eB;refine bD gH rfl ?_;obtain⟨ti,ak,al⟩:=ft;refine aM (.inl ⟨rfl,rfl⟩) rfl rfl rfl ak al rfl rfl rfl (ae [2,3] ?_);refine af (ab 6 rfl (dH ag rfl cZ rfl rfl ?_));obtain⟨ti,ak,al⟩:=bT;refine aM (.inl ⟨rfl,rfl⟩) rfl rfl rfl ak al rfl rfl rfl (ae [2] ?_);obtain⟨bO,aI,aJ⟩:=bT;refine aw ⟨.inr rfl,_,.agg rfl Tryz.underlying29 aI aJ (.nil),?_⟩;exact⟨hle,_,_,rfl,dz,eB⟩
theorem V2{H:Heap}{v:Value}{f:Bool}{n d:Nat}(hv:nF H v f n d)(hd:0<d):
 Fn Tryz.prog 78 #[v] H (nH H (.int .i64 (fK (bS f n d)))):=by
 obtain⟨u,w,rfl,hu,hw⟩:=id hv
 obtain⟨A,c,rfl,hc,hr⟩:=id hu;refine aW (args:=[_]) Tryz.func78 rfl rfl Tryz.ntmps78 rfl rfl fun w0=> ?_;refine aj [0] rfl ?_;refine af (bY rfl rfl (ab 1 rfl (ae [1] ?_)));refine aq (aD (af (ab 5 rfl (ae [1,3] ?_))));refine az rfl (fun hb=> ?_) (fun hb=> ?_)
 ·
  have hb:n=0:=ik.1 (by simpa using hb);refine af (ab 1 rfl (ae [2] ?_));refine aw ⟨.inr rfl,_,.tmp rfl (.nil),?_⟩;exact⟨rfl,by rw[Dx hd,if_pos hb];rfl⟩
 ·
  have gW:n≠0:=fun e=>by rw[ik.2 e]at hb;simp at hb
  refine af (ab 3 rfl (ae [8] ?_));refine az rfl (fun hb=> ?_) (fun hb=> ?_)
  ·
   subst hb;refine af (ab 1 rfl (ae [2] ?_));refine aw ⟨.inr rfl,_,.tmp rfl (.nil),?_⟩;exact⟨rfl,by rw[Dx hd,if_neg gW];rfl⟩
  subst hb;refine ax (aj [] rfl ?_);refine af (ab 1 rfl (ae [2] ?_));refine aw ⟨.inr rfl,_,.tmp rfl (.nil),?_⟩;exact⟨rfl,by rw[Dx hd,if_neg gW];rfl⟩
end Go.ar
namespace Go.ar
open Go.Proofs Num
theorem wrap_u64(n:Int):IntKind.u64.wrap n=n%18446744073709551616:=rfl
theorem M0{x y:Nat}:(0≤gV x y)↔y≤x:=by
 unfold gV;split
 ·omega
 ·split <;> omega
theorem M1{H:Heap}{u v:Value}{f g:Bool}{n d m e K:Nat}(hf:nF H u f n d)(hg:nF H v g m e)(hd:0<d)(he:0<e)(h1:(ah n).length≤K)(h2:(ah d).length≤K)(h3:(ah m).length≤K)(h4:(ah e).length≤K)(hK:(K:Int)≤2199023255552):
 Fn Tryz.prog 105 #[u,v] H (Dy H (bS f n d+bS g m e) (2*K+1)):=by
 obtain⟨un,ud,rfl,nE,M3⟩:=id hf
 obtain⟨vm,ve,rfl,V3,wZ⟩:=id hg
 have pR:=oL n e
 have kZ:=oL m d
 have HG:=oL d e
 have DA:=Nat.mul_pos hd he
 have im:=MX (x:=n*e) (y:=m*d) (k:=2*K) (by omega) (by omega);refine aW (args:=[_,_]) Tryz.func105 rfl rfl Tryz.ntmps105 rfl rfl fun w0=> ?_;refine aj [0,1] rfl ?_;refine af (bY rfl rfl (bY rfl rfl (bD gH rfl (ae [2,3,4] ?_))));refine cg .bR [0,1,2,3,5,6,7,8,4,9,10,11] follows (by kernel_rfl) ?_;refine ab 8 rfl (aT rfl rfl (uD nE wZ (by omega) (by omega)) (fun _ _ h=>h.le) ?_);intro v1 H1 eV;refine aT rfl rfl (uD (V3.le eV.le) (M3.le eV.le) (by omega) (by omega)) (fun _ _ h=>h.le) ?_;intro v2 H2 eI;refine ab 2 rfl (ae [2,3,4,5,6] ?_);refine af (ab 4 rfl (au rfl rfl (uD (M3.le (eV.le.trans eI.le)) (wZ.le (eV.le.trans eI.le)) (by omega) (by omega)) ?_));intro v3 H3 eE;have fL:=(eV.le.trans eI.le).trans eE.le;have dB:=eV.nat.le (eI.le.trans eE.le);have gJ:=eI.nat.le eE.le;have fM:=eE.nat;obtain⟨HH,HI,rfl,HJ,HK⟩:=id dB;obtain⟨M4,M5,rfl,M6,M7⟩:=id gJ;obtain⟨HL,HM,rfl,HN,DB⟩:=id fM;refine ab 1 rfl (ae [2,3,4,5,6,7] ?_);refine aq (af (ab 4 rfl (GK Tryz.underlying4 rfl rfl (ae [2,3,4,5,6,7,27] ?_))));refine az rfl (fun hb=> ?_) (fun hb=> ?_)
 ·
  have mC:f=g:=by simpa using hb
  subst mC;refine cg .bR [0,1,2,3,5,4,6,7] follows (by kernel_rfl) ?_;refine ab 5 rfl (aT rfl rfl (Vi dB gJ (by omega) (by omega)) (fun _ _ h=>h.le) ?_);intro v4 H4 fh;have ep:=fh.nat;obtain⟨DC,DD,rfl,DE,DF⟩:=id ep;refine dH ag rfl gH rfl rfl ?_;obtain⟨ti,ak,al⟩:=ft;refine aM (.inl ⟨rfl,rfl⟩) rfl rfl rfl ak al rfl rfl rfl (ae [4] ?_);obtain⟨bO,aI,aJ⟩:=ft;refine aw ⟨.inr rfl,_,.agg rfl Tryz.underlying108 aI aJ (.nil),?_⟩;exact⟨fL.trans fh.le,f,n*e+m*d,d*e,⟨_,_,rfl,ep,fM.le fh.le⟩,DA,(MR f hd he).symm,by omega,by omega⟩
 ·
  have mC:f≠g:=by simpa using hb
  refine ax (aj [2,3,4,5,6,7] rfl ?_);refine aq (af (ab 2 rfl (au rfl rfl (VZ dB gJ (by omega)) ?_)));rintro v4 H4 ⟨rfl,rfl⟩;refine ab 1 rfl (ae [2,3,4,5,6,7,38] ?_);refine az rfl (fun hb=> ?_) (fun hb=> ?_)
  ·
   have hb:m*d≤n*e:=M0.1 (by simpa using hb);have jY:=jB (Nat.sub_le (n*e) (m*d));refine cg .bR [0,1,2,3,5,4,6,7] follows (by kernel_rfl) ?_;refine ab 5 rfl (aT rfl rfl (My dB gJ hb (by omega)) (fun _ _ h=>h.le) ?_);intro v4 H4 fh;have ep:=fh.nat;obtain⟨DC,DD,rfl,DE,DF⟩:=id ep;refine dH ag rfl gH rfl rfl ?_;obtain⟨ti,ak,al⟩:=ft;refine aM (.inl ⟨rfl,rfl⟩) rfl rfl rfl ak al rfl rfl rfl (ae [4] ?_);obtain⟨bO,aI,aJ⟩:=ft;refine aw ⟨.inr rfl,_,.agg rfl Tryz.underlying108 aI aJ (.nil),?_⟩;exact⟨fL.trans fh.le,f,n*e-m*d,d*e,⟨_,_,rfl,ep,fM.le fh.le⟩,DA,(HE mC hd he hb).symm,by omega,by omega⟩
  have hb:¬m*d≤n*e:=fun h=>by have:=M0.2 h;simp at hb;omega
  have hb:n*e≤m*d:=by omega
  have jY:=jB (Nat.sub_le (m*d) (n*e));refine ax (aj [3,4,5,6,7] rfl ?_);refine cg .bR [0,1,2,3,5,4,6,7] follows (by kernel_rfl) ?_;refine ab 5 rfl (aT rfl rfl (My gJ dB hb (by omega)) (fun _ _ h=>h.le) ?_);intro v4 H4 fh;have ep:=fh.nat;obtain⟨DC,DD,rfl,DE,DF⟩:=id ep;refine dH ag rfl gH rfl rfl ?_;obtain⟨ti,ak,al⟩:=ft;refine aM (.inl ⟨rfl,rfl⟩) rfl rfl rfl ak al rfl rfl rfl (ae [4] ?_);obtain⟨bO,aI,aJ⟩:=ft;refine aw ⟨.inr rfl,_,.agg rfl Tryz.underlying108 aI aJ (.nil),?_⟩;exact⟨fL.trans fh.le,g,m*d-n*e,d*e,⟨_,_,rfl,ep,fM.le fh.le⟩,DA,(MS mC hd he hb).symm,by omega,by omega⟩
theorem HO{H:Heap}{n:Int}(h1: -9223372036854775808≤n)(h2:n≤9223372036854775807):
 Fn Tryz.prog 79 #[.int .i64 n] H (jV H n.natAbs):=by
 refine aW (args:=[_]) Tryz.func79 rfl rfl Tryz.ntmps79 rfl rfl fun w0=> ?_;refine aj [0] rfl ?_;refine af (ab 1 rfl (ae [0] ?_));refine aq (af (ab 2 rfl (ae [0,4] ?_)));refine az rfl (fun hb=> ?_) (fun hb=> ?_)
 ·
  have hb:n<0:=by simpa using hb
  refine af (ab 1 rfl (L6 ag rfl rfl rfl (T3 rfl ?_)));rw[show IntKind.u64.wrap (-IntKind.u64.wrap n)=((n.natAbs:Nat):Int) by rw[wrap_u64,wrap_u64];omega];refine au rfl rfl (Dk (by omega)) ?_;intro v1 H1 hp;refine ab 1 rfl (ae [2] ?_);refine aw ⟨.inr rfl,_,.tmp rfl (.nil),?_⟩;exact hp
 ·
  have hb:0≤n:=by simpa using hb
  refine ax (aj [0] rfl ?_);refine af (ab 1 rfl (L6 ag rfl rfl rfl ?_));rw[show IntKind.u64.wrap n=((n.natAbs:Nat):Int) by rw[wrap_u64];omega];refine au rfl rfl (Dk (by omega)) ?_;intro v1 H1 hp;refine ab 1 rfl (ae [2] ?_);refine aw ⟨.inr rfl,_,.tmp rfl (.nil),?_⟩;exact hp
theorem HP{H:Heap}{n:Int}(h1: -9223372036854775808≤n)(h2:n≤9223372036854775807):
 Fn Tryz.prog 45 #[.int .i64 n] H (iI H (n:Rat)):=by
 have fu:(ah n.natAbs).length≤3:=gm.2 (by rw[bG];omega);refine aW (args:=[_]) Tryz.func45 rfl rfl Tryz.ntmps45 rfl rfl fun w0=> ?_;refine aj [0] rfl ?_;refine af (bD cZ rfl (ae [0,2] ?_));refine af (ab 3 rfl (au rfl rfl (HO h1 h2) ?_));intro v1 H1 hp;have dB:=hp.nat;obtain⟨HH,HI,rfl,HJ,HK⟩:=id dB;refine cU Tryz.underlying106 cW rfl rfl rfl rfl rfl rfl rfl ?_;intro gb bH;refine dH ag rfl gH rfl rfl (au rfl rfl (sO (f:=decide (n<0)) (n:=n.natAbs) (d:=1) ⟨_,_,rfl,dB.le (Heap.a0 _ bH),sM⟩ (by decide) (by omega) (by rw[qW];decide)) ?_);rintro v1 H2 ⟨hle,hq⟩;rw[Dw]at hq;obtain⟨u1,w1,rfl,dz,eB⟩:=id hq;obtain⟨jZ,j0,rfl,j1,j2⟩:=id dz;obtain⟨w5,w6,rfl,w8,w9⟩:=id eB;obtain⟨ti,ak,al⟩:=bT;refine aM (.inl ⟨rfl,rfl⟩) rfl rfl rfl ak al rfl rfl rfl (ae [2] ?_);obtain⟨bO,aI,aJ⟩:=bT;refine aw ⟨.inr rfl,_,.agg rfl Tryz.underlying29 aI aJ (.nil),?_⟩;exact⟨(hp.le.trans (Heap.a0 _ bH)).trans hle,hq⟩
theorem M8{H:Heap}{a b:Int}(h1: -9223372036854775808≤a)(h2:a≤9223372036854775807)(h3: -9223372036854775808≤b)(h4:b≤9223372036854775807):
 Fn Tryz.prog 69 #[.int .i64 a,.int .i64 b] H (iI H ((a:Rat)/(b:Rat))):=by
 have fu:(ah a.natAbs).length≤3:=gm.2 (by rw[bG];omega)
 have eZ:(ah b.natAbs).length≤3:=gm.2 (by rw[bG];omega);refine aW (args:=[_,_]) Tryz.func69 rfl rfl Tryz.ntmps69 rfl rfl fun w0=> ?_;refine aj [0,1] rfl ?_;refine af (bD cZ rfl (ae [0,1,4] ?_));refine aq (af (ab 2 rfl (ae [0,1,4,6] ?_)));refine az rfl (fun hb=> ?_) (fun hb=> ?_)
 ·
  have hb:b=0:=by simpa using hb
  subst hb;refine af (au rfl rfl (HP (n:=0) (by decide) (by decide)) ?_);rintro v1 H2 ⟨hle,hq⟩;obtain⟨u1,w1,rfl,dz,eB⟩:=id hq;obtain⟨jZ,j0,rfl,j1,j2⟩:=id dz;obtain⟨w5,w6,rfl,w8,w9⟩:=id eB;obtain⟨ti,ak,al⟩:=bT;refine aM (.inl ⟨rfl,rfl⟩) rfl rfl rfl ak al rfl rfl rfl (ae [4] ?_);obtain⟨bO,aI,aJ⟩:=bT;refine aw ⟨.inr rfl,_,.agg rfl Tryz.underlying29 aI aJ (.nil),?_⟩;exact⟨hle,by rw[show (a:Rat)/((0:Int):Rat)=((0:Int):Rat) by simp[Rat.div_def]];exact hq⟩
 ·
  have hb:b≠0:=by simpa using hb
  refine ax (aj [0,1,4] rfl ?_);refine af (ab 4 rfl (GL Tryz.underlying4 rfl rfl (ab 1 rfl (au rfl rfl (HO h1 h2) ?_))));intro v1 H1 eV;refine ab 1 rfl (au rfl rfl (HO h3 h4) ?_);intro v2 H2 eI;have dB:=eV.nat.le eI.le;have gJ:=eI.nat;obtain⟨HH,HI,rfl,HJ,HK⟩:=id dB;obtain⟨M4,M5,rfl,M6,M7⟩:=id gJ;refine dH ag rfl gH rfl rfl (au rfl rfl (sO (f:=decide (a<0) != decide (b<0)) (n:=a.natAbs) (d:=b.natAbs) ⟨_,_,rfl,dB,gJ⟩ (by omega) (by omega) (by omega)) ?_);rintro v1 H3 ⟨hle,hq⟩;rw[MW]at hq;obtain⟨u1,w1,rfl,dz,eB⟩:=id hq;obtain⟨jZ,j0,rfl,j1,j2⟩:=id dz;obtain⟨w5,w6,rfl,w8,w9⟩:=id eB;obtain⟨ti,ak,al⟩:=bT;refine aM (.inl ⟨rfl,rfl⟩) rfl rfl rfl ak al rfl rfl rfl (ae [4] ?_);obtain⟨bO,aI,aJ⟩:=bT;refine aw ⟨.inr rfl,_,.agg rfl Tryz.underlying29 aI aJ (.nil),?_⟩;exact⟨(eV.le.trans eI.le).trans hle,hq⟩
end Go.ar
namespace Go.ar
open Go.Proofs Num
theorem xd{H:Heap}{v:Value}{q:Rat}{N:Nat}(hv:bL H v q N)(hN:(N:Int)≤1099511627776):
 Fn Tryz.prog 46 #[v] H (iI H q):=by
 obtain⟨bf,bu,bw,mE,mG,rfl,_⟩:=id hv;refine aW (args:=[_]) Tryz.func46 rfl rfl Tryz.ntmps46 rfl rfl fun w0=> ?_;refine aj [0] rfl ?_;refine af (bY rfl rfl (bD cZ rfl (ae [1,2] ?_)));refine af (ab 1 rfl (au rfl rfl (oM hv (by omega)) ?_));rintro v1 H1 ⟨eM,f1,n1,d1,j3,ej,rfl,cn,pR⟩;obtain⟨uO,uP,rfl,gI,gX⟩:=id j3;obtain⟨uQ,uR,rfl,uS,uT⟩:=id gI;obtain⟨uU,uV,rfl,uW,uX⟩:=id gX;refine au rfl rfl (sO j3 ej (by omega) (by omega)) ?_;rintro w2 G2 ⟨cR,bF⟩;obtain⟨u2,x2,rfl,eo,dQ⟩:=id bF;obtain⟨lS,lT,rfl,lU,lV⟩:=id eo;obtain⟨lW,lX,rfl,lY,lZ⟩:=id dQ;obtain⟨ti,ak,al⟩:=bT;refine aM (.inl ⟨rfl,rfl⟩) rfl rfl rfl ak al rfl rfl rfl (ae [2] ?_);obtain⟨bO,aI,aJ⟩:=bT;refine aw ⟨.inr rfl,_,.agg rfl Tryz.underlying29 aI aJ (.nil),?_⟩;exact⟨eM.trans cR,bF⟩
theorem M9{H:Heap}{v:Value}{q:Rat}{N:Nat}(hv:bL H v q N)(hN:(N:Int)≤1099511627776):
 Fn Tryz.prog 44 #[v] H (fun v H'=>Heap.le H H'∧v = .int .i64 (fK q)):=by
 obtain⟨bf,bu,bw,mE,mG,rfl,_⟩:=id hv;refine aW (args:=[_]) Tryz.func44 rfl rfl Tryz.ntmps44 rfl rfl fun w0=> ?_;refine aj [0] rfl ?_;refine af (bY rfl rfl (ab 1 rfl (ae [1] ?_)));refine af (ab 1 rfl (au rfl rfl (oM hv (by omega)) ?_));rintro v1 H1 ⟨eM,f1,n1,d1,j3,ej,rfl,cn,pR⟩;obtain⟨uO,uP,rfl,gI,gX⟩:=id j3;obtain⟨uQ,uR,rfl,uS,uT⟩:=id gI;obtain⟨uU,uV,rfl,uW,uX⟩:=id gX;refine au rfl rfl (V2 j3 ej) ?_;rintro v2 H2 ⟨rfl,rfl⟩;refine ab 1 rfl (ae [2] ?_);refine aw ⟨.inr rfl,_,.tmp rfl (.nil),?_⟩;exact⟨eM,rfl⟩
theorem V4{H:Heap}{v:Value}{q:Rat}{N:Nat}(hv:bL H v q N)(hN:(N:Int)≤1099511627776):
 Fn Tryz.prog 67 #[v] H (iI H (-q)):=by
 obtain⟨bf,bu,bw,mE,mG,rfl,_⟩:=id hv;refine aW (args:=[_]) Tryz.func67 rfl rfl Tryz.ntmps67 rfl rfl fun w0=> ?_;refine aj [0] rfl ?_;refine af (bY rfl rfl (bD cZ rfl (ae [1,2] ?_)));refine af (ab 1 rfl (au rfl rfl (oM hv (by omega)) ?_));rintro v1 H1 ⟨eM,f1,n1,d1,j3,ej,rfl,cn,pR⟩;obtain⟨uO,uP,rfl,gI,gX⟩:=id j3;obtain⟨uQ,uR,rfl,uS,uT⟩:=id gI;obtain⟨uU,uV,rfl,uW,uX⟩:=id gX;refine bD gH rfl ?_;obtain⟨ti,ak,al⟩:=ft;refine aM (.inl ⟨rfl,rfl⟩) rfl rfl rfl ak al rfl rfl rfl (ae [2,3] ?_);refine af (vr 4 ?_);obtain⟨ti,ak,al⟩:=Mj;refine aM (.inr rfl) rfl rfl rfl ak al rfl rfl rfl (ae [2,3] ?_);refine af (ab 1 rfl (au rfl rfl (sO (f:= !f1) ⟨_,_,rfl,gI,gX⟩ ej (by omega) (by omega)) ?_));rintro w2 G2 ⟨cR,bF⟩;rw[←HF]at bF;obtain⟨u2,x2,rfl,eo,dQ⟩:=id bF;obtain⟨lS,lT,rfl,lU,lV⟩:=id eo;obtain⟨lW,lX,rfl,lY,lZ⟩:=id dQ;obtain⟨ti,ak,al⟩:=bT;refine aM (.inl ⟨rfl,rfl⟩) rfl rfl rfl ak al rfl rfl rfl (ae [2] ?_);obtain⟨bO,aI,aJ⟩:=bT;refine aw ⟨.inr rfl,_,.agg rfl Tryz.underlying29 aI aJ (.nil),?_⟩;exact⟨eM.trans cR,bF⟩
theorem Na{H:Heap}{v v2:Value}{q q2:Rat}{N:Nat}(hv:bL H v q N)(de:bL H v2 q2 N)(hN:(N:Int)≤1099511627776):
 Fn Tryz.prog 110 #[v,v2] H (iI H (q+q2)):=by
 obtain⟨bf,bu,bw,mE,mG,rfl,_⟩:=id hv
 obtain⟨cf,cu,cw,xe,xg,rfl,_⟩:=id de;refine aW (args:=[_,_]) Tryz.func110 rfl rfl Tryz.ntmps110 rfl rfl fun w0=> ?_;refine aj [0,1] rfl ?_;refine af (bY rfl rfl (bY rfl rfl (bD cZ rfl (ae [2,3,4] ?_))));refine cg .bR [0,2,1,3,4,5,6] follows (by kernel_rfl) ?_;refine ab 2 rfl (aT rfl rfl (oM hv (by omega)) (fun _ _ h=>h.le) ?_);rintro v1 H1 ⟨eM,f1,n1,d1,j3,ej,rfl,cn,pR⟩;obtain⟨uO,uP,rfl,gI,gX⟩:=id j3;obtain⟨uQ,uR,rfl,uS,uT⟩:=id gI;obtain⟨uU,uV,rfl,uW,uX⟩:=id gX;refine aT rfl rfl (oM (de.le eM) (by omega)) (fun _ _ h=>h.le) ?_;rintro v2 H2 ⟨dA,f2,n2,d2,sP,jW,rfl,ct,kZ⟩;obtain⟨DG,DH,rfl,mH,l0⟩:=id sP;obtain⟨zN,zO,rfl,DI,DJ⟩:=id mH;obtain⟨zP,zQ,rfl,DK,DL⟩:=id l0;refine aT rfl rfl (M1 (K:=N+1) (j3.le dA) sP ej jW cn pR ct kZ (by omega)) (fun _ _ h=>h.le) ?_;rintro v3 H3 ⟨fL,f3,n3,d3,zR,HQ,DM,fu,HG⟩;obtain⟨V5,V6,rfl,V7,V8⟩:=id zR;refine aT rfl rfl (sO zR HQ (by omega) (by omega)) (fun _ _ h=>h.le) ?_;rintro w4 G4 ⟨gK,cJ⟩;rw[DM]at cJ;obtain⟨u4,x4,rfl,qY,mI⟩:=id cJ;obtain⟨DN,DO,rfl,DP,DQ⟩:=id qY;obtain⟨DR,DS,rfl,DT,DU⟩:=id mI;obtain⟨ti,ak,al⟩:=bT;refine aM (.inl ⟨rfl,rfl⟩) rfl rfl rfl ak al rfl rfl rfl ?_
 refine ae [4] ?_;obtain⟨bO,aI,aJ⟩:=bT;refine aw ⟨.inr rfl,_,.agg rfl Tryz.underlying29 aI aJ (.nil),?_⟩;exact⟨((eM.trans dA).trans fL).trans gK,cJ⟩
theorem HR{H:Heap}{v v2:Value}{q q2:Rat}{N:Nat}(hv:bL H v q N)(de:bL H v2 q2 N)(hN:(N:Int)≤1099511627776):
 Fn Tryz.prog 83 #[v,v2] H (iI H (q*q2)):=by
 obtain⟨bf,bu,bw,mE,mG,rfl,_⟩:=id hv
 obtain⟨cf,cu,cw,xe,xg,rfl,_⟩:=id de;refine aW (args:=[_,_]) Tryz.func83 rfl rfl Tryz.ntmps83 rfl rfl fun w0=> ?_;refine aj [0,1] rfl ?_;refine af (bY rfl rfl (bY rfl rfl (bD cZ rfl (ae [2,3,4] ?_))));refine cg .bR [0,2,1,3,4,5,6,7] follows (by kernel_rfl) ?_;refine ab 2 rfl (aT rfl rfl (oM hv (by omega)) (fun _ _ h=>h.le) ?_);rintro v1 H1 ⟨eM,f1,n1,d1,j3,ej,rfl,cn,pR⟩;obtain⟨uO,uP,rfl,gI,gX⟩:=id j3;obtain⟨uQ,uR,rfl,uS,uT⟩:=id gI;obtain⟨uU,uV,rfl,uW,uX⟩:=id gX;refine aT rfl rfl (oM (de.le eM) (by omega)) (fun _ _ h=>h.le) ?_;rintro v2 H2 ⟨dA,f2,n2,d2,sP,jW,rfl,ct,kZ⟩;obtain⟨DG,DH,rfl,mH,l0⟩:=id sP;obtain⟨zN,zO,rfl,DI,DJ⟩:=id mH;obtain⟨zP,zQ,rfl,DK,DL⟩:=id l0;have sN:=oL n1 n2;have kX:=oL d1 d2;refine bD gH rfl (bD gH rfl ?_);obtain⟨ti,ak,al⟩:=ft;refine aM (.inl ⟨rfl,rfl⟩) rfl rfl rfl ak al rfl rfl rfl ?_;obtain⟨ti,ak,al⟩:=ft;refine aM (.inl ⟨rfl,rfl⟩) rfl rfl rfl ak al rfl rfl rfl (ae [4,5,6] ?_);refine cg .bR [0,1,2,3,4,5,6,7,8,10,11,12,13,9,14,15,16,17] follows (by kernel_rfl) ?_;refine ab 4 rfl (GL Tryz.underlying4 rfl rfl ?_)
 refine ab 8 rfl (aT rfl rfl (uD (gI.le dA) mH (by omega) (by omega)) (fun _ _ h=>h.le) ?_);intro v3 H3 eE;refine aT rfl rfl (uD (gX.le (dA.trans eE.le)) (l0.le eE.le) (by omega) (by omega)) (fun _ _ h=>h.le) ?_;intro v4 H4 fh;have fM:=eE.nat.le fh.le;have ep:=fh.nat;obtain⟨HL,HM,rfl,HN,DB⟩:=id fM;obtain⟨DC,DD,rfl,DE,DF⟩:=id ep;refine dH ag rfl gH rfl rfl (aT rfl rfl (sO (f:=f1 != f2) (n:=n1*n2) (d:=d1*d2) ⟨_,_,rfl,fM,ep⟩ (Nat.mul_pos ej jW) (by omega) (by omega)) (fun _ _ h=>h.le) ?_);rintro w4 G4 ⟨gK,cJ⟩;rw[←MT]at cJ;obtain⟨u4,x4,rfl,qY,mI⟩:=id cJ;obtain⟨DN,DO,rfl,DP,DQ⟩:=id qY;obtain⟨DR,DS,rfl,DT,DU⟩:=id mI;obtain⟨ti,ak,al⟩:=bT;refine aM (.inl ⟨rfl,rfl⟩) rfl rfl rfl ak al rfl rfl rfl (ae [4] ?_);obtain⟨bO,aI,aJ⟩:=bT;refine aw ⟨.inr rfl,_,.agg rfl Tryz.underlying29 aI aJ (.nil),?_⟩;exact⟨(((eM.trans dA).trans eE.le).trans fh.le).trans gK,cJ⟩
theorem Nb{H:Heap}{v v2:Value}{q q2:Rat}{N:Nat}(hv:bL H v q N)(de:bL H v2 q2 N)(hN:(N:Int)≤1099511627776):
 Fn Tryz.prog 94 #[v,v2] H (fun v H'=>Heap.le H H'∧∃r,v = .tuple #[r,.bool (decide (q2≠0))]∧dI H' r (q/q2)):=by
 obtain⟨bf,bu,bw,mE,mG,rfl,_⟩:=id hv
 obtain⟨cf,cu,cw,xe,xg,rfl,_⟩:=id de;refine aW (args:=[_,_]) Tryz.func94 rfl rfl Tryz.ntmps94 rfl rfl fun w0=> ?_;refine aj [0,1] rfl ?_;refine af (bY rfl rfl (bY rfl rfl (bD cZ rfl (ab 1 rfl (ae [2,3,4] ?_)))));refine cg .bR [0,2,1,3,4,5,6,7] follows (by kernel_rfl) ?_;refine ab 2 rfl (aT rfl rfl (oM hv (by omega)) (fun _ _ h=>h.le) ?_);rintro v1 H1 ⟨eM,f1,n1,d1,j3,ej,rfl,cn,pR⟩;obtain⟨uO,uP,rfl,gI,gX⟩:=id j3;obtain⟨uQ,uR,rfl,uS,uT⟩:=id gI;obtain⟨uU,uV,rfl,uW,uX⟩:=id gX;refine aT rfl rfl (oM (de.le eM) (by omega)) (fun _ _ h=>h.le) ?_;rintro v2 H2 ⟨dA,f2,n2,d2,sP,jW,rfl,ct,kZ⟩;obtain⟨DG,DH,rfl,mH,l0⟩:=id sP;obtain⟨zN,zO,rfl,DI,DJ⟩:=id mH;obtain⟨zP,zQ,rfl,DK,DL⟩:=id l0;have sN:=oL n1 d2;have kX:=oL d1 n2;refine bD gH rfl (bD gH rfl ?_);obtain⟨ti,ak,al⟩:=ft;refine aM (.inl ⟨rfl,rfl⟩) rfl rfl rfl ak al rfl rfl rfl ?_;obtain⟨ti,ak,al⟩:=ft;refine aM (.inl ⟨rfl,rfl⟩) rfl rfl rfl ak al rfl rfl rfl (ae [4,6,7] ?_);refine aq (af (ab 4 rfl (ae [4,6,7,15] ?_)));refine az rfl (fun hb=> ?_) (fun hb=> ?_)
 ·
  have hb:n2=0:=ik.1 (by simpa using hb);subst hb;refine af (au rfl rfl (HP (n:=0) (by decide) (by decide)) ?_);rintro w4 G4 ⟨gK,cJ⟩;obtain⟨u4,x4,rfl,qY,mI⟩:=id cJ;obtain⟨DN,DO,rfl,DP,DQ⟩:=id qY;obtain⟨DR,DS,rfl,DT,DU⟩:=id mI;obtain⟨ti,ak,al⟩:=bT;refine aM (.inl ⟨rfl,rfl⟩) rfl rfl rfl ak al rfl rfl rfl (ab 1 rfl (ae [4,5] ?_));obtain⟨bO,aI,aJ⟩:=bT;refine aw ⟨.inr rfl,_,.agg rfl Tryz.underlying29 aI aJ (.tmp rfl (.nil)),?_⟩;refine⟨(eM.trans dA).trans gK,_,?_,by rw[sK,Rat.div_def,Rat.inv_zero,Rat.mul_zero];exact cJ⟩;rw[sK];rfl
 ·
  have gW:0<n2:=Nat.pos_of_ne_zero fun e=>by rw[ik.2 e]at hb;simp at hb
  refine ax (aj [4,6,7] rfl ?_);refine cg .bR [0,1,2,3,4,5,6,7,8,10,11,12,13,9,14,15,16,17,18] follows (by kernel_rfl) ?_;refine ab 4 rfl (GL Tryz.underlying4 rfl rfl (ab 8 rfl (aT rfl rfl (uD (gI.le dA) l0 (by omega) (by omega)) (fun _ _ h=>h.le) ?_)));intro v3 H3 eE;refine aT rfl rfl (uD (gX.le (dA.trans eE.le)) (mH.le eE.le) (by omega) (by omega)) (fun _ _ h=>h.le) ?_;intro v4 H4 fh;have fM:=eE.nat.le fh.le;have ep:=fh.nat;obtain⟨HL,HM,rfl,HN,DB⟩:=id fM;obtain⟨DC,DD,rfl,DE,DF⟩:=id ep;refine dH ag rfl gH rfl rfl (aT rfl rfl (sO (f:=f1 != f2) (n:=n1*d2) (d:=d1*n2) ⟨_,_,rfl,fM,ep⟩ (Nat.mul_pos ej gW) (by omega) (by omega)) (fun _ _ h=>h.le) ?_);rintro w4 G4 ⟨gK,cJ⟩;rw[←MV gW]at cJ;obtain⟨u4,x4,rfl,qY,mI⟩:=id cJ;obtain⟨DN,DO,rfl,DP,DQ⟩:=id qY;obtain⟨DR,DS,rfl,DT,DU⟩:=id mI;obtain⟨ti,ak,al⟩:=bT;refine aM (.inl ⟨rfl,rfl⟩) rfl rfl rfl ak al rfl rfl rfl (ab 1 rfl (ae [4,5] ?_));obtain⟨bO,aI,aJ⟩:=bT;refine aw ⟨.inr rfl,_,.agg rfl Tryz.underlying29 aI aJ (.tmp rfl (.nil)),?_⟩;refine⟨(((eM.trans dA).trans eE.le).trans fh.le).trans gK,_,?_,cJ⟩
  have a6:bS f2 n2 d2≠0:=fun e=>by rw[MQ jW]at e;omega
  rw[show decide (bS f2 n2 d2≠0)=true from decide_eq_true a6];rfl
end Go.ar
namespace Go.ar
open Go
def rem(H:Heap)(gs:List Nat):Heap:=fun g=>if g∈gs then none else H g
theorem rem_in{H:Heap}{gs:List Nat}{g:Nat}(h:g∈gs):rem H gs g=none:=by simp[rem,h]
theorem bo{H:Heap}{gs:List Nat}{g:Nat}(h:¬g∈gs):rem H gs g=H g:=by simp[rem,h]
theorem pS(H:Heap):rem H []=H:=by funext g;simp[rem]
theorem bn(H:Heap)(gs:List Nat):Heap.le (rem H gs) H:=fun g e h=>by
 by_cases hg:g∈gs
 ·rw[rem_in hg]at h;cases h
 ·rw[bo hg]at h;exact⟨e,h,.refl e⟩
theorem uY{H H':Heap}(gs:List Nat)(h:Heap.le H H'):Heap.le (rem H gs) (rem H' gs):=fun g e he=>by
 by_cases hg:g∈gs
 ·rw[rem_in hg]at he;cases he
 ·rw[bo hg]at he⊢;exact h g e he
theorem bZ{H:Heap}{gs:List Nat}{g:Nat}(e:aG)(h:g∈gs):rem (ins H g e) gs=rem H gs:=by
 funext k
 by_cases hk:k∈gs
 ·rw[rem_in hk,rem_in hk]
 ·rw[bo hk,bo hk,bA _ _ (fun(e':k=g)=>hk (by rw[e'];exact h))]
theorem qZ{H:Heap}{gs:List Nat}{g:Nat}(e:aG)(h:¬g∈gs):rem (ins H g e) gs=ins (rem H gs) g e:=by
 funext k
 by_cases hk:k∈gs
 ·rw[rem_in hk,bA _ _ (fun(e':k=g)=>h (by rw[←e'];exact hk)),rem_in hk]
 ·rw[bo hk]
  unfold ins
  rw[bo hk]
theorem q3{H:Heap}{gs:List Nat}{g:Nat}(e:aG)(h:H g=none):rem (ins H g e) (g::gs)=rem H gs:=by
 funext k
 by_cases hk:k=g
 ·subst hk
  rw[rem_in (List.mem_cons_self ..)]
  by_cases hg:k∈gs
  ·rw[rem_in hg]
  ·rw[bo hg,h]
 ·by_cases hg:k∈gs
  ·rw[rem_in hg,rem_in (List.mem_cons_of_mem _ hg)]
  ·rw[bo hg,bo (by simp[hk,hg]),bA _ _ hk]
theorem DV(H:Heap)(g:Nat)(gs:List Nat):Heap.le (rem H (g::gs)) (rem H gs):=fun k e h=>by
 by_cases hk:k∈g::gs
 ·rw[rem_in hk]at h;cases h
 ·rw[bo hk]at h
  exact⟨e,by rw[bo (fun h'=>hk (List.mem_cons_of_mem _ h'))];exact h,.refl e⟩
theorem Den.rem{H:Heap}{w:World}(h:Den H w)(gs:List Nat):Den (rem H gs) w:=h.le (bn H gs)
structure sQ(gs:List Nat)(aX:Value→Heap→Prop)(H:Heap)(v:Value)(H':Heap):Prop where
 post:aX v (rem H' gs)
 same:∀g,g∈gs→H' g=H g
theorem Fn.frame{P:Program}{f:FuncId}{args:Array Value}{H:Heap}{aX:Value→Heap→Prop}{gs:List Nat}(pT:∀g,g∈gs→H g≠none)(h:Fn P f args (rem H gs) aX):Fn P f args H (sQ gs aX H):=by
 refine⟨h.ent,fun w hd=>(h.run w (hd.rem gs)).mono fun e w' ⟨v,he,K,hp,jO,hf⟩=>⟨v,he,fun g=>if g∈gs then H g else K g,?_,?_,?_⟩⟩
 ·have hk:∀g,g∈gs→K g=none:=fun g hg=>by
   cases hh:H g with
   | none=>exact absurd hh (pT g hg)
   | some e=>exact(hf.ia g (hd.lt hh) (rem_in hg)).2
  have e1:ar.rem (fun g=>if g∈gs then H g else K g) gs=K:=by
   funext g
   by_cases hg:g∈gs
   ·rw[rem_in hg,hk g hg]
   ·rw[bo hg];simp[hg]
  exact⟨by rw[e1];exact hp,fun g hg=>by simp[hg]⟩
 ·intro g e hg
  by_cases hm:g∈gs
  ·simp only[hm,if_true]at hg
   obtain⟨o,h1,h2⟩:=hd g e hg
   exact⟨o,by rw[(hf.ia g (hd.lt hg) (rem_in hm)).1];exact h1,h2⟩
  ·simp only[hm,if_false]at hg
   exact jO g e hg
 ·refine⟨hf.os,hf.tape,hf.output,hf.size,fun g hg h0=> ?_,hf.form⟩
  have hm:¬g∈gs:=fun hm=>pT g hm h0
  have h1:=hf.ia g hg (by rw[bo hm];exact h0)
  exact⟨h1.1,by simp only[hm,if_false];exact h1.2⟩
theorem sQ.le{gs:List Nat}{aX:Value→Heap→Prop}{H H':Heap}{v:Value}(h:sQ gs aX H v H')(hl:∀v K,aX v K→Heap.le (rem H gs) K):Heap.le H H':=fun g e hg=>by
 by_cases hm:g∈gs
 ·exact⟨e,by rw[h.same g hm];exact hg,.refl e⟩
 ·obtain⟨e',h1,h2⟩:=hl v _ h.post g e (by rw[bo hm];exact hg)
  rw[bo hm]at h1
  exact⟨e',h1,h2⟩
theorem App.rem{H H':Heap}{v v':Value}{e sz n:Nat}{xs:List Value}{gs:List Nat}(h:App H v e sz n xs v' H')(hg:∀g,g∈gs→H g≠none)(hv:∀g,g∈gs→v.ownBlock≠some g):
  App (ar.rem H gs) v e sz n xs v' (ar.rem H' gs)∧∀g,g∈gs→H' g=H g:=by
 have hs:∀g,g∈gs→H' g=H g:=fun g hm=>by
  cases hh:H g with
  | none=>exact absurd hh (hg g hm)
  | some ent=>exact h.same g ent hh (hv g hm)
 have wK:∀g,v'.ownBlock=some g→¬g∈gs:=fun g h1 hm=>by
  rcases h.at_ with h2 | ⟨g',h2,h3⟩
  ·exact hv g hm (h2▸h1)
  ·rw[h2]at h1
   cases h1
   exact hg _ hm h3
 refine⟨⟨h.own.same fun g h1=>bo (wK g h1),uY gs h.le,fun k ent hk a6=> ?_,?_⟩,hs⟩
 ·by_cases hm:k∈gs
  ·rw[rem_in hm]at hk;cases hk
  ·rw[bo hm]at hk⊢;exact h.same k ent hk a6
 ·rcases h.at_ with h2 | ⟨g',h2,h3⟩
  ·exact .inl h2
  ·refine .inr ⟨g',h2,?_⟩
   rw[bo (wK g' h2)];exact h3
section
variable {P:Program} {n:Nat} {tb:Tb} {all:Array Oper} {s:St} {H:Heap} {md:Mode} {K:St→Heap→Prop} {r:List Oper} {dst:Option Nat} {ty:TypeId} {pos:String} {after:Array Edge} {gd:Option (Nat×Bool)}
theorem Nc{f:Operand}{jz:FuncId}{args:List Value}{xs:List Operand}{ts:Array TypeId}{aX:Value→Heap→Prop}(hf:ev s f=some (.func (.func jz) #[] #[]))(hx:nx s xs=some args)
  (h:Fn P jz args.toArray H aX) (hk:∀v H',aX v H'→aE P n all .py r (aR s dst (.val v)) H' K) (hg:bM all s gd=some true:=by rfl) (nb:Mode.py.nb s dst=true:=by rfl):aE P n all .py (⟨dst,.call ⟨.value f,xs.toArray,ts⟩,ty,pos,after,gd⟩::r) s H K:=
 .fo aX (.inl zh) nb (zf (cap:=[]) hf hx hg (by simpa using h)) trivial fun v H' hp _=>hk v H' hp
theorem Nd:∀(us:List Value)(A B:List Value)(p:Nat),(∀(i:Nat)(w:Value),A[i]? = some w→B[i]? = some w)→p+us.length≤A.length→∀(i:Nat)(w:Value),(aC A p us)[i]? = some w→(aC B p us)[i]? = some w:=by
 intro us
 induction us with
 | nil=>intro A B p h _ i w hw;exact h i w hw
 | cons x us ih=>
  intro A B p h hl i w hw
  simp only[List.length_cons]at hl
  refine ih (A.set p x) (B.set p x) (p+1) (fun i w hw=> ?_) (by simp;omega) i w hw
  by_cases e:i=p
  ·subst e
   have hA:i<A.length:=by omega
   have hB:i<B.length:=(List.getElem?_eq_some_iff.1 (h i _ (List.getElem?_eq_getElem hA))).1
   rw[List.getElem?_set_self hA]at hw
   rw[List.getElem?_set_self hB];exact hw
  ·rw[List.getElem?_set_ne (fun e'=>e e'.symm)]at hw⊢
   exact h i w hw
theorem mJ{t:TypeId}{x y:Operand}{g o sz:Nat}{ent:aG}{v:Value}{vs:List Value}{ii:TypeInfo}(dy:md = .plain∨md = .fR)(hx:ev s x=some (.pointer (some ⟨g,o,none⟩)))(hg:H g=some ent)(bW:ent.own=true)(iE:o+sz≤ent.xs.length)
  (uk:P.info? t=some ii) (bV:ii.size=sz) (hy:ev s y=some v) (hv:v.cells=vs.toArray) (fG:vs.length=sz) (h1:vs.all ui=true)
  (hk:aE P n all md r s (ins H g {ent with xs:=aC ent.xs o vs}) K) (ie:bM all s gd=some true:=by rfl):aE P n all md (⟨none,.store t x y,ty,pos,after,gd⟩::r) s H K:=by
 refine .fo (fun _ H'=>H'=ins H g {ent with xs:=aC ent.xs o vs}) (.inr (.inl rfl)) (by rcases dy with rfl | rfl <;> rfl) (fun a w ha hd=> ?_) (by rcases dy with rfl | rfl <;> first | trivial | exact .inl rfl) fun _ H' hH _=>by rw[hH];exact hk
 refine⟨fZ ha (iD (o:=⟨none,.store t x y,ty,pos,after,gd⟩) ie),?_⟩
 obtain⟨ob,h2,cur,fz,rfl,h3,h4,h5⟩:=hd g ent hg
 have kS:=h5 bW
 subst kS
 have zj:cur=cur.toList.toArray:=by simp
 have hlen:ent.xs.length≤cur.toList.length:=by
  rcases Nat.eq_zero_or_pos ent.xs.length with h | h
  ·omega
  ·have hx:=h4 (ent.xs.length-1) _ (List.getElem?_eq_getElem (by omega))
   have:=(Array.getElem?_eq_some_iff.1 hx).1
   simp;omega
 rw[zj]at h2
 obtain⟨w',h6,h7,h8,h9,fV,fq,uo⟩:=C0 (P:=P) vs cur.toList w o 0 h2 (fun u hu=>List.all_eq_true.1 h1 u hu) (by omega)
 have hex:(execOp a.eval ⟨none,.store t x y,ty,pos,after,gd⟩).run P w = .ok .skip w':=by
  simp[execOp,bm ha hx,bm ha hy,Instr.storeAt,Instr.sureAddr,storeVar,sizeOf,typeInfo,uk,bV,hv,fG,h6]
 unfold iX
 rw[hex]
 refine⟨_,rfl,wH (o:= .cells (aC cur.toList (o+0) vs).toArray ent.elem (0,0)) hd h7 h8 h9 (by omega) (fun q _ hq=>fq q hq) uo ⟨_,(0,0),rfl,?_,?_,fun _=>rfl⟩ (.inl ⟨_,hg,bW,bW,rfl,rfl⟩)⟩
 ·simp[ze,h3]
 ·intro q u hq
  have:=Nd vs ent.xs cur.toList o (fun i w hw=>by have:=h4 i w hw;simpa using this) (by omega) q u hq
  simpa using this
end
end Go.ar
namespace Go.ar
open Go.Proofs Num
def ea(xs:List Value)(i sz:Nat):List Value:=(xs.drop (i*sz)).take sz
theorem HS{xs:List Value}{i sz q:Nat}{v:Value}(h:(ea xs i sz)[q]? = some v):xs[i*sz+q]? = some v:=by
 unfold ea at h
 rw[List.getElem?_take]at h
 split at h
 ·rwa [List.getElem?_drop]at h
 ·cases h
theorem V9{xs:List Value}{i sz n:Nat}(h:xs.length=n*sz)(hi:i<n):(ea xs i sz).length=sz:=by
 unfold ea
 rw[List.length_take,List.length_drop,h]
 have:(i+1)*sz≤n*sz:=Nat.mul_le_mul_right _ hi
 rw[Nat.add_mul]at this
 omega
theorem HT{xs ys:List Value}{i sz:Nat}(h:∀q,q<sz→xs[i*sz+q]? = ys[i*sz+q]?):ea xs i sz=ea ys i sz:=by
 apply List.ext_getElem?
 intro q
 unfold ea
 rw[List.getElem?_take,List.getElem?_take]
 split
 ·rename_i hq
  rw[List.getElem?_drop,List.getElem?_drop,h q hq]
 ·rfl
theorem HU{xs:List Value}{i:Nat}{v:Value}(h:xs[i]? = some v):ea xs i 1 = [v]:=by
 apply List.ext_getElem?
 intro q
 unfold ea
 rw[List.getElem?_take,Nat.mul_one]
 split
 ·rename_i hq
  obtain rfl:q=0:=by omega
  rw[List.getElem?_drop,Nat.add_zero,h];rfl
 ·rename_i hq
  rw[List.getElem?_eq_none (by simp;omega)]
structure bg{α:Type}(P:List Value→α→Prop)(sz:Nat)(xs:List Value)(l:List α):Prop where
 len:xs.length=l.length*sz
 at_:∀(i:Nat)(a:α),l[i]? = some a→P (ea xs i sz) a
section
variable {α β:Type} {P:List Value→α→Prop} {sz:Nat} {xs ys:List Value} {l k:List α}
theorem bg.mono{P':List Value→α→Prop}(h:bg P sz xs l)(hp:∀vs a,P vs a→P' vs a):bg P' sz xs l:=⟨h.len,fun i a ha=>hp _ _ (h.at_ i a ha)⟩
theorem bg.get(h:bg P sz xs l){i:Nat}{a:α}(ha:l[i]? = some a):∃vs,vs.length=sz∧P vs a∧∀(q:Nat)(v:Value),vs[q]? = some v→xs[i*sz+q]? = some v:=
 ⟨ea xs i sz,V9 h.len (List.getElem?_eq_some_iff.1 ha).1,h.at_ i a ha,fun _ _ hv=>HS hv⟩
theorem sR:bg P sz [] ([]:List α):=⟨by simp,fun i a h=>by simp at h⟩
theorem bg.append(h:bg P sz xs l)(h':bg P sz ys k):bg P sz (xs++ys) (l++k):=by
 refine⟨by rw[List.length_append,List.length_append,h.len,h'.len,Nat.add_mul],fun i a ha=> ?_⟩
 by_cases hi:i<l.length
 ·rw[List.getElem?_append_left hi]at ha
  have e:ea (xs++ys) i sz=ea xs i sz:=HT fun q hq=>by
   have:(i+1)*sz≤l.length*sz:=Nat.mul_le_mul_right _ hi
   rw[Nat.add_mul]at this
   rw[List.getElem?_append_left (by rw[h.len];omega)]
  rw[e];exact h.at_ i a ha
 ·rw[List.getElem?_append_right (by omega)]at ha
  have e:ea (xs++ys) i sz=ea ys (i-l.length) sz:=by
   unfold ea
   have e1:i*sz=xs.length+(i-l.length)*sz:=by
    rw[h.len,←Nat.add_mul];congr 1;omega
   rw[e1,List.drop_append,List.drop_eq_nil_of_le (by omega),List.nil_append]
   congr 2;omega
  rw[e];exact h'.at_ _ a ha
theorem iq{vs:List Value}{a:α}(h:P vs a)(hl:vs.length=sz):bg P sz vs [a]:=by
 refine⟨by simp[hl],fun i b hb=> ?_⟩
 cases i with
 | zero=>
  simp only[List.getElem?_cons_zero,Option.some.injEq]at hb
  subst hb
  unfold ea
  rw[Nat.zero_mul,List.drop_zero,List.take_of_length_le (by omega)];exact h
 | succ i=>simp at hb
theorem HV:∀(vs xs:List Value)(off i:Nat),off+vs.length≤xs.length→(aC xs off vs)[i]? = if off≤i∧i<off+vs.length then vs[i-off]? else xs[i]? :=by
 intro vs
 induction vs with
 | nil=>intro xs off i _;simp only[aC,List.length_nil,Nat.add_zero];rw[if_neg (by omega)]
 | cons v vs ih=>
  intro xs off i h
  simp only[List.length_cons]at h
  simp only[aC,List.length_cons]
  rw[ih _ _ _ (by simp;omega)]
  by_cases e:i=off
  ·subst e
   rw[if_neg (by omega),if_pos (by omega),Nat.sub_self,List.getElem?_set_self (by omega)];rfl
  ·by_cases e2:off+1≤i∧i<off+1+vs.length
   ·rw[if_pos e2,if_pos (by omega)]
    have:i-off=(i-(off+1))+1:=by omega
    rw[this];rfl
   ·rw[if_neg e2,if_neg (by omega),List.getElem?_set_ne (by omega)]
theorem bg.set(h:bg P sz xs l){i:Nat}(hi:i<l.length){vs:List Value}{a:α}(hp:P vs a)(hv:vs.length=sz):bg P sz (aC xs (i*sz) vs) (l.set i a):=by
 have iE:(i+1)*sz≤l.length*sz:=Nat.mul_le_mul_right _ hi
 rw[Nat.add_mul,Nat.one_mul]at iE
 have hle:i*sz+vs.length≤xs.length:=by rw[h.len,hv];exact iE
 refine⟨by rw[ze,List.length_set];exact h.len,fun j b hb=> ?_⟩
 by_cases e:j=i
 ·subst e
  rw[List.getElem?_set_self hi]at hb
  cases hb
  have e:ea (aC xs (j*sz) vs) j sz=vs:=by
   apply List.ext_getElem?
   intro q
   unfold ea
   rw[List.getElem?_take]
   split
   ·rename_i hq
    rw[List.getElem?_drop,HV _ _ _ _ hle,if_pos (by omega)]
    congr 1;omega
   ·rw[List.getElem?_eq_none (by omega)]
  rw[e];exact hp
 ·rw[List.getElem?_set_ne (fun e'=>e e'.symm)]at hb
  have e:ea (aC xs (i*sz) vs) j sz=ea xs j sz:=HT fun q hq=>by
   rw[HV _ _ _ _ hle,if_neg]
   intro⟨h1,h2⟩
   rw[hv]at h2
   rcases Nat.lt_or_gt_of_ne e with a7 | MK
   ·have:(j+1)*sz≤i*sz:=Nat.mul_le_mul_right _ a7
    rw[Nat.add_mul]at this;omega
   ·have:(i+1)*sz≤j*sz:=Nat.mul_le_mul_right _ MK
    rw[Nat.add_mul]at this;omega
  rw[e];exact h.at_ j b hb
theorem HW{zs:List Value}{a:α}(hz:zs.length=sz)(hp:P zs a)(n:Nat):bg P sz (cA zs (n*sz)) (List.replicate n a):=by
 refine⟨by rw[GQ,List.length_replicate],fun i b hb=> ?_⟩
 rw[List.getElem?_replicate]at hb
 split at hb
 ·rename_i hi
  cases hb
  have e:ea (cA zs (n*sz)) i sz=zs:=by
   apply List.ext_getElem?
   intro q
   unfold ea
   rw[List.getElem?_take]
   split
   ·rename_i hq
    rw[List.getElem?_drop,List.getElem?_eq_getElem (by omega:q<zs.length)]
    exact TK hz hi (List.getElem?_eq_getElem (by omega))
   ·rw[List.getElem?_eq_none (by omega)]
  rw[e];exact hp
 ·cases hb
theorem bg.drop(h:bg P sz xs l)(n:Nat):bg P sz (xs.drop (n*sz)) (l.drop n):=by
 refine⟨by rw[List.length_drop,List.length_drop,h.len,Nat.sub_mul],fun i a ha=> ?_⟩
 rw[List.getElem?_drop]at ha
 have e:ea (xs.drop (n*sz)) i sz=ea xs (n+i) sz:=by
  unfold ea
  rw[List.drop_drop,Nat.add_mul]
 rw[e];exact h.at_ _ a ha
theorem bg.take(h:bg P sz xs l){n:Nat}(hn:n≤l.length):bg P sz (xs.take (n*sz)) (l.take n):=by
 have hm:n*sz≤l.length*sz:=Nat.mul_le_mul_right _ hn
 refine⟨by rw[List.length_take,List.length_take,h.len,Nat.min_eq_left hn,Nat.min_eq_left hm],fun i a ha=> ?_⟩
 rw[List.getElem?_take]at ha
 split at ha
 ·rename_i hi
  have e:ea (xs.take (n*sz)) i sz=ea xs i sz:=HT fun q hq=>by
   have:(i+1)*sz≤n*sz:=Nat.mul_le_mul_right _ hi
   rw[Nat.add_mul]at this
   rw[List.getElem?_take,if_pos (by omega)]
  rw[e];exact h.at_ _ a ha
 ·cases ha
theorem bg.one(h:bg P 1 xs l){i:Nat}{a:α}(ha:l[i]? = some a):∃v,xs[i]? = some v∧P [v] a:=by
 have a7:=(List.getElem?_eq_some_iff.1 ha).1
 have hi:i<xs.length:=by rw[h.len];omega
 refine⟨xs[i],List.getElem?_eq_getElem hi,?_⟩
 have:=h.at_ i a ha
 rwa [HU (List.getElem?_eq_getElem hi)]at this
end
def aH{α:Type}(P:Heap→List Value→α→Prop)(sz:Nat)(H:Heap)(v:Value)(l:List α):Prop:=∃A c xs,v = .slice A l.length c∧l.length≤c∧Rd H A xs∧bg (P H) sz xs l
def Up{α:Type}(P:Heap→List Value→α→Prop):Prop:=∀H H' vs a,Heap.le H H'→P H vs a→P H' vs a
section
variable {α:Type} {P:Heap→List Value→α→Prop} {sz:Nat} {H H':Heap} {v:Value} {l:List α}
theorem aH.le(h:aH P sz H v l)(up:Up P)(hl:Heap.le H H'):aH P sz H' v l:=by
 obtain⟨A,c,xs,h1,h2,h3,h4⟩:=h
 exact⟨A,c,xs,h1,h2,h3.le hl,h4.mono fun vs a=>up H H' vs a hl⟩
def zS{α:Type}(P:Heap→List Value→α→Prop)(e sz:Nat)(H:Heap)(v:Value)(l:List α):Prop:=∃xs,bE H v e sz l.length xs∧bg (P H) sz xs l
theorem zS.sl{e:Nat}(h:zS P e sz H v l):aH P sz H v l:=by
 obtain⟨xs,h1,h2⟩:=h
 obtain⟨A,c,rfl⟩:=h1.form
 refine⟨A,c,xs,rfl,?_,h1.rd,h2⟩
 rcases h1.2 with ⟨k1,k2⟩ | ⟨g,cap,k1,_,k3,_⟩
 ·omega
 ·cases k1;exact k3
end
def aZ(H:Heap)(vs:List Value)(q:Rat):Prop:=
 ∃(n d:Int)(b:Option Addr),vs = [.int .i64 n,.int .i64 d,.pointer b]∧
  ((b=none∧n=q.num∧d=q.den∧-9223372036854775807≤n∧n≤9223372036854775807∧d≤9223372036854775807)∨
   ∃ad f u w,b=some ad∧dI H (.agg #[.bool f,u,w]) q∧cell H ad=some (.bool f)∧cell H (ad.add 1)=some u∧cell H (ad.add 2)=some w)
theorem aZ.up:Up aZ:=fun H H' vs q hl h=>by
 obtain⟨n,d,b,h1,h2⟩:=h
 refine⟨n,d,b,h1,?_⟩
 rcases h2 with h2 | ⟨ad,f,u,w,h2,h3,h4,h5,h6⟩
 ·exact .inl h2
 ·exact .inr ⟨ad,f,u,w,h2,h3.le hl,cy hl h4,cy hl h5,cy hl h6⟩
theorem aZ.le{H H':Heap}{vs:List Value}{q:Rat}(h:aZ H vs q)(hl:Heap.le H H'):aZ H' vs q:=aZ.up H H' vs q hl h
theorem aZ.len{H:Heap}{vs:List Value}{q:Rat}(h:aZ H vs q):vs.length=3:=by
 obtain⟨n,d,b,rfl,_⟩:=h;rfl
def nJ(H:Heap)(q:Rat)(v:Value)(H':Heap):Prop:=Heap.le H H'∧∃vs,v = .agg vs.toArray∧aZ H' vs q
theorem nJ.le{H:Heap}{q:Rat}{v:Value}{H':Heap}(h:nJ H q v H'):Heap.le H H':=h.1
theorem Nf(q:Rat):fK q=if q.num.natAbs=0 then 0 else if decide (q.num<0)then -1 else 1:=by
 have:=Dx (f:=decide (q.num<0)) (n:=q.num.natAbs) (d:=q.den) (Nat.pos_of_ne_zero q.den_nz)
 rwa [zL]at this
theorem Ng{q:Rat}{k:Nat}:aK q≤k↔q.num.natAbs<B^k∧q.den<B^k:=by
 unfold aK
 rw[Nat.max_le,gm,gm]
theorem Nh{q:Rat}{n:Int}{d k:Nat}(hd:0<d)(h:q=mkRat n d)(h1:n.natAbs<B^k)(h2:d<B^k):aK q≤k:=by
 obtain⟨m,hm,h3,h4⟩:=Rat.mkRat_num_den (n:=n) (d:=d) (by omega) (n':=q.num) (d':=q.den) (z':=q.den_nz) (c:=q.reduced) h.symm
 rw[Ng]
 refine⟨?_,?_⟩
 ·rw[h3,Int.natAbs_mul,Int.natAbs_natCast]at h1
  exact Nat.lt_of_le_of_lt (Nat.le_mul_of_pos_right _ (by omega)) h1
 ·rw[h4]at h2
  exact Nat.lt_of_le_of_lt (Nat.le_mul_of_pos_right _ (by omega)) h2
theorem DW(q:Rat):q.num.natAbs<B^aK q∧q.den<B^aK q:=Ng.1 (Nat.le_refl _)
theorem xh(q:Rat):aK (-q)=aK q:=by unfold aK;rw[Rat.neg_num,Int.natAbs_neg,Rat.neg_den]
theorem pU(p q:Rat):aK (p*q)≤aK p+aK q:=by
 have h1:=DW p
 have h2:=DW q
 refine Nh (n:=p.num*q.num) (d:=p.den*q.den) (Nat.mul_pos (Nat.pos_of_ne_zero p.den_nz) (Nat.pos_of_ne_zero q.den_nz)) ?_ ?_ ?_
 ·rw[←Rat.mkRat_mul_mkRat,Rat.mkRat_self,Rat.mkRat_self]
 ·rw[Int.natAbs_mul,Nat.pow_add];exact Nat.mul_lt_mul'' h1.1 h2.1
 ·rw[Nat.pow_add];exact Nat.mul_lt_mul'' h1.2 h2.2
theorem HX(p q:Rat):aK (p+q)≤aK p+aK q+1:=by
 have h1:=DW p
 have h2:=DW q
 have hp:=Nat.pos_of_ne_zero p.den_nz
 have hq:=Nat.pos_of_ne_zero q.den_nz
 have hB:2*(B^aK p*B^aK q)≤B^(aK p+aK q+1):=by
  rw[Nat.pow_succ,Nat.pow_add,Nat.mul_comm 2];exact Nat.mul_le_mul_left _ (by decide)
 refine Nh (n:=p.num*q.den+q.num*p.den) (d:=p.den*q.den) (Nat.mul_pos hp hq) ?_ ?_ ?_
 ·rw[Rat.add_def']
 ·have h3:(p.num*q.den+q.num*p.den).natAbs≤p.num.natAbs*q.den+q.num.natAbs*p.den:=by
   have:=Int.natAbs_add_le (p.num*q.den) (q.num*p.den)
   rwa [Int.natAbs_mul,Int.natAbs_mul,Int.natAbs_natCast,Int.natAbs_natCast]at this
  have h4:=Nat.mul_lt_mul'' h1.1 h2.2
  have h5:=Nat.mul_lt_mul'' h2.1 h1.2
  rw[Nat.mul_comm (B^aK q)]at h5
  omega
 ·have h4:=Nat.mul_lt_mul'' h1.2 h2.2
  omega
theorem pV(p q:Rat):aK (p-q)≤aK p+aK q+1:=by
 rw[Rat.sub_eq_add_neg]
 have:=HX p (-q)
 rwa [xh]at this
end Go.ar
