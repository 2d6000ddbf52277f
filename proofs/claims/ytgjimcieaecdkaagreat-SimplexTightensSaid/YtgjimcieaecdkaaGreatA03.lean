/- Part 3 of the proof: Nat9, Nat10, Nat11, Q, RDat, Rat1, Rat2, Rat3, Eng12, SDat. -/
import Derived.Test.YtgjimcieaecdkaaGreatA02
set_option linter.unusedVariables false
namespace Go.au
open Go.Proofs Num
theorem vF(H:Heap)(g:Nat)(lo w hi:List Nat)(N:Nat):Rd (ins H g (cC (lo++w++hi) N)) (some ⟨g,lo.length,none⟩) (U w):=fun i v hv=>by
 refine⟨_,rfl,?_⟩
 have a8:i<(U w).length:=(List.getElem?_eq_some_iff.1 hv).1
 have e:(⟨g,lo.length,none⟩:Addr).add i=⟨g,lo.length+i,none⟩:=by
  unfold Addr.add;split
  ·rename_i e0;rw[e0,Nat.add_zero]
  ·rfl
 rw[e]
 simp only[cell,bn,cC]
 rw[BM,BM,List.append_assoc,List.getElem?_append_right (by rw[s5];omega),s5,Nat.add_sub_cancel_left,List.getElem?_append_left a8]
 exact hv
theorem BU{H:Heap}{g N k:Nat}{lo w hi:List Nat}{a:Int}{y:Nat}(h:a=y)(hk:k<w.length):ins (ins H g (cC (lo++w++hi) N)) g {cC (lo++w++hi) N with xs:=aA (cC (lo++w++hi) N).xs (lo.length+k*1) [.int .u32 a]}=ins H g (cC (lo++w.set k y++hi) N):=by
 subst h
 rw[qP]
 simp only[cC,aA,Nat.mul_one]
 congr 2
 rw[E7]
 congr 1
 rw[List.append_assoc,List.set_append_right _ _ (by omega),Nat.add_sub_cancel_left,List.set_append_left _ _ hk,List.append_assoc]
theorem Fc{a b:List Nat}{i:Nat}(h:a.drop i=b.drop i):a[i]? = b[i]? :=by
 have:=congrArg (·[0]?) h
 simpa using this
theorem drop_set{a b:List Nat}{i y:Nat}(h:a.drop i=b.drop i):(a.set i y).drop (i+1)=b.drop (i+1):=by
 rw[List.drop_set_of_lt (Nat.lt_succ_self _)]
 have:=congrArg (List.drop 1) h
 simpa [List.drop_drop]using this
theorem SB{H:Heap}{g N:Nat}{lo w hi b:List Nat}{c c' top:Nat}{A':Option Addr}(hg:H g=none)(hr:Rd H A' (U b))(te:w.length=b.length+1)(cD:2≤b.length)(sD:(b.length:Int)≤8796093022208)(rj:Lt w)(eh:Lt b)(vD:b[b.length-1]? = some top)(Fe:0<top)(hq:val w<B*val b):
 Fn Tryz.prog 121 #[.slice (some ⟨g,lo.length,none⟩) (b.length+1) c,.slice A' b.length c'] (ins H g (cC (lo++w++hi) N)) (fun v H'=>∃w',H'=ins H g (cC (lo++w'++hi) N)∧w'.length=w.length∧Lt w'∧val w'=val w%val b∧v = .int .u32 ((val w/val b:Nat):Int)):=by
 obtain⟨k,hk⟩:∃k,b.length=k+2:=⟨b.length-2,by omega⟩
 have oR:=fun e=>hr.le (Heap.bh (g:=g) e hg)
 have pZ:((b.length:Int)-1).toNat=k+1:=by omega
 have tf:((b.length:Int)-2).toNat=k:=by omega
 rw[show b.length-1=k+1 by omega]at vD
 obtain⟨next,x6⟩:∃x,b[k]? = some x:=⟨_,List.getElem?_eq_getElem (by omega)⟩
 obtain⟨u2,dF⟩:∃x,w[k]? = some x:=⟨_,List.getElem?_eq_getElem (by omega)⟩
 obtain⟨u1,cW⟩:∃x,w[k+1]? = some x:=⟨_,List.getElem?_eq_getElem (by omega)⟩
 obtain⟨un,mT⟩:∃x,w[b.length]? = some x:=⟨_,List.getElem?_eq_getElem (by omega)⟩
 have Ff:=eh.get vD
 have Ka:=eh.get x6
 have SC:=rj.get dF
 have SD:=rj.get cW
 have SE:=rj.get mT
 have hV:=Sq hk x6 vD
 have hW:=Sp (by omega) dF cW (by rw[←hk];exact mT)
 have ig:=vE eh (k:=k) (by omega)
 have SF:=vE rj (k:=k) (by omega)
 have SG:=Sm hV hW ig Ka hq
 have SH:=oL eh
 have yb:0<val b:=by
  rcases Nat.eq_zero_or_pos (val b)with e | e
  ·rw[e,Nat.mul_zero]at hq;omega
  ·exact e
 have SI:val w/val b<B:=Nat.div_lt_of_lt_mul (by rwa [Nat.mul_comm]at hq)
 obtain⟨q,tg⟩:∃q,q=val w/val b:=⟨_,rfl⟩
 rw[←tg]at SI⊢
 have Kb:val w=val (w.take b.length)+B^b.length*un:=by rw[←gY mT,List.take_of_length_le (by omega)]
 have hB:=bt
 rw[bt]at Ff Ka SC SD SE;refine aU (args:=[_,_]) Tryz.func121 rfl rfl Tryz.ntmps121 rfl rfl fun w0=> ?_;refine ah [0,1] rfl ?_;refine ae (aa 1 rfl (ab [0,1] ?_));refine ae (aa 3 rfl (ab [0,1,5] ?_));refine bT .bN [0,1,2,3,4,5,6,7,8,9,10,11,12,13] follows (by kernel_rfl) ?_;refine aa 2 rfl (cY rfl rfl ⟨by omega,by omega⟩ (a5 ag rfl rfl rfl rfl rfl (oR _) (by rw[pZ];exact cA vD) (by omega) (by omega) fun _=> ?_));refine ct ag rfl rfl rfl ⟨by omega,by omega⟩ (aa 2 rfl (cY rfl rfl ⟨by omega,by omega⟩ (a5 ag rfl rfl rfl rfl rfl (oR _) (by rw[tf];exact cA x6) (by omega) (by omega) fun _=> ?_)));refine ct ag rfl rfl rfl ⟨by omega,by omega⟩ (aa 2 rfl (ab [0,1,5,6,7] ?_));refine bT .bN [0,1,2,3,4,5,6,7,8,9,10,11,12,13] follows (by kernel_rfl) ?_;refine aa 2 rfl (a5 ag rfl rfl rfl rfl rfl (vF _ _ _ _ _ _) (cA mT) (by omega) (by omega) fun _=>(ct ag rfl rfl rfl ⟨by omega,by omega⟩ (gB rfl rfl ⟨by omega,by omega⟩ (aa 2 rfl (cY rfl rfl ⟨by omega,by omega⟩ (a5 ag rfl rfl rfl rfl rfl (vF _ _ _ _ _ _) (by rw[pZ];exact cA cW) (by omega) (by omega) fun _=> ?_))))))
 refine ct ag rfl rfl rfl ⟨by omega,by omega⟩ (aJ rfl rfl ⟨by omega,by omega⟩ (aa 1 rfl (ab [0,1,5,6,7,8] ?_)));have kn:0≤((un:Int)*1000000000+(u1:Int))/(top:Int):=Int.ediv_nonneg (by omega) (by omega);have jz:((un:Int)*1000000000+(u1:Int))/(top:Int)≤(un:Int)*1000000000+(u1:Int):=Int.ediv_le_self _ (by omega);refine bT .bN [0,1,2,3,4,5,6,7] follows (by kernel_rfl) ?_;refine aa 2 rfl (iY rfl rfl (by omega) (by omega) ⟨by omega,by omega⟩ (aa 2 rfl (jR rfl rfl (by omega) (by omega) (aa 2 rfl (ab [0,1,5,6,7,9,10] ?_)))));refine nH (fun(aR:Nat)=>put (put (put (put (emp) 0 (.val (.slice (some ⟨g,lo.length,none⟩) (b.length+1) c))) 1 (.val (.slice A' b.length c'))) 5 (.val (.int .i64 (b.length:Int)))) 9 (.val (.int .u64 (aR:Int)))) (fun(aR:Nat) H'=>H'=ins H g (cC (lo++w++hi) N)∧q≤aR∧aR≤q+1∧aR<1000000000) ?_ ?_
 ·
  refine aD ?_
  refine jb (fun(aR:Nat)(rest:Nat)=>aR) (fun(aR:Nat)(rest:Nat)=>put (put (put (put (put (put (put (emp) 0 (.val (.slice (some ⟨g,lo.length,none⟩) (b.length+1) c))) 1 (.val (.slice A' b.length c'))) 5 (.val (.int .i64 (b.length:Int)))) 6 (.val (.int .u64 (top:Int)))) 7 (.val (.int .u64 (next:Int)))) 9 (.val (.int .u64 (aR:Int)))) 10 (.val (.int .u64 (rest:Int)))) (fun(aR:Nat)(rest:Nat) H'=>H'=ins H g (cC (lo++w++hi) N)∧aR*top+rest=un*B+u1∧q≤aR∧aR≤un*1000000000+u1∧rest≤2000000000) ((un*1000000000+u1)/top) ((un*1000000000+u1)%top) (⟨rfl,by rw[bt,Nat.mul_comm];exact Nat.div_add_mod _ _,by
   have h1:=Nat.div_add_mod (un*B+u1) top;have h2:=Nat.mod_lt (un*B+u1) Fe
   have h3:val w<((un*B+u1)/top+1)*val b:=by
    have e1:B^k*(B*(un*B+u1))+B^k*B≤B^k*(B*(((un*B+u1)/top+1)*top)):=by
     rw[←Nat.mul_add];refine Nat.mul_le_mul_left _ ?_;rw[←Nat.mul_succ];refine Nat.mul_le_mul_left _ ?_;rw[Nat.add_mul,Nat.one_mul,Nat.mul_comm _ top];omega
    have e2:((un*B+u1)/top+1)*(B^k*(B*top))≤((un*B+u1)/top+1)*val b:=Nat.mul_le_mul_left _ (by rw[hV,Nat.mul_add (B^k)];omega)
    have e3:((un*B+u1)/top+1)*(B^k*(B*top))=B^k*(B*(((un*B+u1)/top+1)*top)):=by rw[Nat.mul_left_comm _ (B^k),Nat.mul_left_comm _ B]
    have e4:val w<B^k*(B*(un*B+u1))+B^k*B:=by
     have:B^k*(u2+1)≤B^k*B:=Nat.mul_le_mul_left _ (by omega);rw[hW,Nat.mul_add (B^k)];rw[Nat.mul_add (B^k)]at this;omega
    omega
   have h4:=Fa tg h3
   rw[bt]at h4;omega,Nat.div_le_self _ _,by have:=Nat.mod_lt (un*1000000000+u1) Fe;omega⟩) av ?_
  rintro aR rest H1 ⟨rfl,dC,yc,hgu,mR⟩;refine ao ?_
  by_cases hrB:rest<1000000000
  by_cases BT:aR<1000000000
  ·
   skip
   refine ae (aa 1 rfl (ax true rfl rfl (mP (by omega)) (aa 2 rfl (ax false rfl rfl (JW (by omega)) (vr 3 ?_)))));have hgn:aR*next≤999999999*999999999:=Nat.mul_le_mul (by omega) (by omega)
   have aae:(aR:Int)*(next:Int)=((aR*next:Nat):Int):=by simp
   refine gB rfl rfl ⟨by omega,by omega⟩ (aa 1 rfl (gB rfl rfl ⟨by omega,by omega⟩ (aa 2 rfl (cY rfl rfl ⟨by omega,by omega⟩ (a5 ag rfl rfl rfl rfl rfl (vF _ _ _ _ _ _) (by rw[tf];exact cA dF) (by omega) (by omega) fun _=> ?_)))));refine ct ag rfl rfl rfl ⟨by omega,by omega⟩ (aJ rfl rfl ⟨by omega,by omega⟩ (aa 3 rfl (ab [0,1,5,6,7,9,10,71] ?_)));refine az rfl (fun hb=> ?_) (fun hb=> ?_)
   ·
    have hb:rest*1000000000+u2<aR*next:=by simp at hb;omega
    have Kc:=Fa tg (Sk hV hW SF dC (by rw[bt];omega));refine aw (ah [0,1,5,6,7,9,10] rfl ?_);refine aD (ae (aa 1 rfl (cY rfl rfl ⟨by omega,by omega⟩ (aa 1 rfl (ab [0,1,5,6,7,9,10] ?_)))));refine aB rfl (aa 2 rfl (aJ rfl rfl ⟨by omega,by omega⟩ (aa 1 rfl (ay ?_))));exact⟨aR-1,rest+top,by omega,av,rfl,J8 dC (by omega),by omega,by omega,by omega⟩
   have hb:aR*next≤rest*1000000000+u2:=by simp at hb;omega
   refine bA ?_;exact⟨aR,av,rfl,yc,So tg yb (Sl hV hW ig Fe dC (by rw[bt];omega) (by omega)),BT⟩
  ·
   skip
   refine ae (aa 1 rfl (ax true rfl rfl (mP (by omega)) (aa 2 rfl (ax true rfl rfl (E5 (by omega)) (aa 16 rfl (ab [0,1,5,6,7,9,10,71] ?_))))));refine cI rfl (aw (ah [0,1,5,6,7,9,10] rfl ?_));refine aD (ae (aa 1 rfl (cY rfl rfl ⟨by omega,by omega⟩ (aa 1 rfl (ab [0,1,5,6,7,9,10] ?_)))));refine aB rfl (aa 2 rfl (aJ rfl rfl ⟨by omega,by omega⟩ (aa 1 rfl (ay ?_))));exact⟨aR-1,rest+top,by omega,av,rfl,J8 dC (by omega),by omega,by omega,by omega⟩
  ·
   skip
   refine ae (aa 1 rfl (ax false rfl rfl (jx (by omega)) (aa 19 rfl (ab [0,1,5,6,7,9,10,71] ?_))));refine cP rfl (bA ?_);have rk:=Sn hV hW ig (by omega) SG dC (by omega);exact⟨aR,av,rfl,yc,by have:=(Nat.le_div_iff_mul_le yb).2 rk.2;rw[←tg]at this;omega,by omega⟩
 ·
  rintro aR H2 ⟨rfl,bJ,bB,BT⟩;refine ae (aa 1 rfl (ab [0,1,5,9,11] ?_));refine ao (ae (aa 2 rfl (ab [0,1,5,9,11,77,78] ?_)));refine aD (ju (fun(i:Nat)(w1:List Nat)(br:Nat)=>b.length-i) (fun(i:Nat)(w1:List Nat)(br:Nat)=>put (put (put (put (put (put (put (emp) 0 (.val (.slice (some ⟨g,lo.length,none⟩) (b.length+1) c))) 1 (.val (.slice A' b.length c'))) 5 (.val (.int .i64 (b.length:Int)))) 9 (.val (.int .u64 (aR:Int)))) 11 (.val (.int .i64 (br:Int)))) 77 (.val (.int .i64 (b.length:Int)))) 78 (.val (.int .i64 (i:Int)))) (fun(i:Nat)(w1:List Nat)(br:Nat) H'=>H'=ins H g (cC (lo++w1++hi) N)∧i≤b.length∧w1.length=w.length∧Lt w1∧w1.drop i=w.drop i∧br≤1000000000∧val (w.take i)+B^i*br=val (w1.take i)+aR*val (b.take i)) 0 w 0 (⟨rfl,by omega,rfl,rj,rfl,by omega,by simp[val]⟩) av ?_);rintro i w1 br H1 ⟨rfl,Fg,BV,yd,je,oQ,hv⟩;refine ae (aa 1 rfl (ab [0,1,5,9,11,77,78,79] ?_));refine ao (az rfl (fun hb=> ?_) (fun hb=> ?_))
  ·
   have hb:i<b.length:=by simpa using hb
   obtain⟨d,hd⟩:∃d,w[i]? = some d:=⟨_,List.getElem?_eq_getElem (by omega)⟩;obtain⟨p,hp⟩:∃p,b[i]? = some p:=⟨_,List.getElem?_eq_getElem (by omega)⟩;have iK:=rj.get hd;have re:=eh.get hp;rw[bt]at iK re
   have dX:w1[i]? = some d:=by rw[Fc je];exact hd
   have hgp:aR*p≤999999999*999999999:=Nat.mul_le_mul (by omega) (by omega)
   have aaf:(aR:Int)*(p:Int)=((aR*p:Nat):Int):=by simp
   refine aw (ah [0,1,5,9,11,77,78] rfl ?_);refine ao (aD (ae (aa 2 rfl (ab [0,1,5,9,11,12,77,78] ?_))));refine bT .bN [0,1,2,3,4,5,6,7,8,9,10,11,12,13,14,15,16,17] follows (by kernel_rfl) ?_;refine aa 2 rfl (a5 ag rfl rfl rfl rfl rfl (vF _ _ _ _ _ _) (cA dX) (by omega) (by omega) fun _=>(ct ag rfl rfl rfl ⟨by omega,by omega⟩ (aa 1 rfl (cY rfl rfl ⟨by omega,by omega⟩ (aa 3 rfl (a5 ag rfl rfl rfl rfl rfl (oR _) (cA hp) (by omega) (by omega) fun _=>(ct ag rfl rfl rfl ⟨by omega,by omega⟩ (gB rfl rfl ⟨by omega,by omega⟩ (jR rfl rfl (by omega) (by omega) (ct ag rfl rfl rfl ⟨by omega,by omega⟩ (cY rfl rfl ⟨by omega,by omega⟩ (aa 1 rfl (ab [0,1,5,9,12,13,77,78] ?_)))))))))))));refine ae (aa 3 rfl (a5 ag rfl rfl rfl rfl rfl (oR _) (cA hp) (by omega) (by omega) fun _=>(ct ag rfl rfl rfl ⟨by omega,by omega⟩ (gB rfl rfl ⟨by omega,by omega⟩ (iY rfl rfl (by omega) (by omega) ⟨by omega,by omega⟩ (ct ag rfl rfl rfl ⟨by omega,by omega⟩ (aa 1 rfl (ab [0,1,5,9,11,12,13,77,78] ?_))))))));refine ao ?_
   refine aD (gm (fun(t:Nat)=>3-t) (fun(t:Nat)=>put (put (put (put (put (put (put (put (put (emp) 0 (.val (.slice (some ⟨g,lo.length,none⟩) (b.length+1) c))) 1 (.val (.slice A' b.length c'))) 5 (.val (.int .i64 (b.length:Int)))) 9 (.val (.int .u64 (aR:Int)))) 11 (.val (.int .i64 ((aR*p/1000000000+t:Nat):Int)))) 12 (.val (.int .i64 (i:Int)))) 13 (.val (.int .i64 ((d:Int)-br-((aR*p%1000000000:Nat):Int)+t*1000000000)))) 77 (.val (.int .i64 (b.length:Int)))) 78 (.val (.int .i64 (i:Int)))) (fun(t:Nat) H'=>H'=ins H g (cC (lo++w1++hi) N)∧t≤2∧(d:Int)-br-((aR*p%1000000000:Nat):Int)+t*1000000000<1000000000) 0 (⟨rfl,by omega,by omega⟩) av ?_);rintro t H1 ⟨rfl,ht,hsB⟩;refine ao (ae (aa 2 rfl (ab [0,1,5,9,11,12,13,77,78,108] ?_)));refine az rfl (fun hb=> ?_) (fun hb=> ?_)
   ·
    simp at hb
    refine aw (ah [0,1,5,9,11,12,13,77,78] rfl ?_);refine aD (ae (aa 1 rfl (aJ rfl rfl ⟨by omega,by omega⟩ (aa 1 rfl (ab [0,1,5,9,11,12,13,77,78] ?_)))));refine aB rfl (aa 1 rfl (aJ rfl rfl ⟨by omega,by omega⟩ (aa 1 rfl (ay ?_))));exact⟨t+1,by omega,av,rfl,by omega,by omega⟩
   simp at hb
   refine bA (ah [0,1,5,9,11,12,13,77,78] rfl ?_);refine aB rfl (aa 3 rfl (ct ag rfl rfl rfl ⟨by omega,by omega⟩ ?_));obtain⟨ti,aj,ak⟩:=kp;refine dE (.inl rfl) ag rfl rfl rfl (by omega) (by omega) (bn _ _ _) rfl (by rw[kt];simp;omega) aj ak (fun _=>rfl) rfl rfl rfl fun _=> ?_;refine ay (ah [0,1,5,9,11,77,78] rfl ?_);refine aB rfl (aJ rfl rfl ⟨by omega,by omega⟩ (aa 1 rfl (ay ?_)));obtain⟨y,hy⟩:∃y:Nat,(y:Int)=(d:Int)-br-((aR*p%1000000000:Nat):Int)+t*1000000000:=⟨((d:Int)-br-((aR*p%1000000000:Nat):Int)+t*1000000000).toNat,by omega⟩;have cJ:=xS (o:=w1.take i) (s:=y) (br':=aR*p/1000000000+t) (d:=d) (e:=aR*p) (ta':=val (w.take (i+1))) (tb':=aR*val (b.take (i+1))) (by simp;omega) hv (by rw[bt];omega) (gY hd) (by rw[gY hp,Nat.mul_add,Nat.mul_left_comm]);rw[←rh (by omega)]at cJ;exact⟨i+1,w1.set i y,aR*p/1000000000+t,by omega,av,by rw[BU (y:=y) hy.symm (by rw[Int.toNat_natCast];omega)];rfl,by omega,by simp[BV],yd.set (by rw[bt];omega),drop_set je,by omega,cJ⟩
  have hb:b.length≤i:=by simpa using hb
  obtain rfl:i=b.length:=by omega
  rw[List.take_length]at hv
  have fK:w1[b.length]? = some un:=by rw[Fc je];exact mT
  refine bA (ah [0,1,5,9,11] rfl ?_);refine ae (aa 2 rfl (a5 ag rfl rfl rfl rfl rfl (vF _ _ _ _ _ _) (cA fK) (by omega) (by omega) fun _=>(ct ag rfl rfl rfl ⟨by omega,by omega⟩ (aa 1 rfl (cY rfl rfl ⟨by omega,by omega⟩ (aa 1 rfl (ab [0,1,5,9,14] ?_)))))));refine ao (ae (aa 2 rfl (ab [0,1,5,9,14,127] ?_)));refine az rfl (fun hb=> ?_) (fun hb=> ?_)
  ·
   have hb:br≤un:=by simp at hb;omega
   obtain⟨ie,gW⟩:=Sr Kb hv hb tg bJ yb;refine ae (aa 3 rfl (ct ag rfl rfl rfl ⟨by omega,by omega⟩ ?_));obtain⟨ti,aj,ak⟩:=kp;refine dE (.inl rfl) ag rfl rfl rfl (by omega) (by omega) (bn _ _ _) rfl (by rw[kt];simp;omega) aj ak (fun _=>rfl) rfl rfl rfl fun _=> ?_;refine ab [9] ?_;refine ae (aa 1 rfl (ct ag rfl rfl rfl ⟨by omega,by omega⟩ (aa 1 rfl (ab [4] ?_))));refine ar ⟨.inr rfl,_,.tmp rfl (.nil),?_⟩;refine⟨w1.set b.length (un-br),by rw[BU (y:=un-br) (by omega) (by rw[Int.toNat_natCast];omega)];rfl,by simp[BV],yd.set (by rw[bt];omega),?_,by rw[←ie];rfl⟩;rw[←gW,←List.take_length (l:=w1.set b.length (un-br)),List.length_set,BV,te,rh (by omega),mN,List.length_take,Nat.min_eq_left (by omega)]
  have hb:un<br:=by simp at hb;omega
  refine aw (ah [0,1,5,9,14] rfl ?_);refine ae (aa 1 rfl (ab [0,1,5,9,14,15] ?_));refine ao (ae (aa 2 rfl (ab [0,1,5,9,14,15,135,136] ?_)));refine aD (ju (fun(i:Nat)(w2:List Nat)(cr:Nat)=>b.length-i) (fun(i:Nat)(w2:List Nat)(cr:Nat)=>put (put (put (put (put (put (put (put (emp) 0 (.val (.slice (some ⟨g,lo.length,none⟩) (b.length+1) c))) 1 (.val (.slice A' b.length c'))) 5 (.val (.int .i64 (b.length:Int)))) 9 (.val (.int .u64 (aR:Int)))) 14 (.val (.int .i64 ((un:Int)-br)))) 15 (.val (.int .u32 (cr:Int)))) 135 (.val (.int .i64 (b.length:Int)))) 136 (.val (.int .i64 (i:Int)))) (fun(i:Nat)(w2:List Nat)(cr:Nat) H'=>H'=ins H g (cC (lo++w2++hi) N)∧i≤b.length∧w2.length=w.length∧Lt w2∧w2.drop i=w1.drop i∧cr≤1∧val (w2.take i)+B^i*cr=val (w1.take i)+val (b.take i)) 0 w1 0 (⟨rfl,by omega,BV,yd,rfl,by omega,by simp[val]⟩) av ?_);rintro i w2 cr H1 ⟨rfl,aag,Fh,Fi,Kd,nK,cZ⟩;refine ae (aa 1 rfl (ab [0,1,5,9,14,15,135,136,137] ?_));refine ao (az rfl (fun hb=> ?_) (fun hb=> ?_))
  ·
   have hb:i<b.length:=by simpa using hb
   obtain⟨d,hd⟩:∃d,w1[i]? = some d:=⟨_,List.getElem?_eq_getElem (by omega)⟩;obtain⟨p,hp⟩:∃p,b[i]? = some p:=⟨_,List.getElem?_eq_getElem (by omega)⟩;have iK:=yd.get hd;have re:=eh.get hp;rw[bt]at iK re
   have jf:w2[i]? = some d:=by rw[Fc Kd];exact hd
   refine aw (ah [0,1,5,9,14,15,135,136] rfl ?_);refine ao (aD (ae (aa 2 rfl (ab [0,1,5,9,14,15,16,135,136] ?_))));refine bT .bN [0,1,2,3,4,5,6,7,8,9,10,11] follows (by kernel_rfl) ?_;refine aa 2 rfl (a5 ag rfl rfl rfl rfl rfl (vF _ _ _ _ _ _) (cA jf) (by omega) (by omega) fun _=>(aa 2 rfl (a5 ag rfl rfl rfl rfl rfl (oR _) (cA hp) (by omega) (by omega) fun _=>(aJ rfl rfl ⟨by omega,by omega⟩ (aa 1 rfl (aJ rfl rfl ⟨by omega,by omega⟩ (aa 1 rfl (ab [0,1,5,9,14,16,17,135,136] ?_))))))));refine ae (aa 1 rfl (iY rfl rfl (by omega) (by omega) ⟨by omega,by omega⟩ (aa 1 rfl (ab [0,1,5,9,14,15,16,17,135,136] ?_))));refine aB rfl (aa 3 rfl (jR rfl rfl (by omega) (by omega) ?_));obtain⟨ti,aj,ak⟩:=kp;refine dE (.inl rfl) ag rfl rfl rfl (by omega) (by omega) (bn _ _ _) rfl (by rw[kt];simp;omega) aj ak (fun _=>rfl) rfl rfl rfl fun _=> ?_;refine ay (ah [0,1,5,9,14,15,135,136] rfl ?_);refine aB rfl (aJ rfl rfl ⟨by omega,by omega⟩ (aa 1 rfl (ay ?_)));have cJ:=vy (o:=w2.take i) (s:=d+p+cr) (a:=cr) (b:=d+p) (u:=val (w1.take (i+1))+val (b.take (i+1))) (by simp;omega) cZ (by omega) (by rw[gY hd,gY hp,Nat.mul_add];omega)
   rw[←rh (by omega)]at cJ;exact⟨i+1,w2.set i ((d+p+cr)%B),(d+p+cr)/B,by omega,av,by rw[BU (y:=(d+p+cr)%B) (by rw[bt];omega) (by rw[Int.toNat_natCast];omega)];rfl,by omega,by simp[Fh],Fi.set (Nat.mod_lt _ jv),drop_set Kd,by rw[bt];omega,cJ⟩
  have hb:b.length≤i:=by simpa using hb
  obtain rfl:i=b.length:=by omega
  rw[List.take_length]at cZ;obtain⟨ie,gW,qX⟩:=Ss Kb hv (by omega) tg bB yb SH (vE yd (by omega)) (vE Fi (by omega)) cZ;refine bA (ah [0,5,9,14,15] rfl ?_);refine ae (aa 4 rfl (ct ag rfl rfl rfl ⟨by omega,by omega⟩ (aJ rfl rfl ⟨by omega,by omega⟩ (ct ag rfl rfl rfl ⟨by omega,by omega⟩ ?_))));obtain⟨ti,aj,ak⟩:=kp;refine dE (.inl rfl) ag rfl rfl rfl (by omega) (by omega) (bn _ _ _) rfl (by rw[kt];simp;omega) aj ak (fun _=>rfl) rfl rfl rfl fun _=> ?_;refine ab [9] ?_;refine ae (aa 1 rfl (cY rfl rfl ⟨by omega,by omega⟩ (ct ag rfl rfl rfl ⟨by omega,by omega⟩ (aa 1 rfl (ab [4] ?_)))));refine ar ⟨.inr rfl,_,.tmp rfl (.nil),?_⟩;refine⟨w2.set b.length 0,by rw[BU (y:=0) (by omega) (by rw[Int.toNat_natCast];omega)];rfl,by simp[Fh],Fi.set (by rw[bt];omega),?_,by rw[show (aR:Int)-1=(q:Int) by omega];rfl⟩;rw[←qX,←List.take_length (l:=w2.set b.length 0),List.length_set,Fh,te,rh (by omega),mN,Nat.mul_zero,Nat.add_zero]
end Go.au
namespace Go.au
open Go.Proofs Num
theorem th{H:Heap}{g g':Nat}{e:aG}(h:ins H g e g'=none):g'≠g∧H g'=none:=by
 by_cases e0:g'=g
 ·subst e0;rw[bn]at h;cases h
 ·rw[bD _ _ e0]at h;exact⟨e0,h⟩
theorem Fj{y:Nat}(h:0<y):af y≠[]:=fun e=>by
 have:=bX y
 rw[e]at this
 simp[val]at this
 omega
theorem Fk{y:Nat}(h:0<y):B^((af y).length-1)≤y:=by
 have:=(dO y).pos (Fj h)
 rwa [bX]at this
def Ke(H:Heap)(x y:Nat)(v:Value)(H':Heap):Prop:=Heap.le H H'∧∃q r,v = .tuple #[q,r]∧cn H' q (x/y)∧cn H' r (x%y)
theorem BW{H:Heap}{u v:Value}{x y:Nat}(hx:cn H u x)(hy:cn H v y)(fE:0<y)(hm:((af x).length:Int)<8796093022208):
 Fn Tryz.prog 114 #[u,v] H (Ke H x y):=by
 obtain⟨A,c,rfl,hc,hr⟩:=hx
 obtain⟨A',c',rfl,gA,cF⟩:=hy
 have fJ:=(dO x).lt
 have eh:=(dO y).lt
 have SJ:=Fk fE
 have SK:(af y).length≠0:=fun e=>Fj fE (List.eq_nil_of_length_eq_zero e);refine aU (args:=[_,_]) Tryz.func114 rfl rfl Tryz.ntmps114 rfl rfl fun w0=> ?_;refine ah [0,1] rfl ?_;refine ae (aa 2 rfl (ab [0,1] ?_));refine ao (ae (aa 2 rfl (aq rfl rfl (JY hr cF (by omega)) ?_)));rintro v1 H1 ⟨e1,rfl⟩;rw[e1];refine aa 1 rfl (ab [0,1,19] ?_);refine az rfl (fun hb=> ?_) (fun hb=> ?_)
 ·
  have p3:x<y:=by unfold gN at hb;simp at hb;split at hb <;> (try split at hb) <;> simp_all
  refine ae (aa 1 rfl (eX Tryz.underlying106 cR rfl rfl (rb _) (hr) (by rw[s5,Nat.mul_one]) (ks _) (by simp;omega) (by simp;omega) ?_));intro v1 H2 ha;refine aa 2 rfl (ab [4,5] ?_);refine ar ⟨.inr rfl,_,.tmp rfl (.tmp rfl (.nil)),?_⟩
  have h1:cn H2 v1 x:=by
   have:=(App.lb (a:=[]) ha rfl rfl).lR
   simpa [cn]using this
  exact⟨ha.le,_,_,rfl,by rw[Nat.div_eq_of_lt p3];exact pV H2,by rw[Nat.mod_eq_of_lt p3];exact h1⟩
 ·
  have p3:y≤x:=by unfold gN at hb;simp at hb;split at hb <;> (try split at hb) <;> simp_all <;> omega
  have hlen:=jd p3;refine aw (ah [0,1] rfl ?_);refine ao (ae (aa 3 rfl (ab [0,1,24] ?_)));refine az rfl (fun hb=> ?_) (fun hb=> ?_)
  ·
   have hb:(af y).length=1:=by simp at hb;omega
   have tj:(af y)[0]? = some y:=by
    obtain⟨z,hz⟩:=List.length_eq_one_iff.1 hb;have:=bX y;rw[hz]at this⊢
    simp[val]at this
    simp[this]
   have ye:=eh.get tj;rw[bt]at ye;refine ae (aa 2 rfl (a5 ag rfl rfl rfl rfl rfl (cF) (cA tj) (by omega) (by omega) fun _=>(ct ag rfl rfl rfl ⟨by omega,by omega⟩ (aq rfl rfl (J5 (l:=af x) ⟨A,c,rfl,hc,hr⟩ fJ ye fE (by omega)) ?_))));rintro v1 H2 ⟨hle,q,rfl,hq⟩;refine vr 1 ?_;rw[bX]at hq⊢;refine aa 4 rfl (ab [6,7] ?_);refine ae (aa 2 rfl (aq rfl rfl (BQ (x:=x%y) (by have:=Nat.mod_lt x fE;omega)) ?_));intro v1 H3 hp;refine aa 2 rfl (ab [4,5] ?_);refine ar ⟨.inr rfl,_,.tmp rfl (.tmp rfl (.nil)),?_⟩;exact⟨hle.trans hp.le,_,_,rfl,hq.le hp.le,hp.nat⟩
  have hb:(af y).length≠1:=by simp at hb;omega
  have fp:2≤(af y).length:=by omega
  obtain⟨t,ht⟩:∃t,(af y)[(af y).length-1]? = some t:=⟨_,List.getElem?_eq_getElem (by omega)⟩;have Ff:=eh.get ht;rw[bt]at Ff
  have pZ:(((af y).length:Int)-1).toNat=(af y).length-1:=by omega
  have hs0:0≤(1000000000:Int)/((t:Int)+1):=Int.ediv_nonneg (by omega) (by omega);have ld:(1000000000:Int)/((t:Int)+1)≤1000000000:=Int.ediv_le_self _ (by omega);obtain⟨sc,tk⟩:∃sc,sc=1000000000/(t+1):=⟨_,rfl⟩
  have SL:(1000000000:Int)/((t:Int)+1)=(sc:Int):=by rw[tk];simp
  have vG:0<sc:=by rw[tk];exact Nat.div_pos (by omega) (by omega)
  have SM:sc*(t+1)≤1000000000:=by rw[tk];exact Nat.div_mul_le_self _ _
  refine aw (ah [0,1] rfl ?_);refine ae (aa 3 rfl (ab [0,1,8] ?_));refine ae (aa 2 rfl (cY rfl rfl ⟨by omega,by omega⟩ (a5 ag rfl rfl rfl rfl rfl (cF) (by rw[pZ];exact cA ht) (by omega) (by omega) fun _=> ?_)));refine ct ag rfl rfl rfl ⟨by omega,by omega⟩ (aJ rfl rfl ⟨by omega,by omega⟩ (iY rfl rfl (by omega) (by omega) ⟨by omega,by omega⟩ ?_));rw[SL];refine aa 1 rfl (ab [0,1,8,9] ?_)
  have Kf:0<t:=by
   rcases Nat.eq_zero_or_pos t with e|e
   ·
    exfalso
    have:=(dO y).last t (by rw[List.getLast?_eq_getElem?];exact ht);exact this e
   ·exact e
  have Fl:sc<1000000000:=by
   have:sc*2≤sc*(t+1):=Nat.mul_le_mul_left _ (by omega)
   omega
  have hyV:y*sc<B^(af y).length:=by
   have h1:y<B^((af y).length-1)*(t+1):=by
    have h2:=gY ht;rw[show (af y).length-1+1=(af y).length by omega,List.take_length,bX]at h2;have h3:=vE eh (k:=(af y).length-1) (by omega);rw[Nat.mul_add,Nat.mul_one];omega
   have h2:y*sc<B^((af y).length-1)*(t+1)*sc:=Nat.mul_lt_mul_of_pos_right h1 vG
   have h3:B^((af y).length-1)*(t+1)*sc≤B^((af y).length-1)*B:=by
    rw[Nat.mul_assoc];exact Nat.mul_le_mul_left _ (by rw[Nat.mul_comm,bt];exact SM)
   rw[←Nat.pow_succ,Nat.succ_eq_add_one,show (af y).length-1+1=(af y).length by omega]at h3
   omega
  refine ae (aa 2 rfl (aq rfl rfl (J2 (l:=af x) ⟨A,c,rfl,hc,hr⟩ fJ Fl (by omega)) ?_));rintro v1 H1 ⟨g1,l1,jz,rfl,rfl,SN,SO,vH⟩;rw[bX]at vH;refine aa 1 rfl (ab [0,1,8,9,10] ?_);refine ae (aa 2 rfl (aq rfl rfl (J2 (l:=af y) ⟨A',c',rfl,gA,cF.le (Heap.bh _ jz)⟩ eh Fl (by omega)) ?_));rintro v1 H1 ⟨g2,l2,dC,rfl,rfl,aah,ET,cZ⟩;rw[bX]at cZ;refine aa 1 rfl (vw ag rfl rfl (.inl ⟨rfl,rfl⟩) (.inr ⟨_,_,rfl,rfl⟩) (by omega) (by omega) ?_);rw[xU];refine aa 1 rfl (ab [0,8,9,10,11] ?_);refine ae (aa 3 rfl (cY rfl rfl ⟨by omega,by omega⟩ (aJ rfl rfl ⟨by omega,by omega⟩ (ja Tryz.underlying106 cR rfl rfl rfl (by omega) (by omega) (by omega) (by omega) ?_))));intro g3 lU;obtain⟨m,de⟩:∃m,m=(af x).length-(af y).length+1:=⟨_,rfl⟩;rw[show (((af x).length:Int)-((af y).length:Int)+1).toNat=m from by omega,rf];obtain⟨Kg,SP⟩:=th dC;obtain⟨s7,SQ⟩:=th lU;obtain⟨BX,SR⟩:=th SQ
  have e8:∀e e',ins (ins H g2 e) g3 e' g1=none:=fun e e'=>by rw[bD _ _ (Ne.symm BX),bD _ _ (Ne.symm Kg)];exact jz
  have fY:∀e,ins H g2 e g3=none:=fun e=>by rw[bD _ _ s7];exact SR
  rw[vd H _ _ (Ne.symm Kg),vd (ins H g2 _) _ _ (Ne.symm BX)];obtain⟨V,BY⟩:∃V,V=y*sc:=⟨_,rfl⟩;obtain⟨b,jW⟩:∃b,b=l2.take (af y).length:=⟨_,rfl⟩
  have ku:b.length=(af y).length:=by rw[jW];simp;omega
  have yf:val b=V:=by
   have h1:=ya l2 (k:=(af y).length) (by omega);rw[cZ,←jW]at h1
   rcases Nat.eq_zero_or_pos (val (l2.drop (af y).length))with e|e
   ·rw[e,Nat.mul_zero]at h1;omega
   ·
    have:B^(af y).length*1≤B^(af y).length*val (l2.drop (af y).length):=Nat.mul_le_mul_left _ e
    omega
  have Kh:Lt b:=by rw[jW];exact ET.take _
  have yb:0<V:=by rw[BY];exact Nat.mul_pos fE vG
  obtain⟨tp,BC⟩:∃tp,b[b.length-1]? = some tp:=⟨_,List.getElem?_eq_getElem (by omega)⟩
  have SS:0<tp:=by
   rcases Nat.eq_zero_or_pos tp with e|e
   ·
    exfalso
    have h2:=gY BC;rw[show b.length-1+1=b.length by omega,List.take_length,e,Nat.mul_zero,yf]at h2;have h3:=vE Kh (k:=b.length-1) (by omega);have h4:y*1≤y*sc:=Nat.mul_le_mul_left _ vG;rw[ku]at h2 h3
    omega
   ·exact e
  refine Jw (x':= .val (.slice (some ⟨g2,0,none⟩) b.length ((af y).length+1-0))) 11 rfl (by rw[ku];rfl) ?_;refine aa 1 rfl (ab [0,8,9,10,11,12] ?_);refine ao (ae (aa 3 rfl (cY rfl rfl ⟨by omega,by omega⟩ (aa 1 rfl (ab [8,9,10,11,12,13] ?_)))));refine aD (ju (fun(k:Nat)(l:List Nat)(o:List Nat)=>k) (fun(k:Nat)(l:List Nat)(o:List Nat)=>put (put (put (put (put (put (emp) 8 (.val (.int .i64 ((af y).length:Int)))) 9 (.val (.int .u64 (sc:Int)))) 10 (.val (.slice (some ⟨g1,0,none⟩) ((af x).length+1) ((af x).length+1)))) 11 (.val (.slice (some ⟨g2,0,none⟩) b.length ((af y).length+1-0)))) 12 (.val (.slice (some ⟨g3,0,none⟩) m m))) 13 (.val (.int .i64 ((k:Int)-1)))) (fun(k:Nat)(l:List Nat)(o:List Nat) H'=>H'=ins (ins (ins H g2 (cC l2 ((af y).length+1))) g3 (cC o m)) g1 (cC l ((af x).length+1))∧k≤m∧l.length=(af x).length+1∧Lt l∧o.length=m∧Lt o∧val (o.drop k)*V*B^k+val l=x*sc∧val (l.drop k)<V) m _ _ (⟨rfl,by omega,SN,SO,by simp,Lt.replicate _,by simp[val,vH],by rw[BY];exact Sv (by omega) vH (by rw[show m+((af y).length-1)=(af x).length by omega];exact vx x) SJ vG⟩) av ?_);rintro k l o H1 ⟨rfl,hk,pY,a8,cK,cO,hinv,rp⟩;refine ao (ae ?_)
  refine aa 2 rfl (ab [8,9,10,11,12,13,66] ?_);refine az rfl (fun hb=> ?_) (fun hb=> ?_)
  ·
   have hb:1≤k:=by simp at hb;omega
   obtain⟨k,rfl⟩:∃j,k=j+1:=⟨k-1,by omega⟩
   have fD:(((k+1:Nat):Int)-1).toNat=k:=by omega
   obtain⟨w,vI⟩:∃w,w=(l.drop k).take ((af y).length+1):=⟨_,rfl⟩
   have te:w.length=(af y).length+1:=by rw[vI];simp;omega
   obtain⟨hwz,hwe,Fm⟩:=J9 a8 (n:=(af y).length) (by omega) rp (by omega);rw[←vI,←yf]at Fm
   have SU:Lt w:=by rw[vI];exact(a8.drop k).take _
   have rj:l=l.take k++w++l.drop (k+(af y).length+1):=by
    rw[vI,List.append_assoc]
    conv=>lhs;rw[←List.take_append_drop k l,←List.take_append_drop ((af y).length+1) (l.drop k)]
    rw[List.drop_drop]
    rfl
   have SV:(l.take k).length=k:=by simp;omega
   have oR:Rd (ins (ins H g2 (cC l2 ((af y).length+1))) g3 (cC o m)) (some ⟨g2,0,none⟩) (U b):=by
    rw[jW,xT];exact((BO H g2 l2 _).le (Heap.bh _ (fY _))).take _
   refine aw (ah [8,9,10,11,12,13] rfl ?_);refine ao (aD (aB rfl (aa 6 rfl (aJ rfl rfl ⟨by omega,by omega⟩ (aJ rfl rfl ⟨by omega,by omega⟩ (vw ag rfl rfl (.inr ⟨_,_,rfl,congrArg (fun z=>some (Value.int .i64 z)) (show ((k+1:Nat):Int)-1=((k:Nat):Int) by omega)⟩) (.inr ⟨_,_,rfl,congrArg (fun z=>some (Value.int .i64 z)) (show ((k+1:Nat):Int)-1+((af y).length:Int)+1=((k+(af y).length+1:Nat):Int) by omega)⟩) (by omega) (by omega) (Jw (x':= .val (.slice (some ⟨g1,(l.take k).length,none⟩) (b.length+1) ((af x).length+1-k))) 77 rfl (by rw[if_neg (by omega),Option.map_some,iJ,Nat.mul_one,SV,show k+(af y).length+1-k=b.length+1 by omega]) ?_)))))));refine aa 1 rfl (aq rfl rfl (by have hF:=SB (lo:=l.take k) (w:=w) (hi:=l.drop (k+(af y).length+1)) (N:=(af x).length+1) (c:=(af x).length+1-k) (c':=(af y).length+1-0) (e8 _ _) oR (by omega) (by omega) (by omega) SU Kh BC SS Fm;rw[←rj]at hF;exact hF) ?_);rintro v1 H1 ⟨w',rfl,ee,hE,Fo,rfl⟩;obtain⟨ti,aj,ak⟩:=kp;refine dE (.inl rfl) ag rfl rfl rfl (by omega) (by omega) ((bD _ _ BX).trans (bn _ _ _)) rfl (by rw[kt];omega) aj ak (fun _=>rfl) rfl rfl rfl fun _=> ?_;refine ay ?_
   refine ah [8,9,10,11,12,13] rfl ?_;refine aB rfl (aa 1 rfl (cY rfl rfl ⟨by omega,by omega⟩ (aa 1 rfl (ay ?_))));have cJ:=Su (q:=val w/V) a8 (n:=(af y).length) (by omega) rp (by omega) (by omega) hinv (by rw[←vI]) (by rw[←vI,Fo,yf]) (by rw[ee,te]);refine⟨k,l.take k++w'++l.drop (k+(af y).length+1),o.set k (val w/V),by omega,av,?_,by omega,?_,?_,by simp[cK],cO.set ?_,cJ.1,cJ.2⟩
   ·rw[vd _ _ _ (Ne.symm BX),oO (y:=val w/V) (by rw[yf]),fD]
   ·simp[ee,te,pY];omega
   ·exact((a8.take k).append hE).append (a8.drop _)
   ·rw[←yf];exact Nat.div_lt_of_lt_mul (by rw[Nat.mul_comm];exact Fm)
  have hb:k=0:=by simp at hb;omega
  subst hb
  simp only[List.drop_zero,Nat.pow_zero,Nat.mul_one]at hinv rp
  obtain⟨hQ,hR⟩:=SA (Q:=val o) (R:=val l) (x:=x) (y:=y) (sc:=sc) (by rw[←BY];exact hinv) (by rw[←BY];exact rp) vG;refine bA (ah [9,10,12] rfl ?_);refine ae (aa 1 rfl (aq rfl rfl (BS (s6 _ _ l _ _ pY.symm (Nat.le_refl _)) a8 (by omega)) ?_));intro v1 H4 hp;refine aa 1 rfl (aq rfl rfl (J5 hp.nat (dO _).lt Fl vG (by have:=fW.2 (oL a8);omega)) ?_);rintro v2 H5 ⟨eR,r,rfl,oS⟩;rw[bX,hR]at oS;refine aa 5 rfl (ab [12,14] ?_);refine ae (aa 1 rfl (aq rfl rfl (BS (((s6 _ _ o m m cK.symm (Nat.le_refl _)).le (Heap.bh _ (e8 _ _))).le (hp.le.trans eR)) cO (by omega)) ?_));intro v1 H6 kv;refine aa 3 rfl (ab [4,5] ?_);refine ar ⟨.inr rfl,_,.tmp rfl (.tmp rfl (.nil)),?_⟩;exact⟨((((Heap.bh _ SP).trans (Heap.bh _ (fY _))).trans (Heap.bh _ (e8 _ _))).trans (hp.le.trans eR)).trans kv.le,_,_,rfl,by rw[←hQ];exact kv.nat,oS.le kv.le⟩
end Go.au
namespace Go.au
open Go.Proofs Num
theorem SW{H:Heap}{u v:Value}{x y:Nat}(hx:cn H u x)(hy:cn H v y)(hm:((af x).length:Int)<8796093022208)(aS:((af y).length:Int)<8796093022208):
  Fn Tryz.prog 113 #[u,v] H (jy H (Nat.gcd x y)):=by
 obtain⟨M,hM⟩:∃M,M=max x y:=⟨_,rfl⟩
 have hMl:((af M).length:Int)<8796093022208:=by
  rcases Nat.le_total x y with h | h
  ·rw[hM,Nat.max_eq_right h];exact aS
  ·rw[hM,Nat.max_eq_left h];exact hm
 refine aU (args:=[_,_]) Tryz.func113 rfl rfl Tryz.ntmps113 rfl rfl fun w0=> ?_;refine ah [0,1] rfl ?_;refine ae (aa 1 rfl (ab [0,1] ?_));refine ao (aD (oI (fun(x1:Nat)(y1:Nat)(u:Value)(v:Value)=>y1) (fun(x1:Nat)(y1:Nat)(u:Value)(v:Value)=>put (put (emp) 0 (.val (u))) 1 (.val (v))) (fun(x1:Nat)(y1:Nat)(u:Value)(v:Value) H'=>Heap.le H H'∧cn H' u x1∧cn H' v y1∧Nat.gcd x1 y1=Nat.gcd x y∧x1≤M∧y1≤M) x y u v (⟨.refl _,hx,hy,rfl,by omega,by omega⟩) av ?_));rintro x1 y1 u v H1 ⟨hle,di,tj,hg,yg,oT⟩;obtain⟨A,c,rfl,hc,hr⟩:=di;obtain⟨A',c',rfl,gA,cF⟩:=tj;have bC:=jd yg;have aW:=jd oT;refine ao (ae (aa 3 rfl (ab [0,1,13] ?_)));refine az rfl (fun hb=> ?_) (fun hb=> ?_)
 ·
  have hb:(af y1).length≠0:=by simp at hb;intro e;simp[List.eq_nil_of_length_eq_zero e]at hb
  have fE:0<y1:=by rcases Nat.eq_zero_or_pos y1 with e | e;· exact absurd (gC.2 e) hb
                   ·exact e
  refine aw (ah [0,1] rfl ?_);refine aD (ao ?_)
  by_cases h2:(af x1).length≤2
  ·
   skip
   refine ae (aa 2 rfl (ax true rfl rfl (oN (by omega)) (aa 5 rfl (ab [0,1,21] ?_))));refine az rfl (fun hb=> ?_) (fun hb=> ?_)
   ·
    have hb:(af y1).length≤2:=by simp at hb;omega
    have Fp:=fW.1 h2;have Fq:=fW.1 hb;rw[bt]at Fp Fq
    simp only[Nat.reducePow]at Fp Fq
    refine ae (aa 1 rfl (aq rfl rfl (JZ hr h2) ?_));rintro v1 H2 ⟨rfl,rfl⟩;refine aa 5 rfl (ab [1,5] ?_);refine ae (aa 1 rfl (aq rfl rfl (JZ cF hb) ?_));rintro v1 H3 ⟨rfl,rfl⟩;refine aa 5 rfl (ab [5,7] ?_);refine ao (aD (jb (fun(p:Nat)(q:Nat)=>q) (fun(p:Nat)(q:Nat)=>put (put (emp) 5 (.val (.int .u64 (p:Int)))) 7 (.val (.int .u64 (q:Int)))) (fun(p:Nat)(q:Nat) H'=>Heap.le H H'∧Nat.gcd p q=Nat.gcd x y∧p<1000000000000000000∧q<1000000000000000000) x1 y1 (⟨hle,hg,Fp,Fq⟩) av ?_));rintro p q H1 ⟨ez,dC,aai,SX⟩;refine ao (ae (aa 2 rfl (ab [5,7,33] ?_)));refine az rfl (fun hb=> ?_) (fun hb=> ?_)
    ·
     have hb:0<q:=by simp at hb;omega
     refine aw (ah [5,7] rfl ?_);refine aD (fk .bN [0,1,2,3,4,5] follows (by kernel_rfl) ?_);refine aa 3 rfl (jR rfl rfl (by omega) (by omega) (aa 2 rfl (ay ?_)));have a8:=Nat.mod_lt p hb;exact⟨q,p%q,a8,av,ez,by rw[Nat.gcd_comm q,←Nat.gcd_rec,Nat.gcd_comm q];exact dC,SX,by omega⟩
    ·
     have hb:q=0:=by simp at hb;omega
     subst hb;rw[Nat.gcd_zero_right]at dC;refine bA (ah [5] rfl ?_);refine ae (aa 1 rfl (aq rfl rfl (BQ (by omega)) ?_));intro v1 H4 hp;refine aa 1 rfl (ab [4] ?_);refine ar ⟨.inr rfl,_,.tmp rfl (.nil),?_⟩;exact⟨ez.trans hp.le,by rw[←dC];exact hp.nat⟩
   ·
    skip
    refine aw (ah [0,1] rfl ?_);refine ae (aa 2 rfl (aq rfl rfl (BW (x:=x1) (y:=y1) ⟨A,c,rfl,hc,hr⟩ ⟨A',c',rfl,gA,cF⟩ fE (by omega)) ?_));rintro v1 H4 ⟨ez,q,r,rfl,bB,jA⟩;refine aa 5 rfl (ab [1,10] ?_);refine aB rfl (aa 4 rfl (ay ?_));have a8:=Nat.mod_lt x1 fE;exact⟨y1,x1%y1,_,_,a8,av,hle.trans ez,fI.le (l:=af y1) ⟨A',c',rfl,gA,cF⟩ ez,jA,by rw[Nat.gcd_comm y1,←Nat.gcd_rec,Nat.gcd_comm y1];exact hg,oT,by omega⟩
  ·
   skip
   refine ae (aa 2 rfl (ax false rfl rfl (vA (by omega)) (aa 5 rfl (ab [0,1,21] ?_))));refine cP rfl (aw (ah [0,1] rfl ?_));refine ae (aa 2 rfl (aq rfl rfl (BW (x:=x1) (y:=y1) ⟨A,c,rfl,hc,hr⟩ ⟨A',c',rfl,gA,cF⟩ fE (by omega)) ?_));rintro v1 H4 ⟨ez,q,r,rfl,bB,jA⟩;refine aa 5 rfl (ab [1,10] ?_);refine aB rfl (aa 4 rfl (ay ?_));have a8:=Nat.mod_lt x1 fE;exact⟨y1,x1%y1,_,_,a8,av,hle.trans ez,fI.le (l:=af y1) ⟨A',c',rfl,gA,cF⟩ ez,jA,by rw[Nat.gcd_comm y1,←Nat.gcd_rec,Nat.gcd_comm y1];exact hg,oT,by omega⟩
 ·
  have hb:(af y1).length=0:=by simp at hb;simp[hb]
  have fE:y1=0:=gC.1 hb;subst fE;rw[Nat.gcd_zero_right]at hg;refine bA (ah [0] rfl ?_);refine ae (aa 2 rfl (ab [4] ?_));refine ar ⟨.inr rfl,_,.tmp rfl (.nil),?_⟩;exact⟨hle,by rw[←hg];exact⟨A,c,rfl,hc,hr⟩⟩
end Go.au
namespace Num
def sg(neg:Bool)(n:Nat):Int:=if neg then -(n:Int)else n
def bQ(neg:Bool)(n d:Nat):Rat:=mkRat (sg neg n) d
theorem Fs(f:Bool)(n:Nat):(sg f n).natAbs=n:=by cases f <;> simp[sg]
theorem SY(f:Bool):sg f 0=0:=by cases f <;> rfl
theorem p4(f:Bool)(d:Nat):bQ f 0 d=0:=by simp[bQ,SY]
theorem BZ(f:Bool)(n:Nat):bQ f n 0=0:=by simp[bQ]
theorem tl{f:Bool}{n d:Nat}(hd:0<d):(bQ f n d).den=d/Nat.gcd n d:=by
 rw[bQ,Rat.den_mkRat,if_neg (by omega),Fs,Nat.gcd_comm]
theorem Ft{f:Bool}{n d:Nat}(hd:0<d):(bQ f n d).num=sg f (n/Nat.gcd n d):=by
 rw[bQ,Rat.num_mkRat,if_neg (by omega),Fs,Nat.gcd_comm]
 have SZ:Nat.gcd n d∣n:=Nat.gcd_dvd_left n d
 cases f
 ·simp[sg]
 ·simp only[sg,if_true]
  rw[Int.neg_ediv_of_dvd (by exact_mod_cast SZ)]
  simp
theorem vJ{f:Bool}{n d:Nat}(hd:0<d):(bQ f n d).num.natAbs=n/Nat.gcd n d:=by rw[Ft hd,Fs]
theorem yh{f:Bool}{n d:Nat}(hd:0<d)(hn:0<n):decide ((bQ f n d).num<0)=f:=by
 rw[Ft hd]
 have h1:0<n/Nat.gcd n d:=Nat.div_pos (Nat.le_of_dvd hn (Nat.gcd_dvd_left n d)) (Nat.gcd_pos_of_pos_left _ hn)
 cases f <;> simp[sg] <;> omega
theorem Fu{f:Bool}{n d:Nat}(hd:0<d):bQ f n d=0↔n=0:=by
 rw[bQ,Rat.mkRat_eq_zero (by omega)]
 cases f <;> simp[sg]
theorem S0{f:Bool}{n d:Nat}(hd:0<d)(hn:0<n):bQ f n d<0↔f=true:=by
 have h:=yh (f:=f) hd hn
 rw[←Rat.not_le,←Rat.num_nonneg]
 constructor
 ·intro h1;rw[←h,decide_eq_true_iff];omega
 ·intro h1;rw[h1]at h⊢;have:=of_decide_eq_true h;omega
theorem Ki(f:Bool){n m d e:Nat}(hd:0<d)(he:0<e):bQ f n d+bQ f m e=bQ f (n*e+m*d) (d*e):=by
 rw[bQ,bQ,Rat.mkRat_add_mkRat _ _ (by omega) (by omega),bQ]
 congr 1
 cases f
 ·simp[sg]
 ·simp[sg,Int.neg_add,Int.neg_mul]
theorem Fv{f g:Bool}(lV:f≠g){n m d e:Nat}(hd:0<d)(he:0<e)(h:m*d≤n*e):bQ f n d+bQ g m e=bQ f (n*e-m*d) (d*e):=by
 rw[bQ,bQ,Rat.mkRat_add_mkRat _ _ (by omega) (by omega),bQ]
 congr 1
 obtain rfl:g = !f:=by cases f <;> cases g <;> simp at lV⊢
 cases f
 ·simp[sg]
  rw[Int.ofNat_sub h];simp[Int.neg_mul];omega
 ·simp[sg]
  rw[Int.ofNat_sub h];simp[Int.neg_mul];omega
theorem Kj{f g:Bool}(lV:f≠g){n m d e:Nat}(hd:0<d)(he:0<e)(h:n*e≤m*d):bQ f n d+bQ g m e=bQ g (m*d-n*e) (d*e):=by
 rw[Rat.add_comm,Fv (Ne.symm lV) he hd h,Nat.mul_comm e d]
theorem Kk(f:Bool)(n d:Nat): -bQ f n d=bQ (!f) n d:=by
 rw[bQ,bQ,Rat.neg_mkRat]
 cases f <;> simp[sg]
theorem Kl(f g:Bool)(n m d e:Nat):bQ f n d*bQ g m e=bQ (f != g) (n*m) (d*e):=by
 rw[bQ,bQ,Rat.mkRat_mul_mkRat,bQ]
 congr 1
 cases f <;> cases g <;> simp[sg,Int.neg_mul,Int.mul_neg]
theorem Km{g:Bool}{m e:Nat}(_hm:0<m):(bQ g m e)⁻¹=bQ g e m:=by
 rw[bQ,bQ,←Rat.divInt_ofNat,Rat.inv_divInt,←Rat.divInt_ofNat]
 cases g
 ·rfl
 ·simp only[sg,if_true]
  rw[Rat.divInt_neg']
theorem Fw{f g:Bool}{n m d e:Nat}(hm:0<m):bQ f n d/bQ g m e=bQ (f != g) (n*e) (d*m):=by
 rw[Rat.div_def,Km hm,Kl]
theorem S1(n:Int):sg (decide (n<0)) n.natAbs=n:=by
 unfold sg;split
 ·rename_i h;simp at h;omega
 ·rename_i h;simp at h;omega
theorem yi(n:Int):bQ (decide (n<0)) n.natAbs 1=(n:Rat):=by
 have:sg (decide (n<0)) n.natAbs=n:=by
  unfold sg;split
  ·rename_i h;simp at h;omega
  ·rename_i h;simp at h;omega
 rw[bQ,this]
 exact Rat.mkRat_self (n:Rat)
theorem Kn(a b:Int):bQ (decide (a<0) != decide (b<0)) a.natAbs b.natAbs=(a:Rat)/(b:Rat):=by
 rcases Nat.eq_zero_or_pos b.natAbs with h | h
 ·rw[h,BZ]
  have:b=0:=by omega
  subst this
  simp[Rat.div_def]
 ·rw[←yi a,←yi b,Fw h]
  simp
def eE(q:Rat):Int:=if q<0 then -1 else if q=0 then 0 else 1
def tm(p q:Rat):Int:=if p<q then -1 else if p=q then 0 else 1
theorem B0{f:Bool}{n d:Nat}(hd:0<d):eE (bQ f n d)=if n=0 then 0 else if f then -1 else 1:=by
 unfold eE
 by_cases hn:n=0
 ·subst hn;rw[p4];rfl
 ·have h1:=S0 (f:=f) hd (by omega:0<n)
  have h2:=Fu (f:=f) (n:=n) hd
  cases f
  ·rw[if_neg (by rw[h1];simp),if_neg (by rw[h2];exact hn),if_neg hn];rfl
  ·rw[if_pos (by rw[h1]),if_neg hn];rfl
end Num
namespace Go.au
open Go.Proofs Num
def nL(H:Heap)(v:Value)(f:Bool)(n d:Nat):Prop:=∃u w,v = .agg #[.bool f,u,w]∧cn H u n∧cn H w d
theorem nL.le{H H':Heap}{v:Value}{f:Bool}{n d:Nat}(h:nL H v f n d)(hl:Heap.le H H'):nL H' v f n d:=by
 obtain⟨u,w,h1,h2,h3⟩:=h
 exact⟨u,w,h1,h2.le hl,h3.le hl⟩
def du(H:Heap)(v:Value)(q:Rat):Prop:=nL H v (decide (q.num<0)) q.num.natAbs q.den
theorem du.le{H H':Heap}{v:Value}{q:Rat}(h:du H v q)(hl:Heap.le H H'):du H' v q:=nL.le h hl
def cj(H:Heap)(v:Value)(q:Rat)(N:Nat):Prop:=∃f u w l1 l2,v = .agg #[.bool f,u,w]∧fI H u l1∧fI H w l2∧(∀x,x∈l1→x<4294967296)∧(∀x,x∈l2→x<4294967296)∧l1.length≤N∧l2.length≤N∧q=bQ f (val l1) (val l2)
theorem cj.le{H H':Heap}{v:Value}{q:Rat}{N:Nat}(h:cj H v q N)(hl:Heap.le H H'):cj H' v q N:=by
 obtain⟨f,u,w,l1,l2,h1,h2,h3,h4⟩:=h
 exact⟨f,u,w,l1,l2,h1,h2.le hl,h3.le hl,h4⟩
theorem cj.mono{H:Heap}{v:Value}{q:Rat}{N M:Nat}(h:cj H v q N)(hl:N≤M):cj H v q M:=by
 obtain⟨f,u,w,l1,l2,h1,h2,h3,h4,h5,h6,h7,h8⟩:=h
 exact⟨f,u,w,l1,l2,h1,h2,h3,h4,h5,by omega,by omega,h8⟩
def aC(q:Rat):Nat:=max (af q.num.natAbs).length (af q.den).length
theorem tq(q:Rat):bQ (decide (q.num<0)) q.num.natAbs q.den=q:=by
 rw[bQ,S1,Rat.mkRat_self]
theorem lf{x:Nat}:∀y,y∈af x→y<4294967296:=fun y hy=>by
 have:=(dO x).lt y hy
 rw[bt]at this;omega
theorem du.raw{H:Heap}{v:Value}{q:Rat}(h:du H v q):cj H v q (aC q):=by
 obtain⟨u,w,h1,h2,h3⟩:=h
 exact⟨_,u,w,_,_,h1,h2,h3,lf,lf,Nat.le_max_left _ _,Nat.le_max_right _ _,by rw[bX,bX,tq]⟩
def iL(H:Heap)(q:Rat)(v:Value)(H':Heap):Prop:=Heap.le H H'∧du H' v q
theorem iL.le{H:Heap}{q:Rat}{v:Value}{H':Heap}(h:iL H q v H'):Heap.le H H':=h.1
def B3(H:Heap)(q:Rat)(K:Nat)(v:Value)(H':Heap):Prop:=Heap.le H H'∧∃f n d,nL H' v f n d∧0<d∧bQ f n d=q∧(af n).length≤K∧(af d).length≤K
theorem B3.le{H:Heap}{q:Rat}{K:Nat}{v:Value}{H':Heap}(h:B3 H q K v H'):Heap.le H H':=h.1
def mU(H:Heap)(x:Value)(v:Value)(H':Heap):Prop:=H'=H∧v=x
theorem mU.le{H:Heap}{x:Value}{v:Value}{H':Heap}(h:mU H x v H'):Heap.le H H':=by rw[h.1];exact .refl _
theorem oU:af 1 = [1]:=by
 rw[s4 (by decide)]
 rw[show 1/B=0 by decide,show 1%B=1 by decide,nJ]
theorem ru{H:Heap}{g e:Nat}:cn (ins H g (whole (eB [.int .u32 1]) e)) (.slice (some ⟨g,0,none⟩) 1 1) 1:=by
 refine⟨some ⟨g,0,none⟩,1,?_,?_,?_⟩
 ·rw[oU];rfl
 ·rw[oU];exact Nat.le_refl _
 ·rw[oU];exact mQ (y:=1) rfl
theorem vK{l:List Nat}(h:∀x,x∈l→x<4294967296):(af (val l)).length≤l.length+1:=by
 refine fW.2 ?_
 have:val l+5≤5*B^l.length:=by
  induction l with
  | nil=>simp[val]
  | cons x l ih=>
   have h1:=ih (fun y hy=>h y (List.mem_cons_of_mem _ hy))
   have h2:=h x (List.mem_cons_self ..)
   rw[fV,List.length_cons,Nat.pow_succ]
   have h3:B*(val l+5)≤B*(5*B^l.length):=Nat.mul_le_mul_left _ h1
   have h4:B*(5*B^l.length)=5*(B^l.length*B):=by rw[Nat.mul_left_comm,Nat.mul_comm B]
   have h5:B*5=5000000000:=by decide
   rw[Nat.mul_add]at h3
   omega
 have h5:5*B^l.length≤B*B^l.length:=Nat.mul_le_mul_right _ (by decide)
 rw[Nat.pow_succ,Nat.mul_comm _ B];omega
theorem lW(x y:Nat):(af (x*y)).length≤(af x).length+(af y).length:=by
 refine fW.2 ?_
 rw[Nat.pow_add]
 exact Nat.mul_lt_mul'' (vx x) (vx y)
theorem Ko{x y k:Nat}(hx:(af x).length≤k)(hy:(af y).length≤k):(af (x+y)).length≤k+1:=by
 refine fW.2 ?_
 have h1:=fW.1 hx
 have h2:=fW.1 hy
 have h3:B^k*2≤B^k*B:=Nat.mul_le_mul_left _ (by decide)
 rw[Nat.pow_succ];omega
end Go.au
namespace Go.au
open Go.Proofs Num
theorem S2{H:Heap}{u v:Value}{x y:Nat}(hx:cn H u x)(hy:cn H v y)(hm:((af x).length:Int)≤35184372088832):Fn Tryz.prog 116 #[u,v] H (mU H (.int .i64 (gN x y))):=by
 obtain⟨A,c,rfl,hc,hr⟩:=hx
 obtain⟨A',c',rfl,gA,cF⟩:=hy
 exact JY hr cF hm
theorem Kp{H:Heap}{u:Value}{x:Nat}(hx:cn H u x):Fn Tryz.prog 112 #[u] H (mU H (.bool (decide (x=1)))):=by
 obtain⟨A,c,rfl,hc,hr⟩:=hx
 exact Sd hr
theorem Kq{H:Heap}{u:Value}{l:List Nat}(hu:fI H u l)(s7:∀x,x∈l→x<4294967296)(hm:(l.length:Int)≤8796093022208):Fn Tryz.prog 102 #[u] H (jy H (val l)):=by
 obtain⟨A,c,rfl,hc,hr⟩:=hu
 exact Se s7 hr hm
theorem p5{H:Heap}{v:Value}{q:Rat}{N:Nat}(hv:cj H v q N)(hN:(N:Int)≤4398046511104):
 Fn Tryz.prog 77 #[v] H (B3 H q (N+1)):=by
 obtain⟨f,u,w,l1,l2,rfl,hu,hw,h1,h2,bC,aW,rfl⟩:=hv;refine aU (args:=[_]) Tryz.func77 rfl rfl Tryz.ntmps77 rfl rfl fun w0=> ?_;refine ah [0] rfl ?_;refine ae (bR rfl rfl (bG gM rfl (ab [1,2] ?_)));refine bT .bN [0,1,3,4,2,5,6,7] follows (by kernel_rfl) ?_;refine aa 4 rfl (aI rfl rfl (Kq hu h1 (by omega)) (fun _ _ h=>h.le) ?_);intro v1 H1 eS;refine aI rfl rfl (Kq (hw.le eS.le) h2 (by omega)) (fun _ _ h=>h.le) ?_;intro v2 H2 e9;obtain⟨B1,b1,rfl,e8,S3⟩:=eS.nat.le e9.le;obtain⟨B2,b2,rfl,cD,yj⟩:=e9.nat;have ez:=eS.le.trans e9.le;have jX:=vK h1;have g8:=vK h2;refine aa 2 rfl (ab [1,2,3,4] ?_);refine ao ?_
 by_cases gn:(af (val l1)).length=0
 ·
  skip
  refine ae (aa 2 rfl (ax true rfl rfl (eQ (by omega)) (aa 5 rfl (ab [1,2,3,4,18] ?_))));refine cI rfl (ae (dD Tryz.underlying106 cR rfl rfl rfl rfl rfl rfl rfl ?_));intro gb bO;refine eC ag rfl gM rfl rfl ?_;obtain⟨ti,aj,ak⟩:=fH;refine aO (.inl ⟨rfl,rfl⟩) rfl rfl rfl aj ak rfl rfl rfl (ab [2] ?_);obtain⟨bU,aK,aL⟩:=fH;refine ar ⟨.inr rfl,_,.agg rfl Tryz.underlying108 aK aL (.nil),?_⟩;exact⟨ez.trans (Heap.bh _ bO),false,0,1,⟨_,_,rfl,pV _,ru⟩,by decide,by rw[gC.1 gn,p4,p4],by rw[nJ];simp,by rw[oU];simp⟩
 ·
  skip
  refine ae (aa 2 rfl (ax false rfl rfl (fX (by omega)) (aa 5 rfl (ab [1,2,3,4,18] ?_))));refine az rfl (fun hb=> ?_) (fun hb=> ?_)
  ·
   have hb:(af (val l2)).length=0:=by simpa using hb
   refine ae (dD Tryz.underlying106 cR rfl rfl rfl rfl rfl rfl rfl ?_);intro gb bO;refine eC ag rfl gM rfl rfl ?_;obtain⟨ti,aj,ak⟩:=fH;refine aO (.inl ⟨rfl,rfl⟩) rfl rfl rfl aj ak rfl rfl rfl (ab [2] ?_);obtain⟨bU,aK,aL⟩:=fH;refine ar ⟨.inr rfl,_,.agg rfl Tryz.underlying108 aK aL (.nil),?_⟩;exact⟨ez.trans (Heap.bh _ bO),false,0,1,⟨_,_,rfl,pV _,ru⟩,by decide,by rw[gC.1 hb,BZ,p4],by rw[nJ];simp,by rw[oU];simp⟩
  have hb:(af (val l2)).length≠0:=by simpa using hb
  refine aw (ah [1,2,3,4] rfl ?_);refine ae (aa 4 rfl (eC ag rfl gM rfl rfl ?_));obtain⟨ti,aj,ak⟩:=fH;refine aO (.inl ⟨rfl,rfl⟩) rfl rfl rfl aj ak rfl rfl rfl (ab [2] ?_);obtain⟨bU,aK,aL⟩:=fH;refine ar ⟨.inr rfl,_,.agg rfl Tryz.underlying108 aK aL (.nil),?_⟩;exact⟨ez,f,val l1,val l2,⟨_,_,rfl,⟨B1,b1,rfl,e8,S3⟩,⟨B2,b2,rfl,cD,yj⟩⟩,Nat.pos_of_ne_zero (fun e=>hb (gC.2 e)),rfl,by omega,by omega⟩
theorem S4{H:Heap}{v:Value}{f:Bool}{n d:Nat}(hv:nL H v f n d)(hd:0<d)(cM:((af n).length:Int)<8796093022208)(dX:((af d).length:Int)<8796093022208):
 Fn Tryz.prog 104 #[v] H (iL H (bQ f n d)):=by
 obtain⟨u,w,rfl,hu,hw⟩:=hv
 obtain⟨A,c,rfl,hc,hr⟩:=id hu
 obtain⟨A2,c2,rfl,lX,jA⟩:=id hw;refine aU (args:=[_]) Tryz.func104 rfl rfl Tryz.ntmps104 rfl rfl fun w0=> ?_;refine ah [0] rfl ?_;refine ae (bR rfl rfl (bG gM rfl (ab [1,2] ?_)));refine ao (ae (aa 4 rfl (ab [1,2,11] ?_)));refine az rfl (fun hb=> ?_) (fun hb=> ?_)
 ·
  have hb:n=0:=gC.1 (by simpa using hb);subst hb;refine ae (dD Tryz.underlying106 cR rfl rfl rfl rfl rfl rfl rfl ?_);intro gb bO;refine eC ag rfl gM rfl rfl ?_;obtain⟨ti,aj,ak⟩:=fH;refine aO (.inl ⟨rfl,rfl⟩) rfl rfl rfl aj ak rfl rfl rfl (ab [2] ?_);obtain⟨bU,aK,aL⟩:=fH;refine ar ⟨.inr rfl,_,.agg rfl Tryz.underlying108 aK aL (.nil),?_⟩;exact⟨Heap.bh _ bO,by rw[p4];exact⟨_,_,rfl,pV _,ru⟩⟩
 ·
  have gn:0<n:=Nat.pos_of_ne_zero fun e=>by rw[gC.2 e]at hb;simp at hb
  refine aw (ah [1,2] rfl ?_);refine ao (ae (aa 2 rfl (aq rfl rfl (Kp hw) ?_)));rintro v1 H1 ⟨rfl,rfl⟩;refine ab [1,2,16] ?_;refine az rfl (fun hb=> ?_) (fun hb=> ?_)
  ·
   have jf:d=1:=by simpa using hb
   subst jf;refine ae (vr 1 ?_);obtain⟨ti,aj,ak⟩:=fH;refine aO (.inl ⟨rfl,rfl⟩) rfl rfl rfl aj ak rfl rfl rfl (ab [2] ?_);obtain⟨bU,aK,aL⟩:=fH;refine ar ⟨.inr rfl,_,.agg rfl Tryz.underlying108 aK aL (.nil),?_⟩;refine⟨.refl _,?_⟩
   unfold du
   rw[yh hd gn,vJ hd,tl hd,Nat.gcd_one_right,Nat.div_one,Nat.div_one];exact⟨_,_,rfl,hu,hw⟩
  skip
  refine aw (ah [1,2] rfl ?_);refine ae (aa 4 rfl (aq rfl rfl (SW hu hw cM dX) ?_));rintro v1 H2 hp;obtain⟨v1,rfl⟩:∃x,x=v1:=⟨_,rfl⟩;have kn:0<Nat.gcd n d:=Nat.gcd_pos_of_pos_left _ gn;refine aa 1 rfl (ab [1,2,3] ?_);refine ao (ae (aa 1 rfl (aq rfl rfl (Kp hp.nat) ?_)));rintro v2 H3 ⟨rfl,rfl⟩;refine ab [1,2,3,24] ?_;refine az rfl (fun hb=> ?_) (fun hb=> ?_)
  ·
   have jz:Nat.gcd n d=1:=by simpa using hb
   refine ae (vr 1 ?_);obtain⟨ti,aj,ak⟩:=fH;refine aO (.inl ⟨rfl,rfl⟩) rfl rfl rfl aj ak rfl rfl rfl (ab [2] ?_);obtain⟨bU,aK,aL⟩:=fH;refine ar ⟨.inr rfl,_,.agg rfl Tryz.underlying108 aK aL (.nil),?_⟩;refine⟨hp.le,?_⟩
   unfold du
   rw[yh hd gn,vJ hd,tl hd,jz,Nat.div_one,Nat.div_one];exact⟨_,_,rfl,hu.le hp.le,hw.le hp.le⟩
  skip
  refine aw (ah [1,2,3] rfl ?_);refine ae (aa 3 rfl (aq rfl rfl (BW (hu.le hp.le) hp.nat kn cM) ?_));rintro v2 H4 ⟨eY,q1,r1,rfl,bJ,nB⟩;refine aa 5 rfl (ab [1,2,3,4] ?_);refine ae (aa 3 rfl (aq rfl rfl (BW (hw.le (hp.le.trans eY)) (hp.nat.le eY) kn dX) ?_));rintro v2 H5 ⟨eR,q2,r2,rfl,bB,oS⟩;obtain⟨A3,c3,rfl,oV,lg⟩:=bJ.le eR;obtain⟨A4,c4,rfl,tr,Kr⟩:=id bB;refine aa 5 rfl (ab [1,2,4,6] ?_);refine ae (aa 4 rfl (eC ag rfl gM rfl rfl ?_));obtain⟨ti,aj,ak⟩:=fH;refine aO (.inl ⟨rfl,rfl⟩) rfl rfl rfl aj ak rfl rfl rfl (ab [2] ?_);obtain⟨bU,aK,aL⟩:=fH;refine ar ⟨.inr rfl,_,.agg rfl Tryz.underlying108 aK aL (.nil),?_⟩;refine⟨(hp.le.trans eY).trans eR,?_⟩
  unfold du
  rw[yh hd gn,vJ hd,tl hd];exact⟨_,_,rfl,⟨A3,c3,rfl,oV,lg⟩,bB⟩
theorem tt{H:Heap}{v:Value}{f:Bool}{n d:Nat}(hv:nL H v f n d)(hd:0<d)(cM:((af n).length:Int)<8796093022208)(dX:((af d).length:Int)<8796093022208):
 Fn Tryz.prog 80 #[v] H (iL H (bQ f n d)):=by
 obtain⟨u,w,rfl,hu,hw⟩:=id hv;refine aU (args:=[_]) Tryz.func80 rfl rfl Tryz.ntmps80 rfl rfl fun w0=> ?_;refine ah [0] rfl ?_;refine ae (bR rfl rfl (bG eD rfl (ab [1,2] ?_)));refine ae (aa 1 rfl (aq rfl rfl (S4 hv hd cM dX) ?_));rintro v1 H1 ⟨hle,u1,w1,rfl,cW,ee⟩;obtain⟨A,c,rfl,hc,hr⟩:=id cW;obtain⟨A2,c2,rfl,lX,jA⟩:=id ee;refine bG gM rfl ?_;obtain⟨ti,aj,ak⟩:=fH;refine aO (.inl ⟨rfl,rfl⟩) rfl rfl rfl aj ak rfl rfl rfl (ab [2,3] ?_);refine ae (aa 6 rfl (eC ag rfl eD rfl rfl ?_));obtain⟨ti,aj,ak⟩:=bP;refine aO (.inl ⟨rfl,rfl⟩) rfl rfl rfl aj ak rfl rfl rfl (ab [2] ?_);obtain⟨bU,aK,aL⟩:=bP;refine ar ⟨.inr rfl,_,.agg rfl Tryz.underlying29 aK aL (.nil),?_⟩;exact⟨hle,_,_,rfl,cW,ee⟩
theorem S5{H:Heap}{v:Value}{f:Bool}{n d:Nat}(hv:nL H v f n d)(hd:0<d):
 Fn Tryz.prog 78 #[v] H (mU H (.int .i64 (eE (bQ f n d)))):=by
 obtain⟨u,w,rfl,hu,hw⟩:=id hv
 obtain⟨A,c,rfl,hc,hr⟩:=id hu;refine aU (args:=[_]) Tryz.func78 rfl rfl Tryz.ntmps78 rfl rfl fun w0=> ?_;refine ah [0] rfl ?_;refine ae (bR rfl rfl (aa 1 rfl (ab [1] ?_)));refine ao (aD (ae (aa 5 rfl (ab [1,3] ?_))));refine az rfl (fun hb=> ?_) (fun hb=> ?_)
 ·
  have hb:n=0:=gC.1 (by simpa using hb);refine ae (aa 1 rfl (ab [2] ?_));refine ar ⟨.inr rfl,_,.tmp rfl (.nil),?_⟩;exact⟨rfl,by rw[B0 hd,if_pos hb];rfl⟩
 ·
  have gn:n≠0:=fun e=>by rw[gC.2 e]at hb;simp at hb
  refine ae (aa 3 rfl (ab [8] ?_));refine az rfl (fun hb=> ?_) (fun hb=> ?_)
  ·
   subst hb;refine ae (aa 1 rfl (ab [2] ?_));refine ar ⟨.inr rfl,_,.tmp rfl (.nil),?_⟩;exact⟨rfl,by rw[B0 hd,if_neg gn];rfl⟩
  subst hb;refine aw (ah [] rfl ?_);refine ae (aa 1 rfl (ab [2] ?_));refine ar ⟨.inr rfl,_,.tmp rfl (.nil),?_⟩;exact⟨rfl,by rw[B0 hd,if_neg gn];rfl⟩
end Go.au
namespace Go.au
open Go.Proofs Num
theorem wrap_u64(n:Int):IntKind.u64.wrap n=n%18446744073709551616:=rfl
theorem Ks{x y:Nat}:(0≤gN x y)↔y≤x:=by
 unfold gN;split
 ·omega
 ·split <;> omega
theorem S6{H:Heap}{u v:Value}{f g:Bool}{n d m e K:Nat}(hf:nL H u f n d)(hg:nL H v g m e)(hd:0<d)(he:0<e)(h1:(af n).length≤K)(h2:(af d).length≤K)(h3:(af m).length≤K)(h4:(af e).length≤K)(hK:(K:Int)≤2199023255552):
 Fn Tryz.prog 105 #[u,v] H (B3 H (bQ f n d+bQ g m e) (2*K+1)):=by
 obtain⟨un,ud,rfl,mT,Kt⟩:=id hf
 obtain⟨vm,ve,rfl,S7,vL⟩:=id hg
 have p6:=lW n e
 have nM:=lW m d
 have Ku:=lW d e
 have B4:=Nat.mul_pos hd he
 have ld:=Ko (x:=n*e) (y:=m*d) (k:=2*K) (by omega) (by omega);refine aU (args:=[_,_]) Tryz.func105 rfl rfl Tryz.ntmps105 rfl rfl fun w0=> ?_;refine ah [0,1] rfl ?_;refine ae (bR rfl rfl (bR rfl rfl (bG gM rfl (ab [2,3,4] ?_))));refine bT .bN [0,1,2,3,5,6,7,8,4,9,10,11] follows (by kernel_rfl) ?_;refine aa 8 rfl (aI rfl rfl (s9 mT vL (by omega) (by omega)) (fun _ _ h=>h.le) ?_);intro v1 H1 eS;refine aI rfl rfl (s9 (S7.le eS.le) (Kt.le eS.le) (by omega) (by omega)) (fun _ _ h=>h.le) ?_;intro v2 H2 e9;refine aa 2 rfl (ab [2,3,4,5,6] ?_);refine ae (aa 4 rfl (aq rfl rfl (s9 (Kt.le (eS.le.trans e9.le)) (vL.le (eS.le.trans e9.le)) (by omega) (by omega)) ?_));intro v3 H3 dG;have fL:=(eS.le.trans e9.le).trans dG.le;have cM:=eS.nat.le (e9.le.trans dG.le);have fp:=e9.nat.le dG.le;have fM:=dG.nat;obtain⟨Fy,Fz,rfl,FA,FB⟩:=id cM;obtain⟨Kv,Kw,rfl,Kx,Ky⟩:=id fp;obtain⟨FC,FD,rfl,FE,B5⟩:=id fM;refine aa 1 rfl (ab [2,3,4,5,6,7] ?_);refine ao (ae (aa 4 rfl (Jz Tryz.underlying4 rfl rfl (ab [2,3,4,5,6,7,27] ?_))));refine az rfl (fun hb=> ?_) (fun hb=> ?_)
 ·
  have lV:f=g:=by simpa using hb
  subst lV;refine bT .bN [0,1,2,3,5,4,6,7] follows (by kernel_rfl) ?_;refine aa 5 rfl (aI rfl rfl (Sg cM fp (by omega) (by omega)) (fun _ _ h=>h.le) ?_);intro v4 H4 eF;have eT:=eF.nat;obtain⟨B6,B7,rfl,B8,B9⟩:=id eT;refine eC ag rfl gM rfl rfl ?_;obtain⟨ti,aj,ak⟩:=fH;refine aO (.inl ⟨rfl,rfl⟩) rfl rfl rfl aj ak rfl rfl rfl (ab [4] ?_);obtain⟨bU,aK,aL⟩:=fH;refine ar ⟨.inr rfl,_,.agg rfl Tryz.underlying108 aK aL (.nil),?_⟩;exact⟨fL.trans eF.le,f,n*e+m*d,d*e,⟨_,_,rfl,eT,fM.le eF.le⟩,B4,(Ki f hd he).symm,by omega,by omega⟩
 ·
  have lV:f≠g:=by simpa using hb
  refine aw (ah [2,3,4,5,6,7] rfl ?_);refine ao (ae (aa 2 rfl (aq rfl rfl (S2 cM fp (by omega)) ?_)));rintro v4 H4 ⟨rfl,rfl⟩;refine aa 1 rfl (ab [2,3,4,5,6,7,38] ?_);refine az rfl (fun hb=> ?_) (fun hb=> ?_)
  ·
   have hb:m*d≤n*e:=Ks.1 (by simpa using hb);have fN:=jd (Nat.sub_le (n*e) (m*d));refine bT .bN [0,1,2,3,5,4,6,7] follows (by kernel_rfl) ?_;refine aa 5 rfl (aI rfl rfl (J0 cM fp hb (by omega)) (fun _ _ h=>h.le) ?_);intro v4 H4 eF;have eT:=eF.nat;obtain⟨B6,B7,rfl,B8,B9⟩:=id eT;refine eC ag rfl gM rfl rfl ?_;obtain⟨ti,aj,ak⟩:=fH;refine aO (.inl ⟨rfl,rfl⟩) rfl rfl rfl aj ak rfl rfl rfl (ab [4] ?_);obtain⟨bU,aK,aL⟩:=fH;refine ar ⟨.inr rfl,_,.agg rfl Tryz.underlying108 aK aL (.nil),?_⟩;exact⟨fL.trans eF.le,f,n*e-m*d,d*e,⟨_,_,rfl,eT,fM.le eF.le⟩,B4,(Fv lV hd he hb).symm,by omega,by omega⟩
  have hb:¬m*d≤n*e:=fun h=>by have:=Ks.2 h;simp at hb;omega
  have hb:n*e≤m*d:=by omega
  have fN:=jd (Nat.sub_le (m*d) (n*e));refine aw (ah [3,4,5,6,7] rfl ?_);refine bT .bN [0,1,2,3,5,4,6,7] follows (by kernel_rfl) ?_;refine aa 5 rfl (aI rfl rfl (J0 fp cM hb (by omega)) (fun _ _ h=>h.le) ?_);intro v4 H4 eF;have eT:=eF.nat;obtain⟨B6,B7,rfl,B8,B9⟩:=id eT;refine eC ag rfl gM rfl rfl ?_;obtain⟨ti,aj,ak⟩:=fH;refine aO (.inl ⟨rfl,rfl⟩) rfl rfl rfl aj ak rfl rfl rfl (ab [4] ?_);obtain⟨bU,aK,aL⟩:=fH;refine ar ⟨.inr rfl,_,.agg rfl Tryz.underlying108 aK aL (.nil),?_⟩;exact⟨fL.trans eF.le,g,m*d-n*e,d*e,⟨_,_,rfl,eT,fM.le eF.le⟩,B4,(Kj lV hd he hb).symm,by omega,by omega⟩
theorem FF{H:Heap}{n:Int}(h1: -9223372036854775808≤n)(h2:n≤9223372036854775807):
 Fn Tryz.prog 79 #[.int .i64 n] H (jy H n.natAbs):=by
 refine aU (args:=[_]) Tryz.func79 rfl rfl Tryz.ntmps79 rfl rfl fun w0=> ?_;refine ah [0] rfl ?_;refine ae (aa 1 rfl (ab [0] ?_));refine ao (ae (aa 2 rfl (ab [0,4] ?_)));refine az rfl (fun hb=> ?_) (fun hb=> ?_)
 ·
  have hb:n<0:=by simpa using hb
  refine ae (aa 1 rfl (Jy ag rfl rfl rfl (Q5 rfl ?_)));rw[show IntKind.u64.wrap (-IntKind.u64.wrap n)=((n.natAbs:Nat):Int) by rw[wrap_u64,wrap_u64];omega];refine aq rfl rfl (BQ (by omega)) ?_;intro v1 H1 hp;refine aa 1 rfl (ab [2] ?_);refine ar ⟨.inr rfl,_,.tmp rfl (.nil),?_⟩;exact hp
 ·
  have hb:0≤n:=by simpa using hb
  refine aw (ah [0] rfl ?_);refine ae (aa 1 rfl (Jy ag rfl rfl rfl ?_));rw[show IntKind.u64.wrap n=((n.natAbs:Nat):Int) by rw[wrap_u64];omega];refine aq rfl rfl (BQ (by omega)) ?_;intro v1 H1 hp;refine aa 1 rfl (ab [2] ?_);refine ar ⟨.inr rfl,_,.tmp rfl (.nil),?_⟩;exact hp
theorem Kz{H:Heap}{n:Int}(h1: -9223372036854775808≤n)(h2:n≤9223372036854775807):
 Fn Tryz.prog 45 #[.int .i64 n] H (iL H (n:Rat)):=by
 have dH:(af n.natAbs).length≤3:=fW.2 (by rw[bt];omega);refine aU (args:=[_]) Tryz.func45 rfl rfl Tryz.ntmps45 rfl rfl fun w0=> ?_;refine ah [0] rfl ?_;refine ae (bG eD rfl (ab [0,2] ?_));refine ae (aa 3 rfl (aq rfl rfl (FF h1 h2) ?_));intro v1 H1 hp;have cM:=hp.nat;obtain⟨Fy,Fz,rfl,FA,FB⟩:=id cM;refine dD Tryz.underlying106 cR rfl rfl rfl rfl rfl rfl rfl ?_;intro gb bO;refine eC ag rfl gM rfl rfl (aq rfl rfl (tt (f:=decide (n<0)) (n:=n.natAbs) (d:=1) ⟨_,_,rfl,cM.le (Heap.bh _ bO),ru⟩ (by decide) (by omega) (by rw[oU];decide)) ?_);rintro v1 H2 ⟨hle,hq⟩;rw[yi]at hq;obtain⟨u1,w1,rfl,cW,ee⟩:=id hq;obtain⟨jg,jh,rfl,ji,jk⟩:=id cW;obtain⟨vM,vN,rfl,vO,vP⟩:=id ee;obtain⟨ti,aj,ak⟩:=bP;refine aO (.inl ⟨rfl,rfl⟩) rfl rfl rfl aj ak rfl rfl rfl (ab [2] ?_);obtain⟨bU,aK,aL⟩:=bP;refine ar ⟨.inr rfl,_,.agg rfl Tryz.underlying29 aK aL (.nil),?_⟩;exact⟨(hp.le.trans (Heap.bh _ bO)).trans hle,hq⟩
theorem KA{H:Heap}{a b:Int}(h1: -9223372036854775808≤a)(h2:a≤9223372036854775807)(h3: -9223372036854775808≤b)(h4:b≤9223372036854775807):
 Fn Tryz.prog 69 #[.int .i64 a,.int .i64 b] H (iL H ((a:Rat)/(b:Rat))):=by
 have dH:(af a.natAbs).length≤3:=fW.2 (by rw[bt];omega)
 have dr:(af b.natAbs).length≤3:=fW.2 (by rw[bt];omega);refine aU (args:=[_,_]) Tryz.func69 rfl rfl Tryz.ntmps69 rfl rfl fun w0=> ?_;refine ah [0,1] rfl ?_;refine ae (bG eD rfl (ab [0,1,4] ?_));refine ao (ae (aa 2 rfl (ab [0,1,4,6] ?_)));refine az rfl (fun hb=> ?_) (fun hb=> ?_)
 ·
  have hb:b=0:=by simpa using hb
  subst hb;refine ae (aq rfl rfl (Kz (n:=0) (by decide) (by decide)) ?_);rintro v1 H2 ⟨hle,hq⟩;obtain⟨u1,w1,rfl,cW,ee⟩:=id hq;obtain⟨jg,jh,rfl,ji,jk⟩:=id cW;obtain⟨vM,vN,rfl,vO,vP⟩:=id ee;obtain⟨ti,aj,ak⟩:=bP;refine aO (.inl ⟨rfl,rfl⟩) rfl rfl rfl aj ak rfl rfl rfl (ab [4] ?_);obtain⟨bU,aK,aL⟩:=bP;refine ar ⟨.inr rfl,_,.agg rfl Tryz.underlying29 aK aL (.nil),?_⟩;exact⟨hle,by rw[show (a:Rat)/((0:Int):Rat)=((0:Int):Rat) by simp[Rat.div_def]];exact hq⟩
 ·
  have hb:b≠0:=by simpa using hb
  refine aw (ah [0,1,4] rfl ?_);refine ae (aa 4 rfl (BA Tryz.underlying4 rfl rfl (aa 1 rfl (aq rfl rfl (FF h1 h2) ?_))));intro v1 H1 eS;refine aa 1 rfl (aq rfl rfl (FF h3 h4) ?_);intro v2 H2 e9;have cM:=eS.nat.le e9.le;have fp:=e9.nat;obtain⟨Fy,Fz,rfl,FA,FB⟩:=id cM;obtain⟨Kv,Kw,rfl,Kx,Ky⟩:=id fp;refine eC ag rfl gM rfl rfl (aq rfl rfl (tt (f:=decide (a<0) != decide (b<0)) (n:=a.natAbs) (d:=b.natAbs) ⟨_,_,rfl,cM,fp⟩ (by omega) (by omega) (by omega)) ?_);rintro v1 H3 ⟨hle,hq⟩;rw[Kn]at hq;obtain⟨u1,w1,rfl,cW,ee⟩:=id hq;obtain⟨jg,jh,rfl,ji,jk⟩:=id cW;obtain⟨vM,vN,rfl,vO,vP⟩:=id ee;obtain⟨ti,aj,ak⟩:=bP;refine aO (.inl ⟨rfl,rfl⟩) rfl rfl rfl aj ak rfl rfl rfl (ab [4] ?_);obtain⟨bU,aK,aL⟩:=bP;refine ar ⟨.inr rfl,_,.agg rfl Tryz.underlying29 aK aL (.nil),?_⟩;exact⟨(eS.le.trans e9.le).trans hle,hq⟩
end Go.au
namespace Go.au
open Go.Proofs Num
theorem KB{H:Heap}{v:Value}{q:Rat}{N:Nat}(hv:cj H v q N)(hN:(N:Int)≤1099511627776):
 Fn Tryz.prog 46 #[v] H (iL H q):=by
 obtain⟨bf,bu,bw,lY,lZ,rfl,_⟩:=id hv;refine aU (args:=[_]) Tryz.func46 rfl rfl Tryz.ntmps46 rfl rfl fun w0=> ?_;refine ah [0] rfl ?_;refine ae (bR rfl rfl (bG eD rfl (ab [1,2] ?_)));refine ae (aa 1 rfl (aq rfl rfl (p5 hv (by omega)) ?_));rintro v1 H1 ⟨eL,f1,n1,d1,lh,dX,rfl,bC,p6⟩;obtain⟨tu,tv,rfl,fK,fZ⟩:=id lh;obtain⟨tw,tx,rfl,tz,tA⟩:=id fK;obtain⟨tB,tC,rfl,tD,tE⟩:=id fZ;refine aq rfl rfl (tt lh dX (by omega) (by omega)) ?_;rintro w2 G2 ⟨cG,bB⟩;obtain⟨u2,x2,rfl,dF,dL⟩:=id bB;obtain⟨kz,kA,rfl,kB,kC⟩:=id dF;obtain⟨kD,kE,rfl,kF,kG⟩:=id dL;obtain⟨ti,aj,ak⟩:=bP;refine aO (.inl ⟨rfl,rfl⟩) rfl rfl rfl aj ak rfl rfl rfl (ab [2] ?_);obtain⟨bU,aK,aL⟩:=bP;refine ar ⟨.inr rfl,_,.agg rfl Tryz.underlying29 aK aL (.nil),?_⟩;exact⟨eL.trans cG,bB⟩
theorem p7{H:Heap}{v:Value}{q:Rat}{N:Nat}(hv:cj H v q N)(hN:(N:Int)≤1099511627776):
 Fn Tryz.prog 44 #[v] H (fun v H'=>Heap.le H H'∧v = .int .i64 (eE q)):=by
 obtain⟨bf,bu,bw,lY,lZ,rfl,_⟩:=id hv;refine aU (args:=[_]) Tryz.func44 rfl rfl Tryz.ntmps44 rfl rfl fun w0=> ?_;refine ah [0] rfl ?_;refine ae (bR rfl rfl (aa 1 rfl (ab [1] ?_)));refine ae (aa 1 rfl (aq rfl rfl (p5 hv (by omega)) ?_));rintro v1 H1 ⟨eL,f1,n1,d1,lh,dX,rfl,bC,p6⟩;obtain⟨tu,tv,rfl,fK,fZ⟩:=id lh;obtain⟨tw,tx,rfl,tz,tA⟩:=id fK;obtain⟨tB,tC,rfl,tD,tE⟩:=id fZ;refine aq rfl rfl (S5 lh dX) ?_;rintro v2 H2 ⟨rfl,rfl⟩;refine aa 1 rfl (ab [2] ?_);refine ar ⟨.inr rfl,_,.tmp rfl (.nil),?_⟩;exact⟨eL,rfl⟩
theorem S8{H:Heap}{v:Value}{q:Rat}{N:Nat}(hv:cj H v q N)(hN:(N:Int)≤1099511627776):
 Fn Tryz.prog 67 #[v] H (iL H (-q)):=by
 obtain⟨bf,bu,bw,lY,lZ,rfl,_⟩:=id hv;refine aU (args:=[_]) Tryz.func67 rfl rfl Tryz.ntmps67 rfl rfl fun w0=> ?_;refine ah [0] rfl ?_;refine ae (bR rfl rfl (bG eD rfl (ab [1,2] ?_)));refine ae (aa 1 rfl (aq rfl rfl (p5 hv (by omega)) ?_));rintro v1 H1 ⟨eL,f1,n1,d1,lh,dX,rfl,bC,p6⟩;obtain⟨tu,tv,rfl,fK,fZ⟩:=id lh;obtain⟨tw,tx,rfl,tz,tA⟩:=id fK;obtain⟨tB,tC,rfl,tD,tE⟩:=id fZ;refine bG gM rfl ?_;obtain⟨ti,aj,ak⟩:=fH;refine aO (.inl ⟨rfl,rfl⟩) rfl rfl rfl aj ak rfl rfl rfl (ab [2,3] ?_);refine ae (vr 4 ?_);obtain⟨ti,aj,ak⟩:=R0;refine aO (.inr rfl) rfl rfl rfl aj ak rfl rfl rfl (ab [2,3] ?_);refine ae (aa 1 rfl (aq rfl rfl (tt (f:= !f1) ⟨_,_,rfl,fK,fZ⟩ dX (by omega) (by omega)) ?_));rintro w2 G2 ⟨cG,bB⟩;rw[←Kk]at bB;obtain⟨u2,x2,rfl,dF,dL⟩:=id bB;obtain⟨kz,kA,rfl,kB,kC⟩:=id dF;obtain⟨kD,kE,rfl,kF,kG⟩:=id dL;obtain⟨ti,aj,ak⟩:=bP;refine aO (.inl ⟨rfl,rfl⟩) rfl rfl rfl aj ak rfl rfl rfl (ab [2] ?_);obtain⟨bU,aK,aL⟩:=bP;refine ar ⟨.inr rfl,_,.agg rfl Tryz.underlying29 aK aL (.nil),?_⟩;exact⟨eL.trans cG,bB⟩
theorem KC{H:Heap}{v v2:Value}{q q2:Rat}{N:Nat}(hv:cj H v q N)(cZ:cj H v2 q2 N)(hN:(N:Int)≤1099511627776):
 Fn Tryz.prog 110 #[v,v2] H (iL H (q+q2)):=by
 obtain⟨bf,bu,bw,lY,lZ,rfl,_⟩:=id hv
 obtain⟨cf,cu,cw,vQ,vR,rfl,_⟩:=id cZ;refine aU (args:=[_,_]) Tryz.func110 rfl rfl Tryz.ntmps110 rfl rfl fun w0=> ?_;refine ah [0,1] rfl ?_;refine ae (bR rfl rfl (bR rfl rfl (bG eD rfl (ab [2,3,4] ?_))));refine bT .bN [0,2,1,3,4,5,6] follows (by kernel_rfl) ?_;refine aa 2 rfl (aI rfl rfl (p5 hv (by omega)) (fun _ _ h=>h.le) ?_);rintro v1 H1 ⟨eL,f1,n1,d1,lh,dX,rfl,bC,p6⟩;obtain⟨tu,tv,rfl,fK,fZ⟩:=id lh;obtain⟨tw,tx,rfl,tz,tA⟩:=id fK;obtain⟨tB,tC,rfl,tD,tE⟩:=id fZ;refine aI rfl rfl (p5 (cZ.le eL) (by omega)) (fun _ _ h=>h.le) ?_;rintro v2 H2 ⟨ez,f2,n2,d2,vS,jf,rfl,aW,nM⟩;obtain⟨Ca,Cb,rfl,l0,lj⟩:=id vS;obtain⟨Cc,Cd,rfl,Ce,Cf⟩:=id l0;obtain⟨Cg,Ch,rfl,Ci,Cj⟩:=id lj;refine aI rfl rfl (S6 (K:=N+1) (lh.le ez) vS dX jf bC p6 aW nM (by omega)) (fun _ _ h=>h.le) ?_;rintro v3 H3 ⟨fL,f3,n3,d3,KD,S9,Ta,dH,Ku⟩;obtain⟨un3,ud3,rfl,aaj,aak⟩:=id KD;refine aI rfl rfl (tt KD S9 (by omega) (by omega)) (fun _ _ h=>h.le) ?_;rintro w4 G4 ⟨hO,cE⟩;rw[Ta]at cE;obtain⟨u4,x4,rfl,tF,lk⟩:=id cE;obtain⟨FG,FH,rfl,FI,FJ⟩:=id tF;obtain⟨Ck,Cl,rfl,Cm,Cn⟩:=id lk;obtain⟨ti,aj,ak⟩:=bP;refine aO (.inl ⟨rfl,rfl⟩) rfl rfl rfl aj ak rfl rfl rfl ?_
 refine ab [4] ?_;obtain⟨bU,aK,aL⟩:=bP;refine ar ⟨.inr rfl,_,.agg rfl Tryz.underlying29 aK aL (.nil),?_⟩;exact⟨((eL.trans ez).trans fL).trans hO,cE⟩
theorem KE{H:Heap}{v v2:Value}{q q2:Rat}{N:Nat}(hv:cj H v q N)(cZ:cj H v2 q2 N)(hN:(N:Int)≤1099511627776):
 Fn Tryz.prog 83 #[v,v2] H (iL H (q*q2)):=by
 obtain⟨bf,bu,bw,lY,lZ,rfl,_⟩:=id hv
 obtain⟨cf,cu,cw,vQ,vR,rfl,_⟩:=id cZ;refine aU (args:=[_,_]) Tryz.func83 rfl rfl Tryz.ntmps83 rfl rfl fun w0=> ?_;refine ah [0,1] rfl ?_;refine ae (bR rfl rfl (bR rfl rfl (bG eD rfl (ab [2,3,4] ?_))));refine bT .bN [0,2,1,3,4,5,6,7] follows (by kernel_rfl) ?_;refine aa 2 rfl (aI rfl rfl (p5 hv (by omega)) (fun _ _ h=>h.le) ?_);rintro v1 H1 ⟨eL,f1,n1,d1,lh,dX,rfl,bC,p6⟩;obtain⟨tu,tv,rfl,fK,fZ⟩:=id lh;obtain⟨tw,tx,rfl,tz,tA⟩:=id fK;obtain⟨tB,tC,rfl,tD,tE⟩:=id fZ;refine aI rfl rfl (p5 (cZ.le eL) (by omega)) (fun _ _ h=>h.le) ?_;rintro v2 H2 ⟨ez,f2,n2,d2,vS,jf,rfl,aW,nM⟩;obtain⟨Ca,Cb,rfl,l0,lj⟩:=id vS;obtain⟨Cc,Cd,rfl,Ce,Cf⟩:=id l0;obtain⟨Cg,Ch,rfl,Ci,Cj⟩:=id lj;have jX:=lW n1 n2;have g8:=lW d1 d2;refine bG gM rfl (bG gM rfl ?_);obtain⟨ti,aj,ak⟩:=fH;refine aO (.inl ⟨rfl,rfl⟩) rfl rfl rfl aj ak rfl rfl rfl ?_;obtain⟨ti,aj,ak⟩:=fH;refine aO (.inl ⟨rfl,rfl⟩) rfl rfl rfl aj ak rfl rfl rfl (ab [4,5,6] ?_);refine bT .bN [0,1,2,3,4,5,6,7,8,10,11,12,13,9,14,15,16,17] follows (by kernel_rfl) ?_;refine aa 4 rfl (BA Tryz.underlying4 rfl rfl ?_)
 refine aa 8 rfl (aI rfl rfl (s9 (fK.le ez) l0 (by omega) (by omega)) (fun _ _ h=>h.le) ?_);intro v3 H3 dG;refine aI rfl rfl (s9 (fZ.le (ez.trans dG.le)) (lj.le dG.le) (by omega) (by omega)) (fun _ _ h=>h.le) ?_;intro v4 H4 eF;have fM:=dG.nat.le eF.le;have eT:=eF.nat;obtain⟨FC,FD,rfl,FE,B5⟩:=id fM;obtain⟨B6,B7,rfl,B8,B9⟩:=id eT;refine eC ag rfl gM rfl rfl (aI rfl rfl (tt (f:=f1 != f2) (n:=n1*n2) (d:=d1*d2) ⟨_,_,rfl,fM,eT⟩ (Nat.mul_pos dX jf) (by omega) (by omega)) (fun _ _ h=>h.le) ?_);rintro w4 G4 ⟨hO,cE⟩;rw[←Kl]at cE;obtain⟨u4,x4,rfl,tF,lk⟩:=id cE;obtain⟨FG,FH,rfl,FI,FJ⟩:=id tF;obtain⟨Ck,Cl,rfl,Cm,Cn⟩:=id lk;obtain⟨ti,aj,ak⟩:=bP;refine aO (.inl ⟨rfl,rfl⟩) rfl rfl rfl aj ak rfl rfl rfl (ab [4] ?_);obtain⟨bU,aK,aL⟩:=bP;refine ar ⟨.inr rfl,_,.agg rfl Tryz.underlying29 aK aL (.nil),?_⟩;exact⟨(((eL.trans ez).trans dG.le).trans eF.le).trans hO,cE⟩
theorem KF{H:Heap}{v v2:Value}{q q2:Rat}{N:Nat}(hv:cj H v q N)(cZ:cj H v2 q2 N)(hN:(N:Int)≤1099511627776):
 Fn Tryz.prog 94 #[v,v2] H (fun v H'=>Heap.le H H'∧∃r,v = .tuple #[r,.bool (decide (q2≠0))]∧du H' r (q/q2)):=by
 obtain⟨bf,bu,bw,lY,lZ,rfl,_⟩:=id hv
 obtain⟨cf,cu,cw,vQ,vR,rfl,_⟩:=id cZ;refine aU (args:=[_,_]) Tryz.func94 rfl rfl Tryz.ntmps94 rfl rfl fun w0=> ?_;refine ah [0,1] rfl ?_;refine ae (bR rfl rfl (bR rfl rfl (bG eD rfl (aa 1 rfl (ab [2,3,4] ?_)))));refine bT .bN [0,2,1,3,4,5,6,7] follows (by kernel_rfl) ?_;refine aa 2 rfl (aI rfl rfl (p5 hv (by omega)) (fun _ _ h=>h.le) ?_);rintro v1 H1 ⟨eL,f1,n1,d1,lh,dX,rfl,bC,p6⟩;obtain⟨tu,tv,rfl,fK,fZ⟩:=id lh;obtain⟨tw,tx,rfl,tz,tA⟩:=id fK;obtain⟨tB,tC,rfl,tD,tE⟩:=id fZ;refine aI rfl rfl (p5 (cZ.le eL) (by omega)) (fun _ _ h=>h.le) ?_;rintro v2 H2 ⟨ez,f2,n2,d2,vS,jf,rfl,aW,nM⟩;obtain⟨Ca,Cb,rfl,l0,lj⟩:=id vS;obtain⟨Cc,Cd,rfl,Ce,Cf⟩:=id l0;obtain⟨Cg,Ch,rfl,Ci,Cj⟩:=id lj;have jX:=lW n1 d2;have g8:=lW d1 n2;refine bG gM rfl (bG gM rfl ?_);obtain⟨ti,aj,ak⟩:=fH;refine aO (.inl ⟨rfl,rfl⟩) rfl rfl rfl aj ak rfl rfl rfl ?_;obtain⟨ti,aj,ak⟩:=fH;refine aO (.inl ⟨rfl,rfl⟩) rfl rfl rfl aj ak rfl rfl rfl (ab [4,6,7] ?_);refine ao (ae (aa 4 rfl (ab [4,6,7,15] ?_)));refine az rfl (fun hb=> ?_) (fun hb=> ?_)
 ·
  have hb:n2=0:=gC.1 (by simpa using hb);subst hb;refine ae (aq rfl rfl (Kz (n:=0) (by decide) (by decide)) ?_);rintro w4 G4 ⟨hO,cE⟩;obtain⟨u4,x4,rfl,tF,lk⟩:=id cE;obtain⟨FG,FH,rfl,FI,FJ⟩:=id tF;obtain⟨Ck,Cl,rfl,Cm,Cn⟩:=id lk;obtain⟨ti,aj,ak⟩:=bP;refine aO (.inl ⟨rfl,rfl⟩) rfl rfl rfl aj ak rfl rfl rfl (aa 1 rfl (ab [4,5] ?_));obtain⟨bU,aK,aL⟩:=bP;refine ar ⟨.inr rfl,_,.agg rfl Tryz.underlying29 aK aL (.tmp rfl (.nil)),?_⟩;refine⟨(eL.trans ez).trans hO,_,?_,by rw[p4,Rat.div_def,Rat.inv_zero,Rat.mul_zero];exact cE⟩;rw[p4];rfl
 ·
  have gn:0<n2:=Nat.pos_of_ne_zero fun e=>by rw[gC.2 e]at hb;simp at hb
  refine aw (ah [4,6,7] rfl ?_);refine bT .bN [0,1,2,3,4,5,6,7,8,10,11,12,13,9,14,15,16,17,18] follows (by kernel_rfl) ?_;refine aa 4 rfl (BA Tryz.underlying4 rfl rfl (aa 8 rfl (aI rfl rfl (s9 (fK.le ez) lj (by omega) (by omega)) (fun _ _ h=>h.le) ?_)));intro v3 H3 dG;refine aI rfl rfl (s9 (fZ.le (ez.trans dG.le)) (l0.le dG.le) (by omega) (by omega)) (fun _ _ h=>h.le) ?_;intro v4 H4 eF;have fM:=dG.nat.le eF.le;have eT:=eF.nat;obtain⟨FC,FD,rfl,FE,B5⟩:=id fM;obtain⟨B6,B7,rfl,B8,B9⟩:=id eT;refine eC ag rfl gM rfl rfl (aI rfl rfl (tt (f:=f1 != f2) (n:=n1*d2) (d:=d1*n2) ⟨_,_,rfl,fM,eT⟩ (Nat.mul_pos dX gn) (by omega) (by omega)) (fun _ _ h=>h.le) ?_);rintro w4 G4 ⟨hO,cE⟩;rw[←Fw gn]at cE;obtain⟨u4,x4,rfl,tF,lk⟩:=id cE;obtain⟨FG,FH,rfl,FI,FJ⟩:=id tF;obtain⟨Ck,Cl,rfl,Cm,Cn⟩:=id lk;obtain⟨ti,aj,ak⟩:=bP;refine aO (.inl ⟨rfl,rfl⟩) rfl rfl rfl aj ak rfl rfl rfl (aa 1 rfl (ab [4,5] ?_));obtain⟨bU,aK,aL⟩:=bP;refine ar ⟨.inr rfl,_,.agg rfl Tryz.underlying29 aK aL (.tmp rfl (.nil)),?_⟩;refine⟨(((eL.trans ez).trans dG.le).trans eF.le).trans hO,_,?_,cE⟩
  have a4:bQ f2 n2 d2≠0:=fun e=>by rw[Fu jf]at e;omega
  rw[show decide (bQ f2 n2 d2≠0)=true from decide_eq_true a4];rfl
end Go.au
namespace Go.au
open Go
def rem(H:Heap)(gs:List Nat):Heap:=fun g=>if g∈gs then none else H g
theorem rem_in{H:Heap}{gs:List Nat}{g:Nat}(h:g∈gs):rem H gs g=none:=by simp[rem,h]
theorem bK{H:Heap}{gs:List Nat}{g:Nat}(h:¬g∈gs):rem H gs g=H g:=by simp[rem,h]
theorem ry(H:Heap):rem H []=H:=by funext g;simp[rem]
theorem bE(H:Heap)(gs:List Nat):Heap.le (rem H gs) H:=fun g e h=>by
 by_cases hg:g∈gs
 ·rw[rem_in hg]at h;cases h
 ·rw[bK hg]at h;exact⟨e,h,.refl e⟩
theorem KG{H H':Heap}(gs:List Nat)(h:Heap.le H H'):Heap.le (rem H gs) (rem H' gs):=fun g e he=>by
 by_cases hg:g∈gs
 ·rw[rem_in hg]at he;cases he
 ·rw[bK hg]at he⊢;exact h g e he
theorem bY{H:Heap}{gs:List Nat}{g:Nat}(e:aG)(h:g∈gs):rem (ins H g e) gs=rem H gs:=by
 funext k
 by_cases hk:k∈gs
 ·rw[rem_in hk,rem_in hk]
 ·rw[bK hk,bK hk,bD _ _ (fun(e':k=g)=>hk (by rw[e'];exact h))]
theorem yk{H:Heap}{gs:List Nat}{g:Nat}(e:aG)(h:¬g∈gs):rem (ins H g e) gs=ins (rem H gs) g e:=by
 funext k
 by_cases hk:k∈gs
 ·rw[rem_in hk,bD _ _ (fun(e':k=g)=>h (by rw[←e'];exact hk)),rem_in hk]
 ·rw[bK hk]
  unfold ins
  rw[bK hk]
theorem tG{H:Heap}{gs:List Nat}{g:Nat}(e:aG)(h:H g=none):rem (ins H g e) (g::gs)=rem H gs:=by
 funext k
 by_cases hk:k=g
 ·subst hk
  rw[rem_in (List.mem_cons_self ..)]
  by_cases hg:k∈gs
  ·rw[rem_in hg]
  ·rw[bK hg,h]
 ·by_cases hg:k∈gs
  ·rw[rem_in hg,rem_in (List.mem_cons_of_mem _ hg)]
  ·rw[bK hg,bK (by simp[hk,hg]),bD _ _ hk]
theorem KH(H:Heap)(g:Nat)(gs:List Nat):Heap.le (rem H (g::gs)) (rem H gs):=fun k e h=>by
 by_cases hk:k∈g::gs
 ·rw[rem_in hk]at h;cases h
 ·rw[bK hk]at h
  exact⟨e,by rw[bK (fun h'=>hk (List.mem_cons_of_mem _ h'))];exact h,.refl e⟩
theorem Den.rem{H:Heap}{w:World}(h:Den H w)(gs:List Nat):Den (rem H gs) w:=h.le (bE H gs)
structure Co(gs:List Nat)(aY:Value→Heap→Prop)(H:Heap)(v:Value)(H':Heap):Prop where
 post:aY v (rem H' gs)
 same:∀g,g∈gs→H' g=H g
theorem Fn.frame{P:Program}{f:FuncId}{args:Array Value}{H:Heap}{aY:Value→Heap→Prop}{gs:List Nat}(oW:∀g,g∈gs→H g≠none)(h:Fn P f args (rem H gs) aY):Fn P f args H (Co gs aY H):=by
 refine⟨h.ent,fun w hd=>(h.run w (hd.rem gs)).mono fun e w' ⟨v,he,K,hp,jr,hf⟩=>⟨v,he,fun g=>if g∈gs then H g else K g,?_,?_,?_⟩⟩
 ·have hk:∀g,g∈gs→K g=none:=fun g hg=>by
   cases hh:H g with
   | none=>exact absurd hh (oW g hg)
   | some e=>exact(hf.gU g (hd.lt hh) (rem_in hg)).2
  have e1:au.rem (fun g=>if g∈gs then H g else K g) gs=K:=by
   funext g
   by_cases hg:g∈gs
   ·rw[rem_in hg,hk g hg]
   ·rw[bK hg];simp[hg]
  exact⟨by rw[e1];exact hp,fun g hg=>by simp[hg]⟩
 ·intro g e hg
  by_cases hm:g∈gs
  ·simp only[hm,if_true]at hg
   obtain⟨o,h1,h2⟩:=hd g e hg
   exact⟨o,by rw[(hf.gU g (hd.lt hg) (rem_in hm)).1];exact h1,h2⟩
  ·simp only[hm,if_false]at hg
   exact jr g e hg
 ·refine⟨hf.os,hf.tape,hf.output,hf.size,fun g hg h0=> ?_,hf.form⟩
  have hm:¬g∈gs:=fun hm=>oW g hm h0
  have h1:=hf.gU g hg (by rw[bK hm];exact h0)
  exact⟨h1.1,by simp only[hm,if_false];exact h1.2⟩
theorem Co.le{gs:List Nat}{aY:Value→Heap→Prop}{H H':Heap}{v:Value}(h:Co gs aY H v H')(hl:∀v K,aY v K→Heap.le (rem H gs) K):Heap.le H H':=fun g e hg=>by
 by_cases hm:g∈gs
 ·exact⟨e,by rw[h.same g hm];exact hg,.refl e⟩
 ·obtain⟨e',h1,h2⟩:=hl v _ h.post g e (by rw[bK hm];exact hg)
  rw[bK hm]at h1
  exact⟨e',h1,h2⟩
theorem App.rem{H H':Heap}{v v':Value}{e sz n:Nat}{xs:List Value}{gs:List Nat}(h:App H v e sz n xs v' H')(hg:∀g,g∈gs→H g≠none)(hv:∀g,g∈gs→v.ownBlock≠some g):
  App (au.rem H gs) v e sz n xs v' (au.rem H' gs)∧∀g,g∈gs→H' g=H g:=by
 have hs:∀g,g∈gs→H' g=H g:=fun g hm=>by
  cases hh:H g with
  | none=>exact absurd hh (hg g hm)
  | some ent=>exact h.same g ent hh (hv g hm)
 have vu:∀g,v'.ownBlock=some g→¬g∈gs:=fun g h1 hm=>by
  rcases h.at_ with h2 | ⟨g',h2,h3⟩
  ·exact hv g hm (h2▸h1)
  ·rw[h2]at h1
   cases h1
   exact hg _ hm h3
 refine⟨⟨h.own.same fun g h1=>bK (vu g h1),KG gs h.le,fun k ent hk a4=> ?_,?_⟩,hs⟩
 ·by_cases hm:k∈gs
  ·rw[rem_in hm]at hk;cases hk
  ·rw[bK hm]at hk⊢;exact h.same k ent hk a4
 ·rcases h.at_ with h2 | ⟨g',h2,h3⟩
  ·exact .inl h2
  ·refine .inr ⟨g',h2,?_⟩
   rw[bK (vu g' h2)];exact h3
section
variable {P:Program} {n:Nat} {tb:Tb} {all:Array Oper} {s:St} {H:Heap} {md:Mode} {K:St→Heap→Prop} {r:List Oper} {dst:Option Nat} {ty:TypeId} {pos:String} {after:Array Edge} {gd:Option (Nat×Bool)}
theorem KI{f:Operand}{iZ:FuncId}{args:List Value}{xs:List Operand}{ts:Array TypeId}{aY:Value→Heap→Prop}(hf:ev s f=some (.func (.func iZ) #[] #[]))(hx:mL s xs=some args)
  (h:Fn P iZ args.toArray H aY) (hk:∀v H',aY v H'→aE P n all .oz r (aQ s dst (.val v)) H' K) (hg:bI all s gd=some true:=by rfl) (nb:Mode.oz.nb s dst=true:=by rfl):aE P n all .oz (⟨dst,.call ⟨.value f,xs.toArray,ts⟩,ty,pos,after,gd⟩::r) s H K:=
 .fj aY (.inl xH) nb (xG (cap:=[]) hf hx hg (by simpa using h)) trivial fun v H' hp _=>hk v H' hp
theorem KJ:∀(us:List Value)(A B:List Value)(p:Nat),(∀(i:Nat)(w:Value),A[i]? = some w→B[i]? = some w)→p+us.length≤A.length→∀(i:Nat)(w:Value),(aA A p us)[i]? = some w→(aA B p us)[i]? = some w:=by
 intro us
 induction us with
 | nil=>intro A B p h _ i w hw;exact h i w hw
 | cons x us ih=>
  intro A B p h hl i w hw
  simp only[List.length_cons]at hl
  refine ih (A.set p x) (B.set p x) (p+1) (fun i w hw=> ?_) (by simp;omega) i w hw
  by_cases e:i=p
  ·subst e
   have hA:i<A.length:=by omega
   have hB:i<B.length:=(List.getElem?_eq_some_iff.1 (h i _ (List.getElem?_eq_getElem hA))).1
   rw[List.getElem?_set_self hA]at hw
   rw[List.getElem?_set_self hB];exact hw
  ·rw[List.getElem?_set_ne (fun e'=>e e'.symm)]at hw⊢
   exact h i w hw
theorem l4{t:TypeId}{x y:Operand}{g o sz:Nat}{ent:aG}{v:Value}{vs:List Value}{ii:TypeInfo}(de:md = .plain∨md = .fC)(hx:ev s x=some (.pointer (some ⟨g,o,none⟩)))(hg:H g=some ent)(bS:ent.own=true)(eP:o+sz≤ent.xs.length)
  (sY:P.info? t=some ii) (bZ:ii.size=sz) (hy:ev s y=some v) (hv:v.cells=vs.toArray) (ig:vs.length=sz) (h1:vs.all sW=true)
  (hk:aE P n all md r s (ins H g {ent with xs:=aA ent.xs o vs}) K) (pS:bI all s gd=some true:=by rfl):aE P n all md (⟨none,.store t x y,ty,pos,after,gd⟩::r) s H K:=by
 refine .fj (fun _ H'=>H'=ins H g {ent with xs:=aA ent.xs o vs}) (.inr (.inl rfl)) (by rcases de with rfl | rfl <;> rfl) (fun a w ha hd=> ?_) (by rcases de with rfl | rfl <;> first | trivial | exact .inl rfl) fun _ H' hH _=>by rw[hH];exact hk
 refine⟨gy ha (iI (o:=⟨none,.store t x y,ty,pos,after,gd⟩) pS),?_⟩
 obtain⟨ob,h2,cur,fz,rfl,h3,h4,h5⟩:=hd g ent hg
 have mK:=h5 bS
 subst mK
 have xJ:cur=cur.toList.toArray:=by simp
 have hlen:ent.xs.length≤cur.toList.length:=by
  rcases Nat.eq_zero_or_pos ent.xs.length with h | h
  ·omega
  ·have hx:=h4 (ent.xs.length-1) _ (List.getElem?_eq_getElem (by omega))
   have:=(Array.getElem?_eq_some_iff.1 hx).1
   simp;omega
 rw[xJ]at h2
 obtain⟨w',h6,h7,h8,h9,fU,fo,sZ⟩:=BB (P:=P) vs cur.toList w o 0 h2 (fun u hu=>List.all_eq_true.1 h1 u hu) (by omega)
 have hex:(execOp a.eval ⟨none,.store t x y,ty,pos,after,gd⟩).run P w = .ok .skip w':=by
  simp[execOp,a7 ha hx,a7 ha hy,Instr.storeAt,Instr.sureAddr,storeVar,sizeOf,typeInfo,sY,bZ,hv,ig,h6]
 unfold iD
 rw[hex]
 refine⟨_,rfl,vq (o:= .cells (aA cur.toList (o+0) vs).toArray ent.elem (0,0)) hd h7 h8 h9 (by omega) (fun q _ hq=>fo q hq) sZ ⟨_,(0,0),rfl,?_,?_,fun _=>rfl⟩ (.inl ⟨_,hg,bS,bS,rfl,rfl⟩)⟩
 ·simp[xF,h3]
 ·intro q u hq
  have:=KJ vs ent.xs cur.toList o (fun i w hw=>by have:=h4 i w hw;simpa using this) (by omega) q u hq
  simpa using this
end
end Go.au
namespace Go.au
open Go.Proofs Num
def eM(xs:List Value)(i sz:Nat):List Value:=(xs.drop (i*sz)).take sz
theorem FK{xs:List Value}{i sz q:Nat}{v:Value}(h:(eM xs i sz)[q]? = some v):xs[i*sz+q]? = some v:=by
 unfold eM at h
 rw[List.getElem?_take]at h
 split at h
 ·rwa [List.getElem?_drop]at h
 ·cases h
theorem Tc{xs:List Value}{i sz n:Nat}(h:xs.length=n*sz)(hi:i<n):(eM xs i sz).length=sz:=by
 unfold eM
 rw[List.length_take,List.length_drop,h]
 have:(i+1)*sz≤n*sz:=Nat.mul_le_mul_right _ hi
 rw[Nat.add_mul]at this
 omega
theorem KK{xs ys:List Value}{i sz:Nat}(h:∀q,q<sz→xs[i*sz+q]? = ys[i*sz+q]?):eM xs i sz=eM ys i sz:=by
 apply List.ext_getElem?
 intro q
 unfold eM
 rw[List.getElem?_take,List.getElem?_take]
 split
 ·rename_i hq
  rw[List.getElem?_drop,List.getElem?_drop,h q hq]
 ·rfl
theorem KL{xs:List Value}{i:Nat}{v:Value}(h:xs[i]? = some v):eM xs i 1 = [v]:=by
 apply List.ext_getElem?
 intro q
 unfold eM
 rw[List.getElem?_take,Nat.mul_one]
 split
 ·rename_i hq
  obtain rfl:q=0:=by omega
  rw[List.getElem?_drop,Nat.add_zero,h];rfl
 ·rename_i hq
  rw[List.getElem?_eq_none (by simp;omega)]
structure bF{α:Type}(P:List Value→α→Prop)(sz:Nat)(xs:List Value)(l:List α):Prop where
 len:xs.length=l.length*sz
 at_:∀(i:Nat)(a:α),l[i]? = some a→P (eM xs i sz) a
section
variable {α β:Type} {P:List Value→α→Prop} {sz:Nat} {xs ys:List Value} {l k:List α}
theorem bF.mono{P':List Value→α→Prop}(h:bF P sz xs l)(hp:∀vs a,P vs a→P' vs a):bF P' sz xs l:=⟨h.len,fun i a ha=>hp _ _ (h.at_ i a ha)⟩
theorem bF.get(h:bF P sz xs l){i:Nat}{a:α}(ha:l[i]? = some a):∃vs,vs.length=sz∧P vs a∧∀(q:Nat)(v:Value),vs[q]? = some v→xs[i*sz+q]? = some v:=
 ⟨eM xs i sz,Tc h.len (List.getElem?_eq_some_iff.1 ha).1,h.at_ i a ha,fun _ _ hv=>FK hv⟩
theorem rz:bF P sz [] ([]:List α):=⟨by simp,fun i a h=>by simp at h⟩
theorem bF.append(h:bF P sz xs l)(h':bF P sz ys k):bF P sz (xs++ys) (l++k):=by
 refine⟨by rw[List.length_append,List.length_append,h.len,h'.len,Nat.add_mul],fun i a ha=> ?_⟩
 by_cases hi:i<l.length
 ·rw[List.getElem?_append_left hi]at ha
  have e:eM (xs++ys) i sz=eM xs i sz:=KK fun q hq=>by
   have:(i+1)*sz≤l.length*sz:=Nat.mul_le_mul_right _ hi
   rw[Nat.add_mul]at this
   rw[List.getElem?_append_left (by rw[h.len];omega)]
  rw[e];exact h.at_ i a ha
 ·rw[List.getElem?_append_right (by omega)]at ha
  have e:eM (xs++ys) i sz=eM ys (i-l.length) sz:=by
   unfold eM
   have e1:i*sz=xs.length+(i-l.length)*sz:=by
    rw[h.len,←Nat.add_mul];congr 1;omega
   rw[e1,List.drop_append,List.drop_eq_nil_of_le (by omega),List.nil_append]
   congr 2;omega
  rw[e];exact h'.at_ _ a ha
theorem p8{vs:List Value}{a:α}(h:P vs a)(hl:vs.length=sz):bF P sz vs [a]:=by
 refine⟨by simp[hl],fun i b hb=> ?_⟩
 cases i with
 | zero=>
  simp only[List.getElem?_cons_zero,Option.some.injEq]at hb
  subst hb
  unfold eM
  rw[Nat.zero_mul,List.drop_zero,List.take_of_length_le (by omega)];exact h
 | succ i=>simp at hb
theorem FL:∀(vs xs:List Value)(off i:Nat),off+vs.length≤xs.length→(aA xs off vs)[i]? = if off≤i∧i<off+vs.length then vs[i-off]? else xs[i]? :=by
 intro vs
 induction vs with
 | nil=>intro xs off i _;simp only[aA,List.length_nil,Nat.add_zero];rw[if_neg (by omega)]
 | cons v vs ih=>
  intro xs off i h
  simp only[List.length_cons]at h
  simp only[aA,List.length_cons]
  rw[ih _ _ _ (by simp;omega)]
  by_cases e:i=off
  ·subst e
   rw[if_neg (by omega),if_pos (by omega),Nat.sub_self,List.getElem?_set_self (by omega)];rfl
  ·by_cases e2:off+1≤i∧i<off+1+vs.length
   ·rw[if_pos e2,if_pos (by omega)]
    have:i-off=(i-(off+1))+1:=by omega
    rw[this];rfl
   ·rw[if_neg e2,if_neg (by omega),List.getElem?_set_ne (by omega)]
theorem bF.set(h:bF P sz xs l){i:Nat}(hi:i<l.length){vs:List Value}{a:α}(hp:P vs a)(hv:vs.length=sz):bF P sz (aA xs (i*sz) vs) (l.set i a):=by
 have eP:(i+1)*sz≤l.length*sz:=Nat.mul_le_mul_right _ hi
 rw[Nat.add_mul,Nat.one_mul]at eP
 have hle:i*sz+vs.length≤xs.length:=by rw[h.len,hv];exact eP
 refine⟨by rw[xF,List.length_set];exact h.len,fun j b hb=> ?_⟩
 by_cases e:j=i
 ·subst e
  rw[List.getElem?_set_self hi]at hb
  cases hb
  have e:eM (aA xs (j*sz) vs) j sz=vs:=by
   apply List.ext_getElem?
   intro q
   unfold eM
   rw[List.getElem?_take]
   split
   ·rename_i hq
    rw[List.getElem?_drop,FL _ _ _ _ hle,if_pos (by omega)]
    congr 1;omega
   ·rw[List.getElem?_eq_none (by omega)]
  rw[e];exact hp
 ·rw[List.getElem?_set_ne (fun e'=>e e'.symm)]at hb
  have e:eM (aA xs (i*sz) vs) j sz=eM xs j sz:=KK fun q hq=>by
   rw[FL _ _ _ _ hle,if_neg]
   intro⟨h1,h2⟩
   rw[hv]at h2
   rcases Nat.lt_or_gt_of_ne e with a8 | Kc
   ·have:(j+1)*sz≤i*sz:=Nat.mul_le_mul_right _ a8
    rw[Nat.add_mul]at this;omega
   ·have:(i+1)*sz≤j*sz:=Nat.mul_le_mul_right _ Kc
    rw[Nat.add_mul]at this;omega
  rw[e];exact h.at_ j b hb
theorem Td{zs:List Value}{a:α}(hz:zs.length=sz)(hp:P zs a)(n:Nat):bF P sz (dg zs (n*sz)) (List.replicate n a):=by
 refine⟨by rw[JD,List.length_replicate],fun i b hb=> ?_⟩
 rw[List.getElem?_replicate]at hb
 split at hb
 ·rename_i hi
  cases hb
  have e:eM (dg zs (n*sz)) i sz=zs:=by
   apply List.ext_getElem?
   intro q
   unfold eM
   rw[List.getElem?_take]
   split
   ·rename_i hq
    rw[List.getElem?_drop,List.getElem?_eq_getElem (by omega:q<zs.length)]
    exact QP hz hi (List.getElem?_eq_getElem (by omega))
   ·rw[List.getElem?_eq_none (by omega)]
  rw[e];exact hp
 ·cases hb
theorem bF.one(h:bF P 1 xs l){i:Nat}{a:α}(ha:l[i]? = some a):∃v,xs[i]? = some v∧P [v] a:=by
 have a8:=(List.getElem?_eq_some_iff.1 ha).1
 have hi:i<xs.length:=by rw[h.len];omega
 refine⟨xs[i],List.getElem?_eq_getElem hi,?_⟩
 have:=h.at_ i a ha
 rwa [KL (List.getElem?_eq_getElem hi)]at this
end
def aM{α:Type}(P:Heap→List Value→α→Prop)(sz:Nat)(H:Heap)(v:Value)(l:List α):Prop:=∃A c xs,v = .slice A l.length c∧l.length≤c∧Rd H A xs∧bF (P H) sz xs l
def Up{α:Type}(P:Heap→List Value→α→Prop):Prop:=∀H H' vs a,Heap.le H H'→P H vs a→P H' vs a
section
variable {α:Type} {P:Heap→List Value→α→Prop} {sz:Nat} {H H':Heap} {v:Value} {l:List α}
theorem aM.le(h:aM P sz H v l)(up:Up P)(hl:Heap.le H H'):aM P sz H' v l:=by
 obtain⟨A,c,xs,h1,h2,h3,h4⟩:=h
 exact⟨A,c,xs,h1,h2,h3.le hl,h4.mono fun vs a=>up H H' vs a hl⟩
def FM{α:Type}(P:Heap→List Value→α→Prop)(e sz:Nat)(H:Heap)(v:Value)(l:List α):Prop:=∃xs,bm H v e sz l.length xs∧bF (P H) sz xs l
theorem FM.sl{e:Nat}(h:FM P e sz H v l):aM P sz H v l:=by
 obtain⟨xs,h1,h2⟩:=h
 obtain⟨A,c,rfl⟩:=h1.form
 refine⟨A,c,xs,rfl,?_,h1.rd,h2⟩
 rcases h1.2 with ⟨k1,k2⟩ | ⟨g,cap,k1,_,k3,_⟩
 ·omega
 ·cases k1;exact k3
end
def aT(H:Heap)(vs:List Value)(q:Rat):Prop:=
 ∃(n d:Int)(b:Option Addr),vs = [.int .i64 n,.int .i64 d,.pointer b]∧
  ((b=none∧n=q.num∧d=q.den∧-9223372036854775807≤n∧n≤9223372036854775807∧d≤9223372036854775807)∨
   ∃ad f u w,b=some ad∧du H (.agg #[.bool f,u,w]) q∧cell H ad=some (.bool f)∧cell H (ad.add 1)=some u∧cell H (ad.add 2)=some w)
theorem aT.up:Up aT:=fun H H' vs q hl h=>by
 obtain⟨n,d,b,h1,h2⟩:=h
 refine⟨n,d,b,h1,?_⟩
 rcases h2 with h2 | ⟨ad,f,u,w,h2,h3,h4,h5,h6⟩
 ·exact .inl h2
 ·exact .inr ⟨ad,f,u,w,h2,h3.le hl,cg hl h4,cg hl h5,cg hl h6⟩
theorem aT.le{H H':Heap}{vs:List Value}{q:Rat}(h:aT H vs q)(hl:Heap.le H H'):aT H' vs q:=aT.up H H' vs q hl h
theorem aT.len{H:Heap}{vs:List Value}{q:Rat}(h:aT H vs q):vs.length=3:=by
 obtain⟨n,d,b,rfl,_⟩:=h;rfl
def mV(H:Heap)(q:Rat)(v:Value)(H':Heap):Prop:=Heap.le H H'∧∃vs,v = .agg vs.toArray∧aT H' vs q
theorem mV.le{H:Heap}{q:Rat}{v:Value}{H':Heap}(h:mV H q v H'):Heap.le H H':=h.1
theorem KM(q:Rat):eE q=if q.num.natAbs=0 then 0 else if decide (q.num<0)then -1 else 1:=by
 have:=B0 (f:=decide (q.num<0)) (n:=q.num.natAbs) (d:=q.den) (Nat.pos_of_ne_zero q.den_nz)
 rwa [tq]at this
theorem FN{q:Rat}{k:Nat}:aC q≤k↔q.num.natAbs<B^k∧q.den<B^k:=by
 unfold aC
 rw[Nat.max_le,fW,fW]
theorem KN{q:Rat}{n:Int}{d k:Nat}(hd:0<d)(h:q=mkRat n d)(h1:n.natAbs<B^k)(h2:d<B^k):aC q≤k:=by
 obtain⟨m,hm,h3,h4⟩:=Rat.mkRat_num_den (n:=n) (d:=d) (by omega) (n':=q.num) (d':=q.den) (z':=q.den_nz) (c:=q.reduced) h.symm
 rw[FN]
 refine⟨?_,?_⟩
 ·rw[h3,Int.natAbs_mul,Int.natAbs_natCast]at h1
  exact Nat.lt_of_le_of_lt (Nat.le_mul_of_pos_right _ (by omega)) h1
 ·rw[h4]at h2
  exact Nat.lt_of_le_of_lt (Nat.le_mul_of_pos_right _ (by omega)) h2
theorem Cp(q:Rat):q.num.natAbs<B^aC q∧q.den<B^aC q:=FN.1 (Nat.le_refl _)
theorem vT(q:Rat):aC (-q)=aC q:=by unfold aC;rw[Rat.neg_num,Int.natAbs_neg,Rat.neg_den]
theorem nN(p q:Rat):aC (p*q)≤aC p+aC q:=by
 have h1:=Cp p
 have h2:=Cp q
 refine KN (n:=p.num*q.num) (d:=p.den*q.den) (Nat.mul_pos (Nat.pos_of_ne_zero p.den_nz) (Nat.pos_of_ne_zero q.den_nz)) ?_ ?_ ?_
 ·rw[←Rat.mkRat_mul_mkRat,Rat.mkRat_self,Rat.mkRat_self]
 ·rw[Int.natAbs_mul,Nat.pow_add];exact Nat.mul_lt_mul'' h1.1 h2.1
 ·rw[Nat.pow_add];exact Nat.mul_lt_mul'' h1.2 h2.2
theorem FO(p q:Rat):aC (p+q)≤aC p+aC q+1:=by
 have h1:=Cp p
 have h2:=Cp q
 have hp:=Nat.pos_of_ne_zero p.den_nz
 have hq:=Nat.pos_of_ne_zero q.den_nz
 have hB:2*(B^aC p*B^aC q)≤B^(aC p+aC q+1):=by
  rw[Nat.pow_succ,Nat.pow_add,Nat.mul_comm 2];exact Nat.mul_le_mul_left _ (by decide)
 refine KN (n:=p.num*q.den+q.num*p.den) (d:=p.den*q.den) (Nat.mul_pos hp hq) ?_ ?_ ?_
 ·rw[Rat.add_def']
 ·have h3:(p.num*q.den+q.num*p.den).natAbs≤p.num.natAbs*q.den+q.num.natAbs*p.den:=by
   have:=Int.natAbs_add_le (p.num*q.den) (q.num*p.den)
   rwa [Int.natAbs_mul,Int.natAbs_mul,Int.natAbs_natCast,Int.natAbs_natCast]at this
  have h4:=Nat.mul_lt_mul'' h1.1 h2.2
  have h5:=Nat.mul_lt_mul'' h2.1 h1.2
  rw[Nat.mul_comm (B^aC q)]at h5
  omega
 ·have h4:=Nat.mul_lt_mul'' h1.2 h2.2
  omega
theorem l5(p q:Rat):aC (p-q)≤aC p+aC q+1:=by
 rw[Rat.sub_eq_add_neg]
 have:=FO p (-q)
 rwa [vT]at this
end Go.au
