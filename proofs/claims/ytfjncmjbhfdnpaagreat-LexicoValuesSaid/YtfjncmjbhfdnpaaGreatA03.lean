/- Part 3 of the proof: Nat9, Nat10, Nat11, Q, RDat, Rat1, Rat2, Rat3, Eng12, SDat. -/
import Derived.Test.YtfjncmjbhfdnpaaGreatA02
set_option linter.unusedVariables false
namespace Go.aw
open Go.Proofs Num
theorem Dw(H:Heap)(g:Nat)(lo w hi:List Nat)(N:Nat):Rd (ins H g (dH (lo++w++hi) N)) (some ⟨g,lo.length,none⟩) (U w):=fun i v hv=>by
 refine⟨_,rfl,?_⟩
 have bL:i<(U w).length:=(List.getElem?_eq_some_iff.1 hv).1
 have e:(⟨g,lo.length,none⟩:Addr).add i=⟨g,lo.length+i,none⟩:=by
  unfold Addr.add;split
  ·rename_i e0;rw[e0,Nat.add_zero]
  ·rfl
 rw[e]
 simp only[cell,bF,dH]
 rw[KE,KE,List.append_assoc,List.getElem?_append_right (by rw[AW];omega),AW,Nat.add_sub_cancel_left,List.getElem?_append_left bL]
 exact hv
theorem KN{H:Heap}{g N k:Nat}{lo w hi:List Nat}{a:Int}{y:Nat}(h:a=y)(hk:k<w.length):ins (ins H g (dH (lo++w++hi) N)) g {dH (lo++w++hi) N with xs:=aM (dH (lo++w++hi) N).xs (lo.length+k*1) [.int .u32 a]}=ins H g (dH (lo++w.set k y++hi) N):=by
 subst h
 rw[qB]
 simp only[dH,aM,Nat.mul_one]
 congr 2
 rw[OS]
 congr 1
 rw[List.append_assoc,List.set_append_right _ _ (by omega),Nat.add_sub_cancel_left,List.set_append_left _ _ hk,List.append_assoc]
theorem OW{a b:List Nat}{i:Nat}(h:a.drop i=b.drop i):a[i]? = b[i]? :=by
 have:=congrArg (·[0]?) h
 simpa using this
theorem drop_set{a b:List Nat}{i y:Nat}(h:a.drop i=b.drop i):(a.set i y).drop (i+1)=b.drop (i+1):=by
 rw[List.drop_set_of_lt (Nat.lt_succ_self _)]
 have:=congrArg (List.drop 1) h
 simpa [List.drop_drop]using this
theorem aeH{H:Heap}{g N:Nat}{lo w hi b:List Nat}{c c' top:Nat}{A':Option Addr}(hg:H g=none)(hr:Rd H A' (U b))(p9:w.length=b.length+1)(bU:2≤b.length)(Az:(b.length:Int)≤8796093022208)(yT:Lt w)(eF:Lt b)(Du:b[b.length-1]? = some top)(OX:0<top)(hq:val w<B*val b):
 Fn Tryz.prog 225 #[.slice (some ⟨g,lo.length,none⟩) (b.length+1) c,.slice A' b.length c'] (ins H g (dH (lo++w++hi) N)) (fun v H'=>∃w',H'=ins H g (dH (lo++w'++hi) N)∧w'.length=w.length∧Lt w'∧val w'=val w%val b∧v = .int .u32 ((val w/val b:Nat):Int)):=by
 obtain⟨k,hk⟩:∃k,b.length=k+2:=⟨b.length-2,by omega⟩
 have fY:=fun e=>hr.le (Heap.bC (g:=g) e hg)
 have vf:((b.length:Int)-1).toNat=k+1:=by omega
 have wB:((b.length:Int)-2).toNat=k:=by omega
 rw[show b.length-1=k+1 by omega]at Du
 obtain⟨next,Gn⟩:∃x,b[k]? = some x:=⟨_,List.getElem?_eq_getElem (by omega)⟩
 obtain⟨u2,fR⟩:∃x,w[k]? = some x:=⟨_,List.getElem?_eq_getElem (by omega)⟩
 obtain⟨u1,eO⟩:∃x,w[k+1]? = some x:=⟨_,List.getElem?_eq_getElem (by omega)⟩
 obtain⟨un,qa⟩:∃x,w[b.length]? = some x:=⟨_,List.getElem?_eq_getElem (by omega)⟩
 have OY:=eF.get Du
 have VU:=eF.get Gn
 have aeI:=yT.get fR
 have aeJ:=yT.get eO
 have aeK:=yT.get qa
 have hV:=aeB hk Gn Du
 have hW:=aeA (by omega) fR eO (by rw[←hk];exact qa)
 have ig:=Dv eF (k:=k) (by omega)
 have aeL:=Dv yT (k:=k) (by omega)
 have aeM:=aex hV hW ig VU hq
 have aeN:=uY eF
 have vg:0<val b:=by
  rcases Nat.eq_zero_or_pos (val b)with e | e
  ·rw[e,Nat.mul_zero]at hq;omega
  ·exact e
 have vh:val w/val b<B:=Nat.div_lt_of_lt_mul (by rwa [Nat.mul_comm]at hq)
 obtain⟨q,Be⟩:∃q,q=val w/val b:=⟨_,rfl⟩
 rw[←Be]at vh⊢
 have VV:val w=val (w.take b.length)+B^b.length*un:=by rw[←kY qa,List.take_of_length_le (by omega)]
 have hB:=cn
 rw[cn]at OY VU aeI aeJ aeK;refine aZ (args:=[_,_]) Tryz.func225 rfl rfl Tryz.ntmps225 rfl rfl fun w0=> ?_;refine aj [0,1] rfl ?_;refine ag (ab 1 rfl (ae [0,1] ?_));refine ag (ab 3 rfl (ae [0,1,5] ?_));refine bP .bJ [0,1,2,3,4,5,6,7,8,9,10,11,12,13] follows (by kernel_rfl) ?_;refine ab 2 rfl (cY rfl rfl ⟨by omega,by omega⟩ (aS ah rfl rfl rfl rfl rfl (fY _) (by rw[vf];exact du Du) (by omega) (by omega) fun _=> ?_));refine dg ah rfl rfl rfl ⟨by omega,by omega⟩ (ab 2 rfl (cY rfl rfl ⟨by omega,by omega⟩ (aS ah rfl rfl rfl rfl rfl (fY _) (by rw[wB];exact du Gn) (by omega) (by omega) fun _=> ?_)));refine dg ah rfl rfl rfl ⟨by omega,by omega⟩ (ab 2 rfl (ae [0,1,5,6,7] ?_));refine bP .bJ [0,1,2,3,4,5,6,7,8,9,10,11,12,13] follows (by kernel_rfl) ?_;refine ab 2 rfl (aS ah rfl rfl rfl rfl rfl (Dw _ _ _ _ _ _) (du qa) (by omega) (by omega) fun _=>(dg ah rfl rfl rfl ⟨by omega,by omega⟩ (gW rfl rfl ⟨by omega,by omega⟩ (ab 2 rfl (cY rfl rfl ⟨by omega,by omega⟩ (aS ah rfl rfl rfl rfl rfl (Dw _ _ _ _ _ _) (by rw[vf];exact du eO) (by omega) (by omega) fun _=> ?_))))))
 refine dg ah rfl rfl rfl ⟨by omega,by omega⟩ (aH rfl rfl ⟨by omega,by omega⟩ (ab 1 rfl (ae [0,1,5,6,7,8] ?_)));have oP:0≤((un:Int)*1000000000+(u1:Int))/(top:Int):=Int.ediv_nonneg (by omega) (by omega);have o0:((un:Int)*1000000000+(u1:Int))/(top:Int)≤(un:Int)*1000000000+(u1:Int):=Int.ediv_le_self _ (by omega);refine bP .bJ [0,1,2,3,4,5,6,7] follows (by kernel_rfl) ?_;refine ab 2 rfl (l0 rfl rfl (by omega) (by omega) ⟨by omega,by omega⟩ (ab 2 rfl (nh rfl rfl (by omega) (by omega) (ab 2 rfl (ae [0,1,5,6,7,9,10] ?_)))));refine kI (fun(bH:Nat)=>put (put (put (put (emp) 0 (.val (.slice (some ⟨g,lo.length,none⟩) (b.length+1) c))) 1 (.val (.slice A' b.length c'))) 5 (.val (.int .i64 (b.length:Int)))) 9 (.val (.int .u64 (bH:Int)))) (fun(bH:Nat) H'=>H'=ins H g (dH (lo++w++hi) N)∧q≤bH∧bH≤q+1∧bH<1000000000) ?_ ?_
 ·
  refine aG ?_
  refine ij (fun(bH:Nat)(rest:Nat)=>bH) (fun(bH:Nat)(rest:Nat)=>put (put (put (put (put (put (put (emp) 0 (.val (.slice (some ⟨g,lo.length,none⟩) (b.length+1) c))) 1 (.val (.slice A' b.length c'))) 5 (.val (.int .i64 (b.length:Int)))) 6 (.val (.int .u64 (top:Int)))) 7 (.val (.int .u64 (next:Int)))) 9 (.val (.int .u64 (bH:Int)))) 10 (.val (.int .u64 (rest:Int)))) (fun(bH:Nat)(rest:Nat) H'=>H'=ins H g (dH (lo++w++hi) N)∧bH*top+rest=un*B+u1∧q≤bH∧bH≤un*1000000000+u1∧rest≤2000000000) ((un*1000000000+u1)/top) ((un*1000000000+u1)%top) (⟨rfl,by rw[cn,Nat.mul_comm];exact Nat.div_add_mod _ _,by
   have h1:=Nat.div_add_mod (un*B+u1) top;have h2:=Nat.mod_lt (un*B+u1) OX
   have h3:val w<((un*B+u1)/top+1)*val b:=by
    have e1:B^k*(B*(un*B+u1))+B^k*B≤B^k*(B*(((un*B+u1)/top+1)*top)):=by
     rw[←Nat.mul_add];refine Nat.mul_le_mul_left _ ?_;rw[←Nat.mul_succ];refine Nat.mul_le_mul_left _ ?_;rw[Nat.add_mul,Nat.one_mul,Nat.mul_comm _ top];omega
    have e2:((un*B+u1)/top+1)*(B^k*(B*top))≤((un*B+u1)/top+1)*val b:=Nat.mul_le_mul_left _ (by rw[hV,Nat.mul_add (B^k)];omega)
    have e3:((un*B+u1)/top+1)*(B^k*(B*top))=B^k*(B*(((un*B+u1)/top+1)*top)):=by rw[Nat.mul_left_comm _ (B^k),Nat.mul_left_comm _ B]
    have e4:val w<B^k*(B*(un*B+u1))+B^k*B:=by
     have:B^k*(u2+1)≤B^k*B:=Nat.mul_le_mul_left _ (by omega);rw[hW,Nat.mul_add (B^k)];rw[Nat.mul_add (B^k)]at this;omega
    omega
   have h4:=OU Be h3
   rw[cn]at h4;omega,Nat.div_le_self _ _,by have:=Nat.mod_lt (un*1000000000+u1) OX;omega⟩) au ?_
  rintro bH rest H1 ⟨rfl,eu,Gr,hgu,yS⟩;refine aq ?_
  by_cases hrB:rest<1000000000
  by_cases KM:bH<1000000000
  ·
   skip
   refine ag (ab 1 rfl (aJ true rfl rfl (jS (by omega)) (ab 2 rfl (aJ false rfl rfl (AV (by omega)) (vr 3 ?_)))));have KO:bH*next≤999999999*999999999:=Nat.mul_le_mul (by omega) (by omega)
   have amm:(bH:Int)*(next:Int)=((bH*next:Nat):Int):=by simp
   refine gW rfl rfl ⟨by omega,by omega⟩ (ab 1 rfl (gW rfl rfl ⟨by omega,by omega⟩ (ab 2 rfl (cY rfl rfl ⟨by omega,by omega⟩ (aS ah rfl rfl rfl rfl rfl (Dw _ _ _ _ _ _) (by rw[wB];exact du fR) (by omega) (by omega) fun _=> ?_)))));refine dg ah rfl rfl rfl ⟨by omega,by omega⟩ (aH rfl rfl ⟨by omega,by omega⟩ (ab 3 rfl (ae [0,1,5,6,7,9,10,71] ?_)));refine aD rfl (fun hb=> ?_) (fun hb=> ?_)
   ·
    have hb:rest*1000000000+u2<bH*next:=by simp at hb;omega
    have VW:=OU Be (aev hV hW aeL eu (by rw[cn];omega));refine aA (aj [0,1,5,6,7,9,10] rfl ?_);refine aG (ag (ab 1 rfl (cY rfl rfl ⟨by omega,by omega⟩ (ab 1 rfl (ae [0,1,5,6,7,9,10] ?_)))));refine aC rfl (ab 2 rfl (aH rfl rfl ⟨by omega,by omega⟩ (ab 1 rfl (az ?_))));exact⟨bH-1,rest+top,by omega,au,rfl,VS eu (by omega),by omega,by omega,by omega⟩
   have hb:bH*next≤rest*1000000000+u2:=by simp at hb;omega
   refine aW ?_;exact⟨bH,au,rfl,Gr,aez Be vg (aew hV hW ig OX eu (by rw[cn];omega) (by omega)),KM⟩
  ·
   skip
   refine ag (ab 1 rfl (aJ true rfl rfl (jS (by omega)) (ab 2 rfl (aJ true rfl rfl (rS (by omega)) (ab 16 rfl (ae [0,1,5,6,7,9,10,71] ?_))))));refine dJ rfl (aA (aj [0,1,5,6,7,9,10] rfl ?_));refine aG (ag (ab 1 rfl (cY rfl rfl ⟨by omega,by omega⟩ (ab 1 rfl (ae [0,1,5,6,7,9,10] ?_)))));refine aC rfl (ab 2 rfl (aH rfl rfl ⟨by omega,by omega⟩ (ab 1 rfl (az ?_))));exact⟨bH-1,rest+top,by omega,au,rfl,VS eu (by omega),by omega,by omega,by omega⟩
  ·
   skip
   refine ag (ab 1 rfl (aJ false rfl rfl (iC (by omega)) (ab 19 rfl (ae [0,1,5,6,7,9,10,71] ?_))));refine dR rfl (aW ?_);have tv:=aey hV hW ig (by omega) aeM eu (by omega);exact⟨bH,au,rfl,Gr,by have:=(Nat.le_div_iff_mul_le vg).2 tv.2;rw[←Be]at this;omega,by omega⟩
 ·
  rintro bH H2 ⟨rfl,cC,bO,KM⟩;refine ag (ab 1 rfl (ae [0,1,5,9,11] ?_));refine aq (ag (ab 2 rfl (ae [0,1,5,9,11,77,78] ?_)));refine aG (fG (fun(i:Nat)(w1:List Nat)(br:Nat)=>b.length-i) (fun(i:Nat)(w1:List Nat)(br:Nat)=>put (put (put (put (put (put (put (emp) 0 (.val (.slice (some ⟨g,lo.length,none⟩) (b.length+1) c))) 1 (.val (.slice A' b.length c'))) 5 (.val (.int .i64 (b.length:Int)))) 9 (.val (.int .u64 (bH:Int)))) 11 (.val (.int .i64 (br:Int)))) 77 (.val (.int .i64 (b.length:Int)))) 78 (.val (.int .i64 (i:Int)))) (fun(i:Nat)(w1:List Nat)(br:Nat) H'=>H'=ins H g (dH (lo++w1++hi) N)∧i≤b.length∧w1.length=w.length∧Lt w1∧w1.drop i=w.drop i∧br≤1000000000∧val (w.take i)+B^i*br=val (w1.take i)+bH*val (b.take i)) 0 w 0 (⟨rfl,by omega,rfl,yT,rfl,by omega,by simp[val]⟩) au ?_);rintro i w1 br H1 ⟨rfl,OZ,KP,Gs,lj,vc,hv⟩;refine ag (ab 1 rfl (ae [0,1,5,9,11,77,78,79] ?_));refine aq (aD rfl (fun hb=> ?_) (fun hb=> ?_))
  ·
   have hb:i<b.length:=by simpa using hb
   obtain⟨d,hd⟩:∃d,w[i]? = some d:=⟨_,List.getElem?_eq_getElem (by omega)⟩;obtain⟨p,hp⟩:∃p,b[i]? = some p:=⟨_,List.getElem?_eq_getElem (by omega)⟩;have l4:=yT.get hd;have yP:=eF.get hp;rw[cn]at l4 yP
   have fh:w1[i]? = some d:=by rw[OW lj];exact hd
   have hgp:bH*p≤999999999*999999999:=Nat.mul_le_mul (by omega) (by omega)
   have amn:(bH:Int)*(p:Int)=((bH*p:Nat):Int):=by simp
   refine aA (aj [0,1,5,9,11,77,78] rfl ?_);refine aq (aG (ag (ab 2 rfl (ae [0,1,5,9,11,12,77,78] ?_))));refine bP .bJ [0,1,2,3,4,5,6,7,8,9,10,11,12,13,14,15,16,17] follows (by kernel_rfl) ?_;refine ab 2 rfl (aS ah rfl rfl rfl rfl rfl (Dw _ _ _ _ _ _) (du fh) (by omega) (by omega) fun _=>(dg ah rfl rfl rfl ⟨by omega,by omega⟩ (ab 1 rfl (cY rfl rfl ⟨by omega,by omega⟩ (ab 3 rfl (aS ah rfl rfl rfl rfl rfl (fY _) (du hp) (by omega) (by omega) fun _=>(dg ah rfl rfl rfl ⟨by omega,by omega⟩ (gW rfl rfl ⟨by omega,by omega⟩ (nh rfl rfl (by omega) (by omega) (dg ah rfl rfl rfl ⟨by omega,by omega⟩ (cY rfl rfl ⟨by omega,by omega⟩ (ab 1 rfl (ae [0,1,5,9,12,13,77,78] ?_)))))))))))));refine ag (ab 3 rfl (aS ah rfl rfl rfl rfl rfl (fY _) (du hp) (by omega) (by omega) fun _=>(dg ah rfl rfl rfl ⟨by omega,by omega⟩ (gW rfl rfl ⟨by omega,by omega⟩ (l0 rfl rfl (by omega) (by omega) ⟨by omega,by omega⟩ (dg ah rfl rfl rfl ⟨by omega,by omega⟩ (ab 1 rfl (ae [0,1,5,9,11,12,13,77,78] ?_))))))));refine aq ?_
   refine aG (gK (fun(t:Nat)=>3-t) (fun(t:Nat)=>put (put (put (put (put (put (put (put (put (emp) 0 (.val (.slice (some ⟨g,lo.length,none⟩) (b.length+1) c))) 1 (.val (.slice A' b.length c'))) 5 (.val (.int .i64 (b.length:Int)))) 9 (.val (.int .u64 (bH:Int)))) 11 (.val (.int .i64 ((bH*p/1000000000+t:Nat):Int)))) 12 (.val (.int .i64 (i:Int)))) 13 (.val (.int .i64 ((d:Int)-br-((bH*p%1000000000:Nat):Int)+t*1000000000)))) 77 (.val (.int .i64 (b.length:Int)))) 78 (.val (.int .i64 (i:Int)))) (fun(t:Nat) H'=>H'=ins H g (dH (lo++w1++hi) N)∧t≤2∧(d:Int)-br-((bH*p%1000000000:Nat):Int)+t*1000000000<1000000000) 0 (⟨rfl,by omega,by omega⟩) au ?_);rintro t H1 ⟨rfl,ht,hsB⟩;refine aq (ag (ab 2 rfl (ae [0,1,5,9,11,12,13,77,78,108] ?_)));refine aD rfl (fun hb=> ?_) (fun hb=> ?_)
   ·
    simp at hb
    refine aA (aj [0,1,5,9,11,12,13,77,78] rfl ?_);refine aG (ag (ab 1 rfl (aH rfl rfl ⟨by omega,by omega⟩ (ab 1 rfl (ae [0,1,5,9,11,12,13,77,78] ?_)))));refine aC rfl (ab 1 rfl (aH rfl rfl ⟨by omega,by omega⟩ (ab 1 rfl (az ?_))));exact⟨t+1,by omega,au,rfl,by omega,by omega⟩
   simp at hb
   refine aW (aj [0,1,5,9,11,12,13,77,78] rfl ?_);refine aC rfl (ab 3 rfl (dg ah rfl rfl rfl ⟨by omega,by omega⟩ ?_));obtain⟨ti,ak,al⟩:=oW;refine cV (.inl rfl) ah rfl rfl rfl (by omega) (by omega) (bF _ _ _) rfl (by rw[oY];simp;omega) ak al (fun _=>rfl) rfl rfl rfl fun _=> ?_;refine az (aj [0,1,5,9,11,77,78] rfl ?_);refine aC rfl (aH rfl rfl ⟨by omega,by omega⟩ (ab 1 rfl (az ?_)));obtain⟨y,hy⟩:∃y:Nat,(y:Int)=(d:Int)-br-((bH*p%1000000000:Nat):Int)+t*1000000000:=⟨((d:Int)-br-((bH*p%1000000000:Nat):Int)+t*1000000000).toNat,by omega⟩;have dS:=Gh (o:=w1.take i) (s:=y) (br':=bH*p/1000000000+t) (d:=d) (e:=bH*p) (ta':=val (w.take (i+1))) (tb':=bH*val (b.take (i+1))) (by simp;omega) hv (by rw[cn];omega) (kY hd) (by rw[kY hp,Nat.mul_add,Nat.mul_left_comm]);rw[←yR (by omega)]at dS;exact⟨i+1,w1.set i y,bH*p/1000000000+t,by omega,au,by rw[KN (y:=y) hy.symm (by rw[Int.toNat_natCast];omega)];rfl,by omega,by simp[KP],Gs.set (by rw[cn];omega),drop_set lj,by omega,dS⟩
  have hb:b.length≤i:=by simpa using hb
  obtain rfl:i=b.length:=by omega
  rw[List.take_length]at hv
  have gM:w1[b.length]? = some un:=by rw[OW lj];exact qa
  refine aW (aj [0,1,5,9,11] rfl ?_);refine ag (ab 2 rfl (aS ah rfl rfl rfl rfl rfl (Dw _ _ _ _ _ _) (du gM) (by omega) (by omega) fun _=>(dg ah rfl rfl rfl ⟨by omega,by omega⟩ (ab 1 rfl (cY rfl rfl ⟨by omega,by omega⟩ (ab 1 rfl (ae [0,1,5,9,14] ?_)))))));refine aq (ag (ab 2 rfl (ae [0,1,5,9,14,127] ?_)));refine aD rfl (fun hb=> ?_) (fun hb=> ?_)
  ·
   have hb:br≤un:=by simp at hb;omega
   obtain⟨jg,j0⟩:=aeC VV hv hb Be cC vg;refine ag (ab 3 rfl (dg ah rfl rfl rfl ⟨by omega,by omega⟩ ?_));obtain⟨ti,ak,al⟩:=oW;refine cV (.inl rfl) ah rfl rfl rfl (by omega) (by omega) (bF _ _ _) rfl (by rw[oY];simp;omega) ak al (fun _=>rfl) rfl rfl rfl fun _=> ?_;refine ae [9] ?_;refine ag (ab 1 rfl (dg ah rfl rfl rfl ⟨by omega,by omega⟩ (ab 1 rfl (ae [4] ?_))));refine aE ⟨.inr rfl,_,.tmp rfl (.nil),?_⟩;refine⟨w1.set b.length (un-br),by rw[KN (y:=un-br) (by omega) (by rw[Int.toNat_natCast];omega)];rfl,by simp[KP],Gs.set (by rw[cn];omega),?_,by rw[←jg];rfl⟩;rw[←j0,←List.take_length (l:=w1.set b.length (un-br)),List.length_set,KP,p9,yR (by omega),rQ,List.length_take,Nat.min_eq_left (by omega)]
  have hb:un<br:=by simp at hb;omega
  refine aA (aj [0,1,5,9,14] rfl ?_);refine ag (ab 1 rfl (ae [0,1,5,9,14,15] ?_));refine aq (ag (ab 2 rfl (ae [0,1,5,9,14,15,135,136] ?_)));refine aG (fG (fun(i:Nat)(w2:List Nat)(cr:Nat)=>b.length-i) (fun(i:Nat)(w2:List Nat)(cr:Nat)=>put (put (put (put (put (put (put (put (emp) 0 (.val (.slice (some ⟨g,lo.length,none⟩) (b.length+1) c))) 1 (.val (.slice A' b.length c'))) 5 (.val (.int .i64 (b.length:Int)))) 9 (.val (.int .u64 (bH:Int)))) 14 (.val (.int .i64 ((un:Int)-br)))) 15 (.val (.int .u32 (cr:Int)))) 135 (.val (.int .i64 (b.length:Int)))) 136 (.val (.int .i64 (i:Int)))) (fun(i:Nat)(w2:List Nat)(cr:Nat) H'=>H'=ins H g (dH (lo++w2++hi) N)∧i≤b.length∧w2.length=w.length∧Lt w2∧w2.drop i=w1.drop i∧cr≤1∧val (w2.take i)+B^i*cr=val (w1.take i)+val (b.take i)) 0 w1 0 (⟨rfl,by omega,KP,Gs,rfl,by omega,by simp[val]⟩) au ?_);rintro i w2 cr H1 ⟨rfl,amo,O0,O1,VX,iM,dI⟩;refine ag (ab 1 rfl (ae [0,1,5,9,14,15,135,136,137] ?_));refine aq (aD rfl (fun hb=> ?_) (fun hb=> ?_))
  ·
   have hb:i<b.length:=by simpa using hb
   obtain⟨d,hd⟩:∃d,w1[i]? = some d:=⟨_,List.getElem?_eq_getElem (by omega)⟩;obtain⟨p,hp⟩:∃p,b[i]? = some p:=⟨_,List.getElem?_eq_getElem (by omega)⟩;have l4:=Gs.get hd;have yP:=eF.get hp;rw[cn]at l4 yP
   have ks:w2[i]? = some d:=by rw[OW VX];exact hd
   refine aA (aj [0,1,5,9,14,15,135,136] rfl ?_);refine aq (aG (ag (ab 2 rfl (ae [0,1,5,9,14,15,16,135,136] ?_))));refine bP .bJ [0,1,2,3,4,5,6,7,8,9,10,11] follows (by kernel_rfl) ?_;refine ab 2 rfl (aS ah rfl rfl rfl rfl rfl (Dw _ _ _ _ _ _) (du ks) (by omega) (by omega) fun _=>(ab 2 rfl (aS ah rfl rfl rfl rfl rfl (fY _) (du hp) (by omega) (by omega) fun _=>(aH rfl rfl ⟨by omega,by omega⟩ (ab 1 rfl (aH rfl rfl ⟨by omega,by omega⟩ (ab 1 rfl (ae [0,1,5,9,14,16,17,135,136] ?_))))))));refine ag (ab 1 rfl (l0 rfl rfl (by omega) (by omega) ⟨by omega,by omega⟩ (ab 1 rfl (ae [0,1,5,9,14,15,16,17,135,136] ?_))));refine aC rfl (ab 3 rfl (nh rfl rfl (by omega) (by omega) ?_));obtain⟨ti,ak,al⟩:=oW;refine cV (.inl rfl) ah rfl rfl rfl (by omega) (by omega) (bF _ _ _) rfl (by rw[oY];simp;omega) ak al (fun _=>rfl) rfl rfl rfl fun _=> ?_;refine az (aj [0,1,5,9,14,15,135,136] rfl ?_);refine aC rfl (aH rfl rfl ⟨by omega,by omega⟩ (ab 1 rfl (az ?_)));have dS:=Dp (o:=w2.take i) (s:=d+p+cr) (a:=cr) (b:=d+p) (u:=val (w1.take (i+1))+val (b.take (i+1))) (by simp;omega) dI (by omega) (by rw[kY hd,kY hp,Nat.mul_add];omega)
   rw[←yR (by omega)]at dS;exact⟨i+1,w2.set i ((d+p+cr)%B),(d+p+cr)/B,by omega,au,by rw[KN (y:=(d+p+cr)%B) (by rw[cn];omega) (by rw[Int.toNat_natCast];omega)];rfl,by omega,by simp[O0],O1.set (Nat.mod_lt _ nt),drop_set VX,by rw[cn];omega,dS⟩
  have hb:b.length≤i:=by simpa using hb
  obtain rfl:i=b.length:=by omega
  rw[List.take_length]at dI;obtain⟨jg,j0,yE⟩:=aeD VV hv (by omega) Be bO vg aeN (Dv Gs (by omega)) (Dv O1 (by omega)) dI;refine aW (aj [0,5,9,14,15] rfl ?_);refine ag (ab 4 rfl (dg ah rfl rfl rfl ⟨by omega,by omega⟩ (aH rfl rfl ⟨by omega,by omega⟩ (dg ah rfl rfl rfl ⟨by omega,by omega⟩ ?_))));obtain⟨ti,ak,al⟩:=oW;refine cV (.inl rfl) ah rfl rfl rfl (by omega) (by omega) (bF _ _ _) rfl (by rw[oY];simp;omega) ak al (fun _=>rfl) rfl rfl rfl fun _=> ?_;refine ae [9] ?_;refine ag (ab 1 rfl (cY rfl rfl ⟨by omega,by omega⟩ (dg ah rfl rfl rfl ⟨by omega,by omega⟩ (ab 1 rfl (ae [4] ?_)))));refine aE ⟨.inr rfl,_,.tmp rfl (.nil),?_⟩;refine⟨w2.set b.length 0,by rw[KN (y:=0) (by omega) (by rw[Int.toNat_natCast];omega)];rfl,by simp[O0],O1.set (by rw[cn];omega),?_,by rw[show (bH:Int)-1=(q:Int) by omega];rfl⟩;rw[←yE,←List.take_length (l:=w2.set b.length 0),List.length_set,O0,p9,yR (by omega),rQ,Nat.mul_zero,Nat.add_zero]
end Go.aw
namespace Go.aw
open Go.Proofs Num
theorem Bf{H:Heap}{g g':Nat}{e:Ent}(h:ins H g e g'=none):g'≠g∧H g'=none:=by
 by_cases e0:g'=g
 ·subst e0;rw[bF]at h;cases h
 ·rw[bg _ _ e0]at h;exact⟨e0,h⟩
theorem O2{y:Nat}(h:0<y):ao y≠[]:=fun e=>by
 have:=cS y
 rw[e]at this
 simp[val]at this
 omega
theorem O3{y:Nat}(h:0<y):B^((ao y).length-1)≤y:=by
 have:=(fQ y).pos (O2 h)
 rwa [cS]at this
def VY(H:Heap)(x y:Nat)(v:Value)(H':Heap):Prop:=Heap.le H H'∧∃q r,v = .tuple #[q,r]∧dh H' q (x/y)∧dh H' r (x%y)
theorem KR{H:Heap}{u v:Value}{x y:Nat}(hx:dh H u x)(hy:dh H v y)(jz:0<y)(hm:((ao x).length:Int)<8796093022208):
 Fn Tryz.prog 210 #[u,v] H (VY H x y):=by
 obtain⟨A,c,rfl,hc,hr⟩:=hx
 obtain⟨A',c',rfl,jO,dU⟩:=hy
 have jC:=(fQ x).lt
 have eF:=(fQ y).lt
 have aeO:=O3 jz
 have aeP:(ao y).length≠0:=fun e=>O2 jz (List.eq_nil_of_length_eq_zero e);refine aZ (args:=[_,_]) Tryz.func210 rfl rfl Tryz.ntmps210 rfl rfl fun w0=> ?_;refine aj [0,1] rfl ?_;refine ag (ab 2 rfl (ae [0,1] ?_));refine aq (ag (ab 2 rfl (aF rfl rfl (VJ hr dU (by omega)) ?_)));rintro v1 H1 ⟨e1,rfl⟩;rw[e1];refine ab 1 rfl (ae [0,1,19] ?_);refine aD rfl (fun hb=> ?_) (fun hb=> ?_)
 ·
  have qK:x<y:=by unfold kJ at hb;simp at hb;split at hb <;> (try split at hb) <;> simp_all
  refine ag (ab 1 rfl (dK Tryz.underlying177 eG rfl rfl (yO _) (hr) (by rw[AW,Nat.mul_one]) (oX _) (by simp;omega) (by simp;omega) ?_));intro v1 H2 ha;refine ab 2 rfl (ae [4,5] ?_);refine aE ⟨.inr rfl,_,.tmp rfl (.tmp rfl (.nil)),?_⟩
  have h1:dh H2 v1 x:=by
   have:=(App.p8 (a:=[]) ha rfl rfl).lim
   simpa [dh]using this
  exact⟨ha.le,_,_,rfl,by rw[Nat.div_eq_of_lt qK];exact wu H2,by rw[Nat.mod_eq_of_lt qK];exact h1⟩
 ·
  have qK:y≤x:=by unfold kJ at hb;simp at hb;split at hb <;> (try split at hb) <;> simp_all <;> omega
  have hlen:=mH qK;refine aA (aj [0,1] rfl ?_);refine aq (ag (ab 3 rfl (ae [0,1,24] ?_)));refine aD rfl (fun hb=> ?_) (fun hb=> ?_)
  ·
   have hb:(ao y).length=1:=by simp at hb;omega
   have tw:(ao y)[0]? = some y:=by
    obtain⟨z,hz⟩:=List.length_eq_one_iff.1 hb;have:=cS y;rw[hz]at this⊢
    simp[val]at this
    simp[this]
   have Gt:=eF.get tw;rw[cn]at Gt;refine ag (ab 2 rfl (aS ah rfl rfl rfl rfl rfl (dU) (du tw) (by omega) (by omega) fun _=>(dg ah rfl rfl rfl ⟨by omega,by omega⟩ (aF rfl rfl (VP (l:=ao x) ⟨A,c,rfl,hc,hr⟩ jC Gt jz (by omega)) ?_))));rintro v1 H2 ⟨hle,q,rfl,hq⟩;refine vr 1 ?_;rw[cS]at hq⊢;refine ab 4 rfl (ae [6,7] ?_);refine ag (ab 2 rfl (aF rfl rfl (KJ (x:=x%y) (by have:=Nat.mod_lt x jz;omega)) ?_));intro v1 H3 hp;refine ab 2 rfl (ae [4,5] ?_);refine aE ⟨.inr rfl,_,.tmp rfl (.tmp rfl (.nil)),?_⟩;exact⟨hle.trans hp.le,_,_,rfl,hq.le hp.le,hp.nat⟩
  have hb:(ao y).length≠1:=by simp at hb;omega
  have gX:2≤(ao y).length:=by omega
  obtain⟨t,ht⟩:∃t,(ao y)[(ao y).length-1]? = some t:=⟨_,List.getElem?_eq_getElem (by omega)⟩;have OY:=eF.get ht;rw[cn]at OY
  have vf:(((ao y).length:Int)-1).toNat=(ao y).length-1:=by omega
  have hs0:0≤(1000000000:Int)/((t:Int)+1):=Int.ediv_nonneg (by omega) (by omega);have lE:(1000000000:Int)/((t:Int)+1)≤1000000000:=Int.ediv_le_self _ (by omega);obtain⟨sc,Bg⟩:∃sc,sc=1000000000/(t+1):=⟨_,rfl⟩
  have aeQ:(1000000000:Int)/((t:Int)+1)=(sc:Int):=by rw[Bg];simp
  have Dx:0<sc:=by rw[Bg];exact Nat.div_pos (by omega) (by omega)
  have aeR:sc*(t+1)≤1000000000:=by rw[Bg];exact Nat.div_mul_le_self _ _
  refine aA (aj [0,1] rfl ?_);refine ag (ab 3 rfl (ae [0,1,8] ?_));refine ag (ab 2 rfl (cY rfl rfl ⟨by omega,by omega⟩ (aS ah rfl rfl rfl rfl rfl (dU) (by rw[vf];exact du ht) (by omega) (by omega) fun _=> ?_)));refine dg ah rfl rfl rfl ⟨by omega,by omega⟩ (aH rfl rfl ⟨by omega,by omega⟩ (l0 rfl rfl (by omega) (by omega) ⟨by omega,by omega⟩ ?_));rw[aeQ];refine ab 1 rfl (ae [0,1,8,9] ?_)
  have KS:0<t:=by
   rcases Nat.eq_zero_or_pos t with e|e
   ·
    exfalso
    have:=(fQ y).last t (by rw[List.getLast?_eq_getElem?];exact ht);exact this e
   ·exact e
  have O4:sc<1000000000:=by
   have:sc*2≤sc*(t+1):=Nat.mul_le_mul_left _ (by omega)
   omega
  have hyV:y*sc<B^(ao y).length:=by
   have h1:y<B^((ao y).length-1)*(t+1):=by
    have h2:=kY ht;rw[show (ao y).length-1+1=(ao y).length by omega,List.take_length,cS]at h2;have h3:=Dv eF (k:=(ao y).length-1) (by omega);rw[Nat.mul_add,Nat.mul_one];omega
   have h2:y*sc<B^((ao y).length-1)*(t+1)*sc:=Nat.mul_lt_mul_of_pos_right h1 Dx
   have h3:B^((ao y).length-1)*(t+1)*sc≤B^((ao y).length-1)*B:=by
    rw[Nat.mul_assoc];exact Nat.mul_le_mul_left _ (by rw[Nat.mul_comm,cn];exact aeR)
   rw[←Nat.pow_succ,Nat.succ_eq_add_one,show (ao y).length-1+1=(ao y).length by omega]at h3
   omega
  refine ag (ab 2 rfl (aF rfl rfl (VM (l:=ao x) ⟨A,c,rfl,hc,hr⟩ jC O4 (by omega)) ?_));rintro v1 H1 ⟨g1,l1,o0,rfl,rfl,aeS,aeT,nx⟩;rw[cS]at nx;refine ab 1 rfl (ae [0,1,8,9,10] ?_);refine ag (ab 2 rfl (aF rfl rfl (VM (l:=ao y) ⟨A',c',rfl,jO,dU.le (Heap.bC _ o0)⟩ eF O4 (by omega)) ?_));rintro v1 H1 ⟨g2,l2,eu,rfl,rfl,amp,OK,dI⟩;rw[cS]at dI;refine ab 1 rfl (tt ah rfl rfl (.inl ⟨rfl,rfl⟩) (.inr ⟨_,_,rfl,rfl⟩) (by omega) (by omega) ?_);rw[AY];refine ab 1 rfl (ae [0,8,9,10,11] ?_);refine ag (ab 3 rfl (cY rfl rfl ⟨by omega,by omega⟩ (aH rfl rfl ⟨by omega,by omega⟩ (gJ Tryz.underlying177 eG rfl rfl rfl (by omega) (by omega) (by omega) (by omega) ?_))));intro g3 l5;obtain⟨m,eZ⟩:∃m,m=(ao x).length-(ao y).length+1:=⟨_,rfl⟩;rw[show (((ao x).length:Int)-((ao y).length:Int)+1).toNat=m from by omega,yQ];obtain⟨VZ,aeU⟩:=Bf eu;obtain⟨Ba,aeV⟩:=Bf l5;obtain⟨KT,aeW⟩:=Bf aeV
  have fa:∀e e',ins (ins H g2 e) g3 e' g1=none:=fun e e'=>by rw[bg _ _ (Ne.symm KT),bg _ _ (Ne.symm VZ)];exact o0
  have ny:∀e,ins H g2 e g3=none:=fun e=>by rw[bg _ _ Ba];exact aeW
  rw[C8 H _ _ (Ne.symm VZ),C8 (ins H g2 _) _ _ (Ne.symm KT)];obtain⟨V,KU⟩:∃V,V=y*sc:=⟨_,rfl⟩;obtain⟨b,qb⟩:∃b,b=l2.take (ao y).length:=⟨_,rfl⟩
  have kL:b.length=(ao y).length:=by rw[qb];simp;omega
  have Gu:val b=V:=by
   have h1:=Gq l2 (k:=(ao y).length) (by omega);rw[dI,←qb]at h1
   rcases Nat.eq_zero_or_pos (val (l2.drop (ao y).length))with e|e
   ·rw[e,Nat.mul_zero]at h1;omega
   ·
    have:B^(ao y).length*1≤B^(ao y).length*val (l2.drop (ao y).length):=Nat.mul_le_mul_left _ e
    omega
  have V0:Lt b:=by rw[qb];exact OK.take _
  have vg:0<V:=by rw[KU];exact Nat.mul_pos jz Dx
  obtain⟨tp,Kq⟩:∃tp,b[b.length-1]? = some tp:=⟨_,List.getElem?_eq_getElem (by omega)⟩
  have aeX:0<tp:=by
   rcases Nat.eq_zero_or_pos tp with e|e
   ·
    exfalso
    have h2:=kY Kq;rw[show b.length-1+1=b.length by omega,List.take_length,e,Nat.mul_zero,Gu]at h2;have h3:=Dv V0 (k:=b.length-1) (by omega);have h4:y*1≤y*sc:=Nat.mul_le_mul_left _ Dx;rw[kL]at h2 h3
    omega
   ·exact e
  refine Vo (x':= .val (.slice (some ⟨g2,0,none⟩) b.length ((ao y).length+1-0))) 11 rfl (by rw[kL];rfl) ?_;refine ab 1 rfl (ae [0,8,9,10,11,12] ?_);refine aq (ag (ab 3 rfl (cY rfl rfl ⟨by omega,by omega⟩ (ab 1 rfl (ae [8,9,10,11,12,13] ?_)))));refine aG (fG (fun(k:Nat)(l:List Nat)(o:List Nat)=>k) (fun(k:Nat)(l:List Nat)(o:List Nat)=>put (put (put (put (put (put (emp) 8 (.val (.int .i64 ((ao y).length:Int)))) 9 (.val (.int .u64 (sc:Int)))) 10 (.val (.slice (some ⟨g1,0,none⟩) ((ao x).length+1) ((ao x).length+1)))) 11 (.val (.slice (some ⟨g2,0,none⟩) b.length ((ao y).length+1-0)))) 12 (.val (.slice (some ⟨g3,0,none⟩) m m))) 13 (.val (.int .i64 ((k:Int)-1)))) (fun(k:Nat)(l:List Nat)(o:List Nat) H'=>H'=ins (ins (ins H g2 (dH l2 ((ao y).length+1))) g3 (dH o m)) g1 (dH l ((ao x).length+1))∧k≤m∧l.length=(ao x).length+1∧Lt l∧o.length=m∧Lt o∧val (o.drop k)*V*B^k+val l=x*sc∧val (l.drop k)<V) m _ _ (⟨rfl,by omega,aeS,aeT,by simp,Lt.replicate _,by simp[val,nx],by rw[KU];exact aeF (by omega) nx (by rw[show m+((ao y).length-1)=(ao x).length by omega];exact Dn x) aeO Dx⟩) au ?_);rintro k l o H1 ⟨rfl,hk,vd,bL,cT,eD,hinv,vi⟩;refine aq (ag ?_)
  refine ab 2 rfl (ae [8,9,10,11,12,13,66] ?_);refine aD rfl (fun hb=> ?_) (fun hb=> ?_)
  ·
   have hb:1≤k:=by simp at hb;omega
   obtain⟨k,rfl⟩:∃j,k=j+1:=⟨k-1,by omega⟩
   have gI:(((k+1:Nat):Int)-1).toNat=k:=by omega
   obtain⟨w,Dy⟩:∃w,w=(l.drop k).take ((ao y).length+1):=⟨_,rfl⟩
   have p9:w.length=(ao y).length+1:=by rw[Dy];simp;omega
   obtain⟨hwz,nZ,O5⟩:=VT bL (n:=(ao y).length) (by omega) vi (by omega);rw[←Dy,←Gu]at O5
   have aeY:Lt w:=by rw[Dy];exact(bL.drop k).take _
   have yT:l=l.take k++w++l.drop (k+(ao y).length+1):=by
    rw[Dy,List.append_assoc]
    conv=>lhs;rw[←List.take_append_drop k l,←List.take_append_drop ((ao y).length+1) (l.drop k)]
    rw[List.drop_drop]
    rfl
   have hlk:(l.take k).length=k:=by simp;omega
   have fY:Rd (ins (ins H g2 (dH l2 ((ao y).length+1))) g3 (dH o m)) (some ⟨g2,0,none⟩) (U b):=by
    rw[qb,Gi];exact((KH H g2 l2 _).le (Heap.bC _ (ny _))).take _
   refine aA (aj [8,9,10,11,12,13] rfl ?_);refine aq (aG (aC rfl (ab 6 rfl (aH rfl rfl ⟨by omega,by omega⟩ (aH rfl rfl ⟨by omega,by omega⟩ (tt ah rfl rfl (.inr ⟨_,_,rfl,congrArg (fun z=>some (Value.int .i64 z)) (show ((k+1:Nat):Int)-1=((k:Nat):Int) by omega)⟩) (.inr ⟨_,_,rfl,congrArg (fun z=>some (Value.int .i64 z)) (show ((k+1:Nat):Int)-1+((ao y).length:Int)+1=((k+(ao y).length+1:Nat):Int) by omega)⟩) (by omega) (by omega) (Vo (x':= .val (.slice (some ⟨g1,(l.take k).length,none⟩) (b.length+1) ((ao x).length+1-k))) 77 rfl (by rw[if_neg (by omega),Option.map_some,iX,Nat.mul_one,hlk,show k+(ao y).length+1-k=b.length+1 by omega]) ?_)))))));refine ab 1 rfl (aF rfl rfl (by have hF:=aeH (lo:=l.take k) (w:=w) (hi:=l.drop (k+(ao y).length+1)) (N:=(ao x).length+1) (c:=(ao x).length+1-k) (c':=(ao y).length+1-0) (fa _ _) fY (by omega) (by omega) (by omega) aeY V0 Kq aeX O5;rw[←yT]at hF;exact hF) ?_);rintro v1 H1 ⟨w',rfl,gA,l6,O6,rfl⟩;obtain⟨ti,ak,al⟩:=oW;refine cV (.inl rfl) ah rfl rfl rfl (by omega) (by omega) ((bg _ _ KT).trans (bF _ _ _)) rfl (by rw[oY];omega) ak al (fun _=>rfl) rfl rfl rfl fun _=> ?_;refine az ?_
   refine aj [8,9,10,11,12,13] rfl ?_;refine aC rfl (ab 1 rfl (cY rfl rfl ⟨by omega,by omega⟩ (ab 1 rfl (az ?_))));have dS:=aeE (q:=val w/V) bL (n:=(ao y).length) (by omega) vi (by omega) (by omega) hinv (by rw[←Dy]) (by rw[←Dy,O6,Gu]) (by rw[gA,p9]);refine⟨k,l.take k++w'++l.drop (k+(ao y).length+1),o.set k (val w/V),by omega,au,?_,by omega,?_,?_,by simp[cT],eD.set ?_,dS.1,dS.2⟩
   ·rw[C8 _ _ _ (Ne.symm KT),u6 (y:=val w/V) (by rw[Gu]),gI]
   ·simp[gA,p9,vd];omega
   ·exact((bL.take k).append l6).append (bL.drop _)
   ·rw[←Gu];exact Nat.div_lt_of_lt_mul (by rw[Nat.mul_comm];exact O5)
  have hb:k=0:=by simp at hb;omega
  subst hb
  simp only[List.drop_zero,Nat.pow_zero,Nat.mul_one]at hinv vi
  obtain⟨hQ,hR⟩:=aeG (Q:=val o) (R:=val l) (x:=x) (y:=y) (sc:=sc) (by rw[←KU];exact hinv) (by rw[←KU];exact vi) Dx;refine aW (aj [9,10,12] rfl ?_);refine ag (ab 1 rfl (aF rfl rfl (KL (AZ _ _ l _ _ vd.symm (Nat.le_refl _)) bL (by omega)) ?_));intro v1 H4 hp;refine ab 1 rfl (aF rfl rfl (VP hp.nat (fQ _).lt O4 Dx (by have:=jn.2 (uY bL);omega)) ?_);rintro v2 H5 ⟨iY,r,rfl,rV⟩;rw[cS,hR]at rV;refine ab 5 rfl (ae [12,14] ?_);refine ag (ab 1 rfl (aF rfl rfl (KL (((AZ _ _ o m m cT.symm (Nat.le_refl _)).le (Heap.bC _ (fa _ _))).le (hp.le.trans iY)) eD (by omega)) ?_));intro v1 H6 o6;refine ab 3 rfl (ae [4,5] ?_);refine aE ⟨.inr rfl,_,.tmp rfl (.tmp rfl (.nil)),?_⟩;exact⟨((((Heap.bC _ aeU).trans (Heap.bC _ (ny _))).trans (Heap.bC _ (fa _ _))).trans (hp.le.trans iY)).trans o6.le,_,_,rfl,by rw[←hQ];exact o6.nat,rV.le o6.le⟩
end Go.aw
namespace Go.aw
open Go.Proofs Num
theorem aeZ{H:Heap}{u v:Value}{x y:Nat}(hx:dh H u x)(hy:dh H v y)(hm:((ao x).length:Int)<8796093022208)(bI:((ao y).length:Int)<8796093022208):
  Fn Tryz.prog 209 #[u,v] H (nv H (Nat.gcd x y)):=by
 obtain⟨M,hM⟩:∃M,M=max x y:=⟨_,rfl⟩
 have hMl:((ao M).length:Int)<8796093022208:=by
  rcases Nat.le_total x y with h | h
  ·rw[hM,Nat.max_eq_right h];exact bI
  ·rw[hM,Nat.max_eq_left h];exact hm
 refine aZ (args:=[_,_]) Tryz.func209 rfl rfl Tryz.ntmps209 rfl rfl fun w0=> ?_;refine aj [0,1] rfl ?_;refine ag (ab 1 rfl (ae [0,1] ?_));refine aq (aG (oU (fun(x1:Nat)(y1:Nat)(u:Value)(v:Value)=>y1) (fun(x1:Nat)(y1:Nat)(u:Value)(v:Value)=>put (put (emp) 0 (.val (u))) 1 (.val (v))) (fun(x1:Nat)(y1:Nat)(u:Value)(v:Value) H'=>Heap.le H H'∧dh H' u x1∧dh H' v y1∧Nat.gcd x1 y1=Nat.gcd x y∧x1≤M∧y1≤M) x y u v (⟨.refl _,hx,hy,rfl,by omega,by omega⟩) au ?_));rintro x1 y1 u v H1 ⟨hle,eP,tw,hg,hxM,O7⟩;obtain⟨A,c,rfl,hc,hr⟩:=eP;obtain⟨A',c',rfl,jO,dU⟩:=tw;have cH:=mH hxM;have dC:=mH O7;refine aq (ag (ab 3 rfl (ae [0,1,13] ?_)));refine aD rfl (fun hb=> ?_) (fun hb=> ?_)
 ·
  have hb:(ao y1).length≠0:=by simp at hb;intro e;simp[List.eq_nil_of_length_eq_zero e]at hb
  have jz:0<y1:=by rcases Nat.eq_zero_or_pos y1 with e | e;· exact absurd (j6.2 e) hb
                   ·exact e
  refine aA (aj [0,1] rfl ?_);refine aG (aq ?_)
  by_cases h2:(ao x1).length≤2
  ·
   skip
   refine ag (ab 2 rfl (aJ true rfl rfl (p7 (by omega)) (ab 5 rfl (ae [0,1,21] ?_))));refine aD rfl (fun hb=> ?_) (fun hb=> ?_)
   ·
    have hb:(ao y1).length≤2:=by simp at hb;omega
    have O8:=jn.1 h2;have O9:=jn.1 hb;rw[cn]at O8 O9
    simp only[Nat.reducePow]at O8 O9
    refine ag (ab 1 rfl (aF rfl rfl (VK hr h2) ?_));rintro v1 H2 ⟨rfl,rfl⟩;refine ab 5 rfl (ae [1,5] ?_);refine ag (ab 1 rfl (aF rfl rfl (VK dU hb) ?_));rintro v1 H3 ⟨rfl,rfl⟩;refine ab 5 rfl (ae [5,7] ?_);refine aq (aG (ij (fun(p:Nat)(q:Nat)=>q) (fun(p:Nat)(q:Nat)=>put (put (emp) 5 (.val (.int .u64 (p:Int)))) 7 (.val (.int .u64 (q:Int)))) (fun(p:Nat)(q:Nat) H'=>Heap.le H H'∧Nat.gcd p q=Nat.gcd x y∧p<1000000000000000000∧q<1000000000000000000) x1 y1 (⟨hle,hg,O8,O9⟩) au ?_));rintro p q H1 ⟨fc,eu,Pb,Gv⟩;refine aq (ag (ab 2 rfl (ae [5,7,33] ?_)));refine aD rfl (fun hb=> ?_) (fun hb=> ?_)
    ·
     have hb:0<q:=by simp at hb;omega
     refine aA (aj [5,7] rfl ?_);refine aG (ep .bJ [0,1,2,3,4,5] follows (by kernel_rfl) ?_);refine ab 3 rfl (nh rfl rfl (by omega) (by omega) (ab 2 rfl (az ?_)));have bL:=Nat.mod_lt p hb;exact⟨q,p%q,bL,au,fc,by rw[Nat.gcd_comm q,←Nat.gcd_rec,Nat.gcd_comm q];exact eu,Gv,by omega⟩
    ·
     have hb:q=0:=by simp at hb;omega
     subst hb;rw[Nat.gcd_zero_right]at eu;refine aW (aj [5] rfl ?_);refine ag (ab 1 rfl (aF rfl rfl (KJ (by omega)) ?_));intro v1 H4 hp;refine ab 1 rfl (ae [4] ?_);refine aE ⟨.inr rfl,_,.tmp rfl (.nil),?_⟩;exact⟨fc.trans hp.le,by rw[←eu];exact hp.nat⟩
   ·
    skip
    refine aA (aj [0,1] rfl ?_);refine ag (ab 2 rfl (aF rfl rfl (KR (x:=x1) (y:=y1) ⟨A,c,rfl,hc,hr⟩ ⟨A',c',rfl,jO,dU⟩ jz (by omega)) ?_));rintro v1 H4 ⟨fc,q,r,rfl,bO,mJ⟩;refine ab 5 rfl (ae [1,10] ?_);refine aC rfl (ab 4 rfl (az ?_));have bL:=Nat.mod_lt x1 jz;exact⟨y1,x1%y1,_,_,bL,au,hle.trans fc,jB.le (l:=ao y1) ⟨A',c',rfl,jO,dU⟩ fc,mJ,by rw[Nat.gcd_comm y1,←Nat.gcd_rec,Nat.gcd_comm y1];exact hg,O7,by omega⟩
  ·
   skip
   refine ag (ab 2 rfl (aJ false rfl rfl (yN (by omega)) (ab 5 rfl (ae [0,1,21] ?_))));refine dR rfl (aA (aj [0,1] rfl ?_));refine ag (ab 2 rfl (aF rfl rfl (KR (x:=x1) (y:=y1) ⟨A,c,rfl,hc,hr⟩ ⟨A',c',rfl,jO,dU⟩ jz (by omega)) ?_));rintro v1 H4 ⟨fc,q,r,rfl,bO,mJ⟩;refine ab 5 rfl (ae [1,10] ?_);refine aC rfl (ab 4 rfl (az ?_));have bL:=Nat.mod_lt x1 jz;exact⟨y1,x1%y1,_,_,bL,au,hle.trans fc,jB.le (l:=ao y1) ⟨A',c',rfl,jO,dU⟩ fc,mJ,by rw[Nat.gcd_comm y1,←Nat.gcd_rec,Nat.gcd_comm y1];exact hg,O7,by omega⟩
 ·
  have hb:(ao y1).length=0:=by simp at hb;simp[hb]
  have jz:y1=0:=j6.1 hb;subst jz;rw[Nat.gcd_zero_right]at hg;refine aW (aj [0] rfl ?_);refine ag (ab 2 rfl (ae [4] ?_));refine aE ⟨.inr rfl,_,.tmp rfl (.nil),?_⟩;exact⟨hle,by rw[←hg];exact⟨A,c,rfl,hc,hr⟩⟩
end Go.aw
namespace Num
def sg(neg:Bool)(n:Nat):Int:=if neg then -(n:Int)else n
def cL(neg:Bool)(n d:Nat):Rat:=mkRat (sg neg n) d
theorem Pc(f:Bool)(n:Nat):(sg f n).natAbs=n:=by cases f <;> simp[sg]
theorem ae0(f:Bool):sg f 0=0:=by cases f <;> rfl
theorem wC(f:Bool)(d:Nat):cL f 0 d=0:=by simp[cL,ae0]
theorem Gw(f:Bool)(n:Nat):cL f n 0=0:=by simp[cL]
theorem yU{f:Bool}{n d:Nat}(hd:0<d):(cL f n d).den=d/Nat.gcd n d:=by
 rw[cL,Rat.den_mkRat,if_neg (by omega),Pc,Nat.gcd_comm]
theorem Pd{f:Bool}{n d:Nat}(hd:0<d):(cL f n d).num=sg f (n/Nat.gcd n d):=by
 rw[cL,Rat.num_mkRat,if_neg (by omega),Pc,Nat.gcd_comm]
 have hdv:Nat.gcd n d∣n:=Nat.gcd_dvd_left n d
 cases f
 ·simp[sg]
 ·simp only[sg,if_true]
  rw[Int.neg_ediv_of_dvd (by exact_mod_cast hdv)]
  simp
theorem Bh{f:Bool}{n d:Nat}(hd:0<d):(cL f n d).num.natAbs=n/Nat.gcd n d:=by rw[Pd hd,Pc]
theorem Gx{f:Bool}{n d:Nat}(hd:0<d)(hn:0<n):decide ((cL f n d).num<0)=f:=by
 rw[Pd hd]
 have h1:0<n/Nat.gcd n d:=Nat.div_pos (Nat.le_of_dvd hn (Nat.gcd_dvd_left n d)) (Nat.gcd_pos_of_pos_left _ hn)
 cases f <;> simp[sg] <;> omega
theorem Pe{f:Bool}{n d:Nat}(hd:0<d):cL f n d=0↔n=0:=by
 rw[cL,Rat.mkRat_eq_zero (by omega)]
 cases f <;> simp[sg]
theorem ae1{f:Bool}{n d:Nat}(hd:0<d)(hn:0<n):cL f n d<0↔f=true:=by
 have h:=Gx (f:=f) hd hn
 rw[←Rat.not_le,←Rat.num_nonneg]
 constructor
 ·intro h1;rw[←h,decide_eq_true_iff];omega
 ·intro h1;rw[h1]at h⊢;have:=of_decide_eq_true h;omega
theorem V1(f:Bool){n m d e:Nat}(hd:0<d)(he:0<e):cL f n d+cL f m e=cL f (n*e+m*d) (d*e):=by
 rw[cL,cL,Rat.mkRat_add_mkRat _ _ (by omega) (by omega),cL]
 congr 1
 cases f
 ·simp[sg]
 ·simp[sg,Int.neg_add,Int.neg_mul]
theorem Pf{f g:Bool}(qL:f≠g){n m d e:Nat}(hd:0<d)(he:0<e)(h:m*d≤n*e):cL f n d+cL g m e=cL f (n*e-m*d) (d*e):=by
 rw[cL,cL,Rat.mkRat_add_mkRat _ _ (by omega) (by omega),cL]
 congr 1
 obtain rfl:g = !f:=by cases f <;> cases g <;> simp at qL⊢
 cases f
 ·simp[sg]
  rw[Int.ofNat_sub h];simp[Int.neg_mul];omega
 ·simp[sg]
  rw[Int.ofNat_sub h];simp[Int.neg_mul];omega
theorem V2{f g:Bool}(qL:f≠g){n m d e:Nat}(hd:0<d)(he:0<e)(h:n*e≤m*d):cL f n d+cL g m e=cL g (m*d-n*e) (d*e):=by
 rw[Rat.add_comm,Pf (Ne.symm qL) he hd h,Nat.mul_comm e d]
theorem Pg(f:Bool)(n d:Nat): -cL f n d=cL (!f) n d:=by
 rw[cL,cL,Rat.neg_mkRat]
 cases f <;> simp[sg]
theorem Ph(f g:Bool)(n m d e:Nat):cL f n d*cL g m e=cL (f != g) (n*m) (d*e):=by
 rw[cL,cL,Rat.mkRat_mul_mkRat,cL]
 congr 1
 cases f <;> cases g <;> simp[sg,Int.neg_mul,Int.mul_neg]
theorem V3{g:Bool}{m e:Nat}(_hm:0<m):(cL g m e)⁻¹=cL g e m:=by
 rw[cL,cL,←Rat.divInt_ofNat,Rat.inv_divInt,←Rat.divInt_ofNat]
 cases g
 ·rfl
 ·simp only[sg,if_true]
  rw[Rat.divInt_neg']
theorem Pj{f g:Bool}{n m d e:Nat}(hm:0<m):cL f n d/cL g m e=cL (f != g) (n*e) (d*m):=by
 rw[Rat.div_def,V3 hm,Ph]
theorem ae2(n:Int):sg (decide (n<0)) n.natAbs=n:=by
 unfold sg;split
 ·rename_i h;simp at h;omega
 ·rename_i h;simp at h;omega
theorem Gy(n:Int):cL (decide (n<0)) n.natAbs 1=(n:Rat):=by
 have:sg (decide (n<0)) n.natAbs=n:=by
  unfold sg;split
  ·rename_i h;simp at h;omega
  ·rename_i h;simp at h;omega
 rw[cL,this]
 exact Rat.mkRat_self (n:Rat)
theorem V4(a b:Int):cL (decide (a<0) != decide (b<0)) a.natAbs b.natAbs=(a:Rat)/(b:Rat):=by
 rcases Nat.eq_zero_or_pos b.natAbs with h | h
 ·rw[h,Gw]
  have:b=0:=by omega
  subst this
  simp[Rat.div_def]
 ·rw[←Gy a,←Gy b,Pj h]
  simp
def ik(q:Rat):Int:=if q<0 then -1 else if q=0 then 0 else 1
def wD(p q:Rat):Int:=if p<q then -1 else if p=q then 0 else 1
theorem KV{f:Bool}{n d:Nat}(hd:0<d):ik (cL f n d)=if n=0 then 0 else if f then -1 else 1:=by
 unfold ik
 by_cases hn:n=0
 ·subst hn;rw[wC];rfl
 ·have h1:=ae1 (f:=f) hd (by omega:0<n)
  have h2:=Pe (f:=f) (n:=n) hd
  cases f
  ·rw[if_neg (by rw[h1];simp),if_neg (by rw[h2];exact hn),if_neg hn];rfl
  ·rw[if_pos (by rw[h1]),if_neg hn];rfl
end Num
namespace Go.aw
open Go.Proofs Num
def rW(H:Heap)(v:Value)(f:Bool)(n d:Nat):Prop:=∃u w,v = .agg #[.bool f,u,w]∧dh H u n∧dh H w d
theorem rW.le{H H':Heap}{v:Value}{f:Bool}{n d:Nat}(h:rW H v f n d)(hl:Heap.le H H'):rW H' v f n d:=by
 obtain⟨u,w,h1,h2,h3⟩:=h
 exact⟨u,w,h1,h2.le hl,h3.le hl⟩
def bK(H:Heap)(v:Value)(q:Rat):Prop:=rW H v (decide (q.num<0)) q.num.natAbs q.den
theorem bK.le{H H':Heap}{v:Value}{q:Rat}(h:bK H v q)(hl:Heap.le H H'):bK H' v q:=rW.le h hl
def ct(H:Heap)(v:Value)(q:Rat)(N:Nat):Prop:=∃f u w l1 l2,v = .agg #[.bool f,u,w]∧jB H u l1∧jB H w l2∧(∀x,x∈l1→x<4294967296)∧(∀x,x∈l2→x<4294967296)∧l1.length≤N∧l2.length≤N∧q=cL f (val l1) (val l2)
theorem ct.le{H H':Heap}{v:Value}{q:Rat}{N:Nat}(h:ct H v q N)(hl:Heap.le H H'):ct H' v q N:=by
 obtain⟨f,u,w,l1,l2,h1,h2,h3,h4⟩:=h
 exact⟨f,u,w,l1,l2,h1,h2.le hl,h3.le hl,h4⟩
theorem ct.mono{H:Heap}{v:Value}{q:Rat}{N M:Nat}(h:ct H v q N)(hl:N≤M):ct H v q M:=by
 obtain⟨f,u,w,l1,l2,h1,h2,h3,h4,h5,h6,h7,h8⟩:=h
 exact⟨f,u,w,l1,l2,h1,h2,h3,h4,h5,by omega,by omega,h8⟩
def aP(q:Rat):Nat:=max (ao q.num.natAbs).length (ao q.den).length
theorem wE(q:Rat):cL (decide (q.num<0)) q.num.natAbs q.den=q:=by
 rw[cL,ae2,Rat.mkRat_self]
theorem oa{x:Nat}:∀y,y∈ao x→y<4294967296:=fun y hy=>by
 have:=(fQ x).lt y hy
 rw[cn]at this;omega
theorem bK.raw{H:Heap}{v:Value}{q:Rat}(h:bK H v q):ct H v q (aP q):=by
 obtain⟨u,w,h1,h2,h3⟩:=h
 exact⟨_,u,w,_,_,h1,h2,h3,oa,oa,Nat.le_max_left _ _,Nat.le_max_right _ _,by rw[cS,cS,wE]⟩
def kt(H:Heap)(q:Rat)(v:Value)(H':Heap):Prop:=Heap.le H H'∧bK H' v q
theorem kt.le{H:Heap}{q:Rat}{v:Value}{H':Heap}(h:kt H q v H'):Heap.le H H':=h.1
def KW(H:Heap)(q:Rat)(K:Nat)(v:Value)(H':Heap):Prop:=Heap.le H H'∧∃f n d,rW H' v f n d∧0<d∧cL f n d=q∧(ao n).length≤K∧(ao d).length≤K
theorem KW.le{H:Heap}{q:Rat}{K:Nat}{v:Value}{H':Heap}(h:KW H q K v H'):Heap.le H H':=h.1
def vj(H:Heap)(x:Value)(v:Value)(H':Heap):Prop:=H'=H∧v=x
theorem vj.le{H:Heap}{x:Value}{v:Value}{H':Heap}(h:vj H x v H'):Heap.le H H':=by rw[h.1];exact .refl _
theorem vk:ao 1 = [1]:=by
 rw[yL (by decide)]
 rw[show 1/B=0 by decide,show 1%B=1 by decide,qI]
theorem yV{H:Heap}{g e:Nat}:dh (ins H g (whole (cF [.int .u32 1]) e)) (.slice (some ⟨g,0,none⟩) 1 1) 1:=by
 refine⟨some ⟨g,0,none⟩,1,?_,?_,?_⟩
 ·rw[vk];rfl
 ·rw[vk];exact Nat.le_refl _
 ·rw[vk];exact rT (y:=1) rfl
theorem Dz{l:List Nat}(h:∀x,x∈l→x<4294967296):(ao (val l)).length≤l.length+1:=by
 refine jn.2 ?_
 have:val l+5≤5*B^l.length:=by
  induction l with
  | nil=>simp[val]
  | cons x l ih=>
   have h1:=ih (fun y hy=>h y (List.mem_cons_of_mem _ hy))
   have h2:=h x (List.mem_cons_self ..)
   rw[jA,List.length_cons,Nat.pow_succ]
   have h3:B*(val l+5)≤B*(5*B^l.length):=Nat.mul_le_mul_left _ h1
   have h4:B*(5*B^l.length)=5*(B^l.length*B):=by rw[Nat.mul_left_comm,Nat.mul_comm B]
   have h5:B*5=5000000000:=by decide
   rw[Nat.mul_add]at h3
   omega
 have h5:5*B^l.length≤B*B^l.length:=Nat.mul_le_mul_right _ (by decide)
 rw[Nat.pow_succ,Nat.mul_comm _ B];omega
theorem pa(x y:Nat):(ao (x*y)).length≤(ao x).length+(ao y).length:=by
 refine jn.2 ?_
 rw[Nat.pow_add]
 exact Nat.mul_lt_mul'' (Dn x) (Dn y)
theorem V5{x y k:Nat}(hx:(ao x).length≤k)(hy:(ao y).length≤k):(ao (x+y)).length≤k+1:=by
 refine jn.2 ?_
 have h1:=jn.1 hx
 have h2:=jn.1 hy
 have h3:B^k*2≤B^k*B:=Nat.mul_le_mul_left _ (by decide)
 rw[Nat.pow_succ];omega
end Go.aw
namespace Go.aw
open Go.Proofs Num
theorem ae3{H:Heap}{u v:Value}{x y:Nat}(hx:dh H u x)(hy:dh H v y)(hm:((ao x).length:Int)≤35184372088832):Fn Tryz.prog 199 #[u,v] H (vj H (.int .i64 (kJ x y))):=by
 obtain⟨A,c,rfl,hc,hr⟩:=hx
 obtain⟨A',c',rfl,jO,dU⟩:=hy
 exact VJ hr dU hm
theorem V6{H:Heap}{u:Value}{x:Nat}(hx:dh H u x):Fn Tryz.prog 208 #[u] H (vj H (.bool (decide (x=1)))):=by
 obtain⟨A,c,rfl,hc,hr⟩:=hx
 exact aeo hr
theorem V7{H:Heap}{u:Value}{l:List Nat}(hu:jB H u l)(Ba:∀x,x∈l→x<4294967296)(hm:(l.length:Int)≤8796093022208):Fn Tryz.prog 194 #[u] H (nv H (val l)):=by
 obtain⟨A,c,rfl,hc,hr⟩:=hu
 exact aep Ba hr hm
theorem tx{H:Heap}{v:Value}{q:Rat}{N:Nat}(hv:ct H v q N)(hN:(N:Int)≤4398046511104):
 Fn Tryz.prog 153 #[v] H (KW H q (N+1)):=by
 obtain⟨f,u,w,l1,l2,rfl,hu,hw,h1,h2,cH,dC,rfl⟩:=hv;refine aZ (args:=[_]) Tryz.func153 rfl rfl Tryz.ntmps153 rfl rfl fun w0=> ?_;refine aj [0] rfl ?_;refine ag (bW rfl rfl (bn kr rfl (ae [1,2] ?_)));refine bP .bJ [0,1,3,4,2,5,6,7] follows (by kernel_rfl) ?_;refine ab 4 rfl (a8 rfl rfl (V7 hu h1 (by omega)) (fun _ _ h=>h.le) ?_);intro v1 H1 fH;refine a8 rfl rfl (V7 (hw.le fH.le) h2 (by omega)) (fun _ _ h=>h.le) ?_;intro v2 H2 ee;obtain⟨B1,b1,rfl,fa,ae4⟩:=fH.nat.le ee.le;obtain⟨B2,b2,rfl,bU,Gz⟩:=ee.nat;have fc:=fH.le.trans ee.le;have pb:=Dz h1;have oZ:=Dz h2;refine ab 2 rfl (ae [1,2,3,4] ?_);refine aq ?_
 by_cases jE:(ao (val l1)).length=0
 ·
  skip
  refine ag (ab 2 rfl (aJ true rfl rfl (jR (by omega)) (ab 5 rfl (ae [1,2,3,4,18] ?_))));refine dJ rfl (ag (cR Tryz.underlying177 eG rfl rfl rfl rfl rfl rfl rfl ?_));intro gb bo;refine de ah rfl kr rfl rfl ?_;obtain⟨ti,ak,al⟩:=jm;refine aI (.inl ⟨rfl,rfl⟩) rfl rfl rfl ak al rfl rfl rfl (ae [2] ?_);obtain⟨bQ,aN,aO⟩:=jm;refine aE ⟨.inr rfl,_,.agg rfl Tryz.underlying179 aN aO (.nil),?_⟩;exact⟨fc.trans (Heap.bC _ bo),false,0,1,⟨_,_,rfl,wu _,yV⟩,by decide,by rw[j6.1 jE,wC,wC],by rw[qI];simp,by rw[vk];simp⟩
 ·
  skip
  refine ag (ab 2 rfl (aJ false rfl rfl (lD (by omega)) (ab 5 rfl (ae [1,2,3,4,18] ?_))));refine aD rfl (fun hb=> ?_) (fun hb=> ?_)
  ·
   have hb:(ao (val l2)).length=0:=by simpa using hb
   refine ag (cR Tryz.underlying177 eG rfl rfl rfl rfl rfl rfl rfl ?_);intro gb bo;refine de ah rfl kr rfl rfl ?_;obtain⟨ti,ak,al⟩:=jm;refine aI (.inl ⟨rfl,rfl⟩) rfl rfl rfl ak al rfl rfl rfl (ae [2] ?_);obtain⟨bQ,aN,aO⟩:=jm;refine aE ⟨.inr rfl,_,.agg rfl Tryz.underlying179 aN aO (.nil),?_⟩;exact⟨fc.trans (Heap.bC _ bo),false,0,1,⟨_,_,rfl,wu _,yV⟩,by decide,by rw[j6.1 hb,Gw,wC],by rw[qI];simp,by rw[vk];simp⟩
  have hb:(ao (val l2)).length≠0:=by simpa using hb
  refine aA (aj [1,2,3,4] rfl ?_);refine ag (ab 4 rfl (de ah rfl kr rfl rfl ?_));obtain⟨ti,ak,al⟩:=jm;refine aI (.inl ⟨rfl,rfl⟩) rfl rfl rfl ak al rfl rfl rfl (ae [2] ?_);obtain⟨bQ,aN,aO⟩:=jm;refine aE ⟨.inr rfl,_,.agg rfl Tryz.underlying179 aN aO (.nil),?_⟩;exact⟨fc,f,val l1,val l2,⟨_,_,rfl,⟨B1,b1,rfl,fa,ae4⟩,⟨B2,b2,rfl,bU,Gz⟩⟩,Nat.pos_of_ne_zero (fun e=>hb (j6.2 e)),rfl,by omega,by omega⟩
theorem ae5{H:Heap}{v:Value}{f:Bool}{n d:Nat}(hv:rW H v f n d)(hd:0<d)(di:((ao n).length:Int)<8796093022208)(fh:((ao d).length:Int)<8796093022208):
 Fn Tryz.prog 196 #[v] H (kt H (cL f n d)):=by
 obtain⟨u,w,rfl,hu,hw⟩:=hv
 obtain⟨A,c,rfl,hc,hr⟩:=id hu
 obtain⟨A2,c2,rfl,nz,mJ⟩:=id hw;refine aZ (args:=[_]) Tryz.func196 rfl rfl Tryz.ntmps196 rfl rfl fun w0=> ?_;refine aj [0] rfl ?_;refine ag (bW rfl rfl (bn kr rfl (ae [1,2] ?_)));refine aq (ag (ab 4 rfl (ae [1,2,11] ?_)));refine aD rfl (fun hb=> ?_) (fun hb=> ?_)
 ·
  have hb:n=0:=j6.1 (by simpa using hb);subst hb;refine ag (cR Tryz.underlying177 eG rfl rfl rfl rfl rfl rfl rfl ?_);intro gb bo;refine de ah rfl kr rfl rfl ?_;obtain⟨ti,ak,al⟩:=jm;refine aI (.inl ⟨rfl,rfl⟩) rfl rfl rfl ak al rfl rfl rfl (ae [2] ?_);obtain⟨bQ,aN,aO⟩:=jm;refine aE ⟨.inr rfl,_,.agg rfl Tryz.underlying179 aN aO (.nil),?_⟩;exact⟨Heap.bC _ bo,by rw[wC];exact⟨_,_,rfl,wu _,yV⟩⟩
 ·
  have jE:0<n:=Nat.pos_of_ne_zero fun e=>by rw[j6.2 e]at hb;simp at hb
  refine aA (aj [1,2] rfl ?_);refine aq (ag (ab 2 rfl (aF rfl rfl (V6 hw) ?_)));rintro v1 H1 ⟨rfl,rfl⟩;refine ae [1,2,16] ?_;refine aD rfl (fun hb=> ?_) (fun hb=> ?_)
  ·
   have ks:d=1:=by simpa using hb
   subst ks;refine ag (vr 1 ?_);obtain⟨ti,ak,al⟩:=jm;refine aI (.inl ⟨rfl,rfl⟩) rfl rfl rfl ak al rfl rfl rfl (ae [2] ?_);obtain⟨bQ,aN,aO⟩:=jm;refine aE ⟨.inr rfl,_,.agg rfl Tryz.underlying179 aN aO (.nil),?_⟩;refine⟨.refl _,?_⟩
   unfold bK
   rw[Gx hd jE,Bh hd,yU hd,Nat.gcd_one_right,Nat.div_one,Nat.div_one];exact⟨_,_,rfl,hu,hw⟩
  skip
  refine aA (aj [1,2] rfl ?_);refine ag (ab 4 rfl (aF rfl rfl (aeZ hu hw di fh) ?_));rintro v1 H2 hp;obtain⟨v1,rfl⟩:∃x,x=v1:=⟨_,rfl⟩;have oP:0<Nat.gcd n d:=Nat.gcd_pos_of_pos_left _ jE;refine ab 1 rfl (ae [1,2,3] ?_);refine aq (ag (ab 1 rfl (aF rfl rfl (V6 hp.nat) ?_)));rintro v2 H3 ⟨rfl,rfl⟩;refine ae [1,2,3,24] ?_;refine aD rfl (fun hb=> ?_) (fun hb=> ?_)
  ·
   have o0:Nat.gcd n d=1:=by simpa using hb
   refine ag (vr 1 ?_);obtain⟨ti,ak,al⟩:=jm;refine aI (.inl ⟨rfl,rfl⟩) rfl rfl rfl ak al rfl rfl rfl (ae [2] ?_);obtain⟨bQ,aN,aO⟩:=jm;refine aE ⟨.inr rfl,_,.agg rfl Tryz.underlying179 aN aO (.nil),?_⟩;refine⟨hp.le,?_⟩
   unfold bK
   rw[Gx hd jE,Bh hd,yU hd,o0,Nat.div_one,Nat.div_one];exact⟨_,_,rfl,hu.le hp.le,hw.le hp.le⟩
  skip
  refine aA (aj [1,2,3] rfl ?_);refine ag (ab 3 rfl (aF rfl rfl (KR (hu.le hp.le) hp.nat oP di) ?_));rintro v2 H4 ⟨kM,q1,r1,rfl,cC,tf⟩;refine ab 5 rfl (ae [1,2,3,4] ?_);refine ag (ab 3 rfl (aF rfl rfl (KR (hw.le (hp.le.trans kM)) (hp.nat.le kM) oP fh) ?_));rintro v2 H5 ⟨iY,q2,r2,rfl,bO,rV⟩;obtain⟨A3,c3,rfl,vn,qM⟩:=cC.le iY;obtain⟨A4,c4,rfl,pc,DA⟩:=id bO;refine ab 5 rfl (ae [1,2,4,6] ?_);refine ag (ab 4 rfl (de ah rfl kr rfl rfl ?_));obtain⟨ti,ak,al⟩:=jm;refine aI (.inl ⟨rfl,rfl⟩) rfl rfl rfl ak al rfl rfl rfl (ae [2] ?_);obtain⟨bQ,aN,aO⟩:=jm;refine aE ⟨.inr rfl,_,.agg rfl Tryz.underlying179 aN aO (.nil),?_⟩;refine⟨(hp.le.trans kM).trans iY,?_⟩
  unfold bK
  rw[Gx hd jE,Bh hd,yU hd];exact⟨_,_,rfl,⟨A3,c3,rfl,vn,qM⟩,bO⟩
theorem yW{H:Heap}{v:Value}{f:Bool}{n d:Nat}(hv:rW H v f n d)(hd:0<d)(di:((ao n).length:Int)<8796093022208)(fh:((ao d).length:Int)<8796093022208):
 Fn Tryz.prog 156 #[v] H (kt H (cL f n d)):=by
 obtain⟨u,w,rfl,hu,hw⟩:=id hv;refine aZ (args:=[_]) Tryz.func156 rfl rfl Tryz.ntmps156 rfl rfl fun w0=> ?_;refine aj [0] rfl ?_;refine ag (bW rfl rfl (bn bZ rfl (ae [1,2] ?_)));refine ag (ab 1 rfl (aF rfl rfl (ae5 hv hd di fh) ?_));rintro v1 H1 ⟨hle,u1,w1,rfl,eO,gA⟩;obtain⟨A,c,rfl,hc,hr⟩:=id eO;obtain⟨A2,c2,rfl,nz,mJ⟩:=id gA;refine bn kr rfl ?_;obtain⟨ti,ak,al⟩:=jm;refine aI (.inl ⟨rfl,rfl⟩) rfl rfl rfl ak al rfl rfl rfl (ae [2,3] ?_);refine ag (ab 6 rfl (de ah rfl bZ rfl rfl ?_));obtain⟨ti,ak,al⟩:=a6;refine aI (.inl ⟨rfl,rfl⟩) rfl rfl rfl ak al rfl rfl rfl (ae [2] ?_);obtain⟨bQ,aN,aO⟩:=a6;refine aE ⟨.inr rfl,_,.agg rfl Tryz.underlying31 aN aO (.nil),?_⟩;exact⟨hle,_,_,rfl,eO,gA⟩
theorem ae6{H:Heap}{v:Value}{f:Bool}{n d:Nat}(hv:rW H v f n d)(hd:0<d):
 Fn Tryz.prog 154 #[v] H (vj H (.int .i64 (ik (cL f n d)))):=by
 obtain⟨u,w,rfl,hu,hw⟩:=id hv
 obtain⟨A,c,rfl,hc,hr⟩:=id hu;refine aZ (args:=[_]) Tryz.func154 rfl rfl Tryz.ntmps154 rfl rfl fun w0=> ?_;refine aj [0] rfl ?_;refine ag (bW rfl rfl (ab 1 rfl (ae [1] ?_)));refine aq (aG (ag (ab 5 rfl (ae [1,3] ?_))));refine aD rfl (fun hb=> ?_) (fun hb=> ?_)
 ·
  have hb:n=0:=j6.1 (by simpa using hb);refine ag (ab 1 rfl (ae [2] ?_));refine aE ⟨.inr rfl,_,.tmp rfl (.nil),?_⟩;exact⟨rfl,by rw[KV hd,if_pos hb];rfl⟩
 ·
  have jE:n≠0:=fun e=>by rw[j6.2 e]at hb;simp at hb
  refine ag (ab 3 rfl (ae [8] ?_));refine aD rfl (fun hb=> ?_) (fun hb=> ?_)
  ·
   subst hb;refine ag (ab 1 rfl (ae [2] ?_));refine aE ⟨.inr rfl,_,.tmp rfl (.nil),?_⟩;exact⟨rfl,by rw[KV hd,if_neg jE];rfl⟩
  subst hb;refine aA (aj [] rfl ?_);refine ag (ab 1 rfl (ae [2] ?_));refine aE ⟨.inr rfl,_,.tmp rfl (.nil),?_⟩;exact⟨rfl,by rw[KV hd,if_neg jE];rfl⟩
end Go.aw
namespace Go.aw
open Go.Proofs Num
theorem wrap_u64(n:Int):IntKind.u64.wrap n=n%18446744073709551616:=rfl
theorem V8{x y:Nat}:(0≤kJ x y)↔y≤x:=by
 unfold kJ;split
 ·omega
 ·split <;> omega
theorem V9{H:Heap}{u v:Value}{f g:Bool}{n d m e K:Nat}(hf:rW H u f n d)(hg:rW H v g m e)(hd:0<d)(he:0<e)(h1:(ao n).length≤K)(h2:(ao d).length≤K)(h3:(ao m).length≤K)(h4:(ao e).length≤K)(hK:(K:Int)≤2199023255552):
 Fn Tryz.prog 182 #[u,v] H (KW H (cL f n d+cL g m e) (2*K+1)):=by
 obtain⟨un,ud,rfl,qa,Wa⟩:=id hf
 obtain⟨vm,ve,rfl,hvm,DB⟩:=id hg
 have rX:=pa n e
 have lF:=pa m d
 have Pk:=pa d e
 have KY:=Nat.mul_pos hd he
 have lE:=V5 (x:=n*e) (y:=m*d) (k:=2*K) (by omega) (by omega);refine aZ (args:=[_,_]) Tryz.func182 rfl rfl Tryz.ntmps182 rfl rfl fun w0=> ?_;refine aj [0,1] rfl ?_;refine ag (bW rfl rfl (bW rfl rfl (bn kr rfl (ae [2,3,4] ?_))));refine bP .bJ [0,1,2,3,5,6,7,8,4,9,10,11] follows (by kernel_rfl) ?_;refine ab 8 rfl (a8 rfl rfl (Bb qa DB (by omega) (by omega)) (fun _ _ h=>h.le) ?_);intro v1 H1 fH;refine a8 rfl rfl (Bb (hvm.le fH.le) (Wa.le fH.le) (by omega) (by omega)) (fun _ _ h=>h.le) ?_;intro v2 H2 ee;refine ab 2 rfl (ae [2,3,4,5,6] ?_);refine ag (ab 4 rfl (aF rfl rfl (Bb (Wa.le (fH.le.trans ee.le)) (DB.le (fH.le.trans ee.le)) (by omega) (by omega)) ?_));intro v3 H3 eH;have iD:=(fH.le.trans ee.le).trans eH.le;have di:=fH.nat.le (ee.le.trans eH.le);have gX:=ee.nat.le eH.le;have j7:=eH.nat;obtain⟨Pm,Pn,rfl,Po,Pp⟩:=id di;obtain⟨Wb,Wc,rfl,Wd,We⟩:=id gX;obtain⟨Pq,Pr,rfl,Ps,KZ⟩:=id j7;refine ab 1 rfl (ae [2,3,4,5,6,7] ?_);refine aq (ag (ab 4 rfl (OC Tryz.underlying4 rfl rfl (ae [2,3,4,5,6,7,27] ?_))));refine aD rfl (fun hb=> ?_) (fun hb=> ?_)
 ·
  have qL:f=g:=by simpa using hb
  subst qL;refine bP .bJ [0,1,2,3,5,4,6,7] follows (by kernel_rfl) ?_;refine ab 5 rfl (a8 rfl rfl (aer di gX (by omega) (by omega)) (fun _ _ h=>h.le) ?_);intro v4 H4 fI;have jF:=fI.nat;obtain⟨K1,K2,rfl,K3,K4⟩:=id jF;refine de ah rfl kr rfl rfl ?_;obtain⟨ti,ak,al⟩:=jm;refine aI (.inl ⟨rfl,rfl⟩) rfl rfl rfl ak al rfl rfl rfl (ae [4] ?_);obtain⟨bQ,aN,aO⟩:=jm;refine aE ⟨.inr rfl,_,.agg rfl Tryz.underlying179 aN aO (.nil),?_⟩;exact⟨iD.trans fI.le,f,n*e+m*d,d*e,⟨_,_,rfl,jF,j7.le fI.le⟩,KY,(V1 f hd he).symm,by omega,by omega⟩
 ·
  have qL:f≠g:=by simpa using hb
  refine aA (aj [2,3,4,5,6,7] rfl ?_);refine aq (ag (ab 2 rfl (aF rfl rfl (ae3 di gX (by omega)) ?_)));rintro v4 H4 ⟨rfl,rfl⟩;refine ab 1 rfl (ae [2,3,4,5,6,7,38] ?_);refine aD rfl (fun hb=> ?_) (fun hb=> ?_)
  ·
   have hb:m*d≤n*e:=V8.1 (by simpa using hb);have oc:=mH (Nat.sub_le (n*e) (m*d));refine bP .bJ [0,1,2,3,5,4,6,7] follows (by kernel_rfl) ?_;refine ab 5 rfl (a8 rfl rfl (VL di gX hb (by omega)) (fun _ _ h=>h.le) ?_);intro v4 H4 fI;have jF:=fI.nat;obtain⟨K1,K2,rfl,K3,K4⟩:=id jF;refine de ah rfl kr rfl rfl ?_;obtain⟨ti,ak,al⟩:=jm;refine aI (.inl ⟨rfl,rfl⟩) rfl rfl rfl ak al rfl rfl rfl (ae [4] ?_);obtain⟨bQ,aN,aO⟩:=jm;refine aE ⟨.inr rfl,_,.agg rfl Tryz.underlying179 aN aO (.nil),?_⟩;exact⟨iD.trans fI.le,f,n*e-m*d,d*e,⟨_,_,rfl,jF,j7.le fI.le⟩,KY,(Pf qL hd he hb).symm,by omega,by omega⟩
  have hb:¬m*d≤n*e:=fun h=>by have:=V8.2 h;simp at hb;omega
  have hb:n*e≤m*d:=by omega
  have oc:=mH (Nat.sub_le (m*d) (n*e));refine aA (aj [3,4,5,6,7] rfl ?_);refine bP .bJ [0,1,2,3,5,4,6,7] follows (by kernel_rfl) ?_;refine ab 5 rfl (a8 rfl rfl (VL gX di hb (by omega)) (fun _ _ h=>h.le) ?_);intro v4 H4 fI;have jF:=fI.nat;obtain⟨K1,K2,rfl,K3,K4⟩:=id jF;refine de ah rfl kr rfl rfl ?_;obtain⟨ti,ak,al⟩:=jm;refine aI (.inl ⟨rfl,rfl⟩) rfl rfl rfl ak al rfl rfl rfl (ae [4] ?_);obtain⟨bQ,aN,aO⟩:=jm;refine aE ⟨.inr rfl,_,.agg rfl Tryz.underlying179 aN aO (.nil),?_⟩;exact⟨iD.trans fI.le,g,m*d-n*e,d*e,⟨_,_,rfl,jF,j7.le fI.le⟩,KY,(V2 qL hd he hb).symm,by omega,by omega⟩
theorem Pt{H:Heap}{n:Int}(h1: -9223372036854775808≤n)(h2:n≤9223372036854775807):
 Fn Tryz.prog 155 #[.int .i64 n] H (nv H n.natAbs):=by
 refine aZ (args:=[_]) Tryz.func155 rfl rfl Tryz.ntmps155 rfl rfl fun w0=> ?_;refine aj [0] rfl ?_;refine ag (ab 1 rfl (ae [0] ?_));refine aq (ag (ab 2 rfl (ae [0,4] ?_)));refine aD rfl (fun hb=> ?_) (fun hb=> ?_)
 ·
  have hb:n<0:=by simpa using hb
  refine ag (ab 1 rfl (Vq ah rfl rfl rfl (ac4 rfl ?_)));rw[show IntKind.u64.wrap (-IntKind.u64.wrap n)=((n.natAbs:Nat):Int) by rw[wrap_u64,wrap_u64];omega];refine aF rfl rfl (KJ (by omega)) ?_;intro v1 H1 hp;refine ab 1 rfl (ae [2] ?_);refine aE ⟨.inr rfl,_,.tmp rfl (.nil),?_⟩;exact hp
 ·
  have hb:0≤n:=by simpa using hb
  refine aA (aj [0] rfl ?_);refine ag (ab 1 rfl (Vq ah rfl rfl rfl ?_));rw[show IntKind.u64.wrap n=((n.natAbs:Nat):Int) by rw[wrap_u64];omega];refine aF rfl rfl (KJ (by omega)) ?_;intro v1 H1 hp;refine ab 1 rfl (ae [2] ?_);refine aE ⟨.inr rfl,_,.tmp rfl (.nil),?_⟩;exact hp
theorem Pu{H:Heap}{n:Int}(h1: -9223372036854775808≤n)(h2:n≤9223372036854775807):
 Fn Tryz.prog 85 #[.int .i64 n] H (kt H (n:Rat)):=by
 have gN:(ao n.natAbs).length≤3:=jn.2 (by rw[cn];omega);refine aZ (args:=[_]) Tryz.func85 rfl rfl Tryz.ntmps85 rfl rfl fun w0=> ?_;refine aj [0] rfl ?_;refine ag (bn bZ rfl (ae [0,2] ?_));refine ag (ab 3 rfl (aF rfl rfl (Pt h1 h2) ?_));intro v1 H1 hp;have di:=hp.nat;obtain⟨Pm,Pn,rfl,Po,Pp⟩:=id di;refine cR Tryz.underlying177 eG rfl rfl rfl rfl rfl rfl rfl ?_;intro gb bo;refine de ah rfl kr rfl rfl (aF rfl rfl (yW (f:=decide (n<0)) (n:=n.natAbs) (d:=1) ⟨_,_,rfl,di.le (Heap.bC _ bo),yV⟩ (by decide) (by omega) (by rw[vk];decide)) ?_);rintro v1 H2 ⟨hle,hq⟩;rw[Gy]at hq;obtain⟨u1,w1,rfl,eO,gA⟩:=id hq;obtain⟨mK,mL,rfl,mM,mN⟩:=id eO;obtain⟨DC,DD,rfl,DE,DF⟩:=id gA;obtain⟨ti,ak,al⟩:=a6;refine aI (.inl ⟨rfl,rfl⟩) rfl rfl rfl ak al rfl rfl rfl (ae [2] ?_);obtain⟨bQ,aN,aO⟩:=a6;refine aE ⟨.inr rfl,_,.agg rfl Tryz.underlying31 aN aO (.nil),?_⟩;exact⟨(hp.le.trans (Heap.bC _ bo)).trans hle,hq⟩
theorem Wf{H:Heap}{a b:Int}(h1: -9223372036854775808≤a)(h2:a≤9223372036854775807)(h3: -9223372036854775808≤b)(h4:b≤9223372036854775807):
 Fn Tryz.prog 133 #[.int .i64 a,.int .i64 b] H (kt H ((a:Rat)/(b:Rat))):=by
 have gN:(ao a.natAbs).length≤3:=jn.2 (by rw[cn];omega)
 have dV:(ao b.natAbs).length≤3:=jn.2 (by rw[cn];omega);refine aZ (args:=[_,_]) Tryz.func133 rfl rfl Tryz.ntmps133 rfl rfl fun w0=> ?_;refine aj [0,1] rfl ?_;refine ag (bn bZ rfl (ae [0,1,4] ?_));refine aq (ag (ab 2 rfl (ae [0,1,4,6] ?_)));refine aD rfl (fun hb=> ?_) (fun hb=> ?_)
 ·
  have hb:b=0:=by simpa using hb
  subst hb;refine ag (aF rfl rfl (Pu (n:=0) (by decide) (by decide)) ?_);rintro v1 H2 ⟨hle,hq⟩;obtain⟨u1,w1,rfl,eO,gA⟩:=id hq;obtain⟨mK,mL,rfl,mM,mN⟩:=id eO;obtain⟨DC,DD,rfl,DE,DF⟩:=id gA;obtain⟨ti,ak,al⟩:=a6;refine aI (.inl ⟨rfl,rfl⟩) rfl rfl rfl ak al rfl rfl rfl (ae [4] ?_);obtain⟨bQ,aN,aO⟩:=a6;refine aE ⟨.inr rfl,_,.agg rfl Tryz.underlying31 aN aO (.nil),?_⟩;exact⟨hle,by rw[show (a:Rat)/((0:Int):Rat)=((0:Int):Rat) by simp[Rat.div_def]];exact hq⟩
 ·
  have hb:b≠0:=by simpa using hb
  refine aA (aj [0,1,4] rfl ?_);refine ag (ab 4 rfl (FQ Tryz.underlying4 rfl rfl (ab 1 rfl (aF rfl rfl (Pt h1 h2) ?_))));intro v1 H1 fH;refine ab 1 rfl (aF rfl rfl (Pt h3 h4) ?_);intro v2 H2 ee;have di:=fH.nat.le ee.le;have gX:=ee.nat;obtain⟨Pm,Pn,rfl,Po,Pp⟩:=id di;obtain⟨Wb,Wc,rfl,Wd,We⟩:=id gX;refine de ah rfl kr rfl rfl (aF rfl rfl (yW (f:=decide (a<0) != decide (b<0)) (n:=a.natAbs) (d:=b.natAbs) ⟨_,_,rfl,di,gX⟩ (by omega) (by omega) (by omega)) ?_);rintro v1 H3 ⟨hle,hq⟩;rw[V4]at hq;obtain⟨u1,w1,rfl,eO,gA⟩:=id hq;obtain⟨mK,mL,rfl,mM,mN⟩:=id eO;obtain⟨DC,DD,rfl,DE,DF⟩:=id gA;obtain⟨ti,ak,al⟩:=a6;refine aI (.inl ⟨rfl,rfl⟩) rfl rfl rfl ak al rfl rfl rfl (ae [4] ?_);obtain⟨bQ,aN,aO⟩:=a6;refine aE ⟨.inr rfl,_,.agg rfl Tryz.underlying31 aN aO (.nil),?_⟩;exact⟨(fH.le.trans ee.le).trans hle,hq⟩
end Go.aw
namespace Go.aw
open Go.Proofs Num
theorem DG{H:Heap}{v:Value}{q:Rat}{N:Nat}(hv:ct H v q N)(hN:(N:Int)≤1099511627776):
 Fn Tryz.prog 86 #[v] H (kt H q):=by
 obtain⟨bf,bu,bw,od,oe,rfl,_⟩:=id hv;refine aZ (args:=[_]) Tryz.func86 rfl rfl Tryz.ntmps86 rfl rfl fun w0=> ?_;refine aj [0] rfl ?_;refine ag (bW rfl rfl (bn bZ rfl (ae [1,2] ?_)));refine ag (ab 1 rfl (aF rfl rfl (tx hv (by omega)) ?_));rintro v1 H1 ⟨fm,f1,n1,d1,nA,fh,rfl,cH,rX⟩;obtain⟨wF,wG,rfl,gM,gY⟩:=id nA;obtain⟨wH,wI,rfl,wJ,wK⟩:=id gM;obtain⟨wL,wM,rfl,wN,wO⟩:=id gY;refine aF rfl rfl (yW nA fh (by omega) (by omega)) ?_;rintro w2 G2 ⟨dT,bO⟩;obtain⟨u2,x2,rfl,fR,eR⟩:=id bO;obtain⟨pd,pe,rfl,pf,pg⟩:=id fR;obtain⟨ph,pj,rfl,po,px⟩:=id eR;obtain⟨ti,ak,al⟩:=a6;refine aI (.inl ⟨rfl,rfl⟩) rfl rfl rfl ak al rfl rfl rfl (ae [2] ?_);obtain⟨bQ,aN,aO⟩:=a6;refine aE ⟨.inr rfl,_,.agg rfl Tryz.underlying31 aN aO (.nil),?_⟩;exact⟨fm.trans dT,bO⟩
theorem Wg{H:Heap}{v:Value}{q:Rat}{N:Nat}(hv:ct H v q N)(hN:(N:Int)≤1099511627776):
 Fn Tryz.prog 84 #[v] H (fun v H'=>Heap.le H H'∧v = .int .i64 (ik q)):=by
 obtain⟨bf,bu,bw,od,oe,rfl,_⟩:=id hv;refine aZ (args:=[_]) Tryz.func84 rfl rfl Tryz.ntmps84 rfl rfl fun w0=> ?_;refine aj [0] rfl ?_;refine ag (bW rfl rfl (ab 1 rfl (ae [1] ?_)));refine ag (ab 1 rfl (aF rfl rfl (tx hv (by omega)) ?_));rintro v1 H1 ⟨fm,f1,n1,d1,nA,fh,rfl,cH,rX⟩;obtain⟨wF,wG,rfl,gM,gY⟩:=id nA;obtain⟨wH,wI,rfl,wJ,wK⟩:=id gM;obtain⟨wL,wM,rfl,wN,wO⟩:=id gY;refine aF rfl rfl (ae6 nA fh) ?_;rintro v2 H2 ⟨rfl,rfl⟩;refine ab 1 rfl (ae [2] ?_);refine aE ⟨.inr rfl,_,.tmp rfl (.nil),?_⟩;exact⟨fm,rfl⟩
theorem ae7{H:Heap}{v:Value}{q:Rat}{N:Nat}(hv:ct H v q N)(hN:(N:Int)≤1099511627776):
 Fn Tryz.prog 131 #[v] H (kt H (-q)):=by
 obtain⟨bf,bu,bw,od,oe,rfl,_⟩:=id hv;refine aZ (args:=[_]) Tryz.func131 rfl rfl Tryz.ntmps131 rfl rfl fun w0=> ?_;refine aj [0] rfl ?_;refine ag (bW rfl rfl (bn bZ rfl (ae [1,2] ?_)));refine ag (ab 1 rfl (aF rfl rfl (tx hv (by omega)) ?_));rintro v1 H1 ⟨fm,f1,n1,d1,nA,fh,rfl,cH,rX⟩;obtain⟨wF,wG,rfl,gM,gY⟩:=id nA;obtain⟨wH,wI,rfl,wJ,wK⟩:=id gM;obtain⟨wL,wM,rfl,wN,wO⟩:=id gY;refine bn kr rfl ?_;obtain⟨ti,ak,al⟩:=jm;refine aI (.inl ⟨rfl,rfl⟩) rfl rfl rfl ak al rfl rfl rfl (ae [2,3] ?_);refine ag (vr 4 ?_);obtain⟨ti,ak,al⟩:=Gc;refine aI (.inr rfl) rfl rfl rfl ak al rfl rfl rfl (ae [2,3] ?_);refine ag (ab 1 rfl (aF rfl rfl (yW (f:= !f1) ⟨_,_,rfl,gM,gY⟩ fh (by omega) (by omega)) ?_));rintro w2 G2 ⟨dT,bO⟩;rw[←Pg]at bO;obtain⟨u2,x2,rfl,fR,eR⟩:=id bO;obtain⟨pd,pe,rfl,pf,pg⟩:=id fR;obtain⟨ph,pj,rfl,po,px⟩:=id eR;obtain⟨ti,ak,al⟩:=a6;refine aI (.inl ⟨rfl,rfl⟩) rfl rfl rfl ak al rfl rfl rfl (ae [2] ?_);obtain⟨bQ,aN,aO⟩:=a6;refine aE ⟨.inr rfl,_,.agg rfl Tryz.underlying31 aN aO (.nil),?_⟩;exact⟨fm.trans dT,bO⟩
theorem Wh{H:Heap}{v v2:Value}{q q2:Rat}{N:Nat}(hv:ct H v q N)(dI:ct H v2 q2 N)(hN:(N:Int)≤1099511627776):
 Fn Tryz.prog 115 #[v,v2] H (kt H (q+q2)):=by
 obtain⟨bf,bu,bw,od,oe,rfl,_⟩:=id hv
 obtain⟨cf,cu,cw,yX,yY,rfl,_⟩:=id dI;refine aZ (args:=[_,_]) Tryz.func115 rfl rfl Tryz.ntmps115 rfl rfl fun w0=> ?_;refine aj [0,1] rfl ?_;refine ag (bW rfl rfl (bW rfl rfl (bn bZ rfl (ae [2,3,4] ?_))));refine bP .bJ [0,2,1,3,4,5,6] follows (by kernel_rfl) ?_;refine ab 2 rfl (a8 rfl rfl (tx hv (by omega)) (fun _ _ h=>h.le) ?_);rintro v1 H1 ⟨fm,f1,n1,d1,nA,fh,rfl,cH,rX⟩;obtain⟨wF,wG,rfl,gM,gY⟩:=id nA;obtain⟨wH,wI,rfl,wJ,wK⟩:=id gM;obtain⟨wL,wM,rfl,wN,wO⟩:=id gY;refine a8 rfl rfl (tx (dI.le fm) (by omega)) (fun _ _ h=>h.le) ?_;rintro v2 H2 ⟨fc,f2,n2,d2,yZ,ks,rfl,dC,lF⟩;obtain⟨DH,DI,rfl,l7,lG⟩:=id yZ;obtain⟨Bi,Bj,rfl,DJ,DK⟩:=id l7;obtain⟨Bk,Bl,rfl,DL,DM⟩:=id lG;refine a8 rfl rfl (V9 (K:=N+1) (nA.le fc) yZ fh ks cH rX dC lF (by omega)) (fun _ _ h=>h.le) ?_;rintro v3 H3 ⟨iD,f3,n3,d3,GA,K5,K6,gN,Pk⟩;obtain⟨un3,ud3,rfl,ae8,ae9⟩:=id GA;refine a8 rfl rfl (yW GA K5 (by omega) (by omega)) (fun _ _ h=>h.le) ?_;rintro w4 G4 ⟨ll,cI⟩;rw[K6]at cI;obtain⟨u4,x4,rfl,wP,l8⟩:=id cI;obtain⟨K7,K8,rfl,K9,La⟩:=id wP;obtain⟨DN,DO,rfl,DP,DQ⟩:=id l8;obtain⟨ti,ak,al⟩:=a6;refine aI (.inl ⟨rfl,rfl⟩) rfl rfl rfl ak al rfl rfl rfl ?_
 refine ae [4] ?_;obtain⟨bQ,aN,aO⟩:=a6;refine aE ⟨.inr rfl,_,.agg rfl Tryz.underlying31 aN aO (.nil),?_⟩;exact⟨((fm.trans fc).trans iD).trans ll,cI⟩
theorem Pv{H:Heap}{v v2:Value}{q q2:Rat}{N:Nat}(hv:ct H v q N)(dI:ct H v2 q2 N)(hN:(N:Int)≤1099511627776):
 Fn Tryz.prog 158 #[v,v2] H (kt H (q*q2)):=by
 obtain⟨bf,bu,bw,od,oe,rfl,_⟩:=id hv
 obtain⟨cf,cu,cw,yX,yY,rfl,_⟩:=id dI;refine aZ (args:=[_,_]) Tryz.func158 rfl rfl Tryz.ntmps158 rfl rfl fun w0=> ?_;refine aj [0,1] rfl ?_;refine ag (bW rfl rfl (bW rfl rfl (bn bZ rfl (ae [2,3,4] ?_))));refine bP .bJ [0,2,1,3,4,5,6,7] follows (by kernel_rfl) ?_;refine ab 2 rfl (a8 rfl rfl (tx hv (by omega)) (fun _ _ h=>h.le) ?_);rintro v1 H1 ⟨fm,f1,n1,d1,nA,fh,rfl,cH,rX⟩;obtain⟨wF,wG,rfl,gM,gY⟩:=id nA;obtain⟨wH,wI,rfl,wJ,wK⟩:=id gM;obtain⟨wL,wM,rfl,wN,wO⟩:=id gY;refine a8 rfl rfl (tx (dI.le fm) (by omega)) (fun _ _ h=>h.le) ?_;rintro v2 H2 ⟨fc,f2,n2,d2,yZ,ks,rfl,dC,lF⟩;obtain⟨DH,DI,rfl,l7,lG⟩:=id yZ;obtain⟨Bi,Bj,rfl,DJ,DK⟩:=id l7;obtain⟨Bk,Bl,rfl,DL,DM⟩:=id lG;have pb:=pa n1 n2;have oZ:=pa d1 d2;refine bn kr rfl (bn kr rfl ?_);obtain⟨ti,ak,al⟩:=jm;refine aI (.inl ⟨rfl,rfl⟩) rfl rfl rfl ak al rfl rfl rfl ?_;obtain⟨ti,ak,al⟩:=jm;refine aI (.inl ⟨rfl,rfl⟩) rfl rfl rfl ak al rfl rfl rfl (ae [4,5,6] ?_);refine bP .bJ [0,1,2,3,4,5,6,7,8,10,11,12,13,9,14,15,16,17] follows (by kernel_rfl) ?_;refine ab 4 rfl (FQ Tryz.underlying4 rfl rfl ?_)
 refine ab 8 rfl (a8 rfl rfl (Bb (gM.le fc) l7 (by omega) (by omega)) (fun _ _ h=>h.le) ?_);intro v3 H3 eH;refine a8 rfl rfl (Bb (gY.le (fc.trans eH.le)) (lG.le eH.le) (by omega) (by omega)) (fun _ _ h=>h.le) ?_;intro v4 H4 fI;have j7:=eH.nat.le fI.le;have jF:=fI.nat;obtain⟨Pq,Pr,rfl,Ps,KZ⟩:=id j7;obtain⟨K1,K2,rfl,K3,K4⟩:=id jF;refine de ah rfl kr rfl rfl (a8 rfl rfl (yW (f:=f1 != f2) (n:=n1*n2) (d:=d1*d2) ⟨_,_,rfl,j7,jF⟩ (Nat.mul_pos fh ks) (by omega) (by omega)) (fun _ _ h=>h.le) ?_);rintro w4 G4 ⟨ll,cI⟩;rw[←Ph]at cI;obtain⟨u4,x4,rfl,wP,l8⟩:=id cI;obtain⟨K7,K8,rfl,K9,La⟩:=id wP;obtain⟨DN,DO,rfl,DP,DQ⟩:=id l8;obtain⟨ti,ak,al⟩:=a6;refine aI (.inl ⟨rfl,rfl⟩) rfl rfl rfl ak al rfl rfl rfl (ae [4] ?_);obtain⟨bQ,aN,aO⟩:=a6;refine aE ⟨.inr rfl,_,.agg rfl Tryz.underlying31 aN aO (.nil),?_⟩;exact⟨(((fm.trans fc).trans eH.le).trans fI.le).trans ll,cI⟩
theorem Wi{H:Heap}{v v2:Value}{q q2:Rat}{N:Nat}(hv:ct H v q N)(dI:ct H v2 q2 N)(hN:(N:Int)≤1099511627776):
 Fn Tryz.prog 186 #[v,v2] H (fun v H'=>Heap.le H H'∧∃r,v = .tuple #[r,.bool (decide (q2≠0))]∧bK H' r (q/q2)):=by
 obtain⟨bf,bu,bw,od,oe,rfl,_⟩:=id hv
 obtain⟨cf,cu,cw,yX,yY,rfl,_⟩:=id dI;refine aZ (args:=[_,_]) Tryz.func186 rfl rfl Tryz.ntmps186 rfl rfl fun w0=> ?_;refine aj [0,1] rfl ?_;refine ag (bW rfl rfl (bW rfl rfl (bn bZ rfl (ab 1 rfl (ae [2,3,4] ?_)))));refine bP .bJ [0,2,1,3,4,5,6,7] follows (by kernel_rfl) ?_;refine ab 2 rfl (a8 rfl rfl (tx hv (by omega)) (fun _ _ h=>h.le) ?_);rintro v1 H1 ⟨fm,f1,n1,d1,nA,fh,rfl,cH,rX⟩;obtain⟨wF,wG,rfl,gM,gY⟩:=id nA;obtain⟨wH,wI,rfl,wJ,wK⟩:=id gM;obtain⟨wL,wM,rfl,wN,wO⟩:=id gY;refine a8 rfl rfl (tx (dI.le fm) (by omega)) (fun _ _ h=>h.le) ?_;rintro v2 H2 ⟨fc,f2,n2,d2,yZ,ks,rfl,dC,lF⟩;obtain⟨DH,DI,rfl,l7,lG⟩:=id yZ;obtain⟨Bi,Bj,rfl,DJ,DK⟩:=id l7;obtain⟨Bk,Bl,rfl,DL,DM⟩:=id lG;have pb:=pa n1 d2;have oZ:=pa d1 n2;refine bn kr rfl (bn kr rfl ?_);obtain⟨ti,ak,al⟩:=jm;refine aI (.inl ⟨rfl,rfl⟩) rfl rfl rfl ak al rfl rfl rfl ?_;obtain⟨ti,ak,al⟩:=jm;refine aI (.inl ⟨rfl,rfl⟩) rfl rfl rfl ak al rfl rfl rfl (ae [4,6,7] ?_);refine aq (ag (ab 4 rfl (ae [4,6,7,15] ?_)));refine aD rfl (fun hb=> ?_) (fun hb=> ?_)
 ·
  have hb:n2=0:=j6.1 (by simpa using hb);subst hb;refine ag (aF rfl rfl (Pu (n:=0) (by decide) (by decide)) ?_);rintro w4 G4 ⟨ll,cI⟩;obtain⟨u4,x4,rfl,wP,l8⟩:=id cI;obtain⟨K7,K8,rfl,K9,La⟩:=id wP;obtain⟨DN,DO,rfl,DP,DQ⟩:=id l8;obtain⟨ti,ak,al⟩:=a6;refine aI (.inl ⟨rfl,rfl⟩) rfl rfl rfl ak al rfl rfl rfl (ab 1 rfl (ae [4,5] ?_));obtain⟨bQ,aN,aO⟩:=a6;refine aE ⟨.inr rfl,_,.agg rfl Tryz.underlying31 aN aO (.tmp rfl (.nil)),?_⟩;refine⟨(fm.trans fc).trans ll,_,?_,by rw[wC,Rat.div_def,Rat.inv_zero,Rat.mul_zero];exact cI⟩;rw[wC];rfl
 ·
  have jE:0<n2:=Nat.pos_of_ne_zero fun e=>by rw[j6.2 e]at hb;simp at hb
  refine aA (aj [4,6,7] rfl ?_);refine bP .bJ [0,1,2,3,4,5,6,7,8,10,11,12,13,9,14,15,16,17,18] follows (by kernel_rfl) ?_;refine ab 4 rfl (FQ Tryz.underlying4 rfl rfl (ab 8 rfl (a8 rfl rfl (Bb (gM.le fc) lG (by omega) (by omega)) (fun _ _ h=>h.le) ?_)));intro v3 H3 eH;refine a8 rfl rfl (Bb (gY.le (fc.trans eH.le)) (l7.le eH.le) (by omega) (by omega)) (fun _ _ h=>h.le) ?_;intro v4 H4 fI;have j7:=eH.nat.le fI.le;have jF:=fI.nat;obtain⟨Pq,Pr,rfl,Ps,KZ⟩:=id j7;obtain⟨K1,K2,rfl,K3,K4⟩:=id jF;refine de ah rfl kr rfl rfl (a8 rfl rfl (yW (f:=f1 != f2) (n:=n1*d2) (d:=d1*n2) ⟨_,_,rfl,j7,jF⟩ (Nat.mul_pos fh jE) (by omega) (by omega)) (fun _ _ h=>h.le) ?_);rintro w4 G4 ⟨ll,cI⟩;rw[←Pj jE]at cI;obtain⟨u4,x4,rfl,wP,l8⟩:=id cI;obtain⟨K7,K8,rfl,K9,La⟩:=id wP;obtain⟨DN,DO,rfl,DP,DQ⟩:=id l8;obtain⟨ti,ak,al⟩:=a6;refine aI (.inl ⟨rfl,rfl⟩) rfl rfl rfl ak al rfl rfl rfl (ab 1 rfl (ae [4,5] ?_));obtain⟨bQ,aN,aO⟩:=a6;refine aE ⟨.inr rfl,_,.agg rfl Tryz.underlying31 aN aO (.tmp rfl (.nil)),?_⟩;refine⟨(((fm.trans fc).trans eH.le).trans fI.le).trans ll,_,?_,cI⟩
  have a7:cL f2 n2 d2≠0:=fun e=>by rw[Pe ks]at e;omega
  rw[show decide (cL f2 n2 d2≠0)=true from decide_eq_true a7];rfl
end Go.aw
namespace Go.aw
open Go
def rem(H:Heap)(gs:List Nat):Heap:=fun g=>if g∈gs then none else H g
theorem rem_in{H:Heap}{gs:List Nat}{g:Nat}(h:g∈gs):rem H gs g=none:=by simp[rem,h]
theorem bM{H:Heap}{gs:List Nat}{g:Nat}(h:¬g∈gs):rem H gs g=H g:=by simp[rem,h]
theorem tz(H:Heap):rem H []=H:=by funext g;simp[rem]
theorem bt(H:Heap)(gs:List Nat):Heap.le (rem H gs) H:=fun g e h=>by
 by_cases hg:g∈gs
 ·rw[rem_in hg]at h;cases h
 ·rw[bM hg]at h;exact⟨e,h,.refl e⟩
theorem og{H H':Heap}(gs:List Nat)(h:Heap.le H H'):Heap.le (rem H gs) (rem H' gs):=fun g e he=>by
 by_cases hg:g∈gs
 ·rw[rem_in hg]at he;cases he
 ·rw[bM hg]at he⊢;exact h g e he
theorem cK{H:Heap}{gs:List Nat}{g:Nat}(e:Ent)(h:g∈gs):rem (ins H g e) gs=rem H gs:=by
 funext k
 by_cases hk:k∈gs
 ·rw[rem_in hk,rem_in hk]
 ·rw[bM hk,bM hk,bg _ _ (fun(e':k=g)=>hk (by rw[e'];exact h))]
theorem rY{H:Heap}{gs:List Nat}{g:Nat}(e:Ent)(h:¬g∈gs):rem (ins H g e) gs=ins (rem H gs) g e:=by
 funext k
 by_cases hk:k∈gs
 ·rw[rem_in hk,bg _ _ (fun(e':k=g)=>h (by rw[←e'];exact hk)),rem_in hk]
 ·rw[bM hk]
  unfold ins
  rw[bM hk]
theorem tA{H:Heap}{gs:List Nat}{g:Nat}(e:Ent)(h:H g=none):rem (ins H g e) (g::gs)=rem H gs:=by
 funext k
 by_cases hk:k=g
 ·subst hk
  rw[rem_in (List.mem_cons_self ..)]
  by_cases hg:k∈gs
  ·rw[rem_in hg]
  ·rw[bM hg,h]
 ·by_cases hg:k∈gs
  ·rw[rem_in hg,rem_in (List.mem_cons_of_mem _ hg)]
  ·rw[bM hg,bM (by simp[hk,hg]),bg _ _ hk]
theorem GB(H:Heap)(g:Nat)(gs:List Nat):Heap.le (rem H (g::gs)) (rem H gs):=fun k e h=>by
 by_cases hk:k∈g::gs
 ·rw[rem_in hk]at h;cases h
 ·rw[bM hk]at h
  exact⟨e,by rw[bM (fun h'=>hk (List.mem_cons_of_mem _ h'))];exact h,.refl e⟩
theorem Den.rem{H:Heap}{w:World}(h:Den H w)(gs:List Nat):Den (rem H gs) w:=h.le (bt H gs)
structure y5(gs:List Nat)(bG:Value→Heap→Prop)(H:Heap)(v:Value)(H':Heap):Prop where
 post:bG v (rem H' gs)
 same:∀g,g∈gs→H' g=H g
theorem Fn.frame{P:Program}{f:FuncId}{args:Array Value}{H:Heap}{bG:Value→Heap→Prop}{gs:List Nat}(jT:∀g,g∈gs→H g≠none)(h:Fn P f args (rem H gs) bG):Fn P f args H (y5 gs bG H):=by
 refine⟨h.ent,fun w hd=>(h.run w (hd.rem gs)).mono fun e w' ⟨v,he,K,hp,m8,hf⟩=>⟨v,he,fun g=>if g∈gs then H g else K g,?_,?_,?_⟩⟩
 ·have hk:∀g,g∈gs→K g=none:=fun g hg=>by
   cases hh:H g with
   | none=>exact absurd hh (jT g hg)
   | some e=>exact(hf.keep g (hd.lt hh) (rem_in hg)).2
  have e1:aw.rem (fun g=>if g∈gs then H g else K g) gs=K:=by
   funext g
   by_cases hg:g∈gs
   ·rw[rem_in hg,hk g hg]
   ·rw[bM hg];simp[hg]
  exact⟨by rw[e1];exact hp,fun g hg=>by simp[hg]⟩
 ·intro g e hg
  by_cases hm:g∈gs
  ·simp only[hm,if_true]at hg
   obtain⟨o,h1,h2⟩:=hd g e hg
   exact⟨o,by rw[(hf.keep g (hd.lt hg) (rem_in hm)).1];exact h1,h2⟩
  ·simp only[hm,if_false]at hg
   exact m8 g e hg
 ·refine⟨hf.os,hf.tape,hf.output,hf.size,fun g hg h0=> ?_,hf.form⟩
  have hm:¬g∈gs:=fun hm=>jT g hm h0
  have h1:=hf.keep g hg (by rw[bM hm];exact h0)
  exact⟨h1.1,by simp only[hm,if_false];exact h1.2⟩
theorem y5.le{gs:List Nat}{bG:Value→Heap→Prop}{H H':Heap}{v:Value}(h:y5 gs bG H v H')(hl:∀v K,bG v K→Heap.le (rem H gs) K):Heap.le H H':=fun g e hg=>by
 by_cases hm:g∈gs
 ·exact⟨e,by rw[h.same g hm];exact hg,.refl e⟩
 ·obtain⟨e',h1,h2⟩:=hl v _ h.post g e (by rw[bM hm];exact hg)
  rw[bM hm]at h1
  exact⟨e',h1,h2⟩
theorem App.rem{H H':Heap}{v v':Value}{e sz n:Nat}{xs:List Value}{gs:List Nat}(h:App H v e sz n xs v' H')(hg:∀g,g∈gs→H g≠none)(hv:∀g,g∈gs→v.ownBlock≠some g):
  App (aw.rem H gs) v e sz n xs v' (aw.rem H' gs)∧∀g,g∈gs→H' g=H g:=by
 have hs:∀g,g∈gs→H' g=H g:=fun g hm=>by
  cases hh:H g with
  | none=>exact absurd hh (hg g hm)
  | some ent=>exact h.same g ent hh (hv g hm)
 have Dk:∀g,v'.ownBlock=some g→¬g∈gs:=fun g h1 hm=>by
  rcases h.at_ with h2 | ⟨g',h2,h3⟩
  ·exact hv g hm (h2▸h1)
  ·rw[h2]at h1
   cases h1
   exact hg _ hm h3
 refine⟨⟨h.own.same fun g h1=>bM (Dk g h1),og gs h.le,fun k ent hk a7=> ?_,?_⟩,hs⟩
 ·by_cases hm:k∈gs
  ·rw[rem_in hm]at hk;cases hk
  ·rw[bM hm]at hk⊢;exact h.same k ent hk a7
 ·rcases h.at_ with h2 | ⟨g',h2,h3⟩
  ·exact .inl h2
  ·refine .inr ⟨g',h2,?_⟩
   rw[bM (Dk g' h2)];exact h3
section
variable {P:Program} {n:Nat} {tb:Tb} {all:Array Oper} {s:St} {H:Heap} {md:Mode} {K:St→Heap→Prop} {r:List Oper} {dst:Option Nat} {ty:TypeId} {pos:String} {after:Array Edge} {gd:Option (Nat×Bool)}
theorem Wj{f:Operand}{kX:FuncId}{args:List Value}{xs:List Operand}{ts:Array TypeId}{bG:Value→Heap→Prop}(hf:ev s f=some (.func (.func kX) #[] #[]))(hx:qF s xs=some args)
  (h:Fn P kX args.toArray H bG) (hk:∀v H',bG v H'→aQ P n all .uM r (bA s dst (.val v)) H' K) (hg:cj all s gd=some true:=by rfl) (nb:Mode.uM.nb s dst=true:=by rfl):aQ P n all .uM (⟨dst,.call ⟨.value f,xs.toArray,ts⟩,ty,pos,after,gd⟩::r) s H K:=
 .jf bG (.inl FX) nb (FW (cap:=[]) hf hx hg (by simpa using h)) trivial fun v H' hp _=>hk v H' hp
theorem Wk:∀(us:List Value)(A B:List Value)(p:Nat),(∀(i:Nat)(w:Value),A[i]? = some w→B[i]? = some w)→p+us.length≤A.length→∀(i:Nat)(w:Value),(aM A p us)[i]? = some w→(aM B p us)[i]? = some w:=by
 intro us
 induction us with
 | nil=>intro A B p h _ i w hw;exact h i w hw
 | cons x us ih=>
  intro A B p h hl i w hw
  simp only[List.length_cons]at hl
  refine ih (A.set p x) (B.set p x) (p+1) (fun i w hw=> ?_) (by simp;omega) i w hw
  by_cases e:i=p
  ·subst e
   have hA:i<A.length:=by omega
   have hB:i<B.length:=(List.getElem?_eq_some_iff.1 (h i _ (List.getElem?_eq_getElem hA))).1
   rw[List.getElem?_set_self hA]at hw
   rw[List.getElem?_set_self hB];exact hw
  ·rw[List.getElem?_set_ne (fun e'=>e e'.symm)]at hw⊢
   exact h i w hw
theorem ma{t:TypeId}{x y:Operand}{g o sz:Nat}{ent:Ent}{v:Value}{vs:List Value}{ii:TypeInfo}(eZ:md = .plain∨md = .gH)(hx:ev s x=some (.pointer (some ⟨g,o,none⟩)))(hg:H g=some ent)(cE:ent.own=true)(lC:o+sz≤ent.xs.length)
  (wm:P.info? t=some ii) (cQ:ii.size=sz) (hy:ev s y=some v) (hv:v.cells=vs.toArray) (ig:vs.length=sz) (h1:vs.all yH=true)
  (hk:aQ P n all md r s (ins H g {ent with xs:=aM ent.xs o vs}) K) (iA:cj all s gd=some true:=by rfl):aQ P n all md (⟨none,.store t x y,ty,pos,after,gd⟩::r) s H K:=by
 refine .jf (fun _ H'=>H'=ins H g {ent with xs:=aM ent.xs o vs}) (.inr (.inl rfl)) (by rcases eZ with rfl | rfl <;> rfl) (fun a w ha hd=> ?_) (by rcases eZ with rfl | rfl <;> first | trivial | exact .inl rfl) fun _ H' hH _=>by rw[hH];exact hk
 refine⟨jY ha (lA (o:=⟨none,.store t x y,ty,pos,after,gd⟩) iA),?_⟩
 obtain⟨ob,h2,cur,fz,rfl,h3,h4,h5⟩:=hd g ent hg
 have oT:=h5 cE
 subst oT
 have F3:cur=cur.toList.toArray:=by simp
 have hlen:ent.xs.length≤cur.toList.length:=by
  rcases Nat.eq_zero_or_pos ent.xs.length with h | h
  ·omega
  ·have hx:=h4 (ent.xs.length-1) _ (List.getElem?_eq_getElem (by omega))
   have:=(Array.getElem?_eq_some_iff.1 hx).1
   simp;omega
 rw[F3]at h2
 obtain⟨w',h6,h7,h8,h9,jP,ji,AT⟩:=Kp (P:=P) vs cur.toList w o 0 h2 (fun u hu=>List.all_eq_true.1 h1 u hu) (by omega)
 have hex:(execOp a.eval ⟨none,.store t x y,ty,pos,after,gd⟩).run P w = .ok .skip w':=by
  simp[execOp,bT ha hx,bT ha hy,Instr.storeAt,Instr.sureAddr,storeVar,sizeOf,typeInfo,wm,cQ,hv,ig,h6]
 unfold lX
 rw[hex]
 refine⟨_,rfl,Di (o:= .cells (aM cur.toList (o+0) vs).toArray ent.elem (0,0)) hd h7 h8 h9 (by omega) (fun q _ hq=>ji q hq) AT ⟨_,(0,0),rfl,?_,?_,fun _=>rfl⟩ (.inl ⟨_,hg,cE,cE,rfl,rfl⟩)⟩
 ·simp[FU,h3]
 ·intro q u hq
  have:=Wk vs ent.xs cur.toList o (fun i w hw=>by have:=h4 i w hw;simpa using this) (by omega) q u hq
  simpa using this
end
end Go.aw
namespace Go.aw
open Go.Proofs Num
def gC(xs:List Value)(i sz:Nat):List Value:=(xs.drop (i*sz)).take sz
theorem Pw{xs:List Value}{i sz q:Nat}{v:Value}(h:(gC xs i sz)[q]? = some v):xs[i*sz+q]? = some v:=by
 unfold gC at h
 rw[List.getElem?_take]at h
 split at h
 ·rwa [List.getElem?_drop]at h
 ·cases h
theorem afa{xs:List Value}{i sz n:Nat}(h:xs.length=n*sz)(hi:i<n):(gC xs i sz).length=sz:=by
 unfold gC
 rw[List.length_take,List.length_drop,h]
 have:(i+1)*sz≤n*sz:=Nat.mul_le_mul_right _ hi
 rw[Nat.add_mul]at this
 omega
theorem Wl{xs ys:List Value}{i sz:Nat}(h:∀q,q<sz→xs[i*sz+q]? = ys[i*sz+q]?):gC xs i sz=gC ys i sz:=by
 apply List.ext_getElem?
 intro q
 unfold gC
 rw[List.getElem?_take,List.getElem?_take]
 split
 ·rename_i hq
  rw[List.getElem?_drop,List.getElem?_drop,h q hq]
 ·rfl
theorem Px{xs:List Value}{i:Nat}{v:Value}(h:xs[i]? = some v):gC xs i 1 = [v]:=by
 apply List.ext_getElem?
 intro q
 unfold gC
 rw[List.getElem?_take,Nat.mul_one]
 split
 ·rename_i hq
  obtain rfl:q=0:=by omega
  rw[List.getElem?_drop,Nat.add_zero,h];rfl
 ·rename_i hq
  rw[List.getElem?_eq_none (by simp;omega)]
structure bE{α:Type}(P:List Value→α→Prop)(sz:Nat)(xs:List Value)(l:List α):Prop where
 len:xs.length=l.length*sz
 at_:∀(i:Nat)(a:α),l[i]? = some a→P (gC xs i sz) a
section
variable {α β:Type} {P:List Value→α→Prop} {sz:Nat} {xs ys:List Value} {l k:List α}
theorem bE.mono{P':List Value→α→Prop}(h:bE P sz xs l)(hp:∀vs a,P vs a→P' vs a):bE P' sz xs l:=⟨h.len,fun i a ha=>hp _ _ (h.at_ i a ha)⟩
theorem bE.get(h:bE P sz xs l){i:Nat}{a:α}(ha:l[i]? = some a):∃vs,vs.length=sz∧P vs a∧∀(q:Nat)(v:Value),vs[q]? = some v→xs[i*sz+q]? = some v:=
 ⟨gC xs i sz,afa h.len (List.getElem?_eq_some_iff.1 ha).1,h.at_ i a ha,fun _ _ hv=>Pw hv⟩
theorem vo:bE P sz [] ([]:List α):=⟨by simp,fun i a h=>by simp at h⟩
theorem bE.append(h:bE P sz xs l)(h':bE P sz ys k):bE P sz (xs++ys) (l++k):=by
 refine⟨by rw[List.length_append,List.length_append,h.len,h'.len,Nat.add_mul],fun i a ha=> ?_⟩
 by_cases hi:i<l.length
 ·rw[List.getElem?_append_left hi]at ha
  have e:gC (xs++ys) i sz=gC xs i sz:=Wl fun q hq=>by
   have:(i+1)*sz≤l.length*sz:=Nat.mul_le_mul_right _ hi
   rw[Nat.add_mul]at this
   rw[List.getElem?_append_left (by rw[h.len];omega)]
  rw[e];exact h.at_ i a ha
 ·rw[List.getElem?_append_right (by omega)]at ha
  have e:gC (xs++ys) i sz=gC ys (i-l.length) sz:=by
   unfold gC
   have e1:i*sz=xs.length+(i-l.length)*sz:=by
    rw[h.len,←Nat.add_mul];congr 1;omega
   rw[e1,List.drop_append,List.drop_eq_nil_of_le (by omega),List.nil_append]
   congr 2;omega
  rw[e];exact h'.at_ _ a ha
theorem iE{vs:List Value}{a:α}(h:P vs a)(hl:vs.length=sz):bE P sz vs [a]:=by
 refine⟨by simp[hl],fun i b hb=> ?_⟩
 cases i with
 | zero=>
  simp only[List.getElem?_cons_zero,Option.some.injEq]at hb
  subst hb
  unfold gC
  rw[Nat.zero_mul,List.drop_zero,List.take_of_length_le (by omega)];exact h
 | succ i=>simp at hb
theorem Py:∀(vs xs:List Value)(off i:Nat),off+vs.length≤xs.length→(aM xs off vs)[i]? = if off≤i∧i<off+vs.length then vs[i-off]? else xs[i]? :=by
 intro vs
 induction vs with
 | nil=>intro xs off i _;simp only[aM,List.length_nil,Nat.add_zero];rw[if_neg (by omega)]
 | cons v vs ih=>
  intro xs off i h
  simp only[List.length_cons]at h
  simp only[aM,List.length_cons]
  rw[ih _ _ _ (by simp;omega)]
  by_cases e:i=off
  ·subst e
   rw[if_neg (by omega),if_pos (by omega),Nat.sub_self,List.getElem?_set_self (by omega)];rfl
  ·by_cases e2:off+1≤i∧i<off+1+vs.length
   ·rw[if_pos e2,if_pos (by omega)]
    have:i-off=(i-(off+1))+1:=by omega
    rw[this];rfl
   ·rw[if_neg e2,if_neg (by omega),List.getElem?_set_ne (by omega)]
theorem bE.set(h:bE P sz xs l){i:Nat}(hi:i<l.length){vs:List Value}{a:α}(hp:P vs a)(hv:vs.length=sz):bE P sz (aM xs (i*sz) vs) (l.set i a):=by
 have lC:(i+1)*sz≤l.length*sz:=Nat.mul_le_mul_right _ hi
 rw[Nat.add_mul,Nat.one_mul]at lC
 have hle:i*sz+vs.length≤xs.length:=by rw[h.len,hv];exact lC
 refine⟨by rw[FU,List.length_set];exact h.len,fun j b hb=> ?_⟩
 by_cases e:j=i
 ·subst e
  rw[List.getElem?_set_self hi]at hb
  cases hb
  have e:gC (aM xs (j*sz) vs) j sz=vs:=by
   apply List.ext_getElem?
   intro q
   unfold gC
   rw[List.getElem?_take]
   split
   ·rename_i hq
    rw[List.getElem?_drop,Py _ _ _ _ hle,if_pos (by omega)]
    congr 1;omega
   ·rw[List.getElem?_eq_none (by omega)]
  rw[e];exact hp
 ·rw[List.getElem?_set_ne (fun e'=>e e'.symm)]at hb
  have e:gC (aM xs (i*sz) vs) j sz=gC xs j sz:=Wl fun q hq=>by
   rw[Py _ _ _ _ hle,if_neg]
   intro⟨h1,h2⟩
   rw[hv]at h2
   rcases Nat.lt_or_gt_of_ne e with bL | VW
   ·have:(j+1)*sz≤i*sz:=Nat.mul_le_mul_right _ bL
    rw[Nat.add_mul]at this;omega
   ·have:(i+1)*sz≤j*sz:=Nat.mul_le_mul_right _ VW
    rw[Nat.add_mul]at this;omega
  rw[e];exact h.at_ j b hb
theorem Pz{zs:List Value}{a:α}(hz:zs.length=sz)(hp:P zs a)(n:Nat):bE P sz (cD zs (n*sz)) (List.replicate n a):=by
 refine⟨by rw[OJ,List.length_replicate],fun i b hb=> ?_⟩
 rw[List.getElem?_replicate]at hb
 split at hb
 ·rename_i hi
  cases hb
  have e:gC (cD zs (n*sz)) i sz=zs:=by
   apply List.ext_getElem?
   intro q
   unfold gC
   rw[List.getElem?_take]
   split
   ·rename_i hq
    rw[List.getElem?_drop,List.getElem?_eq_getElem (by omega:q<zs.length)]
    exact acR hz hi (List.getElem?_eq_getElem (by omega))
   ·rw[List.getElem?_eq_none (by omega)]
  rw[e];exact hp
 ·cases hb
theorem bE.drop(h:bE P sz xs l)(n:Nat):bE P sz (xs.drop (n*sz)) (l.drop n):=by
 refine⟨by rw[List.length_drop,List.length_drop,h.len,Nat.sub_mul],fun i a ha=> ?_⟩
 rw[List.getElem?_drop]at ha
 have e:gC (xs.drop (n*sz)) i sz=gC xs (n+i) sz:=by
  unfold gC
  rw[List.drop_drop,Nat.add_mul]
 rw[e];exact h.at_ _ a ha
theorem bE.one(h:bE P 1 xs l){i:Nat}{a:α}(ha:l[i]? = some a):∃v,xs[i]? = some v∧P [v] a:=by
 have bL:=(List.getElem?_eq_some_iff.1 ha).1
 have hi:i<xs.length:=by rw[h.len];omega
 refine⟨xs[i],List.getElem?_eq_getElem hi,?_⟩
 have:=h.at_ i a ha
 rwa [Px (List.getElem?_eq_getElem hi)]at this
end
def aR{α:Type}(P:Heap→List Value→α→Prop)(sz:Nat)(H:Heap)(v:Value)(l:List α):Prop:=∃A c xs,v = .slice A l.length c∧l.length≤c∧Rd H A xs∧bE (P H) sz xs l
def Up{α:Type}(P:Heap→List Value→α→Prop):Prop:=∀H H' vs a,Heap.le H H'→P H vs a→P H' vs a
section
variable {α:Type} {P:Heap→List Value→α→Prop} {sz:Nat} {H H':Heap} {v:Value} {l:List α}
theorem aR.le(h:aR P sz H v l)(up:Up P)(hl:Heap.le H H'):aR P sz H' v l:=by
 obtain⟨A,c,xs,h1,h2,h3,h4⟩:=h
 exact⟨A,c,xs,h1,h2,h3.le hl,h4.mono fun vs a=>up H H' vs a hl⟩
def GC{α:Type}(P:Heap→List Value→α→Prop)(e sz:Nat)(H:Heap)(v:Value)(l:List α):Prop:=∃xs,cg H v e sz l.length xs∧bE (P H) sz xs l
theorem GC.sl{e:Nat}(h:GC P e sz H v l):aR P sz H v l:=by
 obtain⟨xs,h1,h2⟩:=h
 obtain⟨A,c,rfl⟩:=h1.form
 refine⟨A,c,xs,rfl,?_,h1.rd,h2⟩
 rcases h1.2 with ⟨k1,k2⟩ | ⟨g,cap,k1,_,k3,_⟩
 ·omega
 ·cases k1;exact k3
end
def bS(H:Heap)(vs:List Value)(q:Rat):Prop:=
 ∃(n d:Int)(b:Option Addr),vs = [.int .i64 n,.int .i64 d,.pointer b]∧
  ((b=none∧n=q.num∧d=q.den∧-9223372036854775807≤n∧n≤9223372036854775807∧d≤9223372036854775807)∨
   ∃ad f u w,b=some ad∧bK H (.agg #[.bool f,u,w]) q∧cell H ad=some (.bool f)∧cell H (ad.add 1)=some u∧cell H (ad.add 2)=some w)
theorem bS.up:Up bS:=fun H H' vs q hl h=>by
 obtain⟨n,d,b,h1,h2⟩:=h
 refine⟨n,d,b,h1,?_⟩
 rcases h2 with h2 | ⟨ad,f,u,w,h2,h3,h4,h5,h6⟩
 ·exact .inl h2
 ·exact .inr ⟨ad,f,u,w,h2,h3.le hl,cN hl h4,cN hl h5,cN hl h6⟩
theorem bS.le{H H':Heap}{vs:List Value}{q:Rat}(h:bS H vs q)(hl:Heap.le H H'):bS H' vs q:=bS.up H H' vs q hl h
theorem bS.len{H:Heap}{vs:List Value}{q:Rat}(h:bS H vs q):vs.length=3:=by
 obtain⟨n,d,b,rfl,_⟩:=h;rfl
def tB(H:Heap)(q:Rat)(v:Value)(H':Heap):Prop:=Heap.le H H'∧∃vs,v = .agg vs.toArray∧bS H' vs q
theorem tB.le{H:Heap}{q:Rat}{v:Value}{H':Heap}(h:tB H q v H'):Heap.le H H':=h.1
theorem Wm(q:Rat):ik q=if q.num.natAbs=0 then 0 else if decide (q.num<0)then -1 else 1:=by
 have:=KV (f:=decide (q.num<0)) (n:=q.num.natAbs) (d:=q.den) (Nat.pos_of_ne_zero q.den_nz)
 rwa [wE]at this
theorem PA{q:Rat}{k:Nat}:aP q≤k↔q.num.natAbs<B^k∧q.den<B^k:=by
 unfold aP
 rw[Nat.max_le,jn,jn]
theorem Wn{q:Rat}{n:Int}{d k:Nat}(hd:0<d)(h:q=mkRat n d)(h1:n.natAbs<B^k)(h2:d<B^k):aP q≤k:=by
 obtain⟨m,hm,h3,h4⟩:=Rat.mkRat_num_den (n:=n) (d:=d) (by omega) (n':=q.num) (d':=q.den) (z':=q.den_nz) (c:=q.reduced) h.symm
 rw[PA]
 refine⟨?_,?_⟩
 ·rw[h3,Int.natAbs_mul,Int.natAbs_natCast]at h1
  exact Nat.lt_of_le_of_lt (Nat.le_mul_of_pos_right _ (by omega)) h1
 ·rw[h4]at h2
  exact Nat.lt_of_le_of_lt (Nat.le_mul_of_pos_right _ (by omega)) h2
theorem Lb(q:Rat):q.num.natAbs<B^aP q∧q.den<B^aP q:=PA.1 (Nat.le_refl _)
theorem wQ(q:Rat):aP (-q)=aP q:=by unfold aP;rw[Rat.neg_num,Int.natAbs_neg,Rat.neg_den]
theorem vp(p q:Rat):aP (p*q)≤aP p+aP q:=by
 have h1:=Lb p
 have h2:=Lb q
 refine Wn (n:=p.num*q.num) (d:=p.den*q.den) (Nat.mul_pos (Nat.pos_of_ne_zero p.den_nz) (Nat.pos_of_ne_zero q.den_nz)) ?_ ?_ ?_
 ·rw[←Rat.mkRat_mul_mkRat,Rat.mkRat_self,Rat.mkRat_self]
 ·rw[Int.natAbs_mul,Nat.pow_add];exact Nat.mul_lt_mul'' h1.1 h2.1
 ·rw[Nat.pow_add];exact Nat.mul_lt_mul'' h1.2 h2.2
theorem Wo(p q:Rat):aP (p+q)≤aP p+aP q+1:=by
 have h1:=Lb p
 have h2:=Lb q
 have hp:=Nat.pos_of_ne_zero p.den_nz
 have hq:=Nat.pos_of_ne_zero q.den_nz
 have hB:2*(B^aP p*B^aP q)≤B^(aP p+aP q+1):=by
  rw[Nat.pow_succ,Nat.pow_add,Nat.mul_comm 2];exact Nat.mul_le_mul_left _ (by decide)
 refine Wn (n:=p.num*q.den+q.num*p.den) (d:=p.den*q.den) (Nat.mul_pos hp hq) ?_ ?_ ?_
 ·rw[Rat.add_def']
 ·have h3:(p.num*q.den+q.num*p.den).natAbs≤p.num.natAbs*q.den+q.num.natAbs*p.den:=by
   have:=Int.natAbs_add_le (p.num*q.den) (q.num*p.den)
   rwa [Int.natAbs_mul,Int.natAbs_mul,Int.natAbs_natCast,Int.natAbs_natCast]at this
  have h4:=Nat.mul_lt_mul'' h1.1 h2.2
  have h5:=Nat.mul_lt_mul'' h2.1 h1.2
  rw[Nat.mul_comm (B^aP q)]at h5
  omega
 ·have h4:=Nat.mul_lt_mul'' h1.2 h2.2
  omega
theorem tC(p q:Rat):aP (p-q)≤aP p+aP q+1:=by
 rw[Rat.sub_eq_add_neg]
 have:=Wo p (-q)
 rwa [wQ]at this
end Go.aw
