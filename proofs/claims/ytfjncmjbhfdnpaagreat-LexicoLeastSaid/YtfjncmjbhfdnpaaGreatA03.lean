/- Part 3 of the proof: Nat9, Nat10, Nat11, Q, RDat, Rat1, Rat2, Rat3, Eng12, SDat. -/
import Derived.Test.YtfjncmjbhfdnpaaGreatA02
set_option linter.unusedVariables false
namespace Go.au
open Go.Proofs Num
theorem Dn(H:Heap)(g:Nat)(lo w hi:List Nat)(N:Nat):Rd (ins H g (dE (lo++w++hi) N)) (some ⟨g,lo.length,none⟩) (U w):=fun i v hv=>by
 refine⟨_,rfl,?_⟩
 have bI:i<(U w).length:=(List.getElem?_eq_some_iff.1 hv).1
 have e:(⟨g,lo.length,none⟩:Addr).add i=⟨g,lo.length+i,none⟩:=by
  unfold Addr.add;split
  ·rename_i e0;rw[e0,Nat.add_zero]
  ·rfl
 rw[e]
 simp only[cell,bD,dE]
 rw[Kw,Kw,List.append_assoc,List.getElem?_append_right (by rw[AL];omega),AL,Nat.add_sub_cancel_left,List.getElem?_append_left bI]
 exact hv
theorem KF{H:Heap}{g N k:Nat}{lo w hi:List Nat}{a:Int}{y:Nat}(h:a=y)(hk:k<w.length):ins (ins H g (dE (lo++w++hi) N)) g {dE (lo++w++hi) N with xs:=aL (dE (lo++w++hi) N).xs (lo.length+k*1) [.int .u32 a]}=ins H g (dE (lo++w.set k y++hi) N):=by
 subst h
 rw[qk]
 simp only[dE,aL,Nat.mul_one]
 congr 2
 rw[OW]
 congr 1
 rw[List.append_assoc,List.set_append_right _ _ (by omega),Nat.add_sub_cancel_left,List.set_append_left _ _ hk,List.append_assoc]
theorem O0{a b:List Nat}{i:Nat}(h:a.drop i=b.drop i):a[i]? = b[i]? :=by
 have:=congrArg (·[0]?) h
 simpa using this
theorem drop_set{a b:List Nat}{i y:Nat}(h:a.drop i=b.drop i):(a.set i y).drop (i+1)=b.drop (i+1):=by
 rw[List.drop_set_of_lt (Nat.lt_succ_self _)]
 have:=congrArg (List.drop 1) h
 simpa [List.drop_drop]using this
theorem aeG{H:Heap}{g N:Nat}{lo w hi b:List Nat}{c c' top:Nat}{A':Option Addr}(hg:H g=none)(hr:Rd H A' (U b))(pQ:w.length=b.length+1)(cD:2≤b.length)(CX:(b.length:Int)≤8796093022208)(yN:Lt w)(eo:Lt b)(Dl:b[b.length-1]? = some top)(O1:0<top)(hq:val w<B*val b):
 Fn Tryz.prog 225 #[.slice (some ⟨g,lo.length,none⟩) (b.length+1) c,.slice A' b.length c'] (ins H g (dE (lo++w++hi) N)) (fun v H'=>∃w',H'=ins H g (dE (lo++w'++hi) N)∧w'.length=w.length∧Lt w'∧val w'=val w%val b∧v = .int .u32 ((val w/val b:Nat):Int)):=by
 obtain⟨k,hk⟩:∃k,b.length=k+2:=⟨b.length-2,by omega⟩
 have fV:=fun e=>hr.le (Heap.bB (g:=g) e hg)
 have uU:((b.length:Int)-1).toNat=k+1:=by omega
 have wA:((b.length:Int)-2).toNat=k:=by omega
 rw[show b.length-1=k+1 by omega]at Dl
 obtain⟨next,Ga⟩:∃x,b[k]? = some x:=⟨_,List.getElem?_eq_getElem (by omega)⟩
 obtain⟨u2,fQ⟩:∃x,w[k]? = some x:=⟨_,List.getElem?_eq_getElem (by omega)⟩
 obtain⟨u1,eO⟩:∃x,w[k+1]? = some x:=⟨_,List.getElem?_eq_getElem (by omega)⟩
 obtain⟨un,pR⟩:∃x,w[b.length]? = some x:=⟨_,List.getElem?_eq_getElem (by omega)⟩
 have O2:=eo.get Dl
 have VY:=eo.get Ga
 have aeH:=yN.get fQ
 have aeI:=yN.get eO
 have aeJ:=yN.get pR
 have hV:=aeA hk Ga Dl
 have hW:=aez (by omega) fQ eO (by rw[←hk];exact pR)
 have iC:=Dm eo (k:=k) (by omega)
 have aeK:=Dm yN (k:=k) (by omega)
 have aeL:=aew hV hW iC VY hq
 have aeM:=uO eo
 have uV:0<val b:=by
  rcases Nat.eq_zero_or_pos (val b)with e | e
  ·rw[e,Nat.mul_zero]at hq;omega
  ·exact e
 have uW:val w/val b<B:=Nat.div_lt_of_lt_mul (by rwa [Nat.mul_comm]at hq)
 obtain⟨q,AR⟩:∃q,q=val w/val b:=⟨_,rfl⟩
 rw[←AR]at uW⊢
 have VZ:val w=val (w.take b.length)+B^b.length*un:=by rw[←kP pR,List.take_of_length_le (by omega)]
 have hB:=cj
 rw[cj]at O2 VY aeH aeI aeJ;refine a7 (args:=[_,_]) Tryz.func225 rfl rfl Tryz.ntmps225 rfl rfl fun w0=> ?_;refine aj [0,1] rfl ?_;refine ag (ab 1 rfl (ae [0,1] ?_));refine ag (ab 3 rfl (ae [0,1,5] ?_));refine bO .bL [0,1,2,3,4,5,6,7,8,9,10,11,12,13] follows (by kernel_rfl) ?_;refine ab 2 rfl (cV rfl rfl ⟨by omega,by omega⟩ (aQ ah rfl rfl rfl rfl rfl (fV _) (by rw[uU];exact dr Dl) (by omega) (by omega) fun _=> ?_));refine dd ah rfl rfl rfl ⟨by omega,by omega⟩ (ab 2 rfl (cV rfl rfl ⟨by omega,by omega⟩ (aQ ah rfl rfl rfl rfl rfl (fV _) (by rw[wA];exact dr Ga) (by omega) (by omega) fun _=> ?_)));refine dd ah rfl rfl rfl ⟨by omega,by omega⟩ (ab 2 rfl (ae [0,1,5,6,7] ?_));refine bO .bL [0,1,2,3,4,5,6,7,8,9,10,11,12,13] follows (by kernel_rfl) ?_;refine ab 2 rfl (aQ ah rfl rfl rfl rfl rfl (Dn _ _ _ _ _ _) (dr pR) (by omega) (by omega) fun _=>(dd ah rfl rfl rfl ⟨by omega,by omega⟩ (gM rfl rfl ⟨by omega,by omega⟩ (ab 2 rfl (cV rfl rfl ⟨by omega,by omega⟩ (aQ ah rfl rfl rfl rfl rfl (Dn _ _ _ _ _ _) (by rw[uU];exact dr eO) (by omega) (by omega) fun _=> ?_))))))
 refine dd ah rfl rfl rfl ⟨by omega,by omega⟩ (aG rfl rfl ⟨by omega,by omega⟩ (ab 1 rfl (ae [0,1,5,6,7,8] ?_)));have qn:0≤((un:Int)*1000000000+(u1:Int))/(top:Int):=Int.ediv_nonneg (by omega) (by omega);have oL:((un:Int)*1000000000+(u1:Int))/(top:Int)≤(un:Int)*1000000000+(u1:Int):=Int.ediv_le_self _ (by omega);refine bO .bL [0,1,2,3,4,5,6,7] follows (by kernel_rfl) ?_;refine ab 2 rfl (lP rfl rfl (by omega) (by omega) ⟨by omega,by omega⟩ (ab 2 rfl (m7 rfl rfl (by omega) (by omega) (ab 2 rfl (ae [0,1,5,6,7,9,10] ?_)))));refine kE (fun(bG:Nat)=>put (put (put (put (emp) 0 (.val (.slice (some ⟨g,lo.length,none⟩) (b.length+1) c))) 1 (.val (.slice A' b.length c'))) 5 (.val (.int .i64 (b.length:Int)))) 9 (.val (.int .u64 (bG:Int)))) (fun(bG:Nat) H'=>H'=ins H g (dE (lo++w++hi) N)∧q≤bG∧bG≤q+1∧bG<1000000000) ?_ ?_
 ·
  refine aF ?_
  refine gX (fun(bG:Nat)(rest:Nat)=>bG) (fun(bG:Nat)(rest:Nat)=>put (put (put (put (put (put (put (emp) 0 (.val (.slice (some ⟨g,lo.length,none⟩) (b.length+1) c))) 1 (.val (.slice A' b.length c'))) 5 (.val (.int .i64 (b.length:Int)))) 6 (.val (.int .u64 (top:Int)))) 7 (.val (.int .u64 (next:Int)))) 9 (.val (.int .u64 (bG:Int)))) 10 (.val (.int .u64 (rest:Int)))) (fun(bG:Nat)(rest:Nat) H'=>H'=ins H g (dE (lo++w++hi) N)∧bG*top+rest=un*B+u1∧q≤bG∧bG≤un*1000000000+u1∧rest≤2000000000) ((un*1000000000+u1)/top) ((un*1000000000+u1)%top) (⟨rfl,by rw[cj,Nat.mul_comm];exact Nat.div_add_mod _ _,by
   have h1:=Nat.div_add_mod (un*B+u1) top;have h2:=Nat.mod_lt (un*B+u1) O1
   have h3:val w<((un*B+u1)/top+1)*val b:=by
    have e1:B^k*(B*(un*B+u1))+B^k*B≤B^k*(B*(((un*B+u1)/top+1)*top)):=by
     rw[←Nat.mul_add];refine Nat.mul_le_mul_left _ ?_;rw[←Nat.mul_succ];refine Nat.mul_le_mul_left _ ?_;rw[Nat.add_mul,Nat.one_mul,Nat.mul_comm _ top];omega
    have e2:((un*B+u1)/top+1)*(B^k*(B*top))≤((un*B+u1)/top+1)*val b:=Nat.mul_le_mul_left _ (by rw[hV,Nat.mul_add (B^k)];omega)
    have e3:((un*B+u1)/top+1)*(B^k*(B*top))=B^k*(B*(((un*B+u1)/top+1)*top)):=by rw[Nat.mul_left_comm _ (B^k),Nat.mul_left_comm _ B]
    have e4:val w<B^k*(B*(un*B+u1))+B^k*B:=by
     have:B^k*(u2+1)≤B^k*B:=Nat.mul_le_mul_left _ (by omega);rw[hW,Nat.mul_add (B^k)];rw[Nat.mul_add (B^k)]at this;omega
    omega
   have h4:=OY AR h3
   rw[cj]at h4;omega,Nat.div_le_self _ _,by have:=Nat.mod_lt (un*1000000000+u1) O1;omega⟩) ar ?_
  rintro bG rest H1 ⟨rfl,ed,Gd,hgu,yM⟩;refine ao ?_
  by_cases hrB:rest<1000000000
  by_cases KE:bG<1000000000
  ·
   skip
   refine ag (ab 1 rfl (aI true rfl rfl (jK (by omega)) (ab 2 rfl (aI false rfl rfl (AK (by omega)) (vr 3 ?_)))));have KG:bG*next≤999999999*999999999:=Nat.mul_le_mul (by omega) (by omega)
   have amq:(bG:Int)*(next:Int)=((bG*next:Nat):Int):=by simp
   refine gM rfl rfl ⟨by omega,by omega⟩ (ab 1 rfl (gM rfl rfl ⟨by omega,by omega⟩ (ab 2 rfl (cV rfl rfl ⟨by omega,by omega⟩ (aQ ah rfl rfl rfl rfl rfl (Dn _ _ _ _ _ _) (by rw[wA];exact dr fQ) (by omega) (by omega) fun _=> ?_)))));refine dd ah rfl rfl rfl ⟨by omega,by omega⟩ (aG rfl rfl ⟨by omega,by omega⟩ (ab 3 rfl (ae [0,1,5,6,7,9,10,71] ?_)));refine aC rfl (fun hb=> ?_) (fun hb=> ?_)
   ·
    have hb:rest*1000000000+u2<bG*next:=by simp at hb;omega
    have V0:=OY AR (aeu hV hW aeK ed (by rw[cj];omega));refine aA (aj [0,1,5,6,7,9,10] rfl ?_);refine aF (ag (ab 1 rfl (cV rfl rfl ⟨by omega,by omega⟩ (ab 1 rfl (ae [0,1,5,6,7,9,10] ?_)))));refine aB rfl (ab 2 rfl (aG rfl rfl ⟨by omega,by omega⟩ (ab 1 rfl (aw ?_))));exact⟨bG-1,rest+top,by omega,ar,rfl,VW ed (by omega),by omega,by omega,by omega⟩
   have hb:bG*next≤rest*1000000000+u2:=by simp at hb;omega
   refine aV ?_;exact⟨bG,ar,rfl,Gd,aey AR uV (aev hV hW iC O1 ed (by rw[cj];omega) (by omega)),KE⟩
  ·
   skip
   refine ag (ab 1 rfl (aI true rfl rfl (jK (by omega)) (ab 2 rfl (aI true rfl rfl (rH (by omega)) (ab 16 rfl (ae [0,1,5,6,7,9,10,71] ?_))))));refine dN rfl (aA (aj [0,1,5,6,7,9,10] rfl ?_));refine aF (ag (ab 1 rfl (cV rfl rfl ⟨by omega,by omega⟩ (ab 1 rfl (ae [0,1,5,6,7,9,10] ?_)))));refine aB rfl (ab 2 rfl (aG rfl rfl ⟨by omega,by omega⟩ (ab 1 rfl (aw ?_))));exact⟨bG-1,rest+top,by omega,ar,rfl,VW ed (by omega),by omega,by omega,by omega⟩
  ·
   skip
   refine ag (ab 1 rfl (aI false rfl rfl (ik (by omega)) (ab 19 rfl (ae [0,1,5,6,7,9,10,71] ?_))));refine dU rfl (aV ?_);have tm:=aex hV hW iC (by omega) aeL ed (by omega);exact⟨bG,ar,rfl,Gd,by have:=(Nat.le_div_iff_mul_le uV).2 tm.2;rw[←AR]at this;omega,by omega⟩
 ·
  rintro bG H2 ⟨rfl,cB,bU,KE⟩;refine ag (ab 1 rfl (ae [0,1,5,9,11] ?_));refine ao (ag (ab 2 rfl (ae [0,1,5,9,11,77,78] ?_)));refine aF (fZ (fun(i:Nat)(w1:List Nat)(br:Nat)=>b.length-i) (fun(i:Nat)(w1:List Nat)(br:Nat)=>put (put (put (put (put (put (put (emp) 0 (.val (.slice (some ⟨g,lo.length,none⟩) (b.length+1) c))) 1 (.val (.slice A' b.length c'))) 5 (.val (.int .i64 (b.length:Int)))) 9 (.val (.int .u64 (bG:Int)))) 11 (.val (.int .i64 (br:Int)))) 77 (.val (.int .i64 (b.length:Int)))) 78 (.val (.int .i64 (i:Int)))) (fun(i:Nat)(w1:List Nat)(br:Nat) H'=>H'=ins H g (dE (lo++w1++hi) N)∧i≤b.length∧w1.length=w.length∧Lt w1∧w1.drop i=w.drop i∧br≤1000000000∧val (w.take i)+B^i*br=val (w1.take i)+bG*val (b.take i)) 0 w 0 (⟨rfl,by omega,rfl,yN,rfl,by omega,by simp[val]⟩) ar ?_);rintro i w1 br H1 ⟨rfl,O3,KH,Ge,kR,uS,hv⟩;refine ag (ab 1 rfl (ae [0,1,5,9,11,77,78,79] ?_));refine ao (aC rfl (fun hb=> ?_) (fun hb=> ?_))
  ·
   have hb:i<b.length:=by simpa using hb
   obtain⟨d,hd⟩:∃d,w[i]? = some d:=⟨_,List.getElem?_eq_getElem (by omega)⟩;obtain⟨p,hp⟩:∃p,b[i]? = some p:=⟨_,List.getElem?_eq_getElem (by omega)⟩;have lQ:=yN.get hd;have yJ:=eo.get hp;rw[cj]at lQ yJ
   have fa:w1[i]? = some d:=by rw[O0 kR];exact hd
   have hgp:bG*p≤999999999*999999999:=Nat.mul_le_mul (by omega) (by omega)
   have amr:(bG:Int)*(p:Int)=((bG*p:Nat):Int):=by simp
   refine aA (aj [0,1,5,9,11,77,78] rfl ?_);refine ao (aF (ag (ab 2 rfl (ae [0,1,5,9,11,12,77,78] ?_))));refine bO .bL [0,1,2,3,4,5,6,7,8,9,10,11,12,13,14,15,16,17] follows (by kernel_rfl) ?_;refine ab 2 rfl (aQ ah rfl rfl rfl rfl rfl (Dn _ _ _ _ _ _) (dr fa) (by omega) (by omega) fun _=>(dd ah rfl rfl rfl ⟨by omega,by omega⟩ (ab 1 rfl (cV rfl rfl ⟨by omega,by omega⟩ (ab 3 rfl (aQ ah rfl rfl rfl rfl rfl (fV _) (dr hp) (by omega) (by omega) fun _=>(dd ah rfl rfl rfl ⟨by omega,by omega⟩ (gM rfl rfl ⟨by omega,by omega⟩ (m7 rfl rfl (by omega) (by omega) (dd ah rfl rfl rfl ⟨by omega,by omega⟩ (cV rfl rfl ⟨by omega,by omega⟩ (ab 1 rfl (ae [0,1,5,9,12,13,77,78] ?_)))))))))))));refine ag (ab 3 rfl (aQ ah rfl rfl rfl rfl rfl (fV _) (dr hp) (by omega) (by omega) fun _=>(dd ah rfl rfl rfl ⟨by omega,by omega⟩ (gM rfl rfl ⟨by omega,by omega⟩ (lP rfl rfl (by omega) (by omega) ⟨by omega,by omega⟩ (dd ah rfl rfl rfl ⟨by omega,by omega⟩ (ab 1 rfl (ae [0,1,5,9,11,12,13,77,78] ?_))))))));refine ao ?_
   refine aF (gG (fun(t:Nat)=>3-t) (fun(t:Nat)=>put (put (put (put (put (put (put (put (put (emp) 0 (.val (.slice (some ⟨g,lo.length,none⟩) (b.length+1) c))) 1 (.val (.slice A' b.length c'))) 5 (.val (.int .i64 (b.length:Int)))) 9 (.val (.int .u64 (bG:Int)))) 11 (.val (.int .i64 ((bG*p/1000000000+t:Nat):Int)))) 12 (.val (.int .i64 (i:Int)))) 13 (.val (.int .i64 ((d:Int)-br-((bG*p%1000000000:Nat):Int)+t*1000000000)))) 77 (.val (.int .i64 (b.length:Int)))) 78 (.val (.int .i64 (i:Int)))) (fun(t:Nat) H'=>H'=ins H g (dE (lo++w1++hi) N)∧t≤2∧(d:Int)-br-((bG*p%1000000000:Nat):Int)+t*1000000000<1000000000) 0 (⟨rfl,by omega,by omega⟩) ar ?_);rintro t H1 ⟨rfl,ht,hsB⟩;refine ao (ag (ab 2 rfl (ae [0,1,5,9,11,12,13,77,78,108] ?_)));refine aC rfl (fun hb=> ?_) (fun hb=> ?_)
   ·
    simp at hb
    refine aA (aj [0,1,5,9,11,12,13,77,78] rfl ?_);refine aF (ag (ab 1 rfl (aG rfl rfl ⟨by omega,by omega⟩ (ab 1 rfl (ae [0,1,5,9,11,12,13,77,78] ?_)))));refine aB rfl (ab 1 rfl (aG rfl rfl ⟨by omega,by omega⟩ (ab 1 rfl (aw ?_))));exact⟨t+1,by omega,ar,rfl,by omega,by omega⟩
   simp at hb
   refine aV (aj [0,1,5,9,11,12,13,77,78] rfl ?_);refine aB rfl (ab 3 rfl (dd ah rfl rfl rfl ⟨by omega,by omega⟩ ?_));obtain⟨ti,ak,al⟩:=oG;refine cQ (.inl rfl) ah rfl rfl rfl (by omega) (by omega) (bD _ _ _) rfl (by rw[oI];simp;omega) ak al (fun _=>rfl) rfl rfl rfl fun _=> ?_;refine aw (aj [0,1,5,9,11,77,78] rfl ?_);refine aB rfl (aG rfl rfl ⟨by omega,by omega⟩ (ab 1 rfl (aw ?_)));obtain⟨y,hy⟩:∃y:Nat,(y:Int)=(d:Int)-br-((bG*p%1000000000:Nat):Int)+t*1000000000:=⟨((d:Int)-br-((bG*p%1000000000:Nat):Int)+t*1000000000).toNat,by omega⟩;have dO:=FY (o:=w1.take i) (s:=y) (br':=bG*p/1000000000+t) (d:=d) (e:=bG*p) (ta':=val (w.take (i+1))) (tb':=bG*val (b.take (i+1))) (by simp;omega) hv (by rw[cj];omega) (kP hd) (by rw[kP hp,Nat.mul_add,Nat.mul_left_comm]);rw[←yL (by omega)]at dO;exact⟨i+1,w1.set i y,bG*p/1000000000+t,by omega,ar,by rw[KF (y:=y) hy.symm (by rw[Int.toNat_natCast];omega)];rfl,by omega,by simp[KH],Ge.set (by rw[cj];omega),drop_set kR,by omega,dO⟩
  have hb:b.length≤i:=by simpa using hb
  obtain rfl:i=b.length:=by omega
  rw[List.take_length]at hv
  have gH:w1[b.length]? = some un:=by rw[O0 kR];exact pR
  refine aV (aj [0,1,5,9,11] rfl ?_);refine ag (ab 2 rfl (aQ ah rfl rfl rfl rfl rfl (Dn _ _ _ _ _ _) (dr gH) (by omega) (by omega) fun _=>(dd ah rfl rfl rfl ⟨by omega,by omega⟩ (ab 1 rfl (cV rfl rfl ⟨by omega,by omega⟩ (ab 1 rfl (ae [0,1,5,9,14] ?_)))))));refine ao (ag (ab 2 rfl (ae [0,1,5,9,14,127] ?_)));refine aC rfl (fun hb=> ?_) (fun hb=> ?_)
  ·
   have hb:br≤un:=by simp at hb;omega
   obtain⟨iX,jV⟩:=aeB VZ hv hb AR cB uV;refine ag (ab 3 rfl (dd ah rfl rfl rfl ⟨by omega,by omega⟩ ?_));obtain⟨ti,ak,al⟩:=oG;refine cQ (.inl rfl) ah rfl rfl rfl (by omega) (by omega) (bD _ _ _) rfl (by rw[oI];simp;omega) ak al (fun _=>rfl) rfl rfl rfl fun _=> ?_;refine ae [9] ?_;refine ag (ab 1 rfl (dd ah rfl rfl rfl ⟨by omega,by omega⟩ (ab 1 rfl (ae [4] ?_))));refine aD ⟨.inr rfl,_,.tmp rfl (.nil),?_⟩;refine⟨w1.set b.length (un-br),by rw[KF (y:=un-br) (by omega) (by rw[Int.toNat_natCast];omega)];rfl,by simp[KH],Ge.set (by rw[cj];omega),?_,by rw[←iX];rfl⟩;rw[←jV,←List.take_length (l:=w1.set b.length (un-br)),List.length_set,KH,pQ,yL (by omega),rF,List.length_take,Nat.min_eq_left (by omega)]
  have hb:un<br:=by simp at hb;omega
  refine aA (aj [0,1,5,9,14] rfl ?_);refine ag (ab 1 rfl (ae [0,1,5,9,14,15] ?_));refine ao (ag (ab 2 rfl (ae [0,1,5,9,14,15,135,136] ?_)));refine aF (fZ (fun(i:Nat)(w2:List Nat)(cr:Nat)=>b.length-i) (fun(i:Nat)(w2:List Nat)(cr:Nat)=>put (put (put (put (put (put (put (put (emp) 0 (.val (.slice (some ⟨g,lo.length,none⟩) (b.length+1) c))) 1 (.val (.slice A' b.length c'))) 5 (.val (.int .i64 (b.length:Int)))) 9 (.val (.int .u64 (bG:Int)))) 14 (.val (.int .i64 ((un:Int)-br)))) 15 (.val (.int .u32 (cr:Int)))) 135 (.val (.int .i64 (b.length:Int)))) 136 (.val (.int .i64 (i:Int)))) (fun(i:Nat)(w2:List Nat)(cr:Nat) H'=>H'=ins H g (dE (lo++w2++hi) N)∧i≤b.length∧w2.length=w.length∧Lt w2∧w2.drop i=w1.drop i∧cr≤1∧val (w2.take i)+B^i*cr=val (w1.take i)+val (b.take i)) 0 w1 0 (⟨rfl,by omega,KH,Ge,rfl,by omega,by simp[val]⟩) ar ?_);rintro i w2 cr H1 ⟨rfl,ams,O4,O5,V1,jL,dF⟩;refine ag (ab 1 rfl (ae [0,1,5,9,14,15,135,136,137] ?_));refine ao (aC rfl (fun hb=> ?_) (fun hb=> ?_))
  ·
   have hb:i<b.length:=by simpa using hb
   obtain⟨d,hd⟩:∃d,w1[i]? = some d:=⟨_,List.getElem?_eq_getElem (by omega)⟩;obtain⟨p,hp⟩:∃p,b[i]? = some p:=⟨_,List.getElem?_eq_getElem (by omega)⟩;have lQ:=Ge.get hd;have yJ:=eo.get hp;rw[cj]at lQ yJ
   have ko:w2[i]? = some d:=by rw[O0 V1];exact hd
   refine aA (aj [0,1,5,9,14,15,135,136] rfl ?_);refine ao (aF (ag (ab 2 rfl (ae [0,1,5,9,14,15,16,135,136] ?_))));refine bO .bL [0,1,2,3,4,5,6,7,8,9,10,11] follows (by kernel_rfl) ?_;refine ab 2 rfl (aQ ah rfl rfl rfl rfl rfl (Dn _ _ _ _ _ _) (dr ko) (by omega) (by omega) fun _=>(ab 2 rfl (aQ ah rfl rfl rfl rfl rfl (fV _) (dr hp) (by omega) (by omega) fun _=>(aG rfl rfl ⟨by omega,by omega⟩ (ab 1 rfl (aG rfl rfl ⟨by omega,by omega⟩ (ab 1 rfl (ae [0,1,5,9,14,16,17,135,136] ?_))))))));refine ag (ab 1 rfl (lP rfl rfl (by omega) (by omega) ⟨by omega,by omega⟩ (ab 1 rfl (ae [0,1,5,9,14,15,16,17,135,136] ?_))));refine aB rfl (ab 3 rfl (m7 rfl rfl (by omega) (by omega) ?_));obtain⟨ti,ak,al⟩:=oG;refine cQ (.inl rfl) ah rfl rfl rfl (by omega) (by omega) (bD _ _ _) rfl (by rw[oI];simp;omega) ak al (fun _=>rfl) rfl rfl rfl fun _=> ?_;refine aw (aj [0,1,5,9,14,15,135,136] rfl ?_);refine aB rfl (aG rfl rfl ⟨by omega,by omega⟩ (ab 1 rfl (aw ?_)));have dO:=Dg (o:=w2.take i) (s:=d+p+cr) (a:=cr) (b:=d+p) (u:=val (w1.take (i+1))+val (b.take (i+1))) (by simp;omega) dF (by omega) (by rw[kP hd,kP hp,Nat.mul_add];omega)
   rw[←yL (by omega)]at dO;exact⟨i+1,w2.set i ((d+p+cr)%B),(d+p+cr)/B,by omega,ar,by rw[KF (y:=(d+p+cr)%B) (by rw[cj];omega) (by rw[Int.toNat_natCast];omega)];rfl,by omega,by simp[O4],O5.set (Nat.mod_lt _ nh),drop_set V1,by rw[cj];omega,dO⟩
  have hb:b.length≤i:=by simpa using hb
  obtain rfl:i=b.length:=by omega
  rw[List.take_length]at dF;obtain⟨iX,jV,yy⟩:=aeC VZ hv (by omega) AR bU uV aeM (Dm Ge (by omega)) (Dm O5 (by omega)) dF;refine aV (aj [0,5,9,14,15] rfl ?_);refine ag (ab 4 rfl (dd ah rfl rfl rfl ⟨by omega,by omega⟩ (aG rfl rfl ⟨by omega,by omega⟩ (dd ah rfl rfl rfl ⟨by omega,by omega⟩ ?_))));obtain⟨ti,ak,al⟩:=oG;refine cQ (.inl rfl) ah rfl rfl rfl (by omega) (by omega) (bD _ _ _) rfl (by rw[oI];simp;omega) ak al (fun _=>rfl) rfl rfl rfl fun _=> ?_;refine ae [9] ?_;refine ag (ab 1 rfl (cV rfl rfl ⟨by omega,by omega⟩ (dd ah rfl rfl rfl ⟨by omega,by omega⟩ (ab 1 rfl (ae [4] ?_)))));refine aD ⟨.inr rfl,_,.tmp rfl (.nil),?_⟩;refine⟨w2.set b.length 0,by rw[KF (y:=0) (by omega) (by rw[Int.toNat_natCast];omega)];rfl,by simp[O4],O5.set (by rw[cj];omega),?_,by rw[show (bG:Int)-1=(q:Int) by omega];rfl⟩;rw[←yy,←List.take_length (l:=w2.set b.length 0),List.length_set,O4,pQ,yL (by omega),rF,Nat.mul_zero,Nat.add_zero]
end Go.au
namespace Go.au
open Go.Proofs Num
theorem AS{H:Heap}{g g':Nat}{e:Ent}(h:ins H g e g'=none):g'≠g∧H g'=none:=by
 by_cases e0:g'=g
 ·subst e0;rw[bD]at h;cases h
 ·rw[a6 _ _ e0]at h;exact⟨e0,h⟩
theorem O6{y:Nat}(h:0<y):an y≠[]:=fun e=>by
 have:=cR y
 rw[e]at this
 simp[val]at this
 omega
theorem O7{y:Nat}(h:0<y):B^((an y).length-1)≤y:=by
 have:=(fP y).pos (O6 h)
 rwa [cR]at this
def V2(H:Heap)(x y:Nat)(v:Value)(H':Heap):Prop:=Heap.le H H'∧∃q r,v = .tuple #[q,r]∧de H' q (x/y)∧de H' r (x%y)
theorem KI{H:Heap}{u v:Value}{x y:Nat}(hx:de H u x)(hy:de H v y)(jt:0<y)(hm:((an x).length:Int)<8796093022208):
 Fn Tryz.prog 210 #[u,v] H (V2 H x y):=by
 obtain⟨A,c,rfl,hc,hr⟩:=hx
 obtain⟨A',c',rfl,jH,dQ⟩:=hy
 have jy:=(fP x).lt
 have eo:=(fP y).lt
 have aeN:=O7 jt
 have aeO:(an y).length≠0:=fun e=>O6 jt (List.eq_nil_of_length_eq_zero e);refine a7 (args:=[_,_]) Tryz.func210 rfl rfl Tryz.ntmps210 rfl rfl fun w0=> ?_;refine aj [0,1] rfl ?_;refine ag (ab 2 rfl (ae [0,1] ?_));refine ao (ag (ab 2 rfl (aE rfl rfl (VN hr dQ (by omega)) ?_)));rintro v1 H1 ⟨e1,rfl⟩;rw[e1];refine ab 1 rfl (ae [0,1,19] ?_);refine aC rfl (fun hb=> ?_) (fun hb=> ?_)
 ·
  have qy:x<y:=by unfold kF at hb;simp at hb;split at hb <;> (try split at hb) <;> simp_all
  refine ag (ab 1 rfl (dR Tryz.underlying177 eD rfl rfl (yI _) (hr) (by rw[AL,Nat.mul_one]) (oH _) (by simp;omega) (by simp;omega) ?_));intro v1 H2 ha;refine ab 2 rfl (ae [4,5] ?_);refine aD ⟨.inr rfl,_,.tmp rfl (.tmp rfl (.nil)),?_⟩
  have h1:de H2 v1 x:=by
   have:=(App.pP (a:=[]) ha rfl rfl).lim
   simpa [de]using this
  exact⟨ha.le,_,_,rfl,by rw[Nat.div_eq_of_lt qy];exact wq H2,by rw[Nat.mod_eq_of_lt qy];exact h1⟩
 ·
  have qy:y≤x:=by unfold kF at hb;simp at hb;split at hb <;> (try split at hb) <;> simp_all <;> omega
  have hlen:=my qy;refine aA (aj [0,1] rfl ?_);refine ao (ag (ab 3 rfl (ae [0,1,24] ?_)));refine aC rfl (fun hb=> ?_) (fun hb=> ?_)
  ·
   have hb:(an y).length=1:=by simp at hb;omega
   have tn:(an y)[0]? = some y:=by
    obtain⟨z,hz⟩:=List.length_eq_one_iff.1 hb;have:=cR y;rw[hz]at this⊢
    simp[val]at this
    simp[this]
   have Gf:=eo.get tn;rw[cj]at Gf;refine ag (ab 2 rfl (aQ ah rfl rfl rfl rfl rfl (dQ) (dr tn) (by omega) (by omega) fun _=>(dd ah rfl rfl rfl ⟨by omega,by omega⟩ (aE rfl rfl (VT (l:=an x) ⟨A,c,rfl,hc,hr⟩ jy Gf jt (by omega)) ?_))));rintro v1 H2 ⟨hle,q,rfl,hq⟩;refine vr 1 ?_;rw[cR]at hq⊢;refine ab 4 rfl (ae [6,7] ?_);refine ag (ab 2 rfl (aE rfl rfl (KB (x:=x%y) (by have:=Nat.mod_lt x jt;omega)) ?_));intro v1 H3 hp;refine ab 2 rfl (ae [4,5] ?_);refine aD ⟨.inr rfl,_,.tmp rfl (.tmp rfl (.nil)),?_⟩;exact⟨hle.trans hp.le,_,_,rfl,hq.le hp.le,hp.nat⟩
  have hb:(an y).length≠1:=by simp at hb;omega
  have gN:2≤(an y).length:=by omega
  obtain⟨t,ht⟩:∃t,(an y)[(an y).length-1]? = some t:=⟨_,List.getElem?_eq_getElem (by omega)⟩;have O2:=eo.get ht;rw[cj]at O2
  have uU:(((an y).length:Int)-1).toNat=(an y).length-1:=by omega
  have hs0:0≤(1000000000:Int)/((t:Int)+1):=Int.ediv_nonneg (by omega) (by omega);have lR:(1000000000:Int)/((t:Int)+1)≤1000000000:=Int.ediv_le_self _ (by omega);obtain⟨sc,AT⟩:∃sc,sc=1000000000/(t+1):=⟨_,rfl⟩
  have aeP:(1000000000:Int)/((t:Int)+1)=(sc:Int):=by rw[AT];simp
  have Dp:0<sc:=by rw[AT];exact Nat.div_pos (by omega) (by omega)
  have aeQ:sc*(t+1)≤1000000000:=by rw[AT];exact Nat.div_mul_le_self _ _
  refine aA (aj [0,1] rfl ?_);refine ag (ab 3 rfl (ae [0,1,8] ?_));refine ag (ab 2 rfl (cV rfl rfl ⟨by omega,by omega⟩ (aQ ah rfl rfl rfl rfl rfl (dQ) (by rw[uU];exact dr ht) (by omega) (by omega) fun _=> ?_)));refine dd ah rfl rfl rfl ⟨by omega,by omega⟩ (aG rfl rfl ⟨by omega,by omega⟩ (lP rfl rfl (by omega) (by omega) ⟨by omega,by omega⟩ ?_));rw[aeP];refine ab 1 rfl (ae [0,1,8,9] ?_)
  have KJ:0<t:=by
   rcases Nat.eq_zero_or_pos t with e|e
   ·
    exfalso
    have:=(fP y).last t (by rw[List.getLast?_eq_getElem?];exact ht);exact this e
   ·exact e
  have O8:sc<1000000000:=by
   have:sc*2≤sc*(t+1):=Nat.mul_le_mul_left _ (by omega)
   omega
  have hyV:y*sc<B^(an y).length:=by
   have h1:y<B^((an y).length-1)*(t+1):=by
    have h2:=kP ht;rw[show (an y).length-1+1=(an y).length by omega,List.take_length,cR]at h2;have h3:=Dm eo (k:=(an y).length-1) (by omega);rw[Nat.mul_add,Nat.mul_one];omega
   have h2:y*sc<B^((an y).length-1)*(t+1)*sc:=Nat.mul_lt_mul_of_pos_right h1 Dp
   have h3:B^((an y).length-1)*(t+1)*sc≤B^((an y).length-1)*B:=by
    rw[Nat.mul_assoc];exact Nat.mul_le_mul_left _ (by rw[Nat.mul_comm,cj];exact aeQ)
   rw[←Nat.pow_succ,Nat.succ_eq_add_one,show (an y).length-1+1=(an y).length by omega]at h3
   omega
  refine ag (ab 2 rfl (aE rfl rfl (VQ (l:=an x) ⟨A,c,rfl,hc,hr⟩ jy O8 (by omega)) ?_));rintro v1 H1 ⟨g1,l1,oL,rfl,rfl,aeR,aeS,oM⟩;rw[cR]at oM;refine ab 1 rfl (ae [0,1,8,9,10] ?_);refine ag (ab 2 rfl (aE rfl rfl (VQ (l:=an y) ⟨A',c',rfl,jH,dQ.le (Heap.bB _ oL)⟩ eo O8 (by omega)) ?_));rintro v1 H1 ⟨g2,l2,ed,rfl,rfl,amt,OO,dF⟩;rw[cR]at dF;refine ab 1 rfl (tk ah rfl rfl (.inl ⟨rfl,rfl⟩) (.inr ⟨_,_,rfl,rfl⟩) (by omega) (by omega) ?_);rw[AM];refine ab 1 rfl (ae [0,8,9,10,11] ?_);refine ag (ab 3 rfl (cV rfl rfl ⟨by omega,by omega⟩ (aG rfl rfl ⟨by omega,by omega⟩ (gF Tryz.underlying177 eD rfl rfl rfl (by omega) (by omega) (by omega) (by omega) ?_))));intro g3 lS;obtain⟨m,eU⟩:∃m,m=(an x).length-(an y).length+1:=⟨_,rfl⟩;rw[show (((an x).length:Int)-((an y).length:Int)+1).toNat=m from by omega,yK];obtain⟨V3,aeT⟩:=AS ed;obtain⟨AO,aeU⟩:=AS lS;obtain⟨KK,aeV⟩:=AS aeU
  have fE:∀e e',ins (ins H g2 e) g3 e' g1=none:=fun e e'=>by rw[a6 _ _ (Ne.symm KK),a6 _ _ (Ne.symm V3)];exact oL
  have nt:∀e,ins H g2 e g3=none:=fun e=>by rw[a6 _ _ AO];exact aeV
  rw[CZ H _ _ (Ne.symm V3),CZ (ins H g2 _) _ _ (Ne.symm KK)];obtain⟨V,KL⟩:∃V,V=y*sc:=⟨_,rfl⟩;obtain⟨b,pS⟩:∃b,b=l2.take (an y).length:=⟨_,rfl⟩
  have kG:b.length=(an y).length:=by rw[pS];simp;omega
  have Gg:val b=V:=by
   have h1:=Gc l2 (k:=(an y).length) (by omega);rw[dF,←pS]at h1
   rcases Nat.eq_zero_or_pos (val (l2.drop (an y).length))with e|e
   ·rw[e,Nat.mul_zero]at h1;omega
   ·
    have:B^(an y).length*1≤B^(an y).length*val (l2.drop (an y).length):=Nat.mul_le_mul_left _ e
    omega
  have V4:Lt b:=by rw[pS];exact OO.take _
  have uV:0<V:=by rw[KL];exact Nat.mul_pos jt Dp
  obtain⟨tp,Kf⟩:∃tp,b[b.length-1]? = some tp:=⟨_,List.getElem?_eq_getElem (by omega)⟩
  have aeW:0<tp:=by
   rcases Nat.eq_zero_or_pos tp with e|e
   ·
    exfalso
    have h2:=kP Kf;rw[show b.length-1+1=b.length by omega,List.take_length,e,Nat.mul_zero,Gg]at h2;have h3:=Dm V4 (k:=b.length-1) (by omega);have h4:y*1≤y*sc:=Nat.mul_le_mul_left _ Dp;rw[kG]at h2 h3
    omega
   ·exact e
  refine Vs (x':= .val (.slice (some ⟨g2,0,none⟩) b.length ((an y).length+1-0))) 11 rfl (by rw[kG];rfl) ?_;refine ab 1 rfl (ae [0,8,9,10,11,12] ?_);refine ao (ag (ab 3 rfl (cV rfl rfl ⟨by omega,by omega⟩ (ab 1 rfl (ae [8,9,10,11,12,13] ?_)))));refine aF (fZ (fun(k:Nat)(l:List Nat)(o:List Nat)=>k) (fun(k:Nat)(l:List Nat)(o:List Nat)=>put (put (put (put (put (put (emp) 8 (.val (.int .i64 ((an y).length:Int)))) 9 (.val (.int .u64 (sc:Int)))) 10 (.val (.slice (some ⟨g1,0,none⟩) ((an x).length+1) ((an x).length+1)))) 11 (.val (.slice (some ⟨g2,0,none⟩) b.length ((an y).length+1-0)))) 12 (.val (.slice (some ⟨g3,0,none⟩) m m))) 13 (.val (.int .i64 ((k:Int)-1)))) (fun(k:Nat)(l:List Nat)(o:List Nat) H'=>H'=ins (ins (ins H g2 (dE l2 ((an y).length+1))) g3 (dE o m)) g1 (dE l ((an x).length+1))∧k≤m∧l.length=(an x).length+1∧Lt l∧o.length=m∧Lt o∧val (o.drop k)*V*B^k+val l=x*sc∧val (l.drop k)<V) m _ _ (⟨rfl,by omega,aeR,aeS,by simp,Lt.replicate _,by simp[val,oM],by rw[KL];exact aeE (by omega) oM (by rw[show m+((an y).length-1)=(an x).length by omega];exact Df x) aeN Dp⟩) ar ?_);rintro k l o H1 ⟨rfl,hk,uT,bI,dA,ee,hinv,uX⟩;refine ao (ag ?_)
  refine ab 2 rfl (ae [8,9,10,11,12,13,66] ?_);refine aC rfl (fun hb=> ?_) (fun hb=> ?_)
  ·
   have hb:1≤k:=by simp at hb;omega
   obtain⟨k,rfl⟩:∃j,k=j+1:=⟨k-1,by omega⟩
   have gE:(((k+1:Nat):Int)-1).toNat=k:=by omega
   obtain⟨w,Dq⟩:∃w,w=(l.drop k).take ((an y).length+1):=⟨_,rfl⟩
   have pQ:w.length=(an y).length+1:=by rw[Dq];simp;omega
   obtain⟨hwz,nN,O9⟩:=VX bI (n:=(an y).length) (by omega) uX (by omega);rw[←Dq,←Gg]at O9
   have aeX:Lt w:=by rw[Dq];exact(bI.drop k).take _
   have yN:l=l.take k++w++l.drop (k+(an y).length+1):=by
    rw[Dq,List.append_assoc]
    conv=>lhs;rw[←List.take_append_drop k l,←List.take_append_drop ((an y).length+1) (l.drop k)]
    rw[List.drop_drop]
    rfl
   have hlk:(l.take k).length=k:=by simp;omega
   have fV:Rd (ins (ins H g2 (dE l2 ((an y).length+1))) g3 (dE o m)) (some ⟨g2,0,none⟩) (U b):=by
    rw[pS,FZ];exact((Kz H g2 l2 _).le (Heap.bB _ (nt _))).take _
   refine aA (aj [8,9,10,11,12,13] rfl ?_);refine ao (aF (aB rfl (ab 6 rfl (aG rfl rfl ⟨by omega,by omega⟩ (aG rfl rfl ⟨by omega,by omega⟩ (tk ah rfl rfl (.inr ⟨_,_,rfl,congrArg (fun z=>some (Value.int .i64 z)) (show ((k+1:Nat):Int)-1=((k:Nat):Int) by omega)⟩) (.inr ⟨_,_,rfl,congrArg (fun z=>some (Value.int .i64 z)) (show ((k+1:Nat):Int)-1+((an y).length:Int)+1=((k+(an y).length+1:Nat):Int) by omega)⟩) (by omega) (by omega) (Vs (x':= .val (.slice (some ⟨g1,(l.take k).length,none⟩) (b.length+1) ((an x).length+1-k))) 77 rfl (by rw[if_neg (by omega),Option.map_some,iN,Nat.mul_one,hlk,show k+(an y).length+1-k=b.length+1 by omega]) ?_)))))));refine ab 1 rfl (aE rfl rfl (by have hF:=aeG (lo:=l.take k) (w:=w) (hi:=l.drop (k+(an y).length+1)) (N:=(an x).length+1) (c:=(an x).length+1-k) (c':=(an y).length+1-0) (fE _ _) fV (by omega) (by omega) (by omega) aeX V4 Kf aeW O9;rw[←yN]at hF;exact hF) ?_);rintro v1 H1 ⟨w',rfl,gq,lT,Pb,rfl⟩;obtain⟨ti,ak,al⟩:=oG;refine cQ (.inl rfl) ah rfl rfl rfl (by omega) (by omega) ((a6 _ _ KK).trans (bD _ _ _)) rfl (by rw[oI];omega) ak al (fun _=>rfl) rfl rfl rfl fun _=> ?_;refine aw ?_
   refine aj [8,9,10,11,12,13] rfl ?_;refine aB rfl (ab 1 rfl (cV rfl rfl ⟨by omega,by omega⟩ (ab 1 rfl (aw ?_))));have dO:=aeD (q:=val w/V) bI (n:=(an y).length) (by omega) uX (by omega) (by omega) hinv (by rw[←Dq]) (by rw[←Dq,Pb,Gg]) (by rw[gq,pQ]);refine⟨k,l.take k++w'++l.drop (k+(an y).length+1),o.set k (val w/V),by omega,ar,?_,by omega,?_,?_,by simp[dA],ee.set ?_,dO.1,dO.2⟩
   ·rw[CZ _ _ _ (Ne.symm KK),uR (y:=val w/V) (by rw[Gg]),gE]
   ·simp[gq,pQ,uT];omega
   ·exact((bI.take k).append lT).append (bI.drop _)
   ·rw[←Gg];exact Nat.div_lt_of_lt_mul (by rw[Nat.mul_comm];exact O9)
  have hb:k=0:=by simp at hb;omega
  subst hb
  simp only[List.drop_zero,Nat.pow_zero,Nat.mul_one]at hinv uX
  obtain⟨hQ,hR⟩:=aeF (Q:=val o) (R:=val l) (x:=x) (y:=y) (sc:=sc) (by rw[←KL];exact hinv) (by rw[←KL];exact uX) Dp;refine aV (aj [9,10,12] rfl ?_);refine ag (ab 1 rfl (aE rfl rfl (KD (AN _ _ l _ _ uT.symm (Nat.le_refl _)) bI (by omega)) ?_));intro v1 H4 hp;refine ab 1 rfl (aE rfl rfl (VT hp.nat (fP _).lt O8 Dp (by have:=jd.2 (uO bI);omega)) ?_);rintro v2 H5 ⟨iO,r,rfl,tq⟩;rw[cR,hR]at tq;refine ab 5 rfl (ae [12,14] ?_);refine ag (ab 1 rfl (aE rfl rfl (KD (((AN _ _ o m m dA.symm (Nat.le_refl _)).le (Heap.bB _ (fE _ _))).le (hp.le.trans iO)) ee (by omega)) ?_));intro v1 H6 oN;refine ab 3 rfl (ae [4,5] ?_);refine aD ⟨.inr rfl,_,.tmp rfl (.tmp rfl (.nil)),?_⟩;exact⟨((((Heap.bB _ aeT).trans (Heap.bB _ (nt _))).trans (Heap.bB _ (fE _ _))).trans (hp.le.trans iO)).trans oN.le,_,_,rfl,by rw[←hQ];exact oN.nat,tq.le oN.le⟩
end Go.au
namespace Go.au
open Go.Proofs Num
theorem aeY{H:Heap}{u v:Value}{x y:Nat}(hx:de H u x)(hy:de H v y)(hm:((an x).length:Int)<8796093022208)(bH:((an y).length:Int)<8796093022208):
  Fn Tryz.prog 209 #[u,v] H (nr H (Nat.gcd x y)):=by
 obtain⟨M,hM⟩:∃M,M=max x y:=⟨_,rfl⟩
 have hMl:((an M).length:Int)<8796093022208:=by
  rcases Nat.le_total x y with h | h
  ·rw[hM,Nat.max_eq_right h];exact bH
  ·rw[hM,Nat.max_eq_left h];exact hm
 refine a7 (args:=[_,_]) Tryz.func209 rfl rfl Tryz.ntmps209 rfl rfl fun w0=> ?_;refine aj [0,1] rfl ?_;refine ag (ab 1 rfl (ae [0,1] ?_));refine ao (aF (oD (fun(x1:Nat)(y1:Nat)(u:Value)(v:Value)=>y1) (fun(x1:Nat)(y1:Nat)(u:Value)(v:Value)=>put (put (emp) 0 (.val (u))) 1 (.val (v))) (fun(x1:Nat)(y1:Nat)(u:Value)(v:Value) H'=>Heap.le H H'∧de H' u x1∧de H' v y1∧Nat.gcd x1 y1=Nat.gcd x y∧x1≤M∧y1≤M) x y u v (⟨.refl _,hx,hy,rfl,by omega,by omega⟩) ar ?_));rintro x1 y1 u v H1 ⟨hle,eV,tn,hg,hxM,Pc⟩;obtain⟨A,c,rfl,hc,hr⟩:=eV;obtain⟨A',c',rfl,jH,dQ⟩:=tn;have cH:=my hxM;have dG:=my Pc;refine ao (ag (ab 3 rfl (ae [0,1,13] ?_)));refine aC rfl (fun hb=> ?_) (fun hb=> ?_)
 ·
  have hb:(an y1).length≠0:=by simp at hb;intro e;simp[List.eq_nil_of_length_eq_zero e]at hb
  have jt:0<y1:=by rcases Nat.eq_zero_or_pos y1 with e | e;· exact absurd (jX.2 e) hb
                   ·exact e
  refine aA (aj [0,1] rfl ?_);refine aF (ao ?_)
  by_cases h2:(an x1).length≤2
  ·
   skip
   refine ag (ab 2 rfl (aI true rfl rfl (pO (by omega)) (ab 5 rfl (ae [0,1,21] ?_))));refine aC rfl (fun hb=> ?_) (fun hb=> ?_)
   ·
    have hb:(an y1).length≤2:=by simp at hb;omega
    have Pd:=jd.1 h2;have Pe:=jd.1 hb;rw[cj]at Pd Pe
    simp only[Nat.reducePow]at Pd Pe
    refine ag (ab 1 rfl (aE rfl rfl (VO hr h2) ?_));rintro v1 H2 ⟨rfl,rfl⟩;refine ab 5 rfl (ae [1,5] ?_);refine ag (ab 1 rfl (aE rfl rfl (VO dQ hb) ?_));rintro v1 H3 ⟨rfl,rfl⟩;refine ab 5 rfl (ae [5,7] ?_);refine ao (aF (gX (fun(p:Nat)(q:Nat)=>q) (fun(p:Nat)(q:Nat)=>put (put (emp) 5 (.val (.int .u64 (p:Int)))) 7 (.val (.int .u64 (q:Int)))) (fun(p:Nat)(q:Nat) H'=>Heap.le H H'∧Nat.gcd p q=Nat.gcd x y∧p<1000000000000000000∧q<1000000000000000000) x1 y1 (⟨hle,hg,Pd,Pe⟩) ar ?_));rintro p q H1 ⟨eW,ed,Pf,Gh⟩;refine ao (ag (ab 2 rfl (ae [5,7,33] ?_)));refine aC rfl (fun hb=> ?_) (fun hb=> ?_)
    ·
     have hb:0<q:=by simp at hb;omega
     refine aA (aj [5,7] rfl ?_);refine aF (eu .bL [0,1,2,3,4,5] follows (by kernel_rfl) ?_);refine ab 3 rfl (m7 rfl rfl (by omega) (by omega) (ab 2 rfl (aw ?_)));have bI:=Nat.mod_lt p hb;exact⟨q,p%q,bI,ar,eW,by rw[Nat.gcd_comm q,←Nat.gcd_rec,Nat.gcd_comm q];exact ed,Gh,by omega⟩
    ·
     have hb:q=0:=by simp at hb;omega
     subst hb;rw[Nat.gcd_zero_right]at ed;refine aV (aj [5] rfl ?_);refine ag (ab 1 rfl (aE rfl rfl (KB (by omega)) ?_));intro v1 H4 hp;refine ab 1 rfl (ae [4] ?_);refine aD ⟨.inr rfl,_,.tmp rfl (.nil),?_⟩;exact⟨eW.trans hp.le,by rw[←ed];exact hp.nat⟩
   ·
    skip
    refine aA (aj [0,1] rfl ?_);refine ag (ab 2 rfl (aE rfl rfl (KI (x:=x1) (y:=y1) ⟨A,c,rfl,hc,hr⟩ ⟨A',c',rfl,jH,dQ⟩ jt (by omega)) ?_));rintro v1 H4 ⟨eW,q,r,rfl,bU,mz⟩;refine ab 5 rfl (ae [1,10] ?_);refine aB rfl (ab 4 rfl (aw ?_));have bI:=Nat.mod_lt x1 jt;exact⟨y1,x1%y1,_,_,bI,ar,hle.trans eW,jx.le (l:=an y1) ⟨A',c',rfl,jH,dQ⟩ eW,mz,by rw[Nat.gcd_comm y1,←Nat.gcd_rec,Nat.gcd_comm y1];exact hg,Pc,by omega⟩
  ·
   skip
   refine ag (ab 2 rfl (aI false rfl rfl (yH (by omega)) (ab 5 rfl (ae [0,1,21] ?_))));refine dU rfl (aA (aj [0,1] rfl ?_));refine ag (ab 2 rfl (aE rfl rfl (KI (x:=x1) (y:=y1) ⟨A,c,rfl,hc,hr⟩ ⟨A',c',rfl,jH,dQ⟩ jt (by omega)) ?_));rintro v1 H4 ⟨eW,q,r,rfl,bU,mz⟩;refine ab 5 rfl (ae [1,10] ?_);refine aB rfl (ab 4 rfl (aw ?_));have bI:=Nat.mod_lt x1 jt;exact⟨y1,x1%y1,_,_,bI,ar,hle.trans eW,jx.le (l:=an y1) ⟨A',c',rfl,jH,dQ⟩ eW,mz,by rw[Nat.gcd_comm y1,←Nat.gcd_rec,Nat.gcd_comm y1];exact hg,Pc,by omega⟩
 ·
  have hb:(an y1).length=0:=by simp at hb;simp[hb]
  have jt:y1=0:=jX.1 hb;subst jt;rw[Nat.gcd_zero_right]at hg;refine aV (aj [0] rfl ?_);refine ag (ab 2 rfl (ae [4] ?_));refine aD ⟨.inr rfl,_,.tmp rfl (.nil),?_⟩;exact⟨hle,by rw[←hg];exact⟨A,c,rfl,hc,hr⟩⟩
end Go.au
namespace Num
def sg(neg:Bool)(n:Nat):Int:=if neg then -(n:Int)else n
def cL(neg:Bool)(n d:Nat):Rat:=mkRat (sg neg n) d
theorem Pg(f:Bool)(n:Nat):(sg f n).natAbs=n:=by cases f <;> simp[sg]
theorem aeZ(f:Bool):sg f 0=0:=by cases f <;> rfl
theorem wB(f:Bool)(d:Nat):cL f 0 d=0:=by simp[cL,aeZ]
theorem Gi(f:Bool)(n:Nat):cL f n 0=0:=by simp[cL]
theorem yO{f:Bool}{n d:Nat}(hd:0<d):(cL f n d).den=d/Nat.gcd n d:=by
 rw[cL,Rat.den_mkRat,if_neg (by omega),Pg,Nat.gcd_comm]
theorem Ph{f:Bool}{n d:Nat}(hd:0<d):(cL f n d).num=sg f (n/Nat.gcd n d):=by
 rw[cL,Rat.num_mkRat,if_neg (by omega),Pg,Nat.gcd_comm]
 have hdv:Nat.gcd n d∣n:=Nat.gcd_dvd_left n d
 cases f
 ·simp[sg]
 ·simp only[sg,if_true]
  rw[Int.neg_ediv_of_dvd (by exact_mod_cast hdv)]
  simp
theorem AU{f:Bool}{n d:Nat}(hd:0<d):(cL f n d).num.natAbs=n/Nat.gcd n d:=by rw[Ph hd,Pg]
theorem Gj{f:Bool}{n d:Nat}(hd:0<d)(hn:0<n):decide ((cL f n d).num<0)=f:=by
 rw[Ph hd]
 have h1:0<n/Nat.gcd n d:=Nat.div_pos (Nat.le_of_dvd hn (Nat.gcd_dvd_left n d)) (Nat.gcd_pos_of_pos_left _ hn)
 cases f <;> simp[sg] <;> omega
theorem Pj{f:Bool}{n d:Nat}(hd:0<d):cL f n d=0↔n=0:=by
 rw[cL,Rat.mkRat_eq_zero (by omega)]
 cases f <;> simp[sg]
theorem ae0{f:Bool}{n d:Nat}(hd:0<d)(hn:0<n):cL f n d<0↔f=true:=by
 have h:=Gj (f:=f) hd hn
 rw[←Rat.not_le,←Rat.num_nonneg]
 constructor
 ·intro h1;rw[←h,decide_eq_true_iff];omega
 ·intro h1;rw[h1]at h⊢;have:=of_decide_eq_true h;omega
theorem V5(f:Bool){n m d e:Nat}(hd:0<d)(he:0<e):cL f n d+cL f m e=cL f (n*e+m*d) (d*e):=by
 rw[cL,cL,Rat.mkRat_add_mkRat _ _ (by omega) (by omega),cL]
 congr 1
 cases f
 ·simp[sg]
 ·simp[sg,Int.neg_add,Int.neg_mul]
theorem Pk{f g:Bool}(qz:f≠g){n m d e:Nat}(hd:0<d)(he:0<e)(h:m*d≤n*e):cL f n d+cL g m e=cL f (n*e-m*d) (d*e):=by
 rw[cL,cL,Rat.mkRat_add_mkRat _ _ (by omega) (by omega),cL]
 congr 1
 obtain rfl:g = !f:=by cases f <;> cases g <;> simp at qz⊢
 cases f
 ·simp[sg]
  rw[Int.ofNat_sub h];simp[Int.neg_mul];omega
 ·simp[sg]
  rw[Int.ofNat_sub h];simp[Int.neg_mul];omega
theorem V6{f g:Bool}(qz:f≠g){n m d e:Nat}(hd:0<d)(he:0<e)(h:n*e≤m*d):cL f n d+cL g m e=cL g (m*d-n*e) (d*e):=by
 rw[Rat.add_comm,Pk (Ne.symm qz) he hd h,Nat.mul_comm e d]
theorem Pm(f:Bool)(n d:Nat): -cL f n d=cL (!f) n d:=by
 rw[cL,cL,Rat.neg_mkRat]
 cases f <;> simp[sg]
theorem Pn(f g:Bool)(n m d e:Nat):cL f n d*cL g m e=cL (f != g) (n*m) (d*e):=by
 rw[cL,cL,Rat.mkRat_mul_mkRat,cL]
 congr 1
 cases f <;> cases g <;> simp[sg,Int.neg_mul,Int.mul_neg]
theorem V7{g:Bool}{m e:Nat}(_hm:0<m):(cL g m e)⁻¹=cL g e m:=by
 rw[cL,cL,←Rat.divInt_ofNat,Rat.inv_divInt,←Rat.divInt_ofNat]
 cases g
 ·rfl
 ·simp only[sg,if_true]
  rw[Rat.divInt_neg']
theorem Po{f g:Bool}{n m d e:Nat}(hm:0<m):cL f n d/cL g m e=cL (f != g) (n*e) (d*m):=by
 rw[Rat.div_def,V7 hm,Pn]
theorem ae1(n:Int):sg (decide (n<0)) n.natAbs=n:=by
 unfold sg;split
 ·rename_i h;simp at h;omega
 ·rename_i h;simp at h;omega
theorem Gk(n:Int):cL (decide (n<0)) n.natAbs 1=(n:Rat):=by
 have:sg (decide (n<0)) n.natAbs=n:=by
  unfold sg;split
  ·rename_i h;simp at h;omega
  ·rename_i h;simp at h;omega
 rw[cL,this]
 exact Rat.mkRat_self (n:Rat)
theorem V8(a b:Int):cL (decide (a<0) != decide (b<0)) a.natAbs b.natAbs=(a:Rat)/(b:Rat):=by
 rcases Nat.eq_zero_or_pos b.natAbs with h | h
 ·rw[h,Gi]
  have:b=0:=by omega
  subst this
  simp[Rat.div_def]
 ·rw[←Gk a,←Gk b,Po h]
  simp
def gZ(q:Rat):Int:=if q<0 then -1 else if q=0 then 0 else 1
def wC(p q:Rat):Int:=if p<q then -1 else if p=q then 0 else 1
theorem KM{f:Bool}{n d:Nat}(hd:0<d):gZ (cL f n d)=if n=0 then 0 else if f then -1 else 1:=by
 unfold gZ
 by_cases hn:n=0
 ·subst hn;rw[wB];rfl
 ·have h1:=ae0 (f:=f) hd (by omega:0<n)
  have h2:=Pj (f:=f) (n:=n) hd
  cases f
  ·rw[if_neg (by rw[h1];simp),if_neg (by rw[h2];exact hn),if_neg hn];rfl
  ·rw[if_pos (by rw[h1]),if_neg hn];rfl
end Num
namespace Go.au
open Go.Proofs Num
def rK(H:Heap)(v:Value)(f:Bool)(n d:Nat):Prop:=∃u w,v = .agg #[.bool f,u,w]∧de H u n∧de H w d
theorem rK.le{H H':Heap}{v:Value}{f:Bool}{n d:Nat}(h:rK H v f n d)(hl:Heap.le H H'):rK H' v f n d:=by
 obtain⟨u,w,h1,h2,h3⟩:=h
 exact⟨u,w,h1,h2.le hl,h3.le hl⟩
def bJ(H:Heap)(v:Value)(q:Rat):Prop:=rK H v (decide (q.num<0)) q.num.natAbs q.den
theorem bJ.le{H H':Heap}{v:Value}{q:Rat}(h:bJ H v q)(hl:Heap.le H H'):bJ H' v q:=rK.le h hl
def cn(H:Heap)(v:Value)(q:Rat)(N:Nat):Prop:=∃f u w l1 l2,v = .agg #[.bool f,u,w]∧jx H u l1∧jx H w l2∧(∀x,x∈l1→x<4294967296)∧(∀x,x∈l2→x<4294967296)∧l1.length≤N∧l2.length≤N∧q=cL f (val l1) (val l2)
theorem cn.le{H H':Heap}{v:Value}{q:Rat}{N:Nat}(h:cn H v q N)(hl:Heap.le H H'):cn H' v q N:=by
 obtain⟨f,u,w,l1,l2,h1,h2,h3,h4⟩:=h
 exact⟨f,u,w,l1,l2,h1,h2.le hl,h3.le hl,h4⟩
theorem cn.mono{H:Heap}{v:Value}{q:Rat}{N M:Nat}(h:cn H v q N)(hl:N≤M):cn H v q M:=by
 obtain⟨f,u,w,l1,l2,h1,h2,h3,h4,h5,h6,h7,h8⟩:=h
 exact⟨f,u,w,l1,l2,h1,h2,h3,h4,h5,by omega,by omega,h8⟩
def aO(q:Rat):Nat:=max (an q.num.natAbs).length (an q.den).length
theorem wD(q:Rat):cL (decide (q.num<0)) q.num.natAbs q.den=q:=by
 rw[cL,ae1,Rat.mkRat_self]
theorem nO{x:Nat}:∀y,y∈an x→y<4294967296:=fun y hy=>by
 have:=(fP x).lt y hy
 rw[cj]at this;omega
theorem bJ.raw{H:Heap}{v:Value}{q:Rat}(h:bJ H v q):cn H v q (aO q):=by
 obtain⟨u,w,h1,h2,h3⟩:=h
 exact⟨_,u,w,_,_,h1,h2,h3,nO,nO,Nat.le_max_left _ _,Nat.le_max_right _ _,by rw[cR,cR,wD]⟩
def kp(H:Heap)(q:Rat)(v:Value)(H':Heap):Prop:=Heap.le H H'∧bJ H' v q
theorem kp.le{H:Heap}{q:Rat}{v:Value}{H':Heap}(h:kp H q v H'):Heap.le H H':=h.1
def KN(H:Heap)(q:Rat)(K:Nat)(v:Value)(H':Heap):Prop:=Heap.le H H'∧∃f n d,rK H' v f n d∧0<d∧cL f n d=q∧(an n).length≤K∧(an d).length≤K
theorem KN.le{H:Heap}{q:Rat}{K:Nat}{v:Value}{H':Heap}(h:KN H q K v H'):Heap.le H H':=h.1
def uY(H:Heap)(x:Value)(v:Value)(H':Heap):Prop:=H'=H∧v=x
theorem uY.le{H:Heap}{x:Value}{v:Value}{H':Heap}(h:uY H x v H'):Heap.le H H':=by rw[h.1];exact .refl _
theorem uZ:an 1 = [1]:=by
 rw[yF (by decide)]
 rw[show 1/B=0 by decide,show 1%B=1 by decide,qv]
theorem yP{H:Heap}{g e:Nat}:de (ins H g (whole (cG [.int .u32 1]) e)) (.slice (some ⟨g,0,none⟩) 1 1) 1:=by
 refine⟨some ⟨g,0,none⟩,1,?_,?_,?_⟩
 ·rw[uZ];rfl
 ·rw[uZ];exact Nat.le_refl _
 ·rw[uZ];exact rI (y:=1) rfl
theorem Dr{l:List Nat}(h:∀x,x∈l→x<4294967296):(an (val l)).length≤l.length+1:=by
 refine jd.2 ?_
 have:val l+5≤5*B^l.length:=by
  induction l with
  | nil=>simp[val]
  | cons x l ih=>
   have h1:=ih (fun y hy=>h y (List.mem_cons_of_mem _ hy))
   have h2:=h x (List.mem_cons_self ..)
   rw[jv,List.length_cons,Nat.pow_succ]
   have h3:B*(val l+5)≤B*(5*B^l.length):=Nat.mul_le_mul_left _ h1
   have h4:B*(5*B^l.length)=5*(B^l.length*B):=by rw[Nat.mul_left_comm,Nat.mul_comm B]
   have h5:B*5=5000000000:=by decide
   rw[Nat.mul_add]at h3
   omega
 have h5:5*B^l.length≤B*B^l.length:=Nat.mul_le_mul_right _ (by decide)
 rw[Nat.pow_succ,Nat.mul_comm _ B];omega
theorem oO(x y:Nat):(an (x*y)).length≤(an x).length+(an y).length:=by
 refine jd.2 ?_
 rw[Nat.pow_add]
 exact Nat.mul_lt_mul'' (Df x) (Df y)
theorem V9{x y k:Nat}(hx:(an x).length≤k)(hy:(an y).length≤k):(an (x+y)).length≤k+1:=by
 refine jd.2 ?_
 have h1:=jd.1 hx
 have h2:=jd.1 hy
 have h3:B^k*2≤B^k*B:=Nat.mul_le_mul_left _ (by decide)
 rw[Nat.pow_succ];omega
end Go.au
namespace Go.au
open Go.Proofs Num
theorem ae2{H:Heap}{u v:Value}{x y:Nat}(hx:de H u x)(hy:de H v y)(hm:((an x).length:Int)≤35184372088832):Fn Tryz.prog 199 #[u,v] H (uY H (.int .i64 (kF x y))):=by
 obtain⟨A,c,rfl,hc,hr⟩:=hx
 obtain⟨A',c',rfl,jH,dQ⟩:=hy
 exact VN hr dQ hm
theorem Wa{H:Heap}{u:Value}{x:Nat}(hx:de H u x):Fn Tryz.prog 208 #[u] H (uY H (.bool (decide (x=1)))):=by
 obtain⟨A,c,rfl,hc,hr⟩:=hx
 exact aen hr
theorem Wb{H:Heap}{u:Value}{l:List Nat}(hu:jx H u l)(AO:∀x,x∈l→x<4294967296)(hm:(l.length:Int)≤8796093022208):Fn Tryz.prog 194 #[u] H (nr H (val l)):=by
 obtain⟨A,c,rfl,hc,hr⟩:=hu
 exact aeo AO hr hm
theorem tr{H:Heap}{v:Value}{q:Rat}{N:Nat}(hv:cn H v q N)(hN:(N:Int)≤4398046511104):
 Fn Tryz.prog 153 #[v] H (KN H q (N+1)):=by
 obtain⟨f,u,w,l1,l2,rfl,hu,hw,h1,h2,cH,dG,rfl⟩:=hv;refine a7 (args:=[_]) Tryz.func153 rfl rfl Tryz.ntmps153 rfl rfl fun w0=> ?_;refine aj [0] rfl ?_;refine ag (bX rfl rfl (bt kn rfl (ae [1,2] ?_)));refine bO .bL [0,1,3,4,2,5,6,7] follows (by kernel_rfl) ?_;refine ab 4 rfl (bm rfl rfl (Wb hu h1 (by omega)) (fun _ _ h=>h.le) ?_);intro v1 H1 fF;refine bm rfl rfl (Wb (hw.le fF.le) h2 (by omega)) (fun _ _ h=>h.le) ?_;intro v2 H2 dX;obtain⟨B1,b1,rfl,fE,ae3⟩:=fF.nat.le dX.le;obtain⟨B2,b2,rfl,cD,Gl⟩:=dX.nat;have eW:=fF.le.trans dX.le;have oP:=Dr h1;have oK:=Dr h2;refine ab 2 rfl (ae [1,2,3,4] ?_);refine ao ?_
 by_cases jA:(an (val l1)).length=0
 ·
  skip
  refine ag (ab 2 rfl (aI true rfl rfl (jY (by omega)) (ab 5 rfl (ae [1,2,3,4,18] ?_))));refine dN rfl (ag (cW Tryz.underlying177 eD rfl rfl rfl rfl rfl rfl rfl ?_));intro gb bx;refine dy ah rfl kn rfl rfl ?_;obtain⟨ti,ak,al⟩:=jc;refine aH (.inl ⟨rfl,rfl⟩) rfl rfl rfl ak al rfl rfl rfl (ae [2] ?_);obtain⟨bQ,aM,aN⟩:=jc;refine aD ⟨.inr rfl,_,.agg rfl Tryz.underlying179 aM aN (.nil),?_⟩;exact⟨eW.trans (Heap.bB _ bx),false,0,1,⟨_,_,rfl,wq _,yP⟩,by decide,by rw[jX.1 jA,wB,wB],by rw[qv];simp,by rw[uZ];simp⟩
 ·
  skip
  refine ag (ab 2 rfl (aI false rfl rfl (ln (by omega)) (ab 5 rfl (ae [1,2,3,4,18] ?_))));refine aC rfl (fun hb=> ?_) (fun hb=> ?_)
  ·
   have hb:(an (val l2)).length=0:=by simpa using hb
   refine ag (cW Tryz.underlying177 eD rfl rfl rfl rfl rfl rfl rfl ?_);intro gb bx;refine dy ah rfl kn rfl rfl ?_;obtain⟨ti,ak,al⟩:=jc;refine aH (.inl ⟨rfl,rfl⟩) rfl rfl rfl ak al rfl rfl rfl (ae [2] ?_);obtain⟨bQ,aM,aN⟩:=jc;refine aD ⟨.inr rfl,_,.agg rfl Tryz.underlying179 aM aN (.nil),?_⟩;exact⟨eW.trans (Heap.bB _ bx),false,0,1,⟨_,_,rfl,wq _,yP⟩,by decide,by rw[jX.1 hb,Gi,wB],by rw[qv];simp,by rw[uZ];simp⟩
  have hb:(an (val l2)).length≠0:=by simpa using hb
  refine aA (aj [1,2,3,4] rfl ?_);refine ag (ab 4 rfl (dy ah rfl kn rfl rfl ?_));obtain⟨ti,ak,al⟩:=jc;refine aH (.inl ⟨rfl,rfl⟩) rfl rfl rfl ak al rfl rfl rfl (ae [2] ?_);obtain⟨bQ,aM,aN⟩:=jc;refine aD ⟨.inr rfl,_,.agg rfl Tryz.underlying179 aM aN (.nil),?_⟩;exact⟨eW,f,val l1,val l2,⟨_,_,rfl,⟨B1,b1,rfl,fE,ae3⟩,⟨B2,b2,rfl,cD,Gl⟩⟩,Nat.pos_of_ne_zero (fun e=>hb (jX.2 e)),rfl,by omega,by omega⟩
theorem ae4{H:Heap}{v:Value}{f:Bool}{n d:Nat}(hv:rK H v f n d)(hd:0<d)(dg:((an n).length:Int)<8796093022208)(fa:((an d).length:Int)<8796093022208):
 Fn Tryz.prog 196 #[v] H (kp H (cL f n d)):=by
 obtain⟨u,w,rfl,hu,hw⟩:=hv
 obtain⟨A,c,rfl,hc,hr⟩:=id hu
 obtain⟨A2,c2,rfl,nu,mz⟩:=id hw;refine a7 (args:=[_]) Tryz.func196 rfl rfl Tryz.ntmps196 rfl rfl fun w0=> ?_;refine aj [0] rfl ?_;refine ag (bX rfl rfl (bt kn rfl (ae [1,2] ?_)));refine ao (ag (ab 4 rfl (ae [1,2,11] ?_)));refine aC rfl (fun hb=> ?_) (fun hb=> ?_)
 ·
  have hb:n=0:=jX.1 (by simpa using hb);subst hb;refine ag (cW Tryz.underlying177 eD rfl rfl rfl rfl rfl rfl rfl ?_);intro gb bx;refine dy ah rfl kn rfl rfl ?_;obtain⟨ti,ak,al⟩:=jc;refine aH (.inl ⟨rfl,rfl⟩) rfl rfl rfl ak al rfl rfl rfl (ae [2] ?_);obtain⟨bQ,aM,aN⟩:=jc;refine aD ⟨.inr rfl,_,.agg rfl Tryz.underlying179 aM aN (.nil),?_⟩;exact⟨Heap.bB _ bx,by rw[wB];exact⟨_,_,rfl,wq _,yP⟩⟩
 ·
  have jA:0<n:=Nat.pos_of_ne_zero fun e=>by rw[jX.2 e]at hb;simp at hb
  refine aA (aj [1,2] rfl ?_);refine ao (ag (ab 2 rfl (aE rfl rfl (Wa hw) ?_)));rintro v1 H1 ⟨rfl,rfl⟩;refine ae [1,2,16] ?_;refine aC rfl (fun hb=> ?_) (fun hb=> ?_)
  ·
   have ko:d=1:=by simpa using hb
   subst ko;refine ag (vr 1 ?_);obtain⟨ti,ak,al⟩:=jc;refine aH (.inl ⟨rfl,rfl⟩) rfl rfl rfl ak al rfl rfl rfl (ae [2] ?_);obtain⟨bQ,aM,aN⟩:=jc;refine aD ⟨.inr rfl,_,.agg rfl Tryz.underlying179 aM aN (.nil),?_⟩;refine⟨.refl _,?_⟩
   unfold bJ
   rw[Gj hd jA,AU hd,yO hd,Nat.gcd_one_right,Nat.div_one,Nat.div_one];exact⟨_,_,rfl,hu,hw⟩
  skip
  refine aA (aj [1,2] rfl ?_);refine ag (ab 4 rfl (aE rfl rfl (aeY hu hw dg fa) ?_));rintro v1 H2 hp;obtain⟨v1,rfl⟩:∃x,x=v1:=⟨_,rfl⟩;have qn:0<Nat.gcd n d:=Nat.gcd_pos_of_pos_left _ jA;refine ab 1 rfl (ae [1,2,3] ?_);refine ao (ag (ab 1 rfl (aE rfl rfl (Wa hp.nat) ?_)));rintro v2 H3 ⟨rfl,rfl⟩;refine ae [1,2,3,24] ?_;refine aC rfl (fun hb=> ?_) (fun hb=> ?_)
  ·
   have oL:Nat.gcd n d=1:=by simpa using hb
   refine ag (vr 1 ?_);obtain⟨ti,ak,al⟩:=jc;refine aH (.inl ⟨rfl,rfl⟩) rfl rfl rfl ak al rfl rfl rfl (ae [2] ?_);obtain⟨bQ,aM,aN⟩:=jc;refine aD ⟨.inr rfl,_,.agg rfl Tryz.underlying179 aM aN (.nil),?_⟩;refine⟨hp.le,?_⟩
   unfold bJ
   rw[Gj hd jA,AU hd,yO hd,oL,Nat.div_one,Nat.div_one];exact⟨_,_,rfl,hu.le hp.le,hw.le hp.le⟩
  skip
  refine aA (aj [1,2,3] rfl ?_);refine ag (ab 3 rfl (aE rfl rfl (KI (hu.le hp.le) hp.nat qn dg) ?_));rintro v2 H4 ⟨kH,q1,r1,rfl,cB,s7⟩;refine ab 5 rfl (ae [1,2,3,4] ?_);refine ag (ab 3 rfl (aE rfl rfl (KI (hw.le (hp.le.trans kH)) (hp.nat.le kH) qn fa) ?_));rintro v2 H5 ⟨iO,q2,r2,rfl,bU,tq⟩;obtain⟨A3,c3,rfl,u0,qA⟩:=cB.le iO;obtain⟨A4,c4,rfl,oQ,KO⟩:=id bU;refine ab 5 rfl (ae [1,2,4,6] ?_);refine ag (ab 4 rfl (dy ah rfl kn rfl rfl ?_));obtain⟨ti,ak,al⟩:=jc;refine aH (.inl ⟨rfl,rfl⟩) rfl rfl rfl ak al rfl rfl rfl (ae [2] ?_);obtain⟨bQ,aM,aN⟩:=jc;refine aD ⟨.inr rfl,_,.agg rfl Tryz.underlying179 aM aN (.nil),?_⟩;refine⟨(hp.le.trans kH).trans iO,?_⟩
  unfold bJ
  rw[Gj hd jA,AU hd,yO hd];exact⟨_,_,rfl,⟨A3,c3,rfl,u0,qA⟩,bU⟩
theorem yQ{H:Heap}{v:Value}{f:Bool}{n d:Nat}(hv:rK H v f n d)(hd:0<d)(dg:((an n).length:Int)<8796093022208)(fa:((an d).length:Int)<8796093022208):
 Fn Tryz.prog 156 #[v] H (kp H (cL f n d)):=by
 obtain⟨u,w,rfl,hu,hw⟩:=id hv;refine a7 (args:=[_]) Tryz.func156 rfl rfl Tryz.ntmps156 rfl rfl fun w0=> ?_;refine aj [0] rfl ?_;refine ag (bX rfl rfl (bt bY rfl (ae [1,2] ?_)));refine ag (ab 1 rfl (aE rfl rfl (ae4 hv hd dg fa) ?_));rintro v1 H1 ⟨hle,u1,w1,rfl,eO,gq⟩;obtain⟨A,c,rfl,hc,hr⟩:=id eO;obtain⟨A2,c2,rfl,nu,mz⟩:=id gq;refine bt kn rfl ?_;obtain⟨ti,ak,al⟩:=jc;refine aH (.inl ⟨rfl,rfl⟩) rfl rfl rfl ak al rfl rfl rfl (ae [2,3] ?_);refine ag (ab 6 rfl (dy ah rfl bY rfl rfl ?_));obtain⟨ti,ak,al⟩:=aY;refine aH (.inl ⟨rfl,rfl⟩) rfl rfl rfl ak al rfl rfl rfl (ae [2] ?_);obtain⟨bQ,aM,aN⟩:=aY;refine aD ⟨.inr rfl,_,.agg rfl Tryz.underlying31 aM aN (.nil),?_⟩;exact⟨hle,_,_,rfl,eO,gq⟩
theorem ae5{H:Heap}{v:Value}{f:Bool}{n d:Nat}(hv:rK H v f n d)(hd:0<d):
 Fn Tryz.prog 154 #[v] H (uY H (.int .i64 (gZ (cL f n d)))):=by
 obtain⟨u,w,rfl,hu,hw⟩:=id hv
 obtain⟨A,c,rfl,hc,hr⟩:=id hu;refine a7 (args:=[_]) Tryz.func154 rfl rfl Tryz.ntmps154 rfl rfl fun w0=> ?_;refine aj [0] rfl ?_;refine ag (bX rfl rfl (ab 1 rfl (ae [1] ?_)));refine ao (aF (ag (ab 5 rfl (ae [1,3] ?_))));refine aC rfl (fun hb=> ?_) (fun hb=> ?_)
 ·
  have hb:n=0:=jX.1 (by simpa using hb);refine ag (ab 1 rfl (ae [2] ?_));refine aD ⟨.inr rfl,_,.tmp rfl (.nil),?_⟩;exact⟨rfl,by rw[KM hd,if_pos hb];rfl⟩
 ·
  have jA:n≠0:=fun e=>by rw[jX.2 e]at hb;simp at hb
  refine ag (ab 3 rfl (ae [8] ?_));refine aC rfl (fun hb=> ?_) (fun hb=> ?_)
  ·
   subst hb;refine ag (ab 1 rfl (ae [2] ?_));refine aD ⟨.inr rfl,_,.tmp rfl (.nil),?_⟩;exact⟨rfl,by rw[KM hd,if_neg jA];rfl⟩
  subst hb;refine aA (aj [] rfl ?_);refine ag (ab 1 rfl (ae [2] ?_));refine aD ⟨.inr rfl,_,.tmp rfl (.nil),?_⟩;exact⟨rfl,by rw[KM hd,if_neg jA];rfl⟩
end Go.au
namespace Go.au
open Go.Proofs Num
theorem wrap_u64(n:Int):IntKind.u64.wrap n=n%18446744073709551616:=rfl
theorem Wc{x y:Nat}:(0≤kF x y)↔y≤x:=by
 unfold kF;split
 ·omega
 ·split <;> omega
theorem Wd{H:Heap}{u v:Value}{f g:Bool}{n d m e K:Nat}(hf:rK H u f n d)(hg:rK H v g m e)(hd:0<d)(he:0<e)(h1:(an n).length≤K)(h2:(an d).length≤K)(h3:(an m).length≤K)(h4:(an e).length≤K)(hK:(K:Int)≤2199023255552):
 Fn Tryz.prog 182 #[u,v] H (KN H (cL f n d+cL g m e) (2*K+1)):=by
 obtain⟨un,ud,rfl,pR,We⟩:=id hf
 obtain⟨vm,ve,rfl,hvm,Ds⟩:=id hg
 have rL:=oO n e
 have lq:=oO m d
 have Pp:=oO d e
 have KP:=Nat.mul_pos hd he
 have lR:=V9 (x:=n*e) (y:=m*d) (k:=2*K) (by omega) (by omega);refine a7 (args:=[_,_]) Tryz.func182 rfl rfl Tryz.ntmps182 rfl rfl fun w0=> ?_;refine aj [0,1] rfl ?_;refine ag (bX rfl rfl (bX rfl rfl (bt kn rfl (ae [2,3,4] ?_))));refine bO .bL [0,1,2,3,5,6,7,8,4,9,10,11] follows (by kernel_rfl) ?_;refine ab 8 rfl (bm rfl rfl (AP pR Ds (by omega) (by omega)) (fun _ _ h=>h.le) ?_);intro v1 H1 fF;refine bm rfl rfl (AP (hvm.le fF.le) (We.le fF.le) (by omega) (by omega)) (fun _ _ h=>h.le) ?_;intro v2 H2 dX;refine ab 2 rfl (ae [2,3,4,5,6] ?_);refine ag (ab 4 rfl (aE rfl rfl (AP (We.le (fF.le.trans dX.le)) (Ds.le (fF.le.trans dX.le)) (by omega) (by omega)) ?_));intro v3 H3 eE;have im:=(fF.le.trans dX.le).trans eE.le;have dg:=fF.nat.le (dX.le.trans eE.le);have gN:=dX.nat.le eE.le;have jZ:=eE.nat;obtain⟨Pq,Pr,rfl,Ps,Pt⟩:=id dg;obtain⟨Wf,Wg,rfl,Wh,Wi⟩:=id gN;obtain⟨Pu,Pv,rfl,Pw,KR⟩:=id jZ;refine ab 1 rfl (ae [2,3,4,5,6,7] ?_);refine ao (ag (ab 4 rfl (OG Tryz.underlying4 rfl rfl (ae [2,3,4,5,6,7,27] ?_))));refine aC rfl (fun hb=> ?_) (fun hb=> ?_)
 ·
  have qz:f=g:=by simpa using hb
  subst qz;refine bO .bL [0,1,2,3,5,4,6,7] follows (by kernel_rfl) ?_;refine ab 5 rfl (bm rfl rfl (aeq dg gN (by omega) (by omega)) (fun _ _ h=>h.le) ?_);intro v4 H4 fG;have jf:=fG.nat;obtain⟨KS,KT,rfl,KU,KV⟩:=id jf;refine dy ah rfl kn rfl rfl ?_;obtain⟨ti,ak,al⟩:=jc;refine aH (.inl ⟨rfl,rfl⟩) rfl rfl rfl ak al rfl rfl rfl (ae [4] ?_);obtain⟨bQ,aM,aN⟩:=jc;refine aD ⟨.inr rfl,_,.agg rfl Tryz.underlying179 aM aN (.nil),?_⟩;exact⟨im.trans fG.le,f,n*e+m*d,d*e,⟨_,_,rfl,jf,jZ.le fG.le⟩,KP,(V5 f hd he).symm,by omega,by omega⟩
 ·
  have qz:f≠g:=by simpa using hb
  refine aA (aj [2,3,4,5,6,7] rfl ?_);refine ao (ag (ab 2 rfl (aE rfl rfl (ae2 dg gN (by omega)) ?_)));rintro v4 H4 ⟨rfl,rfl⟩;refine ab 1 rfl (ae [2,3,4,5,6,7,38] ?_);refine aC rfl (fun hb=> ?_) (fun hb=> ?_)
  ·
   have hb:m*d≤n*e:=Wc.1 (by simpa using hb);have pT:=my (Nat.sub_le (n*e) (m*d));refine bO .bL [0,1,2,3,5,4,6,7] follows (by kernel_rfl) ?_;refine ab 5 rfl (bm rfl rfl (VP dg gN hb (by omega)) (fun _ _ h=>h.le) ?_);intro v4 H4 fG;have jf:=fG.nat;obtain⟨KS,KT,rfl,KU,KV⟩:=id jf;refine dy ah rfl kn rfl rfl ?_;obtain⟨ti,ak,al⟩:=jc;refine aH (.inl ⟨rfl,rfl⟩) rfl rfl rfl ak al rfl rfl rfl (ae [4] ?_);obtain⟨bQ,aM,aN⟩:=jc;refine aD ⟨.inr rfl,_,.agg rfl Tryz.underlying179 aM aN (.nil),?_⟩;exact⟨im.trans fG.le,f,n*e-m*d,d*e,⟨_,_,rfl,jf,jZ.le fG.le⟩,KP,(Pk qz hd he hb).symm,by omega,by omega⟩
  have hb:¬m*d≤n*e:=fun h=>by have:=Wc.2 h;simp at hb;omega
  have hb:n*e≤m*d:=by omega
  have pT:=my (Nat.sub_le (m*d) (n*e));refine aA (aj [3,4,5,6,7] rfl ?_);refine bO .bL [0,1,2,3,5,4,6,7] follows (by kernel_rfl) ?_;refine ab 5 rfl (bm rfl rfl (VP gN dg hb (by omega)) (fun _ _ h=>h.le) ?_);intro v4 H4 fG;have jf:=fG.nat;obtain⟨KS,KT,rfl,KU,KV⟩:=id jf;refine dy ah rfl kn rfl rfl ?_;obtain⟨ti,ak,al⟩:=jc;refine aH (.inl ⟨rfl,rfl⟩) rfl rfl rfl ak al rfl rfl rfl (ae [4] ?_);obtain⟨bQ,aM,aN⟩:=jc;refine aD ⟨.inr rfl,_,.agg rfl Tryz.underlying179 aM aN (.nil),?_⟩;exact⟨im.trans fG.le,g,m*d-n*e,d*e,⟨_,_,rfl,jf,jZ.le fG.le⟩,KP,(V6 qz hd he hb).symm,by omega,by omega⟩
theorem Px{H:Heap}{n:Int}(h1: -9223372036854775808≤n)(h2:n≤9223372036854775807):
 Fn Tryz.prog 155 #[.int .i64 n] H (nr H n.natAbs):=by
 refine a7 (args:=[_]) Tryz.func155 rfl rfl Tryz.ntmps155 rfl rfl fun w0=> ?_;refine aj [0] rfl ?_;refine ag (ab 1 rfl (ae [0] ?_));refine ao (ag (ab 2 rfl (ae [0,4] ?_)));refine aC rfl (fun hb=> ?_) (fun hb=> ?_)
 ·
  have hb:n<0:=by simpa using hb
  refine ag (ab 1 rfl (Vu ah rfl rfl rfl (ac3 rfl ?_)));rw[show IntKind.u64.wrap (-IntKind.u64.wrap n)=((n.natAbs:Nat):Int) by rw[wrap_u64,wrap_u64];omega];refine aE rfl rfl (KB (by omega)) ?_;intro v1 H1 hp;refine ab 1 rfl (ae [2] ?_);refine aD ⟨.inr rfl,_,.tmp rfl (.nil),?_⟩;exact hp
 ·
  have hb:0≤n:=by simpa using hb
  refine aA (aj [0] rfl ?_);refine ag (ab 1 rfl (Vu ah rfl rfl rfl ?_));rw[show IntKind.u64.wrap n=((n.natAbs:Nat):Int) by rw[wrap_u64];omega];refine aE rfl rfl (KB (by omega)) ?_;intro v1 H1 hp;refine ab 1 rfl (ae [2] ?_);refine aD ⟨.inr rfl,_,.tmp rfl (.nil),?_⟩;exact hp
theorem Py{H:Heap}{n:Int}(h1: -9223372036854775808≤n)(h2:n≤9223372036854775807):
 Fn Tryz.prog 85 #[.int .i64 n] H (kp H (n:Rat)):=by
 have gO:(an n.natAbs).length≤3:=jd.2 (by rw[cj];omega);refine a7 (args:=[_]) Tryz.func85 rfl rfl Tryz.ntmps85 rfl rfl fun w0=> ?_;refine aj [0] rfl ?_;refine ag (bt bY rfl (ae [0,2] ?_));refine ag (ab 3 rfl (aE rfl rfl (Px h1 h2) ?_));intro v1 H1 hp;have dg:=hp.nat;obtain⟨Pq,Pr,rfl,Ps,Pt⟩:=id dg;refine cW Tryz.underlying177 eD rfl rfl rfl rfl rfl rfl rfl ?_;intro gb bx;refine dy ah rfl kn rfl rfl (aE rfl rfl (yQ (f:=decide (n<0)) (n:=n.natAbs) (d:=1) ⟨_,_,rfl,dg.le (Heap.bB _ bx),yP⟩ (by decide) (by omega) (by rw[uZ];decide)) ?_);rintro v1 H2 ⟨hle,hq⟩;rw[Gk]at hq;obtain⟨u1,w1,rfl,eO,gq⟩:=id hq;obtain⟨mA,mB,rfl,mC,mD⟩:=id eO;obtain⟨Dt,Du,rfl,Dv,Dw⟩:=id gq;obtain⟨ti,ak,al⟩:=aY;refine aH (.inl ⟨rfl,rfl⟩) rfl rfl rfl ak al rfl rfl rfl (ae [2] ?_);obtain⟨bQ,aM,aN⟩:=aY;refine aD ⟨.inr rfl,_,.agg rfl Tryz.underlying31 aM aN (.nil),?_⟩;exact⟨(hp.le.trans (Heap.bB _ bx)).trans hle,hq⟩
theorem Wj{H:Heap}{a b:Int}(h1: -9223372036854775808≤a)(h2:a≤9223372036854775807)(h3: -9223372036854775808≤b)(h4:b≤9223372036854775807):
 Fn Tryz.prog 133 #[.int .i64 a,.int .i64 b] H (kp H ((a:Rat)/(b:Rat))):=by
 have gO:(an a.natAbs).length≤3:=jd.2 (by rw[cj];omega)
 have dW:(an b.natAbs).length≤3:=jd.2 (by rw[cj];omega);refine a7 (args:=[_,_]) Tryz.func133 rfl rfl Tryz.ntmps133 rfl rfl fun w0=> ?_;refine aj [0,1] rfl ?_;refine ag (bt bY rfl (ae [0,1,4] ?_));refine ao (ag (ab 2 rfl (ae [0,1,4,6] ?_)));refine aC rfl (fun hb=> ?_) (fun hb=> ?_)
 ·
  have hb:b=0:=by simpa using hb
  subst hb;refine ag (aE rfl rfl (Py (n:=0) (by decide) (by decide)) ?_);rintro v1 H2 ⟨hle,hq⟩;obtain⟨u1,w1,rfl,eO,gq⟩:=id hq;obtain⟨mA,mB,rfl,mC,mD⟩:=id eO;obtain⟨Dt,Du,rfl,Dv,Dw⟩:=id gq;obtain⟨ti,ak,al⟩:=aY;refine aH (.inl ⟨rfl,rfl⟩) rfl rfl rfl ak al rfl rfl rfl (ae [4] ?_);obtain⟨bQ,aM,aN⟩:=aY;refine aD ⟨.inr rfl,_,.agg rfl Tryz.underlying31 aM aN (.nil),?_⟩;exact⟨hle,by rw[show (a:Rat)/((0:Int):Rat)=((0:Int):Rat) by simp[Rat.div_def]];exact hq⟩
 ·
  have hb:b≠0:=by simpa using hb
  refine aA (aj [0,1,4] rfl ?_);refine ag (ab 4 rfl (FF Tryz.underlying4 rfl rfl (ab 1 rfl (aE rfl rfl (Px h1 h2) ?_))));intro v1 H1 fF;refine ab 1 rfl (aE rfl rfl (Px h3 h4) ?_);intro v2 H2 dX;have dg:=fF.nat.le dX.le;have gN:=dX.nat;obtain⟨Pq,Pr,rfl,Ps,Pt⟩:=id dg;obtain⟨Wf,Wg,rfl,Wh,Wi⟩:=id gN;refine dy ah rfl kn rfl rfl (aE rfl rfl (yQ (f:=decide (a<0) != decide (b<0)) (n:=a.natAbs) (d:=b.natAbs) ⟨_,_,rfl,dg,gN⟩ (by omega) (by omega) (by omega)) ?_);rintro v1 H3 ⟨hle,hq⟩;rw[V8]at hq;obtain⟨u1,w1,rfl,eO,gq⟩:=id hq;obtain⟨mA,mB,rfl,mC,mD⟩:=id eO;obtain⟨Dt,Du,rfl,Dv,Dw⟩:=id gq;obtain⟨ti,ak,al⟩:=aY;refine aH (.inl ⟨rfl,rfl⟩) rfl rfl rfl ak al rfl rfl rfl (ae [4] ?_);obtain⟨bQ,aM,aN⟩:=aY;refine aD ⟨.inr rfl,_,.agg rfl Tryz.underlying31 aM aN (.nil),?_⟩;exact⟨(fF.le.trans dX.le).trans hle,hq⟩
end Go.au
namespace Go.au
open Go.Proofs Num
theorem Dx{H:Heap}{v:Value}{q:Rat}{N:Nat}(hv:cn H v q N)(hN:(N:Int)≤1099511627776):
 Fn Tryz.prog 86 #[v] H (kp H q):=by
 obtain⟨bf,bu,bw,nP,nQ,rfl,_⟩:=id hv;refine a7 (args:=[_]) Tryz.func86 rfl rfl Tryz.ntmps86 rfl rfl fun w0=> ?_;refine aj [0] rfl ?_;refine ag (bX rfl rfl (bt bY rfl (ae [1,2] ?_)));refine ag (ab 1 rfl (aE rfl rfl (tr hv (by omega)) ?_));rintro v1 H1 ⟨fh,f1,n1,d1,nv,fa,rfl,cH,rL⟩;obtain⟨wE,wF,rfl,gH,gP⟩:=id nv;obtain⟨wG,wH,rfl,wI,wJ⟩:=id gH;obtain⟨wK,wL,rfl,wM,wN⟩:=id gP;refine aE rfl rfl (yQ nv fa (by omega) (by omega)) ?_;rintro w2 G2 ⟨dP,bU⟩;obtain⟨u2,x2,rfl,fQ,eP⟩:=id bU;obtain⟨oR,oS,rfl,oT,oU⟩:=id fQ;obtain⟨oV,oW,rfl,oX,oY⟩:=id eP;obtain⟨ti,ak,al⟩:=aY;refine aH (.inl ⟨rfl,rfl⟩) rfl rfl rfl ak al rfl rfl rfl (ae [2] ?_);obtain⟨bQ,aM,aN⟩:=aY;refine aD ⟨.inr rfl,_,.agg rfl Tryz.underlying31 aM aN (.nil),?_⟩;exact⟨fh.trans dP,bU⟩
theorem Wk{H:Heap}{v:Value}{q:Rat}{N:Nat}(hv:cn H v q N)(hN:(N:Int)≤1099511627776):
 Fn Tryz.prog 84 #[v] H (fun v H'=>Heap.le H H'∧v = .int .i64 (gZ q)):=by
 obtain⟨bf,bu,bw,nP,nQ,rfl,_⟩:=id hv;refine a7 (args:=[_]) Tryz.func84 rfl rfl Tryz.ntmps84 rfl rfl fun w0=> ?_;refine aj [0] rfl ?_;refine ag (bX rfl rfl (ab 1 rfl (ae [1] ?_)));refine ag (ab 1 rfl (aE rfl rfl (tr hv (by omega)) ?_));rintro v1 H1 ⟨fh,f1,n1,d1,nv,fa,rfl,cH,rL⟩;obtain⟨wE,wF,rfl,gH,gP⟩:=id nv;obtain⟨wG,wH,rfl,wI,wJ⟩:=id gH;obtain⟨wK,wL,rfl,wM,wN⟩:=id gP;refine aE rfl rfl (ae5 nv fa) ?_;rintro v2 H2 ⟨rfl,rfl⟩;refine ab 1 rfl (ae [2] ?_);refine aD ⟨.inr rfl,_,.tmp rfl (.nil),?_⟩;exact⟨fh,rfl⟩
theorem ae6{H:Heap}{v:Value}{q:Rat}{N:Nat}(hv:cn H v q N)(hN:(N:Int)≤1099511627776):
 Fn Tryz.prog 131 #[v] H (kp H (-q)):=by
 obtain⟨bf,bu,bw,nP,nQ,rfl,_⟩:=id hv;refine a7 (args:=[_]) Tryz.func131 rfl rfl Tryz.ntmps131 rfl rfl fun w0=> ?_;refine aj [0] rfl ?_;refine ag (bX rfl rfl (bt bY rfl (ae [1,2] ?_)));refine ag (ab 1 rfl (aE rfl rfl (tr hv (by omega)) ?_));rintro v1 H1 ⟨fh,f1,n1,d1,nv,fa,rfl,cH,rL⟩;obtain⟨wE,wF,rfl,gH,gP⟩:=id nv;obtain⟨wG,wH,rfl,wI,wJ⟩:=id gH;obtain⟨wK,wL,rfl,wM,wN⟩:=id gP;refine bt kn rfl ?_;obtain⟨ti,ak,al⟩:=jc;refine aH (.inl ⟨rfl,rfl⟩) rfl rfl rfl ak al rfl rfl rfl (ae [2,3] ?_);refine ag (vr 4 ?_);obtain⟨ti,ak,al⟩:=FU;refine aH (.inr rfl) rfl rfl rfl ak al rfl rfl rfl (ae [2,3] ?_);refine ag (ab 1 rfl (aE rfl rfl (yQ (f:= !f1) ⟨_,_,rfl,gH,gP⟩ fa (by omega) (by omega)) ?_));rintro w2 G2 ⟨dP,bU⟩;rw[←Pm]at bU;obtain⟨u2,x2,rfl,fQ,eP⟩:=id bU;obtain⟨oR,oS,rfl,oT,oU⟩:=id fQ;obtain⟨oV,oW,rfl,oX,oY⟩:=id eP;obtain⟨ti,ak,al⟩:=aY;refine aH (.inl ⟨rfl,rfl⟩) rfl rfl rfl ak al rfl rfl rfl (ae [2] ?_);obtain⟨bQ,aM,aN⟩:=aY;refine aD ⟨.inr rfl,_,.agg rfl Tryz.underlying31 aM aN (.nil),?_⟩;exact⟨fh.trans dP,bU⟩
theorem Wl{H:Heap}{v v2:Value}{q q2:Rat}{N:Nat}(hv:cn H v q N)(dF:cn H v2 q2 N)(hN:(N:Int)≤1099511627776):
 Fn Tryz.prog 115 #[v,v2] H (kp H (q+q2)):=by
 obtain⟨bf,bu,bw,nP,nQ,rfl,_⟩:=id hv
 obtain⟨cf,cu,cw,yR,yS,rfl,_⟩:=id dF;refine a7 (args:=[_,_]) Tryz.func115 rfl rfl Tryz.ntmps115 rfl rfl fun w0=> ?_;refine aj [0,1] rfl ?_;refine ag (bX rfl rfl (bX rfl rfl (bt bY rfl (ae [2,3,4] ?_))));refine bO .bL [0,2,1,3,4,5,6] follows (by kernel_rfl) ?_;refine ab 2 rfl (bm rfl rfl (tr hv (by omega)) (fun _ _ h=>h.le) ?_);rintro v1 H1 ⟨fh,f1,n1,d1,nv,fa,rfl,cH,rL⟩;obtain⟨wE,wF,rfl,gH,gP⟩:=id nv;obtain⟨wG,wH,rfl,wI,wJ⟩:=id gH;obtain⟨wK,wL,rfl,wM,wN⟩:=id gP;refine bm rfl rfl (tr (dF.le fh) (by omega)) (fun _ _ h=>h.le) ?_;rintro v2 H2 ⟨eW,f2,n2,d2,yT,ko,rfl,dG,lq⟩;obtain⟨Dy,Dz,rfl,lU,lr⟩:=id yT;obtain⟨AV,AW,rfl,DA,DB⟩:=id lU;obtain⟨AY,AZ,rfl,DC,DD⟩:=id lr;refine bm rfl rfl (Wd (K:=N+1) (nv.le eW) yT fa ko cH rL dG lq (by omega)) (fun _ _ h=>h.le) ?_;rintro v3 H3 ⟨im,f3,n3,d3,Gm,KW,KY,gO,Pp⟩;obtain⟨un3,ud3,rfl,ae7,ae8⟩:=id Gm;refine bm rfl rfl (yQ Gm KW (by omega) (by omega)) (fun _ _ h=>h.le) ?_;rintro w4 G4 ⟨kS,cJ⟩;rw[KY]at cJ;obtain⟨u4,x4,rfl,wO,lV⟩:=id cJ;obtain⟨KZ,K1,rfl,K2,K3⟩:=id wO;obtain⟨DE,DF,rfl,DG,DH⟩:=id lV;obtain⟨ti,ak,al⟩:=aY;refine aH (.inl ⟨rfl,rfl⟩) rfl rfl rfl ak al rfl rfl rfl ?_
 refine ae [4] ?_;obtain⟨bQ,aM,aN⟩:=aY;refine aD ⟨.inr rfl,_,.agg rfl Tryz.underlying31 aM aN (.nil),?_⟩;exact⟨((fh.trans eW).trans im).trans kS,cJ⟩
theorem Pz{H:Heap}{v v2:Value}{q q2:Rat}{N:Nat}(hv:cn H v q N)(dF:cn H v2 q2 N)(hN:(N:Int)≤1099511627776):
 Fn Tryz.prog 158 #[v,v2] H (kp H (q*q2)):=by
 obtain⟨bf,bu,bw,nP,nQ,rfl,_⟩:=id hv
 obtain⟨cf,cu,cw,yR,yS,rfl,_⟩:=id dF;refine a7 (args:=[_,_]) Tryz.func158 rfl rfl Tryz.ntmps158 rfl rfl fun w0=> ?_;refine aj [0,1] rfl ?_;refine ag (bX rfl rfl (bX rfl rfl (bt bY rfl (ae [2,3,4] ?_))));refine bO .bL [0,2,1,3,4,5,6,7] follows (by kernel_rfl) ?_;refine ab 2 rfl (bm rfl rfl (tr hv (by omega)) (fun _ _ h=>h.le) ?_);rintro v1 H1 ⟨fh,f1,n1,d1,nv,fa,rfl,cH,rL⟩;obtain⟨wE,wF,rfl,gH,gP⟩:=id nv;obtain⟨wG,wH,rfl,wI,wJ⟩:=id gH;obtain⟨wK,wL,rfl,wM,wN⟩:=id gP;refine bm rfl rfl (tr (dF.le fh) (by omega)) (fun _ _ h=>h.le) ?_;rintro v2 H2 ⟨eW,f2,n2,d2,yT,ko,rfl,dG,lq⟩;obtain⟨Dy,Dz,rfl,lU,lr⟩:=id yT;obtain⟨AV,AW,rfl,DA,DB⟩:=id lU;obtain⟨AY,AZ,rfl,DC,DD⟩:=id lr;have oP:=oO n1 n2;have oK:=oO d1 d2;refine bt kn rfl (bt kn rfl ?_);obtain⟨ti,ak,al⟩:=jc;refine aH (.inl ⟨rfl,rfl⟩) rfl rfl rfl ak al rfl rfl rfl ?_;obtain⟨ti,ak,al⟩:=jc;refine aH (.inl ⟨rfl,rfl⟩) rfl rfl rfl ak al rfl rfl rfl (ae [4,5,6] ?_);refine bO .bL [0,1,2,3,4,5,6,7,8,10,11,12,13,9,14,15,16,17] follows (by kernel_rfl) ?_;refine ab 4 rfl (FF Tryz.underlying4 rfl rfl ?_)
 refine ab 8 rfl (bm rfl rfl (AP (gH.le eW) lU (by omega) (by omega)) (fun _ _ h=>h.le) ?_);intro v3 H3 eE;refine bm rfl rfl (AP (gP.le (eW.trans eE.le)) (lr.le eE.le) (by omega) (by omega)) (fun _ _ h=>h.le) ?_;intro v4 H4 fG;have jZ:=eE.nat.le fG.le;have jf:=fG.nat;obtain⟨Pu,Pv,rfl,Pw,KR⟩:=id jZ;obtain⟨KS,KT,rfl,KU,KV⟩:=id jf;refine dy ah rfl kn rfl rfl (bm rfl rfl (yQ (f:=f1 != f2) (n:=n1*n2) (d:=d1*d2) ⟨_,_,rfl,jZ,jf⟩ (Nat.mul_pos fa ko) (by omega) (by omega)) (fun _ _ h=>h.le) ?_);rintro w4 G4 ⟨kS,cJ⟩;rw[←Pn]at cJ;obtain⟨u4,x4,rfl,wO,lV⟩:=id cJ;obtain⟨KZ,K1,rfl,K2,K3⟩:=id wO;obtain⟨DE,DF,rfl,DG,DH⟩:=id lV;obtain⟨ti,ak,al⟩:=aY;refine aH (.inl ⟨rfl,rfl⟩) rfl rfl rfl ak al rfl rfl rfl (ae [4] ?_);obtain⟨bQ,aM,aN⟩:=aY;refine aD ⟨.inr rfl,_,.agg rfl Tryz.underlying31 aM aN (.nil),?_⟩;exact⟨(((fh.trans eW).trans eE.le).trans fG.le).trans kS,cJ⟩
theorem Wm{H:Heap}{v v2:Value}{q q2:Rat}{N:Nat}(hv:cn H v q N)(dF:cn H v2 q2 N)(hN:(N:Int)≤1099511627776):
 Fn Tryz.prog 186 #[v,v2] H (fun v H'=>Heap.le H H'∧∃r,v = .tuple #[r,.bool (decide (q2≠0))]∧bJ H' r (q/q2)):=by
 obtain⟨bf,bu,bw,nP,nQ,rfl,_⟩:=id hv
 obtain⟨cf,cu,cw,yR,yS,rfl,_⟩:=id dF;refine a7 (args:=[_,_]) Tryz.func186 rfl rfl Tryz.ntmps186 rfl rfl fun w0=> ?_;refine aj [0,1] rfl ?_;refine ag (bX rfl rfl (bX rfl rfl (bt bY rfl (ab 1 rfl (ae [2,3,4] ?_)))));refine bO .bL [0,2,1,3,4,5,6,7] follows (by kernel_rfl) ?_;refine ab 2 rfl (bm rfl rfl (tr hv (by omega)) (fun _ _ h=>h.le) ?_);rintro v1 H1 ⟨fh,f1,n1,d1,nv,fa,rfl,cH,rL⟩;obtain⟨wE,wF,rfl,gH,gP⟩:=id nv;obtain⟨wG,wH,rfl,wI,wJ⟩:=id gH;obtain⟨wK,wL,rfl,wM,wN⟩:=id gP;refine bm rfl rfl (tr (dF.le fh) (by omega)) (fun _ _ h=>h.le) ?_;rintro v2 H2 ⟨eW,f2,n2,d2,yT,ko,rfl,dG,lq⟩;obtain⟨Dy,Dz,rfl,lU,lr⟩:=id yT;obtain⟨AV,AW,rfl,DA,DB⟩:=id lU;obtain⟨AY,AZ,rfl,DC,DD⟩:=id lr;have oP:=oO n1 d2;have oK:=oO d1 n2;refine bt kn rfl (bt kn rfl ?_);obtain⟨ti,ak,al⟩:=jc;refine aH (.inl ⟨rfl,rfl⟩) rfl rfl rfl ak al rfl rfl rfl ?_;obtain⟨ti,ak,al⟩:=jc;refine aH (.inl ⟨rfl,rfl⟩) rfl rfl rfl ak al rfl rfl rfl (ae [4,6,7] ?_);refine ao (ag (ab 4 rfl (ae [4,6,7,15] ?_)));refine aC rfl (fun hb=> ?_) (fun hb=> ?_)
 ·
  have hb:n2=0:=jX.1 (by simpa using hb);subst hb;refine ag (aE rfl rfl (Py (n:=0) (by decide) (by decide)) ?_);rintro w4 G4 ⟨kS,cJ⟩;obtain⟨u4,x4,rfl,wO,lV⟩:=id cJ;obtain⟨KZ,K1,rfl,K2,K3⟩:=id wO;obtain⟨DE,DF,rfl,DG,DH⟩:=id lV;obtain⟨ti,ak,al⟩:=aY;refine aH (.inl ⟨rfl,rfl⟩) rfl rfl rfl ak al rfl rfl rfl (ab 1 rfl (ae [4,5] ?_));obtain⟨bQ,aM,aN⟩:=aY;refine aD ⟨.inr rfl,_,.agg rfl Tryz.underlying31 aM aN (.tmp rfl (.nil)),?_⟩;refine⟨(fh.trans eW).trans kS,_,?_,by rw[wB,Rat.div_def,Rat.inv_zero,Rat.mul_zero];exact cJ⟩;rw[wB];rfl
 ·
  have jA:0<n2:=Nat.pos_of_ne_zero fun e=>by rw[jX.2 e]at hb;simp at hb
  refine aA (aj [4,6,7] rfl ?_);refine bO .bL [0,1,2,3,4,5,6,7,8,10,11,12,13,9,14,15,16,17,18] follows (by kernel_rfl) ?_;refine ab 4 rfl (FF Tryz.underlying4 rfl rfl (ab 8 rfl (bm rfl rfl (AP (gH.le eW) lr (by omega) (by omega)) (fun _ _ h=>h.le) ?_)));intro v3 H3 eE;refine bm rfl rfl (AP (gP.le (eW.trans eE.le)) (lU.le eE.le) (by omega) (by omega)) (fun _ _ h=>h.le) ?_;intro v4 H4 fG;have jZ:=eE.nat.le fG.le;have jf:=fG.nat;obtain⟨Pu,Pv,rfl,Pw,KR⟩:=id jZ;obtain⟨KS,KT,rfl,KU,KV⟩:=id jf;refine dy ah rfl kn rfl rfl (bm rfl rfl (yQ (f:=f1 != f2) (n:=n1*d2) (d:=d1*n2) ⟨_,_,rfl,jZ,jf⟩ (Nat.mul_pos fa jA) (by omega) (by omega)) (fun _ _ h=>h.le) ?_);rintro w4 G4 ⟨kS,cJ⟩;rw[←Po jA]at cJ;obtain⟨u4,x4,rfl,wO,lV⟩:=id cJ;obtain⟨KZ,K1,rfl,K2,K3⟩:=id wO;obtain⟨DE,DF,rfl,DG,DH⟩:=id lV;obtain⟨ti,ak,al⟩:=aY;refine aH (.inl ⟨rfl,rfl⟩) rfl rfl rfl ak al rfl rfl rfl (ab 1 rfl (ae [4,5] ?_));obtain⟨bQ,aM,aN⟩:=aY;refine aD ⟨.inr rfl,_,.agg rfl Tryz.underlying31 aM aN (.tmp rfl (.nil)),?_⟩;refine⟨(((fh.trans eW).trans eE.le).trans fG.le).trans kS,_,?_,cJ⟩
  have aZ:cL f2 n2 d2≠0:=fun e=>by rw[Pj ko]at e;omega
  rw[show decide (cL f2 n2 d2≠0)=true from decide_eq_true aZ];rfl
end Go.au
namespace Go.au
open Go
def rem(H:Heap)(gs:List Nat):Heap:=fun g=>if g∈gs then none else H g
theorem rem_in{H:Heap}{gs:List Nat}{g:Nat}(h:g∈gs):rem H gs g=none:=by simp[rem,h]
theorem bM{H:Heap}{gs:List Nat}{g:Nat}(h:¬g∈gs):rem H gs g=H g:=by simp[rem,h]
theorem tt(H:Heap):rem H []=H:=by funext g;simp[rem]
theorem bE(H:Heap)(gs:List Nat):Heap.le (rem H gs) H:=fun g e h=>by
 by_cases hg:g∈gs
 ·rw[rem_in hg]at h;cases h
 ·rw[bM hg]at h;exact⟨e,h,.refl e⟩
theorem qB{H H':Heap}(gs:List Nat)(h:Heap.le H H'):Heap.le (rem H gs) (rem H' gs):=fun g e he=>by
 by_cases hg:g∈gs
 ·rw[rem_in hg]at he;cases he
 ·rw[bM hg]at he⊢;exact h g e he
theorem cF{H:Heap}{gs:List Nat}{g:Nat}(e:Ent)(h:g∈gs):rem (ins H g e) gs=rem H gs:=by
 funext k
 by_cases hk:k∈gs
 ·rw[rem_in hk,rem_in hk]
 ·rw[bM hk,bM hk,a6 _ _ (fun(e':k=g)=>hk (by rw[e'];exact h))]
theorem rM{H:Heap}{gs:List Nat}{g:Nat}(e:Ent)(h:¬g∈gs):rem (ins H g e) gs=ins (rem H gs) g e:=by
 funext k
 by_cases hk:k∈gs
 ·rw[rem_in hk,a6 _ _ (fun(e':k=g)=>h (by rw[←e'];exact hk)),rem_in hk]
 ·rw[bM hk]
  unfold ins
  rw[bM hk]
theorem rN{H:Heap}{gs:List Nat}{g:Nat}(e:Ent)(h:H g=none):rem (ins H g e) (g::gs)=rem H gs:=by
 funext k
 by_cases hk:k=g
 ·subst hk
  rw[rem_in (List.mem_cons_self ..)]
  by_cases hg:k∈gs
  ·rw[rem_in hg]
  ·rw[bM hg,h]
 ·by_cases hg:k∈gs
  ·rw[rem_in hg,rem_in (List.mem_cons_of_mem _ hg)]
  ·rw[bM hg,bM (by simp[hk,hg]),a6 _ _ hk]
theorem Ba(H:Heap)(g:Nat)(gs:List Nat):Heap.le (rem H (g::gs)) (rem H gs):=fun k e h=>by
 by_cases hk:k∈g::gs
 ·rw[rem_in hk]at h;cases h
 ·rw[bM hk]at h
  exact⟨e,by rw[bM (fun h'=>hk (List.mem_cons_of_mem _ h'))];exact h,.refl e⟩
theorem Den.rem{H:Heap}{w:World}(h:Den H w)(gs:List Nat):Den (rem H gs) w:=h.le (bE H gs)
structure yU(gs:List Nat)(bF:Value→Heap→Prop)(H:Heap)(v:Value)(H':Heap):Prop where
 post:bF v (rem H' gs)
 same:∀g,g∈gs→H' g=H g
theorem Fn.frame{P:Program}{f:FuncId}{args:Array Value}{H:Heap}{bF:Value→Heap→Prop}{gs:List Nat}(jM:∀g,g∈gs→H g≠none)(h:Fn P f args (rem H gs) bF):Fn P f args H (yU gs bF H):=by
 refine⟨h.ent,fun w hd=>(h.run w (hd.rem gs)).mono fun e w' ⟨v,he,K,hp,mX,hf⟩=>⟨v,he,fun g=>if g∈gs then H g else K g,?_,?_,?_⟩⟩
 ·have hk:∀g,g∈gs→K g=none:=fun g hg=>by
   cases hh:H g with
   | none=>exact absurd hh (jM g hg)
   | some e=>exact(hf.keep g (hd.lt hh) (rem_in hg)).2
  have e1:au.rem (fun g=>if g∈gs then H g else K g) gs=K:=by
   funext g
   by_cases hg:g∈gs
   ·rw[rem_in hg,hk g hg]
   ·rw[bM hg];simp[hg]
  exact⟨by rw[e1];exact hp,fun g hg=>by simp[hg]⟩
 ·intro g e hg
  by_cases hm:g∈gs
  ·simp only[hm,if_true]at hg
   obtain⟨o,h1,h2⟩:=hd g e hg
   exact⟨o,by rw[(hf.keep g (hd.lt hg) (rem_in hm)).1];exact h1,h2⟩
  ·simp only[hm,if_false]at hg
   exact mX g e hg
 ·refine⟨hf.os,hf.tape,hf.output,hf.size,fun g hg h0=> ?_,hf.form⟩
  have hm:¬g∈gs:=fun hm=>jM g hm h0
  have h1:=hf.keep g hg (by rw[bM hm];exact h0)
  exact⟨h1.1,by simp only[hm,if_false];exact h1.2⟩
theorem yU.le{gs:List Nat}{bF:Value→Heap→Prop}{H H':Heap}{v:Value}(h:yU gs bF H v H')(hl:∀v K,bF v K→Heap.le (rem H gs) K):Heap.le H H':=fun g e hg=>by
 by_cases hm:g∈gs
 ·exact⟨e,by rw[h.same g hm];exact hg,.refl e⟩
 ·obtain⟨e',h1,h2⟩:=hl v _ h.post g e (by rw[bM hm];exact hg)
  rw[bM hm]at h1
  exact⟨e',h1,h2⟩
theorem App.rem{H H':Heap}{v v':Value}{e sz n:Nat}{xs:List Value}{gs:List Nat}(h:App H v e sz n xs v' H')(hg:∀g,g∈gs→H g≠none)(hv:∀g,g∈gs→v.ownBlock≠some g):
  App (au.rem H gs) v e sz n xs v' (au.rem H' gs)∧∀g,g∈gs→H' g=H g:=by
 have hs:∀g,g∈gs→H' g=H g:=fun g hm=>by
  cases hh:H g with
  | none=>exact absurd hh (hg g hm)
  | some ent=>exact h.same g ent hh (hv g hm)
 have Dc:∀g,v'.ownBlock=some g→¬g∈gs:=fun g h1 hm=>by
  rcases h.at_ with h2 | ⟨g',h2,h3⟩
  ·exact hv g hm (h2▸h1)
  ·rw[h2]at h1
   cases h1
   exact hg _ hm h3
 refine⟨⟨h.own.same fun g h1=>bM (Dc g h1),qB gs h.le,fun k ent hk aZ=> ?_,?_⟩,hs⟩
 ·by_cases hm:k∈gs
  ·rw[rem_in hm]at hk;cases hk
  ·rw[bM hm]at hk⊢;exact h.same k ent hk aZ
 ·rcases h.at_ with h2 | ⟨g',h2,h3⟩
  ·exact .inl h2
  ·refine .inr ⟨g',h2,?_⟩
   rw[bM (Dc g' h2)];exact h3
section
variable {P:Program} {n:Nat} {tb:Tb} {all:Array Oper} {s:St} {H:Heap} {md:Mode} {K:St→Heap→Prop} {r:List Oper} {dst:Option Nat} {ty:TypeId} {pos:String} {after:Array Edge} {gd:Option (Nat×Bool)}
theorem Wn{f:Operand}{kO:FuncId}{args:List Value}{xs:List Operand}{ts:Array TypeId}{bF:Value→Heap→Prop}(hf:ev s f=some (.func (.func kO) #[] #[]))(hx:qp s xs=some args)
  (h:Fn P kO args.toArray H bF) (hk:∀v H',bF v H'→aP P n all .uB r (bn s dst (.val v)) H' K) (hg:b8 all s gd=some true:=by rfl) (nb:Mode.uB.nb s dst=true:=by rfl):aP P n all .uB (⟨dst,.call ⟨.value f,xs.toArray,ts⟩,ty,pos,after,gd⟩::r) s H K:=
 .iW bF (.inl FL) nb (FK (cap:=[]) hf hx hg (by simpa using h)) trivial fun v H' hp _=>hk v H' hp
theorem Wo:∀(us:List Value)(A B:List Value)(p:Nat),(∀(i:Nat)(w:Value),A[i]? = some w→B[i]? = some w)→p+us.length≤A.length→∀(i:Nat)(w:Value),(aL A p us)[i]? = some w→(aL B p us)[i]? = some w:=by
 intro us
 induction us with
 | nil=>intro A B p h _ i w hw;exact h i w hw
 | cons x us ih=>
  intro A B p h hl i w hw
  simp only[List.length_cons]at hl
  refine ih (A.set p x) (B.set p x) (p+1) (fun i w hw=> ?_) (by simp;omega) i w hw
  by_cases e:i=p
  ·subst e
   have hA:i<A.length:=by omega
   have hB:i<B.length:=(List.getElem?_eq_some_iff.1 (h i _ (List.getElem?_eq_getElem hA))).1
   rw[List.getElem?_set_self hA]at hw
   rw[List.getElem?_set_self hB];exact hw
  ·rw[List.getElem?_set_ne (fun e'=>e e'.symm)]at hw⊢
   exact h i w hw
theorem lW{t:TypeId}{x y:Operand}{g o sz:Nat}{ent:Ent}{v:Value}{vs:List Value}{ii:TypeInfo}(eU:md = .plain∨md = .gD)(hx:ev s x=some (.pointer (some ⟨g,o,none⟩)))(hg:H g=some ent)(cC:ent.own=true)(ll:o+sz≤ent.xs.length)
  (wi:P.info? t=some ii) (cK:ii.size=sz) (hy:ev s y=some v) (hv:v.cells=vs.toArray) (iC:vs.length=sz) (h1:vs.all yB=true)
  (hk:aP P n all md r s (ins H g {ent with xs:=aL ent.xs o vs}) K) (ju:b8 all s gd=some true:=by rfl):aP P n all md (⟨none,.store t x y,ty,pos,after,gd⟩::r) s H K:=by
 refine .iW (fun _ H'=>H'=ins H g {ent with xs:=aL ent.xs o vs}) (.inr (.inl rfl)) (by rcases eU with rfl | rfl <;> rfl) (fun a w ha hd=> ?_) (by rcases eU with rfl | rfl <;> first | trivial | exact .inl rfl) fun _ H' hH _=>by rw[hH];exact hk
 refine⟨jT ha (lj (o:=⟨none,.store t x y,ty,pos,after,gd⟩) ju),?_⟩
 obtain⟨ob,h2,cur,fz,rfl,h3,h4,h5⟩:=hd g ent hg
 have oC:=h5 cC
 subst oC
 have FO:cur=cur.toList.toArray:=by simp
 have hlen:ent.xs.length≤cur.toList.length:=by
  rcases Nat.eq_zero_or_pos ent.xs.length with h | h
  ·omega
  ·have hx:=h4 (ent.xs.length-1) _ (List.getElem?_eq_getElem (by omega))
   have:=(Array.getElem?_eq_some_iff.1 hx).1
   simp;omega
 rw[FO]at h2
 obtain⟨w',h6,h7,h8,h9,jI,iZ,AI⟩:=Ke (P:=P) vs cur.toList w o 0 h2 (fun u hu=>List.all_eq_true.1 h1 u hu) (by omega)
 have hex:(execOp a.eval ⟨none,.store t x y,ty,pos,after,gd⟩).run P w = .ok .skip w':=by
  simp[execOp,bS ha hx,bS ha hy,Instr.storeAt,Instr.sureAddr,storeVar,sizeOf,typeInfo,wi,cK,hv,iC,h6]
 unfold lM
 rw[hex]
 refine⟨_,rfl,C9 (o:= .cells (aL cur.toList (o+0) vs).toArray ent.elem (0,0)) hd h7 h8 h9 (by omega) (fun q _ hq=>iZ q hq) AI ⟨_,(0,0),rfl,?_,?_,fun _=>rfl⟩ (.inl ⟨_,hg,cC,cC,rfl,rfl⟩)⟩
 ·simp[FI,h3]
 ·intro q u hq
  have:=Wo vs ent.xs cur.toList o (fun i w hw=>by have:=h4 i w hw;simpa using this) (by omega) q u hq
  simpa using this
end
end Go.au
namespace Go.au
open Go.Proofs Num
def gy(xs:List Value)(i sz:Nat):List Value:=(xs.drop (i*sz)).take sz
theorem PA{xs:List Value}{i sz q:Nat}{v:Value}(h:(gy xs i sz)[q]? = some v):xs[i*sz+q]? = some v:=by
 unfold gy at h
 rw[List.getElem?_take]at h
 split at h
 ·rwa [List.getElem?_drop]at h
 ·cases h
theorem ae9{xs:List Value}{i sz n:Nat}(h:xs.length=n*sz)(hi:i<n):(gy xs i sz).length=sz:=by
 unfold gy
 rw[List.length_take,List.length_drop,h]
 have:(i+1)*sz≤n*sz:=Nat.mul_le_mul_right _ hi
 rw[Nat.add_mul]at this
 omega
theorem Wp{xs ys:List Value}{i sz:Nat}(h:∀q,q<sz→xs[i*sz+q]? = ys[i*sz+q]?):gy xs i sz=gy ys i sz:=by
 apply List.ext_getElem?
 intro q
 unfold gy
 rw[List.getElem?_take,List.getElem?_take]
 split
 ·rename_i hq
  rw[List.getElem?_drop,List.getElem?_drop,h q hq]
 ·rfl
theorem PB{xs:List Value}{i:Nat}{v:Value}(h:xs[i]? = some v):gy xs i 1 = [v]:=by
 apply List.ext_getElem?
 intro q
 unfold gy
 rw[List.getElem?_take,Nat.mul_one]
 split
 ·rename_i hq
  obtain rfl:q=0:=by omega
  rw[List.getElem?_drop,Nat.add_zero,h];rfl
 ·rename_i hq
  rw[List.getElem?_eq_none (by simp;omega)]
structure bC{α:Type}(P:List Value→α→Prop)(sz:Nat)(xs:List Value)(l:List α):Prop where
 len:xs.length=l.length*sz
 at_:∀(i:Nat)(a:α),l[i]? = some a→P (gy xs i sz) a
section
variable {α β:Type} {P:List Value→α→Prop} {sz:Nat} {xs ys:List Value} {l k:List α}
theorem bC.mono{P':List Value→α→Prop}(h:bC P sz xs l)(hp:∀vs a,P vs a→P' vs a):bC P' sz xs l:=⟨h.len,fun i a ha=>hp _ _ (h.at_ i a ha)⟩
theorem bC.get(h:bC P sz xs l){i:Nat}{a:α}(ha:l[i]? = some a):∃vs,vs.length=sz∧P vs a∧∀(q:Nat)(v:Value),vs[q]? = some v→xs[i*sz+q]? = some v:=
 ⟨gy xs i sz,ae9 h.len (List.getElem?_eq_some_iff.1 ha).1,h.at_ i a ha,fun _ _ hv=>PA hv⟩
theorem u6:bC P sz [] ([]:List α):=⟨by simp,fun i a h=>by simp at h⟩
theorem bC.append(h:bC P sz xs l)(h':bC P sz ys k):bC P sz (xs++ys) (l++k):=by
 refine⟨by rw[List.length_append,List.length_append,h.len,h'.len,Nat.add_mul],fun i a ha=> ?_⟩
 by_cases hi:i<l.length
 ·rw[List.getElem?_append_left hi]at ha
  have e:gy (xs++ys) i sz=gy xs i sz:=Wp fun q hq=>by
   have:(i+1)*sz≤l.length*sz:=Nat.mul_le_mul_right _ hi
   rw[Nat.add_mul]at this
   rw[List.getElem?_append_left (by rw[h.len];omega)]
  rw[e];exact h.at_ i a ha
 ·rw[List.getElem?_append_right (by omega)]at ha
  have e:gy (xs++ys) i sz=gy ys (i-l.length) sz:=by
   unfold gy
   have e1:i*sz=xs.length+(i-l.length)*sz:=by
    rw[h.len,←Nat.add_mul];congr 1;omega
   rw[e1,List.drop_append,List.drop_eq_nil_of_le (by omega),List.nil_append]
   congr 2;omega
  rw[e];exact h'.at_ _ a ha
theorem iP{vs:List Value}{a:α}(h:P vs a)(hl:vs.length=sz):bC P sz vs [a]:=by
 refine⟨by simp[hl],fun i b hb=> ?_⟩
 cases i with
 | zero=>
  simp only[List.getElem?_cons_zero,Option.some.injEq]at hb
  subst hb
  unfold gy
  rw[Nat.zero_mul,List.drop_zero,List.take_of_length_le (by omega)];exact h
 | succ i=>simp at hb
theorem PC:∀(vs xs:List Value)(off i:Nat),off+vs.length≤xs.length→(aL xs off vs)[i]? = if off≤i∧i<off+vs.length then vs[i-off]? else xs[i]? :=by
 intro vs
 induction vs with
 | nil=>intro xs off i _;simp only[aL,List.length_nil,Nat.add_zero];rw[if_neg (by omega)]
 | cons v vs ih=>
  intro xs off i h
  simp only[List.length_cons]at h
  simp only[aL,List.length_cons]
  rw[ih _ _ _ (by simp;omega)]
  by_cases e:i=off
  ·subst e
   rw[if_neg (by omega),if_pos (by omega),Nat.sub_self,List.getElem?_set_self (by omega)];rfl
  ·by_cases e2:off+1≤i∧i<off+1+vs.length
   ·rw[if_pos e2,if_pos (by omega)]
    have:i-off=(i-(off+1))+1:=by omega
    rw[this];rfl
   ·rw[if_neg e2,if_neg (by omega),List.getElem?_set_ne (by omega)]
theorem bC.set(h:bC P sz xs l){i:Nat}(hi:i<l.length){vs:List Value}{a:α}(hp:P vs a)(hv:vs.length=sz):bC P sz (aL xs (i*sz) vs) (l.set i a):=by
 have ll:(i+1)*sz≤l.length*sz:=Nat.mul_le_mul_right _ hi
 rw[Nat.add_mul,Nat.one_mul]at ll
 have hle:i*sz+vs.length≤xs.length:=by rw[h.len,hv];exact ll
 refine⟨by rw[FI,List.length_set];exact h.len,fun j b hb=> ?_⟩
 by_cases e:j=i
 ·subst e
  rw[List.getElem?_set_self hi]at hb
  cases hb
  have e:gy (aL xs (j*sz) vs) j sz=vs:=by
   apply List.ext_getElem?
   intro q
   unfold gy
   rw[List.getElem?_take]
   split
   ·rename_i hq
    rw[List.getElem?_drop,PC _ _ _ _ hle,if_pos (by omega)]
    congr 1;omega
   ·rw[List.getElem?_eq_none (by omega)]
  rw[e];exact hp
 ·rw[List.getElem?_set_ne (fun e'=>e e'.symm)]at hb
  have e:gy (aL xs (i*sz) vs) j sz=gy xs j sz:=Wp fun q hq=>by
   rw[PC _ _ _ _ hle,if_neg]
   intro⟨h1,h2⟩
   rw[hv]at h2
   rcases Nat.lt_or_gt_of_ne e with bI | V0
   ·have:(j+1)*sz≤i*sz:=Nat.mul_le_mul_right _ bI
    rw[Nat.add_mul]at this;omega
   ·have:(i+1)*sz≤j*sz:=Nat.mul_le_mul_right _ V0
    rw[Nat.add_mul]at this;omega
  rw[e];exact h.at_ j b hb
theorem Gn{zs:List Value}{a:α}(hz:zs.length=sz)(hp:P zs a)(n:Nat):bC P sz (cg zs (n*sz)) (List.replicate n a):=by
 refine⟨by rw[ON,List.length_replicate],fun i b hb=> ?_⟩
 rw[List.getElem?_replicate]at hb
 split at hb
 ·rename_i hi
  cases hb
  have e:gy (cg zs (n*sz)) i sz=zs:=by
   apply List.ext_getElem?
   intro q
   unfold gy
   rw[List.getElem?_take]
   split
   ·rename_i hq
    rw[List.getElem?_drop,List.getElem?_eq_getElem (by omega:q<zs.length)]
    exact acQ hz hi (List.getElem?_eq_getElem (by omega))
   ·rw[List.getElem?_eq_none (by omega)]
  rw[e];exact hp
 ·cases hb
theorem bC.drop(h:bC P sz xs l)(n:Nat):bC P sz (xs.drop (n*sz)) (l.drop n):=by
 refine⟨by rw[List.length_drop,List.length_drop,h.len,Nat.sub_mul],fun i a ha=> ?_⟩
 rw[List.getElem?_drop]at ha
 have e:gy (xs.drop (n*sz)) i sz=gy xs (n+i) sz:=by
  unfold gy
  rw[List.drop_drop,Nat.add_mul]
 rw[e];exact h.at_ _ a ha
theorem bC.one(h:bC P 1 xs l){i:Nat}{a:α}(ha:l[i]? = some a):∃v,xs[i]? = some v∧P [v] a:=by
 have bI:=(List.getElem?_eq_some_iff.1 ha).1
 have hi:i<xs.length:=by rw[h.len];omega
 refine⟨xs[i],List.getElem?_eq_getElem hi,?_⟩
 have:=h.at_ i a ha
 rwa [PB (List.getElem?_eq_getElem hi)]at this
end
def aR{α:Type}(P:Heap→List Value→α→Prop)(sz:Nat)(H:Heap)(v:Value)(l:List α):Prop:=∃A c xs,v = .slice A l.length c∧l.length≤c∧Rd H A xs∧bC (P H) sz xs l
def Up{α:Type}(P:Heap→List Value→α→Prop):Prop:=∀H H' vs a,Heap.le H H'→P H vs a→P H' vs a
section
variable {α:Type} {P:Heap→List Value→α→Prop} {sz:Nat} {H H':Heap} {v:Value} {l:List α}
theorem aR.le(h:aR P sz H v l)(up:Up P)(hl:Heap.le H H'):aR P sz H' v l:=by
 obtain⟨A,c,xs,h1,h2,h3,h4⟩:=h
 exact⟨A,c,xs,h1,h2,h3.le hl,h4.mono fun vs a=>up H H' vs a hl⟩
def Gp{α:Type}(P:Heap→List Value→α→Prop)(e sz:Nat)(H:Heap)(v:Value)(l:List α):Prop:=∃xs,bW H v e sz l.length xs∧bC (P H) sz xs l
theorem Gp.sl{e:Nat}(h:Gp P e sz H v l):aR P sz H v l:=by
 obtain⟨xs,h1,h2⟩:=h
 obtain⟨A,c,rfl⟩:=h1.form
 refine⟨A,c,xs,rfl,?_,h1.rd,h2⟩
 rcases h1.2 with ⟨k1,k2⟩ | ⟨g,cap,k1,_,k3,_⟩
 ·omega
 ·cases k1;exact k3
end
def bR(H:Heap)(vs:List Value)(q:Rat):Prop:=
 ∃(n d:Int)(b:Option Addr),vs = [.int .i64 n,.int .i64 d,.pointer b]∧
  ((b=none∧n=q.num∧d=q.den∧-9223372036854775807≤n∧n≤9223372036854775807∧d≤9223372036854775807)∨
   ∃ad f u w,b=some ad∧bJ H (.agg #[.bool f,u,w]) q∧cell H ad=some (.bool f)∧cell H (ad.add 1)=some u∧cell H (ad.add 2)=some w)
theorem bR.up:Up bR:=fun H H' vs q hl h=>by
 obtain⟨n,d,b,h1,h2⟩:=h
 refine⟨n,d,b,h1,?_⟩
 rcases h2 with h2 | ⟨ad,f,u,w,h2,h3,h4,h5,h6⟩
 ·exact .inl h2
 ·exact .inr ⟨ad,f,u,w,h2,h3.le hl,cN hl h4,cN hl h5,cN hl h6⟩
theorem bR.le{H H':Heap}{vs:List Value}{q:Rat}(h:bR H vs q)(hl:Heap.le H H'):bR H' vs q:=bR.up H H' vs q hl h
theorem bR.len{H:Heap}{vs:List Value}{q:Rat}(h:bR H vs q):vs.length=3:=by
 obtain⟨n,d,b,rfl,_⟩:=h;rfl
def tu(H:Heap)(q:Rat)(v:Value)(H':Heap):Prop:=Heap.le H H'∧∃vs,v = .agg vs.toArray∧bR H' vs q
theorem tu.le{H:Heap}{q:Rat}{v:Value}{H':Heap}(h:tu H q v H'):Heap.le H H':=h.1
theorem Wq(q:Rat):gZ q=if q.num.natAbs=0 then 0 else if decide (q.num<0)then -1 else 1:=by
 have:=KM (f:=decide (q.num<0)) (n:=q.num.natAbs) (d:=q.den) (Nat.pos_of_ne_zero q.den_nz)
 rwa [wD]at this
theorem PD{q:Rat}{k:Nat}:aO q≤k↔q.num.natAbs<B^k∧q.den<B^k:=by
 unfold aO
 rw[Nat.max_le,jd,jd]
theorem Wr{q:Rat}{n:Int}{d k:Nat}(hd:0<d)(h:q=mkRat n d)(h1:n.natAbs<B^k)(h2:d<B^k):aO q≤k:=by
 obtain⟨m,hm,h3,h4⟩:=Rat.mkRat_num_den (n:=n) (d:=d) (by omega) (n':=q.num) (d':=q.den) (z':=q.den_nz) (c:=q.reduced) h.symm
 rw[PD]
 refine⟨?_,?_⟩
 ·rw[h3,Int.natAbs_mul,Int.natAbs_natCast]at h1
  exact Nat.lt_of_le_of_lt (Nat.le_mul_of_pos_right _ (by omega)) h1
 ·rw[h4]at h2
  exact Nat.lt_of_le_of_lt (Nat.le_mul_of_pos_right _ (by omega)) h2
theorem K4(q:Rat):q.num.natAbs<B^aO q∧q.den<B^aO q:=PD.1 (Nat.le_refl _)
theorem wP(q:Rat):aO (-q)=aO q:=by unfold aO;rw[Rat.neg_num,Int.natAbs_neg,Rat.neg_den]
theorem vc(p q:Rat):aO (p*q)≤aO p+aO q:=by
 have h1:=K4 p
 have h2:=K4 q
 refine Wr (n:=p.num*q.num) (d:=p.den*q.den) (Nat.mul_pos (Nat.pos_of_ne_zero p.den_nz) (Nat.pos_of_ne_zero q.den_nz)) ?_ ?_ ?_
 ·rw[←Rat.mkRat_mul_mkRat,Rat.mkRat_self,Rat.mkRat_self]
 ·rw[Int.natAbs_mul,Nat.pow_add];exact Nat.mul_lt_mul'' h1.1 h2.1
 ·rw[Nat.pow_add];exact Nat.mul_lt_mul'' h1.2 h2.2
theorem Ws(p q:Rat):aO (p+q)≤aO p+aO q+1:=by
 have h1:=K4 p
 have h2:=K4 q
 have hp:=Nat.pos_of_ne_zero p.den_nz
 have hq:=Nat.pos_of_ne_zero q.den_nz
 have hB:2*(B^aO p*B^aO q)≤B^(aO p+aO q+1):=by
  rw[Nat.pow_succ,Nat.pow_add,Nat.mul_comm 2];exact Nat.mul_le_mul_left _ (by decide)
 refine Wr (n:=p.num*q.den+q.num*p.den) (d:=p.den*q.den) (Nat.mul_pos hp hq) ?_ ?_ ?_
 ·rw[Rat.add_def']
 ·have h3:(p.num*q.den+q.num*p.den).natAbs≤p.num.natAbs*q.den+q.num.natAbs*p.den:=by
   have:=Int.natAbs_add_le (p.num*q.den) (q.num*p.den)
   rwa [Int.natAbs_mul,Int.natAbs_mul,Int.natAbs_natCast,Int.natAbs_natCast]at this
  have h4:=Nat.mul_lt_mul'' h1.1 h2.2
  have h5:=Nat.mul_lt_mul'' h2.1 h1.2
  rw[Nat.mul_comm (B^aO q)]at h5
  omega
 ·have h4:=Nat.mul_lt_mul'' h1.2 h2.2
  omega
theorem tv(p q:Rat):aO (p-q)≤aO p+aO q+1:=by
 rw[Rat.sub_eq_add_neg]
 have:=Ws p (-q)
 rwa [wP]at this
end Go.au
