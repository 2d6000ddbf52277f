/- Part 3 of the proof: Nat9, Nat10, Nat11, Q, RDat, Rat1, Rat2, Rat3, Eng12, SDat. -/
import Derived.Test.YtdjoookebbbjkaaGreatA02
set_option linter.unusedVariables false
namespace Go.aq
open Go.Proofs Num
theorem Dp(H:Heap)(g:Nat)(lo w hi:List Nat)(N:Nat):Rd (ins H g (dH (lo++w++hi) N)) (some ⟨g,lo.length,none⟩) (U w):=fun i v hv=>by
 refine⟨_,rfl,?_⟩
 have bX:i<(U w).length:=(List.getElem?_eq_some_iff.1 hv).1
 have e:(⟨g,lo.length,none⟩:Addr).add i=⟨g,lo.length+i,none⟩:=by
  unfold Addr.add;split
  ·rename_i e0;rw[e0,Nat.add_zero]
  ·rfl
 rw[e]
 simp only[cell,bn,dH]
 rw[Kf,Kf,List.append_assoc,List.getElem?_append_right (by rw[Dj];omega),Dj,Nat.add_sub_cancel_left,List.getElem?_append_left bX]
 exact hv
theorem Kp{H:Heap}{g N k:Nat}{lo w hi:List Nat}{a:Int}{y:Nat}(h:a=y)(hk:k<w.length):ins (ins H g (dH (lo++w++hi) N)) g {dH (lo++w++hi) N with xs:=aJ (dH (lo++w++hi) N).xs (lo.length+k*1) [.int .u32 a]}=ins H g (dH (lo++w.set k y++hi) N):=by
 subst h
 rw[mO]
 simp only[dH,aJ,Nat.mul_one]
 congr 2
 rw[Oj]
 congr 1
 rw[List.append_assoc,List.set_append_right _ _ (by omega),Nat.add_sub_cancel_left,List.set_append_left _ _ hk,List.append_assoc]
theorem Oq{a b:List Nat}{i:Nat}(h:a.drop i=b.drop i):a[i]? = b[i]? :=by
 have:=congrArg (·[0]?) h
 simpa using this
theorem drop_set{a b:List Nat}{i y:Nat}(h:a.drop i=b.drop i):(a.set i y).drop (i+1)=b.drop (i+1):=by
 rw[List.drop_set_of_lt (Nat.lt_succ_self _)]
 have:=congrArg (List.drop 1) h
 simpa [List.drop_drop]using this
theorem aeC{H:Heap}{g N:Nat}{lo w hi b:List Nat}{c c' top:Nat}{A':Option Addr}(hg:H g=none)(hr:Rd H A' (U b))(pH:w.length=b.length+1)(de:2≤b.length)(Fi:(b.length:Int)≤8796093022208)(yV:Lt w)(eE:Lt b)(Dm:b[b.length-1]? = some top)(Ot:0<top)(hq:val w<B*val b):
 Fn Tryz.prog 169 #[.slice (some ⟨g,lo.length,none⟩) (b.length+1) c,.slice A' b.length c'] (ins H g (dH (lo++w++hi) N)) (fun v H'=>∃w',H'=ins H g (dH (lo++w'++hi) N)∧w'.length=w.length∧Lt w'∧val w'=val w%val b∧v = .int .u32 ((val w/val b:Nat):Int)):=by
 obtain⟨k,hk⟩:∃k,b.length=k+2:=⟨b.length-2,by omega⟩
 have fG:=fun e=>hr.le (Heap.bG (g:=g) e hg)
 have qo:((b.length:Int)-1).toNat=k+1:=by omega
 have tB:((b.length:Int)-2).toNat=k:=by omega
 rw[show b.length-1=k+1 by omega]at Dm
 obtain⟨next,FY⟩:∃x,b[k]? = some x:=⟨_,List.getElem?_eq_getElem (by omega)⟩
 obtain⟨u2,fQ⟩:∃x,w[k]? = some x:=⟨_,List.getElem?_eq_getElem (by omega)⟩
 obtain⟨u1,eR⟩:∃x,w[k+1]? = some x:=⟨_,List.getElem?_eq_getElem (by omega)⟩
 obtain⟨un,pI⟩:∃x,w[b.length]? = some x:=⟨_,List.getElem?_eq_getElem (by omega)⟩
 have Ou:=eE.get Dm
 have Vf:=eE.get FY
 have aeD:=yV.get fQ
 have aeE:=yV.get eR
 have aeF:=yV.get pI
 have hV:=aew hk FY Dm
 have hW:=aev (by omega) fQ eR (by rw[←hk];exact pI)
 have jl:=Dn eE (k:=k) (by omega)
 have aeG:=Dn yV (k:=k) (by omega)
 have aeH:=aes hV hW jl Vf hq
 have aeI:=vf eE
 have vn:0<val b:=by
  rcases Nat.eq_zero_or_pos (val b)with e | e
  ·rw[e,Nat.mul_zero]at hq;omega
  ·exact e
 have vo:val w/val b<B:=Nat.div_lt_of_lt_mul (by rwa [Nat.mul_comm]at hq)
 obtain⟨q,Bg⟩:∃q,q=val w/val b:=⟨_,rfl⟩
 rw[←Bg]at vo⊢
 have Vg:val w=val (w.take b.length)+B^b.length*un:=by rw[←kN pI,List.take_of_length_le (by omega)]
 have hB:=cg
 rw[cg]at Ou Vf aeD aeE aeF;refine aZ (args:=[_,_]) Tryz.func169 rfl rfl Tryz.ntmps169 rfl rfl fun w0=> ?_;refine ah [0,1] rfl ?_;refine ae (aa 1 rfl (ab [0,1] ?_));refine ae (aa 3 rfl (ab [0,1,5] ?_));refine bM .bJ [0,1,2,3,4,5,6,7,8,9,10,11,12,13] follows (by kernel_rfl) ?_;refine aa 2 rfl (cQ rfl rfl ⟨by omega,by omega⟩ (aS ag rfl rfl rfl rfl rfl (fG _) (by rw[qo];exact dB Dm) (by omega) (by omega) fun _=> ?_));refine di ag rfl rfl rfl ⟨by omega,by omega⟩ (aa 2 rfl (cQ rfl rfl ⟨by omega,by omega⟩ (aS ag rfl rfl rfl rfl rfl (fG _) (by rw[tB];exact dB FY) (by omega) (by omega) fun _=> ?_)));refine di ag rfl rfl rfl ⟨by omega,by omega⟩ (aa 2 rfl (ab [0,1,5,6,7] ?_));refine bM .bJ [0,1,2,3,4,5,6,7,8,9,10,11,12,13] follows (by kernel_rfl) ?_;refine aa 2 rfl (aS ag rfl rfl rfl rfl rfl (Dp _ _ _ _ _ _) (dB pI) (by omega) (by omega) fun _=>(di ag rfl rfl rfl ⟨by omega,by omega⟩ (gO rfl rfl ⟨by omega,by omega⟩ (aa 2 rfl (cQ rfl rfl ⟨by omega,by omega⟩ (aS ag rfl rfl rfl rfl rfl (Dp _ _ _ _ _ _) (by rw[qo];exact dB eR) (by omega) (by omega) fun _=> ?_))))))
 refine di ag rfl rfl rfl ⟨by omega,by omega⟩ (aF rfl rfl ⟨by omega,by omega⟩ (aa 1 rfl (ab [0,1,5,6,7,8] ?_)));have qf:0≤((un:Int)*1000000000+(u1:Int))/(top:Int):=Int.ediv_nonneg (by omega) (by omega);have mT:((un:Int)*1000000000+(u1:Int))/(top:Int)≤(un:Int)*1000000000+(u1:Int):=Int.ediv_le_self _ (by omega);refine bM .bJ [0,1,2,3,4,5,6,7] follows (by kernel_rfl) ?_;refine aa 2 rfl (lG rfl rfl (by omega) (by omega) ⟨by omega,by omega⟩ (aa 2 rfl (mP rfl rfl (by omega) (by omega) (aa 2 rfl (ab [0,1,5,6,7,9,10] ?_)))));refine kM (fun(bI:Nat)=>put (put (put (put (emp) 0 (.val (.slice (some ⟨g,lo.length,none⟩) (b.length+1) c))) 1 (.val (.slice A' b.length c'))) 5 (.val (.int .i64 (b.length:Int)))) 9 (.val (.int .u64 (bI:Int)))) (fun(bI:Nat) H'=>H'=ins H g (dH (lo++w++hi) N)∧q≤bI∧bI≤q+1∧bI<1000000000) ?_ ?_
 ·
  refine aE ?_
  refine gn (fun(bI:Nat)(rest:Nat)=>bI) (fun(bI:Nat)(rest:Nat)=>put (put (put (put (put (put (put (emp) 0 (.val (.slice (some ⟨g,lo.length,none⟩) (b.length+1) c))) 1 (.val (.slice A' b.length c'))) 5 (.val (.int .i64 (b.length:Int)))) 6 (.val (.int .u64 (top:Int)))) 7 (.val (.int .u64 (next:Int)))) 9 (.val (.int .u64 (bI:Int)))) 10 (.val (.int .u64 (rest:Int)))) (fun(bI:Nat)(rest:Nat) H'=>H'=ins H g (dH (lo++w++hi) N)∧bI*top+rest=un*B+u1∧q≤bI∧bI≤un*1000000000+u1∧rest≤2000000000) ((un*1000000000+u1)/top) ((un*1000000000+u1)%top) (⟨rfl,by rw[cg,Nat.mul_comm];exact Nat.div_add_mod _ _,by
   have h1:=Nat.div_add_mod (un*B+u1) top;have h2:=Nat.mod_lt (un*B+u1) Ot
   have h3:val w<((un*B+u1)/top+1)*val b:=by
    have e1:B^k*(B*(un*B+u1))+B^k*B≤B^k*(B*(((un*B+u1)/top+1)*top)):=by
     rw[←Nat.mul_add];refine Nat.mul_le_mul_left _ ?_;rw[←Nat.mul_succ];refine Nat.mul_le_mul_left _ ?_;rw[Nat.add_mul,Nat.one_mul,Nat.mul_comm _ top];omega
    have e2:((un*B+u1)/top+1)*(B^k*(B*top))≤((un*B+u1)/top+1)*val b:=Nat.mul_le_mul_left _ (by rw[hV,Nat.mul_add (B^k)];omega)
    have e3:((un*B+u1)/top+1)*(B^k*(B*top))=B^k*(B*(((un*B+u1)/top+1)*top)):=by rw[Nat.mul_left_comm _ (B^k),Nat.mul_left_comm _ B]
    have e4:val w<B^k*(B*(un*B+u1))+B^k*B:=by
     have:B^k*(u2+1)≤B^k*B:=Nat.mul_le_mul_left _ (by omega);rw[hW,Nat.mul_add (B^k)];rw[Nat.mul_add (B^k)]at this;omega
    omega
   have h4:=On Bg h3
   rw[cg]at h4;omega,Nat.div_le_self _ _,by have:=Nat.mod_lt (un*1000000000+u1) Ot;omega⟩) ar ?_
  rintro bI rest H1 ⟨rfl,ep,F2,hgu,yU⟩;refine ao ?_
  by_cases hrB:rest<1000000000
  by_cases Ko:bI<1000000000
  ·
   skip
   refine ae (aa 1 rfl (aG true rfl rfl (ja (by omega)) (aa 2 rfl (aG false rfl rfl (ql (by omega)) (vr 3 ?_)))));have hgn:bI*next≤999999999*999999999:=Nat.mul_le_mul (by omega) (by omega)
   have amC:(bI:Int)*(next:Int)=((bI*next:Nat):Int):=by simp
   refine gO rfl rfl ⟨by omega,by omega⟩ (aa 1 rfl (gO rfl rfl ⟨by omega,by omega⟩ (aa 2 rfl (cQ rfl rfl ⟨by omega,by omega⟩ (aS ag rfl rfl rfl rfl rfl (Dp _ _ _ _ _ _) (by rw[tB];exact dB fQ) (by omega) (by omega) fun _=> ?_)))));refine di ag rfl rfl rfl ⟨by omega,by omega⟩ (aF rfl rfl ⟨by omega,by omega⟩ (aa 3 rfl (ab [0,1,5,6,7,9,10,71] ?_)));refine aD rfl (fun hb=> ?_) (fun hb=> ?_)
   ·
    have hb:rest*1000000000+u2<bI*next:=by simp at hb;omega
    have Vh:=On Bg (aeq hV hW aeG ep (by rw[cg];omega));refine az (ah [0,1,5,6,7,9,10] rfl ?_);refine aE (ae (aa 1 rfl (cQ rfl rfl ⟨by omega,by omega⟩ (aa 1 rfl (ab [0,1,5,6,7,9,10] ?_)))));refine aA rfl (aa 2 rfl (aF rfl rfl ⟨by omega,by omega⟩ (aa 1 rfl (au ?_))));exact⟨bI-1,rest+top,by omega,ar,rfl,Vd ep (by omega),by omega,by omega,by omega⟩
   have hb:bI*next≤rest*1000000000+u2:=by simp at hb;omega
   refine aX ?_;exact⟨bI,ar,rfl,F2,aeu Bg vn (aer hV hW jl Ot ep (by rw[cg];omega) (by omega)),Ko⟩
  ·
   skip
   refine ae (aa 1 rfl (aG true rfl rfl (ja (by omega)) (aa 2 rfl (aG true rfl rfl (me (by omega)) (aa 16 rfl (ab [0,1,5,6,7,9,10,71] ?_))))));refine cK rfl (az (ah [0,1,5,6,7,9,10] rfl ?_));refine aE (ae (aa 1 rfl (cQ rfl rfl ⟨by omega,by omega⟩ (aa 1 rfl (ab [0,1,5,6,7,9,10] ?_)))));refine aA rfl (aa 2 rfl (aF rfl rfl ⟨by omega,by omega⟩ (aa 1 rfl (au ?_))));exact⟨bI-1,rest+top,by omega,ar,rfl,Vd ep (by omega),by omega,by omega,by omega⟩
  ·
   skip
   refine ae (aa 1 rfl (aG false rfl rfl (ia (by omega)) (aa 19 rfl (ab [0,1,5,6,7,9,10,71] ?_))));refine dh rfl (aX ?_);have tC:=aet hV hW jl (by omega) aeH ep (by omega);exact⟨bI,ar,rfl,F2,by have:=(Nat.le_div_iff_mul_le vn).2 tC.2;rw[←Bg]at this;omega,by omega⟩
 ·
  rintro bI H2 ⟨rfl,b8,bU,Ko⟩;refine ae (aa 1 rfl (ab [0,1,5,9,11] ?_));refine ao (ae (aa 2 rfl (ab [0,1,5,9,11,77,78] ?_)));refine aE (fB (fun(i:Nat)(w1:List Nat)(br:Nat)=>b.length-i) (fun(i:Nat)(w1:List Nat)(br:Nat)=>put (put (put (put (put (put (put (emp) 0 (.val (.slice (some ⟨g,lo.length,none⟩) (b.length+1) c))) 1 (.val (.slice A' b.length c'))) 5 (.val (.int .i64 (b.length:Int)))) 9 (.val (.int .u64 (bI:Int)))) 11 (.val (.int .i64 (br:Int)))) 77 (.val (.int .i64 (b.length:Int)))) 78 (.val (.int .i64 (i:Int)))) (fun(i:Nat)(w1:List Nat)(br:Nat) H'=>H'=ins H g (dH (lo++w1++hi) N)∧i≤b.length∧w1.length=w.length∧Lt w1∧w1.drop i=w.drop i∧br≤1000000000∧val (w.take i)+B^i*br=val (w1.take i)+bI*val (b.take i)) 0 w 0 (⟨rfl,by omega,rfl,yV,rfl,by omega,by simp[val]⟩) ar ?_);rintro i w1 br H1 ⟨rfl,Ov,Kq,F3,kP,vk,hv⟩;refine ae (aa 1 rfl (ab [0,1,5,9,11,77,78,79] ?_));refine ao (aD rfl (fun hb=> ?_) (fun hb=> ?_))
  ·
   have hb:i<b.length:=by simpa using hb
   obtain⟨d,hd⟩:∃d,w[i]? = some d:=⟨_,List.getElem?_eq_getElem (by omega)⟩;obtain⟨p,hp⟩:∃p,b[i]? = some p:=⟨_,List.getElem?_eq_getElem (by omega)⟩;have lH:=yV.get hd;have yR:=eE.get hp;rw[cg]at lH yR
   have fc:w1[i]? = some d:=by rw[Oq kP];exact hd
   have Vi:bI*p≤999999999*999999999:=Nat.mul_le_mul (by omega) (by omega)
   have amD:(bI:Int)*(p:Int)=((bI*p:Nat):Int):=by simp
   refine az (ah [0,1,5,9,11,77,78] rfl ?_);refine ao (aE (ae (aa 2 rfl (ab [0,1,5,9,11,12,77,78] ?_))));refine bM .bJ [0,1,2,3,4,5,6,7,8,9,10,11,12,13,14,15,16,17] follows (by kernel_rfl) ?_;refine aa 2 rfl (aS ag rfl rfl rfl rfl rfl (Dp _ _ _ _ _ _) (dB fc) (by omega) (by omega) fun _=>(di ag rfl rfl rfl ⟨by omega,by omega⟩ (aa 1 rfl (cQ rfl rfl ⟨by omega,by omega⟩ (aa 3 rfl (aS ag rfl rfl rfl rfl rfl (fG _) (dB hp) (by omega) (by omega) fun _=>(di ag rfl rfl rfl ⟨by omega,by omega⟩ (gO rfl rfl ⟨by omega,by omega⟩ (mP rfl rfl (by omega) (by omega) (di ag rfl rfl rfl ⟨by omega,by omega⟩ (cQ rfl rfl ⟨by omega,by omega⟩ (aa 1 rfl (ab [0,1,5,9,12,13,77,78] ?_)))))))))))));refine ae (aa 3 rfl (aS ag rfl rfl rfl rfl rfl (fG _) (dB hp) (by omega) (by omega) fun _=>(di ag rfl rfl rfl ⟨by omega,by omega⟩ (gO rfl rfl ⟨by omega,by omega⟩ (lG rfl rfl (by omega) (by omega) ⟨by omega,by omega⟩ (di ag rfl rfl rfl ⟨by omega,by omega⟩ (aa 1 rfl (ab [0,1,5,9,11,12,13,77,78] ?_))))))));refine ao ?_
   refine aE (fY (fun(t:Nat)=>3-t) (fun(t:Nat)=>put (put (put (put (put (put (put (put (put (emp) 0 (.val (.slice (some ⟨g,lo.length,none⟩) (b.length+1) c))) 1 (.val (.slice A' b.length c'))) 5 (.val (.int .i64 (b.length:Int)))) 9 (.val (.int .u64 (bI:Int)))) 11 (.val (.int .i64 ((bI*p/1000000000+t:Nat):Int)))) 12 (.val (.int .i64 (i:Int)))) 13 (.val (.int .i64 ((d:Int)-br-((bI*p%1000000000:Nat):Int)+t*1000000000)))) 77 (.val (.int .i64 (b.length:Int)))) 78 (.val (.int .i64 (i:Int)))) (fun(t:Nat) H'=>H'=ins H g (dH (lo++w1++hi) N)∧t≤2∧(d:Int)-br-((bI*p%1000000000:Nat):Int)+t*1000000000<1000000000) 0 (⟨rfl,by omega,by omega⟩) ar ?_);rintro t H1 ⟨rfl,ht,hsB⟩;refine ao (ae (aa 2 rfl (ab [0,1,5,9,11,12,13,77,78,108] ?_)));refine aD rfl (fun hb=> ?_) (fun hb=> ?_)
   ·
    simp at hb
    refine az (ah [0,1,5,9,11,12,13,77,78] rfl ?_);refine aE (ae (aa 1 rfl (aF rfl rfl ⟨by omega,by omega⟩ (aa 1 rfl (ab [0,1,5,9,11,12,13,77,78] ?_)))));refine aA rfl (aa 1 rfl (aF rfl rfl ⟨by omega,by omega⟩ (aa 1 rfl (au ?_))));exact⟨t+1,by omega,ar,rfl,by omega,by omega⟩
   simp at hb
   refine aX (ah [0,1,5,9,11,12,13,77,78] rfl ?_);refine aA rfl (aa 3 rfl (di ag rfl rfl rfl ⟨by omega,by omega⟩ ?_));obtain⟨ti,aj,ak⟩:=ou;refine cV (.inl rfl) ag rfl rfl rfl (by omega) (by omega) (bn _ _ _) rfl (by rw[ox];simp;omega) aj ak (fun _=>rfl) rfl rfl rfl fun _=> ?_;refine au (ah [0,1,5,9,11,77,78] rfl ?_);refine aA rfl (aF rfl rfl ⟨by omega,by omega⟩ (aa 1 rfl (au ?_)));obtain⟨y,hy⟩:∃y:Nat,(y:Int)=(d:Int)-br-((bI*p%1000000000:Nat):Int)+t*1000000000:=⟨((d:Int)-br-((bI*p%1000000000:Nat):Int)+t*1000000000).toNat,by omega⟩;have dG:=FT (o:=w1.take i) (s:=y) (br':=bI*p/1000000000+t) (d:=d) (e:=bI*p) (ta':=val (w.take (i+1))) (tb':=bI*val (b.take (i+1))) (by simp;omega) hv (by rw[cg];omega) (kN hd) (by rw[kN hp,Nat.mul_add,Nat.mul_left_comm]);rw[←yT (by omega)]at dG;exact⟨i+1,w1.set i y,bI*p/1000000000+t,by omega,ar,by rw[Kp (y:=y) hy.symm (by rw[Int.toNat_natCast];omega)];rfl,by omega,by simp[Kq],F3.set (by rw[cg];omega),drop_set kP,by omega,dG⟩
  have hb:b.length≤i:=by simpa using hb
  obtain rfl:i=b.length:=by omega
  rw[List.take_length]at hv
  have gF:w1[b.length]? = some un:=by rw[Oq kP];exact pI
  refine aX (ah [0,1,5,9,11] rfl ?_);refine ae (aa 2 rfl (aS ag rfl rfl rfl rfl rfl (Dp _ _ _ _ _ _) (dB gF) (by omega) (by omega) fun _=>(di ag rfl rfl rfl ⟨by omega,by omega⟩ (aa 1 rfl (cQ rfl rfl ⟨by omega,by omega⟩ (aa 1 rfl (ab [0,1,5,9,14] ?_)))))));refine ao (ae (aa 2 rfl (ab [0,1,5,9,14,127] ?_)));refine aD rfl (fun hb=> ?_) (fun hb=> ?_)
  ·
   have hb:br≤un:=by simp at hb;omega
   obtain⟨iV,jK⟩:=aex Vg hv hb Bg b8 vn;refine ae (aa 3 rfl (di ag rfl rfl rfl ⟨by omega,by omega⟩ ?_));obtain⟨ti,aj,ak⟩:=ou;refine cV (.inl rfl) ag rfl rfl rfl (by omega) (by omega) (bn _ _ _) rfl (by rw[ox];simp;omega) aj ak (fun _=>rfl) rfl rfl rfl fun _=> ?_;refine ab [9] ?_;refine ae (aa 1 rfl (di ag rfl rfl rfl ⟨by omega,by omega⟩ (aa 1 rfl (ab [4] ?_))));refine aB ⟨.inr rfl,_,.tmp rfl (.nil),?_⟩;refine⟨w1.set b.length (un-br),by rw[Kp (y:=un-br) (by omega) (by rw[Int.toNat_natCast];omega)];rfl,by simp[Kq],F3.set (by rw[cg];omega),?_,by rw[←iV];rfl⟩;rw[←jK,←List.take_length (l:=w1.set b.length (un-br)),List.length_set,Kq,pH,yT (by omega),rL,List.length_take,Nat.min_eq_left (by omega)]
  have hb:un<br:=by simp at hb;omega
  refine az (ah [0,1,5,9,14] rfl ?_);refine ae (aa 1 rfl (ab [0,1,5,9,14,15] ?_));refine ao (ae (aa 2 rfl (ab [0,1,5,9,14,15,135,136] ?_)));refine aE (fB (fun(i:Nat)(w2:List Nat)(cr:Nat)=>b.length-i) (fun(i:Nat)(w2:List Nat)(cr:Nat)=>put (put (put (put (put (put (put (put (emp) 0 (.val (.slice (some ⟨g,lo.length,none⟩) (b.length+1) c))) 1 (.val (.slice A' b.length c'))) 5 (.val (.int .i64 (b.length:Int)))) 9 (.val (.int .u64 (bI:Int)))) 14 (.val (.int .i64 ((un:Int)-br)))) 15 (.val (.int .u32 (cr:Int)))) 135 (.val (.int .i64 (b.length:Int)))) 136 (.val (.int .i64 (i:Int)))) (fun(i:Nat)(w2:List Nat)(cr:Nat) H'=>H'=ins H g (dH (lo++w2++hi) N)∧i≤b.length∧w2.length=w.length∧Lt w2∧w2.drop i=w1.drop i∧cr≤1∧val (w2.take i)+B^i*cr=val (w1.take i)+val (b.take i)) 0 w1 0 (⟨rfl,by omega,Kq,F3,rfl,by omega,by simp[val]⟩) ar ?_);rintro i w2 cr H1 ⟨rfl,amE,Ow,Ox,Vj,qm,dT⟩;refine ae (aa 1 rfl (ab [0,1,5,9,14,15,135,136,137] ?_));refine ao (aD rfl (fun hb=> ?_) (fun hb=> ?_))
  ·
   have hb:i<b.length:=by simpa using hb
   obtain⟨d,hd⟩:∃d,w1[i]? = some d:=⟨_,List.getElem?_eq_getElem (by omega)⟩;obtain⟨p,hp⟩:∃p,b[i]? = some p:=⟨_,List.getElem?_eq_getElem (by omega)⟩;have lH:=F3.get hd;have yR:=eE.get hp;rw[cg]at lH yR
   have jZ:w2[i]? = some d:=by rw[Oq Vj];exact hd
   refine az (ah [0,1,5,9,14,15,135,136] rfl ?_);refine ao (aE (ae (aa 2 rfl (ab [0,1,5,9,14,15,16,135,136] ?_))));refine bM .bJ [0,1,2,3,4,5,6,7,8,9,10,11] follows (by kernel_rfl) ?_;refine aa 2 rfl (aS ag rfl rfl rfl rfl rfl (Dp _ _ _ _ _ _) (dB jZ) (by omega) (by omega) fun _=>(aa 2 rfl (aS ag rfl rfl rfl rfl rfl (fG _) (dB hp) (by omega) (by omega) fun _=>(aF rfl rfl ⟨by omega,by omega⟩ (aa 1 rfl (aF rfl rfl ⟨by omega,by omega⟩ (aa 1 rfl (ab [0,1,5,9,14,16,17,135,136] ?_))))))));refine ae (aa 1 rfl (lG rfl rfl (by omega) (by omega) ⟨by omega,by omega⟩ (aa 1 rfl (ab [0,1,5,9,14,15,16,17,135,136] ?_))));refine aA rfl (aa 3 rfl (mP rfl rfl (by omega) (by omega) ?_));obtain⟨ti,aj,ak⟩:=ou;refine cV (.inl rfl) ag rfl rfl rfl (by omega) (by omega) (bn _ _ _) rfl (by rw[ox];simp;omega) aj ak (fun _=>rfl) rfl rfl rfl fun _=> ?_;refine au (ah [0,1,5,9,14,15,135,136] rfl ?_);refine aA rfl (aF rfl rfl ⟨by omega,by omega⟩ (aa 1 rfl (au ?_)));have dG:=Dh (o:=w2.take i) (s:=d+p+cr) (a:=cr) (b:=d+p) (u:=val (w1.take (i+1))+val (b.take (i+1))) (by simp;omega) dT (by omega) (by rw[kN hd,kN hp,Nat.mul_add];omega)
   rw[←yT (by omega)]at dG;exact⟨i+1,w2.set i ((d+p+cr)%B),(d+p+cr)/B,by omega,ar,by rw[Kp (y:=(d+p+cr)%B) (by rw[cg];omega) (by rw[Int.toNat_natCast];omega)];rfl,by omega,by simp[Ow],Ox.set (Nat.mod_lt _ mQ),drop_set Vj,by rw[cg];omega,dG⟩
  have hb:b.length≤i:=by simpa using hb
  obtain rfl:i=b.length:=by omega
  rw[List.take_length]at dT;obtain⟨iV,jK,yD⟩:=aey Vg hv (by omega) Bg bU vn aeI (Dn F3 (by omega)) (Dn Ox (by omega)) dT;refine aX (ah [0,5,9,14,15] rfl ?_);refine ae (aa 4 rfl (di ag rfl rfl rfl ⟨by omega,by omega⟩ (aF rfl rfl ⟨by omega,by omega⟩ (di ag rfl rfl rfl ⟨by omega,by omega⟩ ?_))));obtain⟨ti,aj,ak⟩:=ou;refine cV (.inl rfl) ag rfl rfl rfl (by omega) (by omega) (bn _ _ _) rfl (by rw[ox];simp;omega) aj ak (fun _=>rfl) rfl rfl rfl fun _=> ?_;refine ab [9] ?_;refine ae (aa 1 rfl (cQ rfl rfl ⟨by omega,by omega⟩ (di ag rfl rfl rfl ⟨by omega,by omega⟩ (aa 1 rfl (ab [4] ?_)))));refine aB ⟨.inr rfl,_,.tmp rfl (.nil),?_⟩;refine⟨w2.set b.length 0,by rw[Kp (y:=0) (by omega) (by rw[Int.toNat_natCast];omega)];rfl,by simp[Ow],Ox.set (by rw[cg];omega),?_,by rw[show (bI:Int)-1=(q:Int) by omega];rfl⟩;rw[←yD,←List.take_length (l:=w2.set b.length 0),List.length_set,Ow,pH,yT (by omega),rL,Nat.mul_zero,Nat.add_zero]
end Go.aq
namespace Go.aq
open Go.Proofs Num
theorem Bh{H:Heap}{g g':Nat}{e:Ent}(h:ins H g e g'=none):g'≠g∧H g'=none:=by
 by_cases e0:g'=g
 ·subst e0;rw[bn]at h;cases h
 ·rw[bg _ _ e0]at h;exact⟨e0,h⟩
theorem Oy{y:Nat}(h:0<y):al y≠[]:=fun e=>by
 have:=cR y
 rw[e]at this
 simp[val]at this
 omega
theorem Oz{y:Nat}(h:0<y):B^((al y).length-1)≤y:=by
 have:=(fP y).pos (Oy h)
 rwa [cR]at this
def Vk(H:Heap)(x y:Nat)(v:Value)(H':Heap):Prop:=Heap.le H H'∧∃q r,v = .tuple #[q,r]∧dr H' q (x/y)∧dr H' r (x%y)
theorem Kr{H:Heap}{u v:Value}{x y:Nat}(hx:dr H u x)(hy:dr H v y)(jk:0<y)(hm:((al x).length:Int)<8796093022208):
 Fn Tryz.prog 153 #[u,v] H (Vk H x y):=by
 obtain⟨A,c,rfl,hc,hr⟩:=hx
 obtain⟨A',c',rfl,jw,dR⟩:=hy
 have iD:=(fP x).lt
 have eE:=(fP y).lt
 have aeJ:=Oz jk
 have aeK:(al y).length≠0:=fun e=>Oy jk (List.eq_nil_of_length_eq_zero e);refine aZ (args:=[_,_]) Tryz.func153 rfl rfl Tryz.ntmps153 rfl rfl fun w0=> ?_;refine ah [0,1] rfl ?_;refine ae (aa 2 rfl (ab [0,1] ?_));refine ao (ae (aa 2 rfl (aC rfl rfl (U3 hr dR (by omega)) ?_)));rintro v1 H1 ⟨e1,rfl⟩;rw[e1];refine aa 1 rfl (ab [0,1,19] ?_);refine aD rfl (fun hb=> ?_) (fun hb=> ?_)
 ·
  have qp:x<y:=by unfold kr at hb;simp at hb;split at hb <;> (try split at hb) <;> simp_all
  refine ae (aa 1 rfl (dW Tryz.underlying98 eH rfl rfl (yP _) (hr) (by rw[Dj,Nat.mul_one]) (ow _) (by simp;omega) (by simp;omega) ?_));intro v1 H2 ha;refine aa 2 rfl (ab [4,5] ?_);refine aB ⟨.inr rfl,_,.tmp rfl (.tmp rfl (.nil)),?_⟩
  have h1:dr H2 v1 x:=by
   have:=(App.pE (a:=[]) ha rfl rfl).lim
   simpa [dr]using this
  exact⟨ha.le,_,_,rfl,by rw[Nat.div_eq_of_lt qp];exact wG H2,by rw[Nat.mod_eq_of_lt qp];exact h1⟩
 ·
  have qp:y≤x:=by unfold kr at hb;simp at hb;split at hb <;> (try split at hb) <;> simp_all <;> omega
  have hlen:=mc qp;refine az (ah [0,1] rfl ?_);refine ao (ae (aa 3 rfl (ab [0,1,24] ?_)));refine aD rfl (fun hb=> ?_) (fun hb=> ?_)
  ·
   have hb:(al y).length=1:=by simp at hb;omega
   have tD:(al y)[0]? = some y:=by
    obtain⟨z,hz⟩:=List.length_eq_one_iff.1 hb;have:=cR y;rw[hz]at this⊢
    simp[val]at this
    simp[this]
   have F4:=eE.get tD;rw[cg]at F4;refine ae (aa 2 rfl (aS ag rfl rfl rfl rfl rfl (dR) (dB tD) (by omega) (by omega) fun _=>(di ag rfl rfl rfl ⟨by omega,by omega⟩ (aC rfl rfl (Va (l:=al x) ⟨A,c,rfl,hc,hr⟩ iD F4 jk (by omega)) ?_))));rintro v1 H2 ⟨hle,q,rfl,hq⟩;refine vr 1 ?_;rw[cR]at hq⊢;refine aa 4 rfl (ab [6,7] ?_);refine ae (aa 2 rfl (aC rfl rfl (Kk (x:=x%y) (by have:=Nat.mod_lt x jk;omega)) ?_));intro v1 H3 hp;refine aa 2 rfl (ab [4,5] ?_);refine aB ⟨.inr rfl,_,.tmp rfl (.tmp rfl (.nil)),?_⟩;exact⟨hle.trans hp.le,_,_,rfl,hq.le hp.le,hp.nat⟩
  have hb:(al y).length≠1:=by simp at hb;omega
  have gQ:2≤(al y).length:=by omega
  obtain⟨t,ht⟩:∃t,(al y)[(al y).length-1]? = some t:=⟨_,List.getElem?_eq_getElem (by omega)⟩;have Ou:=eE.get ht;rw[cg]at Ou
  have qo:(((al y).length:Int)-1).toNat=(al y).length-1:=by omega
  have hs0:0≤(1000000000:Int)/((t:Int)+1):=Int.ediv_nonneg (by omega) (by omega);have qq:(1000000000:Int)/((t:Int)+1)≤1000000000:=Int.ediv_le_self _ (by omega);obtain⟨sc,Bi⟩:∃sc,sc=1000000000/(t+1):=⟨_,rfl⟩
  have aeL:(1000000000:Int)/((t:Int)+1)=(sc:Int):=by rw[Bi];simp
  have Dq:0<sc:=by rw[Bi];exact Nat.div_pos (by omega) (by omega)
  have aeM:sc*(t+1)≤1000000000:=by rw[Bi];exact Nat.div_mul_le_self _ _
  refine az (ah [0,1] rfl ?_);refine ae (aa 3 rfl (ab [0,1,8] ?_));refine ae (aa 2 rfl (cQ rfl rfl ⟨by omega,by omega⟩ (aS ag rfl rfl rfl rfl rfl (dR) (by rw[qo];exact dB ht) (by omega) (by omega) fun _=> ?_)));refine di ag rfl rfl rfl ⟨by omega,by omega⟩ (aF rfl rfl ⟨by omega,by omega⟩ (lG rfl rfl (by omega) (by omega) ⟨by omega,by omega⟩ ?_));rw[aeL];refine aa 1 rfl (ab [0,1,8,9] ?_)
  have Ks:0<t:=by
   rcases Nat.eq_zero_or_pos t with e|e
   ·
    exfalso
    have:=(fP y).last t (by rw[List.getLast?_eq_getElem?];exact ht);exact this e
   ·exact e
  have OA:sc<1000000000:=by
   have:sc*2≤sc*(t+1):=Nat.mul_le_mul_left _ (by omega)
   omega
  have hyV:y*sc<B^(al y).length:=by
   have h1:y<B^((al y).length-1)*(t+1):=by
    have h2:=kN ht;rw[show (al y).length-1+1=(al y).length by omega,List.take_length,cR]at h2;have h3:=Dn eE (k:=(al y).length-1) (by omega);rw[Nat.mul_add,Nat.mul_one];omega
   have h2:y*sc<B^((al y).length-1)*(t+1)*sc:=Nat.mul_lt_mul_of_pos_right h1 Dq
   have h3:B^((al y).length-1)*(t+1)*sc≤B^((al y).length-1)*B:=by
    rw[Nat.mul_assoc];exact Nat.mul_le_mul_left _ (by rw[Nat.mul_comm,cg];exact aeM)
   rw[←Nat.pow_succ,Nat.succ_eq_add_one,show (al y).length-1+1=(al y).length by omega]at h3
   omega
  refine ae (aa 2 rfl (aC rfl rfl (U6 (l:=al x) ⟨A,c,rfl,hc,hr⟩ iD OA (by omega)) ?_));rintro v1 H1 ⟨g1,l1,mT,rfl,rfl,aeN,aeO,vp⟩;rw[cR]at vp;refine aa 1 rfl (ab [0,1,8,9,10] ?_);refine ae (aa 2 rfl (aC rfl rfl (U6 (l:=al y) ⟨A',c',rfl,jw,dR.le (Heap.bG _ mT)⟩ eE OA (by omega)) ?_));rintro v1 H1 ⟨g2,l2,ep,rfl,rfl,amF,N8,dT⟩;rw[cR]at dT;refine aa 1 rfl (rJ ag rfl rfl (.inl ⟨rfl,rfl⟩) (.inr ⟨_,_,rfl,rfl⟩) (by omega) (by omega) ?_);rw[yQ];refine aa 1 rfl (ab [0,8,9,10,11] ?_);refine ae (aa 3 rfl (cQ rfl rfl ⟨by omega,by omega⟩ (aF rfl rfl ⟨by omega,by omega⟩ (gP Tryz.underlying98 eH rfl rfl rfl (by omega) (by omega) (by omega) (by omega) ?_))));intro g3 lI;obtain⟨m,eW⟩:∃m,m=(al x).length-(al y).length+1:=⟨_,rfl⟩;rw[show (((al x).length:Int)-((al y).length:Int)+1).toNat=m from by omega,yS];obtain⟨Vm,aeP⟩:=Bh ep;obtain⟨Ba,aeQ⟩:=Bh lI;obtain⟨Kt,aeR⟩:=Bh aeQ
  have dY:∀e e',ins (ins H g2 e) g3 e' g1=none:=fun e e'=>by rw[bg _ _ (Ne.symm Kt),bg _ _ (Ne.symm Vm)];exact mT
  have gG:∀e,ins H g2 e g3=none:=fun e=>by rw[bg _ _ Ba];exact aeR
  rw[CY H _ _ (Ne.symm Vm),CY (ins H g2 _) _ _ (Ne.symm Kt)];obtain⟨V,Ku⟩:∃V,V=y*sc:=⟨_,rfl⟩;obtain⟨b,pJ⟩:∃b,b=l2.take (al y).length:=⟨_,rfl⟩
  have jM:b.length=(al y).length:=by rw[pJ];simp;omega
  have F5:val b=V:=by
   have h1:=F0 l2 (k:=(al y).length) (by omega);rw[dT,←pJ]at h1
   rcases Nat.eq_zero_or_pos (val (l2.drop (al y).length))with e|e
   ·rw[e,Nat.mul_zero]at h1;omega
   ·
    have:B^(al y).length*1≤B^(al y).length*val (l2.drop (al y).length):=Nat.mul_le_mul_left _ e
    omega
  have Vn:Lt b:=by rw[pJ];exact N8.take _
  have vn:0<V:=by rw[Ku];exact Nat.mul_pos jk Dq
  obtain⟨tp,J0⟩:∃tp,b[b.length-1]? = some tp:=⟨_,List.getElem?_eq_getElem (by omega)⟩
  have aeS:0<tp:=by
   rcases Nat.eq_zero_or_pos tp with e|e
   ·
    exfalso
    have h2:=kN J0;rw[show b.length-1+1=b.length by omega,List.take_length,e,Nat.mul_zero,F5]at h2;have h3:=Dn Vn (k:=b.length-1) (by omega);have h4:y*1≤y*sc:=Nat.mul_le_mul_left _ Dq;rw[jM]at h2 h3
    omega
   ·exact e
  refine UG (x':= .val (.slice (some ⟨g2,0,none⟩) b.length ((al y).length+1-0))) 11 rfl (by rw[jM];rfl) ?_;refine aa 1 rfl (ab [0,8,9,10,11,12] ?_);refine ao (ae (aa 3 rfl (cQ rfl rfl ⟨by omega,by omega⟩ (aa 1 rfl (ab [8,9,10,11,12,13] ?_)))));refine aE (fB (fun(k:Nat)(l:List Nat)(o:List Nat)=>k) (fun(k:Nat)(l:List Nat)(o:List Nat)=>put (put (put (put (put (put (emp) 8 (.val (.int .i64 ((al y).length:Int)))) 9 (.val (.int .u64 (sc:Int)))) 10 (.val (.slice (some ⟨g1,0,none⟩) ((al x).length+1) ((al x).length+1)))) 11 (.val (.slice (some ⟨g2,0,none⟩) b.length ((al y).length+1-0)))) 12 (.val (.slice (some ⟨g3,0,none⟩) m m))) 13 (.val (.int .i64 ((k:Int)-1)))) (fun(k:Nat)(l:List Nat)(o:List Nat) H'=>H'=ins (ins (ins H g2 (dH l2 ((al y).length+1))) g3 (dH o m)) g1 (dH l ((al x).length+1))∧k≤m∧l.length=(al x).length+1∧Lt l∧o.length=m∧Lt o∧val (o.drop k)*V*B^k+val l=x*sc∧val (l.drop k)<V) m _ _ (⟨rfl,by omega,aeN,aeO,by simp,Lt.replicate _,by simp[val,vp],by rw[Ku];exact aeA (by omega) vp (by rw[show m+((al y).length-1)=(al x).length by omega];exact Dg x) aeJ Dq⟩) ar ?_);rintro k l o H1 ⟨rfl,hk,tA,bX,dX,eu,hinv,vq⟩;refine ao (ae ?_)
  refine aa 2 rfl (ab [8,9,10,11,12,13,66] ?_);refine aD rfl (fun hb=> ?_) (fun hb=> ?_)
  ·
   have hb:1≤k:=by simp at hb;omega
   obtain⟨k,rfl⟩:∃j,k=j+1:=⟨k-1,by omega⟩
   have gC:(((k+1:Nat):Int)-1).toNat=k:=by omega
   obtain⟨w,Dr⟩:∃w,w=(l.drop k).take ((al y).length+1):=⟨_,rfl⟩
   have pH:w.length=(al y).length+1:=by rw[Dr];simp;omega
   obtain⟨hwz,nC,OB⟩:=Ve bX (n:=(al y).length) (by omega) vq (by omega);rw[←Dr,←F5]at OB
   have aeT:Lt w:=by rw[Dr];exact(bX.drop k).take _
   have yV:l=l.take k++w++l.drop (k+(al y).length+1):=by
    rw[Dr,List.append_assoc]
    conv=>lhs;rw[←List.take_append_drop k l,←List.take_append_drop ((al y).length+1) (l.drop k)]
    rw[List.drop_drop]
    rfl
   have wK:(l.take k).length=k:=by simp;omega
   have fG:Rd (ins (ins H g2 (dH l2 ((al y).length+1))) g3 (dH o m)) (some ⟨g2,0,none⟩) (U b):=by
    rw[pJ,FU];exact((Ki H g2 l2 _).le (Heap.bG _ (gG _))).take _
   refine az (ah [8,9,10,11,12,13] rfl ?_);refine ao (aE (aA rfl (aa 6 rfl (aF rfl rfl ⟨by omega,by omega⟩ (aF rfl rfl ⟨by omega,by omega⟩ (rJ ag rfl rfl (.inr ⟨_,_,rfl,congrArg (fun z=>some (Value.int .i64 z)) (show ((k+1:Nat):Int)-1=((k:Nat):Int) by omega)⟩) (.inr ⟨_,_,rfl,congrArg (fun z=>some (Value.int .i64 z)) (show ((k+1:Nat):Int)-1+((al y).length:Int)+1=((k+(al y).length+1:Nat):Int) by omega)⟩) (by omega) (by omega) (UG (x':= .val (.slice (some ⟨g1,(l.take k).length,none⟩) (b.length+1) ((al x).length+1-k))) 77 rfl (by rw[if_neg (by omega),Option.map_some,im,Nat.mul_one,wK,show k+(al y).length+1-k=b.length+1 by omega]) ?_)))))));refine aa 1 rfl (aC rfl rfl (by have hF:=aeC (lo:=l.take k) (w:=w) (hi:=l.drop (k+(al y).length+1)) (N:=(al x).length+1) (c:=(al x).length+1-k) (c':=(al y).length+1-0) (dY _ _) fG (by omega) (by omega) (by omega) aeT Vn J0 aeS OB;rw[←yV]at hF;exact hF) ?_);rintro v1 H1 ⟨w',rfl,gi,jA,OC,rfl⟩;obtain⟨ti,aj,ak⟩:=ou;refine cV (.inl rfl) ag rfl rfl rfl (by omega) (by omega) ((bg _ _ Kt).trans (bn _ _ _)) rfl (by rw[ox];omega) aj ak (fun _=>rfl) rfl rfl rfl fun _=> ?_;refine au ?_
   refine ah [8,9,10,11,12,13] rfl ?_;refine aA rfl (aa 1 rfl (cQ rfl rfl ⟨by omega,by omega⟩ (aa 1 rfl (au ?_))));have dG:=aez (q:=val w/V) bX (n:=(al y).length) (by omega) vq (by omega) (by omega) hinv (by rw[←Dr]) (by rw[←Dr,OC,F5]) (by rw[gi,pH]);refine⟨k,l.take k++w'++l.drop (k+(al y).length+1),o.set k (val w/V),by omega,ar,?_,by omega,?_,?_,by simp[dX],eu.set ?_,dG.1,dG.2⟩
   ·rw[CY _ _ _ (Ne.symm Kt),vj (y:=val w/V) (by rw[F5]),gC]
   ·simp[gi,pH,tA];omega
   ·exact((bX.take k).append jA).append (bX.drop _)
   ·rw[←F5];exact Nat.div_lt_of_lt_mul (by rw[Nat.mul_comm];exact OB)
  have hb:k=0:=by simp at hb;omega
  subst hb
  simp only[List.drop_zero,Nat.pow_zero,Nat.mul_one]at hinv vq
  obtain⟨hQ,hR⟩:=aeB (Q:=val o) (R:=val l) (x:=x) (y:=y) (sc:=sc) (by rw[←Ku];exact hinv) (by rw[←Ku];exact vq) Dq;refine aX (ah [9,10,12] rfl ?_);refine ae (aa 1 rfl (aC rfl rfl (Kn (AZ _ _ l _ _ tA.symm (Nat.le_refl _)) bX (by omega)) ?_));intro v1 H4 hp;refine aa 1 rfl (aC rfl rfl (Va hp.nat (fP _).lt OA Dq (by have:=iZ.2 (vf bX);omega)) ?_);rintro v2 H5 ⟨iM,r,rfl,nD⟩;rw[cR,hR]at nD;refine aa 5 rfl (ab [12,14] ?_);refine ae (aa 1 rfl (aC rfl rfl (Kn (((AZ _ _ o m m dX.symm (Nat.le_refl _)).le (Heap.bG _ (dY _ _))).le (hp.le.trans iM)) eu (by omega)) ?_));intro v1 H6 oz;refine aa 3 rfl (ab [4,5] ?_);refine aB ⟨.inr rfl,_,.tmp rfl (.tmp rfl (.nil)),?_⟩;exact⟨((((Heap.bG _ aeP).trans (Heap.bG _ (gG _))).trans (Heap.bG _ (dY _ _))).trans (hp.le.trans iM)).trans oz.le,_,_,rfl,by rw[←hQ];exact oz.nat,nD.le oz.le⟩
end Go.aq
namespace Go.aq
open Go.Proofs Num
theorem aeU{H:Heap}{u v:Value}{x y:Nat}(hx:dr H u x)(hy:dr H v y)(hm:((al x).length:Int)<8796093022208)(bK:((al y).length:Int)<8796093022208):
  Fn Tryz.prog 152 #[u,v] H (mS H (Nat.gcd x y)):=by
 obtain⟨M,hM⟩:∃M,M=max x y:=⟨_,rfl⟩
 have hMl:((al M).length:Int)<8796093022208:=by
  rcases Nat.le_total x y with h | h
  ·rw[hM,Nat.max_eq_right h];exact bK
  ·rw[hM,Nat.max_eq_left h];exact hm
 refine aZ (args:=[_,_]) Tryz.func152 rfl rfl Tryz.ntmps152 rfl rfl fun w0=> ?_;refine ah [0,1] rfl ?_;refine ae (aa 1 rfl (ab [0,1] ?_));refine ao (aE (pC (fun(x1:Nat)(y1:Nat)(u:Value)(v:Value)=>y1) (fun(x1:Nat)(y1:Nat)(u:Value)(v:Value)=>put (put (emp) 0 (.val (u))) 1 (.val (v))) (fun(x1:Nat)(y1:Nat)(u:Value)(v:Value) H'=>Heap.le H H'∧dr H' u x1∧dr H' v y1∧Nat.gcd x1 y1=Nat.gcd x y∧x1≤M∧y1≤M) x y u v (⟨.refl _,hx,hy,rfl,by omega,by omega⟩) ar ?_));rintro x1 y1 u v H1 ⟨hle,fH,tD,hg,hxM,OD⟩;obtain⟨A,c,rfl,hc,hr⟩:=fH;obtain⟨A',c',rfl,jw,dR⟩:=tD;have bx:=mc hxM;have cD:=mc OD;refine ao (ae (aa 3 rfl (ab [0,1,13] ?_)));refine aD rfl (fun hb=> ?_) (fun hb=> ?_)
 ·
  have hb:(al y1).length≠0:=by simp at hb;intro e;simp[List.eq_nil_of_length_eq_zero e]at hb
  have jk:0<y1:=by rcases Nat.eq_zero_or_pos y1 with e | e;· exact absurd (jL.2 e) hb
                   ·exact e
  refine az (ah [0,1] rfl ?_);refine aE (ao ?_)
  by_cases h2:(al x1).length≤2
  ·
   skip
   refine ae (aa 2 rfl (aG true rfl rfl (rN (by omega)) (aa 5 rfl (ab [0,1,21] ?_))));refine aD rfl (fun hb=> ?_) (fun hb=> ?_)
   ·
    have hb:(al y1).length≤2:=by simp at hb;omega
    have OE:=iZ.1 h2;have OF:=iZ.1 hb;rw[cg]at OE OF
    simp only[Nat.reducePow]at OE OF
    refine ae (aa 1 rfl (aC rfl rfl (U4 hr h2) ?_));rintro v1 H2 ⟨rfl,rfl⟩;refine aa 5 rfl (ab [1,5] ?_);refine ae (aa 1 rfl (aC rfl rfl (U4 dR hb) ?_));rintro v1 H3 ⟨rfl,rfl⟩;refine aa 5 rfl (ab [5,7] ?_);refine ao (aE (gn (fun(p:Nat)(q:Nat)=>q) (fun(p:Nat)(q:Nat)=>put (put (emp) 5 (.val (.int .u64 (p:Int)))) 7 (.val (.int .u64 (q:Int)))) (fun(p:Nat)(q:Nat) H'=>Heap.le H H'∧Nat.gcd p q=Nat.gcd x y∧p<1000000000000000000∧q<1000000000000000000) x1 y1 (⟨hle,hg,OE,OF⟩) ar ?_));rintro p q H1 ⟨fU,ep,OG,F6⟩;refine ao (ae (aa 2 rfl (ab [5,7,33] ?_)));refine aD rfl (fun hb=> ?_) (fun hb=> ?_)
    ·
     have hb:0<q:=by simp at hb;omega
     refine az (ah [5,7] rfl ?_);refine aE (eo .bJ [0,1,2,3,4,5] follows (by kernel_rfl) ?_);refine aa 3 rfl (mP rfl rfl (by omega) (by omega) (aa 2 rfl (au ?_)));have bX:=Nat.mod_lt p hb;exact⟨q,p%q,bX,ar,fU,by rw[Nat.gcd_comm q,←Nat.gcd_rec,Nat.gcd_comm q];exact ep,F6,by omega⟩
    ·
     have hb:q=0:=by simp at hb;omega
     subst hb;rw[Nat.gcd_zero_right]at ep;refine aX (ah [5] rfl ?_);refine ae (aa 1 rfl (aC rfl rfl (Kk (by omega)) ?_));intro v1 H4 hp;refine aa 1 rfl (ab [4] ?_);refine aB ⟨.inr rfl,_,.tmp rfl (.nil),?_⟩;exact⟨fU.trans hp.le,by rw[←ep];exact hp.nat⟩
   ·
    skip
    refine az (ah [0,1] rfl ?_);refine ae (aa 2 rfl (aC rfl rfl (Kr (x:=x1) (y:=y1) ⟨A,c,rfl,hc,hr⟩ ⟨A',c',rfl,jw,dR⟩ jk (by omega)) ?_));rintro v1 H4 ⟨fU,q,r,rfl,bU,kQ⟩;refine aa 5 rfl (ab [1,10] ?_);refine aA rfl (aa 4 rfl (au ?_));have bX:=Nat.mod_lt x1 jk;exact⟨y1,x1%y1,_,_,bX,ar,hle.trans fU,jz.le (l:=al y1) ⟨A',c',rfl,jw,dR⟩ fU,kQ,by rw[Nat.gcd_comm y1,←Nat.gcd_rec,Nat.gcd_comm y1];exact hg,OD,by omega⟩
  ·
   skip
   refine ae (aa 2 rfl (aG false rfl rfl (AY (by omega)) (aa 5 rfl (ab [0,1,21] ?_))));refine dh rfl (az (ah [0,1] rfl ?_));refine ae (aa 2 rfl (aC rfl rfl (Kr (x:=x1) (y:=y1) ⟨A,c,rfl,hc,hr⟩ ⟨A',c',rfl,jw,dR⟩ jk (by omega)) ?_));rintro v1 H4 ⟨fU,q,r,rfl,bU,kQ⟩;refine aa 5 rfl (ab [1,10] ?_);refine aA rfl (aa 4 rfl (au ?_));have bX:=Nat.mod_lt x1 jk;exact⟨y1,x1%y1,_,_,bX,ar,hle.trans fU,jz.le (l:=al y1) ⟨A',c',rfl,jw,dR⟩ fU,kQ,by rw[Nat.gcd_comm y1,←Nat.gcd_rec,Nat.gcd_comm y1];exact hg,OD,by omega⟩
 ·
  have hb:(al y1).length=0:=by simp at hb;simp[hb]
  have jk:y1=0:=jL.1 hb;subst jk;rw[Nat.gcd_zero_right]at hg;refine aX (ah [0] rfl ?_);refine ae (aa 2 rfl (ab [4] ?_));refine aB ⟨.inr rfl,_,.tmp rfl (.nil),?_⟩;exact⟨hle,by rw[←hg];exact⟨A,c,rfl,hc,hr⟩⟩
end Go.aq
namespace Num
def sg(neg:Bool)(n:Nat):Int:=if neg then -(n:Int)else n
def cS(neg:Bool)(n d:Nat):Rat:=mkRat (sg neg n) d
theorem OH(f:Bool)(n:Nat):(sg f n).natAbs=n:=by cases f <;> simp[sg]
theorem aeV(f:Bool):sg f 0=0:=by cases f <;> rfl
theorem wL(f:Bool)(d:Nat):cS f 0 d=0:=by simp[cS,aeV]
theorem Kv(f:Bool)(n:Nat):cS f n 0=0:=by simp[cS]
theorem Bj{f:Bool}{n d:Nat}(hd:0<d):(cS f n d).den=d/Nat.gcd n d:=by
 rw[cS,Rat.den_mkRat,if_neg (by omega),OH,Nat.gcd_comm]
theorem OI{f:Bool}{n d:Nat}(hd:0<d):(cS f n d).num=sg f (n/Nat.gcd n d):=by
 rw[cS,Rat.num_mkRat,if_neg (by omega),OH,Nat.gcd_comm]
 have hdv:Nat.gcd n d∣n:=Nat.gcd_dvd_left n d
 cases f
 ·simp[sg]
 ·simp only[sg,if_true]
  rw[Int.neg_ediv_of_dvd (by exact_mod_cast hdv)]
  simp
theorem Ds{f:Bool}{n d:Nat}(hd:0<d):(cS f n d).num.natAbs=n/Nat.gcd n d:=by rw[OI hd,OH]
theorem F8{f:Bool}{n d:Nat}(hd:0<d)(hn:0<n):decide ((cS f n d).num<0)=f:=by
 rw[OI hd]
 have h1:0<n/Nat.gcd n d:=Nat.div_pos (Nat.le_of_dvd hn (Nat.gcd_dvd_left n d)) (Nat.gcd_pos_of_pos_left _ hn)
 cases f <;> simp[sg] <;> omega
theorem OJ{f:Bool}{n d:Nat}(hd:0<d):cS f n d=0↔n=0:=by
 rw[cS,Rat.mkRat_eq_zero (by omega)]
 cases f <;> simp[sg]
theorem aeW{f:Bool}{n d:Nat}(hd:0<d)(hn:0<n):cS f n d<0↔f=true:=by
 have h:=F8 (f:=f) hd hn
 rw[←Rat.not_le,←Rat.num_nonneg]
 constructor
 ·intro h1;rw[←h,decide_eq_true_iff];omega
 ·intro h1;rw[h1]at h⊢;have:=of_decide_eq_true h;omega
theorem Vo(f:Bool){n m d e:Nat}(hd:0<d)(he:0<e):cS f n d+cS f m e=cS f (n*e+m*d) (d*e):=by
 rw[cS,cS,Rat.mkRat_add_mkRat _ _ (by omega) (by omega),cS]
 congr 1
 cases f
 ·simp[sg]
 ·simp[sg,Int.neg_add,Int.neg_mul]
theorem OK{f g:Bool}(qt:f≠g){n m d e:Nat}(hd:0<d)(he:0<e)(h:m*d≤n*e):cS f n d+cS g m e=cS f (n*e-m*d) (d*e):=by
 rw[cS,cS,Rat.mkRat_add_mkRat _ _ (by omega) (by omega),cS]
 congr 1
 obtain rfl:g = !f:=by cases f <;> cases g <;> simp at qt⊢
 cases f
 ·simp[sg]
  rw[Int.ofNat_sub h];simp[Int.neg_mul];omega
 ·simp[sg]
  rw[Int.ofNat_sub h];simp[Int.neg_mul];omega
theorem Vp{f g:Bool}(qt:f≠g){n m d e:Nat}(hd:0<d)(he:0<e)(h:n*e≤m*d):cS f n d+cS g m e=cS g (m*d-n*e) (d*e):=by
 rw[Rat.add_comm,OK (Ne.symm qt) he hd h,Nat.mul_comm e d]
theorem OL(f:Bool)(n d:Nat): -cS f n d=cS (!f) n d:=by
 rw[cS,cS,Rat.neg_mkRat]
 cases f <;> simp[sg]
theorem OM(f g:Bool)(n m d e:Nat):cS f n d*cS g m e=cS (f != g) (n*m) (d*e):=by
 rw[cS,cS,Rat.mkRat_mul_mkRat,cS]
 congr 1
 cases f <;> cases g <;> simp[sg,Int.neg_mul,Int.mul_neg]
theorem Vq{g:Bool}{m e:Nat}(_hm:0<m):(cS g m e)⁻¹=cS g e m:=by
 rw[cS,cS,←Rat.divInt_ofNat,Rat.inv_divInt,←Rat.divInt_ofNat]
 cases g
 ·rfl
 ·simp only[sg,if_true]
  rw[Rat.divInt_neg']
theorem ON{f g:Bool}{n m d e:Nat}(hm:0<m):cS f n d/cS g m e=cS (f != g) (n*e) (d*m):=by
 rw[Rat.div_def,Vq hm,OM]
theorem aeX(n:Int):sg (decide (n<0)) n.natAbs=n:=by
 unfold sg;split
 ·rename_i h;simp at h;omega
 ·rename_i h;simp at h;omega
theorem Ga(n:Int):cS (decide (n<0)) n.natAbs 1=(n:Rat):=by
 have:sg (decide (n<0)) n.natAbs=n:=by
  unfold sg;split
  ·rename_i h;simp at h;omega
  ·rename_i h;simp at h;omega
 rw[cS,this]
 exact Rat.mkRat_self (n:Rat)
theorem Vr(a b:Int):cS (decide (a<0) != decide (b<0)) a.natAbs b.natAbs=(a:Rat)/(b:Rat):=by
 rcases Nat.eq_zero_or_pos b.natAbs with h | h
 ·rw[h,Kv]
  have:b=0:=by omega
  subst this
  simp[Rat.div_def]
 ·rw[←Ga a,←Ga b,ON h]
  simp
def fI(q:Rat):Int:=if q<0 then -1 else if q=0 then 0 else 1
def wM(p q:Rat):Int:=if p<q then -1 else if p=q then 0 else 1
theorem Kw{f:Bool}{n d:Nat}(hd:0<d):fI (cS f n d)=if n=0 then 0 else if f then -1 else 1:=by
 unfold fI
 by_cases hn:n=0
 ·subst hn;rw[wL];rfl
 ·have h1:=aeW (f:=f) hd (by omega:0<n)
  have h2:=OJ (f:=f) (n:=n) hd
  cases f
  ·rw[if_neg (by rw[h1];simp),if_neg (by rw[h2];exact hn),if_neg hn];rfl
  ·rw[if_pos (by rw[h1]),if_neg hn];rfl
end Num
namespace Go.aq
open Go.Proofs Num
def rQ(H:Heap)(v:Value)(f:Bool)(n d:Nat):Prop:=∃u w,v = .agg #[.bool f,u,w]∧dr H u n∧dr H w d
theorem rQ.le{H H':Heap}{v:Value}{f:Bool}{n d:Nat}(h:rQ H v f n d)(hl:Heap.le H H'):rQ H' v f n d:=by
 obtain⟨u,w,h1,h2,h3⟩:=h
 exact⟨u,w,h1,h2.le hl,h3.le hl⟩
def bH(H:Heap)(v:Value)(q:Rat):Prop:=rQ H v (decide (q.num<0)) q.num.natAbs q.den
theorem bH.le{H H':Heap}{v:Value}{q:Rat}(h:bH H v q)(hl:Heap.le H H'):bH H' v q:=rQ.le h hl
def cT(H:Heap)(v:Value)(q:Rat)(N:Nat):Prop:=∃f u w l1 l2,v = .agg #[.bool f,u,w]∧jz H u l1∧jz H w l2∧(∀x,x∈l1→x<4294967296)∧(∀x,x∈l2→x<4294967296)∧l1.length≤N∧l2.length≤N∧q=cS f (val l1) (val l2)
theorem cT.le{H H':Heap}{v:Value}{q:Rat}{N:Nat}(h:cT H v q N)(hl:Heap.le H H'):cT H' v q N:=by
 obtain⟨f,u,w,l1,l2,h1,h2,h3,h4⟩:=h
 exact⟨f,u,w,l1,l2,h1,h2.le hl,h3.le hl,h4⟩
theorem cT.mono{H:Heap}{v:Value}{q:Rat}{N M:Nat}(h:cT H v q N)(hl:N≤M):cT H v q M:=by
 obtain⟨f,u,w,l1,l2,h1,h2,h3,h4,h5,h6,h7,h8⟩:=h
 exact⟨f,u,w,l1,l2,h1,h2,h3,h4,h5,by omega,by omega,h8⟩
def aN(q:Rat):Nat:=max (al q.num.natAbs).length (al q.den).length
theorem wN(q:Rat):cS (decide (q.num<0)) q.num.natAbs q.den=q:=by
 rw[cS,aeX,Rat.mkRat_self]
theorem nE{x:Nat}:∀y,y∈al x→y<4294967296:=fun y hy=>by
 have:=(fP x).lt y hy
 rw[cg]at this;omega
theorem bH.raw{H:Heap}{v:Value}{q:Rat}(h:bH H v q):cT H v q (aN q):=by
 obtain⟨u,w,h1,h2,h3⟩:=h
 exact⟨_,u,w,_,_,h1,h2,h3,nE,nE,Nat.le_max_left _ _,Nat.le_max_right _ _,by rw[cR,cR,wN]⟩
def j0(H:Heap)(q:Rat)(v:Value)(H':Heap):Prop:=Heap.le H H'∧bH H' v q
theorem j0.le{H:Heap}{q:Rat}{v:Value}{H':Heap}(h:j0 H q v H'):Heap.le H H':=h.1
def Kx(H:Heap)(q:Rat)(K:Nat)(v:Value)(H':Heap):Prop:=Heap.le H H'∧∃f n d,rQ H' v f n d∧0<d∧cS f n d=q∧(al n).length≤K∧(al d).length≤K
theorem Kx.le{H:Heap}{q:Rat}{K:Nat}{v:Value}{H':Heap}(h:Kx H q K v H'):Heap.le H H':=h.1
def j5(H:Heap)(x:Value)(v:Value)(H':Heap):Prop:=H'=H∧v=x
theorem j5.le{H:Heap}{x:Value}{v:Value}{H':Heap}(h:j5 H x v H'):Heap.le H H':=by rw[h.1];exact .refl _
theorem vt:al 1 = [1]:=by
 rw[yN (by decide)]
 rw[show 1/B=0 by decide,show 1%B=1 by decide,qk]
theorem yW{H:Heap}{g e:Nat}:dr (ins H g (whole (dS [.int .u32 1]) e)) (.slice (some ⟨g,0,none⟩) 1 1) 1:=by
 refine⟨some ⟨g,0,none⟩,1,?_,?_,?_⟩
 ·rw[vt];rfl
 ·rw[vt];exact Nat.le_refl _
 ·rw[vt];exact rO (y:=1) rfl
theorem Dt{l:List Nat}(h:∀x,x∈l→x<4294967296):(al (val l)).length≤l.length+1:=by
 refine iZ.2 ?_
 have:val l+5≤5*B^l.length:=by
  induction l with
  | nil=>simp[val]
  | cons x l ih=>
   have h1:=ih (fun y hy=>h y (List.mem_cons_of_mem _ hy))
   have h2:=h x (List.mem_cons_self ..)
   rw[jy,List.length_cons,Nat.pow_succ]
   have h3:B*(val l+5)≤B*(5*B^l.length):=Nat.mul_le_mul_left _ h1
   have h4:B*(5*B^l.length)=5*(B^l.length*B):=by rw[Nat.mul_left_comm,Nat.mul_comm B]
   have h5:B*5=5000000000:=by decide
   rw[Nat.mul_add]at h3
   omega
 have h5:5*B^l.length≤B*B^l.length:=Nat.mul_le_mul_right _ (by decide)
 rw[Nat.pow_succ,Nat.mul_comm _ B];omega
theorem oA(x y:Nat):(al (x*y)).length≤(al x).length+(al y).length:=by
 refine iZ.2 ?_
 rw[Nat.pow_add]
 exact Nat.mul_lt_mul'' (Dg x) (Dg y)
theorem Vs{x y k:Nat}(hx:(al x).length≤k)(hy:(al y).length≤k):(al (x+y)).length≤k+1:=by
 refine iZ.2 ?_
 have h1:=iZ.1 hx
 have h2:=iZ.1 hy
 have h3:B^k*2≤B^k*B:=Nat.mul_le_mul_left _ (by decide)
 rw[Nat.pow_succ];omega
end Go.aq
namespace Go.aq
open Go.Proofs Num
theorem aeY{H:Heap}{u v:Value}{x y:Nat}(hx:dr H u x)(hy:dr H v y)(hm:((al x).length:Int)≤35184372088832):Fn Tryz.prog 111 #[u,v] H (j5 H (.int .i64 (kr x y))):=by
 obtain⟨A,c,rfl,hc,hr⟩:=hx
 obtain⟨A',c',rfl,jw,dR⟩:=hy
 exact U3 hr dR hm
theorem Vt{H:Heap}{u:Value}{x:Nat}(hx:dr H u x):Fn Tryz.prog 151 #[u] H (j5 H (.bool (decide (x=1)))):=by
 obtain⟨A,c,rfl,hc,hr⟩:=hx
 exact aej hr
theorem Vu{H:Heap}{u:Value}{l:List Nat}(hu:jz H u l)(Ba:∀x,x∈l→x<4294967296)(hm:(l.length:Int)≤8796093022208):Fn Tryz.prog 108 #[u] H (mS H (val l)):=by
 obtain⟨A,c,rfl,hc,hr⟩:=hu
 exact aek Ba hr hm
theorem tE{H:Heap}{v:Value}{q:Rat}{N:Nat}(hv:cT H v q N)(hN:(N:Int)≤4398046511104):
 Fn Tryz.prog 64 #[v] H (Kx H q (N+1)):=by
 obtain⟨f,u,w,l1,l2,rfl,hu,hw,h1,h2,bx,cD,rfl⟩:=hv;refine aZ (args:=[_]) Tryz.func64 rfl rfl Tryz.ntmps64 rfl rfl fun w0=> ?_;refine ah [0] rfl ?_;refine ae (bY rfl rfl (bh jY rfl (ab [1,2] ?_)));refine bM .bJ [0,1,3,4,2,5,6,7] follows (by kernel_rfl) ?_;refine aa 4 rfl (aY rfl rfl (Vu hu h1 (by omega)) (fun _ _ h=>h.le) ?_);intro v1 H1 fg;refine aY rfl rfl (Vu (hw.le fg.le) h2 (by omega)) (fun _ _ h=>h.le) ?_;intro v2 H2 dK;obtain⟨B1,b1,rfl,dY,aeZ⟩:=fg.nat.le dK.le;obtain⟨B2,b2,rfl,de,Gb⟩:=dK.nat;have fU:=fg.le.trans dK.le;have nF:=Dt h1;have pG:=Dt h2;refine aa 2 rfl (ab [1,2,3,4] ?_);refine ao ?_
 by_cases jn:(al (val l1)).length=0
 ·
  skip
  refine ae (aa 2 rfl (aG true rfl rfl (iL (by omega)) (aa 5 rfl (ab [1,2,3,4,18] ?_))));refine cK rfl (ae (cI Tryz.underlying98 eH rfl rfl rfl rfl rfl rfl rfl ?_));intro gb aV;refine cL ag rfl jY rfl rfl ?_;obtain⟨ti,aj,ak⟩:=iY;refine aH (.inl ⟨rfl,rfl⟩) rfl rfl rfl aj ak rfl rfl rfl (ab [2] ?_);obtain⟨bP,aL,aM⟩:=iY;refine aB ⟨.inr rfl,_,.agg rfl Tryz.underlying100 aL aM (.nil),?_⟩;exact⟨fU.trans (Heap.bG _ aV),false,0,1,⟨_,_,rfl,wG _,yW⟩,by decide,by rw[jL.1 jn,wL,wL],by rw[qk];simp,by rw[vt];simp⟩
 ·
  skip
  refine ae (aa 2 rfl (aG false rfl rfl (ks (by omega)) (aa 5 rfl (ab [1,2,3,4,18] ?_))));refine aD rfl (fun hb=> ?_) (fun hb=> ?_)
  ·
   have hb:(al (val l2)).length=0:=by simpa using hb
   refine ae (cI Tryz.underlying98 eH rfl rfl rfl rfl rfl rfl rfl ?_);intro gb aV;refine cL ag rfl jY rfl rfl ?_;obtain⟨ti,aj,ak⟩:=iY;refine aH (.inl ⟨rfl,rfl⟩) rfl rfl rfl aj ak rfl rfl rfl (ab [2] ?_);obtain⟨bP,aL,aM⟩:=iY;refine aB ⟨.inr rfl,_,.agg rfl Tryz.underlying100 aL aM (.nil),?_⟩;exact⟨fU.trans (Heap.bG _ aV),false,0,1,⟨_,_,rfl,wG _,yW⟩,by decide,by rw[jL.1 hb,Kv,wL],by rw[qk];simp,by rw[vt];simp⟩
  have hb:(al (val l2)).length≠0:=by simpa using hb
  refine az (ah [1,2,3,4] rfl ?_);refine ae (aa 4 rfl (cL ag rfl jY rfl rfl ?_));obtain⟨ti,aj,ak⟩:=iY;refine aH (.inl ⟨rfl,rfl⟩) rfl rfl rfl aj ak rfl rfl rfl (ab [2] ?_);obtain⟨bP,aL,aM⟩:=iY;refine aB ⟨.inr rfl,_,.agg rfl Tryz.underlying100 aL aM (.nil),?_⟩;exact⟨fU,f,val l1,val l2,⟨_,_,rfl,⟨B1,b1,rfl,dY,aeZ⟩,⟨B2,b2,rfl,de,Gb⟩⟩,Nat.pos_of_ne_zero (fun e=>hb (jL.2 e)),rfl,by omega,by omega⟩
theorem ae0{H:Heap}{v:Value}{f:Bool}{n d:Nat}(hv:rQ H v f n d)(hd:0<d)(dt:((al n).length:Int)<8796093022208)(fc:((al d).length:Int)<8796093022208):
 Fn Tryz.prog 113 #[v] H (j0 H (cS f n d)):=by
 obtain⟨u,w,rfl,hu,hw⟩:=hv
 obtain⟨A,c,rfl,hc,hr⟩:=id hu
 obtain⟨A2,c2,rfl,mU,kQ⟩:=id hw;refine aZ (args:=[_]) Tryz.func113 rfl rfl Tryz.ntmps113 rfl rfl fun w0=> ?_;refine ah [0] rfl ?_;refine ae (bY rfl rfl (bh jY rfl (ab [1,2] ?_)));refine ao (ae (aa 4 rfl (ab [1,2,11] ?_)));refine aD rfl (fun hb=> ?_) (fun hb=> ?_)
 ·
  have hb:n=0:=jL.1 (by simpa using hb);subst hb;refine ae (cI Tryz.underlying98 eH rfl rfl rfl rfl rfl rfl rfl ?_);intro gb aV;refine cL ag rfl jY rfl rfl ?_;obtain⟨ti,aj,ak⟩:=iY;refine aH (.inl ⟨rfl,rfl⟩) rfl rfl rfl aj ak rfl rfl rfl (ab [2] ?_);obtain⟨bP,aL,aM⟩:=iY;refine aB ⟨.inr rfl,_,.agg rfl Tryz.underlying100 aL aM (.nil),?_⟩;exact⟨Heap.bG _ aV,by rw[wL];exact⟨_,_,rfl,wG _,yW⟩⟩
 ·
  have jn:0<n:=Nat.pos_of_ne_zero fun e=>by rw[jL.2 e]at hb;simp at hb
  refine az (ah [1,2] rfl ?_);refine ao (ae (aa 2 rfl (aC rfl rfl (Vt hw) ?_)));rintro v1 H1 ⟨rfl,rfl⟩;refine ab [1,2,16] ?_;refine aD rfl (fun hb=> ?_) (fun hb=> ?_)
  ·
   have jZ:d=1:=by simpa using hb
   subst jZ;refine ae (vr 1 ?_);obtain⟨ti,aj,ak⟩:=iY;refine aH (.inl ⟨rfl,rfl⟩) rfl rfl rfl aj ak rfl rfl rfl (ab [2] ?_);obtain⟨bP,aL,aM⟩:=iY;refine aB ⟨.inr rfl,_,.agg rfl Tryz.underlying100 aL aM (.nil),?_⟩;refine⟨.refl _,?_⟩
   unfold bH
   rw[F8 hd jn,Ds hd,Bj hd,Nat.gcd_one_right,Nat.div_one,Nat.div_one];exact⟨_,_,rfl,hu,hw⟩
  skip
  refine az (ah [1,2] rfl ?_);refine ae (aa 4 rfl (aC rfl rfl (aeU hu hw dt fc) ?_));rintro v1 H2 hp;obtain⟨v1,rfl⟩:∃x,x=v1:=⟨_,rfl⟩;have qf:0<Nat.gcd n d:=Nat.gcd_pos_of_pos_left _ jn;refine aa 1 rfl (ab [1,2,3] ?_);refine ao (ae (aa 1 rfl (aC rfl rfl (Vt hp.nat) ?_)));rintro v2 H3 ⟨rfl,rfl⟩;refine ab [1,2,3,24] ?_;refine aD rfl (fun hb=> ?_) (fun hb=> ?_)
  ·
   have mT:Nat.gcd n d=1:=by simpa using hb
   refine ae (vr 1 ?_);obtain⟨ti,aj,ak⟩:=iY;refine aH (.inl ⟨rfl,rfl⟩) rfl rfl rfl aj ak rfl rfl rfl (ab [2] ?_);obtain⟨bP,aL,aM⟩:=iY;refine aB ⟨.inr rfl,_,.agg rfl Tryz.underlying100 aL aM (.nil),?_⟩;refine⟨hp.le,?_⟩
   unfold bH
   rw[F8 hd jn,Ds hd,Bj hd,mT,Nat.div_one,Nat.div_one];exact⟨_,_,rfl,hu.le hp.le,hw.le hp.le⟩
  skip
  refine az (ah [1,2,3] rfl ?_);refine ae (aa 3 rfl (aC rfl rfl (Kr (hu.le hp.le) hp.nat qf dt) ?_));rintro v2 H4 ⟨ku,q1,r1,rfl,b8,px⟩;refine aa 5 rfl (ab [1,2,3,4] ?_);refine ae (aa 3 rfl (aC rfl rfl (Kr (hw.le (hp.le.trans ku)) (hp.nat.le ku) qf fc) ?_));rintro v2 H5 ⟨iM,q2,r2,rfl,bU,nD⟩;obtain⟨A3,c3,rfl,rR,qu⟩:=b8.le iM;obtain⟨A4,c4,rfl,oB,rS⟩:=id bU;refine aa 5 rfl (ab [1,2,4,6] ?_);refine ae (aa 4 rfl (cL ag rfl jY rfl rfl ?_));obtain⟨ti,aj,ak⟩:=iY;refine aH (.inl ⟨rfl,rfl⟩) rfl rfl rfl aj ak rfl rfl rfl (ab [2] ?_);obtain⟨bP,aL,aM⟩:=iY;refine aB ⟨.inr rfl,_,.agg rfl Tryz.underlying100 aL aM (.nil),?_⟩;refine⟨(hp.le.trans ku).trans iM,?_⟩
  unfold bH
  rw[F8 hd jn,Ds hd,Bj hd];exact⟨_,_,rfl,⟨A3,c3,rfl,rR,qu⟩,bU⟩
theorem yX{H:Heap}{v:Value}{f:Bool}{n d:Nat}(hv:rQ H v f n d)(hd:0<d)(dt:((al n).length:Int)<8796093022208)(fc:((al d).length:Int)<8796093022208):
 Fn Tryz.prog 66 #[v] H (j0 H (cS f n d)):=by
 obtain⟨u,w,rfl,hu,hw⟩:=id hv;refine aZ (args:=[_]) Tryz.func66 rfl rfl Tryz.ntmps66 rfl rfl fun w0=> ?_;refine ah [0] rfl ?_;refine ae (bY rfl rfl (bh bQ rfl (ab [1,2] ?_)));refine ae (aa 1 rfl (aC rfl rfl (ae0 hv hd dt fc) ?_));rintro v1 H1 ⟨hle,u1,w1,rfl,eR,gi⟩;obtain⟨A,c,rfl,hc,hr⟩:=id eR;obtain⟨A2,c2,rfl,mU,kQ⟩:=id gi;refine bh jY rfl ?_;obtain⟨ti,aj,ak⟩:=iY;refine aH (.inl ⟨rfl,rfl⟩) rfl rfl rfl aj ak rfl rfl rfl (ab [2,3] ?_);refine ae (aa 6 rfl (cL ag rfl bQ rfl rfl ?_));obtain⟨ti,aj,ak⟩:=aU;refine aH (.inl ⟨rfl,rfl⟩) rfl rfl rfl aj ak rfl rfl rfl (ab [2] ?_);obtain⟨bP,aL,aM⟩:=aU;refine aB ⟨.inr rfl,_,.agg rfl Tryz.underlying38 aL aM (.nil),?_⟩;exact⟨hle,_,_,rfl,eR,gi⟩
theorem ae1{H:Heap}{v:Value}{f:Bool}{n d:Nat}(hv:rQ H v f n d)(hd:0<d):
 Fn Tryz.prog 80 #[v] H (j5 H (.int .i64 (fI (cS f n d)))):=by
 obtain⟨u,w,rfl,hu,hw⟩:=id hv
 obtain⟨A,c,rfl,hc,hr⟩:=id hu;refine aZ (args:=[_]) Tryz.func80 rfl rfl Tryz.ntmps80 rfl rfl fun w0=> ?_;refine ah [0] rfl ?_;refine ae (bY rfl rfl (aa 1 rfl (ab [1] ?_)));refine ao (aE (ae (aa 5 rfl (ab [1,3] ?_))));refine aD rfl (fun hb=> ?_) (fun hb=> ?_)
 ·
  have hb:n=0:=jL.1 (by simpa using hb);refine ae (aa 1 rfl (ab [2] ?_));refine aB ⟨.inr rfl,_,.tmp rfl (.nil),?_⟩;exact⟨rfl,by rw[Kw hd,if_pos hb];rfl⟩
 ·
  have jn:n≠0:=fun e=>by rw[jL.2 e]at hb;simp at hb
  refine ae (aa 3 rfl (ab [8] ?_));refine aD rfl (fun hb=> ?_) (fun hb=> ?_)
  ·
   subst hb;refine ae (aa 1 rfl (ab [2] ?_));refine aB ⟨.inr rfl,_,.tmp rfl (.nil),?_⟩;exact⟨rfl,by rw[Kw hd,if_neg jn];rfl⟩
  subst hb;refine az (ah [] rfl ?_);refine ae (aa 1 rfl (ab [2] ?_));refine aB ⟨.inr rfl,_,.tmp rfl (.nil),?_⟩;exact⟨rfl,by rw[Kw hd,if_neg jn];rfl⟩
end Go.aq
namespace Go.aq
open Go.Proofs Num
theorem wrap_u64(n:Int):IntKind.u64.wrap n=n%18446744073709551616:=rfl
theorem Vv{x y:Nat}:(0≤kr x y)↔y≤x:=by
 unfold kr;split
 ·omega
 ·split <;> omega
theorem Vw{H:Heap}{u v:Value}{f g:Bool}{n d m e K:Nat}(hf:rQ H u f n d)(hg:rQ H v g m e)(hd:0<d)(he:0<e)(h1:(al n).length≤K)(h2:(al d).length≤K)(h3:(al m).length≤K)(h4:(al e).length≤K)(hK:(K:Int)≤2199023255552):
 Fn Tryz.prog 65 #[u,v] H (Kx H (cS f n d+cS g m e) (2*K+1)):=by
 obtain⟨un,ud,rfl,pI,Vx⟩:=id hf
 obtain⟨vm,ve,rfl,hvm,Vy⟩:=id hg
 have rT:=oA n e
 have jo:=oA m d
 have OO:=oA d e
 have Ky:=Nat.mul_pos hd he
 have qq:=Vs (x:=n*e) (y:=m*d) (k:=2*K) (by omega) (by omega);refine aZ (args:=[_,_]) Tryz.func65 rfl rfl Tryz.ntmps65 rfl rfl fun w0=> ?_;refine ah [0,1] rfl ?_;refine ae (bY rfl rfl (bY rfl rfl (bh jY rfl (ab [2,3,4] ?_))));refine bM .bJ [0,1,2,3,5,6,7,8,4,9,10,11] follows (by kernel_rfl) ?_;refine aa 8 rfl (aY rfl rfl (Bc pI Vy (by omega) (by omega)) (fun _ _ h=>h.le) ?_);intro v1 H1 fg;refine aY rfl rfl (Bc (hvm.le fg.le) (Vx.le fg.le) (by omega) (by omega)) (fun _ _ h=>h.le) ?_;intro v2 H2 dK;refine aa 2 rfl (ab [2,3,4,5,6] ?_);refine ae (aa 4 rfl (aC rfl rfl (Bc (Vx.le (fg.le.trans dK.le)) (Vy.le (fg.le.trans dK.le)) (by omega) (by omega)) ?_));intro v3 H3 ef;have gH:=(fg.le.trans dK.le).trans ef.le;have dt:=fg.nat.le (dK.le.trans ef.le);have gQ:=dK.nat.le ef.le;have jN:=ef.nat;obtain⟨OP,OQ,rfl,OR,OS⟩:=id dt;obtain⟨Vz,VA,rfl,VB,VD⟩:=id gQ;obtain⟨OT,OU,rfl,OV,Kz⟩:=id jN;refine aa 1 rfl (ab [2,3,4,5,6,7] ?_);refine ao (ae (aa 4 rfl (UJ Tryz.underlying4 rfl rfl (ab [2,3,4,5,6,7,27] ?_))));refine aD rfl (fun hb=> ?_) (fun hb=> ?_)
 ·
  have qt:f=g:=by simpa using hb
  subst qt;refine bM .bJ [0,1,2,3,5,4,6,7] follows (by kernel_rfl) ?_;refine aa 5 rfl (aY rfl rfl (aem dt gQ (by omega) (by omega)) (fun _ _ h=>h.le) ?_);intro v4 H4 fJ;have mh:=fJ.nat;obtain⟨KA,KB,rfl,KC,KD⟩:=id mh;refine cL ag rfl jY rfl rfl ?_;obtain⟨ti,aj,ak⟩:=iY;refine aH (.inl ⟨rfl,rfl⟩) rfl rfl rfl aj ak rfl rfl rfl (ab [4] ?_);obtain⟨bP,aL,aM⟩:=iY;refine aB ⟨.inr rfl,_,.agg rfl Tryz.underlying100 aL aM (.nil),?_⟩;exact⟨gH.trans fJ.le,f,n*e+m*d,d*e,⟨_,_,rfl,mh,jN.le fJ.le⟩,Ky,(Vo f hd he).symm,by omega,by omega⟩
 ·
  have qt:f≠g:=by simpa using hb
  refine az (ah [2,3,4,5,6,7] rfl ?_);refine ao (ae (aa 2 rfl (aC rfl rfl (aeY dt gQ (by omega)) ?_)));rintro v4 H4 ⟨rfl,rfl⟩;refine aa 1 rfl (ab [2,3,4,5,6,7,38] ?_);refine aD rfl (fun hb=> ?_) (fun hb=> ?_)
  ·
   have hb:m*d≤n*e:=Vv.1 (by simpa using hb);have lJ:=mc (Nat.sub_le (n*e) (m*d));refine bM .bJ [0,1,2,3,5,4,6,7] follows (by kernel_rfl) ?_;refine aa 5 rfl (aY rfl rfl (U5 dt gQ hb (by omega)) (fun _ _ h=>h.le) ?_);intro v4 H4 fJ;have mh:=fJ.nat;obtain⟨KA,KB,rfl,KC,KD⟩:=id mh;refine cL ag rfl jY rfl rfl ?_;obtain⟨ti,aj,ak⟩:=iY;refine aH (.inl ⟨rfl,rfl⟩) rfl rfl rfl aj ak rfl rfl rfl (ab [4] ?_);obtain⟨bP,aL,aM⟩:=iY;refine aB ⟨.inr rfl,_,.agg rfl Tryz.underlying100 aL aM (.nil),?_⟩;exact⟨gH.trans fJ.le,f,n*e-m*d,d*e,⟨_,_,rfl,mh,jN.le fJ.le⟩,Ky,(OK qt hd he hb).symm,by omega,by omega⟩
  have hb:¬m*d≤n*e:=fun h=>by have:=Vv.2 h;simp at hb;omega
  have hb:n*e≤m*d:=by omega
  have lJ:=mc (Nat.sub_le (m*d) (n*e));refine az (ah [3,4,5,6,7] rfl ?_);refine bM .bJ [0,1,2,3,5,4,6,7] follows (by kernel_rfl) ?_;refine aa 5 rfl (aY rfl rfl (U5 gQ dt hb (by omega)) (fun _ _ h=>h.le) ?_);intro v4 H4 fJ;have mh:=fJ.nat;obtain⟨KA,KB,rfl,KC,KD⟩:=id mh;refine cL ag rfl jY rfl rfl ?_;obtain⟨ti,aj,ak⟩:=iY;refine aH (.inl ⟨rfl,rfl⟩) rfl rfl rfl aj ak rfl rfl rfl (ab [4] ?_);obtain⟨bP,aL,aM⟩:=iY;refine aB ⟨.inr rfl,_,.agg rfl Tryz.underlying100 aL aM (.nil),?_⟩;exact⟨gH.trans fJ.le,g,m*d-n*e,d*e,⟨_,_,rfl,mh,jN.le fJ.le⟩,Ky,(Vp qt hd he hb).symm,by omega,by omega⟩
theorem OW{H:Heap}{n:Int}(h1: -9223372036854775808≤n)(h2:n≤9223372036854775807):
 Fn Tryz.prog 67 #[.int .i64 n] H (mS H n.natAbs):=by
 refine aZ (args:=[_]) Tryz.func67 rfl rfl Tryz.ntmps67 rfl rfl fun w0=> ?_;refine ah [0] rfl ?_;refine ae (aa 1 rfl (ab [0] ?_));refine ao (ae (aa 2 rfl (ab [0,4] ?_)));refine aD rfl (fun hb=> ?_) (fun hb=> ?_)
 ·
  have hb:n<0:=by simpa using hb
  refine ae (aa 1 rfl (UI ag rfl rfl rfl (acV rfl ?_)));rw[show IntKind.u64.wrap (-IntKind.u64.wrap n)=((n.natAbs:Nat):Int) by rw[wrap_u64,wrap_u64];omega];refine aC rfl rfl (Kk (by omega)) ?_;intro v1 H1 hp;refine aa 1 rfl (ab [2] ?_);refine aB ⟨.inr rfl,_,.tmp rfl (.nil),?_⟩;exact hp
 ·
  have hb:0≤n:=by simpa using hb
  refine az (ah [0] rfl ?_);refine ae (aa 1 rfl (UI ag rfl rfl rfl ?_));rw[show IntKind.u64.wrap n=((n.natAbs:Nat):Int) by rw[wrap_u64];omega];refine aC rfl rfl (Kk (by omega)) ?_;intro v1 H1 hp;refine aa 1 rfl (ab [2] ?_);refine aB ⟨.inr rfl,_,.tmp rfl (.nil),?_⟩;exact hp
theorem vu{H:Heap}{n:Int}(h1: -9223372036854775808≤n)(h2:n≤9223372036854775807):
 Fn Tryz.prog 35 #[.int .i64 n] H (j0 H (n:Rat)):=by
 have eF:(al n.natAbs).length≤3:=iZ.2 (by rw[cg];omega);refine aZ (args:=[_]) Tryz.func35 rfl rfl Tryz.ntmps35 rfl rfl fun w0=> ?_;refine ah [0] rfl ?_;refine ae (bh bQ rfl (ab [0,2] ?_));refine ae (aa 3 rfl (aC rfl rfl (OW h1 h2) ?_));intro v1 H1 hp;have dt:=hp.nat;obtain⟨OP,OQ,rfl,OR,OS⟩:=id dt;refine cI Tryz.underlying98 eH rfl rfl rfl rfl rfl rfl rfl ?_;intro gb aV;refine cL ag rfl jY rfl rfl (aC rfl rfl (yX (f:=decide (n<0)) (n:=n.natAbs) (d:=1) ⟨_,_,rfl,dt.le (Heap.bG _ aV),yW⟩ (by decide) (by omega) (by rw[vt];decide)) ?_);rintro v1 H2 ⟨hle,hq⟩;rw[Ga]at hq;obtain⟨u1,w1,rfl,eR,gi⟩:=id hq;obtain⟨mj,ml,rfl,mm,mo⟩:=id eR;obtain⟨Du,Dv,rfl,Dw,Dx⟩:=id gi;obtain⟨ti,aj,ak⟩:=aU;refine aH (.inl ⟨rfl,rfl⟩) rfl rfl rfl aj ak rfl rfl rfl (ab [2] ?_);obtain⟨bP,aL,aM⟩:=aU;refine aB ⟨.inr rfl,_,.agg rfl Tryz.underlying38 aL aM (.nil),?_⟩;exact⟨(hp.le.trans (Heap.bG _ aV)).trans hle,hq⟩
theorem VE{H:Heap}{a b:Int}(h1: -9223372036854775808≤a)(h2:a≤9223372036854775807)(h3: -9223372036854775808≤b)(h4:b≤9223372036854775807):
 Fn Tryz.prog 134 #[.int .i64 a,.int .i64 b] H (j0 H ((a:Rat)/(b:Rat))):=by
 have eF:(al a.natAbs).length≤3:=iZ.2 (by rw[cg];omega)
 have cM:(al b.natAbs).length≤3:=iZ.2 (by rw[cg];omega);refine aZ (args:=[_,_]) Tryz.func134 rfl rfl Tryz.ntmps134 rfl rfl fun w0=> ?_;refine ah [0,1] rfl ?_;refine ae (bh bQ rfl (ab [0,1,4] ?_));refine ao (ae (aa 2 rfl (ab [0,1,4,6] ?_)));refine aD rfl (fun hb=> ?_) (fun hb=> ?_)
 ·
  have hb:b=0:=by simpa using hb
  subst hb;refine ae (aC rfl rfl (vu (n:=0) (by decide) (by decide)) ?_);rintro v1 H2 ⟨hle,hq⟩;obtain⟨u1,w1,rfl,eR,gi⟩:=id hq;obtain⟨mj,ml,rfl,mm,mo⟩:=id eR;obtain⟨Du,Dv,rfl,Dw,Dx⟩:=id gi;obtain⟨ti,aj,ak⟩:=aU;refine aH (.inl ⟨rfl,rfl⟩) rfl rfl rfl aj ak rfl rfl rfl (ab [4] ?_);obtain⟨bP,aL,aM⟩:=aU;refine aB ⟨.inr rfl,_,.agg rfl Tryz.underlying38 aL aM (.nil),?_⟩;exact⟨hle,by rw[show (a:Rat)/((0:Int):Rat)=((0:Int):Rat) by simp[Rat.div_def]];exact hq⟩
 ·
  have hb:b≠0:=by simpa using hb
  refine az (ah [0,1,4] rfl ?_);refine ae (aa 4 rfl (FB Tryz.underlying4 rfl rfl (aa 1 rfl (aC rfl rfl (OW h1 h2) ?_))));intro v1 H1 fg;refine aa 1 rfl (aC rfl rfl (OW h3 h4) ?_);intro v2 H2 dK;have dt:=fg.nat.le dK.le;have gQ:=dK.nat;obtain⟨OP,OQ,rfl,OR,OS⟩:=id dt;obtain⟨Vz,VA,rfl,VB,VD⟩:=id gQ;refine cL ag rfl jY rfl rfl (aC rfl rfl (yX (f:=decide (a<0) != decide (b<0)) (n:=a.natAbs) (d:=b.natAbs) ⟨_,_,rfl,dt,gQ⟩ (by omega) (by omega) (by omega)) ?_);rintro v1 H3 ⟨hle,hq⟩;rw[Vr]at hq;obtain⟨u1,w1,rfl,eR,gi⟩:=id hq;obtain⟨mj,ml,rfl,mm,mo⟩:=id eR;obtain⟨Du,Dv,rfl,Dw,Dx⟩:=id gi;obtain⟨ti,aj,ak⟩:=aU;refine aH (.inl ⟨rfl,rfl⟩) rfl rfl rfl aj ak rfl rfl rfl (ab [4] ?_);obtain⟨bP,aL,aM⟩:=aU;refine aB ⟨.inr rfl,_,.agg rfl Tryz.underlying38 aL aM (.nil),?_⟩;exact⟨(fg.le.trans dK.le).trans hle,hq⟩
end Go.aq
namespace Go.aq
open Go.Proofs Num
theorem VF{H:Heap}{v:Value}{q:Rat}{N:Nat}(hv:cT H v q N)(hN:(N:Int)≤1099511627776):
 Fn Tryz.prog 133 #[v] H (j0 H q):=by
 obtain⟨bf,bu,bw,nG,nH,rfl,_⟩:=id hv;refine aZ (args:=[_]) Tryz.func133 rfl rfl Tryz.ntmps133 rfl rfl fun w0=> ?_;refine ah [0] rfl ?_;refine ae (bY rfl rfl (bh bQ rfl (ab [1,2] ?_)));refine ae (aa 1 rfl (aC rfl rfl (tE hv (by omega)) ?_));rintro v1 H1 ⟨fD,f1,n1,d1,mV,fc,rfl,bx,rT⟩;obtain⟨wO,wP,rfl,gF,gS⟩:=id mV;obtain⟨wQ,wR,rfl,wS,wT⟩:=id gF;obtain⟨wU,wV,rfl,wW,wX⟩:=id gS;refine aC rfl rfl (yX mV fc (by omega) (by omega)) ?_;rintro w2 G2 ⟨dP,bU⟩;obtain⟨u2,x2,rfl,fQ,eS⟩:=id bU;obtain⟨oC,oD,rfl,oE,oF⟩:=id fQ;obtain⟨oG,oH,rfl,oI,oJ⟩:=id eS;obtain⟨ti,aj,ak⟩:=aU;refine aH (.inl ⟨rfl,rfl⟩) rfl rfl rfl aj ak rfl rfl rfl (ab [2] ?_);obtain⟨bP,aL,aM⟩:=aU;refine aB ⟨.inr rfl,_,.agg rfl Tryz.underlying38 aL aM (.nil),?_⟩;exact⟨fD.trans dP,bU⟩
theorem Gc{H:Heap}{v:Value}{q:Rat}{N:Nat}(hv:cT H v q N)(hN:(N:Int)≤1099511627776):
 Fn Tryz.prog 44 #[v] H (fun v H'=>Heap.le H H'∧v = .int .i64 (fI q)):=by
 obtain⟨bf,bu,bw,nG,nH,rfl,_⟩:=id hv;refine aZ (args:=[_]) Tryz.func44 rfl rfl Tryz.ntmps44 rfl rfl fun w0=> ?_;refine ah [0] rfl ?_;refine ae (bY rfl rfl (aa 1 rfl (ab [1] ?_)));refine ae (aa 1 rfl (aC rfl rfl (tE hv (by omega)) ?_));rintro v1 H1 ⟨fD,f1,n1,d1,mV,fc,rfl,bx,rT⟩;obtain⟨wO,wP,rfl,gF,gS⟩:=id mV;obtain⟨wQ,wR,rfl,wS,wT⟩:=id gF;obtain⟨wU,wV,rfl,wW,wX⟩:=id gS;refine aC rfl rfl (ae1 mV fc) ?_;rintro v2 H2 ⟨rfl,rfl⟩;refine aa 1 rfl (ab [2] ?_);refine aB ⟨.inr rfl,_,.tmp rfl (.nil),?_⟩;exact⟨fD,rfl⟩
theorem ae2{H:Heap}{v:Value}{q:Rat}{N:Nat}(hv:cT H v q N)(hN:(N:Int)≤1099511627776):
 Fn Tryz.prog 131 #[v] H (j0 H (-q)):=by
 obtain⟨bf,bu,bw,nG,nH,rfl,_⟩:=id hv;refine aZ (args:=[_]) Tryz.func131 rfl rfl Tryz.ntmps131 rfl rfl fun w0=> ?_;refine ah [0] rfl ?_;refine ae (bY rfl rfl (bh bQ rfl (ab [1,2] ?_)));refine ae (aa 1 rfl (aC rfl rfl (tE hv (by omega)) ?_));rintro v1 H1 ⟨fD,f1,n1,d1,mV,fc,rfl,bx,rT⟩;obtain⟨wO,wP,rfl,gF,gS⟩:=id mV;obtain⟨wQ,wR,rfl,wS,wT⟩:=id gF;obtain⟨wU,wV,rfl,wW,wX⟩:=id gS;refine bh jY rfl ?_;obtain⟨ti,aj,ak⟩:=iY;refine aH (.inl ⟨rfl,rfl⟩) rfl rfl rfl aj ak rfl rfl rfl (ab [2,3] ?_);refine ae (vr 4 ?_);obtain⟨ti,aj,ak⟩:=Dd;refine aH (.inr rfl) rfl rfl rfl aj ak rfl rfl rfl (ab [2,3] ?_);refine ae (aa 1 rfl (aC rfl rfl (yX (f:= !f1) ⟨_,_,rfl,gF,gS⟩ fc (by omega) (by omega)) ?_));rintro w2 G2 ⟨dP,bU⟩;rw[←OL]at bU;obtain⟨u2,x2,rfl,fQ,eS⟩:=id bU;obtain⟨oC,oD,rfl,oE,oF⟩:=id fQ;obtain⟨oG,oH,rfl,oI,oJ⟩:=id eS;obtain⟨ti,aj,ak⟩:=aU;refine aH (.inl ⟨rfl,rfl⟩) rfl rfl rfl aj ak rfl rfl rfl (ab [2] ?_);obtain⟨bP,aL,aM⟩:=aU;refine aB ⟨.inr rfl,_,.agg rfl Tryz.underlying38 aL aM (.nil),?_⟩;exact⟨fD.trans dP,bU⟩
theorem OX{H:Heap}{v v2:Value}{q q2:Rat}{N:Nat}(hv:cT H v q N)(dT:cT H v2 q2 N)(hN:(N:Int)≤1099511627776):
 Fn Tryz.prog 34 #[v,v2] H (j0 H (q+q2)):=by
 obtain⟨bf,bu,bw,nG,nH,rfl,_⟩:=id hv
 obtain⟨cf,cu,cw,yY,yZ,rfl,_⟩:=id dT;refine aZ (args:=[_,_]) Tryz.func34 rfl rfl Tryz.ntmps34 rfl rfl fun w0=> ?_;refine ah [0,1] rfl ?_;refine ae (bY rfl rfl (bY rfl rfl (bh bQ rfl (ab [2,3,4] ?_))));refine bM .bJ [0,2,1,3,4,5,6] follows (by kernel_rfl) ?_;refine aa 2 rfl (aY rfl rfl (tE hv (by omega)) (fun _ _ h=>h.le) ?_);rintro v1 H1 ⟨fD,f1,n1,d1,mV,fc,rfl,bx,rT⟩;obtain⟨wO,wP,rfl,gF,gS⟩:=id mV;obtain⟨wQ,wR,rfl,wS,wT⟩:=id gF;obtain⟨wU,wV,rfl,wW,wX⟩:=id gS;refine aY rfl rfl (tE (dT.le fD) (by omega)) (fun _ _ h=>h.le) ?_;rintro v2 H2 ⟨fU,f2,n2,d2,y7,jZ,rfl,cD,jo⟩;obtain⟨Dy,Dz,rfl,lK,lk⟩:=id y7;obtain⟨Bk,Bl,rfl,DA,DB⟩:=id lK;obtain⟨Bm,Bn,rfl,DC,DD⟩:=id lk;refine aY rfl rfl (Vw (K:=N+1) (mV.le fU) y7 fc jZ bx rT cD jo (by omega)) (fun _ _ h=>h.le) ?_;rintro v3 H3 ⟨gH,f3,n3,d3,Gd,KE,KF,eF,OO⟩;obtain⟨un3,ud3,rfl,ae3,ae4⟩:=id Gd;refine aY rfl rfl (yX Gd KE (by omega) (by omega)) (fun _ _ h=>h.le) ?_;rintro w4 G4 ⟨kR,ct⟩;rw[KF]at ct;obtain⟨u4,x4,rfl,wY,lL⟩:=id ct;obtain⟨KG,KH,rfl,KI,KJ⟩:=id wY;obtain⟨DE,DF,rfl,DG,DH⟩:=id lL;obtain⟨ti,aj,ak⟩:=aU;refine aH (.inl ⟨rfl,rfl⟩) rfl rfl rfl aj ak rfl rfl rfl ?_
 refine ab [4] ?_;obtain⟨bP,aL,aM⟩:=aU;refine aB ⟨.inr rfl,_,.agg rfl Tryz.underlying38 aL aM (.nil),?_⟩;exact⟨((fD.trans fU).trans gH).trans kR,ct⟩
theorem OY{H:Heap}{v v2:Value}{q q2:Rat}{N:Nat}(hv:cT H v q N)(dT:cT H v2 q2 N)(hN:(N:Int)≤1099511627776):
 Fn Tryz.prog 119 #[v,v2] H (j0 H (q*q2)):=by
 obtain⟨bf,bu,bw,nG,nH,rfl,_⟩:=id hv
 obtain⟨cf,cu,cw,yY,yZ,rfl,_⟩:=id dT;refine aZ (args:=[_,_]) Tryz.func119 rfl rfl Tryz.ntmps119 rfl rfl fun w0=> ?_;refine ah [0,1] rfl ?_;refine ae (bY rfl rfl (bY rfl rfl (bh bQ rfl (ab [2,3,4] ?_))));refine bM .bJ [0,2,1,3,4,5,6,7] follows (by kernel_rfl) ?_;refine aa 2 rfl (aY rfl rfl (tE hv (by omega)) (fun _ _ h=>h.le) ?_);rintro v1 H1 ⟨fD,f1,n1,d1,mV,fc,rfl,bx,rT⟩;obtain⟨wO,wP,rfl,gF,gS⟩:=id mV;obtain⟨wQ,wR,rfl,wS,wT⟩:=id gF;obtain⟨wU,wV,rfl,wW,wX⟩:=id gS;refine aY rfl rfl (tE (dT.le fD) (by omega)) (fun _ _ h=>h.le) ?_;rintro v2 H2 ⟨fU,f2,n2,d2,y7,jZ,rfl,cD,jo⟩;obtain⟨Dy,Dz,rfl,lK,lk⟩:=id y7;obtain⟨Bk,Bl,rfl,DA,DB⟩:=id lK;obtain⟨Bm,Bn,rfl,DC,DD⟩:=id lk;have nF:=oA n1 n2;have pG:=oA d1 d2;refine bh jY rfl (bh jY rfl ?_);obtain⟨ti,aj,ak⟩:=iY;refine aH (.inl ⟨rfl,rfl⟩) rfl rfl rfl aj ak rfl rfl rfl ?_;obtain⟨ti,aj,ak⟩:=iY;refine aH (.inl ⟨rfl,rfl⟩) rfl rfl rfl aj ak rfl rfl rfl (ab [4,5,6] ?_);refine bM .bJ [0,1,2,3,4,5,6,7,8,10,11,12,13,9,14,15,16,17] follows (by kernel_rfl) ?_;refine aa 4 rfl (FB Tryz.underlying4 rfl rfl ?_)
 refine aa 8 rfl (aY rfl rfl (Bc (gF.le fU) lK (by omega) (by omega)) (fun _ _ h=>h.le) ?_);intro v3 H3 ef;refine aY rfl rfl (Bc (gS.le (fU.trans ef.le)) (lk.le ef.le) (by omega) (by omega)) (fun _ _ h=>h.le) ?_;intro v4 H4 fJ;have jN:=ef.nat.le fJ.le;have mh:=fJ.nat;obtain⟨OT,OU,rfl,OV,Kz⟩:=id jN;obtain⟨KA,KB,rfl,KC,KD⟩:=id mh;refine cL ag rfl jY rfl rfl (aY rfl rfl (yX (f:=f1 != f2) (n:=n1*n2) (d:=d1*d2) ⟨_,_,rfl,jN,mh⟩ (Nat.mul_pos fc jZ) (by omega) (by omega)) (fun _ _ h=>h.le) ?_);rintro w4 G4 ⟨kR,ct⟩;rw[←OM]at ct;obtain⟨u4,x4,rfl,wY,lL⟩:=id ct;obtain⟨KG,KH,rfl,KI,KJ⟩:=id wY;obtain⟨DE,DF,rfl,DG,DH⟩:=id lL;obtain⟨ti,aj,ak⟩:=aU;refine aH (.inl ⟨rfl,rfl⟩) rfl rfl rfl aj ak rfl rfl rfl (ab [4] ?_);obtain⟨bP,aL,aM⟩:=aU;refine aB ⟨.inr rfl,_,.agg rfl Tryz.underlying38 aL aM (.nil),?_⟩;exact⟨(((fD.trans fU).trans ef.le).trans fJ.le).trans kR,ct⟩
theorem VG{H:Heap}{v v2:Value}{q q2:Rat}{N:Nat}(hv:cT H v q N)(dT:cT H v2 q2 N)(hN:(N:Int)≤1099511627776):
 Fn Tryz.prog 156 #[v,v2] H (fun v H'=>Heap.le H H'∧∃r,v = .tuple #[r,.bool (decide (q2≠0))]∧bH H' r (q/q2)):=by
 obtain⟨bf,bu,bw,nG,nH,rfl,_⟩:=id hv
 obtain⟨cf,cu,cw,yY,yZ,rfl,_⟩:=id dT;refine aZ (args:=[_,_]) Tryz.func156 rfl rfl Tryz.ntmps156 rfl rfl fun w0=> ?_;refine ah [0,1] rfl ?_;refine ae (bY rfl rfl (bY rfl rfl (bh bQ rfl (aa 1 rfl (ab [2,3,4] ?_)))));refine bM .bJ [0,2,1,3,4,5,6,7] follows (by kernel_rfl) ?_;refine aa 2 rfl (aY rfl rfl (tE hv (by omega)) (fun _ _ h=>h.le) ?_);rintro v1 H1 ⟨fD,f1,n1,d1,mV,fc,rfl,bx,rT⟩;obtain⟨wO,wP,rfl,gF,gS⟩:=id mV;obtain⟨wQ,wR,rfl,wS,wT⟩:=id gF;obtain⟨wU,wV,rfl,wW,wX⟩:=id gS;refine aY rfl rfl (tE (dT.le fD) (by omega)) (fun _ _ h=>h.le) ?_;rintro v2 H2 ⟨fU,f2,n2,d2,y7,jZ,rfl,cD,jo⟩;obtain⟨Dy,Dz,rfl,lK,lk⟩:=id y7;obtain⟨Bk,Bl,rfl,DA,DB⟩:=id lK;obtain⟨Bm,Bn,rfl,DC,DD⟩:=id lk;have nF:=oA n1 d2;have pG:=oA d1 n2;refine bh jY rfl (bh jY rfl ?_);obtain⟨ti,aj,ak⟩:=iY;refine aH (.inl ⟨rfl,rfl⟩) rfl rfl rfl aj ak rfl rfl rfl ?_;obtain⟨ti,aj,ak⟩:=iY;refine aH (.inl ⟨rfl,rfl⟩) rfl rfl rfl aj ak rfl rfl rfl (ab [4,6,7] ?_);refine ao (ae (aa 4 rfl (ab [4,6,7,15] ?_)));refine aD rfl (fun hb=> ?_) (fun hb=> ?_)
 ·
  have hb:n2=0:=jL.1 (by simpa using hb);subst hb;refine ae (aC rfl rfl (vu (n:=0) (by decide) (by decide)) ?_);rintro w4 G4 ⟨kR,ct⟩;obtain⟨u4,x4,rfl,wY,lL⟩:=id ct;obtain⟨KG,KH,rfl,KI,KJ⟩:=id wY;obtain⟨DE,DF,rfl,DG,DH⟩:=id lL;obtain⟨ti,aj,ak⟩:=aU;refine aH (.inl ⟨rfl,rfl⟩) rfl rfl rfl aj ak rfl rfl rfl (aa 1 rfl (ab [4,5] ?_));obtain⟨bP,aL,aM⟩:=aU;refine aB ⟨.inr rfl,_,.agg rfl Tryz.underlying38 aL aM (.tmp rfl (.nil)),?_⟩;refine⟨(fD.trans fU).trans kR,_,?_,by rw[wL,Rat.div_def,Rat.inv_zero,Rat.mul_zero];exact ct⟩;rw[wL];rfl
 ·
  have jn:0<n2:=Nat.pos_of_ne_zero fun e=>by rw[jL.2 e]at hb;simp at hb
  refine az (ah [4,6,7] rfl ?_);refine bM .bJ [0,1,2,3,4,5,6,7,8,10,11,12,13,9,14,15,16,17,18] follows (by kernel_rfl) ?_;refine aa 4 rfl (FB Tryz.underlying4 rfl rfl (aa 8 rfl (aY rfl rfl (Bc (gF.le fU) lk (by omega) (by omega)) (fun _ _ h=>h.le) ?_)));intro v3 H3 ef;refine aY rfl rfl (Bc (gS.le (fU.trans ef.le)) (lK.le ef.le) (by omega) (by omega)) (fun _ _ h=>h.le) ?_;intro v4 H4 fJ;have jN:=ef.nat.le fJ.le;have mh:=fJ.nat;obtain⟨OT,OU,rfl,OV,Kz⟩:=id jN;obtain⟨KA,KB,rfl,KC,KD⟩:=id mh;refine cL ag rfl jY rfl rfl (aY rfl rfl (yX (f:=f1 != f2) (n:=n1*d2) (d:=d1*n2) ⟨_,_,rfl,jN,mh⟩ (Nat.mul_pos fc jn) (by omega) (by omega)) (fun _ _ h=>h.le) ?_);rintro w4 G4 ⟨kR,ct⟩;rw[←ON jn]at ct;obtain⟨u4,x4,rfl,wY,lL⟩:=id ct;obtain⟨KG,KH,rfl,KI,KJ⟩:=id wY;obtain⟨DE,DF,rfl,DG,DH⟩:=id lL;obtain⟨ti,aj,ak⟩:=aU;refine aH (.inl ⟨rfl,rfl⟩) rfl rfl rfl aj ak rfl rfl rfl (aa 1 rfl (ab [4,5] ?_));obtain⟨bP,aL,aM⟩:=aU;refine aB ⟨.inr rfl,_,.agg rfl Tryz.underlying38 aL aM (.tmp rfl (.nil)),?_⟩;refine⟨(((fD.trans fU).trans ef.le).trans fJ.le).trans kR,_,?_,ct⟩
  have bo:cS f2 n2 d2≠0:=fun e=>by rw[OJ jZ]at e;omega
  rw[show decide (cS f2 n2 d2≠0)=true from decide_eq_true bo];rfl
end Go.aq
namespace Go.aq
open Go
def rem(H:Heap)(gs:List Nat):Heap:=fun g=>if g∈gs then none else H g
theorem rem_in{H:Heap}{gs:List Nat}{g:Nat}(h:g∈gs):rem H gs g=none:=by simp[rem,h]
theorem bL{H:Heap}{gs:List Nat}{g:Nat}(h:¬g∈gs):rem H gs g=H g:=by simp[rem,h]
theorem qv(H:Heap):rem H []=H:=by funext g;simp[rem]
theorem bD(H:Heap)(gs:List Nat):Heap.le (rem H gs) H:=fun g e h=>by
 by_cases hg:g∈gs
 ·rw[rem_in hg]at h;cases h
 ·rw[bL hg]at h;exact⟨e,h,.refl e⟩
theorem pK{H H':Heap}(gs:List Nat)(h:Heap.le H H'):Heap.le (rem H gs) (rem H' gs):=fun g e he=>by
 by_cases hg:g∈gs
 ·rw[rem_in hg]at he;cases he
 ·rw[bL hg]at he⊢;exact h g e he
theorem cE{H:Heap}{gs:List Nat}{g:Nat}(e:Ent)(h:g∈gs):rem (ins H g e) gs=rem H gs:=by
 funext k
 by_cases hk:k∈gs
 ·rw[rem_in hk,rem_in hk]
 ·rw[bL hk,bL hk,bg _ _ (fun(e':k=g)=>hk (by rw[e'];exact h))]
theorem vw{H:Heap}{gs:List Nat}{g:Nat}(e:Ent)(h:¬g∈gs):rem (ins H g e) gs=ins (rem H gs) g e:=by
 funext k
 by_cases hk:k∈gs
 ·rw[rem_in hk,bg _ _ (fun(e':k=g)=>h (by rw[←e'];exact hk)),rem_in hk]
 ·rw[bL hk]
  unfold ins
  rw[bL hk]
theorem tF{H:Heap}{gs:List Nat}{g:Nat}(e:Ent)(h:H g=none):rem (ins H g e) (g::gs)=rem H gs:=by
 funext k
 by_cases hk:k=g
 ·subst hk
  rw[rem_in (List.mem_cons_self ..)]
  by_cases hg:k∈gs
  ·rw[rem_in hg]
  ·rw[bL hg,h]
 ·by_cases hg:k∈gs
  ·rw[rem_in hg,rem_in (List.mem_cons_of_mem _ hg)]
  ·rw[bL hg,bL (by simp[hk,hg]),bg _ _ hk]
theorem OZ(H:Heap)(g:Nat)(gs:List Nat):Heap.le (rem H (g::gs)) (rem H gs):=fun k e h=>by
 by_cases hk:k∈g::gs
 ·rw[rem_in hk]at h;cases h
 ·rw[bL hk]at h
  exact⟨e,by rw[bL (fun h'=>hk (List.mem_cons_of_mem _ h'))];exact h,.refl e⟩
theorem Den.rem{H:Heap}{w:World}(h:Den H w)(gs:List Nat):Den (rem H gs) w:=h.le (bD H gs)
structure qw(gs:List Nat)(bF:Value→Heap→Prop)(H:Heap)(v:Value)(H':Heap):Prop where
 post:bF v (rem H' gs)
 same:∀g,g∈gs→H' g=H g
theorem Fn.frame{P:Program}{f:FuncId}{args:Array Value}{H:Heap}{bF:Value→Heap→Prop}{gs:List Nat}(jB:∀g,g∈gs→H g≠none)(h:Fn P f args (rem H gs) bF):Fn P f args H (qw gs bF H):=by
 refine⟨h.ent,fun w hd=>(h.run w (hd.rem gs)).mono fun e w' ⟨v,he,K,hp,mL,hf⟩=>⟨v,he,fun g=>if g∈gs then H g else K g,?_,?_,?_⟩⟩
 ·have hk:∀g,g∈gs→K g=none:=fun g hg=>by
   cases hh:H g with
   | none=>exact absurd hh (jB g hg)
   | some e=>exact(hf.keep g (hd.lt hh) (rem_in hg)).2
  have e1:aq.rem (fun g=>if g∈gs then H g else K g) gs=K:=by
   funext g
   by_cases hg:g∈gs
   ·rw[rem_in hg,hk g hg]
   ·rw[bL hg];simp[hg]
  exact⟨by rw[e1];exact hp,fun g hg=>by simp[hg]⟩
 ·intro g e hg
  by_cases hm:g∈gs
  ·simp only[hm,if_true]at hg
   obtain⟨o,h1,h2⟩:=hd g e hg
   exact⟨o,by rw[(hf.keep g (hd.lt hg) (rem_in hm)).1];exact h1,h2⟩
  ·simp only[hm,if_false]at hg
   exact mL g e hg
 ·refine⟨hf.os,hf.tape,hf.output,hf.size,fun g hg h0=> ?_,hf.form⟩
  have hm:¬g∈gs:=fun hm=>jB g hm h0
  have h1:=hf.keep g hg (by rw[bL hm];exact h0)
  exact⟨h1.1,by simp only[hm,if_false];exact h1.2⟩
theorem qw.le{gs:List Nat}{bF:Value→Heap→Prop}{H H':Heap}{v:Value}(h:qw gs bF H v H')(hl:∀v K,bF v K→Heap.le (rem H gs) K):Heap.le H H':=fun g e hg=>by
 by_cases hm:g∈gs
 ·exact⟨e,by rw[h.same g hm];exact hg,.refl e⟩
 ·obtain⟨e',h1,h2⟩:=hl v _ h.post g e (by rw[bL hm];exact hg)
  rw[bL hm]at h1
  exact⟨e',h1,h2⟩
theorem App.rem{H H':Heap}{v v':Value}{e sz n:Nat}{xs:List Value}{gs:List Nat}(h:App H v e sz n xs v' H')(hg:∀g,g∈gs→H g≠none)(hv:∀g,g∈gs→v.ownBlock≠some g):
  App (aq.rem H gs) v e sz n xs v' (aq.rem H' gs)∧∀g,g∈gs→H' g=H g:=by
 have hs:∀g,g∈gs→H' g=H g:=fun g hm=>by
  cases hh:H g with
  | none=>exact absurd hh (hg g hm)
  | some ent=>exact h.same g ent hh (hv g hm)
 have Db:∀g,v'.ownBlock=some g→¬g∈gs:=fun g h1 hm=>by
  rcases h.at_ with h2 | ⟨g',h2,h3⟩
  ·exact hv g hm (h2▸h1)
  ·rw[h2]at h1
   cases h1
   exact hg _ hm h3
 refine⟨⟨h.own.same fun g h1=>bL (Db g h1),pK gs h.le,fun k ent hk bo=> ?_,?_⟩,hs⟩
 ·by_cases hm:k∈gs
  ·rw[rem_in hm]at hk;cases hk
  ·rw[bL hm]at hk⊢;exact h.same k ent hk bo
 ·rcases h.at_ with h2 | ⟨g',h2,h3⟩
  ·exact .inl h2
  ·refine .inr ⟨g',h2,?_⟩
   rw[bL (Db g' h2)];exact h3
section
variable {P:Program} {n:Nat} {tb:Tb} {all:Array Oper} {s:St} {H:Heap} {md:Mode} {K:St→Heap→Prop} {r:List Oper} {dst:Option Nat} {ty:TypeId} {pos:String} {after:Array Edge} {gd:Option (Nat×Bool)}
theorem VH{f:Operand}{iK:FuncId}{args:List Value}{xs:List Operand}{ts:Array TypeId}{bF:Value→Heap→Prop}(hf:ev s f=some (.func (.func iK) #[] #[]))(hx:qg s xs=some args)
  (h:Fn P iK args.toArray H bF) (hk:∀v H',bF v H'→aT P n all .uT r (bE s dst (.val v)) H' K) (hg:cn all s gd=some true:=by rfl) (nb:Mode.uT.nb s dst=true:=by rfl):aT P n all .uT (⟨dst,.call ⟨.value f,xs.toArray,ts⟩,ty,pos,after,gd⟩::r) s H K:=
 .iU bF (.inl FG) nb (FF (cap:=[]) hf hx hg (by simpa using h)) trivial fun v H' hp _=>hk v H' hp
theorem VI:∀(us:List Value)(A B:List Value)(p:Nat),(∀(i:Nat)(w:Value),A[i]? = some w→B[i]? = some w)→p+us.length≤A.length→∀(i:Nat)(w:Value),(aJ A p us)[i]? = some w→(aJ B p us)[i]? = some w:=by
 intro us
 induction us with
 | nil=>intro A B p h _ i w hw;exact h i w hw
 | cons x us ih=>
  intro A B p h hl i w hw
  simp only[List.length_cons]at hl
  refine ih (A.set p x) (B.set p x) (p+1) (fun i w hw=> ?_) (by simp;omega) i w hw
  by_cases e:i=p
  ·subst e
   have hA:i<A.length:=by omega
   have hB:i<B.length:=(List.getElem?_eq_some_iff.1 (h i _ (List.getElem?_eq_getElem hA))).1
   rw[List.getElem?_set_self hA]at hw
   rw[List.getElem?_set_self hB];exact hw
  ·rw[List.getElem?_set_ne (fun e'=>e e'.symm)]at hw⊢
   exact h i w hw
theorem j6{t:TypeId}{x y:Operand}{g o sz:Nat}{ent:Ent}{v:Value}{vs:List Value}{ii:TypeInfo}(eW:md = .plain∨md = .gB)(hx:ev s x=some (.pointer (some ⟨g,o,none⟩)))(hg:H g=some ent)(cC:ent.own=true)(lj:o+sz≤ent.xs.length)
  (wE:P.info? t=some ii) (cP:ii.size=sz) (hy:ev s y=some v) (hv:v.cells=vs.toArray) (jl:vs.length=sz) (h1:vs.all yH=true)
  (hk:aT P n all md r s (ins H g {ent with xs:=aJ ent.xs o vs}) K) (rI:cn all s gd=some true:=by rfl):aT P n all md (⟨none,.store t x y,ty,pos,after,gd⟩::r) s H K:=by
 refine .iU (fun _ H'=>H'=ins H g {ent with xs:=aJ ent.xs o vs}) (.inr (.inl rfl)) (by rcases eW with rfl | rfl <;> rfl) (fun a w ha hd=> ?_) (by rcases eW with rfl | rfl <;> first | trivial | exact .inl rfl) fun _ H' hH _=>by rw[hH];exact hk
 refine⟨jJ ha (lf (o:=⟨none,.store t x y,ty,pos,after,gd⟩) rI),?_⟩
 obtain⟨ob,h2,cur,fz,rfl,h3,h4,h5⟩:=hd g ent hg
 have pA:=h5 cC
 subst pA
 have FL:cur=cur.toList.toArray:=by simp
 have hlen:ent.xs.length≤cur.toList.length:=by
  rcases Nat.eq_zero_or_pos ent.xs.length with h | h
  ·omega
  ·have hx:=h4 (ent.xs.length-1) _ (List.getElem?_eq_getElem (by omega))
   have:=(Array.getElem?_eq_some_iff.1 hx).1
   simp;omega
 rw[FL]at h2
 obtain⟨w',h6,h7,h8,h9,gE,gZ,AV⟩:=JZ (P:=P) vs cur.toList w o 0 h2 (fun u hu=>List.all_eq_true.1 h1 u hu) (by omega)
 have hex:(execOp a.eval ⟨none,.store t x y,ty,pos,after,gd⟩).run P w = .ok .skip w':=by
  simp[execOp,bT ha hx,bT ha hy,Instr.storeAt,Instr.sureAddr,storeVar,sizeOf,typeInfo,wE,cP,hv,jl,h6]
 unfold lE
 rw[hex]
 refine⟨_,rfl,C8 (o:= .cells (aJ cur.toList (o+0) vs).toArray ent.elem (0,0)) hd h7 h8 h9 (by omega) (fun q _ hq=>gZ q hq) AV ⟨_,(0,0),rfl,?_,?_,fun _=>rfl⟩ (.inl ⟨_,hg,cC,cC,rfl,rfl⟩)⟩
 ·simp[FD,h3]
 ·intro q u hq
  have:=VI vs ent.xs cur.toList o (fun i w hw=>by have:=h4 i w hw;simpa using this) (by omega) q u hq
  simpa using this
end
end Go.aq
namespace Go.aq
open Go.Proofs Num
def fZ(xs:List Value)(i sz:Nat):List Value:=(xs.drop (i*sz)).take sz
theorem Ge{xs:List Value}{i sz q:Nat}{v:Value}(h:(fZ xs i sz)[q]? = some v):xs[i*sz+q]? = some v:=by
 unfold fZ at h
 rw[List.getElem?_take]at h
 split at h
 ·rwa [List.getElem?_drop]at h
 ·cases h
theorem ae5{xs:List Value}{i sz n:Nat}(h:xs.length=n*sz)(hi:i<n):(fZ xs i sz).length=sz:=by
 unfold fZ
 rw[List.length_take,List.length_drop,h]
 have:(i+1)*sz≤n*sz:=Nat.mul_le_mul_right _ hi
 rw[Nat.add_mul]at this
 omega
theorem O0{xs ys:List Value}{i sz:Nat}(h:∀q,q<sz→xs[i*sz+q]? = ys[i*sz+q]?):fZ xs i sz=fZ ys i sz:=by
 apply List.ext_getElem?
 intro q
 unfold fZ
 rw[List.getElem?_take,List.getElem?_take]
 split
 ·rename_i hq
  rw[List.getElem?_drop,List.getElem?_drop,h q hq]
 ·rfl
theorem O1{xs:List Value}{i:Nat}{v:Value}(h:xs[i]? = some v):fZ xs i 1 = [v]:=by
 apply List.ext_getElem?
 intro q
 unfold fZ
 rw[List.getElem?_take,Nat.mul_one]
 split
 ·rename_i hq
  obtain rfl:q=0:=by omega
  rw[List.getElem?_drop,Nat.add_zero,h];rfl
 ·rename_i hq
  rw[List.getElem?_eq_none (by simp;omega)]
structure bA{α:Type}(P:List Value→α→Prop)(sz:Nat)(xs:List Value)(l:List α):Prop where
 len:xs.length=l.length*sz
 at_:∀(i:Nat)(a:α),l[i]? = some a→P (fZ xs i sz) a
section
variable {α β:Type} {P:List Value→α→Prop} {sz:Nat} {xs ys:List Value} {l k:List α}
theorem bA.mono{P':List Value→α→Prop}(h:bA P sz xs l)(hp:∀vs a,P vs a→P' vs a):bA P' sz xs l:=⟨h.len,fun i a ha=>hp _ _ (h.at_ i a ha)⟩
theorem bA.get(h:bA P sz xs l){i:Nat}{a:α}(ha:l[i]? = some a):∃vs,vs.length=sz∧P vs a∧∀(q:Nat)(v:Value),vs[q]? = some v→xs[i*sz+q]? = some v:=
 ⟨fZ xs i sz,ae5 h.len (List.getElem?_eq_some_iff.1 ha).1,h.at_ i a ha,fun _ _ hv=>Ge hv⟩
theorem qx:bA P sz [] ([]:List α):=⟨by simp,fun i a h=>by simp at h⟩
theorem bA.append(h:bA P sz xs l)(h':bA P sz ys k):bA P sz (xs++ys) (l++k):=by
 refine⟨by rw[List.length_append,List.length_append,h.len,h'.len,Nat.add_mul],fun i a ha=> ?_⟩
 by_cases hi:i<l.length
 ·rw[List.getElem?_append_left hi]at ha
  have e:fZ (xs++ys) i sz=fZ xs i sz:=O0 fun q hq=>by
   have:(i+1)*sz≤l.length*sz:=Nat.mul_le_mul_right _ hi
   rw[Nat.add_mul]at this
   rw[List.getElem?_append_left (by rw[h.len];omega)]
  rw[e];exact h.at_ i a ha
 ·rw[List.getElem?_append_right (by omega)]at ha
  have e:fZ (xs++ys) i sz=fZ ys (i-l.length) sz:=by
   unfold fZ
   have e1:i*sz=xs.length+(i-l.length)*sz:=by
    rw[h.len,←Nat.add_mul];congr 1;omega
   rw[e1,List.drop_append,List.drop_eq_nil_of_le (by omega),List.nil_append]
   congr 2;omega
  rw[e];exact h'.at_ _ a ha
theorem iE{vs:List Value}{a:α}(h:P vs a)(hl:vs.length=sz):bA P sz vs [a]:=by
 refine⟨by simp[hl],fun i b hb=> ?_⟩
 cases i with
 | zero=>
  simp only[List.getElem?_cons_zero,Option.some.injEq]at hb
  subst hb
  unfold fZ
  rw[Nat.zero_mul,List.drop_zero,List.take_of_length_le (by omega)];exact h
 | succ i=>simp at hb
theorem O2:∀(vs xs:List Value)(off i:Nat),off+vs.length≤xs.length→(aJ xs off vs)[i]? = if off≤i∧i<off+vs.length then vs[i-off]? else xs[i]? :=by
 intro vs
 induction vs with
 | nil=>intro xs off i _;simp only[aJ,List.length_nil,Nat.add_zero];rw[if_neg (by omega)]
 | cons v vs ih=>
  intro xs off i h
  simp only[List.length_cons]at h
  simp only[aJ,List.length_cons]
  rw[ih _ _ _ (by simp;omega)]
  by_cases e:i=off
  ·subst e
   rw[if_neg (by omega),if_pos (by omega),Nat.sub_self,List.getElem?_set_self (by omega)];rfl
  ·by_cases e2:off+1≤i∧i<off+1+vs.length
   ·rw[if_pos e2,if_pos (by omega)]
    have:i-off=(i-(off+1))+1:=by omega
    rw[this];rfl
   ·rw[if_neg e2,if_neg (by omega),List.getElem?_set_ne (by omega)]
theorem bA.set(h:bA P sz xs l){i:Nat}(hi:i<l.length){vs:List Value}{a:α}(hp:P vs a)(hv:vs.length=sz):bA P sz (aJ xs (i*sz) vs) (l.set i a):=by
 have lj:(i+1)*sz≤l.length*sz:=Nat.mul_le_mul_right _ hi
 rw[Nat.add_mul,Nat.one_mul]at lj
 have hle:i*sz+vs.length≤xs.length:=by rw[h.len,hv];exact lj
 refine⟨by rw[FD,List.length_set];exact h.len,fun j b hb=> ?_⟩
 by_cases e:j=i
 ·subst e
  rw[List.getElem?_set_self hi]at hb
  cases hb
  have e:fZ (aJ xs (j*sz) vs) j sz=vs:=by
   apply List.ext_getElem?
   intro q
   unfold fZ
   rw[List.getElem?_take]
   split
   ·rename_i hq
    rw[List.getElem?_drop,O2 _ _ _ _ hle,if_pos (by omega)]
    congr 1;omega
   ·rw[List.getElem?_eq_none (by omega)]
  rw[e];exact hp
 ·rw[List.getElem?_set_ne (fun e'=>e e'.symm)]at hb
  have e:fZ (aJ xs (i*sz) vs) j sz=fZ xs j sz:=O0 fun q hq=>by
   rw[O2 _ _ _ _ hle,if_neg]
   intro⟨h1,h2⟩
   rw[hv]at h2
   rcases Nat.lt_or_gt_of_ne e with bX | Vh
   ·have:(j+1)*sz≤i*sz:=Nat.mul_le_mul_right _ bX
    rw[Nat.add_mul]at this;omega
   ·have:(i+1)*sz≤j*sz:=Nat.mul_le_mul_right _ Vh
    rw[Nat.add_mul]at this;omega
  rw[e];exact h.at_ j b hb
theorem KK{zs:List Value}{a:α}(hz:zs.length=sz)(hp:P zs a)(n:Nat):bA P sz (dd zs (n*sz)) (List.replicate n a):=by
 refine⟨by rw[UM,List.length_replicate],fun i b hb=> ?_⟩
 rw[List.getElem?_replicate]at hb
 split at hb
 ·rename_i hi
  cases hb
  have e:fZ (dd zs (n*sz)) i sz=zs:=by
   apply List.ext_getElem?
   intro q
   unfold fZ
   rw[List.getElem?_take]
   split
   ·rename_i hq
    rw[List.getElem?_drop,List.getElem?_eq_getElem (by omega:q<zs.length)]
    exact acJ hz hi (List.getElem?_eq_getElem (by omega))
   ·rw[List.getElem?_eq_none (by omega)]
  rw[e];exact hp
 ·cases hb
theorem bA.drop(h:bA P sz xs l)(n:Nat):bA P sz (xs.drop (n*sz)) (l.drop n):=by
 refine⟨by rw[List.length_drop,List.length_drop,h.len,Nat.sub_mul],fun i a ha=> ?_⟩
 rw[List.getElem?_drop]at ha
 have e:fZ (xs.drop (n*sz)) i sz=fZ xs (n+i) sz:=by
  unfold fZ
  rw[List.drop_drop,Nat.add_mul]
 rw[e];exact h.at_ _ a ha
theorem bA.take(h:bA P sz xs l){n:Nat}(hn:n≤l.length):bA P sz (xs.take (n*sz)) (l.take n):=by
 have hm:n*sz≤l.length*sz:=Nat.mul_le_mul_right _ hn
 refine⟨by rw[List.length_take,List.length_take,h.len,Nat.min_eq_left hn,Nat.min_eq_left hm],fun i a ha=> ?_⟩
 rw[List.getElem?_take]at ha
 split at ha
 ·rename_i hi
  have e:fZ (xs.take (n*sz)) i sz=fZ xs i sz:=O0 fun q hq=>by
   have:(i+1)*sz≤n*sz:=Nat.mul_le_mul_right _ hi
   rw[Nat.add_mul]at this
   rw[List.getElem?_take,if_pos (by omega)]
  rw[e];exact h.at_ _ a ha
 ·cases ha
theorem bA.one(h:bA P 1 xs l){i:Nat}{a:α}(ha:l[i]? = some a):∃v,xs[i]? = some v∧P [v] a:=by
 have bX:=(List.getElem?_eq_some_iff.1 ha).1
 have hi:i<xs.length:=by rw[h.len];omega
 refine⟨xs[i],List.getElem?_eq_getElem hi,?_⟩
 have:=h.at_ i a ha
 rwa [O1 (List.getElem?_eq_getElem hi)]at this
end
def aQ{α:Type}(P:Heap→List Value→α→Prop)(sz:Nat)(H:Heap)(v:Value)(l:List α):Prop:=∃A c xs,v = .slice A l.length c∧l.length≤c∧Rd H A xs∧bA (P H) sz xs l
def Up{α:Type}(P:Heap→List Value→α→Prop):Prop:=∀H H' vs a,Heap.le H H'→P H vs a→P H' vs a
section
variable {α:Type} {P:Heap→List Value→α→Prop} {sz:Nat} {H H':Heap} {v:Value} {l:List α}
theorem aQ.le(h:aQ P sz H v l)(up:Up P)(hl:Heap.le H H'):aQ P sz H' v l:=by
 obtain⟨A,c,xs,h1,h2,h3,h4⟩:=h
 exact⟨A,c,xs,h1,h2,h3.le hl,h4.mono fun vs a=>up H H' vs a hl⟩
theorem aQ.nil:aQ P sz H (.slice none 0 0) ([]:List α):=⟨none,0,[],rfl,Nat.le_refl _,Rd.nil _ _,qx⟩
def DI{α:Type}(P:Heap→List Value→α→Prop)(e sz:Nat)(H:Heap)(v:Value)(l:List α):Prop:=∃xs,bR H v e sz l.length xs∧bA (P H) sz xs l
theorem DI.sl{e:Nat}(h:DI P e sz H v l):aQ P sz H v l:=by
 obtain⟨xs,h1,h2⟩:=h
 obtain⟨A,c,rfl⟩:=h1.form
 refine⟨A,c,xs,rfl,?_,h1.rd,h2⟩
 rcases h1.2 with ⟨k1,k2⟩ | ⟨g,cap,k1,_,k3,_⟩
 ·omega
 ·cases k1;exact k3
end
def bS(H:Heap)(vs:List Value)(q:Rat):Prop:=
 ∃(n d:Int)(b:Option Addr),vs = [.int .i64 n,.int .i64 d,.pointer b]∧
  ((b=none∧n=q.num∧d=q.den∧-9223372036854775807≤n∧n≤9223372036854775807∧d≤9223372036854775807)∨
   ∃ad f u w,b=some ad∧bH H (.agg #[.bool f,u,w]) q∧cell H ad=some (.bool f)∧cell H (ad.add 1)=some u∧cell H (ad.add 2)=some w)
theorem bS.up:Up bS:=fun H H' vs q hl h=>by
 obtain⟨n,d,b,h1,h2⟩:=h
 refine⟨n,d,b,h1,?_⟩
 rcases h2 with h2 | ⟨ad,f,u,w,h2,h3,h4,h5,h6⟩
 ·exact .inl h2
 ·exact .inr ⟨ad,f,u,w,h2,h3.le hl,cB hl h4,cB hl h5,cB hl h6⟩
theorem bS.le{H H':Heap}{vs:List Value}{q:Rat}(h:bS H vs q)(hl:Heap.le H H'):bS H' vs q:=bS.up H H' vs q hl h
theorem bS.len{H:Heap}{vs:List Value}{q:Rat}(h:bS H vs q):vs.length=3:=by
 obtain⟨n,d,b,rfl,_⟩:=h;rfl
def tG(H:Heap)(q:Rat)(v:Value)(H':Heap):Prop:=Heap.le H H'∧∃vs,v = .agg vs.toArray∧bS H' vs q
theorem tG.le{H:Heap}{q:Rat}{v:Value}{H':Heap}(h:tG H q v H'):Heap.le H H':=h.1
theorem VJ(q:Rat):fI q=if q.num.natAbs=0 then 0 else if decide (q.num<0)then -1 else 1:=by
 have:=Kw (f:=decide (q.num<0)) (n:=q.num.natAbs) (d:=q.den) (Nat.pos_of_ne_zero q.den_nz)
 rwa [wN]at this
theorem KL{q:Rat}{k:Nat}:aN q≤k↔q.num.natAbs<B^k∧q.den<B^k:=by
 unfold aN
 rw[Nat.max_le,iZ,iZ]
theorem VK{q:Rat}{n:Int}{d k:Nat}(hd:0<d)(h:q=mkRat n d)(h1:n.natAbs<B^k)(h2:d<B^k):aN q≤k:=by
 obtain⟨m,hm,h3,h4⟩:=Rat.mkRat_num_den (n:=n) (d:=d) (by omega) (n':=q.num) (d':=q.den) (z':=q.den_nz) (c:=q.reduced) h.symm
 rw[KL]
 refine⟨?_,?_⟩
 ·rw[h3,Int.natAbs_mul,Int.natAbs_natCast]at h1
  exact Nat.lt_of_le_of_lt (Nat.le_mul_of_pos_right _ (by omega)) h1
 ·rw[h4]at h2
  exact Nat.lt_of_le_of_lt (Nat.le_mul_of_pos_right _ (by omega)) h2
theorem KM(q:Rat):q.num.natAbs<B^aN q∧q.den<B^aN q:=KL.1 (Nat.le_refl _)
theorem wZ(q:Rat):aN (-q)=aN q:=by unfold aN;rw[Rat.neg_num,Int.natAbs_neg,Rat.neg_den]
theorem vx(p q:Rat):aN (p*q)≤aN p+aN q:=by
 have h1:=KM p
 have h2:=KM q
 refine VK (n:=p.num*q.num) (d:=p.den*q.den) (Nat.mul_pos (Nat.pos_of_ne_zero p.den_nz) (Nat.pos_of_ne_zero q.den_nz)) ?_ ?_ ?_
 ·rw[←Rat.mkRat_mul_mkRat,Rat.mkRat_self,Rat.mkRat_self]
 ·rw[Int.natAbs_mul,Nat.pow_add];exact Nat.mul_lt_mul'' h1.1 h2.1
 ·rw[Nat.pow_add];exact Nat.mul_lt_mul'' h1.2 h2.2
theorem O3(p q:Rat):aN (p+q)≤aN p+aN q+1:=by
 have h1:=KM p
 have h2:=KM q
 have hp:=Nat.pos_of_ne_zero p.den_nz
 have hq:=Nat.pos_of_ne_zero q.den_nz
 have hB:2*(B^aN p*B^aN q)≤B^(aN p+aN q+1):=by
  rw[Nat.pow_succ,Nat.pow_add,Nat.mul_comm 2];exact Nat.mul_le_mul_left _ (by decide)
 refine VK (n:=p.num*q.den+q.num*p.den) (d:=p.den*q.den) (Nat.mul_pos hp hq) ?_ ?_ ?_
 ·rw[Rat.add_def']
 ·have h3:(p.num*q.den+q.num*p.den).natAbs≤p.num.natAbs*q.den+q.num.natAbs*p.den:=by
   have:=Int.natAbs_add_le (p.num*q.den) (q.num*p.den)
   rwa [Int.natAbs_mul,Int.natAbs_mul,Int.natAbs_natCast,Int.natAbs_natCast]at this
  have h4:=Nat.mul_lt_mul'' h1.1 h2.2
  have h5:=Nat.mul_lt_mul'' h2.1 h1.2
  rw[Nat.mul_comm (B^aN q)]at h5
  omega
 ·have h4:=Nat.mul_lt_mul'' h1.2 h2.2
  omega
theorem rU(p q:Rat):aN (p-q)≤aN p+aN q+1:=by
 rw[Rat.sub_eq_add_neg]
 have:=O3 p (-q)
 rwa [wZ]at this
end Go.aq
