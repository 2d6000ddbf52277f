/- Part 3 of the proof: Nat9, Nat10, Nat11, Q, RDat, Rat1, Rat2, Rat3, Eng12, SDat. -/
import Derived.Test.YtfjncmjbhfdnpaaGreatA02
set_option linter.unusedVariables false
namespace Go.ar
open Go.Proofs Num
theorem Ci(H:Heap)(g:Nat)(lo w hi:List Nat)(N:Nat):Rd (ins H g (dB (lo++w++hi) N)) (some ⟨g,lo.length,none⟩) (U w):=fun i v hv=>by
 refine⟨_,rfl,?_⟩
 have bU:i<(U w).length:=(List.getElem?_eq_some_iff.1 hv).1
 have e:(⟨g,lo.length,none⟩:Addr).add i=⟨g,lo.length+i,none⟩:=by
  unfold Addr.add;split
  ·rename_i e0;rw[e0,Nat.add_zero]
  ·rfl
 rw[e]
 simp only[cell,bo,dB]
 rw[IQ,IQ,List.append_assoc,List.getElem?_append_right (by rw[zv];omega),zv,Nat.add_sub_cancel_left,List.getElem?_append_left bU]
 exact hv
theorem I1{H:Heap}{g N k:Nat}{lo w hi:List Nat}{a:Int}{y:Nat}(h:a=y)(hk:k<w.length):ins (ins H g (dB (lo++w++hi) N)) g {dB (lo++w++hi) N with xs:=aI (dB (lo++w++hi) N).xs (lo.length+k*1) [.int .u32 a]}=ins H g (dB (lo++w.set k y++hi) N):=by
 subst h
 rw[pP]
 simp only[dB,aI,Nat.mul_one]
 congr 2
 rw[MO]
 congr 1
 rw[List.append_assoc,List.set_append_right _ _ (by omega),Nat.add_sub_cancel_left,List.set_append_left _ _ hk,List.append_assoc]
theorem MS{a b:List Nat}{i:Nat}(h:a.drop i=b.drop i):a[i]? = b[i]? :=by
 have:=congrArg (·[0]?) h
 simpa using this
theorem drop_set{a b:List Nat}{i y:Nat}(h:a.drop i=b.drop i):(a.set i y).drop (i+1)=b.drop (i+1):=by
 rw[List.drop_set_of_lt (Nat.lt_succ_self _)]
 have:=congrArg (List.drop 1) h
 simpa [List.drop_drop]using this
theorem ac2{H:Heap}{g N:Nat}{lo w hi b:List Nat}{c c' top:Nat}{A':Option Addr}(hg:H g=none)(hr:Rd H A' (U b))(oZ:w.length=b.length+1)(cS:2≤b.length)(y7:(b.length:Int)≤8796093022208)(xB:Lt w)(dU:Lt b)(Cg:b[b.length-1]? = some top)(MT:0<top)(hq:val w<B*val b):
 Fn Tryz.prog 225 #[.slice (some ⟨g,lo.length,none⟩) (b.length+1) c,.slice A' b.length c'] (ins H g (dB (lo++w++hi) N)) (fun v H'=>∃w',H'=ins H g (dB (lo++w'++hi) N)∧w'.length=w.length∧Lt w'∧val w'=val w%val b∧v = .int .u32 ((val w/val b:Nat):Int)):=by
 obtain⟨k,hk⟩:∃k,b.length=k+2:=⟨b.length-2,by omega⟩
 have ga:=fun e=>hr.le (Heap.bI (g:=g) e hg)
 have tR:((b.length:Int)-1).toNat=k+1:=by omega
 have vx:((b.length:Int)-2).toNat=k:=by omega
 rw[show b.length-1=k+1 by omega]at Cg
 obtain⟨next,Es⟩:∃x,b[k]? = some x:=⟨_,List.getElem?_eq_getElem (by omega)⟩
 obtain⟨u2,fm⟩:∃x,w[k]? = some x:=⟨_,List.getElem?_eq_getElem (by omega)⟩
 obtain⟨u1,eu⟩:∃x,w[k+1]? = some x:=⟨_,List.getElem?_eq_getElem (by omega)⟩
 obtain⟨un,o0⟩:∃x,w[b.length]? = some x:=⟨_,List.getElem?_eq_getElem (by omega)⟩
 have MU:=dU.get Cg
 have TB:=dU.get Es
 have ac3:=xB.get fm
 have ac4:=xB.get eu
 have ac5:=xB.get o0
 have hV:=acW hk Es Cg
 have hW:=acV (by omega) fm eu (by rw[←hk];exact o0)
 have jL:=Ch dU (k:=k) (by omega)
 have ac6:=Ch xB (k:=k) (by omega)
 have ac7:=acS hV hW jL TB hq
 have ac8:=tM dU
 have tS:0<val b:=by
  rcases Nat.eq_zero_or_pos (val b)with e | e
  ·rw[e,Nat.mul_zero]at hq;omega
  ·exact e
 have tT:val w/val b<B:=Nat.div_lt_of_lt_mul (by rwa [Nat.mul_comm]at hq)
 obtain⟨q,zC⟩:∃q,q=val w/val b:=⟨_,rfl⟩
 rw[←zC]at tT⊢
 have TC:val w=val (w.take b.length)+B^b.length*un:=by rw[←kD o0,List.take_of_length_le (by omega)]
 have hB:=bY
 rw[bY]at MU TB ac3 ac4 ac5;refine aZ (args:=[_,_]) Tryz.func225 rfl rfl Tryz.ntmps225 rfl rfl fun w0=> ?_;refine ag [0,1] rfl ?_;refine ab ?_;refine vr 1 ?_;refine aa [0,1] ?_;refine ab ?_;refine vr 3 ?_;refine aa [0,1,5] ?_;refine bJ .bF [0,1,2,3,4,5,6,7,8,9,10,11,12,13] follows (by kernel_rfl) ?_;refine vr 2 ?_;refine cP rfl rfl ⟨by omega,by omega⟩ ?_;refine aM ae rfl rfl rfl rfl rfl (ga _) (by rw[tR];exact dd Cg) (by omega) (by omega) fun _=> ?_;refine cW ae rfl rfl rfl ⟨by omega,by omega⟩ ?_;refine vr 2 ?_;refine cP rfl rfl ⟨by omega,by omega⟩ ?_;refine aM ae rfl rfl rfl rfl rfl (ga _) (by rw[vx];exact dd Es) (by omega) (by omega) fun _=> ?_;refine cW ae rfl rfl rfl ⟨by omega,by omega⟩ ?_;refine vr 2 ?_;refine aa [0,1,5,6,7] ?_;refine bJ .bF [0,1,2,3,4,5,6,7,8,9,10,11,12,13] follows (by kernel_rfl) ?_;refine vr 2 ?_;refine aM ae rfl rfl rfl rfl rfl (Ci _ _ _ _ _ _) (dd o0) (by omega) (by omega) fun _=> ?_;refine cW ae rfl rfl rfl ⟨by omega,by omega⟩ ?_;refine gq rfl rfl ⟨by omega,by omega⟩ ?_;refine vr 2 ?_;refine cP rfl rfl ⟨by omega,by omega⟩ ?_;refine aM ae rfl rfl rfl rfl rfl (Ci _ _ _ _ _ _) (by rw[tR];exact dd eu) (by omega) (by omega) fun _=> ?_
 refine cW ae rfl rfl rfl ⟨by omega,by omega⟩ ?_;refine aD rfl rfl ⟨by omega,by omega⟩ ?_;refine vr 1 ?_;refine aa [0,1,5,6,7,8] ?_;have nK:0≤((un:Int)*1000000000+(u1:Int))/(top:Int):=Int.ediv_nonneg (by omega) (by omega);have kG:((un:Int)*1000000000+(u1:Int))/(top:Int)≤(un:Int)*1000000000+(u1:Int):=Int.ediv_le_self _ (by omega);refine bJ .bF [0,1,2,3,4,5,6,7] follows (by kernel_rfl) ?_;refine vr 2 ?_;refine lq rfl rfl (by omega) (by omega) ⟨by omega,by omega⟩ ?_;refine vr 2 ?_;refine mj rfl rfl (by omega) (by omega) ?_;refine vr 2 ?_;refine aa [0,1,5,6,7,9,10] ?_;refine kC (fun(bA:Nat)=>put (put (put (put (emp) 0 (.val (.slice (some ⟨g,lo.length,none⟩) (b.length+1) c))) 1 (.val (.slice A' b.length c'))) 5 (.val (.int .i64 (b.length:Int)))) 9 (.val (.int .u64 (bA:Int)))) (fun(bA:Nat) H'=>H'=ins H g (dB (lo++w++hi) N)∧q≤bA∧bA≤q+1∧bA<1000000000) ?_ ?_
 ·
  refine aC ?_
  refine gy (fun(bA:Nat)(rest:Nat)=>bA) (fun(bA:Nat)(rest:Nat)=>put (put (put (put (put (put (put (emp) 0 (.val (.slice (some ⟨g,lo.length,none⟩) (b.length+1) c))) 1 (.val (.slice A' b.length c'))) 5 (.val (.int .i64 (b.length:Int)))) 6 (.val (.int .u64 (top:Int)))) 7 (.val (.int .u64 (next:Int)))) 9 (.val (.int .u64 (bA:Int)))) 10 (.val (.int .u64 (rest:Int)))) (fun(bA:Nat)(rest:Nat) H'=>H'=ins H g (dB (lo++w++hi) N)∧bA*top+rest=un*B+u1∧q≤bA∧bA≤un*1000000000+u1∧rest≤2000000000) ((un*1000000000+u1)/top) ((un*1000000000+u1)%top) (⟨rfl,by rw[bY,Nat.mul_comm];exact Nat.div_add_mod _ _,by
   have h1:=Nat.div_add_mod (un*B+u1) top;have h2:=Nat.mod_lt (un*B+u1) MT
   have h3:val w<((un*B+u1)/top+1)*val b:=by
    have e1:B^k*(B*(un*B+u1))+B^k*B≤B^k*(B*(((un*B+u1)/top+1)*top)):=by
     rw[←Nat.mul_add];refine Nat.mul_le_mul_left _ ?_;rw[←Nat.mul_succ];refine Nat.mul_le_mul_left _ ?_;rw[Nat.add_mul,Nat.one_mul,Nat.mul_comm _ top];omega
    have e2:((un*B+u1)/top+1)*(B^k*(B*top))≤((un*B+u1)/top+1)*val b:=Nat.mul_le_mul_left _ (by rw[hV,Nat.mul_add (B^k)];omega)
    have e3:((un*B+u1)/top+1)*(B^k*(B*top))=B^k*(B*(((un*B+u1)/top+1)*top)):=by rw[Nat.mul_left_comm _ (B^k),Nat.mul_left_comm _ B]
    have e4:val w<B^k*(B*(un*B+u1))+B^k*B:=by
     have:B^k*(u2+1)≤B^k*B:=Nat.mul_le_mul_left _ (by omega);rw[hW,Nat.mul_add (B^k)];rw[Nat.mul_add (B^k)]at this;omega
    omega
   have h4:=MQ zC h3
   rw[bY]at h4;omega,Nat.div_le_self _ _,by have:=Nat.mod_lt (un*1000000000+u1) MT;omega⟩) an ?_
  rintro bA rest H1 ⟨rfl,dQ,Ev,hgu,qV⟩;refine al ?_
  by_cases hrB:rest<1000000000
  by_cases I0:bA<1000000000
  ·
   skip
   refine ab ?_;refine vr 1 ?_;refine aA true rfl rfl (iz (by omega)) ?_;refine vr 2 ?_;refine aA false rfl rfl (zu (by omega)) ?_;refine vr 3 ?_;have hgn:bA*next≤999999999*999999999:=Nat.mul_le_mul (by omega) (by omega)
   have aj3:(bA:Int)*(next:Int)=((bA*next:Nat):Int):=by simp
   refine gq rfl rfl ⟨by omega,by omega⟩ ?_;refine vr 1 ?_;refine gq rfl rfl ⟨by omega,by omega⟩ ?_;refine vr 2 ?_;refine cP rfl rfl ⟨by omega,by omega⟩ ?_;refine aM ae rfl rfl rfl rfl rfl (Ci _ _ _ _ _ _) (by rw[vx];exact dd fm) (by omega) (by omega) fun _=> ?_;refine cW ae rfl rfl rfl ⟨by omega,by omega⟩ ?_;refine aD rfl rfl ⟨by omega,by omega⟩ ?_;refine vr 3 ?_;refine aa [0,1,5,6,7,9,10,71] ?_;refine aB rfl (fun hb=> ?_) (fun hb=> ?_)
   ·
    have hb:rest*1000000000+u2<bA*next:=by simp at hb;omega
    have TD:=MQ zC (acQ hV hW ac6 dQ (by rw[bY];omega));refine au ?_;refine ag [0,1,5,6,7,9,10] rfl ?_;refine aC ?_;refine ab ?_;refine vr 1 ?_;refine cP rfl rfl ⟨by omega,by omega⟩ ?_;refine vr 1 ?_;refine aa [0,1,5,6,7,9,10] ?_;refine av rfl ?_;refine vr 2 ?_;refine aD rfl rfl ⟨by omega,by omega⟩ ?_;refine vr 1 ?_;refine aq ?_;exact⟨bA-1,rest+top,by omega,an,rfl,Tz dQ (by omega),by omega,by omega,by omega⟩
   ·
    have hb:bA*next≤rest*1000000000+u2:=by simp at hb;omega
    refine aU ?_;exact⟨bA,an,rfl,Ev,acU zC tS (acR hV hW jL MT dQ (by rw[bY];omega) (by omega)),I0⟩
  ·
   skip
   refine ab ?_;refine vr 1 ?_;refine aA true rfl rfl (iz (by omega)) ?_;refine vr 2 ?_;refine aA true rfl rfl (qT (by omega)) ?_;refine vr 16 ?_;refine aa [0,1,5,6,7,9,10,71] ?_;refine cD rfl ?_;refine au ?_;refine ag [0,1,5,6,7,9,10] rfl ?_;refine aC ?_;refine ab ?_;refine vr 1 ?_;refine cP rfl rfl ⟨by omega,by omega⟩ ?_;refine vr 1 ?_;refine aa [0,1,5,6,7,9,10] ?_;refine av rfl ?_;refine vr 2 ?_;refine aD rfl rfl ⟨by omega,by omega⟩ ?_;refine vr 1 ?_;refine aq ?_;exact⟨bA-1,rest+top,by omega,an,rfl,Tz dQ (by omega),by omega,by omega,by omega⟩
  ·
   skip
   refine ab ?_;refine vr 1 ?_;refine aA false rfl rfl (fQ (by omega)) ?_;refine vr 19 ?_;refine aa [0,1,5,6,7,9,10,71] ?_;refine cU rfl ?_;refine aU ?_;have sD:=acT hV hW jL (by omega) ac7 dQ (by omega);exact⟨bA,an,rfl,Ev,by have:=(Nat.le_div_iff_mul_le tS).2 sD.2;rw[←zC]at this;omega,by omega⟩
 ·
  rintro bA H2 ⟨rfl,bW,bN,I0⟩;refine ab ?_;refine vr 1 ?_;refine aa [0,1,5,9,11] ?_;refine al ?_;refine ab ?_;refine vr 2 ?_;refine aa [0,1,5,9,11,77,78] ?_;refine aC ?_;refine gh (fun(i:Nat)(w1:List Nat)(br:Nat)=>b.length-i) (fun(i:Nat)(w1:List Nat)(br:Nat)=>put (put (put (put (put (put (put (emp) 0 (.val (.slice (some ⟨g,lo.length,none⟩) (b.length+1) c))) 1 (.val (.slice A' b.length c'))) 5 (.val (.int .i64 (b.length:Int)))) 9 (.val (.int .u64 (bA:Int)))) 11 (.val (.int .i64 (br:Int)))) 77 (.val (.int .i64 (b.length:Int)))) 78 (.val (.int .i64 (i:Int)))) (fun(i:Nat)(w1:List Nat)(br:Nat) H'=>H'=ins H g (dB (lo++w1++hi) N)∧i≤b.length∧w1.length=w.length∧Lt w1∧w1.drop i=w.drop i∧br≤1000000000∧val (w.take i)+B^i*br=val (w1.take i)+bA*val (b.take i)) 0 w 0 (⟨rfl,by omega,rfl,xB,rfl,by omega,by simp[val]⟩) an ?_;rintro i w1 br H1 ⟨rfl,MV,I3,Ew,kF,tP,hv⟩;refine ab ?_;refine vr 1 ?_;refine aa [0,1,5,9,11,77,78,79] ?_;refine al ?_;refine aB rfl (fun hb=> ?_) (fun hb=> ?_)
  ·
   have hb:i<b.length:=by simpa using hb
   obtain⟨d,hd⟩:∃d,w[i]? = some d:=⟨_,List.getElem?_eq_getElem (by omega)⟩;obtain⟨p,hp⟩:∃p,b[i]? = some p:=⟨_,List.getElem?_eq_getElem (by omega)⟩;have lr:=xB.get hd;have xt:=dU.get hp;rw[bY]at lr xt
   have fj:w1[i]? = some d:=by rw[MS kF];exact hd
   have hgp:bA*p≤999999999*999999999:=Nat.mul_le_mul (by omega) (by omega)
   have aj4:(bA:Int)*(p:Int)=((bA*p:Nat):Int):=by simp
   refine au ?_;refine ag [0,1,5,9,11,77,78] rfl ?_;refine al ?_;refine aC ?_;refine ab ?_;refine vr 2 ?_;refine aa [0,1,5,9,11,12,77,78] ?_;refine bJ .bF [0,1,2,3,4,5,6,7,8,9,10,11,12,13,14,15,16,17] follows (by kernel_rfl) ?_;refine vr 2 ?_;refine aM ae rfl rfl rfl rfl rfl (Ci _ _ _ _ _ _) (dd fj) (by omega) (by omega) fun _=> ?_;refine cW ae rfl rfl rfl ⟨by omega,by omega⟩ ?_;refine vr 1 ?_;refine cP rfl rfl ⟨by omega,by omega⟩ ?_;refine vr 3 ?_;refine aM ae rfl rfl rfl rfl rfl (ga _) (dd hp) (by omega) (by omega) fun _=> ?_;refine cW ae rfl rfl rfl ⟨by omega,by omega⟩ ?_;refine gq rfl rfl ⟨by omega,by omega⟩ ?_;refine mj rfl rfl (by omega) (by omega) ?_;refine cW ae rfl rfl rfl ⟨by omega,by omega⟩ ?_;refine cP rfl rfl ⟨by omega,by omega⟩ ?_;refine vr 1 ?_;refine aa [0,1,5,9,12,13,77,78] ?_;refine ab ?_;refine vr 3 ?_;refine aM ae rfl rfl rfl rfl rfl (ga _) (dd hp) (by omega) (by omega) fun _=> ?_;refine cW ae rfl rfl rfl ⟨by omega,by omega⟩ ?_;refine gq rfl rfl ⟨by omega,by omega⟩ ?_;refine lq rfl rfl (by omega) (by omega) ⟨by omega,by omega⟩ ?_;refine cW ae rfl rfl rfl ⟨by omega,by omega⟩ ?_;refine vr 1 ?_;refine aa [0,1,5,9,11,12,13,77,78] ?_;refine al ?_
   refine aC ?_;refine fZ (fun(t:Nat)=>3-t) (fun(t:Nat)=>put (put (put (put (put (put (put (put (put (emp) 0 (.val (.slice (some ⟨g,lo.length,none⟩) (b.length+1) c))) 1 (.val (.slice A' b.length c'))) 5 (.val (.int .i64 (b.length:Int)))) 9 (.val (.int .u64 (bA:Int)))) 11 (.val (.int .i64 ((bA*p/1000000000+t:Nat):Int)))) 12 (.val (.int .i64 (i:Int)))) 13 (.val (.int .i64 ((d:Int)-br-((bA*p%1000000000:Nat):Int)+t*1000000000)))) 77 (.val (.int .i64 (b.length:Int)))) 78 (.val (.int .i64 (i:Int)))) (fun(t:Nat) H'=>H'=ins H g (dB (lo++w1++hi) N)∧t≤2∧(d:Int)-br-((bA*p%1000000000:Nat):Int)+t*1000000000<1000000000) 0 (⟨rfl,by omega,by omega⟩) an ?_;rintro t H1 ⟨rfl,ht,hsB⟩;refine al ?_;refine ab ?_;refine vr 2 ?_;refine aa [0,1,5,9,11,12,13,77,78,108] ?_;refine aB rfl (fun hb=> ?_) (fun hb=> ?_)
   ·
    simp at hb
    refine au ?_;refine ag [0,1,5,9,11,12,13,77,78] rfl ?_;refine aC ?_;refine ab ?_;refine vr 1 ?_;refine aD rfl rfl ⟨by omega,by omega⟩ ?_;refine vr 1 ?_;refine aa [0,1,5,9,11,12,13,77,78] ?_;refine av rfl ?_;refine vr 1 ?_;refine aD rfl rfl ⟨by omega,by omega⟩ ?_;refine vr 1 ?_;refine aq ?_;exact⟨t+1,by omega,an,rfl,by omega,by omega⟩
   ·
    simp at hb
    refine aU ?_;refine ag [0,1,5,9,11,12,13,77,78] rfl ?_;refine av rfl ?_;refine vr 3 ?_;refine cW ae rfl rfl rfl ⟨by omega,by omega⟩ ?_;obtain⟨ti,aj,ak⟩:=nP;refine cM (.inl rfl) ae rfl rfl rfl (by omega) (by omega) (bo _ _ _) rfl (by rw[nR];simp;omega) aj ak (fun _=>rfl) rfl rfl rfl fun _=> ?_;refine aq ?_;refine ag [0,1,5,9,11,77,78] rfl ?_;refine av rfl ?_;refine aD rfl rfl ⟨by omega,by omega⟩ ?_;refine vr 1 ?_;refine aq ?_;obtain⟨y,hy⟩:∃y:Nat,(y:Int)=(d:Int)-br-((bA*p%1000000000:Nat):Int)+t*1000000000:=⟨((d:Int)-br-((bA*p%1000000000:Nat):Int)+t*1000000000).toNat,by omega⟩;have cQ:=El (o:=w1.take i) (s:=y) (br':=bA*p/1000000000+t) (d:=d) (e:=bA*p) (ta':=val (w.take (i+1))) (tb':=bA*val (b.take (i+1))) (by simp;omega) hv (by rw[bY];omega) (kD hd) (by rw[kD hp,Nat.mul_add,Nat.mul_left_comm]);rw[←xA (by omega)]at cQ;exact⟨i+1,w1.set i y,bA*p/1000000000+t,by omega,an,by rw[I1 (y:=y) hy.symm (by rw[Int.toNat_natCast];omega)];rfl,by omega,by simp[I3],Ew.set (by rw[bY];omega),drop_set kF,by omega,cQ⟩
  ·
   have hb:b.length≤i:=by simpa using hb
   obtain rfl:i=b.length:=by omega
   rw[List.take_length]at hv
   have gJ:w1[b.length]? = some un:=by rw[MS kF];exact o0
   refine aU ?_;refine ag [0,1,5,9,11] rfl ?_;refine ab ?_;refine vr 2 ?_;refine aM ae rfl rfl rfl rfl rfl (Ci _ _ _ _ _ _) (dd gJ) (by omega) (by omega) fun _=> ?_;refine cW ae rfl rfl rfl ⟨by omega,by omega⟩ ?_;refine vr 1 ?_;refine cP rfl rfl ⟨by omega,by omega⟩ ?_;refine vr 1 ?_;refine aa [0,1,5,9,14] ?_;refine al ?_;refine ab ?_;refine vr 2 ?_;refine aa [0,1,5,9,14,127] ?_;refine aB rfl (fun hb=> ?_) (fun hb=> ?_)
   ·
    have hb:br≤un:=by simp at hb;omega
    obtain⟨iL,iM⟩:=acX TC hv hb zC bW tS;refine ab ?_;refine vr 3 ?_;refine cW ae rfl rfl rfl ⟨by omega,by omega⟩ ?_;obtain⟨ti,aj,ak⟩:=nP;refine cM (.inl rfl) ae rfl rfl rfl (by omega) (by omega) (bo _ _ _) rfl (by rw[nR];simp;omega) aj ak (fun _=>rfl) rfl rfl rfl fun _=> ?_;refine aa [9] ?_;refine ab ?_;refine vr 1 ?_;refine cW ae rfl rfl rfl ⟨by omega,by omega⟩ ?_;refine vr 1 ?_;refine aa [4] ?_;refine az ⟨.inr rfl,_,.tmp rfl (.nil),?_⟩;refine⟨w1.set b.length (un-br),by rw[I1 (y:=un-br) (by omega) (by rw[Int.toNat_natCast];omega)];rfl,by simp[I3],Ew.set (by rw[bY];omega),?_,by rw[←iL];rfl⟩;rw[←iM,←List.take_length (l:=w1.set b.length (un-br)),List.length_set,I3,oZ,xA (by omega),qR,List.length_take,Nat.min_eq_left (by omega)]
   ·
    have hb:un<br:=by simp at hb;omega
    refine au ?_;refine ag [0,1,5,9,14] rfl ?_;refine ab ?_;refine vr 1 ?_;refine aa [0,1,5,9,14,15] ?_;refine al ?_;refine ab ?_;refine vr 2 ?_;refine aa [0,1,5,9,14,15,135,136] ?_;refine aC ?_;refine gh (fun(i:Nat)(w2:List Nat)(cr:Nat)=>b.length-i) (fun(i:Nat)(w2:List Nat)(cr:Nat)=>put (put (put (put (put (put (put (put (emp) 0 (.val (.slice (some ⟨g,lo.length,none⟩) (b.length+1) c))) 1 (.val (.slice A' b.length c'))) 5 (.val (.int .i64 (b.length:Int)))) 9 (.val (.int .u64 (bA:Int)))) 14 (.val (.int .i64 ((un:Int)-br)))) 15 (.val (.int .u32 (cr:Int)))) 135 (.val (.int .i64 (b.length:Int)))) 136 (.val (.int .i64 (i:Int)))) (fun(i:Nat)(w2:List Nat)(cr:Nat) H'=>H'=ins H g (dB (lo++w2++hi) N)∧i≤b.length∧w2.length=w.length∧Lt w2∧w2.drop i=w1.drop i∧cr≤1∧val (w2.take i)+B^i*cr=val (w1.take i)+val (b.take i)) 0 w1 0 (⟨rfl,by omega,I3,Ew,rfl,by omega,by simp[val]⟩) an ?_;rintro i w2 cr H1 ⟨rfl,aj5,MW,MY,TE,mW,dN⟩;refine ab ?_;refine vr 1 ?_;refine aa [0,1,5,9,14,15,135,136,137] ?_;refine al ?_;refine aB rfl (fun hb=> ?_) (fun hb=> ?_)
    ·
     have hb:i<b.length:=by simpa using hb
     obtain⟨d,hd⟩:∃d,w1[i]? = some d:=⟨_,List.getElem?_eq_getElem (by omega)⟩;obtain⟨p,hp⟩:∃p,b[i]? = some p:=⟨_,List.getElem?_eq_getElem (by omega)⟩;have lr:=Ew.get hd;have xt:=dU.get hp;rw[bY]at lr xt
     have kH:w2[i]? = some d:=by rw[MS TE];exact hd
     refine au ?_;refine ag [0,1,5,9,14,15,135,136] rfl ?_;refine al ?_;refine aC ?_;refine ab ?_;refine vr 2 ?_;refine aa [0,1,5,9,14,15,16,135,136] ?_;refine bJ .bF [0,1,2,3,4,5,6,7,8,9,10,11] follows (by kernel_rfl) ?_;refine vr 2 ?_;refine aM ae rfl rfl rfl rfl rfl (Ci _ _ _ _ _ _) (dd kH) (by omega) (by omega) fun _=> ?_;refine vr 2 ?_;refine aM ae rfl rfl rfl rfl rfl (ga _) (dd hp) (by omega) (by omega) fun _=> ?_;refine aD rfl rfl ⟨by omega,by omega⟩ ?_;refine vr 1 ?_;refine aD rfl rfl ⟨by omega,by omega⟩ ?_;refine vr 1 ?_;refine aa [0,1,5,9,14,16,17,135,136] ?_;refine ab ?_;refine vr 1 ?_;refine lq rfl rfl (by omega) (by omega) ⟨by omega,by omega⟩ ?_;refine vr 1 ?_;refine aa [0,1,5,9,14,15,16,17,135,136] ?_;refine av rfl ?_;refine vr 3 ?_;refine mj rfl rfl (by omega) (by omega) ?_;obtain⟨ti,aj,ak⟩:=nP;refine cM (.inl rfl) ae rfl rfl rfl (by omega) (by omega) (bo _ _ _) rfl (by rw[nR];simp;omega) aj ak (fun _=>rfl) rfl rfl rfl fun _=> ?_;refine aq ?_;refine ag [0,1,5,9,14,15,135,136] rfl ?_;refine av rfl ?_;refine aD rfl rfl ⟨by omega,by omega⟩ ?_;refine vr 1 ?_;refine aq ?_;have cQ:=Cc (o:=w2.take i) (s:=d+p+cr) (a:=cr) (b:=d+p) (u:=val (w1.take (i+1))+val (b.take (i+1))) (by simp;omega) dN (by omega) (by rw[kD hd,kD hp,Nat.mul_add];omega)
     rw[←xA (by omega)]at cQ;exact⟨i+1,w2.set i ((d+p+cr)%B),(d+p+cr)/B,by omega,an,by rw[I1 (y:=(d+p+cr)%B) (by rw[bY];omega) (by rw[Int.toNat_natCast];omega)];rfl,by omega,by simp[MW],MY.set (Nat.mod_lt _ mr),drop_set TE,by rw[bY];omega,cQ⟩
    ·
     have hb:b.length≤i:=by simpa using hb
     obtain rfl:i=b.length:=by omega
     rw[List.take_length]at dN;obtain⟨iL,iM,wT⟩:=acY TC hv (by omega) zC bN tS ac8 (Ch Ew (by omega)) (Ch MY (by omega)) dN;refine aU ?_;refine ag [0,5,9,14,15] rfl ?_;refine ab ?_;refine vr 4 ?_;refine cW ae rfl rfl rfl ⟨by omega,by omega⟩ ?_;refine aD rfl rfl ⟨by omega,by omega⟩ ?_;refine cW ae rfl rfl rfl ⟨by omega,by omega⟩ ?_;obtain⟨ti,aj,ak⟩:=nP;refine cM (.inl rfl) ae rfl rfl rfl (by omega) (by omega) (bo _ _ _) rfl (by rw[nR];simp;omega) aj ak (fun _=>rfl) rfl rfl rfl fun _=> ?_;refine aa [9] ?_;refine ab ?_;refine vr 1 ?_;refine cP rfl rfl ⟨by omega,by omega⟩ ?_;refine cW ae rfl rfl rfl ⟨by omega,by omega⟩ ?_;refine vr 1 ?_;refine aa [4] ?_;refine az ⟨.inr rfl,_,.tmp rfl (.nil),?_⟩;refine⟨w2.set b.length 0,by rw[I1 (y:=0) (by omega) (by rw[Int.toNat_natCast];omega)];rfl,by simp[MW],MY.set (by rw[bY];omega),?_,by rw[show (bA:Int)-1=(q:Int) by omega];rfl⟩;rw[←wT,←List.take_length (l:=w2.set b.length 0),List.length_set,MW,oZ,xA (by omega),qR,Nat.mul_zero,Nat.add_zero]
end Go.ar
namespace Go.ar
open Go.Proofs Num
theorem zD{H:Heap}{g g':Nat}{e:Ent}(h:ins H g e g'=none):g'≠g∧H g'=none:=by
 by_cases e0:g'=g
 ·subst e0;rw[bo]at h;cases h
 ·rw[a7 _ _ e0]at h;exact⟨e0,h⟩
theorem MZ{y:Nat}(h:0<y):ah y≠[]:=fun e=>by
 have:=cI y
 rw[e]at this
 simp[val]at this
 omega
theorem M0{y:Nat}(h:0<y):B^((ah y).length-1)≤y:=by
 have:=(fC y).pos (MZ h)
 rwa [cI]at this
def TF(H:Heap)(x y:Nat)(v:Value)(H':Heap):Prop:=Heap.le H H'∧∃q r,v = .tuple #[q,r]∧cX H' q (x/y)∧cX H' r (x%y)
theorem I4{H:Heap}{u v:Value}{x y:Nat}(hx:cX H u x)(hy:cX H v y)(jc:0<y)(hm:((ah x).length:Int)<8796093022208):
 Fn Tryz.prog 210 #[u,v] H (TF H x y):=by
 obtain⟨A,c,rfl,hc,hr⟩:=hx
 obtain⟨A',c',rfl,jd,dt⟩:=hy
 have ji:=(fC x).lt
 have dU:=(fC y).lt
 have ac9:=M0 jc
 have ada:(ah y).length≠0:=fun e=>MZ jc (List.eq_nil_of_length_eq_zero e);refine aZ (args:=[_,_]) Tryz.func210 rfl rfl Tryz.ntmps210 rfl rfl fun w0=> ?_;refine ag [0,1] rfl ?_;refine ab ?_;refine vr 2 ?_;refine aa [0,1] ?_;refine al ?_;refine ab ?_;refine vr 2 ?_;refine aw rfl rfl (To hr dt (by omega)) ?_;rintro v1 H1 ⟨e1,rfl⟩;rw[e1];refine vr 1 ?_;refine aa [0,1,19] ?_;refine aB rfl (fun hb=> ?_) (fun hb=> ?_)
 ·
  have p5:x<y:=by unfold kn at hb;simp at hb;split at hb <;> (try split at hb) <;> simp_all
  refine ab ?_;refine vr 1 ?_;refine eN Tryz.underlying177 dV rfl rfl (xo _) (hr) (by rw[zv,Nat.mul_one]) (nQ _) (by simp;omega) (by simp;omega) ?_;intro v1 H2 ha;refine vr 2 ?_;refine aa [4,5] ?_;refine az ⟨.inr rfl,_,.tmp rfl (.tmp rfl (.nil)),?_⟩
  have h1:cX H2 v1 x:=by
   have:=(App.oY (a:=[]) ha rfl rfl).lim
   simpa [cX]using this
  exact⟨ha.le,_,_,rfl,by rw[Nat.div_eq_of_lt p5];exact vq H2,by rw[Nat.mod_eq_of_lt p5];exact h1⟩
 ·
  have p5:y≤x:=by unfold kn at hb;simp at hb;split at hb <;> (try split at hb) <;> simp_all <;> omega
  have hlen:=lR p5;refine au ?_;refine ag [0,1] rfl ?_;refine al ?_;refine ab ?_;refine vr 3 ?_;refine aa [0,1,24] ?_;refine aB rfl (fun hb=> ?_) (fun hb=> ?_)
  ·
   have hb:(ah y).length=1:=by simp at hb;omega
   have sE:(ah y)[0]? = some y:=by
    obtain⟨z,hz⟩:=List.length_eq_one_iff.1 hb;have:=cI y;rw[hz]at this⊢
    simp[val]at this
    simp[this]
   have Ex:=dU.get sE;rw[bY]at Ex;refine ab ?_;refine vr 2 ?_;refine aM ae rfl rfl rfl rfl rfl (dt) (dd sE) (by omega) (by omega) fun _=> ?_;refine cW ae rfl rfl rfl ⟨by omega,by omega⟩ ?_;refine aw rfl rfl (Tu (l:=ah x) ⟨A,c,rfl,hc,hr⟩ ji Ex jc (by omega)) ?_;rintro v1 H2 ⟨hle,q,rfl,hq⟩;refine vr 1 ?_;rw[cI]at hq⊢;refine vr 4 ?_;refine aa [6,7] ?_;refine ab ?_;refine vr 2 ?_;refine aw rfl rfl (IW (x:=x%y) (by have:=Nat.mod_lt x jc;omega)) ?_;intro v1 H3 hp;refine vr 2 ?_;refine aa [4,5] ?_;refine az ⟨.inr rfl,_,.tmp rfl (.tmp rfl (.nil)),?_⟩;exact⟨hle.trans hp.le,_,_,rfl,hq.le hp.le,hp.nat⟩
  ·
   have hb:(ah y).length≠1:=by simp at hb;omega
   have gB:2≤(ah y).length:=by omega
   obtain⟨t,ht⟩:∃t,(ah y)[(ah y).length-1]? = some t:=⟨_,List.getElem?_eq_getElem (by omega)⟩;have MU:=dU.get ht;rw[bY]at MU
   have tR:(((ah y).length:Int)-1).toNat=(ah y).length-1:=by omega
   have hs0:0≤(1000000000:Int)/((t:Int)+1):=Int.ediv_nonneg (by omega) (by omega);have nS:(1000000000:Int)/((t:Int)+1)≤1000000000:=Int.ediv_le_self _ (by omega);obtain⟨sc,zE⟩:∃sc,sc=1000000000/(t+1):=⟨_,rfl⟩
   have adb:(1000000000:Int)/((t:Int)+1)=(sc:Int):=by rw[zE];simp
   have Cj:0<sc:=by rw[zE];exact Nat.div_pos (by omega) (by omega)
   have ade:sc*(t+1)≤1000000000:=by rw[zE];exact Nat.div_mul_le_self _ _
   refine au ?_;refine ag [0,1] rfl ?_;refine ab ?_;refine vr 3 ?_;refine aa [0,1,8] ?_;refine ab ?_;refine vr 2 ?_;refine cP rfl rfl ⟨by omega,by omega⟩ ?_;refine aM ae rfl rfl rfl rfl rfl (dt) (by rw[tR];exact dd ht) (by omega) (by omega) fun _=> ?_;refine cW ae rfl rfl rfl ⟨by omega,by omega⟩ ?_;refine aD rfl rfl ⟨by omega,by omega⟩ ?_;refine lq rfl rfl (by omega) (by omega) ⟨by omega,by omega⟩ ?_;rw[adb];refine vr 1 ?_;refine aa [0,1,8,9] ?_
   have I5:0<t:=by
    rcases Nat.eq_zero_or_pos t with e|e
    ·
     exfalso
     have:=(fC y).last t (by rw[List.getLast?_eq_getElem?];exact ht);exact this e
    ·exact e
   have M6:sc<1000000000:=by
    have:sc*2≤sc*(t+1):=Nat.mul_le_mul_left _ (by omega)
    omega
   have hyV:y*sc<B^(ah y).length:=by
    have h1:y<B^((ah y).length-1)*(t+1):=by
     have h2:=kD ht;rw[show (ah y).length-1+1=(ah y).length by omega,List.take_length,cI]at h2;have h3:=Ch dU (k:=(ah y).length-1) (by omega);rw[Nat.mul_add,Nat.mul_one];omega
    have h2:y*sc<B^((ah y).length-1)*(t+1)*sc:=Nat.mul_lt_mul_of_pos_right h1 Cj
    have h3:B^((ah y).length-1)*(t+1)*sc≤B^((ah y).length-1)*B:=by
     rw[Nat.mul_assoc];exact Nat.mul_le_mul_left _ (by rw[Nat.mul_comm,bY];exact ade)
    rw[←Nat.pow_succ,Nat.succ_eq_add_one,show (ah y).length-1+1=(ah y).length by omega]at h3
    omega
   refine ab ?_;refine vr 2 ?_;refine aw rfl rfl (Tr (l:=ah x) ⟨A,c,rfl,hc,hr⟩ ji M6 (by omega)) ?_;rintro v1 H1 ⟨g1,l1,kG,rfl,rfl,adf,adg,tU⟩;rw[cI]at tU;refine vr 1 ?_;refine aa [0,1,8,9,10] ?_;refine ab ?_;refine vr 2 ?_;refine aw rfl rfl (Tr (l:=ah y) ⟨A',c',rfl,jd,dt.le (Heap.bI _ kG)⟩ dU M6 (by omega)) ?_;rintro v1 H1 ⟨g2,l2,dQ,rfl,rfl,aj6,MF,dN⟩;rw[cI]at dN;refine vr 1 ?_;refine wZ ae rfl rfl (.inl ⟨rfl,rfl⟩) (.inr ⟨_,_,rfl,rfl⟩) (by omega) (by omega) ?_;rw[zw];refine vr 1 ?_;refine aa [0,8,9,10,11] ?_;refine ab ?_;refine vr 3 ?_;refine cP rfl rfl ⟨by omega,by omega⟩ ?_;refine aD rfl rfl ⟨by omega,by omega⟩ ?_;refine ig Tryz.underlying177 dV rfl rfl rfl (by omega) (by omega) (by omega) (by omega) ?_;intro g3 lv;obtain⟨m,eM⟩:∃m,m=(ah x).length-(ah y).length+1:=⟨_,rfl⟩;rw[show (((ah x).length:Int)-((ah y).length:Int)+1).toNat=m from by omega,xz];obtain⟨TH,adh⟩:=zD dQ;obtain⟨zy,adi⟩:=zD lv;obtain⟨I6,adj⟩:=zD adi
   have ij:∀e e',ins (ins H g2 e) g3 e' g1=none:=fun e e'=>by rw[a7 _ _ (Ne.symm I6),a7 _ _ (Ne.symm TH)];exact kG
   have jl:∀e,ins H g2 e g3=none:=fun e=>by rw[a7 _ _ zy];exact adj
   rw[BT H _ _ (Ne.symm TH),BT (ins H g2 _) _ _ (Ne.symm I6)];obtain⟨V,I7⟩:∃V,V=y*sc:=⟨_,rfl⟩;obtain⟨b,kT⟩:∃b,b=l2.take (ah y).length:=⟨_,rfl⟩
   have ko:b.length=(ah y).length:=by rw[kT];simp;omega
   have Ey:val b=V:=by
    have h1:=Eu l2 (k:=(ah y).length) (by omega);rw[dN,←kT]at h1
    rcases Nat.eq_zero_or_pos (val (l2.drop (ah y).length))with e|e
    ·rw[e,Nat.mul_zero]at h1;omega
    ·
     have:B^(ah y).length*1≤B^(ah y).length*val (l2.drop (ah y).length):=Nat.mul_le_mul_left _ e
     omega
   have TI:Lt b:=by rw[kT];exact MF.take _
   have tS:0<V:=by rw[I7];exact Nat.mul_pos jc Cj
   obtain⟨tp,IB⟩:∃tp,b[b.length-1]? = some tp:=⟨_,List.getElem?_eq_getElem (by omega)⟩
   have adk:0<tp:=by
    rcases Nat.eq_zero_or_pos tp with e|e
    ·
     exfalso
     have h2:=kD IB;rw[show b.length-1+1=b.length by omega,List.take_length,e,Nat.mul_zero,Ey]at h2;have h3:=Ch TI (k:=b.length-1) (by omega);have h4:y*1≤y*sc:=Nat.mul_le_mul_left _ Cj;rw[ko]at h2 h3
     omega
    ·exact e
   refine SY (x':= .val (.slice (some ⟨g2,0,none⟩) b.length ((ah y).length+1-0))) 11 rfl (by rw[ko];rfl) ?_;refine vr 1 ?_;refine aa [0,8,9,10,11,12] ?_;refine al ?_;refine ab ?_;refine vr 3 ?_;refine cP rfl rfl ⟨by omega,by omega⟩ ?_;refine vr 1 ?_;refine aa [8,9,10,11,12,13] ?_;refine aC ?_;refine gh (fun(k:Nat)(l:List Nat)(o:List Nat)=>k) (fun(k:Nat)(l:List Nat)(o:List Nat)=>put (put (put (put (put (put (emp) 8 (.val (.int .i64 ((ah y).length:Int)))) 9 (.val (.int .u64 (sc:Int)))) 10 (.val (.slice (some ⟨g1,0,none⟩) ((ah x).length+1) ((ah x).length+1)))) 11 (.val (.slice (some ⟨g2,0,none⟩) b.length ((ah y).length+1-0)))) 12 (.val (.slice (some ⟨g3,0,none⟩) m m))) 13 (.val (.int .i64 ((k:Int)-1)))) (fun(k:Nat)(l:List Nat)(o:List Nat) H'=>H'=ins (ins (ins H g2 (dB l2 ((ah y).length+1))) g3 (dB o m)) g1 (dB l ((ah x).length+1))∧k≤m∧l.length=(ah x).length+1∧Lt l∧o.length=m∧Lt o∧val (o.drop k)*V*B^k+val l=x*sc∧val (l.drop k)<V) m _ _ (⟨rfl,by omega,adf,adg,by simp,Lt.replicate _,by simp[val,tU],by rw[I7];exact ac0 (by omega) tU (by rw[show m+((ah y).length-1)=(ah x).length by omega];exact Cb x) ac9 Cj⟩) an ?_;rintro k l o H1 ⟨rfl,hk,tQ,bU,dK,dR,hinv,tV⟩;refine al ?_;refine ab ?_
   refine vr 2 ?_;refine aa [8,9,10,11,12,13,66] ?_;refine aB rfl (fun hb=> ?_) (fun hb=> ?_)
   ·
    have hb:1≤k:=by simp at hb;omega
    obtain⟨k,rfl⟩:∃j,k=j+1:=⟨k-1,by omega⟩
    have fW:(((k+1:Nat):Int)-1).toNat=k:=by omega
    obtain⟨w,Ck⟩:∃w,w=(l.drop k).take ((ah y).length+1):=⟨_,rfl⟩
    have oZ:w.length=(ah y).length+1:=by rw[Ck];simp;omega
    obtain⟨hwz,mX,M7⟩:=TA bU (n:=(ah y).length) (by omega) tV (by omega);rw[←Ck,←Ey]at M7
    have adl:Lt w:=by rw[Ck];exact(bU.drop k).take _
    have xB:l=l.take k++w++l.drop (k+(ah y).length+1):=by
     rw[Ck,List.append_assoc]
     conv=>lhs;rw[←List.take_append_drop k l,←List.take_append_drop ((ah y).length+1) (l.drop k)]
     rw[List.drop_drop]
     rfl
    have hlk:(l.take k).length=k:=by simp;omega
    have ga:Rd (ins (ins H g2 (dB l2 ((ah y).length+1))) g3 (dB o m)) (some ⟨g2,0,none⟩) (U b):=by
     rw[kT,Em];exact((IU H g2 l2 _).le (Heap.bI _ (jl _))).take _
    refine au ?_;refine ag [8,9,10,11,12,13] rfl ?_;refine al ?_;refine aC ?_;refine av rfl ?_;refine vr 6 ?_;refine aD rfl rfl ⟨by omega,by omega⟩ ?_;refine aD rfl rfl ⟨by omega,by omega⟩ ?_;refine wZ ae rfl rfl (.inr ⟨_,_,rfl,congrArg (fun z=>some (Value.int .i64 z)) (show ((k+1:Nat):Int)-1=((k:Nat):Int) by omega)⟩) (.inr ⟨_,_,rfl,congrArg (fun z=>some (Value.int .i64 z)) (show ((k+1:Nat):Int)-1+((ah y).length:Int)+1=((k+(ah y).length+1:Nat):Int) by omega)⟩) (by omega) (by omega) ?_;refine SY (x':= .val (.slice (some ⟨g1,(l.take k).length,none⟩) (b.length+1) ((ah x).length+1-k))) 77 rfl (by rw[if_neg (by omega),Option.map_some,iA,Nat.mul_one,hlk,show k+(ah y).length+1-k=b.length+1 by omega]) ?_;refine vr 1 ?_;refine aw rfl rfl (by have hF:=ac2 (lo:=l.take k) (w:=w) (hi:=l.drop (k+(ah y).length+1)) (N:=(ah x).length+1) (c:=(ah x).length+1-k) (c':=(ah y).length+1-0) (ij _ _) ga (by omega) (by omega) (by omega) adl TI IB adk M7;rw[←xB]at hF;exact hF) ?_;rintro v1 H1 ⟨w',rfl,fX,kI,M8,rfl⟩;obtain⟨ti,aj,ak⟩:=nP;refine cM (.inl rfl) ae rfl rfl rfl (by omega) (by omega) ((a7 _ _ I6).trans (bo _ _ _)) rfl (by rw[nR];omega) aj ak (fun _=>rfl) rfl rfl rfl fun _=> ?_;refine aq ?_
    refine ag [8,9,10,11,12,13] rfl ?_;refine av rfl ?_;refine vr 1 ?_;refine cP rfl rfl ⟨by omega,by omega⟩ ?_;refine vr 1 ?_;refine aq ?_;have cQ:=acZ (q:=val w/V) bU (n:=(ah y).length) (by omega) tV (by omega) (by omega) hinv (by rw[←Ck]) (by rw[←Ck,M8,Ey]) (by rw[fX,oZ]);refine⟨k,l.take k++w'++l.drop (k+(ah y).length+1),o.set k (val w/V),by omega,an,?_,by omega,?_,?_,by simp[dK],dR.set ?_,cQ.1,cQ.2⟩
    ·rw[BT _ _ _ (Ne.symm I6),tO (y:=val w/V) (by rw[Ey]),fW]
    ·simp[fX,oZ,tQ];omega
    ·exact((bU.take k).append kI).append (bU.drop _)
    ·rw[←Ey];exact Nat.div_lt_of_lt_mul (by rw[Nat.mul_comm];exact M7)
   ·
    have hb:k=0:=by simp at hb;omega
    subst hb
    simp only[List.drop_zero,Nat.pow_zero,Nat.mul_one]at hinv tV
    obtain⟨hQ,hR⟩:=ac1 (Q:=val o) (R:=val l) (x:=x) (y:=y) (sc:=sc) (by rw[←I7];exact hinv) (by rw[←I7];exact tV) Cj;refine aU ?_;refine ag [9,10,12] rfl ?_;refine ab ?_;refine vr 1 ?_;refine aw rfl rfl (IZ (zx _ _ l _ _ tQ.symm (Nat.le_refl _)) bU (by omega)) ?_;intro v1 H4 hp;refine vr 1 ?_;refine aw rfl rfl (Tu hp.nat (fC _).lt M6 Cj (by have:=iQ.2 (tM bU);omega)) ?_;rintro v2 H5 ⟨gU,r,rfl,tW⟩;rw[cI,hR]at tW;refine vr 5 ?_;refine aa [12,14] ?_;refine ab ?_;refine vr 1 ?_;refine aw rfl rfl (IZ (((zx _ _ o m m dK.symm (Nat.le_refl _)).le (Heap.bI _ (ij _ _))).le (hp.le.trans gU)) dR (by omega)) ?_;intro v1 H6 nT;refine vr 3 ?_;refine aa [4,5] ?_;refine az ⟨.inr rfl,_,.tmp rfl (.tmp rfl (.nil)),?_⟩;exact⟨((((Heap.bI _ adh).trans (Heap.bI _ (jl _))).trans (Heap.bI _ (ij _ _))).trans (hp.le.trans gU)).trans nT.le,_,_,rfl,by rw[←hQ];exact nT.nat,tW.le nT.le⟩
end Go.ar
namespace Go.ar
open Go.Proofs Num
theorem adm{H:Heap}{u v:Value}{x y:Nat}(hx:cX H u x)(hy:cX H v y)(hm:((ah x).length:Int)<8796093022208)(bB:((ah y).length:Int)<8796093022208):
  Fn Tryz.prog 209 #[u,v] H (mz H (Nat.gcd x y)):=by
 obtain⟨M,hM⟩:∃M,M=max x y:=⟨_,rfl⟩
 have hMl:((ah M).length:Int)<8796093022208:=by
  rcases Nat.le_total x y with h | h
  ·rw[hM,Nat.max_eq_right h];exact bB
  ·rw[hM,Nat.max_eq_left h];exact hm
 refine aZ (args:=[_,_]) Tryz.func209 rfl rfl Tryz.ntmps209 rfl rfl fun w0=> ?_;refine ag [0,1] rfl ?_;refine ab ?_;refine vr 1 ?_;refine aa [0,1] ?_;refine al ?_;refine aC ?_;refine pW (fun(x1:Nat)(y1:Nat)(u:Value)(v:Value)=>y1) (fun(x1:Nat)(y1:Nat)(u:Value)(v:Value)=>put (put (emp) 0 (.val (u))) 1 (.val (v))) (fun(x1:Nat)(y1:Nat)(u:Value)(v:Value) H'=>Heap.le H H'∧cX H' u x1∧cX H' v y1∧Nat.gcd x1 y1=Nat.gcd x y∧x1≤M∧y1≤M) x y u v (⟨.refl _,hx,hy,rfl,by omega,by omega⟩) an ?_;rintro x1 y1 u v H1 ⟨hle,eD,sE,hg,Ez,tX⟩;obtain⟨A,c,rfl,hc,hr⟩:=eD;obtain⟨A',c',rfl,jd,dt⟩:=sE;have bH:=lR Ez;have bh:=lR tX;refine al ?_;refine ab ?_;refine vr 3 ?_;refine aa [0,1,13] ?_;refine aB rfl (fun hb=> ?_) (fun hb=> ?_)
 ·
  have hb:(ah y1).length≠0:=by simp at hb;intro e;simp[List.eq_nil_of_length_eq_zero e]at hb
  have jc:0<y1:=by rcases Nat.eq_zero_or_pos y1 with e | e;· exact absurd (jM.2 e) hb
                   ·exact e
  refine au ?_;refine ag [0,1] rfl ?_;refine aC ?_;refine al ?_
  by_cases h2:(ah x1).length≤2
  ·
   skip
   refine ab ?_;refine vr 2 ?_;refine aA true rfl rfl (oX (by omega)) ?_;refine vr 5 ?_;refine aa [0,1,21] ?_;refine aB rfl (fun hb=> ?_) (fun hb=> ?_)
   ·
    have hb:(ah y1).length≤2:=by simp at hb;omega
    have Na:=iQ.1 h2;have Nb:=iQ.1 hb;rw[bY]at Na Nb
    simp only[Nat.reducePow]at Na Nb
    refine ab ?_;refine vr 1 ?_;refine aw rfl rfl (Tp hr h2) ?_;rintro v1 H2 ⟨rfl,rfl⟩;refine vr 5 ?_;refine aa [1,5] ?_;refine ab ?_;refine vr 1 ?_;refine aw rfl rfl (Tp dt hb) ?_;rintro v1 H3 ⟨rfl,rfl⟩;refine vr 5 ?_;refine aa [5,7] ?_;refine al ?_;refine aC ?_;refine gy (fun(p:Nat)(q:Nat)=>q) (fun(p:Nat)(q:Nat)=>put (put (emp) 5 (.val (.int .u64 (p:Int)))) 7 (.val (.int .u64 (q:Int)))) (fun(p:Nat)(q:Nat) H'=>Heap.le H H'∧Nat.gcd p q=Nat.gcd x y∧p<1000000000000000000∧q<1000000000000000000) x1 y1 (⟨hle,hg,Na,Nb⟩) an ?_;rintro p q H1 ⟨gi,dQ,Nc,EA⟩;refine al ?_;refine ab ?_;refine vr 2 ?_;refine aa [5,7,33] ?_;refine aB rfl (fun hb=> ?_) (fun hb=> ?_)
    ·
     have hb:0<q:=by simp at hb;omega
     refine au ?_;refine ag [5,7] rfl ?_;refine aC ?_;refine dZ .bF [0,1,2,3,4,5] follows (by kernel_rfl) ?_;refine vr 3 ?_;refine mj rfl rfl (by omega) (by omega) ?_;refine vr 2 ?_;refine aq ?_;have bU:=Nat.mod_lt p hb;exact⟨q,p%q,bU,an,gi,by rw[Nat.gcd_comm q,←Nat.gcd_rec,Nat.gcd_comm q];exact dQ,EA,by omega⟩
    ·
     have hb:q=0:=by simp at hb;omega
     subst hb;rw[Nat.gcd_zero_right]at dQ;refine aU ?_;refine ag [5] rfl ?_;refine ab ?_;refine vr 1 ?_;refine aw rfl rfl (IW (by omega)) ?_;intro v1 H4 hp;refine vr 1 ?_;refine aa [4] ?_;refine az ⟨.inr rfl,_,.tmp rfl (.nil),?_⟩;exact⟨gi.trans hp.le,by rw[←dQ];exact hp.nat⟩
   ·
    skip
    refine au ?_;refine ag [0,1] rfl ?_;refine ab ?_;refine vr 2 ?_;refine aw rfl rfl (I4 (x:=x1) (y:=y1) ⟨A,c,rfl,hc,hr⟩ ⟨A',c',rfl,jd,dt⟩ jc (by omega)) ?_;rintro v1 H4 ⟨gi,q,r,rfl,bN,lx⟩;refine vr 5 ?_;refine aa [1,10] ?_;refine av rfl ?_;refine vr 4 ?_;refine aq ?_;have bU:=Nat.mod_lt x1 jc;exact⟨y1,x1%y1,_,_,bU,an,hle.trans gi,jh.le (l:=ah y1) ⟨A',c',rfl,jd,dt⟩ gi,lx,by rw[Nat.gcd_comm y1,←Nat.gcd_rec,Nat.gcd_comm y1];exact hg,tX,by omega⟩
  ·
   skip
   refine ab ?_;refine vr 2 ?_;refine aA false rfl rfl (xh (by omega)) ?_;refine vr 5 ?_;refine aa [0,1,21] ?_;refine cU rfl ?_;refine au ?_;refine ag [0,1] rfl ?_;refine ab ?_;refine vr 2 ?_;refine aw rfl rfl (I4 (x:=x1) (y:=y1) ⟨A,c,rfl,hc,hr⟩ ⟨A',c',rfl,jd,dt⟩ jc (by omega)) ?_;rintro v1 H4 ⟨gi,q,r,rfl,bN,lx⟩;refine vr 5 ?_;refine aa [1,10] ?_;refine av rfl ?_;refine vr 4 ?_;refine aq ?_;have bU:=Nat.mod_lt x1 jc;exact⟨y1,x1%y1,_,_,bU,an,hle.trans gi,jh.le (l:=ah y1) ⟨A',c',rfl,jd,dt⟩ gi,lx,by rw[Nat.gcd_comm y1,←Nat.gcd_rec,Nat.gcd_comm y1];exact hg,tX,by omega⟩
 ·
  have hb:(ah y1).length=0:=by simp at hb;simp[hb]
  have jc:y1=0:=jM.1 hb;subst jc;rw[Nat.gcd_zero_right]at hg;refine aU ?_;refine ag [0] rfl ?_;refine ab ?_;refine vr 2 ?_;refine aa [4] ?_;refine az ⟨.inr rfl,_,.tmp rfl (.nil),?_⟩;exact⟨hle,by rw[←hg];exact⟨A,c,rfl,hc,hr⟩⟩
end Go.ar
namespace Num
def sg(neg:Bool)(n:Nat):Int:=if neg then -(n:Int)else n
def cJ(neg:Bool)(n d:Nat):Rat:=mkRat (sg neg n) d
theorem Nd(f:Bool)(n:Nat):(sg f n).natAbs=n:=by cases f <;> simp[sg]
theorem adn(f:Bool):sg f 0=0:=by cases f <;> rfl
theorem vy(f:Bool)(d:Nat):cJ f 0 d=0:=by simp[cJ,adn]
theorem I8(f:Bool)(n:Nat):cJ f n 0=0:=by simp[cJ]
theorem zF{f:Bool}{n d:Nat}(hd:0<d):(cJ f n d).den=d/Nat.gcd n d:=by
 rw[cJ,Rat.den_mkRat,if_neg (by omega),Nd,Nat.gcd_comm]
theorem Nf{f:Bool}{n d:Nat}(hd:0<d):(cJ f n d).num=sg f (n/Nat.gcd n d):=by
 rw[cJ,Rat.num_mkRat,if_neg (by omega),Nd,Nat.gcd_comm]
 have hdv:Nat.gcd n d∣n:=Nat.gcd_dvd_left n d
 cases f
 ·simp[sg]
 ·simp only[sg,if_true]
  rw[Int.neg_ediv_of_dvd (by exact_mod_cast hdv)]
  simp
theorem Cl{f:Bool}{n d:Nat}(hd:0<d):(cJ f n d).num.natAbs=n/Nat.gcd n d:=by rw[Nf hd,Nd]
theorem EB{f:Bool}{n d:Nat}(hd:0<d)(hn:0<n):decide ((cJ f n d).num<0)=f:=by
 rw[Nf hd]
 have h1:0<n/Nat.gcd n d:=Nat.div_pos (Nat.le_of_dvd hn (Nat.gcd_dvd_left n d)) (Nat.gcd_pos_of_pos_left _ hn)
 cases f <;> simp[sg] <;> omega
theorem Ng{f:Bool}{n d:Nat}(hd:0<d):cJ f n d=0↔n=0:=by
 rw[cJ,Rat.mkRat_eq_zero (by omega)]
 cases f <;> simp[sg]
theorem ado{f:Bool}{n d:Nat}(hd:0<d)(hn:0<n):cJ f n d<0↔f=true:=by
 have h:=EB (f:=f) hd hn
 rw[←Rat.not_le,←Rat.num_nonneg]
 constructor
 ·intro h1;rw[←h,decide_eq_true_iff];omega
 ·intro h1;rw[h1]at h⊢;have:=of_decide_eq_true h;omega
theorem TJ(f:Bool){n m d e:Nat}(hd:0<d)(he:0<e):cJ f n d+cJ f m e=cJ f (n*e+m*d) (d*e):=by
 rw[cJ,cJ,Rat.mkRat_add_mkRat _ _ (by omega) (by omega),cJ]
 congr 1
 cases f
 ·simp[sg]
 ·simp[sg,Int.neg_add,Int.neg_mul]
theorem Nh{f g:Bool}(p6:f≠g){n m d e:Nat}(hd:0<d)(he:0<e)(h:m*d≤n*e):cJ f n d+cJ g m e=cJ f (n*e-m*d) (d*e):=by
 rw[cJ,cJ,Rat.mkRat_add_mkRat _ _ (by omega) (by omega),cJ]
 congr 1
 obtain rfl:g = !f:=by cases f <;> cases g <;> simp at p6⊢
 cases f
 ·simp[sg]
  rw[Int.ofNat_sub h];simp[Int.neg_mul];omega
 ·simp[sg]
  rw[Int.ofNat_sub h];simp[Int.neg_mul];omega
theorem TK{f g:Bool}(p6:f≠g){n m d e:Nat}(hd:0<d)(he:0<e)(h:n*e≤m*d):cJ f n d+cJ g m e=cJ g (m*d-n*e) (d*e):=by
 rw[Rat.add_comm,Nh (Ne.symm p6) he hd h,Nat.mul_comm e d]
theorem TM(f:Bool)(n d:Nat): -cJ f n d=cJ (!f) n d:=by
 rw[cJ,cJ,Rat.neg_mkRat]
 cases f <;> simp[sg]
theorem Ni(f g:Bool)(n m d e:Nat):cJ f n d*cJ g m e=cJ (f != g) (n*m) (d*e):=by
 rw[cJ,cJ,Rat.mkRat_mul_mkRat,cJ]
 congr 1
 cases f <;> cases g <;> simp[sg,Int.neg_mul,Int.mul_neg]
theorem TN{g:Bool}{m e:Nat}(_hm:0<m):(cJ g m e)⁻¹=cJ g e m:=by
 rw[cJ,cJ,←Rat.divInt_ofNat,Rat.inv_divInt,←Rat.divInt_ofNat]
 cases g
 ·rfl
 ·simp only[sg,if_true]
  rw[Rat.divInt_neg']
theorem Nj{f g:Bool}{n m d e:Nat}(hm:0<m):cJ f n d/cJ g m e=cJ (f != g) (n*e) (d*m):=by
 rw[Rat.div_def,TN hm,Ni]
theorem adp(n:Int):sg (decide (n<0)) n.natAbs=n:=by
 unfold sg;split
 ·rename_i h;simp at h;omega
 ·rename_i h;simp at h;omega
theorem EC(n:Int):cJ (decide (n<0)) n.natAbs 1=(n:Rat):=by
 have:sg (decide (n<0)) n.natAbs=n:=by
  unfold sg;split
  ·rename_i h;simp at h;omega
  ·rename_i h;simp at h;omega
 rw[cJ,this]
 exact Rat.mkRat_self (n:Rat)
theorem TO(a b:Int):cJ (decide (a<0) != decide (b<0)) a.natAbs b.natAbs=(a:Rat)/(b:Rat):=by
 rcases Nat.eq_zero_or_pos b.natAbs with h | h
 ·rw[h,I8]
  have:b=0:=by omega
  subst this
  simp[Rat.div_def]
 ·rw[←EC a,←EC b,Nj h]
  simp
def fo(q:Rat):Int:=if q<0 then -1 else if q=0 then 0 else 1
def vz(p q:Rat):Int:=if p<q then -1 else if p=q then 0 else 1
theorem I9{f:Bool}{n d:Nat}(hd:0<d):fo (cJ f n d)=if n=0 then 0 else if f then -1 else 1:=by
 unfold fo
 by_cases hn:n=0
 ·subst hn;rw[vy];rfl
 ·have h1:=ado (f:=f) hd (by omega:0<n)
  have h2:=Ng (f:=f) (n:=n) hd
  cases f
  ·rw[if_neg (by rw[h1];simp),if_neg (by rw[h2];exact hn),if_neg hn];rfl
  ·rw[if_pos (by rw[h1]),if_neg hn];rfl
end Num
namespace Go.ar
open Go.Proofs Num
def sG(H:Heap)(v:Value)(f:Bool)(n d:Nat):Prop:=∃u w,v = .agg #[.bool f,u,w]∧cX H u n∧cX H w d
theorem sG.le{H H':Heap}{v:Value}{f:Bool}{n d:Nat}(h:sG H v f n d)(hl:Heap.le H H'):sG H' v f n d:=by
 obtain⟨u,w,h1,h2,h3⟩:=h
 exact⟨u,w,h1,h2.le hl,h3.le hl⟩
def bK(H:Heap)(v:Value)(q:Rat):Prop:=sG H v (decide (q.num<0)) q.num.natAbs q.den
theorem bK.le{H H':Heap}{v:Value}{q:Rat}(h:bK H v q)(hl:Heap.le H H'):bK H' v q:=sG.le h hl
def cH(H:Heap)(v:Value)(q:Rat)(N:Nat):Prop:=∃f u w l1 l2,v = .agg #[.bool f,u,w]∧jh H u l1∧jh H w l2∧(∀x,x∈l1→x<4294967296)∧(∀x,x∈l2→x<4294967296)∧l1.length≤N∧l2.length≤N∧q=cJ f (val l1) (val l2)
theorem cH.le{H H':Heap}{v:Value}{q:Rat}{N:Nat}(h:cH H v q N)(hl:Heap.le H H'):cH H' v q N:=by
 obtain⟨f,u,w,l1,l2,h1,h2,h3,h4⟩:=h
 exact⟨f,u,w,l1,l2,h1,h2.le hl,h3.le hl,h4⟩
theorem cH.mono{H:Heap}{v:Value}{q:Rat}{N M:Nat}(h:cH H v q N)(hl:N≤M):cH H v q M:=by
 obtain⟨f,u,w,l1,l2,h1,h2,h3,h4,h5,h6,h7,h8⟩:=h
 exact⟨f,u,w,l1,l2,h1,h2,h3,h4,h5,by omega,by omega,h8⟩
def aG(q:Rat):Nat:=max (ah q.num.natAbs).length (ah q.den).length
theorem vA(q:Rat):cJ (decide (q.num<0)) q.num.natAbs q.den=q:=by
 rw[cJ,adp,Rat.mkRat_self]
theorem mY{x:Nat}:∀y,y∈ah x→y<4294967296:=fun y hy=>by
 have:=(fC x).lt y hy
 rw[bY]at this;omega
theorem bK.raw{H:Heap}{v:Value}{q:Rat}(h:bK H v q):cH H v q (aG q):=by
 obtain⟨u,w,h1,h2,h3⟩:=h
 exact⟨_,u,w,_,_,h1,h2,h3,mY,mY,Nat.le_max_left _ _,Nat.le_max_right _ _,by rw[cI,cI,vA]⟩
def kp(H:Heap)(q:Rat)(v:Value)(H':Heap):Prop:=Heap.le H H'∧bK H' v q
theorem kp.le{H:Heap}{q:Rat}{v:Value}{H':Heap}(h:kp H q v H'):Heap.le H H':=h.1
def Ja(H:Heap)(q:Rat)(K:Nat)(v:Value)(H':Heap):Prop:=Heap.le H H'∧∃f n d,sG H' v f n d∧0<d∧cJ f n d=q∧(ah n).length≤K∧(ah d).length≤K
theorem Ja.le{H:Heap}{q:Rat}{K:Nat}{v:Value}{H':Heap}(h:Ja H q K v H'):Heap.le H H':=h.1
def qX(H:Heap)(x:Value)(v:Value)(H':Heap):Prop:=H'=H∧v=x
theorem qX.le{H:Heap}{x:Value}{v:Value}{H':Heap}(h:qX H x v H'):Heap.le H H':=by rw[h.1];exact .refl _
theorem tY:ah 1 = [1]:=by
 rw[xe (by decide)]
 rw[show 1/B=0 by decide,show 1%B=1 by decide,pY]
theorem xC{H:Heap}{g e:Nat}:cX (ins H g (whole (eT [.int .u32 1]) e)) (.slice (some ⟨g,0,none⟩) 1 1) 1:=by
 refine⟨some ⟨g,0,none⟩,1,?_,?_,?_⟩
 ·rw[tY];rfl
 ·rw[tY];exact Nat.le_refl _
 ·rw[tY];exact qU (y:=1) rfl
theorem Cm{l:List Nat}(h:∀x,x∈l→x<4294967296):(ah (val l)).length≤l.length+1:=by
 refine iQ.2 ?_
 have:val l+5≤5*B^l.length:=by
  induction l with
  | nil=>simp[val]
  | cons x l ih=>
   have h1:=ih (fun y hy=>h y (List.mem_cons_of_mem _ hy))
   have h2:=h x (List.mem_cons_self ..)
   rw[jy,List.length_cons,Nat.pow_succ]
   have h3:B*(val l+5)≤B*(5*B^l.length):=Nat.mul_le_mul_left _ h1
   have h4:B*(5*B^l.length)=5*(B^l.length*B):=by rw[Nat.mul_left_comm,Nat.mul_comm B]
   have h5:B*5=5000000000:=by decide
   rw[Nat.mul_add]at h3
   omega
 have h5:5*B^l.length≤B*B^l.length:=Nat.mul_le_mul_right _ (by decide)
 rw[Nat.pow_succ,Nat.mul_comm _ B];omega
theorem nU(x y:Nat):(ah (x*y)).length≤(ah x).length+(ah y).length:=by
 refine iQ.2 ?_
 rw[Nat.pow_add]
 exact Nat.mul_lt_mul'' (Cb x) (Cb y)
theorem TP{x y k:Nat}(hx:(ah x).length≤k)(hy:(ah y).length≤k):(ah (x+y)).length≤k+1:=by
 refine iQ.2 ?_
 have h1:=iQ.1 hx
 have h2:=iQ.1 hy
 have h3:B^k*2≤B^k*B:=Nat.mul_le_mul_left _ (by decide)
 rw[Nat.pow_succ];omega
end Go.ar
namespace Go.ar
open Go.Proofs Num
theorem adq{H:Heap}{u v:Value}{x y:Nat}(hx:cX H u x)(hy:cX H v y)(hm:((ah x).length:Int)≤35184372088832):Fn Tryz.prog 199 #[u,v] H (qX H (.int .i64 (kn x y))):=by
 obtain⟨A,c,rfl,hc,hr⟩:=hx
 obtain⟨A',c',rfl,jd,dt⟩:=hy
 exact To hr dt hm
theorem TQ{H:Heap}{u:Value}{x:Nat}(hx:cX H u x):Fn Tryz.prog 208 #[u] H (qX H (.bool (decide (x=1)))):=by
 obtain⟨A,c,rfl,hc,hr⟩:=hx
 exact acJ hr
theorem TR{H:Heap}{u:Value}{l:List Nat}(hu:jh H u l)(zy:∀x,x∈l→x<4294967296)(hm:(l.length:Int)≤8796093022208):Fn Tryz.prog 194 #[u] H (mz H (val l)):=by
 obtain⟨A,c,rfl,hc,hr⟩:=hu
 exact acK zy hr hm
theorem vB{H:Heap}{v:Value}{q:Rat}{N:Nat}(hv:cH H v q N)(hN:(N:Int)≤4398046511104):
 Fn Tryz.prog 153 #[v] H (Ja H q (N+1)):=by
 obtain⟨f,u,w,l1,l2,rfl,hu,hw,h1,h2,bH,bh,rfl⟩:=hv;refine aZ (args:=[_]) Tryz.func153 rfl rfl Tryz.ntmps153 rfl rfl fun w0=> ?_;refine ag [0] rfl ?_;refine ab ?_;refine bS rfl rfl ?_;refine bt km rfl ?_;refine aa [1,2] ?_;refine bJ .bF [0,1,3,4,2,5,6,7] follows (by kernel_rfl) ?_;refine vr 4 ?_;refine aO rfl rfl (TR hu h1 (by omega)) (fun _ _ h=>h.le) ?_;intro v1 H1 fq;refine aO rfl rfl (TR (hw.le fq.le) h2 (by omega)) (fun _ _ h=>h.le) ?_;intro v2 H2 dO;obtain⟨B1,b1,rfl,ij,adr⟩:=fq.nat.le dO.le;obtain⟨B2,b2,rfl,cS,ED⟩:=dO.nat;have gi:=fq.le.trans dO.le;have jz:=Cm h1;have j0:=Cm h2;refine vr 2 ?_;refine aa [1,2,3,4] ?_;refine al ?_
 by_cases jm:(ah (val l1)).length=0
 ·
  skip
  refine ab ?_;refine vr 2 ?_;refine aA true rfl rfl (fk (by omega)) ?_;refine vr 5 ?_;refine aa [1,2,3,4,18] ?_;refine cD rfl ?_;refine ab ?_;refine dI Tryz.underlying177 dV rfl rfl rfl rfl rfl rfl rfl ?_;intro gb bD;refine dS ae rfl km rfl rfl ?_;obtain⟨ti,aj,ak⟩:=jg;refine aJ (.inl ⟨rfl,rfl⟩) rfl rfl rfl aj ak rfl rfl rfl ?_;refine aa [2] ?_;obtain⟨bX,aK,aL⟩:=jg;refine az ⟨.inr rfl,_,.agg rfl Tryz.underlying179 aK aL (.nil),?_⟩;exact⟨gi.trans (Heap.bI _ bD),false,0,1,⟨_,_,rfl,vq _,xC⟩,by decide,by rw[jM.1 jm,vy,vy],by rw[pY];simp,by rw[tY];simp⟩
 ·
  skip
  refine ab ?_;refine vr 2 ?_;refine aA false rfl rfl (gI (by omega)) ?_;refine vr 5 ?_;refine aa [1,2,3,4,18] ?_;refine aB rfl (fun hb=> ?_) (fun hb=> ?_)
  ·
   have hb:(ah (val l2)).length=0:=by simpa using hb
   refine ab ?_;refine dI Tryz.underlying177 dV rfl rfl rfl rfl rfl rfl rfl ?_;intro gb bD;refine dS ae rfl km rfl rfl ?_;obtain⟨ti,aj,ak⟩:=jg;refine aJ (.inl ⟨rfl,rfl⟩) rfl rfl rfl aj ak rfl rfl rfl ?_;refine aa [2] ?_;obtain⟨bX,aK,aL⟩:=jg;refine az ⟨.inr rfl,_,.agg rfl Tryz.underlying179 aK aL (.nil),?_⟩;exact⟨gi.trans (Heap.bI _ bD),false,0,1,⟨_,_,rfl,vq _,xC⟩,by decide,by rw[jM.1 hb,I8,vy],by rw[pY];simp,by rw[tY];simp⟩
  ·
   have hb:(ah (val l2)).length≠0:=by simpa using hb
   refine au ?_;refine ag [1,2,3,4] rfl ?_;refine ab ?_;refine vr 4 ?_;refine dS ae rfl km rfl rfl ?_;obtain⟨ti,aj,ak⟩:=jg;refine aJ (.inl ⟨rfl,rfl⟩) rfl rfl rfl aj ak rfl rfl rfl ?_;refine aa [2] ?_;obtain⟨bX,aK,aL⟩:=jg;refine az ⟨.inr rfl,_,.agg rfl Tryz.underlying179 aK aL (.nil),?_⟩;exact⟨gi,f,val l1,val l2,⟨_,_,rfl,⟨B1,b1,rfl,ij,adr⟩,⟨B2,b2,rfl,cS,ED⟩⟩,Nat.pos_of_ne_zero (fun e=>hb (jM.2 e)),rfl,by omega,by omega⟩
theorem ads{H:Heap}{v:Value}{f:Bool}{n d:Nat}(hv:sG H v f n d)(hd:0<d)(cK:((ah n).length:Int)<8796093022208)(fj:((ah d).length:Int)<8796093022208):
 Fn Tryz.prog 196 #[v] H (kp H (cJ f n d)):=by
 obtain⟨u,w,rfl,hu,hw⟩:=hv
 obtain⟨A,c,rfl,hc,hr⟩:=id hu
 obtain⟨A2,c2,rfl,lS,lx⟩:=id hw;refine aZ (args:=[_]) Tryz.func196 rfl rfl Tryz.ntmps196 rfl rfl fun w0=> ?_;refine ag [0] rfl ?_;refine ab ?_;refine bS rfl rfl ?_;refine bt km rfl ?_;refine aa [1,2] ?_;refine al ?_;refine ab ?_;refine vr 4 ?_;refine aa [1,2,11] ?_;refine aB rfl (fun hb=> ?_) (fun hb=> ?_)
 ·
  have hb:n=0:=jM.1 (by simpa using hb);subst hb;refine ab ?_;refine dI Tryz.underlying177 dV rfl rfl rfl rfl rfl rfl rfl ?_;intro gb bD;refine dS ae rfl km rfl rfl ?_;obtain⟨ti,aj,ak⟩:=jg;refine aJ (.inl ⟨rfl,rfl⟩) rfl rfl rfl aj ak rfl rfl rfl ?_;refine aa [2] ?_;obtain⟨bX,aK,aL⟩:=jg;refine az ⟨.inr rfl,_,.agg rfl Tryz.underlying179 aK aL (.nil),?_⟩;exact⟨Heap.bI _ bD,by rw[vy];exact⟨_,_,rfl,vq _,xC⟩⟩
 ·
  have jm:0<n:=Nat.pos_of_ne_zero fun e=>by rw[jM.2 e]at hb;simp at hb
  refine au ?_;refine ag [1,2] rfl ?_;refine al ?_;refine ab ?_;refine vr 2 ?_;refine aw rfl rfl (TQ hw) ?_;rintro v1 H1 ⟨rfl,rfl⟩;refine aa [1,2,16] ?_;refine aB rfl (fun hb=> ?_) (fun hb=> ?_)
  ·
   have kH:d=1:=by simpa using hb
   subst kH;refine ab ?_;refine vr 1 ?_;obtain⟨ti,aj,ak⟩:=jg;refine aJ (.inl ⟨rfl,rfl⟩) rfl rfl rfl aj ak rfl rfl rfl ?_;refine aa [2] ?_;obtain⟨bX,aK,aL⟩:=jg;refine az ⟨.inr rfl,_,.agg rfl Tryz.underlying179 aK aL (.nil),?_⟩;refine⟨.refl _,?_⟩
   unfold bK
   rw[EB hd jm,Cl hd,zF hd,Nat.gcd_one_right,Nat.div_one,Nat.div_one];exact⟨_,_,rfl,hu,hw⟩
  ·
   skip
   refine au ?_;refine ag [1,2] rfl ?_;refine ab ?_;refine vr 4 ?_;refine aw rfl rfl (adm hu hw cK fj) ?_;rintro v1 H2 hp;obtain⟨v1,rfl⟩:∃x,x=v1:=⟨_,rfl⟩;have nK:0<Nat.gcd n d:=Nat.gcd_pos_of_pos_left _ jm;refine vr 1 ?_;refine aa [1,2,3] ?_;refine al ?_;refine ab ?_;refine vr 1 ?_;refine aw rfl rfl (TQ hp.nat) ?_;rintro v2 H3 ⟨rfl,rfl⟩;refine aa [1,2,3,24] ?_;refine aB rfl (fun hb=> ?_) (fun hb=> ?_)
   ·
    have kG:Nat.gcd n d=1:=by simpa using hb
    refine ab ?_;refine vr 1 ?_;obtain⟨ti,aj,ak⟩:=jg;refine aJ (.inl ⟨rfl,rfl⟩) rfl rfl rfl aj ak rfl rfl rfl ?_;refine aa [2] ?_;obtain⟨bX,aK,aL⟩:=jg;refine az ⟨.inr rfl,_,.agg rfl Tryz.underlying179 aK aL (.nil),?_⟩;refine⟨hp.le,?_⟩
    unfold bK
    rw[EB hd jm,Cl hd,zF hd,kG,Nat.div_one,Nat.div_one];exact⟨_,_,rfl,hu.le hp.le,hw.le hp.le⟩
   ·
    skip
    refine au ?_;refine ag [1,2,3] rfl ?_;refine ab ?_;refine vr 3 ?_;refine aw rfl rfl (I4 (hu.le hp.le) hp.nat nK cK) ?_;rintro v2 H4 ⟨gK,q1,r1,rfl,bW,sh⟩;refine vr 5 ?_;refine aa [1,2,3,4] ?_;refine ab ?_;refine vr 3 ?_;refine aw rfl rfl (I4 (hw.le (hp.le.trans gK)) (hp.nat.le gK) nK fj) ?_;rintro v2 H5 ⟨gU,q2,r2,rfl,bN,tW⟩;obtain⟨A3,c3,rfl,sH,o6⟩:=bW.le gU;obtain⟨A4,c4,rfl,nV,TS⟩:=id bN;refine vr 5 ?_;refine aa [1,2,4,6] ?_;refine ab ?_;refine vr 4 ?_;refine dS ae rfl km rfl rfl ?_;obtain⟨ti,aj,ak⟩:=jg;refine aJ (.inl ⟨rfl,rfl⟩) rfl rfl rfl aj ak rfl rfl rfl ?_;refine aa [2] ?_;obtain⟨bX,aK,aL⟩:=jg;refine az ⟨.inr rfl,_,.agg rfl Tryz.underlying179 aK aL (.nil),?_⟩;refine⟨(hp.le.trans gK).trans gU,?_⟩
    unfold bK
    rw[EB hd jm,Cl hd,zF hd];exact⟨_,_,rfl,⟨A3,c3,rfl,sH,o6⟩,bN⟩
theorem zG{H:Heap}{v:Value}{f:Bool}{n d:Nat}(hv:sG H v f n d)(hd:0<d)(cK:((ah n).length:Int)<8796093022208)(fj:((ah d).length:Int)<8796093022208):
 Fn Tryz.prog 156 #[v] H (kp H (cJ f n d)):=by
 obtain⟨u,w,rfl,hu,hw⟩:=id hv;refine aZ (args:=[_]) Tryz.func156 rfl rfl Tryz.ntmps156 rfl rfl fun w0=> ?_;refine ag [0] rfl ?_;refine ab ?_;refine bS rfl rfl ?_;refine bt cR rfl ?_;refine aa [1,2] ?_;refine ab ?_;refine vr 1 ?_;refine aw rfl rfl (ads hv hd cK fj) ?_;rintro v1 H1 ⟨hle,u1,w1,rfl,eu,fX⟩;obtain⟨A,c,rfl,hc,hr⟩:=id eu;obtain⟨A2,c2,rfl,lS,lx⟩:=id fX;refine bt km rfl ?_;obtain⟨ti,aj,ak⟩:=jg;refine aJ (.inl ⟨rfl,rfl⟩) rfl rfl rfl aj ak rfl rfl rfl ?_;refine aa [2,3] ?_;refine ab ?_;refine vr 6 ?_;refine dS ae rfl cR rfl rfl ?_;obtain⟨ti,aj,ak⟩:=a8;refine aJ (.inl ⟨rfl,rfl⟩) rfl rfl rfl aj ak rfl rfl rfl ?_;refine aa [2] ?_;obtain⟨bX,aK,aL⟩:=a8;refine az ⟨.inr rfl,_,.agg rfl Tryz.underlying31 aK aL (.nil),?_⟩;exact⟨hle,_,_,rfl,eu,fX⟩
theorem adt{H:Heap}{v:Value}{f:Bool}{n d:Nat}(hv:sG H v f n d)(hd:0<d):
 Fn Tryz.prog 154 #[v] H (qX H (.int .i64 (fo (cJ f n d)))):=by
 obtain⟨u,w,rfl,hu,hw⟩:=id hv
 obtain⟨A,c,rfl,hc,hr⟩:=id hu;refine aZ (args:=[_]) Tryz.func154 rfl rfl Tryz.ntmps154 rfl rfl fun w0=> ?_;refine ag [0] rfl ?_;refine ab ?_;refine bS rfl rfl ?_;refine vr 1 ?_;refine aa [1] ?_;refine al ?_;refine aC ?_;refine ab ?_;refine vr 5 ?_;refine aa [1,3] ?_;refine aB rfl (fun hb=> ?_) (fun hb=> ?_)
 ·
  have hb:n=0:=jM.1 (by simpa using hb);refine ab ?_;refine vr 1 ?_;refine aa [2] ?_;refine az ⟨.inr rfl,_,.tmp rfl (.nil),?_⟩;exact⟨rfl,by rw[I9 hd,if_pos hb];rfl⟩
 ·
  have jm:n≠0:=fun e=>by rw[jM.2 e]at hb;simp at hb
  refine ab ?_;refine vr 3 ?_;refine aa [8] ?_;refine aB rfl (fun hb=> ?_) (fun hb=> ?_)
  ·
   subst hb;refine ab ?_;refine vr 1 ?_;refine aa [2] ?_;refine az ⟨.inr rfl,_,.tmp rfl (.nil),?_⟩;exact⟨rfl,by rw[I9 hd,if_neg jm];rfl⟩
  ·
   subst hb;refine au ?_;refine ag [] rfl ?_;refine ab ?_;refine vr 1 ?_;refine aa [2] ?_;refine az ⟨.inr rfl,_,.tmp rfl (.nil),?_⟩;exact⟨rfl,by rw[I9 hd,if_neg jm];rfl⟩
end Go.ar
namespace Go.ar
open Go.Proofs Num
theorem wrap_u64(n:Int):IntKind.u64.wrap n=n%18446744073709551616:=rfl
theorem TT{x y:Nat}:(0≤kn x y)↔y≤x:=by
 unfold kn;split
 ·omega
 ·split <;> omega
theorem adu{H:Heap}{u v:Value}{f g:Bool}{n d m e K:Nat}(hf:sG H u f n d)(hg:sG H v g m e)(hd:0<d)(he:0<e)(h1:(ah n).length≤K)(h2:(ah d).length≤K)(h3:(ah m).length≤K)(h4:(ah e).length≤K)(hK:(K:Int)≤2199023255552):
 Fn Tryz.prog 182 #[u,v] H (Ja H (cJ f n d+cJ g m e) (2*K+1)):=by
 obtain⟨un,ud,rfl,o0,TU⟩:=id hf
 obtain⟨vm,ve,rfl,hvm,Cn⟩:=id hg
 have tZ:=nU n e
 have nW:=nU m d
 have TV:=nU d e
 have Jb:=Nat.mul_pos hd he
 have nS:=TP (x:=n*e) (y:=m*d) (k:=2*K) (by omega) (by omega);refine aZ (args:=[_,_]) Tryz.func182 rfl rfl Tryz.ntmps182 rfl rfl fun w0=> ?_;refine ag [0,1] rfl ?_;refine ab ?_;refine bS rfl rfl ?_;refine bS rfl rfl ?_;refine bt km rfl ?_;refine aa [2,3,4] ?_;refine bJ .bF [0,1,2,3,5,6,7,8,4,9,10,11] follows (by kernel_rfl) ?_;refine vr 8 ?_;refine aO rfl rfl (zA o0 Cn (by omega) (by omega)) (fun _ _ h=>h.le) ?_;intro v1 H1 fq;refine aO rfl rfl (zA (hvm.le fq.le) (TU.le fq.le) (by omega) (by omega)) (fun _ _ h=>h.le) ?_;intro v2 H2 dO;refine vr 2 ?_;refine aa [2,3,4,5,6] ?_;refine ab ?_;refine vr 4 ?_;refine aw rfl rfl (zA (TU.le (fq.le.trans dO.le)) (Cn.le (fq.le.trans dO.le)) (by omega) (by omega)) ?_;intro v3 H3 dW;have gV:=(fq.le.trans dO.le).trans dW.le;have cK:=fq.nat.le (dO.le.trans dW.le);have gB:=dO.nat.le dW.le;have iR:=dW.nat;obtain⟨Nk,Nl,rfl,Nn,Np⟩:=id cK;obtain⟨TW,TX,rfl,TY,TZ⟩:=id gB;obtain⟨Nq,Nr,rfl,Ns,Jc⟩:=id iR;refine vr 1 ?_;refine aa [2,3,4,5,6,7] ?_;refine al ?_;refine ab ?_;refine vr 4 ?_;refine S2 Tryz.underlying4 rfl rfl ?_;refine aa [2,3,4,5,6,7,27] ?_;refine aB rfl (fun hb=> ?_) (fun hb=> ?_)
 ·
  have p6:f=g:=by simpa using hb
  subst p6;refine bJ .bF [0,1,2,3,5,4,6,7] follows (by kernel_rfl) ?_;refine vr 5 ?_;refine aO rfl rfl (acM cK gB (by omega) (by omega)) (fun _ _ h=>h.le) ?_;intro v4 H4 ft;have gL:=ft.nat;obtain⟨Jd,Je,rfl,Jf,Jg⟩:=id gL;refine dS ae rfl km rfl rfl ?_;obtain⟨ti,aj,ak⟩:=jg;refine aJ (.inl ⟨rfl,rfl⟩) rfl rfl rfl aj ak rfl rfl rfl ?_;refine aa [4] ?_;obtain⟨bX,aK,aL⟩:=jg;refine az ⟨.inr rfl,_,.agg rfl Tryz.underlying179 aK aL (.nil),?_⟩;exact⟨gV.trans ft.le,f,n*e+m*d,d*e,⟨_,_,rfl,gL,iR.le ft.le⟩,Jb,(TJ f hd he).symm,by omega,by omega⟩
 ·
  have p6:f≠g:=by simpa using hb
  refine au ?_;refine ag [2,3,4,5,6,7] rfl ?_;refine al ?_;refine ab ?_;refine vr 2 ?_;refine aw rfl rfl (adq cK gB (by omega)) ?_;rintro v4 H4 ⟨rfl,rfl⟩;refine vr 1 ?_;refine aa [2,3,4,5,6,7,38] ?_;refine aB rfl (fun hb=> ?_) (fun hb=> ?_)
  ·
   have hb:m*d≤n*e:=TT.1 (by simpa using hb);have jn:=lR (Nat.sub_le (n*e) (m*d));refine bJ .bF [0,1,2,3,5,4,6,7] follows (by kernel_rfl) ?_;refine vr 5 ?_;refine aO rfl rfl (Tq cK gB hb (by omega)) (fun _ _ h=>h.le) ?_;intro v4 H4 ft;have gL:=ft.nat;obtain⟨Jd,Je,rfl,Jf,Jg⟩:=id gL;refine dS ae rfl km rfl rfl ?_;obtain⟨ti,aj,ak⟩:=jg;refine aJ (.inl ⟨rfl,rfl⟩) rfl rfl rfl aj ak rfl rfl rfl ?_;refine aa [4] ?_;obtain⟨bX,aK,aL⟩:=jg;refine az ⟨.inr rfl,_,.agg rfl Tryz.underlying179 aK aL (.nil),?_⟩;exact⟨gV.trans ft.le,f,n*e-m*d,d*e,⟨_,_,rfl,gL,iR.le ft.le⟩,Jb,(Nh p6 hd he hb).symm,by omega,by omega⟩
  ·
   have hb:¬m*d≤n*e:=fun h=>by have:=TT.2 h;simp at hb;omega
   have hb:n*e≤m*d:=by omega
   have jn:=lR (Nat.sub_le (m*d) (n*e));refine au ?_;refine ag [3,4,5,6,7] rfl ?_;refine bJ .bF [0,1,2,3,5,4,6,7] follows (by kernel_rfl) ?_;refine vr 5 ?_;refine aO rfl rfl (Tq gB cK hb (by omega)) (fun _ _ h=>h.le) ?_;intro v4 H4 ft;have gL:=ft.nat;obtain⟨Jd,Je,rfl,Jf,Jg⟩:=id gL;refine dS ae rfl km rfl rfl ?_;obtain⟨ti,aj,ak⟩:=jg;refine aJ (.inl ⟨rfl,rfl⟩) rfl rfl rfl aj ak rfl rfl rfl ?_;refine aa [4] ?_;obtain⟨bX,aK,aL⟩:=jg;refine az ⟨.inr rfl,_,.agg rfl Tryz.underlying179 aK aL (.nil),?_⟩;exact⟨gV.trans ft.le,g,m*d-n*e,d*e,⟨_,_,rfl,gL,iR.le ft.le⟩,Jb,(TK p6 hd he hb).symm,by omega,by omega⟩
theorem Nu{H:Heap}{n:Int}(h1: -9223372036854775808≤n)(h2:n≤9223372036854775807):
 Fn Tryz.prog 155 #[.int .i64 n] H (mz H n.natAbs):=by
 refine aZ (args:=[_]) Tryz.func155 rfl rfl Tryz.ntmps155 rfl rfl fun w0=> ?_;refine ag [0] rfl ?_;refine ab ?_;refine vr 1 ?_;refine aa [0] ?_;refine al ?_;refine ab ?_;refine vr 2 ?_;refine aa [0,4] ?_;refine aB rfl (fun hb=> ?_) (fun hb=> ?_)
 ·
  have hb:n<0:=by simpa using hb
  refine ab ?_;refine vr 1 ?_;refine S1 ae rfl rfl rfl ?_;refine abn rfl ?_;rw[show IntKind.u64.wrap (-IntKind.u64.wrap n)=((n.natAbs:Nat):Int) by rw[wrap_u64,wrap_u64];omega];refine aw rfl rfl (IW (by omega)) ?_;intro v1 H1 hp;refine vr 1 ?_;refine aa [2] ?_;refine az ⟨.inr rfl,_,.tmp rfl (.nil),?_⟩;exact hp
 ·
  have hb:0≤n:=by simpa using hb
  refine au ?_;refine ag [0] rfl ?_;refine ab ?_;refine vr 1 ?_;refine S1 ae rfl rfl rfl ?_;rw[show IntKind.u64.wrap n=((n.natAbs:Nat):Int) by rw[wrap_u64];omega];refine aw rfl rfl (IW (by omega)) ?_;intro v1 H1 hp;refine vr 1 ?_;refine aa [2] ?_;refine az ⟨.inr rfl,_,.tmp rfl (.nil),?_⟩;exact hp
theorem T1{H:Heap}{n:Int}(h1: -9223372036854775808≤n)(h2:n≤9223372036854775807):
 Fn Tryz.prog 85 #[.int .i64 n] H (kp H (n:Rat)):=by
 have dC:(ah n.natAbs).length≤3:=iQ.2 (by rw[bY];omega);refine aZ (args:=[_]) Tryz.func85 rfl rfl Tryz.ntmps85 rfl rfl fun w0=> ?_;refine ag [0] rfl ?_;refine ab ?_;refine bt cR rfl ?_;refine aa [0,2] ?_;refine ab ?_;refine vr 3 ?_;refine aw rfl rfl (Nu h1 h2) ?_;intro v1 H1 hp;have cK:=hp.nat;obtain⟨Nk,Nl,rfl,Nn,Np⟩:=id cK;refine dI Tryz.underlying177 dV rfl rfl rfl rfl rfl rfl rfl ?_;intro gb bD;refine dS ae rfl km rfl rfl ?_;refine aw rfl rfl (zG (f:=decide (n<0)) (n:=n.natAbs) (d:=1) ⟨_,_,rfl,cK.le (Heap.bI _ bD),xC⟩ (by decide) (by omega) (by rw[tY];decide)) ?_;rintro v1 H2 ⟨hle,hq⟩;rw[EC]at hq;obtain⟨u1,w1,rfl,eu,fX⟩:=id hq;obtain⟨lT,lU,rfl,lV,lW⟩:=id eu;obtain⟨Co,Cp,rfl,Cq,Cr⟩:=id fX;obtain⟨ti,aj,ak⟩:=a8;refine aJ (.inl ⟨rfl,rfl⟩) rfl rfl rfl aj ak rfl rfl rfl ?_;refine aa [2] ?_;obtain⟨bX,aK,aL⟩:=a8;refine az ⟨.inr rfl,_,.agg rfl Tryz.underlying31 aK aL (.nil),?_⟩;exact⟨(hp.le.trans (Heap.bI _ bD)).trans hle,hq⟩
theorem T4{H:Heap}{a b:Int}(h1: -9223372036854775808≤a)(h2:a≤9223372036854775807)(h3: -9223372036854775808≤b)(h4:b≤9223372036854775807):
 Fn Tryz.prog 133 #[.int .i64 a,.int .i64 b] H (kp H ((a:Rat)/(b:Rat))):=by
 have dC:(ah a.natAbs).length≤3:=iQ.2 (by rw[bY];omega)
 have cE:(ah b.natAbs).length≤3:=iQ.2 (by rw[bY];omega);refine aZ (args:=[_,_]) Tryz.func133 rfl rfl Tryz.ntmps133 rfl rfl fun w0=> ?_;refine ag [0,1] rfl ?_;refine ab ?_;refine bt cR rfl ?_;refine aa [0,1,4] ?_;refine al ?_;refine ab ?_;refine vr 2 ?_;refine aa [0,1,4,6] ?_;refine aB rfl (fun hb=> ?_) (fun hb=> ?_)
 ·
  have hb:b=0:=by simpa using hb
  subst hb;refine ab ?_;refine aw rfl rfl (T1 (n:=0) (by decide) (by decide)) ?_;rintro v1 H2 ⟨hle,hq⟩;obtain⟨u1,w1,rfl,eu,fX⟩:=id hq;obtain⟨lT,lU,rfl,lV,lW⟩:=id eu;obtain⟨Co,Cp,rfl,Cq,Cr⟩:=id fX;obtain⟨ti,aj,ak⟩:=a8;refine aJ (.inl ⟨rfl,rfl⟩) rfl rfl rfl aj ak rfl rfl rfl ?_;refine aa [4] ?_;obtain⟨bX,aK,aL⟩:=a8;refine az ⟨.inr rfl,_,.agg rfl Tryz.underlying31 aK aL (.nil),?_⟩;exact⟨hle,by rw[show (a:Rat)/((0:Int):Rat)=((0:Int):Rat) by simp[Rat.div_def]];exact hq⟩
 ·
  have hb:b≠0:=by simpa using hb
  refine au ?_;refine ag [0,1,4] rfl ?_;refine ab ?_;refine vr 4 ?_;refine D5 Tryz.underlying4 rfl rfl ?_;refine vr 1 ?_;refine aw rfl rfl (Nu h1 h2) ?_;intro v1 H1 fq;refine vr 1 ?_;refine aw rfl rfl (Nu h3 h4) ?_;intro v2 H2 dO;have cK:=fq.nat.le dO.le;have gB:=dO.nat;obtain⟨Nk,Nl,rfl,Nn,Np⟩:=id cK;obtain⟨TW,TX,rfl,TY,TZ⟩:=id gB;refine dS ae rfl km rfl rfl ?_;refine aw rfl rfl (zG (f:=decide (a<0) != decide (b<0)) (n:=a.natAbs) (d:=b.natAbs) ⟨_,_,rfl,cK,gB⟩ (by omega) (by omega) (by omega)) ?_;rintro v1 H3 ⟨hle,hq⟩;rw[TO]at hq;obtain⟨u1,w1,rfl,eu,fX⟩:=id hq;obtain⟨lT,lU,rfl,lV,lW⟩:=id eu;obtain⟨Co,Cp,rfl,Cq,Cr⟩:=id fX;obtain⟨ti,aj,ak⟩:=a8;refine aJ (.inl ⟨rfl,rfl⟩) rfl rfl rfl aj ak rfl rfl rfl ?_;refine aa [4] ?_;obtain⟨bX,aK,aL⟩:=a8;refine az ⟨.inr rfl,_,.agg rfl Tryz.underlying31 aK aL (.nil),?_⟩;exact⟨(fq.le.trans dO.le).trans hle,hq⟩
end Go.ar
namespace Go.ar
open Go.Proofs Num
theorem T6{H:Heap}{v:Value}{q:Rat}{N:Nat}(hv:cH H v q N)(hN:(N:Int)≤1099511627776):
 Fn Tryz.prog 86 #[v] H (kp H q):=by
 obtain⟨bf,bu,bw,nX,nY,rfl,_⟩:=id hv;refine aZ (args:=[_]) Tryz.func86 rfl rfl Tryz.ntmps86 rfl rfl fun w0=> ?_;refine ag [0] rfl ?_;refine ab ?_;refine bS rfl rfl ?_;refine bt cR rfl ?_;refine aa [1,2] ?_;refine ab ?_;refine vr 1 ?_;refine aw rfl rfl (vB hv (by omega)) ?_;rintro v1 H1 ⟨fa,f1,n1,d1,pa,fj,rfl,bH,tZ⟩;obtain⟨xD,xE,rfl,gJ,gW⟩:=id pa;obtain⟨xF,xG,rfl,xH,xI⟩:=id gJ;obtain⟨xJ,xK,rfl,xL,xM⟩:=id gW;refine aw rfl rfl (zG pa fj (by omega) (by omega)) ?_;rintro w2 G2 ⟨dD,bN⟩;obtain⟨u2,x2,rfl,fm,eE⟩:=id bN;obtain⟨nZ,oa,rfl,oc,od⟩:=id fm;obtain⟨oe,og,rfl,oh,oj⟩:=id eE;obtain⟨ti,aj,ak⟩:=a8;refine aJ (.inl ⟨rfl,rfl⟩) rfl rfl rfl aj ak rfl rfl rfl ?_;refine aa [2] ?_;obtain⟨bX,aK,aL⟩:=a8;refine az ⟨.inr rfl,_,.agg rfl Tryz.underlying31 aK aL (.nil),?_⟩;exact⟨fa.trans dD,bN⟩
theorem vC{H:Heap}{v:Value}{q:Rat}{N:Nat}(hv:cH H v q N)(hN:(N:Int)≤1099511627776):
 Fn Tryz.prog 84 #[v] H (fun v H'=>Heap.le H H'∧v = .int .i64 (fo q)):=by
 obtain⟨bf,bu,bw,nX,nY,rfl,_⟩:=id hv;refine aZ (args:=[_]) Tryz.func84 rfl rfl Tryz.ntmps84 rfl rfl fun w0=> ?_;refine ag [0] rfl ?_;refine ab ?_;refine bS rfl rfl ?_;refine vr 1 ?_;refine aa [1] ?_;refine ab ?_;refine vr 1 ?_;refine aw rfl rfl (vB hv (by omega)) ?_;rintro v1 H1 ⟨fa,f1,n1,d1,pa,fj,rfl,bH,tZ⟩;obtain⟨xD,xE,rfl,gJ,gW⟩:=id pa;obtain⟨xF,xG,rfl,xH,xI⟩:=id gJ;obtain⟨xJ,xK,rfl,xL,xM⟩:=id gW;refine aw rfl rfl (adt pa fj) ?_;rintro v2 H2 ⟨rfl,rfl⟩;refine vr 1 ?_;refine aa [2] ?_;refine az ⟨.inr rfl,_,.tmp rfl (.nil),?_⟩;exact⟨fa,rfl⟩
theorem adv{H:Heap}{v:Value}{q:Rat}{N:Nat}(hv:cH H v q N)(hN:(N:Int)≤1099511627776):
 Fn Tryz.prog 131 #[v] H (kp H (-q)):=by
 obtain⟨bf,bu,bw,nX,nY,rfl,_⟩:=id hv;refine aZ (args:=[_]) Tryz.func131 rfl rfl Tryz.ntmps131 rfl rfl fun w0=> ?_;refine ag [0] rfl ?_;refine ab ?_;refine bS rfl rfl ?_;refine bt cR rfl ?_;refine aa [1,2] ?_;refine ab ?_;refine vr 1 ?_;refine aw rfl rfl (vB hv (by omega)) ?_;rintro v1 H1 ⟨fa,f1,n1,d1,pa,fj,rfl,bH,tZ⟩;obtain⟨xD,xE,rfl,gJ,gW⟩:=id pa;obtain⟨xF,xG,rfl,xH,xI⟩:=id gJ;obtain⟨xJ,xK,rfl,xL,xM⟩:=id gW;refine bt km rfl ?_;obtain⟨ti,aj,ak⟩:=jg;refine aJ (.inl ⟨rfl,rfl⟩) rfl rfl rfl aj ak rfl rfl rfl ?_;refine aa [2,3] ?_;refine ab ?_;refine vr 4 ?_;obtain⟨ti,aj,ak⟩:=IG;refine aJ (.inr rfl) rfl rfl rfl aj ak rfl rfl rfl ?_;refine aa [2,3] ?_;refine ab ?_;refine vr 1 ?_;refine aw rfl rfl (zG (f:= !f1) ⟨_,_,rfl,gJ,gW⟩ fj (by omega) (by omega)) ?_;rintro w2 G2 ⟨dD,bN⟩;rw[←TM]at bN;obtain⟨u2,x2,rfl,fm,eE⟩:=id bN;obtain⟨nZ,oa,rfl,oc,od⟩:=id fm;obtain⟨oe,og,rfl,oh,oj⟩:=id eE;obtain⟨ti,aj,ak⟩:=a8;refine aJ (.inl ⟨rfl,rfl⟩) rfl rfl rfl aj ak rfl rfl rfl ?_;refine aa [2] ?_;obtain⟨bX,aK,aL⟩:=a8;refine az ⟨.inr rfl,_,.agg rfl Tryz.underlying31 aK aL (.nil),?_⟩;exact⟨fa.trans dD,bN⟩
theorem T7{H:Heap}{v v2:Value}{q q2:Rat}{N:Nat}(hv:cH H v q N)(dN:cH H v2 q2 N)(hN:(N:Int)≤1099511627776):
 Fn Tryz.prog 115 #[v,v2] H (kp H (q+q2)):=by
 obtain⟨bf,bu,bw,nX,nY,rfl,_⟩:=id hv
 obtain⟨cf,cu,cw,zH,zI,rfl,_⟩:=id dN;refine aZ (args:=[_,_]) Tryz.func115 rfl rfl Tryz.ntmps115 rfl rfl fun w0=> ?_;refine ag [0,1] rfl ?_;refine ab ?_;refine bS rfl rfl ?_;refine bS rfl rfl ?_;refine bt cR rfl ?_;refine aa [2,3,4] ?_;refine bJ .bF [0,2,1,3,4,5,6] follows (by kernel_rfl) ?_;refine vr 2 ?_;refine aO rfl rfl (vB hv (by omega)) (fun _ _ h=>h.le) ?_;rintro v1 H1 ⟨fa,f1,n1,d1,pa,fj,rfl,bH,tZ⟩;obtain⟨xD,xE,rfl,gJ,gW⟩:=id pa;obtain⟨xF,xG,rfl,xH,xI⟩:=id gJ;obtain⟨xJ,xK,rfl,xL,xM⟩:=id gW;refine aO rfl rfl (vB (dN.le fa) (by omega)) (fun _ _ h=>h.le) ?_;rintro v2 H2 ⟨gi,f2,n2,d2,Cs,kH,rfl,bh,nW⟩;obtain⟨EE,EF,rfl,m0,mA⟩:=id Cs;obtain⟨EG,EH,rfl,EI,EJ⟩:=id m0;obtain⟨EK,EL,rfl,EM,EN⟩:=id mA;refine aO rfl rfl (adu (K:=N+1) (pa.le gi) Cs fj kH bH tZ bh nW (by omega)) (fun _ _ h=>h.le) ?_;rintro v3 H3 ⟨gV,f3,n3,d3,T9,Ua,he3,dC,TV⟩;obtain⟨un3,ud3,rfl,aj7,aj8⟩:=id T9;refine aO rfl rfl (zG T9 Ua (by omega) (by omega)) (fun _ _ h=>h.le) ?_;rintro w4 G4 ⟨kJ,ct⟩;rw[he3]at ct;obtain⟨u4,x4,rfl,zJ,mB⟩:=id ct;obtain⟨Nv,Nw,rfl,Nx,Ny⟩:=id zJ;obtain⟨EO,EP,rfl,ER,ES⟩:=id mB;obtain⟨ti,aj,ak⟩:=a8;refine aJ (.inl ⟨rfl,rfl⟩) rfl rfl rfl aj ak rfl rfl rfl ?_
 refine aa [4] ?_;obtain⟨bX,aK,aL⟩:=a8;refine az ⟨.inr rfl,_,.agg rfl Tryz.underlying31 aK aL (.nil),?_⟩;exact⟨((fa.trans gi).trans gV).trans kJ,ct⟩
theorem Ub{H:Heap}{v v2:Value}{q q2:Rat}{N:Nat}(hv:cH H v q N)(dN:cH H v2 q2 N)(hN:(N:Int)≤1099511627776):
 Fn Tryz.prog 158 #[v,v2] H (kp H (q*q2)):=by
 obtain⟨bf,bu,bw,nX,nY,rfl,_⟩:=id hv
 obtain⟨cf,cu,cw,zH,zI,rfl,_⟩:=id dN;refine aZ (args:=[_,_]) Tryz.func158 rfl rfl Tryz.ntmps158 rfl rfl fun w0=> ?_;refine ag [0,1] rfl ?_;refine ab ?_;refine bS rfl rfl ?_;refine bS rfl rfl ?_;refine bt cR rfl ?_;refine aa [2,3,4] ?_;refine bJ .bF [0,2,1,3,4,5,6,7] follows (by kernel_rfl) ?_;refine vr 2 ?_;refine aO rfl rfl (vB hv (by omega)) (fun _ _ h=>h.le) ?_;rintro v1 H1 ⟨fa,f1,n1,d1,pa,fj,rfl,bH,tZ⟩;obtain⟨xD,xE,rfl,gJ,gW⟩:=id pa;obtain⟨xF,xG,rfl,xH,xI⟩:=id gJ;obtain⟨xJ,xK,rfl,xL,xM⟩:=id gW;refine aO rfl rfl (vB (dN.le fa) (by omega)) (fun _ _ h=>h.le) ?_;rintro v2 H2 ⟨gi,f2,n2,d2,Cs,kH,rfl,bh,nW⟩;obtain⟨EE,EF,rfl,m0,mA⟩:=id Cs;obtain⟨EG,EH,rfl,EI,EJ⟩:=id m0;obtain⟨EK,EL,rfl,EM,EN⟩:=id mA;have jz:=nU n1 n2;have j0:=nU d1 d2;refine bt km rfl ?_;refine bt km rfl ?_;obtain⟨ti,aj,ak⟩:=jg;refine aJ (.inl ⟨rfl,rfl⟩) rfl rfl rfl aj ak rfl rfl rfl ?_;obtain⟨ti,aj,ak⟩:=jg;refine aJ (.inl ⟨rfl,rfl⟩) rfl rfl rfl aj ak rfl rfl rfl ?_;refine aa [4,5,6] ?_;refine bJ .bF [0,1,2,3,4,5,6,7,8,10,11,12,13,9,14,15,16,17] follows (by kernel_rfl) ?_;refine vr 4 ?_;refine D5 Tryz.underlying4 rfl rfl ?_
 refine vr 8 ?_;refine aO rfl rfl (zA (gJ.le gi) m0 (by omega) (by omega)) (fun _ _ h=>h.le) ?_;intro v3 H3 dW;refine aO rfl rfl (zA (gW.le (gi.trans dW.le)) (mA.le dW.le) (by omega) (by omega)) (fun _ _ h=>h.le) ?_;intro v4 H4 ft;have iR:=dW.nat.le ft.le;have gL:=ft.nat;obtain⟨Nq,Nr,rfl,Ns,Jc⟩:=id iR;obtain⟨Jd,Je,rfl,Jf,Jg⟩:=id gL;refine dS ae rfl km rfl rfl ?_;refine aO rfl rfl (zG (f:=f1 != f2) (n:=n1*n2) (d:=d1*d2) ⟨_,_,rfl,iR,gL⟩ (Nat.mul_pos fj kH) (by omega) (by omega)) (fun _ _ h=>h.le) ?_;rintro w4 G4 ⟨kJ,ct⟩;rw[←Ni]at ct;obtain⟨u4,x4,rfl,zJ,mB⟩:=id ct;obtain⟨Nv,Nw,rfl,Nx,Ny⟩:=id zJ;obtain⟨EO,EP,rfl,ER,ES⟩:=id mB;obtain⟨ti,aj,ak⟩:=a8;refine aJ (.inl ⟨rfl,rfl⟩) rfl rfl rfl aj ak rfl rfl rfl ?_;refine aa [4] ?_;obtain⟨bX,aK,aL⟩:=a8;refine az ⟨.inr rfl,_,.agg rfl Tryz.underlying31 aK aL (.nil),?_⟩;exact⟨(((fa.trans gi).trans dW.le).trans ft.le).trans kJ,ct⟩
theorem Uc{H:Heap}{v v2:Value}{q q2:Rat}{N:Nat}(hv:cH H v q N)(dN:cH H v2 q2 N)(hN:(N:Int)≤1099511627776):
 Fn Tryz.prog 186 #[v,v2] H (fun v H'=>Heap.le H H'∧∃r,v = .tuple #[r,.bool (decide (q2≠0))]∧bK H' r (q/q2)):=by
 obtain⟨bf,bu,bw,nX,nY,rfl,_⟩:=id hv
 obtain⟨cf,cu,cw,zH,zI,rfl,_⟩:=id dN;refine aZ (args:=[_,_]) Tryz.func186 rfl rfl Tryz.ntmps186 rfl rfl fun w0=> ?_;refine ag [0,1] rfl ?_;refine ab ?_;refine bS rfl rfl ?_;refine bS rfl rfl ?_;refine bt cR rfl ?_;refine vr 1 ?_;refine aa [2,3,4] ?_;refine bJ .bF [0,2,1,3,4,5,6,7] follows (by kernel_rfl) ?_;refine vr 2 ?_;refine aO rfl rfl (vB hv (by omega)) (fun _ _ h=>h.le) ?_;rintro v1 H1 ⟨fa,f1,n1,d1,pa,fj,rfl,bH,tZ⟩;obtain⟨xD,xE,rfl,gJ,gW⟩:=id pa;obtain⟨xF,xG,rfl,xH,xI⟩:=id gJ;obtain⟨xJ,xK,rfl,xL,xM⟩:=id gW;refine aO rfl rfl (vB (dN.le fa) (by omega)) (fun _ _ h=>h.le) ?_;rintro v2 H2 ⟨gi,f2,n2,d2,Cs,kH,rfl,bh,nW⟩;obtain⟨EE,EF,rfl,m0,mA⟩:=id Cs;obtain⟨EG,EH,rfl,EI,EJ⟩:=id m0;obtain⟨EK,EL,rfl,EM,EN⟩:=id mA;have jz:=nU n1 d2;have j0:=nU d1 n2;refine bt km rfl ?_;refine bt km rfl ?_;obtain⟨ti,aj,ak⟩:=jg;refine aJ (.inl ⟨rfl,rfl⟩) rfl rfl rfl aj ak rfl rfl rfl ?_;obtain⟨ti,aj,ak⟩:=jg;refine aJ (.inl ⟨rfl,rfl⟩) rfl rfl rfl aj ak rfl rfl rfl ?_;refine aa [4,6,7] ?_;refine al ?_;refine ab ?_;refine vr 4 ?_;refine aa [4,6,7,15] ?_;refine aB rfl (fun hb=> ?_) (fun hb=> ?_)
 ·
  have hb:n2=0:=jM.1 (by simpa using hb);subst hb;refine ab ?_;refine aw rfl rfl (T1 (n:=0) (by decide) (by decide)) ?_;rintro w4 G4 ⟨kJ,ct⟩;obtain⟨u4,x4,rfl,zJ,mB⟩:=id ct;obtain⟨Nv,Nw,rfl,Nx,Ny⟩:=id zJ;obtain⟨EO,EP,rfl,ER,ES⟩:=id mB;obtain⟨ti,aj,ak⟩:=a8;refine aJ (.inl ⟨rfl,rfl⟩) rfl rfl rfl aj ak rfl rfl rfl ?_;refine vr 1 ?_;refine aa [4,5] ?_;obtain⟨bX,aK,aL⟩:=a8;refine az ⟨.inr rfl,_,.agg rfl Tryz.underlying31 aK aL (.tmp rfl (.nil)),?_⟩;refine⟨(fa.trans gi).trans kJ,_,?_,by rw[vy,Rat.div_def,Rat.inv_zero,Rat.mul_zero];exact ct⟩;rw[vy];rfl
 ·
  have jm:0<n2:=Nat.pos_of_ne_zero fun e=>by rw[jM.2 e]at hb;simp at hb
  refine au ?_;refine ag [4,6,7] rfl ?_;refine bJ .bF [0,1,2,3,4,5,6,7,8,10,11,12,13,9,14,15,16,17,18] follows (by kernel_rfl) ?_;refine vr 4 ?_;refine D5 Tryz.underlying4 rfl rfl ?_;refine vr 8 ?_;refine aO rfl rfl (zA (gJ.le gi) mA (by omega) (by omega)) (fun _ _ h=>h.le) ?_;intro v3 H3 dW;refine aO rfl rfl (zA (gW.le (gi.trans dW.le)) (m0.le dW.le) (by omega) (by omega)) (fun _ _ h=>h.le) ?_;intro v4 H4 ft;have iR:=dW.nat.le ft.le;have gL:=ft.nat;obtain⟨Nq,Nr,rfl,Ns,Jc⟩:=id iR;obtain⟨Jd,Je,rfl,Jf,Jg⟩:=id gL;refine dS ae rfl km rfl rfl ?_;refine aO rfl rfl (zG (f:=f1 != f2) (n:=n1*d2) (d:=d1*n2) ⟨_,_,rfl,iR,gL⟩ (Nat.mul_pos fj jm) (by omega) (by omega)) (fun _ _ h=>h.le) ?_;rintro w4 G4 ⟨kJ,ct⟩;rw[←Nj jm]at ct;obtain⟨u4,x4,rfl,zJ,mB⟩:=id ct;obtain⟨Nv,Nw,rfl,Nx,Ny⟩:=id zJ;obtain⟨EO,EP,rfl,ER,ES⟩:=id mB;obtain⟨ti,aj,ak⟩:=a8;refine aJ (.inl ⟨rfl,rfl⟩) rfl rfl rfl aj ak rfl rfl rfl ?_;refine vr 1 ?_;refine aa [4,5] ?_;obtain⟨bX,aK,aL⟩:=a8;refine az ⟨.inr rfl,_,.agg rfl Tryz.underlying31 aK aL (.tmp rfl (.nil)),?_⟩;refine⟨(((fa.trans gi).trans dW.le).trans ft.le).trans kJ,_,?_,ct⟩
  have aY:cJ f2 n2 d2≠0:=fun e=>by rw[Ng kH]at e;omega
  rw[show decide (cJ f2 n2 d2≠0)=true from decide_eq_true aY];rfl
end Go.ar
namespace Go.ar
open Go
def rem(H:Heap)(gs:List Nat):Heap:=fun g=>if g∈gs then none else H g
theorem rem_in{H:Heap}{gs:List Nat}{g:Nat}(h:g∈gs):rem H gs g=none:=by simp[rem,h]
theorem bL{H:Heap}{gs:List Nat}{g:Nat}(h:¬g∈gs):rem H gs g=H g:=by simp[rem,h]
theorem vD(H:Heap):rem H []=H:=by funext g;simp[rem]
theorem bG(H:Heap)(gs:List Nat):Heap.le (rem H gs) H:=fun g e h=>by
 by_cases hg:g∈gs
 ·rw[rem_in hg]at h;cases h
 ·rw[bL hg]at h;exact⟨e,h,.refl e⟩
theorem Ct{H H':Heap}(gs:List Nat)(h:Heap.le H H'):Heap.le (rem H gs) (rem H' gs):=fun g e he=>by
 by_cases hg:g∈gs
 ·rw[rem_in hg]at he;cases he
 ·rw[bL hg]at he⊢;exact h g e he
theorem cC{H:Heap}{gs:List Nat}{g:Nat}(e:Ent)(h:g∈gs):rem (ins H g e) gs=rem H gs:=by
 funext k
 by_cases hk:k∈gs
 ·rw[rem_in hk,rem_in hk]
 ·rw[bL hk,bL hk,a7 _ _ (fun(e':k=g)=>hk (by rw[e'];exact h))]
theorem xN{H:Heap}{gs:List Nat}{g:Nat}(e:Ent)(h:¬g∈gs):rem (ins H g e) gs=ins (rem H gs) g e:=by
 funext k
 by_cases hk:k∈gs
 ·rw[rem_in hk,a7 _ _ (fun(e':k=g)=>h (by rw[←e'];exact hk)),rem_in hk]
 ·rw[bL hk]
  unfold ins
  rw[bL hk]
theorem vE{H:Heap}{gs:List Nat}{g:Nat}(e:Ent)(h:H g=none):rem (ins H g e) (g::gs)=rem H gs:=by
 funext k
 by_cases hk:k=g
 ·subst hk
  rw[rem_in (List.mem_cons_self ..)]
  by_cases hg:k∈gs
  ·rw[rem_in hg]
  ·rw[bL hg,h]
 ·by_cases hg:k∈gs
  ·rw[rem_in hg,rem_in (List.mem_cons_of_mem _ hg)]
  ·rw[bL hg,bL (by simp[hk,hg]),a7 _ _ hk]
theorem Nz(H:Heap)(g:Nat)(gs:List Nat):Heap.le (rem H (g::gs)) (rem H gs):=fun k e h=>by
 by_cases hk:k∈g::gs
 ·rw[rem_in hk]at h;cases h
 ·rw[bL hk]at h
  exact⟨e,by rw[bL (fun h'=>hk (List.mem_cons_of_mem _ h'))];exact h,.refl e⟩
theorem Den.rem{H:Heap}{w:World}(h:Den H w)(gs:List Nat):Den (rem H gs) w:=h.le (bG H gs)
structure xO(gs:List Nat)(bx:Value→Heap→Prop)(H:Heap)(v:Value)(H':Heap):Prop where
 post:bx v (rem H' gs)
 same:∀g,g∈gs→H' g=H g
theorem Fn.frame{P:Program}{f:FuncId}{args:Array Value}{H:Heap}{bx:Value→Heap→Prop}{gs:List Nat}(jA:∀g,g∈gs→H g≠none)(h:Fn P f args (rem H gs) bx):Fn P f args H (xO gs bx H):=by
 refine⟨h.ent,fun w hd=>(h.run w (hd.rem gs)).mono fun e w' ⟨v,he,K,hp,mf,hf⟩=>⟨v,he,fun g=>if g∈gs then H g else K g,?_,?_,?_⟩⟩
 ·have hk:∀g,g∈gs→K g=none:=fun g hg=>by
   cases hh:H g with
   | none=>exact absurd hh (jA g hg)
   | some e=>exact(hf.keep g (hd.lt hh) (rem_in hg)).2
  have e1:ar.rem (fun g=>if g∈gs then H g else K g) gs=K:=by
   funext g
   by_cases hg:g∈gs
   ·rw[rem_in hg,hk g hg]
   ·rw[bL hg];simp[hg]
  exact⟨by rw[e1];exact hp,fun g hg=>by simp[hg]⟩
 ·intro g e hg
  by_cases hm:g∈gs
  ·simp only[hm,if_true]at hg
   obtain⟨o,h1,h2⟩:=hd g e hg
   exact⟨o,by rw[(hf.keep g (hd.lt hg) (rem_in hm)).1];exact h1,h2⟩
  ·simp only[hm,if_false]at hg
   exact mf g e hg
 ·refine⟨hf.os,hf.tape,hf.output,hf.size,fun g hg h0=> ?_,hf.form⟩
  have hm:¬g∈gs:=fun hm=>jA g hm h0
  have h1:=hf.keep g hg (by rw[bL hm];exact h0)
  exact⟨h1.1,by simp only[hm,if_false];exact h1.2⟩
theorem xO.le{gs:List Nat}{bx:Value→Heap→Prop}{H H':Heap}{v:Value}(h:xO gs bx H v H')(hl:∀v K,bx v K→Heap.le (rem H gs) K):Heap.le H H':=fun g e hg=>by
 by_cases hm:g∈gs
 ·exact⟨e,by rw[h.same g hm];exact hg,.refl e⟩
 ·obtain⟨e',h1,h2⟩:=hl v _ h.post g e (by rw[bL hm];exact hg)
  rw[bL hm]at h1
  exact⟨e',h1,h2⟩
theorem App.rem{H H':Heap}{v v':Value}{e sz n:Nat}{xs:List Value}{gs:List Nat}(h:App H v e sz n xs v' H')(hg:∀g,g∈gs→H g≠none)(hv:∀g,g∈gs→v.ownBlock≠some g):
  App (ar.rem H gs) v e sz n xs v' (ar.rem H' gs)∧∀g,g∈gs→H' g=H g:=by
 have hs:∀g,g∈gs→H' g=H g:=fun g hm=>by
  cases hh:H g with
  | none=>exact absurd hh (hg g hm)
  | some ent=>exact h.same g ent hh (hv g hm)
 have B8:∀g,v'.ownBlock=some g→¬g∈gs:=fun g h1 hm=>by
  rcases h.at_ with h2 | ⟨g',h2,h3⟩
  ·exact hv g hm (h2▸h1)
  ·rw[h2]at h1
   cases h1
   exact hg _ hm h3
 refine⟨⟨h.own.same fun g h1=>bL (B8 g h1),Ct gs h.le,fun k ent hk aY=> ?_,?_⟩,hs⟩
 ·by_cases hm:k∈gs
  ·rw[rem_in hm]at hk;cases hk
  ·rw[bL hm]at hk⊢;exact h.same k ent hk aY
 ·rcases h.at_ with h2 | ⟨g',h2,h3⟩
  ·exact .inl h2
  ·refine .inr ⟨g',h2,?_⟩
   rw[bL (B8 g' h2)];exact h3
section
variable {P:Program} {n:Nat} {tb:Tb} {all:Array Oper} {s:St} {H:Heap} {md:Mode} {K:St→Heap→Prop} {r:List Oper} {dst:Option Nat} {ty:TypeId} {pos:String} {after:Array Edge} {gd:Option (Nat×Bool)}
theorem Ud{f:Operand}{kB:FuncId}{args:List Value}{xs:List Operand}{ts:Array TypeId}{bx:Value→Heap→Prop}(hf:ev s f=some (.func (.func kB) #[] #[]))(hx:pU s xs=some args)
  (h:Fn P kB args.toArray H bx) (hk:∀v H',bx v H'→aP P n all .tD r (bn s dst (.val v)) H' K) (hg:ca all s gd=some true:=by rfl) (nb:Mode.tD.nb s dst=true:=by rfl):aP P n all .tD (⟨dst,.call ⟨.value f,xs.toArray,ts⟩,ty,pos,after,gd⟩::r) s H K:=
 .iK bx (.inl Eb) nb (Ea (cap:=[]) hf hx hg (by simpa using h)) trivial fun v H' hp _=>hk v H' hp
theorem Ue:∀(us:List Value)(A B:List Value)(p:Nat),(∀(i:Nat)(w:Value),A[i]? = some w→B[i]? = some w)→p+us.length≤A.length→∀(i:Nat)(w:Value),(aI A p us)[i]? = some w→(aI B p us)[i]? = some w:=by
 intro us
 induction us with
 | nil=>intro A B p h _ i w hw;exact h i w hw
 | cons x us ih=>
  intro A B p h hl i w hw
  simp only[List.length_cons]at hl
  refine ih (A.set p x) (B.set p x) (p+1) (fun i w hw=> ?_) (by simp;omega) i w hw
  by_cases e:i=p
  ·subst e
   have hA:i<A.length:=by omega
   have hB:i<B.length:=(List.getElem?_eq_some_iff.1 (h i _ (List.getElem?_eq_getElem hA))).1
   rw[List.getElem?_set_self hA]at hw
   rw[List.getElem?_set_self hB];exact hw
  ·rw[List.getElem?_set_ne (fun e'=>e e'.symm)]at hw⊢
   exact h i w hw
theorem ly{t:TypeId}{x y:Operand}{g o sz:Nat}{ent:Ent}{v:Value}{vs:List Value}{ii:TypeInfo}(eM:md = .plain∨md = .fV)(hx:ev s x=some (.pointer (some ⟨g,o,none⟩)))(hg:H g=some ent)(cn:ent.own=true)(gg:o+sz≤ent.xs.length)
  (vn:P.info? t=some ii) (cO:ii.size=sz) (hy:ev s y=some v) (hv:v.cells=vs.toArray) (jL:vs.length=sz) (h1:vs.all wW=true)
  (hk:aP P n all md r s (ins H g {ent with xs:=aI ent.xs o vs}) K) (qO:ca all s gd=some true:=by rfl):aP P n all md (⟨none,.store t x y,ty,pos,after,gd⟩::r) s H K:=by
 refine .iK (fun _ H'=>H'=ins H g {ent with xs:=aI ent.xs o vs}) (.inr (.inl rfl)) (by rcases eM with rfl | rfl <;> rfl) (fun a w ha hd=> ?_) (by rcases eM with rfl | rfl <;> first | trivial | exact .inl rfl) fun _ H' hH _=>by rw[hH];exact hk
 refine⟨jZ ha (ln (o:=⟨none,.store t x y,ty,pos,after,gd⟩) qO),?_⟩
 obtain⟨ob,h2,cur,fz,rfl,h3,h4,h5⟩:=hd g ent hg
 have qN:=h5 cn
 subst qN
 have Ee:cur=cur.toList.toArray:=by simp
 have hlen:ent.xs.length≤cur.toList.length:=by
  rcases Nat.eq_zero_or_pos ent.xs.length with h | h
  ·omega
  ·have hx:=h4 (ent.xs.length-1) _ (List.getElem?_eq_getElem (by omega))
   have:=(Array.getElem?_eq_some_iff.1 hx).1
   simp;omega
 rw[Ee]at h2
 obtain⟨w',h6,h7,h8,h9,jw,iN,zr⟩:=IA (P:=P) vs cur.toList w o 0 h2 (fun u hu=>List.all_eq_true.1 h1 u hu) (by omega)
 have hex:(execOp a.eval ⟨none,.store t x y,ty,pos,after,gd⟩).run P w = .ok .skip w':=by
  simp[execOp,bO ha hx,bO ha hy,Instr.storeAt,Instr.sureAddr,storeVar,sizeOf,typeInfo,vn,cO,hv,jL,h6]
 unfold lk
 rw[hex]
 refine⟨_,rfl,B5 (o:= .cells (aI cur.toList (o+0) vs).toArray ent.elem (0,0)) hd h7 h8 h9 (by omega) (fun q _ hq=>iN q hq) zr ⟨_,(0,0),rfl,?_,?_,fun _=>rfl⟩ (.inl ⟨_,hg,cn,cn,rfl,rfl⟩)⟩
 ·simp[D8,h3]
 ·intro q u hq
  have:=Ue vs ent.xs cur.toList o (fun i w hw=>by have:=h4 i w hw;simpa using this) (by omega) q u hq
  simpa using this
end
end Go.ar
namespace Go.ar
open Go.Proofs Num
def gX(xs:List Value)(i sz:Nat):List Value:=(xs.drop (i*sz)).take sz
theorem NA{xs:List Value}{i sz q:Nat}{v:Value}(h:(gX xs i sz)[q]? = some v):xs[i*sz+q]? = some v:=by
 unfold gX at h
 rw[List.getElem?_take]at h
 split at h
 ·rwa [List.getElem?_drop]at h
 ·cases h
theorem adw{xs:List Value}{i sz n:Nat}(h:xs.length=n*sz)(hi:i<n):(gX xs i sz).length=sz:=by
 unfold gX
 rw[List.length_take,List.length_drop,h]
 have:(i+1)*sz≤n*sz:=Nat.mul_le_mul_right _ hi
 rw[Nat.add_mul]at this
 omega
theorem Uf{xs ys:List Value}{i sz:Nat}(h:∀q,q<sz→xs[i*sz+q]? = ys[i*sz+q]?):gX xs i sz=gX ys i sz:=by
 apply List.ext_getElem?
 intro q
 unfold gX
 rw[List.getElem?_take,List.getElem?_take]
 split
 ·rename_i hq
  rw[List.getElem?_drop,List.getElem?_drop,h q hq]
 ·rfl
theorem Ug{xs:List Value}{i:Nat}{v:Value}(h:xs[i]? = some v):gX xs i 1 = [v]:=by
 apply List.ext_getElem?
 intro q
 unfold gX
 rw[List.getElem?_take,Nat.mul_one]
 split
 ·rename_i hq
  obtain rfl:q=0:=by omega
  rw[List.getElem?_drop,Nat.add_zero,h];rfl
 ·rename_i hq
  rw[List.getElem?_eq_none (by simp;omega)]
structure bC{α:Type}(P:List Value→α→Prop)(sz:Nat)(xs:List Value)(l:List α):Prop where
 len:xs.length=l.length*sz
 at_:∀(i:Nat)(a:α),l[i]? = some a→P (gX xs i sz) a
section
variable {α β:Type} {P:List Value→α→Prop} {sz:Nat} {xs ys:List Value} {l k:List α}
theorem bC.mono{P':List Value→α→Prop}(h:bC P sz xs l)(hp:∀vs a,P vs a→P' vs a):bC P' sz xs l:=⟨h.len,fun i a ha=>hp _ _ (h.at_ i a ha)⟩
theorem bC.get(h:bC P sz xs l){i:Nat}{a:α}(ha:l[i]? = some a):∃vs,vs.length=sz∧P vs a∧∀(q:Nat)(v:Value),vs[q]? = some v→xs[i*sz+q]? = some v:=
 ⟨gX xs i sz,adw h.len (List.getElem?_eq_some_iff.1 ha).1,h.at_ i a ha,fun _ _ hv=>NA hv⟩
theorem sI:bC P sz [] ([]:List α):=⟨by simp,fun i a h=>by simp at h⟩
theorem bC.append(h:bC P sz xs l)(h':bC P sz ys k):bC P sz (xs++ys) (l++k):=by
 refine⟨by rw[List.length_append,List.length_append,h.len,h'.len,Nat.add_mul],fun i a ha=> ?_⟩
 by_cases hi:i<l.length
 ·rw[List.getElem?_append_left hi]at ha
  have e:gX (xs++ys) i sz=gX xs i sz:=Uf fun q hq=>by
   have:(i+1)*sz≤l.length*sz:=Nat.mul_le_mul_right _ hi
   rw[Nat.add_mul]at this
   rw[List.getElem?_append_left (by rw[h.len];omega)]
  rw[e];exact h.at_ i a ha
 ·rw[List.getElem?_append_right (by omega)]at ha
  have e:gX (xs++ys) i sz=gX ys (i-l.length) sz:=by
   unfold gX
   have e1:i*sz=xs.length+(i-l.length)*sz:=by
    rw[h.len,←Nat.add_mul];congr 1;omega
   rw[e1,List.drop_append,List.drop_eq_nil_of_le (by omega),List.nil_append]
   congr 2;omega
  rw[e];exact h'.at_ _ a ha
theorem pb{vs:List Value}{a:α}(h:P vs a)(hl:vs.length=sz):bC P sz vs [a]:=by
 refine⟨by simp[hl],fun i b hb=> ?_⟩
 cases i with
 | zero=>
  simp only[List.getElem?_cons_zero,Option.some.injEq]at hb
  subst hb
  unfold gX
  rw[Nat.zero_mul,List.drop_zero,List.take_of_length_le (by omega)];exact h
 | succ i=>simp at hb
theorem NB:∀(vs xs:List Value)(off i:Nat),off+vs.length≤xs.length→(aI xs off vs)[i]? = if off≤i∧i<off+vs.length then vs[i-off]? else xs[i]? :=by
 intro vs
 induction vs with
 | nil=>intro xs off i _;simp only[aI,List.length_nil,Nat.add_zero];rw[if_neg (by omega)]
 | cons v vs ih=>
  intro xs off i h
  simp only[List.length_cons]at h
  simp only[aI,List.length_cons]
  rw[ih _ _ _ (by simp;omega)]
  by_cases e:i=off
  ·subst e
   rw[if_neg (by omega),if_pos (by omega),Nat.sub_self,List.getElem?_set_self (by omega)];rfl
  ·by_cases e2:off+1≤i∧i<off+1+vs.length
   ·rw[if_pos e2,if_pos (by omega)]
    have:i-off=(i-(off+1))+1:=by omega
    rw[this];rfl
   ·rw[if_neg e2,if_neg (by omega),List.getElem?_set_ne (by omega)]
theorem bC.set(h:bC P sz xs l){i:Nat}(hi:i<l.length){vs:List Value}{a:α}(hp:P vs a)(hv:vs.length=sz):bC P sz (aI xs (i*sz) vs) (l.set i a):=by
 have gg:(i+1)*sz≤l.length*sz:=Nat.mul_le_mul_right _ hi
 rw[Nat.add_mul,Nat.one_mul]at gg
 have hle:i*sz+vs.length≤xs.length:=by rw[h.len,hv];exact gg
 refine⟨by rw[D8,List.length_set];exact h.len,fun j b hb=> ?_⟩
 by_cases e:j=i
 ·subst e
  rw[List.getElem?_set_self hi]at hb
  cases hb
  have e:gX (aI xs (j*sz) vs) j sz=vs:=by
   apply List.ext_getElem?
   intro q
   unfold gX
   rw[List.getElem?_take]
   split
   ·rename_i hq
    rw[List.getElem?_drop,NB _ _ _ _ hle,if_pos (by omega)]
    congr 1;omega
   ·rw[List.getElem?_eq_none (by omega)]
  rw[e];exact hp
 ·rw[List.getElem?_set_ne (fun e'=>e e'.symm)]at hb
  have e:gX (aI xs (i*sz) vs) j sz=gX xs j sz:=Uf fun q hq=>by
   rw[NB _ _ _ _ hle,if_neg]
   intro⟨h1,h2⟩
   rw[hv]at h2
   rcases Nat.lt_or_gt_of_ne e with bU | TD
   ·have:(j+1)*sz≤i*sz:=Nat.mul_le_mul_right _ bU
    rw[Nat.add_mul]at this;omega
   ·have:(i+1)*sz≤j*sz:=Nat.mul_le_mul_right _ TD
    rw[Nat.add_mul]at this;omega
  rw[e];exact h.at_ j b hb
theorem adx{zs:List Value}{a:α}(hz:zs.length=sz)(hp:P zs a)(n:Nat):bC P sz (du zs (n*sz)) (List.replicate n a):=by
 refine⟨by rw[S4,List.length_replicate],fun i b hb=> ?_⟩
 rw[List.getElem?_replicate]at hb
 split at hb
 ·rename_i hi
  cases hb
  have e:gX (du zs (n*sz)) i sz=zs:=by
   apply List.ext_getElem?
   intro q
   unfold gX
   rw[List.getElem?_take]
   split
   ·rename_i hq
    rw[List.getElem?_drop,List.getElem?_eq_getElem (by omega:q<zs.length)]
    exact abb hz hi (List.getElem?_eq_getElem (by omega))
   ·rw[List.getElem?_eq_none (by omega)]
  rw[e];exact hp
 ·cases hb
theorem bC.one(h:bC P 1 xs l){i:Nat}{a:α}(ha:l[i]? = some a):∃v,xs[i]? = some v∧P [v] a:=by
 have bU:=(List.getElem?_eq_some_iff.1 ha).1
 have hi:i<xs.length:=by rw[h.len];omega
 refine⟨xs[i],List.getElem?_eq_getElem hi,?_⟩
 have:=h.at_ i a ha
 rwa [Ug (List.getElem?_eq_getElem hi)]at this
end
def aR{α:Type}(P:Heap→List Value→α→Prop)(sz:Nat)(H:Heap)(v:Value)(l:List α):Prop:=∃A c xs,v = .slice A l.length c∧l.length≤c∧Rd H A xs∧bC (P H) sz xs l
def Up{α:Type}(P:Heap→List Value→α→Prop):Prop:=∀H H' vs a,Heap.le H H'→P H vs a→P H' vs a
section
variable {α:Type} {P:Heap→List Value→α→Prop} {sz:Nat} {H H':Heap} {v:Value} {l:List α}
theorem aR.le(h:aR P sz H v l)(up:Up P)(hl:Heap.le H H'):aR P sz H' v l:=by
 obtain⟨A,c,xs,h1,h2,h3,h4⟩:=h
 exact⟨A,c,xs,h1,h2,h3.le hl,h4.mono fun vs a=>up H H' vs a hl⟩
def Jh{α:Type}(P:Heap→List Value→α→Prop)(e sz:Nat)(H:Heap)(v:Value)(l:List α):Prop:=∃xs,bP H v e sz l.length xs∧bC (P H) sz xs l
theorem Jh.sl{e:Nat}(h:Jh P e sz H v l):aR P sz H v l:=by
 obtain⟨xs,h1,h2⟩:=h
 obtain⟨A,c,rfl⟩:=h1.form
 refine⟨A,c,xs,rfl,?_,h1.rd,h2⟩
 rcases h1.2 with ⟨k1,k2⟩ | ⟨g,cap,k1,_,k3,_⟩
 ·omega
 ·cases k1;exact k3
end
def bE(H:Heap)(vs:List Value)(q:Rat):Prop:=
 ∃(n d:Int)(b:Option Addr),vs = [.int .i64 n,.int .i64 d,.pointer b]∧
  ((b=none∧n=q.num∧d=q.den∧-9223372036854775807≤n∧n≤9223372036854775807∧d≤9223372036854775807)∨
   ∃ad f u w,b=some ad∧bK H (.agg #[.bool f,u,w]) q∧cell H ad=some (.bool f)∧cell H (ad.add 1)=some u∧cell H (ad.add 2)=some w)
theorem bE.up:Up bE:=fun H H' vs q hl h=>by
 obtain⟨n,d,b,h1,h2⟩:=h
 refine⟨n,d,b,h1,?_⟩
 rcases h2 with h2 | ⟨ad,f,u,w,h2,h3,h4,h5,h6⟩
 ·exact .inl h2
 ·exact .inr ⟨ad,f,u,w,h2,h3.le hl,cF hl h4,cF hl h5,cF hl h6⟩
theorem bE.le{H H':Heap}{vs:List Value}{q:Rat}(h:bE H vs q)(hl:Heap.le H H'):bE H' vs q:=bE.up H H' vs q hl h
theorem bE.len{H:Heap}{vs:List Value}{q:Rat}(h:bE H vs q):vs.length=3:=by
 obtain⟨n,d,b,rfl,_⟩:=h;rfl
def qY(H:Heap)(q:Rat)(v:Value)(H':Heap):Prop:=Heap.le H H'∧∃vs,v = .agg vs.toArray∧bE H' vs q
theorem qY.le{H:Heap}{q:Rat}{v:Value}{H':Heap}(h:qY H q v H'):Heap.le H H':=h.1
theorem Uh(q:Rat):fo q=if q.num.natAbs=0 then 0 else if decide (q.num<0)then -1 else 1:=by
 have:=I9 (f:=decide (q.num<0)) (n:=q.num.natAbs) (d:=q.den) (Nat.pos_of_ne_zero q.den_nz)
 rwa [vA]at this
theorem Ji{q:Rat}{k:Nat}:aG q≤k↔q.num.natAbs<B^k∧q.den<B^k:=by
 unfold aG
 rw[Nat.max_le,iQ,iQ]
theorem Ui{q:Rat}{n:Int}{d k:Nat}(hd:0<d)(h:q=mkRat n d)(h1:n.natAbs<B^k)(h2:d<B^k):aG q≤k:=by
 obtain⟨m,hm,h3,h4⟩:=Rat.mkRat_num_den (n:=n) (d:=d) (by omega) (n':=q.num) (d':=q.den) (z':=q.den_nz) (c:=q.reduced) h.symm
 rw[Ji]
 refine⟨?_,?_⟩
 ·rw[h3,Int.natAbs_mul,Int.natAbs_natCast]at h1
  exact Nat.lt_of_le_of_lt (Nat.le_mul_of_pos_right _ (by omega)) h1
 ·rw[h4]at h2
  exact Nat.lt_of_le_of_lt (Nat.le_mul_of_pos_right _ (by omega)) h2
theorem Jj(q:Rat):q.num.natAbs<B^aG q∧q.den<B^aG q:=Ji.1 (Nat.le_refl _)
theorem vF(q:Rat):aG (-q)=aG q:=by unfold aG;rw[Rat.neg_num,Int.natAbs_neg,Rat.neg_den]
theorem pc(p q:Rat):aG (p*q)≤aG p+aG q:=by
 have h1:=Jj p
 have h2:=Jj q
 refine Ui (n:=p.num*q.num) (d:=p.den*q.den) (Nat.mul_pos (Nat.pos_of_ne_zero p.den_nz) (Nat.pos_of_ne_zero q.den_nz)) ?_ ?_ ?_
 ·rw[←Rat.mkRat_mul_mkRat,Rat.mkRat_self,Rat.mkRat_self]
 ·rw[Int.natAbs_mul,Nat.pow_add];exact Nat.mul_lt_mul'' h1.1 h2.1
 ·rw[Nat.pow_add];exact Nat.mul_lt_mul'' h1.2 h2.2
theorem NC(p q:Rat):aG (p+q)≤aG p+aG q+1:=by
 have h1:=Jj p
 have h2:=Jj q
 have hp:=Nat.pos_of_ne_zero p.den_nz
 have hq:=Nat.pos_of_ne_zero q.den_nz
 have hB:2*(B^aG p*B^aG q)≤B^(aG p+aG q+1):=by
  rw[Nat.pow_succ,Nat.pow_add,Nat.mul_comm 2];exact Nat.mul_le_mul_left _ (by decide)
 refine Ui (n:=p.num*q.den+q.num*p.den) (d:=p.den*q.den) (Nat.mul_pos hp hq) ?_ ?_ ?_
 ·rw[Rat.add_def']
 ·have h3:(p.num*q.den+q.num*p.den).natAbs≤p.num.natAbs*q.den+q.num.natAbs*p.den:=by
   have:=Int.natAbs_add_le (p.num*q.den) (q.num*p.den)
   rwa [Int.natAbs_mul,Int.natAbs_mul,Int.natAbs_natCast,Int.natAbs_natCast]at this
  have h4:=Nat.mul_lt_mul'' h1.1 h2.2
  have h5:=Nat.mul_lt_mul'' h2.1 h1.2
  rw[Nat.mul_comm (B^aG q)]at h5
  omega
 ·have h4:=Nat.mul_lt_mul'' h1.2 h2.2
  omega
theorem om(p q:Rat):aG (p-q)≤aG p+aG q+1:=by
 rw[Rat.sub_eq_add_neg]
 have:=NC p (-q)
 rwa [vF]at this
end Go.ar
