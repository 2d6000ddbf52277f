/- Part 3 of the proof: Nat9, Nat10, Nat11, Q, RDat, Rat1, Rat2, Rat3, Eng12, SDat. -/
import Derived.Test.YtfjncmjbhfdnpaaGreatA02
set_option linter.unusedVariables false
namespace Go.ay
open Go.Proofs Num
theorem Aj(H:Heap)(g:Nat)(lo w hi:List Nat)(N:Nat):Rd (ins H g (dD (lo++w++hi) N)) (some ⟨g,lo.length,none⟩) (U w):=fun i v hv=>by
 refine⟨_,rfl,?_⟩
 have bH:i<(U w).length:=(List.getElem?_eq_some_iff.1 hv).1
 have e:(⟨g,lo.length,none⟩:Addr).add i=⟨g,lo.length+i,none⟩:=by
  unfold Addr.add;split
  ·rename_i e0;rw[e0,Nat.add_zero]
  ·rfl
 rw[e]
 simp only[cell,bT,dD]
 rw[GM,GM,List.append_assoc,List.getElem?_append_right (by rw[xU];omega),xU,Nat.add_sub_cancel_left,List.getElem?_append_left bH]
 exact hv
theorem GV{H:Heap}{g N k:Nat}{lo w hi:List Nat}{a:Int}{y:Nat}(h:a=y)(hk:k<w.length):ins (ins H g (dD (lo++w++hi) N)) g {dD (lo++w++hi) N with xs:=aF (dD (lo++w++hi) N).xs (lo.length+k*1) [.int .u32 a]}=ins H g (dD (lo++w.set k y++hi) N):=by
 subst h
 rw[vj]
 simp only[dD,aF,Nat.mul_one]
 congr 2
 rw[Ko]
 congr 1
 rw[List.append_assoc,List.set_append_right _ _ (by omega),Nat.add_sub_cancel_left,List.set_append_left _ _ hk,List.append_assoc]
theorem Ku{a b:List Nat}{i:Nat}(h:a.drop i=b.drop i):a[i]? = b[i]? :=by
 have:=congrArg (·[0]?) h
 simpa using this
theorem drop_set{a b:List Nat}{i y:Nat}(h:a.drop i=b.drop i):(a.set i y).drop (i+1)=b.drop (i+1):=by
 rw[List.drop_set_of_lt (Nat.lt_succ_self _)]
 have:=congrArg (List.drop 1) h
 simpa [List.drop_drop]using this
theorem Zo{H:Heap}{g N:Nat}{lo w hi b:List Nat}{c c' top:Nat}{A':Option Addr}(hg:H g=none)(hr:Rd H A' (U b))(x6:w.length=b.length+1)(aW:2≤b.length)(tm:(b.length:Int)≤8796093022208)(vJ:Lt w)(fP:Lt b)(Ah:b[b.length-1]? = some top)(Kv:0<top)(hq:val w<B*val b):
 Fn Tryz.prog 225 #[.slice (some ⟨g,lo.length,none⟩) (b.length+1) c,.slice A' b.length c'] (ins H g (dD (lo++w++hi) N)) (fun v H'=>∃w',H'=ins H g (dD (lo++w'++hi) N)∧w'.length=w.length∧Lt w'∧val w'=val w%val b∧v = .int .u32 ((val w/val b:Nat):Int)):=by
 obtain⟨k,hk⟩:∃k,b.length=k+2:=⟨b.length-2,by omega⟩
 have pY:=fun e=>hr.le (Heap.bC (g:=g) e hg)
 have tE:((b.length:Int)-1).toNat=k+1:=by omega
 have x8:((b.length:Int)-2).toNat=k:=by omega
 rw[show b.length-1=k+1 by omega]at Ah
 obtain⟨next,Db⟩:∃x,b[k]? = some x:=⟨_,List.getElem?_eq_getElem (by omega)⟩
 obtain⟨u2,eY⟩:∃x,w[k]? = some x:=⟨_,List.getElem?_eq_getElem (by omega)⟩
 obtain⟨u1,ep⟩:∃x,w[k+1]? = some x:=⟨_,List.getElem?_eq_getElem (by omega)⟩
 obtain⟨un,pZ⟩:∃x,w[b.length]? = some x:=⟨_,List.getElem?_eq_getElem (by omega)⟩
 have Kw:=fP.get Ah
 have PT:=fP.get Db
 have Zp:=vJ.get eY
 have Zq:=vJ.get ep
 have Zr:=vJ.get pZ
 have hV:=Zi hk Db Ah
 have hW:=Zh (by omega) eY ep (by rw[←hk];exact pZ)
 have iu:=Ai fP (k:=k) (by omega)
 have Zs:=Ai vJ (k:=k) (by omega)
 have Zt:=Ze hV hW iu PT hq
 have Zu:=rV fP
 have De:0<val b:=by
  rcases Nat.eq_zero_or_pos (val b)with e | e
  ·rw[e,Nat.mul_zero]at hq;omega
  ·exact e
 have Zv:val w/val b<B:=Nat.div_lt_of_lt_mul (by rwa [Nat.mul_comm]at hq)
 obtain⟨q,ya⟩:∃q,q=val w/val b:=⟨_,rfl⟩
 rw[←ya]at Zv⊢
 have PU:val w=val (w.take b.length)+B^b.length*un:=by rw[←jV pZ,List.take_of_length_le (by omega)]
 have hB:=cz
 rw[cz]at Kw PT Zp Zq Zr;refine aU (args:=[_,_]) Tryz.func225 rfl rfl Tryz.ntmps225 rfl rfl fun w0=> ?_;refine ag [0,1] rfl ?_;refine ae ?_;refine vr 1 ?_;refine ab [0,1] ?_;refine ae ?_;refine vr 3 ?_;refine ab [0,1,5] ?_;refine bL .bn [0,1,2,3,4,5,6,7,8,9,10,11,12,13] follows (by kernel_rfl) ?_;refine vr 2 ?_;refine eo rfl rfl ⟨by omega,by omega⟩ ?_;refine a6 af rfl rfl rfl rfl rfl (pY _) (by rw[tE];exact dA Ah) (by omega) (by omega) fun _=> ?_;refine dr af rfl rfl rfl ⟨by omega,by omega⟩ ?_;refine vr 2 ?_;refine eo rfl rfl ⟨by omega,by omega⟩ ?_;refine a6 af rfl rfl rfl rfl rfl (pY _) (by rw[x8];exact dA Db) (by omega) (by omega) fun _=> ?_;refine dr af rfl rfl rfl ⟨by omega,by omega⟩ ?_;refine vr 2 ?_;refine ab [0,1,5,6,7] ?_;refine bL .bn [0,1,2,3,4,5,6,7,8,9,10,11,12,13] follows (by kernel_rfl) ?_;refine vr 2 ?_;refine a6 af rfl rfl rfl rfl rfl (Aj _ _ _ _ _ _) (dA pZ) (by omega) (by omega) fun _=> ?_;refine dr af rfl rfl rfl ⟨by omega,by omega⟩ ?_;refine jh rfl rfl ⟨by omega,by omega⟩ ?_;refine vr 2 ?_;refine eo rfl rfl ⟨by omega,by omega⟩ ?_;refine a6 af rfl rfl rfl rfl rfl (Aj _ _ _ _ _ _) (by rw[tE];exact dA ep) (by omega) (by omega) fun _=> ?_
 refine dr af rfl rfl rfl ⟨by omega,by omega⟩ ?_;refine aN rfl rfl ⟨by omega,by omega⟩ ?_;refine vr 1 ?_;refine ab [0,1,5,6,7,8] ?_;have m9:0≤((un:Int)*1000000000+(u1:Int))/(top:Int):=Int.ediv_nonneg (by omega) (by omega);have qN:((un:Int)*1000000000+(u1:Int))/(top:Int)≤(un:Int)*1000000000+(u1:Int):=Int.ediv_le_self _ (by omega);refine bL .bn [0,1,2,3,4,5,6,7] follows (by kernel_rfl) ?_;refine vr 2 ?_;refine lx rfl rfl (by omega) (by omega) ⟨by omega,by omega⟩ ?_;refine vr 2 ?_;refine gj rfl rfl (by omega) (by omega) ?_;refine vr 2 ?_;refine ab [0,1,5,6,7,9,10] ?_;refine mz (fun(bg:Nat)=>put (put (put (put (emp) 0 (.val (.slice (some ⟨g,lo.length,none⟩) (b.length+1) c))) 1 (.val (.slice A' b.length c'))) 5 (.val (.int .i64 (b.length:Int)))) 9 (.val (.int .u64 (bg:Int)))) (fun(bg:Nat) H'=>H'=ins H g (dD (lo++w++hi) N)∧q≤bg∧bg≤q+1∧bg<1000000000) ?_ ?_
 ·
  refine aD ?_
  refine jT (fun(bg:Nat)(rest:Nat)=>bg) (fun(bg:Nat)(rest:Nat)=>put (put (put (put (put (put (put (emp) 0 (.val (.slice (some ⟨g,lo.length,none⟩) (b.length+1) c))) 1 (.val (.slice A' b.length c'))) 5 (.val (.int .i64 (b.length:Int)))) 6 (.val (.int .u64 (top:Int)))) 7 (.val (.int .u64 (next:Int)))) 9 (.val (.int .u64 (bg:Int)))) 10 (.val (.int .u64 (rest:Int)))) (fun(bg:Nat)(rest:Nat) H'=>H'=ins H g (dD (lo++w++hi) N)∧bg*top+rest=un*B+u1∧q≤bg∧bg≤un*1000000000+u1∧rest≤2000000000) ((un*1000000000+u1)/top) ((un*1000000000+u1)%top) (⟨rfl,by rw[cz,Nat.mul_comm];exact Nat.div_add_mod _ _,by
   have h1:=Nat.div_add_mod (un*B+u1) top;have h2:=Nat.mod_lt (un*B+u1) Kv
   have h3:val w<((un*B+u1)/top+1)*val b:=by
    have e1:B^k*(B*(un*B+u1))+B^k*B≤B^k*(B*(((un*B+u1)/top+1)*top)):=by
     rw[←Nat.mul_add];refine Nat.mul_le_mul_left _ ?_;rw[←Nat.mul_succ];refine Nat.mul_le_mul_left _ ?_;rw[Nat.add_mul,Nat.one_mul,Nat.mul_comm _ top];omega
    have e2:((un*B+u1)/top+1)*(B^k*(B*top))≤((un*B+u1)/top+1)*val b:=Nat.mul_le_mul_left _ (by rw[hV,Nat.mul_add (B^k)];omega)
    have e3:((un*B+u1)/top+1)*(B^k*(B*top))=B^k*(B*(((un*B+u1)/top+1)*top)):=by rw[Nat.mul_left_comm _ (B^k),Nat.mul_left_comm _ B]
    have e4:val w<B^k*(B*(un*B+u1))+B^k*B:=by
     have:B^k*(u2+1)≤B^k*B:=Nat.mul_le_mul_left _ (by omega);rw[hW,Nat.mul_add (B^k)];rw[Nat.mul_add (B^k)]at this;omega
    omega
   have h4:=Ks ya h3
   rw[cz]at h4;omega,Nat.div_le_self _ _,by have:=Nat.mod_lt (un*1000000000+u1) Kv;omega⟩) au ?_
  rintro bg rest H1 ⟨rfl,eU,Df,hgu,pW⟩;refine al ?_
  by_cases hrB:rest<1000000000
  by_cases GU:bg<1000000000
  ·
   skip
   refine ae ?_;refine vr 1 ?_;refine ax true rfl rfl (mA (by omega)) ?_;refine vr 2 ?_;refine ax false rfl rfl (Kn (by omega)) ?_;refine vr 3 ?_;have GW:bg*next≤999999999*999999999:=Nat.mul_le_mul (by omega) (by omega)
   have afW:(bg:Int)*(next:Int)=((bg*next:Nat):Int):=by simp
   refine jh rfl rfl ⟨by omega,by omega⟩ ?_;refine vr 1 ?_;refine jh rfl rfl ⟨by omega,by omega⟩ ?_;refine vr 2 ?_;refine eo rfl rfl ⟨by omega,by omega⟩ ?_;refine a6 af rfl rfl rfl rfl rfl (Aj _ _ _ _ _ _) (by rw[x8];exact dA eY) (by omega) (by omega) fun _=> ?_;refine dr af rfl rfl rfl ⟨by omega,by omega⟩ ?_;refine aN rfl rfl ⟨by omega,by omega⟩ ?_;refine vr 3 ?_;refine ab [0,1,5,6,7,9,10,71] ?_;refine az rfl (fun hb=> ?_) (fun hb=> ?_)
   ·
    have hb:rest*1000000000+u2<bg*next:=by simp at hb;omega
    have PV:=Ks ya (Zc hV hW Zs eU (by rw[cz];omega));refine aw ?_;refine ag [0,1,5,6,7,9,10] rfl ?_;refine aD ?_;refine ae ?_;refine vr 1 ?_;refine eo rfl rfl ⟨by omega,by omega⟩ ?_;refine vr 1 ?_;refine ab [0,1,5,6,7,9,10] ?_;refine aE rfl ?_;refine vr 2 ?_;refine aN rfl rfl ⟨by omega,by omega⟩ ?_;refine vr 1 ?_;refine aA ?_;exact⟨bg-1,rest+top,by omega,au,rfl,PR eU (by omega),by omega,by omega,by omega⟩
   ·
    have hb:bg*next≤rest*1000000000+u2:=by simp at hb;omega
    refine bB ?_;exact⟨bg,au,rfl,Df,Zg ya De (Zd hV hW iu Kv eU (by rw[cz];omega) (by omega)),GU⟩
  ·
   skip
   refine ae ?_;refine vr 1 ?_;refine ax true rfl rfl (mA (by omega)) ?_;refine vr 2 ?_;refine ax true rfl rfl (Km (by omega)) ?_;refine vr 16 ?_;refine ab [0,1,5,6,7,9,10,71] ?_;refine cD rfl ?_;refine aw ?_;refine ag [0,1,5,6,7,9,10] rfl ?_;refine aD ?_;refine ae ?_;refine vr 1 ?_;refine eo rfl rfl ⟨by omega,by omega⟩ ?_;refine vr 1 ?_;refine ab [0,1,5,6,7,9,10] ?_;refine aE rfl ?_;refine vr 2 ?_;refine aN rfl rfl ⟨by omega,by omega⟩ ?_;refine vr 1 ?_;refine aA ?_;exact⟨bg-1,rest+top,by omega,au,rfl,PR eU (by omega),by omega,by omega,by omega⟩
  ·
   skip
   refine ae ?_;refine vr 1 ?_;refine ax false rfl rfl (jw (by omega)) ?_;refine vr 19 ?_;refine ab [0,1,5,6,7,9,10,71] ?_;refine dg rfl ?_;refine bB ?_;have vK:=Zf hV hW iu (by omega) Zt eU (by omega);exact⟨bg,au,rfl,Df,by have:=(Nat.le_div_iff_mul_le De).2 vK.2;rw[←ya]at this;omega,by omega⟩
 ·
  rintro bg H2 ⟨rfl,cn,bK,GU⟩;refine ae ?_;refine vr 1 ?_;refine ab [0,1,5,9,11] ?_;refine al ?_;refine ae ?_;refine vr 2 ?_;refine ab [0,1,5,9,11,77,78] ?_;refine aD ?_;refine jv (fun(i:Nat)(w1:List Nat)(br:Nat)=>b.length-i) (fun(i:Nat)(w1:List Nat)(br:Nat)=>put (put (put (put (put (put (put (emp) 0 (.val (.slice (some ⟨g,lo.length,none⟩) (b.length+1) c))) 1 (.val (.slice A' b.length c'))) 5 (.val (.int .i64 (b.length:Int)))) 9 (.val (.int .u64 (bg:Int)))) 11 (.val (.int .i64 (br:Int)))) 77 (.val (.int .i64 (b.length:Int)))) 78 (.val (.int .i64 (i:Int)))) (fun(i:Nat)(w1:List Nat)(br:Nat) H'=>H'=ins H g (dD (lo++w1++hi) N)∧i≤b.length∧w1.length=w.length∧Lt w1∧w1.drop i=w.drop i∧br≤1000000000∧val (w.take i)+B^i*br=val (w1.take i)+bg*val (b.take i)) 0 w 0 (⟨rfl,by omega,rfl,vJ,rfl,by omega,by simp[val]⟩) au ?_;rintro i w1 br H1 ⟨rfl,Kx,GX,Dg,lC,rZ,hv⟩;refine ae ?_;refine vr 1 ?_;refine ab [0,1,5,9,11,77,78,79] ?_;refine al ?_;refine az rfl (fun hb=> ?_) (fun hb=> ?_)
  ·
   have hb:i<b.length:=by simpa using hb
   obtain⟨d,hd⟩:∃d,w[i]? = some d:=⟨_,List.getElem?_eq_getElem (by omega)⟩;obtain⟨p,hp⟩:∃p,b[i]? = some p:=⟨_,List.getElem?_eq_getElem (by omega)⟩;have kR:=vJ.get hd;have vG:=fP.get hp;rw[cz]at kR vG
   have eJ:w1[i]? = some d:=by rw[Ku lC];exact hd
   have hgp:bg*p≤999999999*999999999:=Nat.mul_le_mul (by omega) (by omega)
   have afX:(bg:Int)*(p:Int)=((bg*p:Nat):Int):=by simp
   refine aw ?_;refine ag [0,1,5,9,11,77,78] rfl ?_;refine al ?_;refine aD ?_;refine ae ?_;refine vr 2 ?_;refine ab [0,1,5,9,11,12,77,78] ?_;refine bL .bn [0,1,2,3,4,5,6,7,8,9,10,11,12,13,14,15,16,17] follows (by kernel_rfl) ?_;refine vr 2 ?_;refine a6 af rfl rfl rfl rfl rfl (Aj _ _ _ _ _ _) (dA eJ) (by omega) (by omega) fun _=> ?_;refine dr af rfl rfl rfl ⟨by omega,by omega⟩ ?_;refine vr 1 ?_;refine eo rfl rfl ⟨by omega,by omega⟩ ?_;refine vr 3 ?_;refine a6 af rfl rfl rfl rfl rfl (pY _) (dA hp) (by omega) (by omega) fun _=> ?_;refine dr af rfl rfl rfl ⟨by omega,by omega⟩ ?_;refine jh rfl rfl ⟨by omega,by omega⟩ ?_;refine gj rfl rfl (by omega) (by omega) ?_;refine dr af rfl rfl rfl ⟨by omega,by omega⟩ ?_;refine eo rfl rfl ⟨by omega,by omega⟩ ?_;refine vr 1 ?_;refine ab [0,1,5,9,12,13,77,78] ?_;refine ae ?_;refine vr 3 ?_;refine a6 af rfl rfl rfl rfl rfl (pY _) (dA hp) (by omega) (by omega) fun _=> ?_;refine dr af rfl rfl rfl ⟨by omega,by omega⟩ ?_;refine jh rfl rfl ⟨by omega,by omega⟩ ?_;refine lx rfl rfl (by omega) (by omega) ⟨by omega,by omega⟩ ?_;refine dr af rfl rfl rfl ⟨by omega,by omega⟩ ?_;refine vr 1 ?_;refine ab [0,1,5,9,11,12,13,77,78] ?_;refine al ?_
   refine aD ?_;refine ft (fun(t:Nat)=>3-t) (fun(t:Nat)=>put (put (put (put (put (put (put (put (put (emp) 0 (.val (.slice (some ⟨g,lo.length,none⟩) (b.length+1) c))) 1 (.val (.slice A' b.length c'))) 5 (.val (.int .i64 (b.length:Int)))) 9 (.val (.int .u64 (bg:Int)))) 11 (.val (.int .i64 ((bg*p/1000000000+t:Nat):Int)))) 12 (.val (.int .i64 (i:Int)))) 13 (.val (.int .i64 ((d:Int)-br-((bg*p%1000000000:Nat):Int)+t*1000000000)))) 77 (.val (.int .i64 (b.length:Int)))) 78 (.val (.int .i64 (i:Int)))) (fun(t:Nat) H'=>H'=ins H g (dD (lo++w1++hi) N)∧t≤2∧(d:Int)-br-((bg*p%1000000000:Nat):Int)+t*1000000000<1000000000) 0 (⟨rfl,by omega,by omega⟩) au ?_;rintro t H1 ⟨rfl,ht,hsB⟩;refine al ?_;refine ae ?_;refine vr 2 ?_;refine ab [0,1,5,9,11,12,13,77,78,108] ?_;refine az rfl (fun hb=> ?_) (fun hb=> ?_)
   ·
    simp at hb
    refine aw ?_;refine ag [0,1,5,9,11,12,13,77,78] rfl ?_;refine aD ?_;refine ae ?_;refine vr 1 ?_;refine aN rfl rfl ⟨by omega,by omega⟩ ?_;refine vr 1 ?_;refine ab [0,1,5,9,11,12,13,77,78] ?_;refine aE rfl ?_;refine vr 1 ?_;refine aN rfl rfl ⟨by omega,by omega⟩ ?_;refine vr 1 ?_;refine aA ?_;exact⟨t+1,by omega,au,rfl,by omega,by omega⟩
   ·
    simp at hb
    refine bB ?_;refine ag [0,1,5,9,11,12,13,77,78] rfl ?_;refine aE rfl ?_;refine vr 3 ?_;refine dr af rfl rfl rfl ⟨by omega,by omega⟩ ?_;obtain⟨ti,aj,ak⟩:=nm;refine eB (.inl rfl) af rfl rfl rfl (by omega) (by omega) (bT _ _ _) rfl (by rw[nr];simp;omega) aj ak (fun _=>rfl) rfl rfl rfl fun _=> ?_;refine aA ?_;refine ag [0,1,5,9,11,77,78] rfl ?_;refine aE rfl ?_;refine aN rfl rfl ⟨by omega,by omega⟩ ?_;refine vr 1 ?_;refine aA ?_;obtain⟨y,hy⟩:∃y:Nat,(y:Int)=(d:Int)-br-((bg*p%1000000000:Nat):Int)+t*1000000000:=⟨((d:Int)-br-((bg*p%1000000000:Nat):Int)+t*1000000000).toNat,by omega⟩;have dH:=C4 (o:=w1.take i) (s:=y) (br':=bg*p/1000000000+t) (d:=d) (e:=bg*p) (ta':=val (w.take (i+1))) (tb':=bg*val (b.take (i+1))) (by simp;omega) hv (by rw[cz];omega) (jV hd) (by rw[jV hp,Nat.mul_add,Nat.mul_left_comm]);rw[←vI (by omega)]at dH;exact⟨i+1,w1.set i y,bg*p/1000000000+t,by omega,au,by rw[GV (y:=y) hy.symm (by rw[Int.toNat_natCast];omega)];rfl,by omega,by simp[GX],Dg.set (by rw[cz];omega),drop_set lC,by omega,dH⟩
  ·
   have hb:b.length≤i:=by simpa using hb
   obtain rfl:i=b.length:=by omega
   rw[List.take_length]at hv
   have gm:w1[b.length]? = some un:=by rw[Ku lC];exact pZ
   refine bB ?_;refine ag [0,1,5,9,11] rfl ?_;refine ae ?_;refine vr 2 ?_;refine a6 af rfl rfl rfl rfl rfl (Aj _ _ _ _ _ _) (dA gm) (by omega) (by omega) fun _=> ?_;refine dr af rfl rfl rfl ⟨by omega,by omega⟩ ?_;refine vr 1 ?_;refine eo rfl rfl ⟨by omega,by omega⟩ ?_;refine vr 1 ?_;refine ab [0,1,5,9,14] ?_;refine al ?_;refine ae ?_;refine vr 2 ?_;refine ab [0,1,5,9,14,127] ?_;refine az rfl (fun hb=> ?_) (fun hb=> ?_)
   ·
    have hb:br≤un:=by simp at hb;omega
    obtain⟨jG,kj⟩:=Zj PU hv hb ya cn De;refine ae ?_;refine vr 3 ?_;refine dr af rfl rfl rfl ⟨by omega,by omega⟩ ?_;obtain⟨ti,aj,ak⟩:=nm;refine eB (.inl rfl) af rfl rfl rfl (by omega) (by omega) (bT _ _ _) rfl (by rw[nr];simp;omega) aj ak (fun _=>rfl) rfl rfl rfl fun _=> ?_;refine ab [9] ?_;refine ae ?_;refine vr 1 ?_;refine dr af rfl rfl rfl ⟨by omega,by omega⟩ ?_;refine vr 1 ?_;refine ab [4] ?_;refine aq ⟨.inr rfl,_,.tmp rfl (.nil),?_⟩;refine⟨w1.set b.length (un-br),by rw[GV (y:=un-br) (by omega) (by rw[Int.toNat_natCast];omega)];rfl,by simp[GX],Dg.set (by rw[cz];omega),?_,by rw[←jG];rfl⟩;rw[←kj,←List.take_length (l:=w1.set b.length (un-br)),List.length_set,GX,x6,vI (by omega),pT,List.length_take,Nat.min_eq_left (by omega)]
   ·
    have hb:un<br:=by simp at hb;omega
    refine aw ?_;refine ag [0,1,5,9,14] rfl ?_;refine ae ?_;refine vr 1 ?_;refine ab [0,1,5,9,14,15] ?_;refine al ?_;refine ae ?_;refine vr 2 ?_;refine ab [0,1,5,9,14,15,135,136] ?_;refine aD ?_;refine jv (fun(i:Nat)(w2:List Nat)(cr:Nat)=>b.length-i) (fun(i:Nat)(w2:List Nat)(cr:Nat)=>put (put (put (put (put (put (put (put (emp) 0 (.val (.slice (some ⟨g,lo.length,none⟩) (b.length+1) c))) 1 (.val (.slice A' b.length c'))) 5 (.val (.int .i64 (b.length:Int)))) 9 (.val (.int .u64 (bg:Int)))) 14 (.val (.int .i64 ((un:Int)-br)))) 15 (.val (.int .u32 (cr:Int)))) 135 (.val (.int .i64 (b.length:Int)))) 136 (.val (.int .i64 (i:Int)))) (fun(i:Nat)(w2:List Nat)(cr:Nat) H'=>H'=ins H g (dD (lo++w2++hi) N)∧i≤b.length∧w2.length=w.length∧Lt w2∧w2.drop i=w1.drop i∧cr≤1∧val (w2.take i)+B^i*cr=val (w1.take i)+val (b.take i)) 0 w1 0 (⟨rfl,by omega,GX,Dg,rfl,by omega,by simp[val]⟩) au ?_;rintro i w2 cr H1 ⟨rfl,afY,Ky,Kz,PW,fO,dI⟩;refine ae ?_;refine vr 1 ?_;refine ab [0,1,5,9,14,15,135,136,137] ?_;refine al ?_;refine az rfl (fun hb=> ?_) (fun hb=> ?_)
    ·
     have hb:i<b.length:=by simpa using hb
     obtain⟨d,hd⟩:∃d,w1[i]? = some d:=⟨_,List.getElem?_eq_getElem (by omega)⟩;obtain⟨p,hp⟩:∃p,b[i]? = some p:=⟨_,List.getElem?_eq_getElem (by omega)⟩;have kR:=Dg.get hd;have vG:=fP.get hp;rw[cz]at kR vG
     have jH:w2[i]? = some d:=by rw[Ku PW];exact hd
     refine aw ?_;refine ag [0,1,5,9,14,15,135,136] rfl ?_;refine al ?_;refine aD ?_;refine ae ?_;refine vr 2 ?_;refine ab [0,1,5,9,14,15,16,135,136] ?_;refine bL .bn [0,1,2,3,4,5,6,7,8,9,10,11] follows (by kernel_rfl) ?_;refine vr 2 ?_;refine a6 af rfl rfl rfl rfl rfl (Aj _ _ _ _ _ _) (dA jH) (by omega) (by omega) fun _=> ?_;refine vr 2 ?_;refine a6 af rfl rfl rfl rfl rfl (pY _) (dA hp) (by omega) (by omega) fun _=> ?_;refine aN rfl rfl ⟨by omega,by omega⟩ ?_;refine vr 1 ?_;refine aN rfl rfl ⟨by omega,by omega⟩ ?_;refine vr 1 ?_;refine ab [0,1,5,9,14,16,17,135,136] ?_;refine ae ?_;refine vr 1 ?_;refine lx rfl rfl (by omega) (by omega) ⟨by omega,by omega⟩ ?_;refine vr 1 ?_;refine ab [0,1,5,9,14,15,16,17,135,136] ?_;refine aE rfl ?_;refine vr 3 ?_;refine gj rfl rfl (by omega) (by omega) ?_;obtain⟨ti,aj,ak⟩:=nm;refine eB (.inl rfl) af rfl rfl rfl (by omega) (by omega) (bT _ _ _) rfl (by rw[nr];simp;omega) aj ak (fun _=>rfl) rfl rfl rfl fun _=> ?_;refine aA ?_;refine ag [0,1,5,9,14,15,135,136] rfl ?_;refine aE rfl ?_;refine aN rfl rfl ⟨by omega,by omega⟩ ?_;refine vr 1 ?_;refine aA ?_;have dH:=zZ (o:=w2.take i) (s:=d+p+cr) (a:=cr) (b:=d+p) (u:=val (w1.take (i+1))+val (b.take (i+1))) (by simp;omega) dI (by omega) (by rw[jV hd,jV hp,Nat.mul_add];omega)
     rw[←vI (by omega)]at dH;exact⟨i+1,w2.set i ((d+p+cr)%B),(d+p+cr)/B,by omega,au,by rw[GV (y:=(d+p+cr)%B) (by rw[cz];omega) (by rw[Int.toNat_natCast];omega)];rfl,by omega,by simp[Ky],Kz.set (Nat.mod_lt _ lN),drop_set PW,by rw[cz];omega,dH⟩
    ·
     have hb:b.length≤i:=by simpa using hb
     obtain rfl:i=b.length:=by omega
     rw[List.take_length]at dI;obtain⟨jG,kj,vu⟩:=Zk PU hv (by omega) ya bK De Zu (Ai Dg (by omega)) (Ai Kz (by omega)) dI;refine bB ?_;refine ag [0,5,9,14,15] rfl ?_;refine ae ?_;refine vr 4 ?_;refine dr af rfl rfl rfl ⟨by omega,by omega⟩ ?_;refine aN rfl rfl ⟨by omega,by omega⟩ ?_;refine dr af rfl rfl rfl ⟨by omega,by omega⟩ ?_;obtain⟨ti,aj,ak⟩:=nm;refine eB (.inl rfl) af rfl rfl rfl (by omega) (by omega) (bT _ _ _) rfl (by rw[nr];simp;omega) aj ak (fun _=>rfl) rfl rfl rfl fun _=> ?_;refine ab [9] ?_;refine ae ?_;refine vr 1 ?_;refine eo rfl rfl ⟨by omega,by omega⟩ ?_;refine dr af rfl rfl rfl ⟨by omega,by omega⟩ ?_;refine vr 1 ?_;refine ab [4] ?_;refine aq ⟨.inr rfl,_,.tmp rfl (.nil),?_⟩;refine⟨w2.set b.length 0,by rw[GV (y:=0) (by omega) (by rw[Int.toNat_natCast];omega)];rfl,by simp[Ky],Kz.set (by rw[cz];omega),?_,by rw[show (bg:Int)-1=(q:Int) by omega];rfl⟩;rw[←vu,←List.take_length (l:=w2.set b.length 0),List.length_set,Ky,x6,vI (by omega),pT,Nat.mul_zero,Nat.add_zero]
end Go.ay
namespace Go.ay
open Go.Proofs Num
theorem yb{H:Heap}{g g':Nat}{e:aQ}(h:ins H g e g'=none):g'≠g∧H g'=none:=by
 by_cases e0:g'=g
 ·subst e0;rw[bT]at h;cases h
 ·rw[bP _ _ e0]at h;exact⟨e0,h⟩
theorem KA{y:Nat}(h:0<y):ah y≠[]:=fun e=>by
 have:=cU y
 rw[e]at this
 simp[val]at this
 omega
theorem KB{y:Nat}(h:0<y):B^((ah y).length-1)≤y:=by
 have:=(fj y).pos (KA h)
 rwa [cU]at this
def PX(H:Heap)(x y:Nat)(v:Value)(H':Heap):Prop:=Heap.le H H'∧∃q r,v = .tuple #[q,r]∧dh H' q (x/y)∧dh H' r (x%y)
theorem GY{H:Heap}{u v:Value}{x y:Nat}(hx:dh H u x)(hy:dh H v y)(iE:0<y)(hm:((ah x).length:Int)<8796093022208):
 Fn Tryz.prog 210 #[u,v] H (PX H x y):=by
 obtain⟨A,c,rfl,hc,hr⟩:=hx
 obtain⟨A',c',rfl,jg,dd⟩:=hy
 have iI:=(fj x).lt
 have fP:=(fj y).lt
 have Zw:=KB iE
 have Zx:(ah y).length≠0:=fun e=>KA iE (List.eq_nil_of_length_eq_zero e);refine aU (args:=[_,_]) Tryz.func210 rfl rfl Tryz.ntmps210 rfl rfl fun w0=> ?_;refine ag [0,1] rfl ?_;refine ae ?_;refine vr 2 ?_;refine ab [0,1] ?_;refine al ?_;refine ae ?_;refine vr 2 ?_;refine ar rfl rfl (PH hr dd (by omega)) ?_;rintro v1 H1 ⟨e1,rfl⟩;rw[e1];refine vr 1 ?_;refine ab [0,1,19] ?_;refine az rfl (fun hb=> ?_) (fun hb=> ?_)
 ·
  have tF:x<y:=by unfold jk at hb;simp at hb;split at hb <;> (try split at hb) <;> simp_all
  refine ae ?_;refine vr 1 ?_;refine eW Tryz.underlying177 dX rfl rfl (vF _) (hr) (by rw[xU,Nat.mul_one]) (nn _) (by simp;omega) (by simp;omega) ?_;intro v1 H2 ha;refine vr 2 ?_;refine ab [4,5] ?_;refine aq ⟨.inr rfl,_,.tmp rfl (.tmp rfl (.nil)),?_⟩
  have h1:dh H2 v1 x:=by
   have:=(App.nZ (a:=[]) ha rfl rfl).lim
   simpa [dh]using this
  exact⟨ha.le,_,_,rfl,by rw[Nat.div_eq_of_lt tF];exact tz H2,by rw[Nat.mod_eq_of_lt tF];exact h1⟩
 ·
  have tF:y≤x:=by unfold jk at hb;simp at hb;split at hb <;> (try split at hb) <;> simp_all <;> omega
  have hlen:=lB tF;refine aw ?_;refine ag [0,1] rfl ?_;refine al ?_;refine ae ?_;refine vr 3 ?_;refine ab [0,1,24] ?_;refine az rfl (fun hb=> ?_) (fun hb=> ?_)
  ·
   have hb:(ah y).length=1:=by simp at hb;omega
   have yc:(ah y)[0]? = some y:=by
    obtain⟨z,hz⟩:=List.length_eq_one_iff.1 hb;have:=cU y;rw[hz]at this⊢
    simp[val]at this
    simp[this]
   have Dh:=fP.get yc;rw[cz]at Dh;refine ae ?_;refine vr 2 ?_;refine a6 af rfl rfl rfl rfl rfl (dd) (dA yc) (by omega) (by omega) fun _=> ?_;refine dr af rfl rfl rfl ⟨by omega,by omega⟩ ?_;refine ar rfl rfl (PN (l:=ah x) ⟨A,c,rfl,hc,hr⟩ iI Dh iE (by omega)) ?_;rintro v1 H2 ⟨hle,q,rfl,hq⟩;refine vr 1 ?_;rw[cU]at hq⊢;refine vr 4 ?_;refine ab [6,7] ?_;refine ae ?_;refine vr 2 ?_;refine ar rfl rfl (GQ (x:=x%y) (by have:=Nat.mod_lt x iE;omega)) ?_;intro v1 H3 hp;refine vr 2 ?_;refine ab [4,5] ?_;refine aq ⟨.inr rfl,_,.tmp rfl (.tmp rfl (.nil)),?_⟩;exact⟨hle.trans hp.le,_,_,rfl,hq.le hp.le,hp.nat⟩
  ·
   have hb:(ah y).length≠1:=by simp at hb;omega
   have iv:2≤(ah y).length:=by omega
   obtain⟨t,ht⟩:∃t,(ah y)[(ah y).length-1]? = some t:=⟨_,List.getElem?_eq_getElem (by omega)⟩;have Kw:=fP.get ht;rw[cz]at Kw
   have tE:(((ah y).length:Int)-1).toNat=(ah y).length-1:=by omega
   have hs0:0≤(1000000000:Int)/((t:Int)+1):=Int.ediv_nonneg (by omega) (by omega);have fw:(1000000000:Int)/((t:Int)+1)≤1000000000:=Int.ediv_le_self _ (by omega);obtain⟨sc,yd⟩:∃sc,sc=1000000000/(t+1):=⟨_,rfl⟩
   have Zy:(1000000000:Int)/((t:Int)+1)=(sc:Int):=by rw[yd];simp
   have Ak:0<sc:=by rw[yd];exact Nat.div_pos (by omega) (by omega)
   have Zz:sc*(t+1)≤1000000000:=by rw[yd];exact Nat.div_mul_le_self _ _
   refine aw ?_;refine ag [0,1] rfl ?_;refine ae ?_;refine vr 3 ?_;refine ab [0,1,8] ?_;refine ae ?_;refine vr 2 ?_;refine eo rfl rfl ⟨by omega,by omega⟩ ?_;refine a6 af rfl rfl rfl rfl rfl (dd) (by rw[tE];exact dA ht) (by omega) (by omega) fun _=> ?_;refine dr af rfl rfl rfl ⟨by omega,by omega⟩ ?_;refine aN rfl rfl ⟨by omega,by omega⟩ ?_;refine lx rfl rfl (by omega) (by omega) ⟨by omega,by omega⟩ ?_;rw[Zy];refine vr 1 ?_;refine ab [0,1,8,9] ?_
   have PY:0<t:=by
    rcases Nat.eq_zero_or_pos t with e|e
    ·
     exfalso
     have:=(fj y).last t (by rw[List.getLast?_eq_getElem?];exact ht);exact this e
    ·exact e
   have KC:sc<1000000000:=by
    have:sc*2≤sc*(t+1):=Nat.mul_le_mul_left _ (by omega)
    omega
   have hyV:y*sc<B^(ah y).length:=by
    have h1:y<B^((ah y).length-1)*(t+1):=by
     have h2:=jV ht;rw[show (ah y).length-1+1=(ah y).length by omega,List.take_length,cU]at h2;have h3:=Ai fP (k:=(ah y).length-1) (by omega);rw[Nat.mul_add,Nat.mul_one];omega
    have h2:y*sc<B^((ah y).length-1)*(t+1)*sc:=Nat.mul_lt_mul_of_pos_right h1 Ak
    have h3:B^((ah y).length-1)*(t+1)*sc≤B^((ah y).length-1)*B:=by
     rw[Nat.mul_assoc];exact Nat.mul_le_mul_left _ (by rw[Nat.mul_comm,cz];exact Zz)
    rw[←Nat.pow_succ,Nat.succ_eq_add_one,show (ah y).length-1+1=(ah y).length by omega]at h3
    omega
   refine ae ?_;refine vr 2 ?_;refine ar rfl rfl (PK (l:=ah x) ⟨A,c,rfl,hc,hr⟩ iI KC (by omega)) ?_;rintro v1 H1 ⟨g1,l1,qN,rfl,rfl,ZA,ZB,qO⟩;rw[cU]at qO;refine vr 1 ?_;refine ab [0,1,8,9,10] ?_;refine ae ?_;refine vr 2 ?_;refine ar rfl rfl (PK (l:=ah y) ⟨A',c',rfl,jg,dd.le (Heap.bC _ qN)⟩ fP KC (by omega)) ?_;rintro v1 H1 ⟨g2,l2,eU,rfl,rfl,afZ,Ke,dI⟩;rw[cU]at dI;refine vr 1 ?_;refine pP af rfl rfl (.inl ⟨rfl,rfl⟩) (.inr ⟨_,_,rfl,rfl⟩) (by omega) (by omega) ?_;rw[Aa];refine vr 1 ?_;refine ab [0,8,9,10,11] ?_;refine ae ?_;refine vr 3 ?_;refine eo rfl rfl ⟨by omega,by omega⟩ ?_;refine aN rfl rfl ⟨by omega,by omega⟩ ?_;refine jS Tryz.underlying177 dX rfl rfl rfl (by omega) (by omega) (by omega) (by omega) ?_;intro g3 o4;obtain⟨m,eF⟩:∃m,m=(ah x).length-(ah y).length+1:=⟨_,rfl⟩;rw[show (((ah x).length:Int)-((ah y).length:Int)+1).toNat=m from by omega,vH];obtain⟨PZ,ZC⟩:=yb eU;obtain⟨xW,ZD⟩:=yb o4;obtain⟨GZ,ZE⟩:=yb ZD
   have di:∀e e',ins (ins H g2 e) g3 e' g1=none:=fun e e'=>by rw[bP _ _ (Ne.symm GZ),bP _ _ (Ne.symm PZ)];exact qN
   have iL:∀e,ins H g2 e g3=none:=fun e=>by rw[bP _ _ xW];exact ZE
   rw[zI H _ _ (Ne.symm PZ),zI (ins H g2 _) _ _ (Ne.symm GZ)];obtain⟨V,G0⟩:∃V,V=y*sc:=⟨_,rfl⟩;obtain⟨b,jm⟩:∃b,b=l2.take (ah y).length:=⟨_,rfl⟩
   have nt:b.length=(ah y).length:=by rw[jm];simp;omega
   have Di:val b=V:=by
    have h1:=Dd l2 (k:=(ah y).length) (by omega);rw[dI,←jm]at h1
    rcases Nat.eq_zero_or_pos (val (l2.drop (ah y).length))with e|e
    ·rw[e,Nat.mul_zero]at h1;omega
    ·
     have:B^(ah y).length*1≤B^(ah y).length*val (l2.drop (ah y).length):=Nat.mul_le_mul_left _ e
     omega
   have P0:Lt b:=by rw[jm];exact Ke.take _
   have De:0<V:=by rw[G0];exact Nat.mul_pos iE Ak
   obtain⟨tp,Gz⟩:∃tp,b[b.length-1]? = some tp:=⟨_,List.getElem?_eq_getElem (by omega)⟩
   have ZG:0<tp:=by
    rcases Nat.eq_zero_or_pos tp with e|e
    ·
     exfalso
     have h2:=jV Gz;rw[show b.length-1+1=b.length by omega,List.take_length,e,Nat.mul_zero,Di]at h2;have h3:=Ai P0 (k:=b.length-1) (by omega);have h4:y*1≤y*sc:=Nat.mul_le_mul_left _ Ak;rw[nt]at h2 h3
     omega
    ·exact e
   refine Pj (x':= .val (.slice (some ⟨g2,0,none⟩) b.length ((ah y).length+1-0))) 11 rfl (by rw[nt];rfl) ?_;refine vr 1 ?_;refine ab [0,8,9,10,11,12] ?_;refine al ?_;refine ae ?_;refine vr 3 ?_;refine eo rfl rfl ⟨by omega,by omega⟩ ?_;refine vr 1 ?_;refine ab [8,9,10,11,12,13] ?_;refine aD ?_;refine jv (fun(k:Nat)(l:List Nat)(o:List Nat)=>k) (fun(k:Nat)(l:List Nat)(o:List Nat)=>put (put (put (put (put (put (emp) 8 (.val (.int .i64 ((ah y).length:Int)))) 9 (.val (.int .u64 (sc:Int)))) 10 (.val (.slice (some ⟨g1,0,none⟩) ((ah x).length+1) ((ah x).length+1)))) 11 (.val (.slice (some ⟨g2,0,none⟩) b.length ((ah y).length+1-0)))) 12 (.val (.slice (some ⟨g3,0,none⟩) m m))) 13 (.val (.int .i64 ((k:Int)-1)))) (fun(k:Nat)(l:List Nat)(o:List Nat) H'=>H'=ins (ins (ins H g2 (dD l2 ((ah y).length+1))) g3 (dD o m)) g1 (dD l ((ah x).length+1))∧k≤m∧l.length=(ah x).length+1∧Lt l∧o.length=m∧Lt o∧val (o.drop k)*V*B^k+val l=x*sc∧val (l.drop k)<V) m _ _ (⟨rfl,by omega,ZA,ZB,by simp,Lt.replicate _,by simp[val,qO],by rw[G0];exact Zm (by omega) qO (by rw[show m+((ah y).length-1)=(ah x).length by omega];exact zY x) Zw Ak⟩) au ?_;rintro k l o H1 ⟨rfl,hk,tD,bH,cH,dV,hinv,vL⟩;refine al ?_;refine ae ?_
   refine vr 2 ?_;refine ab [8,9,10,11,12,13,66] ?_;refine az rfl (fun hb=> ?_) (fun hb=> ?_)
   ·
    have hb:1≤k:=by simp at hb;omega
    obtain⟨k,rfl⟩:∃j,k=j+1:=⟨k-1,by omega⟩
    have iU:(((k+1:Nat):Int)-1).toNat=k:=by omega
    obtain⟨w,Al⟩:∃w,w=(l.drop k).take ((ah y).length+1):=⟨_,rfl⟩
    have x6:w.length=(ah y).length+1:=by rw[Al];simp;omega
    obtain⟨hwz,hwe,KD⟩:=PS bH (n:=(ah y).length) (by omega) vL (by omega);rw[←Al,←Di]at KD
    have ZH:Lt w:=by rw[Al];exact(bH.drop k).take _
    have vJ:l=l.take k++w++l.drop (k+(ah y).length+1):=by
     rw[Al,List.append_assoc]
     conv=>lhs;rw[←List.take_append_drop k l,←List.take_append_drop ((ah y).length+1) (l.drop k)]
     rw[List.drop_drop]
     rfl
    have ZI:(l.take k).length=k:=by simp;omega
    have pY:Rd (ins (ins H g2 (dD l2 ((ah y).length+1))) g3 (dD o m)) (some ⟨g2,0,none⟩) (U b):=by
     rw[jm,C5];exact((GP H g2 l2 _).le (Heap.bC _ (iL _))).take _
    refine aw ?_;refine ag [8,9,10,11,12,13] rfl ?_;refine al ?_;refine aD ?_;refine aE rfl ?_;refine vr 6 ?_;refine aN rfl rfl ⟨by omega,by omega⟩ ?_;refine aN rfl rfl ⟨by omega,by omega⟩ ?_;refine pP af rfl rfl (.inr ⟨_,_,rfl,congrArg (fun z=>some (Value.int .i64 z)) (show ((k+1:Nat):Int)-1=((k:Nat):Int) by omega)⟩) (.inr ⟨_,_,rfl,congrArg (fun z=>some (Value.int .i64 z)) (show ((k+1:Nat):Int)-1+((ah y).length:Int)+1=((k+(ah y).length+1:Nat):Int) by omega)⟩) (by omega) (by omega) ?_;refine Pj (x':= .val (.slice (some ⟨g1,(l.take k).length,none⟩) (b.length+1) ((ah x).length+1-k))) 77 rfl (by rw[if_neg (by omega),Option.map_some,kQ,Nat.mul_one,ZI,show k+(ah y).length+1-k=b.length+1 by omega]) ?_;refine vr 1 ?_;refine ar rfl rfl (by have hF:=Zo (lo:=l.take k) (w:=w) (hi:=l.drop (k+(ah y).length+1)) (N:=(ah x).length+1) (c:=(ah x).length+1-k) (c':=(ah y).length+1-0) (di _ _) pY (by omega) (by omega) (by omega) ZH P0 Gz ZG KD;rw[←vJ]at hF;exact hF) ?_;rintro v1 H1 ⟨w',rfl,fi,jY,KE,rfl⟩;obtain⟨ti,aj,ak⟩:=nm;refine eB (.inl rfl) af rfl rfl rfl (by omega) (by omega) ((bP _ _ GZ).trans (bT _ _ _)) rfl (by rw[nr];omega) aj ak (fun _=>rfl) rfl rfl rfl fun _=> ?_;refine aA ?_
    refine ag [8,9,10,11,12,13] rfl ?_;refine aE rfl ?_;refine vr 1 ?_;refine eo rfl rfl ⟨by omega,by omega⟩ ?_;refine vr 1 ?_;refine aA ?_;have dH:=Zl (q:=val w/V) bH (n:=(ah y).length) (by omega) vL (by omega) (by omega) hinv (by rw[←Al]) (by rw[←Al,KE,Di]) (by rw[fi,x6]);refine⟨k,l.take k++w'++l.drop (k+(ah y).length+1),o.set k (val w/V),by omega,au,?_,by omega,?_,?_,by simp[cH],dV.set ?_,dH.1,dH.2⟩
    ·rw[zI _ _ _ (Ne.symm GZ),rY (y:=val w/V) (by rw[Di]),iU]
    ·simp[fi,x6,tD];omega
    ·exact((bH.take k).append jY).append (bH.drop _)
    ·rw[←Di];exact Nat.div_lt_of_lt_mul (by rw[Nat.mul_comm];exact KD)
   ·
    have hb:k=0:=by simp at hb;omega
    subst hb
    simp only[List.drop_zero,Nat.pow_zero,Nat.mul_one]at hinv vL
    obtain⟨hQ,hR⟩:=Zn (Q:=val o) (R:=val l) (x:=x) (y:=y) (sc:=sc) (by rw[←G0];exact hinv) (by rw[←G0];exact vL) Ak;refine bB ?_;refine ag [9,10,12] rfl ?_;refine ae ?_;refine vr 1 ?_;refine ar rfl rfl (GS (xV _ _ l _ _ tD.symm (Nat.le_refl _)) bH (by omega)) ?_;intro v1 H4 hp;refine vr 1 ?_;refine ar rfl rfl (PN hp.nat (fj _).lt KC Ak (by have:=ji.2 (rV bH);omega)) ?_;rintro v2 H5 ⟨gZ,r,rfl,p6⟩;rw[cU,hR]at p6;refine vr 5 ?_;refine ab [12,14] ?_;refine ae ?_;refine vr 1 ?_;refine ar rfl rfl (GS (((xV _ _ o m m cH.symm (Nat.le_refl _)).le (Heap.bC _ (di _ _))).le (hp.le.trans gZ)) dV (by omega)) ?_;intro v1 H6 nu;refine vr 3 ?_;refine ab [4,5] ?_;refine aq ⟨.inr rfl,_,.tmp rfl (.tmp rfl (.nil)),?_⟩;exact⟨((((Heap.bC _ ZC).trans (Heap.bC _ (iL _))).trans (Heap.bC _ (di _ _))).trans (hp.le.trans gZ)).trans nu.le,_,_,rfl,by rw[←hQ];exact nu.nat,p6.le nu.le⟩
end Go.ay
namespace Go.ay
open Go.Proofs Num
theorem ZJ{H:Heap}{u v:Value}{x y:Nat}(hx:dh H u x)(hy:dh H v y)(hm:((ah x).length:Int)<8796093022208)(bm:((ah y).length:Int)<8796093022208):
  Fn Tryz.prog 209 #[u,v] H (lP H (Nat.gcd x y)):=by
 obtain⟨M,hM⟩:∃M,M=max x y:=⟨_,rfl⟩
 have hMl:((ah M).length:Int)<8796093022208:=by
  rcases Nat.le_total x y with h | h
  ·rw[hM,Nat.max_eq_right h];exact bm
  ·rw[hM,Nat.max_eq_left h];exact hm
 refine aU (args:=[_,_]) Tryz.func209 rfl rfl Tryz.ntmps209 rfl rfl fun w0=> ?_;refine ag [0,1] rfl ?_;refine ae ?_;refine vr 1 ?_;refine ab [0,1] ?_;refine al ?_;refine aD ?_;refine pQ (fun(x1:Nat)(y1:Nat)(u:Value)(v:Value)=>y1) (fun(x1:Nat)(y1:Nat)(u:Value)(v:Value)=>put (put (emp) 0 (.val (u))) 1 (.val (v))) (fun(x1:Nat)(y1:Nat)(u:Value)(v:Value) H'=>Heap.le H H'∧dh H' u x1∧dh H' v y1∧Nat.gcd x1 y1=Nat.gcd x y∧x1≤M∧y1≤M) x y u v (⟨.refl _,hx,hy,rfl,by omega,by omega⟩) au ?_;rintro x1 y1 u v H1 ⟨hle,ee,yc,hg,Dj,r6⟩;obtain⟨A,c,rfl,hc,hr⟩:=ee;obtain⟨A',c',rfl,jg,dd⟩:=yc;have aI:=lB Dj;have aM:=lB r6;refine al ?_;refine ae ?_;refine vr 3 ?_;refine ab [0,1,13] ?_;refine az rfl (fun hb=> ?_) (fun hb=> ?_)
 ·
  have hb:(ah y1).length≠0:=by simp at hb;intro e;simp[List.eq_nil_of_length_eq_zero e]at hb
  have iE:0<y1:=by rcases Nat.eq_zero_or_pos y1 with e | e;· exact absurd (jW.2 e) hb
                   ·exact e
  refine aw ?_;refine ag [0,1] rfl ?_;refine aD ?_;refine al ?_
  by_cases h2:(ah x1).length≤2
  ·
   skip
   refine ae ?_;refine vr 2 ?_;refine ax true rfl rfl (rX (by omega)) ?_;refine vr 5 ?_;refine ab [0,1,21] ?_;refine az rfl (fun hb=> ?_) (fun hb=> ?_)
   ·
    have hb:(ah y1).length≤2:=by simp at hb;omega
    have KF:=ji.1 h2;have KG:=ji.1 hb;rw[cz]at KF KG
    simp only[Nat.reducePow]at KF KG
    refine ae ?_;refine vr 1 ?_;refine ar rfl rfl (PI hr h2) ?_;rintro v1 H2 ⟨rfl,rfl⟩;refine vr 5 ?_;refine ab [1,5] ?_;refine ae ?_;refine vr 1 ?_;refine ar rfl rfl (PI dd hb) ?_;rintro v1 H3 ⟨rfl,rfl⟩;refine vr 5 ?_;refine ab [5,7] ?_;refine al ?_;refine aD ?_;refine jT (fun(p:Nat)(q:Nat)=>q) (fun(p:Nat)(q:Nat)=>put (put (emp) 5 (.val (.int .u64 (p:Int)))) 7 (.val (.int .u64 (q:Int)))) (fun(p:Nat)(q:Nat) H'=>Heap.le H H'∧Nat.gcd p q=Nat.gcd x y∧p<1000000000000000000∧q<1000000000000000000) x1 y1 (⟨hle,hg,KF,KG⟩) au ?_;rintro p q H1 ⟨dU,eU,af0,ZK⟩;refine al ?_;refine ae ?_;refine vr 2 ?_;refine ab [5,7,33] ?_;refine az rfl (fun hb=> ?_) (fun hb=> ?_)
    ·
     have hb:0<q:=by simp at hb;omega
     refine aw ?_;refine ag [5,7] rfl ?_;refine aD ?_;refine eT .bn [0,1,2,3,4,5] follows (by kernel_rfl) ?_;refine vr 3 ?_;refine gj rfl rfl (by omega) (by omega) ?_;refine vr 2 ?_;refine aA ?_;have bH:=Nat.mod_lt p hb;exact⟨q,p%q,bH,au,dU,by rw[Nat.gcd_comm q,←Nat.gcd_rec,Nat.gcd_comm q];exact eU,ZK,by omega⟩
    ·
     have hb:q=0:=by simp at hb;omega
     subst hb;rw[Nat.gcd_zero_right]at eU;refine bB ?_;refine ag [5] rfl ?_;refine ae ?_;refine vr 1 ?_;refine ar rfl rfl (GQ (by omega)) ?_;intro v1 H4 hp;refine vr 1 ?_;refine ab [4] ?_;refine aq ⟨.inr rfl,_,.tmp rfl (.nil),?_⟩;exact⟨dU.trans hp.le,by rw[←eU];exact hp.nat⟩
   ·
    skip
    refine aw ?_;refine ag [0,1] rfl ?_;refine ae ?_;refine vr 2 ?_;refine ar rfl rfl (GY (x:=x1) (y:=y1) ⟨A,c,rfl,hc,hr⟩ ⟨A',c',rfl,jg,dd⟩ iE (by omega)) ?_;rintro v1 H4 ⟨dU,q,r,rfl,bK,lQ⟩;refine vr 5 ?_;refine ab [1,10] ?_;refine aE rfl ?_;refine vr 4 ?_;refine aA ?_;have bH:=Nat.mod_lt x1 iE;exact⟨y1,x1%y1,_,_,bH,au,hle.trans dU,iH.le (l:=ah y1) ⟨A',c',rfl,jg,dd⟩ dU,lQ,by rw[Nat.gcd_comm y1,←Nat.gcd_rec,Nat.gcd_comm y1];exact hg,r6,by omega⟩
  ·
   skip
   refine ae ?_;refine vr 2 ?_;refine ax false rfl rfl (z7 (by omega)) ?_;refine vr 5 ?_;refine ab [0,1,21] ?_;refine dg rfl ?_;refine aw ?_;refine ag [0,1] rfl ?_;refine ae ?_;refine vr 2 ?_;refine ar rfl rfl (GY (x:=x1) (y:=y1) ⟨A,c,rfl,hc,hr⟩ ⟨A',c',rfl,jg,dd⟩ iE (by omega)) ?_;rintro v1 H4 ⟨dU,q,r,rfl,bK,lQ⟩;refine vr 5 ?_;refine ab [1,10] ?_;refine aE rfl ?_;refine vr 4 ?_;refine aA ?_;have bH:=Nat.mod_lt x1 iE;exact⟨y1,x1%y1,_,_,bH,au,hle.trans dU,iH.le (l:=ah y1) ⟨A',c',rfl,jg,dd⟩ dU,lQ,by rw[Nat.gcd_comm y1,←Nat.gcd_rec,Nat.gcd_comm y1];exact hg,r6,by omega⟩
 ·
  have hb:(ah y1).length=0:=by simp at hb;simp[hb]
  have iE:y1=0:=jW.1 hb;subst iE;rw[Nat.gcd_zero_right]at hg;refine bB ?_;refine ag [0] rfl ?_;refine ae ?_;refine vr 2 ?_;refine ab [4] ?_;refine aq ⟨.inr rfl,_,.tmp rfl (.nil),?_⟩;exact⟨hle,by rw[←hg];exact⟨A,c,rfl,hc,hr⟩⟩
end Go.ay
namespace Num
def sg(neg:Bool)(n:Nat):Int:=if neg then -(n:Int)else n
def bS(neg:Bool)(n d:Nat):Rat:=mkRat (sg neg n) d
theorem KH(f:Bool)(n:Nat):(sg f n).natAbs=n:=by cases f <;> simp[sg]
theorem ZL(f:Bool):sg f 0=0:=by cases f <;> rfl
theorem vM(f:Bool)(d:Nat):bS f 0 d=0:=by simp[bS,ZL]
theorem Dk(f:Bool)(n:Nat):bS f n 0=0:=by simp[bS]
theorem vN{f:Bool}{n d:Nat}(hd:0<d):(bS f n d).den=d/Nat.gcd n d:=by
 rw[bS,Rat.den_mkRat,if_neg (by omega),KH,Nat.gcd_comm]
theorem KI{f:Bool}{n d:Nat}(hd:0<d):(bS f n d).num=sg f (n/Nat.gcd n d):=by
 rw[bS,Rat.num_mkRat,if_neg (by omega),KH,Nat.gcd_comm]
 have Dl:Nat.gcd n d∣n:=Nat.gcd_dvd_left n d
 cases f
 ·simp[sg]
 ·simp only[sg,if_true]
  rw[Int.neg_ediv_of_dvd (by exact_mod_cast Dl)]
  simp
theorem ye{f:Bool}{n d:Nat}(hd:0<d):(bS f n d).num.natAbs=n/Nat.gcd n d:=by rw[KI hd,KH]
theorem Dm{f:Bool}{n d:Nat}(hd:0<d)(hn:0<n):decide ((bS f n d).num<0)=f:=by
 rw[KI hd]
 have h1:0<n/Nat.gcd n d:=Nat.div_pos (Nat.le_of_dvd hn (Nat.gcd_dvd_left n d)) (Nat.gcd_pos_of_pos_left _ hn)
 cases f <;> simp[sg] <;> omega
theorem P3{f:Bool}{n d:Nat}(hd:0<d):bS f n d=0↔n=0:=by
 rw[bS,Rat.mkRat_eq_zero (by omega)]
 cases f <;> simp[sg]
theorem ZM{f:Bool}{n d:Nat}(hd:0<d)(hn:0<n):bS f n d<0↔f=true:=by
 have h:=Dm (f:=f) hd hn
 rw[←Rat.not_le,←Rat.num_nonneg]
 constructor
 ·intro h1;rw[←h,decide_eq_true_iff];omega
 ·intro h1;rw[h1]at h⊢;have:=of_decide_eq_true h;omega
theorem P4(f:Bool){n m d e:Nat}(hd:0<d)(he:0<e):bS f n d+bS f m e=bS f (n*e+m*d) (d*e):=by
 rw[bS,bS,Rat.mkRat_add_mkRat _ _ (by omega) (by omega),bS]
 congr 1
 cases f
 ·simp[sg]
 ·simp[sg,Int.neg_add,Int.neg_mul]
theorem KJ{f g:Bool}(o5:f≠g){n m d e:Nat}(hd:0<d)(he:0<e)(h:m*d≤n*e):bS f n d+bS g m e=bS f (n*e-m*d) (d*e):=by
 rw[bS,bS,Rat.mkRat_add_mkRat _ _ (by omega) (by omega),bS]
 congr 1
 obtain rfl:g = !f:=by cases f <;> cases g <;> simp at o5⊢
 cases f
 ·simp[sg]
  rw[Int.ofNat_sub h];simp[Int.neg_mul];omega
 ·simp[sg]
  rw[Int.ofNat_sub h];simp[Int.neg_mul];omega
theorem P5{f g:Bool}(o5:f≠g){n m d e:Nat}(hd:0<d)(he:0<e)(h:n*e≤m*d):bS f n d+bS g m e=bS g (m*d-n*e) (d*e):=by
 rw[Rat.add_comm,KJ (Ne.symm o5) he hd h,Nat.mul_comm e d]
theorem KK(f:Bool)(n d:Nat): -bS f n d=bS (!f) n d:=by
 rw[bS,bS,Rat.neg_mkRat]
 cases f <;> simp[sg]
theorem KL(f g:Bool)(n m d e:Nat):bS f n d*bS g m e=bS (f != g) (n*m) (d*e):=by
 rw[bS,bS,Rat.mkRat_mul_mkRat,bS]
 congr 1
 cases f <;> cases g <;> simp[sg,Int.neg_mul,Int.mul_neg]
theorem P6{g:Bool}{m e:Nat}(_hm:0<m):(bS g m e)⁻¹=bS g e m:=by
 rw[bS,bS,←Rat.divInt_ofNat,Rat.inv_divInt,←Rat.divInt_ofNat]
 cases g
 ·rfl
 ·simp only[sg,if_true]
  rw[Rat.divInt_neg']
theorem P7{f g:Bool}{n m d e:Nat}(hm:0<m):bS f n d/bS g m e=bS (f != g) (n*e) (d*m):=by
 rw[Rat.div_def,P6 hm,KL]
theorem ZN(n:Int):sg (decide (n<0)) n.natAbs=n:=by
 unfold sg;split
 ·rename_i h;simp at h;omega
 ·rename_i h;simp at h;omega
theorem G6(n:Int):bS (decide (n<0)) n.natAbs 1=(n:Rat):=by
 have:sg (decide (n<0)) n.natAbs=n:=by
  unfold sg;split
  ·rename_i h;simp at h;omega
  ·rename_i h;simp at h;omega
 rw[bS,this]
 exact Rat.mkRat_self (n:Rat)
theorem P8(a b:Int):bS (decide (a<0) != decide (b<0)) a.natAbs b.natAbs=(a:Rat)/(b:Rat):=by
 rcases Nat.eq_zero_or_pos b.natAbs with h | h
 ·rw[h,Dk]
  have:b=0:=by omega
  subst this
  simp[Rat.div_def]
 ·rw[←G6 a,←G6 b,P7 h]
  simp
def dF(q:Rat):Int:=if q<0 then -1 else if q=0 then 0 else 1
def gQ(p q:Rat):Int:=if p<q then -1 else if p=q then 0 else 1
theorem An{f:Bool}{n d:Nat}(hd:0<d):dF (bS f n d)=if n=0 then 0 else if f then -1 else 1:=by
 unfold dF
 by_cases hn:n=0
 ·subst hn;rw[vM];rfl
 ·have h1:=ZM (f:=f) hd (by omega:0<n)
  have h2:=P3 (f:=f) (n:=n) hd
  cases f
  ·rw[if_neg (by rw[h1];simp),if_neg (by rw[h2];exact hn),if_neg hn];rfl
  ·rw[if_pos (by rw[h1]),if_neg hn];rfl
theorem ZO{a c:Int}{b d:Nat}(hb:0<b)(hd:0<d):mkRat a b<mkRat c d↔a*d<c*b:=by
 rw[Rat.mkRat_eq_div,Rat.mkRat_eq_div,Rat.div_lt_iff (by exact_mod_cast hb),Rat.div_def,Rat.mul_assoc,Rat.mul_comm _ ((b:Nat):Rat),←Rat.mul_assoc,←Rat.div_def,Rat.lt_div_iff (by exact_mod_cast hd)]
 exact_mod_cast Iff.rfl
theorem ZP{f g:Bool}{n m d e:Nat}(hd:0<d)(he:0<e):gQ (bS f n d) (bS g m e) =
  if dF (bS f n d)<dF (bS g m e)then -1 else if dF (bS f n d)>dF (bS g m e)then 1 else dF (bS f n d)*jk (n*e) (m*d):=by
 have bH:bS f n d<bS g m e↔sg f n*e<sg g m*d:=ZO hd he
 have heq:bS f n d=bS g m e↔sg f n*e=sg g m*d:=Rat.mkRat_eq_iff (by omega) (by omega)
 have p1:n≠0→0<n*e:=fun h=>Nat.mul_pos (by omega) he
 have p2:m≠0→0<m*d:=fun h=>Nat.mul_pos (by omega) hd
 have z1:n=0→n*e=0:=fun h=>by rw[h,Nat.zero_mul]
 have z2:m=0→m*d=0:=fun h=>by rw[h,Nat.zero_mul]
 rw[An hd,An he]
 unfold gQ
 simp only[bH,heq,jk]
 have c1:sg f n*(e:Int)=if f then -((n*e:Nat):Int)else((n*e:Nat):Int):=by cases f <;> simp[sg,Int.neg_mul]
 have c2:sg g m*(d:Int)=if g then -((m*d:Nat):Int)else((m*d:Nat):Int):=by cases g <;> simp[sg,Int.neg_mul]
 rw[c1,c2]
 generalize n*e=X at *
 generalize m*d=Y at *
 by_cases h1:n=0 <;> by_cases h2:m=0 <;> cases f <;> cases g <;> simp[h1,h2] <;> (repeat' split) <;> omega
end Num
namespace Go.ay
open Go.Proofs Num
def p7(H:Heap)(v:Value)(f:Bool)(n d:Nat):Prop:=∃u w,v = .agg #[.bool f,u,w]∧dh H u n∧dh H w d
theorem p7.le{H H':Heap}{v:Value}{f:Bool}{n d:Nat}(h:p7 H v f n d)(hl:Heap.le H H'):p7 H' v f n d:=by
 obtain⟨u,w,h1,h2,h3⟩:=h
 exact⟨u,w,h1,h2.le hl,h3.le hl⟩
def cJ(H:Heap)(v:Value)(q:Rat):Prop:=p7 H v (decide (q.num<0)) q.num.natAbs q.den
theorem cJ.le{H H':Heap}{v:Value}{q:Rat}(h:cJ H v q)(hl:Heap.le H H'):cJ H' v q:=p7.le h hl
def bN(H:Heap)(v:Value)(q:Rat)(N:Nat):Prop:=∃f u w l1 l2,v = .agg #[.bool f,u,w]∧iH H u l1∧iH H w l2∧(∀x,x∈l1→x<4294967296)∧(∀x,x∈l2→x<4294967296)∧l1.length≤N∧l2.length≤N∧q=bS f (val l1) (val l2)
theorem bN.le{H H':Heap}{v:Value}{q:Rat}{N:Nat}(h:bN H v q N)(hl:Heap.le H H'):bN H' v q N:=by
 obtain⟨f,u,w,l1,l2,h1,h2,h3,h4⟩:=h
 exact⟨f,u,w,l1,l2,h1,h2.le hl,h3.le hl,h4⟩
theorem bN.mono{H:Heap}{v:Value}{q:Rat}{N M:Nat}(h:bN H v q N)(hl:N≤M):bN H v q M:=by
 obtain⟨f,u,w,l1,l2,h1,h2,h3,h4,h5,h6,h7,h8⟩:=h
 exact⟨f,u,w,l1,l2,h1,h2,h3,h4,h5,by omega,by omega,h8⟩
def aJ(q:Rat):Nat:=max (ah q.num.natAbs).length (ah q.den).length
theorem yf(q:Rat):bS (decide (q.num<0)) q.num.natAbs q.den=q:=by
 rw[bS,ZN,Rat.mkRat_self]
theorem oa{x:Nat}:∀y,y∈ah x→y<4294967296:=fun y hy=>by
 have:=(fj x).lt y hy
 rw[cz]at this;omega
theorem cJ.raw{H:Heap}{v:Value}{q:Rat}(h:cJ H v q):bN H v q (aJ q):=by
 obtain⟨u,w,h1,h2,h3⟩:=h
 exact⟨_,u,w,_,_,h1,h2,h3,oa,oa,Nat.le_max_left _ _,Nat.le_max_right _ _,by rw[cU,cU,yf]⟩
def jZ(H:Heap)(q:Rat)(v:Value)(H':Heap):Prop:=Heap.le H H'∧cJ H' v q
theorem jZ.le{H:Heap}{q:Rat}{v:Value}{H':Heap}(h:jZ H q v H'):Heap.le H H':=h.1
def G8(H:Heap)(q:Rat)(K:Nat)(v:Value)(H':Heap):Prop:=Heap.le H H'∧∃f n d,p7 H' v f n d∧0<d∧bS f n d=q∧(ah n).length≤K∧(ah d).length≤K
theorem G8.le{H:Heap}{q:Rat}{K:Nat}{v:Value}{H':Heap}(h:G8 H q K v H'):Heap.le H H':=h.1
def p8(H:Heap)(x:Value)(v:Value)(H':Heap):Prop:=H'=H∧v=x
theorem p8.le{H:Heap}{x:Value}{v:Value}{H':Heap}(h:p8 H x v H'):Heap.le H H':=by rw[h.1];exact .refl _
theorem tG:ah 1 = [1]:=by
 rw[xT (by decide)]
 rw[show 1/B=0 by decide,show 1%B=1 by decide,qM]
theorem vO{H:Heap}{g e:Nat}:dh (ins H g (whole (cT [.int .u32 1]) e)) (.slice (some ⟨g,0,none⟩) 1 1) 1:=by
 refine⟨some ⟨g,0,none⟩,1,?_,?_,?_⟩
 ·rw[tG];rfl
 ·rw[tG];exact Nat.le_refl _
 ·rw[tG];exact pV (y:=1) rfl
theorem Aq{l:List Nat}(h:∀x,x∈l→x<4294967296):(ah (val l)).length≤l.length+1:=by
 refine ji.2 ?_
 have:val l+5≤5*B^l.length:=by
  induction l with
  | nil=>simp[val]
  | cons x l ih=>
   have h1:=ih (fun y hy=>h y (List.mem_cons_of_mem _ hy))
   have h2:=h x (List.mem_cons_self ..)
   rw[iF,List.length_cons,Nat.pow_succ]
   have h3:B*(val l+5)≤B*(5*B^l.length):=Nat.mul_le_mul_left _ h1
   have h4:B*(5*B^l.length)=5*(B^l.length*B):=by rw[Nat.mul_left_comm,Nat.mul_comm B]
   have h5:B*5=5000000000:=by decide
   rw[Nat.mul_add]at h3
   omega
 have h5:5*B^l.length≤B*B^l.length:=Nat.mul_le_mul_right _ (by decide)
 rw[Nat.pow_succ,Nat.mul_comm _ B];omega
theorem nv(x y:Nat):(ah (x*y)).length≤(ah x).length+(ah y).length:=by
 refine ji.2 ?_
 rw[Nat.pow_add]
 exact Nat.mul_lt_mul'' (zY x) (zY y)
theorem P9{x y k:Nat}(hx:(ah x).length≤k)(hy:(ah y).length≤k):(ah (x+y)).length≤k+1:=by
 refine ji.2 ?_
 have h1:=ji.1 hx
 have h2:=ji.1 hy
 have h3:B^k*2≤B^k*B:=Nat.mul_le_mul_left _ (by decide)
 rw[Nat.pow_succ];omega
end Go.ay
namespace Go.ay
open Go.Proofs Num
theorem Qa{H:Heap}{u v:Value}{x y:Nat}(hx:dh H u x)(hy:dh H v y)(hm:((ah x).length:Int)≤35184372088832):Fn Tryz.prog 199 #[u,v] H (p8 H (.int .i64 (jk x y))):=by
 obtain⟨A,c,rfl,hc,hr⟩:=hx
 obtain⟨A',c',rfl,jg,dd⟩:=hy
 exact PH hr dd hm
theorem Qb{H:Heap}{u:Value}{x:Nat}(hx:dh H u x):Fn Tryz.prog 208 #[u] H (p8 H (.bool (decide (x=1)))):=by
 obtain⟨A,c,rfl,hc,hr⟩:=hx
 exact Y5 hr
theorem Qc{H:Heap}{u:Value}{l:List Nat}(hu:iH H u l)(xW:∀x,x∈l→x<4294967296)(hm:(l.length:Int)≤8796093022208):Fn Tryz.prog 194 #[u] H (lP H (val l)):=by
 obtain⟨A,c,rfl,hc,hr⟩:=hu
 exact Y6 xW hr hm
theorem o6{H:Heap}{v:Value}{q:Rat}{N:Nat}(hv:bN H v q N)(hN:(N:Int)≤4398046511104):
 Fn Tryz.prog 153 #[v] H (G8 H q (N+1)):=by
 obtain⟨f,u,w,l1,l2,rfl,hu,hw,h1,h2,aI,aM,rfl⟩:=hv;refine aU (args:=[_]) Tryz.func153 rfl rfl Tryz.ntmps153 rfl rfl fun w0=> ?_;refine ag [0] rfl ?_;refine ae ?_;refine bF rfl rfl ?_;refine bh iX rfl ?_;refine ab [1,2] ?_;refine bL .bn [0,1,3,4,2,5,6,7] follows (by kernel_rfl) ?_;refine vr 4 ?_;refine aH rfl rfl (Qc hu h1 (by omega)) (fun _ _ h=>h.le) ?_;intro v1 H1 gG;refine aH rfl rfl (Qc (hw.le gG.le) h2 (by omega)) (fun _ _ h=>h.le) ?_;intro v2 H2 ia;obtain⟨B1,b1,rfl,di,ZQ⟩:=gG.nat.le ia.le;obtain⟨B2,b2,rfl,aW,Dn⟩:=ia.nat;have dU:=gG.le.trans ia.le;have jI:=Aq h1;have iK:=Aq h2;refine vr 2 ?_;refine ab [1,2,3,4] ?_;refine al ?_
 by_cases jJ:(ah (val l1)).length=0
 ·
  skip
  refine ae ?_;refine vr 2 ?_;refine ax true rfl rfl (dz (by omega)) ?_;refine vr 5 ?_;refine ab [1,2,3,4,18] ?_;refine cD rfl ?_;refine ae ?_;refine dM Tryz.underlying177 dX rfl rfl rfl rfl rfl rfl rfl ?_;intro gb bW;refine dW af rfl iX rfl rfl ?_;obtain⟨ti,aj,ak⟩:=gP;refine aG (.inl ⟨rfl,rfl⟩) rfl rfl rfl aj ak rfl rfl rfl ?_;refine ab [2] ?_;obtain⟨bX,aK,aL⟩:=gP;refine aq ⟨.inr rfl,_,.agg rfl Tryz.underlying179 aK aL (.nil),?_⟩;exact⟨dU.trans (Heap.bC _ bW),false,0,1,⟨_,_,rfl,tz _,vO⟩,by decide,by rw[jW.1 jJ,vM,vM],by rw[qM];simp,by rw[tG];simp⟩
 ·
  skip
  refine ae ?_;refine vr 2 ?_;refine ax false rfl rfl (eN (by omega)) ?_;refine vr 5 ?_;refine ab [1,2,3,4,18] ?_;refine az rfl (fun hb=> ?_) (fun hb=> ?_)
  ·
   have hb:(ah (val l2)).length=0:=by simpa using hb
   refine ae ?_;refine dM Tryz.underlying177 dX rfl rfl rfl rfl rfl rfl rfl ?_;intro gb bW;refine dW af rfl iX rfl rfl ?_;obtain⟨ti,aj,ak⟩:=gP;refine aG (.inl ⟨rfl,rfl⟩) rfl rfl rfl aj ak rfl rfl rfl ?_;refine ab [2] ?_;obtain⟨bX,aK,aL⟩:=gP;refine aq ⟨.inr rfl,_,.agg rfl Tryz.underlying179 aK aL (.nil),?_⟩;exact⟨dU.trans (Heap.bC _ bW),false,0,1,⟨_,_,rfl,tz _,vO⟩,by decide,by rw[jW.1 hb,Dk,vM],by rw[qM];simp,by rw[tG];simp⟩
  ·
   have hb:(ah (val l2)).length≠0:=by simpa using hb
   refine aw ?_;refine ag [1,2,3,4] rfl ?_;refine ae ?_;refine vr 4 ?_;refine dW af rfl iX rfl rfl ?_;obtain⟨ti,aj,ak⟩:=gP;refine aG (.inl ⟨rfl,rfl⟩) rfl rfl rfl aj ak rfl rfl rfl ?_;refine ab [2] ?_;obtain⟨bX,aK,aL⟩:=gP;refine aq ⟨.inr rfl,_,.agg rfl Tryz.underlying179 aK aL (.nil),?_⟩;exact⟨dU,f,val l1,val l2,⟨_,_,rfl,⟨B1,b1,rfl,di,ZQ⟩,⟨B2,b2,rfl,aW,Dn⟩⟩,Nat.pos_of_ne_zero (fun e=>hb (jW.2 e)),rfl,by omega,by omega⟩
theorem ZR{H:Heap}{v:Value}{f:Bool}{n d:Nat}(hv:p7 H v f n d)(hd:0<d)(dO:((ah n).length:Int)<8796093022208)(eJ:((ah d).length:Int)<8796093022208):
 Fn Tryz.prog 196 #[v] H (jZ H (bS f n d)):=by
 obtain⟨u,w,rfl,hu,hw⟩:=hv
 obtain⟨A,c,rfl,hc,hr⟩:=id hu
 obtain⟨A2,c2,rfl,o7,lQ⟩:=id hw;refine aU (args:=[_]) Tryz.func196 rfl rfl Tryz.ntmps196 rfl rfl fun w0=> ?_;refine ag [0] rfl ?_;refine ae ?_;refine bF rfl rfl ?_;refine bh iX rfl ?_;refine ab [1,2] ?_;refine al ?_;refine ae ?_;refine vr 4 ?_;refine ab [1,2,11] ?_;refine az rfl (fun hb=> ?_) (fun hb=> ?_)
 ·
  have hb:n=0:=jW.1 (by simpa using hb);subst hb;refine ae ?_;refine dM Tryz.underlying177 dX rfl rfl rfl rfl rfl rfl rfl ?_;intro gb bW;refine dW af rfl iX rfl rfl ?_;obtain⟨ti,aj,ak⟩:=gP;refine aG (.inl ⟨rfl,rfl⟩) rfl rfl rfl aj ak rfl rfl rfl ?_;refine ab [2] ?_;obtain⟨bX,aK,aL⟩:=gP;refine aq ⟨.inr rfl,_,.agg rfl Tryz.underlying179 aK aL (.nil),?_⟩;exact⟨Heap.bC _ bW,by rw[vM];exact⟨_,_,rfl,tz _,vO⟩⟩
 ·
  have jJ:0<n:=Nat.pos_of_ne_zero fun e=>by rw[jW.2 e]at hb;simp at hb
  refine aw ?_;refine ag [1,2] rfl ?_;refine al ?_;refine ae ?_;refine vr 2 ?_;refine ar rfl rfl (Qb hw) ?_;rintro v1 H1 ⟨rfl,rfl⟩;refine ab [1,2,16] ?_;refine az rfl (fun hb=> ?_) (fun hb=> ?_)
  ·
   have jH:d=1:=by simpa using hb
   subst jH;refine ae ?_;refine vr 1 ?_;obtain⟨ti,aj,ak⟩:=gP;refine aG (.inl ⟨rfl,rfl⟩) rfl rfl rfl aj ak rfl rfl rfl ?_;refine ab [2] ?_;obtain⟨bX,aK,aL⟩:=gP;refine aq ⟨.inr rfl,_,.agg rfl Tryz.underlying179 aK aL (.nil),?_⟩;refine⟨.refl _,?_⟩
   unfold cJ
   rw[Dm hd jJ,ye hd,vN hd,Nat.gcd_one_right,Nat.div_one,Nat.div_one];exact⟨_,_,rfl,hu,hw⟩
  ·
   skip
   refine aw ?_;refine ag [1,2] rfl ?_;refine ae ?_;refine vr 4 ?_;refine ar rfl rfl (ZJ hu hw dO eJ) ?_;rintro v1 H2 hp;obtain⟨v1,rfl⟩:∃x,x=v1:=⟨_,rfl⟩;have m9:0<Nat.gcd n d:=Nat.gcd_pos_of_pos_left _ jJ;refine vr 1 ?_;refine ab [1,2,3] ?_;refine al ?_;refine ae ?_;refine vr 1 ?_;refine ar rfl rfl (Qb hp.nat) ?_;rintro v2 H3 ⟨rfl,rfl⟩;refine ab [1,2,3,24] ?_;refine az rfl (fun hb=> ?_) (fun hb=> ?_)
   ·
    have qN:Nat.gcd n d=1:=by simpa using hb
    refine ae ?_;refine vr 1 ?_;obtain⟨ti,aj,ak⟩:=gP;refine aG (.inl ⟨rfl,rfl⟩) rfl rfl rfl aj ak rfl rfl rfl ?_;refine ab [2] ?_;obtain⟨bX,aK,aL⟩:=gP;refine aq ⟨.inr rfl,_,.agg rfl Tryz.underlying179 aK aL (.nil),?_⟩;refine⟨hp.le,?_⟩
    unfold cJ
    rw[Dm hd jJ,ye hd,vN hd,qN,Nat.div_one,Nat.div_one];exact⟨_,_,rfl,hu.le hp.le,hw.le hp.le⟩
   ·
    skip
    refine aw ?_;refine ag [1,2,3] rfl ?_;refine ae ?_;refine vr 3 ?_;refine ar rfl rfl (GY (hu.le hp.le) hp.nat m9 dO) ?_;rintro v2 H4 ⟨gS,q1,r1,rfl,cn,kK⟩;refine vr 5 ?_;refine ab [1,2,3,4] ?_;refine ae ?_;refine vr 3 ?_;refine ar rfl rfl (GY (hw.le (hp.le.trans gS)) (hp.nat.le gS) m9 eJ) ?_;rintro v2 H5 ⟨gZ,q2,r2,rfl,bK,p6⟩;obtain⟨A3,c3,rfl,mB,iY⟩:=cn.le gZ;obtain⟨A4,c4,rfl,yg,r7⟩:=id bK;refine vr 5 ?_;refine ab [1,2,4,6] ?_;refine ae ?_;refine vr 4 ?_;refine dW af rfl iX rfl rfl ?_;obtain⟨ti,aj,ak⟩:=gP;refine aG (.inl ⟨rfl,rfl⟩) rfl rfl rfl aj ak rfl rfl rfl ?_;refine ab [2] ?_;obtain⟨bX,aK,aL⟩:=gP;refine aq ⟨.inr rfl,_,.agg rfl Tryz.underlying179 aK aL (.nil),?_⟩;refine⟨(hp.le.trans gS).trans gZ,?_⟩
    unfold cJ
    rw[Dm hd jJ,ye hd,vN hd];exact⟨_,_,rfl,⟨A3,c3,rfl,mB,iY⟩,bK⟩
theorem vP{H:Heap}{v:Value}{f:Bool}{n d:Nat}(hv:p7 H v f n d)(hd:0<d)(dO:((ah n).length:Int)<8796093022208)(eJ:((ah d).length:Int)<8796093022208):
 Fn Tryz.prog 156 #[v] H (jZ H (bS f n d)):=by
 obtain⟨u,w,rfl,hu,hw⟩:=id hv;refine aU (args:=[_]) Tryz.func156 rfl rfl Tryz.ntmps156 rfl rfl fun w0=> ?_;refine ag [0] rfl ?_;refine ae ?_;refine bF rfl rfl ?_;refine bh cM rfl ?_;refine ab [1,2] ?_;refine ae ?_;refine vr 1 ?_;refine ar rfl rfl (ZR hv hd dO eJ) ?_;rintro v1 H1 ⟨hle,u1,w1,rfl,ep,fi⟩;obtain⟨A,c,rfl,hc,hr⟩:=id ep;obtain⟨A2,c2,rfl,o7,lQ⟩:=id fi;refine bh iX rfl ?_;obtain⟨ti,aj,ak⟩:=gP;refine aG (.inl ⟨rfl,rfl⟩) rfl rfl rfl aj ak rfl rfl rfl ?_;refine ab [2,3] ?_;refine ae ?_;refine vr 6 ?_;refine dW af rfl cM rfl rfl ?_;obtain⟨ti,aj,ak⟩:=bM;refine aG (.inl ⟨rfl,rfl⟩) rfl rfl rfl aj ak rfl rfl rfl ?_;refine ab [2] ?_;obtain⟨bX,aK,aL⟩:=bM;refine aq ⟨.inr rfl,_,.agg rfl Tryz.underlying31 aK aL (.nil),?_⟩;exact⟨hle,_,_,rfl,ep,fi⟩
theorem KM{H:Heap}{v:Value}{f:Bool}{n d:Nat}(hv:p7 H v f n d)(hd:0<d):
 Fn Tryz.prog 154 #[v] H (p8 H (.int .i64 (dF (bS f n d)))):=by
 obtain⟨u,w,rfl,hu,hw⟩:=id hv
 obtain⟨A,c,rfl,hc,hr⟩:=id hu;refine aU (args:=[_]) Tryz.func154 rfl rfl Tryz.ntmps154 rfl rfl fun w0=> ?_;refine ag [0] rfl ?_;refine ae ?_;refine bF rfl rfl ?_;refine vr 1 ?_;refine ab [1] ?_;refine al ?_;refine aD ?_;refine ae ?_;refine vr 5 ?_;refine ab [1,3] ?_;refine az rfl (fun hb=> ?_) (fun hb=> ?_)
 ·
  have hb:n=0:=jW.1 (by simpa using hb);refine ae ?_;refine vr 1 ?_;refine ab [2] ?_;refine aq ⟨.inr rfl,_,.tmp rfl (.nil),?_⟩;exact⟨rfl,by rw[An hd,if_pos hb];rfl⟩
 ·
  have jJ:n≠0:=fun e=>by rw[jW.2 e]at hb;simp at hb
  refine ae ?_;refine vr 3 ?_;refine ab [8] ?_;refine az rfl (fun hb=> ?_) (fun hb=> ?_)
  ·
   subst hb;refine ae ?_;refine vr 1 ?_;refine ab [2] ?_;refine aq ⟨.inr rfl,_,.tmp rfl (.nil),?_⟩;exact⟨rfl,by rw[An hd,if_neg jJ];rfl⟩
  ·
   subst hb;refine aw ?_;refine ag [] rfl ?_;refine ae ?_;refine vr 1 ?_;refine ab [2] ?_;refine aq ⟨.inr rfl,_,.tmp rfl (.nil),?_⟩;exact⟨rfl,by rw[An hd,if_neg jJ];rfl⟩
end Go.ay
namespace Go.ay
open Go.Proofs Num
theorem wrap_u64(n:Int):IntKind.u64.wrap n=n%18446744073709551616:=rfl
theorem Qd{x y:Nat}:(0≤jk x y)↔y≤x:=by
 unfold jk;split
 ·omega
 ·split <;> omega
theorem Qe{H:Heap}{u v:Value}{f g:Bool}{n d m e K:Nat}(hf:p7 H u f n d)(hg:p7 H v g m e)(hd:0<d)(he:0<e)(h1:(ah n).length≤K)(h2:(ah d).length≤K)(h3:(ah m).length≤K)(h4:(ah e).length≤K)(hK:(K:Int)≤2199023255552):
 Fn Tryz.prog 182 #[u,v] H (G8 H (bS f n d+bS g m e) (2*K+1)):=by
 obtain⟨un,ud,rfl,pZ,Qg⟩:=id hf
 obtain⟨vm,ve,rfl,ZS,Aw⟩:=id hg
 have p9:=nv n e
 have lR:=nv m d
 have KN:=nv d e
 have G9:=Nat.mul_pos hd he
 have fw:=P9 (x:=n*e) (y:=m*d) (k:=2*K) (by omega) (by omega);refine aU (args:=[_,_]) Tryz.func182 rfl rfl Tryz.ntmps182 rfl rfl fun w0=> ?_;refine ag [0,1] rfl ?_;refine ae ?_;refine bF rfl rfl ?_;refine bF rfl rfl ?_;refine bh iX rfl ?_;refine ab [2,3,4] ?_;refine bL .bn [0,1,2,3,5,6,7,8,4,9,10,11] follows (by kernel_rfl) ?_;refine vr 8 ?_;refine aH rfl rfl (tC pZ Aw (by omega) (by omega)) (fun _ _ h=>h.le) ?_;intro v1 H1 gG;refine aH rfl rfl (tC (ZS.le gG.le) (Qg.le gG.le) (by omega) (by omega)) (fun _ _ h=>h.le) ?_;intro v2 H2 ia;refine vr 2 ?_;refine ab [2,3,4,5,6] ?_;refine ae ?_;refine vr 4 ?_;refine ar rfl rfl (tC (Qg.le (gG.le.trans ia.le)) (Aw.le (gG.le.trans ia.le)) (by omega) (by omega)) ?_;intro v3 H3 ew;have ib:=(gG.le.trans ia.le).trans ew.le;have dO:=gG.nat.le (ia.le.trans ew.le);have iv:=ia.nat.le ew.le;have iM:=ew.nat;obtain⟨KO,KP,rfl,KQ,KR⟩:=id dO;obtain⟨Qh,Qi,rfl,Qj,Qk⟩:=id iv;obtain⟨KS,KT,rfl,KU,Hi⟩:=id iM;refine vr 1 ?_;refine ab [2,3,4,5,6,7] ?_;refine al ?_;refine ae ?_;refine vr 4 ?_;refine CN Tryz.underlying4 rfl rfl ?_;refine ab [2,3,4,5,6,7,27] ?_;refine az rfl (fun hb=> ?_) (fun hb=> ?_)
 ·
  have o5:f=g:=by simpa using hb
  subst o5;refine bL .bn [0,1,2,3,5,4,6,7] follows (by kernel_rfl) ?_;refine vr 5 ?_;refine aH rfl rfl (Y8 dO iv (by omega) (by omega)) (fun _ _ h=>h.le) ?_;intro v4 H4 fy;have dY:=fy.nat;obtain⟨Hj,Hk,rfl,Hl,Hm⟩:=id dY;refine dW af rfl iX rfl rfl ?_;obtain⟨ti,aj,ak⟩:=gP;refine aG (.inl ⟨rfl,rfl⟩) rfl rfl rfl aj ak rfl rfl rfl ?_;refine ab [4] ?_;obtain⟨bX,aK,aL⟩:=gP;refine aq ⟨.inr rfl,_,.agg rfl Tryz.underlying179 aK aL (.nil),?_⟩;exact⟨ib.trans fy.le,f,n*e+m*d,d*e,⟨_,_,rfl,dY,iM.le fy.le⟩,G9,(P4 f hd he).symm,by omega,by omega⟩
 ·
  have o5:f≠g:=by simpa using hb
  refine aw ?_;refine ag [2,3,4,5,6,7] rfl ?_;refine al ?_;refine ae ?_;refine vr 2 ?_;refine ar rfl rfl (Qa dO iv (by omega)) ?_;rintro v4 H4 ⟨rfl,rfl⟩;refine vr 1 ?_;refine ab [2,3,4,5,6,7,38] ?_;refine az rfl (fun hb=> ?_) (fun hb=> ?_)
  ·
   have hb:m*d≤n*e:=Qd.1 (by simpa using hb);have eL:=lB (Nat.sub_le (n*e) (m*d));refine bL .bn [0,1,2,3,5,4,6,7] follows (by kernel_rfl) ?_;refine vr 5 ?_;refine aH rfl rfl (PJ dO iv hb (by omega)) (fun _ _ h=>h.le) ?_;intro v4 H4 fy;have dY:=fy.nat;obtain⟨Hj,Hk,rfl,Hl,Hm⟩:=id dY;refine dW af rfl iX rfl rfl ?_;obtain⟨ti,aj,ak⟩:=gP;refine aG (.inl ⟨rfl,rfl⟩) rfl rfl rfl aj ak rfl rfl rfl ?_;refine ab [4] ?_;obtain⟨bX,aK,aL⟩:=gP;refine aq ⟨.inr rfl,_,.agg rfl Tryz.underlying179 aK aL (.nil),?_⟩;exact⟨ib.trans fy.le,f,n*e-m*d,d*e,⟨_,_,rfl,dY,iM.le fy.le⟩,G9,(KJ o5 hd he hb).symm,by omega,by omega⟩
  ·
   have hb:¬m*d≤n*e:=fun h=>by have:=Qd.2 h;simp at hb;omega
   have hb:n*e≤m*d:=by omega
   have eL:=lB (Nat.sub_le (m*d) (n*e));refine aw ?_;refine ag [3,4,5,6,7] rfl ?_;refine bL .bn [0,1,2,3,5,4,6,7] follows (by kernel_rfl) ?_;refine vr 5 ?_;refine aH rfl rfl (PJ iv dO hb (by omega)) (fun _ _ h=>h.le) ?_;intro v4 H4 fy;have dY:=fy.nat;obtain⟨Hj,Hk,rfl,Hl,Hm⟩:=id dY;refine dW af rfl iX rfl rfl ?_;obtain⟨ti,aj,ak⟩:=gP;refine aG (.inl ⟨rfl,rfl⟩) rfl rfl rfl aj ak rfl rfl rfl ?_;refine ab [4] ?_;obtain⟨bX,aK,aL⟩:=gP;refine aq ⟨.inr rfl,_,.agg rfl Tryz.underlying179 aK aL (.nil),?_⟩;exact⟨ib.trans fy.le,g,m*d-n*e,d*e,⟨_,_,rfl,dY,iM.le fy.le⟩,G9,(P5 o5 hd he hb).symm,by omega,by omega⟩
theorem KV{H:Heap}{n:Int}(h1: -9223372036854775808≤n)(h2:n≤9223372036854775807):
 Fn Tryz.prog 155 #[.int .i64 n] H (lP H n.natAbs):=by
 refine aU (args:=[_]) Tryz.func155 rfl rfl Tryz.ntmps155 rfl rfl fun w0=> ?_;refine ag [0] rfl ?_;refine ae ?_;refine vr 1 ?_;refine ab [0] ?_;refine al ?_;refine ae ?_;refine vr 2 ?_;refine ab [0,4] ?_;refine az rfl (fun hb=> ?_) (fun hb=> ?_)
 ·
  have hb:n<0:=by simpa using hb
  refine ae ?_;refine vr 1 ?_;refine Pk af rfl rfl rfl ?_;refine XI rfl ?_;rw[show IntKind.u64.wrap (-IntKind.u64.wrap n)=((n.natAbs:Nat):Int) by rw[wrap_u64,wrap_u64];omega];refine ar rfl rfl (GQ (by omega)) ?_;intro v1 H1 hp;refine vr 1 ?_;refine ab [2] ?_;refine aq ⟨.inr rfl,_,.tmp rfl (.nil),?_⟩;exact hp
 ·
  have hb:0≤n:=by simpa using hb
  refine aw ?_;refine ag [0] rfl ?_;refine ae ?_;refine vr 1 ?_;refine Pk af rfl rfl rfl ?_;rw[show IntKind.u64.wrap n=((n.natAbs:Nat):Int) by rw[wrap_u64];omega];refine ar rfl rfl (GQ (by omega)) ?_;intro v1 H1 hp;refine vr 1 ?_;refine ab [2] ?_;refine aq ⟨.inr rfl,_,.tmp rfl (.nil),?_⟩;exact hp
theorem KW{H:Heap}{n:Int}(h1: -9223372036854775808≤n)(h2:n≤9223372036854775807):
 Fn Tryz.prog 85 #[.int .i64 n] H (jZ H (n:Rat)):=by
 have a7:(ah n.natAbs).length≤3:=ji.2 (by rw[cz];omega);refine aU (args:=[_]) Tryz.func85 rfl rfl Tryz.ntmps85 rfl rfl fun w0=> ?_;refine ag [0] rfl ?_;refine ae ?_;refine bh cM rfl ?_;refine ab [0,2] ?_;refine ae ?_;refine vr 3 ?_;refine ar rfl rfl (KV h1 h2) ?_;intro v1 H1 hp;have dO:=hp.nat;obtain⟨KO,KP,rfl,KQ,KR⟩:=id dO;refine dM Tryz.underlying177 dX rfl rfl rfl rfl rfl rfl rfl ?_;intro gb bW;refine dW af rfl iX rfl rfl ?_;refine ar rfl rfl (vP (f:=decide (n<0)) (n:=n.natAbs) (d:=1) ⟨_,_,rfl,dO.le (Heap.bC _ bW),vO⟩ (by decide) (by omega) (by rw[tG];decide)) ?_;rintro v1 H2 ⟨hle,hq⟩;rw[G6]at hq;obtain⟨u1,w1,rfl,ep,fi⟩:=id hq;obtain⟨lS,lT,rfl,lU,lV⟩:=id ep;obtain⟨Az,AA,rfl,AB,AD⟩:=id fi;obtain⟨ti,aj,ak⟩:=bM;refine aG (.inl ⟨rfl,rfl⟩) rfl rfl rfl aj ak rfl rfl rfl ?_;refine ab [2] ?_;obtain⟨bX,aK,aL⟩:=bM;refine aq ⟨.inr rfl,_,.agg rfl Tryz.underlying31 aK aL (.nil),?_⟩;exact⟨(hp.le.trans (Heap.bC _ bW)).trans hle,hq⟩
theorem Ql{H:Heap}{a b:Int}(h1: -9223372036854775808≤a)(h2:a≤9223372036854775807)(h3: -9223372036854775808≤b)(h4:b≤9223372036854775807):
 Fn Tryz.prog 133 #[.int .i64 a,.int .i64 b] H (jZ H ((a:Rat)/(b:Rat))):=by
 have a7:(ah a.natAbs).length≤3:=ji.2 (by rw[cz];omega)
 have bE:(ah b.natAbs).length≤3:=ji.2 (by rw[cz];omega);refine aU (args:=[_,_]) Tryz.func133 rfl rfl Tryz.ntmps133 rfl rfl fun w0=> ?_;refine ag [0,1] rfl ?_;refine ae ?_;refine bh cM rfl ?_;refine ab [0,1,4] ?_;refine al ?_;refine ae ?_;refine vr 2 ?_;refine ab [0,1,4,6] ?_;refine az rfl (fun hb=> ?_) (fun hb=> ?_)
 ·
  have hb:b=0:=by simpa using hb
  subst hb;refine ae ?_;refine ar rfl rfl (KW (n:=0) (by decide) (by decide)) ?_;rintro v1 H2 ⟨hle,hq⟩;obtain⟨u1,w1,rfl,ep,fi⟩:=id hq;obtain⟨lS,lT,rfl,lU,lV⟩:=id ep;obtain⟨Az,AA,rfl,AB,AD⟩:=id fi;obtain⟨ti,aj,ak⟩:=bM;refine aG (.inl ⟨rfl,rfl⟩) rfl rfl rfl aj ak rfl rfl rfl ?_;refine ab [4] ?_;obtain⟨bX,aK,aL⟩:=bM;refine aq ⟨.inr rfl,_,.agg rfl Tryz.underlying31 aK aL (.nil),?_⟩;exact⟨hle,by rw[show (a:Rat)/((0:Int):Rat)=((0:Int):Rat) by simp[Rat.div_def]];exact hq⟩
 ·
  have hb:b≠0:=by simpa using hb
  refine aw ?_;refine ag [0,1,4] rfl ?_;refine ae ?_;refine vr 4 ?_;refine zT Tryz.underlying4 rfl rfl ?_;refine vr 1 ?_;refine ar rfl rfl (KV h1 h2) ?_;intro v1 H1 gG;refine vr 1 ?_;refine ar rfl rfl (KV h3 h4) ?_;intro v2 H2 ia;have dO:=gG.nat.le ia.le;have iv:=ia.nat;obtain⟨KO,KP,rfl,KQ,KR⟩:=id dO;obtain⟨Qh,Qi,rfl,Qj,Qk⟩:=id iv;refine dW af rfl iX rfl rfl ?_;refine ar rfl rfl (vP (f:=decide (a<0) != decide (b<0)) (n:=a.natAbs) (d:=b.natAbs) ⟨_,_,rfl,dO,iv⟩ (by omega) (by omega) (by omega)) ?_;rintro v1 H3 ⟨hle,hq⟩;rw[P8]at hq;obtain⟨u1,w1,rfl,ep,fi⟩:=id hq;obtain⟨lS,lT,rfl,lU,lV⟩:=id ep;obtain⟨Az,AA,rfl,AB,AD⟩:=id fi;obtain⟨ti,aj,ak⟩:=bM;refine aG (.inl ⟨rfl,rfl⟩) rfl rfl rfl aj ak rfl rfl rfl ?_;refine ab [4] ?_;obtain⟨bX,aK,aL⟩:=bM;refine aq ⟨.inr rfl,_,.agg rfl Tryz.underlying31 aK aL (.nil),?_⟩;exact⟨(gG.le.trans ia.le).trans hle,hq⟩
end Go.ay
namespace Go.ay
open Go.Proofs Num
theorem ZT(p q:Rat):Fit .i64 (gQ p q):=by
 unfold gQ;split
 ·exact⟨by decide,by decide⟩
 ·split <;> exact⟨by decide,by decide⟩
theorem AE{H:Heap}{v:Value}{q:Rat}{N:Nat}(hv:bN H v q N)(hN:(N:Int)≤1099511627776):
 Fn Tryz.prog 86 #[v] H (jZ H q):=by
 obtain⟨bf,bu,bw,lW,lX,rfl,_⟩:=id hv;refine aU (args:=[_]) Tryz.func86 rfl rfl Tryz.ntmps86 rfl rfl fun w0=> ?_;refine ag [0] rfl ?_;refine ae ?_;refine bF rfl rfl ?_;refine bh cM rfl ?_;refine ab [1,2] ?_;refine ae ?_;refine vr 1 ?_;refine ar rfl rfl (o6 hv (by omega)) ?_;rintro v1 H1 ⟨fk,f1,n1,d1,kp,eJ,rfl,aI,p9⟩;obtain⟨tH,tI,rfl,gm,gH⟩:=id kp;obtain⟨tJ,tK,rfl,tL,tM⟩:=id gm;obtain⟨tN,tO,rfl,tP,tQ⟩:=id gH;refine ar rfl rfl (vP kp eJ (by omega) (by omega)) ?_;rintro w2 G2 ⟨dP,bK⟩;obtain⟨u2,x2,rfl,eY,fm⟩:=id bK;obtain⟨oc,oe,rfl,og,oh⟩:=id eY;obtain⟨oj,om,rfl,oo,ot⟩:=id fm;obtain⟨ti,aj,ak⟩:=bM;refine aG (.inl ⟨rfl,rfl⟩) rfl rfl rfl aj ak rfl rfl rfl ?_;refine ab [2] ?_;obtain⟨bX,aK,aL⟩:=bM;refine aq ⟨.inr rfl,_,.agg rfl Tryz.underlying31 aK aL (.nil),?_⟩;exact⟨fk.trans dP,bK⟩
theorem KY{H:Heap}{v:Value}{q:Rat}{N:Nat}(hv:bN H v q N)(hN:(N:Int)≤1099511627776):
 Fn Tryz.prog 84 #[v] H (fun v H'=>Heap.le H H'∧v = .int .i64 (dF q)):=by
 obtain⟨bf,bu,bw,lW,lX,rfl,_⟩:=id hv;refine aU (args:=[_]) Tryz.func84 rfl rfl Tryz.ntmps84 rfl rfl fun w0=> ?_;refine ag [0] rfl ?_;refine ae ?_;refine bF rfl rfl ?_;refine vr 1 ?_;refine ab [1] ?_;refine ae ?_;refine vr 1 ?_;refine ar rfl rfl (o6 hv (by omega)) ?_;rintro v1 H1 ⟨fk,f1,n1,d1,kp,eJ,rfl,aI,p9⟩;obtain⟨tH,tI,rfl,gm,gH⟩:=id kp;obtain⟨tJ,tK,rfl,tL,tM⟩:=id gm;obtain⟨tN,tO,rfl,tP,tQ⟩:=id gH;refine ar rfl rfl (KM kp eJ) ?_;rintro v2 H2 ⟨rfl,rfl⟩;refine vr 1 ?_;refine ab [2] ?_;refine aq ⟨.inr rfl,_,.tmp rfl (.nil),?_⟩;exact⟨fk,rfl⟩
theorem ZU{H:Heap}{v:Value}{q:Rat}{N:Nat}(hv:bN H v q N)(hN:(N:Int)≤1099511627776):
 Fn Tryz.prog 131 #[v] H (jZ H (-q)):=by
 obtain⟨bf,bu,bw,lW,lX,rfl,_⟩:=id hv;refine aU (args:=[_]) Tryz.func131 rfl rfl Tryz.ntmps131 rfl rfl fun w0=> ?_;refine ag [0] rfl ?_;refine ae ?_;refine bF rfl rfl ?_;refine bh cM rfl ?_;refine ab [1,2] ?_;refine ae ?_;refine vr 1 ?_;refine ar rfl rfl (o6 hv (by omega)) ?_;rintro v1 H1 ⟨fk,f1,n1,d1,kp,eJ,rfl,aI,p9⟩;obtain⟨tH,tI,rfl,gm,gH⟩:=id kp;obtain⟨tJ,tK,rfl,tL,tM⟩:=id gm;obtain⟨tN,tO,rfl,tP,tQ⟩:=id gH;refine bh iX rfl ?_;obtain⟨ti,aj,ak⟩:=gP;refine aG (.inl ⟨rfl,rfl⟩) rfl rfl rfl aj ak rfl rfl rfl ?_;refine ab [2,3] ?_;refine ae ?_;refine vr 4 ?_;obtain⟨ti,aj,ak⟩:=Pw;refine aG (.inr rfl) rfl rfl rfl aj ak rfl rfl rfl ?_;refine ab [2,3] ?_;refine ae ?_;refine vr 1 ?_;refine ar rfl rfl (vP (f:= !f1) ⟨_,_,rfl,gm,gH⟩ eJ (by omega) (by omega)) ?_;rintro w2 G2 ⟨dP,bK⟩;rw[←KK]at bK;obtain⟨u2,x2,rfl,eY,fm⟩:=id bK;obtain⟨oc,oe,rfl,og,oh⟩:=id eY;obtain⟨oj,om,rfl,oo,ot⟩:=id fm;obtain⟨ti,aj,ak⟩:=bM;refine aG (.inl ⟨rfl,rfl⟩) rfl rfl rfl aj ak rfl rfl rfl ?_;refine ab [2] ?_;obtain⟨bX,aK,aL⟩:=bM;refine aq ⟨.inr rfl,_,.agg rfl Tryz.underlying31 aK aL (.nil),?_⟩;exact⟨fk.trans dP,bK⟩
theorem Qm{H:Heap}{v v2:Value}{q q2:Rat}{N:Nat}(hv:bN H v q N)(dI:bN H v2 q2 N)(hN:(N:Int)≤1099511627776):
 Fn Tryz.prog 115 #[v,v2] H (jZ H (q+q2)):=by
 obtain⟨bf,bu,bw,lW,lX,rfl,_⟩:=id hv
 obtain⟨cf,cu,cw,vQ,vR,rfl,_⟩:=id dI;refine aU (args:=[_,_]) Tryz.func115 rfl rfl Tryz.ntmps115 rfl rfl fun w0=> ?_;refine ag [0,1] rfl ?_;refine ae ?_;refine bF rfl rfl ?_;refine bF rfl rfl ?_;refine bh cM rfl ?_;refine ab [2,3,4] ?_;refine bL .bn [0,2,1,3,4,5,6] follows (by kernel_rfl) ?_;refine vr 2 ?_;refine aH rfl rfl (o6 hv (by omega)) (fun _ _ h=>h.le) ?_;rintro v1 H1 ⟨fk,f1,n1,d1,kp,eJ,rfl,aI,p9⟩;obtain⟨tH,tI,rfl,gm,gH⟩:=id kp;obtain⟨tJ,tK,rfl,tL,tM⟩:=id gm;obtain⟨tN,tO,rfl,tP,tQ⟩:=id gH;refine aH rfl rfl (o6 (dI.le fk) (by omega)) (fun _ _ h=>h.le) ?_;rintro v2 H2 ⟨dU,f2,n2,d2,qP,jH,rfl,aM,lR⟩;obtain⟨AF,AG,rfl,kS,kq⟩:=id qP;obtain⟨yh,yi,rfl,AH,AI⟩:=id kS;obtain⟨yj,yk,rfl,AJ,AK⟩:=id kq;refine aH rfl rfl (Qe (K:=N+1) (kp.le dU) qP eJ jH aI p9 aM lR (by omega)) (fun _ _ h=>h.le) ?_;rintro v3 H3 ⟨ib,f3,n3,d3,Dp,KZ,ou,a7,KN⟩;obtain⟨ZV,ZW,rfl,ZX,ZY⟩:=id Dp;refine aH rfl rfl (vP Dp KZ (by omega) (by omega)) (fun _ _ h=>h.le) ?_;rintro w4 G4 ⟨jx,bR⟩;rw[ou]at bR;obtain⟨u4,x4,rfl,qQ,mC⟩:=id bR;obtain⟨Hn,Ho,rfl,Hp,Hq⟩:=id qQ;obtain⟨Dq,Dr,rfl,Ds,Dt⟩:=id mC;obtain⟨ti,aj,ak⟩:=bM;refine aG (.inl ⟨rfl,rfl⟩) rfl rfl rfl aj ak rfl rfl rfl ?_
 refine ab [4] ?_;obtain⟨bX,aK,aL⟩:=bM;refine aq ⟨.inr rfl,_,.agg rfl Tryz.underlying31 aK aL (.nil),?_⟩;exact⟨((fk.trans dU).trans ib).trans jx,bR⟩
theorem K1{H:Heap}{v v2:Value}{q q2:Rat}{N:Nat}(hv:bN H v q N)(dI:bN H v2 q2 N)(hN:(N:Int)≤1099511627776):
 Fn Tryz.prog 158 #[v,v2] H (jZ H (q*q2)):=by
 obtain⟨bf,bu,bw,lW,lX,rfl,_⟩:=id hv
 obtain⟨cf,cu,cw,vQ,vR,rfl,_⟩:=id dI;refine aU (args:=[_,_]) Tryz.func158 rfl rfl Tryz.ntmps158 rfl rfl fun w0=> ?_;refine ag [0,1] rfl ?_;refine ae ?_;refine bF rfl rfl ?_;refine bF rfl rfl ?_;refine bh cM rfl ?_;refine ab [2,3,4] ?_;refine bL .bn [0,2,1,3,4,5,6,7] follows (by kernel_rfl) ?_;refine vr 2 ?_;refine aH rfl rfl (o6 hv (by omega)) (fun _ _ h=>h.le) ?_;rintro v1 H1 ⟨fk,f1,n1,d1,kp,eJ,rfl,aI,p9⟩;obtain⟨tH,tI,rfl,gm,gH⟩:=id kp;obtain⟨tJ,tK,rfl,tL,tM⟩:=id gm;obtain⟨tN,tO,rfl,tP,tQ⟩:=id gH;refine aH rfl rfl (o6 (dI.le fk) (by omega)) (fun _ _ h=>h.le) ?_;rintro v2 H2 ⟨dU,f2,n2,d2,qP,jH,rfl,aM,lR⟩;obtain⟨AF,AG,rfl,kS,kq⟩:=id qP;obtain⟨yh,yi,rfl,AH,AI⟩:=id kS;obtain⟨yj,yk,rfl,AJ,AK⟩:=id kq;have jI:=nv n1 n2;have iK:=nv d1 d2;refine bh iX rfl ?_;refine bh iX rfl ?_;obtain⟨ti,aj,ak⟩:=gP;refine aG (.inl ⟨rfl,rfl⟩) rfl rfl rfl aj ak rfl rfl rfl ?_;obtain⟨ti,aj,ak⟩:=gP;refine aG (.inl ⟨rfl,rfl⟩) rfl rfl rfl aj ak rfl rfl rfl ?_;refine ab [4,5,6] ?_;refine bL .bn [0,1,2,3,4,5,6,7,8,10,11,12,13,9,14,15,16,17] follows (by kernel_rfl) ?_;refine vr 4 ?_;refine zT Tryz.underlying4 rfl rfl ?_
 refine vr 8 ?_;refine aH rfl rfl (tC (gm.le dU) kS (by omega) (by omega)) (fun _ _ h=>h.le) ?_;intro v3 H3 ew;refine aH rfl rfl (tC (gH.le (dU.trans ew.le)) (kq.le ew.le) (by omega) (by omega)) (fun _ _ h=>h.le) ?_;intro v4 H4 fy;have iM:=ew.nat.le fy.le;have dY:=fy.nat;obtain⟨KS,KT,rfl,KU,Hi⟩:=id iM;obtain⟨Hj,Hk,rfl,Hl,Hm⟩:=id dY;refine dW af rfl iX rfl rfl ?_;refine aH rfl rfl (vP (f:=f1 != f2) (n:=n1*n2) (d:=d1*d2) ⟨_,_,rfl,iM,dY⟩ (Nat.mul_pos eJ jH) (by omega) (by omega)) (fun _ _ h=>h.le) ?_;rintro w4 G4 ⟨jx,bR⟩;rw[←KL]at bR;obtain⟨u4,x4,rfl,qQ,mC⟩:=id bR;obtain⟨Hn,Ho,rfl,Hp,Hq⟩:=id qQ;obtain⟨Dq,Dr,rfl,Ds,Dt⟩:=id mC;obtain⟨ti,aj,ak⟩:=bM;refine aG (.inl ⟨rfl,rfl⟩) rfl rfl rfl aj ak rfl rfl rfl ?_;refine ab [4] ?_;obtain⟨bX,aK,aL⟩:=bM;refine aq ⟨.inr rfl,_,.agg rfl Tryz.underlying31 aK aL (.nil),?_⟩;exact⟨(((fk.trans dU).trans ew.le).trans fy.le).trans jx,bR⟩
theorem Qn{H:Heap}{v v2:Value}{q q2:Rat}{N:Nat}(hv:bN H v q N)(dI:bN H v2 q2 N)(hN:(N:Int)≤1099511627776):
 Fn Tryz.prog 186 #[v,v2] H (fun v H'=>Heap.le H H'∧∃r,v = .tuple #[r,.bool (decide (q2≠0))]∧cJ H' r (q/q2)):=by
 obtain⟨bf,bu,bw,lW,lX,rfl,_⟩:=id hv
 obtain⟨cf,cu,cw,vQ,vR,rfl,_⟩:=id dI;refine aU (args:=[_,_]) Tryz.func186 rfl rfl Tryz.ntmps186 rfl rfl fun w0=> ?_;refine ag [0,1] rfl ?_;refine ae ?_;refine bF rfl rfl ?_;refine bF rfl rfl ?_;refine bh cM rfl ?_;refine vr 1 ?_;refine ab [2,3,4] ?_;refine bL .bn [0,2,1,3,4,5,6,7] follows (by kernel_rfl) ?_;refine vr 2 ?_;refine aH rfl rfl (o6 hv (by omega)) (fun _ _ h=>h.le) ?_;rintro v1 H1 ⟨fk,f1,n1,d1,kp,eJ,rfl,aI,p9⟩;obtain⟨tH,tI,rfl,gm,gH⟩:=id kp;obtain⟨tJ,tK,rfl,tL,tM⟩:=id gm;obtain⟨tN,tO,rfl,tP,tQ⟩:=id gH;refine aH rfl rfl (o6 (dI.le fk) (by omega)) (fun _ _ h=>h.le) ?_;rintro v2 H2 ⟨dU,f2,n2,d2,qP,jH,rfl,aM,lR⟩;obtain⟨AF,AG,rfl,kS,kq⟩:=id qP;obtain⟨yh,yi,rfl,AH,AI⟩:=id kS;obtain⟨yj,yk,rfl,AJ,AK⟩:=id kq;have jI:=nv n1 d2;have iK:=nv d1 n2;refine bh iX rfl ?_;refine bh iX rfl ?_;obtain⟨ti,aj,ak⟩:=gP;refine aG (.inl ⟨rfl,rfl⟩) rfl rfl rfl aj ak rfl rfl rfl ?_;obtain⟨ti,aj,ak⟩:=gP;refine aG (.inl ⟨rfl,rfl⟩) rfl rfl rfl aj ak rfl rfl rfl ?_;refine ab [4,6,7] ?_;refine al ?_;refine ae ?_;refine vr 4 ?_;refine ab [4,6,7,15] ?_;refine az rfl (fun hb=> ?_) (fun hb=> ?_)
 ·
  have hb:n2=0:=jW.1 (by simpa using hb);subst hb;refine ae ?_;refine ar rfl rfl (KW (n:=0) (by decide) (by decide)) ?_;rintro w4 G4 ⟨jx,bR⟩;obtain⟨u4,x4,rfl,qQ,mC⟩:=id bR;obtain⟨Hn,Ho,rfl,Hp,Hq⟩:=id qQ;obtain⟨Dq,Dr,rfl,Ds,Dt⟩:=id mC;obtain⟨ti,aj,ak⟩:=bM;refine aG (.inl ⟨rfl,rfl⟩) rfl rfl rfl aj ak rfl rfl rfl ?_;refine vr 1 ?_;refine ab [4,5] ?_;obtain⟨bX,aK,aL⟩:=bM;refine aq ⟨.inr rfl,_,.agg rfl Tryz.underlying31 aK aL (.tmp rfl (.nil)),?_⟩;refine⟨(fk.trans dU).trans jx,_,?_,by rw[vM,Rat.div_def,Rat.inv_zero,Rat.mul_zero];exact bR⟩;rw[vM];rfl
 ·
  have jJ:0<n2:=Nat.pos_of_ne_zero fun e=>by rw[jW.2 e]at hb;simp at hb
  refine aw ?_;refine ag [4,6,7] rfl ?_;refine bL .bn [0,1,2,3,4,5,6,7,8,10,11,12,13,9,14,15,16,17,18] follows (by kernel_rfl) ?_;refine vr 4 ?_;refine zT Tryz.underlying4 rfl rfl ?_;refine vr 8 ?_;refine aH rfl rfl (tC (gm.le dU) kq (by omega) (by omega)) (fun _ _ h=>h.le) ?_;intro v3 H3 ew;refine aH rfl rfl (tC (gH.le (dU.trans ew.le)) (kS.le ew.le) (by omega) (by omega)) (fun _ _ h=>h.le) ?_;intro v4 H4 fy;have iM:=ew.nat.le fy.le;have dY:=fy.nat;obtain⟨KS,KT,rfl,KU,Hi⟩:=id iM;obtain⟨Hj,Hk,rfl,Hl,Hm⟩:=id dY;refine dW af rfl iX rfl rfl ?_;refine aH rfl rfl (vP (f:=f1 != f2) (n:=n1*d2) (d:=d1*n2) ⟨_,_,rfl,iM,dY⟩ (Nat.mul_pos eJ jJ) (by omega) (by omega)) (fun _ _ h=>h.le) ?_;rintro w4 G4 ⟨jx,bR⟩;rw[←P7 jJ]at bR;obtain⟨u4,x4,rfl,qQ,mC⟩:=id bR;obtain⟨Hn,Ho,rfl,Hp,Hq⟩:=id qQ;obtain⟨Dq,Dr,rfl,Ds,Dt⟩:=id mC;obtain⟨ti,aj,ak⟩:=bM;refine aG (.inl ⟨rfl,rfl⟩) rfl rfl rfl aj ak rfl rfl rfl ?_;refine vr 1 ?_;refine ab [4,5] ?_;obtain⟨bX,aK,aL⟩:=bM;refine aq ⟨.inr rfl,_,.agg rfl Tryz.underlying31 aK aL (.tmp rfl (.nil)),?_⟩;refine⟨(((fk.trans dU).trans ew.le).trans fy.le).trans jx,_,?_,bR⟩
  have bD:bS f2 n2 d2≠0:=fun e=>by rw[P3 jH]at e;omega
  rw[show decide (bS f2 n2 d2≠0)=true from decide_eq_true bD];rfl
end Go.ay
namespace Go.ay
open Go
def rem(H:Heap)(gs:List Nat):Heap:=fun g=>if g∈gs then none else H g
theorem rem_in{H:Heap}{gs:List Nat}{g:Nat}(h:g∈gs):rem H gs g=none:=by simp[rem,h]
theorem bY{H:Heap}{gs:List Nat}{g:Nat}(h:¬g∈gs):rem H gs g=H g:=by simp[rem,h]
theorem gn(H:Heap):rem H []=H:=by funext g;simp[rem]
theorem bG(H:Heap)(gs:List Nat):Heap.le (rem H gs) H:=fun g e h=>by
 by_cases hg:g∈gs
 ·rw[rem_in hg]at h;cases h
 ·rw[bY hg]at h;exact⟨e,h,.refl e⟩
theorem r8{H H':Heap}(gs:List Nat)(h:Heap.le H H'):Heap.le (rem H gs) (rem H' gs):=fun g e he=>by
 by_cases hg:g∈gs
 ·rw[rem_in hg]at he;cases he
 ·rw[bY hg]at he⊢;exact h g e he
theorem cK{H:Heap}{gs:List Nat}{g:Nat}(e:aQ)(h:g∈gs):rem (ins H g e) gs=rem H gs:=by
 funext k
 by_cases hk:k∈gs
 ·rw[rem_in hk,rem_in hk]
 ·rw[bY hk,bY hk,bP _ _ (fun(e':k=g)=>hk (by rw[e'];exact h))]
theorem tR{H:Heap}{gs:List Nat}{g:Nat}(e:aQ)(h:¬g∈gs):rem (ins H g e) gs=ins (rem H gs) g e:=by
 funext k
 by_cases hk:k∈gs
 ·rw[rem_in hk,bP _ _ (fun(e':k=g)=>h (by rw[←e'];exact hk)),rem_in hk]
 ·rw[bY hk]
  unfold ins
  rw[bY hk]
theorem se{H:Heap}{gs:List Nat}{g:Nat}(e:aQ)(h:H g=none):rem (ins H g e) (g::gs)=rem H gs:=by
 funext k
 by_cases hk:k=g
 ·subst hk
  rw[rem_in (List.mem_cons_self ..)]
  by_cases hg:k∈gs
  ·rw[rem_in hg]
  ·rw[bY hg,h]
 ·by_cases hg:k∈gs
  ·rw[rem_in hg,rem_in (List.mem_cons_of_mem _ hg)]
  ·rw[bY hg,bY (by simp[hk,hg]),bP _ _ hk]
theorem Hr(H:Heap)(g:Nat)(gs:List Nat):Heap.le (rem H (g::gs)) (rem H gs):=fun k e h=>by
 by_cases hk:k∈g::gs
 ·rw[rem_in hk]at h;cases h
 ·rw[bY hk]at h
  exact⟨e,by rw[bY (fun h'=>hk (List.mem_cons_of_mem _ h'))];exact h,.refl e⟩
theorem Den.rem{H:Heap}{w:World}(h:Den H w)(gs:List Nat):Den (rem H gs) w:=h.le (bG H gs)
structure vS(gs:List Nat)(bt:Value→Heap→Prop)(H:Heap)(v:Value)(H':Heap):Prop where
 post:bt v (rem H' gs)
 same:∀g,g∈gs→H' g=H g
theorem Fn.frame{P:Program}{f:FuncId}{args:Array Value}{H:Heap}{bt:Value→Heap→Prop}{gs:List Nat}(sh:∀g,g∈gs→H g≠none)(h:Fn P f args (rem H gs) bt):Fn P f args H (vS gs bt H):=by
 refine⟨h.ent,fun w hd=>(h.run w (hd.rem gs)).mono fun e w' ⟨v,he,K,hp,lJ,hf⟩=>⟨v,he,fun g=>if g∈gs then H g else K g,?_,?_,?_⟩⟩
 ·have hk:∀g,g∈gs→K g=none:=fun g hg=>by
   cases hh:H g with
   | none=>exact absurd hh (sh g hg)
   | some e=>exact(hf.keep g (hd.lt hh) (rem_in hg)).2
  have e1:ay.rem (fun g=>if g∈gs then H g else K g) gs=K:=by
   funext g
   by_cases hg:g∈gs
   ·rw[rem_in hg,hk g hg]
   ·rw[bY hg];simp[hg]
  exact⟨by rw[e1];exact hp,fun g hg=>by simp[hg]⟩
 ·intro g e hg
  by_cases hm:g∈gs
  ·simp only[hm,if_true]at hg
   obtain⟨o,h1,h2⟩:=hd g e hg
   exact⟨o,by rw[(hf.keep g (hd.lt hg) (rem_in hm)).1];exact h1,h2⟩
  ·simp only[hm,if_false]at hg
   exact lJ g e hg
 ·refine⟨hf.os,hf.tape,hf.output,hf.size,fun g hg h0=> ?_,hf.form⟩
  have hm:¬g∈gs:=fun hm=>sh g hm h0
  have h1:=hf.keep g hg (by rw[bY hm];exact h0)
  exact⟨h1.1,by simp only[hm,if_false];exact h1.2⟩
theorem vS.le{gs:List Nat}{bt:Value→Heap→Prop}{H H':Heap}{v:Value}(h:vS gs bt H v H')(hl:∀v K,bt v K→Heap.le (rem H gs) K):Heap.le H H':=fun g e hg=>by
 by_cases hm:g∈gs
 ·exact⟨e,by rw[h.same g hm];exact hg,.refl e⟩
 ·obtain⟨e',h1,h2⟩:=hl v _ h.post g e (by rw[bY hm];exact hg)
  rw[bY hm]at h1
  exact⟨e',h1,h2⟩
theorem App.rem{H H':Heap}{v v':Value}{e sz n:Nat}{xs:List Value}{gs:List Nat}(h:App H v e sz n xs v' H')(hg:∀g,g∈gs→H g≠none)(hv:∀g,g∈gs→v.ownBlock≠some g):
  App (ay.rem H gs) v e sz n xs v' (ay.rem H' gs)∧∀g,g∈gs→H' g=H g:=by
 have hs:∀g,g∈gs→H' g=H g:=fun g hm=>by
  cases hh:H g with
  | none=>exact absurd hh (hg g hm)
  | some ent=>exact h.same g ent hh (hv g hm)
 have zX:∀g,v'.ownBlock=some g→¬g∈gs:=fun g h1 hm=>by
  rcases h.at_ with h2 | ⟨g',h2,h3⟩
  ·exact hv g hm (h2▸h1)
  ·rw[h2]at h1
   cases h1
   exact hg _ hm h3
 refine⟨⟨h.own.same fun g h1=>bY (zX g h1),r8 gs h.le,fun k ent hk bD=> ?_,?_⟩,hs⟩
 ·by_cases hm:k∈gs
  ·rw[rem_in hm]at hk;cases hk
  ·rw[bY hm]at hk⊢;exact h.same k ent hk bD
 ·rcases h.at_ with h2 | ⟨g',h2,h3⟩
  ·exact .inl h2
  ·refine .inr ⟨g',h2,?_⟩
   rw[bY (zX g' h2)];exact h3
section
variable {P:Program} {n:Nat} {tb:Tb} {all:Array Oper} {s:St} {H:Heap} {md:Mode} {K:St→Heap→Prop} {r:List Oper} {dst:Option Nat} {ty:TypeId} {pos:String} {after:Array Edge} {gd:Option (Nat×Bool)}
theorem Qo{f:Operand}{ly:FuncId}{args:List Value}{xs:List Operand}{ts:Array TypeId}{bt:Value→Heap→Prop}(hf:ev s f=some (.func (.func ly) #[] #[]))(hx:pO s xs=some args)
  (h:Fn P ly args.toArray H bt) (hk:∀v H',bt v H'→aO P n all .rL r (aY s dst (.val v)) H' K) (hg:cE all s gd=some true:=by rfl) (nb:Mode.rL.nb s dst=true:=by rfl):aO P n all .rL (⟨dst,.call ⟨.value f,xs.toArray,ts⟩,ty,pos,after,gd⟩::r) s H K:=
 .il bt (.inl CR) nb (CQ (cap:=[]) hf hx hg (by simpa using h)) trivial fun v H' hp _=>hk v H' hp
theorem Qp:∀(us:List Value)(A B:List Value)(p:Nat),(∀(i:Nat)(w:Value),A[i]? = some w→B[i]? = some w)→p+us.length≤A.length→∀(i:Nat)(w:Value),(aF A p us)[i]? = some w→(aF B p us)[i]? = some w:=by
 intro us
 induction us with
 | nil=>intro A B p h _ i w hw;exact h i w hw
 | cons x us ih=>
  intro A B p h hl i w hw
  simp only[List.length_cons]at hl
  refine ih (A.set p x) (B.set p x) (p+1) (fun i w hw=> ?_) (by simp;omega) i w hw
  by_cases e:i=p
  ·subst e
   have hA:i<A.length:=by omega
   have hB:i<B.length:=(List.getElem?_eq_some_iff.1 (h i _ (List.getElem?_eq_getElem hA))).1
   rw[List.getElem?_set_self hA]at hw
   rw[List.getElem?_set_self hB];exact hw
  ·rw[List.getElem?_set_ne (fun e'=>e e'.symm)]at hw⊢
   exact h i w hw
theorem o8{t:TypeId}{x y:Operand}{g o sz:Nat}{ent:aQ}{v:Value}{vs:List Value}{ii:TypeInfo}(eF:md = .plain∨md = .gO)(hx:ev s x=some (.pointer (some ⟨g,o,none⟩)))(hg:H g=some ent)(cR:ent.own=true)(gD:o+sz≤ent.xs.length)
  (xP:P.info? t=some ii) (cP:ii.size=sz) (hy:ev s y=some v) (hv:v.cells=vs.toArray) (iu:vs.length=sz) (h1:vs.all xN=true)
  (hk:aO P n all md r s (ins H g {ent with xs:=aF ent.xs o vs}) K) (iW:cE all s gd=some true:=by rfl):aO P n all md (⟨none,.store t x y,ty,pos,after,gd⟩::r) s H K:=by
 refine .il (fun _ H'=>H'=ins H g {ent with xs:=aF ent.xs o vs}) (.inr (.inl rfl)) (by rcases eF with rfl | rfl <;> rfl) (fun a w ha hd=> ?_) (by rcases eF with rfl | rfl <;> first | trivial | exact .inl rfl) fun _ H' hH _=>by rw[hH];exact hk
 refine⟨jd ha (ki (o:=⟨none,.store t x y,ty,pos,after,gd⟩) iW),?_⟩
 obtain⟨ob,h2,cur,fz,rfl,h3,h4,h5⟩:=hd g ent hg
 have nh:=h5 cR
 subst nh
 have CV:cur=cur.toList.toArray:=by simp
 have hlen:ent.xs.length≤cur.toList.length:=by
  rcases Nat.eq_zero_or_pos ent.xs.length with h | h
  ·omega
  ·have hx:=h4 (ent.xs.length-1) _ (List.getElem?_eq_getElem (by omega))
   have:=(Array.getElem?_eq_some_iff.1 hx).1
   simp;omega
 rw[CV]at h2
 obtain⟨w',h6,h7,h8,h9,iV,iq,xQ⟩:=Gy (P:=P) vs cur.toList w o 0 h2 (fun u hu=>List.all_eq_true.1 h1 u hu) (by omega)
 have hex:(execOp a.eval ⟨none,.store t x y,ty,pos,after,gd⟩).run P w = .ok .skip w':=by
  simp[execOp,bQ ha hx,bQ ha hy,Instr.storeAt,Instr.sureAddr,storeVar,sizeOf,typeInfo,xP,cP,hv,iu,h6]
 unfold kI
 rw[hex]
 refine⟨_,rfl,zV (o:= .cells (aF cur.toList (o+0) vs).toArray ent.elem (0,0)) hd h7 h8 h9 (by omega) (fun q _ hq=>iq q hq) xQ ⟨_,(0,0),rfl,?_,?_,fun _=>rfl⟩ (.inl ⟨_,hg,cR,cR,rfl,rfl⟩)⟩
 ·simp[CP,h3]
 ·intro q u hq
  have:=Qp vs ent.xs cur.toList o (fun i w hw=>by have:=h4 i w hw;simpa using this) (by omega) q u hq
  simpa using this
end
end Go.ay
namespace Go.ay
open Go.Proofs Num
def fA(xs:List Value)(i sz:Nat):List Value:=(xs.drop (i*sz)).take sz
theorem K2{xs:List Value}{i sz q:Nat}{v:Value}(h:(fA xs i sz)[q]? = some v):xs[i*sz+q]? = some v:=by
 unfold fA at h
 rw[List.getElem?_take]at h
 split at h
 ·rwa [List.getElem?_drop]at h
 ·cases h
theorem ZZ{xs:List Value}{i sz n:Nat}(h:xs.length=n*sz)(hi:i<n):(fA xs i sz).length=sz:=by
 unfold fA
 rw[List.length_take,List.length_drop,h]
 have:(i+1)*sz≤n*sz:=Nat.mul_le_mul_right _ hi
 rw[Nat.add_mul]at this
 omega
theorem K3{xs ys:List Value}{i sz:Nat}(h:∀q,q<sz→xs[i*sz+q]? = ys[i*sz+q]?):fA xs i sz=fA ys i sz:=by
 apply List.ext_getElem?
 intro q
 unfold fA
 rw[List.getElem?_take,List.getElem?_take]
 split
 ·rename_i hq
  rw[List.getElem?_drop,List.getElem?_drop,h q hq]
 ·rfl
theorem K4{xs:List Value}{i:Nat}{v:Value}(h:xs[i]? = some v):fA xs i 1 = [v]:=by
 apply List.ext_getElem?
 intro q
 unfold fA
 rw[List.getElem?_take,Nat.mul_one]
 split
 ·rename_i hq
  obtain rfl:q=0:=by omega
  rw[List.getElem?_drop,Nat.add_zero,h];rfl
 ·rename_i hq
  rw[List.getElem?_eq_none (by simp;omega)]
structure bI{α:Type}(P:List Value→α→Prop)(sz:Nat)(xs:List Value)(l:List α):Prop where
 len:xs.length=l.length*sz
 at_:∀(i:Nat)(a:α),l[i]? = some a→P (fA xs i sz) a
section
variable {α β:Type} {P:List Value→α→Prop} {sz:Nat} {xs ys:List Value} {l k:List α}
theorem bI.mono{P':List Value→α→Prop}(h:bI P sz xs l)(hp:∀vs a,P vs a→P' vs a):bI P' sz xs l:=⟨h.len,fun i a ha=>hp _ _ (h.at_ i a ha)⟩
theorem bI.get(h:bI P sz xs l){i:Nat}{a:α}(ha:l[i]? = some a):∃vs,vs.length=sz∧P vs a∧∀(q:Nat)(v:Value),vs[q]? = some v→xs[i*sz+q]? = some v:=
 ⟨fA xs i sz,ZZ h.len (List.getElem?_eq_some_iff.1 ha).1,h.at_ i a ha,fun _ _ hv=>K2 hv⟩
theorem tS:bI P sz [] ([]:List α):=⟨by simp,fun i a h=>by simp at h⟩
theorem bI.append(h:bI P sz xs l)(h':bI P sz ys k):bI P sz (xs++ys) (l++k):=by
 refine⟨by rw[List.length_append,List.length_append,h.len,h'.len,Nat.add_mul],fun i a ha=> ?_⟩
 by_cases hi:i<l.length
 ·rw[List.getElem?_append_left hi]at ha
  have e:fA (xs++ys) i sz=fA xs i sz:=K3 fun q hq=>by
   have:(i+1)*sz≤l.length*sz:=Nat.mul_le_mul_right _ hi
   rw[Nat.add_mul]at this
   rw[List.getElem?_append_left (by rw[h.len];omega)]
  rw[e];exact h.at_ i a ha
 ·rw[List.getElem?_append_right (by omega)]at ha
  have e:fA (xs++ys) i sz=fA ys (i-l.length) sz:=by
   unfold fA
   have e1:i*sz=xs.length+(i-l.length)*sz:=by
    rw[h.len,←Nat.add_mul];congr 1;omega
   rw[e1,List.drop_append,List.drop_eq_nil_of_le (by omega),List.nil_append]
   congr 2;omega
  rw[e];exact h'.at_ _ a ha
theorem jn{vs:List Value}{a:α}(h:P vs a)(hl:vs.length=sz):bI P sz vs [a]:=by
 refine⟨by simp[hl],fun i b hb=> ?_⟩
 cases i with
 | zero=>
  simp only[List.getElem?_cons_zero,Option.some.injEq]at hb
  subst hb
  unfold fA
  rw[Nat.zero_mul,List.drop_zero,List.take_of_length_le (by omega)];exact h
 | succ i=>simp at hb
theorem K5:∀(vs xs:List Value)(off i:Nat),off+vs.length≤xs.length→(aF xs off vs)[i]? = if off≤i∧i<off+vs.length then vs[i-off]? else xs[i]? :=by
 intro vs
 induction vs with
 | nil=>intro xs off i _;simp only[aF,List.length_nil,Nat.add_zero];rw[if_neg (by omega)]
 | cons v vs ih=>
  intro xs off i h
  simp only[List.length_cons]at h
  simp only[aF,List.length_cons]
  rw[ih _ _ _ (by simp;omega)]
  by_cases e:i=off
  ·subst e
   rw[if_neg (by omega),if_pos (by omega),Nat.sub_self,List.getElem?_set_self (by omega)];rfl
  ·by_cases e2:off+1≤i∧i<off+1+vs.length
   ·rw[if_pos e2,if_pos (by omega)]
    have:i-off=(i-(off+1))+1:=by omega
    rw[this];rfl
   ·rw[if_neg e2,if_neg (by omega),List.getElem?_set_ne (by omega)]
theorem bI.set(h:bI P sz xs l){i:Nat}(hi:i<l.length){vs:List Value}{a:α}(hp:P vs a)(hv:vs.length=sz):bI P sz (aF xs (i*sz) vs) (l.set i a):=by
 have gD:(i+1)*sz≤l.length*sz:=Nat.mul_le_mul_right _ hi
 rw[Nat.add_mul,Nat.one_mul]at gD
 have hle:i*sz+vs.length≤xs.length:=by rw[h.len,hv];exact gD
 refine⟨by rw[CP,List.length_set];exact h.len,fun j b hb=> ?_⟩
 by_cases e:j=i
 ·subst e
  rw[List.getElem?_set_self hi]at hb
  cases hb
  have e:fA (aF xs (j*sz) vs) j sz=vs:=by
   apply List.ext_getElem?
   intro q
   unfold fA
   rw[List.getElem?_take]
   split
   ·rename_i hq
    rw[List.getElem?_drop,K5 _ _ _ _ hle,if_pos (by omega)]
    congr 1;omega
   ·rw[List.getElem?_eq_none (by omega)]
  rw[e];exact hp
 ·rw[List.getElem?_set_ne (fun e'=>e e'.symm)]at hb
  have e:fA (aF xs (i*sz) vs) j sz=fA xs j sz:=K3 fun q hq=>by
   rw[K5 _ _ _ _ hle,if_neg]
   intro⟨h1,h2⟩
   rw[hv]at h2
   rcases Nat.lt_or_gt_of_ne e with bH | PV
   ·have:(j+1)*sz≤i*sz:=Nat.mul_le_mul_right _ bH
    rw[Nat.add_mul]at this;omega
   ·have:(i+1)*sz≤j*sz:=Nat.mul_le_mul_right _ PV
    rw[Nat.add_mul]at this;omega
  rw[e];exact h.at_ j b hb
theorem K6{zs:List Value}{a:α}(hz:zs.length=sz)(hp:P zs a)(n:Nat):bI P sz (de zs (n*sz)) (List.replicate n a):=by
 refine⟨by rw[Kd,List.length_replicate],fun i b hb=> ?_⟩
 rw[List.getElem?_replicate]at hb
 split at hb
 ·rename_i hi
  cases hb
  have e:fA (de zs (n*sz)) i sz=zs:=by
   apply List.ext_getElem?
   intro q
   unfold fA
   rw[List.getElem?_take]
   split
   ·rename_i hq
    rw[List.getElem?_drop,List.getElem?_eq_getElem (by omega:q<zs.length)]
    exact Xq hz hi (List.getElem?_eq_getElem (by omega))
   ·rw[List.getElem?_eq_none (by omega)]
  rw[e];exact hp
 ·cases hb
theorem bI.drop(h:bI P sz xs l)(n:Nat):bI P sz (xs.drop (n*sz)) (l.drop n):=by
 refine⟨by rw[List.length_drop,List.length_drop,h.len,Nat.sub_mul],fun i a ha=> ?_⟩
 rw[List.getElem?_drop]at ha
 have e:fA (xs.drop (n*sz)) i sz=fA xs (n+i) sz:=by
  unfold fA
  rw[List.drop_drop,Nat.add_mul]
 rw[e];exact h.at_ _ a ha
theorem bI.take(h:bI P sz xs l){n:Nat}(hn:n≤l.length):bI P sz (xs.take (n*sz)) (l.take n):=by
 have hm:n*sz≤l.length*sz:=Nat.mul_le_mul_right _ hn
 refine⟨by rw[List.length_take,List.length_take,h.len,Nat.min_eq_left hn,Nat.min_eq_left hm],fun i a ha=> ?_⟩
 rw[List.getElem?_take]at ha
 split at ha
 ·rename_i hi
  have e:fA (xs.take (n*sz)) i sz=fA xs i sz:=K3 fun q hq=>by
   have:(i+1)*sz≤n*sz:=Nat.mul_le_mul_right _ hi
   rw[Nat.add_mul]at this
   rw[List.getElem?_take,if_pos (by omega)]
  rw[e];exact h.at_ _ a ha
 ·cases ha
theorem bI.one(h:bI P 1 xs l){i:Nat}{a:α}(ha:l[i]? = some a):∃v,xs[i]? = some v∧P [v] a:=by
 have bH:=(List.getElem?_eq_some_iff.1 ha).1
 have hi:i<xs.length:=by rw[h.len];omega
 refine⟨xs[i],List.getElem?_eq_getElem hi,?_⟩
 have:=h.at_ i a ha
 rwa [K4 (List.getElem?_eq_getElem hi)]at this
end
def aC{α:Type}(P:Heap→List Value→α→Prop)(sz:Nat)(H:Heap)(v:Value)(l:List α):Prop:=∃A c xs,v = .slice A l.length c∧l.length≤c∧Rd H A xs∧bI (P H) sz xs l
def Up{α:Type}(P:Heap→List Value→α→Prop):Prop:=∀H H' vs a,Heap.le H H'→P H vs a→P H' vs a
section
variable {α:Type} {P:Heap→List Value→α→Prop} {sz:Nat} {H H':Heap} {v:Value} {l:List α}
theorem aC.le(h:aC P sz H v l)(up:Up P)(hl:Heap.le H H'):aC P sz H' v l:=by
 obtain⟨A,c,xs,h1,h2,h3,h4⟩:=h
 exact⟨A,c,xs,h1,h2,h3.le hl,h4.mono fun vs a=>up H H' vs a hl⟩
def vT{α:Type}(P:Heap→List Value→α→Prop)(e sz:Nat)(H:Heap)(v:Value)(l:List α):Prop:=∃xs,bU H v e sz l.length xs∧bI (P H) sz xs l
theorem vT.sl{e:Nat}(h:vT P e sz H v l):aC P sz H v l:=by
 obtain⟨xs,h1,h2⟩:=h
 obtain⟨A,c,rfl⟩:=h1.form
 refine⟨A,c,xs,rfl,?_,h1.rd,h2⟩
 rcases h1.2 with ⟨k1,k2⟩ | ⟨g,cap,k1,_,k3,_⟩
 ·omega
 ·cases k1;exact k3
end
def bo(H:Heap)(vs:List Value)(q:Rat):Prop:=
 ∃(n d:Int)(b:Option Addr),vs = [.int .i64 n,.int .i64 d,.pointer b]∧
  ((b=none∧n=q.num∧d=q.den∧-9223372036854775807≤n∧n≤9223372036854775807∧d≤9223372036854775807)∨
   ∃ad f u w,b=some ad∧cJ H (.agg #[.bool f,u,w]) q∧cell H ad=some (.bool f)∧cell H (ad.add 1)=some u∧cell H (ad.add 2)=some w)
theorem bo.up:Up bo:=fun H H' vs q hl h=>by
 obtain⟨n,d,b,h1,h2⟩:=h
 refine⟨n,d,b,h1,?_⟩
 rcases h2 with h2 | ⟨ad,f,u,w,h2,h3,h4,h5,h6⟩
 ·exact .inl h2
 ·exact .inr ⟨ad,f,u,w,h2,h3.le hl,cZ hl h4,cZ hl h5,cZ hl h6⟩
theorem bo.le{H H':Heap}{vs:List Value}{q:Rat}(h:bo H vs q)(hl:Heap.le H H'):bo H' vs q:=bo.up H H' vs q hl h
theorem bo.len{H:Heap}{vs:List Value}{q:Rat}(h:bo H vs q):vs.length=3:=by
 obtain⟨n,d,b,rfl,_⟩:=h;rfl
def qa(H:Heap)(q:Rat)(v:Value)(H':Heap):Prop:=Heap.le H H'∧∃vs,v = .agg vs.toArray∧bo H' vs q
theorem qa.le{H:Heap}{q:Rat}{v:Value}{H':Heap}(h:qa H q v H'):Heap.le H H':=h.1
theorem Qq(q:Rat):dF q=if q.num.natAbs=0 then 0 else if decide (q.num<0)then -1 else 1:=by
 have:=An (f:=decide (q.num<0)) (n:=q.num.natAbs) (d:=q.den) (Nat.pos_of_ne_zero q.den_nz)
 rwa [yf]at this
theorem Qs{q:Rat}{k:Nat}:aJ q≤k↔q.num.natAbs<B^k∧q.den<B^k:=by
 unfold aJ
 rw[Nat.max_le,ji,ji]
theorem Qt{q:Rat}{n:Int}{d k:Nat}(hd:0<d)(h:q=mkRat n d)(h1:n.natAbs<B^k)(h2:d<B^k):aJ q≤k:=by
 obtain⟨m,hm,h3,h4⟩:=Rat.mkRat_num_den (n:=n) (d:=d) (by omega) (n':=q.num) (d':=q.den) (z':=q.den_nz) (c:=q.reduced) h.symm
 rw[Qs]
 refine⟨?_,?_⟩
 ·rw[h3,Int.natAbs_mul,Int.natAbs_natCast]at h1
  exact Nat.lt_of_le_of_lt (Nat.le_mul_of_pos_right _ (by omega)) h1
 ·rw[h4]at h2
  exact Nat.lt_of_le_of_lt (Nat.le_mul_of_pos_right _ (by omega)) h2
theorem Hs(q:Rat):q.num.natAbs<B^aJ q∧q.den<B^aJ q:=Qs.1 (Nat.le_refl _)
theorem AL(q:Rat):aJ (-q)=aJ q:=by unfold aJ;rw[Rat.neg_num,Int.natAbs_neg,Rat.neg_den]
theorem nx(p q:Rat):aJ (p*q)≤aJ p+aJ q:=by
 have h1:=Hs p
 have h2:=Hs q
 refine Qt (n:=p.num*q.num) (d:=p.den*q.den) (Nat.mul_pos (Nat.pos_of_ne_zero p.den_nz) (Nat.pos_of_ne_zero q.den_nz)) ?_ ?_ ?_
 ·rw[←Rat.mkRat_mul_mkRat,Rat.mkRat_self,Rat.mkRat_self]
 ·rw[Int.natAbs_mul,Nat.pow_add];exact Nat.mul_lt_mul'' h1.1 h2.1
 ·rw[Nat.pow_add];exact Nat.mul_lt_mul'' h1.2 h2.2
theorem Du(p q:Rat):aJ (p+q)≤aJ p+aJ q+1:=by
 have h1:=Hs p
 have h2:=Hs q
 have hp:=Nat.pos_of_ne_zero p.den_nz
 have hq:=Nat.pos_of_ne_zero q.den_nz
 have hB:2*(B^aJ p*B^aJ q)≤B^(aJ p+aJ q+1):=by
  rw[Nat.pow_succ,Nat.pow_add,Nat.mul_comm 2];exact Nat.mul_le_mul_left _ (by decide)
 refine Qt (n:=p.num*q.den+q.num*p.den) (d:=p.den*q.den) (Nat.mul_pos hp hq) ?_ ?_ ?_
 ·rw[Rat.add_def']
 ·have h3:(p.num*q.den+q.num*p.den).natAbs≤p.num.natAbs*q.den+q.num.natAbs*p.den:=by
   have:=Int.natAbs_add_le (p.num*q.den) (q.num*p.den)
   rwa [Int.natAbs_mul,Int.natAbs_mul,Int.natAbs_natCast,Int.natAbs_natCast]at this
  have h4:=Nat.mul_lt_mul'' h1.1 h2.2
  have h5:=Nat.mul_lt_mul'' h2.1 h1.2
  rw[Nat.mul_comm (B^aJ q)]at h5
  omega
 ·have h4:=Nat.mul_lt_mul'' h1.2 h2.2
  omega
theorem qb(p q:Rat):aJ (p-q)≤aJ p+aJ q+1:=by
 rw[Rat.sub_eq_add_neg]
 have:=Du p (-q)
 rwa [AL]at this
end Go.ay
