/- Part 7 of the proof: Ref1, Ref2, Ref3, Ref4, Ref5, Ref6, Tab9. -/
import Derived.Test.YtfjncmjbhfdnpaaGreatA06
set_option linter.unusedVariables false
namespace Go.ay
open Go.Proofs Num
theorem yI{H:Heap}{u:Value}{l:List Nat}(hu:iH H u l)(bH:Lt l)(hm:(l.length:Int)≤17592186044416):
 Fn Tryz.prog 151 #[u] H (lP H (val l)):=by
 obtain⟨A,c,rfl,hc,hr⟩:=hu;refine aU (args:=[_]) Tryz.func151 rfl rfl Tryz.ntmps151 rfl rfl fun w0=> ?_;refine ag [0] rfl ?_;refine ae ?_;refine vr 1 ?_;refine ab [0] ?_;refine ae ?_;refine vr 3 ?_;refine ab [0,3] ?_;refine al ?_;refine aD ?_;refine ft (fun(k:Nat)=>k) (fun(k:Nat)=>put (put (emp) 0 (.val (.slice A l.length c))) 3 (.val (.int .i64 (k:Int)))) (fun(k:Nat) H'=>H'=H∧k≤l.length∧val (l.take k)=val l) l.length (⟨rfl,Nat.le_refl _,by simp⟩) au ?_;rintro k H1 ⟨rfl,hk,hv⟩;refine al ?_
 rcases Nat.eq_zero_or_pos k with Kq | Kq
 ·
  skip
  refine ae ?_;refine vr 1 ?_;refine ax false rfl rfl (fN (by omega)) ?_;refine vr 8 ?_;refine ab [0,3,15] ?_;refine dg rfl ?_;refine bB ?_;refine ag [0,3] rfl ?_;refine ae ?_;refine vr 2 ?_;refine pP af rfl rfl (.inl ⟨rfl,rfl⟩) (.inr ⟨_,_,rfl,rfl⟩) (by omega) (by omega) ?_;rw[Aa];refine eW Tryz.underlying29 dX rfl rfl (vF _) (hr.take k) (by simp[xU];omega) (fun u hu=>nn _ u (List.mem_of_mem_take hu)) (by simp;omega) (by simp;omega) ?_;intro v1 H2 ha;rw[←C5,Nat.sub_zero]at ha;refine vr 1 ?_;refine ab [2] ?_;refine aq ⟨.inr rfl,_,.tmp rfl (.nil),?_⟩;have e:=GN bH hk hv (.inl Kq);have h1:=(App.nZ (a:=[]) (b:=l.take k) ha rfl (by simp;omega)).lim;rw[List.nil_append,←e]at h1;exact⟨ha.le,h1⟩
 ·
  obtain⟨x,hx⟩:∃x,l[k-1]? = some x:=⟨_,List.getElem?_eq_getElem (by omega)⟩;refine ae ?_;refine vr 1 ?_;refine ax true rfl rfl (iG (by omega)) ?_;refine vr 3 ?_;refine eo rfl rfl ⟨by omega,by omega⟩ ?_;refine a6 af rfl rfl rfl rfl rfl (hr) (dA (by rw[show ((k:Int)-1).toNat=k-1 by omega];exact hx)) (by omega) (by omega) fun _=> ?_;refine vr 2 ?_;refine ab [0,3,15] ?_;refine az rfl (fun hb=> ?_) (fun hb=> ?_)
  ·
   have hb:x=0:=by simpa using hb
   refine aw ?_;refine ag [0,3] rfl ?_;refine aD ?_;refine aE rfl ?_;refine vr 1 ?_;refine eo rfl rfl ⟨by omega,by omega⟩ ?_;refine vr 1 ?_;refine aA ?_;exact⟨k-1,by omega,au,rfl,by omega,by have:=jV hx;rw[show k-1+1=k by omega,hb,Nat.mul_zero,Nat.add_zero]at this;rw[←this];exact hv⟩
  ·
   have hb:x≠0:=by simpa using hb
   refine bB ?_;refine ag [0,3] rfl ?_;refine ae ?_;refine vr 2 ?_;refine pP af rfl rfl (.inl ⟨rfl,rfl⟩) (.inr ⟨_,_,rfl,rfl⟩) (by omega) (by omega) ?_;rw[Aa];refine eW Tryz.underlying29 dX rfl rfl (vF _) (hr.take k) (by simp[xU];omega) (fun u hu=>nn _ u (List.mem_of_mem_take hu)) (by simp;omega) (by simp;omega) ?_;intro v1 H2 ha;rw[←C5,Nat.sub_zero]at ha;refine vr 1 ?_;refine ab [2] ?_;refine aq ⟨.inr rfl,_,.tmp rfl (.nil),?_⟩;have e:=GN bH hk hv (.inr ⟨x,hx,hb⟩);have h1:=(App.nZ (a:=[]) (b:=l.take k) ha rfl (by simp;omega)).lim;rw[List.nil_append,←e]at h1;exact⟨ha.le,h1⟩
theorem RU{H:Heap}{u:Value}{l:List Nat}(hu:iH H u l)(xW:∀x,x∈l→x<4294967296)(hm:(l.length:Int)≤8796093022208):
 Fn Tryz.prog 148 #[u] H (lP H (val l)):=by
 obtain⟨A,c,rfl,hc,hr⟩:=hu;refine aU (args:=[_]) Tryz.func148 rfl rfl Tryz.ntmps148 rfl rfl fun w0=> ?_;refine ag [0] rfl ?_;refine ae ?_;refine vr 1 ?_;refine ab [0] ?_;refine ae ?_;refine vr 1 ?_;refine ab [0,3] ?_;refine ae ?_;refine vr 1 ?_;refine ab [0,3,4] ?_;refine al ?_;refine ae ?_;refine vr 1 ?_;refine ab [0,3,4,5] ?_;refine aD ?_;refine pQ (fun(k:Nat)(v:Value)(o:List Nat)(cr:Nat)=>l.length-k) (fun(k:Nat)(v:Value)(o:List Nat)(cr:Nat)=>put (put (put (put (emp) 0 (.val (.slice A l.length c))) 3 (.val (v))) 4 (.val (.int .u64 (cr:Int)))) 5 (.val (.int .i64 (k:Int)))) (fun(k:Nat)(v:Value)(o:List Nat)(cr:Nat) H'=>Heap.le H H'∧jX H' v o∧k≤l.length∧o.length=k∧Lt o∧cr≤4∧val o+B^k*cr=val (l.take k)) 0 _ [] 0 (⟨.refl _,vF _,by omega,rfl,Lt.nil,by omega,by simp[val]⟩) au ?_;rintro k v o cr H1 ⟨hle,cR,hk,cH,dV,fO,hv⟩;obtain⟨Ao,co,rfl⟩:=bU.form cR;refine al ?_;refine ae ?_;refine vr 4 ?_;refine ab [0,3,4,5,9] ?_;refine az rfl (fun hb=> ?_) (fun hb=> ?_)
 ·
  have hb:k<l.length:=by simpa using hb
  obtain⟨p,hp⟩:∃p,l[k]? = some p:=⟨_,List.getElem?_eq_getElem hb⟩;have Y7:=xW p (List.mem_of_getElem? hp);refine aw ?_;refine ag [0,3,4,5] rfl ?_;refine al ?_;refine aD ?_;refine ae ?_;refine vr 3 ?_;refine a6 af rfl rfl rfl rfl rfl (hr.le hle) (dA hp) (by omega) (by omega) fun _=> ?_;refine dr af rfl rfl rfl ⟨by omega,by omega⟩ ?_;refine aN rfl rfl ⟨by omega,by omega⟩ ?_;refine vr 1 ?_;refine ab [0,3,4,5] ?_;refine ae ?_;refine vr 2 ?_;refine gj rfl rfl (by omega) (by omega) ?_;refine dr af rfl rfl rfl ⟨by omega,by omega⟩ ?_;refine dM Tryz.underlying29 dX rfl rfl rfl rfl rfl rfl rfl ?_;intro gb bW;refine eW Tryz.underlying29 dX rfl rfl (cR.ins _ bW) (pV (y:=(cr+p)%1000000000) rfl) (rfl) (nn _) (by omega) (by omega) ?_;intro v1 H2 ha;refine vr 1 ?_;refine ab [0,3,4,5] ?_;refine aE rfl ?_;refine vr 1 ?_;refine lx rfl rfl (by omega) (by omega) ⟨by omega,by omega⟩ ?_;refine vr 1 ?_;refine aA ?_;refine ag [0,3,4,5] rfl ?_;refine aE rfl ?_;refine vr 1 ?_;refine aN rfl rfl ⟨by omega,by omega⟩ ?_;refine vr 1 ?_;refine aA ?_;have dH:=zZ (s:=cr+p) (u:=val (l.take (k+1))) cH hv rfl (jV hp);exact⟨k+1,v1,o ++ [(cr+p)%B],(cr+p)/B,by omega,au,(hle.trans (Heap.bC _ bW)).trans ha.le,ha.nZ rfl rfl,by omega,by simp[cH],dV.snoc (Nat.mod_lt _ lN),by rw[cz];omega,dH⟩
 ·
  have hb:l.length≤k:=by simpa using hb
  obtain rfl:k=l.length:=by omega
  rw[List.take_length]at hv;refine bB ?_;refine ag [3,4] rfl ?_;refine Kg (fun(v:Value)(o:List Nat)=>put (emp) 3 (.val (v))) (fun(v:Value)(o:List Nat) H'=>Heap.le H H'∧jX H' v o∧o.length≤l.length+1∧Lt o∧val o=val l) ?_ ?_
  ·
   refine ae ?_;refine vr 2 ?_;refine ab [3,4,28] ?_;refine az rfl (fun hb=> ?_) (fun hb=> ?_)
   ·
    have hb:0<cr:=by simpa using hb
    refine aE rfl ?_;refine vr 2 ?_;refine dr af rfl rfl rfl ⟨by omega,by omega⟩ ?_;refine dM Tryz.underlying29 dX rfl rfl rfl rfl rfl rfl rfl ?_;intro gb bW;refine eW Tryz.underlying29 dX rfl rfl (cR.ins _ bW) (pV (y:=cr) rfl) (rfl) (nn _) (by omega) (by omega) ?_;intro v1 H2 ha;refine vr 1 ?_;refine aA ?_;exact⟨v1,o ++ [cr],(by repeat (first | exact kL _ | refine eS rfl ?_ | refine eS (lz (by omega)) ?_)),(hle.trans (Heap.bC _ bW)).trans ha.le,ha.nZ rfl rfl,by simp;omega,dV.snoc (by rw[cz];omega),by rw[pT,cH];exact hv⟩
   ·
    have hb:cr=0:=by simpa using hb
    refine aw ?_;exact⟨_,o,(by repeat (first | exact kL _ | refine eS rfl ?_ | refine eS (lz (by omega)) ?_)),hle,cR,by omega,dV,by rw[hb,Nat.mul_zero]at hv;omega⟩
  ·
   rintro v o H3 ⟨hle,cR,cH,dV,hv⟩;refine ae ?_;refine vr 1 ?_;refine ar rfl rfl (yI cR.lim dV (by omega)) ?_;intro v1 H4 hp;refine vr 1 ?_;refine ab [2] ?_;refine aq ⟨.inr rfl,_,.tmp rfl (.nil),?_⟩;exact⟨hle.trans hp.le,by have:=hp.nat;rwa [hv]at this⟩
theorem Ej{H:Heap}{x:Nat}(hx:x<18446744073709551616):
 Fn Tryz.prog 76 #[.int .u64 (x:Int)] H (lP H x):=by
 refine aU (args:=[_]) Tryz.func76 rfl rfl Tryz.ntmps76 rfl rfl fun w0=> ?_;refine ag [0] rfl ?_;refine ae ?_;refine vr 1 ?_;refine ab [0] ?_;refine ae ?_;refine vr 1 ?_;refine ab [0,3] ?_;refine al ?_;refine aD ?_;refine jv (fun(y:Nat)(v:Value)(o:List Nat)=>y) (fun(y:Nat)(v:Value)(o:List Nat)=>put (put (emp) 0 (.val (.int .u64 (y:Int)))) 3 (.val (v))) (fun(y:Nat)(v:Value)(o:List Nat) H'=>Heap.le H H'∧jX H' v o∧y≤x∧o++ah y=ah x) x (.slice none 0 0) [] (⟨.refl _,vF _,Nat.le_refl _,rfl⟩) au ?_;rintro y v o H1 ⟨hle,cR,tA,ho⟩;obtain⟨A,c,rfl⟩:=bU.form cR
 have cH:o.length≤(ah x).length:=by rw[←ho];simp
 have cj:(ah x).length≤3:=ji.2 (by rw[cz];omega);refine al ?_;refine ae ?_;refine vr 2 ?_;refine ab [0,3,5] ?_;refine az rfl (fun hb=> ?_) (fun hb=> ?_)
 ·
  have hb:0<y:=by simpa using hb
  refine aw ?_;refine ag [0,3] rfl ?_;refine aD ?_;refine ae ?_;refine vr 2 ?_;refine gj rfl rfl (by omega) (by omega) ?_;refine dr af rfl rfl rfl ⟨by omega,by omega⟩ ?_;refine dM Tryz.underlying29 dX rfl rfl rfl rfl rfl rfl rfl ?_;intro gb bW;refine eW Tryz.underlying29 dX rfl rfl (cR.ins _ bW) (pV (PG y 1000000000)) (rfl) (nn _) (by omega) (by omega) ?_;intro v1 H2 ha;refine vr 1 ?_;refine ab [0,3] ?_;refine aE rfl ?_;refine vr 1 ?_;refine lx rfl rfl (by omega) (by omega) ⟨by omega,by omega⟩ ?_;refine vr 1 ?_;refine aA ?_
  have iE:0<y:=by omega
  rw[xT iE]at ho;exact⟨y/B,v1,o ++ [y%B],Nat.div_lt_self iE (by decide),au,(hle.trans (Heap.bC _ bW)).trans ha.le,ha.nZ rfl rfl,Nat.le_trans (Nat.div_le_self _ _) tA,by simpa using ho⟩
 ·
  have hb:y=0:=by simpa using hb
  refine bB ?_;refine ag [3] rfl ?_;refine ae ?_;refine vr 2 ?_;refine ab [2] ?_;refine aq ⟨.inr rfl,_,.tmp rfl (.nil),?_⟩;subst hb;exact⟨hle,z8 (cR.lim) (by rw[show o=ah x by simpa [qM]using ho];exact fj x) (by rw[show o=ah x by simpa [qM]using ho];exact cU x)⟩
theorem Ii{H:Heap}{u v:Value}{x y:Nat}(hx:dh H u x)(hy:dh H v y)(hm:((ah x).length:Int)≤35184372088832):
 Fn Tryz.prog 80 #[u,v] H (p8 H (.int .i64 (jk x y))):=by
 obtain⟨A,c,rfl,hc,hr⟩:=hx
 obtain⟨A',c',rfl,jg,dd⟩:=hy;refine aU (args:=[_,_]) Tryz.func80 rfl rfl Tryz.ntmps80 rfl rfl fun w0=> ?_;refine ag [0,1] rfl ?_;refine ae ?_;refine vr 1 ?_;refine ab [0,1] ?_;refine al ?_;refine ae ?_;refine vr 5 ?_;refine ab [0,1,10] ?_;refine az rfl (fun hb=> ?_) (fun hb=> ?_)
 ·
  have hl:(ah x).length≠(ah y).length:=by simp at hb;omega
  refine al ?_;refine ae ?_;refine vr 5 ?_;refine ab [15] ?_;refine az rfl (fun hb=> ?_) (fun hb=> ?_)
  ·
   simp at hb
   refine ae ?_;refine vr 1 ?_;refine ab [4] ?_;refine aq ⟨.inr rfl,_,.tmp rfl (.nil),?_⟩;exact⟨rfl,by rw[GJ (GL hb)];rfl⟩
  ·
   simp at hb
   refine aw ?_;refine ag [] rfl ?_;refine ae ?_;refine vr 1 ?_;refine ab [4] ?_;refine aq ⟨.inr rfl,_,.tmp rfl (.nil),?_⟩;exact⟨rfl,by rw[GK (GL (by omega))];rfl⟩
 ·
  have hl:(ah x).length=(ah y).length:=by simp at hb;omega
  refine aw ?_;refine ag [0,1] rfl ?_;refine al ?_;refine ae ?_;refine vr 2 ?_;refine eo rfl rfl ⟨by omega,by omega⟩ ?_;refine vr 1 ?_;refine ab [0,1,5] ?_;refine aD ?_;refine ft (fun(k:Nat)=>k) (fun(k:Nat)=>put (put (put (emp) 0 (.val (.slice A (ah x).length c))) 1 (.val (.slice A' (ah y).length c'))) 5 (.val (.int .i64 ((k:Int)-1)))) (fun(k:Nat) H'=>H'=H∧k≤(ah x).length∧(ah x).drop k=(ah y).drop k) (ah x).length (⟨rfl,Nat.le_refl _,by rw[List.drop_of_length_le (Nat.le_refl _),List.drop_of_length_le (by omega)]⟩) au ?_;rintro k H1 ⟨rfl,hk,hd⟩;refine al ?_;refine ae ?_;refine vr 2 ?_;refine ab [0,1,5,20] ?_;refine az rfl (fun hb=> ?_) (fun hb=> ?_)
  ·
   simp at hb
   obtain⟨p,hp⟩:∃p,(ah x)[k-1]? = some p:=⟨_,List.getElem?_eq_getElem (by omega)⟩;obtain⟨q,hq⟩:∃q,(ah y)[k-1]? = some q:=⟨_,List.getElem?_eq_getElem (by omega)⟩
   have hj:((k:Int)-1).toNat=k-1:=by omega
   have eJ:(ah x).drop (k-1+1)=(ah y).drop (k-1+1):=by rw[show k-1+1=k by omega];exact hd
   refine aw ?_;refine ag [0,1,5] rfl ?_;refine al ?_;refine aD ?_;refine al ?_;refine bL .bn [0,1,2,3,4,5,6,7,8] follows (by kernel_rfl) ?_;refine vr 2 ?_;refine a6 af rfl rfl rfl rfl rfl (hr) (by rw[hj];exact dA hp) (by omega) (by omega) fun _=> ?_;refine vr 2 ?_;refine a6 af rfl rfl rfl rfl rfl (dd) (by rw[hj];exact dA hq) (by omega) (by omega) fun _=> ?_;refine vr 1 ?_;refine ab [0,1,5,31] ?_;refine az rfl (fun hb=> ?_) (fun hb=> ?_)
   ·
    have lO:p<q:=by simpa using hb
    refine ae ?_;refine vr 1 ?_;refine ab [4] ?_;refine aq ⟨.inr rfl,_,.tmp rfl (.nil),?_⟩;exact⟨rfl,by rw[GJ (by have:=GI (fj x).lt hp hq eJ lO;rwa [cU,cU]at this)];rfl⟩
   ·
    have lO:¬p<q:=by simpa using hb
    refine aw ?_;refine ag [0,1,5] rfl ?_;refine bL .bn [0,1,2,3,4,5,6,7,8] follows (by kernel_rfl) ?_;refine vr 2 ?_;refine a6 af rfl rfl rfl rfl rfl (hr) (by rw[hj];exact dA hp) (by omega) (by omega) fun _=> ?_;refine vr 2 ?_;refine a6 af rfl rfl rfl rfl rfl (dd) (by rw[hj];exact dA hq) (by omega) (by omega) fun _=> ?_;refine vr 1 ?_;refine ab [0,1,5,40] ?_;refine az rfl (fun hb=> ?_) (fun hb=> ?_)
    ·
     have C6:q<p:=by simpa using hb
     refine ae ?_;refine vr 1 ?_;refine ab [4] ?_;refine aq ⟨.inr rfl,_,.tmp rfl (.nil),?_⟩;exact⟨rfl,by rw[GK (by have:=GI (fj y).lt hq hp eJ.symm C6;rwa [cU,cU]at this)];rfl⟩
    ·
     have C6:¬q<p:=by simpa using hb
     refine aw ?_;refine ag [0,1,5] rfl ?_;refine aE rfl ?_;refine vr 1 ?_;refine eo rfl rfl ⟨by omega,by omega⟩ ?_;refine vr 1 ?_;refine aA ?_
     obtain rfl:p=q:=by omega
     exact⟨k-1,by omega,au,rfl,by omega,PD (by omega) hp hq hd⟩
  ·
   simp at hb
   refine bB ?_;refine ag [] rfl ?_;refine ae ?_;refine vr 1 ?_;refine ab [4] ?_;refine aq ⟨.inr rfl,_,.tmp rfl (.nil),?_⟩
   obtain rfl:k=0:=by omega
   have:x=y:=by rw[←cU x,←cU y];simpa using congrArg val hd
   exact⟨rfl,by rw[this,PC];rfl⟩
end Go.ay
namespace Go.ay
open Go.Proofs Num
theorem getD_lt{l:List Nat}(h:Lt l)(k:Nat):(l[k]?).getD 0<1000000000:=by
 cases hq:l[k]? with
 | none=>simp
 | some z=>have:=h.get hq;rw[cz]at this;simpa using this
theorem getD_some{l:List Nat}{k e:Nat}(he:e=(l[k]?).getD 0)(h:k<l.length):l[k]? = some e:=by
 rw[List.getElem?_eq_getElem h]at he⊢;simp at he;rw[he]
theorem getD_none{l:List Nat}{k e:Nat}(he:e=(l[k]?).getD 0)(h:l.length≤k):e=0:=by
 rw[he,List.getElem?_eq_none h];rfl
theorem abD{H:Heap}{u v:Value}{x y:Nat}(hx:dh H u x)(hy:dh H v y)(hm:((ah x).length:Int)≤8796093022208)(bm:((ah y).length:Int)≤8796093022208):
 Fn Tryz.prog 79 #[u,v] H (lP H (x+y)):=by
 obtain⟨A,c,rfl,hc,hr⟩:=hx
 obtain⟨A',c',rfl,jg,dd⟩:=hy
 have iI:=(fj x).lt
 have fP:=(fj y).lt
 obtain⟨M,hM⟩:∃M,M=max (ah x).length (ah y).length:=⟨_,rfl⟩;refine aU (args:=[_,_]) Tryz.func79 rfl rfl Tryz.ntmps79 rfl rfl fun w0=> ?_;refine ag [0,1] rfl ?_;refine ae ?_;refine vr 1 ?_;refine ab [0,1] ?_;refine ae ?_;refine vr 1 ?_;refine ab [0,1,5] ?_;refine ae ?_;refine vr 1 ?_;refine ab [0,1,5,6] ?_;refine al ?_;refine ae ?_;refine vr 1 ?_;refine ab [0,1,5,6,7] ?_;refine aD ?_;refine pQ (fun(k:Nat)(v:Value)(o:List Nat)(cr:Nat)=>M+1-k) (fun(k:Nat)(v:Value)(o:List Nat)(cr:Nat)=>put (put (put (put (put (emp) 0 (.val (.slice A (ah x).length c))) 1 (.val (.slice A' (ah y).length c'))) 5 (.val (v))) 6 (.val (.int .u32 (cr:Int)))) 7 (.val (.int .i64 (k:Int)))) (fun(k:Nat)(v:Value)(o:List Nat)(cr:Nat) H'=>Heap.le H H'∧jX H' v o∧k≤M+1∧o.length=k∧Lt o∧cr≤1∧val o+B^k*cr=val ((ah x).take k)+val ((ah y).take k)∧(k=M+1→cr=0∧B^M≤val o)) 0 _ [] 0 (⟨.refl _,vF _,by omega,rfl,Lt.nil,by omega,by simp[val],by omega⟩) au ?_;rintro k v o cr H1 ⟨hle,cR,hk,cH,dV,fO,hv,Lw⟩;obtain⟨Ao,co,rfl⟩:=bU.form cR;refine GC (put (put (put (put (put (emp) 0 (.val (.slice A (ah x).length c))) 1 (.val (.slice A' (ah y).length c'))) 5 (.val (.slice Ao o.length co))) 6 (.val (.int .u32 (cr:Int)))) 7 (.val (.int .i64 (k:Int)))) (fun H'=>H'=H1∧k≤M∧(k<(ah x).length∨k<(ah y).length∨0<cr)) ?_ ?_
 ·
  by_cases mI:k<(ah x).length
  ·
   skip
   refine ae ?_;refine vr 3 ?_;refine ax true rfl rfl (mA (by omega)) ?_;refine vr 10 ?_;refine ab [0,1,5,6,7,22] ?_;refine cD rfl ?_;refine aw ?_;exact⟨au,rfl,by omega,.inl mI⟩
  ·
   by_cases ph:k<(ah y).length
   skip
   ·
    skip
    refine ae ?_;refine vr 3 ?_;refine ax false rfl rfl (jw (by omega)) ?_;refine vr 4 ?_;refine ax true rfl rfl (mA (by omega)) ?_;refine vr 5 ?_;refine ab [0,1,5,6,7,22] ?_;refine cD rfl ?_;refine aw ?_;exact⟨au,rfl,by omega,.inr (.inl ph)⟩
   ·
    skip
    refine ae ?_;refine vr 3 ?_;refine ax false rfl rfl (jw (by omega)) ?_;refine vr 4 ?_;refine ax false rfl rfl (jw (by omega)) ?_;refine vr 5 ?_;refine ab [0,1,5,6,7,22] ?_;refine az rfl (fun hb=> ?_) (fun hb=> ?_)
    ·
     have hb:0<cr:=by simpa using hb
     refine aw ?_;exact⟨au,rfl,by omega,.inr (.inr hb)⟩
    ·
     have hb:cr=0:=by simpa using hb
     refine bB ?_;refine ag [5] rfl ?_;refine ae ?_;refine vr 2 ?_;refine ab [4] ?_;refine aq ⟨.inr rfl,_,.tmp rfl (.nil),?_⟩;subst hb;rw[Nat.mul_zero,Nat.add_zero,List.take_of_length_le (by omega),List.take_of_length_le (by omega),cU,cU]at hv;refine⟨hle,z8 cR.lim (last_pos dV cH ?_) hv⟩
     rcases Nat.eq_zero_or_pos k with e | e
     ·exact .inl e
     ·
      right
      by_cases h1:k=M+1
      ·
       have:=(Lw h1).2;rw[show k-1=M by omega];exact this
      ·
       have h2:k=M:=by omega
       rw[hv]
       rcases Nat.le_total (ah x).length (ah y).length with h3 | h3
       ·
        have h4:k=(ah y).length:=by omega
        have h5:=KB (y:=y) (Nat.pos_of_ne_zero fun e0=>by rw[jW.2 e0]at h4;omega);rw[h4];omega
       ·
        have h4:k=(ah x).length:=by omega
        have h5:=KB (y:=x) (Nat.pos_of_ne_zero fun e0=>by rw[jW.2 e0]at h4;omega);rw[h4];omega
 ·
  rintro H2 ⟨rfl,hkM,age⟩;obtain⟨da,Ek⟩:∃e,e=((ah x)[k]?).getD 0:=⟨_,rfl⟩;obtain⟨db,qF⟩:∃e,e=((ah y)[k]?).getD 0:=⟨_,rfl⟩
  have agf:da<1000000000:=by rw[Ek];exact getD_lt iI k
  have agh:db<1000000000:=by rw[qF];exact getD_lt fP k
  refine al ?_;refine aD ?_;refine ae ?_;refine vr 2 ?_;refine ab [0,1,5,7,8] ?_;refine mz (fun(sv:Int)=>put (put (put (put (put (emp) 0 (.val (.slice A (ah x).length c))) 1 (.val (.slice A' (ah y).length c'))) 5 (.val (.slice Ao o.length co))) 7 (.val (.int .i64 (k:Int)))) 8 (.val (.int .u32 sv))) (fun(sv:Int) H'=>H'=H2∧sv=(cr:Int)+da) ?_ ?_
  ·
   refine ae ?_;refine vr 4 ?_;refine ab [0,1,5,7,8,29] ?_;refine az rfl (fun hb=> ?_) (fun hb=> ?_)
   ·
    have hb:k<(ah x).length:=by simpa using hb
    have hz:=getD_some Ek hb;refine aE rfl ?_;refine vr 3 ?_;refine a6 af rfl rfl rfl rfl rfl (hr.le hle) (dA hz) (by omega) (by omega) fun _=> ?_;refine aN rfl rfl ⟨by omega,by omega⟩ ?_;refine vr 1 ?_;refine aA ?_;exact⟨(cr:Int)+da,au,rfl,rfl⟩
   ·
    have hb:(ah x).length≤k:=by simpa using hb
    have hz:=getD_none Ek hb;refine aw ?_;exact⟨(cr:Int),au,rfl,by omega⟩
  ·
   rintro sv H3 ⟨rfl,o0⟩;refine mz (fun(Ij:Int)=>put (put (put (put (put (emp) 0 (.val (.slice A (ah x).length c))) 1 (.val (.slice A' (ah y).length c'))) 5 (.val (.slice Ao o.length co))) 7 (.val (.int .i64 (k:Int)))) 8 (.val (.int .u32 Ij))) (fun(Ij:Int) H'=>H'=H3∧Ij=(cr:Int)+da+db) ?_ ?_
   ·
    refine ae ?_;refine vr 4 ?_;refine ab [0,1,5,7,8,39] ?_;refine az rfl (fun hb=> ?_) (fun hb=> ?_)
    ·
     have hb:k<(ah y).length:=by simpa using hb
     have hz:=getD_some qF hb;refine aE rfl ?_;refine vr 3 ?_;refine a6 af rfl rfl rfl rfl rfl (dd.le hle) (dA hz) (by omega) (by omega) fun _=> ?_;refine aN rfl rfl ⟨by omega,by omega⟩ ?_;refine vr 1 ?_;refine aA ?_;exact⟨sv+db,au,rfl,by omega⟩
    ·
     have hb:(ah y).length≤k:=by simpa using hb
     have hz:=getD_none qF hb;refine aw ?_;exact⟨sv,au,rfl,by omega⟩
   ·
    rintro Ij H4 ⟨rfl,agi⟩;refine ae ?_;refine vr 1 ?_;refine lx rfl rfl (by omega) (by omega) ⟨by omega,by omega⟩ ?_;refine vr 1 ?_;refine ab [0,1,5,6,7,8] ?_;refine aE rfl ?_;refine vr 2 ?_;refine gj rfl rfl (by omega) (by omega) ?_;refine dM Tryz.underlying29 dX rfl rfl rfl rfl rfl rfl rfl ?_;intro gb bW;refine eW Tryz.underlying29 dX rfl rfl (cR.ins _ bW) (pV (y:=(cr+da+db)%1000000000) (by omega)) (rfl) (nn _) (by omega) (by omega) ?_;intro v1 H5 ha;refine vr 1 ?_;refine aA ?_;refine ag [0,1,5,6,7] rfl ?_;refine aE rfl ?_;refine vr 1 ?_;refine aN rfl rfl ⟨by omega,by omega⟩ ?_;refine vr 1 ?_;refine aA ?_;have dH:=zZ (s:=cr+da+db) (a:=cr) (b:=da+db) (u:=val ((ah x).take (k+1))+val ((ah y).take (k+1))) cH hv (by omega) (by rw[vE,vE,←Ek,←qF,Nat.mul_add];omega);refine⟨k+1,v1,o ++ [(cr+da+db)%B],(cr+da+db)/1000000000,by omega,au,(hle.trans (Heap.bC _ bW)).trans ha.le,ha.nZ rfl rfl,by omega,by simp[cH],dV.snoc (Nat.mod_lt _ lN),by omega,dH,fun e=> ?_⟩;have h1:=getD_none Ek (by omega);have h2:=getD_none qF (by omega)
    obtain rfl:k=M:=by omega
    have h3:cr=1:=by omega
    subst h1 h2 h3;rw[pT,cH,show (1+0+0)%B=1 from rfl,show (1+0+0)/1000000000=0 from rfl];exact⟨rfl,by omega⟩
end Go.ay
namespace Go.ay
open Go.Proofs Num
theorem Ik{H:Heap}{u v:Value}{x y:Nat}(hx:dh H u x)(hy:dh H v y)(tA:y≤x)(hm:((ah x).length:Int)≤8796093022208):
 Fn Tryz.prog 81 #[u,v] H (lP H (x-y)):=by
 obtain⟨A,c,rfl,hc,hr⟩:=hx
 obtain⟨A',c',rfl,jg,dd⟩:=hy
 have iI:=(fj x).lt
 have fP:=(fj y).lt
 have hl:=lB tA;refine aU (args:=[_,_]) Tryz.func81 rfl rfl Tryz.ntmps81 rfl rfl fun w0=> ?_;refine ag [0,1] rfl ?_;refine ae ?_;refine vr 1 ?_;refine ab [0,1] ?_;refine ae ?_;refine vr 2 ?_;refine jS Tryz.underlying29 dX rfl rfl rfl (by omega) (by omega) (by omega) (by omega) ?_;intro g hg;rw[show (((ah x).length:Int)).toNat=(ah x).length from by omega,vH];have o3:=fun e=>hr.le (Heap.bC (g:=g) e hg);have C8:=fun e=>dd.le (Heap.bC (g:=g) e hg);refine vr 1 ?_;refine ab [0,1,5] ?_;refine ae ?_;refine vr 1 ?_;refine ab [0,1,5,6] ?_;refine al ?_;refine ae ?_;refine vr 1 ?_;refine ab [0,1,5,6,7] ?_;refine aD ?_;refine jv (fun(k:Nat)(o:List Nat)(br:Nat)=>(ah x).length-k) (fun(k:Nat)(o:List Nat)(br:Nat)=>put (put (put (put (put (emp) 0 (.val (.slice A (ah x).length c))) 1 (.val (.slice A' (ah y).length c'))) 5 (.val (.slice (some ⟨g,0,none⟩) (ah x).length (ah x).length))) 6 (.val (.int .u32 (br:Int)))) 7 (.val (.int .i64 (k:Int)))) (fun(k:Nat)(o:List Nat)(br:Nat) H'=>H'=ins H g (dD o (ah x).length)∧k≤(ah x).length∧o.length=(ah x).length∧Lt o∧br≤1∧val ((ah x).take k)+B^k*br=val (o.take k)+val ((ah y).take k)) 0 _ 0 (⟨rfl,by omega,by simp,Lt.replicate _,by omega,by simp[val]⟩) au ?_
 rintro k o br H1 ⟨rfl,hk,cH,dV,rZ,hv⟩;refine al ?_;refine ae ?_;refine vr 4 ?_;refine ab [0,1,5,6,7,15] ?_;refine az rfl (fun hb=> ?_) (fun hb=> ?_)
 ·
  have hb:k<(ah x).length:=by simpa using hb
  obtain⟨d,hd⟩:∃d,(ah x)[k]? = some d:=⟨_,List.getElem?_eq_getElem hb⟩;have kR:=iI.get hd;rw[cz]at kR;obtain⟨e,he⟩:∃e,e=((ah y)[k]?).getD 0:=⟨_,rfl⟩
  have Ae:e<1000000000:=by rw[he];exact getD_lt fP k
  refine aw ?_;refine ag [0,1,5,6,7] rfl ?_;refine al ?_;refine aD ?_;refine ae ?_;refine vr 2 ?_;refine ab [0,1,5,7,8] ?_;refine mz (fun(sv:Int)=>put (put (put (put (put (emp) 0 (.val (.slice A (ah x).length c))) 1 (.val (.slice A' (ah y).length c'))) 5 (.val (.slice (some ⟨g,0,none⟩) (ah x).length (ah x).length))) 7 (.val (.int .i64 (k:Int)))) 8 (.val (.int .u32 sv))) (fun(sv:Int) H'=>H'=ins H g (dD o (ah x).length)∧sv=(br:Int)+e) ?_ ?_
  ·
   refine ae ?_;refine vr 4 ?_;refine ab [0,1,5,7,8,22] ?_;refine az rfl (fun hb=> ?_) (fun hb=> ?_)
   ·
    have hb:k<(ah y).length:=by simpa using hb
    have hz:=getD_some he hb;refine aE rfl ?_;refine vr 3 ?_;refine a6 af rfl rfl rfl rfl rfl (C8 _) (dA hz) (by omega) (by omega) fun _=> ?_;refine aN rfl rfl ⟨by omega,by omega⟩ ?_;refine vr 1 ?_;refine aA ?_;exact⟨(br:Int)+e,au,rfl,rfl⟩
   ·
    have hb:(ah y).length≤k:=by simpa using hb
    have hz:=getD_none he hb;refine aw ?_;exact⟨(br:Int),au,rfl,by omega⟩
  ·
   rintro sv H4 ⟨rfl,o0⟩;refine ae ?_;refine vr 2 ?_;refine a6 af rfl rfl rfl rfl rfl (o3 _) (dA hd) (by omega) (by omega) fun _=> ?_;refine vr 2 ?_;refine ab [0,1,5,7,8,34] ?_;refine az rfl (fun hb=> ?_) (fun hb=> ?_)
   ·
    have hb:sv≤d:=by simpa using hb
    refine aE rfl ?_;refine vr 4 ?_;refine a6 af rfl rfl rfl rfl rfl (o3 _) (dA hd) (by omega) (by omega) fun _=> ?_;refine vr 1 ?_;refine eo rfl rfl ⟨by omega,by omega⟩ ?_;obtain⟨ti,aj,ak⟩:=nm;refine eB (.inl rfl) af rfl rfl rfl (by omega) (by omega) (bT _ _ _) rfl (by rw[nr];omega) aj ak (fun _=>rfl) rfl rfl rfl fun _=> ?_;refine vr 1 ?_;refine aA ?_;refine ag [0,1,5,6,7] rfl ?_;refine aE rfl ?_;refine vr 1 ?_;refine aN rfl rfl ⟨by omega,by omega⟩ ?_;refine vr 1 ?_;refine aA ?_;have dH:=C4 (o:=o.take k) (s:=d-br-e) (br':=0) (d:=d) (e:=e) (by simp;omega) hv (by omega) (jV hd) (show val ((ah y).take (k+1))=val ((ah y).take k)+B^k*e by rw[vE,←he]);rw[←vI (by omega)]at dH;exact⟨k+1,o.set k (d-br-e),0,by omega,au,by rw[rY (y:=d-br-e) (by omega)];rfl,by omega,by simp[cH],dV.set (by rw[cz];omega),by omega,dH⟩
   ·
    have hb:(d:Int)<sv:=by simpa using hb
    refine aE rfl ?_;refine vr 4 ?_;refine a6 af rfl rfl rfl rfl rfl (o3 _) (dA hd) (by omega) (by omega) fun _=> ?_;refine aN rfl rfl ⟨by omega,by omega⟩ ?_;refine vr 1 ?_;refine eo rfl rfl ⟨by omega,by omega⟩ ?_;obtain⟨ti,aj,ak⟩:=nm;refine eB (.inl rfl) af rfl rfl rfl (by omega) (by omega) (bT _ _ _) rfl (by rw[nr];omega) aj ak (fun _=>rfl) rfl rfl rfl fun _=> ?_;refine vr 1 ?_;refine aA ?_;refine ag [0,1,5,6,7] rfl ?_;refine aE rfl ?_;refine vr 1 ?_;refine aN rfl rfl ⟨by omega,by omega⟩ ?_;refine vr 1 ?_;refine aA ?_;have dH:=C4 (o:=o.take k) (s:=d+1000000000-br-e) (br':=1) (d:=d) (e:=e) (by simp;omega) hv (by rw[cz];omega) (jV hd) (show val ((ah y).take (k+1))=val ((ah y).take k)+B^k*e by rw[vE,←he]);rw[←vI (by omega)]at dH;exact⟨k+1,o.set k (d+1000000000-br-e),1,by omega,au,by rw[rY (y:=d+1000000000-br-e) (by omega)];rfl,by omega,by simp[cH],dV.set (by rw[cz];omega),by omega,dH⟩
 ·
  have hb:(ah x).length≤k:=by simpa using hb
  obtain rfl:k=(ah x).length:=by omega
  rw[List.take_length,List.take_of_length_le hl,cU,cU,List.take_of_length_le (by omega)]at hv;have tB:=rV dV;rw[cH]at tB
  have Kr:br=0:=by
   rcases Nat.eq_zero_or_pos br with h|h
   ·exact h
   ·
    obtain rfl:br=1:=by omega
    omega
  refine bB ?_;refine ag [5] rfl ?_;refine ae ?_;refine vr 1 ?_;refine ar rfl rfl (yI (xV _ _ o _ _ cH.symm (Nat.le_refl _)) dV (by omega)) ?_;intro v1 H4 hp;refine vr 1 ?_;refine ab [4] ?_;refine aq ⟨.inr rfl,_,.tmp rfl (.nil),?_⟩;exact⟨(Heap.bC _ hg).trans hp.le,by have:=hp.nat;rwa [show val o=x-y by rw[Kr]at hv;omega]at this⟩
theorem yJ{H:Heap}{u v:Value}{x y:Nat}(hx:dh H u x)(hy:dh H v y)(hm:((ah x).length:Int)<8796093022208)(bm:((ah y).length:Int)<8796093022208):
 Fn Tryz.prog 78 #[u,v] H (lP H (x*y)):=by
 obtain⟨A,c,rfl,hc,hr⟩:=hx
 obtain⟨A',c',rfl,jg,dd⟩:=hy
 have iI:=(fj x).lt
 have fP:=(fj y).lt;refine aU (args:=[_,_]) Tryz.func78 rfl rfl Tryz.ntmps78 rfl rfl fun w0=> ?_;refine ag [0,1] rfl ?_;refine ae ?_;refine vr 1 ?_;refine ab [0,1] ?_;refine ae ?_;refine vr 4 ?_;refine aN rfl rfl ⟨by omega,by omega⟩ ?_;refine aN rfl rfl ⟨by omega,by omega⟩ ?_;refine jS Tryz.underlying29 dX rfl rfl rfl (by omega) (by omega) (by omega) (by omega) ?_;intro g hg;rw[show (((ah x).length:Int)+((ah y).length:Int)+1).toNat=((ah x).length+(ah y).length+1)from by omega,vH];have o3:=fun e=>hr.le (Heap.bC (g:=g) e hg);have C8:=fun e=>dd.le (Heap.bC (g:=g) e hg);refine vr 1 ?_;refine ab [0,1,5] ?_;refine al ?_;refine ae ?_;refine vr 1 ?_;refine ab [0,1,5,6] ?_;refine aD ?_;refine jT (fun(i:Nat)(o:List Nat)=>(ah x).length-i) (fun(i:Nat)(o:List Nat)=>put (put (put (put (emp) 0 (.val (.slice A (ah x).length c))) 1 (.val (.slice A' (ah y).length c'))) 5 (.val (.slice (some ⟨g,0,none⟩) ((ah x).length+(ah y).length+1) ((ah x).length+(ah y).length+1)))) 6 (.val (.int .i64 (i:Int)))) (fun(i:Nat)(o:List Nat) H'=>H'=ins H g (dD o ((ah x).length+(ah y).length+1))∧i≤(ah x).length∧o.length=((ah x).length+(ah y).length+1)∧Lt o∧pX o (i+(ah y).length)∧val o=val ((ah x).take i)*y) 0 _ (⟨rfl,by omega,by simp,Lt.replicate _,PO _ _,by simp[val,PF]⟩) au ?_
 rintro i o H1 ⟨rfl,hi,cH,dV,hz,hv⟩;refine al ?_;refine ae ?_;refine vr 4 ?_;refine ab [0,1,5,6,19] ?_;refine az rfl (fun hb=> ?_) (fun hb=> ?_)
 ·
  have hb:i<(ah x).length:=by simpa using hb
  obtain⟨d,hd⟩:∃d,(ah x)[i]? = some d:=⟨_,List.getElem?_eq_getElem hb⟩;have kR:=iI.get hd;rw[cz]at kR;refine aw ?_;refine ag [0,1,5,6] rfl ?_;refine al ?_;refine aD ?_;refine ae ?_;refine vr 1 ?_;refine ab [0,1,5,6,7] ?_;refine ae ?_;refine vr 1 ?_;refine ab [0,1,5,6,7,8] ?_;refine aD ?_;refine jv (fun(j:Nat)(o2:List Nat)(cr:Nat)=>(ah y).length+1-j) (fun(j:Nat)(o2:List Nat)(cr:Nat)=>put (put (put (put (put (put (emp) 0 (.val (.slice A (ah x).length c))) 1 (.val (.slice A' (ah y).length c'))) 5 (.val (.slice (some ⟨g,0,none⟩) ((ah x).length+(ah y).length+1) ((ah x).length+(ah y).length+1)))) 6 (.val (.int .i64 (i:Int)))) 7 (.val (.int .u64 (cr:Int)))) 8 (.val (.int .i64 (j:Int)))) (fun(j:Nat)(o2:List Nat)(cr:Nat) H'=>H'=ins H g (dD o2 ((ah x).length+(ah y).length+1))∧j≤(ah y).length+1∧o2.length=((ah x).length+(ah y).length+1)∧Lt o2∧cr<1000000000∧pX o2 (i+(ah y).length+1)∧(j≤(ah y).length→pX o2 (i+(ah y).length))∧(j=(ah y).length+1→cr=0)∧val o2+B^(i+j)*cr=val ((ah x).take i)*y+B^i*d*val ((ah y).take j)) 0 o 0 (⟨rfl,by omega,cH,dV,by omega,fun t z ht=>hz t z (by omega),fun _=>hz,by omega,by simp[val,hv]⟩) au ?_;rintro j o2 cr H1 ⟨rfl,hj,C9,xZ,fO,iK,q6,tE,dI⟩
  refine GC (put (put (put (put (put (put (emp) 0 (.val (.slice A (ah x).length c))) 1 (.val (.slice A' (ah y).length c'))) 5 (.val (.slice (some ⟨g,0,none⟩) ((ah x).length+(ah y).length+1) ((ah x).length+(ah y).length+1)))) 6 (.val (.int .i64 (i:Int)))) 7 (.val (.int .u64 (cr:Int)))) 8 (.val (.int .i64 (j:Int)))) (fun H'=>H'=ins H g (dD o2 ((ah x).length+(ah y).length+1))∧j≤(ah y).length) ?_ ?_
  ·
   by_cases hjb:j<(ah y).length
   ·
    skip
    refine ae ?_;refine vr 3 ?_;refine ax true rfl rfl (mA (by omega)) ?_;refine vr 4 ?_;refine ab [0,1,5,6,7,8,29] ?_;refine cD rfl ?_;refine aw ?_;exact⟨au,rfl,by omega⟩
   ·
    skip
    refine ae ?_;refine vr 3 ?_;refine ax false rfl rfl (jw (by omega)) ?_;refine vr 4 ?_;refine ab [0,1,5,6,7,8,29] ?_;refine az rfl (fun hb=> ?_) (fun hb=> ?_)
    ·
     have hb:0<cr:=by simpa using hb
     refine aw ?_;exact⟨au,rfl,by omega⟩
    ·
     have hb:cr=0:=by simpa using hb
     subst hb;rw[List.take_of_length_le (l:=ah y) (i:=j) (by omega),cU,Nat.mul_zero,Nat.add_zero]at dI;refine bB ?_;refine ag [0,1,5,6] rfl ?_;refine aE rfl ?_;refine vr 1 ?_;refine aN rfl rfl ⟨by omega,by omega⟩ ?_;refine vr 1 ?_;refine aA ?_;refine⟨i+1,o2,by omega,au,rfl,by omega,C9,xZ,by rw[Nat.add_right_comm];exact iK,?_⟩;rw[jV hd,Nat.add_mul]
     omega
  ·
   rintro H4 ⟨rfl,RD⟩;obtain⟨p,hp⟩:∃p,p=((ah y)[j]?).getD 0:=⟨_,rfl⟩
   have vG:p<1000000000:=by rw[hp];exact getD_lt fP j
   obtain⟨e,he⟩:∃e,o2[i+j]? = some e:=⟨_,List.getElem?_eq_getElem (by omega)⟩;have Ae:=xZ.get he;rw[cz]at Ae
   have Da:((i:Int)+(j:Int)).toNat=i+j:=by omega
   have PL:d*p≤999999999*999999999:=Nat.mul_le_mul (by omega) (by omega)
   have PM:(d:Int)*(p:Int)=((d*p:Nat):Int):=by simp
   refine al ?_;refine aD ?_;refine ae ?_;refine vr 4 ?_;refine aN rfl rfl ⟨by omega,by omega⟩ ?_;refine a6 af rfl rfl rfl rfl rfl (GP _ _ _ _) (by rw[Da];exact dA he) (by omega) (by omega) fun _=> ?_;refine dr af rfl rfl rfl ⟨by omega,by omega⟩ ?_;refine aN rfl rfl ⟨by omega,by omega⟩ ?_;refine vr 1 ?_;refine ab [0,1,5,6,7,8] ?_;refine mz (fun(sv:Int)=>put (put (put (put (put (put (emp) 0 (.val (.slice A (ah x).length c))) 1 (.val (.slice A' (ah y).length c'))) 5 (.val (.slice (some ⟨g,0,none⟩) ((ah x).length+(ah y).length+1) ((ah x).length+(ah y).length+1)))) 6 (.val (.int .i64 (i:Int)))) 7 (.val (.int .u64 sv))) 8 (.val (.int .i64 (j:Int)))) (fun(sv:Int) H'=>H'=ins H g (dD o2 ((ah x).length+(ah y).length+1))∧sv=((d*p+e+cr:Nat):Int)) ?_ ?_
   ·
    refine ae ?_;refine vr 4 ?_;refine ab [0,1,5,6,7,8,44] ?_;refine az rfl (fun hb=> ?_) (fun hb=> ?_)
    ·
     have hb:j<(ah y).length:=by simpa using hb
     have ia:=getD_some hp hb;refine eT .bn [0,1,2,3,4,5,6,7,8,9,10,11,12,13] follows (by kernel_rfl) ?_;refine vr 3 ?_;refine a6 af rfl rfl rfl rfl rfl (o3 _) (dA hd) (by omega) (by omega) fun _=> ?_;refine dr af rfl rfl rfl ⟨by omega,by omega⟩ ?_;refine vr 2 ?_;refine a6 af rfl rfl rfl rfl rfl (C8 _) (dA ia) (by omega) (by omega) fun _=> ?_;refine dr af rfl rfl rfl ⟨by omega,by omega⟩ ?_;refine jh rfl rfl ⟨by omega,by omega⟩ ?_;refine aN rfl rfl ⟨by omega,by omega⟩ ?_;refine vr 1 ?_;refine aA ?_;exact⟨((d*p+e+cr:Nat):Int),au,rfl,rfl⟩
    ·
     have hb:(ah y).length≤j:=by simpa using hb
     have ia:=getD_none hp hb
     have Lf:d*p=0:=by rw[ia,Nat.mul_zero]
     refine aw ?_;exact⟨((d*p+e+cr:Nat):Int),au,rfl,rfl⟩
   ·
    rintro sv H4 ⟨rfl,o0⟩;refine ae ?_;refine vr 3 ?_;refine aN rfl rfl ⟨by omega,by omega⟩ ?_;refine vr 1 ?_;refine gj rfl rfl (by omega) (by omega) ?_;refine dr af rfl rfl rfl ⟨by omega,by omega⟩ ?_;obtain⟨ti,aj,ak⟩:=nm;refine eB (.inl rfl) af rfl rfl rfl (by omega) (by omega) (bT _ _ _) rfl (by rw[nr];omega) aj ak (fun _=>rfl) rfl rfl rfl fun _=> ?_;refine ab [0,1,5,6,7,8] ?_;refine aE rfl ?_;refine vr 1 ?_;refine lx rfl rfl (by omega) (by omega) ⟨by omega,by omega⟩ ?_;refine vr 1 ?_;refine aA ?_;refine ag [0,1,5,6,7,8] rfl ?_;refine aE rfl ?_;refine vr 1 ?_;refine aN rfl rfl ⟨by omega,by omega⟩ ?_;refine vr 1 ?_;refine aA ?_;refine⟨j+1,o2.set (i+j) ((d*p+e+cr)%B),(d*p+e+cr)/1000000000,by omega,au,by rw[rY (y:=(d*p+e+cr)%B) (by rw[cz];omega),Da],by omega,by simp[C9],xZ.set (Nat.mod_lt _ lN),by omega,iK.set (by omega),fun h=>(q6 (by omega)).set (by omega),fun h=> ?_,?_⟩
    ·
     have h1:=getD_none hp (by omega);have h2:=q6 (by omega) (i+j) e (by omega) he;subst h1 h2
     omega
    ·
     rw[vE,←hp];exact PQ he dI rfl
 ·
  have hb:(ah x).length≤i:=by simpa using hb
  obtain rfl:i=(ah x).length:=by omega
  rw[List.take_length,cU]at hv;refine bB ?_;refine ag [5] rfl ?_;refine ae ?_;refine vr 1 ?_;refine ar rfl rfl (yI (xV _ _ o _ _ cH.symm (Nat.le_refl _)) dV (by omega)) ?_;intro v1 H4 hp;refine vr 1 ?_;refine ab [4] ?_;refine aq ⟨.inr rfl,_,.tmp rfl (.nil),?_⟩;exact⟨(Heap.bC _ hg).trans hp.le,by have:=hp.nat;rwa [hv]at this⟩
theorem abE{H:Heap}{u:Value}{l:List Nat}{m:Nat}(hu:iH H u l)(hl:Lt l)(hm:m<1000000000)(C7:0<m)(hs:(l.length:Int)≤8796093022208):
 Fn Tryz.prog 192 #[u,.int .u64 (m:Int)] H (fun v H'=>Heap.le H H'∧∃q,v = .tuple #[q,.int .u64 ((val l%m:Nat):Int)]∧dh H' q (val l/m)):=by
 obtain⟨A,c,rfl,hc,hr⟩:=hu;refine aU (args:=[_,_]) Tryz.func192 rfl rfl Tryz.ntmps192 rfl rfl fun w0=> ?_;refine ag [0,1] rfl ?_;refine ae ?_;refine vr 2 ?_;refine ab [0,1] ?_;refine ae ?_;refine vr 2 ?_;refine jS Tryz.underlying29 dX rfl rfl rfl (by omega) (by omega) (by omega) (by omega) ?_;intro g hg;rw[show ((l.length:Int)).toNat=l.length from by omega,vH];have o3:=fun e=>hr.le (Heap.bC (g:=g) e hg);refine vr 1 ?_;refine ab [0,1,6] ?_;refine ae ?_;refine vr 1 ?_;refine ab [0,1,6,7] ?_;refine al ?_;refine ae ?_;refine vr 2 ?_;refine eo rfl rfl ⟨by omega,by omega⟩ ?_;refine vr 1 ?_;refine ab [0,1,6,7,8] ?_;refine aD ?_;refine jv (fun(k:Nat)(o:List Nat)(rs:Nat)=>k) (fun(k:Nat)(o:List Nat)(rs:Nat)=>put (put (put (put (put (emp) 0 (.val (.slice A l.length c))) 1 (.val (.int .u64 (m:Int)))) 6 (.val (.slice (some ⟨g,0,none⟩) l.length l.length))) 7 (.val (.int .u64 (rs:Int)))) 8 (.val (.int .i64 ((k:Int)-1)))) (fun(k:Nat)(o:List Nat)(rs:Nat) H'=>H'=ins H g (dD o l.length)∧k≤l.length∧o.length=l.length∧Lt o∧rs<m∧val (o.drop k)*m+rs=val (l.drop k)) l.length _ 0 (⟨rfl,by omega,by simp,Lt.replicate _,by omega,by simp[val]⟩) au ?_;rintro k o rs H1 ⟨rfl,hk,cH,dV,pW,hv⟩;refine al ?_
 refine ae ?_;refine vr 2 ?_;refine ab [0,1,6,7,8,16] ?_;refine az rfl (fun hb=> ?_) (fun hb=> ?_)
 ·
  have hb:1≤k:=by simp at hb;omega
  obtain⟨k,rfl⟩:∃j,k=j+1:=⟨k-1,by omega⟩;obtain⟨d,hd⟩:∃d,l[k]? = some d:=⟨_,List.getElem?_eq_getElem (by omega)⟩;have kR:=hl.get hd;rw[cz]at kR
  have hj:(((k+1:Nat):Int)-1).toNat=k:=by omega
  have gF:((rs:Int)*1000000000+(d:Int))/(m:Int)<1000000000:=Int.ediv_lt_of_lt_mul (by omega) (by omega);have cn:0≤((rs:Int)*1000000000+(d:Int))/(m:Int):=Int.ediv_nonneg (by omega) (by omega);refine aw ?_;refine ag [0,1,6,7,8] rfl ?_;refine al ?_;refine aD ?_;refine ae ?_;refine vr 1 ?_;refine jh rfl rfl ⟨by omega,by omega⟩ ?_;refine vr 2 ?_;refine a6 af rfl rfl rfl rfl rfl (o3 _) (by rw[hj];exact dA hd) (by omega) (by omega) fun _=> ?_;refine dr af rfl rfl rfl ⟨by omega,by omega⟩ ?_;refine aN rfl rfl ⟨by omega,by omega⟩ ?_;refine vr 1 ?_;refine ab [0,1,6,7,8] ?_;refine ae ?_;refine vr 4 ?_;refine lx rfl rfl (by omega) (by omega) ⟨by omega,by omega⟩ ?_;refine dr af rfl rfl rfl ⟨by omega,by omega⟩ ?_;obtain⟨ti,aj,ak⟩:=nm;refine eB (.inl rfl) af rfl rfl rfl (by omega) (by omega) (bT _ _ _) rfl (by rw[nr];omega) aj ak (fun _=>rfl) rfl rfl rfl fun _=> ?_;refine ab [0,1,6,7,8] ?_;refine aE rfl ?_;refine vr 2 ?_;refine gj rfl rfl (by omega) (by omega) ?_;refine vr 1 ?_;refine aA ?_;refine ag [0,1,6,7,8] rfl ?_;refine aE rfl ?_;refine vr 1 ?_;refine eo rfl rfl ⟨by omega,by omega⟩ ?_;refine vr 1 ?_;refine aA ?_
  have hq:(rs*1000000000+d)/m<1000000000:=by rw[Nat.div_lt_iff_lt_mul C7];omega
  refine⟨k,o.set k ((rs*1000000000+d)/m),(rs*1000000000+d)%m,by omega,au,by rw[rY (y:=(rs*1000000000+d)/m) (by simp)];rw[hj],by omega,by simp[cH],dV.set (by rw[cz];omega),Nat.mod_lt _ C7,?_⟩;rw[set_drop (by omega),z6 hd,iF,iF,←hv];have:=Nat.div_add_mod (rs*1000000000+d) m
  simp only[cz,Nat.add_mul,Nat.mul_add,Nat.mul_assoc]
  rw[Nat.mul_comm m]at this
  omega
 ·
  have hb:k=0:=by simp at hb;omega
  subst hb
  simp only[List.drop_zero]at hv
  refine bB ?_;refine ag [6,7] rfl ?_;refine ae ?_;refine vr 1 ?_;refine ar rfl rfl (yI (xV _ _ o _ _ cH.symm (Nat.le_refl _)) dV (by omega)) ?_;intro v1 H4 hp;refine vr 3 ?_;refine ab [4,5] ?_;refine aq ⟨.inr rfl,_,.tmp rfl (.tmp rfl (.nil)),?_⟩;refine⟨(Heap.bC _ hg).trans hp.le,v1,?_,?_⟩
  ·rw[(GR hv pW).2];rfl
  ·rw[(GR hv pW).1];exact hp.nat
end Go.ay
namespace Go.ay
open Go.Proofs Num
def abF(H:Heap)(v:Value)(H':Heap):Prop:=H'=H∧∃d:Nat,v = .int .u64 (d:Int)∧d≤999999999
theorem abG{H:Heap}{u v:Value}{x y:Nat}(hx:dh H u x)(hy:dh H v y)(El:2≤(ah y).length)(tF:(ah x).length≤(ah y).length+1)(hm:((ah y).length:Int)≤8796093022208):
 Fn Tryz.prog 193 #[u,v] H (abF H):=by
 obtain⟨A,c,rfl,hc,hr⟩:=hx
 obtain⟨A',c',rfl,jg,dd⟩:=hy
 have iI:=(fj x).lt
 have fP:=(fj y).lt
 obtain⟨k,hk⟩:∃k,(ah y).length=k+2:=⟨(ah y).length-2,by omega⟩
 have tE:(((ah y).length:Int)-1).toNat=k+1:=by omega
 have x8:(((ah y).length:Int)-2).toNat=k:=by omega
 obtain⟨b1,di⟩:∃z,(ah y)[k+1]? = some z:=⟨_,List.getElem?_eq_getElem (by omega)⟩
 obtain⟨b0,jE⟩:∃z,(ah y)[k]? = some z:=⟨_,List.getElem?_eq_getElem (by omega)⟩
 have abH:=fP.get di
 have abI:=fP.get jE
 have RV:b1≠0:=(fj y).last b1 (by rw[List.getLast?_eq_getElem?,hk];exact di)
 rw[cz]at abH abI;refine aU (args:=[_,_]) Tryz.func193 rfl rfl Tryz.ntmps193 rfl rfl fun w0=> ?_;refine ag [0,1] rfl ?_;refine ae ?_;refine vr 1 ?_;refine ab [0,1] ?_;refine ae ?_;refine vr 3 ?_;refine ab [0,1,5] ?_;refine al ?_;refine ae ?_;refine vr 4 ?_;refine ab [0,1,5,15] ?_;refine az rfl (fun hb=> ?_) (fun hb=> ?_)
 ·
  skip
  refine ae ?_;refine vr 1 ?_;refine ab [4] ?_;refine aq ⟨.inr rfl,_,.tmp rfl (.nil),?_⟩;exact⟨rfl,0,rfl,by omega⟩
 ·
  have hb:(ah y).length≤(ah x).length:=by simpa using hb
  obtain⟨r1,kK⟩:∃z,(ah x)[k+1]? = some z:=⟨_,List.getElem?_eq_getElem (by omega)⟩;obtain⟨r0,oV⟩:∃z,(ah x)[k]? = some z:=⟨_,List.getElem?_eq_getElem (by omega)⟩;have Il:=iI.get kK;have abJ:=iI.get oV;rw[cz]at Il abJ;have gF:((r1:Int)*1000000000+(r0:Int))/((b1:Int)*1000000000+(b0:Int))<1000000000:=Int.ediv_lt_of_lt_mul (by omega) (by omega);have cn:0≤((r1:Int)*1000000000+(r0:Int))/((b1:Int)*1000000000+(b0:Int)):=Int.ediv_nonneg (by omega) (by omega);obtain⟨q,hq⟩:∃q:Nat,(q:Int)=((r1:Int)*1000000000+(r0:Int))/((b1:Int)*1000000000+(b0:Int)):=⟨_,Int.toNat_of_nonneg cn⟩;rw[←hq]at gF;refine aw ?_;refine ag [0,1,5] rfl ?_;refine bL .bn [0,1,2,3,4,5,6,7,8,9,10,11,12,13,14] follows (by kernel_rfl) ?_;refine vr 2 ?_;refine eo rfl rfl ⟨by omega,by omega⟩ ?_;refine a6 af rfl rfl rfl rfl rfl (dd) (by rw[tE];exact dA di) (by omega) (by omega) fun _=> ?_;refine dr af rfl rfl rfl ⟨by omega,by omega⟩ ?_;refine jh rfl rfl ⟨by omega,by omega⟩ ?_;refine vr 2 ?_;refine eo rfl rfl ⟨by omega,by omega⟩ ?_;refine a6 af rfl rfl rfl rfl rfl (dd) (by rw[x8];exact dA jE) (by omega) (by omega) fun _=> ?_;refine dr af rfl rfl rfl ⟨by omega,by omega⟩ ?_;refine aN rfl rfl ⟨by omega,by omega⟩ ?_;refine vr 1 ?_;refine ab [0,5,6] ?_
  refine bL .bn [0,1,2,3,4,5,6,7,8,9,10,11,12,13,14] follows (by kernel_rfl) ?_;refine vr 2 ?_;refine eo rfl rfl ⟨by omega,by omega⟩ ?_;refine a6 af rfl rfl rfl rfl rfl (hr) (by rw[tE];exact dA kK) (by omega) (by omega) fun _=> ?_;refine dr af rfl rfl rfl ⟨by omega,by omega⟩ ?_;refine jh rfl rfl ⟨by omega,by omega⟩ ?_;refine vr 2 ?_;refine eo rfl rfl ⟨by omega,by omega⟩ ?_;refine a6 af rfl rfl rfl rfl rfl (hr) (by rw[x8];exact dA oV) (by omega) (by omega) fun _=> ?_;refine dr af rfl rfl rfl ⟨by omega,by omega⟩ ?_;refine aN rfl rfl ⟨by omega,by omega⟩ ?_;refine vr 1 ?_;refine ab [0,5,6,7] ?_;refine al ?_;refine ae ?_;refine vr 4 ?_;refine ab [0,5,6,7,47] ?_;refine az rfl (fun hb=> ?_) (fun hb=> ?_)
  ·
   skip
   refine ae ?_;refine vr 2 ?_;refine lx rfl rfl (by omega) (by omega) ⟨by rw[←hq];omega,by rw[←hq];omega⟩ ?_;rw[←hq];refine vr 1 ?_;refine ab [4] ?_;refine aq ⟨.inr rfl,_,.tmp rfl (.nil),?_⟩;exact⟨rfl,q,rfl,by omega⟩
  ·
   have hb:(ah x).length=(ah y).length+1:=by simp at hb;omega
   obtain⟨rn,uj⟩:∃z,(ah x)[(ah y).length]? = some z:=⟨_,List.getElem?_eq_getElem (by omega)⟩;refine aw ?_;refine ag [0,5,6,7] rfl ?_;refine ae ?_;refine vr 2 ?_;refine a6 af rfl rfl rfl rfl rfl (hr) (dA uj) (by omega) (by omega) fun _=> ?_;refine Kh Tryz.underlying121 Tryz.underlying214 rfl fun f1=> ?_;refine Ki (.inr (.inl rfl)) rfl rfl fun f2=> ?_;refine vr 1 ?_;refine Kh Tryz.underlying120 Tryz.underlying214 rfl fun f3=> ?_;refine Ki (.inl rfl) rfl rfl fun f4=> ?_;refine vr 1 ?_;refine ab [6,8] ?_;refine ae ?_;refine vr 2 ?_;refine Kh Tryz.underlying120 Tryz.underlying214 rfl fun f5=> ?_;refine Ki (.inr (.inr rfl)) rfl rfl fun f6=> ?_;refine XM Tryz.underlying214 Tryz.underlying120 rfl fun f7 hf7=> ?_;refine vr 1 ?_;refine ab [9] ?_;refine ae ?_;refine vr 1 ?_;refine Xf (v:=((f7:Int)+2)%18446744073709551616) rfl rfl rfl ?_;refine Ps rfl rfl ?_
   generalize hmn:(if (999999999:Int)<((f7:Int)+2)%18446744073709551616 then(999999999:Int)else((f7:Int)+2)%18446744073709551616)=mn
   have agj:0≤mn∧mn≤999999999:=by rw[←hmn];split <;> omega
   obtain⟨q2,rfl⟩:∃q2:Nat,mn=(q2:Int):=⟨mn.toNat,by omega⟩;refine vr 1 ?_;refine ab [4] ?_;refine aq ⟨.inr rfl,_,.tmp rfl (.nil),?_⟩;exact⟨rfl,q2,rfl,by omega⟩
end Go.ay
namespace Go.ay
open Go.Proofs Num
theorem RW{x y:Nat}:(0<jk x y)↔y<x:=by
 unfold jk;split
 ·omega
 ·split <;> omega
theorem abK{x y:Nat}:(jk x y<0)↔x<y:=by
 unfold jk;split
 ·omega
 ·split <;> omega
theorem Em{x y:Nat}:(0≤jk x y)↔y≤x:=by
 unfold jk;split
 ·omega
 ·split <;> omega
theorem RX{l:List Nat}{k d:Nat}(h:l[k]? = some d):val (l.drop k)=d+B*val (l.drop (k+1)):=by
 obtain⟨hk,e⟩:=List.getElem?_eq_some_iff.1 h
 rw[List.drop_eq_getElem_cons hk,e,iF]
theorem abL{a:Nat}{l:List Nat}(ha:a<B)(h:Lt l):Lt (a::l):=fun z hz=>by
 rcases List.mem_cons.1 hz with rfl | hz
 ·exact ha
 ·exact h z hz
theorem jX.abM{H:Heap}{v:Value}{l:List Nat}(h:bU H v 121 1 l.length (U l)):iH H v l:=jX.lim h
theorem En{H:Heap}{u v:Value}{x y:Nat}(hx:dh H u x)(hy:dh H v y)(iE:0<y)(hm:((ah x).length:Int)<4398046511104)(bm:((ah y).length:Int)<4398046511104):
 Fn Tryz.prog 150 #[u,v] H (PX H x y):=by
 have iJ:=hx
 have yc:=hy
 obtain⟨A,c,rfl,hc,hr⟩:=hx
 obtain⟨A',c',rfl,jg,dd⟩:=hy
 have iI:=(fj x).lt
 have fP:=(fj y).lt
 have Zx:(ah y).length≠0:=fun e=>KA iE (List.eq_nil_of_length_eq_zero e);refine aU (args:=[_,_]) Tryz.func150 rfl rfl Tryz.ntmps150 rfl rfl fun w0=> ?_;refine ag [0,1] rfl ?_;refine ae ?_;refine vr 2 ?_;refine ab [0,1] ?_;refine al ?_;refine ae ?_;refine vr 2 ?_;refine ar rfl rfl (Ii iJ yc (by omega)) ?_;rintro v1 H1 ⟨e1,rfl⟩;rw[e1];refine vr 1 ?_;refine ab [0,1,15] ?_;refine az rfl (fun hb=> ?_) (fun hb=> ?_)
 ·
  have tF:x<y:=abK.1 (by simpa using hb);refine ae ?_;refine vr 1 ?_;refine ar rfl rfl (yI iJ iI (by omega)) ?_;rintro v1 H1 hp;rw[cU]at hp;refine vr 2 ?_;refine ab [4,5] ?_;refine aq ⟨.inr rfl,_,.tmp rfl (.tmp rfl (.nil)),?_⟩;exact⟨hp.le,_,_,rfl,by rw[Nat.div_eq_of_lt tF];exact tz _,by rw[Nat.mod_eq_of_lt tF];exact hp.nat⟩
 ·
  have tF:y≤x:=Em.1 (by simpa using hb);refine aw ?_;refine ag [0,1] rfl ?_;refine al ?_;refine ae ?_;refine vr 3 ?_;refine ab [0,1,20] ?_;refine az rfl (fun hb=> ?_) (fun hb=> ?_)
  ·
   have hb:(ah y).length=1:=by simp at hb;omega
   have El:(ah y)[0]? = some y:=by
    obtain⟨z,hz⟩:=List.length_eq_one_iff.1 hb;have:=cU y;rw[hz]at this⊢
    simp[val]at this
    simp[this]
   have Dh:=fP.get El;rw[cz]at Dh;refine ae ?_;refine vr 2 ?_;refine a6 af rfl rfl rfl rfl rfl (dd) (dA El) (by omega) (by omega) fun _=> ?_;refine dr af rfl rfl rfl ⟨by omega,by omega⟩ ?_;refine ar rfl rfl (abE iJ iI Dh iE (by omega)) ?_;rintro v1 H2 ⟨hle,q,rfl,hq⟩;refine vr 1 ?_;rw[cU]at hq⊢;refine vr 4 ?_;refine ab [6,7] ?_;refine ae ?_;refine vr 2 ?_;refine ar rfl rfl (Ej (x:=x%y) (by have:=Nat.mod_lt x iE;omega)) ?_;intro v1 H3 hp;refine vr 2 ?_;refine ab [4,5] ?_;refine aq ⟨.inr rfl,_,.tmp rfl (.tmp rfl (.nil)),?_⟩;exact⟨hle.trans hp.le,_,_,rfl,hq.le hp.le,hp.nat⟩
  ·
   have hb:(ah y).length≠1:=by simp at hb;omega
   have iv:2≤(ah y).length:=by omega
   refine aw ?_;refine ag [0,1] rfl ?_;refine ae ?_;refine vr 2 ?_;refine jS Tryz.underlying29 dX rfl rfl rfl (by omega) (by omega) (by omega) (by omega) ?_;intro g hg;rw[show (((ah x).length:Int)).toNat=(ah x).length from by omega,vH];refine vr 1 ?_;refine ab [0,1,8] ?_;refine ae ?_;refine vr 1 ?_;refine ab [0,1,8,9] ?_;refine al ?_;refine ae ?_;refine vr 2 ?_;refine eo rfl rfl ⟨by omega,by omega⟩ ?_;refine vr 1 ?_;refine ab [0,1,8,9,10] ?_;refine aD ?_;refine pQ (fun(k:Nat)(rv:Value)(r:Nat)(l:List Nat)=>k) (fun(k:Nat)(rv:Value)(r:Nat)(l:List Nat)=>put (put (put (put (put (emp) 0 (.val (.slice A (ah x).length c))) 1 (.val (.slice A' (ah y).length c'))) 8 (.val (.slice (some ⟨g,0,none⟩) (ah x).length (ah x).length))) 9 (.val (rv))) 10 (.val (.int .i64 ((k:Int)-1)))) (fun(k:Nat)(rv:Value)(r:Nat)(l:List Nat) H'=>Heap.le H (rem H' [g])∧H' g=some (dD l (ah x).length)∧l.length=(ah x).length∧Lt l∧k≤(ah x).length∧r<y∧dh (rem H' [g]) rv r∧val ((ah x).drop k)=val (l.drop k)*y+r) (ah x).length (.slice none 0 0) 0 _ (⟨by rw[se _ hg,gn];exact .refl _,bT _ _ _,by simp,Lt.replicate _,Nat.le_refl _,iE,tz _,by simp[val]⟩) au ?_;rintro k rv r l H1 ⟨hle,Dc,tD,bH,hk,LX,j6,hv⟩
   obtain⟨Ar,cr,rfl,fO,yy⟩:=id j6;have agk:=lB (Nat.le_of_lt LX);have nB:=hle.trans (bG H1 [g]);refine al ?_;refine ae ?_;refine vr 2 ?_;refine ab [0,1,8,9,10,40] ?_;refine az rfl (fun hb=> ?_) (fun hb=> ?_)
   ·
    have hb:0<k:=by simp at hb;omega
    obtain⟨ai,LY⟩:∃d,(ah x)[k-1]? = some d:=⟨_,List.getElem?_eq_getElem (by omega)⟩;have RY:=iI.get LY;rw[cz]at RY
    have RZ:(((k:Int)-1)).toNat=k-1:=by omega
    refine aw ?_;refine ag [0,1,8,9,10] rfl ?_;refine al ?_;refine aD ?_;refine ae ?_;refine vr 2 ?_;refine a6 af rfl rfl rfl rfl rfl (hr.le nB) (by rw[RZ];exact dA LY) (by omega) (by omega) fun _=> ?_;refine dM Tryz.underlying29 dX rfl rfl rfl rfl rfl rfl rfl ?_;intro gb bW
    have LZ:gb≠g:=fun e=>by subst e;rw[Dc]at bW;cases bW
    refine vr 1 ?_;refine eW Tryz.underlying29 dX rfl rfl ((⟨rfl,.inr ⟨gb,1,rfl,bT _ _ _,Nat.le_refl _,by decide⟩⟩:bU _ _ 121 1 1 (U [ai]))) ((yy.le (bG _ _)).le (Heap.bC _ bW)) (by rw[xU,Nat.mul_one]) (nn _) (by omega) (by omega) ?_;intro v1 H2 ha;have kK:=ha.rem (gs:=[g]) (fun q hq=>by simp only[List.mem_singleton]at hq;subst hq;rw[bP _ _ (Ne.symm LZ),Dc];simp) (fun q hq=>by simp only[List.mem_singleton]at hq;subst hq;intro e;cases e;exact LZ rfl)
    have eU:H2 g=some (dD l (ah x).length):=by rw[kK.2 g (List.mem_singleton.2 rfl),bP _ _ (Ne.symm LZ),Dc]
    have dU:Heap.le (rem H1 [g]) (rem H2 [g]):=(r8 [g] (Heap.bC _ bW)).trans kK.1.le;have abN:iH (rem H2 [g]) v1 (ai::ah r):=jX.abM (by have h0:=kK.1.own;rw[←GM,Nat.add_comm]at h0;exact h0);refine ar rfl rfl (Fn.frame (gs:=[g]) (fun q hq=>by simp only[List.mem_singleton]at hq;subst hq;rw[eU];simp) (yI abN (abL (by rw[cz];exact RY) (fj r).lt) (by rw[List.length_cons];omega))) ?_;rintro v2 H3 ⟨ew,jN⟩;rw[iF,cU]at ew;obtain⟨r1,R0⟩:∃r1,r1=ai+B*r:=⟨_,rfl⟩;rw[←R0]at ew;have o4:=(jN g (List.mem_singleton.2 rfl)).trans eU;have ib:=dU.trans ew.le
    have Il:r1<B*y:=by rw[R0,cz];omega
    have abO:(ah r1).length≤(ah y).length+1:=ji.2 (by rw[Nat.pow_succ,Nat.mul_comm _ B];exact Nat.lt_trans Il (Nat.mul_lt_mul_of_pos_left (zY y) lN));have Eo:=(yc.le hle).le ib;have iM:=ew.nat;obtain⟨A3,c3,rfl,mB,iY⟩:=id iM;refine vr 1 ?_;refine ab [0,1,8,9,10] ?_;refine ae ?_;refine vr 2 ?_;refine ar rfl rfl (Fn.frame (gs:=[g]) (fun q hq=>by simp only[List.mem_singleton]at hq;subst hq;rw[o4];simp) (abG iM Eo iv abO (by omega))) ?_;rintro v3 H4 ⟨⟨fy,d0,rfl,qp⟩,oE⟩;have Ep:=(oE g (List.mem_singleton.2 rfl)).trans o4
    have gS:Heap.le (rem H1 [g]) (rem H4 [g]):=by rw[fy];exact ib
    refine vr 1 ?_;refine ab [0,1,8,9,10,11] ?_;refine mz (fun(d:Nat)=>put (put (put (put (put (put (emp) 0 (.val (.slice A (ah x).length c))) 1 (.val (.slice A' (ah y).length c'))) 8 (.val (.slice (some ⟨g,0,none⟩) (ah x).length (ah x).length))) 9 (.val (.slice A3 (ah r1).length c3))) 10 (.val (.int .i64 ((k:Int)-1)))) 11 (.val (.int .u64 (d:Int)))) (fun(d:Nat) H'=>Heap.le (rem H3 [g]) (rem H' [g])∧H' g=some (dD l (ah x).length)∧d≤999999999∧y*d≤r1) ?_ ?_
    ·
     refine aD ?_;refine ft (fun(d:Nat)=>d) (fun(d:Nat)=>put (put (put (put (put (put (emp) 0 (.val (.slice A (ah x).length c))) 1 (.val (.slice A' (ah y).length c'))) 8 (.val (.slice (some ⟨g,0,none⟩) (ah x).length (ah x).length))) 9 (.val (.slice A3 (ah r1).length c3))) 10 (.val (.int .i64 ((k:Int)-1)))) 11 (.val (.int .u64 (d:Int)))) (fun(d:Nat) H'=>Heap.le (rem H3 [g]) (rem H' [g])∧H' g=some (dD l (ah x).length)∧d≤999999999) d0 (⟨by rw[fy];exact .refl _,Ep,qp⟩) au ?_;rintro d H5 ⟨gZ,sQ,hd5⟩;have yK:=Eo.le gZ;have Im:=iM.le gZ;refine al ?_
     rcases Nat.eq_zero_or_pos d with qp | qp
     ·
      subst qp;refine ae ?_;refine vr 1 ?_;refine ax false rfl rfl (fN (by omega)) ?_;refine vr 9 ?_;refine ab [0,1,8,9,10,11,64] ?_;refine dg rfl ?_;refine bB ?_;exact⟨0,au,gZ,sQ,by omega,by omega⟩
     ·
      have LB:(ah d).length≤3:=ji.2 (by rw[cz];omega);refine ae ?_;refine vr 1 ?_;refine ax true rfl rfl (iG (by omega)) ?_;refine vr 3 ?_;refine ar rfl rfl (Fn.frame (gs:=[g]) (fun q hq=>by simp only[List.mem_singleton]at hq;subst hq;rw[sQ];simp) (Ej (x:=d) (by omega))) ?_;rintro v4 Ha ⟨uk,L0⟩;have yL:=(L0 g (List.mem_singleton.2 rfl)).trans sQ;refine ar rfl rfl (Fn.frame (gs:=[g]) (fun q hq=>by simp only[List.mem_singleton]at hq;subst hq;rw[yL];simp) (yJ (yK.le uk.le) uk.nat (by omega) (by omega))) ?_;rintro v5 Hb ⟨yM,L1⟩;have Er:=(L1 g (List.mem_singleton.2 rfl)).trans yL;have nW:=nv y d;refine vr 1 ?_;refine ar rfl rfl (Fn.frame (gs:=[g]) (fun q hq=>by simp only[List.mem_singleton]at hq;subst hq;rw[Er];simp) (Ii yM.nat ((Im.le uk.le).le yM.le) (by omega))) ?_;rintro v6 Hc ⟨⟨L2,rfl⟩,yd⟩;have q8:=(yd g (List.mem_singleton.2 rfl)).trans Er
      have R1:Heap.le (rem H3 [g]) (rem Hc [g]):=by rw[L2];exact(gZ.trans uk.le).trans yM.le
      refine vr 2 ?_;refine ab [0,1,8,9,10,11,64] ?_;refine az rfl (fun hb=> ?_) (fun hb=> ?_)
      ·
       have hb:r1<y*d:=RW.1 (by simpa using hb);refine aw ?_;refine ag [0,1,8,9,10,11] rfl ?_;refine aD ?_;refine aE rfl ?_;refine vr 1 ?_;refine eo rfl rfl ⟨by omega,by omega⟩ ?_;refine vr 1 ?_;refine aA ?_;exact⟨d-1,by omega,au,R1,q8,by omega⟩
      ·
       have hb:y*d≤r1:=by
        have:¬0<jk (y*d) r1:=by simpa using hb
        rw[RW]at this;omega
       refine bB ?_;exact⟨d,au,R1,q8,hd5,hb⟩
    ·
     rintro d H6 ⟨ma,pf,hd6,hyd⟩;have hy6:=Eo.le ma;have wA:=iM.le ma;have LB:(ah d).length≤3:=ji.2 (by rw[cz];omega);refine ae ?_;refine vr 3 ?_;refine ar rfl rfl (Fn.frame (gs:=[g]) (fun q hq=>by simp only[List.mem_singleton]at hq;subst hq;rw[pf];simp) (Ej (x:=d) (by omega))) ?_;rintro v4 Ha ⟨uk,L0⟩;have yL:=(L0 g (List.mem_singleton.2 rfl)).trans pf;refine ar rfl rfl (Fn.frame (gs:=[g]) (fun q hq=>by simp only[List.mem_singleton]at hq;subst hq;rw[yL];simp) (yJ (hy6.le uk.le) uk.nat (by omega) (by omega))) ?_;rintro v5 Hb ⟨yM,L1⟩;have Er:=(L1 g (List.mem_singleton.2 rfl)).trans yL;refine ar rfl rfl (Fn.frame (gs:=[g]) (fun q hq=>by simp only[List.mem_singleton]at hq;subst hq;rw[Er];simp) (Ik ((wA.le uk.le).le yM.le) yM.nat hyd (by omega))) ?_;rintro v6 Hc ⟨R2,yd⟩;have qm:=(yd g (List.mem_singleton.2 rfl)).trans Er;have abP:=((ma.trans uk.le).trans yM.le).trans R2.le;refine vr 1 ?_;refine ab [0,1,8,9,10,11] ?_;refine al ?_;refine aD ?_;refine jv (fun(d2:Nat)(Es:Value)(r2:Nat)=>r2) (fun(d2:Nat)(Es:Value)(r2:Nat)=>put (put (put (put (put (put (emp) 0 (.val (.slice A (ah x).length c))) 1 (.val (.slice A' (ah y).length c'))) 8 (.val (.slice (some ⟨g,0,none⟩) (ah x).length (ah x).length))) 9 (.val (Es))) 10 (.val (.int .i64 ((k:Int)-1)))) 11 (.val (.int .u64 (d2:Int)))) (fun(d2:Nat)(Es:Value)(r2:Nat) H'=>Heap.le (rem H3 [g]) (rem H' [g])∧H' g=some (dD l (ah x).length)∧dh (rem H' [g]) Es r2∧r1=y*d2+r2) d _ (r1-y*d) (⟨abP,qm,R2.nat,by omega⟩) au ?_
     rintro d2 Es r2 wB ⟨po,nI,uo,he8⟩;obtain⟨A8,c8,rfl,L3,hr8⟩:=id uo;have hy8:=Eo.le po;have jt:=lB (show r2≤r1 by omega)
     have agl:d2<1000000000:=by
      false_or_by_contra
      have:y*1000000000≤y*d2:=Nat.mul_le_mul_left _ (by omega);rw[cz,Nat.mul_comm]at Il;omega
     refine al ?_;refine ae ?_;refine vr 2 ?_;refine ar rfl rfl (Fn.frame (gs:=[g]) (fun q hq=>by simp only[List.mem_singleton]at hq;subst hq;rw[nI];simp) (Ii uo hy8 (by omega))) ?_;rintro v7 H9 ⟨⟨R3,rfl⟩,nF⟩;have By:=(nF g (List.mem_singleton.2 rfl)).trans nI
     have DS:Heap.le (rem H3 [g]) (rem H9 [g]):=by rw[R3];exact po
     have R4:dh (rem H9 [g]) (.slice A8 (ah r2).length c8) r2:=by rw[R3];exact uo
     refine vr 1 ?_;refine ab [0,1,8,9,10,11,76] ?_;refine az rfl (fun hb=> ?_) (fun hb=> ?_)
     ·
      have hb:y≤r2:=Em.1 (by simpa using hb);refine aw ?_;refine ag [0,1,8,9,10,11] rfl ?_;refine aD ?_;refine ae ?_;refine vr 2 ?_;refine ar rfl rfl (Fn.frame (gs:=[g]) (fun q hq=>by simp only[List.mem_singleton]at hq;subst hq;rw[By];simp) (Ik R4 (Eo.le DS) hb (by omega))) ?_;rintro v8 Et ⟨R5,abQ⟩;have abR:=(abQ g (List.mem_singleton.2 rfl)).trans By;refine vr 1 ?_;refine ab [0,1,8,9,10,11] ?_;refine aE rfl ?_;refine vr 1 ?_;refine aN rfl rfl ⟨by omega,by omega⟩ ?_;refine vr 1 ?_;refine aA ?_;exact⟨d2+1,_,r2-y,by omega,au,DS.trans R5.le,abR,R5.nat,by rw[Nat.mul_add,Nat.mul_one];omega⟩
     ·
      have abS:r2<y:=by
       have:¬0≤jk r2 y:=by simp at hb;omega
       rw[Em]at this;omega
      obtain⟨r3,rfl⟩:∃r3,r3=r2:=⟨_,rfl⟩;obtain⟨d3,rfl⟩:∃d3,d3=d2:=⟨_,rfl⟩;refine bB ?_;refine ag [0,1,8,9,10,11] rfl ?_;refine aE rfl ?_;refine vr 3 ?_;refine dr af rfl rfl rfl ⟨by omega,by omega⟩ ?_;obtain⟨ti,aj,ak⟩:=nm;refine eB (.inl rfl) af rfl rfl rfl (by omega) (by omega) (By) rfl (by rw[nr];omega) aj ak (fun _=>rfl) rfl rfl rfl fun _=> ?_;refine aA ?_
      have wC:ins H9 g {dD l (ah x).length with xs:=aF (dD l (ah x).length).xs (0+((k:Int)-1).toNat*1) [.int .u32 (d3:Int)]}=ins H9 g (dD (l.set (k-1) d3) (ah x).length):=by
       rw[RZ];simp only[dD,aF,Nat.zero_add,Nat.mul_one,Ko]
      have L4:Heap.le H (rem (ins H9 g {dD l (ah x).length with xs:=aF (dD l (ah x).length).xs (0+((k:Int)-1).toNat*1) [.int .u32 (d3:Int)]}) [g]):=by
       rw[cK _ (List.mem_singleton.2 rfl)];exact(hle.trans ib).trans DS
      have Eu:=R4;refine ag [0,1,8,9,10] rfl ?_;refine aE rfl ?_;refine vr 1 ?_;refine eo rfl rfl ⟨by omega,by omega⟩ ?_;refine vr 1 ?_;refine aA ?_;refine⟨k-1,_,r3,l.set (k-1) d3,by omega,au,L4,by rw[wC,bT],by simp[tD],bH.set (by rw[cz];omega),by omega,abS,by rw[wC,cK _ (List.mem_singleton.2 rfl)];exact Eu,?_⟩;rw[RX LY,show k-1+1=k by omega,RX (l:=l.set (k-1) d3) (List.getElem?_set_self (by omega)),show k-1+1=k by omega,List.drop_set_of_lt (by omega),hv]
      have h1:B*(val (List.drop k l)*y+r)=B*val (List.drop k l)*y+B*r:=by rw[Nat.mul_add,Nat.mul_assoc]
      have h2:(d3+B*val (List.drop k l))*y=y*d3+B*val (List.drop k l)*y:=by rw[Nat.add_mul,Nat.mul_comm d3]
      rw[h1,h2];omega
   ·
    have hb:k=0:=by simp at hb;omega
    subst hb;rw[List.drop_zero,List.drop_zero,cU]at hv
    have hqv:val l=x/y:=by rw[hv,Nat.add_comm,Nat.add_mul_div_right _ _ iE,Nat.div_eq_of_lt LX,Nat.zero_add]
    have nD:r=x%y:=by rw[hv,Nat.add_comm,Nat.add_mul_mod_self_right,Nat.mod_eq_of_lt LX]
    refine bB ?_;refine ag [8,9] rfl ?_;refine ae ?_;refine vr 1 ?_;refine ar rfl rfl (yI (l:=l) ⟨some ⟨g,0,none⟩,_,by rw[tD],by omega,fun i v hv=>⟨_,rfl,by simp[cell,kQ,Dc,dD,hv]⟩⟩ bH (by omega)) ?_;rintro v9 oG L5;refine vr 3 ?_;refine ab [4,5] ?_;refine aq ⟨.inr rfl,_,.tmp rfl (.tmp rfl (.nil)),?_⟩;exact⟨(hle.trans (bG _ _)).trans L5.le,_,_,rfl,by rw[←hqv];exact L5.nat,by rw[←nD];exact(j6.le (bG _ _)).le L5.le⟩
end Go.ay
namespace Go.ay
open Go.Proofs Num
theorem abT(f:Bool)(n d:Nat)(k:Nat)(hn:(ah n).length≤k)(hd:(ah d).length≤k):aJ (bS f n d)≤k+1∧(0<d→aJ (bS f n d)≤k):=by
 rcases Nat.eq_zero_or_pos d with e | e
 ·subst e
  rw[Dk]
  refine⟨?_,fun h=>by omega⟩
  have:aJ 0=1:=by
   unfold aJ
   show max (ah 0).length (ah 1).length=1
   rw[qM,tG];rfl
  omega
 ·have h1:=lB (Nat.div_le_self n (Nat.gcd n d))
  have h2:=lB (Nat.div_le_self d (Nat.gcd n d))
  have:aJ (bS f n d)≤k:=by
   unfold aJ
   rw[ye e,vN e];omega
  exact⟨by omega,fun _=>this⟩
theorem bN.size{H:Heap}{v:Value}{q:Rat}{N:Nat}(h:bN H v q N):aJ q≤N+2:=by
 obtain⟨f,u,w,l1,l2,_,_,_,h1,h2,h3,h4,rfl⟩:=h
 have k1:=Aq h1
 have k2:=Aq h2
 exact(abT f _ _ (N+1) (by omega) (by omega)).1
theorem R6{H:Heap}{w:Value}(hw:dh H w 1):cJ H (.agg #[.bool false,.slice none 0 0,w]) 0:=⟨_,_,rfl,tz H,hw⟩
theorem abU{H:Heap}{f:Bool}{u w:Value}{n d:Nat}(hn:0<n)(hd:0<d)(hu:dh H u (n/Nat.gcd n d))(hw:dh H w (d/Nat.gcd n d)):cJ H (.agg #[.bool f,u,w]) (bS f n d):=by
 refine⟨u,w,?_,by rw[ye hd];exact hu,by rw[vN hd];exact hw⟩
 rw[Dm hd hn]
theorem abV(p q:Rat):dF (p-q)=gQ p q:=by
 unfold dF gQ
 by_cases h:p<q
 ·rw[if_pos (by grind),if_pos h]
 ·rw[if_neg (by grind),if_neg h]
  by_cases e:p=q
  ·rw[if_pos (by grind),if_pos e]
  ·rw[if_neg (by grind),if_neg e]
theorem dh.sR{H:Heap}{v:Value}{x:Nat}(h:dh H v x):iH H v (ah x):=h
theorem abW{H:Heap}{u v:Value}{x y:Nat}(hx:dh H u x)(hy:dh H v y)(hm:((ah x).length:Int)<4398046511104)(bm:((ah y).length:Int)<4398046511104):
 Fn Tryz.prog 149 #[u,v] H (lP H (Nat.gcd x y)):=by
 refine aU (args:=[_,_]) Tryz.func149 rfl rfl Tryz.ntmps149 rfl rfl fun w0=> ?_;refine ag [0,1] rfl ?_;refine ae ?_;refine vr 1 ?_;refine ab [0,1] ?_;refine al ?_;refine aD ?_;refine pQ (fun(u:Value)(a:Nat)(v:Value)(b:Nat)=>b) (fun(u:Value)(a:Nat)(v:Value)(b:Nat)=>put (put (emp) 0 (.val (u))) 1 (.val (v))) (fun(u:Value)(a:Nat)(v:Value)(b:Nat) H'=>Heap.le H H'∧dh H' u a∧dh H' v b∧((ah a).length:Int)<4398046511104∧((ah b).length:Int)<4398046511104∧Nat.gcd a b=Nat.gcd x y) _ x _ y (⟨.refl _,hx,hy,hm,bm,rfl⟩) au ?_;rintro u a v b H1 ⟨hle,ha,kA,iI,fP,hg⟩;obtain⟨Aha,cha,rfl,agm,agn⟩:=id ha;obtain⟨ago,agp,rfl,agq,agr⟩:=id kA;refine al ?_;refine ae ?_;refine vr 3 ?_;refine ab [0,1,9] ?_;refine az rfl (fun hb=> ?_) (fun hb=> ?_)
 ·
  have hb:0<b:=Nat.pos_of_ne_zero fun e=>by rw[jW.2 e]at hb;simp at hb
  refine aw ?_;refine ag [0,1] rfl ?_;refine aD ?_;refine ae ?_;refine vr 2 ?_;refine ar rfl rfl (En ha kA hb iI fP) ?_;rintro v2 H2 ⟨aM,q2,r2,rfl,bK,lQ⟩;refine vr 5 ?_;refine ab [1,6] ?_;refine aE rfl ?_;refine vr 4 ?_;refine aA ?_;have yt:=lB (Nat.le_of_lt (Nat.mod_lt a hb));exact⟨_,b,_,a%b,Nat.mod_lt a hb,au,hle.trans aM,kA.le aM,lQ,fP,by omega,by rw[←hg,Nat.gcd_comm b,←Nat.gcd_rec,Nat.gcd_comm]⟩
 ·
  have hb:b=0:=jW.1 (by have:=of_decide_eq_false hb;omega);subst hb;rw[Nat.gcd_zero_right]at hg;subst hg;refine bB ?_;refine ag [0] rfl ?_;refine ae ?_;refine vr 2 ?_;refine ab [4] ?_;refine aq ⟨.inr rfl,_,.tmp rfl (.nil),?_⟩;exact⟨hle,ha⟩
theorem wD{H:Heap}{u v:Value}{f:Bool}{l1 l2:List Nat}(hu:iH H u l1)(hv:iH H v l2)(h1:∀x,x∈l1→x<4294967296)(h2:∀x,x∈l2→x<4294967296)(hm:(l1.length:Int)≤4398046511000)(bm:(l2.length:Int)≤4398046511000):
 Fn Tryz.prog 75 #[.bool f,u,v] H (jZ H (bS f (val l1) (val l2))):=by
 have k1:=Aq h1
 have k2:=Aq h2
 obtain⟨Ahu,chu,rfl,ags,agt⟩:=id hu
 obtain⟨Ahv,chv,rfl,agu,agv⟩:=id hv;refine aU (args:=[_,_,_]) Tryz.func75 rfl rfl Tryz.ntmps75 rfl rfl fun w0=> ?_;refine ag [0,1,2] rfl ?_;refine ae ?_;refine bh cM rfl ?_;refine ab [0,1,2,6] ?_;refine ae ?_;refine vr 1 ?_;refine ar rfl rfl (RU hu h1 (by omega)) ?_;rintro v1 H1 gG;refine vr 1 ?_;refine ar rfl rfl (RU (hv.le gG.le) h2 (by omega)) ?_;rintro v2 H2 ia;obtain⟨n,hn⟩:∃n,n=val l1:=⟨_,rfl⟩;obtain⟨d,hd⟩:∃d,d=val l2:=⟨_,rfl⟩;rw[←hn]at gG k1;rw[←hd]at ia k2;have dO:=gG.nat.le ia.le;have iv:=ia.nat;obtain⟨KO,KP,rfl,KQ,KR⟩:=id dO;obtain⟨Qh,Qi,rfl,Qj,Qk⟩:=id iv;have hle:=gG.le.trans ia.le;rw[←hn,←hd];refine vr 2 ?_;refine ab [0,1,2,6] ?_;refine al ?_
 rcases Nat.eq_zero_or_pos n with jJ | jJ
 ·
  have Io:=jW.2 jJ;refine ae ?_;refine vr 2 ?_;refine ax true rfl rfl (dz (by omega)) ?_;refine vr 5 ?_;refine ab [0,1,2,6,19] ?_;refine cD rfl ?_;refine ae ?_;refine dM Tryz.underlying29 dX rfl rfl rfl rfl rfl rfl rfl ?_;intro gb bW;refine dW af rfl cM rfl rfl ?_;obtain⟨ti,aj,ak⟩:=bM;refine aG (.inl ⟨rfl,rfl⟩) rfl rfl rfl aj ak rfl rfl rfl ?_;refine ab [6] ?_;obtain⟨bX,aK,aL⟩:=bM;refine aq ⟨.inr rfl,_,.agg rfl Tryz.underlying31 aK aL (.nil),?_⟩;exact⟨hle.trans (Heap.bC _ bW),by rw[jJ,vM];exact R6 vO⟩
 ·
  have Io:(ah n).length≠0:=fun e=>by rw[jW]at e;omega
  rcases Nat.eq_zero_or_pos d with qp | qp
  ·
   have Io:=jW.2 qp;refine ae ?_;refine vr 2 ?_;refine ax false rfl rfl (eN (by omega)) ?_;refine vr 3 ?_;refine ax true rfl rfl (dz (by omega)) ?_;refine vr 1 ?_;refine ab [0,1,2,6,19] ?_;refine cD rfl ?_;refine ae ?_;refine dM Tryz.underlying29 dX rfl rfl rfl rfl rfl rfl rfl ?_;intro gb bW;refine dW af rfl cM rfl rfl ?_;obtain⟨ti,aj,ak⟩:=bM;refine aG (.inl ⟨rfl,rfl⟩) rfl rfl rfl aj ak rfl rfl rfl ?_;refine ab [6] ?_;obtain⟨bX,aK,aL⟩:=bM;refine aq ⟨.inr rfl,_,.agg rfl Tryz.underlying31 aK aL (.nil),?_⟩;exact⟨hle.trans (Heap.bC _ bW),by rw[qp,Dk];exact R6 vO⟩
  ·
   have aI:(ah d).length≠0:=fun e=>by rw[jW]at e;omega
   refine ae ?_;refine vr 2 ?_;refine ax false rfl rfl (eN (by omega)) ?_;refine vr 3 ?_;refine ax false rfl rfl (eN (by omega)) ?_;refine vr 1 ?_;refine ab [0,1,2,6,19] ?_;refine dg rfl ?_;refine aw ?_;refine ag [0,1,2,6] rfl ?_;refine ae ?_;refine vr 2 ?_;refine ar rfl rfl (abW dO iv (by omega) (by omega)) ?_;rintro v3 H3 ew;obtain⟨g,hg⟩:∃g,g=Nat.gcd n d:=⟨_,rfl⟩;rw[←hg]at ew
   have m9:0<g:=by rw[hg];exact Nat.gcd_pos_of_pos_left _ jJ
   have iM:=ew.nat;have ua:=lB (show g≤n by rw[hg];exact Nat.gcd_le_left _ jJ);have L6:=dO.le ew.le;have L7:=iv.le ew.le;obtain⟨KS,KT,rfl,KU,Hi⟩:=id iM;refine vr 1 ?_;refine ab [0,1,2,6,7] ?_;refine Kg (fun(u3:Value)(v3:Value)=>put (put (put (put (emp) 0 (.val (.bool f))) 1 (.val (u3))) 2 (.val (v3))) 6 (.box [.bool false,.slice none 0 0,.slice none 0 0])) (fun(u3:Value)(v3:Value) H'=>Heap.le H H'∧dh H' u3 (n/g)∧dh H' v3 (d/g)) ?_ ?_
   ·
    by_cases hl:(ah g).length=1
    ·
     obtain⟨z,hz⟩:=List.length_eq_one_iff.1 hl
     have R7:z=g:=by have:=cU g;rw[hz]at this;simpa [val]using this
     have Ec:(ah g)[0]? = some g:=by rw[hz,R7];rfl
     refine ae ?_;refine vr 2 ?_;refine ax false rfl rfl (ko (by omega)) ?_;refine vr 2 ?_;refine a6 af rfl rfl rfl rfl rfl (Hi) (dA Ec) (by omega) (by omega) fun _=> ?_;refine vr 2 ?_;refine ab [0,1,2,6,7,33] ?_;refine az rfl (fun hb=> ?_) (fun hb=> ?_)
     ·
      skip
      refine ae ?_;refine vr 2 ?_;refine ar rfl rfl (En L6 iM m9 (by omega) (by omega)) ?_;rintro v4 H4 ⟨bE,q4,r4,rfl,bR,r7⟩;refine vr 4 ?_;refine ab [0,1,2,6,7] ?_;refine aE rfl ?_;refine vr 2 ?_;refine ar rfl rfl (En (L7.le bE) (iM.le bE) m9 (by omega) (by omega)) ?_;rintro v5 H5 ⟨cA,q5,r5,rfl,ja,p6⟩;refine vr 4 ?_;refine aA ?_;exact⟨_,_,au,(hle.trans ew.le).trans (bE.trans cA),bR.le cA,ja⟩
     ·
      have qN:g=1:=by simp at hb;omega
      refine aw ?_;exact⟨_,_,au,hle.trans ew.le,by rw[qN,Nat.div_one];exact L6,by rw[qN,Nat.div_one];exact L7⟩
    ·
     skip
     refine ae ?_;refine vr 2 ?_;refine ax true rfl rfl (kn (by omega)) ?_;refine vr 6 ?_;refine ab [0,1,2,6,7,33] ?_;refine cD rfl ?_;refine ae ?_;refine vr 2 ?_;refine ar rfl rfl (En L6 iM m9 (by omega) (by omega)) ?_;rintro v4 H4 ⟨bE,q4,r4,rfl,bR,r7⟩;refine vr 4 ?_;refine ab [0,1,2,6,7] ?_;refine aE rfl ?_;refine vr 2 ?_;refine ar rfl rfl (En (L7.le bE) (iM.le bE) m9 (by omega) (by omega)) ?_;rintro v5 H5 ⟨cA,q5,r5,rfl,ja,p6⟩;refine vr 4 ?_;refine aA ?_;exact⟨_,_,au,(hle.trans ew.le).trans (bE.trans cA),bR.le cA,ja⟩
   ·
    rintro u3 v3 H6 ⟨ma,R8,wE⟩;obtain⟨agw,agx,rfl,agy,agz⟩:=id R8;obtain⟨agA,agB,rfl,agC,agD⟩:=id wE;refine ae ?_;refine vr 3 ?_;refine dW af rfl cM rfl rfl ?_;obtain⟨ti,aj,ak⟩:=bM;refine aG (.inl ⟨rfl,rfl⟩) rfl rfl rfl aj ak rfl rfl rfl ?_;refine ab [6] ?_;obtain⟨bX,aK,aL⟩:=bM;refine aq ⟨.inr rfl,_,.agg rfl Tryz.underlying31 aK aL (.nil),?_⟩;exact⟨ma,abU jJ qp (by rw[←hg];exact R8) (by rw[←hg];exact wE)⟩
theorem yN{H:Heap}{n:Int}(h1: -9223372036854775808≤n)(h2:n≤9223372036854775807):
 Fn Tryz.prog 20 #[.int .i64 n] H (jZ H (n:Rat)):=by
 have a7:(ah n.natAbs).length≤3:=ji.2 (by rw[cz];omega)
 have Ev:=G6 n
 have iq:val (ah 1)=1:=cU 1
 have aI:(ah 1).length=1:=by rw[tG];rfl
 refine aU (args:=[_]) Tryz.func20 rfl rfl Tryz.ntmps20 rfl rfl fun w0=> ?_;refine ag [0] rfl ?_;refine ae ?_;refine bh cM rfl ?_;refine ab [0,2] ?_;refine al ?_;refine ae ?_;refine vr 2 ?_;refine ab [0,2,4] ?_;refine az rfl (fun hb=> ?_) (fun hb=> ?_)
 ·
  have hb:n<0:=by simpa using hb
  rw[decide_eq_true hb]at Ev;refine ae ?_;refine vr 1 ?_;refine aN rfl rfl ⟨by omega,by omega⟩ ?_;refine zS rfl ⟨by omega,by omega⟩ ?_;refine dr af rfl rfl rfl ⟨by omega,by omega⟩ ?_;refine aN rfl rfl ⟨by omega,by omega⟩ ?_;rw[show -(n+1)+1=((n.natAbs:Nat):Int) by omega];refine ar rfl rfl (Ej (by omega)) ?_;rintro v1 H1 gG;refine dM Tryz.underlying29 dX rfl rfl rfl rfl rfl rfl rfl ?_;intro gb bW;refine ar rfl rfl (wD (gG.nat.le (Heap.bC _ bW)) (vO).sR oa oa (by omega) (by omega)) ?_;rintro w2 G2 ⟨dP,bK⟩;rw[cU,iq,Ev]at bK;obtain⟨u2,x2,rfl,eY,fm⟩:=id bK;obtain⟨oc,oe,rfl,og,oh⟩:=id eY;obtain⟨oj,om,rfl,oo,ot⟩:=id fm;obtain⟨ti,aj,ak⟩:=bM;refine aG (.inl ⟨rfl,rfl⟩) rfl rfl rfl aj ak rfl rfl rfl ?_;refine ab [2] ?_;obtain⟨bX,aK,aL⟩:=bM;refine aq ⟨.inr rfl,_,.agg rfl Tryz.underlying31 aK aL (.nil),?_⟩;exact⟨(gG.le.trans (Heap.bC _ bW)).trans dP,bK⟩
 ·
  have hb:¬n<0:=by simpa using hb
  rw[decide_eq_false hb]at Ev;obtain⟨m,rfl⟩:∃m:Nat,n=(m:Int):=⟨n.natAbs,by omega⟩;rw[Int.natAbs_natCast]at Ev a7;refine aw ?_;refine ag [0,2] rfl ?_;refine ae ?_;refine vr 1 ?_;refine dr af rfl rfl rfl ⟨by omega,by omega⟩ ?_;refine ar rfl rfl (Ej (x:=m) (by omega)) ?_;rintro v1 H1 gG;refine dM Tryz.underlying29 dX rfl rfl rfl rfl rfl rfl rfl ?_;intro gb bW;refine ar rfl rfl (wD (gG.nat.le (Heap.bC _ bW)) (vO).sR oa oa (by omega) (by omega)) ?_;rintro w2 G2 ⟨dP,bK⟩;rw[cU,iq,Ev]at bK;obtain⟨u2,x2,rfl,eY,fm⟩:=id bK;obtain⟨oc,oe,rfl,og,oh⟩:=id eY;obtain⟨oj,om,rfl,oo,ot⟩:=id fm;obtain⟨ti,aj,ak⟩:=bM;refine aG (.inl ⟨rfl,rfl⟩) rfl rfl rfl aj ak rfl rfl rfl ?_;refine ab [2] ?_;obtain⟨bX,aK,aL⟩:=bM;refine aq ⟨.inr rfl,_,.agg rfl Tryz.underlying31 aK aL (.nil),?_⟩;exact⟨(gG.le.trans (Heap.bC _ bW)).trans dP,bK⟩
theorem wF{H:Heap}{v:Value}{q:Rat}{N:Nat}(hv:bN H v q N)(hN:(N:Int)≤4398046511000):
 Fn Tryz.prog 77 #[v] H (jZ H q):=by
 obtain⟨bf,bu,bw,lW,lX,rfl,di,aW,iL,oH,nJ,L8,rfl⟩:=id hv;refine aU (args:=[_]) Tryz.func77 rfl rfl Tryz.ntmps77 rfl rfl fun w0=> ?_;refine ag [0] rfl ?_;refine ae ?_;refine bF rfl rfl ?_;refine bh cM rfl ?_;refine ab [1,2] ?_;refine ae ?_;refine vr 6 ?_;refine ar rfl rfl (wD di aW iL oH (by omega) (by omega)) ?_;rintro w2 G2 ⟨dP,bK⟩;obtain⟨u2,x2,rfl,eY,fm⟩:=id bK;obtain⟨oc,oe,rfl,og,oh⟩:=id eY;obtain⟨oj,om,rfl,oo,ot⟩:=id fm;obtain⟨ti,aj,ak⟩:=bM;refine aG (.inl ⟨rfl,rfl⟩) rfl rfl rfl aj ak rfl rfl rfl ?_;refine ab [2] ?_;obtain⟨bX,aK,aL⟩:=bM;refine aq ⟨.inr rfl,_,.agg rfl Tryz.underlying31 aK aL (.nil),?_⟩;exact⟨dP,bK⟩
theorem Bz{H:Heap}{v:Value}{q:Rat}{N:Nat}(hv:bN H v q N)(hN:(N:Int)≤4398046511000):
 Fn Tryz.prog 67 #[v] H (fun v H'=>Heap.le H H'∧v = .int .i64 (dF q)):=by
 obtain⟨bf,bu,bw,lW,lX,rfl,_⟩:=id hv
 have eC:=Qq q;refine aU (args:=[_]) Tryz.func67 rfl rfl Tryz.ntmps67 rfl rfl fun w0=> ?_;refine ag [0] rfl ?_;refine ae ?_;refine bF rfl rfl ?_;refine vr 1 ?_;refine ab [1] ?_;refine ae ?_;refine vr 1 ?_;refine ar rfl rfl (wF hv hN) ?_;rintro w2 G2 ⟨dP,bK⟩;obtain⟨u2,x2,rfl,eY,fm⟩:=id bK;obtain⟨oc,oe,rfl,og,oh⟩:=id eY;obtain⟨oj,om,rfl,oo,ot⟩:=id fm;obtain⟨ti,aj,ak⟩:=bM;refine aG (.inl ⟨rfl,rfl⟩) rfl rfl rfl aj ak rfl rfl rfl ?_;refine ab [1] ?_;refine al ?_;refine aD ?_;refine ae ?_;refine vr 5 ?_;refine ab [1,5] ?_;refine az rfl (fun hb=> ?_) (fun hb=> ?_)
 ·
  have hb:q.num.natAbs=0:=jW.1 (by have:=eq_of_beq hb;omega);rw[if_pos hb]at eC;refine ae ?_;refine vr 1 ?_;refine ab [2] ?_;refine aq ⟨.inr rfl,_,.tmp rfl (.nil),?_⟩;exact⟨dP,by rw[eC];rfl⟩
 ·
  have hb:q.num.natAbs≠0:=fun e=>by rw[jW.2 e]at hb;simp at hb
  rw[if_neg hb]at eC;refine ae ?_;refine vr 3 ?_;refine ab [10] ?_;refine az rfl (fun hb=> ?_) (fun hb=> ?_)
  ·
   rw[hb]at eC;refine ae ?_;refine vr 1 ?_;refine ab [2] ?_;refine aq ⟨.inr rfl,_,.tmp rfl (.nil),?_⟩;exact⟨dP,by rw[eC];rfl⟩
  ·
   rw[hb]at eC;refine aw ?_;refine ag [] rfl ?_;refine ae ?_;refine vr 1 ?_;refine ab [2] ?_;refine aq ⟨.inr rfl,_,.tmp rfl (.nil),?_⟩;exact⟨dP,by rw[eC];rfl⟩
theorem abX{H:Heap}{v:Value}{q:Rat}{N:Nat}(hv:bN H v q N)(hN:(N:Int)≤4398046511000):
 Fn Tryz.prog 135 #[v] H (jZ H (-q)):=by
 obtain⟨bf,bu,bw,lW,lX,rfl,di,aW,iL,oH,nJ,L8,rfl⟩:=id hv;refine aU (args:=[_]) Tryz.func135 rfl rfl Tryz.ntmps135 rfl rfl fun w0=> ?_;refine ag [0] rfl ?_;refine ae ?_;refine bF rfl rfl ?_;refine bh cM rfl ?_;refine ab [1,2] ?_;refine ae ?_;refine vr 7 ?_;refine ar rfl rfl (wD (f:= !bf) di aW iL oH (by omega) (by omega)) ?_;rintro w2 G2 ⟨dP,bK⟩;rw[←KK]at bK;obtain⟨u2,x2,rfl,eY,fm⟩:=id bK;obtain⟨oc,oe,rfl,og,oh⟩:=id eY;obtain⟨oj,om,rfl,oo,ot⟩:=id fm;obtain⟨ti,aj,ak⟩:=bM;refine aG (.inl ⟨rfl,rfl⟩) rfl rfl rfl aj ak rfl rfl rfl ?_;refine ab [2] ?_;obtain⟨bX,aK,aL⟩:=bM;refine aq ⟨.inr rfl,_,.agg rfl Tryz.underlying31 aK aL (.nil),?_⟩;exact⟨dP,bK⟩
theorem BA{H:Heap}{v v2:Value}{q q2:Rat}{N:Nat}(hv:bN H v q N)(dI:bN H v2 q2 N)(hN:(N:Int)≤1099511627780):
 Fn Tryz.prog 21 #[v,v2] H (jZ H (q+q2)):=by
 obtain⟨bf,bu,bw,lW,lX,rfl,_⟩:=id hv
 obtain⟨cf,cu,cw,vQ,vR,rfl,_⟩:=id dI
 have gF:=hv.size
 have BB:=dI.size
 have eJ:=Nat.pos_of_ne_zero q.den_nz
 have jH:=Nat.pos_of_ne_zero q2.den_nz
 have yO:=yf q
 have yP:=yf q2
 obtain⟨f1,jG⟩:∃f1,f1=decide (q.num<0):=⟨_,rfl⟩
 obtain⟨f2,kj⟩:∃f2,f2=decide (q2.num<0):=⟨_,rfl⟩
 obtain⟨n1,dO⟩:∃n1,n1=q.num.natAbs:=⟨_,rfl⟩
 obtain⟨n2,iv⟩:∃n2,n2=q2.num.natAbs:=⟨_,rfl⟩
 obtain⟨d1,ur⟩:∃d1,d1=q.den:=⟨_,rfl⟩
 obtain⟨d2,ux⟩:∃d2,d2=q2.den:=⟨_,rfl⟩
 have hz:(ah n1).length≤N+2∧(ah d1).length≤N+2∧(ah n2).length≤N+2∧(ah d2).length≤N+2:=by
  unfold aJ at gF BB
  rw[dO,iv,ur,ux];omega
 rw[←jG,←dO,←ur]at yO
 rw[←kj,←iv,←ux]at yP
 rw[←ur]at eJ
 rw[←ux]at jH
 have p9:=nv n1 d2
 have lR:=nv n2 d1
 have KN:=nv d1 d2
 have G9:=Nat.mul_pos eJ jH
 have fw:=P9 (x:=n1*d2) (y:=n2*d1) (k:=2*(N+2)) (by omega) (by omega);refine aU (args:=[_,_]) Tryz.func21 rfl rfl Tryz.ntmps21 rfl rfl fun w0=> ?_;refine ag [0,1] rfl ?_;refine ae ?_;refine bF rfl rfl ?_;refine bF rfl rfl ?_;refine bh cM rfl ?_;refine ab [2,3,4] ?_;refine bL .bn [0,2,1,3,4,5] follows (by kernel_rfl) ?_;refine vr 2 ?_;refine aH rfl rfl (wF hv (by omega)) (fun _ _ h=>by first | exact h.le | exact h.1) ?_;rintro w1 G1 ⟨aI,yQ⟩
 unfold cJ at yQ
 rw[←jG,←dO,←ur]at yQ;obtain⟨tH,tI,rfl,gm,gH⟩:=id yQ;obtain⟨tJ,tK,rfl,tL,tM⟩:=id gm;obtain⟨tN,tO,rfl,tP,tQ⟩:=id gH;refine aH rfl rfl (wF (dI.le aI) (by omega)) (fun _ _ h=>by first | exact h.le | exact h.1) ?_;rintro w2 G2 ⟨aM,yR⟩
 unfold cJ at yR
 rw[←kj,←iv,←ux]at yR;obtain⟨AF,AG,rfl,kS,kq⟩:=id yR;obtain⟨yh,yi,rfl,AH,AI⟩:=id kS;obtain⟨yj,yk,rfl,AJ,AK⟩:=id kq;have gm:=gm.le aM;have gH:=gH.le aM;have hle:=aI.trans aM;obtain⟨ti,aj,ak⟩:=bM;refine aG (.inl ⟨rfl,rfl⟩) rfl rfl rfl aj ak rfl rfl rfl ?_;obtain⟨ti,aj,ak⟩:=bM;refine aG (.inl ⟨rfl,rfl⟩) rfl rfl rfl aj ak rfl rfl rfl ?_;refine ab [2,3,4] ?_;refine bL .bn [0,1,2,3,5,6,7,8,4,9,10,11] follows (by kernel_rfl) ?_;refine vr 8 ?_;refine aH rfl rfl (yJ gm kq (by omega) (by omega)) (fun _ _ h=>by first | exact h.le | exact h.1) ?_;rintro v3 H3 ew;refine aH rfl rfl (yJ (kS.le ew.le) (gH.le ew.le) (by omega) (by omega)) (fun _ _ h=>by first | exact h.le | exact h.1) ?_;rintro v4 H4 fy;refine vr 2 ?_;refine ab [2,3,4,5,6] ?_;refine ae ?_;refine vr 4 ?_;refine ar rfl rfl (yJ ((gH.le ew.le).le fy.le) ((kq.le ew.le).le fy.le) (by omega) (by omega)) ?_;rintro v5 H5 Ip;have gZ:=((hle.trans ew.le).trans fy.le).trans Ip.le;have yS:=(ew.nat.le fy.le).le Ip.le;have yK:=fy.nat.le Ip.le;have yT:=Ip.nat;obtain⟨abY,abZ,rfl,ab0,ab1⟩:=id yS;obtain⟨agE,agF,rfl,agG,agH⟩:=id yK;obtain⟨agI,agJ,rfl,agK,agL⟩:=id yT;refine vr 1 ?_
 refine ab [2,3,4,5,6,7] ?_;refine al ?_;refine ae ?_;refine vr 4 ?_;refine CN Tryz.underlying4 rfl rfl ?_;refine ab [2,3,4,5,6,7,31] ?_;refine az rfl (fun hb=> ?_) (fun hb=> ?_)
 ·
  have o5:f1=f2:=by simpa using hb
  refine bL .bn [0,1,2,3,5,4,6,7] follows (by kernel_rfl) ?_;refine vr 5 ?_;refine aH rfl rfl (abD yS yK (by omega) (by omega)) (fun _ _ h=>by first | exact h.le | exact h.1) ?_;rintro v6 H6 nu;have Ew:=yT.le nu.le;have wG:=nu.nat;obtain⟨R9,Sa,rfl,Sb,Sc⟩:=id wG;refine aH rfl rfl (wD (f:=f1) wG.sR Ew.sR oa oa (by omega) (by omega)) (fun _ _ h=>by first | exact h.le | exact h.1) ?_;rintro w7 G7 ⟨Ex,kX⟩;rw[cU,cU,←P4 f1 eJ jH,yO,o5,yP]at kX;obtain⟨u7,x7,rfl,Ey,Ez⟩:=id kX;obtain⟨Sd,Se,rfl,Sf,Sg⟩:=id Ey;obtain⟨Sh,Si,rfl,Sj,Sk⟩:=id Ez;obtain⟨ti,aj,ak⟩:=bM;refine aG (.inl ⟨rfl,rfl⟩) rfl rfl rfl aj ak rfl rfl rfl ?_;refine ab [4] ?_;obtain⟨bX,aK,aL⟩:=bM;refine aq ⟨.inr rfl,_,.agg rfl Tryz.underlying31 aK aL (.nil),?_⟩;exact⟨(gZ.trans nu.le).trans Ex,kX⟩
 ·
  have o5:f1≠f2:=by simpa using hb
  refine aw ?_;refine ag [2,3,4,5,6,7] rfl ?_;refine al ?_;refine ae ?_;refine vr 2 ?_;refine ar rfl rfl (Ii yS yK (by omega)) ?_;rintro v6 H6 ⟨e6,rfl⟩;rw[e6];refine vr 1 ?_;refine ab [2,3,4,5,6,7,42] ?_;refine az rfl (fun hb=> ?_) (fun hb=> ?_)
  ·
   have hb:n2*d1≤n1*d2:=Em.1 (by simpa using hb);have eL:=lB (Nat.sub_le (n1*d2) (n2*d1));refine bL .bn [0,1,2,3,5,4,6,7] follows (by kernel_rfl) ?_;refine vr 5 ?_;refine aH rfl rfl (Ik yS yK hb (by omega)) (fun _ _ h=>by first | exact h.le | exact h.1) ?_;rintro v6 H6 nu;have Ew:=yT.le nu.le;have wG:=nu.nat;obtain⟨R9,Sa,rfl,Sb,Sc⟩:=id wG;refine aH rfl rfl (wD (f:=f1) wG.sR Ew.sR oa oa (by omega) (by omega)) (fun _ _ h=>by first | exact h.le | exact h.1) ?_;rintro w7 G7 ⟨Ex,kX⟩;rw[cU,cU,←KJ o5 eJ jH hb,yO,yP]at kX;obtain⟨u7,x7,rfl,Ey,Ez⟩:=id kX;obtain⟨Sd,Se,rfl,Sf,Sg⟩:=id Ey;obtain⟨Sh,Si,rfl,Sj,Sk⟩:=id Ez;obtain⟨ti,aj,ak⟩:=bM;refine aG (.inl ⟨rfl,rfl⟩) rfl rfl rfl aj ak rfl rfl rfl ?_;refine ab [4] ?_;obtain⟨bX,aK,aL⟩:=bM;refine aq ⟨.inr rfl,_,.agg rfl Tryz.underlying31 aK aL (.nil),?_⟩;exact⟨(gZ.trans nu.le).trans Ex,kX⟩
  ·
   have hb:n1*d2≤n2*d1:=by
    have:¬0≤jk (n1*d2) (n2*d1):=by simp at hb;omega
    rw[Em]at this;omega
   have eL:=lB (Nat.sub_le (n2*d1) (n1*d2));refine aw ?_;refine ag [3,4,5,6,7] rfl ?_;refine bL .bn [0,1,2,3,5,4,6,7] follows (by kernel_rfl) ?_;refine vr 5 ?_;refine aH rfl rfl (Ik yK yS hb (by omega)) (fun _ _ h=>by first | exact h.le | exact h.1) ?_;rintro v6 H6 nu;have Ew:=yT.le nu.le;have wG:=nu.nat;obtain⟨R9,Sa,rfl,Sb,Sc⟩:=id wG;refine aH rfl rfl (wD (f:=f2) wG.sR Ew.sR oa oa (by omega) (by omega)) (fun _ _ h=>by first | exact h.le | exact h.1) ?_;rintro w7 G7 ⟨Ex,kX⟩;rw[cU,cU,←P5 o5 eJ jH hb,yO,yP]at kX;obtain⟨u7,x7,rfl,Ey,Ez⟩:=id kX;obtain⟨Sd,Se,rfl,Sf,Sg⟩:=id Ey;obtain⟨Sh,Si,rfl,Sj,Sk⟩:=id Ez;obtain⟨ti,aj,ak⟩:=bM;refine aG (.inl ⟨rfl,rfl⟩) rfl rfl rfl aj ak rfl rfl rfl ?_;refine ab [4] ?_;obtain⟨bX,aK,aL⟩:=bM;refine aq ⟨.inr rfl,_,.agg rfl Tryz.underlying31 aK aL (.nil),?_⟩;exact⟨(gZ.trans nu.le).trans Ex,kX⟩
theorem ab2{H:Heap}{v v2:Value}{q q2:Rat}{N:Nat}(hv:bN H v q N)(dI:bN H v2 q2 N)(hN:(N:Int)≤1099511627778):
 Fn Tryz.prog 65 #[v,v2] H (jZ H (q-q2)):=by
 obtain⟨bf,bu,bw,lW,lX,rfl,_⟩:=id hv
 obtain⟨cf,cu,cw,vQ,vR,rfl,_⟩:=id dI
 have BB:=dI.size;refine aU (args:=[_,_]) Tryz.func65 rfl rfl Tryz.ntmps65 rfl rfl fun w0=> ?_;refine ag [0,1] rfl ?_;refine ae ?_;refine bF rfl rfl ?_;refine bF rfl rfl ?_;refine bh cM rfl ?_;refine ab [2,3,4] ?_;refine bL .bn [0,1,2,3,4] follows (by kernel_rfl) ?_;refine vr 2 ?_;refine aH rfl rfl (abX dI (by omega)) (fun _ _ h=>by first | exact h.le | exact h.1) ?_;rintro w2 G2 ⟨dP,bK⟩;obtain⟨u2,x2,rfl,eY,fm⟩:=id bK;obtain⟨oc,oe,rfl,og,oh⟩:=id eY;obtain⟨oj,om,rfl,oo,ot⟩:=id fm;have lQ:=bK.raw;rw[show aJ (-q2)=aJ q2 by unfold aJ;rw[Rat.neg_num,Int.natAbs_neg,Rat.neg_den]]at lQ;refine aH rfl rfl (BA (N:=N+2) ((hv.le dP).mono (by omega)) (lQ.mono BB) (by omega)) (fun _ _ h=>by first | exact h.le | exact h.1) ?_;rintro w3 G3 ⟨mH,fe⟩;rw[←Rat.sub_eq_add_neg]at fe;obtain⟨u3,x3,rfl,nA,ic⟩:=id fe;obtain⟨AZ,A7,rfl,Ba,Bb⟩:=id nA;obtain⟨Bc,Be,rfl,Bf,Bg⟩:=id ic;obtain⟨ti,aj,ak⟩:=bM;refine aG (.inl ⟨rfl,rfl⟩) rfl rfl rfl aj ak rfl rfl rfl ?_;refine ab [4] ?_;obtain⟨bX,aK,aL⟩:=bM;refine aq ⟨.inr rfl,_,.agg rfl Tryz.underlying31 aK aL (.nil),?_⟩;exact⟨dP.trans mH,fe⟩
theorem EA{H:Heap}{v v2:Value}{q q2:Rat}{N:Nat}(hv:bN H v q N)(dI:bN H v2 q2 N)(hN:(N:Int)≤1099511627776):
 Fn Tryz.prog 14 #[v,v2] H (fun v H'=>Heap.le H H'∧v = .int .i64 (gQ q q2)):=by
 obtain⟨bf,bu,bw,lW,lX,rfl,_⟩:=id hv
 obtain⟨cf,cu,cw,vQ,vR,rfl,_⟩:=id dI
 have gF:=hv.size
 have BB:=dI.size;refine aU (args:=[_,_]) Tryz.func14 rfl rfl Tryz.ntmps14 rfl rfl fun w0=> ?_;refine ag [0,1] rfl ?_;refine ae ?_;refine bF rfl rfl ?_;refine bF rfl rfl ?_;refine vr 1 ?_;refine ab [2,3] ?_;refine ae ?_;refine vr 2 ?_;refine ar rfl rfl (ab2 hv dI (by omega)) ?_;rintro w2 G2 ⟨dP,bK⟩;obtain⟨u2,x2,rfl,eY,fm⟩:=id bK;obtain⟨oc,oe,rfl,og,oh⟩:=id eY;obtain⟨oj,om,rfl,oo,ot⟩:=id fm;have cP:=qb q q2;refine ar rfl rfl (Bz bK.raw (by omega)) ?_;rintro v3 H3 ⟨a7,rfl⟩;refine vr 1 ?_;refine ab [4] ?_;refine aq ⟨.inr rfl,_,.tmp rfl (.nil),?_⟩;exact⟨dP.trans a7,by rw[abV];rfl⟩
theorem L9{H:Heap}{v v2:Value}{q q2:Rat}{N:Nat}(hv:bN H v q N)(dI:bN H v2 q2 N)(hN:(N:Int)≤1099511627780):
 Fn Tryz.prog 22 #[v,v2] H (jZ H (q*q2)):=by
 obtain⟨bf,bu,bw,lW,lX,rfl,_⟩:=id hv
 obtain⟨cf,cu,cw,vQ,vR,rfl,_⟩:=id dI
 have gF:=hv.size
 have BB:=dI.size
 have eJ:=Nat.pos_of_ne_zero q.den_nz
 have jH:=Nat.pos_of_ne_zero q2.den_nz
 have yO:=yf q
 have yP:=yf q2
 obtain⟨f1,jG⟩:∃f1,f1=decide (q.num<0):=⟨_,rfl⟩
 obtain⟨f2,kj⟩:∃f2,f2=decide (q2.num<0):=⟨_,rfl⟩
 obtain⟨n1,dO⟩:∃n1,n1=q.num.natAbs:=⟨_,rfl⟩
 obtain⟨n2,iv⟩:∃n2,n2=q2.num.natAbs:=⟨_,rfl⟩
 obtain⟨d1,ur⟩:∃d1,d1=q.den:=⟨_,rfl⟩
 obtain⟨d2,ux⟩:∃d2,d2=q2.den:=⟨_,rfl⟩
 have hz:(ah n1).length≤N+2∧(ah d1).length≤N+2∧(ah n2).length≤N+2∧(ah d2).length≤N+2:=by
  unfold aJ at gF BB
  rw[dO,iv,ur,ux];omega
 rw[←jG,←dO,←ur]at yO
 rw[←kj,←iv,←ux]at yP
 rw[←ur]at eJ
 rw[←ux]at jH
 have p9:=nv n1 n2
 have lR:=nv d1 d2;refine aU (args:=[_,_]) Tryz.func22 rfl rfl Tryz.ntmps22 rfl rfl fun w0=> ?_;refine ag [0,1] rfl ?_;refine ae ?_;refine bF rfl rfl ?_;refine bF rfl rfl ?_;refine bh cM rfl ?_;refine ab [2,3,4] ?_;refine bL .bn [0,2,1,3,4,5] follows (by kernel_rfl) ?_;refine vr 2 ?_;refine aH rfl rfl (wF hv (by omega)) (fun _ _ h=>by first | exact h.le | exact h.1) ?_;rintro w1 G1 ⟨aI,yQ⟩
 unfold cJ at yQ
 rw[←jG,←dO,←ur]at yQ;obtain⟨tH,tI,rfl,gm,gH⟩:=id yQ;obtain⟨tJ,tK,rfl,tL,tM⟩:=id gm;obtain⟨tN,tO,rfl,tP,tQ⟩:=id gH;refine aH rfl rfl (wF (dI.le aI) (by omega)) (fun _ _ h=>by first | exact h.le | exact h.1) ?_;rintro w2 G2 ⟨aM,yR⟩
 unfold cJ at yR
 rw[←kj,←iv,←ux]at yR;obtain⟨AF,AG,rfl,kS,kq⟩:=id yR;obtain⟨yh,yi,rfl,AH,AI⟩:=id kS;obtain⟨yj,yk,rfl,AJ,AK⟩:=id kq;have gm:=gm.le aM;have gH:=gH.le aM;have hle:=aI.trans aM;obtain⟨ti,aj,ak⟩:=bM;refine aG (.inl ⟨rfl,rfl⟩) rfl rfl rfl aj ak rfl rfl rfl ?_;obtain⟨ti,aj,ak⟩:=bM;refine aG (.inl ⟨rfl,rfl⟩) rfl rfl rfl aj ak rfl rfl rfl ?_;refine ab [2,3,4] ?_;refine bL .bn [0,1,2,3,4,5,6,7,8,10,11,12,13,9,14,15,16] follows (by kernel_rfl) ?_;refine vr 4 ?_;refine zT Tryz.underlying4 rfl rfl ?_;refine vr 8 ?_;refine aH rfl rfl (yJ gm kS (by omega) (by omega)) (fun _ _ h=>by first | exact h.le | exact h.1) ?_;rintro v3 H3 ew;refine aH rfl rfl (yJ (gH.le ew.le) (kq.le ew.le) (by omega) (by omega)) (fun _ _ h=>by first | exact h.le | exact h.1) ?_;rintro v4 H4 fy;have mC:=ew.nat.le fy.le;have Sl:=fy.nat;obtain⟨Dq,Dr,rfl,Ds,Dt⟩:=id mC;obtain⟨agM,agN,rfl,agO,agP⟩:=id Sl;refine aH rfl rfl (wD (f:=f1 != f2) mC.sR Sl.sR oa oa (by omega) (by omega)) (fun _ _ h=>by first | exact h.le | exact h.1) ?_;rintro w5 G5 ⟨ab3,ja⟩;rw[cU,cU,←KL,yO,yP]at ja;obtain⟨u5,x5,rfl,hu5,yS⟩:=id ja;obtain⟨agQ,agR,rfl,agS,agT⟩:=id hu5
 obtain⟨abY,abZ,rfl,ab0,ab1⟩:=id yS;obtain⟨ti,aj,ak⟩:=bM;refine aG (.inl ⟨rfl,rfl⟩) rfl rfl rfl aj ak rfl rfl rfl ?_;refine ab [4] ?_;obtain⟨bX,aK,aL⟩:=bM;refine aq ⟨.inr rfl,_,.agg rfl Tryz.underlying31 aK aL (.nil),?_⟩;exact⟨((hle.trans ew.le).trans fy.le).trans ab3,ja⟩
end Go.ay
namespace Go.ay
open Go.Proofs Num Lp
theorem yU(L:TL)(a:Nat→Rat)(sg:Rat)(k:Nat):jO L a sg (k+1)=if 0≤L.mZ k then fE (fE (jO L a sg k) (L.pF k) (a k*sg)) (L.mZ k).toNat (-(a k*sg))else fE (jO L a sg k) (L.pF k) (a k*sg):=rfl
theorem ab4{H:Heap}{g:Nat}{ts:List Value}{pv mv:Value}{L:TL}{n N:Nat}{vs ss:List Value}{r:List Rat×Int×Rat}{slack:Int}{unit:Nat}{sg:Rat}
 (hg:H g=some ⟨ts,9,97,true⟩) (PY:ts[0]? = some (.int .i64 (L.w:Int))) (gX:ts[2]? = some pv) (uy:ts[3]? = some mv) (sK:aC sH 1 (rem H [g]) pv L.plus) (sL:aC yz 1 (rem H [g]) mv L.minus)
 (hr:eZ N (rem H [g]) vs r) (hs:bo (rem H [g]) ss sg) (fw:aJ sg≤1) (hn:r.1.length=n) (GD:L.plus.length=n) (nW:L.minus.length=n) (vk:∀j,j<n→L.pF j<L.w) (RJ:∀j,j<n→L.mZ j<L.w)
 (dS:r.2.1≠2→0≤slack∧slack<L.w) (pZ:unit<L.w) (hN:(N:Int)≤549755813888) (hw:(L.w:Int)≤1000000) (Ma:(n:Int)≤1000000):
 Fn Tryz.prog 124 #[.pointer (some ⟨g,0,none⟩),.agg vs.toArray,.agg ss.toArray,.int .i64 slack,.int .i64 (unit:Int)] H (fun v H'=>Heap.le H H'∧∃z xs,v = .slice (some ⟨z,0,none⟩) (L.w+1) (L.w+1)∧eD [g] H H' z xs ((L.w+1)*3) 90∧bI (bo (rem H' (z :: [g]))) 3 xs (aT (Ih L n (fn r.1) r.2.2 r.2.1 slack unit sg) (L.w+1))):=by
 obtain⟨ns,ds,bs,rfl⟩:=hs.cells
 obtain⟨Ac,cc,kk,f,A1,m1,c1,A2,m2,c2,rfl,rfl⟩:=hr.cells
 obtain⟨c',f',u',w',kM,jl,jm⟩:=id hr
 simp only[List.cons.injEq,Value.bool.injEq,and_true,true_and]at kM
 obtain⟨rfl,rfl,rfl,rfl⟩:=kM
 have bD:∀q,q∈[g]→H q≠none:=fun q hq=>by rw[List.mem_singleton.1 hq,hg];simp
 obtain⟨Ap,cp,xp,rfl,fU,yC⟩:=sK.one
 obtain⟨Am,cm,xm,rfl,nD,DY⟩:=sL.one
 rw[GD]at gX
 rw[nW]at uy
 have yH:∀{H':Heap}{z:Nat}{xs:List Value}{s e:Nat},eD [g] H H' z xs s e→H' g=some ⟨ts,9,97,true⟩:=fun jM=>(jM.same g (List.mem_singleton.2 rfl)).trans hg
 have ej:∀{H':Heap}{k:Nat}{v:Value},H' g=some ⟨ts,9,97,true⟩→ts[k]? = some v→cell H' ((⟨g,0,none⟩:Addr).add k)=some v:=fun h1 h2=>by simp[cell,kQ,h1,h2]
 have Sm:∀{H':Heap},H' g=some ⟨ts,9,97,true⟩→cell H' (⟨g,0,none⟩:Addr)=some (.int .i64 (L.w:Int)):=fun h1=>by have:=ej (k:=0) h1 PY;rwa [kQ]at this
 have hLp:∀j,j<n→L.plus[j]? = some (L.pF j):=fun j hj=>by
  have:j<L.plus.length:=by rw[GD];exact hj
  simp[TL.pF,List.getD,List.getElem?_eq_getElem this]
 have hLm:∀j,j<n→L.minus[j]? = some (L.mZ j):=fun j hj=>by
  have:j<L.minus.length:=by rw[nW];exact hj
  simp[TL.mZ,List.getD,List.getElem?_eq_getElem this]
 refine aU (args:=[_,_,_,_,_]) Tryz.func124 rfl rfl Tryz.ntmps124 rfl rfl fun w0=> ?_;refine ag [0,1,2,3,4] rfl ?_;refine ae ?_;refine bF rfl rfl ?_;refine bF rfl rfl ?_;refine vr 1 ?_;refine ab [0,3,4,6,7] ?_;refine ae ?_;refine vr 2 ?_;refine bJ af rfl rfl rfl ?_;refine aZ af rfl rfl rfl (Sm hg) ?_;refine aN rfl rfl ⟨by omega,by omega⟩ ?_;refine ar rfl rfl (Bu (gs:=[g]) (n:=L.w+1) bD (by omega)) ?_;rintro v1 H1 ⟨aI,z,oA,rfl,wy,Iq⟩;have ab5:=(Iq H).len;rw[cS]at ab5;refine vr 1 ?_;refine ab [0,3,4,6,7,11] ?_;refine al ?_;refine ae ?_;refine vr 2 ?_;refine ar rfl rfl (Fn.HZ (gs:=z :: [g]) (wy.ne bD) (sE (jl.le (a8 N) wy.le) (by omega) (by omega))) ?_;rintro v2 H2 ⟨jf,aM,eL⟩;have eh:=wy.kept jf;obtain⟨Av,cv,xv,rfl,j6,rN⟩:=eL.num;rw[hn];refine vr 2 ?_;refine ab [0,3,4,6,7,11,22,23,24] ?_;refine aD ?_;refine jT (fun(k:Nat)(xs:List Value)=>n-k) (fun(k:Nat)(xs:List Value)=>put (put (put (put (put (put (put (put (put (emp) 0 (.val (.pointer (some ⟨g,0,none⟩)))) 3 (.val (.int .i64 slack))) 4 (.val (.int .i64 (unit:Int)))) 6 (.box [.slice Ac n cc,.int .i64 r.2.1,.bool f,.slice A1 m1 c1,.slice A2 m2 c2])) 7 (.box [.int .i64 ns,.int .i64 ds,.pointer bs])) 11 (.val (.slice (some ⟨z,0,none⟩) (L.w+1) (L.w+1)))) 22 (.val (.slice Av n cv))) 23 (.val (.int .i64 (n:Int)))) 24 (.val (.int .i64 (k:Int)))) (fun(k:Nat)(xs:List Value) H'=>eD [g] H H' z xs ((L.w+1)*3) 90∧bI (bo (rem H' (z :: [g]))) 3 xs (aT (jO L (fn r.1) sg k) (L.w+1))∧Heap.le (rem H2 (z :: [g])) (rem H' (z :: [g]))∧Heap.le H H'∧k≤n) 0 oA (⟨eh,by rw[ks (f:=jO L (fn r.1) sg 0) (g:=fun _=>0) (fun j _=>rfl)];exact Iq _,.refl _,aI.trans aM,Nat.zero_le _⟩) au ?_
 rintro k xs H3 ⟨gx,pj,ib,agU,eG⟩;have cj:=pj.len;rw[cS]at cj;have o4:=yH gx;refine ae ?_;refine vr 1 ?_;refine ab [0,3,4,6,7,11,22,23,24,25] ?_;refine al ?_;refine az rfl (fun hb=> ?_) (fun hb=> ?_)
 ·
  have fK:k<n:=by simpa using hb
  obtain⟨q,dG⟩:∃q,r.1[k]? = some q:=⟨_,List.getElem?_eq_getElem (by omega)⟩;obtain⟨n1,d1,b1,dO,ee⟩:=rN k q dG;have eO:fn r.1 k=q:=gq dG
  have uz:aJ q≤N+2:=by
   obtain⟨A9,c9,x9,_,_,_,h9⟩:=jl;exact bN.size (h9.at_ k q dG)
  obtain⟨up,DZ,D3⟩:=yC k _ (hLp k fK);obtain⟨um,wu,D4⟩:=DY k _ (hLm k fK)
  cases D3
  cases D4
  have ab6:=vk k fK;have ab7:=RJ k fK;refine aw ?_;refine ag [0,3,4,6,7,11,22,23,24] rfl ?_;refine al ?_;refine aD ?_;refine ae ?_;refine vr 1 ?_;refine cI (vs:=[.int .i64 n1,.int .i64 d1,.pointer b1]) af rfl rfl rfl rfl ((j6.le ib).le (bG _ _)) rfl (by decide) ee (by omega) (by omega) fun _=> ?_;refine bh dT rfl ?_;refine vr 1 ?_;obtain⟨ti,aj,ak⟩:=bV;refine aG (.inl ⟨rfl,rfl⟩) rfl rfl rfl aj ak rfl rfl rfl ?_;refine ab [0,3,4,6,7,11,12,13,22,23,24] ?_;refine bL .gO [0,1,2,3,4,5,6,7,8,9,10,11,12] follows (by kernel_rfl) ?_;refine vr 3 ?_;refine bJ af rfl rfl rfl ?_;refine aZ af rfl rfl rfl (ej o4 gX) ?_;refine vr 1 ?_;refine a6 af rfl rfl rfl rfl rfl ((fU.le gx.le).le (bG _ _)) (by rw[Int.toNat_natCast];exact DZ) (by omega) (by omega) fun _=> ?_;refine vr 2 ?_;refine aH rfl rfl (Fn.iy (gx.ne bD) (tY (N:=N+2) (dO.le ib) (hs.le gx.le) uz (by omega) (by omega))) (fun _ _ h=>by first | exact h.le | exact h.1) ?_;rintro v4 H4 ⟨fg,bE,n4,d4,b4,rfl,bR⟩;have nE:=gx.kept fg;rw[←eO]at bR;obtain⟨ti,aj,ak⟩:=bV;refine eB (.inr rfl) af rfl rfl rfl (by omega) (by omega) (nE.aB) rfl (by show 0+(L.w+1)*3≤xs.length;omega) aj ak (fun _=>rfl) rfl rfl rfl fun _=> ?_
  refine ab [0,3,4,6,7,11,12,13,22,23,24] ?_;have nG:eD [g] H (ins H4 z {(⟨xs,(L.w+1)*3,90,true⟩:aQ)with xs:=aF xs (0+((L.pF k:Nat):Int).toNat*3) [.int .i64 n4,.int .i64 d4,.pointer b4]}) z (aF xs (L.pF k*3) [.int .i64 n4,.int .i64 d4,.pointer b4]) ((L.w+1)*3) 90:=nE.set (by rw[Int.toNat_natCast];exact mJ)
  have Ir:bI (bo (rem (ins H4 z {(⟨xs,(L.w+1)*3,90,true⟩:aQ)with xs:=aF xs (0+((L.pF k:Nat):Int).toNat*3) [.int .i64 n4,.int .i64 d4,.pointer b4]}) (z :: [g]))) 3 (aF xs (L.pF k*3) [.int .i64 n4,.int .i64 d4,.pointer b4]) (aT (fE (jO L (fn r.1) sg k) (L.pF k) (fn r.1 k*sg)) (L.w+1)):=by
   rw[cK _ (List.mem_cons_self ..)];exact qk (pj.mono fun vs a=>fD _ _ vs a fg.le) (by omega) bR
  have gZ:Heap.le (rem H2 (z :: [g])) (rem (ins H4 z {(⟨xs,(L.w+1)*3,90,true⟩:aQ)with xs:=aF xs (0+((L.pF k:Nat):Int).toNat*3) [.int .i64 n4,.int .i64 d4,.pointer b4]}) (z :: [g])):=by
   rw[cK _ (List.mem_cons_self ..)];exact ib.trans fg.le
  generalize ins H4 z {(⟨xs,(L.w+1)*3,90,true⟩:aQ)with xs:=aF xs (0+((L.pF k:Nat):Int).toNat*3) [.int .i64 n4,.int .i64 d4,.pointer b4]}=H5 at nG Ir gZ⊢
  have sQ:=yH nG;have Mb:=Ir.len;rw[cS]at Mb;refine ae ?_;refine vr 2 ?_;refine bJ af rfl rfl rfl ?_;refine aZ af rfl rfl rfl (ej sQ uy) ?_;refine vr 1 ?_;refine a6 af rfl rfl rfl rfl rfl ((nD.le nG.le).le (bG _ _)) (by rw[Int.toNat_natCast];exact wu) (by omega) (by omega) fun _=> ?_;refine vr 1 ?_;refine ab [0,3,4,6,7,11,12,13,22,23,24,48] ?_;refine az rfl (fun hb=> ?_) (fun hb=> ?_)
  ·
   have hb:0≤L.mZ k:=by simpa using hb
   refine eT .gO [0,1,2,3,4,5,6,7,8,9,10,11,12,13] follows (by kernel_rfl) ?_;refine vr 3 ?_;refine bJ af rfl rfl rfl ?_;refine aZ af rfl rfl rfl (ej sQ uy) ?_;refine vr 1 ?_;refine a6 af rfl rfl rfl rfl rfl ((nD.le nG.le).le (bG _ _)) (by rw[Int.toNat_natCast];exact wu) (by omega) (by omega) fun _=> ?_;refine vr 2 ?_;refine aH rfl rfl (Fn.iy (nG.ne bD) (tY (N:=N+2) (dO.le gZ) (hs.le nG.le) uz (by omega) (by omega))) (fun _ _ h=>by first | exact h.le | exact h.1) ?_;rintro v6 H6 ⟨sJ,fh,n6,d6,b6,rfl,kY⟩;have sS:=nG.kept sJ;have Kf:=nx q sg;refine aH rfl rfl (Fn.iy (sS.ne bD) (AO kY (by omega))) (fun _ _ h=>by first | exact h.le | exact h.1) ?_;rintro v7 H7 ⟨oD,gw,n7,d7,b7,rfl,kX⟩;have EB:=sS.kept oD;rw[←eO]at kX;obtain⟨ti,aj,ak⟩:=bV;refine eB (.inr rfl) af rfl rfl rfl (by omega) (by omega) (EB.aB) rfl (by show 0+(L.w+1)*3≤(aF xs (L.pF k*3) [.int .i64 n4,.int .i64 d4,.pointer b4]).length;omega) aj ak (fun _=>rfl) rfl rfl rfl fun _=> ?_;refine aA ?_;have EC:=EB.set (mJ (xs:=aF xs (L.pF k*3) [.int .i64 n4,.int .i64 d4,.pointer b4]) (vs:=[.int .i64 n7,.int .i64 d7,.pointer b7]) (k:=(L.mZ k).toNat) (sz:=3));refine ag [0,3,4,6,7,11,22,23,24] rfl ?_;refine aE rfl ?_;refine aN rfl rfl ⟨by omega,by omega⟩ ?_
   refine vr 1 ?_;refine aA ?_;exact⟨k+1,_,by omega,au,EC,by rw[cK _ (List.mem_cons_self ..),yU,if_pos hb];exact qk (Ir.mono fun vs a=>fD _ _ vs a (sJ.le.trans oD.le)) (by omega) kX,by rw[cK _ (List.mem_cons_self ..)];exact(gZ.trans sJ.le).trans oD.le,EC.hle,by omega⟩
  ·
   have hb:¬0≤L.mZ k:=by simpa using hb
   refine aw ?_;refine ag [0,3,4,6,7,11,22,23,24] rfl ?_;refine aE rfl ?_;refine aN rfl rfl ⟨by omega,by omega⟩ ?_;refine vr 1 ?_;refine aA ?_;exact⟨k+1,_,by omega,au,nG,by rw[yU,if_neg hb];exact Ir,gZ,nG.hle,by omega⟩
 ·
  have hb:n≤k:=by simpa using hb
  obtain rfl:n=k:=by omega
  refine bB ?_;refine ag [0,3,4,6,7,11] rfl ?_;refine mz (fun(ys:List Value)=>put (put (put (put (put (emp) 0 (.val (.pointer (some ⟨g,0,none⟩)))) 4 (.val (.int .i64 (unit:Int)))) 6 (.box [.slice Ac n cc,.int .i64 r.2.1,.bool f,.slice A1 m1 c1,.slice A2 m2 c2])) 7 (.box [.int .i64 ns,.int .i64 ds,.pointer bs])) 11 (.val (.slice (some ⟨z,0,none⟩) (L.w+1) (L.w+1)))) (fun(ys:List Value) H'=>eD [g] H H' z ys ((L.w+1)*3) 90∧bI (bo (rem H' (z :: [g]))) 3 ys (aT (q7 (jO L (fn r.1) sg n) r.2.1 slack sg) (L.w+1))) ?_ ?_
  ·
   refine ae ?_;refine vr 2 ?_;refine ab [0,3,4,6,7,11,64] ?_;refine aD ?_;refine ae ?_;refine vr 2 ?_;refine ab [0,3,4,6,7,11,64,65] ?_;refine az rfl (fun hb=> ?_) (fun hb=> ?_)
   ·
    have hb:r.2.1=1:=by simpa using hb
    have ab8:=dS (by omega);refine aE rfl ?_;refine vr 3 ?_;obtain⟨ti,aj,ak⟩:=bV;refine eB (.inl rfl) af rfl rfl rfl (by omega) (by omega) (gx.aB) rfl (by show 0+(L.w+1)*3≤xs.length;omega) aj ak (fun _=>rfl) rfl rfl rfl fun _=> ?_;refine aA ?_;exact⟨_,au,gx.set mJ,by rw[cK _ (List.mem_cons_self ..)];unfold q7;rw[if_pos hb];exact qk pj (by omega) (hs.le gx.le)⟩
   ·
    have hb:¬r.2.1=1:=by simpa using hb
    refine ae ?_;refine vr 2 ?_;refine ab [0,3,4,6,7,11,71] ?_;refine az rfl (fun hb=> ?_) (fun hb=> ?_)
    ·
     have iL:r.2.1=3:=by simpa using hb
     have hb:¬r.2.1=1:=by omega
     have ab8:=dS (by omega);refine aE rfl ?_;refine vr 3 ?_;refine ar rfl rfl (Fn.iy (gx.ne bD) (AO (hs.le gx.le) (by omega))) ?_;rintro v9 H9 ⟨kB,gJ,n9,d9,b9,rfl,nK⟩;have wH:=gx.kept kB;obtain⟨ti,aj,ak⟩:=bV;refine eB (.inl rfl) af rfl rfl rfl (by omega) (by omega) (wH.aB) rfl (by show 0+(L.w+1)*3≤xs.length;omega) aj ak (fun _=>rfl) rfl rfl rfl fun _=> ?_;refine aA ?_;exact⟨_,au,wH.set mJ,by rw[cK _ (List.mem_cons_self ..)];unfold q7;rw[if_neg hb,if_pos iL];exact qk (pj.mono fun vs a=>fD _ _ vs a kB.le) (by omega) nK⟩
    ·
     have iL:¬r.2.1=3:=by simpa using hb
     have hb:¬r.2.1=1:=by assumption
     refine aw ?_;exact⟨_,au,gx,by unfold q7;rw[if_neg hb,if_neg iL];exact pj⟩
  ·
   rintro ys H9 ⟨wH,Sn⟩;have Sp:=Sn.len;rw[cS]at Sp;refine ae ?_;refine vr 2 ?_;refine ar rfl rfl (oy) ?_;rintro v10 Et ⟨e10,rfl⟩;rw[e10];obtain⟨ti,aj,ak⟩:=bV;refine eB (.inl rfl) af rfl rfl rfl (by omega) (by omega) (wH.aB) rfl (by show 0+(L.w+1)*3≤ys.length;omega) aj ak (fun _=>rfl) rfl rfl rfl fun _=> ?_;refine ab [0,6,7,11] ?_;have wI:eD [g] H (ins H9 z {(⟨ys,(L.w+1)*3,90,true⟩:aQ)with xs:=aF ys (0+((unit:Int)).toNat*3) [.int .i64 1,.int .i64 1,.pointer none]}) z (aF ys (unit*3) [.int .i64 1,.int .i64 1,.pointer none]) ((L.w+1)*3) 90:=wH.set (by rw[Int.toNat_natCast];exact mJ)
   have Mc:bI (bo (rem (ins H9 z {(⟨ys,(L.w+1)*3,90,true⟩:aQ)with xs:=aF ys (0+((unit:Int)).toNat*3) [.int .i64 1,.int .i64 1,.pointer none]}) (z :: [g]))) 3 (aF ys (unit*3) [.int .i64 1,.int .i64 1,.pointer none]) (aT (fE (q7 (jO L (fn r.1) sg n) r.2.1 slack sg) unit 1) (L.w+1)):=by
    rw[cK _ (List.mem_cons_self ..)];exact qk Sn (by omega) (ow _ (n:=1) (by decide) (by decide))
   generalize ins H9 z {(⟨ys,(L.w+1)*3,90,true⟩:aQ)with xs:=aF ys (0+((unit:Int)).toNat*3) [.int .i64 1,.int .i64 1,.pointer none]}=oG at wI Mc⊢
   have Is:=yH wI;have ab9:=Mc.len;rw[cS]at ab9;have It:=jm.size;refine bL .gO [0,1,2,3,4,5,6,8,7,9,10,11] follows (by kernel_rfl) ?_;refine vr 3 ?_;refine bJ af rfl rfl rfl ?_;refine aZ af rfl rfl rfl (Sm Is) ?_;refine vr 3 ?_;refine aH rfl rfl (Fn.iy (wI.ne bD) (vV (jm.le wI.le) (by omega))) (fun _ _ h=>by first | exact h.le | exact h.1) ?_;rintro v12 ez ⟨yV,yW,n12,d12,b12,rfl,Md⟩;have yX:=wI.kept yV;refine aH rfl rfl (Fn.iy (yX.ne bD) (tY (N:=N+2) Md (hs.le yX.le) It (by omega) (by omega))) (fun _ _ h=>by first | exact h.le | exact h.1) ?_;rintro Sq px ⟨Iu,ra,Iv,d13,Iw,rfl,Ix⟩;have BC:=yX.kept Iu;obtain⟨ti,aj,ak⟩:=bV;refine eB (.inr rfl) af rfl rfl rfl (by omega) (by omega) (BC.aB) rfl (by show 0+(L.w+1)*3≤(aF ys (unit*3) [.int .i64 1,.int .i64 1,.pointer none]).length;omega) aj ak (fun _=>rfl) rfl rfl rfl fun _=> ?_;refine ab [11] ?_;have uA:eD [g] H (ins px z {(⟨aF ys (unit*3) [.int .i64 1,.int .i64 1,.pointer none],(L.w+1)*3,90,true⟩:aQ)with xs:=aF (aF ys (unit*3) [.int .i64 1,.int .i64 1,.pointer none]) (0+((L.w:Int)).toNat*3) [.int .i64 Iv,.int .i64 d13,.pointer Iw]}) z (aF (aF ys (unit*3) [.int .i64 1,.int .i64 1,.pointer none]) (L.w*3) [.int .i64 Iv,.int .i64 d13,.pointer Iw]) ((L.w+1)*3) 90:=BC.set (by rw[Int.toNat_natCast];exact mJ)
   refine ae ?_;refine vr 2 ?_;refine ab [10] ?_;refine aq ⟨.inr rfl,_,.tmp rfl (.nil),?_⟩;exact⟨uA.hle,z,_,rfl,uA,by rw[cK _ (List.mem_cons_self ..)];exact qk (Mc.mono fun vs a=>fD _ _ vs a (yV.le.trans Iu.le)) (by omega) Ix⟩
end Go.ay
