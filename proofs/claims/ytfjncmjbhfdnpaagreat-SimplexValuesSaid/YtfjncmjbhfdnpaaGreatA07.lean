/- Part 7 of the proof: Ref1, Ref2, Ref3, Ref4, Ref5, Ref6. -/
import Derived.Test.YtfjncmjbhfdnpaaGreatA06
set_option linter.unusedVariables false
namespace Go.ar
open Go.Proofs Num
theorem AB{H:Heap}{u:Value}{l:List Nat}(hu:jh H u l)(bU:Lt l)(hm:(l.length:Int)≤17592186044416):
 Fn Tryz.prog 151 #[u] H (mz H (val l)):=by
 obtain⟨A,c,rfl,hc,hr⟩:=hu;refine aZ (args:=[_]) Tryz.func151 rfl rfl Tryz.ntmps151 rfl rfl fun w0=> ?_;refine ag [0] rfl ?_;refine ab ?_;refine vr 1 ?_;refine aa [0] ?_;refine ab ?_;refine vr 3 ?_;refine aa [0,3] ?_;refine al ?_;refine aC ?_;refine fZ (fun(k:Nat)=>k) (fun(k:Nat)=>put (put (emp) 0 (.val (.slice A l.length c))) 3 (.val (.int .i64 (k:Int)))) (fun(k:Nat) H'=>H'=H∧k≤l.length∧val (l.take k)=val l) l.length (⟨rfl,Nat.le_refl _,by simp⟩) an ?_;rintro k H1 ⟨rfl,hk,hv⟩;refine al ?_
 rcases Nat.eq_zero_or_pos k with IV | IV
 ·
  skip
  refine ab ?_;refine vr 1 ?_;refine aA false rfl rfl (gA (by omega)) ?_;refine vr 8 ?_;refine aa [0,3,15] ?_;refine cU rfl ?_;refine aU ?_;refine ag [0,3] rfl ?_;refine ab ?_;refine vr 2 ?_;refine wZ ae rfl rfl (.inl ⟨rfl,rfl⟩) (.inr ⟨_,_,rfl,rfl⟩) (by omega) (by omega) ?_;rw[zw];refine eN Tryz.underlying29 dV rfl rfl (xo _) (hr.take k) (by simp[zv];omega) (fun u hu=>nQ _ u (List.mem_of_mem_take hu)) (by simp;omega) (by simp;omega) ?_;intro v1 H2 ha;rw[←Em,Nat.sub_zero]at ha;refine vr 1 ?_;refine aa [2] ?_;refine az ⟨.inr rfl,_,.tmp rfl (.nil),?_⟩;have e:=IS bU hk hv (.inl IV);have h1:=(App.oY (a:=[]) (b:=l.take k) ha rfl (by simp;omega)).lim;rw[List.nil_append,←e]at h1;exact⟨ha.le,h1⟩
 ·
  obtain⟨x,hx⟩:∃x,l[k-1]? = some x:=⟨_,List.getElem?_eq_getElem (by omega)⟩;refine ab ?_;refine vr 1 ?_;refine aA true rfl rfl (kS (by omega)) ?_;refine vr 3 ?_;refine cP rfl rfl ⟨by omega,by omega⟩ ?_;refine aM ae rfl rfl rfl rfl rfl (hr) (dd (by rw[show ((k:Int)-1).toNat=k-1 by omega];exact hx)) (by omega) (by omega) fun _=> ?_;refine vr 2 ?_;refine aa [0,3,15] ?_;refine aB rfl (fun hb=> ?_) (fun hb=> ?_)
  ·
   have hb:x=0:=by simpa using hb
   refine au ?_;refine ag [0,3] rfl ?_;refine aC ?_;refine av rfl ?_;refine vr 1 ?_;refine cP rfl rfl ⟨by omega,by omega⟩ ?_;refine vr 1 ?_;refine aq ?_;exact⟨k-1,by omega,an,rfl,by omega,by have:=kD hx;rw[show k-1+1=k by omega,hb,Nat.mul_zero,Nat.add_zero]at this;rw[←this];exact hv⟩
  ·
   have hb:x≠0:=by simpa using hb
   refine aU ?_;refine ag [0,3] rfl ?_;refine ab ?_;refine vr 2 ?_;refine wZ ae rfl rfl (.inl ⟨rfl,rfl⟩) (.inr ⟨_,_,rfl,rfl⟩) (by omega) (by omega) ?_;rw[zw];refine eN Tryz.underlying29 dV rfl rfl (xo _) (hr.take k) (by simp[zv];omega) (fun u hu=>nQ _ u (List.mem_of_mem_take hu)) (by simp;omega) (by simp;omega) ?_;intro v1 H2 ha;rw[←Em,Nat.sub_zero]at ha;refine vr 1 ?_;refine aa [2] ?_;refine az ⟨.inr rfl,_,.tmp rfl (.nil),?_⟩;have e:=IS bU hk hv (.inr ⟨x,hx,hb⟩);have h1:=(App.oY (a:=[]) (b:=l.take k) ha rfl (by simp;omega)).lim;rw[List.nil_append,←e]at h1;exact⟨ha.le,h1⟩
theorem VQ{H:Heap}{u:Value}{l:List Nat}(hu:jh H u l)(zy:∀x,x∈l→x<4294967296)(hm:(l.length:Int)≤8796093022208):
 Fn Tryz.prog 148 #[u] H (mz H (val l)):=by
 obtain⟨A,c,rfl,hc,hr⟩:=hu;refine aZ (args:=[_]) Tryz.func148 rfl rfl Tryz.ntmps148 rfl rfl fun w0=> ?_;refine ag [0] rfl ?_;refine ab ?_;refine vr 1 ?_;refine aa [0] ?_;refine ab ?_;refine vr 1 ?_;refine aa [0,3] ?_;refine ab ?_;refine vr 1 ?_;refine aa [0,3,4] ?_;refine al ?_;refine ab ?_;refine vr 1 ?_;refine aa [0,3,4,5] ?_;refine aC ?_;refine pW (fun(k:Nat)(v:Value)(o:List Nat)(cr:Nat)=>l.length-k) (fun(k:Nat)(v:Value)(o:List Nat)(cr:Nat)=>put (put (put (put (emp) 0 (.val (.slice A l.length c))) 3 (.val (v))) 4 (.val (.int .u64 (cr:Int)))) 5 (.val (.int .i64 (k:Int)))) (fun(k:Nat)(v:Value)(o:List Nat)(cr:Nat) H'=>Heap.le H H'∧kE H' v o∧k≤l.length∧o.length=k∧Lt o∧cr≤4∧val o+B^k*cr=val (l.take k)) 0 _ [] 0 (⟨.refl _,xo _,by omega,rfl,Lt.nil,by omega,by simp[val]⟩) an ?_;rintro k v o cr H1 ⟨hle,cn,hk,dK,dR,mW,hv⟩;obtain⟨Ao,co,rfl⟩:=bP.form cn;refine al ?_;refine ab ?_;refine vr 4 ?_;refine aa [0,3,4,5,9] ?_;refine aB rfl (fun hb=> ?_) (fun hb=> ?_)
 ·
  have hb:k<l.length:=by simpa using hb
  obtain⟨p,hp⟩:∃p,l[k]? = some p:=⟨_,List.getElem?_eq_getElem hb⟩;have acL:=zy p (List.mem_of_getElem? hp);refine au ?_;refine ag [0,3,4,5] rfl ?_;refine al ?_;refine aC ?_;refine ab ?_;refine vr 3 ?_;refine aM ae rfl rfl rfl rfl rfl (hr.le hle) (dd hp) (by omega) (by omega) fun _=> ?_;refine cW ae rfl rfl rfl ⟨by omega,by omega⟩ ?_;refine aD rfl rfl ⟨by omega,by omega⟩ ?_;refine vr 1 ?_;refine aa [0,3,4,5] ?_;refine ab ?_;refine vr 2 ?_;refine mj rfl rfl (by omega) (by omega) ?_;refine cW ae rfl rfl rfl ⟨by omega,by omega⟩ ?_;refine dI Tryz.underlying29 dV rfl rfl rfl rfl rfl rfl rfl ?_;intro gb bD;refine eN Tryz.underlying29 dV rfl rfl (cn.ins _ bD) (qU (y:=(cr+p)%1000000000) rfl) (rfl) (nQ _) (by omega) (by omega) ?_;intro v1 H2 ha;refine vr 1 ?_;refine aa [0,3,4,5] ?_;refine av rfl ?_;refine vr 1 ?_;refine lq rfl rfl (by omega) (by omega) ⟨by omega,by omega⟩ ?_;refine vr 1 ?_;refine aq ?_;refine ag [0,3,4,5] rfl ?_;refine av rfl ?_;refine vr 1 ?_;refine aD rfl rfl ⟨by omega,by omega⟩ ?_;refine vr 1 ?_;refine aq ?_;have cQ:=Cc (s:=cr+p) (u:=val (l.take (k+1))) dK hv rfl (kD hp);exact⟨k+1,v1,o ++ [(cr+p)%B],(cr+p)/B,by omega,an,(hle.trans (Heap.bI _ bD)).trans ha.le,ha.oY rfl rfl,by omega,by simp[dK],dR.snoc (Nat.mod_lt _ mr),by rw[bY];omega,cQ⟩
 ·
  have hb:l.length≤k:=by simpa using hb
  obtain rfl:k=l.length:=by omega
  rw[List.take_length]at hv;refine aU ?_;refine ag [3,4] rfl ?_;refine zt (fun(v:Value)(o:List Nat)=>put (emp) 3 (.val (v))) (fun(v:Value)(o:List Nat) H'=>Heap.le H H'∧kE H' v o∧o.length≤l.length+1∧Lt o∧val o=val l) ?_ ?_
  ·
   refine ab ?_;refine vr 2 ?_;refine aa [3,4,28] ?_;refine aB rfl (fun hb=> ?_) (fun hb=> ?_)
   ·
    have hb:0<cr:=by simpa using hb
    refine av rfl ?_;refine vr 2 ?_;refine cW ae rfl rfl rfl ⟨by omega,by omega⟩ ?_;refine dI Tryz.underlying29 dV rfl rfl rfl rfl rfl rfl rfl ?_;intro gb bD;refine eN Tryz.underlying29 dV rfl rfl (cn.ins _ bD) (qU (y:=cr) rfl) (rfl) (nQ _) (by omega) (by omega) ?_;intro v1 H2 ha;refine vr 1 ?_;refine aq ?_;exact⟨v1,o ++ [cr],(by repeat (first | exact iy _ | refine dh rfl ?_ | refine dh (iO (by omega)) ?_)),(hle.trans (Heap.bI _ bD)).trans ha.le,ha.oY rfl rfl,by simp;omega,dR.snoc (by rw[bY];omega),by rw[qR,dK];exact hv⟩
   ·
    have hb:cr=0:=by simpa using hb
    refine au ?_;exact⟨_,o,(by repeat (first | exact iy _ | refine dh rfl ?_ | refine dh (iO (by omega)) ?_)),hle,cn,by omega,dR,by rw[hb,Nat.mul_zero]at hv;omega⟩
  ·
   rintro v o H3 ⟨hle,cn,dK,dR,hv⟩;refine ab ?_;refine vr 1 ?_;refine aw rfl rfl (AB cn.lim dR (by omega)) ?_;intro v1 H4 hp;refine vr 1 ?_;refine aa [2] ?_;refine az ⟨.inr rfl,_,.tmp rfl (.nil),?_⟩;exact⟨hle.trans hp.le,by have:=hp.nat;rwa [hv]at this⟩
theorem Fw{H:Heap}{x:Nat}(hx:x<18446744073709551616):
 Fn Tryz.prog 76 #[.int .u64 (x:Int)] H (mz H x):=by
 refine aZ (args:=[_]) Tryz.func76 rfl rfl Tryz.ntmps76 rfl rfl fun w0=> ?_;refine ag [0] rfl ?_;refine ab ?_;refine vr 1 ?_;refine aa [0] ?_;refine ab ?_;refine vr 1 ?_;refine aa [0,3] ?_;refine al ?_;refine aC ?_;refine gh (fun(y:Nat)(v:Value)(o:List Nat)=>y) (fun(y:Nat)(v:Value)(o:List Nat)=>put (put (emp) 0 (.val (.int .u64 (y:Int)))) 3 (.val (v))) (fun(y:Nat)(v:Value)(o:List Nat) H'=>Heap.le H H'∧kE H' v o∧y≤x∧o++ah y=ah x) x (.slice none 0 0) [] (⟨.refl _,xo _,Nat.le_refl _,rfl⟩) an ?_;rintro y v o H1 ⟨hle,cn,vt,ho⟩;obtain⟨A,c,rfl⟩:=bP.form cn
 have dK:o.length≤(ah x).length:=by rw[←ho];simp
 have cB:(ah x).length≤3:=iQ.2 (by rw[bY];omega);refine al ?_;refine ab ?_;refine vr 2 ?_;refine aa [0,3,5] ?_;refine aB rfl (fun hb=> ?_) (fun hb=> ?_)
 ·
  have hb:0<y:=by simpa using hb
  refine au ?_;refine ag [0,3] rfl ?_;refine aC ?_;refine ab ?_;refine vr 2 ?_;refine mj rfl rfl (by omega) (by omega) ?_;refine cW ae rfl rfl rfl ⟨by omega,by omega⟩ ?_;refine dI Tryz.underlying29 dV rfl rfl rfl rfl rfl rfl rfl ?_;intro gb bD;refine eN Tryz.underlying29 dV rfl rfl (cn.ins _ bD) (qU (Tn y 1000000000)) (rfl) (nQ _) (by omega) (by omega) ?_;intro v1 H2 ha;refine vr 1 ?_;refine aa [0,3] ?_;refine av rfl ?_;refine vr 1 ?_;refine lq rfl rfl (by omega) (by omega) ⟨by omega,by omega⟩ ?_;refine vr 1 ?_;refine aq ?_
  have jc:0<y:=by omega
  rw[xe jc]at ho;exact⟨y/B,v1,o ++ [y%B],Nat.div_lt_self jc (by decide),an,(hle.trans (Heap.bI _ bD)).trans ha.le,ha.oY rfl rfl,Nat.le_trans (Nat.div_le_self _ _) vt,by simpa using ho⟩
 ·
  have hb:y=0:=by simpa using hb
  refine aU ?_;refine ag [3] rfl ?_;refine ab ?_;refine vr 2 ?_;refine aa [2] ?_;refine az ⟨.inr rfl,_,.tmp rfl (.nil),?_⟩;subst hb;exact⟨hle,Ce (cn.lim) (by rw[show o=ah x by simpa [pY]using ho];exact fC x) (by rw[show o=ah x by simpa [pY]using ho];exact cI x)⟩
theorem J0{H:Heap}{u v:Value}{x y:Nat}(hx:cX H u x)(hy:cX H v y)(hm:((ah x).length:Int)≤35184372088832):
 Fn Tryz.prog 80 #[u,v] H (qX H (.int .i64 (kn x y))):=by
 obtain⟨A,c,rfl,hc,hr⟩:=hx
 obtain⟨A',c',rfl,jd,dt⟩:=hy;refine aZ (args:=[_,_]) Tryz.func80 rfl rfl Tryz.ntmps80 rfl rfl fun w0=> ?_;refine ag [0,1] rfl ?_;refine ab ?_;refine vr 1 ?_;refine aa [0,1] ?_;refine al ?_;refine ab ?_;refine vr 5 ?_;refine aa [0,1,10] ?_;refine aB rfl (fun hb=> ?_) (fun hb=> ?_)
 ·
  have hl:(ah x).length≠(ah y).length:=by simp at hb;omega
  refine al ?_;refine ab ?_;refine vr 5 ?_;refine aa [15] ?_;refine aB rfl (fun hb=> ?_) (fun hb=> ?_)
  ·
   simp at hb
   refine ab ?_;refine vr 1 ?_;refine aa [4] ?_;refine az ⟨.inr rfl,_,.tmp rfl (.nil),?_⟩;exact⟨rfl,by rw[IM (IP hb)];rfl⟩
  ·
   simp at hb
   refine au ?_;refine ag [] rfl ?_;refine ab ?_;refine vr 1 ?_;refine aa [4] ?_;refine az ⟨.inr rfl,_,.tmp rfl (.nil),?_⟩;exact⟨rfl,by rw[IN (IP (by omega))];rfl⟩
 ·
  have hl:(ah x).length=(ah y).length:=by simp at hb;omega
  refine au ?_;refine ag [0,1] rfl ?_;refine al ?_;refine ab ?_;refine vr 2 ?_;refine cP rfl rfl ⟨by omega,by omega⟩ ?_;refine vr 1 ?_;refine aa [0,1,5] ?_;refine aC ?_;refine fZ (fun(k:Nat)=>k) (fun(k:Nat)=>put (put (put (emp) 0 (.val (.slice A (ah x).length c))) 1 (.val (.slice A' (ah y).length c'))) 5 (.val (.int .i64 ((k:Int)-1)))) (fun(k:Nat) H'=>H'=H∧k≤(ah x).length∧(ah x).drop k=(ah y).drop k) (ah x).length (⟨rfl,Nat.le_refl _,by rw[List.drop_of_length_le (Nat.le_refl _),List.drop_of_length_le (by omega)]⟩) an ?_;rintro k H1 ⟨rfl,hk,hd⟩;refine al ?_;refine ab ?_;refine vr 2 ?_;refine aa [0,1,5,20] ?_;refine aB rfl (fun hb=> ?_) (fun hb=> ?_)
  ·
   simp at hb
   obtain⟨p,hp⟩:∃p,(ah x)[k-1]? = some p:=⟨_,List.getElem?_eq_getElem (by omega)⟩;obtain⟨q,hq⟩:∃q,(ah y)[k-1]? = some q:=⟨_,List.getElem?_eq_getElem (by omega)⟩
   have hj:((k:Int)-1).toNat=k-1:=by omega
   have fj:(ah x).drop (k-1+1)=(ah y).drop (k-1+1):=by rw[show k-1+1=k by omega];exact hd
   refine au ?_;refine ag [0,1,5] rfl ?_;refine al ?_;refine aC ?_;refine al ?_;refine bJ .bF [0,1,2,3,4,5,6,7,8] follows (by kernel_rfl) ?_;refine vr 2 ?_;refine aM ae rfl rfl rfl rfl rfl (hr) (by rw[hj];exact dd hp) (by omega) (by omega) fun _=> ?_;refine vr 2 ?_;refine aM ae rfl rfl rfl rfl rfl (dt) (by rw[hj];exact dd hq) (by omega) (by omega) fun _=> ?_;refine vr 1 ?_;refine aa [0,1,5,31] ?_;refine aB rfl (fun hb=> ?_) (fun hb=> ?_)
   ·
    have mu:p<q:=by simpa using hb
    refine ab ?_;refine vr 1 ?_;refine aa [4] ?_;refine az ⟨.inr rfl,_,.tmp rfl (.nil),?_⟩;exact⟨rfl,by rw[IM (by have:=IL (fC x).lt hp hq fj mu;rwa [cI,cI]at this)];rfl⟩
   ·
    have mu:¬p<q:=by simpa using hb
    refine au ?_;refine ag [0,1,5] rfl ?_;refine bJ .bF [0,1,2,3,4,5,6,7,8] follows (by kernel_rfl) ?_;refine vr 2 ?_;refine aM ae rfl rfl rfl rfl rfl (hr) (by rw[hj];exact dd hp) (by omega) (by omega) fun _=> ?_;refine vr 2 ?_;refine aM ae rfl rfl rfl rfl rfl (dt) (by rw[hj];exact dd hq) (by omega) (by omega) fun _=> ?_;refine vr 1 ?_;refine aa [0,1,5,40] ?_;refine aB rfl (fun hb=> ?_) (fun hb=> ?_)
    ·
     have En:q<p:=by simpa using hb
     refine ab ?_;refine vr 1 ?_;refine aa [4] ?_;refine az ⟨.inr rfl,_,.tmp rfl (.nil),?_⟩;exact⟨rfl,by rw[IN (by have:=IL (fC y).lt hq hp fj.symm En;rwa [cI,cI]at this)];rfl⟩
    ·
     have En:¬q<p:=by simpa using hb
     refine au ?_;refine ag [0,1,5] rfl ?_;refine av rfl ?_;refine vr 1 ?_;refine cP rfl rfl ⟨by omega,by omega⟩ ?_;refine vr 1 ?_;refine aq ?_
     obtain rfl:p=q:=by omega
     exact⟨k-1,by omega,an,rfl,by omega,Tk (by omega) hp hq hd⟩
  ·
   simp at hb
   refine aU ?_;refine ag [] rfl ?_;refine ab ?_;refine vr 1 ?_;refine aa [4] ?_;refine az ⟨.inr rfl,_,.tmp rfl (.nil),?_⟩
   obtain rfl:k=0:=by omega
   have:x=y:=by rw[←cI x,←cI y];simpa using congrArg val hd
   exact⟨rfl,by rw[this,Tj];rfl⟩
end Go.ar
namespace Go.ar
open Go.Proofs Num
theorem getD_lt{l:List Nat}(h:Lt l)(k:Nat):(l[k]?).getD 0<1000000000:=by
 cases hq:l[k]? with
 | none=>simp
 | some z=>have:=h.get hq;rw[bY]at this;simpa using this
theorem getD_some{l:List Nat}{k e:Nat}(he:e=(l[k]?).getD 0)(h:k<l.length):l[k]? = some e:=by
 rw[List.getElem?_eq_getElem h]at he⊢;simp at he;rw[he]
theorem getD_none{l:List Nat}{k e:Nat}(he:e=(l[k]?).getD 0)(h:l.length≤k):e=0:=by
 rw[he,List.getElem?_eq_none h];rfl
theorem aeY{H:Heap}{u v:Value}{x y:Nat}(hx:cX H u x)(hy:cX H v y)(hm:((ah x).length:Int)≤8796093022208)(bB:((ah y).length:Int)≤8796093022208):
 Fn Tryz.prog 79 #[u,v] H (mz H (x+y)):=by
 obtain⟨A,c,rfl,hc,hr⟩:=hx
 obtain⟨A',c',rfl,jd,dt⟩:=hy
 have ji:=(fC x).lt
 have dU:=(fC y).lt
 obtain⟨M,hM⟩:∃M,M=max (ah x).length (ah y).length:=⟨_,rfl⟩;refine aZ (args:=[_,_]) Tryz.func79 rfl rfl Tryz.ntmps79 rfl rfl fun w0=> ?_;refine ag [0,1] rfl ?_;refine ab ?_;refine vr 1 ?_;refine aa [0,1] ?_;refine ab ?_;refine vr 1 ?_;refine aa [0,1,5] ?_;refine ab ?_;refine vr 1 ?_;refine aa [0,1,5,6] ?_;refine al ?_;refine ab ?_;refine vr 1 ?_;refine aa [0,1,5,6,7] ?_;refine aC ?_;refine pW (fun(k:Nat)(v:Value)(o:List Nat)(cr:Nat)=>M+1-k) (fun(k:Nat)(v:Value)(o:List Nat)(cr:Nat)=>put (put (put (put (put (emp) 0 (.val (.slice A (ah x).length c))) 1 (.val (.slice A' (ah y).length c'))) 5 (.val (v))) 6 (.val (.int .u32 (cr:Int)))) 7 (.val (.int .i64 (k:Int)))) (fun(k:Nat)(v:Value)(o:List Nat)(cr:Nat) H'=>Heap.le H H'∧kE H' v o∧k≤M+1∧o.length=k∧Lt o∧cr≤1∧val o+B^k*cr=val ((ah x).take k)+val ((ah y).take k)∧(k=M+1→cr=0∧B^M≤val o)) 0 _ [] 0 (⟨.refl _,xo _,by omega,rfl,Lt.nil,by omega,by simp[val],by omega⟩) an ?_;rintro k v o cr H1 ⟨hle,cn,hk,dK,dR,mW,hv,N7⟩;obtain⟨Ao,co,rfl⟩:=bP.form cn;refine B9 (put (put (put (put (put (emp) 0 (.val (.slice A (ah x).length c))) 1 (.val (.slice A' (ah y).length c'))) 5 (.val (.slice Ao o.length co))) 6 (.val (.int .u32 (cr:Int)))) 7 (.val (.int .i64 (k:Int)))) (fun H'=>H'=H1∧k≤M∧(k<(ah x).length∨k<(ah y).length∨0<cr)) ?_ ?_
 ·
  by_cases ni:k<(ah x).length
  ·
   skip
   refine ab ?_;refine vr 3 ?_;refine aA true rfl rfl (iz (by omega)) ?_;refine vr 10 ?_;refine aa [0,1,5,6,7,22] ?_;refine cD rfl ?_;refine au ?_;exact⟨an,rfl,by omega,.inl ni⟩
  ·
   by_cases qg:k<(ah y).length
   skip
   ·
    skip
    refine ab ?_;refine vr 3 ?_;refine aA false rfl rfl (fQ (by omega)) ?_;refine vr 4 ?_;refine aA true rfl rfl (iz (by omega)) ?_;refine vr 5 ?_;refine aa [0,1,5,6,7,22] ?_;refine cD rfl ?_;refine au ?_;exact⟨an,rfl,by omega,.inr (.inl qg)⟩
   ·
    skip
    refine ab ?_;refine vr 3 ?_;refine aA false rfl rfl (fQ (by omega)) ?_;refine vr 4 ?_;refine aA false rfl rfl (fQ (by omega)) ?_;refine vr 5 ?_;refine aa [0,1,5,6,7,22] ?_;refine aB rfl (fun hb=> ?_) (fun hb=> ?_)
    ·
     have hb:0<cr:=by simpa using hb
     refine au ?_;exact⟨an,rfl,by omega,.inr (.inr hb)⟩
    ·
     have hb:cr=0:=by simpa using hb
     refine aU ?_;refine ag [5] rfl ?_;refine ab ?_;refine vr 2 ?_;refine aa [4] ?_;refine az ⟨.inr rfl,_,.tmp rfl (.nil),?_⟩;subst hb;rw[Nat.mul_zero,Nat.add_zero,List.take_of_length_le (by omega),List.take_of_length_le (by omega),cI,cI]at hv;refine⟨hle,Ce cn.lim (last_pos dR dK ?_) hv⟩
     rcases Nat.eq_zero_or_pos k with e | e
     ·exact .inl e
     ·
      right
      by_cases h1:k=M+1
      ·
       have:=(N7 h1).2;rw[show k-1=M by omega];exact this
      ·
       have h2:k=M:=by omega
       rw[hv]
       rcases Nat.le_total (ah x).length (ah y).length with h3 | h3
       ·
        have h4:k=(ah y).length:=by omega
        have h5:=M0 (y:=y) (Nat.pos_of_ne_zero fun e0=>by rw[jM.2 e0]at h4;omega);rw[h4];omega
       ·
        have h4:k=(ah x).length:=by omega
        have h5:=M0 (y:=x) (Nat.pos_of_ne_zero fun e0=>by rw[jM.2 e0]at h4;omega);rw[h4];omega
 ·
  rintro H2 ⟨rfl,hkM,akl⟩;obtain⟨da,Fy⟩:∃e,e=((ah x)[k]?).getD 0:=⟨_,rfl⟩;obtain⟨db,r8⟩:∃e,e=((ah y)[k]?).getD 0:=⟨_,rfl⟩
  have akm:da<1000000000:=by rw[Fy];exact getD_lt ji k
  have akn:db<1000000000:=by rw[r8];exact getD_lt dU k
  refine al ?_;refine aC ?_;refine ab ?_;refine vr 2 ?_;refine aa [0,1,5,7,8] ?_;refine kC (fun(sv:Int)=>put (put (put (put (put (emp) 0 (.val (.slice A (ah x).length c))) 1 (.val (.slice A' (ah y).length c'))) 5 (.val (.slice Ao o.length co))) 7 (.val (.int .i64 (k:Int)))) 8 (.val (.int .u32 sv))) (fun(sv:Int) H'=>H'=H2∧sv=(cr:Int)+da) ?_ ?_
  ·
   refine ab ?_;refine vr 4 ?_;refine aa [0,1,5,7,8,29] ?_;refine aB rfl (fun hb=> ?_) (fun hb=> ?_)
   ·
    have hb:k<(ah x).length:=by simpa using hb
    have hz:=getD_some Fy hb;refine av rfl ?_;refine vr 3 ?_;refine aM ae rfl rfl rfl rfl rfl (hr.le hle) (dd hz) (by omega) (by omega) fun _=> ?_;refine aD rfl rfl ⟨by omega,by omega⟩ ?_;refine vr 1 ?_;refine aq ?_;exact⟨(cr:Int)+da,an,rfl,rfl⟩
   ·
    have hb:(ah x).length≤k:=by simpa using hb
    have hz:=getD_none Fy hb;refine au ?_;exact⟨(cr:Int),an,rfl,by omega⟩
  ·
   rintro sv H3 ⟨rfl,p3⟩;refine kC (fun(J1:Int)=>put (put (put (put (put (emp) 0 (.val (.slice A (ah x).length c))) 1 (.val (.slice A' (ah y).length c'))) 5 (.val (.slice Ao o.length co))) 7 (.val (.int .i64 (k:Int)))) 8 (.val (.int .u32 J1))) (fun(J1:Int) H'=>H'=H3∧J1=(cr:Int)+da+db) ?_ ?_
   ·
    refine ab ?_;refine vr 4 ?_;refine aa [0,1,5,7,8,39] ?_;refine aB rfl (fun hb=> ?_) (fun hb=> ?_)
    ·
     have hb:k<(ah y).length:=by simpa using hb
     have hz:=getD_some r8 hb;refine av rfl ?_;refine vr 3 ?_;refine aM ae rfl rfl rfl rfl rfl (dt.le hle) (dd hz) (by omega) (by omega) fun _=> ?_;refine aD rfl rfl ⟨by omega,by omega⟩ ?_;refine vr 1 ?_;refine aq ?_;exact⟨sv+db,an,rfl,by omega⟩
    ·
     have hb:(ah y).length≤k:=by simpa using hb
     have hz:=getD_none r8 hb;refine au ?_;exact⟨sv,an,rfl,by omega⟩
   ·
    rintro J1 H4 ⟨rfl,ako⟩;refine ab ?_;refine vr 1 ?_;refine lq rfl rfl (by omega) (by omega) ⟨by omega,by omega⟩ ?_;refine vr 1 ?_;refine aa [0,1,5,6,7,8] ?_;refine av rfl ?_;refine vr 2 ?_;refine mj rfl rfl (by omega) (by omega) ?_;refine dI Tryz.underlying29 dV rfl rfl rfl rfl rfl rfl rfl ?_;intro gb bD;refine eN Tryz.underlying29 dV rfl rfl (cn.ins _ bD) (qU (y:=(cr+da+db)%1000000000) (by omega)) (rfl) (nQ _) (by omega) (by omega) ?_;intro v1 H5 ha;refine vr 1 ?_;refine aq ?_;refine ag [0,1,5,6,7] rfl ?_;refine av rfl ?_;refine vr 1 ?_;refine aD rfl rfl ⟨by omega,by omega⟩ ?_;refine vr 1 ?_;refine aq ?_;have cQ:=Cc (s:=cr+da+db) (a:=cr) (b:=da+db) (u:=val ((ah x).take (k+1))+val ((ah y).take (k+1))) dK hv (by omega) (by rw[xg,xg,←Fy,←r8,Nat.mul_add];omega);refine⟨k+1,v1,o ++ [(cr+da+db)%B],(cr+da+db)/1000000000,by omega,an,(hle.trans (Heap.bI _ bD)).trans ha.le,ha.oY rfl rfl,by omega,by simp[dK],dR.snoc (Nat.mod_lt _ mr),by omega,cQ,fun e=> ?_⟩;have h1:=getD_none Fy (by omega);have h2:=getD_none r8 (by omega)
    obtain rfl:k=M:=by omega
    have h3:cr=1:=by omega
    subst h1 h2 h3;rw[qR,dK,show (1+0+0)%B=1 from rfl,show (1+0+0)/1000000000=0 from rfl];exact⟨rfl,by omega⟩
end Go.ar
namespace Go.ar
open Go.Proofs Num
theorem J2{H:Heap}{u v:Value}{x y:Nat}(hx:cX H u x)(hy:cX H v y)(vt:y≤x)(hm:((ah x).length:Int)≤8796093022208):
 Fn Tryz.prog 81 #[u,v] H (mz H (x-y)):=by
 obtain⟨A,c,rfl,hc,hr⟩:=hx
 obtain⟨A',c',rfl,jd,dt⟩:=hy
 have ji:=(fC x).lt
 have dU:=(fC y).lt
 have hl:=lR vt;refine aZ (args:=[_,_]) Tryz.func81 rfl rfl Tryz.ntmps81 rfl rfl fun w0=> ?_;refine ag [0,1] rfl ?_;refine ab ?_;refine vr 1 ?_;refine aa [0,1] ?_;refine ab ?_;refine vr 2 ?_;refine ig Tryz.underlying29 dV rfl rfl rfl (by omega) (by omega) (by omega) (by omega) ?_;intro g hg;rw[show (((ah x).length:Int)).toNat=(ah x).length from by omega,xz];have p4:=fun e=>hr.le (Heap.bI (g:=g) e hg);have Eo:=fun e=>dt.le (Heap.bI (g:=g) e hg);refine vr 1 ?_;refine aa [0,1,5] ?_;refine ab ?_;refine vr 1 ?_;refine aa [0,1,5,6] ?_;refine al ?_;refine ab ?_;refine vr 1 ?_;refine aa [0,1,5,6,7] ?_;refine aC ?_;refine gh (fun(k:Nat)(o:List Nat)(br:Nat)=>(ah x).length-k) (fun(k:Nat)(o:List Nat)(br:Nat)=>put (put (put (put (put (emp) 0 (.val (.slice A (ah x).length c))) 1 (.val (.slice A' (ah y).length c'))) 5 (.val (.slice (some ⟨g,0,none⟩) (ah x).length (ah x).length))) 6 (.val (.int .u32 (br:Int)))) 7 (.val (.int .i64 (k:Int)))) (fun(k:Nat)(o:List Nat)(br:Nat) H'=>H'=ins H g (dB o (ah x).length)∧k≤(ah x).length∧o.length=(ah x).length∧Lt o∧br≤1∧val ((ah x).take k)+B^k*br=val (o.take k)+val ((ah y).take k)) 0 _ 0 (⟨rfl,by omega,by simp,Lt.replicate _,by omega,by simp[val]⟩) an ?_
 rintro k o br H1 ⟨rfl,hk,dK,dR,tP,hv⟩;refine al ?_;refine ab ?_;refine vr 4 ?_;refine aa [0,1,5,6,7,15] ?_;refine aB rfl (fun hb=> ?_) (fun hb=> ?_)
 ·
  have hb:k<(ah x).length:=by simpa using hb
  obtain⟨d,hd⟩:∃d,(ah x)[k]? = some d:=⟨_,List.getElem?_eq_getElem hb⟩;have lr:=ji.get hd;rw[bY]at lr;obtain⟨e,he⟩:∃e,e=((ah y)[k]?).getD 0:=⟨_,rfl⟩
  have Cf:e<1000000000:=by rw[he];exact getD_lt dU k
  refine au ?_;refine ag [0,1,5,6,7] rfl ?_;refine al ?_;refine aC ?_;refine ab ?_;refine vr 2 ?_;refine aa [0,1,5,7,8] ?_;refine kC (fun(sv:Int)=>put (put (put (put (put (emp) 0 (.val (.slice A (ah x).length c))) 1 (.val (.slice A' (ah y).length c'))) 5 (.val (.slice (some ⟨g,0,none⟩) (ah x).length (ah x).length))) 7 (.val (.int .i64 (k:Int)))) 8 (.val (.int .u32 sv))) (fun(sv:Int) H'=>H'=ins H g (dB o (ah x).length)∧sv=(br:Int)+e) ?_ ?_
  ·
   refine ab ?_;refine vr 4 ?_;refine aa [0,1,5,7,8,22] ?_;refine aB rfl (fun hb=> ?_) (fun hb=> ?_)
   ·
    have hb:k<(ah y).length:=by simpa using hb
    have hz:=getD_some he hb;refine av rfl ?_;refine vr 3 ?_;refine aM ae rfl rfl rfl rfl rfl (Eo _) (dd hz) (by omega) (by omega) fun _=> ?_;refine aD rfl rfl ⟨by omega,by omega⟩ ?_;refine vr 1 ?_;refine aq ?_;exact⟨(br:Int)+e,an,rfl,rfl⟩
   ·
    have hb:(ah y).length≤k:=by simpa using hb
    have hz:=getD_none he hb;refine au ?_;exact⟨(br:Int),an,rfl,by omega⟩
  ·
   rintro sv H4 ⟨rfl,p3⟩;refine ab ?_;refine vr 2 ?_;refine aM ae rfl rfl rfl rfl rfl (p4 _) (dd hd) (by omega) (by omega) fun _=> ?_;refine vr 2 ?_;refine aa [0,1,5,7,8,34] ?_;refine aB rfl (fun hb=> ?_) (fun hb=> ?_)
   ·
    have hb:sv≤d:=by simpa using hb
    refine av rfl ?_;refine vr 4 ?_;refine aM ae rfl rfl rfl rfl rfl (p4 _) (dd hd) (by omega) (by omega) fun _=> ?_;refine vr 1 ?_;refine cP rfl rfl ⟨by omega,by omega⟩ ?_;obtain⟨ti,aj,ak⟩:=nP;refine cM (.inl rfl) ae rfl rfl rfl (by omega) (by omega) (bo _ _ _) rfl (by rw[nR];omega) aj ak (fun _=>rfl) rfl rfl rfl fun _=> ?_;refine vr 1 ?_;refine aq ?_;refine ag [0,1,5,6,7] rfl ?_;refine av rfl ?_;refine vr 1 ?_;refine aD rfl rfl ⟨by omega,by omega⟩ ?_;refine vr 1 ?_;refine aq ?_;have cQ:=El (o:=o.take k) (s:=d-br-e) (br':=0) (d:=d) (e:=e) (by simp;omega) hv (by omega) (kD hd) (show val ((ah y).take (k+1))=val ((ah y).take k)+B^k*e by rw[xg,←he]);rw[←xA (by omega)]at cQ;exact⟨k+1,o.set k (d-br-e),0,by omega,an,by rw[tO (y:=d-br-e) (by omega)];rfl,by omega,by simp[dK],dR.set (by rw[bY];omega),by omega,cQ⟩
   ·
    have hb:(d:Int)<sv:=by simpa using hb
    refine av rfl ?_;refine vr 4 ?_;refine aM ae rfl rfl rfl rfl rfl (p4 _) (dd hd) (by omega) (by omega) fun _=> ?_;refine aD rfl rfl ⟨by omega,by omega⟩ ?_;refine vr 1 ?_;refine cP rfl rfl ⟨by omega,by omega⟩ ?_;obtain⟨ti,aj,ak⟩:=nP;refine cM (.inl rfl) ae rfl rfl rfl (by omega) (by omega) (bo _ _ _) rfl (by rw[nR];omega) aj ak (fun _=>rfl) rfl rfl rfl fun _=> ?_;refine vr 1 ?_;refine aq ?_;refine ag [0,1,5,6,7] rfl ?_;refine av rfl ?_;refine vr 1 ?_;refine aD rfl rfl ⟨by omega,by omega⟩ ?_;refine vr 1 ?_;refine aq ?_;have cQ:=El (o:=o.take k) (s:=d+1000000000-br-e) (br':=1) (d:=d) (e:=e) (by simp;omega) hv (by rw[bY];omega) (kD hd) (show val ((ah y).take (k+1))=val ((ah y).take k)+B^k*e by rw[xg,←he]);rw[←xA (by omega)]at cQ;exact⟨k+1,o.set k (d+1000000000-br-e),1,by omega,an,by rw[tO (y:=d+1000000000-br-e) (by omega)];rfl,by omega,by simp[dK],dR.set (by rw[bY];omega),by omega,cQ⟩
 ·
  have hb:(ah x).length≤k:=by simpa using hb
  obtain rfl:k=(ah x).length:=by omega
  rw[List.take_length,List.take_of_length_le hl,cI,cI,List.take_of_length_le (by omega)]at hv;have zz:=tM dR;rw[dK]at zz
  have sC:br=0:=by
   rcases Nat.eq_zero_or_pos br with h|h
   ·exact h
   ·
    obtain rfl:br=1:=by omega
    omega
  refine aU ?_;refine ag [5] rfl ?_;refine ab ?_;refine vr 1 ?_;refine aw rfl rfl (AB (zx _ _ o _ _ dK.symm (Nat.le_refl _)) dR (by omega)) ?_;intro v1 H4 hp;refine vr 1 ?_;refine aa [4] ?_;refine az ⟨.inr rfl,_,.tmp rfl (.nil),?_⟩;exact⟨(Heap.bI _ hg).trans hp.le,by have:=hp.nat;rwa [show val o=x-y by rw[sC]at hv;omega]at this⟩
theorem vS{H:Heap}{u v:Value}{x y:Nat}(hx:cX H u x)(hy:cX H v y)(hm:((ah x).length:Int)<8796093022208)(bB:((ah y).length:Int)<8796093022208):
 Fn Tryz.prog 78 #[u,v] H (mz H (x*y)):=by
 obtain⟨A,c,rfl,hc,hr⟩:=hx
 obtain⟨A',c',rfl,jd,dt⟩:=hy
 have ji:=(fC x).lt
 have dU:=(fC y).lt;refine aZ (args:=[_,_]) Tryz.func78 rfl rfl Tryz.ntmps78 rfl rfl fun w0=> ?_;refine ag [0,1] rfl ?_;refine ab ?_;refine vr 1 ?_;refine aa [0,1] ?_;refine ab ?_;refine vr 4 ?_;refine aD rfl rfl ⟨by omega,by omega⟩ ?_;refine aD rfl rfl ⟨by omega,by omega⟩ ?_;refine ig Tryz.underlying29 dV rfl rfl rfl (by omega) (by omega) (by omega) (by omega) ?_;intro g hg;rw[show (((ah x).length:Int)+((ah y).length:Int)+1).toNat=((ah x).length+(ah y).length+1)from by omega,xz];have p4:=fun e=>hr.le (Heap.bI (g:=g) e hg);have Eo:=fun e=>dt.le (Heap.bI (g:=g) e hg);refine vr 1 ?_;refine aa [0,1,5] ?_;refine al ?_;refine ab ?_;refine vr 1 ?_;refine aa [0,1,5,6] ?_;refine aC ?_;refine gy (fun(i:Nat)(o:List Nat)=>(ah x).length-i) (fun(i:Nat)(o:List Nat)=>put (put (put (put (emp) 0 (.val (.slice A (ah x).length c))) 1 (.val (.slice A' (ah y).length c'))) 5 (.val (.slice (some ⟨g,0,none⟩) ((ah x).length+(ah y).length+1) ((ah x).length+(ah y).length+1)))) 6 (.val (.int .i64 (i:Int)))) (fun(i:Nat)(o:List Nat) H'=>H'=ins H g (dB o ((ah x).length+(ah y).length+1))∧i≤(ah x).length∧o.length=((ah x).length+(ah y).length+1)∧Lt o∧qW o (i+(ah y).length)∧val o=val ((ah x).take i)*y) 0 _ (⟨rfl,by omega,by simp,Lt.replicate _,Tv _ _,by simp[val,Tm]⟩) an ?_
 rintro i o H1 ⟨rfl,hi,dK,dR,hz,hv⟩;refine al ?_;refine ab ?_;refine vr 4 ?_;refine aa [0,1,5,6,19] ?_;refine aB rfl (fun hb=> ?_) (fun hb=> ?_)
 ·
  have hb:i<(ah x).length:=by simpa using hb
  obtain⟨d,hd⟩:∃d,(ah x)[i]? = some d:=⟨_,List.getElem?_eq_getElem hb⟩;have lr:=ji.get hd;rw[bY]at lr;refine au ?_;refine ag [0,1,5,6] rfl ?_;refine al ?_;refine aC ?_;refine ab ?_;refine vr 1 ?_;refine aa [0,1,5,6,7] ?_;refine ab ?_;refine vr 1 ?_;refine aa [0,1,5,6,7,8] ?_;refine aC ?_;refine gh (fun(j:Nat)(o2:List Nat)(cr:Nat)=>(ah y).length+1-j) (fun(j:Nat)(o2:List Nat)(cr:Nat)=>put (put (put (put (put (put (emp) 0 (.val (.slice A (ah x).length c))) 1 (.val (.slice A' (ah y).length c'))) 5 (.val (.slice (some ⟨g,0,none⟩) ((ah x).length+(ah y).length+1) ((ah x).length+(ah y).length+1)))) 6 (.val (.int .i64 (i:Int)))) 7 (.val (.int .u64 (cr:Int)))) 8 (.val (.int .i64 (j:Int)))) (fun(j:Nat)(o2:List Nat)(cr:Nat) H'=>H'=ins H g (dB o2 ((ah x).length+(ah y).length+1))∧j≤(ah y).length+1∧o2.length=((ah x).length+(ah y).length+1)∧Lt o2∧cr<1000000000∧qW o2 (i+(ah y).length+1)∧(j≤(ah y).length→qW o2 (i+(ah y).length))∧(j=(ah y).length+1→cr=0)∧val o2+B^(i+j)*cr=val ((ah x).take i)*y+B^i*d*val ((ah y).take j)) 0 o 0 (⟨rfl,by omega,dK,dR,by omega,fun t z ht=>hz t z (by omega),fun _=>hz,by omega,by simp[val,hv]⟩) an ?_;rintro j o2 cr H1 ⟨rfl,hj,Ep,zB,mW,j0,sV,tR,dN⟩
  refine B9 (put (put (put (put (put (put (emp) 0 (.val (.slice A (ah x).length c))) 1 (.val (.slice A' (ah y).length c'))) 5 (.val (.slice (some ⟨g,0,none⟩) ((ah x).length+(ah y).length+1) ((ah x).length+(ah y).length+1)))) 6 (.val (.int .i64 (i:Int)))) 7 (.val (.int .u64 (cr:Int)))) 8 (.val (.int .i64 (j:Int)))) (fun H'=>H'=ins H g (dB o2 ((ah x).length+(ah y).length+1))∧j≤(ah y).length) ?_ ?_
  ·
   by_cases hjb:j<(ah y).length
   ·
    skip
    refine ab ?_;refine vr 3 ?_;refine aA true rfl rfl (iz (by omega)) ?_;refine vr 4 ?_;refine aa [0,1,5,6,7,8,29] ?_;refine cD rfl ?_;refine au ?_;exact⟨an,rfl,by omega⟩
   ·
    skip
    refine ab ?_;refine vr 3 ?_;refine aA false rfl rfl (fQ (by omega)) ?_;refine vr 4 ?_;refine aa [0,1,5,6,7,8,29] ?_;refine aB rfl (fun hb=> ?_) (fun hb=> ?_)
    ·
     have hb:0<cr:=by simpa using hb
     refine au ?_;exact⟨an,rfl,by omega⟩
    ·
     have hb:cr=0:=by simpa using hb
     subst hb;rw[List.take_of_length_le (l:=ah y) (i:=j) (by omega),cI,Nat.mul_zero,Nat.add_zero]at dN;refine aU ?_;refine ag [0,1,5,6] rfl ?_;refine av rfl ?_;refine vr 1 ?_;refine aD rfl rfl ⟨by omega,by omega⟩ ?_;refine vr 1 ?_;refine aq ?_;refine⟨i+1,o2,by omega,an,rfl,by omega,Ep,zB,by rw[Nat.add_right_comm];exact j0,?_⟩;rw[kD hd,Nat.add_mul]
     omega
  ·
   rintro H4 ⟨rfl,Vt⟩;obtain⟨p,hp⟩:∃p,p=((ah y)[j]?).getD 0:=⟨_,rfl⟩
   have xt:p<1000000000:=by rw[hp];exact getD_lt dU j
   obtain⟨e,he⟩:∃e,o2[i+j]? = some e:=⟨_,List.getElem?_eq_getElem (by omega)⟩;have Cf:=zB.get he;rw[bY]at Cf
   have Er:((i:Int)+(j:Int)).toNat=i+j:=by omega
   have Ts:d*p≤999999999*999999999:=Nat.mul_le_mul (by omega) (by omega)
   have Tt:(d:Int)*(p:Int)=((d*p:Nat):Int):=by simp
   refine al ?_;refine aC ?_;refine ab ?_;refine vr 4 ?_;refine aD rfl rfl ⟨by omega,by omega⟩ ?_;refine aM ae rfl rfl rfl rfl rfl (IU _ _ _ _) (by rw[Er];exact dd he) (by omega) (by omega) fun _=> ?_;refine cW ae rfl rfl rfl ⟨by omega,by omega⟩ ?_;refine aD rfl rfl ⟨by omega,by omega⟩ ?_;refine vr 1 ?_;refine aa [0,1,5,6,7,8] ?_;refine kC (fun(sv:Int)=>put (put (put (put (put (put (emp) 0 (.val (.slice A (ah x).length c))) 1 (.val (.slice A' (ah y).length c'))) 5 (.val (.slice (some ⟨g,0,none⟩) ((ah x).length+(ah y).length+1) ((ah x).length+(ah y).length+1)))) 6 (.val (.int .i64 (i:Int)))) 7 (.val (.int .u64 sv))) 8 (.val (.int .i64 (j:Int)))) (fun(sv:Int) H'=>H'=ins H g (dB o2 ((ah x).length+(ah y).length+1))∧sv=((d*p+e+cr:Nat):Int)) ?_ ?_
   ·
    refine ab ?_;refine vr 4 ?_;refine aa [0,1,5,6,7,8,44] ?_;refine aB rfl (fun hb=> ?_) (fun hb=> ?_)
    ·
     have hb:j<(ah y).length:=by simpa using hb
     have dO:=getD_some hp hb;refine dZ .bF [0,1,2,3,4,5,6,7,8,9,10,11,12,13] follows (by kernel_rfl) ?_;refine vr 3 ?_;refine aM ae rfl rfl rfl rfl rfl (p4 _) (dd hd) (by omega) (by omega) fun _=> ?_;refine cW ae rfl rfl rfl ⟨by omega,by omega⟩ ?_;refine vr 2 ?_;refine aM ae rfl rfl rfl rfl rfl (Eo _) (dd dO) (by omega) (by omega) fun _=> ?_;refine cW ae rfl rfl rfl ⟨by omega,by omega⟩ ?_;refine gq rfl rfl ⟨by omega,by omega⟩ ?_;refine aD rfl rfl ⟨by omega,by omega⟩ ?_;refine vr 1 ?_;refine aq ?_;exact⟨((d*p+e+cr:Nat):Int),an,rfl,rfl⟩
    ·
     have hb:(ah y).length≤j:=by simpa using hb
     have dO:=getD_none hp hb
     have NK:d*p=0:=by rw[dO,Nat.mul_zero]
     refine au ?_;exact⟨((d*p+e+cr:Nat):Int),an,rfl,rfl⟩
   ·
    rintro sv H4 ⟨rfl,p3⟩;refine ab ?_;refine vr 3 ?_;refine aD rfl rfl ⟨by omega,by omega⟩ ?_;refine vr 1 ?_;refine mj rfl rfl (by omega) (by omega) ?_;refine cW ae rfl rfl rfl ⟨by omega,by omega⟩ ?_;obtain⟨ti,aj,ak⟩:=nP;refine cM (.inl rfl) ae rfl rfl rfl (by omega) (by omega) (bo _ _ _) rfl (by rw[nR];omega) aj ak (fun _=>rfl) rfl rfl rfl fun _=> ?_;refine aa [0,1,5,6,7,8] ?_;refine av rfl ?_;refine vr 1 ?_;refine lq rfl rfl (by omega) (by omega) ⟨by omega,by omega⟩ ?_;refine vr 1 ?_;refine aq ?_;refine ag [0,1,5,6,7,8] rfl ?_;refine av rfl ?_;refine vr 1 ?_;refine aD rfl rfl ⟨by omega,by omega⟩ ?_;refine vr 1 ?_;refine aq ?_;refine⟨j+1,o2.set (i+j) ((d*p+e+cr)%B),(d*p+e+cr)/1000000000,by omega,an,by rw[tO (y:=(d*p+e+cr)%B) (by rw[bY];omega),Er],by omega,by simp[Ep],zB.set (Nat.mod_lt _ mr),by omega,j0.set (by omega),fun h=>(sV (by omega)).set (by omega),fun h=> ?_,?_⟩
    ·
     have h1:=getD_none hp (by omega);have h2:=sV (by omega) (i+j) e (by omega) he;subst h1 h2
     omega
    ·
     rw[xg,←hp];exact Tx he dN rfl
 ·
  have hb:(ah x).length≤i:=by simpa using hb
  obtain rfl:i=(ah x).length:=by omega
  rw[List.take_length,cI]at hv;refine aU ?_;refine ag [5] rfl ?_;refine ab ?_;refine vr 1 ?_;refine aw rfl rfl (AB (zx _ _ o _ _ dK.symm (Nat.le_refl _)) dR (by omega)) ?_;intro v1 H4 hp;refine vr 1 ?_;refine aa [4] ?_;refine az ⟨.inr rfl,_,.tmp rfl (.nil),?_⟩;exact⟨(Heap.bI _ hg).trans hp.le,by have:=hp.nat;rwa [hv]at this⟩
theorem aeZ{H:Heap}{u:Value}{l:List Nat}{m:Nat}(hu:jh H u l)(hl:Lt l)(hm:m<1000000000)(vw:0<m)(hs:(l.length:Int)≤8796093022208):
 Fn Tryz.prog 192 #[u,.int .u64 (m:Int)] H (fun v H'=>Heap.le H H'∧∃q,v = .tuple #[q,.int .u64 ((val l%m:Nat):Int)]∧cX H' q (val l/m)):=by
 obtain⟨A,c,rfl,hc,hr⟩:=hu;refine aZ (args:=[_,_]) Tryz.func192 rfl rfl Tryz.ntmps192 rfl rfl fun w0=> ?_;refine ag [0,1] rfl ?_;refine ab ?_;refine vr 2 ?_;refine aa [0,1] ?_;refine ab ?_;refine vr 2 ?_;refine ig Tryz.underlying29 dV rfl rfl rfl (by omega) (by omega) (by omega) (by omega) ?_;intro g hg;rw[show ((l.length:Int)).toNat=l.length from by omega,xz];have p4:=fun e=>hr.le (Heap.bI (g:=g) e hg);refine vr 1 ?_;refine aa [0,1,6] ?_;refine ab ?_;refine vr 1 ?_;refine aa [0,1,6,7] ?_;refine al ?_;refine ab ?_;refine vr 2 ?_;refine cP rfl rfl ⟨by omega,by omega⟩ ?_;refine vr 1 ?_;refine aa [0,1,6,7,8] ?_;refine aC ?_;refine gh (fun(k:Nat)(o:List Nat)(rs:Nat)=>k) (fun(k:Nat)(o:List Nat)(rs:Nat)=>put (put (put (put (put (emp) 0 (.val (.slice A l.length c))) 1 (.val (.int .u64 (m:Int)))) 6 (.val (.slice (some ⟨g,0,none⟩) l.length l.length))) 7 (.val (.int .u64 (rs:Int)))) 8 (.val (.int .i64 ((k:Int)-1)))) (fun(k:Nat)(o:List Nat)(rs:Nat) H'=>H'=ins H g (dB o l.length)∧k≤l.length∧o.length=l.length∧Lt o∧rs<m∧val (o.drop k)*m+rs=val (l.drop k)) l.length _ 0 (⟨rfl,by omega,by simp,Lt.replicate _,by omega,by simp[val]⟩) an ?_;rintro k o rs H1 ⟨rfl,hk,dK,dR,qV,hv⟩;refine al ?_
 refine ab ?_;refine vr 2 ?_;refine aa [0,1,6,7,8,16] ?_;refine aB rfl (fun hb=> ?_) (fun hb=> ?_)
 ·
  have hb:1≤k:=by simp at hb;omega
  obtain⟨k,rfl⟩:∃j,k=j+1:=⟨k-1,by omega⟩;obtain⟨d,hd⟩:∃d,l[k]? = some d:=⟨_,List.getElem?_eq_getElem (by omega)⟩;have lr:=hl.get hd;rw[bY]at lr
  have hj:(((k+1:Nat):Int)-1).toNat=k:=by omega
  have jk:((rs:Int)*1000000000+(d:Int))/(m:Int)<1000000000:=Int.ediv_lt_of_lt_mul (by omega) (by omega);have bW:0≤((rs:Int)*1000000000+(d:Int))/(m:Int):=Int.ediv_nonneg (by omega) (by omega);refine au ?_;refine ag [0,1,6,7,8] rfl ?_;refine al ?_;refine aC ?_;refine ab ?_;refine vr 1 ?_;refine gq rfl rfl ⟨by omega,by omega⟩ ?_;refine vr 2 ?_;refine aM ae rfl rfl rfl rfl rfl (p4 _) (by rw[hj];exact dd hd) (by omega) (by omega) fun _=> ?_;refine cW ae rfl rfl rfl ⟨by omega,by omega⟩ ?_;refine aD rfl rfl ⟨by omega,by omega⟩ ?_;refine vr 1 ?_;refine aa [0,1,6,7,8] ?_;refine ab ?_;refine vr 4 ?_;refine lq rfl rfl (by omega) (by omega) ⟨by omega,by omega⟩ ?_;refine cW ae rfl rfl rfl ⟨by omega,by omega⟩ ?_;obtain⟨ti,aj,ak⟩:=nP;refine cM (.inl rfl) ae rfl rfl rfl (by omega) (by omega) (bo _ _ _) rfl (by rw[nR];omega) aj ak (fun _=>rfl) rfl rfl rfl fun _=> ?_;refine aa [0,1,6,7,8] ?_;refine av rfl ?_;refine vr 2 ?_;refine mj rfl rfl (by omega) (by omega) ?_;refine vr 1 ?_;refine aq ?_;refine ag [0,1,6,7,8] rfl ?_;refine av rfl ?_;refine vr 1 ?_;refine cP rfl rfl ⟨by omega,by omega⟩ ?_;refine vr 1 ?_;refine aq ?_
  have hq:(rs*1000000000+d)/m<1000000000:=by rw[Nat.div_lt_iff_lt_mul vw];omega
  refine⟨k,o.set k ((rs*1000000000+d)/m),(rs*1000000000+d)%m,by omega,an,by rw[tO (y:=(rs*1000000000+d)/m) (by simp)];rw[hj],by omega,by simp[dK],dR.set (by rw[bY];omega),Nat.mod_lt _ vw,?_⟩;rw[set_drop (by omega),Cd hd,jy,jy,←hv];have:=Nat.div_add_mod (rs*1000000000+d) m
  simp only[bY,Nat.add_mul,Nat.mul_add,Nat.mul_assoc]
  rw[Nat.mul_comm m]at this
  omega
 ·
  have hb:k=0:=by simp at hb;omega
  subst hb
  simp only[List.drop_zero]at hv
  refine aU ?_;refine ag [6,7] rfl ?_;refine ab ?_;refine vr 1 ?_;refine aw rfl rfl (AB (zx _ _ o _ _ dK.symm (Nat.le_refl _)) dR (by omega)) ?_;intro v1 H4 hp;refine vr 3 ?_;refine aa [4,5] ?_;refine az ⟨.inr rfl,_,.tmp rfl (.tmp rfl (.nil)),?_⟩;refine⟨(Heap.bI _ hg).trans hp.le,v1,?_,?_⟩
  ·rw[(IY hv qV).2];rfl
  ·rw[(IY hv qV).1];exact hp.nat
end Go.ar
namespace Go.ar
open Go.Proofs Num
def ae0(H:Heap)(v:Value)(H':Heap):Prop:=H'=H∧∃d:Nat,v = .int .u64 (d:Int)∧d≤999999999
theorem ae1{H:Heap}{u v:Value}{x y:Nat}(hx:cX H u x)(hy:cX H v y)(J3:2≤(ah y).length)(p5:(ah x).length≤(ah y).length+1)(hm:((ah y).length:Int)≤8796093022208):
 Fn Tryz.prog 193 #[u,v] H (ae0 H):=by
 obtain⟨A,c,rfl,hc,hr⟩:=hx
 obtain⟨A',c',rfl,jd,dt⟩:=hy
 have ji:=(fC x).lt
 have dU:=(fC y).lt
 obtain⟨k,hk⟩:∃k,(ah y).length=k+2:=⟨(ah y).length-2,by omega⟩
 have tR:(((ah y).length:Int)-1).toNat=k+1:=by omega
 have vx:(((ah y).length:Int)-2).toNat=k:=by omega
 obtain⟨b1,ij⟩:∃z,(ah y)[k+1]? = some z:=⟨_,List.getElem?_eq_getElem (by omega)⟩
 obtain⟨b0,iv⟩:∃z,(ah y)[k]? = some z:=⟨_,List.getElem?_eq_getElem (by omega)⟩
 have ae2:=dU.get ij
 have ae3:=dU.get iv
 have akp:b1≠0:=(fC y).last b1 (by rw[List.getLast?_eq_getElem?,hk];exact ij)
 rw[bY]at ae2 ae3;refine aZ (args:=[_,_]) Tryz.func193 rfl rfl Tryz.ntmps193 rfl rfl fun w0=> ?_;refine ag [0,1] rfl ?_;refine ab ?_;refine vr 1 ?_;refine aa [0,1] ?_;refine ab ?_;refine vr 3 ?_;refine aa [0,1,5] ?_;refine al ?_;refine ab ?_;refine vr 4 ?_;refine aa [0,1,5,15] ?_;refine aB rfl (fun hb=> ?_) (fun hb=> ?_)
 ·
  skip
  refine ab ?_;refine vr 1 ?_;refine aa [4] ?_;refine az ⟨.inr rfl,_,.tmp rfl (.nil),?_⟩;exact⟨rfl,0,rfl,by omega⟩
 ·
  have hb:(ah y).length≤(ah x).length:=by simpa using hb
  obtain⟨r1,sh⟩:∃z,(ah x)[k+1]? = some z:=⟨_,List.getElem?_eq_getElem (by omega)⟩;obtain⟨r0,sj⟩:∃z,(ah x)[k]? = some z:=⟨_,List.getElem?_eq_getElem (by omega)⟩;have J4:=ji.get sh;have ae4:=ji.get sj;rw[bY]at J4 ae4;have jk:((r1:Int)*1000000000+(r0:Int))/((b1:Int)*1000000000+(b0:Int))<1000000000:=Int.ediv_lt_of_lt_mul (by omega) (by omega);have bW:0≤((r1:Int)*1000000000+(r0:Int))/((b1:Int)*1000000000+(b0:Int)):=Int.ediv_nonneg (by omega) (by omega);obtain⟨q,hq⟩:∃q:Nat,(q:Int)=((r1:Int)*1000000000+(r0:Int))/((b1:Int)*1000000000+(b0:Int)):=⟨_,Int.toNat_of_nonneg bW⟩;rw[←hq]at jk;refine au ?_;refine ag [0,1,5] rfl ?_;refine bJ .bF [0,1,2,3,4,5,6,7,8,9,10,11,12,13,14] follows (by kernel_rfl) ?_;refine vr 2 ?_;refine cP rfl rfl ⟨by omega,by omega⟩ ?_;refine aM ae rfl rfl rfl rfl rfl (dt) (by rw[tR];exact dd ij) (by omega) (by omega) fun _=> ?_;refine cW ae rfl rfl rfl ⟨by omega,by omega⟩ ?_;refine gq rfl rfl ⟨by omega,by omega⟩ ?_;refine vr 2 ?_;refine cP rfl rfl ⟨by omega,by omega⟩ ?_;refine aM ae rfl rfl rfl rfl rfl (dt) (by rw[vx];exact dd iv) (by omega) (by omega) fun _=> ?_;refine cW ae rfl rfl rfl ⟨by omega,by omega⟩ ?_;refine aD rfl rfl ⟨by omega,by omega⟩ ?_;refine vr 1 ?_;refine aa [0,5,6] ?_
  refine bJ .bF [0,1,2,3,4,5,6,7,8,9,10,11,12,13,14] follows (by kernel_rfl) ?_;refine vr 2 ?_;refine cP rfl rfl ⟨by omega,by omega⟩ ?_;refine aM ae rfl rfl rfl rfl rfl (hr) (by rw[tR];exact dd sh) (by omega) (by omega) fun _=> ?_;refine cW ae rfl rfl rfl ⟨by omega,by omega⟩ ?_;refine gq rfl rfl ⟨by omega,by omega⟩ ?_;refine vr 2 ?_;refine cP rfl rfl ⟨by omega,by omega⟩ ?_;refine aM ae rfl rfl rfl rfl rfl (hr) (by rw[vx];exact dd sj) (by omega) (by omega) fun _=> ?_;refine cW ae rfl rfl rfl ⟨by omega,by omega⟩ ?_;refine aD rfl rfl ⟨by omega,by omega⟩ ?_;refine vr 1 ?_;refine aa [0,5,6,7] ?_;refine al ?_;refine ab ?_;refine vr 4 ?_;refine aa [0,5,6,7,47] ?_;refine aB rfl (fun hb=> ?_) (fun hb=> ?_)
  ·
   skip
   refine ab ?_;refine vr 2 ?_;refine lq rfl rfl (by omega) (by omega) ⟨by rw[←hq];omega,by rw[←hq];omega⟩ ?_;rw[←hq];refine vr 1 ?_;refine aa [4] ?_;refine az ⟨.inr rfl,_,.tmp rfl (.nil),?_⟩;exact⟨rfl,q,rfl,by omega⟩
  ·
   have hb:(ah x).length=(ah y).length+1:=by simp at hb;omega
   obtain⟨rn,hrn⟩:∃z,(ah x)[(ah y).length]? = some z:=⟨_,List.getElem?_eq_getElem (by omega)⟩;refine au ?_;refine ag [0,5,6,7] rfl ?_;refine ab ?_;refine vr 2 ?_;refine aM ae rfl rfl rfl rfl rfl (hr) (dd hrn) (by omega) (by omega) fun _=> ?_;refine MG Tryz.underlying121 Tryz.underlying214 rfl fun f1=> ?_;refine MH (.inr (.inl rfl)) rfl rfl fun f2=> ?_;refine vr 1 ?_;refine MG Tryz.underlying120 Tryz.underlying214 rfl fun f3=> ?_;refine MH (.inl rfl) rfl rfl fun f4=> ?_;refine vr 1 ?_;refine aa [6,8] ?_;refine ab ?_;refine vr 2 ?_;refine MG Tryz.underlying120 Tryz.underlying214 rfl fun f5=> ?_;refine MH (.inr (.inr rfl)) rfl rfl fun f6=> ?_;refine abr Tryz.underlying214 Tryz.underlying120 rfl fun f7 Ox=> ?_;refine vr 1 ?_;refine aa [9] ?_;refine ab ?_;refine vr 1 ?_;refine aa5 (v:=((f7:Int)+2)%18446744073709551616) rfl rfl rfl ?_;refine S8 rfl rfl ?_
   generalize hmn:(if (999999999:Int)<((f7:Int)+2)%18446744073709551616 then(999999999:Int)else((f7:Int)+2)%18446744073709551616)=mn
   have akq:0≤mn∧mn≤999999999:=by rw[←hmn];split <;> omega
   obtain⟨q2,rfl⟩:∃q2:Nat,mn=(q2:Int):=⟨mn.toNat,by omega⟩;refine vr 1 ?_;refine aa [4] ?_;refine az ⟨.inr rfl,_,.tmp rfl (.nil),?_⟩;exact⟨rfl,q2,rfl,by omega⟩
end Go.ar
namespace Go.ar
open Go.Proofs Num
theorem VR{x y:Nat}:(0<kn x y)↔y<x:=by
 unfold kn;split
 ·omega
 ·split <;> omega
theorem ae5{x y:Nat}:(kn x y<0)↔x<y:=by
 unfold kn;split
 ·omega
 ·split <;> omega
theorem Fz{x y:Nat}:(0≤kn x y)↔y≤x:=by
 unfold kn;split
 ·omega
 ·split <;> omega
theorem VS{l:List Nat}{k d:Nat}(h:l[k]? = some d):val (l.drop k)=d+B*val (l.drop (k+1)):=by
 obtain⟨hk,e⟩:=List.getElem?_eq_some_iff.1 h
 rw[List.drop_eq_getElem_cons hk,e,jy]
theorem ae6{a:Nat}{l:List Nat}(ha:a<B)(h:Lt l):Lt (a::l):=fun z hz=>by
 rcases List.mem_cons.1 hz with rfl | hz
 ·exact ha
 ·exact h z hz
theorem kE.ae7{H:Heap}{v:Value}{l:List Nat}(h:bP H v 121 1 l.length (U l)):jh H v l:=kE.lim h
theorem FA{H:Heap}{u v:Value}{x y:Nat}(hx:cX H u x)(hy:cX H v y)(jc:0<y)(hm:((ah x).length:Int)<4398046511104)(bB:((ah y).length:Int)<4398046511104):
 Fn Tryz.prog 150 #[u,v] H (TF H x y):=by
 have jN:=hx
 have sE:=hy
 obtain⟨A,c,rfl,hc,hr⟩:=hx
 obtain⟨A',c',rfl,jd,dt⟩:=hy
 have ji:=(fC x).lt
 have dU:=(fC y).lt
 have ada:(ah y).length≠0:=fun e=>MZ jc (List.eq_nil_of_length_eq_zero e);refine aZ (args:=[_,_]) Tryz.func150 rfl rfl Tryz.ntmps150 rfl rfl fun w0=> ?_;refine ag [0,1] rfl ?_;refine ab ?_;refine vr 2 ?_;refine aa [0,1] ?_;refine al ?_;refine ab ?_;refine vr 2 ?_;refine aw rfl rfl (J0 jN sE (by omega)) ?_;rintro v1 H1 ⟨e1,rfl⟩;rw[e1];refine vr 1 ?_;refine aa [0,1,15] ?_;refine aB rfl (fun hb=> ?_) (fun hb=> ?_)
 ·
  have p5:x<y:=ae5.1 (by simpa using hb);refine ab ?_;refine vr 1 ?_;refine aw rfl rfl (AB jN ji (by omega)) ?_;rintro v1 H1 hp;rw[cI]at hp;refine vr 2 ?_;refine aa [4,5] ?_;refine az ⟨.inr rfl,_,.tmp rfl (.tmp rfl (.nil)),?_⟩;exact⟨hp.le,_,_,rfl,by rw[Nat.div_eq_of_lt p5];exact vq _,by rw[Nat.mod_eq_of_lt p5];exact hp.nat⟩
 ·
  have p5:y≤x:=Fz.1 (by simpa using hb);refine au ?_;refine ag [0,1] rfl ?_;refine al ?_;refine ab ?_;refine vr 3 ?_;refine aa [0,1,20] ?_;refine aB rfl (fun hb=> ?_) (fun hb=> ?_)
  ·
   have hb:(ah y).length=1:=by simp at hb;omega
   have J3:(ah y)[0]? = some y:=by
    obtain⟨z,hz⟩:=List.length_eq_one_iff.1 hb;have:=cI y;rw[hz]at this⊢
    simp[val]at this
    simp[this]
   have Ex:=dU.get J3;rw[bY]at Ex;refine ab ?_;refine vr 2 ?_;refine aM ae rfl rfl rfl rfl rfl (dt) (dd J3) (by omega) (by omega) fun _=> ?_;refine cW ae rfl rfl rfl ⟨by omega,by omega⟩ ?_;refine aw rfl rfl (aeZ jN ji Ex jc (by omega)) ?_;rintro v1 H2 ⟨hle,q,rfl,hq⟩;refine vr 1 ?_;rw[cI]at hq⊢;refine vr 4 ?_;refine aa [6,7] ?_;refine ab ?_;refine vr 2 ?_;refine aw rfl rfl (Fw (x:=x%y) (by have:=Nat.mod_lt x jc;omega)) ?_;intro v1 H3 hp;refine vr 2 ?_;refine aa [4,5] ?_;refine az ⟨.inr rfl,_,.tmp rfl (.tmp rfl (.nil)),?_⟩;exact⟨hle.trans hp.le,_,_,rfl,hq.le hp.le,hp.nat⟩
  ·
   have hb:(ah y).length≠1:=by simp at hb;omega
   have gB:2≤(ah y).length:=by omega
   refine au ?_;refine ag [0,1] rfl ?_;refine ab ?_;refine vr 2 ?_;refine ig Tryz.underlying29 dV rfl rfl rfl (by omega) (by omega) (by omega) (by omega) ?_;intro g hg;rw[show (((ah x).length:Int)).toNat=(ah x).length from by omega,xz];refine vr 1 ?_;refine aa [0,1,8] ?_;refine ab ?_;refine vr 1 ?_;refine aa [0,1,8,9] ?_;refine al ?_;refine ab ?_;refine vr 2 ?_;refine cP rfl rfl ⟨by omega,by omega⟩ ?_;refine vr 1 ?_;refine aa [0,1,8,9,10] ?_;refine aC ?_;refine pW (fun(k:Nat)(rv:Value)(r:Nat)(l:List Nat)=>k) (fun(k:Nat)(rv:Value)(r:Nat)(l:List Nat)=>put (put (put (put (put (emp) 0 (.val (.slice A (ah x).length c))) 1 (.val (.slice A' (ah y).length c'))) 8 (.val (.slice (some ⟨g,0,none⟩) (ah x).length (ah x).length))) 9 (.val (rv))) 10 (.val (.int .i64 ((k:Int)-1)))) (fun(k:Nat)(rv:Value)(r:Nat)(l:List Nat) H'=>Heap.le H (rem H' [g])∧H' g=some (dB l (ah x).length)∧l.length=(ah x).length∧Lt l∧k≤(ah x).length∧r<y∧cX (rem H' [g]) rv r∧val ((ah x).drop k)=val (l.drop k)*y+r) (ah x).length (.slice none 0 0) 0 _ (⟨by rw[vE _ hg,vD];exact .refl _,bo _ _ _,by simp,Lt.replicate _,Nat.le_refl _,jc,vq _,by simp[val]⟩) an ?_;rintro k rv r l H1 ⟨hle,Et,tQ,bU,hk,Oy,mL,hv⟩
   obtain⟨Ar,cr,rfl,mW,oy⟩:=id mL;have akr:=lR (Nat.le_of_lt Oy);have ow:=hle.trans (bG H1 [g]);refine al ?_;refine ab ?_;refine vr 2 ?_;refine aa [0,1,8,9,10,40] ?_;refine aB rfl (fun hb=> ?_) (fun hb=> ?_)
   ·
    have hb:0<k:=by simp at hb;omega
    obtain⟨ai,J5⟩:∃d,(ah x)[k-1]? = some d:=⟨_,List.getElem?_eq_getElem (by omega)⟩;have VT:=ji.get J5;rw[bY]at VT
    have VU:(((k:Int)-1)).toNat=k-1:=by omega
    refine au ?_;refine ag [0,1,8,9,10] rfl ?_;refine al ?_;refine aC ?_;refine ab ?_;refine vr 2 ?_;refine aM ae rfl rfl rfl rfl rfl (hr.le ow) (by rw[VU];exact dd J5) (by omega) (by omega) fun _=> ?_;refine dI Tryz.underlying29 dV rfl rfl rfl rfl rfl rfl rfl ?_;intro gb bD
    have Oz:gb≠g:=fun e=>by subst e;rw[Et]at bD;cases bD
    refine vr 1 ?_;refine eN Tryz.underlying29 dV rfl rfl ((⟨rfl,.inr ⟨gb,1,rfl,bo _ _ _,Nat.le_refl _,by decide⟩⟩:bP _ _ 121 1 1 (U [ai]))) ((oy.le (bG _ _)).le (Heap.bI _ bD)) (by rw[zv,Nat.mul_one]) (nQ _) (by omega) (by omega) ?_;intro v1 H2 ha;have sh:=ha.rem (gs:=[g]) (fun q hq=>by simp only[List.mem_singleton]at hq;subst hq;rw[a7 _ _ (Ne.symm Oz),Et];simp) (fun q hq=>by simp only[List.mem_singleton]at hq;subst hq;intro e;cases e;exact Oz rfl)
    have dQ:H2 g=some (dB l (ah x).length):=by rw[sh.2 g (List.mem_singleton.2 rfl),a7 _ _ (Ne.symm Oz),Et]
    have gi:Heap.le (rem H1 [g]) (rem H2 [g]):=(Ct [g] (Heap.bI _ bD)).trans sh.1.le;have ae8:jh (rem H2 [g]) v1 (ai::ah r):=kE.ae7 (by have h0:=sh.1.own;rw[←IQ,Nat.add_comm]at h0;exact h0);refine aw rfl rfl (Fn.frame (gs:=[g]) (fun q hq=>by simp only[List.mem_singleton]at hq;subst hq;rw[dQ];simp) (AB ae8 (ae6 (by rw[bY];exact VT) (fC r).lt) (by rw[List.length_cons];omega))) ?_;rintro v2 H3 ⟨dW,Aq⟩;rw[jy,cI]at dW;obtain⟨r1,VV⟩:∃r1,r1=ai+B*r:=⟨_,rfl⟩;rw[←VV]at dW;have lv:=(Aq g (List.mem_singleton.2 rfl)).trans dQ;have gV:=gi.trans dW.le
    have J4:r1<B*y:=by rw[VV,bY];omega
    have ae9:(ah r1).length≤(ah y).length+1:=iQ.2 (by rw[Nat.pow_succ,Nat.mul_comm _ B];exact Nat.lt_trans J4 (Nat.mul_lt_mul_of_pos_left (Cb y) mr));have FB:=(sE.le hle).le gV;have iR:=dW.nat;obtain⟨A3,c3,rfl,sH,o6⟩:=id iR;refine vr 1 ?_;refine aa [0,1,8,9,10] ?_;refine ab ?_;refine vr 2 ?_;refine aw rfl rfl (Fn.frame (gs:=[g]) (fun q hq=>by simp only[List.mem_singleton]at hq;subst hq;rw[lv];simp) (ae1 iR FB gB ae9 (by omega))) ?_;rintro v3 H4 ⟨⟨ft,d0,rfl,qi⟩,VG⟩;have vT:=(VG g (List.mem_singleton.2 rfl)).trans lv
    have gK:Heap.le (rem H1 [g]) (rem H4 [g]):=by rw[ft];exact gV
    refine vr 1 ?_;refine aa [0,1,8,9,10,11] ?_;refine kC (fun(d:Nat)=>put (put (put (put (put (put (emp) 0 (.val (.slice A (ah x).length c))) 1 (.val (.slice A' (ah y).length c'))) 8 (.val (.slice (some ⟨g,0,none⟩) (ah x).length (ah x).length))) 9 (.val (.slice A3 (ah r1).length c3))) 10 (.val (.int .i64 ((k:Int)-1)))) 11 (.val (.int .u64 (d:Int)))) (fun(d:Nat) H'=>Heap.le (rem H3 [g]) (rem H' [g])∧H' g=some (dB l (ah x).length)∧d≤999999999∧y*d≤r1) ?_ ?_
    ·
     refine aC ?_;refine fZ (fun(d:Nat)=>d) (fun(d:Nat)=>put (put (put (put (put (put (emp) 0 (.val (.slice A (ah x).length c))) 1 (.val (.slice A' (ah y).length c'))) 8 (.val (.slice (some ⟨g,0,none⟩) (ah x).length (ah x).length))) 9 (.val (.slice A3 (ah r1).length c3))) 10 (.val (.int .i64 ((k:Int)-1)))) 11 (.val (.int .u64 (d:Int)))) (fun(d:Nat) H'=>Heap.le (rem H3 [g]) (rem H' [g])∧H' g=some (dB l (ah x).length)∧d≤999999999) d0 (⟨by rw[ft];exact .refl _,vT,qi⟩) an ?_;rintro d H5 ⟨gU,uz,hd5⟩;have AD:=FB.le gU;have J6:=iR.le gU;refine al ?_
     rcases Nat.eq_zero_or_pos d with qi | qi
     ·
      subst qi;refine ab ?_;refine vr 1 ?_;refine aA false rfl rfl (gA (by omega)) ?_;refine vr 9 ?_;refine aa [0,1,8,9,10,11,64] ?_;refine cU rfl ?_;refine aU ?_;exact⟨0,an,gU,uz,by omega,by omega⟩
     ·
      have Oc:(ah d).length≤3:=iQ.2 (by rw[bY];omega);refine ab ?_;refine vr 1 ?_;refine aA true rfl rfl (kS (by omega)) ?_;refine vr 3 ?_;refine aw rfl rfl (Fn.frame (gs:=[g]) (fun q hq=>by simp only[List.mem_singleton]at hq;subst hq;rw[uz];simp) (Fw (x:=d) (by omega))) ?_;rintro v4 Ha ⟨vU,OA⟩;have FC:=(OA g (List.mem_singleton.2 rfl)).trans uz;refine aw rfl rfl (Fn.frame (gs:=[g]) (fun q hq=>by simp only[List.mem_singleton]at hq;subst hq;rw[FC];simp) (vS (AD.le vU.le) vU.nat (by omega) (by omega))) ?_;rintro v5 Hb ⟨AE,OB⟩;have FD:=(OB g (List.mem_singleton.2 rfl)).trans FC;have tJ:=nU y d;refine vr 1 ?_;refine aw rfl rfl (Fn.frame (gs:=[g]) (fun q hq=>by simp only[List.mem_singleton]at hq;subst hq;rw[FD];simp) (J0 AE.nat ((J6.le vU.le).le AE.le) (by omega))) ?_;rintro v6 Hc ⟨⟨FE,rfl⟩,zE⟩;have AF:=(zE g (List.mem_singleton.2 rfl)).trans FD
      have VW:Heap.le (rem H3 [g]) (rem Hc [g]):=by rw[FE];exact(gU.trans vU.le).trans AE.le
      refine vr 2 ?_;refine aa [0,1,8,9,10,11,64] ?_;refine aB rfl (fun hb=> ?_) (fun hb=> ?_)
      ·
       have hb:r1<y*d:=VR.1 (by simpa using hb);refine au ?_;refine ag [0,1,8,9,10,11] rfl ?_;refine aC ?_;refine av rfl ?_;refine vr 1 ?_;refine cP rfl rfl ⟨by omega,by omega⟩ ?_;refine vr 1 ?_;refine aq ?_;exact⟨d-1,by omega,an,VW,AF,by omega⟩
      ·
       have hb:y*d≤r1:=by
        have:¬0<kn (y*d) r1:=by simpa using hb
        rw[VR]at this;omega
       refine aU ?_;exact⟨d,an,VW,AF,hd5,hb⟩
    ·
     rintro d H6 ⟨mI,nh,hd6,hyd⟩;have hy6:=FB.le mI;have yh:=iR.le mI;have Oc:(ah d).length≤3:=iQ.2 (by rw[bY];omega);refine ab ?_;refine vr 3 ?_;refine aw rfl rfl (Fn.frame (gs:=[g]) (fun q hq=>by simp only[List.mem_singleton]at hq;subst hq;rw[nh];simp) (Fw (x:=d) (by omega))) ?_;rintro v4 Ha ⟨vU,OA⟩;have FC:=(OA g (List.mem_singleton.2 rfl)).trans nh;refine aw rfl rfl (Fn.frame (gs:=[g]) (fun q hq=>by simp only[List.mem_singleton]at hq;subst hq;rw[FC];simp) (vS (hy6.le vU.le) vU.nat (by omega) (by omega))) ?_;rintro v5 Hb ⟨AE,OB⟩;have FD:=(OB g (List.mem_singleton.2 rfl)).trans FC;refine aw rfl rfl (Fn.frame (gs:=[g]) (fun q hq=>by simp only[List.mem_singleton]at hq;subst hq;rw[FD];simp) (J2 ((yh.le vU.le).le AE.le) AE.nat hyd (by omega))) ?_;rintro v6 Hc ⟨VX,zE⟩;have lC:=(zE g (List.mem_singleton.2 rfl)).trans FD;have afa:=((mI.trans vU.le).trans AE.le).trans VX.le;refine vr 1 ?_;refine aa [0,1,8,9,10,11] ?_;refine al ?_;refine aC ?_;refine gh (fun(d2:Nat)(FF:Value)(r2:Nat)=>r2) (fun(d2:Nat)(FF:Value)(r2:Nat)=>put (put (put (put (put (put (emp) 0 (.val (.slice A (ah x).length c))) 1 (.val (.slice A' (ah y).length c'))) 8 (.val (.slice (some ⟨g,0,none⟩) (ah x).length (ah x).length))) 9 (.val (FF))) 10 (.val (.int .i64 ((k:Int)-1)))) 11 (.val (.int .u64 (d2:Int)))) (fun(d2:Nat)(FF:Value)(r2:Nat) H'=>Heap.le (rem H3 [g]) (rem H' [g])∧H' g=some (dB l (ah x).length)∧cX (rem H' [g]) FF r2∧r1=y*d2+r2) d _ (r1-y*d) (⟨afa,lC,VX.nat,by omega⟩) an ?_
     rintro d2 FF r2 yi ⟨qj,oB,vV,he8⟩;obtain⟨A8,c8,rfl,OC,hr8⟩:=id vV;have hy8:=FB.le qj;have kL:=lR (show r2≤r1 by omega)
     have aks:d2<1000000000:=by
      false_or_by_contra
      have:y*1000000000≤y*d2:=Nat.mul_le_mul_left _ (by omega);rw[bY,Nat.mul_comm]at J4;omega
     refine al ?_;refine ab ?_;refine vr 2 ?_;refine aw rfl rfl (Fn.frame (gs:=[g]) (fun q hq=>by simp only[List.mem_singleton]at hq;subst hq;rw[oB];simp) (J0 vV hy8 (by omega))) ?_;rintro v7 H9 ⟨⟨VY,rfl⟩,nr⟩;have qk:=(nr g (List.mem_singleton.2 rfl)).trans oB
     have Fi:Heap.le (rem H3 [g]) (rem H9 [g]):=by rw[VY];exact qj
     have FG:cX (rem H9 [g]) (.slice A8 (ah r2).length c8) r2:=by rw[VY];exact vV
     refine vr 1 ?_;refine aa [0,1,8,9,10,11,76] ?_;refine aB rfl (fun hb=> ?_) (fun hb=> ?_)
     ·
      have hb:y≤r2:=Fz.1 (by simpa using hb);refine au ?_;refine ag [0,1,8,9,10,11] rfl ?_;refine aC ?_;refine ab ?_;refine vr 2 ?_;refine aw rfl rfl (Fn.frame (gs:=[g]) (fun q hq=>by simp only[List.mem_singleton]at hq;subst hq;rw[qk];simp) (J2 FG (FB.le Fi) hb (by omega))) ?_;rintro v8 pj ⟨VZ,AG⟩;have sW:=(AG g (List.mem_singleton.2 rfl)).trans qk;refine vr 1 ?_;refine aa [0,1,8,9,10,11] ?_;refine av rfl ?_;refine vr 1 ?_;refine aD rfl rfl ⟨by omega,by omega⟩ ?_;refine vr 1 ?_;refine aq ?_;exact⟨d2+1,_,r2-y,by omega,an,Fi.trans VZ.le,sW,VZ.nat,by rw[Nat.mul_add,Nat.mul_one];omega⟩
     ·
      have afb:r2<y:=by
       have:¬0≤kn r2 y:=by simp at hb;omega
       rw[Fz]at this;omega
      obtain⟨r3,rfl⟩:∃r3,r3=r2:=⟨_,rfl⟩;obtain⟨d3,rfl⟩:∃d3,d3=d2:=⟨_,rfl⟩;refine aU ?_;refine ag [0,1,8,9,10,11] rfl ?_;refine av rfl ?_;refine vr 3 ?_;refine cW ae rfl rfl rfl ⟨by omega,by omega⟩ ?_;obtain⟨ti,aj,ak⟩:=nP;refine cM (.inl rfl) ae rfl rfl rfl (by omega) (by omega) (qk) rfl (by rw[nR];omega) aj ak (fun _=>rfl) rfl rfl rfl fun _=> ?_;refine aq ?_
      have V0:ins H9 g {dB l (ah x).length with xs:=aI (dB l (ah x).length).xs (0+((k:Int)-1).toNat*1) [.int .u32 (d3:Int)]}=ins H9 g (dB (l.set (k-1) d3) (ah x).length):=by
       rw[VU];simp only[dB,aI,Nat.zero_add,Nat.mul_one,MO]
      have OD:Heap.le H (rem (ins H9 g {dB l (ah x).length with xs:=aI (dB l (ah x).length).xs (0+((k:Int)-1).toNat*1) [.int .u32 (d3:Int)]}) [g]):=by
       rw[cC _ (List.mem_singleton.2 rfl)];exact(hle.trans gV).trans Fi
      have FH:=FG;refine ag [0,1,8,9,10] rfl ?_;refine av rfl ?_;refine vr 1 ?_;refine cP rfl rfl ⟨by omega,by omega⟩ ?_;refine vr 1 ?_;refine aq ?_;refine⟨k-1,_,r3,l.set (k-1) d3,by omega,an,OD,by rw[V0,bo],by simp[tQ],bU.set (by rw[bY];omega),by omega,afb,by rw[V0,cC _ (List.mem_singleton.2 rfl)];exact FH,?_⟩;rw[VS J5,show k-1+1=k by omega,VS (l:=l.set (k-1) d3) (List.getElem?_set_self (by omega)),show k-1+1=k by omega,List.drop_set_of_lt (by omega),hv]
      have h1:B*(val (List.drop k l)*y+r)=B*val (List.drop k l)*y+B*r:=by rw[Nat.mul_add,Nat.mul_assoc]
      have h2:(d3+B*val (List.drop k l))*y=y*d3+B*val (List.drop k l)*y:=by rw[Nat.add_mul,Nat.mul_comm d3]
      rw[h1,h2];omega
   ·
    have hb:k=0:=by simp at hb;omega
    subst hb;rw[List.drop_zero,List.drop_zero,cI]at hv
    have J7:val l=x/y:=by rw[hv,Nat.add_comm,Nat.add_mul_div_right _ _ jc,Nat.div_eq_of_lt Oy,Nat.zero_add]
    have kt:r=x%y:=by rw[hv,Nat.add_comm,Nat.add_mul_mod_self_right,Nat.mod_eq_of_lt Oy]
    refine aU ?_;refine ag [8,9] rfl ?_;refine ab ?_;refine vr 1 ?_;refine aw rfl rfl (AB (l:=l) ⟨some ⟨g,0,none⟩,_,by rw[tQ],by omega,fun i v hv=>⟨_,rfl,by simp[cell,iA,Et,dB,hv]⟩⟩ bU (by omega)) ?_;rintro v9 im FI;refine vr 3 ?_;refine aa [4,5] ?_;refine az ⟨.inr rfl,_,.tmp rfl (.tmp rfl (.nil)),?_⟩;exact⟨(hle.trans (bG _ _)).trans FI.le,_,_,rfl,by rw[←J7];exact FI.nat,by rw[←kt];exact(mL.le (bG _ _)).le FI.le⟩
end Go.ar
namespace Go.ar
open Go.Proofs Num
theorem V1(f:Bool)(n d:Nat)(k:Nat)(hn:(ah n).length≤k)(hd:(ah d).length≤k):aG (cJ f n d)≤k+1∧(0<d→aG (cJ f n d)≤k):=by
 rcases Nat.eq_zero_or_pos d with e | e
 ·subst e
  rw[I8]
  refine⟨?_,fun h=>by omega⟩
  have:aG 0=1:=by
   unfold aG
   show max (ah 0).length (ah 1).length=1
   rw[pY,tY];rfl
  omega
 ·have h1:=lR (Nat.div_le_self n (Nat.gcd n d))
  have h2:=lR (Nat.div_le_self d (Nat.gcd n d))
  have:aG (cJ f n d)≤k:=by
   unfold aG
   rw[Cl e,zF e];omega
  exact⟨by omega,fun _=>this⟩
theorem cH.size{H:Heap}{v:Value}{q:Rat}{N:Nat}(h:cH H v q N):aG q≤N+2:=by
 obtain⟨f,u,w,l1,l2,_,_,_,h1,h2,h3,h4,rfl⟩:=h
 have k1:=Cm h1
 have k2:=Cm h2
 exact(V1 f _ _ (N+1) (by omega) (by omega)).1
theorem V2{H:Heap}{w:Value}(hw:cX H w 1):bK H (.agg #[.bool false,.slice none 0 0,w]) 0:=⟨_,_,rfl,vq H,hw⟩
theorem afc{H:Heap}{f:Bool}{u w:Value}{n d:Nat}(hn:0<n)(hd:0<d)(hu:cX H u (n/Nat.gcd n d))(hw:cX H w (d/Nat.gcd n d)):bK H (.agg #[.bool f,u,w]) (cJ f n d):=by
 refine⟨u,w,?_,by rw[Cl hd];exact hu,by rw[zF hd];exact hw⟩
 rw[EB hd hn]
theorem afd(p q:Rat):fo (p-q)=vz p q:=by
 unfold fo vz
 by_cases h:p<q
 ·rw[if_pos (by grind),if_pos h]
 ·rw[if_neg (by grind),if_neg h]
  by_cases e:p=q
  ·rw[if_pos (by grind),if_pos e]
  ·rw[if_neg (by grind),if_neg e]
theorem cX.ru{H:Heap}{v:Value}{x:Nat}(h:cX H v x):jh H v (ah x):=h
theorem afe{H:Heap}{u v:Value}{x y:Nat}(hx:cX H u x)(hy:cX H v y)(hm:((ah x).length:Int)<4398046511104)(bB:((ah y).length:Int)<4398046511104):
 Fn Tryz.prog 149 #[u,v] H (mz H (Nat.gcd x y)):=by
 refine aZ (args:=[_,_]) Tryz.func149 rfl rfl Tryz.ntmps149 rfl rfl fun w0=> ?_;refine ag [0,1] rfl ?_;refine ab ?_;refine vr 1 ?_;refine aa [0,1] ?_;refine al ?_;refine aC ?_;refine pW (fun(u:Value)(a:Nat)(v:Value)(b:Nat)=>b) (fun(u:Value)(a:Nat)(v:Value)(b:Nat)=>put (put (emp) 0 (.val (u))) 1 (.val (v))) (fun(u:Value)(a:Nat)(v:Value)(b:Nat) H'=>Heap.le H H'∧cX H' u a∧cX H' v b∧((ah a).length:Int)<4398046511104∧((ah b).length:Int)<4398046511104∧Nat.gcd a b=Nat.gcd x y) _ x _ y (⟨.refl _,hx,hy,hm,bB,rfl⟩) an ?_;rintro u a v b H1 ⟨hle,ha,cY,ji,dU,hg⟩;obtain⟨Aha,cha,rfl,akt,aku⟩:=id ha;obtain⟨akv,akw,rfl,akx,aky⟩:=id cY;refine al ?_;refine ab ?_;refine vr 3 ?_;refine aa [0,1,9] ?_;refine aB rfl (fun hb=> ?_) (fun hb=> ?_)
 ·
  have hb:0<b:=Nat.pos_of_ne_zero fun e=>by rw[jM.2 e]at hb;simp at hb
  refine au ?_;refine ag [0,1] rfl ?_;refine aC ?_;refine ab ?_;refine vr 2 ?_;refine aw rfl rfl (FA ha cY hb ji dU) ?_;rintro v2 H2 ⟨bh,q2,r2,rfl,bN,lx⟩;refine vr 5 ?_;refine aa [1,6] ?_;refine av rfl ?_;refine vr 4 ?_;refine aq ?_;have x6:=lR (Nat.le_of_lt (Nat.mod_lt a hb));exact⟨_,b,_,a%b,Nat.mod_lt a hb,an,hle.trans bh,cY.le bh,lx,dU,by omega,by rw[←hg,Nat.gcd_comm b,←Nat.gcd_rec,Nat.gcd_comm]⟩
 ·
  have hb:b=0:=jM.1 (by have:=of_decide_eq_false hb;omega);subst hb;rw[Nat.gcd_zero_right]at hg;subst hg;refine aU ?_;refine ag [0] rfl ?_;refine ab ?_;refine vr 2 ?_;refine aa [4] ?_;refine az ⟨.inr rfl,_,.tmp rfl (.nil),?_⟩;exact⟨hle,ha⟩
theorem vW{H:Heap}{u v:Value}{f:Bool}{l1 l2:List Nat}(hu:jh H u l1)(hv:jh H v l2)(h1:∀x,x∈l1→x<4294967296)(h2:∀x,x∈l2→x<4294967296)(hm:(l1.length:Int)≤4398046511000)(bB:(l2.length:Int)≤4398046511000):
 Fn Tryz.prog 75 #[.bool f,u,v] H (kp H (cJ f (val l1) (val l2))):=by
 have k1:=Cm h1
 have k2:=Cm h2
 obtain⟨Ahu,chu,rfl,akz,akA⟩:=id hu
 obtain⟨Ahv,chv,rfl,akB,akC⟩:=id hv;refine aZ (args:=[_,_,_]) Tryz.func75 rfl rfl Tryz.ntmps75 rfl rfl fun w0=> ?_;refine ag [0,1,2] rfl ?_;refine ab ?_;refine bt cR rfl ?_;refine aa [0,1,2,6] ?_;refine ab ?_;refine vr 1 ?_;refine aw rfl rfl (VQ hu h1 (by omega)) ?_;rintro v1 H1 fq;refine vr 1 ?_;refine aw rfl rfl (VQ (hv.le fq.le) h2 (by omega)) ?_;rintro v2 H2 dO;obtain⟨n,hn⟩:∃n,n=val l1:=⟨_,rfl⟩;obtain⟨d,hd⟩:∃d,d=val l2:=⟨_,rfl⟩;rw[←hn]at fq k1;rw[←hd]at dO k2;have cK:=fq.nat.le dO.le;have gB:=dO.nat;obtain⟨Nk,Nl,rfl,Nn,Np⟩:=id cK;obtain⟨TW,TX,rfl,TY,TZ⟩:=id gB;have hle:=fq.le.trans dO.le;rw[←hn,←hd];refine vr 2 ?_;refine aa [0,1,2,6] ?_;refine al ?_
 rcases Nat.eq_zero_or_pos n with jm | jm
 ·
  have AH:=jM.2 jm;refine ab ?_;refine vr 2 ?_;refine aA true rfl rfl (fk (by omega)) ?_;refine vr 5 ?_;refine aa [0,1,2,6,19] ?_;refine cD rfl ?_;refine ab ?_;refine dI Tryz.underlying29 dV rfl rfl rfl rfl rfl rfl rfl ?_;intro gb bD;refine dS ae rfl cR rfl rfl ?_;obtain⟨ti,aj,ak⟩:=a8;refine aJ (.inl ⟨rfl,rfl⟩) rfl rfl rfl aj ak rfl rfl rfl ?_;refine aa [6] ?_;obtain⟨bX,aK,aL⟩:=a8;refine az ⟨.inr rfl,_,.agg rfl Tryz.underlying31 aK aL (.nil),?_⟩;exact⟨hle.trans (Heap.bI _ bD),by rw[jm,vy];exact V2 xC⟩
 ·
  have AH:(ah n).length≠0:=fun e=>by rw[jM]at e;omega
  rcases Nat.eq_zero_or_pos d with qi | qi
  ·
   have AH:=jM.2 qi;refine ab ?_;refine vr 2 ?_;refine aA false rfl rfl (gI (by omega)) ?_;refine vr 3 ?_;refine aA true rfl rfl (fk (by omega)) ?_;refine vr 1 ?_;refine aa [0,1,2,6,19] ?_;refine cD rfl ?_;refine ab ?_;refine dI Tryz.underlying29 dV rfl rfl rfl rfl rfl rfl rfl ?_;intro gb bD;refine dS ae rfl cR rfl rfl ?_;obtain⟨ti,aj,ak⟩:=a8;refine aJ (.inl ⟨rfl,rfl⟩) rfl rfl rfl aj ak rfl rfl rfl ?_;refine aa [6] ?_;obtain⟨bX,aK,aL⟩:=a8;refine az ⟨.inr rfl,_,.agg rfl Tryz.underlying31 aK aL (.nil),?_⟩;exact⟨hle.trans (Heap.bI _ bD),by rw[qi,I8];exact V2 xC⟩
  ·
   have bH:(ah d).length≠0:=fun e=>by rw[jM]at e;omega
   refine ab ?_;refine vr 2 ?_;refine aA false rfl rfl (gI (by omega)) ?_;refine vr 3 ?_;refine aA false rfl rfl (gI (by omega)) ?_;refine vr 1 ?_;refine aa [0,1,2,6,19] ?_;refine cU rfl ?_;refine au ?_;refine ag [0,1,2,6] rfl ?_;refine ab ?_;refine vr 2 ?_;refine aw rfl rfl (afe cK gB (by omega) (by omega)) ?_;rintro v3 H3 dW;obtain⟨g,hg⟩:∃g,g=Nat.gcd n d:=⟨_,rfl⟩;rw[←hg]at dW
   have nK:0<g:=by rw[hg];exact Nat.gcd_pos_of_pos_left _ jm
   have iR:=dW.nat;have vN:=lR (show g≤n by rw[hg];exact Nat.gcd_le_left _ jm);have OE:=cK.le dW.le;have OF:=gB.le dW.le;obtain⟨Nq,Nr,rfl,Ns,Jc⟩:=id iR;refine vr 1 ?_;refine aa [0,1,2,6,7] ?_;refine zt (fun(u3:Value)(v3:Value)=>put (put (put (put (emp) 0 (.val (.bool f))) 1 (.val (u3))) 2 (.val (v3))) 6 (.box [.bool false,.slice none 0 0,.slice none 0 0])) (fun(u3:Value)(v3:Value) H'=>Heap.le H H'∧cX H' u3 (n/g)∧cX H' v3 (d/g)) ?_ ?_
   ·
    by_cases hl:(ah g).length=1
    ·
     obtain⟨z,hz⟩:=List.length_eq_one_iff.1 hl
     have nu:z=g:=by have:=cI g;rw[hz]at this;simpa [val]using this
     have Fv:(ah g)[0]? = some g:=by rw[hz,nu];rfl
     refine ab ?_;refine vr 2 ?_;refine aA false rfl rfl (mV (by omega)) ?_;refine vr 2 ?_;refine aM ae rfl rfl rfl rfl rfl (Jc) (dd Fv) (by omega) (by omega) fun _=> ?_;refine vr 2 ?_;refine aa [0,1,2,6,7,33] ?_;refine aB rfl (fun hb=> ?_) (fun hb=> ?_)
     ·
      skip
      refine ab ?_;refine vr 2 ?_;refine aw rfl rfl (FA OE iR nK (by omega) (by omega)) ?_;rintro v4 H4 ⟨cE,q4,r4,rfl,ct,TS⟩;refine vr 4 ?_;refine aa [0,1,2,6,7] ?_;refine av rfl ?_;refine vr 2 ?_;refine aw rfl rfl (FA (OF.le cE) (iR.le cE) nK (by omega) (by omega)) ?_;rintro v5 H5 ⟨dy,q5,r5,rfl,eU,tW⟩;refine vr 4 ?_;refine aq ?_;exact⟨_,_,an,(hle.trans dW.le).trans (cE.trans dy),ct.le dy,eU⟩
     ·
      have kG:g=1:=by simp at hb;omega
      refine au ?_;exact⟨_,_,an,hle.trans dW.le,by rw[kG,Nat.div_one];exact OE,by rw[kG,Nat.div_one];exact OF⟩
    ·
     skip
     refine ab ?_;refine vr 2 ?_;refine aA true rfl rfl (my (by omega)) ?_;refine vr 6 ?_;refine aa [0,1,2,6,7,33] ?_;refine cD rfl ?_;refine ab ?_;refine vr 2 ?_;refine aw rfl rfl (FA OE iR nK (by omega) (by omega)) ?_;rintro v4 H4 ⟨cE,q4,r4,rfl,ct,TS⟩;refine vr 4 ?_;refine aa [0,1,2,6,7] ?_;refine av rfl ?_;refine vr 2 ?_;refine aw rfl rfl (FA (OF.le cE) (iR.le cE) nK (by omega) (by omega)) ?_;rintro v5 H5 ⟨dy,q5,r5,rfl,eU,tW⟩;refine vr 4 ?_;refine aq ?_;exact⟨_,_,an,(hle.trans dW.le).trans (cE.trans dy),ct.le dy,eU⟩
   ·
    rintro u3 v3 H6 ⟨mI,V3,yj⟩;obtain⟨akD,akE,rfl,akF,akG⟩:=id V3;obtain⟨akH,akI,rfl,akJ,akK⟩:=id yj;refine ab ?_;refine vr 3 ?_;refine dS ae rfl cR rfl rfl ?_;obtain⟨ti,aj,ak⟩:=a8;refine aJ (.inl ⟨rfl,rfl⟩) rfl rfl rfl aj ak rfl rfl rfl ?_;refine aa [6] ?_;obtain⟨bX,aK,aL⟩:=a8;refine az ⟨.inr rfl,_,.agg rfl Tryz.underlying31 aK aL (.nil),?_⟩;exact⟨mI,afc jm qi (by rw[←hg];exact V3) (by rw[←hg];exact yj)⟩
theorem ry{H:Heap}{n:Int}(h1: -9223372036854775808≤n)(h2:n≤9223372036854775807):
 Fn Tryz.prog 20 #[.int .i64 n] H (kp H (n:Rat)):=by
 have dC:(ah n.natAbs).length≤3:=iQ.2 (by rw[bY];omega)
 have FJ:=EC n
 have iN:val (ah 1)=1:=cI 1
 have bH:(ah 1).length=1:=by rw[tY];rfl
 refine aZ (args:=[_]) Tryz.func20 rfl rfl Tryz.ntmps20 rfl rfl fun w0=> ?_;refine ag [0] rfl ?_;refine ab ?_;refine bt cR rfl ?_;refine aa [0,2] ?_;refine al ?_;refine ab ?_;refine vr 2 ?_;refine aa [0,2,4] ?_;refine aB rfl (fun hb=> ?_) (fun hb=> ?_)
 ·
  have hb:n<0:=by simpa using hb
  rw[decide_eq_true hb]at FJ;refine ab ?_;refine vr 1 ?_;refine aD rfl rfl ⟨by omega,by omega⟩ ?_;refine sx rfl ⟨by omega,by omega⟩ ?_;refine cW ae rfl rfl rfl ⟨by omega,by omega⟩ ?_;refine aD rfl rfl ⟨by omega,by omega⟩ ?_;rw[show -(n+1)+1=((n.natAbs:Nat):Int) by omega];refine aw rfl rfl (Fw (by omega)) ?_;rintro v1 H1 fq;refine dI Tryz.underlying29 dV rfl rfl rfl rfl rfl rfl rfl ?_;intro gb bD;refine aw rfl rfl (vW (fq.nat.le (Heap.bI _ bD)) (xC).ru mY mY (by omega) (by omega)) ?_;rintro w2 G2 ⟨dD,bN⟩;rw[cI,iN,FJ]at bN;obtain⟨u2,x2,rfl,fm,eE⟩:=id bN;obtain⟨nZ,oa,rfl,oc,od⟩:=id fm;obtain⟨oe,og,rfl,oh,oj⟩:=id eE;obtain⟨ti,aj,ak⟩:=a8;refine aJ (.inl ⟨rfl,rfl⟩) rfl rfl rfl aj ak rfl rfl rfl ?_;refine aa [2] ?_;obtain⟨bX,aK,aL⟩:=a8;refine az ⟨.inr rfl,_,.agg rfl Tryz.underlying31 aK aL (.nil),?_⟩;exact⟨(fq.le.trans (Heap.bI _ bD)).trans dD,bN⟩
 ·
  have hb:¬n<0:=by simpa using hb
  rw[decide_eq_false hb]at FJ;obtain⟨m,rfl⟩:∃m:Nat,n=(m:Int):=⟨n.natAbs,by omega⟩;rw[Int.natAbs_natCast]at FJ dC;refine au ?_;refine ag [0,2] rfl ?_;refine ab ?_;refine vr 1 ?_;refine cW ae rfl rfl rfl ⟨by omega,by omega⟩ ?_;refine aw rfl rfl (Fw (x:=m) (by omega)) ?_;rintro v1 H1 fq;refine dI Tryz.underlying29 dV rfl rfl rfl rfl rfl rfl rfl ?_;intro gb bD;refine aw rfl rfl (vW (fq.nat.le (Heap.bI _ bD)) (xC).ru mY mY (by omega) (by omega)) ?_;rintro w2 G2 ⟨dD,bN⟩;rw[cI,iN,FJ]at bN;obtain⟨u2,x2,rfl,fm,eE⟩:=id bN;obtain⟨nZ,oa,rfl,oc,od⟩:=id fm;obtain⟨oe,og,rfl,oh,oj⟩:=id eE;obtain⟨ti,aj,ak⟩:=a8;refine aJ (.inl ⟨rfl,rfl⟩) rfl rfl rfl aj ak rfl rfl rfl ?_;refine aa [2] ?_;obtain⟨bX,aK,aL⟩:=a8;refine az ⟨.inr rfl,_,.agg rfl Tryz.underlying31 aK aL (.nil),?_⟩;exact⟨(fq.le.trans (Heap.bI _ bD)).trans dD,bN⟩
theorem sX{H:Heap}{v:Value}{q:Rat}{N:Nat}(hv:cH H v q N)(hN:(N:Int)≤4398046511000):
 Fn Tryz.prog 77 #[v] H (kp H q):=by
 obtain⟨bf,bu,bw,nX,nY,rfl,ij,cS,jl,AI,V4,CZ,rfl⟩:=id hv;refine aZ (args:=[_]) Tryz.func77 rfl rfl Tryz.ntmps77 rfl rfl fun w0=> ?_;refine ag [0] rfl ?_;refine ab ?_;refine bS rfl rfl ?_;refine bt cR rfl ?_;refine aa [1,2] ?_;refine ab ?_;refine vr 6 ?_;refine aw rfl rfl (vW ij cS jl AI (by omega) (by omega)) ?_;rintro w2 G2 ⟨dD,bN⟩;obtain⟨u2,x2,rfl,fm,eE⟩:=id bN;obtain⟨nZ,oa,rfl,oc,od⟩:=id fm;obtain⟨oe,og,rfl,oh,oj⟩:=id eE;obtain⟨ti,aj,ak⟩:=a8;refine aJ (.inl ⟨rfl,rfl⟩) rfl rfl rfl aj ak rfl rfl rfl ?_;refine aa [2] ?_;obtain⟨bX,aK,aL⟩:=a8;refine az ⟨.inr rfl,_,.agg rfl Tryz.underlying31 aK aL (.nil),?_⟩;exact⟨dD,bN⟩
theorem vX{H:Heap}{v:Value}{q:Rat}{N:Nat}(hv:cH H v q N)(hN:(N:Int)≤4398046511000):
 Fn Tryz.prog 67 #[v] H (fun v H'=>Heap.le H H'∧v = .int .i64 (fo q)):=by
 obtain⟨bf,bu,bw,nX,nY,rfl,_⟩:=id hv
 have jo:=Uh q;refine aZ (args:=[_]) Tryz.func67 rfl rfl Tryz.ntmps67 rfl rfl fun w0=> ?_;refine ag [0] rfl ?_;refine ab ?_;refine bS rfl rfl ?_;refine vr 1 ?_;refine aa [1] ?_;refine ab ?_;refine vr 1 ?_;refine aw rfl rfl (sX hv hN) ?_;rintro w2 G2 ⟨dD,bN⟩;obtain⟨u2,x2,rfl,fm,eE⟩:=id bN;obtain⟨nZ,oa,rfl,oc,od⟩:=id fm;obtain⟨oe,og,rfl,oh,oj⟩:=id eE;obtain⟨ti,aj,ak⟩:=a8;refine aJ (.inl ⟨rfl,rfl⟩) rfl rfl rfl aj ak rfl rfl rfl ?_;refine aa [1] ?_;refine al ?_;refine aC ?_;refine ab ?_;refine vr 5 ?_;refine aa [1,5] ?_;refine aB rfl (fun hb=> ?_) (fun hb=> ?_)
 ·
  have hb:q.num.natAbs=0:=jM.1 (by have:=eq_of_beq hb;omega);rw[if_pos hb]at jo;refine ab ?_;refine vr 1 ?_;refine aa [2] ?_;refine az ⟨.inr rfl,_,.tmp rfl (.nil),?_⟩;exact⟨dD,by rw[jo];rfl⟩
 ·
  have hb:q.num.natAbs≠0:=fun e=>by rw[jM.2 e]at hb;simp at hb
  rw[if_neg hb]at jo;refine ab ?_;refine vr 3 ?_;refine aa [10] ?_;refine aB rfl (fun hb=> ?_) (fun hb=> ?_)
  ·
   rw[hb]at jo;refine ab ?_;refine vr 1 ?_;refine aa [2] ?_;refine az ⟨.inr rfl,_,.tmp rfl (.nil),?_⟩;exact⟨dD,by rw[jo];rfl⟩
  ·
   rw[hb]at jo;refine au ?_;refine ag [] rfl ?_;refine ab ?_;refine vr 1 ?_;refine aa [2] ?_;refine az ⟨.inr rfl,_,.tmp rfl (.nil),?_⟩;exact⟨dD,by rw[jo];rfl⟩
theorem C0{H:Heap}{v:Value}{q:Rat}{N:Nat}(hv:cH H v q N)(hN:(N:Int)≤4398046511000):
 Fn Tryz.prog 135 #[v] H (kp H (-q)):=by
 obtain⟨bf,bu,bw,nX,nY,rfl,ij,cS,jl,AI,V4,CZ,rfl⟩:=id hv;refine aZ (args:=[_]) Tryz.func135 rfl rfl Tryz.ntmps135 rfl rfl fun w0=> ?_;refine ag [0] rfl ?_;refine ab ?_;refine bS rfl rfl ?_;refine bt cR rfl ?_;refine aa [1,2] ?_;refine ab ?_;refine vr 7 ?_;refine aw rfl rfl (vW (f:= !bf) ij cS jl AI (by omega) (by omega)) ?_;rintro w2 G2 ⟨dD,bN⟩;rw[←TM]at bN;obtain⟨u2,x2,rfl,fm,eE⟩:=id bN;obtain⟨nZ,oa,rfl,oc,od⟩:=id fm;obtain⟨oe,og,rfl,oh,oj⟩:=id eE;obtain⟨ti,aj,ak⟩:=a8;refine aJ (.inl ⟨rfl,rfl⟩) rfl rfl rfl aj ak rfl rfl rfl ?_;refine aa [2] ?_;obtain⟨bX,aK,aL⟩:=a8;refine az ⟨.inr rfl,_,.agg rfl Tryz.underlying31 aK aL (.nil),?_⟩;exact⟨dD,bN⟩
theorem V5{H:Heap}{v v2:Value}{q q2:Rat}{N:Nat}(hv:cH H v q N)(dN:cH H v2 q2 N)(hN:(N:Int)≤1099511627780):
 Fn Tryz.prog 21 #[v,v2] H (kp H (q+q2)):=by
 obtain⟨bf,bu,bw,nX,nY,rfl,_⟩:=id hv
 obtain⟨cf,cu,cw,zH,zI,rfl,_⟩:=id dN
 have jk:=hv.size
 have sY:=dN.size
 have fj:=Nat.pos_of_ne_zero q.den_nz
 have kH:=Nat.pos_of_ne_zero q2.den_nz
 have uA:=vA q
 have rz:=vA q2
 obtain⟨f1,iL⟩:∃f1,f1=decide (q.num<0):=⟨_,rfl⟩
 obtain⟨f2,iM⟩:∃f2,f2=decide (q2.num<0):=⟨_,rfl⟩
 obtain⟨n1,cK⟩:∃n1,n1=q.num.natAbs:=⟨_,rfl⟩
 obtain⟨n2,gB⟩:∃n2,n2=q2.num.natAbs:=⟨_,rfl⟩
 obtain⟨d1,po⟩:∃d1,d1=q.den:=⟨_,rfl⟩
 obtain⟨d2,px⟩:∃d2,d2=q2.den:=⟨_,rfl⟩
 have hz:(ah n1).length≤N+2∧(ah d1).length≤N+2∧(ah n2).length≤N+2∧(ah d2).length≤N+2:=by
  unfold aG at jk sY
  rw[cK,gB,po,px];omega
 rw[←iL,←cK,←po]at uA
 rw[←iM,←gB,←px]at rz
 rw[←po]at fj
 rw[←px]at kH
 have tZ:=nU n1 d2
 have nW:=nU n2 d1
 have TV:=nU d1 d2
 have Jb:=Nat.mul_pos fj kH
 have nS:=TP (x:=n1*d2) (y:=n2*d1) (k:=2*(N+2)) (by omega) (by omega);refine aZ (args:=[_,_]) Tryz.func21 rfl rfl Tryz.ntmps21 rfl rfl fun w0=> ?_;refine ag [0,1] rfl ?_;refine ab ?_;refine bS rfl rfl ?_;refine bS rfl rfl ?_;refine bt cR rfl ?_;refine aa [2,3,4] ?_;refine bJ .bF [0,2,1,3,4,5] follows (by kernel_rfl) ?_;refine vr 2 ?_;refine aO rfl rfl (sX hv (by omega)) (fun _ _ h=>by first | exact h.le | exact h.1) ?_;rintro w1 G1 ⟨bH,sZ⟩
 unfold bK at sZ
 rw[←iL,←cK,←po]at sZ;obtain⟨xD,xE,rfl,gJ,gW⟩:=id sZ;obtain⟨xF,xG,rfl,xH,xI⟩:=id gJ;obtain⟨xJ,xK,rfl,xL,xM⟩:=id gW;refine aO rfl rfl (sX (dN.le bH) (by omega)) (fun _ _ h=>by first | exact h.le | exact h.1) ?_;rintro w2 G2 ⟨bh,s0⟩
 unfold bK at s0
 rw[←iM,←gB,←px]at s0;obtain⟨EE,EF,rfl,m0,mA⟩:=id s0;obtain⟨EG,EH,rfl,EI,EJ⟩:=id m0;obtain⟨EK,EL,rfl,EM,EN⟩:=id mA;have gJ:=gJ.le bh;have gW:=gW.le bh;have hle:=bH.trans bh;obtain⟨ti,aj,ak⟩:=a8;refine aJ (.inl ⟨rfl,rfl⟩) rfl rfl rfl aj ak rfl rfl rfl ?_;obtain⟨ti,aj,ak⟩:=a8;refine aJ (.inl ⟨rfl,rfl⟩) rfl rfl rfl aj ak rfl rfl rfl ?_;refine aa [2,3,4] ?_;refine bJ .bF [0,1,2,3,5,6,7,8,4,9,10,11] follows (by kernel_rfl) ?_;refine vr 8 ?_;refine aO rfl rfl (vS gJ mA (by omega) (by omega)) (fun _ _ h=>by first | exact h.le | exact h.1) ?_;rintro v3 H3 dW;refine aO rfl rfl (vS (m0.le dW.le) (gW.le dW.le) (by omega) (by omega)) (fun _ _ h=>by first | exact h.le | exact h.1) ?_;rintro v4 H4 ft;refine vr 2 ?_;refine aa [2,3,4,5,6] ?_;refine ab ?_;refine vr 4 ?_;refine aw rfl rfl (vS ((gW.le dW.le).le ft.le) ((mA.le dW.le).le ft.le) (by omega) (by omega)) ?_;rintro v5 H5 J8;have gU:=((hle.trans dW.le).trans ft.le).trans J8.le;have ql:=(dW.nat.le ft.le).le J8.le;have AD:=ft.nat.le J8.le;have uB:=J8.nat;obtain⟨OG,OH,rfl,OI,OJ⟩:=id ql;obtain⟨akL,akM,rfl,akN,akO⟩:=id AD;obtain⟨akP,akQ,rfl,akR,akS⟩:=id uB;refine vr 1 ?_
 refine aa [2,3,4,5,6,7] ?_;refine al ?_;refine ab ?_;refine vr 4 ?_;refine S2 Tryz.underlying4 rfl rfl ?_;refine aa [2,3,4,5,6,7,31] ?_;refine aB rfl (fun hb=> ?_) (fun hb=> ?_)
 ·
  have p6:f1=f2:=by simpa using hb
  refine bJ .bF [0,1,2,3,5,4,6,7] follows (by kernel_rfl) ?_;refine vr 5 ?_;refine aO rfl rfl (aeY ql AD (by omega) (by omega)) (fun _ _ h=>by first | exact h.le | exact h.1) ?_;rintro v6 H6 nT;have uC:=uB.le nT.le;have rA:=nT.nat;obtain⟨V6,V7,rfl,V8,V9⟩:=id rA;refine aO rfl rfl (vW (f:=f1) rA.ru uC.ru mY mY (by omega) (by omega)) (fun _ _ h=>by first | exact h.le | exact h.1) ?_;rintro w7 G7 ⟨FK,iW⟩;rw[cI,cI,←TJ f1 fj kH,uA,p6,rz]at iW;obtain⟨u7,x7,rfl,FL,vY⟩:=id iW;obtain⟨Wa,Wb,rfl,Wc,Wd⟩:=id FL;obtain⟨We,Wf,rfl,Wg,Wh⟩:=id vY;obtain⟨ti,aj,ak⟩:=a8;refine aJ (.inl ⟨rfl,rfl⟩) rfl rfl rfl aj ak rfl rfl rfl ?_;refine aa [4] ?_;obtain⟨bX,aK,aL⟩:=a8;refine az ⟨.inr rfl,_,.agg rfl Tryz.underlying31 aK aL (.nil),?_⟩;exact⟨(gU.trans nT.le).trans FK,iW⟩
 ·
  have p6:f1≠f2:=by simpa using hb
  refine au ?_;refine ag [2,3,4,5,6,7] rfl ?_;refine al ?_;refine ab ?_;refine vr 2 ?_;refine aw rfl rfl (J0 ql AD (by omega)) ?_;rintro v6 H6 ⟨e6,rfl⟩;rw[e6];refine vr 1 ?_;refine aa [2,3,4,5,6,7,42] ?_;refine aB rfl (fun hb=> ?_) (fun hb=> ?_)
  ·
   have hb:n2*d1≤n1*d2:=Fz.1 (by simpa using hb);have jn:=lR (Nat.sub_le (n1*d2) (n2*d1));refine bJ .bF [0,1,2,3,5,4,6,7] follows (by kernel_rfl) ?_;refine vr 5 ?_;refine aO rfl rfl (J2 ql AD hb (by omega)) (fun _ _ h=>by first | exact h.le | exact h.1) ?_;rintro v6 H6 nT;have uC:=uB.le nT.le;have rA:=nT.nat;obtain⟨V6,V7,rfl,V8,V9⟩:=id rA;refine aO rfl rfl (vW (f:=f1) rA.ru uC.ru mY mY (by omega) (by omega)) (fun _ _ h=>by first | exact h.le | exact h.1) ?_;rintro w7 G7 ⟨FK,iW⟩;rw[cI,cI,←Nh p6 fj kH hb,uA,rz]at iW;obtain⟨u7,x7,rfl,FL,vY⟩:=id iW;obtain⟨Wa,Wb,rfl,Wc,Wd⟩:=id FL;obtain⟨We,Wf,rfl,Wg,Wh⟩:=id vY;obtain⟨ti,aj,ak⟩:=a8;refine aJ (.inl ⟨rfl,rfl⟩) rfl rfl rfl aj ak rfl rfl rfl ?_;refine aa [4] ?_;obtain⟨bX,aK,aL⟩:=a8;refine az ⟨.inr rfl,_,.agg rfl Tryz.underlying31 aK aL (.nil),?_⟩;exact⟨(gU.trans nT.le).trans FK,iW⟩
  ·
   have hb:n1*d2≤n2*d1:=by
    have:¬0≤kn (n1*d2) (n2*d1):=by simp at hb;omega
    rw[Fz]at this;omega
   have jn:=lR (Nat.sub_le (n2*d1) (n1*d2));refine au ?_;refine ag [3,4,5,6,7] rfl ?_;refine bJ .bF [0,1,2,3,5,4,6,7] follows (by kernel_rfl) ?_;refine vr 5 ?_;refine aO rfl rfl (J2 AD ql hb (by omega)) (fun _ _ h=>by first | exact h.le | exact h.1) ?_;rintro v6 H6 nT;have uC:=uB.le nT.le;have rA:=nT.nat;obtain⟨V6,V7,rfl,V8,V9⟩:=id rA;refine aO rfl rfl (vW (f:=f2) rA.ru uC.ru mY mY (by omega) (by omega)) (fun _ _ h=>by first | exact h.le | exact h.1) ?_;rintro w7 G7 ⟨FK,iW⟩;rw[cI,cI,←TK p6 fj kH hb,uA,rz]at iW;obtain⟨u7,x7,rfl,FL,vY⟩:=id iW;obtain⟨Wa,Wb,rfl,Wc,Wd⟩:=id FL;obtain⟨We,Wf,rfl,Wg,Wh⟩:=id vY;obtain⟨ti,aj,ak⟩:=a8;refine aJ (.inl ⟨rfl,rfl⟩) rfl rfl rfl aj ak rfl rfl rfl ?_;refine aa [4] ?_;obtain⟨bX,aK,aL⟩:=a8;refine az ⟨.inr rfl,_,.agg rfl Tryz.underlying31 aK aL (.nil),?_⟩;exact⟨(gU.trans nT.le).trans FK,iW⟩
theorem C1{H:Heap}{v v2:Value}{q q2:Rat}{N:Nat}(hv:cH H v q N)(dN:cH H v2 q2 N)(hN:(N:Int)≤1099511627778):
 Fn Tryz.prog 65 #[v,v2] H (kp H (q-q2)):=by
 obtain⟨bf,bu,bw,nX,nY,rfl,_⟩:=id hv
 obtain⟨cf,cu,cw,zH,zI,rfl,_⟩:=id dN
 have sY:=dN.size;refine aZ (args:=[_,_]) Tryz.func65 rfl rfl Tryz.ntmps65 rfl rfl fun w0=> ?_;refine ag [0,1] rfl ?_;refine ab ?_;refine bS rfl rfl ?_;refine bS rfl rfl ?_;refine bt cR rfl ?_;refine aa [2,3,4] ?_;refine bJ .bF [0,1,2,3,4] follows (by kernel_rfl) ?_;refine vr 2 ?_;refine aO rfl rfl (C0 dN (by omega)) (fun _ _ h=>by first | exact h.le | exact h.1) ?_;rintro w2 G2 ⟨dD,bN⟩;obtain⟨u2,x2,rfl,fm,eE⟩:=id bN;obtain⟨nZ,oa,rfl,oc,od⟩:=id fm;obtain⟨oe,og,rfl,oh,oj⟩:=id eE;have lx:=bN.raw;rw[show aG (-q2)=aG q2 by unfold aG;rw[Rat.neg_num,Int.natAbs_neg,Rat.neg_den]]at lx;refine aO rfl rfl (V5 (N:=N+2) ((hv.le dD).mono (by omega)) (lx.mono sY) (by omega)) (fun _ _ h=>by first | exact h.le | exact h.1) ?_;rintro w3 G3 ⟨ng,gD⟩;rw[←Rat.sub_eq_add_neg]at gD;obtain⟨u3,x3,rfl,ov,gC⟩:=id gD;obtain⟨zR,zS,rfl,zT,zU⟩:=id ov;obtain⟨zV,zW,rfl,zX,zY⟩:=id gC;obtain⟨ti,aj,ak⟩:=a8;refine aJ (.inl ⟨rfl,rfl⟩) rfl rfl rfl aj ak rfl rfl rfl ?_;refine aa [4] ?_;obtain⟨bX,aK,aL⟩:=a8;refine az ⟨.inr rfl,_,.agg rfl Tryz.underlying31 aK aL (.nil),?_⟩;exact⟨dD.trans ng,gD⟩
theorem OK{H:Heap}{v v2:Value}{q q2:Rat}{N:Nat}(hv:cH H v q N)(dN:cH H v2 q2 N)(hN:(N:Int)≤1099511627776):
 Fn Tryz.prog 14 #[v,v2] H (fun v H'=>Heap.le H H'∧v = .int .i64 (vz q q2)):=by
 obtain⟨bf,bu,bw,nX,nY,rfl,_⟩:=id hv
 obtain⟨cf,cu,cw,zH,zI,rfl,_⟩:=id dN
 have jk:=hv.size
 have sY:=dN.size;refine aZ (args:=[_,_]) Tryz.func14 rfl rfl Tryz.ntmps14 rfl rfl fun w0=> ?_;refine ag [0,1] rfl ?_;refine ab ?_;refine bS rfl rfl ?_;refine bS rfl rfl ?_;refine vr 1 ?_;refine aa [2,3] ?_;refine ab ?_;refine vr 2 ?_;refine aw rfl rfl (C1 hv dN (by omega)) ?_;rintro w2 G2 ⟨dD,bN⟩;obtain⟨u2,x2,rfl,fm,eE⟩:=id bN;obtain⟨nZ,oa,rfl,oc,od⟩:=id fm;obtain⟨oe,og,rfl,oh,oj⟩:=id eE;have cO:=om q q2;refine aw rfl rfl (vX bN.raw (by omega)) ?_;rintro v3 H3 ⟨dC,rfl⟩;refine vr 1 ?_;refine aa [4] ?_;refine az ⟨.inr rfl,_,.tmp rfl (.nil),?_⟩;exact⟨dD.trans dC,by rw[afd];rfl⟩
theorem J9{H:Heap}{v v2:Value}{q q2:Rat}{N:Nat}(hv:cH H v q N)(dN:cH H v2 q2 N)(hN:(N:Int)≤1099511627780):
 Fn Tryz.prog 22 #[v,v2] H (kp H (q*q2)):=by
 obtain⟨bf,bu,bw,nX,nY,rfl,_⟩:=id hv
 obtain⟨cf,cu,cw,zH,zI,rfl,_⟩:=id dN
 have jk:=hv.size
 have sY:=dN.size
 have fj:=Nat.pos_of_ne_zero q.den_nz
 have kH:=Nat.pos_of_ne_zero q2.den_nz
 have uA:=vA q
 have rz:=vA q2
 obtain⟨f1,iL⟩:∃f1,f1=decide (q.num<0):=⟨_,rfl⟩
 obtain⟨f2,iM⟩:∃f2,f2=decide (q2.num<0):=⟨_,rfl⟩
 obtain⟨n1,cK⟩:∃n1,n1=q.num.natAbs:=⟨_,rfl⟩
 obtain⟨n2,gB⟩:∃n2,n2=q2.num.natAbs:=⟨_,rfl⟩
 obtain⟨d1,po⟩:∃d1,d1=q.den:=⟨_,rfl⟩
 obtain⟨d2,px⟩:∃d2,d2=q2.den:=⟨_,rfl⟩
 have hz:(ah n1).length≤N+2∧(ah d1).length≤N+2∧(ah n2).length≤N+2∧(ah d2).length≤N+2:=by
  unfold aG at jk sY
  rw[cK,gB,po,px];omega
 rw[←iL,←cK,←po]at uA
 rw[←iM,←gB,←px]at rz
 rw[←po]at fj
 rw[←px]at kH
 have tZ:=nU n1 n2
 have nW:=nU d1 d2;refine aZ (args:=[_,_]) Tryz.func22 rfl rfl Tryz.ntmps22 rfl rfl fun w0=> ?_;refine ag [0,1] rfl ?_;refine ab ?_;refine bS rfl rfl ?_;refine bS rfl rfl ?_;refine bt cR rfl ?_;refine aa [2,3,4] ?_;refine bJ .bF [0,2,1,3,4,5] follows (by kernel_rfl) ?_;refine vr 2 ?_;refine aO rfl rfl (sX hv (by omega)) (fun _ _ h=>by first | exact h.le | exact h.1) ?_;rintro w1 G1 ⟨bH,sZ⟩
 unfold bK at sZ
 rw[←iL,←cK,←po]at sZ;obtain⟨xD,xE,rfl,gJ,gW⟩:=id sZ;obtain⟨xF,xG,rfl,xH,xI⟩:=id gJ;obtain⟨xJ,xK,rfl,xL,xM⟩:=id gW;refine aO rfl rfl (sX (dN.le bH) (by omega)) (fun _ _ h=>by first | exact h.le | exact h.1) ?_;rintro w2 G2 ⟨bh,s0⟩
 unfold bK at s0
 rw[←iM,←gB,←px]at s0;obtain⟨EE,EF,rfl,m0,mA⟩:=id s0;obtain⟨EG,EH,rfl,EI,EJ⟩:=id m0;obtain⟨EK,EL,rfl,EM,EN⟩:=id mA;have gJ:=gJ.le bh;have gW:=gW.le bh;have hle:=bH.trans bh;obtain⟨ti,aj,ak⟩:=a8;refine aJ (.inl ⟨rfl,rfl⟩) rfl rfl rfl aj ak rfl rfl rfl ?_;obtain⟨ti,aj,ak⟩:=a8;refine aJ (.inl ⟨rfl,rfl⟩) rfl rfl rfl aj ak rfl rfl rfl ?_;refine aa [2,3,4] ?_;refine bJ .bF [0,1,2,3,4,5,6,7,8,10,11,12,13,9,14,15,16] follows (by kernel_rfl) ?_;refine vr 4 ?_;refine D5 Tryz.underlying4 rfl rfl ?_;refine vr 8 ?_;refine aO rfl rfl (vS gJ m0 (by omega) (by omega)) (fun _ _ h=>by first | exact h.le | exact h.1) ?_;rintro v3 H3 dW;refine aO rfl rfl (vS (gW.le dW.le) (mA.le dW.le) (by omega) (by omega)) (fun _ _ h=>by first | exact h.le | exact h.1) ?_;rintro v4 H4 ft;have mB:=dW.nat.le ft.le;have FM:=ft.nat;obtain⟨EO,EP,rfl,ER,ES⟩:=id mB;obtain⟨aff,afg,rfl,afh,afi⟩:=id FM;refine aO rfl rfl (vW (f:=f1 != f2) mB.ru FM.ru mY mY (by omega) (by omega)) (fun _ _ h=>by first | exact h.le | exact h.1) ?_;rintro w5 G5 ⟨FN,eU⟩;rw[cI,cI,←Ni,uA,rz]at eU;obtain⟨u5,x5,rfl,FO,ql⟩:=id eU;obtain⟨Wi,Wj,rfl,Wk,Wl⟩:=id FO
 obtain⟨OG,OH,rfl,OI,OJ⟩:=id ql;obtain⟨ti,aj,ak⟩:=a8;refine aJ (.inl ⟨rfl,rfl⟩) rfl rfl rfl aj ak rfl rfl rfl ?_;refine aa [4] ?_;obtain⟨bX,aK,aL⟩:=a8;refine az ⟨.inr rfl,_,.agg rfl Tryz.underlying31 aK aL (.nil),?_⟩;exact⟨((hle.trans dW.le).trans ft.le).trans FN,eU⟩
theorem OL{H:Heap}{v v2:Value}{q q2:Rat}{N:Nat}(hv:cH H v q N)(dN:cH H v2 q2 N)(hN:(N:Int)≤1099511627780):
 Fn Tryz.prog 117 #[v,v2] H (fun v H'=>Heap.le H H'∧∃r,v = .tuple #[r,.bool (decide (q2≠0))]∧bK H' r (q/q2)):=by
 obtain⟨bf,bu,bw,nX,nY,rfl,_⟩:=id hv
 obtain⟨cf,cu,cw,zH,zI,rfl,_⟩:=id dN
 have jk:=hv.size
 have sY:=dN.size
 have fj:=Nat.pos_of_ne_zero q.den_nz
 have kH:=Nat.pos_of_ne_zero q2.den_nz
 have uA:=vA q
 have rz:=vA q2
 obtain⟨f1,iL⟩:∃f1,f1=decide (q.num<0):=⟨_,rfl⟩
 obtain⟨f2,iM⟩:∃f2,f2=decide (q2.num<0):=⟨_,rfl⟩
 obtain⟨n1,cK⟩:∃n1,n1=q.num.natAbs:=⟨_,rfl⟩
 obtain⟨n2,gB⟩:∃n2,n2=q2.num.natAbs:=⟨_,rfl⟩
 obtain⟨d1,po⟩:∃d1,d1=q.den:=⟨_,rfl⟩
 obtain⟨d2,px⟩:∃d2,d2=q2.den:=⟨_,rfl⟩
 have hz:(ah n1).length≤N+2∧(ah d1).length≤N+2∧(ah n2).length≤N+2∧(ah d2).length≤N+2:=by
  unfold aG at jk sY
  rw[cK,gB,po,px];omega
 rw[←iL,←cK,←po]at uA
 rw[←iM,←gB,←px]at rz
 rw[←po]at fj
 rw[←px]at kH
 have tZ:=nU n1 d2
 have nW:=nU d1 n2;refine aZ (args:=[_,_]) Tryz.func117 rfl rfl Tryz.ntmps117 rfl rfl fun w0=> ?_;refine ag [0,1] rfl ?_;refine ab ?_;refine bS rfl rfl ?_;refine bS rfl rfl ?_;refine bt cR rfl ?_;refine vr 1 ?_;refine aa [2,3,4] ?_;refine bJ .bF [0,2,1,3,4,5] follows (by kernel_rfl) ?_;refine vr 2 ?_;refine aO rfl rfl (sX hv (by omega)) (fun _ _ h=>by first | exact h.le | exact h.1) ?_;rintro w1 G1 ⟨bH,sZ⟩
 unfold bK at sZ
 rw[←iL,←cK,←po]at sZ;obtain⟨xD,xE,rfl,gJ,gW⟩:=id sZ;obtain⟨xF,xG,rfl,xH,xI⟩:=id gJ;obtain⟨xJ,xK,rfl,xL,xM⟩:=id gW;refine aO rfl rfl (sX (dN.le bH) (by omega)) (fun _ _ h=>by first | exact h.le | exact h.1) ?_;rintro w2 G2 ⟨bh,s0⟩
 unfold bK at s0
 rw[←iM,←gB,←px]at s0;obtain⟨EE,EF,rfl,m0,mA⟩:=id s0;obtain⟨EG,EH,rfl,EI,EJ⟩:=id m0;obtain⟨EK,EL,rfl,EM,EN⟩:=id mA;have gJ:=gJ.le bh;have gW:=gW.le bh;have hle:=bH.trans bh;obtain⟨ti,aj,ak⟩:=a8;refine aJ (.inl ⟨rfl,rfl⟩) rfl rfl rfl aj ak rfl rfl rfl ?_;obtain⟨ti,aj,ak⟩:=a8;refine aJ (.inl ⟨rfl,rfl⟩) rfl rfl rfl aj ak rfl rfl rfl ?_;refine aa [2,3,4] ?_;refine al ?_;refine ab ?_;refine vr 4 ?_;refine aa [2,3,4,13] ?_;refine aB rfl (fun hb=> ?_) (fun hb=> ?_)
 ·
  have hb:n2=0:=jM.1 (by have:=eq_of_beq hb;omega)
  have Ka:q2=0:=by rw[←rz,hb,vy]
  refine ab ?_;refine aw rfl rfl (ry (n:=0) (by decide) (by decide)) ?_;rintro w5 G5 ⟨FN,eU⟩;obtain⟨u5,x5,rfl,FO,ql⟩:=id eU;obtain⟨Wi,Wj,rfl,Wk,Wl⟩:=id FO;obtain⟨OG,OH,rfl,OI,OJ⟩:=id ql;obtain⟨ti,aj,ak⟩:=a8;refine aJ (.inl ⟨rfl,rfl⟩) rfl rfl rfl aj ak rfl rfl rfl ?_;refine vr 1 ?_;refine aa [4,5] ?_;obtain⟨bX,aK,aL⟩:=a8;refine az ⟨.inr rfl,_,.agg rfl Tryz.underlying31 aK aL (.tmp rfl (.nil)),?_⟩;refine⟨hle.trans FN,_,?_,by rw[Ka,Rat.div_def,Rat.inv_zero,Rat.mul_zero];exact eU⟩;rw[Ka];rfl
 ·
  have jm:0<n2:=Nat.pos_of_ne_zero fun e=>by rw[jM.2 e]at hb;simp at hb
  have Ka:q2≠0:=fun e=>by rw[←rz,Ng kH]at e;omega
  refine au ?_;refine ag [2,3,4] rfl ?_;refine bJ .bF [0,1,2,3,4,5,6,7,8,10,11,12,13,9,14,15,16,17] follows (by kernel_rfl) ?_;refine vr 4 ?_;refine D5 Tryz.underlying4 rfl rfl ?_;refine vr 8 ?_;refine aO rfl rfl (vS gJ mA (by omega) (by omega)) (fun _ _ h=>by first | exact h.le | exact h.1) ?_;rintro v3 H3 dW;refine aO rfl rfl (vS (gW.le dW.le) (m0.le dW.le) (by omega) (by omega)) (fun _ _ h=>by first | exact h.le | exact h.1) ?_;rintro v4 H4 ft;have mB:=dW.nat.le ft.le;have FM:=ft.nat;obtain⟨EO,EP,rfl,ER,ES⟩:=id mB;obtain⟨aff,afg,rfl,afh,afi⟩:=id FM;refine aO rfl rfl (vW (f:=f1 != f2) mB.ru FM.ru mY mY (by omega) (by omega)) (fun _ _ h=>by first | exact h.le | exact h.1) ?_;rintro w5 G5 ⟨FN,eU⟩;rw[cI,cI,←Nj jm,uA,rz]at eU;obtain⟨u5,x5,rfl,FO,ql⟩:=id eU;obtain⟨Wi,Wj,rfl,Wk,Wl⟩:=id FO;obtain⟨OG,OH,rfl,OI,OJ⟩:=id ql;obtain⟨ti,aj,ak⟩:=a8;refine aJ (.inl ⟨rfl,rfl⟩) rfl rfl rfl aj ak rfl rfl rfl ?_;refine vr 1 ?_;refine aa [4,5] ?_;obtain⟨bX,aK,aL⟩:=a8;refine az ⟨.inr rfl,_,.agg rfl Tryz.underlying31 aK aL (.tmp rfl (.nil)),?_⟩;refine⟨((hle.trans dW.le).trans ft.le).trans FN,_,?_,eU⟩;rw[show decide (q2≠0)=true from decide_eq_true Ka];rfl
theorem OM{H:Heap}{a b:Int}(h1: -9223372036854775808≤a)(h2:a≤9223372036854775807)(h3: -9223372036854775808≤b)(h4:b≤9223372036854775807):
 Fn Tryz.prog 43 #[.int .i64 a,.int .i64 b] H (kp H ((a:Rat)/(b:Rat))):=by
 have hs:∀n:Int,-9223372036854775808≤n→n≤9223372036854775807→aG (n:Rat)≤3:=fun n h1 h2=>by
  have k1:(ah n.natAbs).length≤3:=iQ.2 (by rw[bY];omega)
  have k2:(ah 1).length≤3:=by rw[tY];decide
  have:=(V1 (decide (n<0)) n.natAbs 1 3 k1 k2).2 (by decide)
  rwa [EC]at this
 refine aZ (args:=[_,_]) Tryz.func43 rfl rfl Tryz.ntmps43 rfl rfl fun w0=> ?_;refine ag [0,1] rfl ?_;refine ab ?_;refine bt cR rfl ?_;refine aa [0,1,4] ?_;refine ab ?_;refine vr 1 ?_;refine aw rfl rfl (ry h1 h2) ?_;rintro w1 G1 ⟨fc,bW⟩;obtain⟨u1,x1,rfl,eu,eD⟩:=id bW;obtain⟨lT,lU,rfl,lV,lW⟩:=id eu;obtain⟨sL,sM,rfl,sN,sO⟩:=id eD;refine vr 1 ?_;refine aw rfl rfl (ry h3 h4) ?_;rintro w2 G2 ⟨dD,bN⟩;obtain⟨u2,x2,rfl,fm,eE⟩:=id bN;obtain⟨nZ,oa,rfl,oc,od⟩:=id fm;obtain⟨oe,og,rfl,oh,oj⟩:=id eE;refine aw rfl rfl (OL (N:=3) ((bW.le dD).raw.mono (hs a h1 h2)) (bN.raw.mono (hs b h3 h4)) (by decide)) ?_;rintro v3 H3 ⟨dC,r3,rfl,gD⟩;obtain⟨u3,x3,rfl,ov,gC⟩:=id gD;obtain⟨zR,zS,rfl,zT,zU⟩:=id ov;obtain⟨zV,zW,rfl,zX,zY⟩:=id gC;refine vr 3 ?_;refine bt cR rfl ?_;obtain⟨ti,aj,ak⟩:=a8;refine aJ (.inl ⟨rfl,rfl⟩) rfl rfl rfl aj ak rfl rfl rfl ?_;refine vr 1 ?_;refine aa [4,5] ?_;refine ab ?_;refine vr 1 ?_;obtain⟨ti,aj,ak⟩:=a8;refine aJ (.inl ⟨rfl,rfl⟩) rfl rfl rfl aj ak rfl rfl rfl ?_;refine aa [4] ?_;obtain⟨bX,aK,aL⟩:=a8;refine az ⟨.inr rfl,_,.agg rfl Tryz.underlying31 aK aL (.nil),?_⟩
 exact⟨(fc.trans dD).trans dC,gD⟩
end Go.ar
