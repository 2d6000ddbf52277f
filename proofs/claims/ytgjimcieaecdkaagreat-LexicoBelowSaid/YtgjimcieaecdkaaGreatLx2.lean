/- Walks over package lexico, part 2: extend, refusal. -/
import Derived.Test.YtgjimcieaecdkaaGreatA10
import Derived.Test.YtgjimcieaecdkaaGreatLx1
import Derived.Test.YtgjimcieaecdkaaGreatGrw3
set_option linter.unusedVariables false
namespace Go.ar
open Go.Proofs Num Lp
def ZF(x:List Rat×Rat):List Rat×Int×Rat:=(x.1,2,x.2)
theorem ab3(p:Prg)(os:List (List Rat))(vs:List Rat):(bK p os vs).rows=p.rows++(os.zip vs).map ZF:=rfl
def yR(p:Prg)(os:List (List Rat))(e:Int):Prop:=(¬p.Ok∧e=1)∨(p.Ok∧(¬∀o,o∈os→o.length=p.free.length)∧e=21)∨(p.Ok∧(∀o,o∈os→o.length=p.free.length)∧(40<os.length∨800<p.rows.length+os.length)∧e=9)∨(FX p os∧e=0)
theorem abN{p:Prg}{os:List (List Rat)}{e e':Int}(h:yR p os e)(h':yR p os e'):e=e':=by
 rcases h with ⟨h1,h2⟩ | ⟨h1,h2,h3⟩ | ⟨h1,h2,h3,h4⟩ | ⟨h1,h2⟩ <;> rcases h' with ⟨k1,k2⟩ | ⟨k1,k2,k3⟩ | ⟨k1,k2,k3,k4⟩ | ⟨k1,k2⟩ <;>
  first | omega | exact absurd k1 h1 | exact absurd h1 k1 | exact absurd k1.ok h1 | exact absurd h1.ok k1 | exact absurd k2 h2 | exact absurd h2 k2 | exact absurd k1.vec h2 | exact absurd h1.vec k2 | (have a1:=k1.yM;have a2:=k1.rows;omega) | (have a1:=h1.yM;have a2:=h1.rows;omega)
theorem yR.ab4{p:Prg}{os:List (List Rat)}(h:yR p os 0):FX p os:=by
 rcases h with ⟨_,h⟩ | ⟨_,_,h⟩ | ⟨_,_,_,h⟩ | ⟨h,_⟩
 ·cases h
 ·cases h
 ·cases h
 ·exact h
theorem ab5{gs:List Nat}{H:Heap}{v ov:Value}{Av:Option Addr}{cv:Nat}{xv:List Value}{p:Prg}{os:List (List Rat)}{vs:List Rat}{N:Nat}(we:∀q,q∈gs→H q≠none)(hp:dE N (rem H gs) v p)(ho:mg N (rem H gs) ov os)(jn:Rd H Av xv)(x8:bg (bJ N (rem H gs)) 3 xv vs)(fG:vs.length≤os.length)(ep:p.free.length≤400)(rH:p.rows.length≤800)(Dz:∀r,r∈p.rows→r.1.length≤1000)(ho4:∀o,o∈os→o.length≤1000)(kH:vs.length≤800)(hN:(N:Int)≤1099511627776):
 Fn Tryz.prog 75 #[v,ov,.slice Av vs.length cv] H (fun v' H'=>Frz gs H H'∧∃A1 k1 c1 A2 k2 c2,v' = .agg #[.slice A1 k1 c1,.slice A2 k2 c2]∧dE (N+2) (rem H' gs) v' (bK p os vs)):=by
 obtain⟨fv,l7,rfl,eA,fa⟩:=id hp
 obtain⟨Af,cf,xf,rfl,kF,kG⟩:=eA.one
 obtain⟨Ar,cr,xr,rfl,iH,fQ,fA⟩:=id fa
 obtain⟨Ao,co,xo,rfl,lQ,je,tI⟩:=id ho;refine aW (args:=[_,_,_]) Tryz.func75 rfl rfl Tryz.ntmps75 rfl rfl fun w0=> ?_;refine aj [0,1,2] rfl ?_;refine af (bY rfl rfl (bD oG rfl (ae [1,2,3,6] ?_)));refine af (ab 2 rfl (au rfl rfl (Fn.frame we (RH eA (by omega))) ?_));rintro _ H1 ⟨⟨cn,Cw⟩,im⟩;obtain⟨E1,d1,_,rfl,_⟩:=id Cw
 have ab6:∀q,q∈gs→H1 q≠none:=fun q hq=>by rw[im q hq];exact we q hq
 have eM:Heap.le H H1:=(Rp (α:=Bool) (P:=mW) (e:=0) (sz:=1) we).step qm (fun q hq=>im q (by rw[qt,List.append_nil]at hq;exact hq)) (by rw[qt,List.append_nil];exact cn) |>.le;refine dH ag rfl oG rfl rfl (bD oG rfl ?_);obtain⟨ti,ak,al⟩:=qM;refine aM (.inl ⟨rfl,rfl⟩) rfl rfl rfl ak al rfl rfl rfl (ae [1,2,3,6,7] ?_);refine aq (af (ab 4 rfl (ae [1,2,6,7,17,18,19] ?_)));refine aD (jb (fun(i:Nat)(w:Value)(ys:List Value)=>p.rows.length-i) (fun(i:Nat)(w:Value)(ys:List Value)=>put (put (put (put (put (put (put (emp) 1 (.val (.slice Ao os.length co))) 2 (.val (.slice Av vs.length cv))) 6 (.box [.slice none 0 0,.slice none 0 0])) 7 (.box [.slice E1 p.free.length d1,w])) 17 (.val (.slice Ar p.rows.length cr))) 18 (.val (.int .i64 (p.rows.length:Int)))) 19 (.val (.int .i64 (i:Int)))) (fun(i:Nat)(w:Value)(ys:List Value) H'=>fD gs H1 (ez (N+2)) 31 5 H' w (p.rows.take i) ys∧i≤p.rows.length) 0 (.slice none 0 0) [] (⟨Rp ab6,Nat.zero_le _⟩) ay ?_);rintro i w ys H2 ⟨hG,hi⟩;obtain⟨W,cw,rfl⟩:=hG.form
 have pf:(p.rows.take i).length=i:=by rw[List.length_take];omega
 have bU:=cn.trans hG.base;refine af (ab 1 rfl (ae [1,2,6,7,17,18,19,20] ?_));refine aq (az rfl (fun hb=> ?_) (fun hb=> ?_))
 ·
  have dX:i<p.rows.length:=by simpa using hb
  obtain⟨r,hr⟩:∃r,p.rows[i]? = some r:=⟨_,List.getElem?_eq_getElem dX⟩;have oK:=Dz r (List.mem_of_getElem? hr);obtain⟨A0,c0,f,A1,m1,c1,A2,m2,c2,jE,gw,oc,jK⟩:=aH.KB fA hr;have hzb:=oc.size;refine ax (aj [1,2,6,7,17,18,19] rfl ?_);refine aq (aD (af (cS (vs:=[.slice A0 r.1.length c0,.int .i64 r.2.1,.bool f,.slice A1 m1 c1,.slice A2 m2 c2]) ag rfl rfl rfl rfl ((fQ.le bU).le (bn _ _)) rfl (by decide) jK (by omega) (by omega) fun _=>(bD gU rfl ?_))));obtain⟨ti,ak,al⟩:=ux;refine aM (.inl ⟨rfl,rfl⟩) rfl rfl rfl ak al rfl rfl rfl (ae [1,2,6,7,9,17,18,19] ?_);refine fc .bR [0,1,2,3,5,6,7,8,4,9,10,11,12,13,14] follows (by kernel_rfl) ?_;refine ab 8 rfl (aT rfl rfl (hG.call (RI (gw.le (cD N) bU) (by omega) (by omega))) (fun _ _ h=>h.le fun _ _ h=>h.1) ?_);rintro _ H5 ph;have iW:=hG.od (fO (N+2)) ph fun _ _ h=>h.1;obtain⟨⟨_,A5,c5,rfl,Cx⟩,_⟩:=ph;refine aT rfl rfl (iW.call (xd (oc.le (cn.trans iW.base)) (by omega))) (fun _ _ h=>h.le fun _ _ h=>h.1) ?_;rintro _ H6 pj;have hU:=iW.od (fO (N+2)) pj fun _ _ h=>h.1;obtain⟨⟨K9,ix⟩,_⟩:=pj;obtain⟨f6,qw,qx,qy,qz,qA,qB,rfl⟩:=ix.form;have Cy:ez (N+2) (rem H6 (gs++aB (.slice W (p.rows.take i).length cw))) [.slice A5 r.1.length c5,.int .i64 r.2.1,.bool f6,.slice qw qx qy,.slice qz qA qB] r:=⟨_,_,_,_,rfl,Cx.le (cD (N+2)) K9,(dI.raw ix).mono (by omega)⟩
  refine dH ag rfl gU rfl rfl (cU Tryz.underlying23 gU rfl rfl rfl rfl rfl rfl rfl ?_);intro gd ie;have km:=hU.ins (fO (N+2)) (whole (cz [.agg #[.slice A5 r.1.length c5,.int .i64 r.2.1,.bool f6,.slice qw qx qy,.slice qz qA qB]]) 31) ie;refine dY Tryz.underlying23 gU rfl rfl km.own (eH _ _ _ _ _ _) rfl (FR _ _ _ _ _ _ _ _ _ _ _) (by rw[pf];omega) (by rw[pf];omega) ?_;intro v8 H8 tw;have iz:=km.append (fO (N+2)) (j:=[r]) (by simp) tw (iq (fO (N+2) _ _ _ _ (uY _ (Heap.a0 _ ie)) Cy) rfl);obtain⟨F8,g8,rfl⟩:=iz.form;refine vr 1 ?_;obtain⟨ti,ak,al⟩:=G5;refine aM (.inr rfl) rfl rfl rfl ak al rfl rfl rfl (aA (aj [1,2,6,7,17,18,19] rfl ?_));refine aF rfl (aO rfl rfl ⟨by omega,by omega⟩ (ab 1 rfl (aA ?_)));exact⟨i+1,_,_,by omega,ay,by rw[KJ hr];exact iz,by omega⟩
 ·
  have hb:p.rows.length≤i:=by simpa using hb
  obtain rfl:i=p.rows.length:=by omega
  rw[List.take_length]at hG;rw[List.take_length];refine bC (aj [1,2,6,7] rfl ?_);refine aq (af (ab 3 rfl (ae [1,6,7,38,39,40] ?_)));refine aD (jb (fun(i:Nat)(w:Value)(zs:List Value)=>vs.length-i) (fun(i:Nat)(w:Value)(zs:List Value)=>put (put (put (put (put (put (emp) 1 (.val (.slice Ao os.length co))) 6 (.box [.slice none 0 0,.slice none 0 0])) 7 (.box [.slice E1 p.free.length d1,w])) 38 (.val (.slice Av vs.length cv))) 39 (.val (.int .i64 (vs.length:Int)))) 40 (.val (.int .i64 (i:Int)))) (fun(i:Nat)(w:Value)(zs:List Value) H'=>fD gs H1 (ez (N+2)) 31 5 H' w (p.rows++((os.zip vs).map ZF).take i) zs∧i≤vs.length) 0 _ _ (⟨by rw[List.take_zero,List.append_nil];exact hG,Nat.zero_le _⟩) ay ?_);rintro i w zs H3 ⟨hG,hi⟩;obtain⟨W,cw,rfl⟩:=hG.form
  have pf:(p.rows++((os.zip vs).map ZF).take i).length=p.rows.length+i:=by rw[List.length_append,List.length_take,List.length_map,List.length_zip];omega
  have bU:=cn.trans hG.base;refine af (ab 1 rfl (ae [1,6,7,38,39,40,41] ?_));refine aq (az rfl (fun hb=> ?_) (fun hb=> ?_))
  ·
   have hiv:i<vs.length:=by simpa using hb
   obtain⟨q,hq⟩:∃q,vs[i]? = some q:=⟨_,List.getElem?_eq_getElem hiv⟩;obtain⟨o,pg⟩:∃o,os[i]? = some o:=⟨_,List.getElem?_eq_getElem (by omega)⟩
   have hz:((os.zip vs).map ZF)[i]? = some (o,2,q):=by rw[List.getElem?_map,Rq pg hq];rfl
   have ho5:=ho4 o (List.mem_of_getElem? pg);obtain⟨f1,B1,k1,e1,B2,k2,e2,jE,oc,KD⟩:=aH.qq x8 hq;obtain⟨Bo,cb,kK,gw⟩:=F5 tI pg;have hzb:=oc.size;refine ax (aj [1,6,7,38,39,40] rfl ?_);refine aq (aD (af (ab 1 rfl (cS (vs:=[.bool f1,.slice B1 k1 e1,.slice B2 k2 e2]) ag rfl rfl rfl rfl (jn.le (eM.trans hG.le)) rfl (by decide) KD (by omega) (by omega) fun _=>(bD cZ rfl (vr 1 ?_))))));obtain⟨ti,ak,al⟩:=bT;refine aM (.inl ⟨rfl,rfl⟩) rfl rfl rfl ak al rfl rfl rfl (ae [1,6,7,10,11,38,39,40] ?_);refine fc .bR [0,1,2,3,4,5,7,6,8,9,10,11,12,13] follows (by kernel_rfl) ?_;refine ab 4 rfl (a9 ag rfl rfl rfl rfl rfl ((je.le bU).le (bn _ _)) (by rw[Int.toNat_natCast];exact kK) (by omega) (by omega) fun _=> ?_);refine ab 1 rfl (aT rfl rfl (hG.call (RI (gw.le (cD N) bU) (by omega) (by omega))) (fun _ _ h=>h.le fun _ _ h=>h.1) ?_);rintro _ H5 ph;have iW:=hG.od (fO (N+2)) ph fun _ _ h=>h.1;obtain⟨⟨_,A5,c5,rfl,Cx⟩,_⟩:=ph;refine aT rfl rfl (iW.call (xd (oc.le (cn.trans iW.base)) (by omega))) (fun _ _ h=>h.le fun _ _ h=>h.1) ?_;rintro _ H6 pj;have hU:=iW.od (fO (N+2)) pj fun _ _ h=>h.1;obtain⟨⟨K9,ix⟩,_⟩:=pj
   obtain⟨f6,qw,qx,qy,qz,qA,qB,rfl⟩:=ix.form;have Cy:ez (N+2) (rem H6 (gs++aB (.slice W (p.rows++((os.zip vs).map ZF).take i).length cw))) [.slice A5 o.length c5,.int .i64 2,.bool f6,.slice qw qx qy,.slice qz qA qB] (o,2,q):=⟨_,_,_,_,rfl,Cx.le (cD (N+2)) K9,(dI.raw ix).mono (by omega)⟩;refine dH ag rfl gU rfl rfl (cU Tryz.underlying23 gU rfl rfl rfl rfl rfl rfl rfl ?_);intro gd ie;have km:=hU.ins (fO (N+2)) (whole (cz [.agg #[.slice A5 o.length c5,.int .i64 2,.bool f6,.slice qw qx qy,.slice qz qA qB]]) 31) ie;refine dY Tryz.underlying23 gU rfl rfl km.own (eH _ _ _ _ _ _) rfl (FR _ _ _ _ _ _ _ _ _ _ _) (by rw[pf];omega) (by rw[pf];omega) ?_;intro v8 H8 tw;have iz:=km.append (fO (N+2)) (j:=[(o,2,q)]) (by simp) tw (iq (fO (N+2) _ _ _ _ (uY _ (Heap.a0 _ ie)) Cy) rfl);obtain⟨F8,g8,rfl⟩:=iz.form;refine vr 1 ?_;obtain⟨ti,ak,al⟩:=G5;refine aM (.inr rfl) rfl rfl rfl ak al rfl rfl rfl (aA (aj [1,6,7,38,39,40] rfl ?_));refine aF rfl (aO rfl rfl ⟨by omega,by omega⟩ (ab 1 rfl (aA ?_)));exact⟨i+1,_,_,by omega,ay,by rw[KJ hz,←List.append_assoc];exact iz,by omega⟩
  have hb:vs.length≤i:=by simpa using hb
  obtain rfl:i=vs.length:=by omega
  have C4:((os.zip vs).map ZF).length=vs.length:=by rw[List.length_map,List.length_zip];omega
  have hR:=hG.sl (fO (N+2));have e9:((os.zip vs).map ZF).take vs.length=(os.zip vs).map ZF:=List.take_of_length_le (by omega);rw[e9]at hR⊢;have C2:=hG.out;refine bC (aj [6,7] rfl ?_);refine af (vr 1 ?_);obtain⟨ti,ak,al⟩:=qM;refine aM (.inl ⟨rfl,rfl⟩) rfl rfl rfl ak al rfl rfl rfl (ae [6] ?_);obtain⟨bO,aI,aJ⟩:=qM;refine aw ⟨.inr rfl,_,.agg rfl Tryz.underlying25 aI aJ (.nil),?_⟩;exact⟨⟨fun q hq=>(hG.same q hq).trans (im q hq),cn.trans C2⟩,_,_,_,_,_,_,rfl,_,_,rfl,Cw.le qm C2,by rw[ab3];exact hR⟩
theorem ab7{H:Heap}{v ov:Value}{p:Prg}{os:List (List Rat)}{N:Nat}(hp:dE N H v p)(ho:mg N H ov os)(cI:os.length≤9223372036854775807):
 Fn Tryz.prog 73 #[v,ov] H (fun v' H'=>H'=H∧∃e,v' = .int .i64 e∧yR p os e):=by
 obtain⟨fv,l7,rfl,eA,fa⟩:=id hp
 obtain⟨Af,cf,xf,rfl,kF,kG⟩:=eA.one
 obtain⟨Ar,cr,xr,rfl,iH,fQ,fA⟩:=id fa
 obtain⟨Ao,co,xo,rfl,lQ,je,tI⟩:=id ho;refine aW (args:=[_,_]) Tryz.func73 rfl rfl Tryz.ntmps73 rfl rfl fun w0=> ?_;refine aj [0,1] rfl ?_;refine af (bY rfl rfl (ab 1 rfl (ae [1,2] ?_)));refine aq (aD (af (ab 1 rfl (au rfl rfl (Cd hp) ?_))));rintro _ H1 ⟨e1,b1,rfl,dZ⟩;rw[e1];refine ab 2 rfl (ae [1,2,5] ?_);refine az rfl (fun hb=> ?_) (fun hb=> ?_)
 ·
  have wc:b1=false:=by simpa using hb
  subst wc;refine af (ab 1 rfl (ae [4] ?_));refine aw ⟨.inr rfl,_,.tmp rfl (.nil),?_⟩;exact⟨rfl,1,rfl,.inl ⟨fun h=>(by have h9:=dZ.2 h;cases h9),rfl⟩⟩
 ·
  have sW:b1=true:=by simpa using hb
  have a8:=dZ.1 sW;have rH:=a8.rows;refine af (ab 2 rfl (au rfl rfl (ab2 hp ho cI) ?_));rintro _ H2 ⟨e2,b2,rfl,bU⟩;rw[e2];refine ab 2 rfl (ae [1,2,9] ?_);refine az rfl (fun hb=> ?_) (fun hb=> ?_)
  ·
   have wc:b2=false:=by simpa using hb
   subst wc;refine af (ab 1 rfl (ae [4] ?_));refine aw ⟨.inr rfl,_,.tmp rfl (.nil),?_⟩;exact⟨rfl,21,rfl,.inr (.inl ⟨a8,fun h=>(by have h9:=bU.2 h;cases h9),rfl⟩)⟩
  have La:b2=true:=by simpa using hb
  have Lb:=bU.1 La
  by_cases h4:40<os.length
  ·
   skip
   refine af (ab 2 rfl (aS true rfl rfl (pO (by omega)) (ab 10 rfl (ae [14] ?_))));refine eL rfl (af (ab 1 rfl (ae [4] ?_)));refine aw ⟨.inr rfl,_,.tmp rfl (.nil),?_⟩;exact⟨rfl,9,rfl,.inr (.inr (.inl ⟨a8,Lb,.inl h4,rfl⟩))⟩
  skip
  refine af (ab 2 rfl (aS false rfl rfl (lO (by omega)) (ab 6 rfl (aO rfl rfl ⟨by omega,by omega⟩ (ab 3 rfl (ae [14] ?_))))));refine az rfl (fun hb=> ?_) (fun hb=> ?_)
  ·
   have h8i:(800:Int)<(p.rows.length:Int)+(os.length:Int):=by simpa using hb
   refine af (ab 1 rfl (ae [4] ?_));refine aw ⟨.inr rfl,_,.tmp rfl (.nil),?_⟩;exact⟨rfl,9,rfl,.inr (.inr (.inl ⟨a8,Lb,.inr (by omega),rfl⟩))⟩
  have h8i:(p.rows.length:Int)+(os.length:Int)≤800:=by simpa using hb
  refine ax (aj [] rfl ?_);refine af (ab 1 rfl (ae [4] ?_));refine aw ⟨.inr rfl,_,.tmp rfl (.nil),?_⟩;exact⟨rfl,0,rfl,.inr (.inr (.inr ⟨⟨a8,Lb,by omega,by omega⟩,rfl⟩))⟩
end Go.ar
