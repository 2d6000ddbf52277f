/- Walks over package lexico, part 4: fix. -/
import Derived.Test.YtgjimcieaecdkaaGreatA10
import Derived.Test.YtgjimcieaecdkaaGreatLx3
import Derived.Test.YtgjimcieaecdkaaGreatLsz
import Derived.Test.YtgjimcieaecdkaaGreatRat4
set_option linter.unusedVariables false
namespace Go.ar
open Go.Proofs Num Lp
theorem aci{H:Heap}{v:Value}{t:RC}{p:Prg}{q:Rat}{N M:Nat}(hp:dE N H v p)(hq:bL H t.v q N)(a8:p.Ok)(hn:0<p.free.length)(hN:N≤400000000)(RY:N≤M)(hM:∀r,r∈p.rows→aK (r.2.2-fn r.1 0*q)≤M):
 Fn Tryz.prog 47 #[v,t.v] H (fun v' H'=>Heap.le H H'∧∃A1 k1 c1 A2 k2 c2,v' = .agg #[.slice A1 k1 c1,.slice A2 k2 c2]∧dE M H' v' (eT p q)):=by
 obtain⟨fv,l7,rfl,eA,fa⟩:=id hp
 obtain⟨Af,cf,xf,rfl,kF,kG⟩:=eA.one
 obtain⟨Ar,cr,xr,rfl,iH,fQ,fA⟩:=id fa
 have ep:=a8.gu
 have rH:=a8.rows
 have hcF:=aH.cap eA
 have hzq:=hq.size;refine aW (args:=[_,_]) Tryz.func47 rfl rfl Tryz.ntmps47 rfl rfl fun w0=> ?_;refine aj [0,1] rfl ?_;refine af (bY rfl rfl (bY rfl rfl (bD oG rfl (ae [2,3,4] ?_))));refine af (ab 2 rfl (qL (l:=1) (h:=p.free.length) ag rfl rfl (.inr ⟨_,_,rfl,rfl⟩) (.inl ⟨rfl,rfl⟩) (by omega) (by omega) (au rfl rfl (RH (eA.from (k:=1) (by omega)) (by rw[List.length_drop];omega)) ?_)));rintro _ H1 ⟨cn,Cw⟩;obtain⟨E1,d1,_,rfl,_⟩:=id Cw;refine dH ag rfl oG rfl rfl (bD oG rfl ?_);obtain⟨ti,ak,al⟩:=qM;refine aM (.inl ⟨rfl,rfl⟩) rfl rfl rfl ak al rfl rfl rfl (ae [2,3,4,5] ?_);refine aq (af (ab 4 rfl (ae [3,4,5,15,16,17] ?_)));refine aD (jb (fun(i:Nat)(w:Value)(ys:List Value)=>p.rows.length-i) (fun(i:Nat)(w:Value)(ys:List Value)=>put (put (put (put (put (put (emp) 3 (.box [.bool t.f,.slice t.A1 t.m1 t.c1,.slice t.A2 t.m2 t.c2])) 4 (.box [.slice none 0 0,.slice none 0 0])) 5 (.box [.slice E1 (p.free.drop 1).length d1,w])) 15 (.val (.slice Ar p.rows.length cr))) 16 (.val (.int .i64 (p.rows.length:Int)))) 17 (.val (.int .i64 (i:Int)))) (fun(i:Nat)(w:Value)(ys:List Value) H'=>dL (ez M) 31 5 H1 H' w ((p.rows.take i).map (fun r:List Rat×Int×Rat=>(r.1.drop 1,r.2.1,r.2.2-fn r.1 0*q))) ys∧i≤p.rows.length) 0 (.slice none 0 0) [] (⟨Ck H1,Nat.zero_le _⟩) ay ?_)
 rintro i w ys H2 ⟨hG,hi⟩;obtain⟨W,cw,rfl⟩:=hG.form
 have pf:((p.rows.take i).map (fun r:List Rat×Int×Rat=>(r.1.drop 1,r.2.1,r.2.2-fn r.1 0*q))).length=i:=by rw[List.length_map,List.length_take];omega
 have bU:=cn.trans hG.base;refine af (ab 1 rfl (ae [3,4,5,15,16,17,18] ?_));refine aq (az rfl (fun hb=> ?_) (fun hb=> ?_))
 ·
  have dX:i<p.rows.length:=by simpa using hb
  obtain⟨r,hr⟩:∃r,p.rows[i]? = some r:=⟨_,List.getElem?_eq_getElem dX⟩;have lq:=List.mem_of_getElem? hr;have OT:=(a8.row i r hr).1;obtain⟨A0,c0,f,A1,m1,c1,A2,m2,c2,jE,gw,oc,jK⟩:=aH.KB fA hr;have nL:=gw.cap;obtain⟨A0',c0',x0,e0,ad3,qG,Dl⟩:=id gw
  cases e0
  obtain⟨a,RZ⟩:∃a,r.1[0]? = some a:=⟨_,List.getElem?_eq_getElem (by omega)⟩;have j5:fn r.1 0=a:=iu RZ;obtain⟨g6,G1,n1,o1,G2,n2,o2,acj,Gj,ack⟩:=aH.qq Dl RZ;have sN:=Gj.size;have kX:=oc.size;have xY:=pU a q;refine ax (aj [3,4,5,15,16,17] rfl ?_);refine aq (aD (af (cS (vs:=[.slice A0 r.1.length c0,.int .i64 r.2.1,.bool f,.slice A1 m1 c1,.slice A2 m2 c2]) ag rfl rfl rfl rfl (fQ.le (cn.trans hG.le)) rfl (by decide) jK (by omega) (by omega) fun _=>(bD gU rfl ?_))));obtain⟨ti,ak,al⟩:=ux;refine aM (.inl ⟨rfl,rfl⟩) rfl rfl rfl ak al rfl rfl rfl (ae [3,4,5,7,15,16,17] ?_);refine cg .bR [0,1,2,3,4,5,6,7,8,9,10] follows (by kernel_rfl) ?_;refine ab 4 rfl (cS (vs:=[.bool g6,.slice G1 n1 o1,.slice G2 n2 o2]) ag rfl rfl rfl rfl (qG.le (cn.trans hG.le)) rfl (by decide) ack (by omega) (by omega) fun _=>(ab 1 rfl (aT rfl rfl (hG.call (HR (N:=N) (Gj.le bU) (hq.le bU) (by omega))) (fun _ _ h=>h.le fun _ _ h=>h.1) ?_)));rintro _ H5 ph;have iW:=hG.od (fO M) ph fun _ _ h=>h.1;obtain⟨⟨_,p8⟩,_⟩:=ph;obtain⟨f5,A51,m51,c51,A52,m52,c52,rfl⟩:=p8.form;refine aT rfl rfl (iW.call (acm (N:=2*N+4) ((oc.mono (by omega)).le (cn.trans iW.base)) ((dI.raw p8).mono (by omega)) (by omega))) (fun _ _ h=>h.le fun _ _ h=>h.1) ?_
  rintro _ H6 pj;have hU:=iW.od (fO M) pj fun _ _ h=>h.1;obtain⟨⟨_,ix⟩,_⟩:=pj;obtain⟨f6,qw,qx,qy,qz,qA,qB,rfl⟩:=ix.form;have Cy:ez M (rem H6 (aB (.slice W ((p.rows.take i).map (fun r:List Rat×Int×Rat=>(r.1.drop 1,r.2.1,r.2.2-fn r.1 0*q))).length cw))) [.slice (if c0=1 then A0 else A0.map (·.add (1*3))) (r.1.length-1) (c0-1),.int .i64 r.2.1,.bool f6,.slice qw qx qy,.slice qz qA qB] (r.1.drop 1,r.2.1,r.2.2-fn r.1 0*q):=⟨_,_,_,_,rfl,((gw.le (cD N) (cn.trans hU.base)).from (k:=1) (by omega)).mono fun _ _ h=>bJ.mono h RY,by rw[j5];exact(dI.raw ix).mono (by have h9:=hM r lq;rwa [j5]at h9)⟩;refine bD cZ rfl ?_;obtain⟨ti,ak,al⟩:=bT;refine aM (.inl ⟨rfl,rfl⟩) rfl rfl rfl ak al rfl rfl rfl (ae [3,4,5,7,8,15,16,17] ?_);refine fc .bR [0,1,2,3,4,5,6,7,8,9,10,11,12] follows (by kernel_rfl) ?_;refine ab 4 rfl (qL (l:=1) (h:=r.1.length) ag rfl rfl (.inr ⟨_,_,rfl,rfl⟩) (.inl ⟨rfl,rfl⟩) (by omega) (by omega) (ab 3 rfl (dH ag rfl gU rfl rfl (cU Tryz.underlying23 gU rfl rfl rfl rfl rfl rfl rfl ?_))));intro gd ie;have km:=hU.ins (fO M) (whole (cz [.agg #[.slice (if c0=1 then A0 else A0.map (·.add (1*3))) (r.1.length-1) (c0-1),.int .i64 r.2.1,.bool f6,.slice qw qx qy,.slice qz qA qB]]) 31) ie
  refine dY Tryz.underlying23 gU rfl rfl km.own (eH _ _ _ _ _ _) rfl (FR _ _ _ _ _ _ _ _ _ _ _) (by rw[pf];omega) (by rw[pf];omega) ?_;intro v8 H8 tw;have iz:=km.append (fO M) (k:=[(r.1.drop 1,r.2.1,r.2.2-fn r.1 0*q)]) (by simp) tw (iq (fO M _ _ _ _ (uY _ (Heap.a0 _ ie)) Cy) rfl);obtain⟨F8,g8,rfl⟩:=iz.form;refine vr 1 ?_;obtain⟨ti,ak,al⟩:=G5;refine aM (.inr rfl) rfl rfl rfl ak al rfl rfl rfl (aA (aj [3,4,5,15,16,17] rfl ?_));refine aF rfl (aO rfl rfl ⟨by omega,by omega⟩ (ab 1 rfl (aA ?_)));exact⟨i+1,_,_,by omega,ay,by rw[tms hr];exact iz,by omega⟩
 ·
  have hb:p.rows.length≤i:=by simpa using hb
  obtain rfl:i=p.rows.length:=by omega
  have hR:=hG.sl (fO M);rw[List.take_length]at hR⊢;refine bC (aj [4,5] rfl ?_);refine af (vr 1 ?_);obtain⟨ti,ak,al⟩:=qM;refine aM (.inl ⟨rfl,rfl⟩) rfl rfl rfl ak al rfl rfl rfl (ae [4] ?_);obtain⟨bO,aI,aJ⟩:=qM;refine aw ⟨.inr rfl,_,.agg rfl Tryz.underlying25 aI aJ (.nil),?_⟩;exact⟨cn.trans hG.le,_,_,_,_,_,_,rfl,_,_,rfl,Cw.le qm hG.le,hR⟩
end Go.ar
