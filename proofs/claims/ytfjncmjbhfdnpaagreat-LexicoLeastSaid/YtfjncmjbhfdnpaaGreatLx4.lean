/- Walks over package lexico, part 4: fix. -/
import Derived.Test.YtfjncmjbhfdnpaaGreatA14
import Derived.Test.YtfjncmjbhfdnpaaGreatLx3
import Derived.Test.YtfjncmjbhfdnpaaGreatLsz
import Derived.Test.YtfjncmjbhfdnpaaGreatRat4
set_option linter.unusedVariables false
namespace Go.au
open Go.Proofs Num Lp
theorem al5{H:Heap}{v:Value}{t:RC}{p:Prg}{q:Rat}{N M:Nat}(hp:eH N H v p)(hq:cn H t.v q N)(a8:p.Ok)(hn:0<p.free.length)(hN:N≤400000000)(hNM:N≤M)(hM:∀r,r∈p.rows→aO (r.2.2-fn r.1 0*q)≤M):
 Fn Tryz.prog 87 #[v,t.v] H (fun v' H'=>Heap.le H H'∧∃A1 k1 c1 A2 k2 c2,v' = .agg #[.slice A1 k1 c1,.slice A2 k2 c2]∧eH M H' v' (ie p q)):=by
 obtain⟨fv,gB,rfl,eI,fk⟩:=id hp
 obtain⟨Af,cf,xf,rfl,jk,jl⟩:=eI.one
 obtain⟨Ar,cr,xr,rfl,jL,fy,iE⟩:=id fk
 have jf:=a8.iu
 have vD:=a8.rows
 have hcF:=aR.cap eI
 have hzq:=hq.size;refine a7 (args:=[_,_]) Tryz.func87 rfl rfl Tryz.ntmps87 rfl rfl fun w0=> ?_;refine aj [0,1] rfl ?_;refine ag (bX rfl rfl (bX rfl rfl (bt uL rfl (ae [2,3,4] ?_))));refine ag (ab 2 rfl (tk (l:=1) (h:=p.free.length) ah rfl rfl (.inr ⟨_,_,rfl,rfl⟩) (.inl ⟨rfl,rfl⟩) (by omega) (by omega) (aE rfl rfl (abQ (eI.from (k:=1) (by omega)) (by rw[List.length_drop];omega)) ?_)));rintro _ H1 ⟨cH,JS⟩;obtain⟨E1,d1,_,rfl,_⟩:=id JS;refine dy ah rfl uL rfl rfl (bt uL rfl ?_);obtain⟨ti,ak,al⟩:=wk;refine aH (.inl ⟨rfl,rfl⟩) rfl rfl rfl ak al rfl rfl rfl (ae [2,3,4,5] ?_);refine ao (ag (ab 4 rfl (ae [3,4,5,15,16,17] ?_)));refine aF (fZ (fun(i:Nat)(w:Value)(ys:List Value)=>p.rows.length-i) (fun(i:Nat)(w:Value)(ys:List Value)=>put (put (put (put (put (put (emp) 3 (.box [.bool t.f,.slice t.A1 t.m1 t.c1,.slice t.A2 t.m2 t.c2])) 4 (.box [.slice none 0 0,.slice none 0 0])) 5 (.box [.slice E1 (p.free.drop 1).length d1,w])) 15 (.val (.slice Ar p.rows.length cr))) 16 (.val (.int .i64 (p.rows.length:Int)))) 17 (.val (.int .i64 (i:Int)))) (fun(i:Nat)(w:Value)(ys:List Value) H'=>ea (fu M) 78 5 H1 H' w ((p.rows.take i).map (fun r:List Rat×Int×Rat=>(r.1.drop 1,r.2.1,r.2.2-fn r.1 0*q))) ys∧i≤p.rows.length) 0 (.slice none 0 0) [] (⟨IK H1,Nat.zero_le _⟩) ar ?_)
 rintro i w ys H2 ⟨hG,hi⟩;obtain⟨W,cw,rfl⟩:=hG.form
 have jq:((p.rows.take i).map (fun r:List Rat×Int×Rat=>(r.1.drop 1,r.2.1,r.2.2-fn r.1 0*q))).length=i:=by rw[List.length_map,List.length_take];omega
 have cD:=cH.trans hG.base;refine ag (ab 1 rfl (ae [3,4,5,15,16,17,18] ?_));refine ao (aC rfl (fun hb=> ?_) (fun hb=> ?_))
 ·
  have aT:i<p.rows.length:=by simpa using hb
  obtain⟨r,hr⟩:∃r,p.rows[i]? = some r:=⟨_,List.getElem?_eq_getElem aT⟩;have j8:=List.mem_of_getElem? hr;have XS:=(a8.row i r hr).1;obtain⟨A0,c0,f,A1,m1,c1,A2,m2,c2,lX,fH,qc,me⟩:=aR.MF iE hr;have mE:=fH.cap;obtain⟨A0',c0',x0,e0,anV,s8,Dk⟩:=id fH
  cases e0
  obtain⟨a,hak⟩:∃a,r.1[0]? = some a:=⟨_,List.getElem?_eq_getElem (by omega)⟩;have nx:fn r.1 0=a:=kT hak;obtain⟨g6,G1,n1,o1,G2,n2,o2,Jk,pB,Jl⟩:=aR.qW Dk hak;have oP:=pB.size;have oK:=qc.size;have rY:=vc a q;refine aA (aj [3,4,5,15,16,17] rfl ?_);refine ao (aF (ag (ck (vs:=[.slice A0 r.1.length c0,.int .i64 r.2.1,.bool f,.slice A1 m1 c1,.slice A2 m2 c2]) ah rfl rfl rfl rfl (fy.le (cH.trans hG.le)) rfl (by decide) me (by omega) (by omega) fun _=>(bt gY rfl ?_))));obtain⟨ti,ak,al⟩:=nM;refine aH (.inl ⟨rfl,rfl⟩) rfl rfl rfl ak al rfl rfl rfl (ae [3,4,5,7,15,16,17] ?_);refine bO .bL [0,1,2,3,4,5,6,7,8,9,10] follows (by kernel_rfl) ?_;refine ab 4 rfl (ck (vs:=[.bool g6,.slice G1 n1 o1,.slice G2 n2 o2]) ah rfl rfl rfl rfl (s8.le (cH.trans hG.le)) rfl (by decide) Jl (by omega) (by omega) fun _=>(ab 1 rfl (bm rfl rfl (hG.call (Pz (N:=N) (pB.le cD) (hq.le cD) (by omega))) (fun _ _ h=>h.le fun _ _ h=>h.1) ?_)));rintro _ H5 mV;have jQ:=hG.kV (gm M) mV fun _ _ h=>h.1;obtain⟨⟨_,ep⟩,_⟩:=mV;obtain⟨f5,A51,m51,c51,A52,m52,c52,rfl⟩:=ep.form;refine bm rfl rfl (jQ.call (al6 (N:=2*N+4) ((qc.mono (by omega)).le (cH.trans jQ.base)) ((bJ.raw ep).mono (by omega)) (by omega))) (fun _ _ h=>h.le fun _ _ h=>h.1) ?_
  rintro _ H6 iH;have fK:=jQ.kV (gm M) iH fun _ _ h=>h.1;obtain⟨⟨_,jO⟩,_⟩:=iH;obtain⟨f6,vT,vU,vV,vW,vX,vY,rfl⟩:=jO.form;have CQ:fu M (rem H6 (az (.slice W ((p.rows.take i).map (fun r:List Rat×Int×Rat=>(r.1.drop 1,r.2.1,r.2.2-fn r.1 0*q))).length cw))) [.slice (if c0=1 then A0 else A0.map (·.add (1*3))) (r.1.length-1) (c0-1),.int .i64 r.2.1,.bool f6,.slice vT vU vV,.slice vW vX vY] (r.1.drop 1,r.2.1,r.2.2-fn r.1 0*q):=⟨_,_,_,_,rfl,((fH.le (dI N) (cH.trans fK.base)).from (k:=1) (by omega)).mono fun _ _ h=>bN.mono h hNM,by rw[nx];exact(bJ.raw jO).mono (by have h9:=hM r j8;rwa [nx]at h9)⟩;refine bt bY rfl ?_;obtain⟨ti,ak,al⟩:=aY;refine aH (.inl ⟨rfl,rfl⟩) rfl rfl rfl ak al rfl rfl rfl (ae [3,4,5,7,8,15,16,17] ?_);refine eu .bL [0,1,2,3,4,5,6,7,8,9,10,11,12] follows (by kernel_rfl) ?_;refine ab 4 rfl (tk (l:=1) (h:=r.1.length) ah rfl rfl (.inr ⟨_,_,rfl,rfl⟩) (.inl ⟨rfl,rfl⟩) (by omega) (by omega) (ab 3 rfl (dy ah rfl gY rfl rfl (cW Tryz.underlying23 gY rfl rfl rfl rfl rfl rfl rfl ?_))));intro gd ju;have iI:=fK.ins (gm M) (whole (cG [.agg #[.slice (if c0=1 then A0 else A0.map (·.add (1*3))) (r.1.length-1) (c0-1),.int .i64 r.2.1,.bool f6,.slice vT vU vV,.slice vW vX vY]]) 78) ju
  refine dR Tryz.underlying23 gY rfl rfl iI.own (dD _ _ _ _ _ _) rfl (IM _ _ _ _ _ _ _ _ _ _ _) (by rw[jq];omega) (by rw[jq];omega) ?_;intro v8 H8 kL;have gn:=iI.append (gm M) (k:=[(r.1.drop 1,r.2.1,r.2.2-fn r.1 0*q)]) (by simp) kL (iP (gm M _ _ _ _ (qB _ (Heap.bB _ ju)) CQ) rfl);obtain⟨F8,g8,rfl⟩:=gn.form;refine vr 1 ?_;obtain⟨ti,ak,al⟩:=Ko;refine aH (.inr rfl) rfl rfl rfl ak al rfl rfl rfl (aw (aj [3,4,5,15,16,17] rfl ?_));refine aB rfl (aG rfl rfl ⟨by omega,by omega⟩ (ab 1 rfl (aw ?_)));exact⟨i+1,_,_,by omega,ar,by rw[IN hr];exact gn,by omega⟩
 ·
  have hb:p.rows.length≤i:=by simpa using hb
  obtain rfl:i=p.rows.length:=by omega
  have hR:=hG.sl (gm M);rw[List.take_length]at hR⊢;refine aV (aj [4,5] rfl ?_);refine ag (vr 1 ?_);obtain⟨ti,ak,al⟩:=wk;refine aH (.inl ⟨rfl,rfl⟩) rfl rfl rfl ak al rfl rfl rfl (ae [4] ?_);obtain⟨bQ,aM,aN⟩:=wk;refine aD ⟨.inr rfl,_,.agg rfl Tryz.underlying25 aM aN (.nil),?_⟩;exact⟨cH.trans hG.le,_,_,_,_,_,_,rfl,_,_,rfl,JS.le qP hG.le,hR⟩
end Go.au
