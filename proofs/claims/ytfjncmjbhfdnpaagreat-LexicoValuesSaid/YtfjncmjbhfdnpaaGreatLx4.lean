/- Walks over package lexico, part 4: fix. -/
import Derived.Test.YtfjncmjbhfdnpaaGreatA14
import Derived.Test.YtfjncmjbhfdnpaaGreatLx3
import Derived.Test.YtfjncmjbhfdnpaaGreatLsz
import Derived.Test.YtfjncmjbhfdnpaaGreatRat4
set_option linter.unusedVariables false
namespace Go.aw
open Go.Proofs Num Lp
theorem al0{H:Heap}{v:Value}{t:RC}{p:Prg}{q:Rat}{N M:Nat}(hp:ea N H v p)(hq:ct H t.v q N)(bx:p.Ok)(hn:0<p.free.length)(hN:N≤400000000)(hNM:N≤M)(hM:∀r,r∈p.rows→aP (r.2.2-fn r.1 0*q)≤M):
 Fn Tryz.prog 87 #[v,t.v] H (fun v' H'=>Heap.le H H'∧∃A1 k1 c1 A2 k2 c2,v' = .agg #[.slice A1 k1 c1,.slice A2 k2 c2]∧ea M H' v' (ix p q)):=by
 obtain⟨fv,fL,rfl,dO,eo⟩:=id hp
 obtain⟨Af,cf,xf,rfl,iv,gS⟩:=dO.one
 obtain⟨Ar,cr,xr,rfl,iM,eJ,gE⟩:=id eo
 have jF:=bx.iG
 have tZ:=bx.rows
 have hcF:=aR.cap dO
 have hzq:=hq.size;refine aZ (args:=[_,_]) Tryz.func87 rfl rfl Tryz.ntmps87 rfl rfl fun w0=> ?_;refine aj [0,1] rfl ?_;refine ag (bW rfl rfl (bW rfl rfl (bn p4 rfl (ae [2,3,4] ?_))));refine ag (ab 2 rfl (tt (l:=1) (h:=p.free.length) ah rfl rfl (.inr ⟨_,_,rfl,rfl⟩) (.inl ⟨rfl,rfl⟩) (by omega) (by omega) (aF rfl rfl (abP (dO.from (k:=1) (by omega)) (by rw[List.length_drop];omega)) ?_)));rintro _ H1 ⟨cH,CY⟩;obtain⟨E1,d1,_,rfl,_⟩:=id CY;refine de ah rfl p4 rfl rfl (bn p4 rfl ?_);obtain⟨ti,ak,al⟩:=p5;refine aI (.inl ⟨rfl,rfl⟩) rfl rfl rfl ak al rfl rfl rfl (ae [2,3,4,5] ?_);refine aq (ag (ab 4 rfl (ae [3,4,5,15,16,17] ?_)));refine aG (fG (fun(i:Nat)(w:Value)(ys:List Value)=>p.rows.length-i) (fun(i:Nat)(w:Value)(ys:List Value)=>put (put (put (put (put (put (emp) 3 (.box [.bool t.f,.slice t.A1 t.m1 t.c1,.slice t.A2 t.m2 t.c2])) 4 (.box [.slice none 0 0,.slice none 0 0])) 5 (.box [.slice E1 (p.free.drop 1).length d1,w])) 15 (.val (.slice Ar p.rows.length cr))) 16 (.val (.int .i64 (p.rows.length:Int)))) 17 (.val (.int .i64 (i:Int)))) (fun(i:Nat)(w:Value)(ys:List Value) H'=>ed (fA M) 78 5 H1 H' w ((p.rows.take i).map (fun r:List Rat×Int×Rat=>(r.1.drop 1,r.2.1,r.2.2-fn r.1 0*q))) ys∧i≤p.rows.length) 0 (.slice none 0 0) [] (⟨EX H1,Nat.zero_le _⟩) au ?_)
 rintro i w ys H2 ⟨hG,hi⟩;obtain⟨W,cw,rfl⟩:=hG.form
 have gm:((p.rows.take i).map (fun r:List Rat×Int×Rat=>(r.1.drop 1,r.2.1,r.2.2-fn r.1 0*q))).length=i:=by rw[List.length_map,List.length_take];omega
 have bU:=cH.trans hG.base;refine ag (ab 1 rfl (ae [3,4,5,15,16,17,18] ?_));refine aq (aD rfl (fun hb=> ?_) (fun hb=> ?_))
 ·
  have aU:i<p.rows.length:=by simpa using hb
  obtain⟨r,hr⟩:∃r,p.rows[i]? = some r:=⟨_,List.getElem?_eq_getElem aU⟩;have kf:=List.mem_of_getElem? hr;have XP:=(bx.row i r hr).1;obtain⟨A0,c0,f,A1,m1,c1,A2,m2,c2,ln,eT,lS,kC⟩:=aR.I0 gE hr;have mO:=eT.cap;obtain⟨A0',c0',x0,e0,anQ,tg,Dt⟩:=id eT
  cases e0
  obtain⟨a,hak⟩:∃a,r.1[0]? = some a:=⟨_,List.getElem?_eq_getElem (by omega)⟩;have nB:fn r.1 0=a:=mb hak;obtain⟨g6,G1,n1,o1,G2,n2,o2,Jz,pN,JA⟩:=aR.pI Dt hak;have pb:=pN.size;have oZ:=lS.size;have so:=vp a q;refine aA (aj [3,4,5,15,16,17] rfl ?_);refine aq (aG (ag (ck (vs:=[.slice A0 r.1.length c0,.int .i64 r.2.1,.bool f,.slice A1 m1 c1,.slice A2 m2 c2]) ah rfl rfl rfl rfl (eJ.le (cH.trans hG.le)) rfl (by decide) kC (by omega) (by omega) fun _=>(bn gL rfl ?_))));obtain⟨ti,ak,al⟩:=nY;refine aI (.inl ⟨rfl,rfl⟩) rfl rfl rfl ak al rfl rfl rfl (ae [3,4,5,7,15,16,17] ?_);refine bP .bJ [0,1,2,3,4,5,6,7,8,9,10] follows (by kernel_rfl) ?_;refine ab 4 rfl (ck (vs:=[.bool g6,.slice G1 n1 o1,.slice G2 n2 o2]) ah rfl rfl rfl rfl (tg.le (cH.trans hG.le)) rfl (by decide) JA (by omega) (by omega) fun _=>(ab 1 rfl (a8 rfl rfl (hG.call (Pv (N:=N) (pN.le bU) (hq.le bU) (by omega))) (fun _ _ h=>h.le fun _ _ h=>h.1) ?_)));rintro _ H5 kR;have gV:=hG.jK (fJ M) kR fun _ _ h=>h.1;obtain⟨⟨_,eW⟩,_⟩:=kR;obtain⟨f5,A51,m51,c51,A52,m52,c52,rfl⟩:=eW.form;refine a8 rfl rfl (gV.call (al1 (N:=2*N+4) ((lS.mono (by omega)).le (cH.trans gV.base)) ((bK.raw eW).mono (by omega)) (by omega))) (fun _ _ h=>h.le fun _ _ h=>h.1) ?_
  rintro _ H6 gw;have fC:=gV.jK (fJ M) gw fun _ _ h=>h.1;obtain⟨⟨_,iu⟩,_⟩:=gw;obtain⟨f6,oE,oF,oG,oH,oI,oJ,rfl⟩:=iu.form;have yl:fA M (rem H6 (aB (.slice W ((p.rows.take i).map (fun r:List Rat×Int×Rat=>(r.1.drop 1,r.2.1,r.2.2-fn r.1 0*q))).length cw))) [.slice (if c0=1 then A0 else A0.map (·.add (1*3))) (r.1.length-1) (c0-1),.int .i64 r.2.1,.bool f6,.slice oE oF oG,.slice oH oI oJ] (r.1.drop 1,r.2.1,r.2.2-fn r.1 0*q):=⟨_,_,_,_,rfl,((eT.le (dz N) (cH.trans fC.base)).from (k:=1) (by omega)).mono fun _ _ h=>bR.mono h hNM,by rw[nB];exact(bK.raw iu).mono (by have h9:=hM r kf;rwa [nB]at h9)⟩;refine bn bZ rfl ?_;obtain⟨ti,ak,al⟩:=a6;refine aI (.inl ⟨rfl,rfl⟩) rfl rfl rfl ak al rfl rfl rfl (ae [3,4,5,7,8,15,16,17] ?_);refine ep .bJ [0,1,2,3,4,5,6,7,8,9,10,11,12] follows (by kernel_rfl) ?_;refine ab 4 rfl (tt (l:=1) (h:=r.1.length) ah rfl rfl (.inr ⟨_,_,rfl,rfl⟩) (.inl ⟨rfl,rfl⟩) (by omega) (by omega) (ab 3 rfl (de ah rfl gL rfl rfl (cR Tryz.underlying23 gL rfl rfl rfl rfl rfl rfl rfl ?_))));intro gd iA;have fW:=fC.ins (fJ M) (whole (cF [.agg #[.slice (if c0=1 then A0 else A0.map (·.add (1*3))) (r.1.length-1) (c0-1),.int .i64 r.2.1,.bool f6,.slice oE oF oG,.slice oH oI oJ]]) 78) iA
  refine dK Tryz.underlying23 gL rfl rfl fW.own (dE _ _ _ _ _ _) rfl (EY _ _ _ _ _ _ _ _ _ _ _) (by rw[gm];omega) (by rw[gm];omega) ?_;intro v8 H8 jJ;have fV:=fW.append (fJ M) (k:=[(r.1.drop 1,r.2.1,r.2.2-fn r.1 0*q)]) (by simp) jJ (iE (fJ M _ _ _ _ (og _ (Heap.bC _ iA)) yl) rfl);obtain⟨F8,g8,rfl⟩:=fV.form;refine vr 1 ?_;obtain⟨ti,ak,al⟩:=Gd;refine aI (.inr rfl) rfl rfl rfl ak al rfl rfl rfl (az (aj [3,4,5,15,16,17] rfl ?_));refine aC rfl (aH rfl rfl ⟨by omega,by omega⟩ (ab 1 rfl (az ?_)));exact⟨i+1,_,_,by omega,au,by rw[I4 hr];exact fV,by omega⟩
 ·
  have hb:p.rows.length≤i:=by simpa using hb
  obtain rfl:i=p.rows.length:=by omega
  have hR:=hG.sl (fJ M);rw[List.take_length]at hR⊢;refine aW (aj [4,5] rfl ?_);refine ag (vr 1 ?_);obtain⟨ti,ak,al⟩:=p5;refine aI (.inl ⟨rfl,rfl⟩) rfl rfl rfl ak al rfl rfl rfl (ae [4] ?_);obtain⟨bQ,aN,aO⟩:=p5;refine aE ⟨.inr rfl,_,.agg rfl Tryz.underlying25 aN aO (.nil),?_⟩;exact⟨cH.trans hG.le,_,_,_,_,_,_,rfl,_,_,rfl,CY.le sK hG.le,hR⟩
end Go.aw
