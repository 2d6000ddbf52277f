/- Walks over package simplex, simplex.go, part 3: Feasible, signed. -/
import Derived.Test.YtfjncmjbhfdnpaaGreatA15
import Derived.Test.YtfjncmjbhfdnpaaGreatSmp2
set_option linter.unusedVariables false
namespace Go.ar
open Go.Proofs Num Lp
theorem Ia{H:Heap}{v:Value}{p:Prg}{N:Nat}(hp:eJ N H v p)(bg:p.Ok):Fn Tryz.prog 47 #[v] H (qX H (.bool true)):=
 (PT hp).mono fun v H' ⟨h1,b,h2,h3⟩=>⟨h1,by rw[h2,h3.2 bg]⟩
theorem Sf{H:Heap}{v:Value}{p:Prg}{N:Nat}(hp:eJ N H v p)(bg:¬p.Ok):Fn Tryz.prog 47 #[v] H (qX H (.bool false)):=
 (PT hp).mono fun v H' ⟨h1,b,h2,h3⟩=>⟨h1,by
  cases b with
  | false=>exact h2
  | true=>exact absurd (h3.1 rfl) bg⟩
theorem aad{H:Heap}{v xv:Value}{p:Prg}{x:List Rat}{N:Nat}(hp:eJ N H v p)(hx:aR (ck N) 3 H xv x)(me:(x.length:Int)≤1099511627776)(hN:N≤1299999998):
 Fn Tryz.prog 88 #[v,xv] H (fun v H'=>Heap.le H H'∧∃b,v = .bool b∧(b=true↔zP p x)):=by
 obtain⟨fv,fN,rfl,eo,ep⟩:=id hp
 obtain⟨Af,cf,xf,rfl,gZ,hO⟩:=eo.one
 obtain⟨Ar,cr,xr,rfl,eK,fO⟩:=ep.row
 obtain⟨Ax,cx,xx,rfl,HX,HY⟩:=hx.rat;refine aZ (args:=[_,_]) Tryz.func88 rfl rfl Tryz.ntmps88 rfl rfl fun w0=> ?_;refine ag [0,1] rfl ?_;refine ab ?_;refine bS rfl rfl ?_;refine vr 1 ?_;refine aa [1,2] ?_
 by_cases bg:p.Ok
 ·
  skip
  by_cases cB:x.length=p.free.length
  ·
   skip
   refine bJ .bF [0,1,2,3,4,5,6,7,8,9,10,11,12,13,14,15,16,17] follows (by kernel_rfl) ?_;refine vr 1 ?_;refine aO rfl rfl (Ia hp bg) (fun _ _ h=>by first | exact h.le | exact h.1) ?_;rintro v1 H1 ⟨e1,rfl⟩;rw[e1];refine vr 6 ?_;refine aA true rfl rfl (fk (by omega)) ?_;refine vr 4 ?_;refine aO rfl rfl (ui hx (by omega) me) (fun _ _ h=>by first | exact h.le | exact h.1) ?_;rintro v2 H2 ⟨bh,jn⟩;refine aO rfl rfl (pe) (fun _ _ h=>by first | exact h.le | exact h.1) ?_;rintro v3 H3 ⟨e3,rfl⟩;rw[e3];refine aO rfl rfl (Se (t:=1) (M:=N+2) (hp.le bh) bg jn cB (pd H2 (n:=1) (by decide) (by decide)) (by decide) hx.jF (by omega) (by omega)) (fun _ _ h=>by first | exact h.le | exact h.1) ?_;rintro v4 H4 ⟨cE,b4,rfl,AI⟩;refine vr 2 ?_;refine aa [4] ?_;refine az ⟨.inr rfl,_,.tmp rfl (.nil),?_⟩;exact⟨bh.trans cE,b4,rfl,⟨(fun h=>⟨bg,cB,AI.1 h⟩),fun h=>AI.2 h.meets⟩⟩
  ·
   skip
   refine bJ .bF [0,1,2,3,4,5,6,7,8,9,10,11,12,13,14,15,16,17] follows (by kernel_rfl) ?_;refine vr 1 ?_;refine aO rfl rfl (Ia hp bg) (fun _ _ h=>by first | exact h.le | exact h.1) ?_;rintro v1 H1 ⟨e1,rfl⟩;rw[e1];refine vr 6 ?_;refine aA false rfl rfl (gI (by omega)) ?_;refine vr 9 ?_;refine aa [4] ?_;refine az ⟨.inr rfl,_,.tmp rfl (.nil),?_⟩;exact⟨.refl _,false,rfl,⟨(fun h=>by cases h),(fun h=>absurd h.len cB)⟩⟩
 ·
  skip
  refine bJ .bF [0,1,2,3,4,5,6,7,8,9,10,11,12,13,14,15,16,17] follows (by kernel_rfl) ?_;refine vr 1 ?_;refine aO rfl rfl (Sf hp bg) (fun _ _ h=>by first | exact h.le | exact h.1) ?_;rintro v1 H1 ⟨e1,rfl⟩;rw[e1];refine vr 16 ?_;refine aa [4] ?_;refine az ⟨.inr rfl,_,.tmp rfl (.nil),?_⟩;exact⟨.refl _,false,rfl,⟨(fun h=>by cases h),(fun h=>absurd h.ok bg)⟩⟩
theorem aae{H:Heap}{v yv:Value}{p:Prg}{y:List Rat}{N:Nat}(hp:eJ N H v p)(bg:p.Ok)(hy:aR (ck N) 3 H yv y)(hN:N≤1299999998):
 Fn Tryz.prog 162 #[v,yv] H (fun v H'=>Heap.le H H'∧∃b,v = .bool b∧(b=true↔y.length=p.rows.length∧p.lp.Signed (fn y))):=by
 obtain⟨fv,fN,rfl,eo,ep⟩:=id hp
 obtain⟨Af,cf,xf,rfl,gZ,hO⟩:=eo.one
 obtain⟨Ar,cr,xr,rfl,eK,fO⟩:=ep.row
 obtain⟨Ay,cy,xy,rfl,BN,BO⟩:=hy.rat
 have uL:=bg.rows;refine aZ (args:=[_,_]) Tryz.func162 rfl rfl Tryz.ntmps162 rfl rfl fun w0=> ?_;refine ag [0,1] rfl ?_;refine ab ?_;refine bS rfl rfl ?_;refine vr 1 ?_;refine aa [1,2] ?_;refine al ?_;refine ab ?_;refine vr 6 ?_;refine aa [1,2,13] ?_;refine aB rfl (fun hb=> ?_) (fun hb=> ?_)
 ·
  have hb:¬y.length=p.rows.length:=by simpa [Int.natCast_inj]using hb
  refine ab ?_;refine vr 1 ?_;refine aa [4] ?_;refine az ⟨.inr rfl,_,.tmp rfl (.nil),?_⟩;exact⟨.refl _,false,rfl,⟨(fun h=>by cases h),(fun h=>absurd h.1 hb)⟩⟩
 ·
  have jb:y.length=p.rows.length:=by simpa [Int.natCast_inj]using hb
  rw[jb];refine au ?_;refine ag [1,2] rfl ?_;refine al ?_;refine ab ?_;refine vr 4 ?_;refine aa [1,15,16,17] ?_;refine aC ?_;refine fZ (fun(i:Nat)=>p.rows.length-i) (fun(i:Nat)=>put (put (put (put (emp) 1 (.val (.slice Ay p.rows.length cy))) 15 (.val (.slice Ar p.rows.length cr))) 16 (.val (.int .i64 (p.rows.length:Int)))) 17 (.val (.int .i64 (i:Int)))) (fun(i:Nat) H'=>Heap.le H H'∧(∀k,k<i→(p.lp.rel k=3→0≤fn y k)∧(p.lp.rel k=1→fn y k≤0))∧i≤p.rows.length) 0 (⟨.refl _,(fun j h=>by omega),Nat.zero_le _⟩) an ?_;rintro i H1 ⟨bH,fT,hi⟩;refine ab ?_;refine vr 1 ?_;refine aa [1,15,16,17,18] ?_;refine al ?_;refine aB rfl (fun hb=> ?_) (fun hb=> ?_)
  ·
   have aQ:i<p.rows.length:=by simpa using hb
   obtain⟨r,hr⟩:∃r,p.rows[i]? = some r:=⟨_,List.getElem?_eq_getElem aQ⟩;obtain⟨A0,c0,f,A1,m1,c1,A2,m2,c2,fS,jV⟩:=fO i r hr
   have jW:p.lp.rel i=r.2.1:=by show (p.row i).2.1=_;rw[Prg.m8 hr]
   obtain⟨q,dL⟩:∃q,y[i]? = some q:=⟨_,List.getElem?_eq_getElem (by omega)⟩;obtain⟨g,B1,k1,e1,B2,k2,e2,tm,wg⟩:=BO i q dL;have gp:fn y i=q:=jC dL;refine au ?_;refine ag [1,15,16,17] rfl ?_;refine al ?_;refine aC ?_;refine ab ?_;refine vr 1 ?_;refine bR (vs:=[.slice A0 r.1.length c0,.int .i64 r.2.1,.bool f,.slice A1 m1 c1,.slice A2 m2 c2]) ae rfl rfl rfl rfl (eK.le bH) rfl (by decide) jV (by omega) (by omega) fun _=> ?_;refine bt kR rfl ?_;refine vr 1 ?_;obtain⟨ti,aj,ak⟩:=mq;refine aJ (.inl ⟨rfl,rfl⟩) rfl rfl rfl aj ak rfl rfl rfl ?_;refine aa [1,5,6,15,16,17] ?_;refine ab ?_;refine vr 2 ?_;refine bR (vs:=[.bool g,.slice B1 k1 e1,.slice B2 k2 e2]) ae rfl rfl rfl rfl (BN.le bH) rfl (by decide) wg (by omega) (by omega) fun _=> ?_;refine aw rfl rfl (vC (tm.le bH) (by omega)) ?_;rintro v2 H2 ⟨bh,rfl⟩;refine vr 1 ?_;refine aa [1,6,7,15,16,17] ?_
   by_cases h3:r.2.1=3
   ·
    skip
    by_cases hs:fo q<0
    ·
     skip
     refine ab ?_;refine vr 2 ?_;refine aA true rfl rfl (fk h3) ?_;refine vr 2 ?_;refine aA true rfl rfl (iz hs) ?_;refine vr 10 ?_;refine aa [1,15,16,17,42] ?_;refine cD rfl ?_;refine ab ?_;refine vr 1 ?_;refine aa [4] ?_;refine az ⟨.inr rfl,_,.tmp rfl (.nil),?_⟩;exact⟨bH.trans bh,false,rfl,⟨(fun h=>by cases h),(fun h=>by have h9:=(h.2 i aQ).1 (by omega);rw[gp]at h9;have h8:=qe.2 h9;omega)⟩⟩
    ·
     skip
     refine ab ?_;refine vr 2 ?_;refine aA true rfl rfl (fk h3) ?_;refine vr 2 ?_;refine aA false rfl rfl (fQ (by omega)) ?_;refine vr 4 ?_;refine aA false rfl rfl (gI (by omega)) ?_;refine vr 5 ?_;refine aa [1,15,16,17,42] ?_;refine cU rfl ?_;refine au ?_;refine ag [1,15,16,17] rfl ?_;refine av rfl ?_;refine aD rfl rfl ⟨by omega,by omega⟩ ?_;refine vr 1 ?_;refine aq ?_;exact⟨i+1,by omega,an,bH.trans bh,(fun k hk=>by by_cases h9:k<i;exact fT k h9;(obtain rfl:k=i:=by omega);rw[jW,gp];exact⟨fun _=>qe.1 (by omega),fun e=>by omega⟩),by omega⟩
   ·
    skip
    by_cases h1:r.2.1=1
    ·
     skip
     by_cases hs:0<fo q
     ·
      skip
      refine ab ?_;refine vr 2 ?_;refine aA false rfl rfl (gI h3) ?_;refine vr 7 ?_;refine aA true rfl rfl (fk h1) ?_;refine vr 2 ?_;refine aA true rfl rfl (kS hs) ?_;refine vr 2 ?_;refine aa [1,15,16,17,42] ?_;refine cD rfl ?_;refine ab ?_;refine vr 1 ?_;refine aa [4] ?_;refine az ⟨.inr rfl,_,.tmp rfl (.nil),?_⟩;exact⟨bH.trans bh,false,rfl,⟨(fun h=>by cases h),(fun h=>by have h9:=(h.2 i aQ).2 (by omega);rw[gp]at h9;have h8:=ur.2 h9;omega)⟩⟩
     ·
      skip
      refine ab ?_;refine vr 2 ?_;refine aA false rfl rfl (gI h3) ?_;refine vr 7 ?_;refine aA true rfl rfl (fk h1) ?_;refine vr 2 ?_;refine aA false rfl rfl (gA (by omega)) ?_;refine vr 2 ?_;refine aa [1,15,16,17,42] ?_;refine cU rfl ?_;refine au ?_;refine ag [1,15,16,17] rfl ?_;refine av rfl ?_;refine aD rfl rfl ⟨by omega,by omega⟩ ?_;refine vr 1 ?_;refine aq ?_;exact⟨i+1,by omega,an,bH.trans bh,(fun k hk=>by by_cases h9:k<i;exact fT k h9;(obtain rfl:k=i:=by omega);rw[jW,gp];exact⟨fun e=>by omega,fun _=>ur.1 (by omega)⟩),by omega⟩
    ·
     skip
     refine ab ?_;refine vr 2 ?_;refine aA false rfl rfl (gI h3) ?_;refine vr 7 ?_;refine aA false rfl rfl (gI h1) ?_;refine vr 5 ?_;refine aa [1,15,16,17,42] ?_;refine cU rfl ?_;refine au ?_;refine ag [1,15,16,17] rfl ?_;refine av rfl ?_;refine aD rfl rfl ⟨by omega,by omega⟩ ?_;refine vr 1 ?_;refine aq ?_;exact⟨i+1,by omega,an,bH.trans bh,(fun k hk=>by by_cases h9:k<i;exact fT k h9;(obtain rfl:k=i:=by omega);rw[jW,gp];exact⟨fun e=>by omega,fun e=>by omega⟩),by omega⟩
  ·
   have hb:p.rows.length≤i:=by simpa using hb
   refine aU ?_;refine ag [] rfl ?_;refine ab ?_;refine vr 1 ?_;refine aa [4] ?_;refine az ⟨.inr rfl,_,.tmp rfl (.nil),?_⟩;exact⟨bH,true,rfl,⟨(fun _=>⟨rfl,fun k hk=>fT k (Nat.lt_of_lt_of_le hk hb)⟩),fun _=>rfl⟩⟩
end Go.ar
