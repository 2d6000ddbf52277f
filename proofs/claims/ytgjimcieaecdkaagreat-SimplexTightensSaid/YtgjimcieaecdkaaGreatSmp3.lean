/- Walks over package simplex, simplex.go, part 3: Feasible, signed. -/
import Derived.Test.YtgjimcieaecdkaaGreatA10
import Derived.Test.YtgjimcieaecdkaaGreatSmp2
set_option linter.unusedVariables false
namespace Go.au
open Go.Proofs Num Lp
theorem AU{H:Heap}{v:Value}{p:Prg}{N:Nat}(hp:dN N H v p)(bx:p.Ok):Fn Tryz.prog 22 #[v] H (mU H (.bool true)):=
 (Ij hp).mono fun v H' ⟨h1,b,h2,h3⟩=>⟨h1,by rw[h2,h3.2 bx]⟩
theorem IQ{H:Heap}{v:Value}{p:Prg}{N:Nat}(hp:dN N H v p)(bx:¬p.Ok):Fn Tryz.prog 22 #[v] H (mU H (.bool false)):=
 (Ij hp).mono fun v H' ⟨h1,b,h2,h3⟩=>⟨h1,by
  cases b with
  | false=>exact h2
  | true=>exact absurd (h3.1 rfl) bx⟩
theorem Pn{H:Heap}{v xv:Value}{p:Prg}{x:List Rat}{N:Nat}(hp:dN N H v p)(hx:aM (ca N) 3 H xv x)(jq:(x.length:Int)≤1099511627776)(hN:N≤1299999998):
 Fn Tryz.prog 13 #[v,xv] H (fun v H'=>Heap.le H H'∧∃b,v = .bool b∧(b=true↔tL p x)):=by
 obtain⟨fv,j8,rfl,eu,ew⟩:=id hp
 obtain⟨Af,cf,xf,rfl,iR,iS⟩:=eu.one
 obtain⟨Ar,cr,xr,rfl,fy,eW⟩:=ew.row
 obtain⟨Ax,cx,xx,rfl,AR,AS⟩:=hx.rat;refine aU (args:=[_,_]) Tryz.func13 rfl rfl Tryz.ntmps13 rfl rfl fun w0=> ?_;refine ah [0,1] rfl ?_;refine ae (bR rfl rfl (aa 1 rfl (ab [1,2] ?_)))
 by_cases bx:p.Ok
 ·
  skip
  by_cases ck:x.length=p.free.length
  ·
   skip
   refine bT .bN [0,1,2,3,4,5,6,7,8,9,10,11,12,13,14,15,16,17] follows (by kernel_rfl) ?_;refine aa 1 rfl (aI rfl rfl (AU hp bx) (fun _ _ h=>by first | exact h.le | exact h.1) ?_);rintro v1 H1 ⟨e1,rfl⟩;rw[e1];refine aa 6 rfl (ax true rfl rfl (eQ (by omega)) (aa 4 rfl (aI rfl rfl (o4 hx (by omega) jq) (fun _ _ h=>by first | exact h.le | exact h.1) ?_)));rintro v2 H2 ⟨aW,fN⟩;refine aI rfl rfl (ln) (fun _ _ h=>by first | exact h.le | exact h.1) ?_;rintro v3 H3 ⟨e3,rfl⟩;rw[e3];refine aI rfl rfl (IN (t:=1) (M:=N+2) (hp.le aW) bx fN ck (ll H2 (n:=1) (by decide) (by decide)) (by decide) hx.gT (by omega) (by omega)) (fun _ _ h=>by first | exact h.le | exact h.1) ?_;rintro v4 H4 ⟨dr,b4,rfl,wB⟩;refine aa 2 rfl (ab [4] ?_);refine ar ⟨.inr rfl,_,.tmp rfl (.nil),?_⟩;exact⟨aW.trans dr,b4,rfl,⟨(fun h=>⟨bx,ck,wB.1 h⟩),fun h=>wB.2 h.meets⟩⟩
  ·
   skip
   refine bT .bN [0,1,2,3,4,5,6,7,8,9,10,11,12,13,14,15,16,17] follows (by kernel_rfl) ?_;refine aa 1 rfl (aI rfl rfl (AU hp bx) (fun _ _ h=>by first | exact h.le | exact h.1) ?_);rintro v1 H1 ⟨e1,rfl⟩;rw[e1];refine aa 6 rfl (ax false rfl rfl (fX (by omega)) (aa 9 rfl (ab [4] ?_)));refine ar ⟨.inr rfl,_,.tmp rfl (.nil),?_⟩;exact⟨.refl _,false,rfl,⟨(fun h=>by cases h),(fun h=>absurd h.len ck)⟩⟩
 ·
  skip
  refine bT .bN [0,1,2,3,4,5,6,7,8,9,10,11,12,13,14,15,16,17] follows (by kernel_rfl) ?_;refine aa 1 rfl (aI rfl rfl (IQ hp bx) (fun _ _ h=>by first | exact h.le | exact h.1) ?_);rintro v1 H1 ⟨e1,rfl⟩;rw[e1];refine aa 16 rfl (ab [4] ?_);refine ar ⟨.inr rfl,_,.tmp rfl (.nil),?_⟩;exact⟨.refl _,false,rfl,⟨(fun h=>by cases h),(fun h=>absurd h.ok bx)⟩⟩
theorem Po{H:Heap}{v yv:Value}{p:Prg}{y:List Rat}{N:Nat}(hp:dN N H v p)(bx:p.Ok)(hy:aM (ca N) 3 H yv y)(hN:N≤1299999998):
 Fn Tryz.prog 89 #[v,yv] H (fun v H'=>Heap.le H H'∧∃b,v = .bool b∧(b=true↔y.length=p.rows.length∧p.lp.Signed (fn y))):=by
 obtain⟨fv,j8,rfl,eu,ew⟩:=id hp
 obtain⟨Af,cf,xf,rfl,iR,iS⟩:=eu.one
 obtain⟨Ar,cr,xr,rfl,fy,eW⟩:=ew.row
 obtain⟨Ay,cy,xy,rfl,uX,uY⟩:=hy.rat
 have qD:=bx.rows;refine aU (args:=[_,_]) Tryz.func89 rfl rfl Tryz.ntmps89 rfl rfl fun w0=> ?_;refine ah [0,1] rfl ?_;refine ae (bR rfl rfl (aa 1 rfl (ab [1,2] ?_)));refine ao (ae (aa 6 rfl (ab [1,2,13] ?_)));refine az rfl (fun hb=> ?_) (fun hb=> ?_)
 ·
  have hb:¬y.length=p.rows.length:=by simpa [Int.natCast_inj]using hb
  refine ae (aa 1 rfl (ab [4] ?_));refine ar ⟨.inr rfl,_,.tmp rfl (.nil),?_⟩;exact⟨.refl _,false,rfl,⟨(fun h=>by cases h),(fun h=>absurd h.1 hb)⟩⟩
 ·
  have iF:y.length=p.rows.length:=by simpa [Int.natCast_inj]using hb
  rw[iF];refine aw (ah [1,2] rfl ?_);refine ao (ae (aa 4 rfl (ab [1,15,16,17] ?_)));refine aD (gm (fun(i:Nat)=>p.rows.length-i) (fun(i:Nat)=>put (put (put (put (emp) 1 (.val (.slice Ay p.rows.length cy))) 15 (.val (.slice Ar p.rows.length cr))) 16 (.val (.int .i64 (p.rows.length:Int)))) 17 (.val (.int .i64 (i:Int)))) (fun(i:Nat) H'=>Heap.le H H'∧(∀k,k<i→(p.lp.rel k=3→0≤fn y k)∧(p.lp.rel k=1→fn y k≤0))∧i≤p.rows.length) 0 (⟨.refl _,(fun j h=>by omega),Nat.zero_le _⟩) av ?_);rintro i H1 ⟨bC,ec,hi⟩;refine ae (aa 1 rfl (ab [1,15,16,17,18] ?_));refine ao (az rfl (fun hb=> ?_) (fun hb=> ?_))
  ·
   have dS:i<p.rows.length:=by simpa using hb
   obtain⟨r,hr⟩:∃r,p.rows[i]? = some r:=⟨_,List.getElem?_eq_getElem dS⟩;obtain⟨A0,c0,f,A1,m1,c1,A2,m2,c2,eH,gS⟩:=eW i r hr
   have jO:p.lp.rel i=r.2.1:=by show (p.row i).2.1=_;rw[Prg.l7 hr]
   obtain⟨q,dI⟩:∃q,y[i]? = some q:=⟨_,List.getElem?_eq_getElem (by omega)⟩;obtain⟨g,B1,k1,e1,B2,k2,e2,qJ,uW⟩:=uY i q dI;have ia:fn y i=q:=jl dI;refine aw (ah [1,15,16,17] rfl ?_);refine ao (aD (ae (aa 1 rfl (cQ (vs:=[.slice A0 r.1.length c0,.int .i64 r.2.1,.bool f,.slice A1 m1 c1,.slice A2 m2 c2]) ag rfl rfl rfl rfl (fy.le bC) rfl (by decide) gS (by omega) (by omega) fun _=>(bG ko rfl (vr 1 ?_))))));obtain⟨ti,aj,ak⟩:=q7;refine aO (.inl ⟨rfl,rfl⟩) rfl rfl rfl aj ak rfl rfl rfl (ab [1,5,6,15,16,17] ?_);refine ae (aa 2 rfl (cQ (vs:=[.bool g,.slice B1 k1 e1,.slice B2 k2 e2]) ag rfl rfl rfl rfl (uX.le bC) rfl (by decide) uW (by omega) (by omega) fun _=>(aq rfl rfl (p7 (qJ.le bC) (by omega)) ?_)));rintro v2 H2 ⟨aW,rfl⟩;refine aa 1 rfl (ab [1,6,7,15,16,17] ?_)
   by_cases h3:r.2.1=3
   ·
    skip
    by_cases hs:eE q<0
    ·
     skip
     refine ae (aa 2 rfl (ax true rfl rfl (eQ h3) (aa 2 rfl (ax true rfl rfl (mP hs) (aa 10 rfl (ab [1,15,16,17,42] ?_))))));refine cI rfl (ae (aa 1 rfl (ab [4] ?_)));refine ar ⟨.inr rfl,_,.tmp rfl (.nil),?_⟩;exact⟨bC.trans aW,false,rfl,⟨(fun h=>by cases h),(fun h=>by have h9:=(h.2 i dS).1 (by omega);rw[ia]at h9;have h8:=mc.2 h9;omega)⟩⟩
    skip
    refine ae (aa 2 rfl (ax true rfl rfl (eQ h3) (aa 2 rfl (ax false rfl rfl (jx (by omega)) (aa 4 rfl (ax false rfl rfl (fX (by omega)) (aa 5 rfl (ab [1,15,16,17,42] ?_))))))));refine cP rfl (aw (ah [1,15,16,17] rfl ?_));refine aB rfl (aJ rfl rfl ⟨by omega,by omega⟩ (aa 1 rfl (ay ?_)));exact⟨i+1,by omega,av,bC.trans aW,(fun k hk=>by by_cases h9:k<i;exact ec k h9;(obtain rfl:k=i:=by omega);rw[jO,ia];exact⟨fun _=>mc.1 (by omega),fun e=>by omega⟩),by omega⟩
   skip
   by_cases h1:r.2.1=1
   ·
    skip
    by_cases hs:0<eE q
    ·
     skip
     refine ae (aa 2 rfl (ax false rfl rfl (fX h3) (aa 7 rfl (ax true rfl rfl (eQ h1) (aa 2 rfl (ax true rfl rfl (jU hs) (aa 2 rfl (ab [1,15,16,17,42] ?_))))))));refine cI rfl (ae (aa 1 rfl (ab [4] ?_)));refine ar ⟨.inr rfl,_,.tmp rfl (.nil),?_⟩;exact⟨bC.trans aW,false,rfl,⟨(fun h=>by cases h),(fun h=>by have h9:=(h.2 i dS).2 (by omega);rw[ia]at h9;have h8:=pa.2 h9;omega)⟩⟩
    skip
    refine ae (aa 2 rfl (ax false rfl rfl (fX h3) (aa 7 rfl (ax true rfl rfl (eQ h1) (aa 2 rfl (ax false rfl rfl (gD (by omega)) (aa 2 rfl (ab [1,15,16,17,42] ?_))))))));refine cP rfl (aw (ah [1,15,16,17] rfl ?_));refine aB rfl (aJ rfl rfl ⟨by omega,by omega⟩ (aa 1 rfl (ay ?_)));exact⟨i+1,by omega,av,bC.trans aW,(fun k hk=>by by_cases h9:k<i;exact ec k h9;(obtain rfl:k=i:=by omega);rw[jO,ia];exact⟨fun e=>by omega,fun _=>pa.1 (by omega)⟩),by omega⟩
   skip
   refine ae (aa 2 rfl (ax false rfl rfl (fX h3) (aa 7 rfl (ax false rfl rfl (fX h1) (aa 5 rfl (ab [1,15,16,17,42] ?_))))));refine cP rfl (aw (ah [1,15,16,17] rfl ?_));refine aB rfl (aJ rfl rfl ⟨by omega,by omega⟩ (aa 1 rfl (ay ?_)));exact⟨i+1,by omega,av,bC.trans aW,(fun k hk=>by by_cases h9:k<i;exact ec k h9;(obtain rfl:k=i:=by omega);rw[jO,ia];exact⟨fun e=>by omega,fun e=>by omega⟩),by omega⟩
  have hb:p.rows.length≤i:=by simpa using hb
  refine bA (ah [] rfl ?_);refine ae (aa 1 rfl (ab [4] ?_));refine ar ⟨.inr rfl,_,.tmp rfl (.nil),?_⟩;exact⟨bC,true,rfl,⟨(fun _=>⟨rfl,fun k hk=>ec k (Nat.lt_of_lt_of_le hk hb)⟩),fun _=>rfl⟩⟩
end Go.au
