/- SimplexTightens: the law's walk. -/
import Derived.Test.YtgjimcieaecdkaaGreatA10
import Derived.Test.YtgjimcieaecdkaaGreatLaw3
import Derived.Test.YtgjimcieaecdkaaGreatCat
set_option linter.unusedVariables false
namespace Go.au
open Go.Proofs Num Lp
def mA(p:Prg)(r:List Rat×Int×Rat):Prg:=⟨p.free,p.rows ++ [r]⟩
theorem En{p:Prg}{r:List Rat×Int×Rat}{t:Rat}{x:Nat→Rat}(h:(mA p r).lp.ft t x):p.lp.ft t x:=by
 refine⟨h.1,fun i hi=> ?_⟩
 have nC:i<p.rows.length:=hi
 have h1:=h.2 i (show i<(p.rows ++ [r]).length by rw[List.length_append];omega)
 have e:(mA p r).row i=p.row i:=by
  show (p.rows ++ [r]).getD i _=p.rows.getD i _
  rw[List.getD,List.getD,List.getElem?_append_left nC]
 have e1:(mA p r).lp.rel i=p.lp.rel i:=by show ((mA p r).row i).2.1=(p.row i).2.1;rw[e]
 have e2:(mA p r).lp.a i=p.lp.a i:=by show fn ((mA p r).row i).1=fn (p.row i).1;rw[e]
 have e3:(mA p r).lp.b i=p.lp.b i:=by show ((mA p r).row i).2.2=(p.row i).2.2;rw[e]
 rw[e1,e2,e3]at h1
 exact h1
theorem tight{p:Prg}{r:List Rat×Int×Rat}{c:Nat→Rat}{s t:Int}{v w:Rat}(h:(s=1∧p.lp.qg c v)∨(s=2∧p.lp.yr∧v=0)∨(s=3∧p.lp.yt c∧v=0))(k:(t=1∧(mA p r).lp.qg c w)∨(t=2∧(mA p r).lp.yr∧w=0)∨(t=3∧(mA p r).lp.yt c∧w=0)):
  (s=2∧t=2)∨(s=1∧t=2)∨(s=1∧t=1∧v≤w)∨s=3:=by
 rcases h with ⟨h1,h2⟩ | ⟨h1,h2,_⟩ | ⟨h1,_⟩
 ·rcases k with ⟨k1,⟨x,hx,e⟩,_⟩ | ⟨k1,_⟩ | ⟨k1,⟨_,k2⟩,_⟩
  ·exact .inr (.inr (.inl ⟨h1,k1,by rw[←e];exact h2.2 x (En hx)⟩))
  ·exact .inr (.inl ⟨h1,k1⟩)
  ·obtain⟨x,hx,a8⟩:=k2 v
   have h3:=h2.2 x (En hx)
   exact absurd (show (mA p r).lp.n=p.lp.n from rfl) (fun _=>by
    have h4:bL p.lp.n c x<v:=a8
    grind)
 ·rcases k with ⟨_,⟨x,hx,_⟩,_⟩ | ⟨k1,_⟩ | ⟨_,⟨⟨x,hx⟩,_⟩,_⟩
  ·exact(h2 x (En hx)).elim
  ·exact .inl ⟨h1,k1⟩
  ·exact(h2 x (En hx)).elim
 ·exact .inr (.inr (.inr h1))
theorem Z3{p q:Rat}(h:q≤p):0≤tm p q:=by unfold tm;split;(exact absurd h (by grind));split <;> decide
theorem Y4{H:Heap}{v cv:Value}{cs:List Value}{p:Prg}{c:List Rat}{r:List Rat×Int×Rat}{N:Nat}(hp:dN N H v p)(hc:aM (ca N) 3 H cv c)(hr:ep N H cs r)(hlen:p.rows.length*88≤140737488351232):
 Fn Tryz.prog 3 #[v,cv,.agg (List.toArray cs)] H (fun v H'=>Heap.le H H'∧v = .bool true):=by
 obtain⟨fv,j8,rfl,eu,ew⟩:=id hp
 obtain⟨Af,cf,xf,rfl,iR,iS⟩:=eu.one
 obtain⟨Ar,cr,xr,rfl,nK,fy,eW⟩:=id ew
 obtain⟨Ac,cc,xc,rfl,HG,o9,zm⟩:=id hc
 obtain⟨A0,c0,k0,f,A1,m1,c1,A2,m2,c2,rfl,BP⟩:=hr.cells;refine aU (args:=[_,_,_]) Tryz.func3 rfl rfl Tryz.ntmps3 rfl rfl fun w0=> ?_;refine ah [0,1,2] rfl ?_;refine ae (bR rfl rfl (bR rfl rfl (aa 1 rfl (ab [1,3,5] ?_))));refine ao (ae (aq rfl rfl (Zn) ?_));rintro _ H1 ⟨bC,rfl⟩;refine aa 1 rfl (ab [1,3,5,13] ?_);refine cP rfl (aw (ah [1,3,5] rfl ?_));refine bT .bN [0,1,2,3,5,4,6,7,8,9,10] follows (by kernel_rfl) ?_;refine aa 5 rfl (Y3 (qo N) (Y1 N) (by decide) Tryz.underlying23 ko rfl rfl (YK H1) (by rw[OU,ry];exact ew.le (qo N) bC) (by rw[List.length_nil];omega) (by rw[List.length_nil];omega) ?_);intro v2 H2 y2 PC _;rw[List.nil_append]at PC;refine dD Tryz.underlying23 ko rfl rfl rfl rfl rfl rfl rfl ?_;intro gd pS;have I1:=PC.ins (qo N) (whole (eB [.agg #[.slice A0 k0 c0,.int .i64 r.2.1,.bool f,.slice A1 m1 c1,.slice A2 m2 c2]]) 31) pS;refine eX Tryz.underlying23 ko rfl rfl I1.own (g5 _ _ _ _ _ _) rfl (YN _ _ _ _ _ _ _ _ _ _ _) (by omega) (by omega) ?_;intro v4 H4 Z4;have Eo:=I1.append (qo N) (k:=[r]) (by simp) Z4 (p8 (qo N _ _ _ _ I1.base (qo N _ _ _ _ bC hr)) rfl);obtain⟨W,cw,rfl⟩:=Eo.form;have hQ:dN N H4 (.agg #[.slice Af p.free.length cf,.slice W (p.rows ++ [r]).length cw]) (mA p r):=⟨_,_,rfl,eu.le Hd (bC.trans Eo.le),Eo.sl (qo N)⟩
 have dr:=Eo.le;have AZ:=bC.trans dr;refine eC ag rfl xQ rfl rfl (bG xQ rfl ?_);obtain⟨ti,aj,ak⟩:=JN;refine aO (.inl ⟨rfl,rfl⟩) rfl rfl rfl aj ak rfl rfl rfl (ab [1,3,7] ?_);refine ao (ae (aa 2 rfl (aq rfl rfl (O6 (hp.le AZ) (hc.le (fu N) AZ)) ?_)));rintro _ H5 ⟨cU,b5,rfl,GR⟩
 cases b5
 ·
  have Ep:=AZ.trans cU;refine aa 7 rfl (ab [1,3,7,32] ?_);refine cI rfl (ae (aa 1 rfl (ab [6] ?_)));refine ar ⟨.inr rfl,_,.tmp rfl (.nil),?_⟩;exact⟨Ep,rfl⟩
 ·
  skip
  refine aa 4 rfl (aq rfl rfl (O6 (hQ.le cU) ((hc.le (fu N) AZ).le (fu N) cU)) ?_);rintro _ H6 ⟨gg,b6,rfl,GS⟩;have Ep:=AZ.trans (cU.trans gg);refine aa 2 rfl (ab [1,3,7,32] ?_);refine az rfl (fun hb=> ?_) (fun hb=> ?_)
  ·
   skip
   refine ae (aa 1 rfl (ab [6] ?_));refine ar ⟨.inr rfl,_,.tmp rfl (.nil),?_⟩;exact⟨Ep,rfl⟩
  have hs:=GR rfl;have ht:=GS (by simpa using hb);refine aw (ah [1,3,7] rfl ?_);refine ae (aa 2 rfl (aq rfl rfl (OP (hs.le gg).O7 hs.ok hs.len) ?_));rintro _ H7 ⟨gw,S,f7,B71,m71,e71,B72,m72,e72,B7x,k7x,e7x,B7d,k7d,e7d,B7r,k7r,e7r,rfl,Z5,Z6,abz,abA,abB⟩;refine aa 3 rfl (bG oK rfl ?_);obtain⟨ti,aj,ak⟩:=lQ;refine aO (.inl ⟨rfl,rfl⟩) rfl rfl rfl aj ak rfl rfl rfl (aa 1 rfl (ab [1,7,8,9] ?_));refine ae (aa 2 rfl (aq rfl rfl (OP (ht.le gw).O7 ht.ok ht.len) ?_));rintro _ H8 ⟨gG,T,f8,B81,m81,e81,B82,m82,e82,B8x,k8x,e8x,B8d,k8d,e8d,B8r,k8r,e8r,rfl,Z7,Z8,abC,abD,abE⟩;refine aa 3 rfl (bG oK rfl ?_);obtain⟨ti,aj,ak⟩:=lQ;refine aO (.inl ⟨rfl,rfl⟩) rfl rfl rfl aj ak rfl rfl rfl (aa 1 rfl (ab [8,9,10,11] ?_));refine ao (ae (aa 6 rfl (ab [8,10,50] ?_)));have e7:=tight Z5.Gb Z7.Gb;have Er:=Ep.trans (gw.trans gG);refine cP rfl (aw (ah [8,10] rfl ?_));refine ao (ae (aa 2 rfl (ab [8,10,52] ?_)));refine aD (ae (aa 2 rfl (ab [8,10,52,53] ?_)))
  refine az rfl (fun hb=> ?_) (fun hb=> ?_)
  ·
   have h1:S.status=2:=by simpa using hb
   have h2:T.status=2:=by omega
   refine ae (aa 2 rfl (ax true rfl rfl (eQ h2) (aa 1 rfl (ab [6] ?_))));refine ar ⟨.inr rfl,_,.tmp rfl (.nil),?_⟩;exact⟨Er,rfl⟩
  have h1:¬S.status=2:=by simpa using hb
  refine ae (aa 2 rfl (ab [8,10,58] ?_));refine az rfl (fun hb=> ?_) (fun hb=> ?_)
  ·
   have h2:S.status=1:=by simpa using hb
   by_cases h3:T.status=2
   ·
    skip
    refine ae (aa 2 rfl (ax true rfl rfl (eQ h3) (aa 14 rfl (ab [6] ?_))));refine ar ⟨.inr rfl,_,.tmp rfl (.nil),?_⟩;exact⟨Er,rfl⟩
   have Z9:S.value≤T.value:=by
    rcases e7 with h9 | h9 | h9 | h9
    ·omega
    ·omega
    ·exact h9.2.2
    ·omega
   refine ae (aa 2 rfl (ax false rfl rfl (fX h3) (aa 3 rfl (ax true rfl rfl (eQ (by omega)) (aa 5 rfl (aq rfl rfl (MV (N:=MX) Z8 (Z6.le gG) (by decide)) ?_))))));rintro _ H9 ⟨eo,rfl⟩;refine ax true rfl rfl (E5 (Z3 Z9)) (aa 3 rfl (ab [6] ?_));refine ar ⟨.inr rfl,_,.tmp rfl (.nil),?_⟩;exact⟨Er.trans eo,rfl⟩
  have h2:¬S.status=1:=by simpa using hb
  refine aw (ah [8] rfl ?_);refine ae (aa 2 rfl (ax true rfl rfl (eQ (by omega)) (aa 1 rfl (ab [6] ?_))));refine ar ⟨.inr rfl,_,.tmp rfl (.nil),?_⟩;exact⟨Er,rfl⟩
end Go.au
