/- Walks over package simplex, simplex.go, part 5: CheckInfeasible, CheckUnbounded. -/
import Derived.Test.YtfjncmjbhfdnpaaGreatA15
import Derived.Test.YtfjncmjbhfdnpaaGreatSmp4
set_option linter.unusedVariables false
namespace Go.ar
open Go.Proofs Num Lp
theorem aaj{H:Heap}{v yv:Value}{p:Prg}{y:List Rat}{N:Nat}(hp:eJ N H v p)(bg:p.Ok)(hy:aR (ck N) 3 H yv y)(jb:y.length=p.rows.length):(∀j,aG (p.lp.fD (fn y) j)≤800*(2*(N+2)+2)+1)∧aG (p.lp.ou (fn y))≤800*(2*(N+2)+2)+1:=by
 obtain⟨fv,fN,rfl,eo,ep⟩:=id hp
 obtain⟨Ar,cr,xr,rfl,eK,fO⟩:=ep.row
 have tX:=hy.jF
 have uL:=bg.rows
 have Mc:∀(i:Nat)(r:List Rat×Int×Rat),p.rows[i]? = some r→∀q,q∈r.1→aG q≤N+2:=fun i r hr=>by
  obtain⟨A0,c0,f,A1,m1,c1,A2,m2,c2,fS,jV⟩:=fO i r hr
  exact eV.size fS
 have h8:p.rows.length*(2*(N+2)+2)≤800*(2*(N+2)+2):=Nat.mul_le_mul_right _ uL
 refine⟨fun j=> ?_,?_⟩
 ·have h9:=yD (M:=N+2) p.rows.length (fn y) (fun k=>p.lp.a k j) (fun k hk=>tX _ (qw (by omega))) (fun k hk=>Prg.X1 Mc (by omega) k j (by omega))
  exact Nat.le_trans h9 (by omega)
 ·have h9:=yD (M:=N+2) p.rows.length (fn y) p.lp.b (fun k hk=>tX _ (qw (by omega))) (fun k hk=>by
   obtain⟨A0,c0,f,A1,m1,c1,A2,m2,c2,fS,jV⟩:=fO k _ (List.getElem?_eq_getElem hk)
   have h7:=(eV.bound fS).size
   show aG (p.row k).2.2≤_
   rw[Prg.m8 (List.getElem?_eq_getElem hk)];exact h7)
  exact Nat.le_trans h9 (by omega)
theorem ajQ{H:Heap}{v yv:Value}{p:Prg}{y:List Rat}{N:Nat}(hp:eJ N H v p)(hy:aR (ck N) 3 H yv y)(hN:N≤600000000):
 Fn Tryz.prog 90 #[v,yv] H (fun v H'=>Heap.le H H'∧∃b,v = .bool b∧(b=true↔Ju p y)):=by
 obtain⟨fv,fN,rfl,eo,ep⟩:=id hp
 obtain⟨Af,cf,xf,rfl,gZ,hO⟩:=eo.one
 obtain⟨Ar,cr,xr,rfl,eK,fO⟩:=ep.row
 obtain⟨Ay,cy,xy,rfl,BN,BO⟩:=hy.rat;refine aZ (args:=[_,_]) Tryz.func90 rfl rfl Tryz.ntmps90 rfl rfl fun w0=> ?_;refine ag [0,1] rfl ?_;refine ab ?_;refine bS rfl rfl ?_;refine vr 1 ?_;refine aa [1,2] ?_;refine al ?_
 by_cases bg:p.Ok
 ·
  skip
  refine ab ?_;refine vr 1 ?_;refine aw rfl rfl (Ia hp bg) ?_;rintro v1 H1 ⟨e1,rfl⟩;rw[e1];refine vr 4 ?_;refine aw rfl rfl (aae hp bg hy (by omega)) ?_;rintro v2 H2 ⟨bh,b2,rfl,cS⟩;refine vr 2 ?_;refine aa [1,2,18] ?_;refine aB rfl (fun hb=> ?_) (fun hb=> ?_)
  ·
   have hb:¬(y.length=p.rows.length∧p.lp.Signed (fn y)):=fun h=>by have h9:=cS.2 h;rw[h9]at hb;simp at hb
   refine ab ?_;refine vr 1 ?_;refine aa [4] ?_;refine az ⟨.inr rfl,_,.tmp rfl (.nil),?_⟩;exact⟨bh,false,rfl,⟨(fun h=>by cases h),(fun h=>absurd ⟨h.NY,h.cert.signed⟩ hb)⟩⟩
  ·
   have jo:=cS.1 (by simpa using hb);have gL:=bg.gM;have uL:=bg.rows;obtain⟨jz,j0⟩:=aaj hp bg hy jo.1;refine au ?_;refine ag [1,2] rfl ?_;refine ab ?_;refine vr 2 ?_;refine aw rfl rfl (aag (hp.le bh) bg (hy.le (ik N) bh) jo.1 hN) ?_;rintro v3 H3 ⟨dC,sv,ns,rfl,p3,rj⟩;obtain⟨n3,d3,b3,rfl⟩:=rj.cells;obtain⟨As,cs,xs,rfl,qV,wY⟩:=p3.num;rw[aW];refine vr 3 ?_;refine bt dM rfl ?_;refine vr 1 ?_;obtain⟨ti,aj,ak⟩:=bV;refine aJ (.inl ⟨rfl,rfl⟩) rfl rfl rfl aj ak rfl rfl rfl ?_;refine aa [2,5,6] ?_;refine al ?_;refine ab ?_;refine vr 4 ?_;refine aa [5,6,26,27,28] ?_;refine aC ?_;refine fZ (fun(i:Nat)=>p.free.length-i) (fun(i:Nat)=>put (put (put (put (put (emp) 5 (.val (.slice As p.free.length cs))) 6 (.box [.int .i64 n3,.int .i64 d3,.pointer b3])) 26 (.val (.slice Af p.free.length cf))) 27 (.val (.int .i64 (p.free.length:Int)))) 28 (.val (.int .i64 (i:Int)))) (fun(i:Nat) H'=>Heap.le H3 H'∧(∀k,k<i→p.lp.fD (fn y) k≤0∧(p.lp.free k=true→0≤p.lp.fD (fn y) k))∧i≤p.free.length) 0 (⟨.refl _,(fun j h=>by omega),Nat.zero_le _⟩) an ?_;rintro i H4 ⟨cE,fT,hi⟩;have pL:=(bh.trans dC).trans cE;refine ab ?_;refine vr 1 ?_;refine aa [5,6,26,27,28,29] ?_;refine al ?_;refine aB rfl (fun hb=> ?_) (fun hb=> ?_)
   ·
    have gg:i<p.free.length:=by simpa using hb
    obtain⟨fb,j5⟩:∃fb,p.free[i]? = some fb:=⟨_,List.getElem?_eq_getElem gg⟩;obtain⟨uf,lG,AW⟩:=hO i fb j5
    cases AW
    have nH:p.lp.free i=fb:=Prg.ue j5;obtain⟨n1,d1,b1,cK,eD⟩:=wY i _ (di gg);have hzi:=jz i;refine au ?_;refine ag [5,6,26,27,28] rfl ?_;refine al ?_;refine aC ?_;refine ab ?_;refine vr 1 ?_;refine aM ae rfl rfl rfl rfl rfl (gZ.le pL) (by rw[Int.toNat_natCast];exact lG) (by omega) (by omega) fun _=> ?_;refine vr 2 ?_;refine aa [5,6,7,8,26,27,28] ?_;refine ab ?_;refine vr 2 ?_;refine bR (vs:=[.int .i64 n1,.int .i64 d1,.pointer b1]) ae rfl rfl rfl rfl (qV.le cE) rfl (by decide) eD (by omega) (by omega) fun _=> ?_;refine aw rfl rfl (iT (cK.le cE) (by omega)) ?_;rintro v5 H5 ⟨dy,rfl⟩;refine vr 1 ?_;refine aa [5,6,8,9,26,27,28] ?_
    by_cases hs:0<fo (p.lp.fD (fn y) i)
    ·
     skip
     refine ab ?_;refine vr 1 ?_;refine aA true rfl rfl (kS hs) ?_;refine vr 7 ?_;refine aa [5,6,26,27,28,46] ?_;refine cD rfl ?_;refine ab ?_;refine vr 1 ?_;refine aa [4] ?_;refine az ⟨.inr rfl,_,.tmp rfl (.nil),?_⟩;exact⟨pL.trans dy,false,rfl,⟨(fun h=>by cases h),(fun h=>by have h9:=ur.2 (h.cert.gM i gg).1;omega)⟩⟩
    ·
     have tv:=ur.1 (show fo (p.lp.fD (fn y) i)≤0 by omega)
     cases fb
     ·
      skip
      refine ab ?_;refine vr 1 ?_;refine aA false rfl rfl (gA (by omega)) ?_;refine vr 7 ?_;refine aa [5,6,26,27,28,46] ?_;refine cU rfl ?_;refine au ?_;refine ag [5,6,26,27,28] rfl ?_;refine av rfl ?_;refine aD rfl rfl ⟨by omega,by omega⟩ ?_;refine vr 1 ?_;refine aq ?_;exact⟨i+1,by omega,an,cE.trans dy,(fun k hk=>by by_cases h9:k<i;exact fT k h9;(obtain rfl:k=i:=by omega);exact⟨tv,fun e=>by rw[nH]at e;cases e⟩),by omega⟩
     ·
      skip
      by_cases jn:fo (p.lp.fD (fn y) i)<0
      ·
       skip
       refine ab ?_;refine vr 1 ?_;refine aA false rfl rfl (gA (by omega)) ?_;refine vr 4 ?_;refine aA true rfl rfl (iz jn) ?_;refine vr 2 ?_;refine aa [5,6,26,27,28,46] ?_;refine cD rfl ?_;refine ab ?_;refine vr 1 ?_;refine aa [4] ?_;refine az ⟨.inr rfl,_,.tmp rfl (.nil),?_⟩;exact⟨pL.trans dy,false,rfl,⟨(fun h=>by cases h),(fun h=>by have h9:=qe.2 ((h.cert.gM i gg).2 nH);omega)⟩⟩
      ·
       skip
       refine ab ?_;refine vr 1 ?_;refine aA false rfl rfl (gA (by omega)) ?_;refine vr 4 ?_;refine aA false rfl rfl (fQ (by omega)) ?_;refine vr 2 ?_;refine aa [5,6,26,27,28,46] ?_;refine cU rfl ?_;refine au ?_;refine ag [5,6,26,27,28] rfl ?_;refine av rfl ?_;refine aD rfl rfl ⟨by omega,by omega⟩ ?_;refine vr 1 ?_;refine aq ?_;exact⟨i+1,by omega,an,cE.trans dy,(fun k hk=>by by_cases h9:k<i;exact fT k h9;(obtain rfl:k=i:=by omega);exact⟨tv,fun _=>qe.1 (by omega)⟩),by omega⟩
   ·
    have hb:p.free.length≤i:=by simpa using hb
    refine aU ?_;refine ag [6] rfl ?_;refine ab ?_;refine vr 1 ?_;refine aw rfl rfl (iT (rj.le cE) (by omega)) ?_;rintro v6 H6 ⟨jr,rfl⟩;refine vr 2 ?_;refine aa [4] ?_;refine az ⟨.inr rfl,_,.tmp rfl (.nil),?_⟩;exact⟨pL.trans jr,_,rfl,by simp only[decide_eq_true_eq,gt_iff_lt,Ai];exact⟨fun h=>⟨bg,jo.1,⟨jo.2,fun j hj=>fT j (Nat.lt_of_lt_of_le hj hb),h⟩⟩,fun h=>h.cert.pos⟩⟩
 ·
  skip
  refine ab ?_;refine vr 1 ?_;refine aw rfl rfl (Sf hp bg) ?_;rintro v1 H1 ⟨e1,rfl⟩;rw[e1];refine vr 7 ?_;refine aa [1,2,18] ?_;refine cD rfl ?_;refine ab ?_;refine vr 1 ?_;refine aa [4] ?_;refine az ⟨.inr rfl,_,.tmp rfl (.nil),?_⟩;exact⟨.refl _,false,rfl,⟨(fun h=>by cases h),(fun h=>absurd h.ok bg)⟩⟩
end Go.ar
