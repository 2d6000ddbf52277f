/- LexicoExtends: ref22.canonicals, ref22.Extend, lexico.Extend and the law's walk. -/
import Derived.Test.YtfjncmjbhfdnpaaGreatA14
import Derived.Test.YtfjncmjbhfdnpaaGreatLw2
import Derived.Test.YtfjncmjbhfdnpaaGreatSame
set_option linter.unusedVariables false
namespace Go.aw
open Go.Proofs Num Lp
theorem abE{H:Heap}{v:Value}{l:List Rat}{N:Nat}(h:aR (bR N) 3 H v l)(hl:l.length≤1000)(hN:(N:Int)≤1099511627776):
 Fn Tryz.prog 147 #[v] H (fun v' H'=>Heap.le H H'∧∃A c,v' = .slice A l.length c∧aR (bR (N+2)) 3 H' v' l):=by
 have hz:=h.I1
 obtain⟨A,c,xs,rfl,hc,hr,hx⟩:=id h;refine aZ (args:=[_]) Tryz.func147 rfl rfl Tryz.ntmps147 rfl rfl fun w0=> ?_;refine aj [0] rfl ?_;refine ag (ab 1 rfl (ae [0] ?_));refine ag (ab 2 rfl (gJ Tryz.underlying26 bZ rfl rfl rfl (by omega) (by omega) (by omega) (by omega) ?_));intro g hg;have oP:=I3 (P:=bX) (e:=31) (sz:=3) (zs:=[.bool false,.slice none 0 0,.slice none 0 0]) (z:=0) (k:=(l.length:Int)) (c:=l.length) hg rfl (by omega) (by unfold maxLen;omega);refine ab 1 rfl (ae [0,3] ?_);refine aq (ag (ab 3 rfl (ae [0,3,9,10] ?_)));refine aG (fG (fun(i:Nat)(w:Value)(ys:List Value)=>l.length-i) (fun(i:Nat)(w:Value)(ys:List Value)=>put (put (put (put (emp) 0 (.val (.slice A l.length c))) 3 (.val (w))) 9 (.val (.int .i64 (l.length:Int)))) 10 (.val (.int .i64 (i:Int)))) (fun(i:Nat)(w:Value)(ys:List Value) H'=>ed bX 31 3 H H' w (l.take i) ys∧i≤l.length) 0 _ [] (⟨by simpa using oP,Nat.zero_le _⟩) au ?_);rintro i w ys H1 ⟨hG,hi⟩;obtain⟨W,cw,rfl⟩:=hG.form
 have gm:(l.take i).length=i:=by rw[List.length_take];omega
 refine ag (ab 1 rfl (ae [0,3,9,10,11] ?_));refine aq (aD rfl (fun hb=> ?_) (fun hb=> ?_))
 ·
  have lZ:i<l.length:=by simpa using hb
  obtain⟨q,hq⟩:∃q,l[i]? = some q:=⟨_,List.getElem?_eq_getElem lZ⟩;obtain⟨f1,A1,k1,c1,A2,k2,c2,lE,J3,eP⟩:=aR.pI hx hq;refine aA (aj [0,3,9,10] rfl ?_);refine aq (aG (ag (ab 2 rfl (ae [0,3,4,9,10] ?_))));refine aC rfl (ab 3 rfl (ck (vs:=[.bool f1,.slice A1 k1 c1,.slice A2 k2 c2]) ah rfl rfl rfl rfl (hr.le hG.le) rfl (by decide) eP (by omega) (by omega) fun _=>(aF rfl rfl (hG.call (qg (J3.le hG.base) (by omega))) ?_)));rintro _ H2 uB;have wb:=hG.jK dL uB fun _ _ h=>h.1;obtain⟨⟨_,bO⟩,_⟩:=uB;obtain⟨f2,nM,N4,nN,UB,N5,UC,rfl⟩:=bO.form;refine cR Tryz.underlying26 bZ rfl rfl rfl rfl rfl rfl rfl ?_;intro gb bo;have qy:=wb.ins dL (whole (cF [.agg #[.bool f2,.slice nM N4 nN,.slice UB N5 UC]]) 31) bo;refine dK Tryz.underlying26 bZ rfl rfl qy.own (dE _ _ _ _ _ _) rfl (zM _ _ _ _ _ _ _) (by rw[gm];omega) (by rw[gm];omega) ?_;intro v4 H4 UD;have rG:=qy.append dL (k:=[q]) (by simp) UD (iE (dL _ _ _ _ (og _ (Heap.bC _ bo)) (show bX _ [_,_,_] _ from bO)) rfl);refine ab 1 rfl (az (aj [0,3,9,10] rfl ?_));refine aC rfl (aH rfl rfl ⟨by omega,by omega⟩ (ab 1 rfl (az ?_)))
  exact⟨i+1,_,_,by omega,au,by rw[EZ hq];exact rG,by omega⟩
 ·
  have hb:l.length≤i:=by simpa using hb
  obtain rfl:i=l.length:=by omega
  rw[List.take_length]at hG;rw[List.take_length];refine aW (aj [3] rfl ?_);refine ag (ab 2 rfl (ae [2] ?_));refine aE ⟨.inr rfl,_,.tmp rfl (.nil),?_⟩;exact⟨hG.le,_,_,rfl,(hG.sl dL).xL hz⟩
end Go.aw
