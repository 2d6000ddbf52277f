/- Walks over package amortcostlaw22, part 1: rats. -/
import Derived.Test.YtfjncmjbhfdnpaaGreatA15
set_option linter.unusedVariables false
namespace Go.ar
open Go.Proofs Num Lp
theorem ajs{l:List Int}{k:Nat}{z:Int}(h:l[k]? = some z):(l.take (k+1)).map (fun z:Int=>(z:Rat))=(l.take k).map (fun z:Int=>(z:Rat)) ++ [(z:Rat)]:=by
 rw[List.take_add_one,h,List.map_append];rfl
theorem ajt{H:Heap}{v:Value}{l:List Int}(hv:aR uk 1 H v l)(hz:∀z,z∈l→-9223372036854775808≤z∧z≤9223372036854775807)(hl:(l.length:Int)≤1099511627776):
 Fn Tryz.prog 42 #[v] H (JB bT 3 H (l.map (fun z:Int=>(z:Rat)))):=by
 obtain⟨A,c,ys,rfl,hr,cB⟩:=hv.one;refine aZ (args:=[_]) Tryz.func42 rfl rfl Tryz.ntmps42 rfl rfl fun w0=> ?_;refine ag [0] rfl ?_;refine ab ?_;refine vr 1 ?_;refine aa [0] ?_;refine ab ?_;refine vr 2 ?_;refine ig Tryz.underlying26 cR rfl rfl rfl (by omega) (by omega) (by omega) (by omega) ?_;intro g hg;have aju:bP (ins H g ⟨du [.bool false,.slice none 0 0,.slice none 0 0] ((0:Int).toNat*3),((l.length:Int)).toNat*3,31,true⟩) (.slice (some ⟨g,0,none⟩) (0:Int).toNat ((l.length:Int)).toNat) 31 3 0 []:=⟨rfl,.inr ⟨g,_,rfl,by rw[bo];rfl,Nat.zero_le _,by show _≤maxLen;unfold maxLen;omega⟩⟩;have tv:Heap.le H (ins H g ⟨du [.bool false,.slice none 0 0,.slice none 0 0] ((0:Int).toNat*3),((l.length:Int)).toNat*3,31,true⟩):=Heap.bI _ hg;refine vr 1 ?_;refine aa [0,3] ?_;refine al ?_;refine ab ?_;refine vr 3 ?_;refine aa [3,9,10,11] ?_;refine aC ?_;refine gh (fun(k:Nat)(vv:Value)(xs:List Value)=>l.length-k) (fun(k:Nat)(vv:Value)(xs:List Value)=>put (put (put (put (emp) 3 (.val (vv))) 9 (.val (.slice A l.length c))) 10 (.val (.int .i64 (l.length:Int)))) 11 (.val (.int .i64 (k:Int)))) (fun(k:Nat)(vv:Value)(xs:List Value) H'=>Heap.le H H'∧bP H' vv 31 3 k xs∧bC (bT H') 3 xs ((l.take k).map (fun z:Int=>(z:Rat)))∧k≤l.length) 0 _ [] (⟨tv,aju,sI,Nat.zero_le _⟩) an ?_
 rintro k vv xs H1 ⟨fa,CS,yk,fW⟩;refine ab ?_;refine vr 1 ?_;refine aa [3,9,10,11,12] ?_;refine al ?_;refine aB rfl (fun hb=> ?_) (fun hb=> ?_)
 ·
  have hb:k<l.length:=by simpa using hb
  obtain⟨q,dL⟩:∃q,l[k]? = some q:=⟨_,List.getElem?_eq_getElem hb⟩;obtain⟨u,hu,hue⟩:=cB k q dL
  cases hue
  have eW:=hz q (List.mem_of_getElem? dL);refine au ?_;refine ag [3,9,10,11] rfl ?_;refine al ?_;refine aC ?_;refine ab ?_;refine aM ae rfl rfl rfl rfl rfl (hr.le fa) (by rw[Int.toNat_natCast];exact hu) (by omega) (by omega) fun _=> ?_;refine vr 1 ?_;refine aa [3,5,9,10,11] ?_;refine av rfl ?_;refine vr 2 ?_;refine aw rfl rfl (Fn.frame (gs:=aE vv) (ag9 CS) (ry eW.1 eW.2)) ?_;rintro v2 H2 iM;have bh:Heap.le H1 H2:=iM.le fun v K h=>h.1;obtain⟨⟨dD,bN⟩,jn⟩:=iM;have ajv:bP H2 vv 31 3 k xs:=CS.same fun q hq=>jn q (dg.2 hq);obtain⟨u2,w2,rfl,fm,kI⟩:=id bN;obtain⟨A2,c2,rfl,lS,lx⟩:=id fm;obtain⟨A3,c3,rfl,sH,o6⟩:=id kI;refine dI Tryz.underlying26 cR rfl rfl rfl rfl rfl rfl rfl ?_;intro gb bD;refine eN Tryz.underlying26 cR rfl rfl (ajv.ins _ bD) (eZ _ _ _ _ _ _) rfl (KO _ _ _ _ _ _ _) (by omega) (by omega) ?_;intro v5 H5 Z7;have R8:Heap.le H2 H5:=(Heap.bI _ bD).trans Z7.le;have gU:=(fa.trans bh).trans R8;refine vr 1 ?_;refine aq ?_;refine ag [3,9,10,11] rfl ?_;refine av rfl ?_;refine aD rfl rfl ⟨by omega,by omega⟩ ?_;refine vr 1 ?_;refine aq ?_;exact⟨k+1,_,_,by omega,an,gU,Z7.own,by rw[ajs dL];exact(yk.mono fun vs a=>fK _ _ vs a (bh.trans R8)).append (pb (fK _ _ _ _ ((bG _ _).trans R8) (show bT _ [_,_,_] _ from bN)) rfl),by omega⟩
 ·
  have hb:l.length≤k:=by simpa using hb
  obtain rfl:k=l.length:=by omega
  obtain⟨A9,c9,rfl⟩:=CS.form
  have Aj:l.length≤c9:=by rcases CS.2 with ⟨h1,h2⟩ | ⟨g9,cap,h1,_,h3,_⟩;omega;(cases h1;exact h3)
  rw[List.take_length]at yk;refine aU ?_;refine ag [3] rfl ?_;refine ab ?_;refine vr 2 ?_;refine aa [2] ?_;refine az ⟨.inr rfl,_,.tmp rfl (.nil),?_⟩;exact⟨fa,A9,c9,xs,by rw[List.length_map];rfl,by rw[List.length_map];exact Aj,CS.rd,yk⟩
end Go.ar
