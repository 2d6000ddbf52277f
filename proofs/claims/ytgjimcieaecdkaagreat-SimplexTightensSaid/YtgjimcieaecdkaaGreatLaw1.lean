/- Walks over package amortcostlaw22, part 1: rats. -/
import Derived.Test.YtgjimcieaecdkaaGreatA10
set_option linter.unusedVariables false
namespace Go.au
open Go.Proofs Num Lp
theorem Za{l:List Int}{k:Nat}{z:Int}(h:l[k]? = some z):(l.take (k+1)).map (fun z:Int=>(z:Rat))=(l.take k).map (fun z:Int=>(z:Rat)) ++ [(z:Rat)]:=by
 rw[List.take_add_one,h,List.map_append];rfl
theorem Zb{H:Heap}{v:Value}{l:List Int}(hv:aM o6 1 H v l)(hz:∀z,z∈l→-9223372036854775808≤z∧z≤9223372036854775807)(hl:(l.length:Int)≤1099511627776):
 Fn Tryz.prog 16 #[v] H (CH fe 3 H (l.map (fun z:Int=>(z:Rat)))):=by
 obtain⟨A,c,ys,rfl,hr,ck⟩:=hv.one;refine aU (args:=[_]) Tryz.func16 rfl rfl Tryz.ntmps16 rfl rfl fun w0=> ?_;refine ah [0] rfl ?_;refine ae (aa 1 rfl (ab [0] ?_));refine ae (aa 2 rfl (ja Tryz.underlying26 eD rfl rfl rfl (by omega) (by omega) (by omega) (by omega) ?_));intro g hg;have Zc:bm (ins H g ⟨dg [.bool false,.slice none 0 0,.slice none 0 0] ((0:Int).toNat*3),((l.length:Int)).toNat*3,29,true⟩) (.slice (some ⟨g,0,none⟩) (0:Int).toNat ((l.length:Int)).toNat) 29 3 0 []:=⟨rfl,.inr ⟨g,_,rfl,by rw[bn];rfl,Nat.zero_le _,by show _≤maxLen;unfold maxLen;omega⟩⟩;have D8:Heap.le H (ins H g ⟨dg [.bool false,.slice none 0 0,.slice none 0 0] ((0:Int).toNat*3),((l.length:Int)).toNat*3,29,true⟩):=Heap.bh _ hg;refine aa 1 rfl (ab [0,3] ?_);refine ao (ae (aa 3 rfl (ab [3,9,10,11] ?_)));refine aD (ju (fun(k:Nat)(vv:Value)(xs:List Value)=>l.length-k) (fun(k:Nat)(vv:Value)(xs:List Value)=>put (put (put (put (emp) 3 (.val (vv))) 9 (.val (.slice A l.length c))) 10 (.val (.int .i64 (l.length:Int)))) 11 (.val (.int .i64 (k:Int)))) (fun(k:Nat)(vv:Value)(xs:List Value) H'=>Heap.le H H'∧bm H' vv 29 3 k xs∧bF (fe H') 3 xs ((l.take k).map (fun z:Int=>(z:Rat)))∧k≤l.length) 0 _ [] (⟨D8,Zc,rz,Nat.zero_le _⟩) av ?_)
 rintro k vv xs H1 ⟨eL,wy,rT,fD⟩;refine ae (aa 1 rfl (ab [3,9,10,11,12] ?_));refine ao (az rfl (fun hb=> ?_) (fun hb=> ?_))
 ·
  have hb:k<l.length:=by simpa using hb
  obtain⟨q,dI⟩:∃q,l[k]? = some q:=⟨_,List.getElem?_eq_getElem hb⟩;obtain⟨u,hu,Zd⟩:=ck k q dI
  cases Zd
  have kR:=hz q (List.mem_of_getElem? dI);refine aw (ah [3,9,10,11] rfl ?_);refine ao (aD (ae (a5 ag rfl rfl rfl rfl rfl (hr.le eL) (by rw[Int.toNat_natCast];exact hu) (by omega) (by omega) fun _=> ?_)));refine aa 1 rfl (ab [3,5,9,10,11] ?_);refine aB rfl (aa 2 rfl (aq rfl rfl (Fn.frame (gs:=a6 vv) (YA wy) (zt kR.1 kR.2)) ?_));rintro v2 H2 gW;have aW:Heap.le H1 H2:=gW.le fun v K h=>h.1;obtain⟨⟨cG,bB⟩,fN⟩:=gW;have Ze:bm H2 vv 29 3 k xs:=wy.same fun q hq=>fN q (fP.2 hq);obtain⟨u2,w2,rfl,dF,hE⟩:=id bB;obtain⟨A2,c2,rfl,lX,jA⟩:=id dF;obtain⟨A3,c3,rfl,oV,lg⟩:=id hE;refine dD Tryz.underlying26 eD rfl rfl rfl rfl rfl rfl rfl ?_;intro gb bO;refine eX Tryz.underlying26 eD rfl rfl (Ze.ins _ bO) (g5 _ _ _ _ _ _) rfl (Yz _ _ _ _ _ _ _) (by omega) (by omega) ?_;intro v5 H5 O5;have II:Heap.le H2 H5:=(Heap.bh _ bO).trans O5.le;have eR:=(eL.trans aW).trans II;refine aa 1 rfl (ay (ah [3,9,10,11] rfl ?_));refine aB rfl (aJ rfl rfl ⟨by omega,by omega⟩ (aa 1 rfl (ay ?_)));exact⟨k+1,_,_,by omega,av,eR,O5.own,by rw[Za dI];exact(rT.mono fun vs a=>qi _ _ vs a (aW.trans II)).append (p8 (qi _ _ _ _ ((bE _ _).trans II) (show fe _ [_,_,_] _ from bB)) rfl),by omega⟩
 ·
  have hb:l.length≤k:=by simpa using hb
  obtain rfl:k=l.length:=by omega
  obtain⟨A9,c9,rfl⟩:=wy.form
  have Gy:l.length≤c9:=by rcases wy.2 with ⟨h1,h2⟩ | ⟨g9,cap,h1,_,h3,_⟩;omega;(cases h1;exact h3)
  rw[List.take_length]at rT;refine bA (ah [3] rfl ?_);refine ae (aa 2 rfl (ab [2] ?_));refine ar ⟨.inr rfl,_,.tmp rfl (.nil),?_⟩;exact⟨eL,A9,c9,xs,by rw[List.length_map];rfl,by rw[List.length_map];exact Gy,wy.rd,rT⟩
end Go.au
