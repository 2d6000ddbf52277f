/- Part 11 of the proof: Srt, Srt2, Lnd2, Mdr, QDat, Eng17, QDat2, Qp, Ql. -/
import Derived.Test.YtdjoookebbbjkaaGreatA10
import Derived.Shelf.Sort.AssemblyIn
import Derived.Shelf.Slices.In.SortNone
import Derived.Sort.EveryDepth
import Derived.Shelf.Slices.CompactI
import Derived.Shelf.Slices.Empties
set_option linter.unusedVariables false
namespace Go.Proofs
open Go.Shelf
def Tryz.ajr:Go.Shelf.Ren:=⟨fun | 189=>62 | 125=>107 | 257=>106 | 128=>148 | 129=>149 | 294=>139 | 295=>140 | 296=>141 | 297=>142 | 298=>143 | 299=>144 | 216=>145 | 300=>146 | 301=>147 | 328=>160 | 329=>161 | 330=>162 | 331=>163 | 332=>164 | 215=>165 | 343=>170 | n=>n,fun | 28=>49 | 3=>3 | 46=>149 | 0=>0 | 51=>74 | 53=>73 | 4=>4 | 183=>168 | 182=>167 | 131=>173 | 5=>5 | 9=>9 | 218=>183 | 222=>187 | 228=>195 | 229=>196 | n=>n,fun | n=>n⟩
theorem Tryz.Z9:Go.Proofs.Lays.n189 Tryz.prog Tryz.ajr:={
 mixed:=by kernel_rfl
 f125:=Tryz.func107.trans (congrArg some (by kernel_rfl))
 f128:=Tryz.func148.trans (congrArg some (by kernel_rfl))
 f129:=Tryz.func149.trans (congrArg some (by kernel_rfl))
 f189:=Tryz.func62.trans (congrArg some (by kernel_rfl))
 f215:=Tryz.func165.trans (congrArg some (by kernel_rfl))
 f216:=Tryz.func145.trans (congrArg some (by kernel_rfl))
 f257:=Tryz.func106.trans (congrArg some (by kernel_rfl))
 f294:=Tryz.func139.trans (congrArg some (by kernel_rfl))
 f295:=Tryz.func140.trans (congrArg some (by kernel_rfl))
 f296:=Tryz.func141.trans (congrArg some (by kernel_rfl))
 f297:=Tryz.func142.trans (congrArg some (by kernel_rfl))
 f298:=Tryz.func143.trans (congrArg some (by kernel_rfl))
 f299:=Tryz.func144.trans (congrArg some (by kernel_rfl))
 f300:=Tryz.func146.trans (congrArg some (by kernel_rfl))
 f301:=Tryz.func147.trans (congrArg some (by kernel_rfl))
 f328:=Tryz.func160.trans (congrArg some (by kernel_rfl))
 f329:=Tryz.func161.trans (congrArg some (by kernel_rfl))
 f330:=Tryz.func162.trans (congrArg some (by kernel_rfl))
 f331:=Tryz.func163.trans (congrArg some (by kernel_rfl))
 f332:=Tryz.func164.trans (congrArg some (by kernel_rfl))
 f343:=Tryz.func170.trans (congrArg some (by kernel_rfl))
 t0:=Tryz.underlying0
 a0:=Tryz.isAgg0
 z0:=Tryz.sizeOf0
 v0:=Tryz.zeroValue0
 t3:=Tryz.underlying3
 a3:=Tryz.isAgg3
 z3:=Tryz.sizeOf3
 v3:=Tryz.zeroValue3
 t4:=Tryz.underlying4
 a4:=Tryz.isAgg4
 z4:=Tryz.sizeOf4
 v4:=Tryz.zeroValue4
 t5:=Tryz.underlying5
 a5:=Tryz.isAgg5
 z5:=Tryz.sizeOf5
 v5:=Tryz.zeroValue5
 t9:=Tryz.underlying9
 a9:=Tryz.isAgg9
 z9:=Tryz.sizeOf9
 v9:=Tryz.zeroValue9
 t28:=Tryz.underlying49
 a28:=Tryz.isAgg49
 z28:=Tryz.sizeOf49
 v28:=Tryz.zeroValue49
 t46:=Tryz.underlying149
 a46:=Tryz.isAgg149
 z46:=Tryz.sizeOf149
 v46:=Tryz.zeroValue149
 t51:=Tryz.underlying74
 a51:=Tryz.isAgg74
 z51:=Tryz.sizeOf74
 v51:=Tryz.zeroValue74
 t53:=Tryz.underlying73
 a53:=Tryz.isAgg73
 z53:=Tryz.sizeOf73
 v53:=Tryz.zeroValue73
 t131:=Tryz.underlying173
 a131:=Tryz.isAgg173
 z131:=Tryz.sizeOf173
 v131:=Tryz.zeroValue173
 t182:=Tryz.underlying167
 a182:=Tryz.isAgg167
 z182:=Tryz.sizeOf167
 v182:=Tryz.zeroValue167
 t183:=Tryz.underlying168
 a183:=Tryz.isAgg168
 z183:=Tryz.sizeOf168
 v183:=Tryz.zeroValue168
 t218:=Tryz.underlying183
 a218:=Tryz.isAgg183
 z218:=Tryz.sizeOf183
 v218:=Tryz.zeroValue183
 t222:=Tryz.underlying187
 a222:=Tryz.isAgg187
 z222:=Tryz.sizeOf187
 v222:=Tryz.zeroValue187
 t228:=Tryz.underlying195
 a228:=Tryz.isAgg195
 z228:=Tryz.sizeOf195
 v228:=Tryz.zeroValue195
 t229:=Tryz.underlying196
 a229:=Tryz.isAgg196
 z229:=Tryz.sizeOf196
 v229:=Tryz.zeroValue196}
end Go.Proofs
namespace Go.aq
open Go.Proofs Go.Sort
def iv(l:List Int):List Value:=l.map (Value.int .i64)
theorem EG{l:List Int}{i:Nat}{v:Value}:(iv l)[i]? = some v↔∃z,l[i]? = some z∧v = .int .i64 z:=by
 unfold iv
 rw[List.getElem?_map]
 cases l[i]? with
 | none=>simp
 | some z=>simp[eq_comm]
theorem RJ(l:List Int):(iv l).length=l.length:=by simp[iv]
theorem aaa{H:Heap}{w:World}{g c e n:Nat}{l k:List Int}{os:Array Obj}(hd:Den H w)(hg:H g=some ⟨iv l,c,e,true⟩)(hk:k.length=l.length)(hc:l.length≤c):
  Den (ins H g ⟨iv k,c,e,true⟩) (grow (putRow (Value.int .i64) (Sort.ahead w n) g 0 k.toArray) os)∧Fx H w (ins H g ⟨iv k,c,e,true⟩) (grow (putRow (Value.int .i64) (Sort.ahead w n) g 0 k.toArray) os):=by
 have hold:∀q,q<w.heap.size→(grow (putRow (Value.int .i64) (Sort.ahead w n) g 0 k.toArray) os).heap[q]? = if g=q then(w.heap[q]?).map (onCells (putCells (Value.int .i64) 0 k.toArray))else w.heap[q]? :=fun q hq=>by
  have h1:(grow (putRow (Value.int .i64) (Sort.ahead w n) g 0 k.toArray) os).heap=w.heap.modify g (onCells (putCells (Value.int .i64) 0 k.toArray))++os:=rfl
  rw[h1,Array.getElem?_append_left (by simpa using hq),Array.getElem?_modify]
 have cP:w.heap.size≤(grow (putRow (Value.int .i64) (Sort.ahead w n) g 0 k.toArray) os).heap.size:=by
  have h1:(grow (putRow (Value.int .i64) (Sort.ahead w n) g 0 k.toArray) os).heap=w.heap.modify g (onCells (putCells (Value.int .i64) 0 k.toArray))++os:=rfl
  rw[h1];simp
 obtain⟨o,ho,cs,fz,rfl,h3,h4,h5⟩:=hd g _ hg
 have eH:=(Array.getElem?_eq_some_iff.1 ho).1
 refine⟨fun q en hq=> ?_,rfl,rfl,rfl,cP,fun q hq h0=> ?_,fun q c' t f' hq=> ?_⟩
 ·by_cases e1:q=g
  ·subst e1
   rw[bC]at hq
   cases hq
   refine⟨_,by rw[hold q eH,if_pos rfl,ho];rfl,_,fz,rfl,by simp[putCells];exact h3,fun i v hv=> ?_,h5⟩
   obtain⟨z,hz,rfl⟩:=EG.1 hv
   have hi:=(List.getElem?_eq_some_iff.1 hz).1
   have rO:i<cs.size:=by rw[h3];show i<c;omega
   simp only[putCells]
   rw[Array.getElem?_mapIdx,Array.getElem?_eq_getElem rO]
   simp only[Option.map_some,Nat.zero_le,true_and,Nat.zero_add,List.size_toArray,Nat.sub_zero]
   rw[if_pos hi]
   simp[List.getElem?_eq_some_iff.1 hz |>.2,hi]
  ·rw[bn _ _ e1]at hq
   obtain⟨o',h6,h7⟩:=hd q en hq
   refine⟨o',?_,h7⟩
   rw[hold q (Array.getElem?_eq_some_iff.1 h6).1,if_neg (fun e=>e1 e.symm)];exact h6
 ·have e1:q≠g:=fun e=>by subst e;rw[h0]at hg;cases hg
  exact⟨by rw[hold q hq,if_neg (fun e=>e1 e.symm)],by rw[bn _ _ e1];exact h0⟩
 ·have hql:=(Array.getElem?_eq_some_iff.1 hq).1
  rw[hold q hql]
  split
  ·rw[hq];exact⟨_,rfl,by simp[putCells]⟩
  ·exact⟨c',hq,rfl⟩
theorem holds_of{H:Heap}{w:World}{g c e:Nat}{l:List Int}(hd:Den H w)(hg:H g=some ⟨iv l,c,e,true⟩):Holds (Value.int .i64) w g 0 l.toArray:=fun j hj=>by
 obtain⟨o,ho,cs,fz,rfl,h3,h4,h5⟩:=hd g _ hg
 have pC:=h5 rfl
 subst pC
 have Ml:j<l.length:=by simpa using hj
 have h1:cs[j]? = some (.int .i64 l[j]):=h4 j _ (EG.2 ⟨_,List.getElem?_eq_getElem Ml,rfl⟩)
 refine⟨?_,by simp[World.frozen?,ho]⟩
 rw[Nat.zero_add]
 have h2:w.cell? ⟨g,j,none⟩=cs[j]? :=by simp[World.cell?,ho]
 rw[h2,h1]
 simp[Ml]
def uP(l:List Int):List Int:=l.mergeSort fun x y=>decide (x≤y)
theorem IB(l:List Int):(uP l).length=l.length:=by simp[uP]
theorem aab{l:List Int}{x:Int}:x∈uP l↔x∈l:=by simp[uP]
theorem aac(l:List Int):(uP l).Pairwise (·≤·):=by
 have h:=List.pairwise_mergeSort (le:=fun x y:Int=>decide (x≤y)) (fun a b c h1 h2=>by simp at *;omega) (fun a b=>by simp;omega) l
 exact h.imp fun h=>by simpa using h
structure RK(H:Heap)(v:Value)(n:Nat)(k:List Int)(H':Heap):Prop where
 own:bW H' v 3 1 n (iv k)
 rem:rem H' (aC v)=rem H (aC v)
theorem ajs{H:Heap}{v:Value}{l:List Int}(h:bW H v 3 1 l.length (iv l))(hl:l.length<4611686018427387904):
  Fn Tryz.prog 62 #[v] H (fun r H'=>r = .tuple #[]∧RK H v l.length (uP l) H'):=by
 refine⟨⟨_,Tryz.func62,rfl,by decide⟩,fun w hd=> ?_⟩
 rcases h.2 with ⟨rfl,h0⟩ | ⟨g,cap,rfl,hg,h1,h2⟩
 ·have ui:l = []:=List.length_eq_zero_iff.1 h0
  subst ui
  refine(Any.slices_Sort_int_none Tryz.Z9 none 0 w).mono fun e w' ⟨h3,h4⟩=> ?_
  subst h4
  have hs:uP [] = []:=List.length_eq_zero_iff.1 (IB [])
  exact⟨_,h3,H,⟨rfl,by rw[hs];exact h,rfl⟩,hd,Fx.refl _ _⟩
 ·have eH:=hd.lt hg
  refine(calls_of_every_depth fun D=>AnyS.slices_Sort_int_in Tryz.Z9 D g 0 cap l w (holds_of hd hg) eH hl).mono fun e w' ⟨h3,n,os,h4⟩=> ?_
  subst h4
  have h5:=aaa (n:=n) (os:=os) hd hg (IB l) (by omega)
  refine⟨_,h3,_,⟨rfl,⟨⟨by rw[RJ,IB,Nat.mul_one],.inr ⟨g,cap,rfl,bC _ _ _,h1,h2⟩⟩,?_⟩⟩,h5.1,h5.2⟩
  exact cJ _ (dh.2 rfl)
end Go.aq
namespace Go.Proofs
open Go.Shelf
def Tryz.ajt:Go.Shelf.Ren:=⟨fun | 20=>63 | n=>n,fun | 0=>0 | 2=>2 | 3=>3 | 4=>4 | 5=>5 | 22=>49 | 33=>173 | 40=>149 | n=>n,fun | n=>n⟩
theorem Tryz.aad:Go.Proofs.Lays2.n20 Tryz.prog Tryz.ajt:={
 mixed:=by kernel_rfl
 f20:=Tryz.func63.trans (congrArg some (by kernel_rfl))
 t0:=Tryz.underlying0
 a0:=Tryz.isAgg0
 z0:=Tryz.sizeOf0
 v0:=Tryz.zeroValue0
 t3:=Tryz.underlying3
 a3:=Tryz.isAgg3
 z3:=Tryz.sizeOf3
 v3:=Tryz.zeroValue3
 t4:=Tryz.underlying4
 a4:=Tryz.isAgg4
 z4:=Tryz.sizeOf4
 v4:=Tryz.zeroValue4
 t22:=Tryz.underlying49
 a22:=Tryz.isAgg49
 z22:=Tryz.sizeOf49
 v22:=Tryz.zeroValue49
 i3:=by kernel_rfl}
end Go.Proofs
namespace Go.aq
open Go.Proofs Go.Sort Lp
theorem aju{H:Heap}{l:List Int}:bG (ke H) 1 (iv l) l:=by
 refine⟨by rw[RJ,Nat.mul_one],fun i z hz=> ?_⟩
 rw[OW (EG.2 ⟨z,hz,rfl⟩)];rfl
theorem ajv{H:Heap}{xs:List Value}{l:List Int}(h:bG (ke H) 1 xs l):xs=iv l:=by
 refine List.ext_getElem? fun i=> ?_
 cases hi:l[i]? with
 | none=>
  have h1:l.length≤i:=by simpa using hi
  rw[List.getElem?_eq_none (by rw[h.len];omega),List.getElem?_eq_none (by rw[RJ];omega)]
 | some z=>
  obtain⟨v,h1,h2⟩:=h.one hi
  have h2: [v] = [.int .i64 z]:=h2
  cases h2
  rw[h1,EG.2 ⟨z,hi,rfl⟩]
theorem ajw(l:List Int):(Lib.compact l).length≤l.length:=by
 unfold Lib.compact Lib.compactUpTo
 rw[List.length_map]
 exact Nat.le_trans (List.length_filter_le _ _) (by simp)
theorem ajx{H:Heap}{v:Value}{l:List Int}(h:bW H v 3 1 l.length (iv l))(hl:l.length≤1000000):
  Fn Tryz.prog 63 #[v] H (fun r H'=>Heap.le (rem H (aC v)) H'∧aN ke 1 H' r (Lib.compact l)):=by
 refine⟨⟨_,Tryz.func63,rfl,by decide⟩,fun w hd=> ?_⟩
 rcases h.2 with ⟨rfl,h0⟩ | ⟨g,cap,rfl,hg,h1,h2⟩
 ·have ui:l = []:=List.length_eq_zero_iff.1 h0
  subst ui
  refine(Any.slices_Compact_int_empty Tryz.aad none 0 w).mono fun e w' ⟨h3,h4⟩=> ?_
  subst h4
  exact⟨_,h3,H,⟨bF _ _,aN.nil⟩,hd,Fx.refl _ _⟩
 ·have eH:=hd.lt hg
  refine(Any.slices_Compact_int Tryz.aad g 0 cap l w (holds_of hd hg) (by omega) h1).mono fun e w' ⟨h3,n,h4⟩=> ?_
  have hle:=ajw l
  have hk:(Lib.compact l++List.replicate (l.length-(Lib.compact l).length) 0).length=l.length:=by simp;omega
  have h5:=aaa (n:=n) (os:= #[]) hd hg hk (by omega)
  have h6:grow (putRow (Value.int .i64) (Sort.ahead w n) g 0 (Lib.compact l++List.replicate (l.length-(Lib.compact l).length) 0).toArray) #[]=w':=by
   rw[h4];simp only[grow,Array.append_empty]
  rw[h6]at h5
  refine⟨_,h3,_,⟨?_,some ⟨g,0,none⟩,cap,iv (Lib.compact l),rfl,by omega,fun i u hu=>⟨_,rfl,?_⟩,aju⟩,h5.1,h5.2⟩
  ·have h7:=cJ (H:=H) (gs:=aC (.slice (some ⟨g,0,none⟩) l.length cap)) (g:=g) ⟨iv (Lib.compact l++List.replicate (l.length-(Lib.compact l).length) 0),cap*1,3,true⟩ (dh.2 rfl)
   have h8:=bF (ins H g ⟨iv (Lib.compact l++List.replicate (l.length-(Lib.compact l).length) 0),cap*1,3,true⟩) (aC (.slice (some ⟨g,0,none⟩) l.length cap))
   rwa [h7]at h8
  ·rw[iu]
   simp only[cell,bC]
   obtain⟨z,hz,rfl⟩:=EG.1 hu
   exact EG.2 ⟨z,by rw[List.getElem?_append_left (List.getElem?_eq_some_iff.1 hz).1];exact hz,rfl⟩
theorem ajy{l:List Int}{x:Int}(h:x∈Lib.compact l):x∈l:=by
 unfold Lib.compact Lib.compactUpTo at h
 obtain⟨i,hi,rfl⟩:=List.mem_map.1 h
 have eZ:i<l.length:=List.mem_range.1 (List.mem_filter.1 hi).1
 simp[getElem!_pos,eZ]
theorem aae{l:List Int}(h:l.Pairwise (·≤·)){i j:Nat}(AR:i≤j)(hj:j<l.length):l.toArray[i]!≤l.toArray[j]! :=by
 have hi:i<l.length:=by omega
 rw[getElem!_pos l.toArray i (by simpa using hi),getElem!_pos l.toArray j (by simpa using hj)]
 simp only[List.getElem_toArray]
 by_cases e:i=j
 ·subst e;exact Int.le_refl _
 ·exact List.pairwise_iff_getElem.1 h i j hi hj (by omega)
theorem ajz{l:List Int}(h:l.Pairwise (·≤·)):∀i,i<l.length→l.toArray[i]!∈Lib.compact l:=by
 intro i
 induction i with
 | zero=>
  intro hi
  exact List.mem_map.2 ⟨0,List.mem_filter.2 ⟨List.mem_range.2 hi,by simp[Lib.keeps]⟩,rfl⟩
 | succ i ih=>
  intro hi
  by_cases e:l.toArray[i+1]! = l.toArray[i]!
  ·rw[e];exact ih (by omega)
  ·exact List.mem_map.2 ⟨i+1,List.mem_filter.2 ⟨List.mem_range.2 hi,decide_eq_true (.inr (by rw[show i+1-1=i from rfl];exact e))⟩,rfl⟩
theorem ajA{l:List Int}(h:l.Pairwise (·≤·)):uM (Lib.compact l):=by
 unfold Lib.compact Lib.compactUpTo uM
 rw[List.pairwise_map]
 have h1:((List.range l.length).filter (Lib.keeps l.toArray)).Pairwise (· < ·):=List.Pairwise.filter _ List.pairwise_lt_range
 refine List.Pairwise.imp_of_mem (fun{i j} hi hj AR=> ?_) h1
 have qw:=List.mem_filter.1 hj
 have tJ:=List.mem_range.1 qw.1
 have h2:l.toArray[i]!≤l.toArray[j-1]! :=aae h (by omega) (by omega)
 have h3:l.toArray[j-1]!≤l.toArray[j]! :=aae h (by omega) tJ
 have h4:l.toArray[j]!≠l.toArray[j-1]! :=by
  have:=qw.2
  simp only[Lib.keeps,decide_eq_true_eq]at this
  rcases this with h5 | h5
  ·omega
  ·exact h5
 omega
theorem ajB(fs:List aJ):Lib.compact (uP (gW fs))=ct fs:=by
 refine ajh (ajA (aac _)) fun v=>⟨fun h=>aab.1 (ajy h),fun h=> ?_⟩
 obtain⟨i,hi⟩:=List.getElem?_of_mem (aab.2 h)
 have eZ:=List.getElem?_eq_some_iff.1 hi
 have h1:=ajz (aac (gW fs)) i eZ.1
 rw[getElem!_pos _ i (by simpa using eZ.1)]at h1
 simpa [eZ.2]using h1
end Go.aq
namespace Go.aq
open Go.Proofs Num Lp
theorem Cd{P:Program}{n:Nat}{all:Array Oper}{md:Mode}{r:List Oper}{s:St}{H Hb:Heap}{K:St→Heap→Prop}{dst:Option Nat}{ty:TypeId}{pos:String}{after:Array _}{gd:Option (Nat×Bool)}
  {α:Type} {Q:Heap→List Value→α→Prop} {t e sz bytes gb:Nat} {x y:Operand} {z v:Value} {l:List α} {a:α} {xs us:List Value} (up:Up Q) (one:One Q) (ht:P.underlying t=some (.slice e)) (he:fH P e sz z bytes) (hx:ev s x=some v) (hy:ev s y=some (.slice (some ⟨gb,0,none⟩) 1 1))
  (hG:eo Q e sz Hb H v l xs) (a6:H gb=none) (hq:Q (rem H (aC v)) us a) (hl:us.length=sz) (hb:(l.length+1)*bytes≤140737488355328) (pD:l.length+1≤9223372036854775807)
  (hk:∀v' H' ys,eo Q e sz Hb H' v' (l ++ [a]) ys→Heap.le (rem H (aC v)) H'→aT P n all md r (bD s dst (.val v')) H' K) (hg:cC all s gd=some true:=by rfl) (nb:md.nb s dst=true:=by rfl):aT P n all md (⟨dst,.call ⟨.builtin .append,#[x,y],#[t,t]⟩,ty,pos,after,gd⟩::r) s (ins H gb (whole us e)) K:=by
 have hn:¬gb∈aC v:=fun hm=>hG.uK gb hm a6
 have ra:=hG.ins up (whole us e) a6
 have hle:Heap.le (rem H (aC v)) (rem (ins H gb (whole us e)) (aC v)):=se _ (Heap.bI _ a6)
 refine eD (k:=1) ht he hx hy ra.own (eN _ _ _ _ _ _) (by rw[Nat.one_mul];exact hl) (one _ _ _ hq) hb pD (fun v' H' ha=> ?_) hg nb
 have uQ:=ra.append up (k:=[a]) rfl ha (jq (up _ _ _ _ hle hq) hl)
 refine hk v' H' _ uQ ?_
 have nZ:=ra.vZ.append up (k:=[a]) rfl ha (jq (up _ _ _ _ hle hq) hl)
 exact hle.trans nZ.le
def aaf(H:Heap)(v:Value)(g:aJ→Int):Prop:=∃iO cap,v = .func (.func iO) #[] (List.toArray cap)∧∀H',Heap.le H H'→∀(f:aJ)(A:Option Addr)(c:Nat),aN gX 2 H' (.slice A f.ts.length c) f.ts→f.ts.length≤1000000→Fn Tryz.prog iO ([Value.agg #[.int .i64 f.c,.slice A f.ts.length c]]++cap).toArray H' (j8 H' (.int .i64 (g f)))
def Mm(fs:List aJ)(H:Heap)(v:Value)(H':Heap):Prop:=∃ys,eo o6 25 2 H H' v fs ys
theorem Mm.le{fs:List aJ}{H:Heap}{v:Value}{H':Heap}(h:Mm fs H v H'):Heap.le H H':=by
 obtain⟨_,h⟩:=h;exact h.le
theorem eo.cast{α:Type}{P:Heap→List Value→α→Prop}{e sz:Nat}{Hb H:Heap}{v:Value}{l l':List α}{xs:List Value}(h:eo P e sz Hb H v l xs)(k:l=l'):eo P e sz Hb H v l' xs:=by subst k;exact h
theorem RK.cut{H:Heap}{v:Value}{l:List Int}{H':Heap}(h:RK H v l.length (uP l) H'):bW H' v 3 1 (uP l).length (iv (uP l)):=by
 rw[IB];exact h.own
def IC(l:List Int)(H:Heap)(v:Value)(H':Heap):Prop:=Heap.le H H'∧∃A c,v = .slice A l.length c∧aN ke 1 H' (.slice A l.length c) l
theorem IC.le{l:List Int}{H:Heap}{v:Value}{H':Heap}(h:IC l H v H'):Heap.le H H':=h.1
end Go.aq
namespace Go.aq
open Go.Proofs Num Lp
theorem ajC{H:Heap}{g e:Nat}(z0 z:Int)(hg:H g=none):Heap.le H (ins (ins H g (whole [.int .i64 z0] e)) g {whole [.int .i64 z0] e with xs:=aL (whole [.int .i64 z0] e).xs 0 [.int .i64 z]})∧cell (ins (ins H g (whole [.int .i64 z0] e)) g {whole [.int .i64 z0] e with xs:=aL (whole [.int .i64 z0] e).xs 0 [.int .i64 z]}) ⟨g,0,none⟩=some (.int .i64 z):=by
 refine⟨?_,by simp[cell,ins,whole,aL]⟩
 rw[nF];exact Heap.bI _ hg
theorem rb{n:Int}(h: -1048576≤n∧n≤1048576):aM (n:Rat)≤1:=KH.2 (by
 rw[Rat.num_intCast,Rat.den_intCast,Nat.pow_one,ck];omega)
theorem ID{fs:List aJ}{ys:List Rat}{N:Nat}{g:aJ→Int}(hy:∀q,q∈ys→aM q≤N+2)(hl:ys.length=fs.length)(hn:fs.length≤1000)(hN:N≤400000000)(hg:∀i,i<fs.length→-1048576≤g (nth fs i)∧g (nth fs i)≤1048576){k:Nat}(hk:k≤fs.length):aM (aZ k (fun i=>fn ys i*((g (nth fs i):Int):Rat)))≤900000000000:=by
 have h1:=WC (f:=fn ys) (g:=fun i=>((g (nth fs i):Int):Rat)) (s:=N+2) (n:=fs.length) (fun k hk=>⟨Pj hy (by omega),by have:=rb (hg k hk);omega⟩) k hk
 have h2:k*(2*(N+2)+1)≤1000*(2*(N+2)+1):=Nat.mul_le_mul_right _ (by omega)
 omega
theorem RL{p q:Rat}(h1:aM p≤1)(h2:aM q≤900000000000):aM (p-q)≤1000000000000:=by
 have:=so p q;omega
end Go.aq
namespace Go.aq
open Go.Proofs Num Lp
abbrev MB:Nat:=1000000000000
structure ko(g:Nat)(Hb H:Heap)(f:Nat→Rat)(n:Nat)(xs:List Value):Prop where
 ent:H g=some ⟨xs,n*3,38,true⟩
 jG:bG (dA MB (rem H [g])) 3 xs (aK f n)
 base:Heap.le Hb (rem H [g])
section
variable {g:Nat} {Hb H H':Heap} {f:Nat→Rat} {n:Nat} {xs:List Value}
theorem ajD(hg:H g=none):ko g H (ins H g ⟨cR [.bool false,.slice none 0 0,.slice none 0 0] ((n:Int).toNat*3),(n:Int).toNat*3,38,true⟩) (fun _=>0) n (cR [.bool false,.slice none 0 0,.slice none 0 0] (n*3)):=by
 rw[Int.toNat_natCast]
 refine⟨bC _ _ _,?_,?_⟩
 ·rw[Xc];exact Gd (P:=dA MB _) rfl Mf n
 ·rw[sh _ hg,oO];exact .refl _
theorem ko.live(h:ko g Hb H f n xs):∀q,q∈[g]→H q≠none:=fun q hq=>by
 rw[List.mem_singleton.1 hq,h.ent];simp
theorem ko.call(h:ko g Hb H f n xs){R:Program}{k:FuncId}{args:Array Value}{bE:Value→Heap→Prop}(hc:Fn R k args (rem H [g]) bE):Fn R k args H (qB [g] bE H):=Fn.frame h.live hc
theorem ko.km(h:ko g Hb H f n xs){bE:Value→Heap→Prop}{r:Value}(hf:qB [g] bE H r H')(hl:∀v' K,bE v' K→Heap.le (rem H [g]) K):ko g Hb H' f n xs:=
 ⟨by rw[hf.same g (List.mem_singleton.2 rfl)];exact h.ent,h.jG.mono fun vs a=>pS MB _ _ vs a (hl _ _ hf.post),h.base.trans (hl _ _ hf.post)⟩
theorem ko.rd(h:ko g Hb H f n xs):Rd H (some ⟨g,0,none⟩) xs:=fun i v hv=>⟨_,rfl,by rw[iu];simp[cell,h.ent,hv]⟩
theorem ko.sl(h:ko g Hb H f n xs):aN (dA MB) 3 H (.slice (some ⟨g,0,none⟩) n n) (aK f n):=⟨_,n,xs,by rw[bh],by rw[bh];exact Nat.le_refl _,h.rd,h.jG.mono fun vs a=>pS MB _ _ vs a (bF _ _)⟩
theorem ko.room(h:ko g Hb H f n xs):0+n*3≤(⟨xs,n*3,38,true⟩:aq.Ent).xs.length:=by
 show 0+n*3≤xs.length
 rw[h.jG.len,bh];omega
theorem ko.set(h:ko g Hb H f n xs){k:Nat}(hk:k<n){us:List Value}{q:Rat}(hq:dA MB (rem H [g]) us q)(hl:us.length=3):ko g Hb (ins H g {(⟨xs,n*3,38,true⟩:aq.Ent)with xs:=aL (⟨xs,n*3,38,true⟩:aq.Ent).xs (0+(k:Int).toNat*3) us}) (bT f k q) n (aL xs (k*3) us):=by
 have hr:∀e,rem (ins H g e) [g]=rem H [g]:=fun e=>cJ _ (List.mem_singleton.2 rfl)
 rw[Nat.zero_add,Int.toNat_natCast]
 refine⟨bC _ _ _,?_,?_⟩
 ·rw[hr,←Lc];exact h.jG.set (by rw[bh];exact hk) hq hl
 ·rw[hr];exact h.base
theorem ko.cast(h:ko g Hb H f n xs){f':Nat→Rat}(e:∀j,j<n→f j=f' j):ko g Hb H f' n xs:=⟨h.ent,by rw[←la e];exact h.jG,h.base⟩
end
end Go.aq
namespace Go.aq
open Go.Proofs Num Lp
structure CK where
 P:Heap→List Value→Rat→Prop
 sz:Nat
 e:Nat
 he:Nat
 up:Up P
 len:∀H vs q,P H vs q→vs.length=sz
def pa(C:CK)(K:Heap)(H:Heap)(g:Nat)(l:List Rat):Prop:=∃xs sz,H g=some ⟨xs,sz,C.e,true⟩∧bG (C.P K) C.sz xs l
theorem pa.le{C:CK}{K K' H H':Heap}{g:Nat}{l:List Rat}(h:pa C K H g l)(hl:Heap.le K K')(hs:H' g=H g):pa C K' H' g l:=by
 obtain⟨xs,sz,h1,h2⟩:=h
 exact⟨xs,sz,by rw[hs];exact h1,h2.mono fun vs a=>C.up _ _ vs a hl⟩
structure GG where
 top:List Nat
 hb:List Nat
 bb:List Nat
 bv:Value
 rg:List (Nat×Nat)
 Ar:Option Addr
 cr:Nat
def GG.low(G:GG):List Nat:=G.hb++(G.bb++G.rg.map (·.1))
def GG.gs(G:GG):List Nat:=G.top++G.low
def GG.on(G:GG)(t:List Nat):GG:={G with top:=t}
def iV(rg:List (Nat×Nat))(W:Nat):List Value:=rg.map fun p=> .slice (some ⟨p.1,0,none⟩) W p.2
theorem kp{rg:List (Nat×Nat)}{W i:Nat}{p:Nat×Nat}(h:rg[i]? = some p):(iV rg W)[i]? = some (.slice (some ⟨p.1,0,none⟩) W p.2):=by
 unfold iV;rw[List.getElem?_map,h];rfl
structure cD(C:CK)(H:Heap)(G:GG)(R W m:Nat)(M:Nat→Nat→Rat)(B:Nat→Nat):Prop where
 nd:G.gs.Nodup
 top:∀q,q∈G.top→H q≠none
 iC:G.rg.length=R
 l9:G.hb=aC (.slice G.Ar R G.cr)
 rows:bW H (.slice G.Ar R G.cr) C.he 1 R (iV G.rg W)
 row:∀(i:Nat)(p:Nat×Nat),G.rg[i]? = some p→pa C (rem H G.gs) H p.1 (aK (M i) W)
 basis:(m=0∧G.bb = []∧G.bv = .slice none 0 0)∨∃gb cb sz,G.bb = [gb]∧G.bv = .slice (some ⟨gb,0,none⟩) m cb∧H gb=some ⟨eP B m,sz,3,true⟩
section
variable {C:CK} {H H':Heap} {G:GG} {R W m:Nat} {M:Nat→Nat→Rat} {B:Nat→Nat}
theorem GG.Ce{G:GG}{q:Nat}(h:q∈G.top):q∈G.gs:=List.mem_append_left _ h
theorem GG.Cf{G:GG}{q:Nat}(h:q∈G.hb):q∈G.low:=List.mem_append_left _ h
theorem GG.mE{G:GG}{q:Nat}(h:q∈G.bb):q∈G.low:=List.mem_append_right _ (List.mem_append_left _ h)
theorem GG.gS{G:GG}{i:Nat}{p:Nat×Nat}(h:G.rg[i]? = some p):p.1∈G.low:=List.mem_append_right _ (List.mem_append_right _ (List.mem_map.2 ⟨p,List.mem_of_getElem? h,rfl⟩))
theorem GG.kO{G:GG}{q:Nat}(h:q∈G.low):q∈G.gs:=List.mem_append_right _ h
theorem GG.uR{G:GG}(h:G.gs.Nodup){q r:Nat}(hq:q∈G.top)(hr:r∈G.low):q≠r:=(List.nodup_append.1 h).2.2 q hq r hr
theorem GG.Mn{G:GG}(h:G.gs.Nodup){q r:Nat}(hq:q∈G.hb)(hr:r∈G.bb∨∃(i:Nat)(p:Nat×Nat),G.rg[i]? = some p∧p.1=r):q≠r:=(List.nodup_append.1 (List.nodup_append.1 h).2.1).2.2 q hq r (by
 rcases hr with hr | ⟨i,p,hp,rfl⟩
 ·exact List.mem_append_left _ hr
 ·exact List.mem_append_right _ (List.mem_map.2 ⟨p,List.mem_of_getElem? hp,rfl⟩))
theorem GG.Gx{G:GG}(h:G.gs.Nodup){q:Nat}(hq:q∈G.bb){i:Nat}{p:Nat×Nat}(hp:G.rg[i]? = some p):q≠p.1:=
 (List.nodup_append.1 (List.nodup_append.1 (List.nodup_append.1 h).2.1).2.1).2.2 q hq p.1 (List.mem_map.2 ⟨p,List.mem_of_getElem? hp,rfl⟩)
theorem GG.K4{G:GG}(h:G.gs.Nodup){i j:Nat}{p q:Nat×Nat}(hp:G.rg[i]? = some p)(hq:G.rg[j]? = some q)(bA:i≠j):p.1≠q.1:=by
 have h1:=(List.nodup_append.1 (List.nodup_append.1 (List.nodup_append.1 h).2.1).2.1).2.1
 intro e
 have hi:(G.rg.map (·.1))[i]? = some p.1:=by rw[List.getElem?_map,hp];rfl
 have hj:(G.rg.map (·.1))[j]? = some p.1:=by rw[List.getElem?_map,hq,e];rfl
 obtain⟨hi1,rO⟩:=List.getElem?_eq_some_iff.1 hi
 obtain⟨qw,tJ⟩:=List.getElem?_eq_some_iff.1 hj
 exact bA ((List.getElem_inj h1).1 (rO.trans tJ.symm))
theorem cD.get(h:cD C H G R W m M B){i:Nat}(hi:i<R):∃p,G.rg[i]? = some p:=⟨_,List.getElem?_eq_getElem (by rw[h.iC];exact hi)⟩
theorem cD.ne(h:cD C H G R W m M B):∀q,q∈G.gs→H q≠none:=fun q hq=>by
 rcases List.mem_append.1 hq with hq | hq
 ·exact h.top q hq
 ·rcases List.mem_append.1 hq with hq | hq
  ·rw[h.l9]at hq
   obtain⟨en,he⟩:=h.rows.block (dh.1 hq)
   rw[he];simp
  rcases List.mem_append.1 hq with hq | hq
  ·rcases h.basis with ⟨_,h1,_⟩ | ⟨gb,cb,sz,h1,_,h2⟩
   ·rw[h1]at hq;cases hq
   ·rw[h1,List.mem_singleton]at hq
    rw[hq,h2];simp
  ·obtain⟨p,hp,rfl⟩:=List.mem_map.1 hq
   obtain⟨i,hi⟩:=List.getElem?_of_mem hp
   obtain⟨xs,sz,h1,_⟩:=h.row i p hi
   rw[h1];simp
theorem cD.Cg(h:cD C H G R W m M B){t:List Nat}(dW:(G.on t).gs.Nodup)(ht:∀q,q∈t→H' q≠none)(hs:∀q,q∈G.low→H' q=H q)(hl:Heap.le (rem H G.gs) (rem H' (G.on t).gs)):cD C H' (G.on t) R W m M B where
 nd:=dW
 top:=ht
 iC:=h.iC
 l9:=h.l9
 rows:=h.rows.same fun q hq=>hs q (GG.Cf (by show q∈G.hb;rw[h.l9];exact dh.2 hq))
 row:=fun i p hp=>(h.row i p hp).le hl (hs _ (GG.gS hp))
 basis:=by
  rcases h.basis with h1 | ⟨gb,cb,sz,h1,h2,h3⟩
  ·exact .inl h1
  ·exact .inr ⟨gb,cb,sz,h1,h2,by rw[hs _ (GG.mE (by show gb∈G.bb;rw[h1];exact List.mem_singleton.2 rfl))];exact h3⟩
theorem cD.kept(h:cD C H G R W m M B)(k:Kept G.gs H H'):cD C H' G R W m M B:=
 h.Cg (t:=G.top) h.nd (fun q hq=>by rw[k.same _ (GG.Ce hq)];exact h.top q hq) (fun q hq=>k.same q (GG.kO hq)) k.le
theorem cD.Ch(h:cD C H G R W m M B){g:Nat}(hg:g∈G.top)(k:fU G.gs g H H')(hn:H' g≠none):cD C H' G R W m M B:=
 h.Cg (t:=G.top) h.nd (fun q hq=>by
  by_cases e:q=g
  ·rw[e];exact hn
  ·rw[k.same _ (GG.Ce hq) e];exact h.top q hq) (fun q hq=>k.same q (GG.kO hq) (Ne.symm (GG.uR h.nd hg hq))) k.le
theorem cD.congr{M':Nat→Nat→Rat}{B':Nat→Nat}(h:cD C H G R W m M B)(hM:∀i,i<R→∀j,j<W→M' i j=M i j)(hB:∀i,i<m→B' i=B i):cD C H G R W m M' B' where
 nd:=h.nd
 top:=h.top
 iC:=h.iC
 l9:=h.l9
 rows:=h.rows
 row:=fun i p hp=>by
  have hi:i<R:=by rw[←h.iC];exact(List.getElem?_eq_some_iff.1 hp).1
  rw[la (g:=M i) (fun j hj=>hM i hi j hj)];exact h.row i p hp
 basis:=by rw[WQ hB];exact h.basis
def iF(M:Nat→Nat→Rat)(i:Nat)(f:Nat→Rat)(k:Nat):Nat→Rat:=if k=i then f else M k
theorem cD.setRow(h:cD C H G R W m M B){i:Nat}{p:Nat×Nat}(hp:G.rg[i]? = some p)(k:fU G.gs p.1 H H'){f:Nat→Rat}(hb:pa C (rem H' G.gs) H' p.1 (aK f W)):cD C H' G R W m (iF M i f) B where
 nd:=h.nd
 top:=fun q hq=>by rw[k.same _ (GG.Ce hq) (GG.uR h.nd hq (GG.gS hp))];exact h.top q hq
 iC:=h.iC
 l9:=h.l9
 rows:=h.rows.same fun q hq=>k.same _ (GG.kO (GG.Cf (by rw[h.l9];exact dh.2 hq))) (GG.Mn h.nd (by rw[h.l9];exact dh.2 hq) (.inr ⟨i,p,hp,rfl⟩))
 row:=fun j q hq=>by
  by_cases e:j=i
  ·subst e
   rw[hp]at hq
   cases hq
   simp only[iF,if_true]
   exact hb
  ·simp only[iF,if_neg e]
   exact(h.row j q hq).le k.le (k.same _ (GG.kO (GG.gS hq)) (GG.K4 h.nd hq hp e))
 basis:=by
  rcases h.basis with h1 | ⟨gb,cb,sz,h1,h2,h3⟩
  ·exact .inl h1
  ·have hm:gb∈G.bb:=by rw[h1];exact List.mem_singleton.2 rfl
   exact .inr ⟨gb,cb,sz,h1,h2,by rw[k.same _ (GG.kO (GG.mE hm)) (GG.Gx h.nd hm hp)];exact h3⟩
theorem cD.DR(h:cD C H G R W m M B){gb cb sz:Nat}(lz:G.bb = [gb])(dy:G.bv = .slice (some ⟨gb,0,none⟩) m cb){B':Nat→Nat}:cD C (ins H gb ⟨eP B' m,sz,3,true⟩) G R W m M B':=by
 have hm:gb∈G.bb:=by rw[lz];exact List.mem_singleton.2 rfl
 have hg:gb∈G.gs:=GG.kO (GG.mE hm)
 refine⟨h.nd,fun q hq=> ?_,h.iC,h.l9,h.rows.same fun q hq=>bn _ _ (GG.Mn h.nd (by rw[h.l9];exact dh.2 hq) (.inl hm)),fun i p hp=> ?_,.inr ⟨gb,cb,sz,lz,dy,bC _ _ _⟩⟩
 ·rw[bn _ _ (GG.uR h.nd hq (GG.mE hm))];exact h.top q hq
 ·rw[cJ _ hg]
  exact(h.row i p hp).le (.refl _) (bn _ _ (Ne.symm (GG.Gx h.nd hm hp)))
end
def wa:CK:=⟨fun _ vs q=>fA vs q,2,138,136,fun _ _ _ _ _ h=>h,fun _ _ _ ⟨n,d,h,_⟩=>by rw[h];rfl⟩
def iK:CK:=⟨cg,3,38,28,ef,fun _ vs _ h=>by
 obtain⟨u,w,e,_⟩:=h
 rw[DK e];rfl⟩
end Go.aq
namespace Go.aq
open Go Go.Proofs
section
variable {P:Program} {n:Nat} {w0:World} {H0:Heap} {Q:Exit→St→Heap→Prop} {s:St} {H:Heap}
theorem Mo{c:Code}(b:Nat){cs:List Value}(hb:s b=some (.box cs))(h:∀g e,H g=none→VC P n w0 H0 c Q (put s b (.val (.pointer (some ⟨g,0,none⟩)))) (ins H g ⟨cs,cs.length,e,true⟩)):VC P n w0 H0 c Q s H:=by
 unfold VC at h⊢
 intro a w hR
 obtain⟨G,hl,hG⟩:=hR.fits
 obtain⟨h1,h2,e,h3⟩:=hl.boxes b cs hb
 have key:∀t c',put s b (.val (.pointer (some ⟨G b,0,none⟩))) t=some (.box c')→t≠b∧s t=some (.box c'):=fun t c' ht=>by
  by_cases e:t=b
  ·subst e;rw[iz]at ht;cases ht
  ·rw[fG _ _ e]at ht;exact⟨e,ht⟩
 have ne:∀t c',t≠b→s t=some (.box c')→G t≠G b:=fun t c' e ht hg=>e (hl.inj t b _ _ ht hb hg)
 refine h (G b) e h2 a w ⟨hR.defers,⟨G,⟨⟨hl.aK.size,fun t v ht=> ?_⟩,fun t c' ht=> ?_,fun t t' c1 c2 ht ph hg=> ?_,fun t b' off c' ht tq=> ?_,fun g en hg=> ?_⟩,fun t c' ht=>hG t c' (key t c' ht).2⟩,?_⟩
 ·by_cases e:t=b
  ·subst e
   rw[iz]at ht
   cases ht
   exact h1
  ·rw[fG _ _ e]at ht;exact hl.aK.at_ t v ht
 ·obtain⟨e1,ht⟩:=key t c' ht
  obtain⟨k1,k2,k3⟩:=hl.boxes t c' ht
  exact⟨k1,by rw[bn _ _ (ne t c' e1 ht)];exact k2,k3⟩
 ·exact hl.inj t t' c1 c2 (key t c1 ht).2 (key t' c2 ph).2 hg
 ·obtain⟨e1,tq⟩:=key b' c' tq
  by_cases e2:t=b
  ·subst e2;rw[iz]at ht;cases ht
  ·rw[fG _ _ e2]at ht;exact hl.refs t b' off c' ht tq
 ·by_cases eg:g=G b
  ·subst eg
   rw[bC]at hg
   cases hg
   exact⟨_,h3,cs.toArray,(0,0),rfl,by simp,fun i v hv=>by simpa using hv,fun _=>rfl⟩
  ·rw[bn _ _ eg]at hg;exact hl.den g en hg
 ·have hf:=hR.fx
  refine⟨hf.os,hf.tape,hf.output,hf.size,fun g hg h0=> ?_,hf.form⟩
  have k:=hf.keep g hg h0
  refine⟨k.1,?_⟩
  rw[bn _ _ (fun e=>by have:=hG b cs hb;omega)];exact k.2
theorem RM{c:Code}{H':Heap}(hl:Heap.le H' H)(h:VC P n w0 H0 c Q s H'):VC P n w0 H0 c Q s H:=by
 unfold VC at h⊢
 intro a w hR
 have hn:∀g,H g=none→H' g=none:=fun g hg=>le_none hl hg
 obtain⟨G,hr,hG⟩:=hR.fits
 refine h a w ⟨hR.defers,⟨G,⟨hr.aK,fun t cs ht=> ?_,hr.inj,hr.refs,hr.den.le hl⟩,hG⟩,?_⟩
 ·obtain⟨h1,h2,h3⟩:=hr.boxes t cs ht
  exact⟨h1,hn _ h2,h3⟩
 ·have hf:=hR.fx
  exact⟨hf.os,hf.tape,hf.output,hf.size,fun g hg h0=>⟨(hf.keep g hg h0).1,hn _ (hf.keep g hg h0).2⟩,hf.form⟩
end
def lk(g:Nat)(H:Heap)(ad:Addr):Option Value:=if ad.block=g∧ad.off=2 then none else cell H ad
theorem RN{g:Nat}{H:Heap}{ad:Addr}{v:Value}(hc:cell H ad=some v)(hn:ad.block≠g∨ad.off≠2):lk g H ad=some v:=by
 unfold lk
 rw[if_neg (fun h=>hn.elim (fun k=>k h.1) (fun k=>k h.2))];exact hc
theorem IE(g:Nat)(H:Heap):(Mode.cO (lk g H)).fO H:=fun ad v h=>by
 have h:lk g H ad=some v:=h
 unfold lk at h
 split at h
 ·cases h
 ·exact h
theorem ajE{g:Nat}{H H':Heap}{gs:List Nat}{a b c c':Value}{sz:Nat}{e:TypeId}(hg:g∈gs)(ht:H g=some ⟨[a,b,c],sz,e,true⟩)(h:fU gs g H H')(ph:H' g=some ⟨[a,b,c'],sz,e,true⟩):(Mode.cO (lk g H)).fO H':=fun ad v hk=>by
 have hk:lk g H ad=some v:=hk
 unfold lk at hk
 split at hk
 ·cases hk
 ·rename_i hn
  by_cases e:ad.block=g
  ·unfold cell at hk⊢
   rw[e,ht]at hk
   rw[e,ph]
   simp only at hk⊢
   split at hk
   ·cases hk
   ·rename_i hs
    rw[if_neg hs]
    match ho:ad.off with
    | 0=>rw[ho]at hk;exact hk
    | 1=>rw[ho]at hk;exact hk
    | 2=>exact absurd ⟨e,ho⟩ hn
    | k+3=>rw[ho]at hk;simp at hk
  ·by_cases hm:ad.block∈gs
   ·unfold cell at hk⊢
    rw[h.same _ hm e];exact hk
   ·refine cF (bF _ gs) (cF h.le ?_)
    unfold cell at hk⊢
    rw[bM hm];exact hk
def Ci(kc:Addr→Option Value)(A:Option Addr)(xs:List Value):Prop:=∀(i:Nat)(v:Value),xs[i]? = some v→∃ad,A=some ad∧kc (ad.add i)=some v
theorem ajF{H:Heap}{gs:List Nat}{ad:Addr}{v:Value}(h:cell (rem H gs) ad=some v):¬ad.block∈gs:=fun hm=>by
 unfold cell at h
 rw[rem_in hm]at h;cases h
theorem Rd.kx{g:Nat}{H:Heap}{gs:List Nat}{A:Option Addr}{xs:List Value}(h:Rd (rem H gs) A xs)(hg:g∈gs):Ci (lk g H) A xs:=fun i v hv=>by
 obtain⟨ad,h1,h2⟩:=h i v hv
 exact⟨ad,h1,RN (cF (bF _ gs) h2) (.inl fun e=>ajF h2 (e▸hg))⟩
theorem zF{g q:Nat}{H:Heap}{xs:List Value}{s e:Nat}{b:Bool}(h:H q=some ⟨xs,s,e,b⟩)(hn:q≠g):Ci (lk g H) (some ⟨q,0,none⟩) xs:=fun i v hv=>by
 obtain⟨ad,h1,h2⟩:=dQ h i v hv
 cases h1
 refine⟨_,rfl,RN h2 (.inl ?_)⟩
 rw[iu];exact hn
theorem ajG{g:Nat}{H:Heap}{a:Value}{xs:List Value}{s e:Nat}{b:Bool}(h:H g=some ⟨a::xs,s,e,b⟩):lk g H ((⟨g,0,none⟩:Addr).add 0)=some a:=RN (by simp[cell,iu,h]) (.inr (by rw[iu];simp))
section
variable {P:Program} {n:Nat} {tb:Tb} {all:Array Oper} {s:St} {H:Heap} {K:St→Heap→Prop} {r:List Oper} {dst:Option Nat} {ty:TypeId} {pos:String} {after:Array Edge} {gd:Option (Nat×Bool)} {kc:Addr→Option Value}
theorem RO{t:TypeId}{x i:Operand}{ad:Addr}{m c:Nat}{k:IntKind}{j:Int}{e sz:Nat}(hc:(Mode.cO kc).fO H)(dI:j0 P tb)(ht:tb[t]? = some (.sl e sz))(hx:ev s x=some (.slice (some ad) m c))(hi:ev s i=some (.int k j))(h0:0≤j)(h1:j<m)
  (hk:aT P n all (.cO kc) r (bD s dst (.val (.pointer (some (ad.add (j.toNat*sz)))))) H K) (hg:cC all s gd=some true:=by rfl) (nb:jl s dst=true:=by rfl):aT P n all (.cO kc) (⟨dst,.indexAddr t x i,ty,pos,after,gd⟩::r) s H K:=
 D6 _ rfl hc hg nb (fun a w ha _=>by
  obtain⟨hu,ii,h2,h3⟩:=dI t _ ht
  simp[execOp,bR ha hx,bR ha hi,Instr.indexAt,asIntOf,run_underlying hu,h0,h1,sizeOf,typeInfo,h2,h3]) hk
theorem IF{t:TypeId}{x:Operand}{ad:Addr}{m:Nat}{wz:List (Nat×Nat)}{vs:List Value}(bo:(Mode.cO kc).fO H)(dI:j0 P tb)(ht:tb[t]? = some (.st m wz))(hx:ev s x=some (.pointer (some ad)))(hm:vs.length=m)
  (hc:∀(i:Nat)(v:Value),vs[i]? = some v→kc (ad.add i)=some v)
  (hk:aT P n all (.cO kc) r (bD s dst (.val (.agg vs.toArray))) H K) (hg:cC all s gd=some true:=by rfl) (nb:jl s dst=true:=by rfl):aT P n all (.cO kc) (⟨dst,.load t x,ty,pos,after,gd⟩::r) s H K:=
 D6 _ rfl bo hg nb (fun a w ha hd=>by
  obtain⟨fs,ii,hu,h2,h3,_,h4⟩:=dI t _ ht
  simp[execOp,bR ha hx,Instr.loadAt,Instr.sureAddr,NU hu h2 vs (by rw[h3,hm]) (fun j v hv=>hd _ _ (hc j v hv))]) hk
theorem Cj{t t2:TypeId}{x i:Operand}{A:Option Addr}{m c d1:Nat}{ov:Option Nat}{ow:TypeId}{ox:String}{oy:Array Edge}{kv:Option (Nat×Bool)}{k:IntKind}{j:Int}{e:Nat}{ti:Ti}{xs:List Value}{v:Value}
  (bo:(Mode.cO kc).fO H) (dI:j0 P tb) (ht:tb[t]? = some (.sl e 1)) (fC:tb[t2]? = some ti) (h1:yq ti=true) (hx:ev s x=some (.slice A m c)) (hi:ev s i=some (.int k j)) (hr:Ci kc A xs) (hv:xs[j.toNat]? = some v) (h0:0≤j) (hm:j<m)
  (hk:∀ad:Addr,aT P n all (.cO kc) r (bD (put s d1 (.val (.pointer (some ad)))) ov (.val v)) H K) (hg:cC all s gd=some true:=by rfl) (nb:jl s (some d1)=true:=by rfl) (eu:∀ad:Addr,cC all (put s d1 (.val (.pointer (some ad)))) kv=some true:=by exact fun _=>rfl) (wB:∀ad:Addr,jl (put s d1 (.val (.pointer (some ad)))) ov=true:=by exact fun _=>rfl):
  aT P n all (.cO kc) (⟨some d1,.indexAddr t x i,ty,pos,after,gd⟩::⟨ov,.load t2 (.tmp d1),ow,ox,oy,kv⟩::r) s H K:=by
 obtain⟨ad,rfl,hc⟩:=hr _ _ hv
 exact RO bo dI ht hx hi h0 hm (jS (ad:=ad.add (j.toNat*1)) bo dI fC h1 (by simp[ev,put,bD]) (by rw[Nat.mul_one];exact hc) (hk _) (eu _) (wB _)) hg nb
theorem Ck{t t2:TypeId}{x i:Operand}{A:Option Addr}{m c d1:Nat}{ov:Option Nat}{ow:TypeId}{ox:String}{oy:Array Edge}{kv:Option (Nat×Bool)}{k:IntKind}{j:Int}{e sz:Nat}{wz:List (Nat×Nat)}{xs vs:List Value}
  (bo:(Mode.cO kc).fO H) (dI:j0 P tb) (ht:tb[t]? = some (.sl e sz)) (fC:tb[t2]? = some (.st sz wz)) (hx:ev s x=some (.slice A m c)) (hi:ev s i=some (.int k j)) (hr:Ci kc A xs) (hl:vs.length=sz) (hp:0<sz) (hv:∀(q:Nat)(v:Value),vs[q]? = some v→xs[j.toNat*sz+q]? = some v) (h0:0≤j) (hm:j<m)
  (hk:∀ad:Addr,aT P n all (.cO kc) r (bD (put s d1 (.val (.pointer (some ad)))) ov (.val (.agg vs.toArray))) H K) (hg:cC all s gd=some true:=by rfl) (nb:jl s (some d1)=true:=by rfl) (eu:∀ad:Addr,cC all (put s d1 (.val (.pointer (some ad)))) kv=some true:=by exact fun _=>rfl) (wB:∀ad:Addr,jl (put s d1 (.val (.pointer (some ad)))) ov=true:=by exact fun _=>rfl):
  aT P n all (.cO kc) (⟨some d1,.indexAddr t x i,ty,pos,after,gd⟩::⟨ov,.load t2 (.tmp d1),ow,ox,oy,kv⟩::r) s H K:=by
 have NW:vs[0]? = some (vs[0]'(by omega)):=List.getElem?_eq_getElem (by omega)
 obtain⟨ad,rfl,_⟩:=hr _ _ (hv 0 _ NW)
 refine RO bo dI ht hx hi h0 hm (IF (ad:=ad.add (j.toNat*sz)) bo dI fC (by simp[ev,put,bD]) hl (fun q v hq=> ?_) (hk _) (eu _) (wB _)) hg nb
 obtain⟨JW,h1,h2⟩:=hr _ _ (hv q v hq)
 cases h1
 rw[add_add];exact h2
theorem Cl{f:Operand}{iO:FuncId}{args:List Value}{xs:List Operand}{ts:Array TypeId}{bE:Value→Heap→Prop}(hf:ev s f=some (.func (.func iO) #[] #[]))(hx:qn s xs=some args)
  (h:Fn P iO args.toArray H bE) (hm:∀v H',bE v H'→(Mode.cO kc).fO H') (hk:∀v H',bE v H'→aT P n all (.cO kc) r (bD s dst (.val v)) H' K) (hg:cC all s gd=some true:=by rfl) (nb:jl s dst=true:=by rfl):aT P n all (.cO kc) (⟨dst,.call ⟨.value f,xs.toArray,ts⟩,ty,pos,after,gd⟩::r) s H K:=
 D7 (cap:=[]) hf hx (by simpa using h) hm hk hg nb
theorem Mp{t t2:TypeId}{x i y:Operand}{g m c d1:Nat}{ow:TypeId}{ox:String}{oy:Array Edge}{kv:Option (Nat×Bool)}{k:IntKind}{j:Int}{e sz:Nat}{ent:Ent}{v:Value}{vs:List Value}{ii:TypeInfo}
  (bo:(Mode.cO kc).fO H) (dI:j0 P tb) (ht:tb[t]? = some (.sl e sz)) (hx:ev s x=some (.slice (some ⟨g,0,none⟩) m c)) (hi:ev s i=some (.int k j)) (h0:0≤j) (hm:j<m) (hg:H g=some ent) (cG:ent.own=true) (lx:m*sz≤ent.xs.length)
  (wD:P.info? t2=some ii) (cP:ii.size=sz) (hy:∀ad:Addr,ev (put s d1 (.val (.pointer (some ad)))) y=some v) (hv:v.cells=vs.toArray) (il:vs.length=sz) (h1:vs.all yy=true)
  (hk:∀ad:Addr,aT P n all (.cO kc) r (put s d1 (.val (.pointer (some ad)))) (ins H g {ent with xs:=aL ent.xs (j.toNat*sz) vs}) K) (rQ:cC all s gd=some true:=by rfl) (nb:jl s (some d1)=true:=by rfl) (eu:∀ad:Addr,cC all (put s d1 (.val (.pointer (some ad)))) kv=some true:=by exact fun _=>rfl):
  aT P n all (.cO kc) (⟨some d1,.indexAddr t x i,ty,pos,after,gd⟩::⟨none,.store t2 (.tmp d1) y,ow,ox,oy,kv⟩::r) s H K:=by
 have tC:(⟨g,0,none⟩:Addr).add (j.toNat*sz)=⟨g,j.toNat*sz,none⟩:=iu ..
 have hjm:j.toNat*sz+sz≤m*sz:=by
  have:(j.toNat+1)*sz≤m*sz:=Nat.mul_le_mul_right _ (by omega)
  rw[Nat.add_mul]at this;omega
 refine RO bo dI ht hx hi h0 hm ?_ rQ nb
 rw[tC]
 exact BE (by simp[ev,put,bD]) hg cG (by omega) wD cP (hy _) hv il h1 (hk _) (eu _)
end
end Go.aq
namespace Go.aq
open Go.Proofs Num Lp
theorem GG.xP(G:GG)(t:List Nat):(G.on t).gs=t++G.low:=rfl
theorem RP(v:Value):(aC v).Nodup:=by
 unfold aC
 cases v.ownBlock with
 | none=>exact List.nodup_nil
 | some q=>exact List.nodup_cons.2 ⟨List.not_mem_nil,List.nodup_nil⟩
theorem App.new{H H':Heap}{v v':Value}{e sz n:Nat}{xs:List Value}(ha:App H v e sz n xs v' H'):∀q,q∈aC v'→q∈aC v∨H q=none:=fun q hq=>by
 rcases ha.at_ with h4 | ⟨g,h4,h5⟩
 ·exact .inl (dh.2 (h4▸dh.1 hq))
 ·have:=dh.1 hq;rw[h4]at this;cases this;exact .inr h5
section
variable {C:CK} {H H':Heap} {G:GG} {R W m:Nat} {M:Nat→Nat→Rat} {B:Nat→Nat} {u u':Value} {t:List Nat} {e sz n:Nat} {xs:List Value}
theorem cD.app(h:cD C H (G.on (aC u++t)) R W m M B)(ha:App H u e sz n xs u' H'):cD C H' (G.on (aC u'++t)) R W m M B∧Heap.le (rem H (G.on (aC u++t)).gs) (rem H' (G.on (aC u'++t)).gs):=by
 have bA:=h.ne
 have dW:=h.nd
 rw[GG.xP,List.append_assoc]at dW
 obtain⟨_,n2,n3⟩:=List.nodup_append.1 dW
 have ot:∀q,q∈t++G.low→q∈(G.on (aC u++t)).gs:=fun q hq=>by
  rw[GG.xP,List.append_assoc];exact List.mem_append_right _ hq
 have qD:∀q,q∈t++G.low→H' q=H q:=fun q hq=>by
  obtain⟨en,he⟩:=Option.ne_none_iff_exists'.1 (bA q (ot q hq))
  rw[he]
  exact ha.same q en he fun h1=>n3 q (dh.2 h1) q hq rfl
 have hl:Heap.le (rem H (G.on (aC u++t)).gs) (rem H' (G.on (aC u'++t)).gs):=fun q en hq=>by
  by_cases hm:q∈(G.on (aC u++t)).gs
  ·rw[rem_in hm]at hq;cases hq
  ·rw[bM hm]at hq
   have k1:¬q∈aC u:=fun k=>hm (by rw[GG.xP,List.append_assoc];exact List.mem_append_left _ k)
   have h1:=ha.same q en hq fun e=>k1 (dh.2 e)
   have h2:¬q∈(G.on (aC u'++t)).gs:=fun h2=>by
    rw[GG.xP,List.append_assoc]at h2
    rcases List.mem_append.1 h2 with h3 | h3
    ·rcases ha.new q h3 with h4 | h4
     ·exact k1 h4
     ·rw[h4]at hq;cases hq
    ·exact hm (ot q h3)
   exact⟨en,by rw[bM h2];exact h1,.refl _⟩
 refine⟨h.Cg (t:=aC u'++t) ?_ (fun q hq=> ?_) (fun q hq=>qD q (List.mem_append_right _ hq)) hl,hl⟩
 ·show ((aC u'++t)++G.low).Nodup
  rw[List.append_assoc]
  refine List.nodup_append.2 ⟨RP _,n2,fun q hq r hr e=> ?_⟩
  subst e
  rcases ha.new q hq with h4 | h4
  ·exact n3 q h4 q hr rfl
  ·exact bA q (ot q hr) h4
 ·rcases List.mem_append.1 hq with hq | hq
  ·obtain⟨en,he⟩:=ha.own.block (dh.1 hq)
   rw[he];simp
  ·rw[qD q (List.mem_append_left _ hq)];exact bA q (ot q (List.mem_append_left _ hq))
end
structure QV(o:Bool)(H:Heap)(g:Nat)(G:GG)(R W m:Nat)(M:Nat→Nat→Rat)(B:Nat→Nat):Prop where
 de:cD wa H G R W m M B
 gt:g∈G.top
 st:H g=some ⟨[.slice G.Ar R G.cr,G.bv,.bool o],3,135,true⟩
section
variable {o o':Bool} {H H' K:Heap} {g:Nat} {G:GG} {R W m:Nat} {M:Nat→Nat→Rat} {B:Nat→Nat} {u u':Value} {t:List Nat}
theorem QV.mem(h:QV o H g G R W m M B):g∈G.gs:=GG.Ce h.gt
theorem QV.iS(h:QV o H g G R W m M B):cell H ((⟨g,0,none⟩:Addr).add 0)=some (.slice G.Ar R G.cr):=by simp[cell,iu,h.st]
theorem QV.mM(h:QV o H g G R W m M B):cell H ((⟨g,0,none⟩:Addr).add 1)=some G.bv:=by simp[cell,iu,h.st]
theorem QV.RQ(h:QV o H g G R W m M B):cell H ((⟨g,0,none⟩:Addr).add 2)=some (.bool o):=by simp[cell,iu,h.st]
theorem QV.xQ(h:QV o H g G R W m M B){i:Nat}{p:Nat×Nat}(hp:G.rg[i]? = some p):p.1≠g:=Ne.symm (GG.uR h.de.nd h.gt (GG.gS hp))
theorem QV.row(h:QV o H g G R W m M B){i:Nat}{p:Nat×Nat}(hp:G.rg[i]? = some p):∃xs sz,H p.1=some ⟨xs,sz,138,true⟩∧bG fA 2 xs (aK (M i) W):=h.de.row i p hp
theorem mN{xs:List Value}{f:Nat→Rat}{W k:Nat}(h:bG fA 2 xs (aK f W))(hk:k<W):∃n d:Int,fA [.int .i64 n,.int .i64 d] (f k)∧(∀(j:Nat)(v:Value),[.int .i64 n,.int .i64 d][j]? = some v→xs[k*2+j]? = some v)∧-1073741824≤n∧n≤1073741824∧1≤d∧d≤1073741824∧f k=(n:Rat)/(d:Rat):=by
 obtain⟨vs,_,h2,h3⟩:=h.get (dD hk)
 obtain⟨n,d,rfl,h4⟩:=id h2
 exact⟨n,d,h2,h3,h4⟩
theorem uS{n d:Int}(h:1≤d):(n:Rat)/(d:Rat)=0↔n=0:=by
 have h4:(d:Rat)≠0:=by exact_mod_cast (show d≠0 by omega)
 constructor
 ·intro h1
  have h2:(n:Rat)=0:=by
   have h3:(n:Rat)/(d:Rat)*(d:Rat)=0:=by rw[h1];grind
   rwa [Rat.div_mul_cancel h4]at h3
  exact_mod_cast h2
 ·rintro rfl;rw[Rat.div_def];grind
theorem Mq{n d:Int}(h:1≤d):(n:Rat)/(d:Rat)<0↔n<0:=by
 have h4:(0:Rat)<(d:Rat):=by exact_mod_cast (show 0<d by omega)
 have h5:(d:Rat)≠0:=by grind
 have e:(n:Rat)=(n:Rat)/(d:Rat)*(d:Rat):=(Rat.div_mul_cancel h5).symm
 constructor
 ·intro h1
  have h2:(n:Rat)/(d:Rat)*(d:Rat)<0*(d:Rat):=Rat.mul_lt_mul_of_pos_right h1 h4
  rw[←e]at h2
  have h3:(n:Rat)<0:=by grind
  exact_mod_cast h3
 ·intro h1
  have h2:(n:Rat)<0:=by exact_mod_cast h1
  refine Classical.byContradiction fun h3=> ?_
  have h6:0≤(n:Rat)/(d:Rat)*(d:Rat):=Rat.mul_nonneg (by grind) (by grind)
  rw[←e]at h6
  grind
theorem QV.set(h:QV o H g G R W m M B){i:Nat}{p:Nat×Nat}(hp:G.rg[i]? = some p)(ht:fU G.gs g H H')(iG:H' g=some ⟨[.slice G.Ar R G.cr,G.bv,.bool o'],3,135,true⟩){xs:List Value}{sz:Nat}(hx:H p.1=some ⟨xs,sz,138,true⟩)(iE:bG fA 2 xs (aK (M i) W)){k:Nat}(hk:k<W){vs:List Value}{q:Rat}(hv:fA vs q):
  QV o' (ins H' p.1 ⟨aL xs (k*2) vs,sz,138,true⟩) g G R W m (iF M i (bT (M i) k q)) B∧Heap.le (rem H G.gs) (rem (ins H' p.1 ⟨aL xs (k*2) vs,sz,138,true⟩) G.gs):=by
 have hm:=GG.kO (GG.gS hp)
 have h1:=h.de.Ch h.gt ht (by rw[iG];simp)
 have h2:H' p.1=H p.1:=ht.same _ hm (h.xQ hp)
 have il:vs.length=2:=by obtain⟨n,d,rfl,_⟩:=hv;rfl
 have hT:fU G.gs p.1 H' (ins H' p.1 ⟨aL xs (k*2) vs,sz,138,true⟩):=((Kept.refl _ _).iI p.1).ins hm _
 refine⟨⟨h1.setRow hp hT ?_,h.gt,by rw[bn _ _ (Ne.symm (h.xQ hp))];exact iG⟩,ht.le.trans hT.le⟩
 refine⟨_,_,bC _ _ _,?_⟩
 have e:aK (bT (M i) k q) W=(aK (M i) W).set k q:=by
  apply List.ext_getElem?
  intro j
  by_cases hj:j<W
  ·rw[dD hj]
   by_cases ej:j=k
   ·subst ej
    rw[List.getElem?_set_self (by rw[bh];exact hj)];simp[bT]
   ·rw[List.getElem?_set_ne (fun e'=>ej e'.symm),dD hj];simp[bT,ej]
  ·rw[List.getElem?_eq_none (by rw[bh];omega),List.getElem?_eq_none (by rw[List.length_set,bh];omega)]
 rw[e]
 exact iE.set (by rw[bh];exact hk) hv il
theorem QV.vc(h:QV o H g G R W m M B)(ht:fU G.gs g H H')(iG:H' g=some ⟨[.slice G.Ar R G.cr,G.bv,.bool o'],3,135,true⟩):QV o' H' g G R W m M B:=⟨h.de.Ch h.gt ht (by rw[iG];simp),h.gt,iG⟩
theorem QV.fO(h:QV o H g G R W m M B)(ht:fU G.gs g H H')(iG:H' g=some ⟨[.slice G.Ar R G.cr,G.bv,.bool o'],3,135,true⟩):(Mode.cO (lk g H)).fO H':=ajE h.mem h.st ht iG
theorem QV.rk(h:QV o H g G R W m M B):∃xs,Ci (lk g H) G.Ar xs∧Rd H G.Ar xs∧∀(i:Nat)(p:Nat×Nat),G.rg[i]? = some p→xs[i]? = some (.slice (some ⟨p.1,0,none⟩) W p.2):=by
 refine⟨iV G.rg W,?_,h.de.rows.rd,fun i p hp=>kp hp⟩
 rcases h.de.rows.2 with ⟨h1,h2⟩ | ⟨gr,cap,h1,h2,_⟩
 ·have e:iV G.rg W = []:=List.eq_nil_of_length_eq_zero (by rw[h.de.rows.1,h2])
  rw[e]
  exact fun i v hv=>by simp at hv
 ·have e:G.Ar=some ⟨gr,0,none⟩:=(Value.slice.inj h1).1
  rw[e]
  refine zF h2 (Ne.symm (GG.uR h.de.nd h.gt (GG.Cf ?_)))
  rw[h.de.l9,h1];exact List.mem_singleton.2 rfl
theorem QV.k0(h:QV o H g G R W m M B):lk g H ((⟨g,0,none⟩:Addr).add 0)=some (.slice G.Ar R G.cr):=ajG h.st
theorem QV.fresh(h:QV o H g G R W m M B){k:Nat}{e:Ent}(hk:H k=none):QV o (ins H k e) g G R W m M B∧Heap.le (rem H G.gs) (rem (ins H k e) G.gs):=by
 have hm:¬k∈G.gs:=fun hm=>h.de.ne k hm hk
 have hl:Heap.le (rem H G.gs) (rem (ins H k e) G.gs):=by
  rw[wW _ hm]
  exact Heap.bI _ (by rw[bM hm];exact hk)
 have hs:∀q,q∈G.gs→ins H k e q=H q:=fun q hq=>bn _ _ fun e'=>hm (e'▸hq)
 exact⟨⟨h.de.kept ⟨hl,hs⟩,h.gt,(hs g h.mem).trans h.st⟩,hl⟩
theorem RR{H:Heap}{q:Nat}{gs:List Nat}{xs:List Value}(h:Rd H (some ⟨q,0,none⟩) xs)(hq:¬q∈gs):Rd (rem H gs) (some ⟨q,0,none⟩) xs:=fun i v hv=>by
 obtain⟨ad,h1,h2⟩:=h i v hv
 cases h1
 refine⟨_,rfl,?_⟩
 rw[iu]at h2⊢
 unfold cell at h2⊢
 rw[bM hq];exact h2
theorem Ci.at{kc:Addr→Option Value}{ad:Addr}{xs:List Value}(h:Ci kc (some ad) xs):∀(i:Nat)(v:Value),xs[i]? = some v→kc (ad.add i)=some v:=fun i v hv=>by
 obtain⟨JW,h1,h2⟩:=h i v hv
 cases h1;exact h2
end
abbrev wb(l:List Nat):List Value:=l.map fun(j:Nat)=>Value.int .i64 (j:Int)
structure QU(o:Bool)(K H:Heap)(g:Nat)(G:GG)(R W m:Nat)(M:Nat→Nat→Rat)(B:Nat→Nat)(u:Value)(l:List Nat):Prop where
 q:QV o H g (G.on (aC u++G.top)) R W m M B
 own:bW H u 3 1 l.length (wb l)
 le:Heap.le K (rem H (G.on (aC u++G.top)).gs)
section
variable {o o':Bool} {H H' K:Heap} {g:Nat} {G:GG} {R W m:Nat} {M M':Nat→Nat→Rat} {B:Nat→Nat} {u u':Value} {l:List Nat}
theorem QU.xR{q:Nat}(hq:q∈aC u):q∈(G.on (aC u++G.top)).gs:=List.mem_append_left _ (List.mem_append_left _ hq)
theorem QU.une(h:QU o K H g G R W m M B u l)(hg:g∈G.top){q:Nat}(hq:q∈aC u):q≠g:=fun e=>by
 have dW:=h.q.de.nd
 rw[GG.xP,List.append_assoc]at dW
 exact(List.nodup_append.1 dW).2.2 q hq g (List.mem_append_left _ hg) e
theorem QU.step(h:QU o K H g G R W m M B u l)(hq:QV o' H' g (G.on (aC u++G.top)) R W m M' B)(hl:Heap.le (rem H (G.on (aC u++G.top)).gs) (rem H' (G.on (aC u++G.top)).gs))(hs:∀q,q∈aC u→H' q=H q):QU o' K H' g G R W m M' B u l:=
 ⟨hq,h.own.same fun q tA=>hs q (dh.2 tA),h.le.trans hl⟩
theorem QU.set(h:QU o K H g G R W m M B u l)(hg:g∈G.top){i:Nat}{p:Nat×Nat}(hp:G.rg[i]? = some p)(ht:fU (G.on (aC u++G.top)).gs g H H')(iG:H' g=some ⟨[.slice G.Ar R G.cr,G.bv,.bool o'],3,135,true⟩){xs:List Value}{sz:Nat}(hx:H p.1=some ⟨xs,sz,138,true⟩)(iE:bG fA 2 xs (aK (M i) W)){k:Nat}(hk:k<W){vs:List Value}{q:Rat}(hv:fA vs q):
  QU o' K (ins H' p.1 ⟨aL xs (k*2) vs,sz,138,true⟩) g G R W m (iF M i (bT (M i) k q)) B u l:=by
 obtain⟨h1,h2⟩:=h.q.set (G:=G.on (aC u++G.top)) hp ht iG hx iE hk hv
 refine h.step h1 h2 fun r hr=> ?_
 have bA:r≠p.1:=fun e=>GG.uR h.q.de.nd (q:=r) (r:=p.1) (List.mem_append_left _ hr) (GG.gS (G:=G.on (aC u++G.top)) hp) e
 rw[bn _ _ bA]
 exact ht.same r (QU.xR hr) (h.une hg hr)
theorem QU.app(h:QU o K H g G R W m M B u l){k n:Nat}(hn:n=l.length+1)(ha:App H u 3 1 n (wb l ++ [.int .i64 (k:Int)]) u' H')(hg:g∈G.top):QU o K H' g G R W m M B u' (l ++ [k]):=by
 obtain⟨h1,h2⟩:=h.q.de.app ha
 refine⟨⟨h1,List.mem_append_right _ hg,?_⟩,?_,h.le.trans h2⟩
 ·exact ha.same g _ h.q.st fun e=>h.une hg (dh.2 e) rfl
 ·have:=ha.own
  rw[hn]at this
  rw[List.length_append,wb,List.map_append];exact this
theorem QU.fresh(h:QU o K H g G R W m M B u l){k:Nat}{e:Ent}(hk:H k=none):QU o K (ins H k e) g G R W m M B u l:=by
 obtain⟨h1,h2⟩:=h.q.fresh (e:=e) hk
 refine h.step h1 h2 fun q hq=>bn _ _ fun e'=> ?_
 subst e'
 exact h.q.de.ne q (QU.xR hq) hk
theorem QU.down{K':Heap}(h:QU o K H g G R W m M B u l)(hl:Heap.le K' K):QU o K' H g G R W m M B u l:=⟨h.q,h.own,hl.trans h.le⟩
theorem QU.vZ(h:QU o K H g G R W m M B u l):QU o (rem H (G.on (aC u++G.top)).gs) H g G R W m M B u l:=⟨h.q,h.own,.refl _⟩
theorem QU.drop(h:QU o K H g G R W m M B u l)(hg:g∈G.top):QV o H g G R W m M B∧Heap.le K (rem H G.gs):=by
 have hl:Heap.le (rem H (G.on (aC u++G.top)).gs) (rem H G.gs):=xM fun q hq=>by
  rw[GG.xP,List.append_assoc];exact List.mem_append_right _ hq
 have dW:=h.q.de.nd
 rw[GG.xP,List.append_assoc]at dW
 exact⟨⟨h.q.de.Cg (t:=G.top) (List.nodup_append.1 dW).2.1 (fun q hq=>h.q.de.top q (List.mem_append_right _ hq)) (fun _ _=>rfl) hl,hg,h.q.st⟩,h.le.trans hl⟩
theorem QU.rd{A:Option Addr}{n c:Nat}(h:QU o K H g G R W m M B (.slice A n c) l):Rd H A (wb l)∧n=l.length:=by
 have h1:=h.own
 obtain⟨A',c',e⟩:=h1.form
 cases e
 exact⟨h1.rd,rfl⟩
end
end Go.aq
namespace Go.aq
open Go.Proofs Num Lp
def ma(M:Nat→Nat→Rat)(r c i j:Nat):Rat:=if i=r then M r j/M r c else M i j-M i c*(M r j/M r c)
theorem ajH{n d:Int}(h:fA [.int .i64 n,.int .i64 d] ((n:Rat)/(d:Rat)))(hn:n≠0):∃a b:Int,(a=d∧b=n∧0<n∨a = -d∧b = -n∧n<0)∧fA [.int .i64 a,.int .i64 b] (1/((n:Rat)/(d:Rat))):=by
 obtain⟨n',d',e,h1,h2,h3,h4,_⟩:=h
 simp only[List.cons.injEq,Value.int.injEq,true_and,and_true]at e
 obtain⟨rfl,rfl⟩:=e
 have hd:(d:Rat)≠0:=by exact_mod_cast (show d≠0 by omega)
 have hn':(n:Rat)≠0:=by exact_mod_cast hn
 have e1:1/((n:Rat)/(d:Rat))=(d:Rat)/(n:Rat):=by
  rw[Rat.div_def,Rat.div_def,Rat.div_def,Rat.inv_mul_rev,Rat.inv_inv];grind
 rcases Int.lt_or_gt_of_ne hn with h | h
 ·refine⟨-d,-n,.inr ⟨rfl,rfl,h⟩,-d,-n,rfl,by omega,by omega,by omega,by omega,?_⟩
  rw[e1,Rat.intCast_neg,Rat.intCast_neg,Rat.div_def,Rat.div_def]
  have h1:=Rat.mul_inv_cancel (n:Rat) hn'
  have h2:=Rat.mul_inv_cancel (-(n:Rat)) (by grind)
  grind
 ·exact⟨d,n,.inl ⟨rfl,rfl,h⟩,d,n,rfl,by omega,by omega,by omega,by omega,e1⟩
def eO(f:Nat→Rat)(k:Nat):List Nat:=(List.range k).filter fun j=>decide (f j≠0)
theorem Mr{f:Nat→Rat}{k:Nat}:eO f (k+1)=eO f k++(if f k=0 then []else [k]):=by
 unfold eO
 rw[List.range_succ,List.filter_append]
 congr 1
 by_cases h:f k=0
 ·rw[if_pos h];simp[h]
 ·rw[if_neg h];simp[h]
theorem RS{f:Nat→Rat}{k j:Nat}:j∈eO f k↔j<k∧f j≠0:=by simp[eO]
theorem aag(f:Nat→Rat)(k:Nat):(eO f k).length≤k:=Nat.le_trans (List.length_filter_le _ _) (by simp)
theorem aah(f:Nat→Rat)(k:Nat):(eO f k).Nodup:=List.Nodup.sublist List.filter_sublist List.nodup_range
theorem aai{l:List Nat}(h:l.Nodup){t k:Nat}(hk:l[t]? = some k):¬k∈l.take t:=fun hm=>by
 obtain⟨i,hi⟩:=List.getElem?_of_mem hm
 rw[List.getElem?_take]at hi
 split at hi
 ·rename_i bP
  obtain⟨a1,a2⟩:=List.getElem?_eq_some_iff.1 hi
  obtain⟨b1,b2⟩:=List.getElem?_eq_some_iff.1 hk
  have:=(List.getElem_inj h).1 (a2.trans b2.symm)
  omega
 ·cases hi
theorem re(f:Nat→Rat)(k:Nat)(v:Rat):bT f k v k=v:=by simp[bT]
theorem pc{f:Nat→Rat}{k j:Nat}{v:Rat}(h:j≠k):bT f k v j=f j:=by simp[bT,h]
theorem pd(M:Nat→Nat→Rat)(i:Nat)(f:Nat→Rat):iF M i f i=f:=by simp[iF]
theorem EH{M:Nat→Nat→Rat}{i k:Nat}{f:Nat→Rat}(h:k≠i):iF M i f k=M k:=by simp[iF,h]
theorem Ms(M:Nat→Nat→Rat)(i:Nat)(f h:Nat→Rat):iF (iF M i f) i h=iF M i h:=by
 funext k;unfold iF;split <;> rfl
theorem Mt(M:Nat→Nat→Rat)(i:Nat):iF M i (M i)=M:=by
 funext k;unfold iF;split
 ·rename_i e;rw[e]
 ·rfl
def Pv1(o o1:Bool)(M:Nat→Nat→Rat)(r c W k:Nat)(f:Nat→Rat):Prop:=(∀j,k≤j→f j=M r j)∧(o1=false→o=false∧∀j,j<k→f j=M r j/M r c)
def zG(o o1:Bool)(M:Nat→Nat→Rat)(r c R W k:Nat)(M1:Nat→Nat→Rat):Prop:=(∀i,k≤i→i≠r→M1 i=M i)∧(o1=false→o=false∧∀i,i<R→∀j,j<W→(i=r∨i<k)→M1 i j=ma M r c i j)
def IG(o1 o2:Bool)(f0 fr:Nat→Rat)(x:Rat)(l:List Nat)(t:Nat)(f:Nat→Rat):Prop:=(o2=false→o1=false∧∀j,f j=if j∈l.take t then f0 j-x*fr j else f0 j)
theorem aaj{o1 o2 o3:Bool}{f0 fr f:Nat→Rat}{x q:Rat}{l:List Nat}{t k:Nat}(h:IG o1 o2 f0 fr x l t f)(dW:l.Nodup)(hk:l[t]? = some k)(hq:o3=false→o2=false∧q=f k-x*fr k):IG o1 o3 f0 fr x l (t+1) (bT f k q):=fun h3=>by
 obtain⟨h2,e⟩:=hq h3
 obtain⟨h1,hf⟩:=h h2
 refine⟨h1,fun j=> ?_⟩
 have et:l.take (t+1)=l.take t ++ [k]:=by rw[List.take_add_one,hk];rfl
 by_cases ej:j=k
 ·subst ej
  rw[re,et,if_pos (List.mem_append_right _ (List.mem_singleton.2 rfl)),e,hf j,if_neg (aai dW hk)]
 ·rw[pc ej,hf j,et]
  have:(j∈l.take t ++ [k])↔j∈l.take t:=by simp[ej]
  simp only[this]
theorem aak{o o1 o2:Bool}{M M1:Nat→Nat→Rat}{r c R W k:Nat}{f:Nat→Rat}(h:zG o o1 M r c R W k M1)(hc:c<W)(hr:r<R)(tK:k≠r)(h3:IG o1 o2 (M1 k) (M1 r) (M1 k c) (eO (M r) W) (eO (M r) W).length f):zG o o2 M r c R W (k+1) (iF M1 k f):=by
 refine⟨fun i hi nG=>by rw[EH (by omega)];exact h.1 i (by omega) nG,fun h2=> ?_⟩
 obtain⟨h1,hf⟩:=h3 h2
 obtain⟨h0,hm⟩:=h.2 h1
 refine⟨h0,fun i hi j hj hd=> ?_⟩
 by_cases e:i=k
 ·subst e
  rw[pd,hf j,List.take_length]
  have e0:M1 i=M i:=h.1 i (Nat.le_refl _) tK
  have er:M1 r j=M r j/M r c:=by
   have:=hm r hr j hj (.inl rfl)
   rw[this];unfold ma;rw[if_pos rfl]
  rw[e0,er]
  unfold ma
  rw[if_neg tK]
  split
  ·rfl
  ·rename_i hn
   have hz:M r j=0:=Classical.byContradiction fun bA=>hn (RS.2 ⟨hj,bA⟩)
   rw[hz,Rat.div_def];grind
 ·rw[EH e]
  exact hm i hi j hj (by omega)
theorem Mu{o o1:Bool}{M M1:Nat→Nat→Rat}{r c R W k:Nat}(h:zG o o1 M r c R W k M1)(hc:c<W)(hk:k<R)(hs:k=r∨M1 k c=0):zG o o1 M r c R W (k+1) M1:=by
 refine⟨fun i hi nG=>h.1 i (by omega) nG,fun h2=> ?_⟩
 obtain⟨h0,hm⟩:=h.2 h2
 refine⟨h0,fun i hi j hj hd=> ?_⟩
 by_cases e:i=k∧i≠r
 ·obtain⟨rfl,nG⟩:=e
  have e0:M1 i=M i:=h.1 i (Nat.le_refl _) nG
  rcases hs with hs | hs
  ·exact absurd hs nG
  ·rw[e0]at hs⊢
   unfold ma
   rw[if_neg nG,hs];grind
 ·exact hm i hi j hj (by omega)
theorem aal{o:Bool}{H:Heap}{g:Nat}{G:GG}{R W m:Nat}{M:Nat→Nat→Rat}{B:Nat→Nat}{r c:Nat}(h:QV o H g G R W m M B)(hr:r<m)(kL:r<R)(hc:c<W)(hp:M r c≠0)(hR:(R:Int)≤1000000)(hW:(W:Int)≤1000000):
 Fn Tryz.prog 100 #[.pointer (some ⟨g,0,none⟩),.int .i64 (r:Int),.int .i64 (c:Int)] H (fun _ H'=>∃M' o',QV o' H' g G R W m M' (fun i=>if i=r then c else B i)∧(o'=false→o=false∧∀i,i<R→∀j,j<W→M' i j=ma M r c i j)∧Heap.le (rem H G.gs) (rem H' G.gs)):=by
 obtain⟨pr,cZ⟩:=h.de.get kL
 obtain⟨sB,Db,aam,mo⟩:=h.rk
 obtain⟨xr0,sr0,tH,IH⟩:=h.row cZ
 obtain⟨n0,d0,hf0,m7,b1,b2,b3,b4,mm⟩:=mN IH hc
 have jo:n0≠0:=fun e=>hp (by rw[mm,e];exact(uS b3).2 rfl)
 rw[mm]at hf0
 obtain⟨a,b,Bf,hinv⟩:=ajH hf0 jo;refine aY (args:=[_,_,_]) Tryz.func100 rfl rfl Tryz.ntmps100 rfl rfl fun w0=> ?_;refine ah [0,1,2] rfl ?_;refine bN .bK [0,1,2,3,4,5,6,7,8,9,10,11,12,13,14,15,16,17,18,19,20,21,22,23,24] follows (gV [0,1,3,7,0,31,63,0,255,511,1023,0,2048,6144,14336,0,63488,129024,0,522240,1046528,2095104,4194303,0,16777215] (by kernel_rfl)) ?_;refine aa 2 rfl (aV ag rfl rfl rfl (aR ag rfl rfl rfl (h.iS) (aa 1 rfl (aS ag rfl rfl rfl rfl rfl (aam) (by rw[Int.toNat_natCast];exact mo r pr cZ) (by omega) (by omega) fun _=> ?_))));refine aa 1 rfl (jW ag rfl rfl rfl rfl rfl rfl rfl (dQ tH) (by rw[Int.toNat_natCast];exact m7 1 _ rfl) (by omega) (by omega) fun _ _=> ?_);refine aa 2 rfl (aV ag rfl rfl rfl (aR ag rfl rfl rfl (h.iS) (aa 1 rfl (aS ag rfl rfl rfl rfl rfl (aam) (by rw[Int.toNat_natCast];exact mo r pr cZ) (by omega) (by omega) fun _=> ?_))));refine aa 1 rfl (jW ag rfl rfl rfl rfl rfl rfl rfl (dQ tH) (by rw[Int.toNat_natCast];exact m7 0 _ rfl) (by omega) (by omega) fun _ _=> ?_);refine di ag rfl fQ rfl rfl (bm fQ rfl ?_);obtain⟨ti,aj,ak⟩:=eF;refine aI (.inl ⟨rfl,rfl⟩) rfl rfl rfl aj ak rfl rfl rfl ?_
 refine ab [0,1,2,6] ?_;refine AI (fun(x:Int)(y:Int)=>put (put (put (put (emp) 0 (.val (.pointer (some ⟨g,0,none⟩)))) 1 (.val (.int .i64 (r:Int)))) 2 (.val (.int .i64 (c:Int)))) 6 (.box [.int .i64 x,.int .i64 y])) (fun(x:Int)(y:Int) H'=>H'=H∧fA [.int .i64 x,.int .i64 y] (1/M r c)) ?_ ?_
 ·
  refine ae (aa 3 rfl (ab [0,1,2,6,38] ?_));refine aD rfl (fun hb=> ?_) (fun hb=> ?_)
  ·
   have hb:n0<0:=by simpa using hb
   refine aA rfl (aa 2 rfl (tD rfl ⟨by omega,by omega⟩ (aa 2 rfl (tD rfl ⟨by omega,by omega⟩ (di ag rfl fQ rfl rfl ?_)))));obtain⟨ti,aj,ak⟩:=eF;refine aI (.inl ⟨rfl,rfl⟩) rfl rfl rfl aj ak rfl rfl rfl (au ?_);exact⟨-d0,-n0,ar,rfl,by rcases Bf with ⟨_,_,h9⟩ | ⟨rfl,rfl,_⟩;exact absurd h9 (by omega);rw[mm];exact hinv⟩
  ·
   have hb:¬n0<0:=by simpa using hb
   refine aw ?_;exact⟨d0,n0,ar,rfl,by rcases Bf with ⟨rfl,rfl,_⟩ | ⟨_,_,h9⟩;rw[mm];exact hinv;exact absurd h9 (by omega)⟩
 ·
  rintro x y H5 ⟨rfl,qx⟩;refine Mo 6 rfl fun g6 e6 nO=> ?_;obtain⟨h6,fM⟩:=h.fresh (e:=⟨[.int .i64 x,.int .i64 y],2,e6,true⟩) nO;have aan:Rd (rem (ins H5 g6 ⟨[.int .i64 x,.int .i64 y],2,e6,true⟩) G.gs) (some ⟨g6,0,none⟩) [.int .i64 x,.int .i64 y]:=RR (eN _ _ _ _ _ _) fun hm=>h.de.ne _ hm nO
  show VC _ _ _ _ _ _ _ (ins H5 g6 ⟨[.int .i64 x,.int .i64 y],2,e6,true⟩)
  generalize ins H5 g6 ⟨[.int .i64 x,.int .i64 y],2,e6,true⟩=H6 at *
  have RT:QU o (rem H6 G.gs) H6 g G R W m (iF M r (M r)) B (.slice none 0 0) (eO (M r) 0):=⟨by rw[Mt];exact h6,lv _ _ _,.refl _⟩;obtain⟨DQ,qI,ajI,pX⟩:=h6.rk;refine ae (aa 1 rfl (ab [0,1,2,6,7] ?_));refine ao (ae (aa 2 rfl (aV ag rfl rfl rfl (aR ag rfl rfl rfl (h6.iS) (aa 1 rfl (aS ag rfl rfl rfl rfl rfl (ajI) (by rw[Int.toNat_natCast];exact pX r pr cZ) (by omega) (by omega) fun _=> ?_))))));refine aa 2 rfl (ab [0,1,2,6,7,53,54] ?_);refine aE (rS (fun(k:Nat)(u:Value)(f:Nat→Rat)(o1:Bool)=>W-k) (fun(k:Nat)(u:Value)(f:Nat→Rat)(o1:Bool)=>put (put (put (put (put (put (put (emp) 0 (.val (.pointer (some ⟨g,0,none⟩)))) 1 (.val (.int .i64 (r:Int)))) 2 (.val (.int .i64 (c:Int)))) 6 (.val (.pointer (some ⟨g6,0,none⟩)))) 7 (.val (u))) 53 (.val (.int .i64 (W:Int)))) 54 (.val (.int .i64 (k:Int)))) (fun(k:Nat)(u:Value)(f:Nat→Rat)(o1:Bool) H'=>QU o1 (rem H6 G.gs) H' g G R W m (iF M r f) B u (eO (M r) k)∧Pv1 o o1 M r c W k f∧k≤W) 0 (.slice none 0 0) (M r) o (⟨RT,⟨fun _ _=>rfl,fun h9=>⟨h9,fun j hj=>absurd hj (Nat.not_lt_zero _)⟩⟩,Nat.zero_le _⟩) ar ?_);rintro k u f o1 H7 ⟨hU,hP,hk⟩;obtain⟨xs7,pU,ajJ,ur⟩:=hU.q.rk;obtain⟨A7,c7,rfl⟩:=hU.own.form;obtain⟨RU,sr7,Cm,xS⟩:=hU.q.row (G:=G.on _) cZ
  rw[pd]at xS;have RV:=xS.len;rw[bh]at RV;have zb:=aag (M r) k;refine ae (aa 1 rfl (ab [0,1,2,6,7,53,54,55] ?_));refine ao (aD rfl (fun hb=> ?_) (fun hb=> ?_))
  ·
   have fk:k<W:=by simpa using hb
   obtain⟨n7,d7,PJ,qY,i1,i2,i3,i4,iT⟩:=mN xS fk;refine aw (ah [0,1,2,6,7,53,54] rfl ?_);refine ao (aE (ae (aa 2 rfl (ab [0,1,2,6,7,8,53,54] ?_))));refine ae (aa 2 rfl (aV ag rfl rfl rfl (aR ag rfl rfl rfl (hU.q.iS) (aa 1 rfl (aS ag rfl rfl rfl rfl rfl (ajJ) (by rw[Int.toNat_natCast];exact ur r pr cZ) (by omega) (by omega) fun _=> ?_)))));refine aa 1 rfl (jW ag rfl rfl rfl rfl rfl rfl rfl (dQ Cm) (by rw[Int.toNat_natCast];exact qY 0 _ rfl) (by omega) (by omega) fun _ _=> ?_);refine aa 1 rfl (ab [0,1,2,6,7,8,53,54,68] ?_);refine aD rfl (fun hb=> ?_) (fun hb=> ?_)
   ·
    have hb:n7≠0:=by simpa using hb
    have bo:=IE g H7;refine bN (.cO (lk g H7)) [0,1,2,3,4,5,6,7,8,9,10,11,12,13,14,15,16,17,18,19,20,21,22] follows (gV [0,1,3,7,0,31,63,0,0,0,512,1536,3584,0,15872,32256,0,130560,261632,0,1048320,2097151,4194303] (by kernel_rfl)) ?_;refine eR bo rfl (l6 bo rfl (l7 bo ag rfl rfl rfl (jS bo ag rfl rfl rfl (hU.q.k0) (eR bo rfl (Cj bo ag rfl rfl rfl rfl rfl (pU) (by rw[Int.toNat_natCast];exact ur r pr cZ) (by omega) (by omega) fun _=> ?_)))));refine eR bo rfl (eR bo rfl (eR bo rfl (l6 bo rfl (l7 bo ag rfl rfl rfl (jS bo ag rfl rfl rfl (hU.q.k0) (eR bo rfl (Cj bo ag rfl rfl rfl rfl rfl (pU) (by rw[Int.toNat_natCast];exact ur r pr cZ) (by omega) (by omega) fun _=> ?_)))))));refine eR bo rfl (Ck bo ag rfl rfl rfl rfl (zF Cm (hU.q.xQ (G:=G.on _) cZ)) rfl (by decide) (by rw[Int.toNat_natCast];exact qY) (by omega) (by omega) fun _=> ?_);refine IF bo ag rfl rfl rfl (((aan.le hU.le).kx hU.q.mem).at) (Cl rfl rfl (Rz hU.q.mem hU.q.st PJ qx) (fun v H9 rf=>by obtain⟨k1,_,_,_,_,_,k2,_⟩:=rf;exact hU.q.fO k1 k2) ?_);rintro _ H8 ⟨qZ,vs8,o8,q8,rfl,hf8,s9,eJ⟩;obtain⟨n8,d8,rfl,_⟩:=id hf8;have bo:=hU.q.fO qZ s9
    have II:=(qZ.same _ (GG.kO (GG.gS (G:=G.on _) cZ)) (hU.q.xQ (G:=G.on _) cZ)).trans Cm;have xT:=hU.set h.gt cZ qZ s9 Cm (by rw[pd];exact xS) fk hf8;rw[pd,Ms]at xT;obtain⟨ti,aj,ak⟩:=eF;refine Mp bo ag rfl rfl rfl (by omega) (by omega) (II) rfl (by show W*2≤RU.length;omega) aj ak (fun _=>rfl) rfl rfl rfl fun _=> ?_;refine ab [0,1,2,6,7,8,53,54] ?_;refine aA rfl (aa 2 rfl (cS Tryz.underlying49 fE rfl rfl rfl rfl rfl rfl rfl ?_));intro gb a6;have rh:=xT.fresh (e:=whole [.int .i64 (k:Int)] 3) a6;refine eD Tryz.underlying49 fE rfl rfl (rh.own) (eN _ _ _ _ _ _) (rfl) (sV _) (by omega) (by omega) ?_;intro u' nh RW;have RX:=rh.app rfl RW h.gt;refine aa 1 rfl (au (ah [0,1,2,6,7,53,54] rfl ?_));refine aA rfl (aF rfl rfl ⟨by omega,by omega⟩ (aa 1 rfl (au ?_)))
    have bA:M r k≠0:=by rw[←hP.1 k (Nat.le_refl _),iT];exact fun h9=>hb ((uS i3).1 h9)
    exact⟨k+1,u',bT f k q8,o8,by omega,ar,by rw[Mr,if_neg bA];exact RX,⟨fun j hj=>by rw[pc (by omega)];exact hP.1 j (by omega),fun h9=>by
     obtain⟨g1,g2⟩:=eJ h9;obtain⟨g3,g4⟩:=hP.2 g1;refine⟨g3,fun j hj=> ?_⟩
     by_cases ej:j=k
     ·
      subst ej;rw[re,g2,hP.1 j (Nat.le_refl _),Rat.div_def,Rat.div_def];grind
     ·rw[pc ej];exact g4 j (by omega)⟩,by omega⟩
   have hb:n7=0:=by simpa using hb
   refine aw (ah [0,1,2,6,7,53,54] rfl ?_);refine aA rfl (aF rfl rfl ⟨by omega,by omega⟩ (aa 1 rfl (au ?_)))
   have hz:M r k=0:=by rw[←hP.1 k (Nat.le_refl _),iT];exact(uS i3).2 hb
   exact⟨k+1,_,f,o1,by omega,ar,by rw[Mr,if_pos hz,List.append_nil];exact hU,⟨fun j hj=>hP.1 j (by omega),fun h9=>by
    obtain⟨g3,g4⟩:=hP.2 h9;refine⟨g3,fun j hj=> ?_⟩
    by_cases ej:j=k
    ·
     subst ej;rw[hP.1 j (Nat.le_refl _),hz,Rat.div_def];grind
    ·exact g4 j (by omega)⟩,by omega⟩
  have hb:W≤k:=by simpa using hb
  obtain rfl:k=W:=by omega
  have RY:zG o o1 M r c R k 0 (iF M r f):=⟨fun i _ hi=>EH hi,fun h9=>by
   obtain⟨g3,g4⟩:=hP.2 h9;refine⟨g3,fun i _ j hj hd=> ?_⟩
   obtain rfl:i=r:=by omega
   rw[pd,g4 j hj];unfold ma;rw[if_pos rfl]⟩
  have dW:=aah (M r) k;refine aU (ah [0,1,2,7] rfl ?_);refine ao (ae (aa 2 rfl (aV ag rfl rfl rfl (aR ag rfl rfl rfl (hU.q.iS) (aa 2 rfl (ab [0,1,2,7,100,101] ?_))))));refine aE (fD (fun(i:Nat)(M1:Nat→Nat→Rat)(o3:Bool)=>R-i) (fun(i:Nat)(M1:Nat→Nat→Rat)(o3:Bool)=>put (put (put (put (put (put (emp) 0 (.val (.pointer (some ⟨g,0,none⟩)))) 1 (.val (.int .i64 (r:Int)))) 2 (.val (.int .i64 (c:Int)))) 7 (.val (.slice A7 (eO (M r) k).length c7))) 100 (.val (.int .i64 (R:Int)))) 101 (.val (.int .i64 (i:Int)))) (fun(i:Nat)(M1:Nat→Nat→Rat)(o3:Bool) H'=>QU o3 (rem H6 G.gs) H' g G R k m M1 B (.slice A7 (eO (M r) k).length c7) (eO (M r) k)∧zG o o3 M r c R k i M1∧i≤R) 0 (iF M r f) o1 (⟨hU,RY,Nat.zero_le _⟩) ar ?_);rintro i M1 o3 ju ⟨hV,hQ,hi⟩;obtain⟨aao,B3,aap,aaq⟩:=hV.q.rk;refine ae (aa 1 rfl (ab [0,1,2,7,100,101,102] ?_));refine ao (aD rfl (fun hb=> ?_) (fun hb=> ?_))
  ·
   have uT:i<R:=by simpa using hb
   obtain⟨pi,cX⟩:=h.de.get uT;obtain⟨ajK,ajL,IJ,RZ⟩:=hV.q.row (G:=G.on _) cX;obtain⟨tc,d11,anR,EA,j1,j2,j3,j4,xU⟩:=mN RZ hc;refine aw (ah [0,1,2,7,100,101] rfl ?_);refine ao (aE (ae (aa 2 rfl (ab [0,1,2,7,9,100,101] ?_))));refine ao ?_
   by_cases h1:i=r
   ·
    skip
    refine ae (aa 2 rfl (aG true rfl rfl (gi (by omega)) (aa 14 rfl (ab [0,1,2,7,9,100,101,120] ?_))));refine cI rfl (aU (ah [0,1,2,7,100,101] rfl ?_));refine aA rfl (aF rfl rfl ⟨by omega,by omega⟩ (aa 1 rfl (au ?_)));exact⟨i+1,M1,o3,by omega,ar,hV,Mu hQ hc uT (.inl h1),by omega⟩
   skip
   refine ae (aa 2 rfl (aG false rfl rfl (jn (by omega)) (aa 3 rfl (aV ag rfl rfl rfl (aR ag rfl rfl rfl (hV.q.iS) (aa 1 rfl (aS ag rfl rfl rfl rfl rfl (aap) (by rw[Int.toNat_natCast];exact aaq i pi cX) (by omega) (by omega) fun _=> ?_)))))));refine aa 1 rfl (jW ag rfl rfl rfl rfl rfl rfl rfl (dQ IJ) (by rw[Int.toNat_natCast];exact EA 0 _ rfl) (by omega) (by omega) fun _ _=> ?_);refine aa 2 rfl (ab [0,1,2,7,9,100,101,120] ?_);refine aD rfl (fun hb=> ?_) (fun hb=> ?_)
   ·
    have hb:tc=0:=by simpa using hb
    refine aU (ah [0,1,2,7,100,101] rfl ?_);refine aA rfl (aF rfl rfl ⟨by omega,by omega⟩ (aa 1 rfl (au ?_)));exact⟨i+1,M1,o3,by omega,ar,hV,Mu hQ hc uT (.inr (by rw[xU];exact(uS j3).2 hb)),by omega⟩
   have hb:tc≠0:=by simpa using hb
   refine aw (ah [0,1,2,7,9,100,101] rfl ?_);refine ae (aa 2 rfl (aV ag rfl rfl rfl (aR ag rfl rfl rfl (hV.q.iS) (aa 1 rfl (aS ag rfl rfl rfl rfl rfl (aap) (by rw[Int.toNat_natCast];exact aaq i pi cX) (by omega) (by omega) fun _=> ?_)))));refine aa 1 rfl (bY (vs:=[.int .i64 tc,.int .i64 d11]) ag rfl rfl rfl rfl (dQ IJ) rfl (by decide) (by rw[Int.toNat_natCast];exact EA) (by omega) (by omega) fun _=> ?_);refine bm fQ rfl ?_;obtain⟨ti,aj,ak⟩:=eF;refine aI (.inl ⟨rfl,rfl⟩) rfl rfl rfl aj ak rfl rfl rfl (ab [0,1,2,7,9,10,100,101] ?_);refine Mo 10 rfl fun g10 qO qN=> ?_;obtain⟨_,lh⟩:=hV.q.fresh (e:=⟨[.int .i64 tc,.int .i64 d11],2,qO,true⟩) qN;have EI:=hV.fresh (e:=⟨[.int .i64 tc,.int .i64 d11],2,qO,true⟩) qN;have ajM:Rd (rem (ins ju g10 ⟨[.int .i64 tc,.int .i64 d11],2,qO,true⟩) (G.on (aC (.slice A7 (eO (M r) k).length c7)++G.top)).gs) (some ⟨g10,0,none⟩) [.int .i64 tc,.int .i64 d11]:=RR (eN _ _ _ _ _ _) fun hm=>hV.q.de.ne _ hm qN
   show VC _ _ _ _ _ _ _ (ins ju g10 ⟨[.int .i64 tc,.int .i64 d11],2,qO,true⟩)
   generalize ins ju g10 ⟨[.int .i64 tc,.int .i64 d11],2,qO,true⟩=dG at *
   have IK:=EI.vZ;rw[←Mt M1 i]at IK;refine ae (aa 3 rfl (ab [0,1,2,7,9,10,100,101,131,132,133] ?_));refine aE (fD (fun(t:Nat)(f2:Nat→Rat)(o4:Bool)=>(eO (M r) k).length-t) (fun(t:Nat)(f2:Nat→Rat)(o4:Bool)=>put (put (put (put (put (put (put (put (put (put (put (emp) 0 (.val (.pointer (some ⟨g,0,none⟩)))) 1 (.val (.int .i64 (r:Int)))) 2 (.val (.int .i64 (c:Int)))) 7 (.val (.slice A7 (eO (M r) k).length c7))) 9 (.val (.int .i64 (i:Int)))) 10 (.val (.pointer (some ⟨g10,0,none⟩)))) 100 (.val (.int .i64 (R:Int)))) 101 (.val (.int .i64 (i:Int)))) 131 (.val (.slice A7 (eO (M r) k).length c7))) 132 (.val (.int .i64 ((eO (M r) k).length:Int)))) 133 (.val (.int .i64 (t:Int)))) (fun(t:Nat)(f2:Nat→Rat)(o4:Bool) H'=>QU o4 (rem dG (G.on (aC (.slice A7 (eO (M r) k).length c7)++G.top)).gs) H' g G R k m (iF M1 i f2) B (.slice A7 (eO (M r) k).length c7) (eO (M r) k)∧IG o3 o4 (M1 i) (M1 r) (M1 i c) (eO (M r) k) t f2∧t≤(eO (M r) k).length) 0 (M1 i) o3 (⟨IK,fun h9=>⟨h9,fun j=>by simp⟩,Nat.zero_le _⟩) ar ?_);rintro t f2 o4 lH ⟨hX,EJ,ht⟩;obtain⟨ajN,xG,aar,IL⟩:=hX.q.rk;obtain⟨Mw,aas,zH,uU⟩:=hX.q.row (G:=G.on _) cX;obtain⟨ajO,ajP,R0,IM⟩:=hX.q.row (G:=G.on _) cZ;rw[pd]at uU;rw[EH (fun e=>h1 e.symm)]at IM;have R1:=uU.len;rw[bh]at R1
   refine ae (aa 1 rfl (ab [0,1,2,7,9,10,100,101,131,132,133,134] ?_));refine ao (aD rfl (fun hb=> ?_) (fun hb=> ?_))
   ·
    have pe:t<(eO (M r) k).length:=by simpa using hb
    obtain⟨kk,bV⟩:∃kk,(eO (M r) k)[t]? = some kk:=⟨_,List.getElem?_eq_getElem pe⟩;have fk:kk<k:=(RS.1 (List.mem_of_getElem? bV)).1;obtain⟨P2,d13,ajQ,R2,_,_,_,_,_⟩:=mN uU fk;obtain⟨n14,d14,ajR,IN,_,_,_,_,_⟩:=mN IM fk;refine aw (ah [0,1,2,7,9,10,100,101,131,132,133] rfl ?_);refine ao (aE (ae (aS ag rfl rfl rfl rfl rfl (hX.rd.1) (by rw[Int.toNat_natCast];show (List.map _ _)[t]? = _;rw[List.getElem?_map,bV];rfl) (by omega) (by omega) fun _=> ?_)));refine aa 1 rfl (ab [0,1,2,7,9,10,12,100,101,131,132,133] ?_);have bo:=IE g lH;refine eK (.cO (lk g lH)) [0,1,2,3,4,5,6,7,8,9,10,11,12,13,14,15,16,17,18,19,20,21,22,23,24,25,26,27,28,29,30,31,32,33,34] follows (gV [0,1,3,7,0,31,63,0,0,0,512,1536,3584,0,15872,32256,0,130560,261632,0,0,0,2097152,6291456,14680064,0,65011712,132120576,0,534773760,1071644672,2146959360,4294967040,8589934591,17179869183] (by kernel_rfl)) ?_;refine eR bo rfl (l6 bo rfl (l7 bo ag rfl rfl rfl (jS bo ag rfl rfl rfl (hX.q.k0) (eR bo rfl (Cj bo ag rfl rfl rfl rfl rfl (xG) (by rw[Int.toNat_natCast];exact IL i pi cX) (by omega) (by omega) fun _=> ?_)))));refine eR bo rfl (eR bo rfl ?_)
    refine eR bo rfl (l6 bo rfl (l7 bo ag rfl rfl rfl (jS bo ag rfl rfl rfl (hX.q.k0) (eR bo rfl (Cj bo ag rfl rfl rfl rfl rfl (xG) (by rw[Int.toNat_natCast];exact IL i pi cX) (by omega) (by omega) fun _=> ?_)))));refine eR bo rfl (Ck bo ag rfl rfl rfl rfl (zF zH (hX.q.xQ (G:=G.on _) cX)) rfl (by decide) (by rw[Int.toNat_natCast];exact R2) (by omega) (by omega) fun _=> ?_);refine eR bo rfl (IF bo ag rfl rfl rfl (((ajM.le hX.le).kx hX.q.mem).at) (eR bo rfl (l6 bo rfl (l7 bo ag rfl rfl rfl (jS bo ag rfl rfl rfl (hX.q.k0) (eR bo rfl (Cj bo ag rfl rfl rfl rfl rfl (xG) (by rw[Int.toNat_natCast];exact IL r pr cZ) (by omega) (by omega) fun _=> ?_)))))));refine eR bo rfl (Ck bo ag rfl rfl rfl rfl (zF R0 (hX.q.xQ (G:=G.on _) cZ)) rfl (by decide) (by rw[Int.toNat_natCast];exact IN) (by omega) (by omega) fun _=> ?_);refine Cl rfl rfl (Rz hX.q.mem hX.q.st (show fA _ (M1 i c) by rw[xU];exact⟨tc,d11,rfl,j1,j2,j3,j4,rfl⟩) ajR) (fun v H9 rf=>by obtain⟨k1,_,_,_,_,_,k2,_⟩:=rf;exact hX.q.fO k1 k2) ?_;rintro v14 qa ⟨xV,anS,o14,q14,rfl,ajS,aat,Mx⟩;have bo:=hX.q.fO xV aat;refine Cl rfl rfl (RA hX.q.mem aat ajQ ajS) (fun v H9 rf=>by obtain⟨k1,_,_,_,_,_,k2,_⟩:=rf;exact hX.q.fO (xV.trans k1) k2) ?_
    rintro R3 mL ⟨R4,anT,o15,q15,rfl,aau,aav,IP⟩;obtain⟨n15,d15,rfl,_⟩:=id aau;have bo:=hX.q.fO (xV.trans R4) aav;have R5:=((xV.trans R4).same _ (GG.kO (GG.gS (G:=G.on _) cX)) (hX.q.xQ (G:=G.on _) cX)).trans zH;have IQ:=hX.set h.gt cX (xV.trans R4) aav zH (by rw[pd];exact uU) fk aau;rw[pd,Ms]at IQ;obtain⟨ti,aj,ak⟩:=eF;refine Mp bo ag rfl rfl rfl (by omega) (by omega) (R5) rfl (by show k*2≤Mw.length;omega) aj ak (fun _=>rfl) rfl rfl rfl fun _=> ?_;refine au (ah [0,1,2,7,9,10,100,101,131,132,133] rfl ?_);refine aA rfl (aF rfl rfl ⟨by omega,by omega⟩ (aa 1 rfl (au ?_)));exact⟨t+1,bT f2 kk q15,o15,by omega,ar,IQ,aaj EJ dW bV fun h9=>⟨(Mx (IP h9).1).1,by rw[(IP h9).2,(Mx (IP h9).1).2]⟩,by omega⟩
   have pe:(eO (M r) k).length≤t:=by simpa using hb
   obtain rfl:t=(eO (M r) k).length:=by omega
   refine aU (ah [0,1,2,7,100,101] rfl ?_);refine aA rfl (aF rfl rfl ⟨by omega,by omega⟩ (aa 1 rfl (au ?_)));exact⟨i+1,iF M1 i f2,o4,by omega,ar,hX.down (hV.le.trans lh),aak hQ hc kL h1 EJ,by omega⟩
  have uT:R≤i:=by simpa using hb
  obtain rfl:i=R:=by omega
  obtain⟨hD,EK⟩:=hV.drop h.gt
  obtain⟨gb,cb,sz,lz,dy,a6⟩:∃gb cb sz,G.bb = [gb]∧G.bv = .slice (some ⟨gb,0,none⟩) m cb∧ju gb=some ⟨eP B m,sz,3,true⟩:=by
   rcases hD.de.basis with h7 | h7
   ·have:=h7.1;omega
   ·exact h7
  have hm:gb∈G.gs:=GG.kO (GG.mE (by rw[lz];exact List.mem_singleton.2 rfl));have ajT:g≠gb:=GG.uR hD.de.nd hD.gt (GG.mE (by rw[lz];exact List.mem_singleton.2 rfl));refine aU (ah [0,1,2] rfl ?_);refine aA rfl (aa 2 rfl (aV ag rfl rfl rfl (aR ag rfl rfl rfl (show cell ju _=some (.slice (some ⟨gb,0,none⟩) m cb)from by rw[←dy];exact hD.mM) ?_)));refine vr 2 ?_;obtain⟨ti,aj,ak⟩:=vq;refine cT (.inl rfl) ag rfl rfl rfl (by omega) (by omega) (a6) rfl (by show 0+m*1≤(eP B m).length;rw[Bt];omega) aj ak (fun _=>rfl) rfl rfl rfl fun _=> ?_;refine au ?_;refine⟨.inl rfl,_,.nil,?_⟩
  have he:({(⟨eP B m,sz,3,true⟩:Ent)with xs:=aL (eP B m) (0+((r:Int)).toNat*1) [.int .i64 (c:Int)]}:Ent)=⟨eP (fun i=>if i=r then c else B i) m,sz,3,true⟩:=by
   rw[Int.toNat_natCast,Nat.mul_one,Nat.zero_add,←Pw];rfl
  rw[he];refine⟨M1,o3,⟨hD.de.DR lz dy,hD.gt,by rw[bn _ _ ajT];exact hD.st⟩,fun h9=>⟨(hQ.2 h9).1,fun i hi j hj=>(hQ.2 h9).2 i hi j hj (.inr hi)⟩,?_⟩;rw[cJ _ hm];exact fM.trans EK
end Go.aq
namespace Go.aq
open Go.Proofs Num Lp
def Lst(M:Nat→Nat→Rat)(B:Nat→Nat)(n c k r:Nat)(q:Rat):Prop:=q=M r n/M r c∧∀i,i<k→0<M i c→q<M i n/M i c∨(q=M i n/M i c∧B r≤B i)
section
variable {M:Nat→Nat→Rat} {B:Nat→Nat} {n c k r:Nat} {q x:Rat}
theorem aaw(h:Lst M B n c k r q)(hk:M k c≤0):Lst M B n c (k+1) r q:=⟨h.1,fun i hi hp=>by
 by_cases e:i=k
 ·subst e;grind
 ·exact h.2 i (by omega) hp⟩
theorem My(h:Lst M B n c k r q)(hx:x=M k n/M k c)(hk:q<x∨(x=q∧¬B k<B r)):Lst M B n c (k+1) r q:=⟨h.1,fun i hi hp=>by
 by_cases e:i=k
 ·subst e
  rw[←hx]
  rcases hk with hk | ⟨hk,hb⟩
  ·exact .inl hk
  ·exact .inr ⟨hk.symm,by omega⟩
 ·exact h.2 i (by omega) hp⟩
theorem MA(h:Lst M B n c k r q)(hx:x=M k n/M k c)(hk:x<q∨(x=q∧B k<B r)):Lst M B n c (k+1) k x:=⟨hx,fun i hi hp=>by
 by_cases e:i=k
 ·subst e;exact .inr ⟨hx,Nat.le_refl _⟩
 ·rcases hk with hk | ⟨hk,hb⟩
  ·rcases h.2 i (by omega) hp with h1 | ⟨h1,_⟩
   ·exact .inl (by grind)
   ·exact .inl (by grind)
  ·rcases h.2 i (by omega) hp with h1 | ⟨h1,h2⟩
   ·exact .inl (by rw[hk];exact h1)
   ·exact .inr ⟨by rw[hk];exact h1,by omega⟩⟩
theorem aax(h:∀i,i<k→M i c≤0)(hx:x=M k n/M k c):Lst M B n c (k+1) k x:=⟨hx,fun i hi hp=>by
 by_cases e:i=k
 ·subst e;exact .inr ⟨hx,Nat.le_refl _⟩
 ·have:=h i (by omega);grind⟩
end
theorem aay{n d:Int}(h:1≤d):0<(n:Rat)/(d:Rat)↔0<n:=by
 have h1:=Mq (n:=n) h
 have h2:=uS (n:=n) h
 constructor
 ·intro h3
  rcases Int.lt_trichotomy n 0 with k | k | k
  ·have:=h1.2 k;grind
  ·have:=h2.2 k;grind
  ·exact k
 ·intro h3
  have k1:¬(n:Rat)/(d:Rat)<0:=fun k=>by have:=h1.1 k;omega
  have k2:¬(n:Rat)/(d:Rat)=0:=fun k=>by have:=h2.1 k;omega
  grind
theorem aaz{a b c d:Int}(hb:1≤b)(hd:1≤d):((a*d-c*b<0)↔(a:Rat)/(b:Rat)<(c:Rat)/(d:Rat))∧((a*d-c*b=0)↔(a:Rat)/(b:Rat)=(c:Rat)/(d:Rat)):=by
 have h1:=ZP (n:=a) (a:=c) hb hd
 have h2:=Mi hb hd
 have h3:=Mq (n:=a*d-c*b) h2
 have h4:=uS (n:=a*d-c*b) h2
 rw[h1]at h3 h4
 exact⟨⟨fun h=>by have:=h3.2 h;grind,fun h=>h3.1 (by grind)⟩,⟨fun h=>by have:=h4.2 h;grind,fun h=>h4.1 (by grind)⟩⟩
theorem ajU{a b c d:Int}(hb:1≤b)(hd:1≤d)(hc:0<c):((a*d:Int):Rat)/((b*c:Int):Rat)=(a:Rat)/(b:Rat)/((c:Rat)/(d:Rat)):=by
 have h1:(c:Rat)≠0:=by exact_mod_cast (show c≠0 by omega)
 rw[ZO,Rat.div_def ((a:Rat)/b),Rat.div_def (c:Rat) d,Rat.inv_mul_rev,Rat.inv_inv,Rat.div_def (d:Rat) c]
structure IS where
 i:Nat
 z:Int
 a:Int
 b:Int
 o:Bool
def R6(o:Bool)(M:Nat→Nat→Rat)(B:Nat→Nat)(n c:Nat)(y:IS):Prop:=(y.o=false→o=false)∧((y.z = -1∧∀i,i<y.i→M i c≤0)∨∃(r:Nat)(q:Rat),y.z=(r:Int)∧r<y.i∧0<M r c∧fA [.int .i64 y.a,.int .i64 y.b] q∧(y.o=false→Lst M B n c y.i r q))
theorem ajV{o:Bool}{M:Nat→Nat→Rat}{B:Nat→Nat}{n c:Nat}{y:IS}(h:R6 o M B n c y)(hk:M y.i c≤0):R6 o M B n c ⟨y.i+1,y.z,y.a,y.b,y.o⟩:=by
 refine⟨h.1,?_⟩
 rcases h.2 with ⟨h1,h2⟩ | ⟨r,q,h1,h2,h3,h4,h5⟩
 ·refine .inl ⟨h1,fun i hi=> ?_⟩
  by_cases e:i=y.i
  ·rw[e];exact hk
  ·exact h2 i (by have:i<y.i+1:=hi;omega)
 ·exact .inr ⟨r,q,h1,Nat.lt_succ_of_lt h2,h3,h4,fun h9=>aaw (h5 h9) hk⟩
def LvP(o o':Bool)(M:Nat→Nat→Rat)(B:Nat→Nat)(n c m:Nat)(z:Int):Prop:=(o'=false→o=false)∧((z = -1∧∀i,i<m→M i c≤0)∨∃r:Nat,z=(r:Int)∧r<m∧0<M r c∧(o'=false→∃q,Lst M B n c m r q))
theorem ajW{o:Bool}{H:Heap}{g:Nat}{G:GG}{R W m:Nat}{M:Nat→Nat→Rat}{B:Nat→Nat}{c:Nat}(h:QV o H g G R W m M B)(R7:m≤R)(hc:c<W)(hR:(R:Int)≤1000000)(hW:(W:Int)≤1000000):
 Fn Tryz.prog 136 #[.pointer (some ⟨g,0,none⟩),.int .i64 (c:Int)] H (fun v H'=>∃z o',v = .int .i64 z∧fU G.gs g H H'∧H' g=some ⟨[.slice G.Ar R G.cr,G.bv,.bool o'],3,135,true⟩∧LvP o o' M B (W-1) c m z):=by
 obtain⟨Ab,cb,dy,fJ⟩:∃Ab cb,G.bv = .slice Ab m cb∧∀o' H',QV o' H' g G R W m M B→∀i,i<m→Rd H' Ab (eP B m):=by
  rcases h.de.basis with ⟨h1,h2,h3⟩ | ⟨gb,cb,sz,h1,h2,h3⟩
  ·exact⟨none,0,by rw[h3,h1],fun _ _ _ i hi=>by omega⟩
  ·
   refine⟨_,cb,h2,fun o' H' h' i hi=> ?_⟩
   rcases h'.de.basis with ⟨k1,k2,k3⟩ | ⟨Cn,EL,qm,k1,k2,k3⟩
   ·omega
   ·rw[h1]at k1;cases k1;exact dQ k3
 refine aY (args:=[_,_]) Tryz.func136 rfl rfl Tryz.ntmps136 rfl rfl fun w0=> ?_;refine ah [0,1] rfl ?_;refine ae (aa 1 rfl (ab [0,1] ?_));refine ae (di ag rfl fQ rfl rfl (bm fQ rfl (vr 1 ?_)));obtain⟨ti,aj,ak⟩:=eF;refine aI (.inl ⟨rfl,rfl⟩) rfl rfl rfl aj ak rfl rfl rfl (ab [0,1,5,6] ?_);refine ao (ae (aa 2 rfl (aV ag rfl rfl rfl (aR ag rfl rfl rfl (show cell H _=some (.slice Ab m cb)from by rw[←dy];exact h.mM) ?_))));refine aa 2 rfl (ab [0,1,5,6,17,18] ?_);refine aE (fI (fun(y:IS)=>m-y.i) (fun(y:IS)=>put (put (put (put (put (put (emp) 0 (.val (.pointer (some ⟨g,0,none⟩)))) 1 (.val (.int .i64 (c:Int)))) 5 (.val (.int .i64 y.z))) 6 (.box [.int .i64 y.a,.int .i64 y.b])) 17 (.val (.int .i64 (m:Int)))) 18 (.val (.int .i64 (y.i:Int)))) (fun(y:IS) H'=>fU G.gs g H H'∧H' g=some ⟨[.slice G.Ar R G.cr,G.bv,.bool y.o],3,135,true⟩∧y.i≤m∧R6 o M B (W-1) c y) ⟨0,-1,0,0,o⟩ (⟨(Kept.refl _ _).iI _,h.st,Nat.zero_le _,fun h9=>h9,.inl ⟨rfl,fun i hi=>absurd hi (Nat.not_lt_zero _)⟩⟩) ar ?_);rintro y H2 ⟨fC,EM,hym,hI⟩;have bS:=h.vc fC EM;obtain⟨xs2,fP,MC,eT⟩:=bS.rk;refine ae (aa 1 rfl (ab [0,1,5,6,17,18,19] ?_))
 refine ao (aD rfl (fun hb=> ?_) (fun hb=> ?_))
 ·
  have aO:y.i<m:=by simpa using hb
  obtain⟨pi,cX⟩:=h.de.get (show y.i<R by omega);obtain⟨xi,si,s8,xW⟩:=bS.row cX;obtain⟨n1,d1,iZ,jf,i1,i2,i3,i4,vC⟩:=mN xW hc;obtain⟨n2,d2,jN,m0,j1,j2,j3,j4,dT⟩:=mN xW (show W-1<W by omega);refine aw (ah [0,1,5,6,17,18] rfl ?_);refine ao (aE (ae (aa 2 rfl (ab [0,1,5,6,7,17,18] ?_))));refine ao (ae (aa 2 rfl (aV ag rfl rfl rfl (aR ag rfl rfl rfl (bS.iS) (aa 1 rfl (aS ag rfl rfl rfl rfl rfl (MC) (by rw[Int.toNat_natCast];exact eT y.i pi cX) (by omega) (by omega) fun _=> ?_))))));refine aa 1 rfl (jW ag rfl rfl rfl rfl rfl rfl rfl (dQ s8) (by rw[Int.toNat_natCast];exact jf 0 _ rfl) (by omega) (by omega) fun _ _=> ?_);refine aa 1 rfl (ab [0,1,5,6,7,17,18,32] ?_);refine aD rfl (fun hb=> ?_) (fun hb=> ?_)
  ·
   have hb:n1≤0:=by simpa using hb
   refine aU (ah [0,1,5,6,17,18] rfl ?_);refine aA rfl (aF rfl rfl ⟨by omega,by omega⟩ (aa 1 rfl (au ?_)));exact⟨⟨y.i+1,y.z,y.a,y.b,y.o⟩,(show m-(y.i+1)<m-y.i by omega),ar,fC,EM,(show y.i+1≤m by omega),ajV hI (by rw[vC];have:=(aay (n:=n1) i3).1;grind)⟩
  ·
   have hb:0<n1:=by simpa using hb
   have fi:0<M y.i c:=by rw[vC];exact(aay i3).2 hb
   have m1:=xL (a:=n2) (b:=d1) j1 j2 (by omega) i4;have m2:=xL (a:=d2) (b:=n1) (by omega) j4 (by omega) i2;have m3:=Mi (a:=d2) (b:=n1) j3 (by omega);refine aw (ah [0,1,5,6,7,17,18] rfl ?_);refine bN (.qh [8,9]) [0,1,2,3,4,5,6,7,8,9,10,11,12,13,14,15,16,17,18,19,20,21,22,23,24,25,26,27,28,29,30,31] follows (gV [0,1,3,7,0,31,63,0,128,384,896,0,3968,8064,16256,32640,65535,131071,0,262144,786432,1835008,0,8126464,16515072,0,66846720,133955584,0,0,805568511,2147483647] (by kernel_rfl)) ?_;refine aa 2 rfl (aV ag rfl rfl rfl (aR ag rfl rfl rfl (bS.iS) (aa 1 rfl (aS ag rfl rfl rfl rfl rfl (MC) (by rw[Int.toNat_natCast];exact eT y.i pi cX) (by omega) (by omega) fun _=> ?_))));refine aa 2 rfl (aV ag rfl rfl rfl (aR ag rfl rfl rfl (bS.iS) (aa 1 rfl (aS ag rfl rfl rfl rfl rfl (MC) (by rw[Int.toNat_natCast];exact eT y.i pi cX) (by omega) (by omega) fun _=> ?_))));refine aa 1 rfl (cQ rfl rfl ⟨by omega,by omega⟩ (bY (vs:=[.int .i64 n2,.int .i64 d2]) ag rfl rfl rfl rfl (dQ s8) rfl (by decide) (by rw[show ((W:Int)-1).toNat=W-1 by omega];exact m0) (by omega) (by omega) fun _=> ?_));refine aa 2 rfl (aV ag rfl rfl rfl ?_)
   refine aR ag rfl rfl rfl (bS.iS) (aa 1 rfl (aS ag rfl rfl rfl rfl rfl (MC) (by rw[Int.toNat_natCast];exact eT y.i pi cX) (by omega) (by omega) fun _=> ?_));refine aa 1 rfl (bY (vs:=[.int .i64 n1,.int .i64 d1]) ag rfl rfl rfl rfl (dQ s8) rfl (by decide) (by rw[Int.toNat_natCast];exact jf) (by omega) (by omega) fun _=> ?_);refine bm fQ rfl (bm fQ rfl ?_);obtain⟨ti,aj,ak⟩:=eF;refine aI (.inl ⟨rfl,rfl⟩) rfl rfl rfl aj ak rfl rfl rfl ?_;obtain⟨ti,aj,ak⟩:=eF;refine aI (.inl ⟨rfl,rfl⟩) rfl rfl rfl aj ak rfl rfl rfl (ab [0,1,5,6,7,8,9,17,18] ?_);refine ae (aa 5 rfl (gZ rfl rfl ⟨by omega,by omega⟩ (aa 4 rfl (gZ rfl rfl ⟨by omega,by omega⟩ (aB rfl rfl (Ry bS.mem EM (n:=n2*d1) (d:=d2*n1) (by omega) (by omega) m3 (by omega)) ?_)))));rintro v8 H8 ⟨qZ,vs8,o8,xq,rfl,MD,s9,eJ⟩;obtain⟨xn,xd,rfl,x1,x2,x3,x4,hxq⟩:=id MD;refine bm fQ rfl ?_;obtain⟨ti,aj,ak⟩:=eF;refine aI (.inl ⟨rfl,rfl⟩) rfl rfl rfl aj ak rfl rfl rfl (ab [0,1,5,6,7,10,17,18] ?_);have EN:=fC.trans qZ
   have nC:o8=false→xq=M y.i (W-1)/M y.i c:=fun h9=>by rw[(eJ h9).2,ajU j3 i3 hb,←vC,←dT]
   have zI:=h.vc EN s9;refine ae (aa 1 rfl (ab [0,1,5,6,7,10,11,17,18] ?_));refine kT (fun(s:Int)=>put (put (put (put (put (put (put (put (put (emp) 0 (.val (.pointer (some ⟨g,0,none⟩)))) 1 (.val (.int .i64 (c:Int)))) 5 (.val (.int .i64 y.z))) 6 (.box [.int .i64 y.a,.int .i64 y.b])) 7 (.val (.int .i64 (y.i:Int)))) 10 (.box [.int .i64 xn,.int .i64 xd])) 11 (.val (.int .i64 s))) 17 (.val (.int .i64 (m:Int)))) 18 (.val (.int .i64 (y.i:Int)))) (fun(s:Int) H'=>H'=H8∧((y.z = -1∧s = -1∧∀i,i<y.i→M i c≤0)∨∃(r:Nat)(q:Rat),y.z=(r:Int)∧r<y.i∧0<M r c∧fA [.int .i64 y.a,.int .i64 y.b] q∧(y.o=false→Lst M B (W-1) c y.i r q)∧(s<0↔xq<q)∧(s=0↔xq=q))) ?_ ?_
   ·
    refine ae (aa 2 rfl (ab [0,1,5,6,7,10,11,17,18,74] ?_));refine aD rfl (fun hb=> ?_) (fun hb=> ?_)
    ·
     have hb:0≤y.z:=by simpa using hb
     obtain⟨r,q,ez,xX,cZ,iU,hL⟩:∃(r:Nat)(q:Rat),y.z=(r:Int)∧r<y.i∧0<M r c∧fA [.int .i64 y.a,.int .i64 y.b] q∧(y.o=false→Lst M B (W-1) c y.i r q):=by
      rcases hI.2 with ⟨ez,_⟩ | h9
      ·omega
      ·exact h9
     obtain⟨a9,b9,e9,y1,y2,y3,y4,Lr⟩:=id iU
     simp only[List.cons.injEq,Value.int.injEq,true_and,and_true]at e9
     obtain⟨rfl,rfl⟩:=e9;have m4:=xL (a:=xn) (b:=y.b) x1 x2 (by omega) y4;have m5:=xL (a:=y.a) (b:=xd) y1 y2 (by omega) x4;refine aA rfl (aa 4 rfl (gZ rfl rfl ⟨by omega,by omega⟩ (aa 4 rfl (gZ rfl rfl ⟨by omega,by omega⟩ (cQ rfl rfl ⟨by omega,by omega⟩ (aa 1 rfl (au ?_)))))));exact⟨_,ar,rfl,.inr ⟨r,q,ez,xX,cZ,iU,hL,by rw[hxq,Lr];exact(aaz x3 y3).1,by rw[hxq,Lr];exact(aaz x3 y3).2⟩⟩
    have hb:y.z<0:=by simpa using hb
    refine aw ?_
    skip
    rcases hI.2 with ⟨ez,fm⟩ | ⟨r,q,ez,_⟩
    ·exact⟨_,ar,rfl,.inl ⟨ez,rfl,fm⟩⟩
    ·omega
   rintro s H9 ⟨e9,hs⟩;rw[e9];clear e9 H9;obtain⟨ez,es,fm⟩ | ⟨r,q,ez,xX,cZ,iU,hL,ka,Co⟩:=hs
   ·
    skip
    refine bN .bK [0,1,2,3,4,5,6,7,8,9,10,11,12,13,14,15,16,17,18,19,20,21,22] follows (gV [0,1,3,7,15,31,63,127,255,511,63,2047,4095,63,8255,24639,57407,63,254015,516159,1048575,2097151,4194303] (by kernel_rfl)) ?_;refine aa 1 rfl (aG true rfl rfl (je (by omega)) (aa 21 rfl (ab [0,1,5,6,7,10,17,18,108] ?_)));refine cI rfl (eK .bK [0,1,2,3] follows (by kernel_rfl) ?_);refine vr 3 ?_;obtain⟨ti,aj,ak⟩:=eF;refine aI (.inl ⟨rfl,rfl⟩) rfl rfl rfl aj ak rfl rfl rfl (au (ah [0,1,5,6,17,18] rfl ?_));refine aA rfl (aF rfl rfl ⟨by omega,by omega⟩ (aa 1 rfl (au ?_)));exact⟨⟨y.i+1,y.i,xn,xd,o8⟩,(show m-(y.i+1)<m-y.i by omega),ar,EN,s9,(show y.i+1≤m by omega),fun h9=>hI.1 (eJ h9).1,.inr ⟨y.i,xq,rfl,Nat.lt_succ_self _,fi,MD,fun h9=>aax fm (nC h9)⟩⟩
   skip
   by_cases g1:s<0
   ·
    skip
    refine bN .bK [0,1,2,3,4,5,6,7,8,9,10,11,12,13,14,15,16,17,18,19,20,21,22] follows (gV [0,1,3,7,15,31,63,127,255,511,63,2047,4095,63,8255,24639,57407,63,254015,516159,1048575,2097151,4194303] (by kernel_rfl)) ?_;refine aa 1 rfl (aG true rfl rfl (je g1) (aa 21 rfl (ab [0,1,5,6,7,10,17,18,108] ?_)));refine cI rfl (eK .bK [0,1,2,3] follows (by kernel_rfl) ?_);refine vr 3 ?_;obtain⟨ti,aj,ak⟩:=eF;refine aI (.inl ⟨rfl,rfl⟩) rfl rfl rfl aj ak rfl rfl rfl (au (ah [0,1,5,6,17,18] rfl ?_));refine aA rfl (aF rfl rfl ⟨by omega,by omega⟩ (aa 1 rfl (au ?_)));exact⟨⟨y.i+1,y.i,xn,xd,o8⟩,(show m-(y.i+1)<m-y.i by omega),ar,EN,s9,(show y.i+1≤m by omega),fun h9=>hI.1 (eJ h9).1,.inr ⟨y.i,xq,rfl,Nat.lt_succ_self _,fi,MD,fun h9=>MA (hL (eJ h9).1) (nC h9) (.inl (ka.1 g1))⟩⟩
   skip
   by_cases g2:s=0
   ·
    skip
    by_cases g3:B y.i<B r
    ·
     skip
     refine bN .bK [0,1,2,3,4,5,6,7,8,9,10,11,12,13,14,15,16,17,18,19,20,21,22] follows (gV [0,1,3,7,15,31,63,127,255,511,63,2047,4095,63,8255,24639,57407,63,254015,516159,1048575,2097151,4194303] (by kernel_rfl)) ?_;refine aa 1 rfl (aG false rfl rfl (iq (by omega)) (aa 2 rfl (aG true rfl rfl (gi g2) (aa 3 rfl (aV ag rfl rfl rfl (aR ag rfl rfl rfl (show cell H8 _=some (.slice Ab m cb)from by rw[←dy];exact zI.mM) ?_))))));refine aa 1 rfl (aS ag rfl rfl rfl rfl rfl (fJ _ _ zI y.i aO) (by rw[Int.toNat_natCast];exact gQ aO) (by omega) (by omega) fun _=> ?_);refine aa 2 rfl (aV ag rfl rfl rfl (aR ag rfl rfl rfl (show cell H8 _=some (.slice Ab m cb)from by rw[←dy];exact zI.mM) ?_));refine aa 1 rfl (aS ag rfl rfl rfl rfl rfl (fJ _ _ zI y.i aO) (by rw[ez,Int.toNat_natCast];exact gQ (by omega)) (by omega) (by omega) fun _=> ?_);refine aG true rfl rfl (je (by omega)) (aa 2 rfl (ab [0,1,5,6,7,10,17,18,108] ?_));refine cI rfl (eK .bK [0,1,2,3] follows (by kernel_rfl) ?_);refine vr 3 ?_;obtain⟨ti,aj,ak⟩:=eF;refine aI (.inl ⟨rfl,rfl⟩) rfl rfl rfl aj ak rfl rfl rfl ?_
     refine au (ah [0,1,5,6,17,18] rfl ?_);refine aA rfl (aF rfl rfl ⟨by omega,by omega⟩ (aa 1 rfl (au ?_)));exact⟨⟨y.i+1,y.i,xn,xd,o8⟩,(show m-(y.i+1)<m-y.i by omega),ar,EN,s9,(show y.i+1≤m by omega),fun h9=>hI.1 (eJ h9).1,.inr ⟨y.i,xq,rfl,Nat.lt_succ_self _,fi,MD,fun h9=>MA (hL (eJ h9).1) (nC h9) (.inr ⟨Co.1 g2,g3⟩)⟩⟩
    skip
    refine bN .bK [0,1,2,3,4,5,6,7,8,9,10,11,12,13,14,15,16,17,18,19,20,21,22] follows (gV [0,1,3,7,15,31,63,127,255,511,63,2047,4095,63,8255,24639,57407,63,254015,516159,1048575,2097151,4194303] (by kernel_rfl)) ?_;refine aa 1 rfl (aG false rfl rfl (iq (by omega)) (aa 2 rfl (aG true rfl rfl (gi g2) (aa 3 rfl (aV ag rfl rfl rfl (aR ag rfl rfl rfl (show cell H8 _=some (.slice Ab m cb)from by rw[←dy];exact zI.mM) ?_))))));refine aa 1 rfl (aS ag rfl rfl rfl rfl rfl (fJ _ _ zI y.i aO) (by rw[Int.toNat_natCast];exact gQ aO) (by omega) (by omega) fun _=> ?_);refine aa 2 rfl (aV ag rfl rfl rfl (aR ag rfl rfl rfl (show cell H8 _=some (.slice Ab m cb)from by rw[←dy];exact zI.mM) ?_));refine aa 1 rfl (aS ag rfl rfl rfl rfl rfl (fJ _ _ zI y.i aO) (by rw[ez,Int.toNat_natCast];exact gQ (by omega)) (by omega) (by omega) fun _=> ?_);refine aG false rfl rfl (iq (by omega)) (aa 2 rfl (ab [0,1,5,6,7,10,17,18,108] ?_));refine dd rfl (aw (ah [0,1,5,6,17,18] rfl ?_));refine aA rfl (aF rfl rfl ⟨by omega,by omega⟩ (aa 1 rfl (au ?_)));exact⟨⟨y.i+1,y.z,y.a,y.b,o8⟩,(show m-(y.i+1)<m-y.i by omega),ar,EN,s9,(show y.i+1≤m by omega),fun h9=>hI.1 (eJ h9).1,.inr ⟨r,q,ez,Nat.lt_succ_of_lt xX,cZ,iU,fun h9=>My (hL (eJ h9).1) (nC h9) (.inr ⟨Co.1 g2,g3⟩)⟩⟩
   skip
   refine bN .bK [0,1,2,3,4,5,6,7,8,9,10,11,12,13,14,15,16,17,18,19,20,21,22] follows (gV [0,1,3,7,15,31,63,127,255,511,63,2047,4095,63,8255,24639,57407,63,254015,516159,1048575,2097151,4194303] (by kernel_rfl)) ?_;refine aa 1 rfl (aG false rfl rfl (iq (by omega)) (aa 2 rfl (aG false rfl rfl (jn g2) (aa 18 rfl (ab [0,1,5,6,7,10,17,18,108] ?_)))));refine dd rfl (aw (ah [0,1,5,6,17,18] rfl ?_));refine aA rfl (aF rfl rfl ⟨by omega,by omega⟩ (aa 1 rfl (au ?_)));exact⟨⟨y.i+1,y.z,y.a,y.b,o8⟩,(show m-(y.i+1)<m-y.i by omega),ar,EN,s9,(show y.i+1≤m by omega),fun h9=>hI.1 (eJ h9).1,.inr ⟨r,q,ez,Nat.lt_succ_of_lt xX,cZ,iU,fun h9=>My (hL (eJ h9).1) (nC h9) (.inl (by have k1:¬xq<q:=fun k=>g1 (ka.2 k);have k2:¬xq=q:=fun k=>g2 (Co.2 k);grind))⟩⟩
 ·
  have aO:m≤y.i:=by simpa using hb
  have aO:y.i=m:=by omega
  refine aU (ah [5] rfl ?_);refine ae (aa 2 rfl (ab [4] ?_));refine az ⟨.inr rfl,_,.tmp rfl (.nil),?_⟩;refine⟨y.z,y.o,rfl,fC,EM,hI.1,?_⟩;have h2:=hI.2;rw[aO]at h2
  rcases h2 with h9 | ⟨r,q,k1,k2,k3,_,k5⟩
  ·exact .inl h9
  ·exact .inr ⟨r,k1,k2,k3,fun h9=>⟨q,k5 h9⟩⟩
end Go.aq
