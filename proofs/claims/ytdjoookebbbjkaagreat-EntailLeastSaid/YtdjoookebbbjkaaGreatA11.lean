/- Part 11 of the proof: Srt, Srt2, Lnd2, Mdr, QDat, Eng17, QDat2, Qp, Ql, Qi. -/
import Derived.Test.YtdjoookebbbjkaaGreatA10
import Derived.Shelf.Sort.AssemblyIn
import Derived.Shelf.Slices.In.SortNone
import Derived.Sort.EveryDepth
import Derived.Shelf.Slices.CompactI
import Derived.Shelf.Slices.Empties
set_option linter.unusedVariables false
namespace Go.Proofs
open Go.Shelf
def Tryz.ajf:Go.Shelf.Ren:=⟨fun | 189=>62 | 125=>107 | 257=>106 | 128=>148 | 129=>149 | 294=>139 | 295=>140 | 296=>141 | 297=>142 | 298=>143 | 299=>144 | 216=>145 | 300=>146 | 301=>147 | 328=>160 | 329=>161 | 330=>162 | 331=>163 | 332=>164 | 215=>165 | 343=>170 | n=>n,fun | 28=>49 | 3=>3 | 46=>149 | 0=>0 | 51=>74 | 53=>73 | 4=>4 | 183=>168 | 182=>167 | 131=>173 | 5=>5 | 9=>9 | 218=>183 | 222=>187 | 228=>195 | 229=>196 | n=>n,fun | n=>n⟩
theorem Tryz.ZX:Go.Proofs.Lays.n189 Tryz.prog Tryz.ajf:={
 mixed:=by kernel_rfl
 f125:=Tryz.func107.trans (congrArg some (by kernel_rfl))
 f128:=Tryz.func148.trans (congrArg some (by kernel_rfl))
 f129:=Tryz.func149.trans (congrArg some (by kernel_rfl))
 f189:=Tryz.func62.trans (congrArg some (by kernel_rfl))
 f215:=Tryz.func165.trans (congrArg some (by kernel_rfl))
 f216:=Tryz.func145.trans (congrArg some (by kernel_rfl))
 f257:=Tryz.func106.trans (congrArg some (by kernel_rfl))
 f294:=Tryz.func139.trans (congrArg some (by kernel_rfl))
 f295:=Tryz.func140.trans (congrArg some (by kernel_rfl))
 f296:=Tryz.func141.trans (congrArg some (by kernel_rfl))
 f297:=Tryz.func142.trans (congrArg some (by kernel_rfl))
 f298:=Tryz.func143.trans (congrArg some (by kernel_rfl))
 f299:=Tryz.func144.trans (congrArg some (by kernel_rfl))
 f300:=Tryz.func146.trans (congrArg some (by kernel_rfl))
 f301:=Tryz.func147.trans (congrArg some (by kernel_rfl))
 f328:=Tryz.func160.trans (congrArg some (by kernel_rfl))
 f329:=Tryz.func161.trans (congrArg some (by kernel_rfl))
 f330:=Tryz.func162.trans (congrArg some (by kernel_rfl))
 f331:=Tryz.func163.trans (congrArg some (by kernel_rfl))
 f332:=Tryz.func164.trans (congrArg some (by kernel_rfl))
 f343:=Tryz.func170.trans (congrArg some (by kernel_rfl))
 t0:=Tryz.underlying0
 a0:=Tryz.isAgg0
 z0:=Tryz.sizeOf0
 v0:=Tryz.zeroValue0
 t3:=Tryz.underlying3
 a3:=Tryz.isAgg3
 z3:=Tryz.sizeOf3
 v3:=Tryz.zeroValue3
 t4:=Tryz.underlying4
 a4:=Tryz.isAgg4
 z4:=Tryz.sizeOf4
 v4:=Tryz.zeroValue4
 t5:=Tryz.underlying5
 a5:=Tryz.isAgg5
 z5:=Tryz.sizeOf5
 v5:=Tryz.zeroValue5
 t9:=Tryz.underlying9
 a9:=Tryz.isAgg9
 z9:=Tryz.sizeOf9
 v9:=Tryz.zeroValue9
 t28:=Tryz.underlying49
 a28:=Tryz.isAgg49
 z28:=Tryz.sizeOf49
 v28:=Tryz.zeroValue49
 t46:=Tryz.underlying149
 a46:=Tryz.isAgg149
 z46:=Tryz.sizeOf149
 v46:=Tryz.zeroValue149
 t51:=Tryz.underlying74
 a51:=Tryz.isAgg74
 z51:=Tryz.sizeOf74
 v51:=Tryz.zeroValue74
 t53:=Tryz.underlying73
 a53:=Tryz.isAgg73
 z53:=Tryz.sizeOf73
 v53:=Tryz.zeroValue73
 t131:=Tryz.underlying173
 a131:=Tryz.isAgg173
 z131:=Tryz.sizeOf173
 v131:=Tryz.zeroValue173
 t182:=Tryz.underlying167
 a182:=Tryz.isAgg167
 z182:=Tryz.sizeOf167
 v182:=Tryz.zeroValue167
 t183:=Tryz.underlying168
 a183:=Tryz.isAgg168
 z183:=Tryz.sizeOf168
 v183:=Tryz.zeroValue168
 t218:=Tryz.underlying183
 a218:=Tryz.isAgg183
 z218:=Tryz.sizeOf183
 v218:=Tryz.zeroValue183
 t222:=Tryz.underlying187
 a222:=Tryz.isAgg187
 z222:=Tryz.sizeOf187
 v222:=Tryz.zeroValue187
 t228:=Tryz.underlying195
 a228:=Tryz.isAgg195
 z228:=Tryz.sizeOf195
 v228:=Tryz.zeroValue195
 t229:=Tryz.underlying196
 a229:=Tryz.isAgg196
 z229:=Tryz.sizeOf196
 v229:=Tryz.zeroValue196}
end Go.Proofs
namespace Go.aq
open Go.Proofs Go.Sort
def iv(l:List Int):List Value:=l.map (Value.int .i64)
theorem EM{l:List Int}{i:Nat}{v:Value}:(iv l)[i]? = some v↔∃z,l[i]? = some z∧v = .int .i64 z:=by
 unfold iv
 rw[List.getElem?_map]
 cases l[i]? with
 | none=>simp
 | some z=>simp[eq_comm]
theorem RT(l:List Int):(iv l).length=l.length:=by simp[iv]
theorem ZY{H:Heap}{w:World}{g c e n:Nat}{l k:List Int}{os:Array Obj}(hd:Den H w)(hg:H g=some ⟨iv l,c,e,true⟩)(hk:k.length=l.length)(hc:l.length≤c):
  Den (ins H g ⟨iv k,c,e,true⟩) (grow (putRow (Value.int .i64) (Sort.ahead w n) g 0 k.toArray) os)∧Fx H w (ins H g ⟨iv k,c,e,true⟩) (grow (putRow (Value.int .i64) (Sort.ahead w n) g 0 k.toArray) os):=by
 have hold:∀q,q<w.heap.size→(grow (putRow (Value.int .i64) (Sort.ahead w n) g 0 k.toArray) os).heap[q]? = if g=q then(w.heap[q]?).map (onCells (putCells (Value.int .i64) 0 k.toArray))else w.heap[q]? :=fun q hq=>by
  have h1:(grow (putRow (Value.int .i64) (Sort.ahead w n) g 0 k.toArray) os).heap=w.heap.modify g (onCells (putCells (Value.int .i64) 0 k.toArray))++os:=rfl
  rw[h1,Array.getElem?_append_left (by simpa using hq),Array.getElem?_modify]
 have cP:w.heap.size≤(grow (putRow (Value.int .i64) (Sort.ahead w n) g 0 k.toArray) os).heap.size:=by
  have h1:(grow (putRow (Value.int .i64) (Sort.ahead w n) g 0 k.toArray) os).heap=w.heap.modify g (onCells (putCells (Value.int .i64) 0 k.toArray))++os:=rfl
  rw[h1];simp
 obtain⟨o,ho,cs,fz,rfl,h3,h4,h5⟩:=hd g _ hg
 have eG:=(Array.getElem?_eq_some_iff.1 ho).1
 refine⟨fun q en hq=> ?_,rfl,rfl,rfl,cP,fun q hq h0=> ?_,fun q c' t f' hq=> ?_⟩
 ·by_cases e1:q=g
  ·subst e1
   rw[bn]at hq
   cases hq
   refine⟨_,by rw[hold q eG,if_pos rfl,ho];rfl,_,fz,rfl,by simp[putCells];exact h3,fun i v hv=> ?_,h5⟩
   obtain⟨z,hz,rfl⟩:=EM.1 hv
   have hi:=(List.getElem?_eq_some_iff.1 hz).1
   have rF:i<cs.size:=by rw[h3];show i<c;omega
   simp only[putCells]
   rw[Array.getElem?_mapIdx,Array.getElem?_eq_getElem rF]
   simp only[Option.map_some,Nat.zero_le,true_and,Nat.zero_add,List.size_toArray,Nat.sub_zero]
   rw[if_pos hi]
   simp[List.getElem?_eq_some_iff.1 hz |>.2,hi]
  ·rw[bg _ _ e1]at hq
   obtain⟨o',h6,h7⟩:=hd q en hq
   refine⟨o',?_,h7⟩
   rw[hold q (Array.getElem?_eq_some_iff.1 h6).1,if_neg (fun e=>e1 e.symm)];exact h6
 ·have e1:q≠g:=fun e=>by subst e;rw[h0]at hg;cases hg
  exact⟨by rw[hold q hq,if_neg (fun e=>e1 e.symm)],by rw[bg _ _ e1];exact h0⟩
 ·have hql:=(Array.getElem?_eq_some_iff.1 hq).1
  rw[hold q hql]
  split
  ·rw[hq];exact⟨_,rfl,by simp[putCells]⟩
  ·exact⟨c',hq,rfl⟩
theorem holds_of{H:Heap}{w:World}{g c e:Nat}{l:List Int}(hd:Den H w)(hg:H g=some ⟨iv l,c,e,true⟩):Holds (Value.int .i64) w g 0 l.toArray:=fun j hj=>by
 obtain⟨o,ho,cs,fz,rfl,h3,h4,h5⟩:=hd g _ hg
 have pA:=h5 rfl
 subst pA
 have Mq:j<l.length:=by simpa using hj
 have h1:cs[j]? = some (.int .i64 l[j]):=h4 j _ (EM.2 ⟨_,List.getElem?_eq_getElem Mq,rfl⟩)
 refine⟨?_,by simp[World.frozen?,ho]⟩
 rw[Nat.zero_add]
 have h2:w.cell? ⟨g,j,none⟩=cs[j]? :=by simp[World.cell?,ho]
 rw[h2,h1]
 simp[Mq]
def uE(l:List Int):List Int:=l.mergeSort fun x y=>decide (x≤y)
theorem Iy(l:List Int):(uE l).length=l.length:=by simp[uE]
theorem ZZ{l:List Int}{x:Int}:x∈uE l↔x∈l:=by simp[uE]
theorem Z0(l:List Int):(uE l).Pairwise (·≤·):=by
 have h:=List.pairwise_mergeSort (le:=fun x y:Int=>decide (x≤y)) (fun a b c h1 h2=>by simp at *;omega) (fun a b=>by simp;omega) l
 exact h.imp fun h=>by simpa using h
structure RU(H:Heap)(v:Value)(n:Nat)(k:List Int)(H':Heap):Prop where
 own:bR H' v 3 1 n (iv k)
 rem:rem H' (aw v)=rem H (aw v)
theorem ajg{H:Heap}{v:Value}{l:List Int}(h:bR H v 3 1 l.length (iv l))(hl:l.length<4611686018427387904):
  Fn Tryz.prog 62 #[v] H (fun r H'=>r = .tuple #[]∧RU H v l.length (uE l) H'):=by
 refine⟨⟨_,Tryz.func62,rfl,by decide⟩,fun w hd=> ?_⟩
 rcases h.2 with ⟨rfl,h0⟩ | ⟨g,cap,rfl,hg,h1,h2⟩
 ·have tX:l = []:=List.length_eq_zero_iff.1 h0
  subst tX
  refine(Any.slices_Sort_int_none Tryz.ZX none 0 w).mono fun e w' ⟨h3,h4⟩=> ?_
  subst h4
  have hs:uE [] = []:=List.length_eq_zero_iff.1 (Iy [])
  exact⟨_,h3,H,⟨rfl,by rw[hs];exact h,rfl⟩,hd,Fx.refl _ _⟩
 ·have eG:=hd.lt hg
  refine(calls_of_every_depth fun D=>AnyS.slices_Sort_int_in Tryz.ZX D g 0 cap l w (holds_of hd hg) eG hl).mono fun e w' ⟨h3,n,os,h4⟩=> ?_
  subst h4
  have h5:=ZY (n:=n) (os:=os) hd hg (Iy l) (by omega)
  refine⟨_,h3,_,⟨rfl,⟨⟨by rw[RT,Iy,Nat.mul_one],.inr ⟨g,cap,rfl,bn _ _ _,h1,h2⟩⟩,?_⟩⟩,h5.1,h5.2⟩
  exact cE _ (cF.2 rfl)
end Go.aq
namespace Go.Proofs
open Go.Shelf
def Tryz.ajh:Go.Shelf.Ren:=⟨fun | 20=>63 | n=>n,fun | 0=>0 | 2=>2 | 3=>3 | 4=>4 | 5=>5 | 22=>49 | 33=>173 | 40=>149 | n=>n,fun | n=>n⟩
theorem Tryz.Z1:Go.Proofs.Lays2.n20 Tryz.prog Tryz.ajh:={
 mixed:=by kernel_rfl
 f20:=Tryz.func63.trans (congrArg some (by kernel_rfl))
 t0:=Tryz.underlying0
 a0:=Tryz.isAgg0
 z0:=Tryz.sizeOf0
 v0:=Tryz.zeroValue0
 t3:=Tryz.underlying3
 a3:=Tryz.isAgg3
 z3:=Tryz.sizeOf3
 v3:=Tryz.zeroValue3
 t4:=Tryz.underlying4
 a4:=Tryz.isAgg4
 z4:=Tryz.sizeOf4
 v4:=Tryz.zeroValue4
 t22:=Tryz.underlying49
 a22:=Tryz.isAgg49
 z22:=Tryz.sizeOf49
 v22:=Tryz.zeroValue49
 i3:=by kernel_rfl}
end Go.Proofs
namespace Go.aq
open Go.Proofs Go.Sort Lp
theorem aji{H:Heap}{l:List Int}:bA (j8 H) 1 (iv l) l:=by
 refine⟨by rw[RT,Nat.mul_one],fun i z hz=> ?_⟩
 rw[O1 (EM.2 ⟨z,hz,rfl⟩)];rfl
theorem ajj{H:Heap}{xs:List Value}{l:List Int}(h:bA (j8 H) 1 xs l):xs=iv l:=by
 refine List.ext_getElem? fun i=> ?_
 cases hi:l[i]? with
 | none=>
  have h1:l.length≤i:=by simpa using hi
  rw[List.getElem?_eq_none (by rw[h.len];omega),List.getElem?_eq_none (by rw[RT];omega)]
 | some z=>
  obtain⟨v,h1,h2⟩:=h.one hi
  have h2: [v] = [.int .i64 z]:=h2
  cases h2
  rw[h1,EM.2 ⟨z,hi,rfl⟩]
theorem ajk(l:List Int):(Lib.compact l).length≤l.length:=by
 unfold Lib.compact Lib.compactUpTo
 rw[List.length_map]
 exact Nat.le_trans (List.length_filter_le _ _) (by simp)
theorem ajl{H:Heap}{v:Value}{l:List Int}(h:bR H v 3 1 l.length (iv l))(hl:l.length≤1000000):
  Fn Tryz.prog 63 #[v] H (fun r H'=>Heap.le (rem H (aw v)) H'∧aQ j8 1 H' r (Lib.compact l)):=by
 refine⟨⟨_,Tryz.func63,rfl,by decide⟩,fun w hd=> ?_⟩
 rcases h.2 with ⟨rfl,h0⟩ | ⟨g,cap,rfl,hg,h1,h2⟩
 ·have tX:l = []:=List.length_eq_zero_iff.1 h0
  subst tX
  refine(Any.slices_Compact_int_empty Tryz.Z1 none 0 w).mono fun e w' ⟨h3,h4⟩=> ?_
  subst h4
  exact⟨_,h3,H,⟨bD _ _,aQ.nil⟩,hd,Fx.refl _ _⟩
 ·have eG:=hd.lt hg
  refine(Any.slices_Compact_int Tryz.Z1 g 0 cap l w (holds_of hd hg) (by omega) h1).mono fun e w' ⟨h3,n,h4⟩=> ?_
  have hle:=ajk l
  have hk:(Lib.compact l++List.replicate (l.length-(Lib.compact l).length) 0).length=l.length:=by simp;omega
  have h5:=ZY (n:=n) (os:= #[]) hd hg hk (by omega)
  have h6:grow (putRow (Value.int .i64) (Sort.ahead w n) g 0 (Lib.compact l++List.replicate (l.length-(Lib.compact l).length) 0).toArray) #[]=w':=by
   rw[h4];simp only[grow,Array.append_empty]
  rw[h6]at h5
  refine⟨_,h3,_,⟨?_,some ⟨g,0,none⟩,cap,iv (Lib.compact l),rfl,by omega,fun i u hu=>⟨_,rfl,?_⟩,aji⟩,h5.1,h5.2⟩
  ·have h7:=cE (H:=H) (gs:=aw (.slice (some ⟨g,0,none⟩) l.length cap)) (g:=g) ⟨iv (Lib.compact l++List.replicate (l.length-(Lib.compact l).length) 0),cap*1,3,true⟩ (cF.2 rfl)
   have h8:=bD (ins H g ⟨iv (Lib.compact l++List.replicate (l.length-(Lib.compact l).length) 0),cap*1,3,true⟩) (aw (.slice (some ⟨g,0,none⟩) l.length cap))
   rwa [h7]at h8
  ·rw[im]
   simp only[cell,bn]
   obtain⟨z,hz,rfl⟩:=EM.1 hu
   exact EM.2 ⟨z,by rw[List.getElem?_append_left (List.getElem?_eq_some_iff.1 hz).1];exact hz,rfl⟩
theorem ajm{l:List Int}{x:Int}(h:x∈Lib.compact l):x∈l:=by
 unfold Lib.compact Lib.compactUpTo at h
 obtain⟨i,hi,rfl⟩:=List.mem_map.1 h
 have eX:i<l.length:=List.mem_range.1 (List.mem_filter.1 hi).1
 simp[getElem!_pos,eX]
theorem Z2{l:List Int}(h:l.Pairwise (·≤·)){i j:Nat}(Bf:i≤j)(hj:j<l.length):l.toArray[i]!≤l.toArray[j]! :=by
 have hi:i<l.length:=by omega
 rw[getElem!_pos l.toArray i (by simpa using hi),getElem!_pos l.toArray j (by simpa using hj)]
 simp only[List.getElem_toArray]
 by_cases e:i=j
 ·subst e;exact Int.le_refl _
 ·exact List.pairwise_iff_getElem.1 h i j hi hj (by omega)
theorem ajn{l:List Int}(h:l.Pairwise (·≤·)):∀i,i<l.length→l.toArray[i]!∈Lib.compact l:=by
 intro i
 induction i with
 | zero=>
  intro hi
  exact List.mem_map.2 ⟨0,List.mem_filter.2 ⟨List.mem_range.2 hi,by simp[Lib.keeps]⟩,rfl⟩
 | succ i ih=>
  intro hi
  by_cases e:l.toArray[i+1]! = l.toArray[i]!
  ·rw[e];exact ih (by omega)
  ·exact List.mem_map.2 ⟨i+1,List.mem_filter.2 ⟨List.mem_range.2 hi,decide_eq_true (.inr (by rw[show i+1-1=i from rfl];exact e))⟩,rfl⟩
theorem ajo{l:List Int}(h:l.Pairwise (·≤·)):uD (Lib.compact l):=by
 unfold Lib.compact Lib.compactUpTo uD
 rw[List.pairwise_map]
 have h1:((List.range l.length).filter (Lib.keeps l.toArray)).Pairwise (· < ·):=List.Pairwise.filter _ List.pairwise_lt_range
 refine List.Pairwise.imp_of_mem (fun{i j} hi hj Bf=> ?_) h1
 have qo:=List.mem_filter.1 hj
 have tB:=List.mem_range.1 qo.1
 have h2:l.toArray[i]!≤l.toArray[j-1]! :=Z2 h (by omega) (by omega)
 have h3:l.toArray[j-1]!≤l.toArray[j]! :=Z2 h (by omega) tB
 have h4:l.toArray[j]!≠l.toArray[j-1]! :=by
  have:=qo.2
  simp only[Lib.keeps,decide_eq_true_eq]at this
  rcases this with h5 | h5
  ·omega
  ·exact h5
 omega
theorem ajp(fs:List aO):Lib.compact (uE (gM fs))=dg fs:=by
 refine ai1 (ajo (Z0 _)) fun v=>⟨fun h=>ZZ.1 (ajm h),fun h=> ?_⟩
 obtain⟨i,hi⟩:=List.getElem?_of_mem (ZZ.2 h)
 have eX:=List.getElem?_eq_some_iff.1 hi
 have h1:=ajn (Z0 (gM fs)) i eX.1
 rw[getElem!_pos _ i (by simpa using eX.1)]at h1
 simpa [eX.2]using h1
end Go.aq
namespace Go.aq
open Go.Proofs Num Lp
theorem zP{P:Program}{n:Nat}{all:Array Oper}{md:Mode}{r:List Oper}{s:St}{H Hb:Heap}{K:St→Heap→Prop}{dst:Option Nat}{ty:TypeId}{pos:String}{after:Array _}{gd:Option (Nat×Bool)}
  {α:Type} {Q:Heap→List Value→α→Prop} {t e sz bytes gb:Nat} {x y:Operand} {z v:Value} {l:List α} {a:α} {xs us:List Value} (up:Up Q) (one:One Q) (ht:P.underlying t=some (.slice e)) (he:fA P e sz z bytes) (hx:ev s x=some v) (hy:ev s y=some (.slice (some ⟨gb,0,none⟩) 1 1))
  (hG:dU Q e sz Hb H v l xs) (aV:H gb=none) (hq:Q (rem H (aw v)) us a) (hl:us.length=sz) (hb:(l.length+1)*bytes≤140737488355328) (pB:l.length+1≤9223372036854775807)
  (hk:∀v' H' ys,dU Q e sz Hb H' v' (l ++ [a]) ys→Heap.le (rem H (aw v)) H'→aT P n all md r (bE s dst (.val v')) H' K) (hg:cn all s gd=some true:=by rfl) (nb:md.nb s dst=true:=by rfl):aT P n all md (⟨dst,.call ⟨.builtin .append,#[x,y],#[t,t]⟩,ty,pos,after,gd⟩::r) s (ins H gb (whole us e)) K:=by
 have hn:¬gb∈aw v:=fun hm=>hG.nT gb hm aV
 have nU:=hG.ins up (whole us e) aV
 have hle:Heap.le (rem H (aw v)) (rem (ins H gb (whole us e)) (aw v)):=pK _ (Heap.bG _ aV)
 refine dW (k:=1) ht he hx hy nU.own (ea _ _ _ _ _ _) (by rw[Nat.one_mul];exact hl) (one _ _ _ hq) hb pB (fun v' H' ha=> ?_) hg nb
 have uG:=nU.append up (k:=[a]) rfl ha (iE (up _ _ _ _ hle hq) hl)
 refine hk v' H' _ uG ?_
 have kZ:=nU.vU.append up (k:=[a]) rfl ha (iE (up _ _ _ _ hle hq) hl)
 exact hle.trans kZ.le
def Z3(H:Heap)(v:Value)(g:aO→Int):Prop:=∃iK cap,v = .func (.func iK) #[] (List.toArray cap)∧∀H',Heap.le H H'→∀(f:aO)(A:Option Addr)(c:Nat),aQ gy 2 H' (.slice A f.ts.length c) f.ts→f.ts.length≤1000000→Fn Tryz.prog iK ([Value.agg #[.int .i64 f.c,.slice A f.ts.length c]]++cap).toArray H' (j5 H' (.int .i64 (g f)))
def Mr(fs:List aO)(H:Heap)(v:Value)(H':Heap):Prop:=∃ys,dU o0 25 2 H H' v fs ys
theorem Mr.le{fs:List aO}{H:Heap}{v:Value}{H':Heap}(h:Mr fs H v H'):Heap.le H H':=by
 obtain⟨_,h⟩:=h;exact h.le
theorem dU.cast{α:Type}{P:Heap→List Value→α→Prop}{e sz:Nat}{Hb H:Heap}{v:Value}{l l':List α}{xs:List Value}(h:dU P e sz Hb H v l xs)(k:l=l'):dU P e sz Hb H v l' xs:=by subst k;exact h
theorem RU.cut{H:Heap}{v:Value}{l:List Int}{H':Heap}(h:RU H v l.length (uE l) H'):bR H' v 3 1 (uE l).length (iv (uE l)):=by
 rw[Iy];exact h.own
def Iz(l:List Int)(H:Heap)(v:Value)(H':Heap):Prop:=Heap.le H H'∧∃A c,v = .slice A l.length c∧aQ j8 1 H' (.slice A l.length c) l
theorem Iz.le{l:List Int}{H:Heap}{v:Value}{H':Heap}(h:Iz l H v H'):Heap.le H H':=h.1
end Go.aq
namespace Go.aq
open Go.Proofs Num Lp
theorem ajq{H:Heap}{g e:Nat}(z0 z:Int)(hg:H g=none):Heap.le H (ins (ins H g (whole [.int .i64 z0] e)) g {whole [.int .i64 z0] e with xs:=aJ (whole [.int .i64 z0] e).xs 0 [.int .i64 z]})∧cell (ins (ins H g (whole [.int .i64 z0] e)) g {whole [.int .i64 z0] e with xs:=aJ (whole [.int .i64 z0] e).xs 0 [.int .i64 z]}) ⟨g,0,none⟩=some (.int .i64 z):=by
 refine⟨?_,by simp[cell,ins,whole,aJ]⟩
 rw[mO];exact Heap.bG _ hg
theorem uH{n:Int}(h: -1048576≤n∧n≤1048576):aN (n:Rat)≤1:=KL.2 (by
 rw[Rat.num_intCast,Rat.den_intCast,Nat.pow_one,cg];omega)
theorem RV{fs:List aO}{ys:List Rat}{N:Nat}{g:aO→Int}(hy:∀q,q∈ys→aN q≤N+2)(hl:ys.length=fs.length)(hn:fs.length≤1000)(hN:N≤400000000)(hg:∀i,i<fs.length→-1048576≤g (nth fs i)∧g (nth fs i)≤1048576){k:Nat}(hk:k≤fs.length):aN (a7 k (fun i=>fn ys i*((g (nth fs i):Int):Rat)))≤900000000000:=by
 have h1:=Wv (f:=fn ys) (g:=fun i=>((g (nth fs i):Int):Rat)) (s:=N+2) (n:=fs.length) (fun k hk=>⟨Pr hy (by omega),by have:=uH (hg k hk);omega⟩) k hk
 have h2:k*(2*(N+2)+1)≤1000*(2*(N+2)+1):=Nat.mul_le_mul_right _ (by omega)
 omega
theorem RW{p q:Rat}(h1:aN p≤1)(h2:aN q≤900000000000):aN (p-q)≤1000000000000:=by
 have:=rU p q;omega
end Go.aq
namespace Go.aq
open Go.Proofs Num Lp
end Go.aq
namespace Go.aq
open Go.Proofs Num Lp
structure CK where
 P:Heap→List Value→Rat→Prop
 sz:Nat
 e:Nat
 he:Nat
 up:Up P
 len:∀H vs q,P H vs q→vs.length=sz
def o6(C:CK)(K:Heap)(H:Heap)(g:Nat)(l:List Rat):Prop:=∃xs sz,H g=some ⟨xs,sz,C.e,true⟩∧bA (C.P K) C.sz xs l
theorem o6.le{C:CK}{K K' H H':Heap}{g:Nat}{l:List Rat}(h:o6 C K H g l)(hl:Heap.le K K')(hs:H' g=H g):o6 C K' H' g l:=by
 obtain⟨xs,sz,h1,h2⟩:=h
 exact⟨xs,sz,by rw[hs];exact h1,h2.mono fun vs a=>C.up _ _ vs a hl⟩
structure GG where
 top:List Nat
 hb:List Nat
 bb:List Nat
 bv:Value
 rg:List (Nat×Nat)
 Ar:Option Addr
 cr:Nat
def GG.low(G:GG):List Nat:=G.hb++(G.bb++G.rg.map (·.1))
def GG.gs(G:GG):List Nat:=G.top++G.low
def GG.on(G:GG)(t:List Nat):GG:={G with top:=t}
def iR(rg:List (Nat×Nat))(W:Nat):List Value:=rg.map fun p=> .slice (some ⟨p.1,0,none⟩) W p.2
theorem kj{rg:List (Nat×Nat)}{W i:Nat}{p:Nat×Nat}(h:rg[i]? = some p):(iR rg W)[i]? = some (.slice (some ⟨p.1,0,none⟩) W p.2):=by
 unfold iR;rw[List.getElem?_map,h];rfl
structure cA(C:CK)(H:Heap)(G:GG)(R W m:Nat)(M:Nat→Nat→Rat)(B:Nat→Nat):Prop where
 nd:G.gs.Nodup
 top:∀q,q∈G.top→H q≠none
 iu:G.rg.length=R
 lY:G.hb=aw (.slice G.Ar R G.cr)
 rows:bR H (.slice G.Ar R G.cr) C.he 1 R (iR G.rg W)
 row:∀(i:Nat)(p:Nat×Nat),G.rg[i]? = some p→o6 C (rem H G.gs) H p.1 (aK (M i) W)
 basis:(m=0∧G.bb = []∧G.bv = .slice none 0 0)∨∃gb cb sz,G.bb = [gb]∧G.bv = .slice (some ⟨gb,0,none⟩) m cb∧H gb=some ⟨eN B m,sz,3,true⟩
section
variable {C:CK} {H H':Heap} {G:GG} {R W m:Nat} {M:Nat→Nat→Rat} {B:Nat→Nat}
theorem GG.Cm{G:GG}{q:Nat}(h:q∈G.top):q∈G.gs:=List.mem_append_left _ h
theorem GG.Cn{G:GG}{q:Nat}(h:q∈G.hb):q∈G.low:=List.mem_append_left _ h
theorem GG.mz{G:GG}{q:Nat}(h:q∈G.bb):q∈G.low:=List.mem_append_right _ (List.mem_append_left _ h)
theorem GG.gJ{G:GG}{i:Nat}{p:Nat×Nat}(h:G.rg[i]? = some p):p.1∈G.low:=List.mem_append_right _ (List.mem_append_right _ (List.mem_map.2 ⟨p,List.mem_of_getElem? h,rfl⟩))
theorem GG.kI{G:GG}{q:Nat}(h:q∈G.low):q∈G.gs:=List.mem_append_right _ h
theorem GG.uI{G:GG}(h:G.gs.Nodup){q r:Nat}(hq:q∈G.top)(hr:r∈G.low):q≠r:=(List.nodup_append.1 h).2.2 q hq r hr
theorem GG.Ms{G:GG}(h:G.gs.Nodup){q r:Nat}(hq:q∈G.hb)(hr:r∈G.bb∨∃(i:Nat)(p:Nat×Nat),G.rg[i]? = some p∧p.1=r):q≠r:=(List.nodup_append.1 (List.nodup_append.1 h).2.1).2.2 q hq r (by
 rcases hr with hr | ⟨i,p,hp,rfl⟩
 ·exact List.mem_append_left _ hr
 ·exact List.mem_append_right _ (List.mem_map.2 ⟨p,List.mem_of_getElem? hp,rfl⟩))
theorem GG.Gu{G:GG}(h:G.gs.Nodup){q:Nat}(hq:q∈G.bb){i:Nat}{p:Nat×Nat}(hp:G.rg[i]? = some p):q≠p.1:=
 (List.nodup_append.1 (List.nodup_append.1 (List.nodup_append.1 h).2.1).2.1).2.2 q hq p.1 (List.mem_map.2 ⟨p,List.mem_of_getElem? hp,rfl⟩)
theorem GG.K6{G:GG}(h:G.gs.Nodup){i j:Nat}{p q:Nat×Nat}(hp:G.rg[i]? = some p)(hq:G.rg[j]? = some q)(bo:i≠j):p.1≠q.1:=by
 have h1:=(List.nodup_append.1 (List.nodup_append.1 (List.nodup_append.1 h).2.1).2.1).2.1
 intro e
 have hi:(G.rg.map (·.1))[i]? = some p.1:=by rw[List.getElem?_map,hp];rfl
 have hj:(G.rg.map (·.1))[j]? = some p.1:=by rw[List.getElem?_map,hq,e];rfl
 obtain⟨hi1,rF⟩:=List.getElem?_eq_some_iff.1 hi
 obtain⟨qo,tB⟩:=List.getElem?_eq_some_iff.1 hj
 exact bo ((List.getElem_inj h1).1 (rF.trans tB.symm))
theorem cA.get(h:cA C H G R W m M B){i:Nat}(hi:i<R):∃p,G.rg[i]? = some p:=⟨_,List.getElem?_eq_getElem (by rw[h.iu];exact hi)⟩
theorem cA.ne(h:cA C H G R W m M B):∀q,q∈G.gs→H q≠none:=fun q hq=>by
 rcases List.mem_append.1 hq with hq | hq
 ·exact h.top q hq
 ·rcases List.mem_append.1 hq with hq | hq
  ·rw[h.lY]at hq
   obtain⟨en,he⟩:=h.rows.block (cF.1 hq)
   rw[he];simp
  rcases List.mem_append.1 hq with hq | hq
  ·rcases h.basis with ⟨_,h1,_⟩ | ⟨gb,cb,sz,h1,_,h2⟩
   ·rw[h1]at hq;cases hq
   ·rw[h1,List.mem_singleton]at hq
    rw[hq,h2];simp
  ·obtain⟨p,hp,rfl⟩:=List.mem_map.1 hq
   obtain⟨i,hi⟩:=List.getElem?_of_mem hp
   obtain⟨xs,sz,h1,_⟩:=h.row i p hi
   rw[h1];simp
theorem cA.Co(h:cA C H G R W m M B){t:List Nat}(dV:(G.on t).gs.Nodup)(ht:∀q,q∈t→H' q≠none)(hs:∀q,q∈G.low→H' q=H q)(hl:Heap.le (rem H G.gs) (rem H' (G.on t).gs)):cA C H' (G.on t) R W m M B where
 nd:=dV
 top:=ht
 iu:=h.iu
 lY:=h.lY
 rows:=h.rows.same fun q hq=>hs q (GG.Cn (by show q∈G.hb;rw[h.lY];exact cF.2 hq))
 row:=fun i p hp=>(h.row i p hp).le hl (hs _ (GG.gJ hp))
 basis:=by
  rcases h.basis with h1 | ⟨gb,cb,sz,h1,h2,h3⟩
  ·exact .inl h1
  ·exact .inr ⟨gb,cb,sz,h1,h2,by rw[hs _ (GG.mz (by show gb∈G.bb;rw[h1];exact List.mem_singleton.2 rfl))];exact h3⟩
theorem cA.kept(h:cA C H G R W m M B)(k:Kept G.gs H H'):cA C H' G R W m M B:=
 h.Co (t:=G.top) h.nd (fun q hq=>by rw[k.same _ (GG.Cm hq)];exact h.top q hq) (fun q hq=>k.same q (GG.kI hq)) k.le
theorem cA.Cp(h:cA C H G R W m M B){g:Nat}(hg:g∈G.top)(k:fR G.gs g H H')(hn:H' g≠none):cA C H' G R W m M B:=
 h.Co (t:=G.top) h.nd (fun q hq=>by
  by_cases e:q=g
  ·rw[e];exact hn
  ·rw[k.same _ (GG.Cm hq) e];exact h.top q hq) (fun q hq=>k.same q (GG.kI hq) (Ne.symm (GG.uI h.nd hg hq))) k.le
theorem cA.congr{M':Nat→Nat→Rat}{B':Nat→Nat}(h:cA C H G R W m M B)(hM:∀i,i<R→∀j,j<W→M' i j=M i j)(hB:∀i,i<m→B' i=B i):cA C H G R W m M' B' where
 nd:=h.nd
 top:=h.top
 iu:=h.iu
 lY:=h.lY
 rows:=h.rows
 row:=fun i p hp=>by
  have hi:i<R:=by rw[←h.iu];exact(List.getElem?_eq_some_iff.1 hp).1
  rw[ln (g:=M i) (fun j hj=>hM i hi j hj)];exact h.row i p hp
 basis:=by rw[WI hB];exact h.basis
def iA(M:Nat→Nat→Rat)(i:Nat)(f:Nat→Rat)(k:Nat):Nat→Rat:=if k=i then f else M k
theorem cA.setRow(h:cA C H G R W m M B){i:Nat}{p:Nat×Nat}(hp:G.rg[i]? = some p)(k:fR G.gs p.1 H H'){f:Nat→Rat}(hb:o6 C (rem H' G.gs) H' p.1 (aK f W)):cA C H' G R W m (iA M i f) B where
 nd:=h.nd
 top:=fun q hq=>by rw[k.same _ (GG.Cm hq) (GG.uI h.nd hq (GG.gJ hp))];exact h.top q hq
 iu:=h.iu
 lY:=h.lY
 rows:=h.rows.same fun q hq=>k.same _ (GG.kI (GG.Cn (by rw[h.lY];exact cF.2 hq))) (GG.Ms h.nd (by rw[h.lY];exact cF.2 hq) (.inr ⟨i,p,hp,rfl⟩))
 row:=fun j q hq=>by
  by_cases e:j=i
  ·subst e
   rw[hp]at hq
   cases hq
   simp only[iA,if_true]
   exact hb
  ·simp only[iA,if_neg e]
   exact(h.row j q hq).le k.le (k.same _ (GG.kI (GG.gJ hq)) (GG.K6 h.nd hq hp e))
 basis:=by
  rcases h.basis with h1 | ⟨gb,cb,sz,h1,h2,h3⟩
  ·exact .inl h1
  ·have hm:gb∈G.bb:=by rw[h1];exact List.mem_singleton.2 rfl
   exact .inr ⟨gb,cb,sz,h1,h2,by rw[k.same _ (GG.kI (GG.mz hm)) (GG.Gu h.nd hm hp)];exact h3⟩
theorem cA.DZ(h:cA C H G R W m M B){gb cb sz:Nat}(ll:G.bb = [gb])(du:G.bv = .slice (some ⟨gb,0,none⟩) m cb){B':Nat→Nat}:cA C (ins H gb ⟨eN B' m,sz,3,true⟩) G R W m M B':=by
 have hm:gb∈G.bb:=by rw[ll];exact List.mem_singleton.2 rfl
 have hg:gb∈G.gs:=GG.kI (GG.mz hm)
 refine⟨h.nd,fun q hq=> ?_,h.iu,h.lY,h.rows.same fun q hq=>bg _ _ (GG.Ms h.nd (by rw[h.lY];exact cF.2 hq) (.inl hm)),fun i p hp=> ?_,.inr ⟨gb,cb,sz,ll,du,bn _ _ _⟩⟩
 ·rw[bg _ _ (GG.uI h.nd hq (GG.mz hm))];exact h.top q hq
 ·rw[cE _ hg]
  exact(h.row i p hp).le (.refl _) (bg _ _ (Ne.symm (GG.Gu h.nd hm hp)))
end
def vY:CK:=⟨fun _ vs q=>fu vs q,2,138,136,fun _ _ _ _ _ h=>h,fun _ _ _ ⟨n,d,h,_⟩=>by rw[h];rfl⟩
def iG:CK:=⟨bV,3,38,28,cX,fun _ vs _ h=>by
 obtain⟨u,w,e,_⟩:=h
 rw[DS e];rfl⟩
end Go.aq
namespace Go.aq
open Go Go.Proofs
section
variable {P:Program} {n:Nat} {w0:World} {H0:Heap} {Q:Exit→St→Heap→Prop} {s:St} {H:Heap}
theorem Mt{c:Code}(b:Nat){cs:List Value}(hb:s b=some (.box cs))(h:∀g e,H g=none→VC P n w0 H0 c Q (put s b (.val (.pointer (some ⟨g,0,none⟩)))) (ins H g ⟨cs,cs.length,e,true⟩)):VC P n w0 H0 c Q s H:=by
 unfold VC at h⊢
 intro a w hR
 obtain⟨G,hl,hG⟩:=hR.fits
 obtain⟨h1,h2,e,h3⟩:=hl.boxes b cs hb
 have key:∀t c',put s b (.val (.pointer (some ⟨G b,0,none⟩))) t=some (.box c')→t≠b∧s t=some (.box c'):=fun t c' ht=>by
  by_cases e:t=b
  ·subst e;rw[ik]at ht;cases ht
  ·rw[fF _ _ e]at ht;exact⟨e,ht⟩
 have ne:∀t c',t≠b→s t=some (.box c')→G t≠G b:=fun t c' e ht hg=>e (hl.inj t b _ _ ht hb hg)
 refine h (G b) e h2 a w ⟨hR.defers,⟨G,⟨⟨hl.aK.size,fun t v ht=> ?_⟩,fun t c' ht=> ?_,fun t t' c1 c2 ht pf hg=> ?_,fun t b' off c' ht tj=> ?_,fun g en hg=> ?_⟩,fun t c' ht=>hG t c' (key t c' ht).2⟩,?_⟩
 ·by_cases e:t=b
  ·subst e
   rw[ik]at ht
   cases ht
   exact h1
  ·rw[fF _ _ e]at ht;exact hl.aK.at_ t v ht
 ·obtain⟨e1,ht⟩:=key t c' ht
  obtain⟨k1,k2,k3⟩:=hl.boxes t c' ht
  exact⟨k1,by rw[bg _ _ (ne t c' e1 ht)];exact k2,k3⟩
 ·exact hl.inj t t' c1 c2 (key t c1 ht).2 (key t' c2 pf).2 hg
 ·obtain⟨e1,tj⟩:=key b' c' tj
  by_cases e2:t=b
  ·subst e2;rw[ik]at ht;cases ht
  ·rw[fF _ _ e2]at ht;exact hl.refs t b' off c' ht tj
 ·by_cases eg:g=G b
  ·subst eg
   rw[bn]at hg
   cases hg
   exact⟨_,h3,cs.toArray,(0,0),rfl,by simp,fun i v hv=>by simpa using hv,fun _=>rfl⟩
  ·rw[bg _ _ eg]at hg;exact hl.den g en hg
 ·have hf:=hR.fx
  refine⟨hf.os,hf.tape,hf.output,hf.size,fun g hg h0=> ?_,hf.form⟩
  have k:=hf.keep g hg h0
  refine⟨k.1,?_⟩
  rw[bg _ _ (fun e=>by have:=hG b cs hb;omega)];exact k.2
theorem RX{c:Code}{H':Heap}(hl:Heap.le H' H)(h:VC P n w0 H0 c Q s H'):VC P n w0 H0 c Q s H:=by
 unfold VC at h⊢
 intro a w hR
 have hn:∀g,H g=none→H' g=none:=fun g hg=>le_none hl hg
 obtain⟨G,hr,hG⟩:=hR.fits
 refine h a w ⟨hR.defers,⟨G,⟨hr.aK,fun t cs ht=> ?_,hr.inj,hr.refs,hr.den.le hl⟩,hG⟩,?_⟩
 ·obtain⟨h1,h2,h3⟩:=hr.boxes t cs ht
  exact⟨h1,hn _ h2,h3⟩
 ·have hf:=hR.fx
  exact⟨hf.os,hf.tape,hf.output,hf.size,fun g hg h0=>⟨(hf.keep g hg h0).1,hn _ (hf.keep g hg h0).2⟩,hf.form⟩
end
def k8(g:Nat)(H:Heap)(ad:Addr):Option Value:=if ad.block=g∧ad.off=2 then none else cell H ad
theorem RY{g:Nat}{H:Heap}{ad:Addr}{v:Value}(hc:cell H ad=some v)(hn:ad.block≠g∨ad.off≠2):k8 g H ad=some v:=by
 unfold k8
 rw[if_neg (fun h=>hn.elim (fun k=>k h.1) (fun k=>k h.2))];exact hc
theorem IA(g:Nat)(H:Heap):(Mode.cO (k8 g H)).fM H:=fun ad v h=>by
 have h:k8 g H ad=some v:=h
 unfold k8 at h
 split at h
 ·cases h
 ·exact h
theorem ajr{g:Nat}{H H':Heap}{gs:List Nat}{a b c c':Value}{sz:Nat}{e:TypeId}(hg:g∈gs)(ht:H g=some ⟨[a,b,c],sz,e,true⟩)(h:fR gs g H H')(pf:H' g=some ⟨[a,b,c'],sz,e,true⟩):(Mode.cO (k8 g H)).fM H':=fun ad v hk=>by
 have hk:k8 g H ad=some v:=hk
 unfold k8 at hk
 split at hk
 ·cases hk
 ·rename_i hn
  by_cases e:ad.block=g
  ·unfold cell at hk⊢
   rw[e,ht]at hk
   rw[e,pf]
   simp only at hk⊢
   split at hk
   ·cases hk
   ·rename_i hs
    rw[if_neg hs]
    match ho:ad.off with
    | 0=>rw[ho]at hk;exact hk
    | 1=>rw[ho]at hk;exact hk
    | 2=>exact absurd ⟨e,ho⟩ hn
    | k+3=>rw[ho]at hk;simp at hk
  ·by_cases hm:ad.block∈gs
   ·unfold cell at hk⊢
    rw[h.same _ hm e];exact hk
   ·refine cB (bD _ gs) (cB h.le ?_)
    unfold cell at hk⊢
    rw[bL hm];exact hk
def Cq(kc:Addr→Option Value)(A:Option Addr)(xs:List Value):Prop:=∀(i:Nat)(v:Value),xs[i]? = some v→∃ad,A=some ad∧kc (ad.add i)=some v
theorem ajs{H:Heap}{gs:List Nat}{ad:Addr}{v:Value}(h:cell (rem H gs) ad=some v):¬ad.block∈gs:=fun hm=>by
 unfold cell at h
 rw[rem_in hm]at h;cases h
theorem Rd.kx{g:Nat}{H:Heap}{gs:List Nat}{A:Option Addr}{xs:List Value}(h:Rd (rem H gs) A xs)(hg:g∈gs):Cq (k8 g H) A xs:=fun i v hv=>by
 obtain⟨ad,h1,h2⟩:=h i v hv
 exact⟨ad,h1,RY (cB (bD _ gs) h2) (.inl fun e=>ajs h2 (e▸hg))⟩
theorem zQ{g q:Nat}{H:Heap}{xs:List Value}{s e:Nat}{b:Bool}(h:H q=some ⟨xs,s,e,b⟩)(hn:q≠g):Cq (k8 g H) (some ⟨q,0,none⟩) xs:=fun i v hv=>by
 obtain⟨ad,h1,h2⟩:=dQ h i v hv
 cases h1
 refine⟨_,rfl,RY h2 (.inl ?_)⟩
 rw[im];exact hn
theorem ajt{g:Nat}{H:Heap}{a:Value}{xs:List Value}{s e:Nat}{b:Bool}(h:H g=some ⟨a::xs,s,e,b⟩):k8 g H ((⟨g,0,none⟩:Addr).add 0)=some a:=RY (by simp[cell,im,h]) (.inr (by rw[im];simp))
section
variable {P:Program} {n:Nat} {tb:Tb} {all:Array Oper} {s:St} {H:Heap} {K:St→Heap→Prop} {r:List Oper} {dst:Option Nat} {ty:TypeId} {pos:String} {after:Array Edge} {gd:Option (Nat×Bool)} {kc:Addr→Option Value}
theorem RZ{t:TypeId}{x i:Operand}{ad:Addr}{m c:Nat}{k:IntKind}{j:Int}{e sz:Nat}(hc:(Mode.cO kc).fM H)(dJ:jX P tb)(ht:tb[t]? = some (.sl e sz))(hx:ev s x=some (.slice (some ad) m c))(hi:ev s i=some (.int k j))(h0:0≤j)(h1:j<m)
  (hk:aT P n all (.cO kc) r (bE s dst (.val (.pointer (some (ad.add (j.toNat*sz)))))) H K) (hg:cn all s gd=some true:=by rfl) (nb:ji s dst=true:=by rfl):aT P n all (.cO kc) (⟨dst,.indexAddr t x i,ty,pos,after,gd⟩::r) s H K:=
 Ee _ rfl hc hg nb (fun a w ha _=>by
  obtain⟨hu,ii,h2,h3⟩:=dJ t _ ht
  simp[execOp,bT ha hx,bT ha hi,Instr.indexAt,asIntOf,run_underlying hu,h0,h1,sizeOf,typeInfo,h2,h3]) hk
theorem IB{t:TypeId}{x:Operand}{ad:Addr}{m:Nat}{wA:List (Nat×Nat)}{vs:List Value}(bm:(Mode.cO kc).fM H)(dJ:jX P tb)(ht:tb[t]? = some (.st m wA))(hx:ev s x=some (.pointer (some ad)))(hm:vs.length=m)
  (hc:∀(i:Nat)(v:Value),vs[i]? = some v→kc (ad.add i)=some v)
  (hk:aT P n all (.cO kc) r (bE s dst (.val (.agg vs.toArray))) H K) (hg:cn all s gd=some true:=by rfl) (nb:ji s dst=true:=by rfl):aT P n all (.cO kc) (⟨dst,.load t x,ty,pos,after,gd⟩::r) s H K:=
 Ee _ rfl bm hg nb (fun a w ha hd=>by
  obtain⟨fs,ii,hu,h2,h3,_,h4⟩:=dJ t _ ht
  simp[execOp,bT ha hx,Instr.loadAt,Instr.sureAddr,NY hu h2 vs (by rw[h3,hm]) (fun j v hv=>hd _ _ (hc j v hv))]) hk
theorem Cr{t t2:TypeId}{x i:Operand}{A:Option Addr}{m c d1:Nat}{oj:Option Nat}{om:TypeId}{oo:String}{ot:Array Edge}{kp:Option (Nat×Bool)}{k:IntKind}{j:Int}{e:Nat}{ti:Ti}{xs:List Value}{v:Value}
  (bm:(Mode.cO kc).fM H) (dJ:jX P tb) (ht:tb[t]? = some (.sl e 1)) (fy:tb[t2]? = some ti) (h1:yB ti=true) (hx:ev s x=some (.slice A m c)) (hi:ev s i=some (.int k j)) (hr:Cq kc A xs) (hv:xs[j.toNat]? = some v) (h0:0≤j) (hm:j<m)
  (hk:∀ad:Addr,aT P n all (.cO kc) r (bE (put s d1 (.val (.pointer (some ad)))) oj (.val v)) H K) (hg:cn all s gd=some true:=by rfl) (nb:ji s (some d1)=true:=by rfl) (ep:∀ad:Addr,cn all (put s d1 (.val (.pointer (some ad)))) kp=some true:=by exact fun _=>rfl) (wC:∀ad:Addr,ji (put s d1 (.val (.pointer (some ad)))) oj=true:=by exact fun _=>rfl):
  aT P n all (.cO kc) (⟨some d1,.indexAddr t x i,ty,pos,after,gd⟩::⟨oj,.load t2 (.tmp d1),om,oo,ot,kp⟩::r) s H K:=by
 obtain⟨ad,rfl,hc⟩:=hr _ _ hv
 exact RZ bm dJ ht hx hi h0 hm (jR (ad:=ad.add (j.toNat*1)) bm dJ fy h1 (by simp[ev,put,bE]) (by rw[Nat.mul_one];exact hc) (hk _) (ep _) (wC _)) hg nb
theorem Cs{t t2:TypeId}{x i:Operand}{A:Option Addr}{m c d1:Nat}{oj:Option Nat}{om:TypeId}{oo:String}{ot:Array Edge}{kp:Option (Nat×Bool)}{k:IntKind}{j:Int}{e sz:Nat}{wA:List (Nat×Nat)}{xs vs:List Value}
  (bm:(Mode.cO kc).fM H) (dJ:jX P tb) (ht:tb[t]? = some (.sl e sz)) (fy:tb[t2]? = some (.st sz wA)) (hx:ev s x=some (.slice A m c)) (hi:ev s i=some (.int k j)) (hr:Cq kc A xs) (hl:vs.length=sz) (hp:0<sz) (hv:∀(q:Nat)(v:Value),vs[q]? = some v→xs[j.toNat*sz+q]? = some v) (h0:0≤j) (hm:j<m)
  (hk:∀ad:Addr,aT P n all (.cO kc) r (bE (put s d1 (.val (.pointer (some ad)))) oj (.val (.agg vs.toArray))) H K) (hg:cn all s gd=some true:=by rfl) (nb:ji s (some d1)=true:=by rfl) (ep:∀ad:Addr,cn all (put s d1 (.val (.pointer (some ad)))) kp=some true:=by exact fun _=>rfl) (wC:∀ad:Addr,ji (put s d1 (.val (.pointer (some ad)))) oj=true:=by exact fun _=>rfl):
  aT P n all (.cO kc) (⟨some d1,.indexAddr t x i,ty,pos,after,gd⟩::⟨oj,.load t2 (.tmp d1),om,oo,ot,kp⟩::r) s H K:=by
 have N2:vs[0]? = some (vs[0]'(by omega)):=List.getElem?_eq_getElem (by omega)
 obtain⟨ad,rfl,_⟩:=hr _ _ (hv 0 _ N2)
 refine RZ bm dJ ht hx hi h0 hm (IB (ad:=ad.add (j.toNat*sz)) bm dJ fy (by simp[ev,put,bE]) hl (fun q v hq=> ?_) (hk _) (ep _) (wC _)) hg nb
 obtain⟨JW,h1,h2⟩:=hr _ _ (hv q v hq)
 cases h1
 rw[add_add];exact h2
theorem Ct{f:Operand}{iK:FuncId}{args:List Value}{xs:List Operand}{ts:Array TypeId}{bF:Value→Heap→Prop}(hf:ev s f=some (.func (.func iK) #[] #[]))(hx:qg s xs=some args)
  (h:Fn P iK args.toArray H bF) (hm:∀v H',bF v H'→(Mode.cO kc).fM H') (hk:∀v H',bF v H'→aT P n all (.cO kc) r (bE s dst (.val v)) H' K) (hg:cn all s gd=some true:=by rfl) (nb:ji s dst=true:=by rfl):aT P n all (.cO kc) (⟨dst,.call ⟨.value f,xs.toArray,ts⟩,ty,pos,after,gd⟩::r) s H K:=
 Ef (cap:=[]) hf hx (by simpa using h) hm hk hg nb
theorem Mu{t t2:TypeId}{x i y:Operand}{g m c d1:Nat}{om:TypeId}{oo:String}{ot:Array Edge}{kp:Option (Nat×Bool)}{k:IntKind}{j:Int}{e sz:Nat}{ent:Ent}{v:Value}{vs:List Value}{ii:TypeInfo}
  (bm:(Mode.cO kc).fM H) (dJ:jX P tb) (ht:tb[t]? = some (.sl e sz)) (hx:ev s x=some (.slice (some ⟨g,0,none⟩) m c)) (hi:ev s i=some (.int k j)) (h0:0≤j) (hm:j<m) (hg:H g=some ent) (cC:ent.own=true) (lj:m*sz≤ent.xs.length)
  (wE:P.info? t2=some ii) (cP:ii.size=sz) (hy:∀ad:Addr,ev (put s d1 (.val (.pointer (some ad)))) y=some v) (hv:v.cells=vs.toArray) (jl:vs.length=sz) (h1:vs.all yH=true)
  (hk:∀ad:Addr,aT P n all (.cO kc) r (put s d1 (.val (.pointer (some ad)))) (ins H g {ent with xs:=aJ ent.xs (j.toNat*sz) vs}) K) (rI:cn all s gd=some true:=by rfl) (nb:ji s (some d1)=true:=by rfl) (ep:∀ad:Addr,cn all (put s d1 (.val (.pointer (some ad)))) kp=some true:=by exact fun _=>rfl):
  aT P n all (.cO kc) (⟨some d1,.indexAddr t x i,ty,pos,after,gd⟩::⟨none,.store t2 (.tmp d1) y,om,oo,ot,kp⟩::r) s H K:=by
 have tv:(⟨g,0,none⟩:Addr).add (j.toNat*sz)=⟨g,j.toNat*sz,none⟩:=im ..
 have hjm:j.toNat*sz+sz≤m*sz:=by
  have:(j.toNat+1)*sz≤m*sz:=Nat.mul_le_mul_right _ (by omega)
  rw[Nat.add_mul]at this;omega
 refine RZ bm dJ ht hx hi h0 hm ?_ rI nb
 rw[tv]
 exact BP (by simp[ev,put,bE]) hg cC (by omega) wE cP (hy _) hv jl h1 (hk _) (ep _)
end
end Go.aq
namespace Go.aq
open Go.Proofs Num Lp
theorem GG.xW(G:GG)(t:List Nat):(G.on t).gs=t++G.low:=rfl
theorem R0(v:Value):(aw v).Nodup:=by
 unfold aw
 cases v.ownBlock with
 | none=>exact List.nodup_nil
 | some q=>exact List.nodup_cons.2 ⟨List.not_mem_nil,List.nodup_nil⟩
theorem App.new{H H':Heap}{v v':Value}{e sz n:Nat}{xs:List Value}(ha:App H v e sz n xs v' H'):∀q,q∈aw v'→q∈aw v∨H q=none:=fun q hq=>by
 rcases ha.at_ with h4 | ⟨g,h4,h5⟩
 ·exact .inl (cF.2 (h4▸cF.1 hq))
 ·have:=cF.1 hq;rw[h4]at this;cases this;exact .inr h5
section
variable {C:CK} {H H':Heap} {G:GG} {R W m:Nat} {M:Nat→Nat→Rat} {B:Nat→Nat} {u u':Value} {t:List Nat} {e sz n:Nat} {xs:List Value}
theorem cA.app(h:cA C H (G.on (aw u++t)) R W m M B)(ha:App H u e sz n xs u' H'):cA C H' (G.on (aw u'++t)) R W m M B∧Heap.le (rem H (G.on (aw u++t)).gs) (rem H' (G.on (aw u'++t)).gs):=by
 have bo:=h.ne
 have dV:=h.nd
 rw[GG.xW,List.append_assoc]at dV
 obtain⟨_,n2,n3⟩:=List.nodup_append.1 dV
 have og:∀q,q∈t++G.low→q∈(G.on (aw u++t)).gs:=fun q hq=>by
  rw[GG.xW,List.append_assoc];exact List.mem_append_right _ hq
 have qz:∀q,q∈t++G.low→H' q=H q:=fun q hq=>by
  obtain⟨en,he⟩:=Option.ne_none_iff_exists'.1 (bo q (og q hq))
  rw[he]
  exact ha.same q en he fun h1=>n3 q (cF.2 h1) q hq rfl
 have hl:Heap.le (rem H (G.on (aw u++t)).gs) (rem H' (G.on (aw u'++t)).gs):=fun q en hq=>by
  by_cases hm:q∈(G.on (aw u++t)).gs
  ·rw[rem_in hm]at hq;cases hq
  ·rw[bL hm]at hq
   have k1:¬q∈aw u:=fun k=>hm (by rw[GG.xW,List.append_assoc];exact List.mem_append_left _ k)
   have h1:=ha.same q en hq fun e=>k1 (cF.2 e)
   have h2:¬q∈(G.on (aw u'++t)).gs:=fun h2=>by
    rw[GG.xW,List.append_assoc]at h2
    rcases List.mem_append.1 h2 with h3 | h3
    ·rcases ha.new q h3 with h4 | h4
     ·exact k1 h4
     ·rw[h4]at hq;cases hq
    ·exact hm (og q h3)
   exact⟨en,by rw[bL h2];exact h1,.refl _⟩
 refine⟨h.Co (t:=aw u'++t) ?_ (fun q hq=> ?_) (fun q hq=>qz q (List.mem_append_right _ hq)) hl,hl⟩
 ·show ((aw u'++t)++G.low).Nodup
  rw[List.append_assoc]
  refine List.nodup_append.2 ⟨R0 _,n2,fun q hq r hr e=> ?_⟩
  subst e
  rcases ha.new q hq with h4 | h4
  ·exact n3 q h4 q hr rfl
  ·exact bo q (og q hr) h4
 ·rcases List.mem_append.1 hq with hq | hq
  ·obtain⟨en,he⟩:=ha.own.block (cF.1 hq)
   rw[he];simp
  ·rw[qz q (List.mem_append_left _ hq)];exact bo q (og q (List.mem_append_left _ hq))
end
structure QV(o:Bool)(H:Heap)(g:Nat)(G:GG)(R W m:Nat)(M:Nat→Nat→Rat)(B:Nat→Nat):Prop where
 cY:cA vY H G R W m M B
 gt:g∈G.top
 st:H g=some ⟨[.slice G.Ar R G.cr,G.bv,.bool o],3,135,true⟩
section
variable {o o':Bool} {H H' K:Heap} {g:Nat} {G:GG} {R W m:Nat} {M:Nat→Nat→Rat} {B:Nat→Nat} {u u':Value} {t:List Nat}
theorem QV.mem(h:QV o H g G R W m M B):g∈G.gs:=GG.Cm h.gt
theorem QV.iP(h:QV o H g G R W m M B):cell H ((⟨g,0,none⟩:Addr).add 0)=some (.slice G.Ar R G.cr):=by simp[cell,im,h.st]
theorem QV.mH(h:QV o H g G R W m M B):cell H ((⟨g,0,none⟩:Addr).add 1)=some G.bv:=by simp[cell,im,h.st]
theorem QV.R1(h:QV o H g G R W m M B):cell H ((⟨g,0,none⟩:Addr).add 2)=some (.bool o):=by simp[cell,im,h.st]
theorem QV.xX(h:QV o H g G R W m M B){i:Nat}{p:Nat×Nat}(hp:G.rg[i]? = some p):p.1≠g:=Ne.symm (GG.uI h.cY.nd h.gt (GG.gJ hp))
theorem QV.row(h:QV o H g G R W m M B){i:Nat}{p:Nat×Nat}(hp:G.rg[i]? = some p):∃xs sz,H p.1=some ⟨xs,sz,138,true⟩∧bA fu 2 xs (aK (M i) W):=h.cY.row i p hp
theorem mI{xs:List Value}{f:Nat→Rat}{W k:Nat}(h:bA fu 2 xs (aK f W))(hk:k<W):∃n d:Int,fu [.int .i64 n,.int .i64 d] (f k)∧(∀(j:Nat)(v:Value),[.int .i64 n,.int .i64 d][j]? = some v→xs[k*2+j]? = some v)∧-1073741824≤n∧n≤1073741824∧1≤d∧d≤1073741824∧f k=(n:Rat)/(d:Rat):=by
 obtain⟨vs,_,h2,h3⟩:=h.get (dM hk)
 obtain⟨n,d,rfl,h4⟩:=id h2
 exact⟨n,d,h2,h3,h4⟩
theorem uJ{n d:Int}(h:1≤d):(n:Rat)/(d:Rat)=0↔n=0:=by
 have h4:(d:Rat)≠0:=by exact_mod_cast (show d≠0 by omega)
 constructor
 ·intro h1
  have h2:(n:Rat)=0:=by
   have h3:(n:Rat)/(d:Rat)*(d:Rat)=0:=by rw[h1];grind
   rwa [Rat.div_mul_cancel h4]at h3
  exact_mod_cast h2
 ·rintro rfl;rw[Rat.div_def];grind
theorem Mw{n d:Int}(h:1≤d):(n:Rat)/(d:Rat)<0↔n<0:=by
 have h4:(0:Rat)<(d:Rat):=by exact_mod_cast (show 0<d by omega)
 have h5:(d:Rat)≠0:=by grind
 have e:(n:Rat)=(n:Rat)/(d:Rat)*(d:Rat):=(Rat.div_mul_cancel h5).symm
 constructor
 ·intro h1
  have h2:(n:Rat)/(d:Rat)*(d:Rat)<0*(d:Rat):=Rat.mul_lt_mul_of_pos_right h1 h4
  rw[←e]at h2
  have h3:(n:Rat)<0:=by grind
  exact_mod_cast h3
 ·intro h1
  have h2:(n:Rat)<0:=by exact_mod_cast h1
  refine Classical.byContradiction fun h3=> ?_
  have h6:0≤(n:Rat)/(d:Rat)*(d:Rat):=Rat.mul_nonneg (by grind) (by grind)
  rw[←e]at h6
  grind
theorem QV.set(h:QV o H g G R W m M B){i:Nat}{p:Nat×Nat}(hp:G.rg[i]? = some p)(ht:fR G.gs g H H')(iB:H' g=some ⟨[.slice G.Ar R G.cr,G.bv,.bool o'],3,135,true⟩){xs:List Value}{sz:Nat}(hx:H p.1=some ⟨xs,sz,138,true⟩)(ix:bA fu 2 xs (aK (M i) W)){k:Nat}(hk:k<W){vs:List Value}{q:Rat}(hv:fu vs q):
  QV o' (ins H' p.1 ⟨aJ xs (k*2) vs,sz,138,true⟩) g G R W m (iA M i (bZ (M i) k q)) B∧Heap.le (rem H G.gs) (rem (ins H' p.1 ⟨aJ xs (k*2) vs,sz,138,true⟩) G.gs):=by
 have hm:=GG.kI (GG.gJ hp)
 have h1:=h.cY.Cp h.gt ht (by rw[iB];simp)
 have h2:H' p.1=H p.1:=ht.same _ hm (h.xX hp)
 have jl:vs.length=2:=by obtain⟨n,d,rfl,_⟩:=hv;rfl
 have hT:fR G.gs p.1 H' (ins H' p.1 ⟨aJ xs (k*2) vs,sz,138,true⟩):=((Kept.refl _ _).iF p.1).ins hm _
 refine⟨⟨h1.setRow hp hT ?_,h.gt,by rw[bg _ _ (Ne.symm (h.xX hp))];exact iB⟩,ht.le.trans hT.le⟩
 refine⟨_,_,bn _ _ _,?_⟩
 have e:aK (bZ (M i) k q) W=(aK (M i) W).set k q:=by
  apply List.ext_getElem?
  intro j
  by_cases hj:j<W
  ·rw[dM hj]
   by_cases ej:j=k
   ·subst ej
    rw[List.getElem?_set_self (by rw[bB];exact hj)];simp[bZ]
   ·rw[List.getElem?_set_ne (fun e'=>ej e'.symm),dM hj];simp[bZ,ej]
  ·rw[List.getElem?_eq_none (by rw[bB];omega),List.getElem?_eq_none (by rw[List.length_set,bB];omega)]
 rw[e]
 exact ix.set (by rw[bB];exact hk) hv jl
theorem QV.uR(h:QV o H g G R W m M B)(ht:fR G.gs g H H')(iB:H' g=some ⟨[.slice G.Ar R G.cr,G.bv,.bool o'],3,135,true⟩):QV o' H' g G R W m M B:=⟨h.cY.Cp h.gt ht (by rw[iB];simp),h.gt,iB⟩
theorem QV.fM(h:QV o H g G R W m M B)(ht:fR G.gs g H H')(iB:H' g=some ⟨[.slice G.Ar R G.cr,G.bv,.bool o'],3,135,true⟩):(Mode.cO (k8 g H)).fM H':=ajr h.mem h.st ht iB
theorem QV.rk(h:QV o H g G R W m M B):∃xs,Cq (k8 g H) G.Ar xs∧Rd H G.Ar xs∧∀(i:Nat)(p:Nat×Nat),G.rg[i]? = some p→xs[i]? = some (.slice (some ⟨p.1,0,none⟩) W p.2):=by
 refine⟨iR G.rg W,?_,h.cY.rows.rd,fun i p hp=>kj hp⟩
 rcases h.cY.rows.2 with ⟨h1,h2⟩ | ⟨gr,cap,h1,h2,_⟩
 ·have e:iR G.rg W = []:=List.eq_nil_of_length_eq_zero (by rw[h.cY.rows.1,h2])
  rw[e]
  exact fun i v hv=>by simp at hv
 ·have e:G.Ar=some ⟨gr,0,none⟩:=(Value.slice.inj h1).1
  rw[e]
  refine zQ h2 (Ne.symm (GG.uI h.cY.nd h.gt (GG.Cn ?_)))
  rw[h.cY.lY,h1];exact List.mem_singleton.2 rfl
theorem QV.k0(h:QV o H g G R W m M B):k8 g H ((⟨g,0,none⟩:Addr).add 0)=some (.slice G.Ar R G.cr):=ajt h.st
theorem QV.fresh(h:QV o H g G R W m M B){k:Nat}{e:Ent}(hk:H k=none):QV o (ins H k e) g G R W m M B∧Heap.le (rem H G.gs) (rem (ins H k e) G.gs):=by
 have hm:¬k∈G.gs:=fun hm=>h.cY.ne k hm hk
 have hl:Heap.le (rem H G.gs) (rem (ins H k e) G.gs):=by
  rw[vw _ hm]
  exact Heap.bG _ (by rw[bL hm];exact hk)
 have hs:∀q,q∈G.gs→ins H k e q=H q:=fun q hq=>bg _ _ fun e'=>hm (e'▸hq)
 exact⟨⟨h.cY.kept ⟨hl,hs⟩,h.gt,(hs g h.mem).trans h.st⟩,hl⟩
theorem R2{H:Heap}{q:Nat}{gs:List Nat}{xs:List Value}(h:Rd H (some ⟨q,0,none⟩) xs)(hq:¬q∈gs):Rd (rem H gs) (some ⟨q,0,none⟩) xs:=fun i v hv=>by
 obtain⟨ad,h1,h2⟩:=h i v hv
 cases h1
 refine⟨_,rfl,?_⟩
 rw[im]at h2⊢
 unfold cell at h2⊢
 rw[bL hq];exact h2
theorem Cq.at{kc:Addr→Option Value}{ad:Addr}{xs:List Value}(h:Cq kc (some ad) xs):∀(i:Nat)(v:Value),xs[i]? = some v→kc (ad.add i)=some v:=fun i v hv=>by
 obtain⟨JW,h1,h2⟩:=h i v hv
 cases h1;exact h2
end
abbrev vZ(l:List Nat):List Value:=l.map fun(j:Nat)=>Value.int .i64 (j:Int)
structure QU(o:Bool)(K H:Heap)(g:Nat)(G:GG)(R W m:Nat)(M:Nat→Nat→Rat)(B:Nat→Nat)(u:Value)(l:List Nat):Prop where
 q:QV o H g (G.on (aw u++G.top)) R W m M B
 own:bR H u 3 1 l.length (vZ l)
 le:Heap.le K (rem H (G.on (aw u++G.top)).gs)
section
variable {o o':Bool} {H H' K:Heap} {g:Nat} {G:GG} {R W m:Nat} {M M':Nat→Nat→Rat} {B:Nat→Nat} {u u':Value} {l:List Nat}
theorem QU.xY{q:Nat}(hq:q∈aw u):q∈(G.on (aw u++G.top)).gs:=List.mem_append_left _ (List.mem_append_left _ hq)
theorem QU.Z4(h:QU o K H g G R W m M B u l)(hg:g∈G.top){q:Nat}(hq:q∈aw u):q≠g:=fun e=>by
 have dV:=h.q.cY.nd
 rw[GG.xW,List.append_assoc]at dV
 exact(List.nodup_append.1 dV).2.2 q hq g (List.mem_append_left _ hg) e
theorem QU.step(h:QU o K H g G R W m M B u l)(hq:QV o' H' g (G.on (aw u++G.top)) R W m M' B)(hl:Heap.le (rem H (G.on (aw u++G.top)).gs) (rem H' (G.on (aw u++G.top)).gs))(hs:∀q,q∈aw u→H' q=H q):QU o' K H' g G R W m M' B u l:=
 ⟨hq,h.own.same fun q tt=>hs q (cF.2 tt),h.le.trans hl⟩
theorem QU.set(h:QU o K H g G R W m M B u l)(hg:g∈G.top){i:Nat}{p:Nat×Nat}(hp:G.rg[i]? = some p)(ht:fR (G.on (aw u++G.top)).gs g H H')(iB:H' g=some ⟨[.slice G.Ar R G.cr,G.bv,.bool o'],3,135,true⟩){xs:List Value}{sz:Nat}(hx:H p.1=some ⟨xs,sz,138,true⟩)(ix:bA fu 2 xs (aK (M i) W)){k:Nat}(hk:k<W){vs:List Value}{q:Rat}(hv:fu vs q):
  QU o' K (ins H' p.1 ⟨aJ xs (k*2) vs,sz,138,true⟩) g G R W m (iA M i (bZ (M i) k q)) B u l:=by
 obtain⟨h1,h2⟩:=h.q.set (G:=G.on (aw u++G.top)) hp ht iB hx ix hk hv
 refine h.step h1 h2 fun r hr=> ?_
 have bo:r≠p.1:=fun e=>GG.uI h.q.cY.nd (q:=r) (r:=p.1) (List.mem_append_left _ hr) (GG.gJ (G:=G.on (aw u++G.top)) hp) e
 rw[bg _ _ bo]
 exact ht.same r (QU.xY hr) (h.Z4 hg hr)
theorem QU.app(h:QU o K H g G R W m M B u l){k n:Nat}(hn:n=l.length+1)(ha:App H u 3 1 n (vZ l ++ [.int .i64 (k:Int)]) u' H')(hg:g∈G.top):QU o K H' g G R W m M B u' (l ++ [k]):=by
 obtain⟨h1,h2⟩:=h.q.cY.app ha
 refine⟨⟨h1,List.mem_append_right _ hg,?_⟩,?_,h.le.trans h2⟩
 ·exact ha.same g _ h.q.st fun e=>h.Z4 hg (cF.2 e) rfl
 ·have:=ha.own
  rw[hn]at this
  rw[List.length_append,vZ,List.map_append];exact this
theorem QU.fresh(h:QU o K H g G R W m M B u l){k:Nat}{e:Ent}(hk:H k=none):QU o K (ins H k e) g G R W m M B u l:=by
 obtain⟨h1,h2⟩:=h.q.fresh (e:=e) hk
 refine h.step h1 h2 fun q hq=>bg _ _ fun e'=> ?_
 subst e'
 exact h.q.cY.ne q (QU.xY hq) hk
theorem QU.down{K':Heap}(h:QU o K H g G R W m M B u l)(hl:Heap.le K' K):QU o K' H g G R W m M B u l:=⟨h.q,h.own,hl.trans h.le⟩
theorem QU.vU(h:QU o K H g G R W m M B u l):QU o (rem H (G.on (aw u++G.top)).gs) H g G R W m M B u l:=⟨h.q,h.own,.refl _⟩
theorem QU.drop(h:QU o K H g G R W m M B u l)(hg:g∈G.top):QV o H g G R W m M B∧Heap.le K (rem H G.gs):=by
 have hl:Heap.le (rem H (G.on (aw u++G.top)).gs) (rem H G.gs):=vV fun q hq=>by
  rw[GG.xW,List.append_assoc];exact List.mem_append_right _ hq
 have dV:=h.q.cY.nd
 rw[GG.xW,List.append_assoc]at dV
 exact⟨⟨h.q.cY.Co (t:=G.top) (List.nodup_append.1 dV).2.1 (fun q hq=>h.q.cY.top q (List.mem_append_right _ hq)) (fun _ _=>rfl) hl,hg,h.q.st⟩,h.le.trans hl⟩
theorem QU.rd{A:Option Addr}{n c:Nat}(h:QU o K H g G R W m M B (.slice A n c) l):Rd H A (vZ l)∧n=l.length:=by
 have h1:=h.own
 obtain⟨A',c',e⟩:=h1.form
 cases e
 exact⟨h1.rd,rfl⟩
end
end Go.aq
namespace Go.aq
open Go.Proofs Num Lp
def lZ(M:Nat→Nat→Rat)(r c i j:Nat):Rat:=if i=r then M r j/M r c else M i j-M i c*(M r j/M r c)
theorem aju{n d:Int}(h:fu [.int .i64 n,.int .i64 d] ((n:Rat)/(d:Rat)))(hn:n≠0):∃a b:Int,(a=d∧b=n∧0<n∨a = -d∧b = -n∧n<0)∧fu [.int .i64 a,.int .i64 b] (1/((n:Rat)/(d:Rat))):=by
 obtain⟨n',d',e,h1,h2,h3,h4,_⟩:=h
 simp only[List.cons.injEq,Value.int.injEq,true_and,and_true]at e
 obtain⟨rfl,rfl⟩:=e
 have hd:(d:Rat)≠0:=by exact_mod_cast (show d≠0 by omega)
 have hn':(n:Rat)≠0:=by exact_mod_cast hn
 have e1:1/((n:Rat)/(d:Rat))=(d:Rat)/(n:Rat):=by
  rw[Rat.div_def,Rat.div_def,Rat.div_def,Rat.inv_mul_rev,Rat.inv_inv];grind
 rcases Int.lt_or_gt_of_ne hn with h | h
 ·refine⟨-d,-n,.inr ⟨rfl,rfl,h⟩,-d,-n,rfl,by omega,by omega,by omega,by omega,?_⟩
  rw[e1,Rat.intCast_neg,Rat.intCast_neg,Rat.div_def,Rat.div_def]
  have h1:=Rat.mul_inv_cancel (n:Rat) hn'
  have h2:=Rat.mul_inv_cancel (-(n:Rat)) (by grind)
  grind
 ·exact⟨d,n,.inl ⟨rfl,rfl,h⟩,d,n,rfl,by omega,by omega,by omega,by omega,e1⟩
def eL(f:Nat→Rat)(k:Nat):List Nat:=(List.range k).filter fun j=>decide (f j≠0)
theorem Mx{f:Nat→Rat}{k:Nat}:eL f (k+1)=eL f k++(if f k=0 then []else [k]):=by
 unfold eL
 rw[List.range_succ,List.filter_append]
 congr 1
 by_cases h:f k=0
 ·rw[if_pos h];simp[h]
 ·rw[if_neg h];simp[h]
theorem R3{f:Nat→Rat}{k j:Nat}:j∈eL f k↔j<k∧f j≠0:=by simp[eL]
theorem Z5(f:Nat→Rat)(k:Nat):(eL f k).length≤k:=Nat.le_trans (List.length_filter_le _ _) (by simp)
theorem Z6(f:Nat→Rat)(k:Nat):(eL f k).Nodup:=List.Nodup.sublist List.filter_sublist List.nodup_range
theorem Z7{l:List Nat}(h:l.Nodup){t k:Nat}(hk:l[t]? = some k):¬k∈l.take t:=fun hm=>by
 obtain⟨i,hi⟩:=List.getElem?_of_mem hm
 rw[List.getElem?_take]at hi
 split at hi
 ·rename_i bX
  obtain⟨a1,a2⟩:=List.getElem?_eq_some_iff.1 hi
  obtain⟨b1,b2⟩:=List.getElem?_eq_some_iff.1 hk
  have:=(List.getElem_inj h).1 (a2.trans b2.symm)
  omega
 ·cases hi
theorem qX(f:Nat→Rat)(k:Nat)(v:Rat):bZ f k v k=v:=by simp[bZ]
theorem pa{f:Nat→Rat}{k j:Nat}{v:Rat}(h:j≠k):bZ f k v j=f j:=by simp[bZ,h]
theorem pc(M:Nat→Nat→Rat)(i:Nat)(f:Nat→Rat):iA M i f i=f:=by simp[iA]
theorem EN{M:Nat→Nat→Rat}{i k:Nat}{f:Nat→Rat}(h:k≠i):iA M i f k=M k:=by simp[iA,h]
theorem My(M:Nat→Nat→Rat)(i:Nat)(f h:Nat→Rat):iA (iA M i f) i h=iA M i h:=by
 funext k;unfold iA;split <;> rfl
theorem MA(M:Nat→Nat→Rat)(i:Nat):iA M i (M i)=M:=by
 funext k;unfold iA;split
 ·rename_i e;rw[e]
 ·rfl
def Z8(o o1:Bool)(M:Nat→Nat→Rat)(r c W k:Nat)(f:Nat→Rat):Prop:=(∀j,k≤j→f j=M r j)∧(o1=false→o=false∧∀j,j<k→f j=M r j/M r c)
def zR(o o1:Bool)(M:Nat→Nat→Rat)(r c R W k:Nat)(M1:Nat→Nat→Rat):Prop:=(∀i,k≤i→i≠r→M1 i=M i)∧(o1=false→o=false∧∀i,i<R→∀j,j<W→(i=r∨i<k)→M1 i j=lZ M r c i j)
def IC(o1 o2:Bool)(f0 fr:Nat→Rat)(x:Rat)(l:List Nat)(t:Nat)(f:Nat→Rat):Prop:=(o2=false→o1=false∧∀j,f j=if j∈l.take t then f0 j-x*fr j else f0 j)
theorem Z9{o1 o2 o3:Bool}{f0 fr f:Nat→Rat}{x q:Rat}{l:List Nat}{t k:Nat}(h:IC o1 o2 f0 fr x l t f)(dV:l.Nodup)(hk:l[t]? = some k)(hq:o3=false→o2=false∧q=f k-x*fr k):IC o1 o3 f0 fr x l (t+1) (bZ f k q):=fun h3=>by
 obtain⟨h2,e⟩:=hq h3
 obtain⟨h1,hf⟩:=h h2
 refine⟨h1,fun j=> ?_⟩
 have et:l.take (t+1)=l.take t ++ [k]:=by rw[List.take_add_one,hk];rfl
 by_cases ej:j=k
 ·subst ej
  rw[qX,et,if_pos (List.mem_append_right _ (List.mem_singleton.2 rfl)),e,hf j,if_neg (Z7 dV hk)]
 ·rw[pa ej,hf j,et]
  have:(j∈l.take t ++ [k])↔j∈l.take t:=by simp[ej]
  simp only[this]
theorem aaa{o o1 o2:Bool}{M M1:Nat→Nat→Rat}{r c R W k:Nat}{f:Nat→Rat}(h:zR o o1 M r c R W k M1)(hc:c<W)(hr:r<R)(tC:k≠r)(h3:IC o1 o2 (M1 k) (M1 r) (M1 k c) (eL (M r) W) (eL (M r) W).length f):zR o o2 M r c R W (k+1) (iA M1 k f):=by
 refine⟨fun i hi nz=>by rw[EN (by omega)];exact h.1 i (by omega) nz,fun h2=> ?_⟩
 obtain⟨h1,hf⟩:=h3 h2
 obtain⟨h0,hm⟩:=h.2 h1
 refine⟨h0,fun i hi j hj hd=> ?_⟩
 by_cases e:i=k
 ·subst e
  rw[pc,hf j,List.take_length]
  have e0:M1 i=M i:=h.1 i (Nat.le_refl _) tC
  have er:M1 r j=M r j/M r c:=by
   have:=hm r hr j hj (.inl rfl)
   rw[this];unfold lZ;rw[if_pos rfl]
  rw[e0,er]
  unfold lZ
  rw[if_neg tC]
  split
  ·rfl
  ·rename_i hn
   have hz:M r j=0:=Classical.byContradiction fun bo=>hn (R3.2 ⟨hj,bo⟩)
   rw[hz,Rat.div_def];grind
 ·rw[EN e]
  exact hm i hi j hj (by omega)
theorem MB{o o1:Bool}{M M1:Nat→Nat→Rat}{r c R W k:Nat}(h:zR o o1 M r c R W k M1)(hc:c<W)(hk:k<R)(hs:k=r∨M1 k c=0):zR o o1 M r c R W (k+1) M1:=by
 refine⟨fun i hi nz=>h.1 i (by omega) nz,fun h2=> ?_⟩
 obtain⟨h0,hm⟩:=h.2 h2
 refine⟨h0,fun i hi j hj hd=> ?_⟩
 by_cases e:i=k∧i≠r
 ·obtain⟨rfl,nz⟩:=e
  have e0:M1 i=M i:=h.1 i (Nat.le_refl _) nz
  rcases hs with hs | hs
  ·exact absurd hs nz
  ·rw[e0]at hs⊢
   unfold lZ
   rw[if_neg nz,hs];grind
 ·exact hm i hi j hj (by omega)
theorem aab{o:Bool}{H:Heap}{g:Nat}{G:GG}{R W m:Nat}{M:Nat→Nat→Rat}{B:Nat→Nat}{r c:Nat}(h:QV o H g G R W m M B)(hr:r<m)(kF:r<R)(hc:c<W)(hp:M r c≠0)(hR:(R:Int)≤1000000)(hW:(W:Int)≤1000000):
 Fn Tryz.prog 100 #[.pointer (some ⟨g,0,none⟩),.int .i64 (r:Int),.int .i64 (c:Int)] H (fun _ H'=>∃M' o',QV o' H' g G R W m M' (fun i=>if i=r then c else B i)∧(o'=false→o=false∧∀i,i<R→∀j,j<W→M' i j=lZ M r c i j)∧Heap.le (rem H G.gs) (rem H' G.gs)):=by
 obtain⟨pr,cW⟩:=h.cY.get kF
 obtain⟨sh,Kj,aac,mg⟩:=h.rk
 obtain⟨xr0,sr0,tz,ID⟩:=h.row cW
 obtain⟨n0,d0,hf0,mW,b1,b2,b3,b4,mf⟩:=mI ID hc
 have jn:n0≠0:=fun e=>hp (by rw[mf,e];exact(uJ b3).2 rfl)
 rw[mf]at hf0
 obtain⟨a,b,Bt,hinv⟩:=aju hf0 jn;refine aZ (args:=[_,_,_]) Tryz.func100 rfl rfl Tryz.ntmps100 rfl rfl fun w0=> ?_;refine ah [0,1,2] rfl ?_;refine bM .bJ [0,1,2,3,4,5,6,7,8,9,10,11,12,13,14,15,16,17,18,19,20,21,22,23,24] follows (gL [0,1,3,7,0,31,63,0,255,511,1023,0,2048,6144,14336,0,63488,129024,0,522240,1046528,2095104,4194303,0,16777215] (by kernel_rfl)) ?_;refine aa 2 rfl (aW ag rfl rfl rfl (aR ag rfl rfl rfl (h.iP) (aa 1 rfl (aS ag rfl rfl rfl rfl rfl (aac) (by rw[Int.toNat_natCast];exact mg r pr cW) (by omega) (by omega) fun _=> ?_))));refine aa 1 rfl (ki ag rfl rfl rfl rfl rfl rfl rfl (dQ tz) (by rw[Int.toNat_natCast];exact mW 1 _ rfl) (by omega) (by omega) fun _ _=> ?_);refine aa 2 rfl (aW ag rfl rfl rfl (aR ag rfl rfl rfl (h.iP) (aa 1 rfl (aS ag rfl rfl rfl rfl rfl (aac) (by rw[Int.toNat_natCast];exact mg r pr cW) (by omega) (by omega) fun _=> ?_))));refine aa 1 rfl (ki ag rfl rfl rfl rfl rfl rfl rfl (dQ tz) (by rw[Int.toNat_natCast];exact mW 0 _ rfl) (by omega) (by omega) fun _ _=> ?_);refine cL ag rfl fO rfl rfl (bh fO rfl ?_);obtain⟨ti,aj,ak⟩:=eD;refine aH (.inl ⟨rfl,rfl⟩) rfl rfl rfl aj ak rfl rfl rfl ?_
 refine ab [0,1,2,6] ?_;refine AW (fun(x:Int)(y:Int)=>put (put (put (put (emp) 0 (.val (.pointer (some ⟨g,0,none⟩)))) 1 (.val (.int .i64 (r:Int)))) 2 (.val (.int .i64 (c:Int)))) 6 (.box [.int .i64 x,.int .i64 y])) (fun(x:Int)(y:Int) H'=>H'=H∧fu [.int .i64 x,.int .i64 y] (1/M r c)) ?_ ?_
 ·
  refine ae (aa 3 rfl (ab [0,1,2,6,38] ?_));refine aD rfl (fun hb=> ?_) (fun hb=> ?_)
  ·
   have hb:n0<0:=by simpa using hb
   refine aA rfl (aa 2 rfl (rH rfl ⟨by omega,by omega⟩ (aa 2 rfl (rH rfl ⟨by omega,by omega⟩ (cL ag rfl fO rfl rfl ?_)))));obtain⟨ti,aj,ak⟩:=eD;refine aH (.inl ⟨rfl,rfl⟩) rfl rfl rfl aj ak rfl rfl rfl (au ?_);exact⟨-d0,-n0,ar,rfl,by rcases Bt with ⟨_,_,h9⟩ | ⟨rfl,rfl,_⟩;exact absurd h9 (by omega);rw[mf];exact hinv⟩
  ·
   have hb:¬n0<0:=by simpa using hb
   refine az ?_;exact⟨d0,n0,ar,rfl,by rcases Bt with ⟨rfl,rfl,_⟩ | ⟨_,_,h9⟩;rw[mf];exact hinv;exact absurd h9 (by omega)⟩
 ·
  rintro x y H5 ⟨rfl,qp⟩;refine Mt 6 rfl fun g6 e6 nJ=> ?_;obtain⟨h6,iy⟩:=h.fresh (e:=⟨[.int .i64 x,.int .i64 y],2,e6,true⟩) nJ;have aad:Rd (rem (ins H5 g6 ⟨[.int .i64 x,.int .i64 y],2,e6,true⟩) G.gs) (some ⟨g6,0,none⟩) [.int .i64 x,.int .i64 y]:=R2 (ea _ _ _ _ _ _) fun hm=>h.cY.ne _ hm nJ
  show VC _ _ _ _ _ _ _ (ins H5 g6 ⟨[.int .i64 x,.int .i64 y],2,e6,true⟩)
  generalize ins H5 g6 ⟨[.int .i64 x,.int .i64 y],2,e6,true⟩=H6 at *
  have R4:QU o (rem H6 G.gs) H6 g G R W m (iA M r (M r)) B (.slice none 0 0) (eL (M r) 0):=⟨by rw[MA];exact h6,kL _ _ _,.refl _⟩;obtain⟨DY,qD,ajv,sH⟩:=h6.rk;refine ae (aa 1 rfl (ab [0,1,2,6,7] ?_));refine ao (ae (aa 2 rfl (aW ag rfl rfl rfl (aR ag rfl rfl rfl (h6.iP) (aa 1 rfl (aS ag rfl rfl rfl rfl rfl (ajv) (by rw[Int.toNat_natCast];exact sH r pr cW) (by omega) (by omega) fun _=> ?_))))));refine aa 2 rfl (ab [0,1,2,6,7,53,54] ?_);refine aE (pC (fun(k:Nat)(u:Value)(f:Nat→Rat)(o1:Bool)=>W-k) (fun(k:Nat)(u:Value)(f:Nat→Rat)(o1:Bool)=>put (put (put (put (put (put (put (emp) 0 (.val (.pointer (some ⟨g,0,none⟩)))) 1 (.val (.int .i64 (r:Int)))) 2 (.val (.int .i64 (c:Int)))) 6 (.val (.pointer (some ⟨g6,0,none⟩)))) 7 (.val (u))) 53 (.val (.int .i64 (W:Int)))) 54 (.val (.int .i64 (k:Int)))) (fun(k:Nat)(u:Value)(f:Nat→Rat)(o1:Bool) H'=>QU o1 (rem H6 G.gs) H' g G R W m (iA M r f) B u (eL (M r) k)∧Z8 o o1 M r c W k f∧k≤W) 0 (.slice none 0 0) (M r) o (⟨R4,⟨fun _ _=>rfl,fun h9=>⟨h9,fun j hj=>absurd hj (Nat.not_lt_zero _)⟩⟩,Nat.zero_le _⟩) ar ?_);rintro k u f o1 H7 ⟨hU,hP,hk⟩;obtain⟨xs7,qF,ajw,xL⟩:=hU.q.rk;obtain⟨A7,c7,rfl⟩:=hU.own.form;obtain⟨R5,sr7,Cu,xZ⟩:=hU.q.row (G:=G.on _) cW
  rw[pc]at xZ;have R6:=xZ.len;rw[bB]at R6;have zl:=Z5 (M r) k;refine ae (aa 1 rfl (ab [0,1,2,6,7,53,54,55] ?_));refine ao (aD rfl (fun hb=> ?_) (fun hb=> ?_))
  ·
   have fi:k<W:=by simpa using hb
   obtain⟨n7,d7,PT,sW,i1,i2,i3,i4,jf⟩:=mI xZ fi;refine az (ah [0,1,2,6,7,53,54] rfl ?_);refine ao (aE (ae (aa 2 rfl (ab [0,1,2,6,7,8,53,54] ?_))));refine ae (aa 2 rfl (aW ag rfl rfl rfl (aR ag rfl rfl rfl (hU.q.iP) (aa 1 rfl (aS ag rfl rfl rfl rfl rfl (ajw) (by rw[Int.toNat_natCast];exact xL r pr cW) (by omega) (by omega) fun _=> ?_)))));refine aa 1 rfl (ki ag rfl rfl rfl rfl rfl rfl rfl (dQ Cu) (by rw[Int.toNat_natCast];exact sW 0 _ rfl) (by omega) (by omega) fun _ _=> ?_);refine aa 1 rfl (ab [0,1,2,6,7,8,53,54,68] ?_);refine aD rfl (fun hb=> ?_) (fun hb=> ?_)
   ·
    have hb:n7≠0:=by simpa using hb
    have bm:=IA g H7;refine bM (.cO (k8 g H7)) [0,1,2,3,4,5,6,7,8,9,10,11,12,13,14,15,16,17,18,19,20,21,22] follows (gL [0,1,3,7,0,31,63,0,0,0,512,1536,3584,0,15872,32256,0,130560,261632,0,1048320,2097151,4194303] (by kernel_rfl)) ?_;refine eP bm rfl (lU bm rfl (lV bm ag rfl rfl rfl (jR bm ag rfl rfl rfl (hU.q.k0) (eP bm rfl (Cr bm ag rfl rfl rfl rfl rfl (qF) (by rw[Int.toNat_natCast];exact xL r pr cW) (by omega) (by omega) fun _=> ?_)))));refine eP bm rfl (eP bm rfl (eP bm rfl (lU bm rfl (lV bm ag rfl rfl rfl (jR bm ag rfl rfl rfl (hU.q.k0) (eP bm rfl (Cr bm ag rfl rfl rfl rfl rfl (qF) (by rw[Int.toNat_natCast];exact xL r pr cW) (by omega) (by omega) fun _=> ?_)))))));refine eP bm rfl (Cs bm ag rfl rfl rfl rfl (zQ Cu (hU.q.xX (G:=G.on _) cW)) rfl (by decide) (by rw[Int.toNat_natCast];exact sW) (by omega) (by omega) fun _=> ?_);refine IB bm ag rfl rfl rfl (((aad.le hU.le).kx hU.q.mem).at) (Ct rfl rfl (RJ hU.q.mem hU.q.st PT qp) (fun v H9 qY=>by obtain⟨k1,_,_,_,_,_,k2,_⟩:=qY;exact hU.q.fM k1 k2) ?_);rintro _ H8 ⟨qT,vs8,o8,q8,rfl,hf8,sZ,eQ⟩;obtain⟨n8,d8,rfl,_⟩:=id hf8;have bm:=hU.q.fM qT sZ
    have IE:=(qT.same _ (GG.kI (GG.gJ (G:=G.on _) cW)) (hU.q.xX (G:=G.on _) cW)).trans Cu;have x6:=hU.set h.gt cW qT sZ Cu (by rw[pc];exact xZ) fi hf8;rw[pc,My]at x6;obtain⟨ti,aj,ak⟩:=eD;refine Mu bm ag rfl rfl rfl (by omega) (by omega) (IE) rfl (by show W*2≤R5.length;omega) aj ak (fun _=>rfl) rfl rfl rfl fun _=> ?_;refine ab [0,1,2,6,7,8,53,54] ?_;refine aA rfl (aa 2 rfl (cI Tryz.underlying49 fC rfl rfl rfl rfl rfl rfl rfl ?_));intro gb aV;have qZ:=x6.fresh (e:=whole [.int .i64 (k:Int)] 3) aV;refine dW Tryz.underlying49 fC rfl rfl (qZ.own) (ea _ _ _ _ _ _) (rfl) (sN _) (by omega) (by omega) ?_;intro u' lW R7;have R8:=qZ.app rfl R7 h.gt;refine aa 1 rfl (au (ah [0,1,2,6,7,53,54] rfl ?_));refine aA rfl (aF rfl rfl ⟨by omega,by omega⟩ (aa 1 rfl (au ?_)))
    have bo:M r k≠0:=by rw[←hP.1 k (Nat.le_refl _),jf];exact fun h9=>hb ((uJ i3).1 h9)
    exact⟨k+1,u',bZ f k q8,o8,by omega,ar,by rw[Mx,if_neg bo];exact R8,⟨fun j hj=>by rw[pa (by omega)];exact hP.1 j (by omega),fun h9=>by
     obtain⟨g1,g2⟩:=eQ h9;obtain⟨g3,g4⟩:=hP.2 g1;refine⟨g3,fun j hj=> ?_⟩
     by_cases ej:j=k
     ·
      subst ej;rw[qX,g2,hP.1 j (Nat.le_refl _),Rat.div_def,Rat.div_def];grind
     ·rw[pa ej];exact g4 j (by omega)⟩,by omega⟩
   have hb:n7=0:=by simpa using hb
   refine az (ah [0,1,2,6,7,53,54] rfl ?_);refine aA rfl (aF rfl rfl ⟨by omega,by omega⟩ (aa 1 rfl (au ?_)))
   have hz:M r k=0:=by rw[←hP.1 k (Nat.le_refl _),jf];exact(uJ i3).2 hb
   exact⟨k+1,_,f,o1,by omega,ar,by rw[Mx,if_pos hz,List.append_nil];exact hU,⟨fun j hj=>hP.1 j (by omega),fun h9=>by
    obtain⟨g3,g4⟩:=hP.2 h9;refine⟨g3,fun j hj=> ?_⟩
    by_cases ej:j=k
    ·
     subst ej;rw[hP.1 j (Nat.le_refl _),hz,Rat.div_def];grind
    ·exact g4 j (by omega)⟩,by omega⟩
  have hb:W≤k:=by simpa using hb
  obtain rfl:k=W:=by omega
  have R9:zR o o1 M r c R k 0 (iA M r f):=⟨fun i _ hi=>EN hi,fun h9=>by
   obtain⟨g3,g4⟩:=hP.2 h9;refine⟨g3,fun i _ j hj hd=> ?_⟩
   obtain rfl:i=r:=by omega
   rw[pc,g4 j hj];unfold lZ;rw[if_pos rfl]⟩
  have dV:=Z6 (M r) k;refine aX (ah [0,1,2,7] rfl ?_);refine ao (ae (aa 2 rfl (aW ag rfl rfl rfl (aR ag rfl rfl rfl (hU.q.iP) (aa 2 rfl (ab [0,1,2,7,100,101] ?_))))));refine aE (fB (fun(i:Nat)(M1:Nat→Nat→Rat)(o3:Bool)=>R-i) (fun(i:Nat)(M1:Nat→Nat→Rat)(o3:Bool)=>put (put (put (put (put (put (emp) 0 (.val (.pointer (some ⟨g,0,none⟩)))) 1 (.val (.int .i64 (r:Int)))) 2 (.val (.int .i64 (c:Int)))) 7 (.val (.slice A7 (eL (M r) k).length c7))) 100 (.val (.int .i64 (R:Int)))) 101 (.val (.int .i64 (i:Int)))) (fun(i:Nat)(M1:Nat→Nat→Rat)(o3:Bool) H'=>QU o3 (rem H6 G.gs) H' g G R k m M1 B (.slice A7 (eL (M r) k).length c7) (eL (M r) k)∧zR o o3 M r c R k i M1∧i≤R) 0 (iA M r f) o1 (⟨hU,R9,Nat.zero_le _⟩) ar ?_);rintro i M1 o3 je ⟨hV,hQ,hi⟩;obtain⟨aae,Cf,aaf,aag⟩:=hV.q.rk;refine ae (aa 1 rfl (ab [0,1,2,7,100,101,102] ?_));refine ao (aD rfl (fun hb=> ?_) (fun hb=> ?_))
  ·
   have uK:i<R:=by simpa using hb
   obtain⟨pi,cU⟩:=h.cY.get uK;obtain⟨ajx,ajy,IF,Sa⟩:=hV.q.row (G:=G.on _) cU;obtain⟨s0,d11,anG,EE,j1,j2,j3,j4,uL⟩:=mI Sa hc;refine az (ah [0,1,2,7,100,101] rfl ?_);refine ao (aE (ae (aa 2 rfl (ab [0,1,2,7,9,100,101] ?_))));refine ao ?_
   by_cases h1:i=r
   ·
    skip
    refine ae (aa 2 rfl (aG true rfl rfl (iL (by omega)) (aa 14 rfl (ab [0,1,2,7,9,100,101,120] ?_))));refine cK rfl (aX (ah [0,1,2,7,100,101] rfl ?_));refine aA rfl (aF rfl rfl ⟨by omega,by omega⟩ (aa 1 rfl (au ?_)));exact⟨i+1,M1,o3,by omega,ar,hV,MB hQ hc uK (.inl h1),by omega⟩
   skip
   refine ae (aa 2 rfl (aG false rfl rfl (ks (by omega)) (aa 3 rfl (aW ag rfl rfl rfl (aR ag rfl rfl rfl (hV.q.iP) (aa 1 rfl (aS ag rfl rfl rfl rfl rfl (aaf) (by rw[Int.toNat_natCast];exact aag i pi cU) (by omega) (by omega) fun _=> ?_)))))));refine aa 1 rfl (ki ag rfl rfl rfl rfl rfl rfl rfl (dQ IF) (by rw[Int.toNat_natCast];exact EE 0 _ rfl) (by omega) (by omega) fun _ _=> ?_);refine aa 2 rfl (ab [0,1,2,7,9,100,101,120] ?_);refine aD rfl (fun hb=> ?_) (fun hb=> ?_)
   ·
    have hb:s0=0:=by simpa using hb
    refine aX (ah [0,1,2,7,100,101] rfl ?_);refine aA rfl (aF rfl rfl ⟨by omega,by omega⟩ (aa 1 rfl (au ?_)));exact⟨i+1,M1,o3,by omega,ar,hV,MB hQ hc uK (.inr (by rw[uL];exact(uJ j3).2 hb)),by omega⟩
   have hb:s0≠0:=by simpa using hb
   refine az (ah [0,1,2,7,9,100,101] rfl ?_);refine ae (aa 2 rfl (aW ag rfl rfl rfl (aR ag rfl rfl rfl (hV.q.iP) (aa 1 rfl (aS ag rfl rfl rfl rfl rfl (aaf) (by rw[Int.toNat_natCast];exact aag i pi cU) (by omega) (by omega) fun _=> ?_)))));refine aa 1 rfl (cj (vs:=[.int .i64 s0,.int .i64 d11]) ag rfl rfl rfl rfl (dQ IF) rfl (by decide) (by rw[Int.toNat_natCast];exact EE) (by omega) (by omega) fun _=> ?_);refine bh fO rfl ?_;obtain⟨ti,aj,ak⟩:=eD;refine aH (.inl ⟨rfl,rfl⟩) rfl rfl rfl aj ak rfl rfl rfl (ab [0,1,2,7,9,10,100,101] ?_);refine Mt 10 rfl fun g10 qJ qI=> ?_;obtain⟨_,kV⟩:=hV.q.fresh (e:=⟨[.int .i64 s0,.int .i64 d11],2,qJ,true⟩) qI;have EO:=hV.fresh (e:=⟨[.int .i64 s0,.int .i64 d11],2,qJ,true⟩) qI;have ajz:Rd (rem (ins je g10 ⟨[.int .i64 s0,.int .i64 d11],2,qJ,true⟩) (G.on (aw (.slice A7 (eL (M r) k).length c7)++G.top)).gs) (some ⟨g10,0,none⟩) [.int .i64 s0,.int .i64 d11]:=R2 (ea _ _ _ _ _ _) fun hm=>hV.q.cY.ne _ hm qI
   show VC _ _ _ _ _ _ _ (ins je g10 ⟨[.int .i64 s0,.int .i64 d11],2,qJ,true⟩)
   generalize ins je g10 ⟨[.int .i64 s0,.int .i64 d11],2,qJ,true⟩=dC at *
   have IG:=EO.vU;rw[←MA M1 i]at IG;refine ae (aa 3 rfl (ab [0,1,2,7,9,10,100,101,131,132,133] ?_));refine aE (fB (fun(t:Nat)(f2:Nat→Rat)(o4:Bool)=>(eL (M r) k).length-t) (fun(t:Nat)(f2:Nat→Rat)(o4:Bool)=>put (put (put (put (put (put (put (put (put (put (put (emp) 0 (.val (.pointer (some ⟨g,0,none⟩)))) 1 (.val (.int .i64 (r:Int)))) 2 (.val (.int .i64 (c:Int)))) 7 (.val (.slice A7 (eL (M r) k).length c7))) 9 (.val (.int .i64 (i:Int)))) 10 (.val (.pointer (some ⟨g10,0,none⟩)))) 100 (.val (.int .i64 (R:Int)))) 101 (.val (.int .i64 (i:Int)))) 131 (.val (.slice A7 (eL (M r) k).length c7))) 132 (.val (.int .i64 ((eL (M r) k).length:Int)))) 133 (.val (.int .i64 (t:Int)))) (fun(t:Nat)(f2:Nat→Rat)(o4:Bool) H'=>QU o4 (rem dC (G.on (aw (.slice A7 (eL (M r) k).length c7)++G.top)).gs) H' g G R k m (iA M1 i f2) B (.slice A7 (eL (M r) k).length c7) (eL (M r) k)∧IC o3 o4 (M1 i) (M1 r) (M1 i c) (eL (M r) k) t f2∧t≤(eL (M r) k).length) 0 (M1 i) o3 (⟨IG,fun h9=>⟨h9,fun j=>by simp⟩,Nat.zero_le _⟩) ar ?_);rintro t f2 o4 kW ⟨hX,EP,ht⟩;obtain⟨ajA,xM,aah,IH⟩:=hX.q.rk;obtain⟨MC,aai,zS,uM⟩:=hX.q.row (G:=G.on _) cU;obtain⟨ajB,ajC,Sb,II⟩:=hX.q.row (G:=G.on _) cW;rw[pc]at uM;rw[EN (fun e=>h1 e.symm)]at II;have Sd:=uM.len;rw[bB]at Sd
   refine ae (aa 1 rfl (ab [0,1,2,7,9,10,100,101,131,132,133,134] ?_));refine ao (aD rfl (fun hb=> ?_) (fun hb=> ?_))
   ·
    have pd:t<(eL (M r) k).length:=by simpa using hb
    obtain⟨kk,bW⟩:∃kk,(eL (M r) k)[t]? = some kk:=⟨_,List.getElem?_eq_getElem pd⟩;have fi:kk<k:=(R3.1 (List.mem_of_getElem? bW)).1;obtain⟨Qe,d13,ajD,Se,_,_,_,_,_⟩:=mI uM fi;obtain⟨n14,d14,ajE,IJ,_,_,_,_,_⟩:=mI II fi;refine az (ah [0,1,2,7,9,10,100,101,131,132,133] rfl ?_);refine ao (aE (ae (aS ag rfl rfl rfl rfl rfl (hX.rd.1) (by rw[Int.toNat_natCast];show (List.map _ _)[t]? = _;rw[List.getElem?_map,bW];rfl) (by omega) (by omega) fun _=> ?_)));refine aa 1 rfl (ab [0,1,2,7,9,10,12,100,101,131,132,133] ?_);have bm:=IA g kW;refine eo (.cO (k8 g kW)) [0,1,2,3,4,5,6,7,8,9,10,11,12,13,14,15,16,17,18,19,20,21,22,23,24,25,26,27,28,29,30,31,32,33,34] follows (gL [0,1,3,7,0,31,63,0,0,0,512,1536,3584,0,15872,32256,0,130560,261632,0,0,0,2097152,6291456,14680064,0,65011712,132120576,0,534773760,1071644672,2146959360,4294967040,8589934591,17179869183] (by kernel_rfl)) ?_;refine eP bm rfl (lU bm rfl (lV bm ag rfl rfl rfl (jR bm ag rfl rfl rfl (hX.q.k0) (eP bm rfl (Cr bm ag rfl rfl rfl rfl rfl (xM) (by rw[Int.toNat_natCast];exact IH i pi cU) (by omega) (by omega) fun _=> ?_)))));refine eP bm rfl (eP bm rfl ?_)
    refine eP bm rfl (lU bm rfl (lV bm ag rfl rfl rfl (jR bm ag rfl rfl rfl (hX.q.k0) (eP bm rfl (Cr bm ag rfl rfl rfl rfl rfl (xM) (by rw[Int.toNat_natCast];exact IH i pi cU) (by omega) (by omega) fun _=> ?_)))));refine eP bm rfl (Cs bm ag rfl rfl rfl rfl (zQ zS (hX.q.xX (G:=G.on _) cU)) rfl (by decide) (by rw[Int.toNat_natCast];exact Se) (by omega) (by omega) fun _=> ?_);refine eP bm rfl (IB bm ag rfl rfl rfl (((ajz.le hX.le).kx hX.q.mem).at) (eP bm rfl (lU bm rfl (lV bm ag rfl rfl rfl (jR bm ag rfl rfl rfl (hX.q.k0) (eP bm rfl (Cr bm ag rfl rfl rfl rfl rfl (xM) (by rw[Int.toNat_natCast];exact IH r pr cW) (by omega) (by omega) fun _=> ?_)))))));refine eP bm rfl (Cs bm ag rfl rfl rfl rfl (zQ Sb (hX.q.xX (G:=G.on _) cW)) rfl (by decide) (by rw[Int.toNat_natCast];exact IJ) (by omega) (by omega) fun _=> ?_);refine Ct rfl rfl (RJ hX.q.mem hX.q.st (show fu _ (M1 i c) by rw[uL];exact⟨s0,d11,rfl,j1,j2,j3,j4,rfl⟩) ajE) (fun v H9 qY=>by obtain⟨k1,_,_,_,_,_,k2,_⟩:=qY;exact hX.q.fM k1 k2) ?_;rintro v14 p7 ⟨x8,anH,o14,q14,rfl,ajF,aaj,MD⟩;have bm:=hX.q.fM x8 aaj;refine Ct rfl rfl (RK hX.q.mem aaj ajD ajF) (fun v H9 qY=>by obtain⟨k1,_,_,_,_,_,k2,_⟩:=qY;exact hX.q.fM (x8.trans k1) k2) ?_
    rintro Sf mE ⟨Sg,anI,o15,q15,rfl,aak,aal,IK⟩;obtain⟨n15,d15,rfl,_⟩:=id aak;have bm:=hX.q.fM (x8.trans Sg) aal;have Sh:=((x8.trans Sg).same _ (GG.kI (GG.gJ (G:=G.on _) cU)) (hX.q.xX (G:=G.on _) cU)).trans zS;have IL:=hX.set h.gt cU (x8.trans Sg) aal zS (by rw[pc];exact uM) fi aak;rw[pc,My]at IL;obtain⟨ti,aj,ak⟩:=eD;refine Mu bm ag rfl rfl rfl (by omega) (by omega) (Sh) rfl (by show k*2≤MC.length;omega) aj ak (fun _=>rfl) rfl rfl rfl fun _=> ?_;refine au (ah [0,1,2,7,9,10,100,101,131,132,133] rfl ?_);refine aA rfl (aF rfl rfl ⟨by omega,by omega⟩ (aa 1 rfl (au ?_)));exact⟨t+1,bZ f2 kk q15,o15,by omega,ar,IL,Z9 EP dV bW fun h9=>⟨(MD (IK h9).1).1,by rw[(IK h9).2,(MD (IK h9).1).2]⟩,by omega⟩
   have pd:(eL (M r) k).length≤t:=by simpa using hb
   obtain rfl:t=(eL (M r) k).length:=by omega
   refine aX (ah [0,1,2,7,100,101] rfl ?_);refine aA rfl (aF rfl rfl ⟨by omega,by omega⟩ (aa 1 rfl (au ?_)));exact⟨i+1,iA M1 i f2,o4,by omega,ar,hX.down (hV.le.trans kV),aaa hQ hc kF h1 EP,by omega⟩
  have uK:R≤i:=by simpa using hb
  obtain rfl:i=R:=by omega
  obtain⟨hD,ER⟩:=hV.drop h.gt
  obtain⟨gb,cb,sz,ll,du,aV⟩:∃gb cb sz,G.bb = [gb]∧G.bv = .slice (some ⟨gb,0,none⟩) m cb∧je gb=some ⟨eN B m,sz,3,true⟩:=by
   rcases hD.cY.basis with h7 | h7
   ·have:=h7.1;omega
   ·exact h7
  have hm:gb∈G.gs:=GG.kI (GG.mz (by rw[ll];exact List.mem_singleton.2 rfl));have ajG:g≠gb:=GG.uI hD.cY.nd hD.gt (GG.mz (by rw[ll];exact List.mem_singleton.2 rfl));refine aX (ah [0,1,2] rfl ?_);refine aA rfl (aa 2 rfl (aW ag rfl rfl rfl (aR ag rfl rfl rfl (show cell je _=some (.slice (some ⟨gb,0,none⟩) m cb)from by rw[←du];exact hD.mH) ?_)));refine vr 2 ?_;obtain⟨ti,aj,ak⟩:=u6;refine cV (.inl rfl) ag rfl rfl rfl (by omega) (by omega) (aV) rfl (by show 0+m*1≤(eN B m).length;rw[BG];omega) aj ak (fun _=>rfl) rfl rfl rfl fun _=> ?_;refine au ?_;refine⟨.inl rfl,_,.nil,?_⟩
  have he:({(⟨eN B m,sz,3,true⟩:Ent)with xs:=aJ (eN B m) (0+((r:Int)).toNat*1) [.int .i64 (c:Int)]}:Ent)=⟨eN (fun i=>if i=r then c else B i) m,sz,3,true⟩:=by
   rw[Int.toNat_natCast,Nat.mul_one,Nat.zero_add,←PE];rfl
  rw[he];refine⟨M1,o3,⟨hD.cY.DZ ll du,hD.gt,by rw[bg _ _ ajG];exact hD.st⟩,fun h9=>⟨(hQ.2 h9).1,fun i hi j hj=>(hQ.2 h9).2 i hi j hj (.inr hi)⟩,?_⟩;rw[cE _ hm];exact iy.trans ER
end Go.aq
namespace Go.aq
open Go.Proofs Num Lp
def Lst(M:Nat→Nat→Rat)(B:Nat→Nat)(n c k r:Nat)(q:Rat):Prop:=q=M r n/M r c∧∀i,i<k→0<M i c→q<M i n/M i c∨(q=M i n/M i c∧B r≤B i)
section
variable {M:Nat→Nat→Rat} {B:Nat→Nat} {n c k r:Nat} {q x:Rat}
theorem aam(h:Lst M B n c k r q)(hk:M k c≤0):Lst M B n c (k+1) r q:=⟨h.1,fun i hi hp=>by
 by_cases e:i=k
 ·subst e;grind
 ·exact h.2 i (by omega) hp⟩
theorem ME(h:Lst M B n c k r q)(hx:x=M k n/M k c)(hk:q<x∨(x=q∧¬B k<B r)):Lst M B n c (k+1) r q:=⟨h.1,fun i hi hp=>by
 by_cases e:i=k
 ·subst e
  rw[←hx]
  rcases hk with hk | ⟨hk,hb⟩
  ·exact .inl hk
  ·exact .inr ⟨hk.symm,by omega⟩
 ·exact h.2 i (by omega) hp⟩
theorem MF(h:Lst M B n c k r q)(hx:x=M k n/M k c)(hk:x<q∨(x=q∧B k<B r)):Lst M B n c (k+1) k x:=⟨hx,fun i hi hp=>by
 by_cases e:i=k
 ·subst e;exact .inr ⟨hx,Nat.le_refl _⟩
 ·rcases hk with hk | ⟨hk,hb⟩
  ·rcases h.2 i (by omega) hp with h1 | ⟨h1,_⟩
   ·exact .inl (by grind)
   ·exact .inl (by grind)
  ·rcases h.2 i (by omega) hp with h1 | ⟨h1,h2⟩
   ·exact .inl (by rw[hk];exact h1)
   ·exact .inr ⟨by rw[hk];exact h1,by omega⟩⟩
theorem aan(h:∀i,i<k→M i c≤0)(hx:x=M k n/M k c):Lst M B n c (k+1) k x:=⟨hx,fun i hi hp=>by
 by_cases e:i=k
 ·subst e;exact .inr ⟨hx,Nat.le_refl _⟩
 ·have:=h i (by omega);grind⟩
end
theorem aao{n d:Int}(h:1≤d):0<(n:Rat)/(d:Rat)↔0<n:=by
 have h1:=Mw (n:=n) h
 have h2:=uJ (n:=n) h
 constructor
 ·intro h3
  rcases Int.lt_trichotomy n 0 with k | k | k
  ·have:=h1.2 k;grind
  ·have:=h2.2 k;grind
  ·exact k
 ·intro h3
  have k1:¬(n:Rat)/(d:Rat)<0:=fun k=>by have:=h1.1 k;omega
  have k2:¬(n:Rat)/(d:Rat)=0:=fun k=>by have:=h2.1 k;omega
  grind
theorem aap{a b c d:Int}(hb:1≤b)(hd:1≤d):((a*d-c*b<0)↔(a:Rat)/(b:Rat)<(c:Rat)/(d:Rat))∧((a*d-c*b=0)↔(a:Rat)/(b:Rat)=(c:Rat)/(d:Rat)):=by
 have h1:=ZF (n:=a) (a:=c) hb hd
 have h2:=Ml hb hd
 have h3:=Mw (n:=a*d-c*b) h2
 have h4:=uJ (n:=a*d-c*b) h2
 rw[h1]at h3 h4
 exact⟨⟨fun h=>by have:=h3.2 h;grind,fun h=>h3.1 (by grind)⟩,⟨fun h=>by have:=h4.2 h;grind,fun h=>h4.1 (by grind)⟩⟩
theorem ajH{a b c d:Int}(hb:1≤b)(hd:1≤d)(hc:0<c):((a*d:Int):Rat)/((b*c:Int):Rat)=(a:Rat)/(b:Rat)/((c:Rat)/(d:Rat)):=by
 have h1:(c:Rat)≠0:=by exact_mod_cast (show c≠0 by omega)
 rw[ZE,Rat.div_def ((a:Rat)/b),Rat.div_def (c:Rat) d,Rat.inv_mul_rev,Rat.inv_inv,Rat.div_def (d:Rat) c]
structure IM where
 i:Nat
 z:Int
 a:Int
 b:Int
 o:Bool
def Si(o:Bool)(M:Nat→Nat→Rat)(B:Nat→Nat)(n c:Nat)(y:IM):Prop:=(y.o=false→o=false)∧((y.z = -1∧∀i,i<y.i→M i c≤0)∨∃(r:Nat)(q:Rat),y.z=(r:Int)∧r<y.i∧0<M r c∧fu [.int .i64 y.a,.int .i64 y.b] q∧(y.o=false→Lst M B n c y.i r q))
theorem ajI{o:Bool}{M:Nat→Nat→Rat}{B:Nat→Nat}{n c:Nat}{y:IM}(h:Si o M B n c y)(hk:M y.i c≤0):Si o M B n c ⟨y.i+1,y.z,y.a,y.b,y.o⟩:=by
 refine⟨h.1,?_⟩
 rcases h.2 with ⟨h1,h2⟩ | ⟨r,q,h1,h2,h3,h4,h5⟩
 ·refine .inl ⟨h1,fun i hi=> ?_⟩
  by_cases e:i=y.i
  ·rw[e];exact hk
  ·exact h2 i (by have:i<y.i+1:=hi;omega)
 ·exact .inr ⟨r,q,h1,Nat.lt_succ_of_lt h2,h3,h4,fun h9=>aam (h5 h9) hk⟩
def LvP(o o':Bool)(M:Nat→Nat→Rat)(B:Nat→Nat)(n c m:Nat)(z:Int):Prop:=(o'=false→o=false)∧((z = -1∧∀i,i<m→M i c≤0)∨∃r:Nat,z=(r:Int)∧r<m∧0<M r c∧(o'=false→∃q,Lst M B n c m r q))
theorem ajJ{o:Bool}{H:Heap}{g:Nat}{G:GG}{R W m:Nat}{M:Nat→Nat→Rat}{B:Nat→Nat}{c:Nat}(h:QV o H g G R W m M B)(Sj:m≤R)(hc:c<W)(hR:(R:Int)≤1000000)(hW:(W:Int)≤1000000):
 Fn Tryz.prog 136 #[.pointer (some ⟨g,0,none⟩),.int .i64 (c:Int)] H (fun v H'=>∃z o',v = .int .i64 z∧fR G.gs g H H'∧H' g=some ⟨[.slice G.Ar R G.cr,G.bv,.bool o'],3,135,true⟩∧LvP o o' M B (W-1) c m z):=by
 obtain⟨Ab,cb,du,fG⟩:∃Ab cb,G.bv = .slice Ab m cb∧∀o' H',QV o' H' g G R W m M B→∀i,i<m→Rd H' Ab (eN B m):=by
  rcases h.cY.basis with ⟨h1,h2,h3⟩ | ⟨gb,cb,sz,h1,h2,h3⟩
  ·exact⟨none,0,by rw[h3,h1],fun _ _ _ i hi=>by omega⟩
  ·
   refine⟨_,cb,h2,fun o' H' h' i hi=> ?_⟩
   rcases h'.cY.basis with ⟨k1,k2,k3⟩ | ⟨Cv,ES,fk,k1,k2,k3⟩
   ·omega
   ·rw[h1]at k1;cases k1;exact dQ k3
 refine aZ (args:=[_,_]) Tryz.func136 rfl rfl Tryz.ntmps136 rfl rfl fun w0=> ?_;refine ah [0,1] rfl ?_;refine ae (aa 1 rfl (ab [0,1] ?_));refine ae (cL ag rfl fO rfl rfl (bh fO rfl (vr 1 ?_)));obtain⟨ti,aj,ak⟩:=eD;refine aH (.inl ⟨rfl,rfl⟩) rfl rfl rfl aj ak rfl rfl rfl (ab [0,1,5,6] ?_);refine ao (ae (aa 2 rfl (aW ag rfl rfl rfl (aR ag rfl rfl rfl (show cell H _=some (.slice Ab m cb)from by rw[←du];exact h.mH) ?_))));refine aa 2 rfl (ab [0,1,5,6,17,18] ?_);refine aE (fY (fun(y:IM)=>m-y.i) (fun(y:IM)=>put (put (put (put (put (put (emp) 0 (.val (.pointer (some ⟨g,0,none⟩)))) 1 (.val (.int .i64 (c:Int)))) 5 (.val (.int .i64 y.z))) 6 (.box [.int .i64 y.a,.int .i64 y.b])) 17 (.val (.int .i64 (m:Int)))) 18 (.val (.int .i64 (y.i:Int)))) (fun(y:IM) H'=>fR G.gs g H H'∧H' g=some ⟨[.slice G.Ar R G.cr,G.bv,.bool y.o],3,135,true⟩∧y.i≤m∧Si o M B (W-1) c y) ⟨0,-1,0,0,o⟩ (⟨(Kept.refl _ _).iF _,h.st,Nat.zero_le _,fun h9=>h9,.inl ⟨rfl,fun i hi=>absurd hi (Nat.not_lt_zero _)⟩⟩) ar ?_);rintro y H2 ⟨fy,ET,hym,hI⟩;have bU:=h.uR fy ET;obtain⟨xs2,fN,MG,eS⟩:=bU.rk;refine ae (aa 1 rfl (ab [0,1,5,6,17,18,19] ?_))
 refine ao (aD rfl (fun hb=> ?_) (fun hb=> ?_))
 ·
  have aP:y.i<m:=by simpa using hb
  obtain⟨pi,cU⟩:=h.cY.get (show y.i<R by omega);obtain⟨xi,si,sY,ya⟩:=bU.row cU;obtain⟨n1,d1,iV,jb,i1,i2,i3,i4,vp⟩:=mI ya hc;obtain⟨n2,d2,jK,mU,j1,j2,j3,j4,dT⟩:=mI ya (show W-1<W by omega);refine az (ah [0,1,5,6,17,18] rfl ?_);refine ao (aE (ae (aa 2 rfl (ab [0,1,5,6,7,17,18] ?_))));refine ao (ae (aa 2 rfl (aW ag rfl rfl rfl (aR ag rfl rfl rfl (bU.iP) (aa 1 rfl (aS ag rfl rfl rfl rfl rfl (MG) (by rw[Int.toNat_natCast];exact eS y.i pi cU) (by omega) (by omega) fun _=> ?_))))));refine aa 1 rfl (ki ag rfl rfl rfl rfl rfl rfl rfl (dQ sY) (by rw[Int.toNat_natCast];exact jb 0 _ rfl) (by omega) (by omega) fun _ _=> ?_);refine aa 1 rfl (ab [0,1,5,6,7,17,18,32] ?_);refine aD rfl (fun hb=> ?_) (fun hb=> ?_)
  ·
   have hb:n1≤0:=by simpa using hb
   refine aX (ah [0,1,5,6,17,18] rfl ?_);refine aA rfl (aF rfl rfl ⟨by omega,by omega⟩ (aa 1 rfl (au ?_)));exact⟨⟨y.i+1,y.z,y.a,y.b,y.o⟩,(show m-(y.i+1)<m-y.i by omega),ar,fy,ET,(show y.i+1≤m by omega),ajI hI (by rw[vp];have:=(aao (n:=n1) i3).1;grind)⟩
  ·
   have hb:0<n1:=by simpa using hb
   have fg:0<M y.i c:=by rw[vp];exact(aao i3).2 hb
   have m1:=xS (a:=n2) (b:=d1) j1 j2 (by omega) i4;have m2:=xS (a:=d2) (b:=n1) (by omega) j4 (by omega) i2;have m3:=Ml (a:=d2) (b:=n1) j3 (by omega);refine az (ah [0,1,5,6,7,17,18] rfl ?_);refine bM (.pg [8,9]) [0,1,2,3,4,5,6,7,8,9,10,11,12,13,14,15,16,17,18,19,20,21,22,23,24,25,26,27,28,29,30,31] follows (gL [0,1,3,7,0,31,63,0,128,384,896,0,3968,8064,16256,32640,65535,131071,0,262144,786432,1835008,0,8126464,16515072,0,66846720,133955584,0,0,805568511,2147483647] (by kernel_rfl)) ?_;refine aa 2 rfl (aW ag rfl rfl rfl (aR ag rfl rfl rfl (bU.iP) (aa 1 rfl (aS ag rfl rfl rfl rfl rfl (MG) (by rw[Int.toNat_natCast];exact eS y.i pi cU) (by omega) (by omega) fun _=> ?_))));refine aa 2 rfl (aW ag rfl rfl rfl (aR ag rfl rfl rfl (bU.iP) (aa 1 rfl (aS ag rfl rfl rfl rfl rfl (MG) (by rw[Int.toNat_natCast];exact eS y.i pi cU) (by omega) (by omega) fun _=> ?_))));refine aa 1 rfl (cQ rfl rfl ⟨by omega,by omega⟩ (cj (vs:=[.int .i64 n2,.int .i64 d2]) ag rfl rfl rfl rfl (dQ sY) rfl (by decide) (by rw[show ((W:Int)-1).toNat=W-1 by omega];exact mU) (by omega) (by omega) fun _=> ?_));refine aa 2 rfl (aW ag rfl rfl rfl ?_)
   refine aR ag rfl rfl rfl (bU.iP) (aa 1 rfl (aS ag rfl rfl rfl rfl rfl (MG) (by rw[Int.toNat_natCast];exact eS y.i pi cU) (by omega) (by omega) fun _=> ?_));refine aa 1 rfl (cj (vs:=[.int .i64 n1,.int .i64 d1]) ag rfl rfl rfl rfl (dQ sY) rfl (by decide) (by rw[Int.toNat_natCast];exact jb) (by omega) (by omega) fun _=> ?_);refine bh fO rfl (bh fO rfl ?_);obtain⟨ti,aj,ak⟩:=eD;refine aH (.inl ⟨rfl,rfl⟩) rfl rfl rfl aj ak rfl rfl rfl ?_;obtain⟨ti,aj,ak⟩:=eD;refine aH (.inl ⟨rfl,rfl⟩) rfl rfl rfl aj ak rfl rfl rfl (ab [0,1,5,6,7,8,9,17,18] ?_);refine ae (aa 5 rfl (gO rfl rfl ⟨by omega,by omega⟩ (aa 4 rfl (gO rfl rfl ⟨by omega,by omega⟩ (aC rfl rfl (RI bU.mem ET (n:=n2*d1) (d:=d2*n1) (by omega) (by omega) m3 (by omega)) ?_)))));rintro v8 H8 ⟨qT,vs8,o8,xq,rfl,MH,sZ,eQ⟩;obtain⟨xn,xd,rfl,x1,x2,x3,x4,hxq⟩:=id MH;refine bh fO rfl ?_;obtain⟨ti,aj,ak⟩:=eD;refine aH (.inl ⟨rfl,rfl⟩) rfl rfl rfl aj ak rfl rfl rfl (ab [0,1,5,6,7,10,17,18] ?_);have EU:=fy.trans qT
   have nt:o8=false→xq=M y.i (W-1)/M y.i c:=fun h9=>by rw[(eQ h9).2,ajH j3 i3 hb,←vp,←dT]
   have zT:=h.uR EU sZ;refine ae (aa 1 rfl (ab [0,1,5,6,7,10,11,17,18] ?_));refine kM (fun(s:Int)=>put (put (put (put (put (put (put (put (put (emp) 0 (.val (.pointer (some ⟨g,0,none⟩)))) 1 (.val (.int .i64 (c:Int)))) 5 (.val (.int .i64 y.z))) 6 (.box [.int .i64 y.a,.int .i64 y.b])) 7 (.val (.int .i64 (y.i:Int)))) 10 (.box [.int .i64 xn,.int .i64 xd])) 11 (.val (.int .i64 s))) 17 (.val (.int .i64 (m:Int)))) 18 (.val (.int .i64 (y.i:Int)))) (fun(s:Int) H'=>H'=H8∧((y.z = -1∧s = -1∧∀i,i<y.i→M i c≤0)∨∃(r:Nat)(q:Rat),y.z=(r:Int)∧r<y.i∧0<M r c∧fu [.int .i64 y.a,.int .i64 y.b] q∧(y.o=false→Lst M B (W-1) c y.i r q)∧(s<0↔xq<q)∧(s=0↔xq=q))) ?_ ?_
   ·
    refine ae (aa 2 rfl (ab [0,1,5,6,7,10,11,17,18,74] ?_));refine aD rfl (fun hb=> ?_) (fun hb=> ?_)
    ·
     have hb:0≤y.z:=by simpa using hb
     obtain⟨r,q,ez,yb,cW,kC,hL⟩:∃(r:Nat)(q:Rat),y.z=(r:Int)∧r<y.i∧0<M r c∧fu [.int .i64 y.a,.int .i64 y.b] q∧(y.o=false→Lst M B (W-1) c y.i r q):=by
      rcases hI.2 with ⟨ez,_⟩ | h9
      ·omega
      ·exact h9
     obtain⟨a9,b9,e9,y1,y2,y3,y4,Lv⟩:=id kC
     simp only[List.cons.injEq,Value.int.injEq,true_and,and_true]at e9
     obtain⟨rfl,rfl⟩:=e9;have m4:=xS (a:=xn) (b:=y.b) x1 x2 (by omega) y4;have m5:=xS (a:=y.a) (b:=xd) y1 y2 (by omega) x4;refine aA rfl (aa 4 rfl (gO rfl rfl ⟨by omega,by omega⟩ (aa 4 rfl (gO rfl rfl ⟨by omega,by omega⟩ (cQ rfl rfl ⟨by omega,by omega⟩ (aa 1 rfl (au ?_)))))));exact⟨_,ar,rfl,.inr ⟨r,q,ez,yb,cW,kC,hL,by rw[hxq,Lv];exact(aap x3 y3).1,by rw[hxq,Lv];exact(aap x3 y3).2⟩⟩
    have hb:y.z<0:=by simpa using hb
    refine az ?_
    skip
    rcases hI.2 with ⟨ez,fT⟩ | ⟨r,q,ez,_⟩
    ·exact⟨_,ar,rfl,.inl ⟨ez,rfl,fT⟩⟩
    ·omega
   rintro s H9 ⟨e9,hs⟩;rw[e9];clear e9 H9;obtain⟨ez,es,fT⟩ | ⟨r,q,ez,yb,cW,kC,hL,j7,Cw⟩:=hs
   ·
    skip
    refine bM .bJ [0,1,2,3,4,5,6,7,8,9,10,11,12,13,14,15,16,17,18,19,20,21,22] follows (gL [0,1,3,7,15,31,63,127,255,511,63,2047,4095,63,8255,24639,57407,63,254015,516159,1048575,2097151,4194303] (by kernel_rfl)) ?_;refine aa 1 rfl (aG true rfl rfl (ja (by omega)) (aa 21 rfl (ab [0,1,5,6,7,10,17,18,108] ?_)));refine cK rfl (eo .bJ [0,1,2,3] follows (by kernel_rfl) ?_);refine vr 3 ?_;obtain⟨ti,aj,ak⟩:=eD;refine aH (.inl ⟨rfl,rfl⟩) rfl rfl rfl aj ak rfl rfl rfl (au (ah [0,1,5,6,17,18] rfl ?_));refine aA rfl (aF rfl rfl ⟨by omega,by omega⟩ (aa 1 rfl (au ?_)));exact⟨⟨y.i+1,y.i,xn,xd,o8⟩,(show m-(y.i+1)<m-y.i by omega),ar,EU,sZ,(show y.i+1≤m by omega),fun h9=>hI.1 (eQ h9).1,.inr ⟨y.i,xq,rfl,Nat.lt_succ_self _,fg,MH,fun h9=>aan fT (nt h9)⟩⟩
   skip
   by_cases g1:s<0
   ·
    skip
    refine bM .bJ [0,1,2,3,4,5,6,7,8,9,10,11,12,13,14,15,16,17,18,19,20,21,22] follows (gL [0,1,3,7,15,31,63,127,255,511,63,2047,4095,63,8255,24639,57407,63,254015,516159,1048575,2097151,4194303] (by kernel_rfl)) ?_;refine aa 1 rfl (aG true rfl rfl (ja g1) (aa 21 rfl (ab [0,1,5,6,7,10,17,18,108] ?_)));refine cK rfl (eo .bJ [0,1,2,3] follows (by kernel_rfl) ?_);refine vr 3 ?_;obtain⟨ti,aj,ak⟩:=eD;refine aH (.inl ⟨rfl,rfl⟩) rfl rfl rfl aj ak rfl rfl rfl (au (ah [0,1,5,6,17,18] rfl ?_));refine aA rfl (aF rfl rfl ⟨by omega,by omega⟩ (aa 1 rfl (au ?_)));exact⟨⟨y.i+1,y.i,xn,xd,o8⟩,(show m-(y.i+1)<m-y.i by omega),ar,EU,sZ,(show y.i+1≤m by omega),fun h9=>hI.1 (eQ h9).1,.inr ⟨y.i,xq,rfl,Nat.lt_succ_self _,fg,MH,fun h9=>MF (hL (eQ h9).1) (nt h9) (.inl (j7.1 g1))⟩⟩
   skip
   by_cases g2:s=0
   ·
    skip
    by_cases g3:B y.i<B r
    ·
     skip
     refine bM .bJ [0,1,2,3,4,5,6,7,8,9,10,11,12,13,14,15,16,17,18,19,20,21,22] follows (gL [0,1,3,7,15,31,63,127,255,511,63,2047,4095,63,8255,24639,57407,63,254015,516159,1048575,2097151,4194303] (by kernel_rfl)) ?_;refine aa 1 rfl (aG false rfl rfl (ia (by omega)) (aa 2 rfl (aG true rfl rfl (iL g2) (aa 3 rfl (aW ag rfl rfl rfl (aR ag rfl rfl rfl (show cell H8 _=some (.slice Ab m cb)from by rw[←du];exact zT.mH) ?_))))));refine aa 1 rfl (aS ag rfl rfl rfl rfl rfl (fG _ _ zT y.i aP) (by rw[Int.toNat_natCast];exact gI aP) (by omega) (by omega) fun _=> ?_);refine aa 2 rfl (aW ag rfl rfl rfl (aR ag rfl rfl rfl (show cell H8 _=some (.slice Ab m cb)from by rw[←du];exact zT.mH) ?_));refine aa 1 rfl (aS ag rfl rfl rfl rfl rfl (fG _ _ zT y.i aP) (by rw[ez,Int.toNat_natCast];exact gI (by omega)) (by omega) (by omega) fun _=> ?_);refine aG true rfl rfl (ja (by omega)) (aa 2 rfl (ab [0,1,5,6,7,10,17,18,108] ?_));refine cK rfl (eo .bJ [0,1,2,3] follows (by kernel_rfl) ?_);refine vr 3 ?_;obtain⟨ti,aj,ak⟩:=eD;refine aH (.inl ⟨rfl,rfl⟩) rfl rfl rfl aj ak rfl rfl rfl ?_
     refine au (ah [0,1,5,6,17,18] rfl ?_);refine aA rfl (aF rfl rfl ⟨by omega,by omega⟩ (aa 1 rfl (au ?_)));exact⟨⟨y.i+1,y.i,xn,xd,o8⟩,(show m-(y.i+1)<m-y.i by omega),ar,EU,sZ,(show y.i+1≤m by omega),fun h9=>hI.1 (eQ h9).1,.inr ⟨y.i,xq,rfl,Nat.lt_succ_self _,fg,MH,fun h9=>MF (hL (eQ h9).1) (nt h9) (.inr ⟨Cw.1 g2,g3⟩)⟩⟩
    skip
    refine bM .bJ [0,1,2,3,4,5,6,7,8,9,10,11,12,13,14,15,16,17,18,19,20,21,22] follows (gL [0,1,3,7,15,31,63,127,255,511,63,2047,4095,63,8255,24639,57407,63,254015,516159,1048575,2097151,4194303] (by kernel_rfl)) ?_;refine aa 1 rfl (aG false rfl rfl (ia (by omega)) (aa 2 rfl (aG true rfl rfl (iL g2) (aa 3 rfl (aW ag rfl rfl rfl (aR ag rfl rfl rfl (show cell H8 _=some (.slice Ab m cb)from by rw[←du];exact zT.mH) ?_))))));refine aa 1 rfl (aS ag rfl rfl rfl rfl rfl (fG _ _ zT y.i aP) (by rw[Int.toNat_natCast];exact gI aP) (by omega) (by omega) fun _=> ?_);refine aa 2 rfl (aW ag rfl rfl rfl (aR ag rfl rfl rfl (show cell H8 _=some (.slice Ab m cb)from by rw[←du];exact zT.mH) ?_));refine aa 1 rfl (aS ag rfl rfl rfl rfl rfl (fG _ _ zT y.i aP) (by rw[ez,Int.toNat_natCast];exact gI (by omega)) (by omega) (by omega) fun _=> ?_);refine aG false rfl rfl (ia (by omega)) (aa 2 rfl (ab [0,1,5,6,7,10,17,18,108] ?_));refine dh rfl (az (ah [0,1,5,6,17,18] rfl ?_));refine aA rfl (aF rfl rfl ⟨by omega,by omega⟩ (aa 1 rfl (au ?_)));exact⟨⟨y.i+1,y.z,y.a,y.b,o8⟩,(show m-(y.i+1)<m-y.i by omega),ar,EU,sZ,(show y.i+1≤m by omega),fun h9=>hI.1 (eQ h9).1,.inr ⟨r,q,ez,Nat.lt_succ_of_lt yb,cW,kC,fun h9=>ME (hL (eQ h9).1) (nt h9) (.inr ⟨Cw.1 g2,g3⟩)⟩⟩
   skip
   refine bM .bJ [0,1,2,3,4,5,6,7,8,9,10,11,12,13,14,15,16,17,18,19,20,21,22] follows (gL [0,1,3,7,15,31,63,127,255,511,63,2047,4095,63,8255,24639,57407,63,254015,516159,1048575,2097151,4194303] (by kernel_rfl)) ?_;refine aa 1 rfl (aG false rfl rfl (ia (by omega)) (aa 2 rfl (aG false rfl rfl (ks g2) (aa 18 rfl (ab [0,1,5,6,7,10,17,18,108] ?_)))));refine dh rfl (az (ah [0,1,5,6,17,18] rfl ?_));refine aA rfl (aF rfl rfl ⟨by omega,by omega⟩ (aa 1 rfl (au ?_)));exact⟨⟨y.i+1,y.z,y.a,y.b,o8⟩,(show m-(y.i+1)<m-y.i by omega),ar,EU,sZ,(show y.i+1≤m by omega),fun h9=>hI.1 (eQ h9).1,.inr ⟨r,q,ez,Nat.lt_succ_of_lt yb,cW,kC,fun h9=>ME (hL (eQ h9).1) (nt h9) (.inl (by have k1:¬xq<q:=fun k=>g1 (j7.2 k);have k2:¬xq=q:=fun k=>g2 (Cw.2 k);grind))⟩⟩
 ·
  have aP:m≤y.i:=by simpa using hb
  have aP:y.i=m:=by omega
  refine aX (ah [5] rfl ?_);refine ae (aa 2 rfl (ab [4] ?_));refine aB ⟨.inr rfl,_,.tmp rfl (.nil),?_⟩;refine⟨y.z,y.o,rfl,fy,ET,hI.1,?_⟩;have h2:=hI.2;rw[aP]at h2
  rcases h2 with h9 | ⟨r,q,k1,k2,k3,_,k5⟩
  ·exact .inl h9
  ·exact .inr ⟨r,k1,k2,k3,fun h9=>⟨q,k5 h9⟩⟩
end Go.aq
namespace Go.aq
open Go.Proofs Num Lp
structure gW(M:Nat→Nat→Rat)(B:Nat→Nat)(T:av)(m W:Nat):Prop where
 em:T.m=m
 en:T.n+1=W
 eA:∀i,i<m→∀j,j<W→M i j=T.A i j
 ec:∀j,j<W→M m j=T.c j
 eB:∀i,i<m→B i=T.B i
section
variable {M M':Nat→Nat→Rat} {B:Nat→Nat} {T:av} {m W u r s:Nat} {q:Rat}
theorem gW.Gl(h:gW M B T m W)(hu:u<W)(hs:s<u)(fV:M m s<0)(hf:∀j,j<s→0≤M m j)(hr:r<m)(hp:0<M r s)(hl:Lst M B (W-1) s m r q):T.oL u r s:=by
 have en:W-1=T.n:=by have:=h.en;omega
 have hn:=h.en
 refine⟨hs,by rw[←h.ec s (by omega)];exact fV,fun j hj=>by rw[←h.ec j (by omega)];exact hf j hj,by rw[h.em];exact hr,by rw[←h.eA r hr s (by omega)];exact hp,fun i hi cU=> ?_⟩
 rw[h.em]at hi
 have h1:=hl.2 i hi (by rw[h.eA i hi s (by omega)];exact cU)
 rw[hl.1,en,h.eA i hi _ (by omega),h.eA i hi _ (by omega),h.eA r hr _ (by omega),h.eA r hr _ (by omega),h.eB r hr,h.eB i hi]at h1
 exact h1
theorem gW.pivot(h:gW M B T m W)(hr:r<m)(hs:s<W)(hM:∀i,i<m+1→∀j,j<W→M' i j=lZ M r s i j):gW M' (fun i=>if i=r then s else B i) (T.pivot r s) m W:=by
 refine⟨h.em,h.en,fun i hi j hj=> ?_,fun j hj=> ?_,fun i hi=> ?_⟩
 ·rw[hM i (by omega) j hj]
  show _=if i=r then T.A r j/T.A r s else T.A i j-T.A i s*(T.A r j/T.A r s)
  unfold lZ
  rw[h.eA r hr j hj,h.eA r hr s hs,h.eA i hi j hj,h.eA i hi s hs]
 ·rw[hM m (by omega) j hj]
  show _=T.c j-T.c s*(T.A r j/T.A r s)
  unfold lZ
  rw[if_neg (by omega),h.eA r hr j hj,h.eA r hr s hs,h.ec j hj,h.ec s hs]
 ·show _=if i=r then s else T.B i
  by_cases e:i=r
  ·rw[if_pos e,if_pos e]
  ·rw[if_neg e,if_neg e];exact h.eB i hi
end
def Sk(u:Nat)(a b:Option av):Prop:=∃T,b=some T∧(a=none∨∃S,a=some S∧av.Step u S T)
theorem ajK{u:Nat}{T:av}(h:Acc (av.Step u) T):Acc (Sk u) (some T):=by
 induction h with
 | intro T _ ih=>
  refine⟨_,fun a ⟨T',e,ha⟩=> ?_⟩
  cases e
  rcases ha with rfl | ⟨S,rfl,hs⟩
  ·exact⟨_,fun b ⟨T'',e,_⟩=>by cases e⟩
  ·exact ih S hs
theorem ajL{u:Nat}:Acc (Sk u) none:=⟨_,fun b ⟨T'',e,_⟩=>by cases e⟩
def MI(o o1:Bool)(Φ:av→Prop)(M:Nat→Nat→Rat)(B:Nat→Nat)(m W:Nat):Option av→Prop
 | none=>o1=true
 | some T=>o1=false∧o=false∧Φ T∧gW M B T m W
def ajM(o o1:Bool)(Φ:av→Prop)(M:Nat→Nat→Rat)(B:Nat→Nat)(m W u:Nat)(b:Bool):Prop:=o1=false→o=false∧∃T,Φ T∧gW M B T m W∧(b=true→∀j,j<u→0≤M m j)∧(b=false→∃s,s<u∧M m s<0∧∀i,i<m→M i s≤0)
theorem aaq{o:Bool}{H:Heap}{g:Nat}{G:GG}{W m u:Nat}{M:Nat→Nat→Rat}{B:Nat→Nat}{Φ:av→Prop}{x:Option av}(h:QV o H g G (m+1) W m M B)(hu:u<W)(hm:(m:Int)≤900000)(hW:(W:Int)≤1000000)(dG:∀T r s,Φ T→T.oL u r s→Φ (T.pivot r s))(hx:MI o o Φ M B m W x)(Fw:∀T,x=some T→Acc (av.Step u) T)(hB:∀i,i<m→B i<W):
 Fn Tryz.prog 99 #[.pointer (some ⟨g,0,none⟩),.int .i64 (u:Int)] H (fun v H'=>∃M' B' o' b,v = .bool b∧QV o' H' g G (m+1) W m M' B'∧Heap.le (rem H G.gs) (rem H' G.gs)∧ajM o o' Φ M' B' m W u b∧∀i,i<m→B' i<W):=by
 refine aZ (args:=[_,_]) Tryz.func99 rfl rfl Tryz.ntmps99 rfl rfl fun w0=> ?_;refine ah [0,1] rfl ?_;refine ae (aa 1 rfl (ab [0,1] ?_));refine ao (aE (JQ (γ:=Option av) (Sk u) (fun(y:Option av)=>put (put (emp) 0 (.val (.pointer (some ⟨g,0,none⟩)))) 1 (.val (.int .i64 (u:Int)))) (fun(y:Option av) H'=>∃M1 B1 o1,QV o1 H' g G (m+1) W m M1 B1∧Heap.le (rem H G.gs) (rem H' G.gs)∧MI o o1 Φ M1 B1 m W y∧∀i,i<m→B1 i<W) (x) ((by cases x with | none=>exact ajL | some T=>exact ajK (Fw T rfl))) ar (⟨M,B,o,h,.refl _,hx,hB⟩) ?_));rintro y H1 ⟨M1,B1,o1,h1,fD,hy,zU⟩;obtain⟨xs1,gC,ajN,fH⟩:=h1.rk;obtain⟨pm,s3⟩:=h1.cY.get (Nat.lt_succ_self m);obtain⟨xm,sm,Cx,Cy⟩:=h1.row s3;refine ao (ae (aa 2 rfl (aW ag rfl rfl rfl (aR ag rfl rfl rfl (h1.R1) (aa 1 rfl (ab [0,1,13] ?_))))));refine aD rfl (fun hb=> ?_) (fun hb=> ?_)
 ·
  have hb:o1=false:=by simpa using hb
  subst hb;refine az (ah [0,1] rfl ?_);refine aE (ae (aa 1 rfl (ab [0,1,5] ?_)));refine bM .bJ [0,1,2,3,4,5,6,7,8,9,10,11,12] follows (by kernel_rfl) ?_;refine aa 2 rfl (aW ag rfl rfl rfl (aR ag rfl rfl rfl (h1.iP) (aa 2 rfl (aW ag rfl rfl rfl (aR ag rfl rfl rfl (h1.iP) (aa 1 rfl (cQ rfl rfl ⟨by omega,by omega⟩ (aS ag rfl rfl rfl rfl rfl (ajN) (by rw[show (((m+1:Nat):Int)-1).toNat=m by omega];exact fH m pm s3) (by omega) (by omega) fun _=> ?_))))))));refine aa 1 rfl (ab [0,1,5,6] ?_);refine kM (fun(z:Int)=>put (put (put (emp) 0 (.val (.pointer (some ⟨g,0,none⟩)))) 1 (.val (.int .i64 (u:Int)))) 5 (.val (.int .i64 z))) (fun(z:Int) H'=>H'=H1∧((z = -1∧∀j,j<u→0≤M1 m j)∨∃s:Nat,z=(s:Int)∧s<u∧M1 m s<0∧∀j,j<s→0≤M1 m j)) ?_ ?_
  ·
   refine ae (aa 1 rfl (ab [0,1,5,6,7] ?_));refine aE (gn (fun(k:Nat)(z:Int)=>u-k) (fun(k:Nat)(z:Int)=>put (put (put (put (put (emp) 0 (.val (.pointer (some ⟨g,0,none⟩)))) 1 (.val (.int .i64 (u:Int)))) 5 (.val (.int .i64 z))) 6 (.val (.slice (some ⟨pm.1,0,none⟩) W pm.2))) 7 (.val (.int .i64 (k:Int)))) (fun(k:Nat)(z:Int) H'=>H'=H1∧k≤u∧((z = -1∧∀j,j<k→0≤M1 m j)∨∃s:Nat,z=(s:Int)∧s<u∧M1 m s<0∧∀j,j<s→0≤M1 m j)) 0 (-1) (⟨rfl,Nat.zero_le _,.inl ⟨rfl,fun j hj=>absurd hj (Nat.not_lt_zero _)⟩⟩) ar ?_);rintro k z H2 ⟨e2,Lb,hz⟩;rw[e2];clear e2 H2;refine ao ?_
   by_cases Cz:k<u
   ·
    skip
    by_cases jd:z<0
    ·
     obtain⟨ez,fT⟩:z = -1∧∀j,j<k→0≤M1 m j:=by
      rcases hz with h9 | ⟨s,h9,_⟩
      ·exact h9
      ·omega
     obtain⟨n1,d1,iV,jb,i1,i2,i3,i4,b8⟩:=mI Cy (show k<W by omega);refine ae (aa 2 rfl (aG true rfl rfl (ja (by omega)) (aa 2 rfl (aG true rfl rfl (ja jd) (aa 1 rfl (ab [0,1,5,6,7,32] ?_))))));refine cK rfl (az (ah [0,1,5,6,7] rfl ?_));refine ao (aE (ae (aa 2 rfl (ki ag rfl rfl rfl rfl rfl rfl rfl (dQ Cx) (by rw[Int.toNat_natCast];exact jb 0 _ rfl) (by omega) (by omega) fun _ _=> ?_))));refine aa 1 rfl (ab [0,1,5,6,7,40] ?_);refine aD rfl (fun hb=> ?_) (fun hb=> ?_)
     ·
      have hb:n1<0:=by simpa using hb
      refine aA rfl (aa 2 rfl (au (ah [0,1,5,6,7] rfl ?_)));refine aA rfl (aa 1 rfl (aF rfl rfl ⟨by omega,by omega⟩ (aa 1 rfl (au ?_))));exact⟨k+1,k,by omega,ar,rfl,by omega,.inr ⟨k,rfl,Cz,by rw[b8];exact(Mw i3).2 hb,fT⟩⟩
     have hb:¬n1<0:=by simpa using hb
     refine az (ah [0,1,5,6,7] rfl ?_);refine aA rfl (aa 1 rfl (aF rfl rfl ⟨by omega,by omega⟩ (aa 1 rfl (au ?_))))
     exact⟨k+1,_,by omega,ar,rfl,by omega,.inl ⟨ez,fun j hj=>by
      by_cases ej:j=k
      ·subst ej;rw[b8];have:=(Mw (n:=n1) i3).1;grind
      ·exact fT j (by omega)⟩⟩
    skip
    refine ae (aa 2 rfl (aG true rfl rfl (ja (by omega)) (aa 2 rfl (aG false rfl rfl (ia (by omega)) (aa 1 rfl (ab [0,1,5,6,7,32] ?_))))));refine dh rfl (aX ?_)
    rcases hz with ⟨h9,_⟩ | hz
    ·omega
    ·exact⟨_,ar,rfl,.inr hz⟩
   skip
   refine ae (aa 2 rfl (aG false rfl rfl (ia (by omega)) (aa 4 rfl (ab [0,1,5,6,7,32] ?_))));refine dh rfl (aX ?_)
   rcases hz with ⟨h9,h8⟩ | hz
   ·exact⟨_,ar,rfl,.inl ⟨h9,fun j hj=>h8 j (by omega)⟩⟩
   ·exact⟨_,ar,rfl,.inr hz⟩
  ·
   rintro z H2 ⟨e2,hz⟩;rw[e2];clear e2 H2
   obtain⟨T,rfl,ho,tu,iS⟩:∃T,y=some T∧o=false∧Φ T∧gW M1 B1 T m W:=by
    cases y with
    | none=>cases hy
    | some T=>exact⟨T,rfl,hy.2⟩
   refine ao (ae (aa 2 rfl (ab [0,1,5,43] ?_)));refine aD rfl (fun hb=> ?_) (fun hb=> ?_)
   ·
    have hb:z<0:=by simpa using hb
    obtain⟨_,fT⟩:z = -1∧∀j,j<u→0≤M1 m j:=by
     rcases hz with h9 | ⟨s,h9,_⟩
     ·exact h9
     ·omega
    refine ae (aa 1 rfl (ab [4] ?_));refine aB ⟨.inr rfl,_,.tmp rfl (.nil),?_⟩;exact⟨M1,B1,false,true,rfl,h1,fD,fun _=>⟨ho,T,tu,iS,fun _=>fT,(fun h9=>by cases h9)⟩,zU⟩
   have hb:¬z<0:=by simpa using hb
   obtain⟨s,rfl,IN,mq,CA⟩:∃s:Nat,z=(s:Int)∧s<u∧M1 m s<0∧∀j,j<s→0≤M1 m j:=by
    rcases hz with ⟨h9,_⟩ | h9
    ·omega
    ·exact h9
   refine az (ah [0,1,5] rfl ?_);refine ae (aa 2 rfl (aC rfl rfl (ajJ h1 (by omega) (show s<W by omega) (by omega) hW) ?_));rintro _ H2 ⟨z2,o2,rfl,fy,ET,IP⟩;have h2:=h1.uR fy ET;refine aa 1 rfl (ab [0,1,5,8] ?_);refine ao (ae (aa 2 rfl (ab [0,1,5,8,48] ?_)));refine aD rfl (fun hb=> ?_) (fun hb=> ?_)
   ·
    have hb:z2<0:=by simpa using hb
    have fT:∀i,i<m→M1 i s≤0:=by
     rcases IP.2 with h9 | ⟨r,h9,_⟩
     ·exact h9.2
     ·omega
    refine ae (aa 1 rfl (ab [4] ?_));refine aB ⟨.inr rfl,_,.tmp rfl (.nil),?_⟩;exact⟨M1,B1,o2,false,rfl,h2,fD.trans fy.le,fun h9=>⟨ho,T,tu,iS,(fun h8=>by cases h8),fun _=>⟨s,IN,mq,fT⟩⟩,zU⟩
   have hb:¬z2<0:=by simpa using hb
   obtain⟨r,rfl,kz,cW,hL⟩:∃r:Nat,z2=(r:Int)∧r<m∧0<M1 r s∧(o2=false→∃q,Lst M1 B1 (W-1) s m r q):=by
    rcases IP.2 with ⟨h9,_⟩ | h9
    ·omega
    ·exact h9
   refine az (ah [0,1,5,8] rfl ?_);refine aA rfl (aa 3 rfl (aC rfl rfl (aab h2 kz (by omega) (show s<W by omega) (by grind) (by omega) hW) ?_));rintro v3 H3 ⟨M3,o3,h3,hM3,gH⟩;refine au ?_;have hle:=(fD.trans fy.le).trans gH
   have hB3:∀i,i<m→(if i=r then s else B1 i)<W:=fun i hi=>by
    split
    ·omega
    ·exact zU i hi
   cases o3 with
   | true=>exact⟨none,⟨T,rfl,.inl rfl⟩,ar,M3,_,true,h3,hle,rfl,hB3⟩
   | false=>
    obtain⟨h9,hpM⟩:=hM3 rfl;obtain⟨q,hq⟩:=hL h9;have jM:=iS.Gl hu IN mq CA kz cW hq;exact⟨some (T.pivot r s),⟨T,rfl,.inr ⟨_,rfl,r,s,jM,rfl⟩⟩,ar,M3,_,false,h3,hle,⟨rfl,ho,dG _ _ _ tu jM,iS.pivot kz (by omega) hpM⟩,hB3⟩
 ·
  have hb:o1=true:=by simpa using hb
  subst hb;refine aX (ah [] rfl ?_);refine ae (aa 1 rfl (ab [4] ?_));refine aB ⟨.inr rfl,_,.tmp rfl (.nil),?_⟩;exact⟨M1,B1,true,true,rfl,h1,fD,(fun h9=>by cases h9),zU⟩
end Go.aq
