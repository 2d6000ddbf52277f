/- Three own slices side by side: one of them is changed in place. -/
import Derived.Test.YtfjncmjbhfdnpaaGreatA10
import Derived.Test.YtfjncmjbhfdnpaaGreatGrw3
import Derived.Test.YtfjncmjbhfdnpaaGreatLx1
set_option linter.unusedVariables false
namespace Go.ay
open Go.Proofs Num Lp
def ke(V X D:Value):List Nat:=(aB V++aB X)++aB D
structure ig(N e1 e2:Nat)(H0 H:Heap)(V:Value)(l:List Rat)(xs:List Value)(X:Value)(k:List Rat)(ys:List Value)(D:Value)(j:List (List Rat))(zs:List Value):Prop where
 ov:bU H V e1 3 l.length xs
 ox:bU H X e1 3 k.length ys
 od:bU H D e2 1 j.length zs
 ev:bI (aS N (rem H (ke V X D))) 3 xs l
 ex:bI (aS N (rem H (ke V X D))) 3 ys k
 ed:bI (jC N (rem H (ke V X D))) 1 zs j
 base:Heap.le H0 (rem H (ke V X D))
 vx:∀q,q∈aB V→¬q∈aB X
 vd:∀q,q∈aB V→¬q∈aB D
 xd:∀q,q∈aB X→¬q∈aB D
section
variable {N e1 e2:Nat} {H0 H H':Heap} {V:Value} {l:List Rat} {xs:List Value} {X:Value} {k:List Rat} {ys:List Value} {D:Value} {j:List (List Rat)} {zs:List Value}
theorem aeK{H1 H2:Heap}(hV:fW [] H0 (aS N) e1 3 H1 V l xs)(hX:fW (aB V) H1 (aS N) e1 3 H2 X k ys)(hD:fW (aB V++aB X) H2 (jC N) e2 1 H D j zs):ig N e1 e2 H0 H V l xs X k ys D j zs:=by
 have di:Heap.le H0 (rem H1 (aB V)):=by have:=hV.base;rwa [gn,List.nil_append]at this
 have mD:bI (aS N (rem H1 (aB V))) 3 xs l:=by have:=hV.ka;rwa [List.nil_append]at this
 have eL:∀q,q∈aB V→H q=H1 q:=fun q hq=>(hD.same q (List.mem_append_left _ hq)).trans (hX.same q hq)
 have jN:∀q,q∈aB X→H q=H2 q:=fun q hq=>hD.same q (List.mem_append_right _ hq)
 refine⟨hV.own.same fun q hq=>eL q (cV.2 hq),hX.own.same fun q hq=>jN q (cV.2 hq),hD.own,?_,?_,hD.ka,(di.trans hX.base).trans hD.base,fun q h1 h2=>hX.apart q h1 h2,fun q h1 h2=>hD.apart q (List.mem_append_left _ h1) h2,fun q h1 h2=>hD.apart q (List.mem_append_right _ h1) h2⟩
 ·exact mD.mono fun vs a=>a8 N _ _ vs a (hX.base.trans hD.base)
 ·exact hX.ka.mono fun vs a=>a8 N _ _ vs a hD.base
theorem ig.live(h:ig N e1 e2 H0 H V l xs X k ys D j zs):∀q,q∈ke V X D→H q≠none:=fun q hq=>by
 rcases List.mem_append.1 hq with hq | hq
 ·rcases List.mem_append.1 hq with hq | hq
  ·obtain⟨en,he⟩:=h.ov.block (cV.1 hq);rw[he];simp
  ·obtain⟨en,he⟩:=h.ox.block (cV.1 hq);rw[he];simp
 ·obtain⟨en,he⟩:=h.od.block (cV.1 hq);rw[he];simp
theorem ig.step(h:ig N e1 e2 H0 H V l xs X k ys D j zs)(hs:∀q,q∈ke V X D→H' q=H q)(hl:Heap.le (rem H (ke V X D)) (rem H' (ke V X D))):ig N e1 e2 H0 H' V l xs X k ys D j zs:=
 ⟨h.ov.same fun q hq=>hs q (List.mem_append_left _ (List.mem_append_left _ (cV.2 hq))),h.ox.same fun q hq=>hs q (List.mem_append_left _ (List.mem_append_right _ (cV.2 hq))),h.od.same fun q hq=>hs q (List.mem_append_right _ (cV.2 hq)),
  h.ev.mono fun vs a=>a8 N _ _ vs a hl,h.ex.mono fun vs a=>a8 N _ _ vs a hl,h.ed.mono fun vs a=>fX N _ _ vs a hl,h.base.trans hl,h.vx,h.vd,h.xd⟩
theorem ig.mono(h:ig N e1 e2 H0 H V l xs X k ys D j zs){M:Nat}(hM:N≤M):ig M e1 e2 H0 H V l xs X k ys D j zs:=
 ⟨h.ov,h.ox,h.od,h.ev.mono fun _ _ h=>aS.mono h hM,h.ex.mono fun _ _ h=>aS.mono h hM,h.ed.mono fun _ _ ⟨A,c,h1,h2⟩=>⟨A,c,h1,h2.mono fun _ _ h=>aS.mono h hM⟩,h.base,h.vx,h.vd,h.xd⟩
theorem ig.le(h:ig N e1 e2 H0 H V l xs X k ys D j zs):Heap.le H0 H:=h.base.trans (bG _ _)
theorem ig.sv(h:ig N e1 e2 H0 H V l xs X k ys D j zs):aC (aS N) 3 H V l:=vT.sl ⟨xs,h.ov,h.ev.mono fun vs a=>a8 N _ _ vs a (bG _ _)⟩
theorem ig.sx(h:ig N e1 e2 H0 H V l xs X k ys D j zs):aC (aS N) 3 H X k:=vT.sl ⟨ys,h.ox,h.ex.mono fun vs a=>a8 N _ _ vs a (bG _ _)⟩
theorem ig.sd(h:ig N e1 e2 H0 H V l xs X k ys D j zs):gB N H D j:=vT.sl ⟨zs,h.od,h.ed.mono fun vs a=>fX N _ _ vs a (bG _ _)⟩
theorem ig.aeL(h:ig N e1 e2 H0 H V l xs X k ys D j zs){g c i:Nat}(hV:V = .slice (some ⟨g,0,none⟩) l.length c)(hg:H g=some ⟨xs,c*3,e1,true⟩)(hc:l.length≤c∧c≤maxLen){vs:List Value}{q:Rat}(hi:i<l.length)(hq:aS N (rem H (ke V X D)) vs q)(hl:vs.length=3):ig N e1 e2 H0 (ins H g ⟨aF xs (i*3) vs,c*3,e1,true⟩) V (l.set i q) (aF xs (i*3) vs) X k ys D j zs:=by
 have hb:g∈aB V:=cV.2 (by rw[hV];rfl)
 have hr:rem (ins H g ⟨aF xs (i*3) vs,c*3,e1,true⟩) (ke V X D)=rem H (ke V X D):=cK _ (List.mem_append_left _ (List.mem_append_left _ hb))
 have gT:=h.ev.set hi hq hl
 refine⟨⟨by rw[gT.len],.inr ⟨g,c,by rw[hV,List.length_set],by rw[bT],by rw[List.length_set];exact hc.1,hc.2⟩⟩,h.ox.same fun q hq=>bP _ _ fun e=>h.vx g hb (e▸cV.2 hq),h.od.same fun q hq=>bP _ _ fun e=>h.vd g hb (e▸cV.2 hq),?_,?_,?_,?_,h.vx,h.vd,h.xd⟩
 ·rw[hr];exact gT
 ·rw[hr];exact h.ex
 ·rw[hr];exact h.ed
 ·rw[hr];exact h.base
theorem ig.aeM(h:ig N e1 e2 H0 H V l xs X k ys D j zs){g c i:Nat}(hX:X = .slice (some ⟨g,0,none⟩) k.length c)(hg:H g=some ⟨ys,c*3,e1,true⟩)(hc:k.length≤c∧c≤maxLen){vs:List Value}{q:Rat}(hi:i<k.length)(hq:aS N (rem H (ke V X D)) vs q)(hl:vs.length=3):ig N e1 e2 H0 (ins H g ⟨aF ys (i*3) vs,c*3,e1,true⟩) V l xs X (k.set i q) (aF ys (i*3) vs) D j zs:=by
 have hb:g∈aB X:=cV.2 (by rw[hX];rfl)
 have hr:rem (ins H g ⟨aF ys (i*3) vs,c*3,e1,true⟩) (ke V X D)=rem H (ke V X D):=cK _ (List.mem_append_left _ (List.mem_append_right _ hb))
 have gT:=h.ex.set hi hq hl
 refine⟨h.ov.same fun q hq=>bP _ _ fun e=>h.vx q (cV.2 hq) (e▸hb),⟨by rw[gT.len],.inr ⟨g,c,by rw[hX,List.length_set],by rw[bT],by rw[List.length_set];exact hc.1,hc.2⟩⟩,h.od.same fun q hq=>bP _ _ fun e=>h.xd g hb (e▸cV.2 hq),?_,?_,?_,?_,h.vx,h.vd,h.xd⟩
 ·rw[hr];exact h.ev
 ·rw[hr];exact gT
 ·rw[hr];exact h.ed
 ·rw[hr];exact h.base
theorem ig.aeN(h:ig N e1 e2 H0 H V l xs X k ys D j zs){g c i:Nat}(hD:D = .slice (some ⟨g,0,none⟩) j.length c)(hg:H g=some ⟨zs,c*1,e2,true⟩)(hc:j.length≤c∧c≤maxLen){vs:List Value}{q:List Rat}(hi:i<j.length)(hq:jC N (rem H (ke V X D)) vs q)(hl:vs.length=1):ig N e1 e2 H0 (ins H g ⟨aF zs (i*1) vs,c*1,e2,true⟩) V l xs X k ys D (j.set i q) (aF zs (i*1) vs):=by
 have hb:g∈aB D:=cV.2 (by rw[hD];rfl)
 have hr:rem (ins H g ⟨aF zs (i*1) vs,c*1,e2,true⟩) (ke V X D)=rem H (ke V X D):=cK _ (List.mem_append_right _ hb)
 have gT:=h.ed.set hi hq hl
 refine⟨h.ov.same fun q hq=>bP _ _ fun e=>h.vd q (cV.2 hq) (e▸hb),h.ox.same fun q hq=>bP _ _ fun e=>h.xd q (cV.2 hq) (e▸hb),⟨by rw[gT.len],.inr ⟨g,c,by rw[hD,List.length_set],by rw[bT],by rw[List.length_set];exact hc.1,hc.2⟩⟩,?_,?_,?_,?_,h.vx,h.vd,h.xd⟩
 ·rw[hr];exact h.ev
 ·rw[hr];exact h.ex
 ·rw[hr];exact gT
 ·rw[hr];exact h.base
end
end Go.ay
