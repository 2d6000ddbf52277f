/- Part 0 of the proof: Eng1, Eng2, Eng3, Eng4, Eng5. -/
import Derived.Orders
import Derived.Tactics
import Derived.Maps.AppendAt
import Derived.Laws.OwnMore
import Derived.Laws.MakeOwn
import Derived.Below
set_option linter.unusedVariables false
namespace Go.ay
inductive Slot where
 | val (v:Value)
 | box (cs:List Value)
 | ref (b off:Nat)
abbrev St:=Nat→Option Slot
def emp:St:=fun _=>none
def put(s:St)(d:Nat)(x:Slot):St:=fun t=>cond (Nat.beq t d) (some x) (s t)
def fY(s:St)(d:Nat)(cs:List Value):St:=fun t=>
 cond (Nat.beq t d) (some (.box cs)) (match s t with | some (.ref b o)=>cond (Nat.beq b d) none (some (.ref b o)) | x=>x)
def aY(s:St)(d:Option Nat)(x:Slot):St:=match d with | some d=>put s d x | none=>s
theorem ik(s:St)(d:Nat)(x:Slot):put s d x d=some x:=by simp[put]
theorem fH(s:St){d t:Nat}(x:Slot)(h:t≠d):put s d x t=s t:=by
 have:Nat.beq t d=false:=by
  cases hb:Nat.beq t d with
  | false=>rfl
  | true=>exact absurd (Nat.eq_of_beq_eq_true hb) h
 simp[put,this]
theorem put_comm(s:St){d e:Nat}(x y:Slot)(h:d≠e):put (put s d x) e y=put (put s e y) d x:=by
 funext t
 by_cases h1:t=d
 ·subst h1;rw[fH _ _ h,ik,ik]
 ·by_cases h2:t=e
  ·subst h2;rw[ik,fH _ _ h1,ik]
  ·rw[fH _ _ h2,fH _ _ h1,fH _ _ h1,fH _ _ h2]
structure aQ where
 xs:List Value
 size:Nat
 elem:TypeId
 own:Bool
def aQ.of(e:aQ)(o:Obj):Prop:=
 ∃(c:Array Value)(fz:Nat×Nat),o = .cells c e.elem fz∧c.size=e.size∧(∀(i:Nat)(v:Value),e.xs[i]? = some v→c[i]? = some v)∧(e.own=true→fz=(0,0))
abbrev Heap:=Nat→Option aQ
def Den(H:Heap)(w:World):Prop:=∀g e,H g=some e→∃o,w.heap[g]? = some o∧e.of o
def ins(H:Heap)(g:Nat)(e:aQ):Heap:=fun k=>if k=g then some e else H k
theorem bT(H:Heap)(g:Nat)(e:aQ):ins H g e g=some e:=by simp[ins]
theorem bP(H:Heap){g k:Nat}(e:aQ)(h:k≠g):ins H g e k=H k:=by simp[ins,h]
def aQ.le(e e':aQ):Prop:=e'.size=e.size∧e'.elem=e.elem∧e'.own=e.own∧e.xs <+:e'.xs
def Heap.le(H H':Heap):Prop:=∀g e,H g=some e→∃e',H' g=some e'∧e.le e'
theorem aQ.le.refl(e:aQ):e.le e:=⟨rfl,rfl,rfl,List.prefix_rfl⟩
theorem aQ.le.trans{a b c:aQ}(h:a.le b)(k:b.le c):a.le c:=
 ⟨k.1.trans h.1,k.2.1.trans h.2.1,k.2.2.1.trans h.2.2.1,h.2.2.2.trans k.2.2.2⟩
theorem Heap.le.refl(H:Heap):Heap.le H H:=fun _ e h=>⟨e,h,.refl e⟩
theorem Heap.le.trans{A B C:Heap}(h:Heap.le A B)(k:Heap.le B C):Heap.le A C:=fun g e he=>by
 obtain⟨e',h1,h2⟩:=h g e he
 obtain⟨JS,h3,h4⟩:=k g e' h1
 exact⟨JS,h3,h2.trans h4⟩
theorem Heap.bC{H:Heap}{g:Nat}(e:aQ)(h:H g=none):Heap.le H (ins H g e):=fun k x hk=>
 ⟨x,by rw[bP _ _ (fun e=>by subst e;rw[h]at hk;cases hk)];exact hk,.refl x⟩
theorem JT{l l':List Value}(h:l <+:l'){i:Nat}{v:Value}(hi:l[i]? = some v):l'[i]? = some v:=by
 obtain⟨t,rfl⟩:=h
 rw[List.getElem?_append_left (List.getElem?_eq_some_iff.1 hi).1];exact hi
theorem aQ.le.of{e e':aQ}(h:e.le e'){o:Obj}(ho:e'.of o):e.of o:=by
 obtain⟨c,fz,h1,h2,h3,h4⟩:=ho
 exact⟨c,fz,by rw[h1,h.2.1],by rw[h2,h.1],fun i v hv=>h3 i v (JT h.2.2.2 hv),fun ho=>h4 (h.2.2.1.trans ho)⟩
theorem Den.le{H H':Heap}(h:Heap.le H H'){w:World}(hd:Den H' w):Den H w:=fun g e he=>by
 obtain⟨e',h1,h2⟩:=h g e he
 obtain⟨o,h3,h4⟩:=hd g e' h1
 exact⟨o,h3,h2.of h4⟩
theorem Den.lt{H:Heap}{w:World}(h:Den H w){g:Nat}{e:aQ}(hg:H g=some e):g<w.heap.size:=by
 obtain⟨o,h1,_⟩:=h g e hg
 exact(Array.getElem?_eq_some_iff.1 h1).1
theorem Den.fresh{H:Heap}{w:World}(h:Den H w):H w.heap.size=none:=by
 cases hg:H w.heap.size with
 | none=>rfl
 | some e=>have:=h.lt hg;omega
def cell(H:Heap)(a:Addr):Option Value:=
 match H a.block with
 | some e=>if a.spot.isSome then none else e.xs[a.off]?
 | none=>none
theorem Den.cell{H:Heap}{w:World}(h:Den H w){a:Addr}{v:Value}(hc:cell H a=some v):w.cell? a=some v:=by
 unfold ay.cell at hc
 cases hg:H a.block with
 | none=>rw[hg]at hc;cases hc
 | some e=>
  rw[hg]at hc
  obtain⟨o,h1,c,fz,rfl,h3,h4,_⟩:=h _ _ hg
  simp only at hc
  split at hc
  ·cases hc
  ·rename_i hs
   simp[World.cell?,h1,hs,h4 _ _ hc]
theorem cZ{H H':Heap}(h:Heap.le H H'){a:Addr}{v:Value}(hc:cell H a=some v):cell H' a=some v:=by
 unfold cell at hc⊢
 cases hg:H a.block with
 | none=>rw[hg]at hc;cases hc
 | some e=>
  rw[hg]at hc
  obtain⟨e',h1,h2⟩:=h _ _ hg
  rw[h1]
  simp only at hc⊢
  split at hc
  ·cases hc
  ·rename_i hs
   rw[if_neg hs];exact JT h2.2.2.2 hc
structure Fx(H:Heap)(w:World)(H':Heap)(w':World):Prop where
 os:w'.os=w.os
 tape:w'.tape=w.tape
 output:w'.output=w.output
 size:w.heap.size≤w'.heap.size
 keep:∀g,g<w.heap.size→H g=none→w'.heap[g]? = w.heap[g]?∧H' g=none
 form:∀(g:Nat)(c:Array Value)(t:TypeId)(fz:Nat×Nat),w.heap[g]? = some (.cells c t fz)→∃c',w'.heap[g]? = some (.cells c' t fz)∧c'.size=c.size
theorem Fx.refl(H:Heap)(w:World):Fx H w H w:=⟨rfl,rfl,rfl,Nat.le_refl _,fun _ _ h=>⟨rfl,h⟩,fun _ c _ _ h=>⟨c,h,rfl⟩⟩
theorem Fx.trans{H H' vf:Heap}{w w' Cs:World}(h:Fx H w H' w')(k:Fx H' w' vf Cs):Fx H w vf Cs:=
 ⟨k.os.trans h.os,k.tape.trans h.tape,k.output.trans h.output,Nat.le_trans h.size k.size,fun g hg h0=>by
  have h1:=h.keep g hg h0
  have h2:=k.keep g (Nat.lt_of_lt_of_le hg h.size) h1.2
  exact⟨h2.1.trans h1.1,h2.2⟩,fun g c t fz hc=>by
  obtain⟨c1,h1,h2⟩:=h.form g c t fz hc
  obtain⟨c2,h3,h4⟩:=k.form g c1 t fz h1
  exact⟨c2,h3,h4.trans h2⟩⟩
theorem Fx.JU{w w':World}(h:∀g,g<w.heap.size→w'.heap[g]? = w.heap[g]?):∀(g:Nat)(c:Array Value)(t:TypeId)(fz:Nat×Nat),w.heap[g]? = some (.cells c t fz)→∃c',w'.heap[g]? = some (.cells c' t fz)∧c'.size=c.size:=
 fun g c t fz hc=>⟨c,by rw[h g (Array.getElem?_eq_some_iff.1 hc).1];exact hc,rfl⟩
structure fQ(n:Nat)(s:St)(a:Act):Prop where
 size:a.tmps.size=n
 at_:∀t v,s t=some (.val v)→a.tmps[t]? = some v
structure Rl(n:Nat)(s:St)(H:Heap)(G:Nat→Nat)(a:Act)(w:World):Prop where
 aT:fQ n s a
 boxes:∀t cs,s t=some (.box cs)→a.tmps[t]? = some (.pointer (some ⟨G t,0,none⟩))∧H (G t)=none∧∃e,w.heap[G t]? = some (.cells cs.toArray e (0,0))
 inj:∀t t' cs cG,s t=some (.box cs)→s t'=some (.box cG)→G t=G t'→t=t'
 refs:∀t b off cs,s t=some (.ref b off)→s b=some (.box cs)→a.tmps[t]? = some (.pointer (some ⟨G b,off,none⟩))
 den:Den H w
structure Rel(w0:World)(H0:Heap)(n:Nat)(s:St)(H:Heap)(a:Act)(w:World):Prop where
 defers:a.defers = []
 fits:∃G,Rl n s H G a w∧∀t cs,s t=some (.box cs)→w0.heap.size≤G t
 fx:Fx H0 w0 H w
def ev(s:St):Operand→Option Value
 | .tmp t=>match s t with | some (.val v)=>some v | _=>none
 | .const v=>some v
 | .func f=>some (.func (.func f) #[] #[])
 | .global g=>some (.pointer (some ⟨g,0,none⟩))
theorem bQ{n:Nat}{s:St}{a:Act}(h:fQ n s a){x:Operand}{v:Value}(hx:ev s x=some v):a.eval x=v:=by
 cases x with
 | tmp t=>
  simp only[ev]at hx
  cases hs:s t with
  | none=>rw[hs]at hx;cases hx
  | some y=>
   rw[hs]at hx
   cases y with
   | val u=>
    simp only[Option.some.injEq]at hx
    subst hx
    have:=h.at_ t u hs
    simp[Act.eval,this]
   | box=>cases hx
   | ref=>cases hx
 | const u=>simp only[ev,Option.some.injEq]at hx;exact hx
 | func f=>simp only[ev,Option.some.injEq]at hx;exact hx
 | global g=>simp only[ev,Option.some.injEq]at hx;exact hx
theorem Act.vg(a:Act)(d:Nat)(v:Value)(h:d<a.tmps.size):(a.put (some d) v).tmps[d]? = some v:=by
 simp[Act.put,h]
theorem Act.pH(a:Act){d t:Nat}(v:Value)(h:t≠d):(a.put (some d) v).tmps[t]? = a.tmps[t]? :=by
 simp[Act.put,Array.getElem?_setIfInBounds_ne (Ne.symm h)]
theorem Act.zF(a:Act)(d:Option Tmp)(v:Value):(a.put d v).tmps.size=a.tmps.size:=by
 cases d <;> simp[Act.put]
theorem Act.ON(a:Act)(d:Option Tmp)(v:Value):(a.put d v).defers=a.defers:=by
 cases d <;> rfl
def JV(G:Nat→Nat):Slot→Value→Prop
 | .val v,u=>u=v
 | .ref b off,u=>u = .pointer (some ⟨G b,off,none⟩)
 | .box _,_=>False
theorem Rl.put{n:Nat}{s:St}{H:Heap}{G:Nat→Nat}{a:Act}{w:World}(h:Rl n s H G a w){d:Nat}{x:Slot}{v:Value}(hn:d<n)(hx:JV G x v):
  Rl n (put s d x) H G (a.put (some d) v) w:=by
 have hd:d<a.tmps.size:=by rw[h.aT.size];exact hn
 have nb:∀t cs,ay.put s d x t=some (.box cs)→t≠d∧s t=some (.box cs):=by
  intro t cs ht
  by_cases e:t=d
  ·subst e
   rw[ik]at ht
   simp only[Option.some.injEq]at ht
   subst ht
   exact hx.elim
  ·rw[fH _ _ e]at ht;exact⟨e,ht⟩
 refine⟨⟨by rw[Act.zF];exact h.aT.size,fun t u ht=> ?_⟩,fun t cs ht=> ?_,fun t t' cs cG ht rJ e=> ?_,fun t b off cs ht hb=> ?_,h.den⟩
 ·by_cases e:t=d
  ·subst e
   rw[ik]at ht
   simp only[Option.some.injEq]at ht
   subst ht
   rw[Act.vg _ _ _ hd,hx]
  ·rw[fH _ _ e]at ht
   rw[Act.pH _ _ e];exact h.aT.at_ t u ht
 ·obtain⟨e,ht⟩:=nb t cs ht
  rw[Act.pH _ _ e];exact h.boxes t cs ht
 ·exact h.inj t t' cs cG (nb t cs ht).2 (nb t' cG rJ).2 e
 ·obtain⟨_,hb⟩:=nb b cs hb
  by_cases e:t=d
  ·subst e
   rw[ik]at ht
   simp only[Option.some.injEq]at ht
   subst ht
   rw[Act.vg _ _ _ hd,hx]
  ·rw[fH _ _ e]at ht
   rw[Act.pH _ _ e];exact h.refs t b off cs ht hb
theorem Rl.Ge{n:Nat}{s:St}{H H':Heap}{G:Nat→Nat}{a:Act}{w w':World}(h:Rl n s H G a w)(hd:Den H' w')(hf:Fx H w H' w'):Rl n s H' G a w':=
 ⟨h.aT,fun t cs ht=>by
  obtain⟨h1,h2,e,h3⟩:=h.boxes t cs ht
  obtain⟨h4,h5⟩:=hf.keep (G t) (Array.getElem?_eq_some_iff.1 h3).1 h2
  exact⟨h1,h5,e,h4.trans h3⟩,h.inj,h.refs,hd⟩
theorem Rl.le{n:Nat}{s:St}{H H':Heap}{G:Nat→Nat}{a:Act}{w:World}(h:Rl n s H' G a w)(hl:Heap.le H H'):Rl n s H G a w:=
 ⟨h.aT,fun t cs ht=>by
  obtain⟨h1,h2,h3⟩:=h.boxes t cs ht
  refine⟨h1,?_,h3⟩
  cases hg:H (G t)with
  | none=>rfl
  | some e=>(obtain⟨e',h4,_⟩:=hl _ _ hg;rw[h2]at h4;exact nomatch h4),h.inj,h.refs,h.den.le hl⟩
theorem fQ.back{n:Nat}{s s':St}{a:Act}{d:Nat}(h:fQ n s' a)(hs:∀t v,t≠d→s t=some (.val v)→s' t=some (.val v))(hd:d<n):∃v,fQ n s (a.put (some d) v):=by
 have lJ:d<a.tmps.size:=by rw[h.size];exact hd
 have key:∀v,(∀u,s d=some (.val u)→v=u)→fQ n s (a.put (some d) v):=fun v h1=>
  ⟨by rw[Act.zF];exact h.size,fun t u ht=>by
   by_cases e:t=d
   ·subst e;rw[Act.vg _ _ _ lJ,h1 u ht]
   ·rw[Act.pH _ _ e];exact h.at_ t u (hs t u e ht)⟩
 cases hx:s d with
 | none=>exact⟨undef,key _ (fun u hu=>by rw[hx]at hu;cases hu)⟩
 | some y=>
  cases y with
  | val u=>exact⟨u,key _ (fun u' hu=>by rw[hx]at hu;cases hu;rfl)⟩
  | box cs=>exact⟨undef,key _ (fun u hu=>by rw[hx]at hu;cases hu)⟩
  | ref b o=>exact⟨undef,key _ (fun u hu=>by rw[hx]at hu;cases hu)⟩
theorem Rl.back{n:Nat}{s s':St}{H:Heap}{G:Nat→Nat}{a:Act}{w:World}{d:Nat}(h:Rl n s' H G a w)(hn:∀cs,s d≠some (.box cs))
  (hs:∀t x,t≠d→s t=some x→(∀b o,x = .ref b o→b≠d)→s' t=some x) (hd:d<n):∃v,Rl n s H G (a.put (some d) v) w:=by
 have lJ:d<a.tmps.size:=by rw[h.aT.size];exact hd
 have gN:∀t cs,s t=some (.box cs)→s' t=some (.box cs)∧t≠d:=fun t cs ht=>by
  have e:t≠d:=fun e=>by subst e;exact hn cs ht
  exact⟨hs t _ e ht (fun b o h=>by cases h),e⟩
 have key:∀v,(∀u,s d=some (.val u)→v=u)→(∀b o,s d=some (.ref b o)→v = .pointer (some ⟨G b,o,none⟩))→Rl n s H G (a.put (some d) v) w:=by
  intro v h1 h2
  refine⟨⟨by rw[Act.zF];exact h.aT.size,fun t u ht=> ?_⟩,fun t cs ht=> ?_,fun t t' cs cG ht rJ e=> ?_,fun t b off cs ht hb=> ?_,h.den⟩
  ·by_cases e:t=d
   ·subst e;rw[Act.vg _ _ _ lJ,h1 u ht]
   ·rw[Act.pH _ _ e];exact h.aT.at_ t u (hs t _ e ht (fun b o h=>by cases h))
  ·obtain⟨h3,e⟩:=gN t cs ht
   rw[Act.pH _ _ e];exact h.boxes t cs h3
  ·exact h.inj t t' cs cG (gN t cs ht).1 (gN t' cG rJ).1 e
  ·obtain⟨xe,eb⟩:=gN b cs hb
   by_cases e:t=d
   ·subst e;rw[Act.vg _ _ _ lJ,h2 b off ht]
   ·rw[Act.pH _ _ e]
    exact h.refs t b off cs (hs t _ e ht (fun b' o' h=>by cases h;exact eb)) xe
 cases hx:s d with
 | none=>exact⟨undef,key _ (fun u hu=>by rw[hx]at hu;cases hu) (fun b o hu=>by rw[hx]at hu;cases hu)⟩
 | some y=>
  cases y with
  | val u=>exact⟨u,key _ (fun u' hu=>by rw[hx]at hu;cases hu;rfl) (fun b o hu=>by rw[hx]at hu;cases hu)⟩
  | box cs=>exact absurd hx (hn cs)
  | ref b o=>exact⟨_,key (.pointer (some ⟨G b,o,none⟩)) (fun u hu=>by rw[hx]at hu;cases hu) (fun b' o' hu=>by rw[hx]at hu;cases hu;rfl)⟩
end Go.ay
namespace Go.ay
section
variable (P:Program) (n:Nat)
def Ct(all:Array Oper)(s:St)(o:Oper):Prop:=
 o.guard=none∨∃j want d,o.guard=some (j,want)∧(all[j]?).bind (·.dst)=some d∧s d=some (.val (.bool want))
def OO(all:Array Oper)(s:St)(o:Oper):Prop:=
 ∃j want d v,o.guard=some (j,want)∧(all[j]?).bind (·.dst)=some d∧s d=some (.val v)∧((∃b,v = .bool b∧b≠want)∨∃ts,v = .tuple ts)
def Gf(all:Array Oper)(o:Oper)(s:St)(H:Heap)(v:Value):Prop:=∀a w,fQ n s a→Den H w→
 (Region.wanted o (yielded all a.tmps)=true∧(execOp a.eval o).run P w = .ok (.value v) w)∨(Region.wanted o (yielded all a.tmps)=false∧v=undef)
def zG(all:Array Oper)(o:Oper)(s:St)(H:Heap)(x:Slot):Prop:=∀G a w,Rl n s H G a w→
 ∃v,JV G x v∧Region.wanted o (yielded all a.tmps)=true∧(execOp a.eval o).run P w = .ok (.value v) w
def tk(all:Array Oper)(o:Oper)(s:St)(cs:List Value):Prop:=∀a w,fQ n s a→
 Region.wanted o (yielded all a.tmps)=true∧∃e,(execOp a.eval o).run P w = .ok (.value (.pointer (some ⟨w.heap.size,0,none⟩))) (w.alloc (.cells cs.toArray e (0,0)))
structure OP(w w':World)(g:Nat)(cs:List Value):Prop where
 os:w'.os=w.os
 tape:w'.tape=w.tape
 output:w'.output=w.output
 size:w'.heap.size=w.heap.size
 other:∀k,k≠g→w'.heap[k]? = w.heap[k]?
 new:∃e,w'.heap[g]? = some (.cells cs.toArray e (0,0))
def Gg(all:Array Oper)(o:Oper)(s:St)(b:Nat)(cG:List Value):Prop:=∀H G a w,Rl n s H G a w→
 Region.wanted o (yielded all a.tmps)=true∧∃w',(execOp a.eval o).run P w = .ok .skip w'∧OP w w' (G b) cG
def rK(all:Array Oper)(o:Oper)(s:St)(mk:Nat→Value)(xs:List Value)(e:TypeId):Prop:=∀a w,fQ n s a→
 Region.wanted o (yielded all a.tmps)=true∧(execOp a.eval o).run P w = .ok (.value (mk w.heap.size)) (w.alloc (.cells xs.toArray e (0,0)))
def whole(xs:List Value)(e:TypeId):aQ:=⟨xs,xs.length,e,true⟩
def kI(o:Oper)(ρ:Operand→Value)(w:World)(R:Value→World→Prop):Prop:=
 match (execOp ρ o).run P w with
 | .ok (.value v) w'=>R v w'
 | .ok .skip w'=>R undef w'
 | .ok (.enter f args) w'=>Calls P f args w' fun e Cs=>∃v,e = .returned v∧R v Cs
 | _=>False
def EV(all:Array Oper)(o:Oper)(s:St)(H:Heap)(bt:Value→Heap→Prop):Prop:=∀a w,fQ n s a→Den H w→
 Region.wanted o (yielded all a.tmps)=true∧kI P o a.eval w (fun v w'=>∃H',bt v H'∧Den H' w'∧Fx H w H' w')
inductive Mode where
 | plain | bn | gO | rL
 | e7 (kc:Addr→Option Value)
 | tl (st:List Nat)
def Mode.OQ:Mode→Bool
 | .plain=>true
 | _=>false
def Mode.JW:Mode→Bool
 | .bn=>true
 | .tl _=>true
 | _=>false
def Mode.JX:Mode→Bool
 | .tl _=>true
 | _=>false
def Mode.wr:Mode→Nat→Bool
 | .tl st,b=>st.contains b
 | _,_=>false
def Mode.OR:Mode→Nat→Bool
 | .tl st,b=>st.contains b
 | _,_=>true
def iS(md:Mode)(s s':St):Prop:=∀t,s' t=s t∨(md.wr t=true∧∃c c',s t=some (.box c)∧s' t=some (.box c'))
theorem iS.refl(md:Mode)(s:St):iS md s s:=fun _=> .inl rfl
theorem iS.val{md:Mode}{s s':St}(h:iS md s s'){t:Nat}{x:Slot}(hx:∀c,x≠.box c)(e:s t=some x):s' t=some x:=by
 rcases h t with h1 | ⟨_,c,c',h1,_⟩
 ·rw[h1,e]
 ·rw[e]at h1;exact absurd (Option.some.inj h1) (hx c)
theorem iS.box{md:Mode}{s s':St}(h:iS md s s'){t:Nat}{c:List Value}(e:s t=some (.box c)):∃c',s' t=some (.box c'):=by
 rcases h t with h1 | ⟨_,_,c',_,h1⟩
 ·exact⟨c,by rw[h1,e]⟩
 ·exact⟨c',h1⟩
theorem iS.keep{md:Mode}{s s':St}(h:iS md s s'){t:Nat}(e:md.wr t=false):s' t=s t:=by
 rcases h t with h1 | ⟨h1,_⟩
 ·exact h1
 ·rw[e]at h1;cases h1
def Mode.OS:Mode→Bool
 | .rL=>true
 | _=>false
def Mode.m0:Mode→Bool
 | .e7 _=>true
 | _=>false
def Mode.kc:Mode→Addr→Option Value
 | .e7 k=>k
 | _=>fun _=>none
def Mode.qz(md:Mode)(H:Heap):Prop:=∀ad v,md.kc ad=some v→cell H ad=some v
def ll(s:St)(d:Option Nat):Bool:=
 match d with
 | some d=>(match s d with | some (.box _)=>false | _=>true)
 | none=>true
def xg:Op→Bool
 | .store .. =>true
 | _=>false
def Cu:Op→Bool
 | .load .. | .fieldAddr .. =>true
 | _=>false
def xh:Op→Bool
 | .alloc _ | .box .. =>true
 | _=>false
def xi:Op→Bool
 | .buildSlice .. =>true
 | _=>false
def pI(o:Op):Bool:=xh o||xi o
def Real(H:Heap):Prop:=∃w,Den H w
def qA:Op→Bool
 | .select .. =>false
 | _=>true
def Gh(c:Call):Bool:=
 match c.callee with
 | .builtin .len | .builtin .cap | .builtin .min | .builtin .max=>true
 | _=>false
def kd:Op→Nat
 | .store .. =>2
 | .alloc _ | .box .. | .buildSlice .. =>3
 | .call c=>if Gh c then 0 else 1
 | .makeSlice .. | .go _ | .defer _ | .panic _ | .send .. | .recv .. | .select .. | .mapUpdate .. | .mapEntry .. | .entryStore .. | .insert .. | .makeMap .. | .makeChan .. | .ready _ | .next .. | .range .. =>1
 | _=>0
def Mode.ok(md:Mode)(o:Oper)(H:Heap)(bt:Value→Heap→Prop):Prop:=
 match md with
 | .plain=>True
 | .bn=>xg o.op=false∧∀v H',bt v H'→Heap.le H H'
 | .gO=>xg o.op=true∨∀v H',bt v H'→Heap.le H H'
 | .rL=>True
 | .e7 _=>True
 | .tl _=>xg o.op=false∧∀v H',bt v H'→Heap.le H H'
def Mode.nb(md:Mode)(s:St)(d:Option Nat):Bool:=
 match md with
 | .plain=>true
 | .e7 _=>false
 | _=>match d with
  | some d=>(match s d with | some (.box _)=>false | _=>true)
  | none=>true
def Slot.qB(s:St):Slot→Bool
 | .val _=>true
 | .box _=>false
 | .ref b _=>match s b with | some (.box _)=>true | _=>false
def Gi(md:Mode)(all:Array Oper)(o:Oper)(s:St)(v:Value):Prop:=∀a w,fQ n s a→(∀ad u,md.kc ad=some u→w.cell? ad=some u)→
 (Region.wanted o (yielded all a.tmps)=true∧(execOp a.eval o).run P w = .ok (.value v) w)∨(Region.wanted o (yielded all a.tmps)=false∧v=undef)
inductive fZ(all:Array Oper)(md:Mode)(o:Oper)(s:St)(H:Heap)(K:St→Heap→Prop):Prop
 | jb (v:Value) (hm:pI o.op=false∨o.guard≠none) (nb:md.nb s o.dst=true) (h:Gf P n all o s H v) (k:K (aY s o.dst (.val v)) H)
 | iT (x:Slot) (hm:Cu o.op=true) (nb:md.nb s o.dst=true) (hx:x.qB s=true) (h:∀s',iS md s s'→zG P n all o s' H x) (k:K (aY s o.dst x) H)
 | jc (d:Nat) (hd:o.dst=some d) (hm:xh o.op=true) (nb:md.nb s o.dst=true) (cs:List Value) (h:tk P n all o s cs) (k:K (fY s d cs) H)
 | ln (b:Nat) (cs cG:List Value) (hd:o.dst=none) (hm:xg o.op=true) (hb:s b=some (.box cs)) (hw:md.OR b=true) (h:Gg P n all o s b cG) (k:K (put s b (.box cG)) H)
 | fresh (mk:Nat→Value) (xs:List Value) (e:TypeId) (hm:xi o.op=true∨(md = .plain∧xh o.op=true)) (nb:md.nb s o.dst=true) (h:rK P n all o s mk xs e) (k:∀g,H g=none→Real (ins H g (whole xs e))→K (aY s o.dst (.val (mk g))) (ins H g (whole xs e)))
 | il (bt:Value→Heap→Prop) (ha:kd o.op=1∨kd o.op=2∨md = .plain) (nb:md.nb s o.dst=true) (h:EV P n all o s H bt) (hm:md.ok o H bt) (k:∀v H',bt v H'→Real H'→K (aY s o.dst (.val v)) H')
 | lq (v:Value) (hk:md.m0=true) (hm:pI o.op=false) (nb:ll s o.dst=true) (hc:md.qz H) (h:Gi P n md all o s v) (k:K (aY s o.dst (.val v)) H)
 | m5 (mk:Nat→Value) (xs:List Value) (e:TypeId) (hk:md.m0=true) (hm:xi o.op=true) (nb:ll s o.dst=true) (h:rK P n all o s mk xs e) (k:∀g,H g=none→Real (ins H g (whole xs e))→K (aY s o.dst (.val (mk g))) (ins H g (whole xs e)))
 | lK (bt:Value→Heap→Prop) (hk:md.m0=true) (ha:kd o.op=1∨kd o.op=2) (nb:ll s o.dst=true) (h:EV P n all o s H bt) (hm:xg o.op=true∨∀v H',bt v H'→md.qz H') (k:∀v H',bt v H'→Real H'→K (aY s o.dst (.val v)) H')
end
theorem kI.mono{P:Program}{o:Oper}{ρ:Operand→Value}{w:World}{R R':Value→World→Prop}(h:kI P o ρ w R)(hr:∀v w',R v w'→R' v w'):kI P o ρ w R':=by
 unfold kI at h⊢
 split at h
 ·exact hr _ _ h
 ·exact hr _ _ h
 ·exact h.mono fun e w' ⟨v,he,h⟩=>⟨v,he,hr _ _ h⟩
 ·exact h
theorem kI.wp{P:Program}{o:Oper}{a:Act}{w:World}{R:Value→World→Prop}{K:Act→World→Prop}{Q:Exit→Act→World→Prop}(h:kI P o a.eval w R)(hk:∀v w',R v w'→K (a.put o.dst v) w'):o.wp P a w K Q:=by
 unfold kI at h
 unfold Oper.wp
 split at h
 ·rename_i v w' e;rw[e];exact hk _ _ h
 ·rename_i w' e;rw[e];exact hk _ _ h
 ·rename_i f args w' e;rw[e]
  exact h.mono fun e w' ⟨v,he,h⟩=>by subst he;exact hk _ _ h
 ·exact h.elim
section sound
variable {P:Program} {all:Array Oper} {md:Mode} {o:Oper} {s:St} {H:Heap} {K:St→Heap→Prop} {w0:World} {H0:Heap} {n:Nat} {a:Act} {w:World}
theorem jd(h:fQ n s a)(hr:Ct all s o):Region.wanted o (yielded all a.tmps)=true:=by
 rcases hr with hg | ⟨j,want,d,hg,hd,hs⟩
 ·simp[Region.wanted,hg]
 ·have:=h.at_ d _ hs
  simp[Region.wanted,hg,yielded,hd,this]
theorem Wf(h:fQ n s a)(hr:OO all s o):Region.wanted o (yielded all a.tmps)=false:=by
 obtain⟨j,want,d,v,hg,hd,hs,bD⟩:=hr
 have:=h.at_ d _ hs
 rcases bD with ⟨b,rfl,bD⟩ | ⟨ts,rfl⟩
 ·simp[Region.wanted,hg,yielded,hd,this,bD]
 ·simp[Region.wanted,hg,yielded,hd,this]
theorem Rel.put(h:Rel w0 H0 n s H a w){d:Option Nat}(hd:∀k,d=some k→k<n){x:Slot}{v:Value}{G:Nat→Nat}(hl:Rl n s H G a w)(hb:∀t cs,s t=some (.box cs)→w0.heap.size≤G t)(hx:JV G x v):
  Rel w0 H0 n (aY s d x) H (a.put d v) w:=by
 cases d with
 | none=>exact⟨h.defers,⟨G,hl,hb⟩,h.fx⟩
 | some d=>
  refine⟨by rw[Act.ON];exact h.defers,⟨G,hl.put (hd d rfl) hx,fun t cs ht=> ?_⟩,h.fx⟩
  by_cases e:t=d
  ·subst e
   rw[show aY s (some t) x=ay.put s t x from rfl,ik]at ht
   simp only[Option.some.injEq]at ht
   subst ht
   exact hx.elim
  ·rw[show aY s (some d) x=ay.put s d x from rfl,fH _ _ e]at ht
   exact hb t cs ht
theorem qC(s:St)(d:Nat)(cs:List Value):fY s d cs d=some (.box cs):=by simp[fY]
def rM(d:Nat):Option Slot→Option Slot
 | some (.ref b o)=>cond (Nat.beq b d) none (some (.ref b o))
 | x=>x
theorem nQ(s:St){d t:Nat}(cs:List Value)(h:t≠d):fY s d cs t=rM d (s t):=by
 have:Nat.beq t d=false:=by
  cases hb:Nat.beq t d with
  | false=>rfl
  | true=>exact absurd (Nat.eq_of_beq_eq_true hb) h
 unfold fY
 rw[this]
 cases hs:s t with
 | none=>rfl
 | some x=>cases x <;> rfl
theorem JY{s:St}{d t:Nat}{cs:List Value}{v:Value}(h:fY s d cs t=some (.val v)):t≠d∧s t=some (.val v):=by
 have e:t≠d:=fun e=>by subst e;rw[qC]at h;cases h
 refine⟨e,?_⟩
 rw[nQ _ _ e]at h
 unfold rM at h
 split at h
 ·rename_i b o' _
  cases hb:Nat.beq b d <;> rw[hb]at h <;> cases h
 ·exact h
theorem Wg{s:St}{d t b off:Nat}{cs:List Value}(h:fY s d cs t=some (.ref b off)):t≠d∧b≠d∧s t=some (.ref b off):=by
 have e:t≠d:=fun e=>by subst e;rw[qC]at h;cases h
 rw[nQ _ _ e]at h
 unfold rM at h
 split at h
 ·rename_i b' o' hs
  cases hb:Nat.beq b' d with
  | true=>rw[hb]at h;cases h
  | false=>
   rw[hb]at h
   simp only[cond_false,Option.some.injEq,Slot.ref.injEq]at h
   obtain⟨rfl,rfl⟩:=h
   exact⟨e,(fun e=>by subst e;rw[Nat.beq_refl]at hb;cases hb),hs⟩
 ·rename_i hn
  exact absurd h (hn b off)
theorem pJ{s:St}{d t:Nat}{cs cG:List Value}(h:fY s d cs t=some (.box cG)):(t=d∧cG=cs)∨(t≠d∧s t=some (.box cG)):=by
 by_cases e:t=d
 ·subst e
  rw[qC]at h
  simp only[Option.some.injEq,Slot.box.injEq]at h
  exact .inl ⟨rfl,h.symm⟩
 ·refine .inr ⟨e,?_⟩
  rw[nQ _ _ e]at h
  unfold rM at h
  split at h
  ·rename_i b o' _
   cases hb:Nat.beq b d <;> rw[hb]at h <;> cases h
  ·exact h
theorem Den.alloc{H:Heap}{w:World}(h:Den H w)(o:Obj):Den H (w.alloc o):=fun g e hg=>by
 obtain⟨o',h1,h2⟩:=h g e hg
 exact⟨o',by rw[RowKit.Below.heap_alloc _ _ _ (h.lt hg)];exact h1,h2⟩
theorem Rl.jc{G:Nat→Nat}(h:Rl n s H G a w){d:Nat}(hn:d<n)(cs:List Value)(e:TypeId):
  Rl n (fY s d cs) H (fun t=>if t=d then w.heap.size else G t) (a.put (some d) (.pointer (some ⟨w.heap.size,0,none⟩))) (w.alloc (.cells cs.toArray e (0,0))):=by
 have hd:d<a.tmps.size:=by rw[h.aT.size];exact hn
 have bH:∀t cs,s t=some (.box cs)→G t<w.heap.size:=fun t cs ht=>by
  obtain⟨_,_,e,h3⟩:=h.boxes t cs ht
  exact(Array.getElem?_eq_some_iff.1 h3).1
 refine⟨⟨by rw[Act.zF];exact h.aT.size,fun t v ht=> ?_⟩,fun t cG ht=> ?_,fun t t' OT OU ht rJ hG=> ?_,fun t b off cG ht hb=> ?_,h.den.alloc _⟩
 ·obtain⟨e1,ht⟩:=JY ht
  rw[Act.pH _ _ e1];exact h.aT.at_ t v ht
 ·rcases pJ ht with ⟨rfl,rfl⟩ | ⟨e1,ht⟩
  ·simp only[if_true]
   exact⟨Act.vg _ _ _ hd,h.den.fresh,e,heap_alloc_new w _⟩
  ·rw[if_neg e1,Act.pH _ _ e1]
   obtain⟨h1,h2,e2,h3⟩:=h.boxes t cG ht
   exact⟨h1,h2,e2,by rw[RowKit.Below.heap_alloc _ _ _ (bH t cG ht)];exact h3⟩
 ·rcases pJ ht with ⟨h1,_⟩ | ⟨e1,h1⟩
  ·rcases pJ rJ with ⟨h2,_⟩ | ⟨e2,h2⟩
   ·rw[h1,h2]
   ·rw[if_pos h1,if_neg e2]at hG
    have:=bH t' OU h2;omega
  ·rcases pJ rJ with ⟨h2,_⟩ | ⟨e2,h2⟩
   ·rw[if_pos h2,if_neg e1]at hG
    have:=bH t OT h1;omega
   ·rw[if_neg e1,if_neg e2]at hG
    exact h.inj t t' OT OU h1 h2 hG
 ·obtain⟨e1,e2,ht⟩:=Wg ht
  rcases pJ hb with ⟨rfl,rfl⟩ | ⟨_,hb⟩
  ·exact absurd rfl e2
  ·rw[if_neg e2,Act.pH _ _ e1]
   exact h.refs t b off cG ht hb
theorem Rl.ln{G:Nat→Nat}(h:Rl n s H G a w){b:Nat}{cs cG:List Value}(hb:s b=some (.box cs)){w':World}(hw:OP w w' (G b) cG):
  Rl n (ay.put s b (.box cG)) H G a w':=by
 have gN:∀t c,ay.put s b (.box cG) t=some (.box c)→∃c',s t=some (.box c')∧((t=b∧c=cG)∨(t≠b∧c=c')):=by
  intro t c ht
  by_cases e:t=b
  ·subst e
   rw[ik]at ht
   simp only[Option.some.injEq,Slot.box.injEq]at ht
   exact⟨cs,hb,.inl ⟨rfl,ht.symm⟩⟩
  ·rw[fH _ _ e]at ht
   exact⟨c,ht,.inr ⟨e,rfl⟩⟩
 refine⟨⟨h.aT.size,fun t v ht=> ?_⟩,fun t c ht=> ?_,fun t t' c1 c2 ht rJ hG=> ?_,fun t b' off c ht xe=> ?_,fun g e hg=> ?_⟩
 ·by_cases e:t=b
  ·subst e;rw[ik]at ht;cases ht
  ·rw[fH _ _ e]at ht;exact h.aT.at_ t v ht
 ·obtain⟨c',hs,hc⟩:=gN t c ht
  obtain⟨h1,h2,e,h3⟩:=h.boxes t c' hs
  rcases hc with ⟨rfl,rfl⟩ | ⟨bD,rfl⟩
  ·exact⟨h1,h2,hw.new⟩
  ·exact⟨h1,h2,e,by rw[hw.other _ (fun hG=>bD (h.inj t b _ _ hs hb hG))];exact h3⟩
 ·obtain⟨Cv,hs,_⟩:=gN t c1 ht
  obtain⟨Wh,lL,_⟩:=gN t' c2 rJ
  exact h.inj t t' Cv Wh hs lL hG
 ·obtain⟨c',hs,_⟩:=gN b' c xe
  by_cases e:t=b
  ·subst e;rw[ik]at ht;cases ht
  ·rw[fH _ _ e]at ht;exact h.refs t b' off c' ht hs
 ·obtain⟨o',h1,h2⟩:=h.den g e hg
  refine⟨o',?_,h2⟩
  rw[hw.other _ (fun hG=> ?_)]
  ·exact h1
  ·obtain⟨_,h3,_⟩:=h.boxes b cs hb
   rw[←hG,hg]at h3;cases h3
theorem fZ.sound(hR:Rel w0 H0 n s H a w)(pK:∀d,o.dst=some d→d<n)(h:fZ P n all md o s H K):
  (Region.wanted o (yielded all a.tmps)=true∧o.wp P a w (fun a' w'=>∃s' H',Rel w0 H0 n s' H' a' w'∧K s' H') (fun _ _ _=>False))∨
  (Region.wanted o (yielded all a.tmps)=false∧∃s' H',Rel w0 H0 n s' H' (a.put o.dst undef) w∧K s' H'):=by
 obtain⟨G,hl,hb⟩:=hR.fits
 cases h with
 | jb v hm nb h k=>
  rcases h a w hl.aT hl.den with ⟨h1,h2⟩ | ⟨h1,h2⟩
  ·refine .inl ⟨h1,?_⟩
   unfold Oper.wp
   rw[h2]
   exact⟨_,_,hR.put (x:= .val v) pK hl hb rfl,k⟩
  ·subst h2
   exact .inr ⟨h1,_,_,hR.put (x:= .val undef) pK hl hb rfl,k⟩
 | iT x hm nb hx h k=>
  obtain⟨v,rN,h1,h2⟩:=h s (.refl _ _) G a w hl
  refine .inl ⟨h1,?_⟩
  unfold Oper.wp
  rw[h2]
  exact⟨_,_,hR.put pK hl hb rN,k⟩
 | jc d hd hm nb cs h k=>
  obtain⟨h1,e,h2⟩:=h a w hl.aT
  refine .inl ⟨h1,?_⟩
  unfold Oper.wp
  rw[h2]
  show ∃s' H',Rel w0 H0 n s' H' (a.put o.dst _) _∧K s' H'
  rw[hd]
  refine⟨_,_,⟨by rw[Act.ON];exact hR.defers,⟨_,hl.jc (pK d hd) cs e,fun t cG ht=> ?_⟩,?_⟩,k⟩
  ·rcases pJ ht with ⟨rfl,rfl⟩ | ⟨e1,ht⟩
   ·simp only[if_true];exact hR.fx.size
   ·rw[if_neg e1];exact hb t cG ht
  ·exact hR.fx.trans ⟨rfl,rfl,rfl,by simp,fun g hg h0=>⟨RowKit.Below.heap_alloc _ _ _ hg,h0⟩,Fx.JU fun g hg=>RowKit.Below.heap_alloc _ _ _ hg⟩
 | ln b cs cG hd hm tm jD h k=>
  obtain⟨h1,w',h2,hw⟩:=h H G a w hl
  refine .inl ⟨h1,?_⟩
  unfold Oper.wp
  rw[h2]
  show ∃s' H',Rel w0 H0 n s' H' (a.put o.dst undef) w'∧K s' H'
  rw[hd]
  refine⟨_,_,⟨hR.defers,⟨G,hl.ln tm hw,fun t c ht=> ?_⟩,?_⟩,k⟩
  ·by_cases e:t=b
   ·subst e;exact hb t cs tm
   ·rw[fH _ _ e]at ht;exact hb t c ht
  ·refine⟨hw.os.trans hR.fx.os,hw.tape.trans hR.fx.tape,hw.output.trans hR.fx.output,by rw[hw.size];exact hR.fx.size,fun g hg h0=> ?_,fun g c t fz hc=> ?_⟩
   ·have h3:=hR.fx.keep g hg h0
    refine⟨?_,h3.2⟩
    rw[hw.other _ (fun e=> ?_)]
    ·exact h3.1
    ·have:=hb b cs tm;omega
   ·obtain⟨c',h3,h4⟩:=hR.fx.form g c t fz hc
    have bH:=(Array.getElem?_eq_some_iff.1 hc).1
    have:=hb b cs tm
    exact⟨c',by rw[hw.other _ (by omega)];exact h3,h4⟩
 | fresh mk xs e hm nb h k=>
  obtain⟨h1,h2⟩:=h a w hl.aT
  refine .inl ⟨h1,?_⟩
  unfold Oper.wp
  rw[h2]
  have je:=hl.den.fresh
  have hd:Den (ins H w.heap.size (whole xs e)) (w.alloc (.cells xs.toArray e (0,0))):=by
   intro g e' hg
   by_cases eg:g=w.heap.size
   ·subst eg
    rw[bT]at hg
    simp only[Option.some.injEq]at hg
    subst hg
    exact⟨_,heap_alloc_new w _,xs.toArray,(0,0),rfl,by simp[whole],fun i v hv=>by simpa [whole]using hv,fun _=>rfl⟩
   ·rw[bP _ _ eg]at hg
    exact hl.den.alloc _ g e' hg
  have hf:Fx H w (ins H w.heap.size (whole xs e)) (w.alloc (.cells xs.toArray e (0,0))):=
   ⟨rfl,rfl,rfl,by simp,fun g hg h0=>⟨RowKit.Below.heap_alloc _ _ _ hg,by rw[bP _ _ (by omega)];exact h0⟩,Fx.JU fun g hg=>RowKit.Below.heap_alloc _ _ _ hg⟩
  have kJ:=hl.Ge hd hf
  have dE:Rel w0 H0 n s (ins H w.heap.size (whole xs e)) a (w.alloc (.cells xs.toArray e (0,0))):=⟨hR.defers,⟨G,kJ,hb⟩,hR.fx.trans hf⟩
  exact⟨_,_,dE.put (x:= .val _) pK kJ hb rfl,k _ je ⟨_,hd⟩⟩
 | il bt ha nb h hm k=>
  obtain⟨h1,h2⟩:=h a w hl.aT hl.den
  refine .inl ⟨h1,h2.wp fun v w' hh=> ?_⟩
  obtain⟨H',hp,hd,hf⟩:=hh
  have kJ:=hl.Ge hd hf
  have dE:Rel w0 H0 n s H' a w':=⟨hR.defers,⟨G,kJ,hb⟩,hR.fx.trans hf⟩
  exact⟨_,_,dE.put (x:= .val v) pK kJ hb rfl,k v H' hp ⟨w',hd⟩⟩
 | lq v ck hm nb hc h k=>
  rcases h a w hl.aT (fun ad u hu=>hl.den.cell (hc ad u hu))with ⟨h1,h2⟩ | ⟨h1,h2⟩
  ·refine .inl ⟨h1,?_⟩
   unfold Oper.wp
   rw[h2]
   exact⟨_,_,hR.put (x:= .val v) pK hl hb rfl,k⟩
  ·subst h2
   exact .inr ⟨h1,_,_,hR.put (x:= .val undef) pK hl hb rfl,k⟩
 | m5 mk xs e ck hm nb h k=>
  obtain⟨h1,h2⟩:=h a w hl.aT
  refine .inl ⟨h1,?_⟩
  unfold Oper.wp
  rw[h2]
  have je:=hl.den.fresh
  have hd:Den (ins H w.heap.size (whole xs e)) (w.alloc (.cells xs.toArray e (0,0))):=by
   intro g e' hg
   by_cases eg:g=w.heap.size
   ·subst eg
    rw[bT]at hg
    simp only[Option.some.injEq]at hg
    subst hg
    exact⟨_,heap_alloc_new w _,xs.toArray,(0,0),rfl,by simp[whole],fun i v hv=>by simpa [whole]using hv,fun _=>rfl⟩
   ·rw[bP _ _ eg]at hg
    exact hl.den.alloc _ g e' hg
  have hf:Fx H w (ins H w.heap.size (whole xs e)) (w.alloc (.cells xs.toArray e (0,0))):=
   ⟨rfl,rfl,rfl,by simp,fun g hg h0=>⟨RowKit.Below.heap_alloc _ _ _ hg,by rw[bP _ _ (by omega)];exact h0⟩,Fx.JU fun g hg=>RowKit.Below.heap_alloc _ _ _ hg⟩
  have kJ:=hl.Ge hd hf
  have dE:Rel w0 H0 n s (ins H w.heap.size (whole xs e)) a (w.alloc (.cells xs.toArray e (0,0))):=⟨hR.defers,⟨G,kJ,hb⟩,hR.fx.trans hf⟩
  exact⟨_,_,dE.put (x:= .val _) pK kJ hb rfl,k _ je ⟨_,hd⟩⟩
 | lK bt ck ha nb h hm k=>
  obtain⟨h1,h2⟩:=h a w hl.aT hl.den
  refine .inl ⟨h1,h2.wp fun v w' hh=> ?_⟩
  obtain⟨H',hp,hd,hf⟩:=hh
  have kJ:=hl.Ge hd hf
  have dE:Rel w0 H0 n s H' a w':=⟨hR.defers,⟨G,kJ,hb⟩,hR.fx.trans hf⟩
  exact⟨_,_,dE.put (x:= .val v) pK kJ hb rfl,k v H' hp ⟨w',hd⟩⟩
end sound
end Go.ay
namespace Go.ay
theorem vh{o:Op}:pI o=true↔kd o=3:=by
 cases o <;> simp[pI,xh,xi,kd]
 split <;> simp
theorem OV{o:Op}(h:kd o=3):(xh o=true∧xi o=false)∨(xh o=false∧xi o=true):=by
 cases o <;> simp[xh,xi,kd]at h⊢
 split at h <;> simp at h
theorem pL{o:Op}:xg o=true↔kd o=2:=by
 cases o <;> simp[xg,kd]
 split <;> simp
theorem zH{o:Op}(h:Cu o=true):kd o=0:=by
 cases o <;> simp[Cu]at h <;> rfl
def Sw(md:Mode)(all:Array Oper)(x y:Oper):Bool:=
 x.apart all y&&qA x.op&&qA y.op &&
 ((kd x.op == 0&&(kd y.op == 0||(kd y.op == 1 && !md.OS)||(kd y.op == 3&&(y.guard.isNone || !md.m0))||(kd y.op == 2&&md.JW&&(md.JX || !Cu x.op)))) ||
  ((kd x.op == 1||kd x.op == 3)&&kd y.op == 3&&y.guard.isNone && !md.m0))
section
variable {P:Program} {n:Nat} {all:Array Oper} {o:Oper}
structure xn(all:Array Oper)(o:Oper)(a b:Act):Prop where
 want:Region.wanted o (yielded all a.tmps)=Region.wanted o (yielded all b.tmps)
 exec:execOp a.eval o=execOp b.eval o
theorem xn.put{a:Act}{d:Nat}(v:Value)(hs:qA o.op=true)(h:d∉o.looksAt all):xn all o (a.put (some d) v) a:=by
 refine⟨wanted_put o a (some d) v (fun e he=>by cases he;exact h),execOp_congr o (fun cs b e=>by rw[e]at hs;cases hs) (fun x hx=> ?_)⟩
 refine Act.eval_put fun e he Wi=> ?_
 cases he
 subst Wi
 exact h (by
  unfold Oper.looksAt
  refine List.mem_append_left _ ?_
  rw[List.mem_filterMap]
  exact⟨_,by simpa using hx,rfl⟩)
theorem xn.refl(a:Act):xn all o a a:=⟨rfl,rfl⟩
def Mv(n:Nat)(all:Array Oper)(o:Oper)(s1 s2:St):Prop:=∀a,fQ n s2 a→∃a1,fQ n s1 a1∧xn all o a1 a
def Cw(n:Nat)(all:Array Oper)(o:Oper)(s1 s2:St):Prop:=∀H G a w,Rl n s2 H G a w→∃a1,Rl n s1 H G a1 w∧xn all o a1 a
variable {s1 s2 s:St} {H H1 H2:Heap}
theorem Gf.move{v:Value}(hm:Mv n all o s1 s2)(hl:Heap.le H1 H2)(h:Gf P n all o s1 H1 v):Gf P n all o s2 H2 v:=fun a w ha hd=>by
 obtain⟨a1,h1,h2⟩:=hm a ha
 rw[←h2.want,←h2.exec]
 exact h a1 w h1 (hd.le hl)
theorem zG.move{x:Slot}(hm:Cw n all o s1 s2)(hl:Heap.le H1 H2)(h:zG P n all o s1 H1 x):zG P n all o s2 H2 x:=fun G a w ha=>by
 obtain⟨a1,h1,h2⟩:=hm H2 G a w ha
 obtain⟨v,h3,h4,h5⟩:=h G a1 w (h1.le hl)
 exact⟨v,h3,by rw[←h2.want];exact h4,by rw[←h2.exec];exact h5⟩
theorem Gi.move{md:Mode}{v:Value}(hm:Mv n all o s1 s2)(h:Gi P n md all o s1 v):Gi P n md all o s2 v:=fun a w ha hd=>by
 obtain⟨a1,h1,h2⟩:=hm a ha
 have:=h a1 w h1 hd
 rw[h2.want,h2.exec]at this
 exact this
theorem tk.move{cs:List Value}(hm:Mv n all o s1 s2)(h:tk P n all o s1 cs):tk P n all o s2 cs:=fun a w ha=>by
 obtain⟨a1,h1,h2⟩:=hm a ha
 rw[←h2.want,←h2.exec]
 exact h a1 w h1
theorem Gg.move{b:Nat}{cs:List Value}(hm:Cw n all o s1 s2)(h:Gg P n all o s1 b cs):Gg P n all o s2 b cs:=fun H G a w ha=>by
 obtain⟨a1,h1,h2⟩:=hm H G a w ha
 rw[←h2.want,←h2.exec]
 exact h H G a1 w h1
theorem rK.move{mk:Nat→Value}{xs:List Value}{e:TypeId}(hm:Mv n all o s1 s2)(h:rK P n all o s1 mk xs e):rK P n all o s2 mk xs e:=fun a w ha=>by
 obtain⟨a1,h1,h2⟩:=hm a ha
 rw[←h2.want,←h2.exec]
 exact h a1 w h1
theorem EV.move{bt:Value→Heap→Prop}(hm:Mv n all o s1 s2)(h:EV P n all o s1 H bt):EV P n all o s2 H bt:=fun a w ha hd=>by
 obtain⟨a1,h1,h2⟩:=hm a ha
 have:=h a1 w h1 hd
 unfold kI at this⊢
 rw[←h2.want,←h2.exec]
 exact this
theorem tk.uniq{cs cG:List Value}(ha:∃a,fQ n s a)(h:tk P n all o s cs)(h':tk P n all o s cG):cG=cs:=by
 obtain⟨a,ha⟩:=ha
 obtain⟨_,e,h1⟩:=h a default ha
 obtain⟨_,e',h2⟩:=h' a default ha
 rw[h1]at h2
 simp only[Result.ok.injEq,true_and]at h2
 have:=congrArg (fun w:World=>w.heap[(default:World).heap.size]?) h2
 simp only[heap_alloc_new,Option.some.injEq,Obj.cells.injEq]at this
 exact(List.toArray_inj this.1).symm
theorem rK.uniq{mk mk':Nat→Value}{xs oR:List Value}{e e':TypeId}(ha:∃a,fQ n s a)(h:rK P n all o s mk xs e)(h':rK P n all o s mk' oR e'):mk'=mk∧oR=xs∧e'=e:=by
 obtain⟨a,ha⟩:=ha
 have key:∀w:World,mk' w.heap.size=mk w.heap.size∧oR=xs∧e'=e:=fun w=>by
  obtain⟨_,h1⟩:=h a w ha
  obtain⟨_,h2⟩:=h' a w ha
  rw[h1]at h2
  simp only[Result.ok.injEq,Next.value.injEq]at h2
  have:=congrArg (fun w':World=>w'.heap[w.heap.size]?) h2.2
  simp only[heap_alloc_new,Option.some.injEq,Obj.cells.injEq]at this
  exact⟨h2.1.symm,(List.toArray_inj this.1).symm,this.2.1.symm⟩
 refine⟨funext fun g=> ?_,(key default).2⟩
 have:=(key {(default:World)with heap:=Array.replicate g default}).1
 simpa using this
theorem EV.some{bt:Value→Heap→Prop}(h:EV P n all o s H bt)(ha:∃a,fQ n s a)(hw:Real H):∃v H',bt v H'∧Real H':=by
 obtain⟨a,ha⟩:=ha
 obtain⟨w,hw⟩:=hw
 obtain⟨_,h2⟩:=h a w ha hw
 unfold kI at h2
 split at h2
 ·obtain⟨H',hp,hd,_⟩:=h2;exact⟨_,H',hp,_,hd⟩
 ·obtain⟨H',hp,hd,_⟩:=h2;exact⟨_,H',hp,_,hd⟩
 ·obtain⟨e,w',fr,⟨v,_,H',hp,hd,_⟩,_⟩:=h2 []
  exact⟨v,H',hp,w',hd⟩
 ·exact h2.elim
theorem EV.frame{bt:Value→Heap→Prop}{g:Nat}{ent:aQ}(hg:H g=none)(h:EV P n all o s H bt):
  EV P n all o s (ins H g ent) (fun v vf=>∃H',bt v H'∧H' g=none∧vf=ins H' g ent):=fun a w ha hd=>by
 obtain⟨h1,h2⟩:=h a w ha (hd.le (Heap.bC ent hg))
 refine⟨h1,h2.mono fun v w' hh=> ?_⟩
 obtain⟨H',hp,lJ,hf⟩:=hh
 obtain⟨ob,ho,Wj⟩:=hd g ent (bT _ _ _)
 have bH:=hd.lt (bT H g ent)
 obtain⟨iU,jf⟩:=hf.keep g bH hg
 refine⟨ins H' g ent,⟨H',hp,jf,rfl⟩,fun k e hk=> ?_,⟨hf.os,hf.tape,hf.output,hf.size,fun k hk h0=> ?_,hf.form⟩⟩
 ·by_cases ek:k=g
  ·subst ek
   rw[bT]at hk
   simp only[Option.some.injEq]at hk
   subst hk
   exact⟨ob,iU.trans ho,Wj⟩
  ·rw[bP _ _ ek]at hk;exact lJ k e hk
 ·have ek:k≠g:=fun e=>by subst e;rw[bT]at h0;cases h0
  rw[bP _ _ ek]at h0⊢
  exact hf.keep k hk h0
theorem m6{d:Option Nat}{X:Slot}(hs:qA o.op=true)(hd:∀k,d=some k→k<n∧k∉o.looksAt all):Mv n all o (aY s d X) s:=fun a ha=>by
 cases d with
 | none=>exact⟨a,ha,.refl a⟩
 | some d=>
  obtain⟨hn,hl⟩:=hd d rfl
  have key:∀u,(∀v,X = .val v→u=v)→∃a1,fQ n (aY s (some d) X) a1∧xn all o a1 a:=fun u hu=>by
   refine⟨a.put (some d) u,⟨by rw[Act.zF];exact ha.size,fun t v ht=> ?_⟩,.put u hs hl⟩
   by_cases e:t=d
   ·subst e
    rw[show aY s (some t) X=put s t X from rfl,ik]at ht
    simp only[Option.some.injEq]at ht
    rw[Act.vg _ _ _ (by rw[ha.size];exact hn),hu v ht]
   ·rw[show aY s (some d) X=put s d X from rfl,fH _ _ e]at ht
    rw[Act.pH _ _ e];exact ha.at_ t v ht
  cases X with
  | val v=>exact key v (fun v' h=>by cases h;rfl)
  | box cs=>exact key undef (fun v' h=>by cases h)
  | ref b off=>exact key undef (fun v' h=>by cases h)
theorem Gj{d:Option Nat}{X:Slot}(hx:∀cs,X≠.box cs)(hs:qA o.op=true)(hd:∀k,d=some k→k<n∧k∉o.looksAt all):Cw n all o (aY s d X) s:=fun H G a w ha=>by
 cases d with
 | none=>exact⟨a,ha,.refl a⟩
 | some d=>
  obtain⟨hn,hl⟩:=hd d rfl
  cases X with
  | val v=>exact⟨_,ha.put hn (x:= .val v) rfl,.put _ hs hl⟩
  | box cs=>exact absurd rfl (hx cs)
  | ref b off=>exact⟨_,ha.put hn (x:= .ref b off) rfl,.put _ hs hl⟩
theorem rO{d:Option Nat}{X:Slot}(hs:qA o.op=true)(hd:∀k,d=some k→k<n∧k∉o.looksAt all):Mv n all o s (aY s d X):=fun a ha=>by
 cases d with
 | none=>exact⟨a,ha,.refl a⟩
 | some d=>
  obtain⟨hn,hl⟩:=hd d rfl
  obtain⟨v,hv⟩:=fQ.back (s:=s) (d:=d) ha (fun t v ht h=>by rw[show aY s (some d) X=put s d X from rfl,fH _ _ ht];exact h) hn
  exact⟨_,hv,.put v hs hl⟩
theorem Wk{d:Option Nat}{X:Slot}(hs:qA o.op=true)(hd:∀k,d=some k→k<n∧k∉o.looksAt all)(hb:∀k cs,d=some k→s k≠some (.box cs)):Cw n all o s (aY s d X):=fun H G a w ha=>by
 cases d with
 | none=>exact⟨a,ha,.refl a⟩
 | some d=>
  obtain⟨hn,hl⟩:=hd d rfl
  obtain⟨v,hv⟩:=Rl.back (s:=s) (d:=d) ha (fun cs=>hb d cs rfl) (fun t x ht h _=>by rw[show aY s (some d) X=put s d X from rfl,fH _ _ ht];exact h) hn
  exact⟨_,hv,.put v hs hl⟩
theorem Cx{d t:Nat}{cs:List Value}{x:Slot}(ht:t≠d)(h:s t=some x)(hx:∀b o,x = .ref b o→b≠d):fY s d cs t=some x:=by
 rw[nQ _ _ ht,h]
 cases x with
 | val v=>rfl
 | box c=>rfl
 | ref b off=>
  have:=hx b off rfl
  have hb:Nat.beq b d=false:=by
   cases hb:Nat.beq b d with
   | false=>rfl
   | true=>exact absurd (Nat.eq_of_beq_eq_true hb) this
  simp[rM,hb]
theorem Gk{d:Nat}{cs:List Value}(hs:qA o.op=true)(hn:d<n)(hl:d∉o.looksAt all):Mv n all o s (fY s d cs):=fun a ha=>by
 obtain⟨v,hv⟩:=fQ.back (s:=s) (d:=d) ha (fun t v ht h=>Cx ht h (fun b o e=>by cases e)) hn
 exact⟨_,hv,.put v hs hl⟩
theorem Wl{d:Nat}{cs:List Value}(hs:qA o.op=true)(hn:d<n)(hl:d∉o.looksAt all)(hb:∀cs,s d≠some (.box cs)):Cw n all o s (fY s d cs):=fun H G a w ha=>by
 obtain⟨v,hv⟩:=Rl.back (s:=s) (d:=d) ha hb (fun t x ht h hx=>Cx ht h hx) hn
 exact⟨_,hv,.put v hs hl⟩
theorem OW{d:Nat}{cs:List Value}:Mv n all o (fY s d cs) s:=fun a ha=>
 ⟨a,⟨ha.size,fun t v ht=>ha.at_ t v (JY ht).2⟩,.refl a⟩
theorem Wm{b:Nat}{cs cG:List Value}(hb:s b=some (.box cs)):Mv n all o s (put s b (.box cG)):=fun a ha=>
 ⟨a,⟨ha.size,fun t v ht=>ha.at_ t v (by
  have e:t≠b:=fun e=>by subst e;rw[hb]at ht;cases ht
  rw[fH _ _ e];exact ht)⟩,.refl a⟩
theorem oS{d e:Option Nat}(X Y:Slot)(h:∀k,d=some k→e≠some k):aY (aY s d X) e Y=aY (aY s e Y) d X:=by
 cases d with
 | none=>rfl
 | some d=>
  cases e with
  | none=>rfl
  | some e=>exact put_comm s X Y (fun h'=>h d rfl (by rw[h']))
theorem Cy{d:Option Nat}{e:Nat}{X:Slot}{cs:List Value}(h:d≠some e)(hx:∀b o,X = .ref b o→b≠e):fY (aY s d X) e cs=aY (fY s e cs) d X:=by
 cases d with
 | none=>rfl
 | some d=>
  have bD:d≠e:=fun h'=>h (by rw[h'])
  funext t
  show fY (put s d X) e cs t=put (fY s e cs) d X t
  by_cases h1:t=e
  ·subst h1
   rw[qC,fH _ _ (Ne.symm bD),qC]
  ·rw[nQ _ _ h1]
   by_cases h2:t=d
   ·subst h2
    rw[ik,ik]
    have:=Cx (s:=put s t X) (cs:=cs) h1 (ik s t X) hx
    rw[nQ _ _ h1,ik]at this
    exact this
   ·rw[fH _ _ h2,fH _ _ h2,nQ _ _ h1]
theorem Wn(d e:Nat)(x:Option Slot):rM d (rM e x)=rM e (rM d x):=by
 cases x with
 | none=>rfl
 | some x=>
  cases x with
  | val v=>rfl
  | box c=>rfl
  | ref b o=>cases h1:Nat.beq b d <;> cases h2:Nat.beq b e <;> simp[rM,h1,h2]
theorem Wo{d e:Nat}{cs cG:List Value}(h:d≠e):fY (fY s d cs) e cG=fY (fY s e cG) d cs:=by
 funext t
 by_cases h1:t=e
 ·subst h1
  rw[qC,nQ _ _ (Ne.symm h),qC];rfl
 ·rw[nQ _ _ h1]
  by_cases h2:t=d
  ·subst h2
   rw[qC,qC];rfl
  ·rw[nQ _ _ h2,nQ _ _ h2,nQ _ _ h1,Wn]
theorem OX{d:Option Nat}{b:Nat}{X:Slot}{cs:List Value}(h:d≠some b):put (aY s d X) b (.box cs)=aY (put s b (.box cs)) d X:=by
 cases d with
 | none=>rfl
 | some d=>exact put_comm s X (.box cs) (fun h'=>h (by rw[h']))
theorem zI(H:Heap){g k:Nat}(e e':aQ)(h:g≠k):ins (ins H g e) k e'=ins (ins H k e') g e:=by
 funext t
 by_cases h1:t=k
 ·subst h1;rw[bT,bP _ _ (Ne.symm h),bT]
 ·by_cases h2:t=g
  ·subst h2;rw[bP _ _ h1,bT,bT]
  ·rw[bP _ _ h1,bP _ _ h2,bP _ _ h2,bP _ _ h1]
end
theorem Gl(s:St)(d:Nat)(X:Slot):aY s (some d) X=put s d X:=rfl
theorem iS.aY{md:Mode}{s s':St}(h:iS md s s')(d:Option Nat)(X:Slot):iS md (aY s d X) (aY s' d X):=fun t=>by
 cases d with
 | none=>exact h t
 | some d=>
  rw[Gl,Gl]
  by_cases e:t=d
  ·subst e;exact .inl (by rw[ik,ik])
  ·rw[fH _ _ e,fH _ _ e];exact h t
theorem iS.Wp{md:Mode}{s s':St}{d:Option Nat}{X:Slot}(hX:∀c,X≠.box c)(h:iS md (ay.aY s d X) s'):∃tq,iS md s tq∧s'=ay.aY tq d X∧∀k,d=some k→tq k=s k:=by
 cases d with
 | none=>exact⟨s',h,rfl,fun k e=>by cases e⟩
 | some d=>
  rw[Gl]at h
  have hd:s' d=some X:=h.val hX (ik _ _ _)
  refine⟨fun t=>if t=d then s t else s' t,fun t=> ?_,?_,fun k e=>by cases e;simp⟩
  ·by_cases e:t=d
   ·left;simp[e]
   ·have:=h t
    rw[fH _ _ e]at this
    simpa [e]using this
  ·rw[Gl]
   funext t
   by_cases e:t=d
   ·subst e;rw[ik,hd]
   ·rw[fH _ _ e,if_neg e]
open Classical in
theorem iS.unbox{md:Mode}{s s':St}{d:Nat}{cs:List Value}(h:iS md (fY s d cs) s'):∃tq Gm,iS md s tq∧s'=fY tq d Gm∧tq d=s d:=by
 obtain⟨Gm,hc⟩:=h.box (qC s d cs)
 refine⟨fun t=>if t=d∨s' t=fY s d cs t then s t else s' t,Gm,fun t=> ?_,?_,by simp⟩
 ·by_cases e:t=d∨s' t=fY s d cs t
  ·left;simp only[e,if_true]
  ·simp only[e,if_false]
   rcases h t with h1 | ⟨h0,c,c',h1,h2⟩
   ·exact absurd (.inr h1) e
   ·rcases pJ h1 with ⟨e1,_⟩ | ⟨_,h3⟩
    ·exact absurd (.inl e1) e
    ·exact .inr ⟨h0,c,c',h3,h2⟩
 ·funext t
  by_cases e:t=d
  ·subst e;rw[hc,qC]
  ·rw[nQ _ _ e]
   by_cases e2:s' t=fY s d cs t
   ·simp only[e2,or_true,if_true];exact nQ _ _ e
   ·rcases h t with h1 | ⟨h0,c,c',h1,h2⟩
    ·exact absurd h1 e2
    ·rw[if_neg (by rintro(h3 | h3);exact e h3;exact e2 h3),h2];rfl
theorem iS.store{md:Mode}{s s':St}{b:Nat}{cs cG:List Value}(hb:s b=some (.box cs))(hw:md.wr b=true)(h:iS md (put s b (.box cG)) s'):iS md s s':=fun t=>by
 by_cases e:t=b
 ·subst e
  obtain⟨c,hc⟩:=h.box (ik s t (.box cG))
  exact .inr ⟨hw,cs,c,hb,hc⟩
 ·have:=h t
  rwa [fH _ _ e]at this
end Go.ay
namespace Go.ay
section
variable {P:Program} {n:Nat} {all:Array Oper} {md:Mode} {x y:Oper} {s:St} {H:Heap} {K:St→Heap→Prop}
theorem vi{md:Mode}(eF:md≠.plain){k:Nat}(h:k=1∨k=2∨md = .plain):k=1∨k=2:=by
 rcases h with h | h | h
 ·exact .inl h
 ·exact .inr h
 ·exact absurd h eF
theorem pM(eF:md≠.plain)(eM:md.m0=false)(d:Option Nat):md.nb s d=true↔∀k cs,d=some k→s k≠some (.box cs):=by
 cases d with
 | none=>cases md <;> simp[Mode.nb,Mode.m0]at *
 | some d=>
  have:md.nb s (some d)=(match s d with | some (.box _)=>false | _=>true):=by cases md <;> first | exact absurd rfl eF | rfl | cases eM
  rw[this]
  cases hs:s d with
  | none=>exact⟨(fun _ k cs hk h=>by cases hk;rw[hs]at h;cases h),fun _=>rfl⟩
  | some z=>
   cases z with
   | val v=>exact⟨(fun _ k cs hk h=>by cases hk;rw[hs]at h;cases h),fun _=>rfl⟩
   | box c=>exact⟨(fun h=>by cases h),fun h=>absurd hs (h d c rfl)⟩
   | ref b o=>exact⟨(fun _ k cs hk h=>by cases hk;rw[hs]at h;cases h),fun _=>rfl⟩
theorem xq{X:Slot}:X.qB s=true↔(∀cs,X≠.box cs)∧∀b o,X = .ref b o→∃cs,s b=some (.box cs):=by
 cases X with
 | val v=>simp[Slot.qB]
 | box c=>simp[Slot.qB]
 | ref b o=>
  simp only[Slot.qB]
  cases hs:s b with
  | none=>simp[hs]
  | some z=>cases z <;> simp[hs]
theorem Cz{d:Option Nat}{X:Slot}{t:Nat}(h:d≠some t):aY s d X t=s t:=by
 cases d with
 | none=>rfl
 | some d=>exact fH s X (fun e=>h (by rw[e]))
theorem JZ{d:Option Nat}{X:Slot}{t:Nat}{cs:List Value}(hx:∀cs,X≠.box cs)(h:aY s d X t=some (.box cs)):d≠some t∧s t=some (.box cs):=by
 cases d with
 | none=>exact⟨by simp,h⟩
 | some d=>
  by_cases e:t=d
  ·subst e
   rw[show aY s (some t) X=put s t X from rfl,ik]at h
   simp only[Option.some.injEq]at h
   exact absurd h (hx cs)
  ·rw[show aY s (some d) X=put s d X from rfl,fH _ _ e]at h
   exact⟨fun h'=>e (by cases h';rfl),h⟩
structure zJ(md:Mode)(all:Array Oper)(x y:Oper):Prop where
 xs:qA x.op=true
 ys:qA y.op=true
 xy:∀d,x.dst=some d→d∉y.looksAt all
 ne:∀d,x.dst=some d→y.dst≠some d
 yx:∀d,y.dst=some d→d∉x.looksAt all
 kind:(kd x.op=0∧(kd y.op=0∨(kd y.op=1∧md.OS=false)∨(kd y.op=3∧(y.guard=none∨md.m0=false))∨(kd y.op=2∧md.JW=true∧(md.JX=true∨Cu x.op=false))))∨((kd x.op=1∨kd x.op=3)∧kd y.op=3∧y.guard=none∧md.m0=false)
theorem Sw.out(h:Sw md all x y=true):zJ md all x y:=by
 simp only[Sw,Bool.and_eq_true,Bool.or_eq_true,beq_iff_eq,Option.isNone_iff_eq_none,Bool.not_eq_true']at h
 obtain⟨⟨⟨h1,h2⟩,h3⟩,h4⟩:=h
 obtain⟨a1,a2,a3⟩:=Oper.apart_spec h1
 refine⟨h2,h3,a1,a2,a3,?_⟩
 rcases h4 with ⟨hx,hy⟩ | ⟨⟨⟨hx,hy⟩,hz⟩,hk⟩
 ·left
  refine⟨hx,?_⟩
  rcases hy with ((hy | hy) | hy) | hy
  ·exact .inl hy
  ·exact .inr (.inl hy)
  ·exact .inr (.inr (.inl hy))
  ·exact .inr (.inr (.inr ⟨hy.1.1,hy.1.2,hy.2⟩))
 ·exact .inr ⟨hx,hy,hz,hk⟩
theorem Den.Wq{H:Heap}{w:World}(h:Den H w)(xs:List Value)(e:TypeId):Den (ins H w.heap.size (whole xs e)) (w.alloc (.cells xs.toArray e (0,0))):=by
 intro g e' hg
 by_cases eg:g=w.heap.size
 ·subst eg
  rw[bT]at hg
  simp only[Option.some.injEq]at hg
  subst hg
  exact⟨_,heap_alloc_new w _,xs.toArray,(0,0),rfl,by simp[whole],fun i v hv=>by simpa [whole]using hv,fun _=>rfl⟩
 ·rw[bP _ _ eg]at hg
  exact h.alloc _ g e' hg
theorem Heap.le.vj{H H':Heap}{g:Nat}{e:aQ}(h:Heap.le H H')(hg:H' g=none):Heap.le (ins H g e) (ins H' g e):=fun k x hk=>by
 by_cases ek:k=g
 ·subst ek
  rw[bT]at hk⊢
  exact⟨x,hk,.refl x⟩
 ·rw[bP _ _ ek]at hk⊢
  exact h k x hk
theorem fZ.Wr(eF:md≠.plain)(eM:md.m0=false)(hw:zJ md all x y)(zK:∀d,x.dst=some d→d<n)(oT:∀d,y.dst=some d→d<n)
  (hS:∃a,fQ n s a) (hH:Real H) (h:fZ P n all md x s H (fun s1 H1=>fZ P n all md y s1 H1 K)):fZ P n all md y s H (fun s2 H2=>fZ P n all md x s2 H2 K):=by
 have cj:∀d,x.dst=some d→d<n∧d∉y.looksAt all:=fun d hd=>⟨zK d hd,hw.xy d hd⟩
 have gi:∀d,y.dst=some d→d<n∧d∉x.looksAt all:=fun d hd=>⟨oT d hd,hw.yx d hd⟩
 have CA:∀d,y.dst=some d→x.dst≠some d:=fun d hd e=>hw.ne d e hd
 have lr:∀{X:Slot},(∀cs,X≠.box cs)→md.nb (aY s x.dst X) y.dst=true→md.nb s y.dst=true:=fun{X} hX hn=>by
  rw[pM eF eM]at hn⊢
  intro k cs hk hs
  exact hn k cs hk (by rw[Cz (CA k hk)];exact hs)
 have m7:∀{Y:Slot},md.nb s x.dst=true→md.nb (aY s y.dst Y) x.dst=true:=fun{Y} hn=>by
  rw[pM eF eM]at hn⊢
  intro k cs hk hs
  exact hn k cs hk (by rw[Cz (hw.ne k hk)]at hs;exact hs)
 have OY:∀{X Y:Slot},(∀cs,X≠.box cs)→Y.qB (aY s x.dst X)=true→Y.qB s=true:=fun{X Y} hX hg=>by
  rw[xq]at hg⊢
  exact⟨hg.1,fun b o e=>by obtain⟨cs,hc⟩:=hg.2 b o e;exact⟨cs,(JZ hX hc).2⟩⟩
 have Gn:∀{X Y:Slot},md.nb s y.dst=true→X.qB s=true→X.qB (aY s y.dst Y)=true:=fun{X Y} hn hg=>by
  rw[xq]at hg⊢
  refine⟨hg.1,fun b o e=> ?_⟩
  obtain⟨cs,hc⟩:=hg.2 b o e
  exact⟨cs,by rw[Cz (fun hk=>(pM eF eM _).1 hn b cs hk hc)];exact hc⟩
 have OZ:∀{k:Nat}{cs:List Value},md.nb s y.dst=true→y.dst=some k→s k≠some (.box cs):=fun{k cs} hn hk=>(pM eF eM _).1 hn k cs hk
 have Gp:∀{X Y:Slot}{H1 H2:Heap},md.nb s y.dst=true→(∀c,Y≠.box c)→Heap.le H1 H2→(∀s',iS md s s'→zG P n all x s' H1 X)→∀s',iS md (aY s y.dst Y) s'→zG P n all x s' H2 X:=fun{X Y H1 H2} n1 hY hl h s' e=>by
  obtain⟨tq,e1,rfl,e2⟩:=e.Wp hY
  exact(h _ e1).move (Wk hw.xs gi (fun k cs hk=>by rw[e2 k hk];exact OZ n1 hk)) hl
 cases h with
 | jb v hm nb h k=>
  have hX:∀cs,Slot.val v≠.box cs:=fun cs e=>by cases e
  cases k with
  | jb v' bm dy h' k'=>
   have n1:=lr hX dy
   refine .jb v' bm n1 (h'.move (m6 hw.ys cj) (.refl _)) (.jb v hm (m7 nb) (h.move (rO hw.xs gi) (.refl _)) ?_)
   rw[←oS _ _ hw.ne];exact k'
  | iT X' bm dy qD h' k'=>
   have n1:=lr hX dy
   refine .iT X' bm n1 (OY hX qD) (fun s' e=>(h' _ (e.aY _ _)).move (Gj hX hw.ys cj) (.refl _)) (.jb v hm (m7 nb) (h.move (rO hw.xs gi) (.refl _)) ?_)
   rw[←oS _ _ hw.ne];exact k'
  | jc d hd bm dy cs h' k'=>
   have n1:=lr hX dy
   refine .jc d hd bm n1 cs (h'.move (m6 hw.ys cj)) (.jb v hm ?_ (h.move (Gk hw.xs (oT d hd) (hw.yx d hd)) (.refl _)) ?_)
   ·rw[pM eF eM]at nb⊢
    intro k cG hk hs
    rcases pJ hs with ⟨e,_⟩ | ⟨_,hs⟩
    ·exact hw.ne k hk (by rw[hd,e])
    ·exact nb k cG hk hs
   ·rw[←Cy (fun e=>hw.ne d e hd) (fun b o e=>by cases e)];exact k'
  | ln b cs cG hd bm hb jD h' k'=>
   obtain⟨qE,jE⟩:=JZ hX hb
   refine .ln b cs cG hd bm jE jD (h'.move (Gj hX hw.ys cj)) (.jb v hm ?_ (h.move (Wm jE) (.refl _)) ?_)
   ·rw[pM eF eM]at nb⊢
    intro k c hk hs
    by_cases e:k=b
    ·subst e;exact qE hk
    ·rw[fH _ _ e]at hs;exact nb k c hk hs
   ·rw[←OX qE];exact k'
  | fresh mk xs e bm dy h' k'=>
   have n1:=lr hX dy
   refine .fresh mk xs e bm n1 (h'.move (m6 hw.ys cj)) fun g hg hr=> .jb v hm (m7 nb) (h.move (rO hw.xs gi) (Heap.bC _ hg)) ?_
   rw[←oS _ _ hw.ne];exact k' g hg hr
  | lq _ ck _ _ _ _ _=>rw[eM]at ck;cases ck
  | m5 _ _ _ ck _ _ _ _=>rw[eM]at ck;cases ck
  | lK _ ck _ _ _ _ _=>rw[eM]at ck;cases ck
  | il bt ha dy h' bm k'=>
   have nR:=vi eF ha
   have n1:=lr hX dy
   have J0:∀u H',bt u H'→Heap.le H H':=by
    cases md with
    | plain=>exact absurd rfl eF
    | bn=>exact bm.2
    | tl st=>exact bm.2
    | gO=>
     rcases bm with e | e
     ·have:=pL.1 e
      rcases hw.kind with ⟨_,h1 | h1 | h1 | h1⟩ | h1
      ·omega
      ·omega
      ·omega
      ·exact absurd h1.2.1 (by decide)
      ·omega
     ·exact e
    | e7 k=>cases eM
    | rL=>
     rcases hw.kind with ⟨_,h1 | h1 | h1 | h1⟩ | h1
     ·omega
     ·exact absurd h1.2 (by decide)
     ·omega
     ·exact absurd h1.2.1 (by decide)
     ·omega
   refine .il bt ha n1 (h'.move (m6 hw.ys cj)) bm fun u H' hp hr=> .jb v hm (m7 nb) (h.move (rO hw.xs gi) (J0 u H' hp)) ?_
   rw[←oS _ _ hw.ne];exact k' u H' hp hr
 | iT X hm nb hx h k=>
  have hX:=(xq.1 hx).1
  have kx:=zH hm
  cases k with
  | jb v' bm dy h' k'=>
   have n1:=lr hX dy
   refine .jb v' bm n1 (h'.move (m6 hw.ys cj) (.refl _)) (.iT X hm (m7 nb) (Gn n1 hx) (Gp n1 (fun c e=>by cases e) (.refl _) h) ?_)
   rw[←oS _ _ hw.ne];exact k'
  | iT X' bm dy qD h' k'=>
   have n1:=lr hX dy
   refine .iT X' bm n1 (OY hX qD) (fun s' e=>(h' _ (e.aY _ _)).move (Gj hX hw.ys cj) (.refl _)) (.iT X hm (m7 nb) (Gn n1 hx) (Gp n1 (xq.1 qD).1 (.refl _) h) ?_)
   rw[←oS _ _ hw.ne];exact k'
  | jc d hd bm dy cs h' k'=>
   have n1:=lr hX dy
   have qF:∀cs,s d≠some (.box cs):=fun cs=>OZ n1 hd
   refine .jc d hd bm n1 cs (h'.move (m6 hw.ys cj)) (.iT X hm ?_ ?_ (fun s' e=>by
    obtain⟨tq,Gm,e1,rfl,e2⟩:=e.unbox
    exact(h _ e1).move (Wl hw.xs (oT d hd) (hw.yx d hd) (fun cs=>by rw[e2];exact qF cs)) (.refl _)) ?_)
   ·rw[pM eF eM]at nb⊢
    intro k cG hk hs
    rcases pJ hs with ⟨e,_⟩ | ⟨_,hs⟩
    ·exact hw.ne k hk (by rw[hd,e])
    ·exact nb k cG hk hs
   ·rw[xq]at hx⊢
    refine⟨hx.1,fun b o e=> ?_⟩
    obtain⟨c,hc⟩:=hx.2 b o e
    exact⟨c,Cx (fun e=>by subst e;exact qF c hc) hc (fun b o e=>by cases e)⟩
   ·rw[←Cy (fun e=>hw.ne d e hd) (fun b o e hb=>by subst hb;obtain⟨c,hc⟩:=(xq.1 hx).2 b o e;exact qF c hc)];exact k'
  | ln b cs cG hd bm hb jD h' k'=>
   have:=pL.1 bm
   have hT:md.JX=true:=by
    rcases hw.kind with ⟨_,h1 | h1 | h1 | h1⟩ | h1
    ·omega
    ·omega
    ·omega
    ·rcases h1.2.2 with h2 | h2
     ·exact h2
     ·rw[hm]at h2;cases h2
    ·omega
   have Ws:md.wr b=true:=by
    cases md <;> first | exact jD | cases hT
   obtain⟨qE,jE⟩:=JZ hX hb
   refine .ln b cs cG hd bm jE jD (h'.move (Gj hX hw.ys cj)) (.iT X hm ?_ ?_ (fun s' e=>h s' (e.store jE Ws)) ?_)
   ·rw[pM eF eM]at nb⊢
    intro k c hk hs
    by_cases e:k=b
    ·subst e;exact qE hk
    ·rw[fH _ _ e]at hs;exact nb k c hk hs
   ·rw[xq]at hx⊢
    refine⟨hx.1,fun b' o e=> ?_⟩
    obtain⟨c,hc⟩:=hx.2 b' o e
    by_cases e2:b'=b
    ·subst e2;exact⟨cG,ik _ _ _⟩
    ·exact⟨c,by rw[fH _ _ e2];exact hc⟩
   ·rw[←OX qE];exact k'
  | fresh mk xs e bm dy h' k'=>
   have n1:=lr hX dy
   refine .fresh mk xs e bm n1 (h'.move (m6 hw.ys cj)) fun g hg hr=> .iT X hm (m7 nb) (Gn n1 hx) (Gp n1 (fun c e=>by cases e) (Heap.bC _ hg) h) ?_
   rw[←oS _ _ hw.ne];exact k' g hg hr
  | lq _ ck _ _ _ _ _=>rw[eM]at ck;cases ck
  | m5 _ _ _ ck _ _ _ _=>rw[eM]at ck;cases ck
  | lK _ ck _ _ _ _ _=>rw[eM]at ck;cases ck
  | il bt ha dy h' bm k'=>
   have nR:=vi eF ha
   have n1:=lr hX dy
   have J0:∀u H',bt u H'→Heap.le H H':=by
    cases md with
    | plain=>exact absurd rfl eF
    | bn=>exact bm.2
    | tl st=>exact bm.2
    | gO=>
     rcases bm with e | e
     ·have:=pL.1 e
      rcases hw.kind with ⟨_,h1 | h1 | h1 | h1⟩ | h1
      ·omega
      ·omega
      ·omega
      ·exact absurd h1.2.1 (by decide)
      ·omega
     ·exact e
    | e7 k=>cases eM
    | rL=>
     rcases hw.kind with ⟨_,h1 | h1 | h1 | h1⟩ | h1
     ·omega
     ·exact absurd h1.2 (by decide)
     ·omega
     ·exact absurd h1.2.1 (by decide)
     ·omega
   refine .il bt ha n1 (h'.move (m6 hw.ys cj)) bm fun u H' hp hr=> .iT X hm (m7 nb) (Gn n1 hx) (Gp n1 (fun c e=>by cases e) (J0 u H' hp) h) ?_
   rw[←oS _ _ hw.ne];exact k' u H' hp hr
 | jc dx CB nS qG cx hx k=>
  have kx:=vh.1 (show pI x.op=true by simp[pI,nS])
  have nT:kd y.op=3∧y.guard=none:=by
   rcases hw.kind with ⟨h1,_⟩ | h1
   ·omega
   ·exact⟨h1.2.1,h1.2.2.1⟩
  have n1:md.nb (fY s dx cx) y.dst=true→md.nb s y.dst=true:=fun hn=>by
   rw[pM eF eM]at hn⊢
   intro k cs hk hs
   exact hn k cs hk (Cx (fun e=>CA k hk (by rw[CB,e])) hs (fun b o e=>by cases e))
  cases k with
  | jb v' bm dy h' k'=>
   rcases bm with e | e
   ·rw[vh.2 nT.1]at e;cases e
   ·exact absurd nT.2 e
  | iT X' bm dy qD h' k'=>have:=zH bm;omega
  | jc d hd bm dy cs h' k'=>
   refine .jc d hd bm (n1 dy) cs (h'.move OW) (.jc dx CB nS ?_ cx (hx.move (Gk hw.xs (oT d hd) (hw.yx d hd))) ?_)
   ·rw[pM eF eM]at qG⊢
    intro k cG hk hs
    rcases pJ hs with ⟨e,_⟩ | ⟨_,hs⟩
    ·exact hw.ne k hk (by rw[hd,e])
    ·exact qG k cG hk hs
   ·rw[←Wo (fun e=>hw.ne dx CB (by rw[hd,e]))];exact k'
  | ln b cs cG hd bm hb jD h' k'=>have:=pL.1 bm;omega
  | fresh mk xs e bm dy h' k'=>
   refine .fresh mk xs e bm (n1 dy) (h'.move OW) fun g hg hr=> .jc dx CB nS (m7 qG) cx (hx.move (rO hw.xs gi)) ?_
   rw[Cy (fun e=>CA dx e CB) (fun b o e=>by cases e)];exact k' g hg hr
  | lq _ ck _ _ _ _ _=>rw[eM]at ck;cases ck
  | m5 _ _ _ ck _ _ _ _=>rw[eM]at ck;cases ck
  | lK _ ck _ _ _ _ _=>rw[eM]at ck;cases ck
  | il bt ha dy h' bm k'=>have nR:=vi eF ha;omega
 | ln b cs cG hd hm hb jD h k=>
  have:=pL.1 hm
  rcases hw.kind with ⟨h1,_⟩ | h1 <;> omega
 | fresh Gq pN ex nS qG hx k=>
  have kx:kd x.op=3:=vh.1 (by rcases nS with e | ⟨e,_⟩ <;> simp[pI,e]at *)
  have nT:kd y.op=3∧y.guard=none:=by
   rcases hw.kind with ⟨h1,_⟩ | h1
   ·omega
   ·exact⟨h1.2.1,h1.2.2.1⟩
  obtain⟨w,hd⟩:=hH
  have eJ:Den (ins H w.heap.size (whole pN ex)) (w.alloc (.cells pN.toArray ex (0,0))):=Den.Wq hd pN ex
  rcases OV nT.1 with ⟨xt,xz⟩ | ⟨xt,xz⟩
  ·
   have only:∀g,H g=none→Real (ins H g (whole pN ex))→∃d cs,y.dst=some d∧md.nb s y.dst=true∧tk P n all y s cs∧K (fY (aY s x.dst (.val (Gq g))) d cs) (ins H g (whole pN ex)):=by
    intro g hg hr
    cases k g hg hr with
    | jb v' bm dy h' k'=>
     rcases bm with e | e
     ·rw[vh.2 nT.1]at e;cases e
     ·exact absurd nT.2 e
    | iT X' bm dy qD h' k'=>have:=zH bm;omega
    | ln b cs cG hd bm hb jD h' k'=>have:=pL.1 bm;omega
    | lq _ ck _ _ _ _ _=>rw[eM]at ck;cases ck
    | m5 _ _ _ ck _ _ _ _=>rw[eM]at ck;cases ck
    | lK _ ck _ _ _ _ _=>rw[eM]at ck;cases ck
    | il bt ha dy h' bm k'=>have nR:=vi eF ha;omega
    | fresh mk xs e bm dy h' k'=>
     rcases bm with e | e
     ·rw[xz]at e;cases e
     ·exact absurd e.1 eF
    | jc d hd bm dy cs h' k'=>exact⟨d,cs,hd,lr (fun cs e=>by cases e) dy,h'.move (m6 hw.ys cj),k'⟩
   obtain⟨d,cs,oU,xA,hy,_⟩:=only _ hd.fresh ⟨_,eJ⟩
   refine .jc d oU xt xA cs hy (.fresh Gq pN ex nS ?_ (hx.move (Gk hw.xs (oT d oU) (hw.yx d oU))) fun g hg hr=> ?_)
   ·rw[pM eF eM]at qG⊢
    intro k cG hk hs
    rcases pJ hs with ⟨e,_⟩ | ⟨_,hs⟩
    ·exact hw.ne k hk (by rw[oU,e])
    ·exact qG k cG hk hs
   ·obtain⟨d',cG,CC,_,rP,hk⟩:=only g hg hr
    obtain rfl:d'=d:=by rw[oU]at CC;cases CC;rfl
    obtain rfl:=hy.uniq hS rP
    rw[←Cy (fun e=>hw.ne _ e oU) (fun b o e=>by cases e)];exact hk
  ·have only:∀g,H g=none→Real (ins H g (whole pN ex))→∃mk xs e,md.nb s y.dst=true∧rK P n all y s mk xs e∧∀g',ins H g (whole pN ex) g'=none→Real (ins (ins H g (whole pN ex)) g' (whole xs e))→K (aY (aY s x.dst (.val (Gq g))) y.dst (.val (mk g'))) (ins (ins H g (whole pN ex)) g' (whole xs e)):=by
    intro g hg hr
    cases k g hg hr with
    | jb v' bm dy h' k'=>
     rcases bm with e | e
     ·rw[vh.2 nT.1]at e;cases e
     ·exact absurd nT.2 e
    | iT X' bm dy qD h' k'=>have:=zH bm;omega
    | ln b cs cG hd bm hb jD h' k'=>have:=pL.1 bm;omega
    | lq _ ck _ _ _ _ _=>rw[eM]at ck;cases ck
    | m5 _ _ _ ck _ _ _ _=>rw[eM]at ck;cases ck
    | lK _ ck _ _ _ _ _=>rw[eM]at ck;cases ck
    | il bt ha dy h' bm k'=>have nR:=vi eF ha;omega
    | jc d hd bm dy cs h' k'=>rw[xt]at bm;cases bm
    | fresh mk xs e bm dy h' k'=>exact⟨mk,xs,e,lr (fun cs e=>by cases e) dy,h'.move (m6 hw.ys cj),k'⟩
   obtain⟨mk,xs,e,xA,hy,_⟩:=only _ hd.fresh ⟨_,eJ⟩
   refine .fresh mk xs e (.inl xz) xA hy fun g' m8 dd=> .fresh Gq pN ex nS (m7 qG) (hx.move (rO hw.xs gi)) fun g hg hr=> ?_
   have bD:g≠g':=fun e'=>by subst e';rw[bT]at hg;cases hg
   have m9:H g=none:=by rw[bP _ _ bD]at hg;exact hg
   have kK:Real (ins H g (whole pN ex)):=by
    obtain⟨w1,fi⟩:=hr
    rw[zI _ _ _ bD.symm]at fi
    exact⟨w1,fi.le (Heap.bC _ (by rw[bP _ _ bD.symm];exact m8))⟩
   obtain⟨mk',oR,e',_,rP,hk⟩:=only g m9 kK
   obtain⟨rfl,rfl,rfl⟩:=hy.uniq hS rP
   have:=hk g' (by rw[bP _ _ bD.symm];exact m8) (by rw[zI _ _ _ bD];exact hr)
   rw[←oS _ _ hw.ne,zI _ _ _ bD.symm];exact this
 | lq _ ck _ _ _ _ _=>rw[eM]at ck;cases ck
 | m5 _ _ _ ck _ _ _ _=>rw[eM]at ck;cases ck
 | lK _ ck _ _ _ _ _=>rw[eM]at ck;cases ck
 | il J1 J2 qG hx nS k=>
  have nR:=vi eF J2
  obtain⟨v0,O0,CD,oV⟩:=hx.some hS hH
  rcases hw.kind with ⟨kx0,iE⟩ | ⟨_,Wt,Wu,_⟩
  ·omega
  ·have nT:kd y.op=3∧y.guard=none:=⟨Wt,Wu⟩
   rcases OV nT.1 with ⟨xt,xz⟩ | ⟨xt,xz⟩
   ·have only:∀v H',J1 v H'→Real H'→∃d cs,y.dst=some d∧md.nb s y.dst=true∧tk P n all y s cs∧K (fY (aY s x.dst (.val v)) d cs) H':=by
     intro v H' hp hr
     cases k v H' hp hr with
     | jb v' bm dy h' k'=>
      rcases bm with e | e
      ·rw[vh.2 nT.1]at e;cases e
      ·exact absurd nT.2 e
     | iT X' bm dy qD h' k'=>have:=zH bm;omega
     | ln b cs cG hd bm hb jD h' k'=>have:=pL.1 bm;omega
     | lq _ ck _ _ _ _ _=>rw[eM]at ck;cases ck
     | m5 _ _ _ ck _ _ _ _=>rw[eM]at ck;cases ck
     | lK _ ck _ _ _ _ _=>rw[eM]at ck;cases ck
     | il bt ha dy h' bm k'=>have nR:=vi eF ha;omega
     | fresh mk xs e bm dy h' k'=>
      rcases bm with e | e
      ·rw[xz]at e;cases e
      ·exact absurd e.1 eF
     | jc d hd bm dy cs h' k'=>exact⟨d,cs,hd,lr (fun cs e=>by cases e) dy,h'.move (m6 hw.ys cj),k'⟩
    obtain⟨d,cs,oU,xA,hy,_⟩:=only v0 O0 CD oV
    refine .jc d oU xt xA cs hy (.il J1 J2 ?_ (hx.move (Gk hw.xs (oT d oU) (hw.yx d oU))) nS fun v H' hp hr=> ?_)
    ·rw[pM eF eM]at qG⊢
     intro k cG hk hs
     rcases pJ hs with ⟨e,_⟩ | ⟨_,hs⟩
     ·exact hw.ne k hk (by rw[oU,e])
     ·exact qG k cG hk hs
    ·obtain⟨d',cG,CC,_,rP,hk⟩:=only v H' hp hr
     obtain rfl:d'=d:=by rw[oU]at CC;cases CC;rfl
     obtain rfl:=hy.uniq hS rP
     rw[←Cy (fun e=>hw.ne _ e oU) (fun b o e=>by cases e)];exact hk
   ·have only:∀v H',J1 v H'→Real H'→∃mk xs e,md.nb s y.dst=true∧rK P n all y s mk xs e∧∀g',H' g'=none→Real (ins H' g' (whole xs e))→K (aY (aY s x.dst (.val v)) y.dst (.val (mk g'))) (ins H' g' (whole xs e)):=by
     intro v H' hp hr
     cases k v H' hp hr with
     | jb v' bm dy h' k'=>
      rcases bm with e | e
      ·rw[vh.2 nT.1]at e;cases e
      ·exact absurd nT.2 e
     | iT X' bm dy qD h' k'=>have:=zH bm;omega
     | ln b cs cG hd bm hb jD h' k'=>have:=pL.1 bm;omega
     | lq _ ck _ _ _ _ _=>rw[eM]at ck;cases ck
     | m5 _ _ _ ck _ _ _ _=>rw[eM]at ck;cases ck
     | lK _ ck _ _ _ _ _=>rw[eM]at ck;cases ck
     | il bt ha dy h' bm k'=>have nR:=vi eF ha;omega
     | jc d hd bm dy cs h' k'=>rw[xt]at bm;cases bm
     | fresh mk xs e bm dy h' k'=>exact⟨mk,xs,e,lr (fun cs e=>by cases e) dy,h'.move (m6 hw.ys cj),k'⟩
    obtain⟨mk,xs,e,xA,hy,_⟩:=only v0 O0 CD oV
    refine .fresh mk xs e (.inl xz) xA hy fun g hg hr=> .il _ J2 (m7 qG) ((hx.move (rO hw.xs gi)).frame hg) ?_ fun v vf xB O1=> ?_
    ·cases md with
     | plain=>exact absurd rfl eF
     | tl st=>
      refine⟨nS.1,fun v vf xB=> ?_⟩
      obtain⟨H',hp,m8,rfl⟩:=xB
      exact Heap.le.vj (nS.2 v H' hp) m8
     | bn=>
      refine⟨nS.1,fun v vf xB=> ?_⟩
      obtain⟨H',hp,m8,rfl⟩:=xB
      exact Heap.le.vj (nS.2 v H' hp) m8
     | gO=>
      rcases nS with e' | e'
      ·exact .inl e'
      ·refine .inr fun v vf xB=> ?_
       obtain⟨H',hp,m8,rfl⟩:=xB
       exact Heap.le.vj (e' v H' hp) m8
     | rL=>trivial
     | e7 k=>trivial
    ·obtain⟨H',hp,m8,rfl⟩:=xB
     have kK:Real H':=by
      obtain⟨w1,fi⟩:=O1
      exact⟨w1,fi.le (Heap.bC _ m8)⟩
     obtain⟨mk',oR,e',_,rP,hk⟩:=only v H' hp kK
     obtain⟨rfl,rfl,rfl⟩:=hy.uniq hS rP
     rw[←oS _ _ hw.ne];exact hk g m8 O1
theorem O2(d:Option Nat):ll s d=true↔∀k cs,d=some k→s k≠some (.box cs):=by
 cases d with
 | none=>simp[ll]
 | some d=>
  have e:ll s (some d)=(match s d with | some (.box _)=>false | _=>true):=rfl
  rw[e]
  cases hs:s d with
  | none=>exact⟨(fun _ k cs hk h=>by cases hk;rw[hs]at h;cases h),fun _=>rfl⟩
  | some z=>
   cases z with
   | val v=>exact⟨(fun _ k cs hk h=>by cases hk;rw[hs]at h;cases h),fun _=>rfl⟩
   | box c=>exact⟨(fun h=>by cases h),fun h=>absurd hs (h d c rfl)⟩
   | ref b o=>exact⟨(fun _ k cs hk h=>by cases hk;rw[hs]at h;cases h),fun _=>rfl⟩
theorem rQ(hK:md.m0=true){d:Option Nat}(h:md.nb s d=true):False:=by
 cases md <;> simp[Mode.m0,Mode.nb]at hK h
theorem fZ.Wv(hK:md.m0=true)(hw:zJ md all x y)(zK:∀d,x.dst=some d→d<n)(oT:∀d,y.dst=some d→d<n)
  (h:fZ P n all md x s H (fun s1 H1=>fZ P n all md y s1 H1 K)):fZ P n all md y s H (fun s2 H2=>fZ P n all md x s2 H2 K):=by
 have cj:∀d,x.dst=some d→d<n∧d∉y.looksAt all:=fun d hd=>⟨zK d hd,hw.xy d hd⟩
 have gi:∀d,y.dst=some d→d<n∧d∉x.looksAt all:=fun d hd=>⟨oT d hd,hw.yx d hd⟩
 have CA:∀d,y.dst=some d→x.dst≠some d:=fun d hd e=>hw.ne d e hd
 have kx:kd x.op=0:=by
  rcases hw.kind with h1 | h1
  ·exact h1.1
  ·rw[hK]at h1;exact absurd h1.2.2.2 (by decide)
 have ky:kd y.op≠2:=fun e=>by
  rcases hw.kind with ⟨_,h1 | h1 | h1 | h1⟩ | h1
  ·omega
  ·omega
  ·omega
  ·have:=h1.2.1
   cases md <;> simp[Mode.m0,Mode.JW]at hK this
  ·omega
 have lr:∀{v:Value},ll (aY s x.dst (.val v)) y.dst=true→ll s y.dst=true:=fun{v} hn=>by
  rw[O2]at hn⊢
  intro k cs hk hs
  exact hn k cs hk (by rw[Cz (CA k hk)];exact hs)
 have m7:∀{v:Value},ll s x.dst=true→ll (aY s y.dst (.val v)) x.dst=true:=fun{v} hn=>by
  rw[O2]at hn⊢
  intro k cs hk hs
  exact hn k cs hk (by rw[Cz (hw.ne k hk)]at hs;exact hs)
 cases h with
 | jb v hm nb h k=>exact(rQ hK nb).elim
 | iT X hm nb hx h k=>exact(rQ hK nb).elim
 | jc d hd hm nb cs h k=>exact(rQ hK nb).elim
 | ln b cs cG hd hm hb jD h k=>have:=pL.1 hm;omega
 | fresh mk xs e hm nb h k=>exact(rQ hK nb).elim
 | il bt ha nb h hm k=>exact(rQ hK nb).elim
 | m5 mk xs e hk hm nb h k=>have:=vh.1 (show pI x.op=true by simp[pI,hm]);omega
 | lK bt hk ha nb h hm k=>omega
 | lq v hk hm nb hc h k=>
  cases k with
  | jb v hm nb h k=>exact(rQ hK nb).elim
  | iT X hm nb hx h k=>exact(rQ hK nb).elim
  | jc d hd hm nb cs h k=>exact(rQ hK nb).elim
  | ln b cs cG hd hm hb jD h k=>exact absurd (pL.1 hm) ky
  | fresh mk xs e hm nb h k=>exact(rQ hK nb).elim
  | il bt ha nb h hm k=>exact(rQ hK nb).elim
  | lq v' jR bm dy jg h' k'=>
   refine .lq v' jR bm (lr dy) hc (h'.move (m6 hw.ys cj)) (.lq v hk hm (m7 nb) hc (h.move (rO hw.xs gi)) ?_)
   rw[←oS _ _ hw.ne];exact k'
  | m5 mk xs e jR bm dy h' k'=>
   refine .m5 mk xs e jR bm (lr dy) (h'.move (m6 hw.ys cj)) fun g hg hr=> .lq v hk hm (m7 nb) (fun ad u hu=>cZ (Heap.bC _ hg) (hc ad u hu)) (h.move (rO hw.xs gi)) ?_
   rw[←oS _ _ hw.ne];exact k' g hg hr
  | lK bt jR CE dy h' bm k'=>
   have Ww:∀u H',bt u H'→md.qz H':=by
    rcases bm with e | e
    ·exact absurd (pL.1 e) ky
    ·exact e
   refine .lK bt jR CE (lr dy) (h'.move (m6 hw.ys cj)) bm fun u H' hp hr=> .lq v hk hm (m7 nb) (Ww u H' hp) (h.move (rO hw.xs gi)) ?_
   rw[←oS _ _ hw.ne];exact k' u H' hp hr
theorem fZ.swap(eF:md≠.plain)(hw:zJ md all x y)(zK:∀d,x.dst=some d→d<n)(oT:∀d,y.dst=some d→d<n)
  (hS:∃a,fQ n s a) (hH:Real H) (h:fZ P n all md x s H (fun s1 H1=>fZ P n all md y s1 H1 K)):fZ P n all md y s H (fun s2 H2=>fZ P n all md x s2 H2 K):=by
 cases hK:md.m0 with
 | false=>exact fZ.Wr eF hK hw zK oT hS hH h
 | true=>exact fZ.Wv hK hw zK oT h
end
end Go.ay
namespace Go.ay
section
variable (P:Program) (n:Nat) (all:Array Oper) (md:Mode)
def aO:List Oper→St→Heap→(St→Heap→Prop)→Prop
 | [],s,H,K=>K s H
 | o::r,s,H,K=>fZ P n all md o s H (fun s' H'=>aO r s' H' K)
end
section
variable {P:Program} {n:Nat} {all:Array Oper} {md:Mode} {s:St} {H:Heap} {K K':St→Heap→Prop}
theorem fZ.Wx{o:Oper}(pK:∀d,o.dst=some d→d<n)(hS:∃a,fQ n s a)(hH:Real H)(h:fZ P n all md o s H K)
  (hk:∀s H,(∃a,fQ n s a)→Real H→K s H→K' s H):fZ P n all md o s H K':=by
 obtain⟨a,ha⟩:=hS
 have xD:∀X:Slot,(∃a,fQ n (aY s o.dst X) a):=fun X=>by
  obtain⟨d⟩ | hd:o.dst=none∨∃d,o.dst=some d:=by cases o.dst <;> simp
  ·rw[‹o.dst=none›];exact⟨a,ha⟩
  ·obtain⟨d,hd⟩:=hd
   rw[hd]
   have key:∀u,(∀v,X = .val v→u=v)→∃a,fQ n (aY s (some d) X) a:=fun u hu=>by
    refine⟨a.put (some d) u,by rw[Act.zF];exact ha.size,fun t v ht=> ?_⟩
    by_cases e:t=d
    ·subst e
     rw[show aY s (some t) X=put s t X from rfl,ik]at ht
     simp only[Option.some.injEq]at ht
     rw[Act.vg _ _ _ (by rw[ha.size];exact pK t hd),hu v ht]
    ·rw[show aY s (some d) X=put s d X from rfl,fH _ _ e]at ht
     rw[Act.pH _ _ e];exact ha.at_ t v ht
   cases X with
   | val v=>exact key v (fun v' h=>by cases h;rfl)
   | box cs=>exact key undef (fun v' h=>by cases h)
   | ref b off=>exact key undef (fun v' h=>by cases h)
 cases h with
 | jb v hm nb h k=>exact .jb v hm nb h (hk _ _ (xD _) hH k)
 | iT x hm nb hx h k=>exact .iT x hm nb hx h (hk _ _ (xD _) hH k)
 | jc d hd hm nb cs h k=>exact .jc d hd hm nb cs h (hk _ _ ⟨a,ha.size,fun t v ht=>ha.at_ t v (JY ht).2⟩ hH k)
 | ln b cs cG hd hm hb jD h k=>
  refine .ln b cs cG hd hm hb jD h (hk _ _ ⟨a,ha.size,fun t v ht=> ?_⟩ hH k)
  by_cases e:t=b
  ·subst e;rw[ik]at ht;cases ht
  ·rw[fH _ _ e]at ht;exact ha.at_ t v ht
 | fresh mk xs e hm nb h k=>exact .fresh mk xs e hm nb h fun g hg hr=>hk _ _ (xD _) hr (k g hg hr)
 | il bt CE nb h hm k=>exact .il bt CE nb h hm fun v H' hp hr=>hk _ _ (xD _) hr (k v H' hp hr)
 | lq v ck hm nb hc h k=>exact .lq v ck hm nb hc h (hk _ _ (xD _) hH k)
 | m5 mk xs e ck hm nb h k=>exact .m5 mk xs e ck hm nb h fun g hg hr=>hk _ _ (xD _) hr (k g hg hr)
 | lK bt ck CE nb h hm k=>exact .lK bt ck CE nb h hm fun v H' hp hr=>hk _ _ (xD _) hr (k v H' hp hr)
theorem aO.front(eF:md≠.plain){y:Oper}{Y:List Oper}(oT:∀d,y.dst=some d→d<n):∀(X:List Oper)(s:St)(H:Heap),(∀x,x∈X→zJ md all x y)→(∀x,x∈X→∀d,x.dst=some d→d<n)→
  (∃a,fQ n s a)→Real H→aO P n all md (X++y::Y) s H K→aO P n all md (y::(X++Y)) s H K:=by
 intro X
 induction X with
 | nil=>intro s H _ _ _ _ h;exact h
 | cons x X ih=>
  intro s H hw hn hS hH h
  have h1:fZ P n all md x s H (fun s1 H1=>fZ P n all md y s1 H1 (fun s2 H2=>aO P n all md (X++Y) s2 H2 K)):=
   fZ.Wx (hn x (List.mem_cons_self ..)) hS hH h fun s1 H1 Wy CF h1=>
    ih s1 H1 (fun z hz=>hw z (List.mem_cons_of_mem _ hz)) (fun z hz=>hn z (List.mem_cons_of_mem _ hz)) Wy CF h1
  exact fZ.swap eF (hw x (List.mem_cons_self ..)) (hn x (List.mem_cons_self ..)) oT hS hH h1
end
theorem Oper.O3{P:Program}{o:Oper}{a:Act}{w:World}{K:Act→World→Prop}{Q:Exit→Act→World→Prop}(h:o.wp P a w K (fun _ _ _=>False)):o.wp P a w K Q:=by
 unfold Oper.wp at h⊢
 generalize (execOp a.eval o).run P w=r at h⊢
 cases r with
 | ok m w'=>
  cases m <;> simp only[Oper.upon]at h⊢<;> first
   | exact h
   | exact h.mono fun e Cs he=>by
      cases e with
      | returned v=>exact he
      | panicked c=>exact he.elim
      | outgrown=>obtain⟨_,_,hh⟩:=he;exact hh.elim
 | halt x w'=>cases x <;> simp only[Oper.upon]at h⊢
section
variable {P:Program} {n:Nat} {w0:World} {H0:Heap} {Q:Exit→Act→World→Prop} {K:St→Heap→Prop}
theorem CG{a b:Nat}(h:Nat.blt a b=true):a<b:=Nat.le_of_ble_eq_true h
def CH(n:Nat)(l:List Oper):Bool:=l.all fun o=>match o.dst with | some d=>Nat.blt d n | none=>true
theorem O4{l:List Oper}(h:CH n l=true):∀o,o∈l→∀d,o.dst=some d→d<n:=fun o ho d hd=>by
 have:=List.all_eq_true.1 h o ho
 rw[hd]at this
 exact CG this
theorem aO.wpList{all:Array Oper}(hQ:∀s H a w,Rel w0 H0 n s H a w→K s H→Q .normal a w):∀(l:List Oper)(s:St)(H:Heap)(a:Act)(w:World),(∀o,o∈l→∀d,o.dst=some d→d<n)→
  Rel w0 H0 n s H a w→aO P n all .plain l s H K→wpList P all Q l a w:=by
 intro l
 induction l with
 | nil=>intro s H a w _ hR h;exact hQ s H a w hR h
 | cons o l ih=>
  intro s H a w hn hR h
  have hs:=fZ.sound hR (hn o (List.mem_cons_self ..)) h
  unfold Go.wpList
  rcases hs with ⟨h1,h2⟩ | ⟨h1,s',H',dE,h2⟩
  ·rw[if_pos h1]
   refine .inl (Oper.O3 (Oper.wp_mono (fun a' w' hh=> ?_) h2))
   obtain⟨s',H',dE,hk⟩:=hh
   exact ih s' H' a' w' (fun z hz=>hn z (List.mem_cons_of_mem _ hz)) dE hk
  ·rw[if_neg (by rw[h1];simp)]
   exact ih s' H' _ w (fun z hz=>hn z (List.mem_cons_of_mem _ hz)) dE h2
end
def eK(l:List Oper)(i:Nat):Oper:=l[i]?.getD default
def nU(l:List Oper):Nat→Nat→Nat→Bool
 | 0,_,_=>false
 | f+1,i,j=>(eK l j).after.any fun e=>Region.binds .any e&&(Nat.beq e.on i||nU l f i e.on)
def xE(md:Mode)(l:List Oper):List Nat→Bool
 | []=>true
 | i::r=>r.all (fun j=>nU l l.length i j||Sw md l.toArray (eK l i) (eK l j))&&xE md l r
def CI:List Nat→Bool
 | []=>true
 | i::r=> !r.contains i&&CI r
def zL(n:Nat)(md:Mode)(l:List Oper)(perm:List Nat):Bool:=
 !md.OQ&&CH n l&&Nat.beq perm.length l.length&&perm.all (fun i=>Nat.blt i l.length)&&CI perm&&xE md l perm&&(List.range l.length).all (fun i=>perm.contains i) &&
 (List.range l.length).all fun i=>(eK l i).after.all fun e=> !Region.binds .any e||Nat.blt e.on i
section
variable {P:Program} {n:Nat} {w0:World} {H0:Heap} {Q:Exit→Act→World→Prop} {K:St→Heap→Prop} {md:Mode} {l:List Oper}
theorem Gr{i:Nat}(h:i<l.length):l[i]? = some (eK l i):=by
 unfold eK;rw[List.getElem?_eq_getElem h];rfl
theorem Wz{kg:Array Bool}(Gs:∀i,kg.getD i false=true→∀e,e∈(eK l i).after→Region.binds .any e=true→kg.getD e.on false=true):
  ∀f i j,(∀e,e∈(eK l j).after→Region.binds .any e=true→kg.getD e.on false=true)→nU l f i j=true→kg.getD i false=true:=by
 intro f
 induction f with
 | zero=>intro i j _ h;cases h
 | succ f ih=>
  intro i j hj h
  simp only[nU,Array.any_eq_true']at h
  obtain⟨e,he,h⟩:=h
  simp only[Bool.and_eq_true,Bool.or_eq_true]at h
  obtain⟨hb,h⟩:=h
  rcases h with h | h
  ·have:=Nat.eq_of_beq_eq_true h
   rw[←this];exact hj e he hb
  ·exact ih i e.on (Gs _ (hj e he hb)) h
theorem WA{r:List Nat}(h:xE md l r=true):r.Pairwise fun i j=>nU l l.length i j=true∨Sw md l.toArray (eK l i) (eK l j)=true:=by
 induction r with
 | nil=>exact .nil
 | cons i r ih=>
  simp only[xE,Bool.and_eq_true,List.all_eq_true,Bool.or_eq_true]at h
  exact .cons (fun j hj=>h.1 j hj) (ih h.2)
theorem WB{r:List Nat}(h:CI r=true):r.Nodup:=by
 induction r with
 | nil=>exact .nil
 | cons i r ih=>
  simp only[CI,Bool.and_eq_true,Bool.not_eq_true',List.contains_eq_mem,decide_eq_false_iff_not]at h
  exact List.nodup_cons.2 ⟨h.1,ih h.2⟩
theorem O5{A:Array Bool}{i j:Nat}{b:Bool}(hi:i<A.size):(A.setIfInBounds i true).getD j b=if j=i then true else A.getD j b:=by
 simp only[Array.getD_eq_getD_getElem?,Array.getElem?_setIfInBounds]
 by_cases e:i=j
 ·subst e;simp[hi]
 ·rw[if_neg e,if_neg (Ne.symm e)]
theorem WC(eF:md≠.plain)(hn:∀o,o∈l→∀d,o.dst=some d→d<n)(O6:∀i,i<l.length→∀e,e∈(eK l i).after→Region.binds .any e=true→e.on<i)
  (hQ:∀s H a w,Rel w0 H0 n s H a w→K s H→Q .normal a w):
  ∀(fuel:Nat)(r:List Nat)(kg:Array Bool)(s:St)(H:Heap)(a:Act)(w:World),(∀i,i∈r↔i<l.length∧kg.getD i true=false)→r.Nodup→kg.size=l.length→
  (r.Pairwise fun i j=>nU l l.length i j=true∨Sw md l.toArray (eK l i) (eK l j)=true)→
  (∀i,kg.getD i false=true→∀e,e∈(eK l i).after→Region.binds .any e=true→kg.getD e.on false=true)→
  r.length≤fuel→Rel w0 H0 n s H a w→aO P n l.toArray md (r.map (eK l)) s H K→wpAny P .any l.toArray Q fuel kg a w:=by
 intro fuel
 induction fuel with
 | zero=>
  intro r kg s H a w hr _ cP _ _ hlen hR h
  obtain rfl:r = []:=List.eq_nil_of_length_eq_zero (by omega)
  refine⟨?_,hQ s H a w hR h⟩
  unfold Region.ready
  rw[List.filter_eq_nil_iff]
  intro i hi hp
  simp only[List.mem_range,List.size_toArray]at hi
  simp only[Bool.and_eq_true,Bool.not_eq_true']at hp
  exact absurd ((hr i).2 ⟨hi,hp.1⟩) (by simp)
 | succ fuel ih=>
  intro r kg s H a w hr jF cP vk Gs hlen hR h
  have rR:∀i,i∈Region.ready .any l.toArray kg↔i∈r∧∀e,e∈(eK l i).after→Region.binds .any e=true→kg.getD e.on false=true:=by
   intro i
   unfold Region.ready
   rw[List.mem_filter,hr]
   simp only[List.mem_range,List.size_toArray,Bool.and_eq_true,Bool.not_eq_true',List.getElem?_toArray]
   constructor
   ·rintro⟨h1,h2,h3⟩
    rw[Gr h1]at h3
    simp only[Option.map_some,Option.getD_some,Array.all_eq_true',Bool.or_eq_true,Bool.not_eq_true']at h3
    refine⟨⟨h1,h2⟩,fun e he hb=> ?_⟩
    rcases h3 e he with h4 | h4
    ·rw[hb]at h4;cases h4
    ·exact h4
   ·rintro⟨⟨h1,h2⟩,h3⟩
    refine⟨h1,h2,?_⟩
    rw[Gr h1]
    simp only[Option.map_some,Option.getD_some,Array.all_eq_true',Bool.or_eq_true,Bool.not_eq_true']
    intro e he
    cases hb:Region.binds .any e with
    | false=>exact .inl rfl
    | true=>exact .inr (h3 e he hb)
  have J3:∀j,j<l.length→j∉r→kg.getD j false=true:=by
   intro j hj WD
   have:kg.getD j true≠false:=fun hf=>WD ((hr j).2 ⟨hj,hf⟩)
   simp only[Array.getD_eq_getD_getElem?]at this⊢
   rw[Array.getElem?_eq_getElem (by omega)]at this⊢
   simpa using this
  refine⟨fun he=> ?_,fun i hi=> ?_⟩
  ·
   have oV:r = []:=by
    cases hc:r with
    | nil=>rfl
    | cons z r'=>
     exfalso
     have key:∀m,∀i,i≤m→i∈r→False:=by
      intro m
      induction m with
      | zero=>
       intro i cQ vn
       have ng:i∈Region.ready .any l.toArray kg:=(rR i).2 ⟨vn,fun e zM hb=>by
        have:=O6 i ((hr i).1 vn).1 e zM hb;omega⟩
       rw[he]at ng;cases ng
      | succ m WE=>
       intro i cQ vn
       have mx:=((hr i).1 vn).1
       have ng:i∈Region.ready .any l.toArray kg:=(rR i).2 ⟨vn,fun e zM hb=>by
        have bH:=O6 i mx e zM hb
        exact J3 e.on (by omega) (fun h'=>WE e.on (by omega) h')⟩
       rw[he]at ng;cases ng
     exact key z z (Nat.le_refl _) (by rw[hc];exact List.mem_cons_self ..)
   subst oV
   exact hQ s H a w hR h
  ·obtain⟨vn,O7⟩:=(rR i).1 hi
   have mx:=((hr i).1 vn).1
   obtain⟨X,Y,rfl⟩:=List.append_of_mem vn
   have jD:∀x,x∈X→zJ md l.toArray (eK l x) (eK l i):=by
    intro x hx
    have hp:nU l l.length x i=true∨Sw md l.toArray (eK l x) (eK l i)=true:=by
     rw[List.pairwise_append]at vk
     exact vk.2.2 x hx i (List.mem_cons_self ..)
    rcases hp with hp | hp
    ·exfalso
     have h1:=Wz Gs l.length x i O7 hp
     have h2:=((hr x).1 (List.mem_append_left _ hx)).2
     simp only[Array.getD_eq_getD_getElem?]at h1 h2
     cases hg:kg[x]? with
     | none=>rw[hg]at h1;simp at h1
     | some b=>rw[hg]at h1 h2;simp at h1 h2;rw[h1]at h2;cases h2
    ·exact Sw.out hp
   have J4:∀j,j<l.length→∀d,(eK l j).dst=some d→d<n:=fun j hj=>hn _ (List.mem_of_getElem? (Gr hj))
   obtain⟨G,hl,_⟩:=hR.fits
   have WG:=aO.front (P:=P) eF (y:=eK l i) (Y:=Y.map (eK l)) (K:=K) (J4 i mx) (X.map (eK l)) s H
    (fun x hx=>by obtain⟨j,hj,rfl⟩:=List.mem_map.1 hx;exact jD j hj)
    (fun x hx=>by obtain⟨j,hj,rfl⟩:=List.mem_map.1 hx;exact J4 j ((hr j).1 (List.mem_append_left _ hj)).1) ⟨a,hl.aT⟩ ⟨w,hl.den⟩ (by simpa using h)
   have hs:=fZ.sound hR (J4 i mx) WG
   have O8:(X++Y).Nodup∧i∉X++Y:=by
    have:=(List.perm_middle (a:=i) (l₁:=X) (l₂:=Y)).nodup_iff.1 jF
    rw[List.nodup_cons]at this
    exact⟨this.2,this.1⟩
   have next:∀s' H' a' w',Rel w0 H0 n s' H' a' w'→aO P n l.toArray md (X.map (eK l)++Y.map (eK l)) s' H' K→wpAny P .any l.toArray Q fuel (kg.setIfInBounds i true) a' w':=by
    intro s' H' a' w' dE hk
    refine ih (X++Y) _ s' H' a' w' (fun j=> ?_) O8.1 (by simpa using cP) ?_ (fun j hj e zM hb=> ?_) ?_ dE (by simpa using hk)
    ·rw[O5 (by omega)]
     by_cases e:j=i
     ·subst e
      simp only[if_true]
      exact⟨fun h'=>absurd h' O8.2,fun h'=>by cases h'.2⟩
     ·rw[if_neg e,←hr]
      simp only[List.mem_append,List.mem_cons]
      constructor
      ·rintro(h' | h')
       ·exact .inl h'
       ·exact .inr (.inr h')
      ·rintro(h' | h' | h')
       ·exact .inl h'
       ·exact absurd h' e
       ·exact .inr h'
    ·exact vk.sublist (List.Sublist.append (List.Sublist.refl _) (List.sublist_cons_self ..))
    ·rw[O5 (by omega)]at hj⊢
     by_cases e2:e.on=i
     ·rw[if_pos e2]
     ·rw[if_neg e2]
      by_cases e3:j=i
      ·subst e3;exact O7 e zM hb
      ·rw[if_neg e3]at hj;exact Gs j hj e zM hb
    ·simp only[List.length_append,List.length_cons]at hlen⊢;omega
   unfold wpOp
   rw[show l.toArray[i]? = some (eK l i)from by rw[List.getElem?_toArray];exact Gr mx]
   simp only
   rcases hs with ⟨h1,h2⟩ | ⟨h1,s',H',dE,h2⟩
   ·rw[if_pos h1]
    refine .inl (Oper.O3 (Oper.wp_mono (fun a' w' hh=> ?_) h2))
    obtain⟨s',H',dE,hk⟩:=hh
    exact next s' H' a' w' dE hk
   ·rw[if_neg (by rw[h1];simp)]
    exact next s' H' _ w dE h2
theorem WH{id:Nat}{perm:List Nat}{s:St}{H:Heap}{a:Act}{w:World}(hf:P.follows .mixedOrders=true)(hc:zL n md l perm=true)
  (hQ:∀s H a w,Rel w0 H0 n s H a w→K s H→Q .normal a w) (hR:Rel w0 H0 n s H a w) (h:aO P n l.toArray md (perm.map (eK l)) s H K):(Code.region id l.toArray true).wp P Q a w:=by
 simp only[zL,Bool.and_eq_true,List.all_eq_true]at hc
 obtain⟨⟨⟨⟨⟨⟨⟨h1,h2⟩,h3⟩,h4⟩,h5⟩,h6⟩,h8⟩,h7⟩:=hc
 have h1:md≠.plain:=fun e=>by rw[e]at h1;cases h1
 have h3:=Nat.eq_of_beq_eq_true h3
 have h4:∀i,i∈perm→i<l.length:=fun i hi=>CG (h4 i hi)
 have h5:=WB h5
 have CJ:∀i,i<l.length→i∈perm:=by
  intro i hi
  simpa using h8 i (List.mem_range.2 hi)
 refine wp_region_any hf ?_
 refine WC h1 (O4 h2) (fun i hi e he hb=> ?_) hQ l.toArray.size perm _ s H a _ (fun i=> ?_) h5 (by simp) (WA h6) (fun i hi=> ?_) (by simp[h3]) ?_ h
 ·have:=h7 i (List.mem_range.2 hi)
  rw[Array.all_eq_true']at this
  have:=this e he
  simp only[Bool.or_eq_true,Bool.not_eq_true']at this
  rcases this with h' | h'
  ·rw[hb]at h';cases h'
  ·exact CG h'
 ·constructor
  ·intro hi
   refine⟨h4 i hi,?_⟩
   simp[Array.getD_eq_getD_getElem?,h4 i hi]
  ·exact fun hi=>CJ i hi.1
 ·exfalso
  simp only[Array.getD_eq_getD_getElem?,Array.getElem?_replicate]at hi
  split at hi <;> simp at hi
 ·obtain⟨G,hl,hb⟩:=hR.fits
  exact⟨hR.defers,⟨G,⟨hl.aT,hl.boxes,hl.inj,hl.refs,hl.den⟩,hb⟩,⟨hR.fx.os,hR.fx.tape,hR.fx.output,hR.fx.size,hR.fx.keep,hR.fx.form⟩⟩
end
end Go.ay
