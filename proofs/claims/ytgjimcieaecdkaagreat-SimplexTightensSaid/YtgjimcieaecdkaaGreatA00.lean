/- Part 0 of the proof: Eng1, Eng2, Eng3, Eng4, Eng5. -/
import Derived.Orders
import Derived.Tactics
import Derived.Maps.AppendAt
import Derived.Laws.OwnMore
import Derived.Laws.MakeOwn
import Derived.Below
set_option linter.unusedVariables false
namespace Go.au
inductive Slot where
 | val (v:Value)
 | box (cs:List Value)
 | ref (b off:Nat)
abbrev St:=Nat→Option Slot
def emp:St:=fun _=>none
def put(s:St)(d:Nat)(x:Slot):St:=fun t=>cond (Nat.beq t d) (some x) (s t)
def eJ(s:St)(d:Nat)(cs:List Value):St:=fun t=>
 cond (Nat.beq t d) (some (.box cs)) (match s t with | some (.ref b o)=>cond (Nat.beq b d) none (some (.ref b o)) | x=>x)
def aQ(s:St)(d:Option Nat)(x:Slot):St:=match d with | some d=>put s d x | none=>s
theorem fi(s:St)(d:Nat)(x:Slot):put s d x d=some x:=by simp[put]
theorem dW(s:St){d t:Nat}(x:Slot)(h:t≠d):put s d x t=s t:=by
 have:Nat.beq t d=false:=by
  cases hb:Nat.beq t d with
  | false=>rfl
  | true=>exact absurd (Nat.eq_of_beq_eq_true hb) h
 simp[put,this]
theorem put_comm(s:St){d e:Nat}(x y:Slot)(h:d≠e):put (put s d x) e y=put (put s e y) d x:=by
 funext t
 by_cases h1:t=d
 ·subst h1;rw[dW _ _ h,fi,fi]
 ·by_cases h2:t=e
  ·subst h2;rw[fi,dW _ _ h1,fi]
  ·rw[dW _ _ h2,dW _ _ h1,dW _ _ h1,dW _ _ h2]
structure aG where
 xs:List Value
 size:Nat
 elem:TypeId
 own:Bool
def aG.of(e:aG)(o:Obj):Prop:=
 ∃(c:Array Value)(fz:Nat×Nat),o = .cells c e.elem fz∧c.size=e.size∧(∀(i:Nat)(v:Value),e.xs[i]? = some v→c[i]? = some v)∧(e.own=true→fz=(0,0))
abbrev Heap:=Nat→Option aG
def Den(H:Heap)(w:World):Prop:=∀g e,H g=some e→∃o,w.heap[g]? = some o∧e.of o
def ins(H:Heap)(g:Nat)(e:aG):Heap:=fun k=>if k=g then some e else H k
theorem bn(H:Heap)(g:Nat)(e:aG):ins H g e g=some e:=by simp[ins]
theorem bD(H:Heap){g k:Nat}(e:aG)(h:k≠g):ins H g e k=H k:=by simp[ins,h]
def aG.le(e e':aG):Prop:=e'.size=e.size∧e'.elem=e.elem∧e'.own=e.own∧e.xs <+:e'.xs
def Heap.le(H H':Heap):Prop:=∀g e,H g=some e→∃e',H' g=some e'∧e.le e'
theorem aG.le.refl(e:aG):e.le e:=⟨rfl,rfl,rfl,List.prefix_rfl⟩
theorem aG.le.trans{a b c:aG}(h:a.le b)(k:b.le c):a.le c:=
 ⟨k.1.trans h.1,k.2.1.trans h.2.1,k.2.2.1.trans h.2.2.1,h.2.2.2.trans k.2.2.2⟩
theorem Heap.le.refl(H:Heap):Heap.le H H:=fun _ e h=>⟨e,h,.refl e⟩
theorem Heap.le.trans{A B C:Heap}(h:Heap.le A B)(k:Heap.le B C):Heap.le A C:=fun g e he=>by
 obtain⟨e',h1,h2⟩:=h g e he
 obtain⟨Es,h3,h4⟩:=k g e' h1
 exact⟨Es,h3,h2.trans h4⟩
theorem Heap.bh{H:Heap}{g:Nat}(e:aG)(h:H g=none):Heap.le H (ins H g e):=fun k x hk=>
 ⟨x,by rw[bD _ _ (fun e=>by subst e;rw[h]at hk;cases hk)];exact hk,.refl x⟩
theorem Et{l l':List Value}(h:l <+:l'){i:Nat}{v:Value}(hi:l[i]? = some v):l'[i]? = some v:=by
 obtain⟨t,rfl⟩:=h
 rw[List.getElem?_append_left (List.getElem?_eq_some_iff.1 hi).1];exact hi
theorem aG.le.of{e e':aG}(h:e.le e'){o:Obj}(ho:e'.of o):e.of o:=by
 obtain⟨c,fz,h1,h2,h3,h4⟩:=ho
 exact⟨c,fz,by rw[h1,h.2.1],by rw[h2,h.1],fun i v hv=>h3 i v (Et h.2.2.2 hv),fun ho=>h4 (h.2.2.1.trans ho)⟩
theorem Den.le{H H':Heap}(h:Heap.le H H'){w:World}(hd:Den H' w):Den H w:=fun g e he=>by
 obtain⟨e',h1,h2⟩:=h g e he
 obtain⟨o,h3,h4⟩:=hd g e' h1
 exact⟨o,h3,h2.of h4⟩
theorem Den.lt{H:Heap}{w:World}(h:Den H w){g:Nat}{e:aG}(hg:H g=some e):g<w.heap.size:=by
 obtain⟨o,h1,_⟩:=h g e hg
 exact(Array.getElem?_eq_some_iff.1 h1).1
theorem Den.fresh{H:Heap}{w:World}(h:Den H w):H w.heap.size=none:=by
 cases hg:H w.heap.size with
 | none=>rfl
 | some e=>have:=h.lt hg;omega
def cell(H:Heap)(a:Addr):Option Value:=
 match H a.block with
 | some e=>if a.spot.isSome then none else e.xs[a.off]?
 | none=>none
theorem Den.cell{H:Heap}{w:World}(h:Den H w){a:Addr}{v:Value}(hc:cell H a=some v):w.cell? a=some v:=by
 unfold au.cell at hc
 cases hg:H a.block with
 | none=>rw[hg]at hc;cases hc
 | some e=>
  rw[hg]at hc
  obtain⟨o,h1,c,fz,rfl,h3,h4,_⟩:=h _ _ hg
  simp only at hc
  split at hc
  ·cases hc
  ·rename_i hs
   simp[World.cell?,h1,hs,h4 _ _ hc]
theorem cg{H H':Heap}(h:Heap.le H H'){a:Addr}{v:Value}(hc:cell H a=some v):cell H' a=some v:=by
 unfold cell at hc⊢
 cases hg:H a.block with
 | none=>rw[hg]at hc;cases hc
 | some e=>
  rw[hg]at hc
  obtain⟨e',h1,h2⟩:=h _ _ hg
  rw[h1]
  simp only at hc⊢
  split at hc
  ·cases hc
  ·rename_i hs
   rw[if_neg hs];exact Et h2.2.2.2 hc
structure Fx(H:Heap)(w:World)(H':Heap)(w':World):Prop where
 os:w'.os=w.os
 tape:w'.tape=w.tape
 output:w'.output=w.output
 size:w.heap.size≤w'.heap.size
 gU:∀g,g<w.heap.size→H g=none→w'.heap[g]? = w.heap[g]?∧H' g=none
 form:∀(g:Nat)(c:Array Value)(t:TypeId)(fz:Nat×Nat),w.heap[g]? = some (.cells c t fz)→∃c',w'.heap[g]? = some (.cells c' t fz)∧c'.size=c.size
theorem Fx.refl(H:Heap)(w:World):Fx H w H w:=⟨rfl,rfl,rfl,Nat.le_refl _,fun _ _ h=>⟨rfl,h⟩,fun _ c _ _ h=>⟨c,h,rfl⟩⟩
theorem Fx.trans{H H' qK:Heap}{w w' w9:World}(h:Fx H w H' w')(k:Fx H' w' qK w9):Fx H w qK w9:=
 ⟨k.os.trans h.os,k.tape.trans h.tape,k.output.trans h.output,Nat.le_trans h.size k.size,fun g hg h0=>by
  have h1:=h.gU g hg h0
  have h2:=k.gU g (Nat.lt_of_lt_of_le hg h.size) h1.2
  exact⟨h2.1.trans h1.1,h2.2⟩,fun g c t fz hc=>by
  obtain⟨c1,h1,h2⟩:=h.form g c t fz hc
  obtain⟨c2,h3,h4⟩:=k.form g c1 t fz h1
  exact⟨c2,h3,h4.trans h2⟩⟩
theorem Fx.Eu{w w':World}(h:∀g,g<w.heap.size→w'.heap[g]? = w.heap[g]?):∀(g:Nat)(c:Array Value)(t:TypeId)(fz:Nat×Nat),w.heap[g]? = some (.cells c t fz)→∃c',w'.heap[g]? = some (.cells c' t fz)∧c'.size=c.size:=
 fun g c t fz hc=>⟨c,by rw[h g (Array.getElem?_eq_some_iff.1 hc).1];exact hc,rfl⟩
structure ey(n:Nat)(s:St)(a:Act):Prop where
 size:a.tmps.size=n
 at_:∀t v,s t=some (.val v)→a.tmps[t]? = some v
structure Rl(n:Nat)(s:St)(H:Heap)(G:Nat→Nat)(a:Act)(w:World):Prop where
 aH:ey n s a
 boxes:∀t cs,s t=some (.box cs)→a.tmps[t]? = some (.pointer (some ⟨G t,0,none⟩))∧H (G t)=none∧∃e,w.heap[G t]? = some (.cells cs.toArray e (0,0))
 inj:∀t t' cs bH,s t=some (.box cs)→s t'=some (.box bH)→G t=G t'→t=t'
 refs:∀t b off cs,s t=some (.ref b off)→s b=some (.box cs)→a.tmps[t]? = some (.pointer (some ⟨G b,off,none⟩))
 den:Den H w
structure Rel(w0:World)(H0:Heap)(n:Nat)(s:St)(H:Heap)(a:Act)(w:World):Prop where
 defers:a.defers = []
 fits:∃G,Rl n s H G a w∧∀t cs,s t=some (.box cs)→w0.heap.size≤G t
 fx:Fx H0 w0 H w
def ev(s:St):Operand→Option Value
 | .tmp t=>match s t with | some (.val v)=>some v | _=>none
 | .const v=>some v
 | .func f=>some (.func (.func f) #[] #[])
 | .global g=>some (.pointer (some ⟨g,0,none⟩))
theorem a7{n:Nat}{s:St}{a:Act}(h:ey n s a){x:Operand}{v:Value}(hx:ev s x=some v):a.eval x=v:=by
 cases x with
 | tmp t=>
  simp only[ev]at hx
  cases hs:s t with
  | none=>rw[hs]at hx;cases hx
  | some y=>
   rw[hs]at hx
   cases y with
   | val u=>
    simp only[Option.some.injEq]at hx
    subst hx
    have:=h.at_ t u hs
    simp[Act.eval,this]
   | box=>cases hx
   | ref=>cases hx
 | const u=>simp only[ev,Option.some.injEq]at hx;exact hx
 | func f=>simp only[ev,Option.some.injEq]at hx;exact hx
 | global g=>simp only[ev,Option.some.injEq]at hx;exact hx
theorem Act.qL(a:Act)(d:Nat)(v:Value)(h:d<a.tmps.size):(a.put (some d) v).tmps[d]? = some v:=by
 simp[Act.put,h]
theorem Act.mB(a:Act){d t:Nat}(v:Value)(h:t≠d):(a.put (some d) v).tmps[t]? = a.tmps[t]? :=by
 simp[Act.put,Array.getElem?_setIfInBounds_ne (Ne.symm h)]
theorem Act.u6(a:Act)(d:Option Tmp)(v:Value):(a.put d v).tmps.size=a.tmps.size:=by
 cases d <;> simp[Act.put]
theorem Act.I3(a:Act)(d:Option Tmp)(v:Value):(a.put d v).defers=a.defers:=by
 cases d <;> rfl
def Ev(G:Nat→Nat):Slot→Value→Prop
 | .val v,u=>u=v
 | .ref b off,u=>u = .pointer (some ⟨G b,off,none⟩)
 | .box _,_=>False
theorem Rl.put{n:Nat}{s:St}{H:Heap}{G:Nat→Nat}{a:Act}{w:World}(h:Rl n s H G a w){d:Nat}{x:Slot}{v:Value}(hn:d<n)(hx:Ev G x v):
  Rl n (put s d x) H G (a.put (some d) v) w:=by
 have hd:d<a.tmps.size:=by rw[h.aH.size];exact hn
 have nb:∀t cs,au.put s d x t=some (.box cs)→t≠d∧s t=some (.box cs):=by
  intro t cs ht
  by_cases e:t=d
  ·subst e
   rw[fi]at ht
   simp only[Option.some.injEq]at ht
   subst ht
   exact hx.elim
  ·rw[dW _ _ e]at ht;exact⟨e,ht⟩
 refine⟨⟨by rw[Act.u6];exact h.aH.size,fun t u ht=> ?_⟩,fun t cs ht=> ?_,fun t t' cs bH ht ox e=> ?_,fun t b off cs ht hb=> ?_,h.den⟩
 ·by_cases e:t=d
  ·subst e
   rw[fi]at ht
   simp only[Option.some.injEq]at ht
   subst ht
   rw[Act.qL _ _ _ hd,hx]
  ·rw[dW _ _ e]at ht
   rw[Act.mB _ _ e];exact h.aH.at_ t u ht
 ·obtain⟨e,ht⟩:=nb t cs ht
  rw[Act.mB _ _ e];exact h.boxes t cs ht
 ·exact h.inj t t' cs bH (nb t cs ht).2 (nb t' bH ox).2 e
 ·obtain⟨_,hb⟩:=nb b cs hb
  by_cases e:t=d
  ·subst e
   rw[fi]at ht
   simp only[Option.some.injEq]at ht
   subst ht
   rw[Act.qL _ _ _ hd,hx]
  ·rw[dW _ _ e]at ht
   rw[Act.mB _ _ e];exact h.refs t b off cs ht hb
theorem Rl.A7{n:Nat}{s:St}{H H':Heap}{G:Nat→Nat}{a:Act}{w w':World}(h:Rl n s H G a w)(hd:Den H' w')(hf:Fx H w H' w'):Rl n s H' G a w':=
 ⟨h.aH,fun t cs ht=>by
  obtain⟨h1,h2,e,h3⟩:=h.boxes t cs ht
  obtain⟨h4,h5⟩:=hf.gU (G t) (Array.getElem?_eq_some_iff.1 h3).1 h2
  exact⟨h1,h5,e,h4.trans h3⟩,h.inj,h.refs,hd⟩
theorem Rl.le{n:Nat}{s:St}{H H':Heap}{G:Nat→Nat}{a:Act}{w:World}(h:Rl n s H' G a w)(hl:Heap.le H H'):Rl n s H G a w:=
 ⟨h.aH,fun t cs ht=>by
  obtain⟨h1,h2,h3⟩:=h.boxes t cs ht
  refine⟨h1,?_,h3⟩
  cases hg:H (G t)with
  | none=>rfl
  | some e=>(obtain⟨e',h4,_⟩:=hl _ _ hg;rw[h2]at h4;exact nomatch h4),h.inj,h.refs,h.den.le hl⟩
theorem ey.back{n:Nat}{s s':St}{a:Act}{d:Nat}(h:ey n s' a)(hs:∀t v,t≠d→s t=some (.val v)→s' t=some (.val v))(hd:d<n):∃v,ey n s (a.put (some d) v):=by
 have jr:d<a.tmps.size:=by rw[h.size];exact hd
 have key:∀v,(∀u,s d=some (.val u)→v=u)→ey n s (a.put (some d) v):=fun v h1=>
  ⟨by rw[Act.u6];exact h.size,fun t u ht=>by
   by_cases e:t=d
   ·subst e;rw[Act.qL _ _ _ jr,h1 u ht]
   ·rw[Act.mB _ _ e];exact h.at_ t u (hs t u e ht)⟩
 cases hx:s d with
 | none=>exact⟨undef,key _ (fun u hu=>by rw[hx]at hu;cases hu)⟩
 | some y=>
  cases y with
  | val u=>exact⟨u,key _ (fun u' hu=>by rw[hx]at hu;cases hu;rfl)⟩
  | box cs=>exact⟨undef,key _ (fun u hu=>by rw[hx]at hu;cases hu)⟩
  | ref b o=>exact⟨undef,key _ (fun u hu=>by rw[hx]at hu;cases hu)⟩
theorem Rl.back{n:Nat}{s s':St}{H:Heap}{G:Nat→Nat}{a:Act}{w:World}{d:Nat}(h:Rl n s' H G a w)(hn:∀cs,s d≠some (.box cs))
  (hs:∀t x,t≠d→s t=some x→(∀b o,x = .ref b o→b≠d)→s' t=some x) (hd:d<n):∃v,Rl n s H G (a.put (some d) v) w:=by
 have jr:d<a.tmps.size:=by rw[h.aH.size];exact hd
 have pK:∀t cs,s t=some (.box cs)→s' t=some (.box cs)∧t≠d:=fun t cs ht=>by
  have e:t≠d:=fun e=>by subst e;exact hn cs ht
  exact⟨hs t _ e ht (fun b o h=>by cases h),e⟩
 have key:∀v,(∀u,s d=some (.val u)→v=u)→(∀b o,s d=some (.ref b o)→v = .pointer (some ⟨G b,o,none⟩))→Rl n s H G (a.put (some d) v) w:=by
  intro v h1 h2
  refine⟨⟨by rw[Act.u6];exact h.aH.size,fun t u ht=> ?_⟩,fun t cs ht=> ?_,fun t t' cs bH ht ox e=> ?_,fun t b off cs ht hb=> ?_,h.den⟩
  ·by_cases e:t=d
   ·subst e;rw[Act.qL _ _ _ jr,h1 u ht]
   ·rw[Act.mB _ _ e];exact h.aH.at_ t u (hs t _ e ht (fun b o h=>by cases h))
  ·obtain⟨h3,e⟩:=pK t cs ht
   rw[Act.mB _ _ e];exact h.boxes t cs h3
  ·exact h.inj t t' cs bH (pK t cs ht).1 (pK t' bH ox).1 e
  ·obtain⟨sy,eb⟩:=pK b cs hb
   by_cases e:t=d
   ·subst e;rw[Act.qL _ _ _ jr,h2 b off ht]
   ·rw[Act.mB _ _ e]
    exact h.refs t b off cs (hs t _ e ht (fun b' o' h=>by cases h;exact eb)) sy
 cases hx:s d with
 | none=>exact⟨undef,key _ (fun u hu=>by rw[hx]at hu;cases hu) (fun b o hu=>by rw[hx]at hu;cases hu)⟩
 | some y=>
  cases y with
  | val u=>exact⟨u,key _ (fun u' hu=>by rw[hx]at hu;cases hu;rfl) (fun b o hu=>by rw[hx]at hu;cases hu)⟩
  | box cs=>exact absurd hx (hn cs)
  | ref b o=>exact⟨_,key (.pointer (some ⟨G b,o,none⟩)) (fun u hu=>by rw[hx]at hu;cases hu) (fun b' o' hu=>by rw[hx]at hu;cases hu;rfl)⟩
end Go.au
namespace Go.au
section
variable (P:Program) (n:Nat)
def xa(all:Array Oper)(s:St)(o:Oper):Prop:=
 o.guard=none∨∃j want d,o.guard=some (j,want)∧(all[j]?).bind (·.dst)=some d∧s d=some (.val (.bool want))
def I4(all:Array Oper)(s:St)(o:Oper):Prop:=
 ∃j want d v,o.guard=some (j,want)∧(all[j]?).bind (·.dst)=some d∧s d=some (.val v)∧((∃b,v = .bool b∧b≠want)∨∃ts,v = .tuple ts)
def Ba(all:Array Oper)(o:Oper)(s:St)(H:Heap)(v:Value):Prop:=∀a w,ey n s a→Den H w→
 (Region.wanted o (yielded all a.tmps)=true∧(execOp a.eval o).run P w = .ok (.value v) w)∨(Region.wanted o (yielded all a.tmps)=false∧v=undef)
def u9(all:Array Oper)(o:Oper)(s:St)(H:Heap)(x:Slot):Prop:=∀G a w,Rl n s H G a w→
 ∃v,Ev G x v∧Region.wanted o (yielded all a.tmps)=true∧(execOp a.eval o).run P w = .ok (.value v) w
def pL(all:Array Oper)(o:Oper)(s:St)(cs:List Value):Prop:=∀a w,ey n s a→
 Region.wanted o (yielded all a.tmps)=true∧∃e,(execOp a.eval o).run P w = .ok (.value (.pointer (some ⟨w.heap.size,0,none⟩))) (w.alloc (.cells cs.toArray e (0,0)))
structure I5(w w':World)(g:Nat)(cs:List Value):Prop where
 os:w'.os=w.os
 tape:w'.tape=w.tape
 output:w'.output=w.output
 size:w'.heap.size=w.heap.size
 other:∀k,k≠g→w'.heap[k]? = w.heap[k]?
 new:∃e,w'.heap[g]? = some (.cells cs.toArray e (0,0))
def Bb(all:Array Oper)(o:Oper)(s:St)(b:Nat)(bH:List Value):Prop:=∀H G a w,Rl n s H G a w→
 Region.wanted o (yielded all a.tmps)=true∧∃w',(execOp a.eval o).run P w = .ok .skip w'∧I5 w w' (G b) bH
def oy(all:Array Oper)(o:Oper)(s:St)(mk:Nat→Value)(xs:List Value)(e:TypeId):Prop:=∀a w,ey n s a→
 Region.wanted o (yielded all a.tmps)=true∧(execOp a.eval o).run P w = .ok (.value (mk w.heap.size)) (w.alloc (.cells xs.toArray e (0,0)))
def whole(xs:List Value)(e:TypeId):aG:=⟨xs,xs.length,e,true⟩
def iD(o:Oper)(ρ:Operand→Value)(w:World)(R:Value→World→Prop):Prop:=
 match (execOp ρ o).run P w with
 | .ok (.value v) w'=>R v w'
 | .ok .skip w'=>R undef w'
 | .ok (.enter f args) w'=>Calls P f args w' fun e w9=>∃v,e = .returned v∧R v w9
 | _=>False
def EV(all:Array Oper)(o:Oper)(s:St)(H:Heap)(aY:Value→Heap→Prop):Prop:=∀a w,ey n s a→Den H w→
 Region.wanted o (yielded all a.tmps)=true∧iD P o a.eval w (fun v w'=>∃H',aY v H'∧Den H' w'∧Fx H w H' w')
inductive Mode where
 | plain | bN | fC | oz
 | dK (kc:Addr→Option Value)
 | qM (st:List Nat)
def Mode.PD:Mode→Bool
 | .plain=>true
 | _=>false
def Mode.Ew:Mode→Bool
 | .bN=>true
 | .qM _=>true
 | _=>false
def Mode.Ex:Mode→Bool
 | .qM _=>true
 | _=>false
def Mode.wr:Mode→Nat→Bool
 | .qM st,b=>st.contains b
 | _,_=>false
def Mode.I6:Mode→Nat→Bool
 | .qM st,b=>st.contains b
 | _,_=>true
def fS(md:Mode)(s s':St):Prop:=∀t,s' t=s t∨(md.wr t=true∧∃c c',s t=some (.box c)∧s' t=some (.box c'))
theorem fS.refl(md:Mode)(s:St):fS md s s:=fun _=> .inl rfl
theorem fS.val{md:Mode}{s s':St}(h:fS md s s'){t:Nat}{x:Slot}(hx:∀c,x≠.box c)(e:s t=some x):s' t=some x:=by
 rcases h t with h1 | ⟨_,c,c',h1,_⟩
 ·rw[h1,e]
 ·rw[e]at h1;exact absurd (Option.some.inj h1) (hx c)
theorem fS.box{md:Mode}{s s':St}(h:fS md s s'){t:Nat}{c:List Value}(e:s t=some (.box c)):∃c',s' t=some (.box c'):=by
 rcases h t with h1 | ⟨_,_,c',_,h1⟩
 ·exact⟨c,by rw[h1,e]⟩
 ·exact⟨c',h1⟩
theorem fS.gU{md:Mode}{s s':St}(h:fS md s s'){t:Nat}(e:md.wr t=false):s' t=s t:=by
 rcases h t with h1 | ⟨h1,_⟩
 ·exact h1
 ·rw[e]at h1;cases h1
def Mode.I7:Mode→Bool
 | .oz=>true
 | _=>false
def Mode.ke:Mode→Bool
 | .dK _=>true
 | _=>false
def Mode.kc:Mode→Addr→Option Value
 | .dK k=>k
 | _=>fun _=>none
def Mode.nt(md:Mode)(H:Heap):Prop:=∀ad v,md.kc ad=some v→cell H ad=some v
def iU(s:St)(d:Option Nat):Bool:=
 match d with
 | some d=>(match s d with | some (.box _)=>false | _=>true)
 | none=>true
def sA:Op→Bool
 | .store .. =>true
 | _=>false
def xb:Op→Bool
 | .load .. | .fieldAddr .. =>true
 | _=>false
def sB:Op→Bool
 | .alloc _ | .box .. =>true
 | _=>false
def sC:Op→Bool
 | .buildSlice .. =>true
 | _=>false
def mC(o:Op):Bool:=sB o||sC o
def Real(H:Heap):Prop:=∃w,Den H w
def nu:Op→Bool
 | .select .. =>false
 | _=>true
def Bc(c:Call):Bool:=
 match c.callee with
 | .builtin .len | .builtin .cap | .builtin .min | .builtin .max=>true
 | _=>false
def kd:Op→Nat
 | .store .. =>2
 | .alloc _ | .box .. | .buildSlice .. =>3
 | .call c=>if Bc c then 0 else 1
 | .makeSlice .. | .go _ | .defer _ | .panic _ | .send .. | .recv .. | .select .. | .mapUpdate .. | .mapEntry .. | .entryStore .. | .insert .. | .makeMap .. | .makeChan .. | .ready _ | .next .. | .range .. =>1
 | _=>0
def Mode.ok(md:Mode)(o:Oper)(H:Heap)(aY:Value→Heap→Prop):Prop:=
 match md with
 | .plain=>True
 | .bN=>sA o.op=false∧∀v H',aY v H'→Heap.le H H'
 | .fC=>sA o.op=true∨∀v H',aY v H'→Heap.le H H'
 | .oz=>True
 | .dK _=>True
 | .qM _=>sA o.op=false∧∀v H',aY v H'→Heap.le H H'
def Mode.nb(md:Mode)(s:St)(d:Option Nat):Bool:=
 match md with
 | .plain=>true
 | .dK _=>false
 | _=>match d with
  | some d=>(match s d with | some (.box _)=>false | _=>true)
  | none=>true
def Slot.nv(s:St):Slot→Bool
 | .val _=>true
 | .box _=>false
 | .ref b _=>match s b with | some (.box _)=>true | _=>false
def Be(md:Mode)(all:Array Oper)(o:Oper)(s:St)(v:Value):Prop:=∀a w,ey n s a→(∀ad u,md.kc ad=some u→w.cell? ad=some u)→
 (Region.wanted o (yielded all a.tmps)=true∧(execOp a.eval o).run P w = .ok (.value v) w)∨(Region.wanted o (yielded all a.tmps)=false∧v=undef)
inductive eK(all:Array Oper)(md:Mode)(o:Oper)(s:St)(H:Heap)(K:St→Heap→Prop):Prop
 | gh (v:Value) (hm:mC o.op=false∨o.guard≠none) (nb:md.nb s o.dst=true) (h:Ba P n all o s H v) (k:K (aQ s o.dst (.val v)) H)
 | fT (x:Slot) (hm:xb o.op=true) (nb:md.nb s o.dst=true) (hx:x.nv s=true) (h:∀s',fS md s s'→u9 P n all o s' H x) (k:K (aQ s o.dst x) H)
 | gi (d:Nat) (hd:o.dst=some d) (hm:sB o.op=true) (nb:md.nb s o.dst=true) (cs:List Value) (h:pL P n all o s cs) (k:K (eJ s d cs) H)
 | iV (b:Nat) (cs bH:List Value) (hd:o.dst=none) (hm:sA o.op=true) (hb:s b=some (.box cs)) (hw:md.I6 b=true) (h:Bb P n all o s b bH) (k:K (put s b (.box bH)) H)
 | fresh (mk:Nat→Value) (xs:List Value) (e:TypeId) (hm:sC o.op=true∨(md = .plain∧sB o.op=true)) (nb:md.nb s o.dst=true) (h:oy P n all o s mk xs e) (k:∀g,H g=none→Real (ins H g (whole xs e))→K (aQ s o.dst (.val (mk g))) (ins H g (whole xs e)))
 | fj (aY:Value→Heap→Prop) (ha:kd o.op=1∨kd o.op=2∨md = .plain) (nb:md.nb s o.dst=true) (h:EV P n all o s H aY) (hm:md.ok o H aY) (k:∀v H',aY v H'→Real H'→K (aQ s o.dst (.val v)) H')
 | iW (v:Value) (hk:md.ke=true) (hm:mC o.op=false) (nb:iU s o.dst=true) (hc:md.nt H) (h:Be P n md all o s v) (k:K (aQ s o.dst (.val v)) H)
 | kf (mk:Nat→Value) (xs:List Value) (e:TypeId) (hk:md.ke=true) (hm:sC o.op=true) (nb:iU s o.dst=true) (h:oy P n all o s mk xs e) (k:∀g,H g=none→Real (ins H g (whole xs e))→K (aQ s o.dst (.val (mk g))) (ins H g (whole xs e)))
 | js (aY:Value→Heap→Prop) (hk:md.ke=true) (ha:kd o.op=1∨kd o.op=2) (nb:iU s o.dst=true) (h:EV P n all o s H aY) (hm:sA o.op=true∨∀v H',aY v H'→md.nt H') (k:∀v H',aY v H'→Real H'→K (aQ s o.dst (.val v)) H')
end
theorem iD.mono{P:Program}{o:Oper}{ρ:Operand→Value}{w:World}{R R':Value→World→Prop}(h:iD P o ρ w R)(hr:∀v w',R v w'→R' v w'):iD P o ρ w R':=by
 unfold iD at h⊢
 split at h
 ·exact hr _ _ h
 ·exact hr _ _ h
 ·exact h.mono fun e w' ⟨v,he,h⟩=>⟨v,he,hr _ _ h⟩
 ·exact h
theorem iD.wp{P:Program}{o:Oper}{a:Act}{w:World}{R:Value→World→Prop}{K:Act→World→Prop}{Q:Exit→Act→World→Prop}(h:iD P o a.eval w R)(hk:∀v w',R v w'→K (a.put o.dst v) w'):o.wp P a w K Q:=by
 unfold iD at h
 unfold Oper.wp
 split at h
 ·rename_i v w' e;rw[e];exact hk _ _ h
 ·rename_i w' e;rw[e];exact hk _ _ h
 ·rename_i f args w' e;rw[e]
  exact h.mono fun e w' ⟨v,he,h⟩=>by subst he;exact hk _ _ h
 ·exact h.elim
section sound
variable {P:Program} {all:Array Oper} {md:Mode} {o:Oper} {s:St} {H:Heap} {K:St→Heap→Prop} {w0:World} {H0:Heap} {n:Nat} {a:Act} {w:World}
theorem gy(h:ey n s a)(hr:xa all s o):Region.wanted o (yielded all a.tmps)=true:=by
 rcases hr with hg | ⟨j,want,d,hg,hd,hs⟩
 ·simp[Region.wanted,hg]
 ·have:=h.at_ d _ hs
  simp[Region.wanted,hg,yielded,hd,this]
theorem PE(h:ey n s a)(hr:I4 all s o):Region.wanted o (yielded all a.tmps)=false:=by
 obtain⟨j,want,d,v,hg,hd,hs,a4⟩:=hr
 have:=h.at_ d _ hs
 rcases a4 with ⟨b,rfl,a4⟩ | ⟨ts,rfl⟩
 ·simp[Region.wanted,hg,yielded,hd,this,a4]
 ·simp[Region.wanted,hg,yielded,hd,this]
theorem Rel.put(h:Rel w0 H0 n s H a w){d:Option Nat}(hd:∀k,d=some k→k<n){x:Slot}{v:Value}{G:Nat→Nat}(hl:Rl n s H G a w)(hb:∀t cs,s t=some (.box cs)→w0.heap.size≤G t)(hx:Ev G x v):
  Rel w0 H0 n (aQ s d x) H (a.put d v) w:=by
 cases d with
 | none=>exact⟨h.defers,⟨G,hl,hb⟩,h.fx⟩
 | some d=>
  refine⟨by rw[Act.I3];exact h.defers,⟨G,hl.put (hd d rfl) hx,fun t cs ht=> ?_⟩,h.fx⟩
  by_cases e:t=d
  ·subst e
   rw[show aQ s (some t) x=au.put s t x from rfl,fi]at ht
   simp only[Option.some.injEq]at ht
   subst ht
   exact hx.elim
  ·rw[show aQ s (some d) x=au.put s d x from rfl,dW _ _ e]at ht
   exact hb t cs ht
theorem nx(s:St)(d:Nat)(cs:List Value):eJ s d cs d=some (.box cs):=by simp[eJ]
def oA(d:Nat):Option Slot→Option Slot
 | some (.ref b o)=>cond (Nat.beq b d) none (some (.ref b o))
 | x=>x
theorem kW(s:St){d t:Nat}(cs:List Value)(h:t≠d):eJ s d cs t=oA d (s t):=by
 have:Nat.beq t d=false:=by
  cases hb:Nat.beq t d with
  | false=>rfl
  | true=>exact absurd (Nat.eq_of_beq_eq_true hb) h
 unfold eJ
 rw[this]
 cases hs:s t with
 | none=>rfl
 | some x=>cases x <;> rfl
theorem Ey{s:St}{d t:Nat}{cs:List Value}{v:Value}(h:eJ s d cs t=some (.val v)):t≠d∧s t=some (.val v):=by
 have e:t≠d:=fun e=>by subst e;rw[nx]at h;cases h
 refine⟨e,?_⟩
 rw[kW _ _ e]at h
 unfold oA at h
 split at h
 ·rename_i b o' _
  cases hb:Nat.beq b d <;> rw[hb]at h <;> cases h
 ·exact h
theorem PF{s:St}{d t b off:Nat}{cs:List Value}(h:eJ s d cs t=some (.ref b off)):t≠d∧b≠d∧s t=some (.ref b off):=by
 have e:t≠d:=fun e=>by subst e;rw[nx]at h;cases h
 rw[kW _ _ e]at h
 unfold oA at h
 split at h
 ·rename_i b' o' hs
  cases hb:Nat.beq b' d with
  | true=>rw[hb]at h;cases h
  | false=>
   rw[hb]at h
   simp only[cond_false,Option.some.injEq,Slot.ref.injEq]at h
   obtain⟨rfl,rfl⟩:=h
   exact⟨e,(fun e=>by subst e;rw[Nat.beq_refl]at hb;cases hb),hs⟩
 ·rename_i hn
  exact absurd h (hn b off)
theorem mD{s:St}{d t:Nat}{cs bH:List Value}(h:eJ s d cs t=some (.box bH)):(t=d∧bH=cs)∨(t≠d∧s t=some (.box bH)):=by
 by_cases e:t=d
 ·subst e
  rw[nx]at h
  simp only[Option.some.injEq,Slot.box.injEq]at h
  exact .inl ⟨rfl,h.symm⟩
 ·refine .inr ⟨e,?_⟩
  rw[kW _ _ e]at h
  unfold oA at h
  split at h
  ·rename_i b o' _
   cases hb:Nat.beq b d <;> rw[hb]at h <;> cases h
  ·exact h
theorem Den.alloc{H:Heap}{w:World}(h:Den H w)(o:Obj):Den H (w.alloc o):=fun g e hg=>by
 obtain⟨o',h1,h2⟩:=h g e hg
 exact⟨o',by rw[RowKit.Below.heap_alloc _ _ _ (h.lt hg)];exact h1,h2⟩
theorem Rl.gi{G:Nat→Nat}(h:Rl n s H G a w){d:Nat}(hn:d<n)(cs:List Value)(e:TypeId):
  Rl n (eJ s d cs) H (fun t=>if t=d then w.heap.size else G t) (a.put (some d) (.pointer (some ⟨w.heap.size,0,none⟩))) (w.alloc (.cells cs.toArray e (0,0))):=by
 have hd:d<a.tmps.size:=by rw[h.aH.size];exact hn
 have a8:∀t cs,s t=some (.box cs)→G t<w.heap.size:=fun t cs ht=>by
  obtain⟨_,_,e,h3⟩:=h.boxes t cs ht
  exact(Array.getElem?_eq_some_iff.1 h3).1
 refine⟨⟨by rw[Act.u6];exact h.aH.size,fun t v ht=> ?_⟩,fun t bH ht=> ?_,fun t t' I8 Ez ht ox hG=> ?_,fun t b off bH ht hb=> ?_,h.den.alloc _⟩
 ·obtain⟨e1,ht⟩:=Ey ht
  rw[Act.mB _ _ e1];exact h.aH.at_ t v ht
 ·rcases mD ht with ⟨rfl,rfl⟩ | ⟨e1,ht⟩
  ·simp only[if_true]
   exact⟨Act.qL _ _ _ hd,h.den.fresh,e,heap_alloc_new w _⟩
  ·rw[if_neg e1,Act.mB _ _ e1]
   obtain⟨h1,h2,e2,h3⟩:=h.boxes t bH ht
   exact⟨h1,h2,e2,by rw[RowKit.Below.heap_alloc _ _ _ (a8 t bH ht)];exact h3⟩
 ·rcases mD ht with ⟨h1,_⟩ | ⟨e1,h1⟩
  ·rcases mD ox with ⟨h2,_⟩ | ⟨e2,h2⟩
   ·rw[h1,h2]
   ·rw[if_pos h1,if_neg e2]at hG
    have:=a8 t' Ez h2;omega
  ·rcases mD ox with ⟨h2,_⟩ | ⟨e2,h2⟩
   ·rw[if_pos h2,if_neg e1]at hG
    have:=a8 t I8 h1;omega
   ·rw[if_neg e1,if_neg e2]at hG
    exact h.inj t t' I8 Ez h1 h2 hG
 ·obtain⟨e1,e2,ht⟩:=PF ht
  rcases mD hb with ⟨rfl,rfl⟩ | ⟨_,hb⟩
  ·exact absurd rfl e2
  ·rw[if_neg e2,Act.mB _ _ e1]
   exact h.refs t b off bH ht hb
theorem Rl.iV{G:Nat→Nat}(h:Rl n s H G a w){b:Nat}{cs bH:List Value}(hb:s b=some (.box cs)){w':World}(hw:I5 w w' (G b) bH):
  Rl n (au.put s b (.box bH)) H G a w':=by
 have pK:∀t c,au.put s b (.box bH) t=some (.box c)→∃c',s t=some (.box c')∧((t=b∧c=bH)∨(t≠b∧c=c')):=by
  intro t c ht
  by_cases e:t=b
  ·subst e
   rw[fi]at ht
   simp only[Option.some.injEq,Slot.box.injEq]at ht
   exact⟨cs,hb,.inl ⟨rfl,ht.symm⟩⟩
  ·rw[dW _ _ e]at ht
   exact⟨c,ht,.inr ⟨e,rfl⟩⟩
 refine⟨⟨h.aH.size,fun t v ht=> ?_⟩,fun t c ht=> ?_,fun t t' c1 c2 ht ox hG=> ?_,fun t b' off c ht sy=> ?_,fun g e hg=> ?_⟩
 ·by_cases e:t=b
  ·subst e;rw[fi]at ht;cases ht
  ·rw[dW _ _ e]at ht;exact h.aH.at_ t v ht
 ·obtain⟨c',hs,hc⟩:=pK t c ht
  obtain⟨h1,h2,e,h3⟩:=h.boxes t c' hs
  rcases hc with ⟨rfl,rfl⟩ | ⟨a4,rfl⟩
  ·exact⟨h1,h2,hw.new⟩
  ·exact⟨h1,h2,e,by rw[hw.other _ (fun hG=>a4 (h.inj t b _ _ hs hb hG))];exact h3⟩
 ·obtain⟨PG,hs,_⟩:=pK t c1 ht
  obtain⟨PH,jt,_⟩:=pK t' c2 ox
  exact h.inj t t' PG PH hs jt hG
 ·obtain⟨c',hs,_⟩:=pK b' c sy
  by_cases e:t=b
  ·subst e;rw[fi]at ht;cases ht
  ·rw[dW _ _ e]at ht;exact h.refs t b' off c' ht hs
 ·obtain⟨o',h1,h2⟩:=h.den g e hg
  refine⟨o',?_,h2⟩
  rw[hw.other _ (fun hG=> ?_)]
  ·exact h1
  ·obtain⟨_,h3,_⟩:=h.boxes b cs hb
   rw[←hG,hg]at h3;cases h3
theorem eK.sound(hR:Rel w0 H0 n s H a w)(mE:∀d,o.dst=some d→d<n)(h:eK P n all md o s H K):
  (Region.wanted o (yielded all a.tmps)=true∧o.wp P a w (fun a' w'=>∃s' H',Rel w0 H0 n s' H' a' w'∧K s' H') (fun _ _ _=>False))∨
  (Region.wanted o (yielded all a.tmps)=false∧∃s' H',Rel w0 H0 n s' H' (a.put o.dst undef) w∧K s' H'):=by
 obtain⟨G,hl,hb⟩:=hR.fits
 cases h with
 | gh v hm nb h k=>
  rcases h a w hl.aH hl.den with ⟨h1,h2⟩ | ⟨h1,h2⟩
  ·refine .inl ⟨h1,?_⟩
   unfold Oper.wp
   rw[h2]
   exact⟨_,_,hR.put (x:= .val v) mE hl hb rfl,k⟩
  ·subst h2
   exact .inr ⟨h1,_,_,hR.put (x:= .val undef) mE hl hb rfl,k⟩
 | fT x hm nb hx h k=>
  obtain⟨v,oB,h1,h2⟩:=h s (.refl _ _) G a w hl
  refine .inl ⟨h1,?_⟩
  unfold Oper.wp
  rw[h2]
  exact⟨_,_,hR.put mE hl hb oB,k⟩
 | gi d hd hm nb cs h k=>
  obtain⟨h1,e,h2⟩:=h a w hl.aH
  refine .inl ⟨h1,?_⟩
  unfold Oper.wp
  rw[h2]
  show ∃s' H',Rel w0 H0 n s' H' (a.put o.dst _) _∧K s' H'
  rw[hd]
  refine⟨_,_,⟨by rw[Act.I3];exact hR.defers,⟨_,hl.gi (mE d hd) cs e,fun t bH ht=> ?_⟩,?_⟩,k⟩
  ·rcases mD ht with ⟨rfl,rfl⟩ | ⟨e1,ht⟩
   ·simp only[if_true];exact hR.fx.size
   ·rw[if_neg e1];exact hb t bH ht
  ·exact hR.fx.trans ⟨rfl,rfl,rfl,by simp,fun g hg h0=>⟨RowKit.Below.heap_alloc _ _ _ hg,h0⟩,Fx.Eu fun g hg=>RowKit.Below.heap_alloc _ _ _ hg⟩
 | iV b cs bH hd hm sD gJ h k=>
  obtain⟨h1,w',h2,hw⟩:=h H G a w hl
  refine .inl ⟨h1,?_⟩
  unfold Oper.wp
  rw[h2]
  show ∃s' H',Rel w0 H0 n s' H' (a.put o.dst undef) w'∧K s' H'
  rw[hd]
  refine⟨_,_,⟨hR.defers,⟨G,hl.iV sD hw,fun t c ht=> ?_⟩,?_⟩,k⟩
  ·by_cases e:t=b
   ·subst e;exact hb t cs sD
   ·rw[dW _ _ e]at ht;exact hb t c ht
  ·refine⟨hw.os.trans hR.fx.os,hw.tape.trans hR.fx.tape,hw.output.trans hR.fx.output,by rw[hw.size];exact hR.fx.size,fun g hg h0=> ?_,fun g c t fz hc=> ?_⟩
   ·have h3:=hR.fx.gU g hg h0
    refine⟨?_,h3.2⟩
    rw[hw.other _ (fun e=> ?_)]
    ·exact h3.1
    ·have:=hb b cs sD;omega
   ·obtain⟨c',h3,h4⟩:=hR.fx.form g c t fz hc
    have a8:=(Array.getElem?_eq_some_iff.1 hc).1
    have:=hb b cs sD
    exact⟨c',by rw[hw.other _ (by omega)];exact h3,h4⟩
 | fresh mk xs e hm nb h k=>
  obtain⟨h1,h2⟩:=h a w hl.aH
  refine .inl ⟨h1,?_⟩
  unfold Oper.wp
  rw[h2]
  have kg:=hl.den.fresh
  have hd:Den (ins H w.heap.size (whole xs e)) (w.alloc (.cells xs.toArray e (0,0))):=by
   intro g e' hg
   by_cases eg:g=w.heap.size
   ·subst eg
    rw[bn]at hg
    simp only[Option.some.injEq]at hg
    subst hg
    exact⟨_,heap_alloc_new w _,xs.toArray,(0,0),rfl,by simp[whole],fun i v hv=>by simpa [whole]using hv,fun _=>rfl⟩
   ·rw[bD _ _ eg]at hg
    exact hl.den.alloc _ g e' hg
  have hf:Fx H w (ins H w.heap.size (whole xs e)) (w.alloc (.cells xs.toArray e (0,0))):=
   ⟨rfl,rfl,rfl,by simp,fun g hg h0=>⟨RowKit.Below.heap_alloc _ _ _ hg,by rw[bD _ _ (by omega)];exact h0⟩,Fx.Eu fun g hg=>RowKit.Below.heap_alloc _ _ _ hg⟩
  have iE:=hl.A7 hd hf
  have cH:Rel w0 H0 n s (ins H w.heap.size (whole xs e)) a (w.alloc (.cells xs.toArray e (0,0))):=⟨hR.defers,⟨G,iE,hb⟩,hR.fx.trans hf⟩
  exact⟨_,_,cH.put (x:= .val _) mE iE hb rfl,k _ kg ⟨_,hd⟩⟩
 | fj aY ha nb h hm k=>
  obtain⟨h1,h2⟩:=h a w hl.aH hl.den
  refine .inl ⟨h1,h2.wp fun v w' hh=> ?_⟩
  obtain⟨H',hp,hd,hf⟩:=hh
  have iE:=hl.A7 hd hf
  have cH:Rel w0 H0 n s H' a w':=⟨hR.defers,⟨G,iE,hb⟩,hR.fx.trans hf⟩
  exact⟨_,_,cH.put (x:= .val v) mE iE hb rfl,k v H' hp ⟨w',hd⟩⟩
 | iW v bo hm nb hc h k=>
  rcases h a w hl.aH (fun ad u hu=>hl.den.cell (hc ad u hu))with ⟨h1,h2⟩ | ⟨h1,h2⟩
  ·refine .inl ⟨h1,?_⟩
   unfold Oper.wp
   rw[h2]
   exact⟨_,_,hR.put (x:= .val v) mE hl hb rfl,k⟩
  ·subst h2
   exact .inr ⟨h1,_,_,hR.put (x:= .val undef) mE hl hb rfl,k⟩
 | kf mk xs e bo hm nb h k=>
  obtain⟨h1,h2⟩:=h a w hl.aH
  refine .inl ⟨h1,?_⟩
  unfold Oper.wp
  rw[h2]
  have kg:=hl.den.fresh
  have hd:Den (ins H w.heap.size (whole xs e)) (w.alloc (.cells xs.toArray e (0,0))):=by
   intro g e' hg
   by_cases eg:g=w.heap.size
   ·subst eg
    rw[bn]at hg
    simp only[Option.some.injEq]at hg
    subst hg
    exact⟨_,heap_alloc_new w _,xs.toArray,(0,0),rfl,by simp[whole],fun i v hv=>by simpa [whole]using hv,fun _=>rfl⟩
   ·rw[bD _ _ eg]at hg
    exact hl.den.alloc _ g e' hg
  have hf:Fx H w (ins H w.heap.size (whole xs e)) (w.alloc (.cells xs.toArray e (0,0))):=
   ⟨rfl,rfl,rfl,by simp,fun g hg h0=>⟨RowKit.Below.heap_alloc _ _ _ hg,by rw[bD _ _ (by omega)];exact h0⟩,Fx.Eu fun g hg=>RowKit.Below.heap_alloc _ _ _ hg⟩
  have iE:=hl.A7 hd hf
  have cH:Rel w0 H0 n s (ins H w.heap.size (whole xs e)) a (w.alloc (.cells xs.toArray e (0,0))):=⟨hR.defers,⟨G,iE,hb⟩,hR.fx.trans hf⟩
  exact⟨_,_,cH.put (x:= .val _) mE iE hb rfl,k _ kg ⟨_,hd⟩⟩
 | js aY bo ha nb h hm k=>
  obtain⟨h1,h2⟩:=h a w hl.aH hl.den
  refine .inl ⟨h1,h2.wp fun v w' hh=> ?_⟩
  obtain⟨H',hp,hd,hf⟩:=hh
  have iE:=hl.A7 hd hf
  have cH:Rel w0 H0 n s H' a w':=⟨hR.defers,⟨G,iE,hb⟩,hR.fx.trans hf⟩
  exact⟨_,_,cH.put (x:= .val v) mE iE hb rfl,k v H' hp ⟨w',hd⟩⟩
end sound
end Go.au
namespace Go.au
theorem qN{o:Op}:mC o=true↔kd o=3:=by
 cases o <;> simp[mC,sB,sC,kd]
 split <;> simp
theorem I9{o:Op}(h:kd o=3):(sB o=true∧sC o=false)∨(sB o=false∧sC o=true):=by
 cases o <;> simp[sB,sC,kd]at h⊢
 split at h <;> simp at h
theorem mG{o:Op}:sA o=true↔kd o=2:=by
 cases o <;> simp[sA,kd]
 split <;> simp
theorem vc{o:Op}(h:xb o=true):kd o=0:=by
 cases o <;> simp[xb]at h <;> rfl
def Sw(md:Mode)(all:Array Oper)(x y:Oper):Bool:=
 x.apart all y&&nu x.op&&nu y.op &&
 ((kd x.op == 0&&(kd y.op == 0||(kd y.op == 1 && !md.I7)||(kd y.op == 3&&(y.guard.isNone || !md.ke))||(kd y.op == 2&&md.Ew&&(md.Ex || !xb x.op)))) ||
  ((kd x.op == 1||kd x.op == 3)&&kd y.op == 3&&y.guard.isNone && !md.ke))
section
variable {P:Program} {n:Nat} {all:Array Oper} {o:Oper}
structure sE(all:Array Oper)(o:Oper)(a b:Act):Prop where
 want:Region.wanted o (yielded all a.tmps)=Region.wanted o (yielded all b.tmps)
 exec:execOp a.eval o=execOp b.eval o
theorem sE.put{a:Act}{d:Nat}(v:Value)(hs:nu o.op=true)(h:d∉o.looksAt all):sE all o (a.put (some d) v) a:=by
 refine⟨wanted_put o a (some d) v (fun e he=>by cases he;exact h),execOp_congr o (fun cs b e=>by rw[e]at hs;cases hs) (fun x hx=> ?_)⟩
 refine Act.eval_put fun e he PI=> ?_
 cases he
 subst PI
 exact h (by
  unfold Oper.looksAt
  refine List.mem_append_left _ ?_
  rw[List.mem_filterMap]
  exact⟨_,by simpa using hx,rfl⟩)
theorem sE.refl(a:Act):sE all o a a:=⟨rfl,rfl⟩
def Mv(n:Nat)(all:Array Oper)(o:Oper)(s1 s2:St):Prop:=∀a,ey n s2 a→∃a1,ey n s1 a1∧sE all o a1 a
def xe(n:Nat)(all:Array Oper)(o:Oper)(s1 s2:St):Prop:=∀H G a w,Rl n s2 H G a w→∃a1,Rl n s1 H G a1 w∧sE all o a1 a
variable {s1 s2 s:St} {H H1 H2:Heap}
theorem Ba.move{v:Value}(hm:Mv n all o s1 s2)(hl:Heap.le H1 H2)(h:Ba P n all o s1 H1 v):Ba P n all o s2 H2 v:=fun a w ha hd=>by
 obtain⟨a1,h1,h2⟩:=hm a ha
 rw[←h2.want,←h2.exec]
 exact h a1 w h1 (hd.le hl)
theorem u9.move{x:Slot}(hm:xe n all o s1 s2)(hl:Heap.le H1 H2)(h:u9 P n all o s1 H1 x):u9 P n all o s2 H2 x:=fun G a w ha=>by
 obtain⟨a1,h1,h2⟩:=hm H2 G a w ha
 obtain⟨v,h3,h4,h5⟩:=h G a1 w (h1.le hl)
 exact⟨v,h3,by rw[←h2.want];exact h4,by rw[←h2.exec];exact h5⟩
theorem Be.move{md:Mode}{v:Value}(hm:Mv n all o s1 s2)(h:Be P n md all o s1 v):Be P n md all o s2 v:=fun a w ha hd=>by
 obtain⟨a1,h1,h2⟩:=hm a ha
 have:=h a1 w h1 hd
 rw[h2.want,h2.exec]at this
 exact this
theorem pL.move{cs:List Value}(hm:Mv n all o s1 s2)(h:pL P n all o s1 cs):pL P n all o s2 cs:=fun a w ha=>by
 obtain⟨a1,h1,h2⟩:=hm a ha
 rw[←h2.want,←h2.exec]
 exact h a1 w h1
theorem Bb.move{b:Nat}{cs:List Value}(hm:xe n all o s1 s2)(h:Bb P n all o s1 b cs):Bb P n all o s2 b cs:=fun H G a w ha=>by
 obtain⟨a1,h1,h2⟩:=hm H G a w ha
 rw[←h2.want,←h2.exec]
 exact h H G a1 w h1
theorem oy.move{mk:Nat→Value}{xs:List Value}{e:TypeId}(hm:Mv n all o s1 s2)(h:oy P n all o s1 mk xs e):oy P n all o s2 mk xs e:=fun a w ha=>by
 obtain⟨a1,h1,h2⟩:=hm a ha
 rw[←h2.want,←h2.exec]
 exact h a1 w h1
theorem EV.move{aY:Value→Heap→Prop}(hm:Mv n all o s1 s2)(h:EV P n all o s1 H aY):EV P n all o s2 H aY:=fun a w ha hd=>by
 obtain⟨a1,h1,h2⟩:=hm a ha
 have:=h a1 w h1 hd
 unfold iD at this⊢
 rw[←h2.want,←h2.exec]
 exact this
theorem pL.uniq{cs bH:List Value}(ha:∃a,ey n s a)(h:pL P n all o s cs)(h':pL P n all o s bH):bH=cs:=by
 obtain⟨a,ha⟩:=ha
 obtain⟨_,e,h1⟩:=h a default ha
 obtain⟨_,e',h2⟩:=h' a default ha
 rw[h1]at h2
 simp only[Result.ok.injEq,true_and]at h2
 have:=congrArg (fun w:World=>w.heap[(default:World).heap.size]?) h2
 simp only[heap_alloc_new,Option.some.injEq,Obj.cells.injEq]at this
 exact(List.toArray_inj this.1).symm
theorem oy.uniq{mk mk':Nat→Value}{xs lJ:List Value}{e e':TypeId}(ha:∃a,ey n s a)(h:oy P n all o s mk xs e)(h':oy P n all o s mk' lJ e'):mk'=mk∧lJ=xs∧e'=e:=by
 obtain⟨a,ha⟩:=ha
 have key:∀w:World,mk' w.heap.size=mk w.heap.size∧lJ=xs∧e'=e:=fun w=>by
  obtain⟨_,h1⟩:=h a w ha
  obtain⟨_,h2⟩:=h' a w ha
  rw[h1]at h2
  simp only[Result.ok.injEq,Next.value.injEq]at h2
  have:=congrArg (fun w':World=>w'.heap[w.heap.size]?) h2.2
  simp only[heap_alloc_new,Option.some.injEq,Obj.cells.injEq]at this
  exact⟨h2.1.symm,(List.toArray_inj this.1).symm,this.2.1.symm⟩
 refine⟨funext fun g=> ?_,(key default).2⟩
 have:=(key {(default:World)with heap:=Array.replicate g default}).1
 simpa using this
theorem EV.some{aY:Value→Heap→Prop}(h:EV P n all o s H aY)(ha:∃a,ey n s a)(hw:Real H):∃v H',aY v H'∧Real H':=by
 obtain⟨a,ha⟩:=ha
 obtain⟨w,hw⟩:=hw
 obtain⟨_,h2⟩:=h a w ha hw
 unfold iD at h2
 split at h2
 ·obtain⟨H',hp,hd,_⟩:=h2;exact⟨_,H',hp,_,hd⟩
 ·obtain⟨H',hp,hd,_⟩:=h2;exact⟨_,H',hp,_,hd⟩
 ·obtain⟨e,w',fr,⟨v,_,H',hp,hd,_⟩,_⟩:=h2 []
  exact⟨v,H',hp,w',hd⟩
 ·exact h2.elim
theorem EV.frame{aY:Value→Heap→Prop}{g:Nat}{ent:aG}(hg:H g=none)(h:EV P n all o s H aY):
  EV P n all o s (ins H g ent) (fun v qK=>∃H',aY v H'∧H' g=none∧qK=ins H' g ent):=fun a w ha hd=>by
 obtain⟨h1,h2⟩:=h a w ha (hd.le (Heap.bh ent hg))
 refine⟨h1,h2.mono fun v w' hh=> ?_⟩
 obtain⟨H',hp,jr,hf⟩:=hh
 obtain⟨ob,ho,PJ⟩:=hd g ent (bn _ _ _)
 have a8:=hd.lt (bn H g ent)
 obtain⟨fD,gj⟩:=hf.gU g a8 hg
 refine⟨ins H' g ent,⟨H',hp,gj,rfl⟩,fun k e hk=> ?_,⟨hf.os,hf.tape,hf.output,hf.size,fun k hk h0=> ?_,hf.form⟩⟩
 ·by_cases ek:k=g
  ·subst ek
   rw[bn]at hk
   simp only[Option.some.injEq]at hk
   subst hk
   exact⟨ob,fD.trans ho,PJ⟩
  ·rw[bD _ _ ek]at hk;exact jr k e hk
 ·have ek:k≠g:=fun e=>by subst e;rw[bn]at h0;cases h0
  rw[bD _ _ ek]at h0⊢
  exact hf.gU k hk h0
theorem ki{d:Option Nat}{X:Slot}(hs:nu o.op=true)(hd:∀k,d=some k→k<n∧k∉o.looksAt all):Mv n all o (aQ s d X) s:=fun a ha=>by
 cases d with
 | none=>exact⟨a,ha,.refl a⟩
 | some d=>
  obtain⟨hn,hl⟩:=hd d rfl
  have key:∀u,(∀v,X = .val v→u=v)→∃a1,ey n (aQ s (some d) X) a1∧sE all o a1 a:=fun u hu=>by
   refine⟨a.put (some d) u,⟨by rw[Act.u6];exact ha.size,fun t v ht=> ?_⟩,.put u hs hl⟩
   by_cases e:t=d
   ·subst e
    rw[show aQ s (some t) X=put s t X from rfl,fi]at ht
    simp only[Option.some.injEq]at ht
    rw[Act.qL _ _ _ (by rw[ha.size];exact hn),hu v ht]
   ·rw[show aQ s (some d) X=put s d X from rfl,dW _ _ e]at ht
    rw[Act.mB _ _ e];exact ha.at_ t v ht
  cases X with
  | val v=>exact key v (fun v' h=>by cases h;rfl)
  | box cs=>exact key undef (fun v' h=>by cases h)
  | ref b off=>exact key undef (fun v' h=>by cases h)
theorem Bf{d:Option Nat}{X:Slot}(hx:∀cs,X≠.box cs)(hs:nu o.op=true)(hd:∀k,d=some k→k<n∧k∉o.looksAt all):xe n all o (aQ s d X) s:=fun H G a w ha=>by
 cases d with
 | none=>exact⟨a,ha,.refl a⟩
 | some d=>
  obtain⟨hn,hl⟩:=hd d rfl
  cases X with
  | val v=>exact⟨_,ha.put hn (x:= .val v) rfl,.put _ hs hl⟩
  | box cs=>exact absurd rfl (hx cs)
  | ref b off=>exact⟨_,ha.put hn (x:= .ref b off) rfl,.put _ hs hl⟩
theorem oC{d:Option Nat}{X:Slot}(hs:nu o.op=true)(hd:∀k,d=some k→k<n∧k∉o.looksAt all):Mv n all o s (aQ s d X):=fun a ha=>by
 cases d with
 | none=>exact⟨a,ha,.refl a⟩
 | some d=>
  obtain⟨hn,hl⟩:=hd d rfl
  obtain⟨v,hv⟩:=ey.back (s:=s) (d:=d) ha (fun t v ht h=>by rw[show aQ s (some d) X=put s d X from rfl,dW _ _ ht];exact h) hn
  exact⟨_,hv,.put v hs hl⟩
theorem PK{d:Option Nat}{X:Slot}(hs:nu o.op=true)(hd:∀k,d=some k→k<n∧k∉o.looksAt all)(hb:∀k cs,d=some k→s k≠some (.box cs)):xe n all o s (aQ s d X):=fun H G a w ha=>by
 cases d with
 | none=>exact⟨a,ha,.refl a⟩
 | some d=>
  obtain⟨hn,hl⟩:=hd d rfl
  obtain⟨v,hv⟩:=Rl.back (s:=s) (d:=d) ha (fun cs=>hb d cs rfl) (fun t x ht h _=>by rw[show aQ s (some d) X=put s d X from rfl,dW _ _ ht];exact h) hn
  exact⟨_,hv,.put v hs hl⟩
theorem xg{d t:Nat}{cs:List Value}{x:Slot}(ht:t≠d)(h:s t=some x)(hx:∀b o,x = .ref b o→b≠d):eJ s d cs t=some x:=by
 rw[kW _ _ ht,h]
 cases x with
 | val v=>rfl
 | box c=>rfl
 | ref b off=>
  have:=hx b off rfl
  have hb:Nat.beq b d=false:=by
   cases hb:Nat.beq b d with
   | false=>rfl
   | true=>exact absurd (Nat.eq_of_beq_eq_true hb) this
  simp[oA,hb]
theorem Bg{d:Nat}{cs:List Value}(hs:nu o.op=true)(hn:d<n)(hl:d∉o.looksAt all):Mv n all o s (eJ s d cs):=fun a ha=>by
 obtain⟨v,hv⟩:=ey.back (s:=s) (d:=d) ha (fun t v ht h=>xg ht h (fun b o e=>by cases e)) hn
 exact⟨_,hv,.put v hs hl⟩
theorem PL{d:Nat}{cs:List Value}(hs:nu o.op=true)(hn:d<n)(hl:d∉o.looksAt all)(hb:∀cs,s d≠some (.box cs)):xe n all o s (eJ s d cs):=fun H G a w ha=>by
 obtain⟨v,hv⟩:=Rl.back (s:=s) (d:=d) ha hb (fun t x ht h hx=>xg ht h hx) hn
 exact⟨_,hv,.put v hs hl⟩
theorem Ja{d:Nat}{cs:List Value}:Mv n all o (eJ s d cs) s:=fun a ha=>
 ⟨a,⟨ha.size,fun t v ht=>ha.at_ t v (Ey ht).2⟩,.refl a⟩
theorem PM{b:Nat}{cs bH:List Value}(hb:s b=some (.box cs)):Mv n all o s (put s b (.box bH)):=fun a ha=>
 ⟨a,⟨ha.size,fun t v ht=>ha.at_ t v (by
  have e:t≠b:=fun e=>by subst e;rw[hb]at ht;cases ht
  rw[dW _ _ e];exact ht)⟩,.refl a⟩
theorem lK{d e:Option Nat}(X Y:Slot)(h:∀k,d=some k→e≠some k):aQ (aQ s d X) e Y=aQ (aQ s e Y) d X:=by
 cases d with
 | none=>rfl
 | some d=>
  cases e with
  | none=>rfl
  | some e=>exact put_comm s X Y (fun h'=>h d rfl (by rw[h']))
theorem xh{d:Option Nat}{e:Nat}{X:Slot}{cs:List Value}(h:d≠some e)(hx:∀b o,X = .ref b o→b≠e):eJ (aQ s d X) e cs=aQ (eJ s e cs) d X:=by
 cases d with
 | none=>rfl
 | some d=>
  have a4:d≠e:=fun h'=>h (by rw[h'])
  funext t
  show eJ (put s d X) e cs t=put (eJ s e cs) d X t
  by_cases h1:t=e
  ·subst h1
   rw[nx,dW _ _ (Ne.symm a4),nx]
  ·rw[kW _ _ h1]
   by_cases h2:t=d
   ·subst h2
    rw[fi,fi]
    have:=xg (s:=put s t X) (cs:=cs) h1 (fi s t X) hx
    rw[kW _ _ h1,fi]at this
    exact this
   ·rw[dW _ _ h2,dW _ _ h2,kW _ _ h1]
theorem PN(d e:Nat)(x:Option Slot):oA d (oA e x)=oA e (oA d x):=by
 cases x with
 | none=>rfl
 | some x=>
  cases x with
  | val v=>rfl
  | box c=>rfl
  | ref b o=>cases h1:Nat.beq b d <;> cases h2:Nat.beq b e <;> simp[oA,h1,h2]
theorem PO{d e:Nat}{cs bH:List Value}(h:d≠e):eJ (eJ s d cs) e bH=eJ (eJ s e bH) d cs:=by
 funext t
 by_cases h1:t=e
 ·subst h1
  rw[nx,kW _ _ (Ne.symm h),nx];rfl
 ·rw[kW _ _ h1]
  by_cases h2:t=d
  ·subst h2
   rw[nx,nx];rfl
  ·rw[kW _ _ h2,kW _ _ h2,kW _ _ h1,PN]
theorem Jb{d:Option Nat}{b:Nat}{X:Slot}{cs:List Value}(h:d≠some b):put (aQ s d X) b (.box cs)=aQ (put s b (.box cs)) d X:=by
 cases d with
 | none=>rfl
 | some d=>exact put_comm s X (.box cs) (fun h'=>h (by rw[h']))
theorem vd(H:Heap){g k:Nat}(e e':aG)(h:g≠k):ins (ins H g e) k e'=ins (ins H k e') g e:=by
 funext t
 by_cases h1:t=k
 ·subst h1;rw[bn,bD _ _ (Ne.symm h),bn]
 ·by_cases h2:t=g
  ·subst h2;rw[bD _ _ h1,bn,bn]
  ·rw[bD _ _ h1,bD _ _ h2,bD _ _ h2,bD _ _ h1]
end
theorem Bh(s:St)(d:Nat)(X:Slot):aQ s (some d) X=put s d X:=rfl
theorem fS.aQ{md:Mode}{s s':St}(h:fS md s s')(d:Option Nat)(X:Slot):fS md (aQ s d X) (aQ s' d X):=fun t=>by
 cases d with
 | none=>exact h t
 | some d=>
  rw[Bh,Bh]
  by_cases e:t=d
  ·subst e;exact .inl (by rw[fi,fi])
  ·rw[dW _ _ e,dW _ _ e];exact h t
theorem fS.PQ{md:Mode}{s s':St}{d:Option Nat}{X:Slot}(hX:∀c,X≠.box c)(h:fS md (au.aQ s d X) s'):∃pM,fS md s pM∧s'=au.aQ pM d X∧∀k,d=some k→pM k=s k:=by
 cases d with
 | none=>exact⟨s',h,rfl,fun k e=>by cases e⟩
 | some d=>
  rw[Bh]at h
  have hd:s' d=some X:=h.val hX (fi _ _ _)
  refine⟨fun t=>if t=d then s t else s' t,fun t=> ?_,?_,fun k e=>by cases e;simp⟩
  ·by_cases e:t=d
   ·left;simp[e]
   ·have:=h t
    rw[dW _ _ e]at this
    simpa [e]using this
  ·rw[Bh]
   funext t
   by_cases e:t=d
   ·subst e;rw[fi,hd]
   ·rw[dW _ _ e,if_neg e]
open Classical in
theorem fS.unbox{md:Mode}{s s':St}{d:Nat}{cs:List Value}(h:fS md (eJ s d cs) s'):∃pM Bi,fS md s pM∧s'=eJ pM d Bi∧pM d=s d:=by
 obtain⟨Bi,hc⟩:=h.box (nx s d cs)
 refine⟨fun t=>if t=d∨s' t=eJ s d cs t then s t else s' t,Bi,fun t=> ?_,?_,by simp⟩
 ·by_cases e:t=d∨s' t=eJ s d cs t
  ·left;simp only[e,if_true]
  ·simp only[e,if_false]
   rcases h t with h1 | ⟨h0,c,c',h1,h2⟩
   ·exact absurd (.inr h1) e
   ·rcases mD h1 with ⟨e1,_⟩ | ⟨_,h3⟩
    ·exact absurd (.inl e1) e
    ·exact .inr ⟨h0,c,c',h3,h2⟩
 ·funext t
  by_cases e:t=d
  ·subst e;rw[hc,nx]
  ·rw[kW _ _ e]
   by_cases e2:s' t=eJ s d cs t
   ·simp only[e2,or_true,if_true];exact kW _ _ e
   ·rcases h t with h1 | ⟨h0,c,c',h1,h2⟩
    ·exact absurd h1 e2
    ·rw[if_neg (by rintro(h3 | h3);exact e h3;exact e2 h3),h2];rfl
theorem fS.store{md:Mode}{s s':St}{b:Nat}{cs bH:List Value}(hb:s b=some (.box cs))(hw:md.wr b=true)(h:fS md (put s b (.box bH)) s'):fS md s s':=fun t=>by
 by_cases e:t=b
 ·subst e
  obtain⟨c,hc⟩:=h.box (fi s t (.box bH))
  exact .inr ⟨hw,cs,c,hb,hc⟩
 ·have:=h t
  rwa [dW _ _ e]at this
end Go.au
namespace Go.au
section
variable {P:Program} {n:Nat} {all:Array Oper} {md:Mode} {x y:Oper} {s:St} {H:Heap} {K:St→Heap→Prop}
theorem qO{md:Mode}(de:md≠.plain){k:Nat}(h:k=1∨k=2∨md = .plain):k=1∨k=2:=by
 rcases h with h | h | h
 ·exact .inl h
 ·exact .inr h
 ·exact absurd h de
theorem mH(de:md≠.plain)(dt:md.ke=false)(d:Option Nat):md.nb s d=true↔∀k cs,d=some k→s k≠some (.box cs):=by
 cases d with
 | none=>cases md <;> simp[Mode.nb,Mode.ke]at *
 | some d=>
  have:md.nb s (some d)=(match s d with | some (.box _)=>false | _=>true):=by cases md <;> first | exact absurd rfl de | rfl | cases dt
  rw[this]
  cases hs:s d with
  | none=>exact⟨(fun _ k cs hk h=>by cases hk;rw[hs]at h;cases h),fun _=>rfl⟩
  | some z=>
   cases z with
   | val v=>exact⟨(fun _ k cs hk h=>by cases hk;rw[hs]at h;cases h),fun _=>rfl⟩
   | box c=>exact⟨(fun h=>by cases h),fun h=>absurd hs (h d c rfl)⟩
   | ref b o=>exact⟨(fun _ k cs hk h=>by cases hk;rw[hs]at h;cases h),fun _=>rfl⟩
theorem sG{X:Slot}:X.nv s=true↔(∀cs,X≠.box cs)∧∀b o,X = .ref b o→∃cs,s b=some (.box cs):=by
 cases X with
 | val v=>simp[Slot.nv]
 | box c=>simp[Slot.nv]
 | ref b o=>
  simp only[Slot.nv]
  cases hs:s b with
  | none=>simp[hs]
  | some z=>cases z <;> simp[hs]
theorem xi{d:Option Nat}{X:Slot}{t:Nat}(h:d≠some t):aQ s d X t=s t:=by
 cases d with
 | none=>rfl
 | some d=>exact dW s X (fun e=>h (by rw[e]))
theorem EA{d:Option Nat}{X:Slot}{t:Nat}{cs:List Value}(hx:∀cs,X≠.box cs)(h:aQ s d X t=some (.box cs)):d≠some t∧s t=some (.box cs):=by
 cases d with
 | none=>exact⟨by simp,h⟩
 | some d=>
  by_cases e:t=d
  ·subst e
   rw[show aQ s (some t) X=put s t X from rfl,fi]at h
   simp only[Option.some.injEq]at h
   exact absurd h (hx cs)
  ·rw[show aQ s (some d) X=put s d X from rfl,dW _ _ e]at h
   exact⟨fun h'=>e (by cases h';rfl),h⟩
structure vf(md:Mode)(all:Array Oper)(x y:Oper):Prop where
 xs:nu x.op=true
 ys:nu y.op=true
 xy:∀d,x.dst=some d→d∉y.looksAt all
 ne:∀d,x.dst=some d→y.dst≠some d
 yx:∀d,y.dst=some d→d∉x.looksAt all
 kind:(kd x.op=0∧(kd y.op=0∨(kd y.op=1∧md.I7=false)∨(kd y.op=3∧(y.guard=none∨md.ke=false))∨(kd y.op=2∧md.Ew=true∧(md.Ex=true∨xb x.op=false))))∨((kd x.op=1∨kd x.op=3)∧kd y.op=3∧y.guard=none∧md.ke=false)
theorem Sw.out(h:Sw md all x y=true):vf md all x y:=by
 simp only[Sw,Bool.and_eq_true,Bool.or_eq_true,beq_iff_eq,Option.isNone_iff_eq_none,Bool.not_eq_true']at h
 obtain⟨⟨⟨h1,h2⟩,h3⟩,h4⟩:=h
 obtain⟨a1,a2,a3⟩:=Oper.apart_spec h1
 refine⟨h2,h3,a1,a2,a3,?_⟩
 rcases h4 with ⟨hx,hy⟩ | ⟨⟨⟨hx,hy⟩,hz⟩,hk⟩
 ·left
  refine⟨hx,?_⟩
  rcases hy with ((hy | hy) | hy) | hy
  ·exact .inl hy
  ·exact .inr (.inl hy)
  ·exact .inr (.inr (.inl hy))
  ·exact .inr (.inr (.inr ⟨hy.1.1,hy.1.2,hy.2⟩))
 ·exact .inr ⟨hx,hy,hz,hk⟩
theorem Den.PR{H:Heap}{w:World}(h:Den H w)(xs:List Value)(e:TypeId):Den (ins H w.heap.size (whole xs e)) (w.alloc (.cells xs.toArray e (0,0))):=by
 intro g e' hg
 by_cases eg:g=w.heap.size
 ·subst eg
  rw[bn]at hg
  simp only[Option.some.injEq]at hg
  subst hg
  exact⟨_,heap_alloc_new w _,xs.toArray,(0,0),rfl,by simp[whole],fun i v hv=>by simpa [whole]using hv,fun _=>rfl⟩
 ·rw[bD _ _ eg]at hg
  exact h.alloc _ g e' hg
theorem Heap.le.qP{H H':Heap}{g:Nat}{e:aG}(h:Heap.le H H')(hg:H' g=none):Heap.le (ins H g e) (ins H' g e):=fun k x hk=>by
 by_cases ek:k=g
 ·subst ek
  rw[bn]at hk⊢
  exact⟨x,hk,.refl x⟩
 ·rw[bD _ _ ek]at hk⊢
  exact h k x hk
theorem eK.PS(de:md≠.plain)(dt:md.ke=false)(hw:vf md all x y)(vg:∀d,x.dst=some d→d<n)(lL:∀d,y.dst=some d→d<n)
  (hS:∃a,ey n s a) (hH:Real H) (h:eK P n all md x s H (fun s1 H1=>eK P n all md y s1 H1 K)):eK P n all md y s H (fun s2 H2=>eK P n all md x s2 H2 K):=by
 have ck:∀d,x.dst=some d→d<n∧d∉y.looksAt all:=fun d hd=>⟨vg d hd,hw.xy d hd⟩
 have iF:∀d,y.dst=some d→d<n∧d∉x.looksAt all:=fun d hd=>⟨lL d hd,hw.yx d hd⟩
 have xn:∀d,y.dst=some d→x.dst≠some d:=fun d hd e=>hw.ne d e hd
 have iX:∀{X:Slot},(∀cs,X≠.box cs)→md.nb (aQ s x.dst X) y.dst=true→md.nb s y.dst=true:=fun{X} hX hn=>by
  rw[mH de dt]at hn⊢
  intro k cs hk hs
  exact hn k cs hk (by rw[xi (xn k hk)];exact hs)
 have kj:∀{Y:Slot},md.nb s x.dst=true→md.nb (aQ s y.dst Y) x.dst=true:=fun{Y} hn=>by
  rw[mH de dt]at hn⊢
  intro k cs hk hs
  exact hn k cs hk (by rw[xi (hw.ne k hk)]at hs;exact hs)
 have Jc:∀{X Y:Slot},(∀cs,X≠.box cs)→Y.nv (aQ s x.dst X)=true→Y.nv s=true:=fun{X Y} hX hg=>by
  rw[sG]at hg⊢
  exact⟨hg.1,fun b o e=>by obtain⟨cs,hc⟩:=hg.2 b o e;exact⟨cs,(EA hX hc).2⟩⟩
 have Bj:∀{X Y:Slot},md.nb s y.dst=true→X.nv s=true→X.nv (aQ s y.dst Y)=true:=fun{X Y} hn hg=>by
  rw[sG]at hg⊢
  refine⟨hg.1,fun b o e=> ?_⟩
  obtain⟨cs,hc⟩:=hg.2 b o e
  exact⟨cs,by rw[xi (fun hk=>(mH de dt _).1 hn b cs hk hc)];exact hc⟩
 have Jd:∀{k:Nat}{cs:List Value},md.nb s y.dst=true→y.dst=some k→s k≠some (.box cs):=fun{k cs} hn hk=>(mH de dt _).1 hn k cs hk
 have Bk:∀{X Y:Slot}{H1 H2:Heap},md.nb s y.dst=true→(∀c,Y≠.box c)→Heap.le H1 H2→(∀s',fS md s s'→u9 P n all x s' H1 X)→∀s',fS md (aQ s y.dst Y) s'→u9 P n all x s' H2 X:=fun{X Y H1 H2} n1 hY hl h s' e=>by
  obtain⟨pM,e1,rfl,e2⟩:=e.PQ hY
  exact(h _ e1).move (PK hw.xs iF (fun k cs hk=>by rw[e2 k hk];exact Jd n1 hk)) hl
 cases h with
 | gh v hm nb h k=>
  have hX:∀cs,Slot.val v≠.box cs:=fun cs e=>by cases e
  cases k with
  | gh v' aS cz h' k'=>
   have n1:=iX hX cz
   refine .gh v' aS n1 (h'.move (ki hw.ys ck) (.refl _)) (.gh v hm (kj nb) (h.move (oC hw.xs iF) (.refl _)) ?_)
   rw[←lK _ _ hw.ne];exact k'
  | fT X' aS cz ny h' k'=>
   have n1:=iX hX cz
   refine .fT X' aS n1 (Jc hX ny) (fun s' e=>(h' _ (e.aQ _ _)).move (Bf hX hw.ys ck) (.refl _)) (.gh v hm (kj nb) (h.move (oC hw.xs iF) (.refl _)) ?_)
   rw[←lK _ _ hw.ne];exact k'
  | gi d hd aS cz cs h' k'=>
   have n1:=iX hX cz
   refine .gi d hd aS n1 cs (h'.move (ki hw.ys ck)) (.gh v hm ?_ (h.move (Bg hw.xs (lL d hd) (hw.yx d hd)) (.refl _)) ?_)
   ·rw[mH de dt]at nb⊢
    intro k bH hk hs
    rcases mD hs with ⟨e,_⟩ | ⟨_,hs⟩
    ·exact hw.ne k hk (by rw[hd,e])
    ·exact nb k bH hk hs
   ·rw[←xh (fun e=>hw.ne d e hd) (fun b o e=>by cases e)];exact k'
  | iV b cs bH hd aS hb gJ h' k'=>
   obtain⟨xo,gK⟩:=EA hX hb
   refine .iV b cs bH hd aS gK gJ (h'.move (Bf hX hw.ys ck)) (.gh v hm ?_ (h.move (PM gK) (.refl _)) ?_)
   ·rw[mH de dt]at nb⊢
    intro k c hk hs
    by_cases e:k=b
    ·subst e;exact xo hk
    ·rw[dW _ _ e]at hs;exact nb k c hk hs
   ·rw[←Jb xo];exact k'
  | fresh mk xs e aS cz h' k'=>
   have n1:=iX hX cz
   refine .fresh mk xs e aS n1 (h'.move (ki hw.ys ck)) fun g hg hr=> .gh v hm (kj nb) (h.move (oC hw.xs iF) (Heap.bh _ hg)) ?_
   rw[←lK _ _ hw.ne];exact k' g hg hr
  | iW _ bo _ _ _ _ _=>rw[dt]at bo;cases bo
  | kf _ _ _ bo _ _ _ _=>rw[dt]at bo;cases bo
  | js _ bo _ _ _ _ _=>rw[dt]at bo;cases bo
  | fj aY ha cz h' aS k'=>
   have kX:=qO de ha
   have n1:=iX hX cz
   have EB:∀u H',aY u H'→Heap.le H H':=by
    cases md with
    | plain=>exact absurd rfl de
    | bN=>exact aS.2
    | qM st=>exact aS.2
    | fC=>
     rcases aS with e | e
     ·have:=mG.1 e
      rcases hw.kind with ⟨_,h1 | h1 | h1 | h1⟩ | h1
      ·omega
      ·omega
      ·omega
      ·exact absurd h1.2.1 (by decide)
      ·omega
     ·exact e
    | dK k=>cases dt
    | oz=>
     rcases hw.kind with ⟨_,h1 | h1 | h1 | h1⟩ | h1
     ·omega
     ·exact absurd h1.2 (by decide)
     ·omega
     ·exact absurd h1.2.1 (by decide)
     ·omega
   refine .fj aY ha n1 (h'.move (ki hw.ys ck)) aS fun u H' hp hr=> .gh v hm (kj nb) (h.move (oC hw.xs iF) (EB u H' hp)) ?_
   rw[←lK _ _ hw.ne];exact k' u H' hp hr
 | fT X hm nb hx h k=>
  have hX:=(sG.1 hx).1
  have kx:=vc hm
  cases k with
  | gh v' aS cz h' k'=>
   have n1:=iX hX cz
   refine .gh v' aS n1 (h'.move (ki hw.ys ck) (.refl _)) (.fT X hm (kj nb) (Bj n1 hx) (Bk n1 (fun c e=>by cases e) (.refl _) h) ?_)
   rw[←lK _ _ hw.ne];exact k'
  | fT X' aS cz ny h' k'=>
   have n1:=iX hX cz
   refine .fT X' aS n1 (Jc hX ny) (fun s' e=>(h' _ (e.aQ _ _)).move (Bf hX hw.ys ck) (.refl _)) (.fT X hm (kj nb) (Bj n1 hx) (Bk n1 (sG.1 ny).1 (.refl _) h) ?_)
   rw[←lK _ _ hw.ne];exact k'
  | gi d hd aS cz cs h' k'=>
   have n1:=iX hX cz
   have nz:∀cs,s d≠some (.box cs):=fun cs=>Jd n1 hd
   refine .gi d hd aS n1 cs (h'.move (ki hw.ys ck)) (.fT X hm ?_ ?_ (fun s' e=>by
    obtain⟨pM,Bi,e1,rfl,e2⟩:=e.unbox
    exact(h _ e1).move (PL hw.xs (lL d hd) (hw.yx d hd) (fun cs=>by rw[e2];exact nz cs)) (.refl _)) ?_)
   ·rw[mH de dt]at nb⊢
    intro k bH hk hs
    rcases mD hs with ⟨e,_⟩ | ⟨_,hs⟩
    ·exact hw.ne k hk (by rw[hd,e])
    ·exact nb k bH hk hs
   ·rw[sG]at hx⊢
    refine⟨hx.1,fun b o e=> ?_⟩
    obtain⟨c,hc⟩:=hx.2 b o e
    exact⟨c,xg (fun e=>by subst e;exact nz c hc) hc (fun b o e=>by cases e)⟩
   ·rw[←xh (fun e=>hw.ne d e hd) (fun b o e hb=>by subst hb;obtain⟨c,hc⟩:=(sG.1 hx).2 b o e;exact nz c hc)];exact k'
  | iV b cs bH hd aS hb gJ h' k'=>
   have:=mG.1 aS
   have hT:md.Ex=true:=by
    rcases hw.kind with ⟨_,h1 | h1 | h1 | h1⟩ | h1
    ·omega
    ·omega
    ·omega
    ·rcases h1.2.2 with h2 | h2
     ·exact h2
     ·rw[hm]at h2;cases h2
    ·omega
   have PT:md.wr b=true:=by
    cases md <;> first | exact gJ | cases hT
   obtain⟨xo,gK⟩:=EA hX hb
   refine .iV b cs bH hd aS gK gJ (h'.move (Bf hX hw.ys ck)) (.fT X hm ?_ ?_ (fun s' e=>h s' (e.store gK PT)) ?_)
   ·rw[mH de dt]at nb⊢
    intro k c hk hs
    by_cases e:k=b
    ·subst e;exact xo hk
    ·rw[dW _ _ e]at hs;exact nb k c hk hs
   ·rw[sG]at hx⊢
    refine⟨hx.1,fun b' o e=> ?_⟩
    obtain⟨c,hc⟩:=hx.2 b' o e
    by_cases e2:b'=b
    ·subst e2;exact⟨bH,fi _ _ _⟩
    ·exact⟨c,by rw[dW _ _ e2];exact hc⟩
   ·rw[←Jb xo];exact k'
  | fresh mk xs e aS cz h' k'=>
   have n1:=iX hX cz
   refine .fresh mk xs e aS n1 (h'.move (ki hw.ys ck)) fun g hg hr=> .fT X hm (kj nb) (Bj n1 hx) (Bk n1 (fun c e=>by cases e) (Heap.bh _ hg) h) ?_
   rw[←lK _ _ hw.ne];exact k' g hg hr
  | iW _ bo _ _ _ _ _=>rw[dt]at bo;cases bo
  | kf _ _ _ bo _ _ _ _=>rw[dt]at bo;cases bo
  | js _ bo _ _ _ _ _=>rw[dt]at bo;cases bo
  | fj aY ha cz h' aS k'=>
   have kX:=qO de ha
   have n1:=iX hX cz
   have EB:∀u H',aY u H'→Heap.le H H':=by
    cases md with
    | plain=>exact absurd rfl de
    | bN=>exact aS.2
    | qM st=>exact aS.2
    | fC=>
     rcases aS with e | e
     ·have:=mG.1 e
      rcases hw.kind with ⟨_,h1 | h1 | h1 | h1⟩ | h1
      ·omega
      ·omega
      ·omega
      ·exact absurd h1.2.1 (by decide)
      ·omega
     ·exact e
    | dK k=>cases dt
    | oz=>
     rcases hw.kind with ⟨_,h1 | h1 | h1 | h1⟩ | h1
     ·omega
     ·exact absurd h1.2 (by decide)
     ·omega
     ·exact absurd h1.2.1 (by decide)
     ·omega
   refine .fj aY ha n1 (h'.move (ki hw.ys ck)) aS fun u H' hp hr=> .fT X hm (kj nb) (Bj n1 hx) (Bk n1 (fun c e=>by cases e) (EB u H' hp) h) ?_
   rw[←lK _ _ hw.ne];exact k' u H' hp hr
 | gi dx xq kY nA cx hx k=>
  have kx:=qN.1 (show mC x.op=true by simp[mC,kY])
  have kZ:kd y.op=3∧y.guard=none:=by
   rcases hw.kind with ⟨h1,_⟩ | h1
   ·omega
   ·exact⟨h1.2.1,h1.2.2.1⟩
  have n1:md.nb (eJ s dx cx) y.dst=true→md.nb s y.dst=true:=fun hn=>by
   rw[mH de dt]at hn⊢
   intro k cs hk hs
   exact hn k cs hk (xg (fun e=>xn k hk (by rw[xq,e])) hs (fun b o e=>by cases e))
  cases k with
  | gh v' aS cz h' k'=>
   rcases aS with e | e
   ·rw[qN.2 kZ.1]at e;cases e
   ·exact absurd kZ.2 e
  | fT X' aS cz ny h' k'=>have:=vc aS;omega
  | gi d hd aS cz cs h' k'=>
   refine .gi d hd aS (n1 cz) cs (h'.move Ja) (.gi dx xq kY ?_ cx (hx.move (Bg hw.xs (lL d hd) (hw.yx d hd))) ?_)
   ·rw[mH de dt]at nA⊢
    intro k bH hk hs
    rcases mD hs with ⟨e,_⟩ | ⟨_,hs⟩
    ·exact hw.ne k hk (by rw[hd,e])
    ·exact nA k bH hk hs
   ·rw[←PO (fun e=>hw.ne dx xq (by rw[hd,e]))];exact k'
  | iV b cs bH hd aS hb gJ h' k'=>have:=mG.1 aS;omega
  | fresh mk xs e aS cz h' k'=>
   refine .fresh mk xs e aS (n1 cz) (h'.move Ja) fun g hg hr=> .gi dx xq kY (kj nA) cx (hx.move (oC hw.xs iF)) ?_
   rw[xh (fun e=>xn dx e xq) (fun b o e=>by cases e)];exact k' g hg hr
  | iW _ bo _ _ _ _ _=>rw[dt]at bo;cases bo
  | kf _ _ _ bo _ _ _ _=>rw[dt]at bo;cases bo
  | js _ bo _ _ _ _ _=>rw[dt]at bo;cases bo
  | fj aY ha cz h' aS k'=>have kX:=qO de ha;omega
 | iV b cs bH hd hm hb gJ h k=>
  have:=mG.1 hm
  rcases hw.kind with ⟨h1,_⟩ | h1 <;> omega
 | fresh Bl mI ex kY nA hx k=>
  have kx:kd x.op=3:=qN.1 (by rcases kY with e | ⟨e,_⟩ <;> simp[mC,e]at *)
  have kZ:kd y.op=3∧y.guard=none:=by
   rcases hw.kind with ⟨h1,_⟩ | h1
   ·omega
   ·exact⟨h1.2.1,h1.2.2.1⟩
  obtain⟨w,hd⟩:=hH
  have dX:Den (ins H w.heap.size (whole mI ex)) (w.alloc (.cells mI.toArray ex (0,0))):=Den.PR hd mI ex
  rcases I9 kZ.1 with ⟨sH,sI⟩ | ⟨sH,sI⟩
  ·
   have only:∀g,H g=none→Real (ins H g (whole mI ex))→∃d cs,y.dst=some d∧md.nb s y.dst=true∧pL P n all y s cs∧K (eJ (aQ s x.dst (.val (Bl g))) d cs) (ins H g (whole mI ex)):=by
    intro g hg hr
    cases k g hg hr with
    | gh v' aS cz h' k'=>
     rcases aS with e | e
     ·rw[qN.2 kZ.1]at e;cases e
     ·exact absurd kZ.2 e
    | fT X' aS cz ny h' k'=>have:=vc aS;omega
    | iV b cs bH hd aS hb gJ h' k'=>have:=mG.1 aS;omega
    | iW _ bo _ _ _ _ _=>rw[dt]at bo;cases bo
    | kf _ _ _ bo _ _ _ _=>rw[dt]at bo;cases bo
    | js _ bo _ _ _ _ _=>rw[dt]at bo;cases bo
    | fj aY ha cz h' aS k'=>have kX:=qO de ha;omega
    | fresh mk xs e aS cz h' k'=>
     rcases aS with e | e
     ·rw[sI]at e;cases e
     ·exact absurd e.1 de
    | gi d hd aS cz cs h' k'=>exact⟨d,cs,hd,iX (fun cs e=>by cases e) cz,h'.move (ki hw.ys ck),k'⟩
   obtain⟨d,cs,lM,sJ,hy,_⟩:=only _ hd.fresh ⟨_,dX⟩
   refine .gi d lM sH sJ cs hy (.fresh Bl mI ex kY ?_ (hx.move (Bg hw.xs (lL d lM) (hw.yx d lM))) fun g hg hr=> ?_)
   ·rw[mH de dt]at nA⊢
    intro k bH hk hs
    rcases mD hs with ⟨e,_⟩ | ⟨_,hs⟩
    ·exact hw.ne k hk (by rw[lM,e])
    ·exact nA k bH hk hs
   ·obtain⟨d',bH,xt,_,oD,hk⟩:=only g hg hr
    obtain rfl:d'=d:=by rw[lM]at xt;cases xt;rfl
    obtain rfl:=hy.uniq hS oD
    rw[←xh (fun e=>hw.ne _ e lM) (fun b o e=>by cases e)];exact hk
  ·have only:∀g,H g=none→Real (ins H g (whole mI ex))→∃mk xs e,md.nb s y.dst=true∧oy P n all y s mk xs e∧∀g',ins H g (whole mI ex) g'=none→Real (ins (ins H g (whole mI ex)) g' (whole xs e))→K (aQ (aQ s x.dst (.val (Bl g))) y.dst (.val (mk g'))) (ins (ins H g (whole mI ex)) g' (whole xs e)):=by
    intro g hg hr
    cases k g hg hr with
    | gh v' aS cz h' k'=>
     rcases aS with e | e
     ·rw[qN.2 kZ.1]at e;cases e
     ·exact absurd kZ.2 e
    | fT X' aS cz ny h' k'=>have:=vc aS;omega
    | iV b cs bH hd aS hb gJ h' k'=>have:=mG.1 aS;omega
    | iW _ bo _ _ _ _ _=>rw[dt]at bo;cases bo
    | kf _ _ _ bo _ _ _ _=>rw[dt]at bo;cases bo
    | js _ bo _ _ _ _ _=>rw[dt]at bo;cases bo
    | fj aY ha cz h' aS k'=>have kX:=qO de ha;omega
    | gi d hd aS cz cs h' k'=>rw[sH]at aS;cases aS
    | fresh mk xs e aS cz h' k'=>exact⟨mk,xs,e,iX (fun cs e=>by cases e) cz,h'.move (ki hw.ys ck),k'⟩
   obtain⟨mk,xs,e,sJ,hy,_⟩:=only _ hd.fresh ⟨_,dX⟩
   refine .fresh mk xs e (.inl sI) sJ hy fun g' km cF=> .fresh Bl mI ex kY (kj nA) (hx.move (oC hw.xs iF)) fun g hg hr=> ?_
   have a4:g≠g':=fun e'=>by subst e';rw[bn]at hg;cases hg
   have kn:H g=none:=by rw[bD _ _ a4]at hg;exact hg
   have nB:Real (ins H g (whole mI ex)):=by
    obtain⟨w1,ee⟩:=hr
    rw[vd _ _ _ a4.symm]at ee
    exact⟨w1,ee.le (Heap.bh _ (by rw[bD _ _ a4.symm];exact km))⟩
   obtain⟨mk',lJ,e',_,oD,hk⟩:=only g kn nB
   obtain⟨rfl,rfl,rfl⟩:=hy.uniq hS oD
   have:=hk g' (by rw[bD _ _ a4.symm];exact km) (by rw[vd _ _ _ a4];exact hr)
   rw[←lK _ _ hw.ne,vd _ _ _ a4.symm];exact this
 | iW _ bo _ _ _ _ _=>rw[dt]at bo;cases bo
 | kf _ _ _ bo _ _ _ _=>rw[dt]at bo;cases bo
 | js _ bo _ _ _ _ _=>rw[dt]at bo;cases bo
 | fj EC ED nA hx kY k=>
  have kX:=qO de ED
  obtain⟨v0,Je,Bm,pN⟩:=hx.some hS hH
  rcases hw.kind with ⟨kx0,fE⟩ | ⟨_,PU,PV,_⟩
  ·omega
  ·have kZ:kd y.op=3∧y.guard=none:=⟨PU,PV⟩
   rcases I9 kZ.1 with ⟨sH,sI⟩ | ⟨sH,sI⟩
   ·have only:∀v H',EC v H'→Real H'→∃d cs,y.dst=some d∧md.nb s y.dst=true∧pL P n all y s cs∧K (eJ (aQ s x.dst (.val v)) d cs) H':=by
     intro v H' hp hr
     cases k v H' hp hr with
     | gh v' aS cz h' k'=>
      rcases aS with e | e
      ·rw[qN.2 kZ.1]at e;cases e
      ·exact absurd kZ.2 e
     | fT X' aS cz ny h' k'=>have:=vc aS;omega
     | iV b cs bH hd aS hb gJ h' k'=>have:=mG.1 aS;omega
     | iW _ bo _ _ _ _ _=>rw[dt]at bo;cases bo
     | kf _ _ _ bo _ _ _ _=>rw[dt]at bo;cases bo
     | js _ bo _ _ _ _ _=>rw[dt]at bo;cases bo
     | fj aY ha cz h' aS k'=>have kX:=qO de ha;omega
     | fresh mk xs e aS cz h' k'=>
      rcases aS with e | e
      ·rw[sI]at e;cases e
      ·exact absurd e.1 de
     | gi d hd aS cz cs h' k'=>exact⟨d,cs,hd,iX (fun cs e=>by cases e) cz,h'.move (ki hw.ys ck),k'⟩
    obtain⟨d,cs,lM,sJ,hy,_⟩:=only v0 Je Bm pN
    refine .gi d lM sH sJ cs hy (.fj EC ED ?_ (hx.move (Bg hw.xs (lL d lM) (hw.yx d lM))) kY fun v H' hp hr=> ?_)
    ·rw[mH de dt]at nA⊢
     intro k bH hk hs
     rcases mD hs with ⟨e,_⟩ | ⟨_,hs⟩
     ·exact hw.ne k hk (by rw[lM,e])
     ·exact nA k bH hk hs
    ·obtain⟨d',bH,xt,_,oD,hk⟩:=only v H' hp hr
     obtain rfl:d'=d:=by rw[lM]at xt;cases xt;rfl
     obtain rfl:=hy.uniq hS oD
     rw[←xh (fun e=>hw.ne _ e lM) (fun b o e=>by cases e)];exact hk
   ·have only:∀v H',EC v H'→Real H'→∃mk xs e,md.nb s y.dst=true∧oy P n all y s mk xs e∧∀g',H' g'=none→Real (ins H' g' (whole xs e))→K (aQ (aQ s x.dst (.val v)) y.dst (.val (mk g'))) (ins H' g' (whole xs e)):=by
     intro v H' hp hr
     cases k v H' hp hr with
     | gh v' aS cz h' k'=>
      rcases aS with e | e
      ·rw[qN.2 kZ.1]at e;cases e
      ·exact absurd kZ.2 e
     | fT X' aS cz ny h' k'=>have:=vc aS;omega
     | iV b cs bH hd aS hb gJ h' k'=>have:=mG.1 aS;omega
     | iW _ bo _ _ _ _ _=>rw[dt]at bo;cases bo
     | kf _ _ _ bo _ _ _ _=>rw[dt]at bo;cases bo
     | js _ bo _ _ _ _ _=>rw[dt]at bo;cases bo
     | fj aY ha cz h' aS k'=>have kX:=qO de ha;omega
     | gi d hd aS cz cs h' k'=>rw[sH]at aS;cases aS
     | fresh mk xs e aS cz h' k'=>exact⟨mk,xs,e,iX (fun cs e=>by cases e) cz,h'.move (ki hw.ys ck),k'⟩
    obtain⟨mk,xs,e,sJ,hy,_⟩:=only v0 Je Bm pN
    refine .fresh mk xs e (.inl sI) sJ hy fun g hg hr=> .fj _ ED (kj nA) ((hx.move (oC hw.xs iF)).frame hg) ?_ fun v qK sK Jf=> ?_
    ·cases md with
     | plain=>exact absurd rfl de
     | qM st=>
      refine⟨kY.1,fun v qK sK=> ?_⟩
      obtain⟨H',hp,km,rfl⟩:=sK
      exact Heap.le.qP (kY.2 v H' hp) km
     | bN=>
      refine⟨kY.1,fun v qK sK=> ?_⟩
      obtain⟨H',hp,km,rfl⟩:=sK
      exact Heap.le.qP (kY.2 v H' hp) km
     | fC=>
      rcases kY with e' | e'
      ·exact .inl e'
      ·refine .inr fun v qK sK=> ?_
       obtain⟨H',hp,km,rfl⟩:=sK
       exact Heap.le.qP (e' v H' hp) km
     | oz=>trivial
     | dK k=>trivial
    ·obtain⟨H',hp,km,rfl⟩:=sK
     have nB:Real H':=by
      obtain⟨w1,ee⟩:=Jf
      exact⟨w1,ee.le (Heap.bh _ km)⟩
     obtain⟨mk',lJ,e',_,oD,hk⟩:=only v H' hp nB
     obtain⟨rfl,rfl,rfl⟩:=hy.uniq hS oD
     rw[←lK _ _ hw.ne];exact hk g km Jf
theorem Jg(d:Option Nat):iU s d=true↔∀k cs,d=some k→s k≠some (.box cs):=by
 cases d with
 | none=>simp[iU]
 | some d=>
  have e:iU s (some d)=(match s d with | some (.box _)=>false | _=>true):=rfl
  rw[e]
  cases hs:s d with
  | none=>exact⟨(fun _ k cs hk h=>by cases hk;rw[hs]at h;cases h),fun _=>rfl⟩
  | some z=>
   cases z with
   | val v=>exact⟨(fun _ k cs hk h=>by cases hk;rw[hs]at h;cases h),fun _=>rfl⟩
   | box c=>exact⟨(fun h=>by cases h),fun h=>absurd hs (h d c rfl)⟩
   | ref b o=>exact⟨(fun _ k cs hk h=>by cases hk;rw[hs]at h;cases h),fun _=>rfl⟩
theorem oE(hK:md.ke=true){d:Option Nat}(h:md.nb s d=true):False:=by
 cases md <;> simp[Mode.ke,Mode.nb]at hK h
theorem eK.PW(hK:md.ke=true)(hw:vf md all x y)(vg:∀d,x.dst=some d→d<n)(lL:∀d,y.dst=some d→d<n)
  (h:eK P n all md x s H (fun s1 H1=>eK P n all md y s1 H1 K)):eK P n all md y s H (fun s2 H2=>eK P n all md x s2 H2 K):=by
 have ck:∀d,x.dst=some d→d<n∧d∉y.looksAt all:=fun d hd=>⟨vg d hd,hw.xy d hd⟩
 have iF:∀d,y.dst=some d→d<n∧d∉x.looksAt all:=fun d hd=>⟨lL d hd,hw.yx d hd⟩
 have xn:∀d,y.dst=some d→x.dst≠some d:=fun d hd e=>hw.ne d e hd
 have kx:kd x.op=0:=by
  rcases hw.kind with h1 | h1
  ·exact h1.1
  ·rw[hK]at h1;exact absurd h1.2.2.2 (by decide)
 have ky:kd y.op≠2:=fun e=>by
  rcases hw.kind with ⟨_,h1 | h1 | h1 | h1⟩ | h1
  ·omega
  ·omega
  ·omega
  ·have:=h1.2.1
   cases md <;> simp[Mode.ke,Mode.Ew]at hK this
  ·omega
 have iX:∀{v:Value},iU (aQ s x.dst (.val v)) y.dst=true→iU s y.dst=true:=fun{v} hn=>by
  rw[Jg]at hn⊢
  intro k cs hk hs
  exact hn k cs hk (by rw[xi (xn k hk)];exact hs)
 have kj:∀{v:Value},iU s x.dst=true→iU (aQ s y.dst (.val v)) x.dst=true:=fun{v} hn=>by
  rw[Jg]at hn⊢
  intro k cs hk hs
  exact hn k cs hk (by rw[xi (hw.ne k hk)]at hs;exact hs)
 cases h with
 | gh v hm nb h k=>exact(oE hK nb).elim
 | fT X hm nb hx h k=>exact(oE hK nb).elim
 | gi d hd hm nb cs h k=>exact(oE hK nb).elim
 | iV b cs bH hd hm hb gJ h k=>have:=mG.1 hm;omega
 | fresh mk xs e hm nb h k=>exact(oE hK nb).elim
 | fj aY ha nb h hm k=>exact(oE hK nb).elim
 | kf mk xs e hk hm nb h k=>have:=qN.1 (show mC x.op=true by simp[mC,hm]);omega
 | js aY hk ha nb h hm k=>omega
 | iW v hk hm nb hc h k=>
  cases k with
  | gh v hm nb h k=>exact(oE hK nb).elim
  | fT X hm nb hx h k=>exact(oE hK nb).elim
  | gi d hd hm nb cs h k=>exact(oE hK nb).elim
  | iV b cs bH hd hm hb gJ h k=>exact absurd (mG.1 hm) ky
  | fresh mk xs e hm nb h k=>exact(oE hK nb).elim
  | fj aY ha nb h hm k=>exact(oE hK nb).elim
  | iW v' gV aS cz gA h' k'=>
   refine .iW v' gV aS (iX cz) hc (h'.move (ki hw.ys ck)) (.iW v hk hm (kj nb) hc (h.move (oC hw.xs iF)) ?_)
   rw[←lK _ _ hw.ne];exact k'
  | kf mk xs e gV aS cz h' k'=>
   refine .kf mk xs e gV aS (iX cz) (h'.move (ki hw.ys ck)) fun g hg hr=> .iW v hk hm (kj nb) (fun ad u hu=>cg (Heap.bh _ hg) (hc ad u hu)) (h.move (oC hw.xs iF)) ?_
   rw[←lK _ _ hw.ne];exact k' g hg hr
  | js aY gV xz cz h' aS k'=>
   have PX:∀u H',aY u H'→md.nt H':=by
    rcases aS with e | e
    ·exact absurd (mG.1 e) ky
    ·exact e
   refine .js aY gV xz (iX cz) (h'.move (ki hw.ys ck)) aS fun u H' hp hr=> .iW v hk hm (kj nb) (PX u H' hp) (h.move (oC hw.xs iF)) ?_
   rw[←lK _ _ hw.ne];exact k' u H' hp hr
theorem eK.swap(de:md≠.plain)(hw:vf md all x y)(vg:∀d,x.dst=some d→d<n)(lL:∀d,y.dst=some d→d<n)
  (hS:∃a,ey n s a) (hH:Real H) (h:eK P n all md x s H (fun s1 H1=>eK P n all md y s1 H1 K)):eK P n all md y s H (fun s2 H2=>eK P n all md x s2 H2 K):=by
 cases hK:md.ke with
 | false=>exact eK.PS de hK hw vg lL hS hH h
 | true=>exact eK.PW hK hw vg lL h
end
end Go.au
namespace Go.au
section
variable (P:Program) (n:Nat) (all:Array Oper) (md:Mode)
def aE:List Oper→St→Heap→(St→Heap→Prop)→Prop
 | [],s,H,K=>K s H
 | o::r,s,H,K=>eK P n all md o s H (fun s' H'=>aE r s' H' K)
end
section
variable {P:Program} {n:Nat} {all:Array Oper} {md:Mode} {s:St} {H:Heap} {K K':St→Heap→Prop}
theorem eK.PY{o:Oper}(mE:∀d,o.dst=some d→d<n)(hS:∃a,ey n s a)(hH:Real H)(h:eK P n all md o s H K)
  (hk:∀s H,(∃a,ey n s a)→Real H→K s H→K' s H):eK P n all md o s H K':=by
 obtain⟨a,ha⟩:=hS
 have sL:∀X:Slot,(∃a,ey n (aQ s o.dst X) a):=fun X=>by
  obtain⟨d⟩ | hd:o.dst=none∨∃d,o.dst=some d:=by cases o.dst <;> simp
  ·rw[‹o.dst=none›];exact⟨a,ha⟩
  ·obtain⟨d,hd⟩:=hd
   rw[hd]
   have key:∀u,(∀v,X = .val v→u=v)→∃a,ey n (aQ s (some d) X) a:=fun u hu=>by
    refine⟨a.put (some d) u,by rw[Act.u6];exact ha.size,fun t v ht=> ?_⟩
    by_cases e:t=d
    ·subst e
     rw[show aQ s (some t) X=put s t X from rfl,fi]at ht
     simp only[Option.some.injEq]at ht
     rw[Act.qL _ _ _ (by rw[ha.size];exact mE t hd),hu v ht]
    ·rw[show aQ s (some d) X=put s d X from rfl,dW _ _ e]at ht
     rw[Act.mB _ _ e];exact ha.at_ t v ht
   cases X with
   | val v=>exact key v (fun v' h=>by cases h;rfl)
   | box cs=>exact key undef (fun v' h=>by cases h)
   | ref b off=>exact key undef (fun v' h=>by cases h)
 cases h with
 | gh v hm nb h k=>exact .gh v hm nb h (hk _ _ (sL _) hH k)
 | fT x hm nb hx h k=>exact .fT x hm nb hx h (hk _ _ (sL _) hH k)
 | gi d hd hm nb cs h k=>exact .gi d hd hm nb cs h (hk _ _ ⟨a,ha.size,fun t v ht=>ha.at_ t v (Ey ht).2⟩ hH k)
 | iV b cs bH hd hm hb gJ h k=>
  refine .iV b cs bH hd hm hb gJ h (hk _ _ ⟨a,ha.size,fun t v ht=> ?_⟩ hH k)
  by_cases e:t=b
  ·subst e;rw[fi]at ht;cases ht
  ·rw[dW _ _ e]at ht;exact ha.at_ t v ht
 | fresh mk xs e hm nb h k=>exact .fresh mk xs e hm nb h fun g hg hr=>hk _ _ (sL _) hr (k g hg hr)
 | fj aY xz nb h hm k=>exact .fj aY xz nb h hm fun v H' hp hr=>hk _ _ (sL _) hr (k v H' hp hr)
 | iW v bo hm nb hc h k=>exact .iW v bo hm nb hc h (hk _ _ (sL _) hH k)
 | kf mk xs e bo hm nb h k=>exact .kf mk xs e bo hm nb h fun g hg hr=>hk _ _ (sL _) hr (k g hg hr)
 | js aY bo xz nb h hm k=>exact .js aY bo xz nb h hm fun v H' hp hr=>hk _ _ (sL _) hr (k v H' hp hr)
theorem aE.front(de:md≠.plain){y:Oper}{Y:List Oper}(lL:∀d,y.dst=some d→d<n):∀(X:List Oper)(s:St)(H:Heap),(∀x,x∈X→vf md all x y)→(∀x,x∈X→∀d,x.dst=some d→d<n)→
  (∃a,ey n s a)→Real H→aE P n all md (X++y::Y) s H K→aE P n all md (y::(X++Y)) s H K:=by
 intro X
 induction X with
 | nil=>intro s H _ _ _ _ h;exact h
 | cons x X ih=>
  intro s H hw hn hS hH h
  have h1:eK P n all md x s H (fun s1 H1=>eK P n all md y s1 H1 (fun s2 H2=>aE P n all md (X++Y) s2 H2 K)):=
   eK.PY (hn x (List.mem_cons_self ..)) hS hH h fun s1 H1 PZ EE h1=>
    ih s1 H1 (fun z hz=>hw z (List.mem_cons_of_mem _ hz)) (fun z hz=>hn z (List.mem_cons_of_mem _ hz)) PZ EE h1
  exact eK.swap de (hw x (List.mem_cons_self ..)) (hn x (List.mem_cons_self ..)) lL hS hH h1
end
theorem Oper.Jh{P:Program}{o:Oper}{a:Act}{w:World}{K:Act→World→Prop}{Q:Exit→Act→World→Prop}(h:o.wp P a w K (fun _ _ _=>False)):o.wp P a w K Q:=by
 unfold Oper.wp at h⊢
 generalize (execOp a.eval o).run P w=r at h⊢
 cases r with
 | ok m w'=>
  cases m <;> simp only[Oper.upon]at h⊢<;> first
   | exact h
   | exact h.mono fun e w9 he=>by
      cases e with
      | returned v=>exact he
      | panicked c=>exact he.elim
      | outgrown=>obtain⟨_,_,hh⟩:=he;exact hh.elim
 | halt x w'=>cases x <;> simp only[Oper.upon]at h⊢
section
variable {P:Program} {n:Nat} {w0:World} {H0:Heap} {Q:Exit→Act→World→Prop} {K:St→Heap→Prop}
theorem EF{a b:Nat}(h:Nat.blt a b=true):a<b:=Nat.le_of_ble_eq_true h
def Bn(n:Nat)(l:List Oper):Bool:=l.all fun o=>match o.dst with | some d=>Nat.blt d n | none=>true
theorem Ji{l:List Oper}(h:Bn n l=true):∀o,o∈l→∀d,o.dst=some d→d<n:=fun o ho d hd=>by
 have:=List.all_eq_true.1 h o ho
 rw[hd]at this
 exact EF this
theorem aE.wpList{all:Array Oper}(hQ:∀s H a w,Rel w0 H0 n s H a w→K s H→Q .normal a w):∀(l:List Oper)(s:St)(H:Heap)(a:Act)(w:World),(∀o,o∈l→∀d,o.dst=some d→d<n)→
  Rel w0 H0 n s H a w→aE P n all .plain l s H K→wpList P all Q l a w:=by
 intro l
 induction l with
 | nil=>intro s H a w _ hR h;exact hQ s H a w hR h
 | cons o l ih=>
  intro s H a w hn hR h
  have hs:=eK.sound hR (hn o (List.mem_cons_self ..)) h
  unfold Go.wpList
  rcases hs with ⟨h1,h2⟩ | ⟨h1,s',H',cH,h2⟩
  ·rw[if_pos h1]
   refine .inl (Oper.Jh (Oper.wp_mono (fun a' w' hh=> ?_) h2))
   obtain⟨s',H',cH,hk⟩:=hh
   exact ih s' H' a' w' (fun z hz=>hn z (List.mem_cons_of_mem _ hz)) cH hk
  ·rw[if_neg (by rw[h1];simp)]
   exact ih s' H' _ w (fun z hz=>hn z (List.mem_cons_of_mem _ hz)) cH h2
end
def eO(l:List Oper)(i:Nat):Oper:=l[i]?.getD default
def sM(l:List Oper):Nat→Nat→Nat→Bool
 | 0,_,_=>false
 | f+1,i,j=>(eO l j).after.any fun e=>Region.binds .any e&&(Nat.beq e.on i||sM l f i e.on)
def Bo(md:Mode)(l:List Oper):List Nat→Bool
 | []=>true
 | i::r=>r.all (fun j=>sM l l.length i j||Sw md l.toArray (eO l i) (eO l j))&&Bo md l r
def Bp:List Nat→Bool
 | []=>true
 | i::r=> !r.contains i&&Bp r
def Bq(n:Nat)(md:Mode)(l:List Oper)(perm:List Nat):Bool:=
 !md.PD&&Bn n l&&Nat.beq perm.length l.length&&perm.all (fun i=>Nat.blt i l.length)&&Bp perm&&Bo md l perm&&(List.range l.length).all (fun i=>perm.contains i) &&
 (List.range l.length).all fun i=>(eO l i).after.all fun e=> !Region.binds .any e||Nat.blt e.on i
section
variable {P:Program} {n:Nat} {w0:World} {H0:Heap} {Q:Exit→Act→World→Prop} {K:St→Heap→Prop} {md:Mode} {l:List Oper}
theorem Bs{i:Nat}(h:i<l.length):l[i]? = some (eO l i):=by
 unfold eO;rw[List.getElem?_eq_getElem h];rfl
theorem P0{ic:Array Bool}(Bt:∀i,ic.getD i false=true→∀e,e∈(eO l i).after→Region.binds .any e=true→ic.getD e.on false=true):
  ∀f i j,(∀e,e∈(eO l j).after→Region.binds .any e=true→ic.getD e.on false=true)→sM l f i j=true→ic.getD i false=true:=by
 intro f
 induction f with
 | zero=>intro i j _ h;cases h
 | succ f ih=>
  intro i j hj h
  simp only[sM,Array.any_eq_true']at h
  obtain⟨e,he,h⟩:=h
  simp only[Bool.and_eq_true,Bool.or_eq_true]at h
  obtain⟨hb,h⟩:=h
  rcases h with h | h
  ·have:=Nat.eq_of_beq_eq_true h
   rw[←this];exact hj e he hb
  ·exact ih i e.on (Bt _ (hj e he hb)) h
theorem P1{r:List Nat}(h:Bo md l r=true):r.Pairwise fun i j=>sM l l.length i j=true∨Sw md l.toArray (eO l i) (eO l j)=true:=by
 induction r with
 | nil=>exact .nil
 | cons i r ih=>
  simp only[Bo,Bool.and_eq_true,List.all_eq_true,Bool.or_eq_true]at h
  exact .cons (fun j hj=>h.1 j hj) (ih h.2)
theorem P2{r:List Nat}(h:Bp r=true):r.Nodup:=by
 induction r with
 | nil=>exact .nil
 | cons i r ih=>
  simp only[Bp,Bool.and_eq_true,Bool.not_eq_true',List.contains_eq_mem,decide_eq_false_iff_not]at h
  exact List.nodup_cons.2 ⟨h.1,ih h.2⟩
theorem Jj{A:Array Bool}{i j:Nat}{b:Bool}(hi:i<A.size):(A.setIfInBounds i true).getD j b=if j=i then true else A.getD j b:=by
 simp only[Array.getD_eq_getD_getElem?,Array.getElem?_setIfInBounds]
 by_cases e:i=j
 ·subst e;simp[hi]
 ·rw[if_neg e,if_neg (Ne.symm e)]
theorem P3(de:md≠.plain)(hn:∀o,o∈l→∀d,o.dst=some d→d<n)(Jk:∀i,i<l.length→∀e,e∈(eO l i).after→Region.binds .any e=true→e.on<i)
  (hQ:∀s H a w,Rel w0 H0 n s H a w→K s H→Q .normal a w):
  ∀(fuel:Nat)(r:List Nat)(ic:Array Bool)(s:St)(H:Heap)(a:Act)(w:World),(∀i,i∈r↔i<l.length∧ic.getD i true=false)→r.Nodup→ic.size=l.length→
  (r.Pairwise fun i j=>sM l l.length i j=true∨Sw md l.toArray (eO l i) (eO l j)=true)→
  (∀i,ic.getD i false=true→∀e,e∈(eO l i).after→Region.binds .any e=true→ic.getD e.on false=true)→
  r.length≤fuel→Rel w0 H0 n s H a w→aE P n l.toArray md (r.map (eO l)) s H K→wpAny P .any l.toArray Q fuel ic a w:=by
 intro fuel
 induction fuel with
 | zero=>
  intro r ic s H a w hr _ bZ _ _ hlen hR h
  obtain rfl:r = []:=List.eq_nil_of_length_eq_zero (by omega)
  refine⟨?_,hQ s H a w hR h⟩
  unfold Region.ready
  rw[List.filter_eq_nil_iff]
  intro i hi hp
  simp only[List.mem_range,List.size_toArray]at hi
  simp only[Bool.and_eq_true,Bool.not_eq_true']at hp
  exact absurd ((hr i).2 ⟨hi,hp.1⟩) (by simp)
 | succ fuel ih=>
  intro r ic s H a w hr gL bZ qQ Bt hlen hR h
  have oF:∀i,i∈Region.ready .any l.toArray ic↔i∈r∧∀e,e∈(eO l i).after→Region.binds .any e=true→ic.getD e.on false=true:=by
   intro i
   unfold Region.ready
   rw[List.mem_filter,hr]
   simp only[List.mem_range,List.size_toArray,Bool.and_eq_true,Bool.not_eq_true',List.getElem?_toArray]
   constructor
   ·rintro⟨h1,h2,h3⟩
    rw[Bs h1]at h3
    simp only[Option.map_some,Option.getD_some,Array.all_eq_true',Bool.or_eq_true,Bool.not_eq_true']at h3
    refine⟨⟨h1,h2⟩,fun e he hb=> ?_⟩
    rcases h3 e he with h4 | h4
    ·rw[hb]at h4;cases h4
    ·exact h4
   ·rintro⟨⟨h1,h2⟩,h3⟩
    refine⟨h1,h2,?_⟩
    rw[Bs h1]
    simp only[Option.map_some,Option.getD_some,Array.all_eq_true',Bool.or_eq_true,Bool.not_eq_true']
    intro e he
    cases hb:Region.binds .any e with
    | false=>exact .inl rfl
    | true=>exact .inr (h3 e he hb)
  have EG:∀j,j<l.length→j∉r→ic.getD j false=true:=by
   intro j hj P4
   have:ic.getD j true≠false:=fun hf=>P4 ((hr j).2 ⟨hj,hf⟩)
   simp only[Array.getD_eq_getD_getElem?]at this⊢
   rw[Array.getElem?_eq_getElem (by omega)]at this⊢
   simpa using this
  refine⟨fun he=> ?_,fun i hi=> ?_⟩
  ·
   have pN:r = []:=by
    cases hc:r with
    | nil=>rfl
    | cons z r'=>
     exfalso
     have key:∀m,∀i,i≤m→i∈r→False:=by
      intro m
      induction m with
      | zero=>
       intro i dS qR
       have nC:i∈Region.ready .any l.toArray ic:=(oF i).2 ⟨qR,fun e vh hb=>by
        have:=Jk i ((hr i).1 qR).1 e vh hb;omega⟩
       rw[he]at nC;cases nC
      | succ m P5=>
       intro i dS qR
       have sN:=((hr i).1 qR).1
       have nC:i∈Region.ready .any l.toArray ic:=(oF i).2 ⟨qR,fun e vh hb=>by
        have a8:=Jk i sN e vh hb
        exact EG e.on (by omega) (fun h'=>P5 e.on (by omega) h')⟩
       rw[he]at nC;cases nC
     exact key z z (Nat.le_refl _) (by rw[hc];exact List.mem_cons_self ..)
   subst pN
   exact hQ s H a w hR h
  ·obtain⟨qR,Jl⟩:=(oF i).1 hi
   have sN:=((hr i).1 qR).1
   obtain⟨X,Y,rfl⟩:=List.append_of_mem qR
   have gJ:∀x,x∈X→vf md l.toArray (eO l x) (eO l i):=by
    intro x hx
    have hp:sM l l.length x i=true∨Sw md l.toArray (eO l x) (eO l i)=true:=by
     rw[List.pairwise_append]at qQ
     exact qQ.2.2 x hx i (List.mem_cons_self ..)
    rcases hp with hp | hp
    ·exfalso
     have h1:=P0 Bt l.length x i Jl hp
     have h2:=((hr x).1 (List.mem_append_left _ hx)).2
     simp only[Array.getD_eq_getD_getElem?]at h1 h2
     cases hg:ic[x]? with
     | none=>rw[hg]at h1;simp at h1
     | some b=>rw[hg]at h1 h2;simp at h1 h2;rw[h1]at h2;cases h2
    ·exact Sw.out hp
   have EH:∀j,j<l.length→∀d,(eO l j).dst=some d→d<n:=fun j hj=>hn _ (List.mem_of_getElem? (Bs hj))
   obtain⟨G,hl,_⟩:=hR.fits
   have P6:=aE.front (P:=P) de (y:=eO l i) (Y:=Y.map (eO l)) (K:=K) (EH i sN) (X.map (eO l)) s H
    (fun x hx=>by obtain⟨j,hj,rfl⟩:=List.mem_map.1 hx;exact gJ j hj)
    (fun x hx=>by obtain⟨j,hj,rfl⟩:=List.mem_map.1 hx;exact EH j ((hr j).1 (List.mem_append_left _ hj)).1) ⟨a,hl.aH⟩ ⟨w,hl.den⟩ (by simpa using h)
   have hs:=eK.sound hR (EH i sN) P6
   have Jm:(X++Y).Nodup∧i∉X++Y:=by
    have:=(List.perm_middle (a:=i) (l₁:=X) (l₂:=Y)).nodup_iff.1 gL
    rw[List.nodup_cons]at this
    exact⟨this.2,this.1⟩
   have next:∀s' H' a' w',Rel w0 H0 n s' H' a' w'→aE P n l.toArray md (X.map (eO l)++Y.map (eO l)) s' H' K→wpAny P .any l.toArray Q fuel (ic.setIfInBounds i true) a' w':=by
    intro s' H' a' w' cH hk
    refine ih (X++Y) _ s' H' a' w' (fun j=> ?_) Jm.1 (by simpa using bZ) ?_ (fun j hj e vh hb=> ?_) ?_ cH (by simpa using hk)
    ·rw[Jj (by omega)]
     by_cases e:j=i
     ·subst e
      simp only[if_true]
      exact⟨fun h'=>absurd h' Jm.2,fun h'=>by cases h'.2⟩
     ·rw[if_neg e,←hr]
      simp only[List.mem_append,List.mem_cons]
      constructor
      ·rintro(h' | h')
       ·exact .inl h'
       ·exact .inr (.inr h')
      ·rintro(h' | h' | h')
       ·exact .inl h'
       ·exact absurd h' e
       ·exact .inr h'
    ·exact qQ.sublist (List.Sublist.append (List.Sublist.refl _) (List.sublist_cons_self ..))
    ·rw[Jj (by omega)]at hj⊢
     by_cases e2:e.on=i
     ·rw[if_pos e2]
     ·rw[if_neg e2]
      by_cases e3:j=i
      ·subst e3;exact Jl e vh hb
      ·rw[if_neg e3]at hj;exact Bt j hj e vh hb
    ·simp only[List.length_append,List.length_cons]at hlen⊢;omega
   unfold wpOp
   rw[show l.toArray[i]? = some (eO l i)from by rw[List.getElem?_toArray];exact Bs sN]
   simp only
   rcases hs with ⟨h1,h2⟩ | ⟨h1,s',H',cH,h2⟩
   ·rw[if_pos h1]
    refine .inl (Oper.Jh (Oper.wp_mono (fun a' w' hh=> ?_) h2))
    obtain⟨s',H',cH,hk⟩:=hh
    exact next s' H' a' w' cH hk
   ·rw[if_neg (by rw[h1];simp)]
    exact next s' H' _ w cH h2
theorem P7{id:Nat}{perm:List Nat}{s:St}{H:Heap}{a:Act}{w:World}(hf:P.follows .mixedOrders=true)(hc:Bq n md l perm=true)
  (hQ:∀s H a w,Rel w0 H0 n s H a w→K s H→Q .normal a w) (hR:Rel w0 H0 n s H a w) (h:aE P n l.toArray md (perm.map (eO l)) s H K):(Code.region id l.toArray true).wp P Q a w:=by
 simp only[Bq,Bool.and_eq_true,List.all_eq_true]at hc
 obtain⟨⟨⟨⟨⟨⟨⟨h1,h2⟩,h3⟩,h4⟩,h5⟩,h6⟩,h8⟩,h7⟩:=hc
 have h1:md≠.plain:=fun e=>by rw[e]at h1;cases h1
 have h3:=Nat.eq_of_beq_eq_true h3
 have h4:∀i,i∈perm→i<l.length:=fun i hi=>EF (h4 i hi)
 have h5:=P2 h5
 have xA:∀i,i<l.length→i∈perm:=by
  intro i hi
  simpa using h8 i (List.mem_range.2 hi)
 refine wp_region_any hf ?_
 refine P3 h1 (Ji h2) (fun i hi e he hb=> ?_) hQ l.toArray.size perm _ s H a _ (fun i=> ?_) h5 (by simp) (P1 h6) (fun i hi=> ?_) (by simp[h3]) ?_ h
 ·have:=h7 i (List.mem_range.2 hi)
  rw[Array.all_eq_true']at this
  have:=this e he
  simp only[Bool.or_eq_true,Bool.not_eq_true']at this
  rcases this with h' | h'
  ·rw[hb]at h';cases h'
  ·exact EF h'
 ·constructor
  ·intro hi
   refine⟨h4 i hi,?_⟩
   simp[Array.getD_eq_getD_getElem?,h4 i hi]
  ·exact fun hi=>xA i hi.1
 ·exfalso
  simp only[Array.getD_eq_getD_getElem?,Array.getElem?_replicate]at hi
  split at hi <;> simp at hi
 ·obtain⟨G,hl,hb⟩:=hR.fits
  exact⟨hR.defers,⟨G,⟨hl.aH,hl.boxes,hl.inj,hl.refs,hl.den⟩,hb⟩,⟨hR.fx.os,hR.fx.tape,hR.fx.output,hR.fx.size,hR.fx.gU,hR.fx.form⟩⟩
end
end Go.au
