/- Part 0 of the proof: Eng1, Eng2, Eng3, Eng4, Eng5. -/
import Derived.Orders
import Derived.Tactics
import Derived.Maps.AppendAt
import Derived.Laws.OwnMore
import Derived.Laws.MakeOwn
import Derived.Below
set_option linter.unusedVariables false
namespace Go.aw
inductive Slot where
 | val (v:Value)
 | box (cs:List Value)
 | ref (b off:Nat)
abbrev St:=Nat→Option Slot
def emp:St:=fun _=>none
def put(s:St)(d:Nat)(x:Slot):St:=fun t=>cond (Nat.beq t d) (some x) (s t)
def ic(s:St)(d:Nat)(cs:List Value):St:=fun t=>
 cond (Nat.beq t d) (some (.box cs)) (match s t with | some (.ref b o)=>cond (Nat.beq b d) none (some (.ref b o)) | x=>x)
def bA(s:St)(d:Option Nat)(x:Slot):St:=match d with | some d=>put s d x | none=>s
theorem iy(s:St)(d:Nat)(x:Slot):put s d x d=some x:=by simp[put]
theorem fF(s:St){d t:Nat}(x:Slot)(h:t≠d):put s d x t=s t:=by
 have:Nat.beq t d=false:=by
  cases hb:Nat.beq t d with
  | false=>rfl
  | true=>exact absurd (Nat.eq_of_beq_eq_true hb) h
 simp[put,this]
theorem put_comm(s:St){d e:Nat}(x y:Slot)(h:d≠e):put (put s d x) e y=put (put s e y) d x:=by
 funext t
 by_cases h1:t=d
 ·subst h1;rw[fF _ _ h,iy,iy]
 ·by_cases h2:t=e
  ·subst h2;rw[iy,fF _ _ h1,iy]
  ·rw[fF _ _ h2,fF _ _ h1,fF _ _ h1,fF _ _ h2]
structure Ent where
 xs:List Value
 size:Nat
 elem:TypeId
 own:Bool
def Ent.of(e:Ent)(o:Obj):Prop:=
 ∃(c:Array Value)(fz:Nat×Nat),o = .cells c e.elem fz∧c.size=e.size∧(∀(i:Nat)(v:Value),e.xs[i]? = some v→c[i]? = some v)∧(e.own=true→fz=(0,0))
abbrev Heap:=Nat→Option Ent
def Den(H:Heap)(w:World):Prop:=∀g e,H g=some e→∃o,w.heap[g]? = some o∧e.of o
def ins(H:Heap)(g:Nat)(e:Ent):Heap:=fun k=>if k=g then some e else H k
theorem bF(H:Heap)(g:Nat)(e:Ent):ins H g e g=some e:=by simp[ins]
theorem bg(H:Heap){g k:Nat}(e:Ent)(h:k≠g):ins H g e k=H k:=by simp[ins,h]
def Ent.le(e e':Ent):Prop:=e'.size=e.size∧e'.elem=e.elem∧e'.own=e.own∧e.xs <+:e'.xs
def Heap.le(H H':Heap):Prop:=∀g e,H g=some e→∃e',H' g=some e'∧e.le e'
theorem Ent.le.refl(e:Ent):e.le e:=⟨rfl,rfl,rfl,List.prefix_rfl⟩
theorem Ent.le.trans{a b c:Ent}(h:a.le b)(k:b.le c):a.le c:=
 ⟨k.1.trans h.1,k.2.1.trans h.2.1,k.2.2.1.trans h.2.2.1,h.2.2.2.trans k.2.2.2⟩
theorem Heap.le.refl(H:Heap):Heap.le H H:=fun _ e h=>⟨e,h,.refl e⟩
theorem Heap.le.trans{A B C:Heap}(h:Heap.le A B)(k:Heap.le B C):Heap.le A C:=fun g e he=>by
 obtain⟨e',h1,h2⟩:=h g e he
 obtain⟨Og,h3,h4⟩:=k g e' h1
 exact⟨Og,h3,h2.trans h4⟩
theorem Heap.bC{H:Heap}{g:Nat}(e:Ent)(h:H g=none):Heap.le H (ins H g e):=fun k x hk=>
 ⟨x,by rw[bg _ _ (fun e=>by subst e;rw[h]at hk;cases hk)];exact hk,.refl x⟩
theorem Oh{l l':List Value}(h:l <+:l'){i:Nat}{v:Value}(hi:l[i]? = some v):l'[i]? = some v:=by
 obtain⟨t,rfl⟩:=h
 rw[List.getElem?_append_left (List.getElem?_eq_some_iff.1 hi).1];exact hi
theorem Ent.le.of{e e':Ent}(h:e.le e'){o:Obj}(ho:e'.of o):e.of o:=by
 obtain⟨c,fz,h1,h2,h3,h4⟩:=ho
 exact⟨c,fz,by rw[h1,h.2.1],by rw[h2,h.1],fun i v hv=>h3 i v (Oh h.2.2.2 hv),fun ho=>h4 (h.2.2.1.trans ho)⟩
theorem Den.le{H H':Heap}(h:Heap.le H H'){w:World}(hd:Den H' w):Den H w:=fun g e he=>by
 obtain⟨e',h1,h2⟩:=h g e he
 obtain⟨o,h3,h4⟩:=hd g e' h1
 exact⟨o,h3,h2.of h4⟩
theorem Den.lt{H:Heap}{w:World}(h:Den H w){g:Nat}{e:Ent}(hg:H g=some e):g<w.heap.size:=by
 obtain⟨o,h1,_⟩:=h g e hg
 exact(Array.getElem?_eq_some_iff.1 h1).1
theorem Den.fresh{H:Heap}{w:World}(h:Den H w):H w.heap.size=none:=by
 cases hg:H w.heap.size with
 | none=>rfl
 | some e=>have:=h.lt hg;omega
def cell(H:Heap)(a:Addr):Option Value:=
 match H a.block with
 | some e=>if a.spot.isSome then none else e.xs[a.off]?
 | none=>none
theorem Den.cell{H:Heap}{w:World}(h:Den H w){a:Addr}{v:Value}(hc:cell H a=some v):w.cell? a=some v:=by
 unfold aw.cell at hc
 cases hg:H a.block with
 | none=>rw[hg]at hc;cases hc
 | some e=>
  rw[hg]at hc
  obtain⟨o,h1,c,fz,rfl,h3,h4,_⟩:=h _ _ hg
  simp only at hc
  split at hc
  ·cases hc
  ·rename_i hs
   simp[World.cell?,h1,hs,h4 _ _ hc]
theorem cN{H H':Heap}(h:Heap.le H H'){a:Addr}{v:Value}(hc:cell H a=some v):cell H' a=some v:=by
 unfold cell at hc⊢
 cases hg:H a.block with
 | none=>rw[hg]at hc;cases hc
 | some e=>
  rw[hg]at hc
  obtain⟨e',h1,h2⟩:=h _ _ hg
  rw[h1]
  simp only at hc⊢
  split at hc
  ·cases hc
  ·rename_i hs
   rw[if_neg hs];exact Oh h2.2.2.2 hc
structure Fx(H:Heap)(w:World)(H':Heap)(w':World):Prop where
 os:w'.os=w.os
 tape:w'.tape=w.tape
 output:w'.output=w.output
 size:w.heap.size≤w'.heap.size
 keep:∀g,g<w.heap.size→H g=none→w'.heap[g]? = w.heap[g]?∧H' g=none
 form:∀(g:Nat)(c:Array Value)(t:TypeId)(fz:Nat×Nat),w.heap[g]? = some (.cells c t fz)→∃c',w'.heap[g]? = some (.cells c' t fz)∧c'.size=c.size
theorem Fx.refl(H:Heap)(w:World):Fx H w H w:=⟨rfl,rfl,rfl,Nat.le_refl _,fun _ _ h=>⟨rfl,h⟩,fun _ c _ _ h=>⟨c,h,rfl⟩⟩
theorem Fx.trans{H H' s5:Heap}{w w' Fy:World}(h:Fx H w H' w')(k:Fx H' w' s5 Fy):Fx H w s5 Fy:=
 ⟨k.os.trans h.os,k.tape.trans h.tape,k.output.trans h.output,Nat.le_trans h.size k.size,fun g hg h0=>by
  have h1:=h.keep g hg h0
  have h2:=k.keep g (Nat.lt_of_lt_of_le hg h.size) h1.2
  exact⟨h2.1.trans h1.1,h2.2⟩,fun g c t fz hc=>by
  obtain⟨c1,h1,h2⟩:=h.form g c t fz hc
  obtain⟨c2,h3,h4⟩:=k.form g c1 t fz h1
  exact⟨c2,h3,h4.trans h2⟩⟩
theorem Fx.Oi{w w':World}(h:∀g,g<w.heap.size→w'.heap[g]? = w.heap[g]?):∀(g:Nat)(c:Array Value)(t:TypeId)(fz:Nat×Nat),w.heap[g]? = some (.cells c t fz)→∃c',w'.heap[g]? = some (.cells c' t fz)∧c'.size=c.size:=
 fun g c t fz hc=>⟨c,by rw[h g (Array.getElem?_eq_some_iff.1 hc).1];exact hc,rfl⟩
structure gG(n:Nat)(s:St)(a:Act):Prop where
 size:a.tmps.size=n
 at_:∀t v,s t=some (.val v)→a.tmps[t]? = some v
structure Rl(n:Nat)(s:St)(H:Heap)(G:Nat→Nat)(a:Act)(w:World):Prop where
 aL:gG n s a
 boxes:∀t cs,s t=some (.box cs)→a.tmps[t]? = some (.pointer (some ⟨G t,0,none⟩))∧H (G t)=none∧∃e,w.heap[G t]? = some (.cells cs.toArray e (0,0))
 inj:∀t t' cs cG,s t=some (.box cs)→s t'=some (.box cG)→G t=G t'→t=t'
 refs:∀t b off cs,s t=some (.ref b off)→s b=some (.box cs)→a.tmps[t]? = some (.pointer (some ⟨G b,off,none⟩))
 den:Den H w
structure Rel(w0:World)(H0:Heap)(n:Nat)(s:St)(H:Heap)(a:Act)(w:World):Prop where
 defers:a.defers = []
 fits:∃G,Rl n s H G a w∧∀t cs,s t=some (.box cs)→w0.heap.size≤G t
 fx:Fx H0 w0 H w
def ev(s:St):Operand→Option Value
 | .tmp t=>match s t with | some (.val v)=>some v | _=>none
 | .const v=>some v
 | .func f=>some (.func (.func f) #[] #[])
 | .global g=>some (.pointer (some ⟨g,0,none⟩))
theorem bT{n:Nat}{s:St}{a:Act}(h:gG n s a){x:Operand}{v:Value}(hx:ev s x=some v):a.eval x=v:=by
 cases x with
 | tmp t=>
  simp only[ev]at hx
  cases hs:s t with
  | none=>rw[hs]at hx;cases hx
  | some y=>
   rw[hs]at hx
   cases y with
   | val u=>
    simp only[Option.some.injEq]at hx
    subst hx
    have:=h.at_ t u hs
    simp[Act.eval,this]
   | box=>cases hx
   | ref=>cases hx
 | const u=>simp only[ev,Option.some.injEq]at hx;exact hx
 | func f=>simp only[ev,Option.some.injEq]at hx;exact hx
 | global g=>simp only[ev,Option.some.injEq]at hx;exact hx
theorem Act.yu(a:Act)(d:Nat)(v:Value)(h:d<a.tmps.size):(a.put (some d) v).tmps[d]? = some v:=by
 simp[Act.put,h]
theorem Act.rH(a:Act){d t:Nat}(v:Value)(h:t≠d):(a.put (some d) v).tmps[t]? = a.tmps[t]? :=by
 simp[Act.put,Array.getElem?_setIfInBounds_ne (Ne.symm h)]
theorem Act.C5(a:Act)(d:Option Tmp)(v:Value):(a.put d v).tmps.size=a.tmps.size:=by
 cases d <;> simp[Act.put]
theorem Act.UT(a:Act)(d:Option Tmp)(v:Value):(a.put d v).defers=a.defers:=by
 cases d <;> rfl
def Oj(G:Nat→Nat):Slot→Value→Prop
 | .val v,u=>u=v
 | .ref b off,u=>u = .pointer (some ⟨G b,off,none⟩)
 | .box _,_=>False
theorem Rl.put{n:Nat}{s:St}{H:Heap}{G:Nat→Nat}{a:Act}{w:World}(h:Rl n s H G a w){d:Nat}{x:Slot}{v:Value}(hn:d<n)(hx:Oj G x v):
  Rl n (put s d x) H G (a.put (some d) v) w:=by
 have hd:d<a.tmps.size:=by rw[h.aL.size];exact hn
 have nb:∀t cs,aw.put s d x t=some (.box cs)→t≠d∧s t=some (.box cs):=by
  intro t cs ht
  by_cases e:t=d
  ·subst e
   rw[iy]at ht
   simp only[Option.some.injEq]at ht
   subst ht
   exact hx.elim
  ·rw[fF _ _ e]at ht;exact⟨e,ht⟩
 refine⟨⟨by rw[Act.C5];exact h.aL.size,fun t u ht=> ?_⟩,fun t cs ht=> ?_,fun t t' cs cG ht pS e=> ?_,fun t b off cs ht hb=> ?_,h.den⟩
 ·by_cases e:t=d
  ·subst e
   rw[iy]at ht
   simp only[Option.some.injEq]at ht
   subst ht
   rw[Act.yu _ _ _ hd,hx]
  ·rw[fF _ _ e]at ht
   rw[Act.rH _ _ e];exact h.aL.at_ t u ht
 ·obtain⟨e,ht⟩:=nb t cs ht
  rw[Act.rH _ _ e];exact h.boxes t cs ht
 ·exact h.inj t t' cs cG (nb t cs ht).2 (nb t' cG pS).2 e
 ·obtain⟨_,hb⟩:=nb b cs hb
  by_cases e:t=d
  ·subst e
   rw[iy]at ht
   simp only[Option.some.injEq]at ht
   subst ht
   rw[Act.yu _ _ _ hd,hx]
  ·rw[fF _ _ e]at ht
   rw[Act.rH _ _ e];exact h.refs t b off cs ht hb
theorem Rl.uK{n:Nat}{s:St}{H H':Heap}{G:Nat→Nat}{a:Act}{w w':World}(h:Rl n s H G a w)(hd:Den H' w')(hf:Fx H w H' w'):Rl n s H' G a w':=
 ⟨h.aL,fun t cs ht=>by
  obtain⟨h1,h2,e,h3⟩:=h.boxes t cs ht
  obtain⟨h4,h5⟩:=hf.keep (G t) (Array.getElem?_eq_some_iff.1 h3).1 h2
  exact⟨h1,h5,e,h4.trans h3⟩,h.inj,h.refs,hd⟩
theorem Rl.le{n:Nat}{s:St}{H H':Heap}{G:Nat→Nat}{a:Act}{w:World}(h:Rl n s H' G a w)(hl:Heap.le H H'):Rl n s H G a w:=
 ⟨h.aL,fun t cs ht=>by
  obtain⟨h1,h2,h3⟩:=h.boxes t cs ht
  refine⟨h1,?_,h3⟩
  cases hg:H (G t)with
  | none=>rfl
  | some e=>(obtain⟨e',h4,_⟩:=hl _ _ hg;rw[h2]at h4;exact nomatch h4),h.inj,h.refs,h.den.le hl⟩
theorem gG.back{n:Nat}{s s':St}{a:Act}{d:Nat}(h:gG n s' a)(hs:∀t v,t≠d→s t=some (.val v)→s' t=some (.val v))(hd:d<n):∃v,gG n s (a.put (some d) v):=by
 have m8:d<a.tmps.size:=by rw[h.size];exact hd
 have key:∀v,(∀u,s d=some (.val u)→v=u)→gG n s (a.put (some d) v):=fun v h1=>
  ⟨by rw[Act.C5];exact h.size,fun t u ht=>by
   by_cases e:t=d
   ·subst e;rw[Act.yu _ _ _ m8,h1 u ht]
   ·rw[Act.rH _ _ e];exact h.at_ t u (hs t u e ht)⟩
 cases hx:s d with
 | none=>exact⟨undef,key _ (fun u hu=>by rw[hx]at hu;cases hu)⟩
 | some y=>
  cases y with
  | val u=>exact⟨u,key _ (fun u' hu=>by rw[hx]at hu;cases hu;rfl)⟩
  | box cs=>exact⟨undef,key _ (fun u hu=>by rw[hx]at hu;cases hu)⟩
  | ref b o=>exact⟨undef,key _ (fun u hu=>by rw[hx]at hu;cases hu)⟩
theorem Rl.back{n:Nat}{s s':St}{H:Heap}{G:Nat→Nat}{a:Act}{w:World}{d:Nat}(h:Rl n s' H G a w)(hn:∀cs,s d≠some (.box cs))
  (hs:∀t x,t≠d→s t=some x→(∀b o,x = .ref b o→b≠d)→s' t=some x) (hd:d<n):∃v,Rl n s H G (a.put (some d) v) w:=by
 have m8:d<a.tmps.size:=by rw[h.aL.size];exact hd
 have kT:∀t cs,s t=some (.box cs)→s' t=some (.box cs)∧t≠d:=fun t cs ht=>by
  have e:t≠d:=fun e=>by subst e;exact hn cs ht
  exact⟨hs t _ e ht (fun b o h=>by cases h),e⟩
 have key:∀v,(∀u,s d=some (.val u)→v=u)→(∀b o,s d=some (.ref b o)→v = .pointer (some ⟨G b,o,none⟩))→Rl n s H G (a.put (some d) v) w:=by
  intro v h1 h2
  refine⟨⟨by rw[Act.C5];exact h.aL.size,fun t u ht=> ?_⟩,fun t cs ht=> ?_,fun t t' cs cG ht pS e=> ?_,fun t b off cs ht hb=> ?_,h.den⟩
  ·by_cases e:t=d
   ·subst e;rw[Act.yu _ _ _ m8,h1 u ht]
   ·rw[Act.rH _ _ e];exact h.aL.at_ t u (hs t _ e ht (fun b o h=>by cases h))
  ·obtain⟨h3,e⟩:=kT t cs ht
   rw[Act.rH _ _ e];exact h.boxes t cs h3
  ·exact h.inj t t' cs cG (kT t cs ht).1 (kT t' cG pS).1 e
  ·obtain⟨s6,eb⟩:=kT b cs hb
   by_cases e:t=d
   ·subst e;rw[Act.yu _ _ _ m8,h2 b off ht]
   ·rw[Act.rH _ _ e]
    exact h.refs t b off cs (hs t _ e ht (fun b' o' h=>by cases h;exact eb)) s6
 cases hx:s d with
 | none=>exact⟨undef,key _ (fun u hu=>by rw[hx]at hu;cases hu) (fun b o hu=>by rw[hx]at hu;cases hu)⟩
 | some y=>
  cases y with
  | val u=>exact⟨u,key _ (fun u' hu=>by rw[hx]at hu;cases hu;rfl) (fun b o hu=>by rw[hx]at hu;cases hu)⟩
  | box cs=>exact absurd hx (hn cs)
  | ref b o=>exact⟨_,key (.pointer (some ⟨G b,o,none⟩)) (fun u hu=>by rw[hx]at hu;cases hu) (fun b' o' hu=>by rw[hx]at hu;cases hu;rfl)⟩
end Go.aw
namespace Go.aw
section
variable (P:Program) (n:Nat)
def Fz(all:Array Oper)(s:St)(o:Oper):Prop:=
 o.guard=none∨∃j want d,o.guard=some (j,want)∧(all[j]?).bind (·.dst)=some d∧s d=some (.val (.bool want))
def UU(all:Array Oper)(s:St)(o:Oper):Prop:=
 ∃j want d v,o.guard=some (j,want)∧(all[j]?).bind (·.dst)=some d∧s d=some (.val v)∧((∃b,v = .bool b∧b≠want)∨∃ts,v = .tuple ts)
def J6(all:Array Oper)(o:Oper)(s:St)(H:Heap)(v:Value):Prop:=∀a w,gG n s a→Den H w→
 (Region.wanted o (yielded all a.tmps)=true∧(execOp a.eval o).run P w = .ok (.value v) w)∨(Region.wanted o (yielded all a.tmps)=false∧v=undef)
def C6(all:Array Oper)(o:Oper)(s:St)(H:Heap)(x:Slot):Prop:=∀G a w,Rl n s H G a w→
 ∃v,Oj G x v∧Region.wanted o (yielded all a.tmps)=true∧(execOp a.eval o).run P w = .ok (.value v) w
def wc(all:Array Oper)(o:Oper)(s:St)(cs:List Value):Prop:=∀a w,gG n s a→
 Region.wanted o (yielded all a.tmps)=true∧∃e,(execOp a.eval o).run P w = .ok (.value (.pointer (some ⟨w.heap.size,0,none⟩))) (w.alloc (.cells cs.toArray e (0,0)))
structure UW(w w':World)(g:Nat)(cs:List Value):Prop where
 os:w'.os=w.os
 tape:w'.tape=w.tape
 output:w'.output=w.output
 size:w'.heap.size=w.heap.size
 other:∀k,k≠g→w'.heap[k]? = w.heap[k]?
 new:∃e,w'.heap[g]? = some (.cells cs.toArray e (0,0))
def J7(all:Array Oper)(o:Oper)(s:St)(b:Nat)(cG:List Value):Prop:=∀H G a w,Rl n s H G a w→
 Region.wanted o (yielded all a.tmps)=true∧∃w',(execOp a.eval o).run P w = .ok .skip w'∧UW w w' (G b) cG
def uL(all:Array Oper)(o:Oper)(s:St)(mk:Nat→Value)(xs:List Value)(e:TypeId):Prop:=∀a w,gG n s a→
 Region.wanted o (yielded all a.tmps)=true∧(execOp a.eval o).run P w = .ok (.value (mk w.heap.size)) (w.alloc (.cells xs.toArray e (0,0)))
def whole(xs:List Value)(e:TypeId):Ent:=⟨xs,xs.length,e,true⟩
def lX(o:Oper)(ρ:Operand→Value)(w:World)(R:Value→World→Prop):Prop:=
 match (execOp ρ o).run P w with
 | .ok (.value v) w'=>R v w'
 | .ok .skip w'=>R undef w'
 | .ok (.enter f args) w'=>Calls P f args w' fun e Fy=>∃v,e = .returned v∧R v Fy
 | _=>False
def EV(all:Array Oper)(o:Oper)(s:St)(H:Heap)(bG:Value→Heap→Prop):Prop:=∀a w,gG n s a→Den H w→
 Region.wanted o (yielded all a.tmps)=true∧lX P o a.eval w (fun v w'=>∃H',bG v H'∧Den H' w'∧Fx H w H' w')
inductive Mode where
 | plain | bJ | gH | uM
 | cO (kc:Addr→Option Value)
 | pT (st:List Nat)
def Mode.UX:Mode→Bool
 | .plain=>true
 | _=>false
def Mode.Ol:Mode→Bool
 | .bJ=>true
 | .pT _=>true
 | _=>false
def Mode.Om:Mode→Bool
 | .pT _=>true
 | _=>false
def Mode.wr:Mode→Nat→Bool
 | .pT st,b=>st.contains b
 | _,_=>false
def Mode.UY:Mode→Nat→Bool
 | .pT st,b=>st.contains b
 | _,_=>true
def jM(md:Mode)(s s':St):Prop:=∀t,s' t=s t∨(md.wr t=true∧∃c c',s t=some (.box c)∧s' t=some (.box c'))
theorem jM.refl(md:Mode)(s:St):jM md s s:=fun _=> .inl rfl
theorem jM.val{md:Mode}{s s':St}(h:jM md s s'){t:Nat}{x:Slot}(hx:∀c,x≠.box c)(e:s t=some x):s' t=some x:=by
 rcases h t with h1 | ⟨_,c,c',h1,_⟩
 ·rw[h1,e]
 ·rw[e]at h1;exact absurd (Option.some.inj h1) (hx c)
theorem jM.box{md:Mode}{s s':St}(h:jM md s s'){t:Nat}{c:List Value}(e:s t=some (.box c)):∃c',s' t=some (.box c'):=by
 rcases h t with h1 | ⟨_,_,c',_,h1⟩
 ·exact⟨c,by rw[h1,e]⟩
 ·exact⟨c',h1⟩
theorem jM.keep{md:Mode}{s s':St}(h:jM md s s'){t:Nat}(e:md.wr t=false):s' t=s t:=by
 rcases h t with h1 | ⟨h1,_⟩
 ·exact h1
 ·rw[e]at h1;cases h1
def Mode.UZ:Mode→Bool
 | .uM=>true
 | _=>false
def Mode.oK:Mode→Bool
 | .cO _=>true
 | _=>false
def Mode.kc:Mode→Addr→Option Value
 | .cO k=>k
 | _=>fun _=>none
def Mode.fN(md:Mode)(H:Heap):Prop:=∀ad v,md.kc ad=some v→cell H ad=some v
def jy(s:St)(d:Option Nat):Bool:=
 match d with
 | some d=>(match s d with | some (.box _)=>false | _=>true)
 | none=>true
def Aq:Op→Bool
 | .store .. =>true
 | _=>false
def FA:Op→Bool
 | .load .. | .fieldAddr .. =>true
 | _=>false
def Aw:Op→Bool
 | .alloc _ | .box .. =>true
 | _=>false
def Ay:Op→Bool
 | .buildSlice .. =>true
 | _=>false
def rI(o:Op):Bool:=Aw o||Ay o
def Real(H:Heap):Prop:=∃w,Den H w
def s7:Op→Bool
 | .select .. =>false
 | _=>true
def J8(c:Call):Bool:=
 match c.callee with
 | .builtin .len | .builtin .cap | .builtin .min | .builtin .max=>true
 | _=>false
def kd:Op→Nat
 | .store .. =>2
 | .alloc _ | .box .. | .buildSlice .. =>3
 | .call c=>if J8 c then 0 else 1
 | .makeSlice .. | .go _ | .defer _ | .panic _ | .send .. | .recv .. | .select .. | .mapUpdate .. | .mapEntry .. | .entryStore .. | .insert .. | .makeMap .. | .makeChan .. | .ready _ | .next .. | .range .. =>1
 | _=>0
def Mode.ok(md:Mode)(o:Oper)(H:Heap)(bG:Value→Heap→Prop):Prop:=
 match md with
 | .plain=>True
 | .bJ=>Aq o.op=false∧∀v H',bG v H'→Heap.le H H'
 | .gH=>Aq o.op=true∨∀v H',bG v H'→Heap.le H H'
 | .uM=>True
 | .cO _=>True
 | .pT _=>Aq o.op=false∧∀v H',bG v H'→Heap.le H H'
def Mode.nb(md:Mode)(s:St)(d:Option Nat):Bool:=
 match md with
 | .plain=>true
 | .cO _=>false
 | _=>match d with
  | some d=>(match s d with | some (.box _)=>false | _=>true)
  | none=>true
def Slot.s8(s:St):Slot→Bool
 | .val _=>true
 | .box _=>false
 | .ref b _=>match s b with | some (.box _)=>true | _=>false
def J9(md:Mode)(all:Array Oper)(o:Oper)(s:St)(v:Value):Prop:=∀a w,gG n s a→(∀ad u,md.kc ad=some u→w.cell? ad=some u)→
 (Region.wanted o (yielded all a.tmps)=true∧(execOp a.eval o).run P w = .ok (.value v) w)∨(Region.wanted o (yielded all a.tmps)=false∧v=undef)
inductive ie(all:Array Oper)(md:Mode)(o:Oper)(s:St)(H:Heap)(K:St→Heap→Prop):Prop
 | jW (v:Value) (hm:rI o.op=false∨o.guard≠none) (nb:md.nb s o.dst=true) (h:J6 P n all o s H v) (k:K (bA s o.dst (.val v)) H)
 | jN (x:Slot) (hm:FA o.op=true) (nb:md.nb s o.dst=true) (hx:x.s8 s=true) (h:∀s',jM md s s'→C6 P n all o s' H x) (k:K (bA s o.dst x) H)
 | jX (d:Nat) (hd:o.dst=some d) (hm:Aw o.op=true) (nb:md.nb s o.dst=true) (cs:List Value) (h:wc P n all o s cs) (k:K (ic s d cs) H)
 | mC (b:Nat) (cs cG:List Value) (hd:o.dst=none) (hm:Aq o.op=true) (hb:s b=some (.box cs)) (hw:md.UY b=true) (h:J7 P n all o s b cG) (k:K (put s b (.box cG)) H)
 | fresh (mk:Nat→Value) (xs:List Value) (e:TypeId) (hm:Ay o.op=true∨(md = .plain∧Aw o.op=true)) (nb:md.nb s o.dst=true) (h:uL P n all o s mk xs e) (k:∀g,H g=none→Real (ins H g (whole xs e))→K (bA s o.dst (.val (mk g))) (ins H g (whole xs e)))
 | jf (bG:Value→Heap→Prop) (ha:kd o.op=1∨kd o.op=2∨md = .plain) (nb:md.nb s o.dst=true) (h:EV P n all o s H bG) (hm:md.ok o H bG) (k:∀v H',bG v H'→Real H'→K (bA s o.dst (.val v)) H')
 | mD (v:Value) (hk:md.oK=true) (hm:rI o.op=false) (nb:jy s o.dst=true) (hc:md.fN H) (h:J9 P n md all o s v) (k:K (bA s o.dst (.val v)) H)
 | oL (mk:Nat→Value) (xs:List Value) (e:TypeId) (hk:md.oK=true) (hm:Ay o.op=true) (nb:jy s o.dst=true) (h:uL P n all o s mk xs e) (k:∀g,H g=none→Real (ins H g (whole xs e))→K (bA s o.dst (.val (mk g))) (ins H g (whole xs e)))
 | m9 (bG:Value→Heap→Prop) (hk:md.oK=true) (ha:kd o.op=1∨kd o.op=2) (nb:jy s o.dst=true) (h:EV P n all o s H bG) (hm:Aq o.op=true∨∀v H',bG v H'→md.fN H') (k:∀v H',bG v H'→Real H'→K (bA s o.dst (.val v)) H')
end
theorem lX.mono{P:Program}{o:Oper}{ρ:Operand→Value}{w:World}{R R':Value→World→Prop}(h:lX P o ρ w R)(hr:∀v w',R v w'→R' v w'):lX P o ρ w R':=by
 unfold lX at h⊢
 split at h
 ·exact hr _ _ h
 ·exact hr _ _ h
 ·exact h.mono fun e w' ⟨v,he,h⟩=>⟨v,he,hr _ _ h⟩
 ·exact h
theorem lX.wp{P:Program}{o:Oper}{a:Act}{w:World}{R:Value→World→Prop}{K:Act→World→Prop}{Q:Exit→Act→World→Prop}(h:lX P o a.eval w R)(hk:∀v w',R v w'→K (a.put o.dst v) w'):o.wp P a w K Q:=by
 unfold lX at h
 unfold Oper.wp
 split at h
 ·rename_i v w' e;rw[e];exact hk _ _ h
 ·rename_i w' e;rw[e];exact hk _ _ h
 ·rename_i f args w' e;rw[e]
  exact h.mono fun e w' ⟨v,he,h⟩=>by subst he;exact hk _ _ h
 ·exact h.elim
section sound
variable {P:Program} {all:Array Oper} {md:Mode} {o:Oper} {s:St} {H:Heap} {K:St→Heap→Prop} {w0:World} {H0:Heap} {n:Nat} {a:Act} {w:World}
theorem jY(h:gG n s a)(hr:Fz all s o):Region.wanted o (yielded all a.tmps)=true:=by
 rcases hr with hg | ⟨j,want,d,hg,hd,hs⟩
 ·simp[Region.wanted,hg]
 ·have:=h.at_ d _ hs
  simp[Region.wanted,hg,yielded,hd,this]
theorem ab4(h:gG n s a)(hr:UU all s o):Region.wanted o (yielded all a.tmps)=false:=by
 obtain⟨j,want,d,v,hg,hd,hs,a7⟩:=hr
 have:=h.at_ d _ hs
 rcases a7 with ⟨b,rfl,a7⟩ | ⟨ts,rfl⟩
 ·simp[Region.wanted,hg,yielded,hd,this,a7]
 ·simp[Region.wanted,hg,yielded,hd,this]
theorem Rel.put(h:Rel w0 H0 n s H a w){d:Option Nat}(hd:∀k,d=some k→k<n){x:Slot}{v:Value}{G:Nat→Nat}(hl:Rl n s H G a w)(hb:∀t cs,s t=some (.box cs)→w0.heap.size≤G t)(hx:Oj G x v):
  Rel w0 H0 n (bA s d x) H (a.put d v) w:=by
 cases d with
 | none=>exact⟨h.defers,⟨G,hl,hb⟩,h.fx⟩
 | some d=>
  refine⟨by rw[Act.UT];exact h.defers,⟨G,hl.put (hd d rfl) hx,fun t cs ht=> ?_⟩,h.fx⟩
  by_cases e:t=d
  ·subst e
   rw[show bA s (some t) x=aw.put s t x from rfl,iy]at ht
   simp only[Option.some.injEq]at ht
   subst ht
   exact hx.elim
  ·rw[show bA s (some d) x=aw.put s d x from rfl,fF _ _ e]at ht
   exact hb t cs ht
theorem s9(s:St)(d:Nat)(cs:List Value):ic s d cs d=some (.box cs):=by simp[ic]
def uN(d:Nat):Option Slot→Option Slot
 | some (.ref b o)=>cond (Nat.beq b d) none (some (.ref b o))
 | x=>x
theorem pU(s:St){d t:Nat}(cs:List Value)(h:t≠d):ic s d cs t=uN d (s t):=by
 have:Nat.beq t d=false:=by
  cases hb:Nat.beq t d with
  | false=>rfl
  | true=>exact absurd (Nat.eq_of_beq_eq_true hb) h
 unfold ic
 rw[this]
 cases hs:s t with
 | none=>rfl
 | some x=>cases x <;> rfl
theorem On{s:St}{d t:Nat}{cs:List Value}{v:Value}(h:ic s d cs t=some (.val v)):t≠d∧s t=some (.val v):=by
 have e:t≠d:=fun e=>by subst e;rw[s9]at h;cases h
 refine⟨e,?_⟩
 rw[pU _ _ e]at h
 unfold uN at h
 split at h
 ·rename_i b o' _
  cases hb:Nat.beq b d <;> rw[hb]at h <;> cases h
 ·exact h
theorem ab5{s:St}{d t b off:Nat}{cs:List Value}(h:ic s d cs t=some (.ref b off)):t≠d∧b≠d∧s t=some (.ref b off):=by
 have e:t≠d:=fun e=>by subst e;rw[s9]at h;cases h
 rw[pU _ _ e]at h
 unfold uN at h
 split at h
 ·rename_i b' o' hs
  cases hb:Nat.beq b' d with
  | true=>rw[hb]at h;cases h
  | false=>
   rw[hb]at h
   simp only[cond_false,Option.some.injEq,Slot.ref.injEq]at h
   obtain⟨rfl,rfl⟩:=h
   exact⟨e,(fun e=>by subst e;rw[Nat.beq_refl]at hb;cases hb),hs⟩
 ·rename_i hn
  exact absurd h (hn b off)
theorem rJ{s:St}{d t:Nat}{cs cG:List Value}(h:ic s d cs t=some (.box cG)):(t=d∧cG=cs)∨(t≠d∧s t=some (.box cG)):=by
 by_cases e:t=d
 ·subst e
  rw[s9]at h
  simp only[Option.some.injEq,Slot.box.injEq]at h
  exact .inl ⟨rfl,h.symm⟩
 ·refine .inr ⟨e,?_⟩
  rw[pU _ _ e]at h
  unfold uN at h
  split at h
  ·rename_i b o' _
   cases hb:Nat.beq b d <;> rw[hb]at h <;> cases h
  ·exact h
theorem Den.alloc{H:Heap}{w:World}(h:Den H w)(o:Obj):Den H (w.alloc o):=fun g e hg=>by
 obtain⟨o',h1,h2⟩:=h g e hg
 exact⟨o',by rw[RowKit.Below.heap_alloc _ _ _ (h.lt hg)];exact h1,h2⟩
theorem Rl.jX{G:Nat→Nat}(h:Rl n s H G a w){d:Nat}(hn:d<n)(cs:List Value)(e:TypeId):
  Rl n (ic s d cs) H (fun t=>if t=d then w.heap.size else G t) (a.put (some d) (.pointer (some ⟨w.heap.size,0,none⟩))) (w.alloc (.cells cs.toArray e (0,0))):=by
 have hd:d<a.tmps.size:=by rw[h.aL.size];exact hn
 have bL:∀t cs,s t=some (.box cs)→G t<w.heap.size:=fun t cs ht=>by
  obtain⟨_,_,e,h3⟩:=h.boxes t cs ht
  exact(Array.getElem?_eq_some_iff.1 h3).1
 refine⟨⟨by rw[Act.C5];exact h.aL.size,fun t v ht=> ?_⟩,fun t cG ht=> ?_,fun t t' U0 U3 ht pS hG=> ?_,fun t b off cG ht hb=> ?_,h.den.alloc _⟩
 ·obtain⟨e1,ht⟩:=On ht
  rw[Act.rH _ _ e1];exact h.aL.at_ t v ht
 ·rcases rJ ht with ⟨rfl,rfl⟩ | ⟨e1,ht⟩
  ·simp only[if_true]
   exact⟨Act.yu _ _ _ hd,h.den.fresh,e,heap_alloc_new w _⟩
  ·rw[if_neg e1,Act.rH _ _ e1]
   obtain⟨h1,h2,e2,h3⟩:=h.boxes t cG ht
   exact⟨h1,h2,e2,by rw[RowKit.Below.heap_alloc _ _ _ (bL t cG ht)];exact h3⟩
 ·rcases rJ ht with ⟨h1,_⟩ | ⟨e1,h1⟩
  ·rcases rJ pS with ⟨h2,_⟩ | ⟨e2,h2⟩
   ·rw[h1,h2]
   ·rw[if_pos h1,if_neg e2]at hG
    have:=bL t' U3 h2;omega
  ·rcases rJ pS with ⟨h2,_⟩ | ⟨e2,h2⟩
   ·rw[if_pos h2,if_neg e1]at hG
    have:=bL t U0 h1;omega
   ·rw[if_neg e1,if_neg e2]at hG
    exact h.inj t t' U0 U3 h1 h2 hG
 ·obtain⟨e1,e2,ht⟩:=ab5 ht
  rcases rJ hb with ⟨rfl,rfl⟩ | ⟨_,hb⟩
  ·exact absurd rfl e2
  ·rw[if_neg e2,Act.rH _ _ e1]
   exact h.refs t b off cG ht hb
theorem Rl.mC{G:Nat→Nat}(h:Rl n s H G a w){b:Nat}{cs cG:List Value}(hb:s b=some (.box cs)){w':World}(hw:UW w w' (G b) cG):
  Rl n (aw.put s b (.box cG)) H G a w':=by
 have kT:∀t c,aw.put s b (.box cG) t=some (.box c)→∃c',s t=some (.box c')∧((t=b∧c=cG)∨(t≠b∧c=c')):=by
  intro t c ht
  by_cases e:t=b
  ·subst e
   rw[iy]at ht
   simp only[Option.some.injEq,Slot.box.injEq]at ht
   exact⟨cs,hb,.inl ⟨rfl,ht.symm⟩⟩
  ·rw[fF _ _ e]at ht
   exact⟨c,ht,.inr ⟨e,rfl⟩⟩
 refine⟨⟨h.aL.size,fun t v ht=> ?_⟩,fun t c ht=> ?_,fun t t' c1 c2 ht pS hG=> ?_,fun t b' off c ht s6=> ?_,fun g e hg=> ?_⟩
 ·by_cases e:t=b
  ·subst e;rw[iy]at ht;cases ht
  ·rw[fF _ _ e]at ht;exact h.aL.at_ t v ht
 ·obtain⟨c',hs,hc⟩:=kT t c ht
  obtain⟨h1,h2,e,h3⟩:=h.boxes t c' hs
  rcases hc with ⟨rfl,rfl⟩ | ⟨a7,rfl⟩
  ·exact⟨h1,h2,hw.new⟩
  ·exact⟨h1,h2,e,by rw[hw.other _ (fun hG=>a7 (h.inj t b _ _ hs hb hG))];exact h3⟩
 ·obtain⟨c1',hs,_⟩:=kT t c1 ht
  obtain⟨c2',ng,_⟩:=kT t' c2 pS
  exact h.inj t t' c1' c2' hs ng hG
 ·obtain⟨c',hs,_⟩:=kT b' c s6
  by_cases e:t=b
  ·subst e;rw[iy]at ht;cases ht
  ·rw[fF _ _ e]at ht;exact h.refs t b' off c' ht hs
 ·obtain⟨o',h1,h2⟩:=h.den g e hg
  refine⟨o',?_,h2⟩
  rw[hw.other _ (fun hG=> ?_)]
  ·exact h1
  ·obtain⟨_,h3,_⟩:=h.boxes b cs hb
   rw[←hG,hg]at h3;cases h3
theorem ie.sound(hR:Rel w0 H0 n s H a w)(rK:∀d,o.dst=some d→d<n)(h:ie P n all md o s H K):
  (Region.wanted o (yielded all a.tmps)=true∧o.wp P a w (fun a' w'=>∃s' H',Rel w0 H0 n s' H' a' w'∧K s' H') (fun _ _ _=>False))∨
  (Region.wanted o (yielded all a.tmps)=false∧∃s' H',Rel w0 H0 n s' H' (a.put o.dst undef) w∧K s' H'):=by
 obtain⟨G,hl,hb⟩:=hR.fits
 cases h with
 | jW v hm nb h k=>
  rcases h a w hl.aL hl.den with ⟨h1,h2⟩ | ⟨h1,h2⟩
  ·refine .inl ⟨h1,?_⟩
   unfold Oper.wp
   rw[h2]
   exact⟨_,_,hR.put (x:= .val v) rK hl hb rfl,k⟩
  ·subst h2
   exact .inr ⟨h1,_,_,hR.put (x:= .val undef) rK hl hb rfl,k⟩
 | jN x hm nb hx h k=>
  obtain⟨v,uO,h1,h2⟩:=h s (.refl _ _) G a w hl
  refine .inl ⟨h1,?_⟩
  unfold Oper.wp
  rw[h2]
  exact⟨_,_,hR.put rK hl hb uO,k⟩
 | jX d hd hm nb cs h k=>
  obtain⟨h1,e,h2⟩:=h a w hl.aL
  refine .inl ⟨h1,?_⟩
  unfold Oper.wp
  rw[h2]
  show ∃s' H',Rel w0 H0 n s' H' (a.put o.dst _) _∧K s' H'
  rw[hd]
  refine⟨_,_,⟨by rw[Act.UT];exact hR.defers,⟨_,hl.jX (rK d hd) cs e,fun t cG ht=> ?_⟩,?_⟩,k⟩
  ·rcases rJ ht with ⟨rfl,rfl⟩ | ⟨e1,ht⟩
   ·simp only[if_true];exact hR.fx.size
   ·rw[if_neg e1];exact hb t cG ht
  ·exact hR.fx.trans ⟨rfl,rfl,rfl,by simp,fun g hg h0=>⟨RowKit.Below.heap_alloc _ _ _ hg,h0⟩,Fx.Oi fun g hg=>RowKit.Below.heap_alloc _ _ _ hg⟩
 | mC b cs cG hd hm Az kH h k=>
  obtain⟨h1,w',h2,hw⟩:=h H G a w hl
  refine .inl ⟨h1,?_⟩
  unfold Oper.wp
  rw[h2]
  show ∃s' H',Rel w0 H0 n s' H' (a.put o.dst undef) w'∧K s' H'
  rw[hd]
  refine⟨_,_,⟨hR.defers,⟨G,hl.mC Az hw,fun t c ht=> ?_⟩,?_⟩,k⟩
  ·by_cases e:t=b
   ·subst e;exact hb t cs Az
   ·rw[fF _ _ e]at ht;exact hb t c ht
  ·refine⟨hw.os.trans hR.fx.os,hw.tape.trans hR.fx.tape,hw.output.trans hR.fx.output,by rw[hw.size];exact hR.fx.size,fun g hg h0=> ?_,fun g c t fz hc=> ?_⟩
   ·have h3:=hR.fx.keep g hg h0
    refine⟨?_,h3.2⟩
    rw[hw.other _ (fun e=> ?_)]
    ·exact h3.1
    ·have:=hb b cs Az;omega
   ·obtain⟨c',h3,h4⟩:=hR.fx.form g c t fz hc
    have bL:=(Array.getElem?_eq_some_iff.1 hc).1
    have:=hb b cs Az
    exact⟨c',by rw[hw.other _ (by omega)];exact h3,h4⟩
 | fresh mk xs e hm nb h k=>
  obtain⟨h1,h2⟩:=h a w hl.aL
  refine .inl ⟨h1,?_⟩
  unfold Oper.wp
  rw[h2]
  have oM:=hl.den.fresh
  have hd:Den (ins H w.heap.size (whole xs e)) (w.alloc (.cells xs.toArray e (0,0))):=by
   intro g e' hg
   by_cases eg:g=w.heap.size
   ·subst eg
    rw[bF]at hg
    simp only[Option.some.injEq]at hg
    subst hg
    exact⟨_,heap_alloc_new w _,xs.toArray,(0,0),rfl,by simp[whole],fun i v hv=>by simpa [whole]using hv,fun _=>rfl⟩
   ·rw[bg _ _ eg]at hg
    exact hl.den.alloc _ g e' hg
  have hf:Fx H w (ins H w.heap.size (whole xs e)) (w.alloc (.cells xs.toArray e (0,0))):=
   ⟨rfl,rfl,rfl,by simp,fun g hg h0=>⟨RowKit.Below.heap_alloc _ _ _ hg,by rw[bg _ _ (by omega)];exact h0⟩,Fx.Oi fun g hg=>RowKit.Below.heap_alloc _ _ _ hg⟩
  have kU:=hl.uK hd hf
  have dQ:Rel w0 H0 n s (ins H w.heap.size (whole xs e)) a (w.alloc (.cells xs.toArray e (0,0))):=⟨hR.defers,⟨G,kU,hb⟩,hR.fx.trans hf⟩
  exact⟨_,_,dQ.put (x:= .val _) rK kU hb rfl,k _ oM ⟨_,hd⟩⟩
 | jf bG ha nb h hm k=>
  obtain⟨h1,h2⟩:=h a w hl.aL hl.den
  refine .inl ⟨h1,h2.wp fun v w' hh=> ?_⟩
  obtain⟨H',hp,hd,hf⟩:=hh
  have kU:=hl.uK hd hf
  have dQ:Rel w0 H0 n s H' a w':=⟨hR.defers,⟨G,kU,hb⟩,hR.fx.trans hf⟩
  exact⟨_,_,dQ.put (x:= .val v) rK kU hb rfl,k v H' hp ⟨w',hd⟩⟩
 | mD v bV hm nb hc h k=>
  rcases h a w hl.aL (fun ad u hu=>hl.den.cell (hc ad u hu))with ⟨h1,h2⟩ | ⟨h1,h2⟩
  ·refine .inl ⟨h1,?_⟩
   unfold Oper.wp
   rw[h2]
   exact⟨_,_,hR.put (x:= .val v) rK hl hb rfl,k⟩
  ·subst h2
   exact .inr ⟨h1,_,_,hR.put (x:= .val undef) rK hl hb rfl,k⟩
 | oL mk xs e bV hm nb h k=>
  obtain⟨h1,h2⟩:=h a w hl.aL
  refine .inl ⟨h1,?_⟩
  unfold Oper.wp
  rw[h2]
  have oM:=hl.den.fresh
  have hd:Den (ins H w.heap.size (whole xs e)) (w.alloc (.cells xs.toArray e (0,0))):=by
   intro g e' hg
   by_cases eg:g=w.heap.size
   ·subst eg
    rw[bF]at hg
    simp only[Option.some.injEq]at hg
    subst hg
    exact⟨_,heap_alloc_new w _,xs.toArray,(0,0),rfl,by simp[whole],fun i v hv=>by simpa [whole]using hv,fun _=>rfl⟩
   ·rw[bg _ _ eg]at hg
    exact hl.den.alloc _ g e' hg
  have hf:Fx H w (ins H w.heap.size (whole xs e)) (w.alloc (.cells xs.toArray e (0,0))):=
   ⟨rfl,rfl,rfl,by simp,fun g hg h0=>⟨RowKit.Below.heap_alloc _ _ _ hg,by rw[bg _ _ (by omega)];exact h0⟩,Fx.Oi fun g hg=>RowKit.Below.heap_alloc _ _ _ hg⟩
  have kU:=hl.uK hd hf
  have dQ:Rel w0 H0 n s (ins H w.heap.size (whole xs e)) a (w.alloc (.cells xs.toArray e (0,0))):=⟨hR.defers,⟨G,kU,hb⟩,hR.fx.trans hf⟩
  exact⟨_,_,dQ.put (x:= .val _) rK kU hb rfl,k _ oM ⟨_,hd⟩⟩
 | m9 bG bV ha nb h hm k=>
  obtain⟨h1,h2⟩:=h a w hl.aL hl.den
  refine .inl ⟨h1,h2.wp fun v w' hh=> ?_⟩
  obtain⟨H',hp,hd,hf⟩:=hh
  have kU:=hl.uK hd hf
  have dQ:Rel w0 H0 n s H' a w':=⟨hR.defers,⟨G,kU,hb⟩,hR.fx.trans hf⟩
  exact⟨_,_,dQ.put (x:= .val v) rK kU hb rfl,k v H' hp ⟨w',hd⟩⟩
end sound
end Go.aw
namespace Go.aw
theorem yv{o:Op}:rI o=true↔kd o=3:=by
 cases o <;> simp[rI,Aw,Ay,kd]
 split <;> simp
theorem U4{o:Op}(h:kd o=3):(Aw o=true∧Ay o=false)∨(Aw o=false∧Ay o=true):=by
 cases o <;> simp[Aw,Ay,kd]at h⊢
 split at h <;> simp at h
theorem rL{o:Op}:Aq o=true↔kd o=2:=by
 cases o <;> simp[Aq,kd]
 split <;> simp
theorem C7{o:Op}(h:FA o=true):kd o=0:=by
 cases o <;> simp[FA]at h <;> rfl
def Sw(md:Mode)(all:Array Oper)(x y:Oper):Bool:=
 x.apart all y&&s7 x.op&&s7 y.op &&
 ((kd x.op == 0&&(kd y.op == 0||(kd y.op == 1 && !md.UZ)||(kd y.op == 3&&(y.guard.isNone || !md.oK))||(kd y.op == 2&&md.Ol&&(md.Om || !FA x.op)))) ||
  ((kd x.op == 1||kd x.op == 3)&&kd y.op == 3&&y.guard.isNone && !md.oK))
section
variable {P:Program} {n:Nat} {all:Array Oper} {o:Oper}
structure AA(all:Array Oper)(o:Oper)(a b:Act):Prop where
 want:Region.wanted o (yielded all a.tmps)=Region.wanted o (yielded all b.tmps)
 exec:execOp a.eval o=execOp b.eval o
theorem AA.put{a:Act}{d:Nat}(v:Value)(hs:s7 o.op=true)(h:d∉o.looksAt all):AA all o (a.put (some d) v) a:=by
 refine⟨wanted_put o a (some d) v (fun e he=>by cases he;exact h),execOp_congr o (fun cs b e=>by rw[e]at hs;cases hs) (fun x hx=> ?_)⟩
 refine Act.eval_put fun e he Oo=> ?_
 cases he
 subst Oo
 exact h (by
  unfold Oper.looksAt
  refine List.mem_append_left _ ?_
  rw[List.mem_filterMap]
  exact⟨_,by simpa using hx,rfl⟩)
theorem AA.refl(a:Act):AA all o a a:=⟨rfl,rfl⟩
def Mv(n:Nat)(all:Array Oper)(o:Oper)(s1 s2:St):Prop:=∀a,gG n s2 a→∃a1,gG n s1 a1∧AA all o a1 a
def FB(n:Nat)(all:Array Oper)(o:Oper)(s1 s2:St):Prop:=∀H G a w,Rl n s2 H G a w→∃a1,Rl n s1 H G a1 w∧AA all o a1 a
variable {s1 s2 s:St} {H H1 H2:Heap}
theorem J6.move{v:Value}(hm:Mv n all o s1 s2)(hl:Heap.le H1 H2)(h:J6 P n all o s1 H1 v):J6 P n all o s2 H2 v:=fun a w ha hd=>by
 obtain⟨a1,h1,h2⟩:=hm a ha
 rw[←h2.want,←h2.exec]
 exact h a1 w h1 (hd.le hl)
theorem C6.move{x:Slot}(hm:FB n all o s1 s2)(hl:Heap.le H1 H2)(h:C6 P n all o s1 H1 x):C6 P n all o s2 H2 x:=fun G a w ha=>by
 obtain⟨a1,h1,h2⟩:=hm H2 G a w ha
 obtain⟨v,h3,h4,h5⟩:=h G a1 w (h1.le hl)
 exact⟨v,h3,by rw[←h2.want];exact h4,by rw[←h2.exec];exact h5⟩
theorem J9.move{md:Mode}{v:Value}(hm:Mv n all o s1 s2)(h:J9 P n md all o s1 v):J9 P n md all o s2 v:=fun a w ha hd=>by
 obtain⟨a1,h1,h2⟩:=hm a ha
 have:=h a1 w h1 hd
 rw[h2.want,h2.exec]at this
 exact this
theorem wc.move{cs:List Value}(hm:Mv n all o s1 s2)(h:wc P n all o s1 cs):wc P n all o s2 cs:=fun a w ha=>by
 obtain⟨a1,h1,h2⟩:=hm a ha
 rw[←h2.want,←h2.exec]
 exact h a1 w h1
theorem J7.move{b:Nat}{cs:List Value}(hm:FB n all o s1 s2)(h:J7 P n all o s1 b cs):J7 P n all o s2 b cs:=fun H G a w ha=>by
 obtain⟨a1,h1,h2⟩:=hm H G a w ha
 rw[←h2.want,←h2.exec]
 exact h H G a1 w h1
theorem uL.move{mk:Nat→Value}{xs:List Value}{e:TypeId}(hm:Mv n all o s1 s2)(h:uL P n all o s1 mk xs e):uL P n all o s2 mk xs e:=fun a w ha=>by
 obtain⟨a1,h1,h2⟩:=hm a ha
 rw[←h2.want,←h2.exec]
 exact h a1 w h1
theorem EV.move{bG:Value→Heap→Prop}(hm:Mv n all o s1 s2)(h:EV P n all o s1 H bG):EV P n all o s2 H bG:=fun a w ha hd=>by
 obtain⟨a1,h1,h2⟩:=hm a ha
 have:=h a1 w h1 hd
 unfold lX at this⊢
 rw[←h2.want,←h2.exec]
 exact this
theorem wc.uniq{cs cG:List Value}(ha:∃a,gG n s a)(h:wc P n all o s cs)(h':wc P n all o s cG):cG=cs:=by
 obtain⟨a,ha⟩:=ha
 obtain⟨_,e,h1⟩:=h a default ha
 obtain⟨_,e',h2⟩:=h' a default ha
 rw[h1]at h2
 simp only[Result.ok.injEq,true_and]at h2
 have:=congrArg (fun w:World=>w.heap[(default:World).heap.size]?) h2
 simp only[heap_alloc_new,Option.some.injEq,Obj.cells.injEq]at this
 exact(List.toArray_inj this.1).symm
theorem uL.uniq{mk mk':Nat→Value}{xs qz:List Value}{e e':TypeId}(ha:∃a,gG n s a)(h:uL P n all o s mk xs e)(h':uL P n all o s mk' qz e'):mk'=mk∧qz=xs∧e'=e:=by
 obtain⟨a,ha⟩:=ha
 have key:∀w:World,mk' w.heap.size=mk w.heap.size∧qz=xs∧e'=e:=fun w=>by
  obtain⟨_,h1⟩:=h a w ha
  obtain⟨_,h2⟩:=h' a w ha
  rw[h1]at h2
  simp only[Result.ok.injEq,Next.value.injEq]at h2
  have:=congrArg (fun w':World=>w'.heap[w.heap.size]?) h2.2
  simp only[heap_alloc_new,Option.some.injEq,Obj.cells.injEq]at this
  exact⟨h2.1.symm,(List.toArray_inj this.1).symm,this.2.1.symm⟩
 refine⟨funext fun g=> ?_,(key default).2⟩
 have:=(key {(default:World)with heap:=Array.replicate g default}).1
 simpa using this
theorem EV.some{bG:Value→Heap→Prop}(h:EV P n all o s H bG)(ha:∃a,gG n s a)(hw:Real H):∃v H',bG v H'∧Real H':=by
 obtain⟨a,ha⟩:=ha
 obtain⟨w,hw⟩:=hw
 obtain⟨_,h2⟩:=h a w ha hw
 unfold lX at h2
 split at h2
 ·obtain⟨H',hp,hd,_⟩:=h2;exact⟨_,H',hp,_,hd⟩
 ·obtain⟨H',hp,hd,_⟩:=h2;exact⟨_,H',hp,_,hd⟩
 ·obtain⟨e,w',fr,⟨v,_,H',hp,hd,_⟩,_⟩:=h2 []
  exact⟨v,H',hp,w',hd⟩
 ·exact h2.elim
theorem EV.frame{bG:Value→Heap→Prop}{g:Nat}{ent:Ent}(hg:H g=none)(h:EV P n all o s H bG):
  EV P n all o s (ins H g ent) (fun v s5=>∃H',bG v H'∧H' g=none∧s5=ins H' g ent):=fun a w ha hd=>by
 obtain⟨h1,h2⟩:=h a w ha (hd.le (Heap.bC ent hg))
 refine⟨h1,h2.mono fun v w' hh=> ?_⟩
 obtain⟨H',hp,m8,hf⟩:=hh
 obtain⟨ob,ho,hoe⟩:=hd g ent (bF _ _ _)
 have bL:=hd.lt (bF H g ent)
 obtain⟨gI,fO⟩:=hf.keep g bL hg
 refine⟨ins H' g ent,⟨H',hp,fO,rfl⟩,fun k e hk=> ?_,⟨hf.os,hf.tape,hf.output,hf.size,fun k hk h0=> ?_,hf.form⟩⟩
 ·by_cases ek:k=g
  ·subst ek
   rw[bF]at hk
   simp only[Option.some.injEq]at hk
   subst hk
   exact⟨ob,gI.trans ho,hoe⟩
  ·rw[bg _ _ ek]at hk;exact m8 k e hk
 ·have ek:k≠g:=fun e=>by subst e;rw[bF]at h0;cases h0
  rw[bg _ _ ek]at h0⊢
  exact hf.keep k hk h0
theorem oN{d:Option Nat}{X:Slot}(hs:s7 o.op=true)(hd:∀k,d=some k→k<n∧k∉o.looksAt all):Mv n all o (bA s d X) s:=fun a ha=>by
 cases d with
 | none=>exact⟨a,ha,.refl a⟩
 | some d=>
  obtain⟨hn,hl⟩:=hd d rfl
  have key:∀u,(∀v,X = .val v→u=v)→∃a1,gG n (bA s (some d) X) a1∧AA all o a1 a:=fun u hu=>by
   refine⟨a.put (some d) u,⟨by rw[Act.C5];exact ha.size,fun t v ht=> ?_⟩,.put u hs hl⟩
   by_cases e:t=d
   ·subst e
    rw[show bA s (some t) X=put s t X from rfl,iy]at ht
    simp only[Option.some.injEq]at ht
    rw[Act.yu _ _ _ (by rw[ha.size];exact hn),hu v ht]
   ·rw[show bA s (some d) X=put s d X from rfl,fF _ _ e]at ht
    rw[Act.rH _ _ e];exact ha.at_ t v ht
  cases X with
  | val v=>exact key v (fun v' h=>by cases h;rfl)
  | box cs=>exact key undef (fun v' h=>by cases h)
  | ref b off=>exact key undef (fun v' h=>by cases h)
theorem Ka{d:Option Nat}{X:Slot}(hx:∀cs,X≠.box cs)(hs:s7 o.op=true)(hd:∀k,d=some k→k<n∧k∉o.looksAt all):FB n all o (bA s d X) s:=fun H G a w ha=>by
 cases d with
 | none=>exact⟨a,ha,.refl a⟩
 | some d=>
  obtain⟨hn,hl⟩:=hd d rfl
  cases X with
  | val v=>exact⟨_,ha.put hn (x:= .val v) rfl,.put _ hs hl⟩
  | box cs=>exact absurd rfl (hx cs)
  | ref b off=>exact⟨_,ha.put hn (x:= .ref b off) rfl,.put _ hs hl⟩
theorem uP{d:Option Nat}{X:Slot}(hs:s7 o.op=true)(hd:∀k,d=some k→k<n∧k∉o.looksAt all):Mv n all o s (bA s d X):=fun a ha=>by
 cases d with
 | none=>exact⟨a,ha,.refl a⟩
 | some d=>
  obtain⟨hn,hl⟩:=hd d rfl
  obtain⟨v,hv⟩:=gG.back (s:=s) (d:=d) ha (fun t v ht h=>by rw[show bA s (some d) X=put s d X from rfl,fF _ _ ht];exact h) hn
  exact⟨_,hv,.put v hs hl⟩
theorem ab6{d:Option Nat}{X:Slot}(hs:s7 o.op=true)(hd:∀k,d=some k→k<n∧k∉o.looksAt all)(hb:∀k cs,d=some k→s k≠some (.box cs)):FB n all o s (bA s d X):=fun H G a w ha=>by
 cases d with
 | none=>exact⟨a,ha,.refl a⟩
 | some d=>
  obtain⟨hn,hl⟩:=hd d rfl
  obtain⟨v,hv⟩:=Rl.back (s:=s) (d:=d) ha (fun cs=>hb d cs rfl) (fun t x ht h _=>by rw[show bA s (some d) X=put s d X from rfl,fF _ _ ht];exact h) hn
  exact⟨_,hv,.put v hs hl⟩
theorem FC{d t:Nat}{cs:List Value}{x:Slot}(ht:t≠d)(h:s t=some x)(hx:∀b o,x = .ref b o→b≠d):ic s d cs t=some x:=by
 rw[pU _ _ ht,h]
 cases x with
 | val v=>rfl
 | box c=>rfl
 | ref b off=>
  have:=hx b off rfl
  have hb:Nat.beq b d=false:=by
   cases hb:Nat.beq b d with
   | false=>rfl
   | true=>exact absurd (Nat.eq_of_beq_eq_true hb) this
  simp[uN,hb]
theorem Kb{d:Nat}{cs:List Value}(hs:s7 o.op=true)(hn:d<n)(hl:d∉o.looksAt all):Mv n all o s (ic s d cs):=fun a ha=>by
 obtain⟨v,hv⟩:=gG.back (s:=s) (d:=d) ha (fun t v ht h=>FC ht h (fun b o e=>by cases e)) hn
 exact⟨_,hv,.put v hs hl⟩
theorem ab7{d:Nat}{cs:List Value}(hs:s7 o.op=true)(hn:d<n)(hl:d∉o.looksAt all)(hb:∀cs,s d≠some (.box cs)):FB n all o s (ic s d cs):=fun H G a w ha=>by
 obtain⟨v,hv⟩:=Rl.back (s:=s) (d:=d) ha hb (fun t x ht h hx=>FC ht h hx) hn
 exact⟨_,hv,.put v hs hl⟩
theorem U5{d:Nat}{cs:List Value}:Mv n all o (ic s d cs) s:=fun a ha=>
 ⟨a,⟨ha.size,fun t v ht=>ha.at_ t v (On ht).2⟩,.refl a⟩
theorem ab8{b:Nat}{cs cG:List Value}(hb:s b=some (.box cs)):Mv n all o s (put s b (.box cG)):=fun a ha=>
 ⟨a,⟨ha.size,fun t v ht=>ha.at_ t v (by
  have e:t≠b:=fun e=>by subst e;rw[hb]at ht;cases ht
  rw[fF _ _ e];exact ht)⟩,.refl a⟩
theorem qA{d e:Option Nat}(X Y:Slot)(h:∀k,d=some k→e≠some k):bA (bA s d X) e Y=bA (bA s e Y) d X:=by
 cases d with
 | none=>rfl
 | some d=>
  cases e with
  | none=>rfl
  | some e=>exact put_comm s X Y (fun h'=>h d rfl (by rw[h']))
theorem FD{d:Option Nat}{e:Nat}{X:Slot}{cs:List Value}(h:d≠some e)(hx:∀b o,X = .ref b o→b≠e):ic (bA s d X) e cs=bA (ic s e cs) d X:=by
 cases d with
 | none=>rfl
 | some d=>
  have a7:d≠e:=fun h'=>h (by rw[h'])
  funext t
  show ic (put s d X) e cs t=put (ic s e cs) d X t
  by_cases h1:t=e
  ·subst h1
   rw[s9,fF _ _ (Ne.symm a7),s9]
  ·rw[pU _ _ h1]
   by_cases h2:t=d
   ·subst h2
    rw[iy,iy]
    have:=FC (s:=put s t X) (cs:=cs) h1 (iy s t X) hx
    rw[pU _ _ h1,iy]at this
    exact this
   ·rw[fF _ _ h2,fF _ _ h2,pU _ _ h1]
theorem ab9(d e:Nat)(x:Option Slot):uN d (uN e x)=uN e (uN d x):=by
 cases x with
 | none=>rfl
 | some x=>
  cases x with
  | val v=>rfl
  | box c=>rfl
  | ref b o=>cases h1:Nat.beq b d <;> cases h2:Nat.beq b e <;> simp[uN,h1,h2]
theorem aca{d e:Nat}{cs cG:List Value}(h:d≠e):ic (ic s d cs) e cG=ic (ic s e cG) d cs:=by
 funext t
 by_cases h1:t=e
 ·subst h1
  rw[s9,pU _ _ (Ne.symm h),s9];rfl
 ·rw[pU _ _ h1]
  by_cases h2:t=d
  ·subst h2
   rw[s9,s9];rfl
  ·rw[pU _ _ h2,pU _ _ h2,pU _ _ h1,ab9]
theorem U6{d:Option Nat}{b:Nat}{X:Slot}{cs:List Value}(h:d≠some b):put (bA s d X) b (.box cs)=bA (put s b (.box cs)) d X:=by
 cases d with
 | none=>rfl
 | some d=>exact put_comm s X (.box cs) (fun h'=>h (by rw[h']))
theorem C8(H:Heap){g k:Nat}(e e':Ent)(h:g≠k):ins (ins H g e) k e'=ins (ins H k e') g e:=by
 funext t
 by_cases h1:t=k
 ·subst h1;rw[bF,bg _ _ (Ne.symm h),bF]
 ·by_cases h2:t=g
  ·subst h2;rw[bg _ _ h1,bF,bF]
  ·rw[bg _ _ h1,bg _ _ h2,bg _ _ h2,bg _ _ h1]
end
theorem Kc(s:St)(d:Nat)(X:Slot):bA s (some d) X=put s d X:=rfl
theorem jM.bA{md:Mode}{s s':St}(h:jM md s s')(d:Option Nat)(X:Slot):jM md (bA s d X) (bA s' d X):=fun t=>by
 cases d with
 | none=>exact h t
 | some d=>
  rw[Kc,Kc]
  by_cases e:t=d
  ·subst e;exact .inl (by rw[iy,iy])
  ·rw[fF _ _ e,fF _ _ e];exact h t
theorem jM.acb{md:Mode}{s s':St}{d:Option Nat}{X:Slot}(hX:∀c,X≠.box c)(h:jM md (aw.bA s d X) s'):∃we,jM md s we∧s'=aw.bA we d X∧∀k,d=some k→we k=s k:=by
 cases d with
 | none=>exact⟨s',h,rfl,fun k e=>by cases e⟩
 | some d=>
  rw[Kc]at h
  have hd:s' d=some X:=h.val hX (iy _ _ _)
  refine⟨fun t=>if t=d then s t else s' t,fun t=> ?_,?_,fun k e=>by cases e;simp⟩
  ·by_cases e:t=d
   ·left;simp[e]
   ·have:=h t
    rw[fF _ _ e]at this
    simpa [e]using this
  ·rw[Kc]
   funext t
   by_cases e:t=d
   ·subst e;rw[iy,hd]
   ·rw[fF _ _ e,if_neg e]
open Classical in
theorem jM.unbox{md:Mode}{s s':St}{d:Nat}{cs:List Value}(h:jM md (ic s d cs) s'):∃we Kd,jM md s we∧s'=ic we d Kd∧we d=s d:=by
 obtain⟨Kd,hc⟩:=h.box (s9 s d cs)
 refine⟨fun t=>if t=d∨s' t=ic s d cs t then s t else s' t,Kd,fun t=> ?_,?_,by simp⟩
 ·by_cases e:t=d∨s' t=ic s d cs t
  ·left;simp only[e,if_true]
  ·simp only[e,if_false]
   rcases h t with h1 | ⟨h0,c,c',h1,h2⟩
   ·exact absurd (.inr h1) e
   ·rcases rJ h1 with ⟨e1,_⟩ | ⟨_,h3⟩
    ·exact absurd (.inl e1) e
    ·exact .inr ⟨h0,c,c',h3,h2⟩
 ·funext t
  by_cases e:t=d
  ·subst e;rw[hc,s9]
  ·rw[pU _ _ e]
   by_cases e2:s' t=ic s d cs t
   ·simp only[e2,or_true,if_true];exact pU _ _ e
   ·rcases h t with h1 | ⟨h0,c,c',h1,h2⟩
    ·exact absurd h1 e2
    ·rw[if_neg (by rintro(h3 | h3);exact e h3;exact e2 h3),h2];rfl
theorem jM.store{md:Mode}{s s':St}{b:Nat}{cs cG:List Value}(hb:s b=some (.box cs))(hw:md.wr b=true)(h:jM md (put s b (.box cG)) s'):jM md s s':=fun t=>by
 by_cases e:t=b
 ·subst e
  obtain⟨c,hc⟩:=h.box (iy s t (.box cG))
  exact .inr ⟨hw,cs,c,hb,hc⟩
 ·have:=h t
  rwa [fF _ _ e]at this
end Go.aw
namespace Go.aw
section
variable {P:Program} {n:Nat} {all:Array Oper} {md:Mode} {x y:Oper} {s:St} {H:Heap} {K:St→Heap→Prop}
theorem yw{md:Mode}(eZ:md≠.plain){k:Nat}(h:k=1∨k=2∨md = .plain):k=1∨k=2:=by
 rcases h with h | h | h
 ·exact .inl h
 ·exact .inr h
 ·exact absurd h eZ
theorem rM(eZ:md≠.plain)(fu:md.oK=false)(d:Option Nat):md.nb s d=true↔∀k cs,d=some k→s k≠some (.box cs):=by
 cases d with
 | none=>cases md <;> simp[Mode.nb,Mode.oK]at *
 | some d=>
  have:md.nb s (some d)=(match s d with | some (.box _)=>false | _=>true):=by cases md <;> first | exact absurd rfl eZ | rfl | cases fu
  rw[this]
  cases hs:s d with
  | none=>exact⟨(fun _ k cs hk h=>by cases hk;rw[hs]at h;cases h),fun _=>rfl⟩
  | some z=>
   cases z with
   | val v=>exact⟨(fun _ k cs hk h=>by cases hk;rw[hs]at h;cases h),fun _=>rfl⟩
   | box c=>exact⟨(fun h=>by cases h),fun h=>absurd hs (h d c rfl)⟩
   | ref b o=>exact⟨(fun _ k cs hk h=>by cases hk;rw[hs]at h;cases h),fun _=>rfl⟩
theorem AB{X:Slot}:X.s8 s=true↔(∀cs,X≠.box cs)∧∀b o,X = .ref b o→∃cs,s b=some (.box cs):=by
 cases X with
 | val v=>simp[Slot.s8]
 | box c=>simp[Slot.s8]
 | ref b o=>
  simp only[Slot.s8]
  cases hs:s b with
  | none=>simp[hs]
  | some z=>cases z <;> simp[hs]
theorem FE{d:Option Nat}{X:Slot}{t:Nat}(h:d≠some t):bA s d X t=s t:=by
 cases d with
 | none=>rfl
 | some d=>exact fF s X (fun e=>h (by rw[e]))
theorem Oq{d:Option Nat}{X:Slot}{t:Nat}{cs:List Value}(hx:∀cs,X≠.box cs)(h:bA s d X t=some (.box cs)):d≠some t∧s t=some (.box cs):=by
 cases d with
 | none=>exact⟨by simp,h⟩
 | some d=>
  by_cases e:t=d
  ·subst e
   rw[show bA s (some t) X=put s t X from rfl,iy]at h
   simp only[Option.some.injEq]at h
   exact absurd h (hx cs)
  ·rw[show bA s (some d) X=put s d X from rfl,fF _ _ e]at h
   exact⟨fun h'=>e (by cases h';rfl),h⟩
structure C9(md:Mode)(all:Array Oper)(x y:Oper):Prop where
 xs:s7 x.op=true
 ys:s7 y.op=true
 xy:∀d,x.dst=some d→d∉y.looksAt all
 ne:∀d,x.dst=some d→y.dst≠some d
 yx:∀d,y.dst=some d→d∉x.looksAt all
 kind:(kd x.op=0∧(kd y.op=0∨(kd y.op=1∧md.UZ=false)∨(kd y.op=3∧(y.guard=none∨md.oK=false))∨(kd y.op=2∧md.Ol=true∧(md.Om=true∨FA x.op=false))))∨((kd x.op=1∨kd x.op=3)∧kd y.op=3∧y.guard=none∧md.oK=false)
theorem Sw.out(h:Sw md all x y=true):C9 md all x y:=by
 simp only[Sw,Bool.and_eq_true,Bool.or_eq_true,beq_iff_eq,Option.isNone_iff_eq_none,Bool.not_eq_true']at h
 obtain⟨⟨⟨h1,h2⟩,h3⟩,h4⟩:=h
 obtain⟨a1,a2,a3⟩:=Oper.apart_spec h1
 refine⟨h2,h3,a1,a2,a3,?_⟩
 rcases h4 with ⟨hx,hy⟩ | ⟨⟨⟨hx,hy⟩,hz⟩,hk⟩
 ·left
  refine⟨hx,?_⟩
  rcases hy with ((hy | hy) | hy) | hy
  ·exact .inl hy
  ·exact .inr (.inl hy)
  ·exact .inr (.inr (.inl hy))
  ·exact .inr (.inr (.inr ⟨hy.1.1,hy.1.2,hy.2⟩))
 ·exact .inr ⟨hx,hy,hz,hk⟩
theorem Den.acd{H:Heap}{w:World}(h:Den H w)(xs:List Value)(e:TypeId):Den (ins H w.heap.size (whole xs e)) (w.alloc (.cells xs.toArray e (0,0))):=by
 intro g e' hg
 by_cases eg:g=w.heap.size
 ·subst eg
  rw[bF]at hg
  simp only[Option.some.injEq]at hg
  subst hg
  exact⟨_,heap_alloc_new w _,xs.toArray,(0,0),rfl,by simp[whole],fun i v hv=>by simpa [whole]using hv,fun _=>rfl⟩
 ·rw[bg _ _ eg]at hg
  exact h.alloc _ g e' hg
theorem Heap.le.qB{H H':Heap}{g:Nat}{e:Ent}(h:Heap.le H H')(hg:H' g=none):Heap.le (ins H g e) (ins H' g e):=fun k x hk=>by
 by_cases ek:k=g
 ·subst ek
  rw[bF]at hk⊢
  exact⟨x,hk,.refl x⟩
 ·rw[bg _ _ ek]at hk⊢
  exact h k x hk
theorem ie.ace(eZ:md≠.plain)(fu:md.oK=false)(hw:C9 md all x y)(AD:∀d,x.dst=some d→d<n)(qC:∀d,y.dst=some d→d<n)
  (hS:∃a,gG n s a) (hH:Real H) (h:ie P n all md x s H (fun s1 H1=>ie P n all md y s1 H1 K)):ie P n all md y s H (fun s2 H2=>ie P n all md x s2 H2 K):=by
 have cP:∀d,x.dst=some d→d<n∧d∉y.looksAt all:=fun d hd=>⟨AD d hd,hw.xy d hd⟩
 have kV:∀d,y.dst=some d→d<n∧d∉x.looksAt all:=fun d hd=>⟨qC d hd,hw.yx d hd⟩
 have FF:∀d,y.dst=some d→x.dst≠some d:=fun d hd e=>hw.ne d e hd
 have mE:∀{X:Slot},(∀cs,X≠.box cs)→md.nb (bA s x.dst X) y.dst=true→md.nb s y.dst=true:=fun{X} hX hn=>by
  rw[rM eZ fu]at hn⊢
  intro k cs hk hs
  exact hn k cs hk (by rw[FE (FF k hk)];exact hs)
 have oO:∀{Y:Slot},md.nb s x.dst=true→md.nb (bA s y.dst Y) x.dst=true:=fun{Y} hn=>by
  rw[rM eZ fu]at hn⊢
  intro k cs hk hs
  exact hn k cs hk (by rw[FE (hw.ne k hk)]at hs;exact hs)
 have U7:∀{X Y:Slot},(∀cs,X≠.box cs)→Y.s8 (bA s x.dst X)=true→Y.s8 s=true:=fun{X Y} hX hg=>by
  rw[AB]at hg⊢
  exact⟨hg.1,fun b o e=>by obtain⟨cs,hc⟩:=hg.2 b o e;exact⟨cs,(Oq hX hc).2⟩⟩
 have Ke:∀{X Y:Slot},md.nb s y.dst=true→X.s8 s=true→X.s8 (bA s y.dst Y)=true:=fun{X Y} hn hg=>by
  rw[AB]at hg⊢
  refine⟨hg.1,fun b o e=> ?_⟩
  obtain⟨cs,hc⟩:=hg.2 b o e
  exact⟨cs,by rw[FE (fun hk=>(rM eZ fu _).1 hn b cs hk hc)];exact hc⟩
 have U8:∀{k:Nat}{cs:List Value},md.nb s y.dst=true→y.dst=some k→s k≠some (.box cs):=fun{k cs} hn hk=>(rM eZ fu _).1 hn k cs hk
 have Kf:∀{X Y:Slot}{H1 H2:Heap},md.nb s y.dst=true→(∀c,Y≠.box c)→Heap.le H1 H2→(∀s',jM md s s'→C6 P n all x s' H1 X)→∀s',jM md (bA s y.dst Y) s'→C6 P n all x s' H2 X:=fun{X Y H1 H2} n1 hY hl h s' e=>by
  obtain⟨we,e1,rfl,e2⟩:=e.acb hY
  exact(h _ e1).move (ab6 hw.xs kV (fun k cs hk=>by rw[e2 k hk];exact U8 n1 hk)) hl
 cases h with
 | jW v hm nb h k=>
  have hX:∀cs,Slot.val v≠.box cs:=fun cs e=>by cases e
  cases k with
  | jW v' bI dD h' k'=>
   have n1:=mE hX dD
   refine .jW v' bI n1 (h'.move (oN hw.ys cP) (.refl _)) (.jW v hm (oO nb) (h.move (uP hw.xs kV) (.refl _)) ?_)
   rw[←qA _ _ hw.ne];exact k'
  | jN X' bI dD tc h' k'=>
   have n1:=mE hX dD
   refine .jN X' bI n1 (U7 hX tc) (fun s' e=>(h' _ (e.bA _ _)).move (Ka hX hw.ys cP) (.refl _)) (.jW v hm (oO nb) (h.move (uP hw.xs kV) (.refl _)) ?_)
   rw[←qA _ _ hw.ne];exact k'
  | jX d hd bI dD cs h' k'=>
   have n1:=mE hX dD
   refine .jX d hd bI n1 cs (h'.move (oN hw.ys cP)) (.jW v hm ?_ (h.move (Kb hw.xs (qC d hd) (hw.yx d hd)) (.refl _)) ?_)
   ·rw[rM eZ fu]at nb⊢
    intro k cG hk hs
    rcases rJ hs with ⟨e,_⟩ | ⟨_,hs⟩
    ·exact hw.ne k hk (by rw[hd,e])
    ·exact nb k cG hk hs
   ·rw[←FD (fun e=>hw.ne d e hd) (fun b o e=>by cases e)];exact k'
  | mC b cs cG hd bI hb kH h' k'=>
   obtain⟨AE,iS⟩:=Oq hX hb
   refine .mC b cs cG hd bI iS kH (h'.move (Ka hX hw.ys cP)) (.jW v hm ?_ (h.move (ab8 iS) (.refl _)) ?_)
   ·rw[rM eZ fu]at nb⊢
    intro k c hk hs
    by_cases e:k=b
    ·subst e;exact AE hk
    ·rw[fF _ _ e]at hs;exact nb k c hk hs
   ·rw[←U6 AE];exact k'
  | fresh mk xs e bI dD h' k'=>
   have n1:=mE hX dD
   refine .fresh mk xs e bI n1 (h'.move (oN hw.ys cP)) fun g hg hr=> .jW v hm (oO nb) (h.move (uP hw.xs kV) (Heap.bC _ hg)) ?_
   rw[←qA _ _ hw.ne];exact k' g hg hr
  | mD _ bV _ _ _ _ _=>rw[fu]at bV;cases bV
  | oL _ _ _ bV _ _ _ _=>rw[fu]at bV;cases bV
  | m9 _ bV _ _ _ _ _=>rw[fu]at bV;cases bV
  | jf bG ha dD h' bI k'=>
   have lY:=yw eZ ha
   have n1:=mE hX dD
   have Ot:∀u H',bG u H'→Heap.le H H':=by
    cases md with
    | plain=>exact absurd rfl eZ
    | bJ=>exact bI.2
    | pT st=>exact bI.2
    | gH=>
     rcases bI with e | e
     ·have:=rL.1 e
      rcases hw.kind with ⟨_,h1 | h1 | h1 | h1⟩ | h1
      ·omega
      ·omega
      ·omega
      ·exact absurd h1.2.1 (by decide)
      ·omega
     ·exact e
    | cO k=>cases fu
    | uM=>
     rcases hw.kind with ⟨_,h1 | h1 | h1 | h1⟩ | h1
     ·omega
     ·exact absurd h1.2 (by decide)
     ·omega
     ·exact absurd h1.2.1 (by decide)
     ·omega
   refine .jf bG ha n1 (h'.move (oN hw.ys cP)) bI fun u H' hp hr=> .jW v hm (oO nb) (h.move (uP hw.xs kV) (Ot u H' hp)) ?_
   rw[←qA _ _ hw.ne];exact k' u H' hp hr
 | jN X hm nb hx h k=>
  have hX:=(AB.1 hx).1
  have kx:=C7 hm
  cases k with
  | jW v' bI dD h' k'=>
   have n1:=mE hX dD
   refine .jW v' bI n1 (h'.move (oN hw.ys cP) (.refl _)) (.jN X hm (oO nb) (Ke n1 hx) (Kf n1 (fun c e=>by cases e) (.refl _) h) ?_)
   rw[←qA _ _ hw.ne];exact k'
  | jN X' bI dD tc h' k'=>
   have n1:=mE hX dD
   refine .jN X' bI n1 (U7 hX tc) (fun s' e=>(h' _ (e.bA _ _)).move (Ka hX hw.ys cP) (.refl _)) (.jN X hm (oO nb) (Ke n1 hx) (Kf n1 (AB.1 tc).1 (.refl _) h) ?_)
   rw[←qA _ _ hw.ne];exact k'
  | jX d hd bI dD cs h' k'=>
   have n1:=mE hX dD
   have td:∀cs,s d≠some (.box cs):=fun cs=>U8 n1 hd
   refine .jX d hd bI n1 cs (h'.move (oN hw.ys cP)) (.jN X hm ?_ ?_ (fun s' e=>by
    obtain⟨we,Kd,e1,rfl,e2⟩:=e.unbox
    exact(h _ e1).move (ab7 hw.xs (qC d hd) (hw.yx d hd) (fun cs=>by rw[e2];exact td cs)) (.refl _)) ?_)
   ·rw[rM eZ fu]at nb⊢
    intro k cG hk hs
    rcases rJ hs with ⟨e,_⟩ | ⟨_,hs⟩
    ·exact hw.ne k hk (by rw[hd,e])
    ·exact nb k cG hk hs
   ·rw[AB]at hx⊢
    refine⟨hx.1,fun b o e=> ?_⟩
    obtain⟨c,hc⟩:=hx.2 b o e
    exact⟨c,FC (fun e=>by subst e;exact td c hc) hc (fun b o e=>by cases e)⟩
   ·rw[←FD (fun e=>hw.ne d e hd) (fun b o e hb=>by subst hb;obtain⟨c,hc⟩:=(AB.1 hx).2 b o e;exact td c hc)];exact k'
  | mC b cs cG hd bI hb kH h' k'=>
   have:=rL.1 bI
   have hT:md.Om=true:=by
    rcases hw.kind with ⟨_,h1 | h1 | h1 | h1⟩ | h1
    ·omega
    ·omega
    ·omega
    ·rcases h1.2.2 with h2 | h2
     ·exact h2
     ·rw[hm]at h2;cases h2
    ·omega
   have hwr:md.wr b=true:=by
    cases md <;> first | exact kH | cases hT
   obtain⟨AE,iS⟩:=Oq hX hb
   refine .mC b cs cG hd bI iS kH (h'.move (Ka hX hw.ys cP)) (.jN X hm ?_ ?_ (fun s' e=>h s' (e.store iS hwr)) ?_)
   ·rw[rM eZ fu]at nb⊢
    intro k c hk hs
    by_cases e:k=b
    ·subst e;exact AE hk
    ·rw[fF _ _ e]at hs;exact nb k c hk hs
   ·rw[AB]at hx⊢
    refine⟨hx.1,fun b' o e=> ?_⟩
    obtain⟨c,hc⟩:=hx.2 b' o e
    by_cases e2:b'=b
    ·subst e2;exact⟨cG,iy _ _ _⟩
    ·exact⟨c,by rw[fF _ _ e2];exact hc⟩
   ·rw[←U6 AE];exact k'
  | fresh mk xs e bI dD h' k'=>
   have n1:=mE hX dD
   refine .fresh mk xs e bI n1 (h'.move (oN hw.ys cP)) fun g hg hr=> .jN X hm (oO nb) (Ke n1 hx) (Kf n1 (fun c e=>by cases e) (Heap.bC _ hg) h) ?_
   rw[←qA _ _ hw.ne];exact k' g hg hr
  | mD _ bV _ _ _ _ _=>rw[fu]at bV;cases bV
  | oL _ _ _ bV _ _ _ _=>rw[fu]at bV;cases bV
  | m9 _ bV _ _ _ _ _=>rw[fu]at bV;cases bV
  | jf bG ha dD h' bI k'=>
   have lY:=yw eZ ha
   have n1:=mE hX dD
   have Ot:∀u H',bG u H'→Heap.le H H':=by
    cases md with
    | plain=>exact absurd rfl eZ
    | bJ=>exact bI.2
    | pT st=>exact bI.2
    | gH=>
     rcases bI with e | e
     ·have:=rL.1 e
      rcases hw.kind with ⟨_,h1 | h1 | h1 | h1⟩ | h1
      ·omega
      ·omega
      ·omega
      ·exact absurd h1.2.1 (by decide)
      ·omega
     ·exact e
    | cO k=>cases fu
    | uM=>
     rcases hw.kind with ⟨_,h1 | h1 | h1 | h1⟩ | h1
     ·omega
     ·exact absurd h1.2 (by decide)
     ·omega
     ·exact absurd h1.2.1 (by decide)
     ·omega
   refine .jf bG ha n1 (h'.move (oN hw.ys cP)) bI fun u H' hp hr=> .jN X hm (oO nb) (Ke n1 hx) (Kf n1 (fun c e=>by cases e) (Ot u H' hp) h) ?_
   rw[←qA _ _ hw.ne];exact k' u H' hp hr
 | jX dx AF pV te cx hx k=>
  have kx:=yv.1 (show rI x.op=true by simp[rI,pV])
  have pW:kd y.op=3∧y.guard=none:=by
   rcases hw.kind with ⟨h1,_⟩ | h1
   ·omega
   ·exact⟨h1.2.1,h1.2.2.1⟩
  have n1:md.nb (ic s dx cx) y.dst=true→md.nb s y.dst=true:=fun hn=>by
   rw[rM eZ fu]at hn⊢
   intro k cs hk hs
   exact hn k cs hk (FC (fun e=>FF k hk (by rw[AF,e])) hs (fun b o e=>by cases e))
  cases k with
  | jW v' bI dD h' k'=>
   rcases bI with e | e
   ·rw[yv.2 pW.1]at e;cases e
   ·exact absurd pW.2 e
  | jN X' bI dD tc h' k'=>have:=C7 bI;omega
  | jX d hd bI dD cs h' k'=>
   refine .jX d hd bI (n1 dD) cs (h'.move U5) (.jX dx AF pV ?_ cx (hx.move (Kb hw.xs (qC d hd) (hw.yx d hd))) ?_)
   ·rw[rM eZ fu]at te⊢
    intro k cG hk hs
    rcases rJ hs with ⟨e,_⟩ | ⟨_,hs⟩
    ·exact hw.ne k hk (by rw[hd,e])
    ·exact te k cG hk hs
   ·rw[←aca (fun e=>hw.ne dx AF (by rw[hd,e]))];exact k'
  | mC b cs cG hd bI hb kH h' k'=>have:=rL.1 bI;omega
  | fresh mk xs e bI dD h' k'=>
   refine .fresh mk xs e bI (n1 dD) (h'.move U5) fun g hg hr=> .jX dx AF pV (oO te) cx (hx.move (uP hw.xs kV)) ?_
   rw[FD (fun e=>FF dx e AF) (fun b o e=>by cases e)];exact k' g hg hr
  | mD _ bV _ _ _ _ _=>rw[fu]at bV;cases bV
  | oL _ _ _ bV _ _ _ _=>rw[fu]at bV;cases bV
  | m9 _ bV _ _ _ _ _=>rw[fu]at bV;cases bV
  | jf bG ha dD h' bI k'=>have lY:=yw eZ ha;omega
 | mC b cs cG hd hm hb kH h k=>
  have:=rL.1 hm
  rcases hw.kind with ⟨h1,_⟩ | h1 <;> omega
 | fresh Kg rN ex pV te hx k=>
  have kx:kd x.op=3:=yv.1 (by rcases pV with e | ⟨e,_⟩ <;> simp[rI,e]at *)
  have pW:kd y.op=3∧y.guard=none:=by
   rcases hw.kind with ⟨h1,_⟩ | h1
   ·omega
   ·exact⟨h1.2.1,h1.2.2.1⟩
  obtain⟨w,hd⟩:=hH
  have fh:Den (ins H w.heap.size (whole rN ex)) (w.alloc (.cells rN.toArray ex (0,0))):=Den.acd hd rN ex
  rcases U4 pW.1 with ⟨AG,AH⟩ | ⟨AG,AH⟩
  ·
   have only:∀g,H g=none→Real (ins H g (whole rN ex))→∃d cs,y.dst=some d∧md.nb s y.dst=true∧wc P n all y s cs∧K (ic (bA s x.dst (.val (Kg g))) d cs) (ins H g (whole rN ex)):=by
    intro g hg hr
    cases k g hg hr with
    | jW v' bI dD h' k'=>
     rcases bI with e | e
     ·rw[yv.2 pW.1]at e;cases e
     ·exact absurd pW.2 e
    | jN X' bI dD tc h' k'=>have:=C7 bI;omega
    | mC b cs cG hd bI hb kH h' k'=>have:=rL.1 bI;omega
    | mD _ bV _ _ _ _ _=>rw[fu]at bV;cases bV
    | oL _ _ _ bV _ _ _ _=>rw[fu]at bV;cases bV
    | m9 _ bV _ _ _ _ _=>rw[fu]at bV;cases bV
    | jf bG ha dD h' bI k'=>have lY:=yw eZ ha;omega
    | fresh mk xs e bI dD h' k'=>
     rcases bI with e | e
     ·rw[AH]at e;cases e
     ·exact absurd e.1 eZ
    | jX d hd bI dD cs h' k'=>exact⟨d,cs,hd,mE (fun cs e=>by cases e) dD,h'.move (oN hw.ys cP),k'⟩
   obtain⟨d,cs,qD,AI,hy,_⟩:=only _ hd.fresh ⟨_,fh⟩
   refine .jX d qD AG AI cs hy (.fresh Kg rN ex pV ?_ (hx.move (Kb hw.xs (qC d qD) (hw.yx d qD))) fun g hg hr=> ?_)
   ·rw[rM eZ fu]at te⊢
    intro k cG hk hs
    rcases rJ hs with ⟨e,_⟩ | ⟨_,hs⟩
    ·exact hw.ne k hk (by rw[qD,e])
    ·exact te k cG hk hs
   ·obtain⟨d',cG,FG,_,uQ,hk⟩:=only g hg hr
    obtain rfl:d'=d:=by rw[qD]at FG;cases FG;rfl
    obtain rfl:=hy.uniq hS uQ
    rw[←FD (fun e=>hw.ne _ e qD) (fun b o e=>by cases e)];exact hk
  ·have only:∀g,H g=none→Real (ins H g (whole rN ex))→∃mk xs e,md.nb s y.dst=true∧uL P n all y s mk xs e∧∀g',ins H g (whole rN ex) g'=none→Real (ins (ins H g (whole rN ex)) g' (whole xs e))→K (bA (bA s x.dst (.val (Kg g))) y.dst (.val (mk g'))) (ins (ins H g (whole rN ex)) g' (whole xs e)):=by
    intro g hg hr
    cases k g hg hr with
    | jW v' bI dD h' k'=>
     rcases bI with e | e
     ·rw[yv.2 pW.1]at e;cases e
     ·exact absurd pW.2 e
    | jN X' bI dD tc h' k'=>have:=C7 bI;omega
    | mC b cs cG hd bI hb kH h' k'=>have:=rL.1 bI;omega
    | mD _ bV _ _ _ _ _=>rw[fu]at bV;cases bV
    | oL _ _ _ bV _ _ _ _=>rw[fu]at bV;cases bV
    | m9 _ bV _ _ _ _ _=>rw[fu]at bV;cases bV
    | jf bG ha dD h' bI k'=>have lY:=yw eZ ha;omega
    | jX d hd bI dD cs h' k'=>rw[AG]at bI;cases bI
    | fresh mk xs e bI dD h' k'=>exact⟨mk,xs,e,mE (fun cs e=>by cases e) dD,h'.move (oN hw.ys cP),k'⟩
   obtain⟨mk,xs,e,AI,hy,_⟩:=only _ hd.fresh ⟨_,fh⟩
   refine .fresh mk xs e (.inl AH) AI hy fun g' iL dU=> .fresh Kg rN ex pV (oO te) (hx.move (uP hw.xs kV)) fun g hg hr=> ?_
   have a7:g≠g':=fun e'=>by subst e';rw[bF]at hg;cases hg
   have oP:H g=none:=by rw[bg _ _ a7]at hg;exact hg
   have tf:Real (ins H g (whole rN ex)):=by
    obtain⟨w1,gA⟩:=hr
    rw[C8 _ _ _ a7.symm]at gA
    exact⟨w1,gA.le (Heap.bC _ (by rw[bg _ _ a7.symm];exact iL))⟩
   obtain⟨mk',qz,e',_,uQ,hk⟩:=only g oP tf
   obtain⟨rfl,rfl,rfl⟩:=hy.uniq hS uQ
   have:=hk g' (by rw[bg _ _ a7.symm];exact iL) (by rw[C8 _ _ _ a7];exact hr)
   rw[←qA _ _ hw.ne,C8 _ _ _ a7.symm];exact this
 | mD _ bV _ _ _ _ _=>rw[fu]at bV;cases bV
 | oL _ _ _ bV _ _ _ _=>rw[fu]at bV;cases bV
 | m9 _ bV _ _ _ _ _=>rw[fu]at bV;cases bV
 | jf Ou Ov te hx pV k=>
  have lY:=yw eZ Ov
  obtain⟨v0,U9,AJ,tg⟩:=hx.some hS hH
  rcases hw.kind with ⟨kx0,jz⟩ | ⟨_,acf,acg,_⟩
  ·omega
  ·have pW:kd y.op=3∧y.guard=none:=⟨acf,acg⟩
   rcases U4 pW.1 with ⟨AG,AH⟩ | ⟨AG,AH⟩
   ·have only:∀v H',Ou v H'→Real H'→∃d cs,y.dst=some d∧md.nb s y.dst=true∧wc P n all y s cs∧K (ic (bA s x.dst (.val v)) d cs) H':=by
     intro v H' hp hr
     cases k v H' hp hr with
     | jW v' bI dD h' k'=>
      rcases bI with e | e
      ·rw[yv.2 pW.1]at e;cases e
      ·exact absurd pW.2 e
     | jN X' bI dD tc h' k'=>have:=C7 bI;omega
     | mC b cs cG hd bI hb kH h' k'=>have:=rL.1 bI;omega
     | mD _ bV _ _ _ _ _=>rw[fu]at bV;cases bV
     | oL _ _ _ bV _ _ _ _=>rw[fu]at bV;cases bV
     | m9 _ bV _ _ _ _ _=>rw[fu]at bV;cases bV
     | jf bG ha dD h' bI k'=>have lY:=yw eZ ha;omega
     | fresh mk xs e bI dD h' k'=>
      rcases bI with e | e
      ·rw[AH]at e;cases e
      ·exact absurd e.1 eZ
     | jX d hd bI dD cs h' k'=>exact⟨d,cs,hd,mE (fun cs e=>by cases e) dD,h'.move (oN hw.ys cP),k'⟩
    obtain⟨d,cs,qD,AI,hy,_⟩:=only v0 U9 AJ tg
    refine .jX d qD AG AI cs hy (.jf Ou Ov ?_ (hx.move (Kb hw.xs (qC d qD) (hw.yx d qD))) pV fun v H' hp hr=> ?_)
    ·rw[rM eZ fu]at te⊢
     intro k cG hk hs
     rcases rJ hs with ⟨e,_⟩ | ⟨_,hs⟩
     ·exact hw.ne k hk (by rw[qD,e])
     ·exact te k cG hk hs
    ·obtain⟨d',cG,FG,_,uQ,hk⟩:=only v H' hp hr
     obtain rfl:d'=d:=by rw[qD]at FG;cases FG;rfl
     obtain rfl:=hy.uniq hS uQ
     rw[←FD (fun e=>hw.ne _ e qD) (fun b o e=>by cases e)];exact hk
   ·have only:∀v H',Ou v H'→Real H'→∃mk xs e,md.nb s y.dst=true∧uL P n all y s mk xs e∧∀g',H' g'=none→Real (ins H' g' (whole xs e))→K (bA (bA s x.dst (.val v)) y.dst (.val (mk g'))) (ins H' g' (whole xs e)):=by
     intro v H' hp hr
     cases k v H' hp hr with
     | jW v' bI dD h' k'=>
      rcases bI with e | e
      ·rw[yv.2 pW.1]at e;cases e
      ·exact absurd pW.2 e
     | jN X' bI dD tc h' k'=>have:=C7 bI;omega
     | mC b cs cG hd bI hb kH h' k'=>have:=rL.1 bI;omega
     | mD _ bV _ _ _ _ _=>rw[fu]at bV;cases bV
     | oL _ _ _ bV _ _ _ _=>rw[fu]at bV;cases bV
     | m9 _ bV _ _ _ _ _=>rw[fu]at bV;cases bV
     | jf bG ha dD h' bI k'=>have lY:=yw eZ ha;omega
     | jX d hd bI dD cs h' k'=>rw[AG]at bI;cases bI
     | fresh mk xs e bI dD h' k'=>exact⟨mk,xs,e,mE (fun cs e=>by cases e) dD,h'.move (oN hw.ys cP),k'⟩
    obtain⟨mk,xs,e,AI,hy,_⟩:=only v0 U9 AJ tg
    refine .fresh mk xs e (.inl AH) AI hy fun g hg hr=> .jf _ Ov (oO te) ((hx.move (uP hw.xs kV)).frame hg) ?_ fun v s5 AK Va=> ?_
    ·cases md with
     | plain=>exact absurd rfl eZ
     | pT st=>
      refine⟨pV.1,fun v s5 AK=> ?_⟩
      obtain⟨H',hp,iL,rfl⟩:=AK
      exact Heap.le.qB (pV.2 v H' hp) iL
     | bJ=>
      refine⟨pV.1,fun v s5 AK=> ?_⟩
      obtain⟨H',hp,iL,rfl⟩:=AK
      exact Heap.le.qB (pV.2 v H' hp) iL
     | gH=>
      rcases pV with e' | e'
      ·exact .inl e'
      ·refine .inr fun v s5 AK=> ?_
       obtain⟨H',hp,iL,rfl⟩:=AK
       exact Heap.le.qB (e' v H' hp) iL
     | uM=>trivial
     | cO k=>trivial
    ·obtain⟨H',hp,iL,rfl⟩:=AK
     have tf:Real H':=by
      obtain⟨w1,gA⟩:=Va
      exact⟨w1,gA.le (Heap.bC _ iL)⟩
     obtain⟨mk',qz,e',_,uQ,hk⟩:=only v H' hp tf
     obtain⟨rfl,rfl,rfl⟩:=hy.uniq hS uQ
     rw[←qA _ _ hw.ne];exact hk g iL Va
theorem Vb(d:Option Nat):jy s d=true↔∀k cs,d=some k→s k≠some (.box cs):=by
 cases d with
 | none=>simp[jy]
 | some d=>
  have e:jy s (some d)=(match s d with | some (.box _)=>false | _=>true):=rfl
  rw[e]
  cases hs:s d with
  | none=>exact⟨(fun _ k cs hk h=>by cases hk;rw[hs]at h;cases h),fun _=>rfl⟩
  | some z=>
   cases z with
   | val v=>exact⟨(fun _ k cs hk h=>by cases hk;rw[hs]at h;cases h),fun _=>rfl⟩
   | box c=>exact⟨(fun h=>by cases h),fun h=>absurd hs (h d c rfl)⟩
   | ref b o=>exact⟨(fun _ k cs hk h=>by cases hk;rw[hs]at h;cases h),fun _=>rfl⟩
theorem uR(hK:md.oK=true){d:Option Nat}(h:md.nb s d=true):False:=by
 cases md <;> simp[Mode.oK,Mode.nb]at hK h
theorem ie.ach(hK:md.oK=true)(hw:C9 md all x y)(AD:∀d,x.dst=some d→d<n)(qC:∀d,y.dst=some d→d<n)
  (h:ie P n all md x s H (fun s1 H1=>ie P n all md y s1 H1 K)):ie P n all md y s H (fun s2 H2=>ie P n all md x s2 H2 K):=by
 have cP:∀d,x.dst=some d→d<n∧d∉y.looksAt all:=fun d hd=>⟨AD d hd,hw.xy d hd⟩
 have kV:∀d,y.dst=some d→d<n∧d∉x.looksAt all:=fun d hd=>⟨qC d hd,hw.yx d hd⟩
 have FF:∀d,y.dst=some d→x.dst≠some d:=fun d hd e=>hw.ne d e hd
 have kx:kd x.op=0:=by
  rcases hw.kind with h1 | h1
  ·exact h1.1
  ·rw[hK]at h1;exact absurd h1.2.2.2 (by decide)
 have ky:kd y.op≠2:=fun e=>by
  rcases hw.kind with ⟨_,h1 | h1 | h1 | h1⟩ | h1
  ·omega
  ·omega
  ·omega
  ·have:=h1.2.1
   cases md <;> simp[Mode.oK,Mode.Ol]at hK this
  ·omega
 have mE:∀{v:Value},jy (bA s x.dst (.val v)) y.dst=true→jy s y.dst=true:=fun{v} hn=>by
  rw[Vb]at hn⊢
  intro k cs hk hs
  exact hn k cs hk (by rw[FE (FF k hk)];exact hs)
 have oO:∀{v:Value},jy s x.dst=true→jy (bA s y.dst (.val v)) x.dst=true:=fun{v} hn=>by
  rw[Vb]at hn⊢
  intro k cs hk hs
  exact hn k cs hk (by rw[FE (hw.ne k hk)]at hs;exact hs)
 cases h with
 | jW v hm nb h k=>exact(uR hK nb).elim
 | jN X hm nb hx h k=>exact(uR hK nb).elim
 | jX d hd hm nb cs h k=>exact(uR hK nb).elim
 | mC b cs cG hd hm hb kH h k=>have:=rL.1 hm;omega
 | fresh mk xs e hm nb h k=>exact(uR hK nb).elim
 | jf bG ha nb h hm k=>exact(uR hK nb).elim
 | oL mk xs e hk hm nb h k=>have:=yv.1 (show rI x.op=true by simp[rI,hm]);omega
 | m9 bG hk ha nb h hm k=>omega
 | mD v hk hm nb hc h k=>
  cases k with
  | jW v hm nb h k=>exact(uR hK nb).elim
  | jN X hm nb hx h k=>exact(uR hK nb).elim
  | jX d hd hm nb cs h k=>exact(uR hK nb).elim
  | mC b cs cG hd hm hb kH h k=>exact absurd (rL.1 hm) ky
  | fresh mk xs e hm nb h k=>exact(uR hK nb).elim
  | jf bG ha nb h hm k=>exact(uR hK nb).elim
  | mD v' iT bI dD jO h' k'=>
   refine .mD v' iT bI (mE dD) hc (h'.move (oN hw.ys cP)) (.mD v hk hm (oO nb) hc (h.move (uP hw.xs kV)) ?_)
   rw[←qA _ _ hw.ne];exact k'
  | oL mk xs e iT bI dD h' k'=>
   refine .oL mk xs e iT bI (mE dD) (h'.move (oN hw.ys cP)) fun g hg hr=> .mD v hk hm (oO nb) (fun ad u hu=>cN (Heap.bC _ hg) (hc ad u hu)) (h.move (uP hw.xs kV)) ?_
   rw[←qA _ _ hw.ne];exact k' g hg hr
  | m9 bG iT FH dD h' bI k'=>
   have aci:∀u H',bG u H'→md.fN H':=by
    rcases bI with e | e
    ·exact absurd (rL.1 e) ky
    ·exact e
   refine .m9 bG iT FH (mE dD) (h'.move (oN hw.ys cP)) bI fun u H' hp hr=> .mD v hk hm (oO nb) (aci u H' hp) (h.move (uP hw.xs kV)) ?_
   rw[←qA _ _ hw.ne];exact k' u H' hp hr
theorem ie.swap(eZ:md≠.plain)(hw:C9 md all x y)(AD:∀d,x.dst=some d→d<n)(qC:∀d,y.dst=some d→d<n)
  (hS:∃a,gG n s a) (hH:Real H) (h:ie P n all md x s H (fun s1 H1=>ie P n all md y s1 H1 K)):ie P n all md y s H (fun s2 H2=>ie P n all md x s2 H2 K):=by
 cases hK:md.oK with
 | false=>exact ie.ace eZ hK hw AD qC hS hH h
 | true=>exact ie.ach hK hw AD qC h
end
end Go.aw
namespace Go.aw
section
variable (P:Program) (n:Nat) (all:Array Oper) (md:Mode)
def aQ:List Oper→St→Heap→(St→Heap→Prop)→Prop
 | [],s,H,K=>K s H
 | o::r,s,H,K=>ie P n all md o s H (fun s' H'=>aQ r s' H' K)
end
section
variable {P:Program} {n:Nat} {all:Array Oper} {md:Mode} {s:St} {H:Heap} {K K':St→Heap→Prop}
theorem ie.acj{o:Oper}(rK:∀d,o.dst=some d→d<n)(hS:∃a,gG n s a)(hH:Real H)(h:ie P n all md o s H K)
  (hk:∀s H,(∃a,gG n s a)→Real H→K s H→K' s H):ie P n all md o s H K':=by
 obtain⟨a,ha⟩:=hS
 have AL:∀X:Slot,(∃a,gG n (bA s o.dst X) a):=fun X=>by
  obtain⟨d⟩ | hd:o.dst=none∨∃d,o.dst=some d:=by cases o.dst <;> simp
  ·rw[‹o.dst=none›];exact⟨a,ha⟩
  ·obtain⟨d,hd⟩:=hd
   rw[hd]
   have key:∀u,(∀v,X = .val v→u=v)→∃a,gG n (bA s (some d) X) a:=fun u hu=>by
    refine⟨a.put (some d) u,by rw[Act.C5];exact ha.size,fun t v ht=> ?_⟩
    by_cases e:t=d
    ·subst e
     rw[show bA s (some t) X=put s t X from rfl,iy]at ht
     simp only[Option.some.injEq]at ht
     rw[Act.yu _ _ _ (by rw[ha.size];exact rK t hd),hu v ht]
    ·rw[show bA s (some d) X=put s d X from rfl,fF _ _ e]at ht
     rw[Act.rH _ _ e];exact ha.at_ t v ht
   cases X with
   | val v=>exact key v (fun v' h=>by cases h;rfl)
   | box cs=>exact key undef (fun v' h=>by cases h)
   | ref b off=>exact key undef (fun v' h=>by cases h)
 cases h with
 | jW v hm nb h k=>exact .jW v hm nb h (hk _ _ (AL _) hH k)
 | jN x hm nb hx h k=>exact .jN x hm nb hx h (hk _ _ (AL _) hH k)
 | jX d hd hm nb cs h k=>exact .jX d hd hm nb cs h (hk _ _ ⟨a,ha.size,fun t v ht=>ha.at_ t v (On ht).2⟩ hH k)
 | mC b cs cG hd hm hb kH h k=>
  refine .mC b cs cG hd hm hb kH h (hk _ _ ⟨a,ha.size,fun t v ht=> ?_⟩ hH k)
  by_cases e:t=b
  ·subst e;rw[iy]at ht;cases ht
  ·rw[fF _ _ e]at ht;exact ha.at_ t v ht
 | fresh mk xs e hm nb h k=>exact .fresh mk xs e hm nb h fun g hg hr=>hk _ _ (AL _) hr (k g hg hr)
 | jf bG FH nb h hm k=>exact .jf bG FH nb h hm fun v H' hp hr=>hk _ _ (AL _) hr (k v H' hp hr)
 | mD v bV hm nb hc h k=>exact .mD v bV hm nb hc h (hk _ _ (AL _) hH k)
 | oL mk xs e bV hm nb h k=>exact .oL mk xs e bV hm nb h fun g hg hr=>hk _ _ (AL _) hr (k g hg hr)
 | m9 bG bV FH nb h hm k=>exact .m9 bG bV FH nb h hm fun v H' hp hr=>hk _ _ (AL _) hr (k v H' hp hr)
theorem aQ.front(eZ:md≠.plain){y:Oper}{Y:List Oper}(qC:∀d,y.dst=some d→d<n):∀(X:List Oper)(s:St)(H:Heap),(∀x,x∈X→C9 md all x y)→(∀x,x∈X→∀d,x.dst=some d→d<n)→
  (∃a,gG n s a)→Real H→aQ P n all md (X++y::Y) s H K→aQ P n all md (y::(X++Y)) s H K:=by
 intro X
 induction X with
 | nil=>intro s H _ _ _ _ h;exact h
 | cons x X ih=>
  intro s H hw hn hS hH h
  have h1:ie P n all md x s H (fun s1 H1=>ie P n all md y s1 H1 (fun s2 H2=>aQ P n all md (X++Y) s2 H2 K)):=
   ie.acj (hn x (List.mem_cons_self ..)) hS hH h fun s1 H1 hS1 FI h1=>
    ih s1 H1 (fun z hz=>hw z (List.mem_cons_of_mem _ hz)) (fun z hz=>hn z (List.mem_cons_of_mem _ hz)) hS1 FI h1
  exact ie.swap eZ (hw x (List.mem_cons_self ..)) (hn x (List.mem_cons_self ..)) qC hS hH h1
end
theorem Oper.Vc{P:Program}{o:Oper}{a:Act}{w:World}{K:Act→World→Prop}{Q:Exit→Act→World→Prop}(h:o.wp P a w K (fun _ _ _=>False)):o.wp P a w K Q:=by
 unfold Oper.wp at h⊢
 generalize (execOp a.eval o).run P w=r at h⊢
 cases r with
 | ok m w'=>
  cases m <;> simp only[Oper.upon]at h⊢<;> first
   | exact h
   | exact h.mono fun e Fy he=>by
      cases e with
      | returned v=>exact he
      | panicked c=>exact he.elim
      | outgrown=>obtain⟨_,_,hh⟩:=he;exact hh.elim
 | halt x w'=>cases x <;> simp only[Oper.upon]at h⊢
section
variable {P:Program} {n:Nat} {w0:World} {H0:Heap} {Q:Exit→Act→World→Prop} {K:St→Heap→Prop}
theorem FJ{a b:Nat}(h:Nat.blt a b=true):a<b:=Nat.le_of_ble_eq_true h
def FK(n:Nat)(l:List Oper):Bool:=l.all fun o=>match o.dst with | some d=>Nat.blt d n | none=>true
theorem Vd{l:List Oper}(h:FK n l=true):∀o,o∈l→∀d,o.dst=some d→d<n:=fun o ho d hd=>by
 have:=List.all_eq_true.1 h o ho
 rw[hd]at this
 exact FJ this
theorem aQ.wpList{all:Array Oper}(hQ:∀s H a w,Rel w0 H0 n s H a w→K s H→Q .normal a w):∀(l:List Oper)(s:St)(H:Heap)(a:Act)(w:World),(∀o,o∈l→∀d,o.dst=some d→d<n)→
  Rel w0 H0 n s H a w→aQ P n all .plain l s H K→wpList P all Q l a w:=by
 intro l
 induction l with
 | nil=>intro s H a w _ hR h;exact hQ s H a w hR h
 | cons o l ih=>
  intro s H a w hn hR h
  have hs:=ie.sound hR (hn o (List.mem_cons_self ..)) h
  unfold Go.wpList
  rcases hs with ⟨h1,h2⟩ | ⟨h1,s',H',dQ,h2⟩
  ·rw[if_pos h1]
   refine .inl (Oper.Vc (Oper.wp_mono (fun a' w' hh=> ?_) h2))
   obtain⟨s',H',dQ,hk⟩:=hh
   exact ih s' H' a' w' (fun z hz=>hn z (List.mem_cons_of_mem _ hz)) dQ hk
  ·rw[if_neg (by rw[h1];simp)]
   exact ih s' H' _ w (fun z hz=>hn z (List.mem_cons_of_mem _ hz)) dQ h2
end
def fi(l:List Oper)(i:Nat):Oper:=l[i]?.getD default
def pX(l:List Oper):Nat→Nat→Nat→Bool
 | 0,_,_=>false
 | f+1,i,j=>(fi l j).after.any fun e=>Region.binds .any e&&(Nat.beq e.on i||pX l f i e.on)
def AM(md:Mode)(l:List Oper):List Nat→Bool
 | []=>true
 | i::r=>r.all (fun j=>pX l l.length i j||Sw md l.toArray (fi l i) (fi l j))&&AM md l r
def FL:List Nat→Bool
 | []=>true
 | i::r=> !r.contains i&&FL r
def Da(n:Nat)(md:Mode)(l:List Oper)(perm:List Nat):Bool:=
 !md.UX&&FK n l&&Nat.beq perm.length l.length&&perm.all (fun i=>Nat.blt i l.length)&&FL perm&&AM md l perm&&(List.range l.length).all (fun i=>perm.contains i) &&
 (List.range l.length).all fun i=>(fi l i).after.all fun e=> !Region.binds .any e||Nat.blt e.on i
section
variable {P:Program} {n:Nat} {w0:World} {H0:Heap} {Q:Exit→Act→World→Prop} {K:St→Heap→Prop} {md:Mode} {l:List Oper}
theorem Kh{i:Nat}(h:i<l.length):l[i]? = some (fi l i):=by
 unfold fi;rw[List.getElem?_eq_getElem h];rfl
theorem ack{lz:Array Bool}(Ki:∀i,lz.getD i false=true→∀e,e∈(fi l i).after→Region.binds .any e=true→lz.getD e.on false=true):
  ∀f i j,(∀e,e∈(fi l j).after→Region.binds .any e=true→lz.getD e.on false=true)→pX l f i j=true→lz.getD i false=true:=by
 intro f
 induction f with
 | zero=>intro i j _ h;cases h
 | succ f ih=>
  intro i j hj h
  simp only[pX,Array.any_eq_true']at h
  obtain⟨e,he,h⟩:=h
  simp only[Bool.and_eq_true,Bool.or_eq_true]at h
  obtain⟨hb,h⟩:=h
  rcases h with h | h
  ·have:=Nat.eq_of_beq_eq_true h
   rw[←this];exact hj e he hb
  ·exact ih i e.on (Ki _ (hj e he hb)) h
theorem acm{r:List Nat}(h:AM md l r=true):r.Pairwise fun i j=>pX l l.length i j=true∨Sw md l.toArray (fi l i) (fi l j)=true:=by
 induction r with
 | nil=>exact .nil
 | cons i r ih=>
  simp only[AM,Bool.and_eq_true,List.all_eq_true,Bool.or_eq_true]at h
  exact .cons (fun j hj=>h.1 j hj) (ih h.2)
theorem acn{r:List Nat}(h:FL r=true):r.Nodup:=by
 induction r with
 | nil=>exact .nil
 | cons i r ih=>
  simp only[FL,Bool.and_eq_true,Bool.not_eq_true',List.contains_eq_mem,decide_eq_false_iff_not]at h
  exact List.nodup_cons.2 ⟨h.1,ih h.2⟩
theorem Ve{A:Array Bool}{i j:Nat}{b:Bool}(hi:i<A.size):(A.setIfInBounds i true).getD j b=if j=i then true else A.getD j b:=by
 simp only[Array.getD_eq_getD_getElem?,Array.getElem?_setIfInBounds]
 by_cases e:i=j
 ·subst e;simp[hi]
 ·rw[if_neg e,if_neg (Ne.symm e)]
theorem aco(eZ:md≠.plain)(hn:∀o,o∈l→∀d,o.dst=some d→d<n)(Vf:∀i,i<l.length→∀e,e∈(fi l i).after→Region.binds .any e=true→e.on<i)
  (hQ:∀s H a w,Rel w0 H0 n s H a w→K s H→Q .normal a w):
  ∀(fuel:Nat)(r:List Nat)(lz:Array Bool)(s:St)(H:Heap)(a:Act)(w:World),(∀i,i∈r↔i<l.length∧lz.getD i true=false)→r.Nodup→lz.size=l.length→
  (r.Pairwise fun i j=>pX l l.length i j=true∨Sw md l.toArray (fi l i) (fi l j)=true)→
  (∀i,lz.getD i false=true→∀e,e∈(fi l i).after→Region.binds .any e=true→lz.getD e.on false=true)→
  r.length≤fuel→Rel w0 H0 n s H a w→aQ P n l.toArray md (r.map (fi l)) s H K→wpAny P .any l.toArray Q fuel lz a w:=by
 intro fuel
 induction fuel with
 | zero=>
  intro r lz s H a w hr _ cQ _ _ hlen hR h
  obtain rfl:r = []:=List.eq_nil_of_length_eq_zero (by omega)
  refine⟨?_,hQ s H a w hR h⟩
  unfold Region.ready
  rw[List.filter_eq_nil_iff]
  intro i hi hp
  simp only[List.mem_range,List.size_toArray]at hi
  simp only[Bool.and_eq_true,Bool.not_eq_true']at hp
  exact absurd ((hr i).2 ⟨hi,hp.1⟩) (by simp)
 | succ fuel ih=>
  intro r lz s H a w hr dX cQ yy Ki hlen hR h
  have oQ:∀i,i∈Region.ready .any l.toArray lz↔i∈r∧∀e,e∈(fi l i).after→Region.binds .any e=true→lz.getD e.on false=true:=by
   intro i
   unfold Region.ready
   rw[List.mem_filter,hr]
   simp only[List.mem_range,List.size_toArray,Bool.and_eq_true,Bool.not_eq_true',List.getElem?_toArray]
   constructor
   ·rintro⟨h1,h2,h3⟩
    rw[Kh h1]at h3
    simp only[Option.map_some,Option.getD_some,Array.all_eq_true',Bool.or_eq_true,Bool.not_eq_true']at h3
    refine⟨⟨h1,h2⟩,fun e he hb=> ?_⟩
    rcases h3 e he with h4 | h4
    ·rw[hb]at h4;cases h4
    ·exact h4
   ·rintro⟨⟨h1,h2⟩,h3⟩
    refine⟨h1,h2,?_⟩
    rw[Kh h1]
    simp only[Option.map_some,Option.getD_some,Array.all_eq_true',Bool.or_eq_true,Bool.not_eq_true']
    intro e he
    cases hb:Region.binds .any e with
    | false=>exact .inl rfl
    | true=>exact .inr (h3 e he hb)
  have Ow:∀j,j<l.length→j∉r→lz.getD j false=true:=by
   intro j hj hjr
   have:lz.getD j true≠false:=fun hf=>hjr ((hr j).2 ⟨hj,hf⟩)
   simp only[Array.getD_eq_getD_getElem?]at this⊢
   rw[Array.getElem?_eq_getElem (by omega)]at this⊢
   simpa using this
  refine⟨fun he=> ?_,fun i hi=> ?_⟩
  ·
   have tg:r = []:=by
    cases hc:r with
    | nil=>rfl
    | cons z r'=>
     exfalso
     have key:∀m,∀i,i≤m→i∈r→False:=by
      intro m
      induction m with
      | zero=>
       intro i aU nW
       have uS:i∈Region.ready .any l.toArray lz:=(oQ i).2 ⟨nW,fun e Db hb=>by
        have:=Vf i ((hr i).1 nW).1 e Db hb;omega⟩
       rw[he]at uS;cases uS
      | succ m ihm=>
       intro i aU nW
       have lZ:=((hr i).1 nW).1
       have uS:i∈Region.ready .any l.toArray lz:=(oQ i).2 ⟨nW,fun e Db hb=>by
        have bL:=Vf i lZ e Db hb
        exact Ow e.on (by omega) (fun h'=>ihm e.on (by omega) h')⟩
       rw[he]at uS;cases uS
     exact key z z (Nat.le_refl _) (by rw[hc];exact List.mem_cons_self ..)
   subst tg
   exact hQ s H a w hR h
  ·obtain⟨nW,Vg⟩:=(oQ i).1 hi
   have lZ:=((hr i).1 nW).1
   obtain⟨X,Y,rfl⟩:=List.append_of_mem nW
   have kH:∀x,x∈X→C9 md l.toArray (fi l x) (fi l i):=by
    intro x hx
    have hp:pX l l.length x i=true∨Sw md l.toArray (fi l x) (fi l i)=true:=by
     rw[List.pairwise_append]at yy
     exact yy.2.2 x hx i (List.mem_cons_self ..)
    rcases hp with hp | hp
    ·exfalso
     have h1:=ack Ki l.length x i Vg hp
     have h2:=((hr x).1 (List.mem_append_left _ hx)).2
     simp only[Array.getD_eq_getD_getElem?]at h1 h2
     cases hg:lz[x]? with
     | none=>rw[hg]at h1;simp at h1
     | some b=>rw[hg]at h1 h2;simp at h1 h2;rw[h1]at h2;cases h2
    ·exact Sw.out hp
   have Ox:∀j,j<l.length→∀d,(fi l j).dst=some d→d<n:=fun j hj=>hn _ (List.mem_of_getElem? (Kh hj))
   obtain⟨G,hl,_⟩:=hR.fits
   have acp:=aQ.front (P:=P) eZ (y:=fi l i) (Y:=Y.map (fi l)) (K:=K) (Ox i lZ) (X.map (fi l)) s H
    (fun x hx=>by obtain⟨j,hj,rfl⟩:=List.mem_map.1 hx;exact kH j hj)
    (fun x hx=>by obtain⟨j,hj,rfl⟩:=List.mem_map.1 hx;exact Ox j ((hr j).1 (List.mem_append_left _ hj)).1) ⟨a,hl.aL⟩ ⟨w,hl.den⟩ (by simpa using h)
   have hs:=ie.sound hR (Ox i lZ) acp
   have Vh:(X++Y).Nodup∧i∉X++Y:=by
    have:=(List.perm_middle (a:=i) (l₁:=X) (l₂:=Y)).nodup_iff.1 dX
    rw[List.nodup_cons]at this
    exact⟨this.2,this.1⟩
   have next:∀s' H' a' w',Rel w0 H0 n s' H' a' w'→aQ P n l.toArray md (X.map (fi l)++Y.map (fi l)) s' H' K→wpAny P .any l.toArray Q fuel (lz.setIfInBounds i true) a' w':=by
    intro s' H' a' w' dQ hk
    refine ih (X++Y) _ s' H' a' w' (fun j=> ?_) Vh.1 (by simpa using cQ) ?_ (fun j hj e Db hb=> ?_) ?_ dQ (by simpa using hk)
    ·rw[Ve (by omega)]
     by_cases e:j=i
     ·subst e
      simp only[if_true]
      exact⟨fun h'=>absurd h' Vh.2,fun h'=>by cases h'.2⟩
     ·rw[if_neg e,←hr]
      simp only[List.mem_append,List.mem_cons]
      constructor
      ·rintro(h' | h')
       ·exact .inl h'
       ·exact .inr (.inr h')
      ·rintro(h' | h' | h')
       ·exact .inl h'
       ·exact absurd h' e
       ·exact .inr h'
    ·exact yy.sublist (List.Sublist.append (List.Sublist.refl _) (List.sublist_cons_self ..))
    ·rw[Ve (by omega)]at hj⊢
     by_cases e2:e.on=i
     ·rw[if_pos e2]
     ·rw[if_neg e2]
      by_cases e3:j=i
      ·subst e3;exact Vg e Db hb
      ·rw[if_neg e3]at hj;exact Ki j hj e Db hb
    ·simp only[List.length_append,List.length_cons]at hlen⊢;omega
   unfold wpOp
   rw[show l.toArray[i]? = some (fi l i)from by rw[List.getElem?_toArray];exact Kh lZ]
   simp only
   rcases hs with ⟨h1,h2⟩ | ⟨h1,s',H',dQ,h2⟩
   ·rw[if_pos h1]
    refine .inl (Oper.Vc (Oper.wp_mono (fun a' w' hh=> ?_) h2))
    obtain⟨s',H',dQ,hk⟩:=hh
    exact next s' H' a' w' dQ hk
   ·rw[if_neg (by rw[h1];simp)]
    exact next s' H' _ w dQ h2
theorem acq{id:Nat}{perm:List Nat}{s:St}{H:Heap}{a:Act}{w:World}(hf:P.follows .mixedOrders=true)(hc:Da n md l perm=true)
  (hQ:∀s H a w,Rel w0 H0 n s H a w→K s H→Q .normal a w) (hR:Rel w0 H0 n s H a w) (h:aQ P n l.toArray md (perm.map (fi l)) s H K):(Code.region id l.toArray true).wp P Q a w:=by
 simp only[Da,Bool.and_eq_true,List.all_eq_true]at hc
 obtain⟨⟨⟨⟨⟨⟨⟨h1,h2⟩,h3⟩,h4⟩,h5⟩,h6⟩,h8⟩,h7⟩:=hc
 have h1:md≠.plain:=fun e=>by rw[e]at h1;cases h1
 have h3:=Nat.eq_of_beq_eq_true h3
 have h4:∀i,i∈perm→i<l.length:=fun i hi=>FJ (h4 i hi)
 have h5:=acn h5
 have iU:∀i,i<l.length→i∈perm:=by
  intro i hi
  simpa using h8 i (List.mem_range.2 hi)
 refine wp_region_any hf ?_
 refine aco h1 (Vd h2) (fun i hi e he hb=> ?_) hQ l.toArray.size perm _ s H a _ (fun i=> ?_) h5 (by simp) (acm h6) (fun i hi=> ?_) (by simp[h3]) ?_ h
 ·have:=h7 i (List.mem_range.2 hi)
  rw[Array.all_eq_true']at this
  have:=this e he
  simp only[Bool.or_eq_true,Bool.not_eq_true']at this
  rcases this with h' | h'
  ·rw[hb]at h';cases h'
  ·exact FJ h'
 ·constructor
  ·intro hi
   refine⟨h4 i hi,?_⟩
   simp[Array.getD_eq_getD_getElem?,h4 i hi]
  ·exact fun hi=>iU i hi.1
 ·exfalso
  simp only[Array.getD_eq_getD_getElem?,Array.getElem?_replicate]at hi
  split at hi <;> simp at hi
 ·obtain⟨G,hl,hb⟩:=hR.fits
  exact⟨hR.defers,⟨G,⟨hl.aL,hl.boxes,hl.inj,hl.refs,hl.den⟩,hb⟩,⟨hR.fx.os,hR.fx.tape,hR.fx.output,hR.fx.size,hR.fx.keep,hR.fx.form⟩⟩
end
end Go.aw
