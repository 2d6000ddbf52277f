/- Part 0 of the proof: Eng1, Eng2, Eng3, Eng4, Eng5. -/
import Derived.Orders
import Derived.Tactics
import Derived.Maps.AppendAt
import Derived.Laws.OwnMore
import Derived.Laws.MakeOwn
import Derived.Below
set_option linter.unusedVariables false
namespace Go.aq
inductive Slot where
 | val (v:Value)
 | box (cs:List Value)
 | ref (b off:Nat)
abbrev St:=Nat→Option Slot
def emp:St:=fun _=>none
def put(s:St)(d:Nat)(x:Slot):St:=fun t=>cond (Nat.beq t d) (some x) (s t)
def gX(s:St)(d:Nat)(cs:List Value):St:=fun t=>
 cond (Nat.beq t d) (some (.box cs)) (match s t with | some (.ref b o)=>cond (Nat.beq b d) none (some (.ref b o)) | x=>x)
def bE(s:St)(d:Option Nat)(x:Slot):St:=match d with | some d=>put s d x | none=>s
theorem ik(s:St)(d:Nat)(x:Slot):put s d x d=some x:=by simp[put]
theorem fF(s:St){d t:Nat}(x:Slot)(h:t≠d):put s d x t=s t:=by
 have:Nat.beq t d=false:=by
  cases hb:Nat.beq t d with
  | false=>rfl
  | true=>exact absurd (Nat.eq_of_beq_eq_true hb) h
 simp[put,this]
theorem put_comm(s:St){d e:Nat}(x y:Slot)(h:d≠e):put (put s d x) e y=put (put s e y) d x:=by
 funext t
 by_cases h1:t=d
 ·subst h1;rw[fF _ _ h,ik,ik]
 ·by_cases h2:t=e
  ·subst h2;rw[ik,fF _ _ h1,ik]
  ·rw[fF _ _ h2,fF _ _ h1,fF _ _ h1,fF _ _ h2]
structure Ent where
 xs:List Value
 size:Nat
 elem:TypeId
 own:Bool
def Ent.of(e:Ent)(o:Obj):Prop:=
 ∃(c:Array Value)(fz:Nat×Nat),o = .cells c e.elem fz∧c.size=e.size∧(∀(i:Nat)(v:Value),e.xs[i]? = some v→c[i]? = some v)∧(e.own=true→fz=(0,0))
abbrev Heap:=Nat→Option Ent
def Den(H:Heap)(w:World):Prop:=∀g e,H g=some e→∃o,w.heap[g]? = some o∧e.of o
def ins(H:Heap)(g:Nat)(e:Ent):Heap:=fun k=>if k=g then some e else H k
theorem bn(H:Heap)(g:Nat)(e:Ent):ins H g e g=some e:=by simp[ins]
theorem bg(H:Heap){g k:Nat}(e:Ent)(h:k≠g):ins H g e k=H k:=by simp[ins,h]
def Ent.le(e e':Ent):Prop:=e'.size=e.size∧e'.elem=e.elem∧e'.own=e.own∧e.xs <+:e'.xs
def Heap.le(H H':Heap):Prop:=∀g e,H g=some e→∃e',H' g=some e'∧e.le e'
theorem Ent.le.refl(e:Ent):e.le e:=⟨rfl,rfl,rfl,List.prefix_rfl⟩
theorem Ent.le.trans{a b c:Ent}(h:a.le b)(k:b.le c):a.le c:=
 ⟨k.1.trans h.1,k.2.1.trans h.2.1,k.2.2.1.trans h.2.2.1,h.2.2.2.trans k.2.2.2⟩
theorem Heap.le.refl(H:Heap):Heap.le H H:=fun _ e h=>⟨e,h,.refl e⟩
theorem Heap.le.trans{A B C:Heap}(h:Heap.le A B)(k:Heap.le B C):Heap.le A C:=fun g e he=>by
 obtain⟨e',h1,h2⟩:=h g e he
 obtain⟨NI,h3,h4⟩:=k g e' h1
 exact⟨NI,h3,h2.trans h4⟩
theorem Heap.bG{H:Heap}{g:Nat}(e:Ent)(h:H g=none):Heap.le H (ins H g e):=fun k x hk=>
 ⟨x,by rw[bg _ _ (fun e=>by subst e;rw[h]at hk;cases hk)];exact hk,.refl x⟩
theorem NJ{l l':List Value}(h:l <+:l'){i:Nat}{v:Value}(hi:l[i]? = some v):l'[i]? = some v:=by
 obtain⟨t,rfl⟩:=h
 rw[List.getElem?_append_left (List.getElem?_eq_some_iff.1 hi).1];exact hi
theorem Ent.le.of{e e':Ent}(h:e.le e'){o:Obj}(ho:e'.of o):e.of o:=by
 obtain⟨c,fz,h1,h2,h3,h4⟩:=ho
 exact⟨c,fz,by rw[h1,h.2.1],by rw[h2,h.1],fun i v hv=>h3 i v (NJ h.2.2.2 hv),fun ho=>h4 (h.2.2.1.trans ho)⟩
theorem Den.le{H H':Heap}(h:Heap.le H H'){w:World}(hd:Den H' w):Den H w:=fun g e he=>by
 obtain⟨e',h1,h2⟩:=h g e he
 obtain⟨o,h3,h4⟩:=hd g e' h1
 exact⟨o,h3,h2.of h4⟩
theorem Den.lt{H:Heap}{w:World}(h:Den H w){g:Nat}{e:Ent}(hg:H g=some e):g<w.heap.size:=by
 obtain⟨o,h1,_⟩:=h g e hg
 exact(Array.getElem?_eq_some_iff.1 h1).1
theorem Den.fresh{H:Heap}{w:World}(h:Den H w):H w.heap.size=none:=by
 cases hg:H w.heap.size with
 | none=>rfl
 | some e=>have:=h.lt hg;omega
def cell(H:Heap)(a:Addr):Option Value:=
 match H a.block with
 | some e=>if a.spot.isSome then none else e.xs[a.off]?
 | none=>none
theorem Den.cell{H:Heap}{w:World}(h:Den H w){a:Addr}{v:Value}(hc:cell H a=some v):w.cell? a=some v:=by
 unfold aq.cell at hc
 cases hg:H a.block with
 | none=>rw[hg]at hc;cases hc
 | some e=>
  rw[hg]at hc
  obtain⟨o,h1,c,fz,rfl,h3,h4,_⟩:=h _ _ hg
  simp only at hc
  split at hc
  ·cases hc
  ·rename_i hs
   simp[World.cell?,h1,hs,h4 _ _ hc]
theorem cB{H H':Heap}(h:Heap.le H H'){a:Addr}{v:Value}(hc:cell H a=some v):cell H' a=some v:=by
 unfold cell at hc⊢
 cases hg:H a.block with
 | none=>rw[hg]at hc;cases hc
 | some e=>
  rw[hg]at hc
  obtain⟨e',h1,h2⟩:=h _ _ hg
  rw[h1]
  simp only at hc⊢
  split at hc
  ·cases hc
  ·rename_i hs
   rw[if_neg hs];exact NJ h2.2.2.2 hc
structure Fx(H:Heap)(w:World)(H':Heap)(w':World):Prop where
 os:w'.os=w.os
 tape:w'.tape=w.tape
 output:w'.output=w.output
 size:w.heap.size≤w'.heap.size
 keep:∀g,g<w.heap.size→H g=none→w'.heap[g]? = w.heap[g]?∧H' g=none
 form:∀(g:Nat)(c:Array Value)(t:TypeId)(fz:Nat×Nat),w.heap[g]? = some (.cells c t fz)→∃c',w'.heap[g]? = some (.cells c' t fz)∧c'.size=c.size
theorem Fx.refl(H:Heap)(w:World):Fx H w H w:=⟨rfl,rfl,rfl,Nat.le_refl _,fun _ _ h=>⟨rfl,h⟩,fun _ c _ _ h=>⟨c,h,rfl⟩⟩
theorem Fx.trans{H H' th:Heap}{w w' Ff:World}(h:Fx H w H' w')(k:Fx H' w' th Ff):Fx H w th Ff:=
 ⟨k.os.trans h.os,k.tape.trans h.tape,k.output.trans h.output,Nat.le_trans h.size k.size,fun g hg h0=>by
  have h1:=h.keep g hg h0
  have h2:=k.keep g (Nat.lt_of_lt_of_le hg h.size) h1.2
  exact⟨h2.1.trans h1.1,h2.2⟩,fun g c t fz hc=>by
  obtain⟨c1,h1,h2⟩:=h.form g c t fz hc
  obtain⟨c2,h3,h4⟩:=k.form g c1 t fz h1
  exact⟨c2,h3,h4.trans h2⟩⟩
theorem Fx.NK{w w':World}(h:∀g,g<w.heap.size→w'.heap[g]? = w.heap[g]?):∀(g:Nat)(c:Array Value)(t:TypeId)(fz:Nat×Nat),w.heap[g]? = some (.cells c t fz)→∃c',w'.heap[g]? = some (.cells c' t fz)∧c'.size=c.size:=
 fun g c t fz hc=>⟨c,by rw[h g (Array.getElem?_eq_some_iff.1 hc).1];exact hc,rfl⟩
structure gA(n:Nat)(s:St)(a:Act):Prop where
 size:a.tmps.size=n
 at_:∀t v,s t=some (.val v)→a.tmps[t]? = some v
structure Rl(n:Nat)(s:St)(H:Heap)(G:Nat→Nat)(a:Act)(w:World):Prop where
 aK:gA n s a
 boxes:∀t cs,s t=some (.box cs)→a.tmps[t]? = some (.pointer (some ⟨G t,0,none⟩))∧H (G t)=none∧∃e,w.heap[G t]? = some (.cells cs.toArray e (0,0))
 inj:∀t t' cs cG,s t=some (.box cs)→s t'=some (.box cG)→G t=G t'→t=t'
 refs:∀t b off cs,s t=some (.ref b off)→s b=some (.box cs)→a.tmps[t]? = some (.pointer (some ⟨G b,off,none⟩))
 den:Den H w
structure Rel(w0:World)(H0:Heap)(n:Nat)(s:St)(H:Heap)(a:Act)(w:World):Prop where
 defers:a.defers = []
 fits:∃G,Rl n s H G a w∧∀t cs,s t=some (.box cs)→w0.heap.size≤G t
 fx:Fx H0 w0 H w
def ev(s:St):Operand→Option Value
 | .tmp t=>match s t with | some (.val v)=>some v | _=>none
 | .const v=>some v
 | .func f=>some (.func (.func f) #[] #[])
 | .global g=>some (.pointer (some ⟨g,0,none⟩))
theorem bT{n:Nat}{s:St}{a:Act}(h:gA n s a){x:Operand}{v:Value}(hx:ev s x=some v):a.eval x=v:=by
 cases x with
 | tmp t=>
  simp only[ev]at hx
  cases hs:s t with
  | none=>rw[hs]at hx;cases hx
  | some y=>
   rw[hs]at hx
   cases y with
   | val u=>
    simp only[Option.some.injEq]at hx
    subst hx
    have:=h.at_ t u hs
    simp[Act.eval,this]
   | box=>cases hx
   | ref=>cases hx
 | const u=>simp only[ev,Option.some.injEq]at hx;exact hx
 | func f=>simp only[ev,Option.some.injEq]at hx;exact hx
 | global g=>simp only[ev,Option.some.injEq]at hx;exact hx
theorem Act.yu(a:Act)(d:Nat)(v:Value)(h:d<a.tmps.size):(a.put (some d) v).tmps[d]? = some v:=by
 simp[Act.put,h]
theorem Act.ry(a:Act){d t:Nat}(v:Value)(h:t≠d):(a.put (some d) v).tmps[t]? = a.tmps[t]? :=by
 simp[Act.put,Array.getElem?_setIfInBounds_ne (Ne.symm h)]
theorem Act.CV(a:Act)(d:Option Tmp)(v:Value):(a.put d v).tmps.size=a.tmps.size:=by
 cases d <;> simp[Act.put]
theorem Act.Ud(a:Act)(d:Option Tmp)(v:Value):(a.put d v).defers=a.defers:=by
 cases d <;> rfl
def NL(G:Nat→Nat):Slot→Value→Prop
 | .val v,u=>u=v
 | .ref b off,u=>u = .pointer (some ⟨G b,off,none⟩)
 | .box _,_=>False
theorem Rl.put{n:Nat}{s:St}{H:Heap}{G:Nat→Nat}{a:Act}{w:World}(h:Rl n s H G a w){d:Nat}{x:Slot}{v:Value}(hn:d<n)(hx:NL G x v):
  Rl n (put s d x) H G (a.put (some d) v) w:=by
 have hd:d<a.tmps.size:=by rw[h.aK.size];exact hn
 have nb:∀t cs,aq.put s d x t=some (.box cs)→t≠d∧s t=some (.box cs):=by
  intro t cs ht
  by_cases e:t=d
  ·subst e
   rw[ik]at ht
   simp only[Option.some.injEq]at ht
   subst ht
   exact hx.elim
  ·rw[fF _ _ e]at ht;exact⟨e,ht⟩
 refine⟨⟨by rw[Act.CV];exact h.aK.size,fun t u ht=> ?_⟩,fun t cs ht=> ?_,fun t t' cs cG ht pf e=> ?_,fun t b off cs ht hb=> ?_,h.den⟩
 ·by_cases e:t=d
  ·subst e
   rw[ik]at ht
   simp only[Option.some.injEq]at ht
   subst ht
   rw[Act.yu _ _ _ hd,hx]
  ·rw[fF _ _ e]at ht
   rw[Act.ry _ _ e];exact h.aK.at_ t u ht
 ·obtain⟨e,ht⟩:=nb t cs ht
  rw[Act.ry _ _ e];exact h.boxes t cs ht
 ·exact h.inj t t' cs cG (nb t cs ht).2 (nb t' cG pf).2 e
 ·obtain⟨_,hb⟩:=nb b cs hb
  by_cases e:t=d
  ·subst e
   rw[ik]at ht
   simp only[Option.some.injEq]at ht
   subst ht
   rw[Act.yu _ _ _ hd,hx]
  ·rw[fF _ _ e]at ht
   rw[Act.ry _ _ e];exact h.refs t b off cs ht hb
theorem Rl.uR{n:Nat}{s:St}{H H':Heap}{G:Nat→Nat}{a:Act}{w w':World}(h:Rl n s H G a w)(hd:Den H' w')(hf:Fx H w H' w'):Rl n s H' G a w':=
 ⟨h.aK,fun t cs ht=>by
  obtain⟨h1,h2,e,h3⟩:=h.boxes t cs ht
  obtain⟨h4,h5⟩:=hf.keep (G t) (Array.getElem?_eq_some_iff.1 h3).1 h2
  exact⟨h1,h5,e,h4.trans h3⟩,h.inj,h.refs,hd⟩
theorem Rl.le{n:Nat}{s:St}{H H':Heap}{G:Nat→Nat}{a:Act}{w:World}(h:Rl n s H' G a w)(hl:Heap.le H H'):Rl n s H G a w:=
 ⟨h.aK,fun t cs ht=>by
  obtain⟨h1,h2,h3⟩:=h.boxes t cs ht
  refine⟨h1,?_,h3⟩
  cases hg:H (G t)with
  | none=>rfl
  | some e=>(obtain⟨e',h4,_⟩:=hl _ _ hg;rw[h2]at h4;exact nomatch h4),h.inj,h.refs,h.den.le hl⟩
theorem gA.back{n:Nat}{s s':St}{a:Act}{d:Nat}(h:gA n s' a)(hs:∀t v,t≠d→s t=some (.val v)→s' t=some (.val v))(hd:d<n):∃v,gA n s (a.put (some d) v):=by
 have mL:d<a.tmps.size:=by rw[h.size];exact hd
 have key:∀v,(∀u,s d=some (.val u)→v=u)→gA n s (a.put (some d) v):=fun v h1=>
  ⟨by rw[Act.CV];exact h.size,fun t u ht=>by
   by_cases e:t=d
   ·subst e;rw[Act.yu _ _ _ mL,h1 u ht]
   ·rw[Act.ry _ _ e];exact h.at_ t u (hs t u e ht)⟩
 cases hx:s d with
 | none=>exact⟨undef,key _ (fun u hu=>by rw[hx]at hu;cases hu)⟩
 | some y=>
  cases y with
  | val u=>exact⟨u,key _ (fun u' hu=>by rw[hx]at hu;cases hu;rfl)⟩
  | box cs=>exact⟨undef,key _ (fun u hu=>by rw[hx]at hu;cases hu)⟩
  | ref b o=>exact⟨undef,key _ (fun u hu=>by rw[hx]at hu;cases hu)⟩
theorem Rl.back{n:Nat}{s s':St}{H:Heap}{G:Nat→Nat}{a:Act}{w:World}{d:Nat}(h:Rl n s' H G a w)(hn:∀cs,s d≠some (.box cs))
  (hs:∀t x,t≠d→s t=some x→(∀b o,x = .ref b o→b≠d)→s' t=some x) (hd:d<n):∃v,Rl n s H G (a.put (some d) v) w:=by
 have mL:d<a.tmps.size:=by rw[h.aK.size];exact hd
 have wu:∀t cs,s t=some (.box cs)→s' t=some (.box cs)∧t≠d:=fun t cs ht=>by
  have e:t≠d:=fun e=>by subst e;exact hn cs ht
  exact⟨hs t _ e ht (fun b o h=>by cases h),e⟩
 have key:∀v,(∀u,s d=some (.val u)→v=u)→(∀b o,s d=some (.ref b o)→v = .pointer (some ⟨G b,o,none⟩))→Rl n s H G (a.put (some d) v) w:=by
  intro v h1 h2
  refine⟨⟨by rw[Act.CV];exact h.aK.size,fun t u ht=> ?_⟩,fun t cs ht=> ?_,fun t t' cs cG ht pf e=> ?_,fun t b off cs ht hb=> ?_,h.den⟩
  ·by_cases e:t=d
   ·subst e;rw[Act.yu _ _ _ mL,h1 u ht]
   ·rw[Act.ry _ _ e];exact h.aK.at_ t u (hs t _ e ht (fun b o h=>by cases h))
  ·obtain⟨h3,e⟩:=wu t cs ht
   rw[Act.ry _ _ e];exact h.boxes t cs h3
  ·exact h.inj t t' cs cG (wu t cs ht).1 (wu t' cG pf).1 e
  ·obtain⟨tj,eb⟩:=wu b cs hb
   by_cases e:t=d
   ·subst e;rw[Act.yu _ _ _ mL,h2 b off ht]
   ·rw[Act.ry _ _ e]
    exact h.refs t b off cs (hs t _ e ht (fun b' o' h=>by cases h;exact eb)) tj
 cases hx:s d with
 | none=>exact⟨undef,key _ (fun u hu=>by rw[hx]at hu;cases hu) (fun b o hu=>by rw[hx]at hu;cases hu)⟩
 | some y=>
  cases y with
  | val u=>exact⟨u,key _ (fun u' hu=>by rw[hx]at hu;cases hu;rfl) (fun b o hu=>by rw[hx]at hu;cases hu)⟩
  | box cs=>exact absurd hx (hn cs)
  | ref b o=>exact⟨_,key (.pointer (some ⟨G b,o,none⟩)) (fun u hu=>by rw[hx]at hu;cases hu) (fun b' o' hu=>by rw[hx]at hu;cases hu;rfl)⟩
end Go.aq
namespace Go.aq
section
variable (P:Program) (n:Nat)
def Fg(all:Array Oper)(s:St)(o:Oper):Prop:=
 o.guard=none∨∃j want d,o.guard=some (j,want)∧(all[j]?).bind (·.dst)=some d∧s d=some (.val (.bool want))
def Ue(all:Array Oper)(s:St)(o:Oper):Prop:=
 ∃j want d v,o.guard=some (j,want)∧(all[j]?).bind (·.dst)=some d∧s d=some (.val v)∧((∃b,v = .bool b∧b≠want)∨∃ts,v = .tuple ts)
def JD(all:Array Oper)(o:Oper)(s:St)(H:Heap)(v:Value):Prop:=∀a w,gA n s a→Den H w→
 (Region.wanted o (yielded all a.tmps)=true∧(execOp a.eval o).run P w = .ok (.value v) w)∨(Region.wanted o (yielded all a.tmps)=false∧v=undef)
def CW(all:Array Oper)(o:Oper)(s:St)(H:Heap)(x:Slot):Prop:=∀G a w,Rl n s H G a w→
 ∃v,NL G x v∧Region.wanted o (yielded all a.tmps)=true∧(execOp a.eval o).run P w = .ok (.value v) w
def wv(all:Array Oper)(o:Oper)(s:St)(cs:List Value):Prop:=∀a w,gA n s a→
 Region.wanted o (yielded all a.tmps)=true∧∃e,(execOp a.eval o).run P w = .ok (.value (.pointer (some ⟨w.heap.size,0,none⟩))) (w.alloc (.cells cs.toArray e (0,0)))
structure Uf(w w':World)(g:Nat)(cs:List Value):Prop where
 os:w'.os=w.os
 tape:w'.tape=w.tape
 output:w'.output=w.output
 size:w'.heap.size=w.heap.size
 other:∀k,k≠g→w'.heap[k]? = w.heap[k]?
 new:∃e,w'.heap[g]? = some (.cells cs.toArray e (0,0))
def JE(all:Array Oper)(o:Oper)(s:St)(b:Nat)(cG:List Value):Prop:=∀H G a w,Rl n s H G a w→
 Region.wanted o (yielded all a.tmps)=true∧∃w',(execOp a.eval o).run P w = .ok .skip w'∧Uf w w' (G b) cG
def uS(all:Array Oper)(o:Oper)(s:St)(mk:Nat→Value)(xs:List Value)(e:TypeId):Prop:=∀a w,gA n s a→
 Region.wanted o (yielded all a.tmps)=true∧(execOp a.eval o).run P w = .ok (.value (mk w.heap.size)) (w.alloc (.cells xs.toArray e (0,0)))
def whole(xs:List Value)(e:TypeId):Ent:=⟨xs,xs.length,e,true⟩
def lE(o:Oper)(ρ:Operand→Value)(w:World)(R:Value→World→Prop):Prop:=
 match (execOp ρ o).run P w with
 | .ok (.value v) w'=>R v w'
 | .ok .skip w'=>R undef w'
 | .ok (.enter f args) w'=>Calls P f args w' fun e Ff=>∃v,e = .returned v∧R v Ff
 | _=>False
def EV(all:Array Oper)(o:Oper)(s:St)(H:Heap)(bF:Value→Heap→Prop):Prop:=∀a w,gA n s a→Den H w→
 Region.wanted o (yielded all a.tmps)=true∧lE P o a.eval w (fun v w'=>∃H',bF v H'∧Den H' w'∧Fx H w H' w')
inductive Mode where
 | plain | bJ | gB | uT
 | cO (kc:Addr→Option Value)
 | pg (st:List Nat)
def Mode.Ug:Mode→Bool
 | .plain=>true
 | _=>false
def Mode.NM:Mode→Bool
 | .bJ=>true
 | .pg _=>true
 | _=>false
def Mode.NN:Mode→Bool
 | .pg _=>true
 | _=>false
def Mode.wr:Mode→Nat→Bool
 | .pg st,b=>st.contains b
 | _,_=>false
def Mode.Uh:Mode→Nat→Bool
 | .pg st,b=>st.contains b
 | _,_=>true
def ju(md:Mode)(s s':St):Prop:=∀t,s' t=s t∨(md.wr t=true∧∃c c',s t=some (.box c)∧s' t=some (.box c'))
theorem ju.refl(md:Mode)(s:St):ju md s s:=fun _=> .inl rfl
theorem ju.val{md:Mode}{s s':St}(h:ju md s s'){t:Nat}{x:Slot}(hx:∀c,x≠.box c)(e:s t=some x):s' t=some x:=by
 rcases h t with h1 | ⟨_,c,c',h1,_⟩
 ·rw[h1,e]
 ·rw[e]at h1;exact absurd (Option.some.inj h1) (hx c)
theorem ju.box{md:Mode}{s s':St}(h:ju md s s'){t:Nat}{c:List Value}(e:s t=some (.box c)):∃c',s' t=some (.box c'):=by
 rcases h t with h1 | ⟨_,_,c',_,h1⟩
 ·exact⟨c,by rw[h1,e]⟩
 ·exact⟨c',h1⟩
theorem ju.keep{md:Mode}{s s':St}(h:ju md s s'){t:Nat}(e:md.wr t=false):s' t=s t:=by
 rcases h t with h1 | ⟨h1,_⟩
 ·exact h1
 ·rw[e]at h1;cases h1
def Mode.Ui:Mode→Bool
 | .uT=>true
 | _=>false
def Mode.nZ:Mode→Bool
 | .cO _=>true
 | _=>false
def Mode.kc:Mode→Addr→Option Value
 | .cO k=>k
 | _=>fun _=>none
def Mode.fM(md:Mode)(H:Heap):Prop:=∀ad v,md.kc ad=some v→cell H ad=some v
def ji(s:St)(d:Option Nat):Bool:=
 match d with
 | some d=>(match s d with | some (.box _)=>false | _=>true)
 | none=>true
def Az:Op→Bool
 | .store .. =>true
 | _=>false
def Fh:Op→Bool
 | .load .. | .fieldAddr .. =>true
 | _=>false
def AA:Op→Bool
 | .alloc _ | .box .. =>true
 | _=>false
def AB:Op→Bool
 | .buildSlice .. =>true
 | _=>false
def rz(o:Op):Bool:=AA o||AB o
def Real(H:Heap):Prop:=∃w,Den H w
def tk:Op→Bool
 | .select .. =>false
 | _=>true
def JF(c:Call):Bool:=
 match c.callee with
 | .builtin .len | .builtin .cap | .builtin .min | .builtin .max=>true
 | _=>false
def kd:Op→Nat
 | .store .. =>2
 | .alloc _ | .box .. | .buildSlice .. =>3
 | .call c=>if JF c then 0 else 1
 | .makeSlice .. | .go _ | .defer _ | .panic _ | .send .. | .recv .. | .select .. | .mapUpdate .. | .mapEntry .. | .entryStore .. | .insert .. | .makeMap .. | .makeChan .. | .ready _ | .next .. | .range .. =>1
 | _=>0
def Mode.ok(md:Mode)(o:Oper)(H:Heap)(bF:Value→Heap→Prop):Prop:=
 match md with
 | .plain=>True
 | .bJ=>Az o.op=false∧∀v H',bF v H'→Heap.le H H'
 | .gB=>Az o.op=true∨∀v H',bF v H'→Heap.le H H'
 | .uT=>True
 | .cO _=>True
 | .pg _=>Az o.op=false∧∀v H',bF v H'→Heap.le H H'
def Mode.nb(md:Mode)(s:St)(d:Option Nat):Bool:=
 match md with
 | .plain=>true
 | .cO _=>false
 | _=>match d with
  | some d=>(match s d with | some (.box _)=>false | _=>true)
  | none=>true
def Slot.tl(s:St):Slot→Bool
 | .val _=>true
 | .box _=>false
 | .ref b _=>match s b with | some (.box _)=>true | _=>false
def JG(md:Mode)(all:Array Oper)(o:Oper)(s:St)(v:Value):Prop:=∀a w,gA n s a→(∀ad u,md.kc ad=some u→w.cell? ad=some u)→
 (Region.wanted o (yielded all a.tmps)=true∧(execOp a.eval o).run P w = .ok (.value v) w)∨(Region.wanted o (yielded all a.tmps)=false∧v=undef)
inductive gY(all:Array Oper)(md:Mode)(o:Oper)(s:St)(H:Heap)(K:St→Heap→Prop):Prop
 | jH (v:Value) (hm:rz o.op=false∨o.guard≠none) (nb:md.nb s o.dst=true) (h:JD P n all o s H v) (k:K (bE s o.dst (.val v)) H)
 | jv (x:Slot) (hm:Fh o.op=true) (nb:md.nb s o.dst=true) (hx:x.tl s=true) (h:∀s',ju md s s'→CW P n all o s' H x) (k:K (bE s o.dst x) H)
 | jI (d:Nat) (hd:o.dst=some d) (hm:AA o.op=true) (nb:md.nb s o.dst=true) (cs:List Value) (h:wv P n all o s cs) (k:K (gX s d cs) H)
 | l7 (b:Nat) (cs cG:List Value) (hd:o.dst=none) (hm:Az o.op=true) (hb:s b=some (.box cs)) (hw:md.Uh b=true) (h:JE P n all o s b cG) (k:K (put s b (.box cG)) H)
 | fresh (mk:Nat→Value) (xs:List Value) (e:TypeId) (hm:AB o.op=true∨(md = .plain∧AA o.op=true)) (nb:md.nb s o.dst=true) (h:uS P n all o s mk xs e) (k:∀g,H g=none→Real (ins H g (whole xs e))→K (bE s o.dst (.val (mk g))) (ins H g (whole xs e)))
 | iU (bF:Value→Heap→Prop) (ha:kd o.op=1∨kd o.op=2∨md = .plain) (nb:md.nb s o.dst=true) (h:EV P n all o s H bF) (hm:md.ok o H bF) (k:∀v H',bF v H'→Real H'→K (bE s o.dst (.val v)) H')
 | l8 (v:Value) (hk:md.nZ=true) (hm:rz o.op=false) (nb:ji s o.dst=true) (hc:md.fM H) (h:JG P n md all o s v) (k:K (bE s o.dst (.val v)) H)
 | oa (mk:Nat→Value) (xs:List Value) (e:TypeId) (hk:md.nZ=true) (hm:AB o.op=true) (nb:ji s o.dst=true) (h:uS P n all o s mk xs e) (k:∀g,H g=none→Real (ins H g (whole xs e))→K (bE s o.dst (.val (mk g))) (ins H g (whole xs e)))
 | mM (bF:Value→Heap→Prop) (hk:md.nZ=true) (ha:kd o.op=1∨kd o.op=2) (nb:ji s o.dst=true) (h:EV P n all o s H bF) (hm:Az o.op=true∨∀v H',bF v H'→md.fM H') (k:∀v H',bF v H'→Real H'→K (bE s o.dst (.val v)) H')
end
theorem lE.mono{P:Program}{o:Oper}{ρ:Operand→Value}{w:World}{R R':Value→World→Prop}(h:lE P o ρ w R)(hr:∀v w',R v w'→R' v w'):lE P o ρ w R':=by
 unfold lE at h⊢
 split at h
 ·exact hr _ _ h
 ·exact hr _ _ h
 ·exact h.mono fun e w' ⟨v,he,h⟩=>⟨v,he,hr _ _ h⟩
 ·exact h
theorem lE.wp{P:Program}{o:Oper}{a:Act}{w:World}{R:Value→World→Prop}{K:Act→World→Prop}{Q:Exit→Act→World→Prop}(h:lE P o a.eval w R)(hk:∀v w',R v w'→K (a.put o.dst v) w'):o.wp P a w K Q:=by
 unfold lE at h
 unfold Oper.wp
 split at h
 ·rename_i v w' e;rw[e];exact hk _ _ h
 ·rename_i w' e;rw[e];exact hk _ _ h
 ·rename_i f args w' e;rw[e]
  exact h.mono fun e w' ⟨v,he,h⟩=>by subst he;exact hk _ _ h
 ·exact h.elim
section sound
variable {P:Program} {all:Array Oper} {md:Mode} {o:Oper} {s:St} {H:Heap} {K:St→Heap→Prop} {w0:World} {H0:Heap} {n:Nat} {a:Act} {w:World}
theorem jJ(h:gA n s a)(hr:Fg all s o):Region.wanted o (yielded all a.tmps)=true:=by
 rcases hr with hg | ⟨j,want,d,hg,hd,hs⟩
 ·simp[Region.wanted,hg]
 ·have:=h.at_ d _ hs
  simp[Region.wanted,hg,yielded,hd,this]
theorem abX(h:gA n s a)(hr:Ue all s o):Region.wanted o (yielded all a.tmps)=false:=by
 obtain⟨j,want,d,v,hg,hd,hs,bo⟩:=hr
 have:=h.at_ d _ hs
 rcases bo with ⟨b,rfl,bo⟩ | ⟨ts,rfl⟩
 ·simp[Region.wanted,hg,yielded,hd,this,bo]
 ·simp[Region.wanted,hg,yielded,hd,this]
theorem Rel.put(h:Rel w0 H0 n s H a w){d:Option Nat}(hd:∀k,d=some k→k<n){x:Slot}{v:Value}{G:Nat→Nat}(hl:Rl n s H G a w)(hb:∀t cs,s t=some (.box cs)→w0.heap.size≤G t)(hx:NL G x v):
  Rel w0 H0 n (bE s d x) H (a.put d v) w:=by
 cases d with
 | none=>exact⟨h.defers,⟨G,hl,hb⟩,h.fx⟩
 | some d=>
  refine⟨by rw[Act.Ud];exact h.defers,⟨G,hl.put (hd d rfl) hx,fun t cs ht=> ?_⟩,h.fx⟩
  by_cases e:t=d
  ·subst e
   rw[show bE s (some t) x=aq.put s t x from rfl,ik]at ht
   simp only[Option.some.injEq]at ht
   subst ht
   exact hx.elim
  ·rw[show bE s (some d) x=aq.put s d x from rfl,fF _ _ e]at ht
   exact hb t cs ht
theorem tm(s:St)(d:Nat)(cs:List Value):gX s d cs d=some (.box cs):=by simp[gX]
def uU(d:Nat):Option Slot→Option Slot
 | some (.ref b o)=>cond (Nat.beq b d) none (some (.ref b o))
 | x=>x
theorem ph(s:St){d t:Nat}(cs:List Value)(h:t≠d):gX s d cs t=uU d (s t):=by
 have:Nat.beq t d=false:=by
  cases hb:Nat.beq t d with
  | false=>rfl
  | true=>exact absurd (Nat.eq_of_beq_eq_true hb) h
 unfold gX
 rw[this]
 cases hs:s t with
 | none=>rfl
 | some x=>cases x <;> rfl
theorem NO{s:St}{d t:Nat}{cs:List Value}{v:Value}(h:gX s d cs t=some (.val v)):t≠d∧s t=some (.val v):=by
 have e:t≠d:=fun e=>by subst e;rw[tm]at h;cases h
 refine⟨e,?_⟩
 rw[ph _ _ e]at h
 unfold uU at h
 split at h
 ·rename_i b o' _
  cases hb:Nat.beq b d <;> rw[hb]at h <;> cases h
 ·exact h
theorem abY{s:St}{d t b off:Nat}{cs:List Value}(h:gX s d cs t=some (.ref b off)):t≠d∧b≠d∧s t=some (.ref b off):=by
 have e:t≠d:=fun e=>by subst e;rw[tm]at h;cases h
 rw[ph _ _ e]at h
 unfold uU at h
 split at h
 ·rename_i b' o' hs
  cases hb:Nat.beq b' d with
  | true=>rw[hb]at h;cases h
  | false=>
   rw[hb]at h
   simp only[cond_false,Option.some.injEq,Slot.ref.injEq]at h
   obtain⟨rfl,rfl⟩:=h
   exact⟨e,(fun e=>by subst e;rw[Nat.beq_refl]at hb;cases hb),hs⟩
 ·rename_i hn
  exact absurd h (hn b off)
theorem rA{s:St}{d t:Nat}{cs cG:List Value}(h:gX s d cs t=some (.box cG)):(t=d∧cG=cs)∨(t≠d∧s t=some (.box cG)):=by
 by_cases e:t=d
 ·subst e
  rw[tm]at h
  simp only[Option.some.injEq,Slot.box.injEq]at h
  exact .inl ⟨rfl,h.symm⟩
 ·refine .inr ⟨e,?_⟩
  rw[ph _ _ e]at h
  unfold uU at h
  split at h
  ·rename_i b o' _
   cases hb:Nat.beq b d <;> rw[hb]at h <;> cases h
  ·exact h
theorem Den.alloc{H:Heap}{w:World}(h:Den H w)(o:Obj):Den H (w.alloc o):=fun g e hg=>by
 obtain⟨o',h1,h2⟩:=h g e hg
 exact⟨o',by rw[RowKit.Below.heap_alloc _ _ _ (h.lt hg)];exact h1,h2⟩
theorem Rl.jI{G:Nat→Nat}(h:Rl n s H G a w){d:Nat}(hn:d<n)(cs:List Value)(e:TypeId):
  Rl n (gX s d cs) H (fun t=>if t=d then w.heap.size else G t) (a.put (some d) (.pointer (some ⟨w.heap.size,0,none⟩))) (w.alloc (.cells cs.toArray e (0,0))):=by
 have hd:d<a.tmps.size:=by rw[h.aK.size];exact hn
 have bX:∀t cs,s t=some (.box cs)→G t<w.heap.size:=fun t cs ht=>by
  obtain⟨_,_,e,h3⟩:=h.boxes t cs ht
  exact(Array.getElem?_eq_some_iff.1 h3).1
 refine⟨⟨by rw[Act.CV];exact h.aK.size,fun t v ht=> ?_⟩,fun t cG ht=> ?_,fun t t' Uj Uk ht pf hG=> ?_,fun t b off cG ht hb=> ?_,h.den.alloc _⟩
 ·obtain⟨e1,ht⟩:=NO ht
  rw[Act.ry _ _ e1];exact h.aK.at_ t v ht
 ·rcases rA ht with ⟨rfl,rfl⟩ | ⟨e1,ht⟩
  ·simp only[if_true]
   exact⟨Act.yu _ _ _ hd,h.den.fresh,e,heap_alloc_new w _⟩
  ·rw[if_neg e1,Act.ry _ _ e1]
   obtain⟨h1,h2,e2,h3⟩:=h.boxes t cG ht
   exact⟨h1,h2,e2,by rw[RowKit.Below.heap_alloc _ _ _ (bX t cG ht)];exact h3⟩
 ·rcases rA ht with ⟨h1,_⟩ | ⟨e1,h1⟩
  ·rcases rA pf with ⟨h2,_⟩ | ⟨e2,h2⟩
   ·rw[h1,h2]
   ·rw[if_pos h1,if_neg e2]at hG
    have:=bX t' Uk h2;omega
  ·rcases rA pf with ⟨h2,_⟩ | ⟨e2,h2⟩
   ·rw[if_pos h2,if_neg e1]at hG
    have:=bX t Uj h1;omega
   ·rw[if_neg e1,if_neg e2]at hG
    exact h.inj t t' Uj Uk h1 h2 hG
 ·obtain⟨e1,e2,ht⟩:=abY ht
  rcases rA hb with ⟨rfl,rfl⟩ | ⟨_,hb⟩
  ·exact absurd rfl e2
  ·rw[if_neg e2,Act.ry _ _ e1]
   exact h.refs t b off cG ht hb
theorem Rl.l7{G:Nat→Nat}(h:Rl n s H G a w){b:Nat}{cs cG:List Value}(hb:s b=some (.box cs)){w':World}(hw:Uf w w' (G b) cG):
  Rl n (aq.put s b (.box cG)) H G a w':=by
 have wu:∀t c,aq.put s b (.box cG) t=some (.box c)→∃c',s t=some (.box c')∧((t=b∧c=cG)∨(t≠b∧c=c')):=by
  intro t c ht
  by_cases e:t=b
  ·subst e
   rw[ik]at ht
   simp only[Option.some.injEq,Slot.box.injEq]at ht
   exact⟨cs,hb,.inl ⟨rfl,ht.symm⟩⟩
  ·rw[fF _ _ e]at ht
   exact⟨c,ht,.inr ⟨e,rfl⟩⟩
 refine⟨⟨h.aK.size,fun t v ht=> ?_⟩,fun t c ht=> ?_,fun t t' c1 c2 ht pf hG=> ?_,fun t b' off c ht tj=> ?_,fun g e hg=> ?_⟩
 ·by_cases e:t=b
  ·subst e;rw[ik]at ht;cases ht
  ·rw[fF _ _ e]at ht;exact h.aK.at_ t v ht
 ·obtain⟨c',hs,hc⟩:=wu t c ht
  obtain⟨h1,h2,e,h3⟩:=h.boxes t c' hs
  rcases hc with ⟨rfl,rfl⟩ | ⟨bo,rfl⟩
  ·exact⟨h1,h2,hw.new⟩
  ·exact⟨h1,h2,e,by rw[hw.other _ (fun hG=>bo (h.inj t b _ _ hs hb hG))];exact h3⟩
 ·obtain⟨c1',hs,_⟩:=wu t c1 ht
  obtain⟨c2',mN,_⟩:=wu t' c2 pf
  exact h.inj t t' c1' c2' hs mN hG
 ·obtain⟨c',hs,_⟩:=wu b' c tj
  by_cases e:t=b
  ·subst e;rw[ik]at ht;cases ht
  ·rw[fF _ _ e]at ht;exact h.refs t b' off c' ht hs
 ·obtain⟨o',h1,h2⟩:=h.den g e hg
  refine⟨o',?_,h2⟩
  rw[hw.other _ (fun hG=> ?_)]
  ·exact h1
  ·obtain⟨_,h3,_⟩:=h.boxes b cs hb
   rw[←hG,hg]at h3;cases h3
theorem gY.sound(hR:Rel w0 H0 n s H a w)(rB:∀d,o.dst=some d→d<n)(h:gY P n all md o s H K):
  (Region.wanted o (yielded all a.tmps)=true∧o.wp P a w (fun a' w'=>∃s' H',Rel w0 H0 n s' H' a' w'∧K s' H') (fun _ _ _=>False))∨
  (Region.wanted o (yielded all a.tmps)=false∧∃s' H',Rel w0 H0 n s' H' (a.put o.dst undef) w∧K s' H'):=by
 obtain⟨G,hl,hb⟩:=hR.fits
 cases h with
 | jH v hm nb h k=>
  rcases h a w hl.aK hl.den with ⟨h1,h2⟩ | ⟨h1,h2⟩
  ·refine .inl ⟨h1,?_⟩
   unfold Oper.wp
   rw[h2]
   exact⟨_,_,hR.put (x:= .val v) rB hl hb rfl,k⟩
  ·subst h2
   exact .inr ⟨h1,_,_,hR.put (x:= .val undef) rB hl hb rfl,k⟩
 | jv x hm nb hx h k=>
  obtain⟨v,ny,h1,h2⟩:=h s (.refl _ _) G a w hl
  refine .inl ⟨h1,?_⟩
  unfold Oper.wp
  rw[h2]
  exact⟨_,_,hR.put rB hl hb ny,k⟩
 | jI d hd hm nb cs h k=>
  obtain⟨h1,e,h2⟩:=h a w hl.aK
  refine .inl ⟨h1,?_⟩
  unfold Oper.wp
  rw[h2]
  show ∃s' H',Rel w0 H0 n s' H' (a.put o.dst _) _∧K s' H'
  rw[hd]
  refine⟨_,_,⟨by rw[Act.Ud];exact hR.defers,⟨_,hl.jI (rB d hd) cs e,fun t cG ht=> ?_⟩,?_⟩,k⟩
  ·rcases rA ht with ⟨rfl,rfl⟩ | ⟨e1,ht⟩
   ·simp only[if_true];exact hR.fx.size
   ·rw[if_neg e1];exact hb t cG ht
  ·exact hR.fx.trans ⟨rfl,rfl,rfl,by simp,fun g hg h0=>⟨RowKit.Below.heap_alloc _ _ _ hg,h0⟩,Fx.NK fun g hg=>RowKit.Below.heap_alloc _ _ _ hg⟩
 | l7 b cs cG hd hm Fi ko h k=>
  obtain⟨h1,w',h2,hw⟩:=h H G a w hl
  refine .inl ⟨h1,?_⟩
  unfold Oper.wp
  rw[h2]
  show ∃s' H',Rel w0 H0 n s' H' (a.put o.dst undef) w'∧K s' H'
  rw[hd]
  refine⟨_,_,⟨hR.defers,⟨G,hl.l7 Fi hw,fun t c ht=> ?_⟩,?_⟩,k⟩
  ·by_cases e:t=b
   ·subst e;exact hb t cs Fi
   ·rw[fF _ _ e]at ht;exact hb t c ht
  ·refine⟨hw.os.trans hR.fx.os,hw.tape.trans hR.fx.tape,hw.output.trans hR.fx.output,by rw[hw.size];exact hR.fx.size,fun g hg h0=> ?_,fun g c t fz hc=> ?_⟩
   ·have h3:=hR.fx.keep g hg h0
    refine⟨?_,h3.2⟩
    rw[hw.other _ (fun e=> ?_)]
    ·exact h3.1
    ·have:=hb b cs Fi;omega
   ·obtain⟨c',h3,h4⟩:=hR.fx.form g c t fz hc
    have bX:=(Array.getElem?_eq_some_iff.1 hc).1
    have:=hb b cs Fi
    exact⟨c',by rw[hw.other _ (by omega)];exact h3,h4⟩
 | fresh mk xs e hm nb h k=>
  obtain⟨h1,h2⟩:=h a w hl.aK
  refine .inl ⟨h1,?_⟩
  unfold Oper.wp
  rw[h2]
  have uV:=hl.den.fresh
  have hd:Den (ins H w.heap.size (whole xs e)) (w.alloc (.cells xs.toArray e (0,0))):=by
   intro g e' hg
   by_cases eg:g=w.heap.size
   ·subst eg
    rw[bn]at hg
    simp only[Option.some.injEq]at hg
    subst hg
    exact⟨_,heap_alloc_new w _,xs.toArray,(0,0),rfl,by simp[whole],fun i v hv=>by simpa [whole]using hv,fun _=>rfl⟩
   ·rw[bg _ _ eg]at hg
    exact hl.den.alloc _ g e' hg
  have hf:Fx H w (ins H w.heap.size (whole xs e)) (w.alloc (.cells xs.toArray e (0,0))):=
   ⟨rfl,rfl,rfl,by simp,fun g hg h0=>⟨RowKit.Below.heap_alloc _ _ _ hg,by rw[bg _ _ (by omega)];exact h0⟩,Fx.NK fun g hg=>RowKit.Below.heap_alloc _ _ _ hg⟩
  have kJ:=hl.uR hd hf
  have dO:Rel w0 H0 n s (ins H w.heap.size (whole xs e)) a (w.alloc (.cells xs.toArray e (0,0))):=⟨hR.defers,⟨G,kJ,hb⟩,hR.fx.trans hf⟩
  exact⟨_,_,dO.put (x:= .val _) rB kJ hb rfl,k _ uV ⟨_,hd⟩⟩
 | iU bF ha nb h hm k=>
  obtain⟨h1,h2⟩:=h a w hl.aK hl.den
  refine .inl ⟨h1,h2.wp fun v w' hh=> ?_⟩
  obtain⟨H',hp,hd,hf⟩:=hh
  have kJ:=hl.uR hd hf
  have dO:Rel w0 H0 n s H' a w':=⟨hR.defers,⟨G,kJ,hb⟩,hR.fx.trans hf⟩
  exact⟨_,_,dO.put (x:= .val v) rB kJ hb rfl,k v H' hp ⟨w',hd⟩⟩
 | l8 v bW hm nb hc h k=>
  rcases h a w hl.aK (fun ad u hu=>hl.den.cell (hc ad u hu))with ⟨h1,h2⟩ | ⟨h1,h2⟩
  ·refine .inl ⟨h1,?_⟩
   unfold Oper.wp
   rw[h2]
   exact⟨_,_,hR.put (x:= .val v) rB hl hb rfl,k⟩
  ·subst h2
   exact .inr ⟨h1,_,_,hR.put (x:= .val undef) rB hl hb rfl,k⟩
 | oa mk xs e bW hm nb h k=>
  obtain⟨h1,h2⟩:=h a w hl.aK
  refine .inl ⟨h1,?_⟩
  unfold Oper.wp
  rw[h2]
  have uV:=hl.den.fresh
  have hd:Den (ins H w.heap.size (whole xs e)) (w.alloc (.cells xs.toArray e (0,0))):=by
   intro g e' hg
   by_cases eg:g=w.heap.size
   ·subst eg
    rw[bn]at hg
    simp only[Option.some.injEq]at hg
    subst hg
    exact⟨_,heap_alloc_new w _,xs.toArray,(0,0),rfl,by simp[whole],fun i v hv=>by simpa [whole]using hv,fun _=>rfl⟩
   ·rw[bg _ _ eg]at hg
    exact hl.den.alloc _ g e' hg
  have hf:Fx H w (ins H w.heap.size (whole xs e)) (w.alloc (.cells xs.toArray e (0,0))):=
   ⟨rfl,rfl,rfl,by simp,fun g hg h0=>⟨RowKit.Below.heap_alloc _ _ _ hg,by rw[bg _ _ (by omega)];exact h0⟩,Fx.NK fun g hg=>RowKit.Below.heap_alloc _ _ _ hg⟩
  have kJ:=hl.uR hd hf
  have dO:Rel w0 H0 n s (ins H w.heap.size (whole xs e)) a (w.alloc (.cells xs.toArray e (0,0))):=⟨hR.defers,⟨G,kJ,hb⟩,hR.fx.trans hf⟩
  exact⟨_,_,dO.put (x:= .val _) rB kJ hb rfl,k _ uV ⟨_,hd⟩⟩
 | mM bF bW ha nb h hm k=>
  obtain⟨h1,h2⟩:=h a w hl.aK hl.den
  refine .inl ⟨h1,h2.wp fun v w' hh=> ?_⟩
  obtain⟨H',hp,hd,hf⟩:=hh
  have kJ:=hl.uR hd hf
  have dO:Rel w0 H0 n s H' a w':=⟨hR.defers,⟨G,kJ,hb⟩,hR.fx.trans hf⟩
  exact⟨_,_,dO.put (x:= .val v) rB kJ hb rfl,k v H' hp ⟨w',hd⟩⟩
end sound
end Go.aq
namespace Go.aq
theorem yv{o:Op}:rz o=true↔kd o=3:=by
 cases o <;> simp[rz,AA,AB,kd]
 split <;> simp
theorem Ul{o:Op}(h:kd o=3):(AA o=true∧AB o=false)∨(AA o=false∧AB o=true):=by
 cases o <;> simp[AA,AB,kd]at h⊢
 split at h <;> simp at h
theorem rC{o:Op}:Az o=true↔kd o=2:=by
 cases o <;> simp[Az,kd]
 split <;> simp
theorem CX{o:Op}(h:Fh o=true):kd o=0:=by
 cases o <;> simp[Fh]at h <;> rfl
def Sw(md:Mode)(all:Array Oper)(x y:Oper):Bool:=
 x.apart all y&&tk x.op&&tk y.op &&
 ((kd x.op == 0&&(kd y.op == 0||(kd y.op == 1 && !md.Ui)||(kd y.op == 3&&(y.guard.isNone || !md.nZ))||(kd y.op == 2&&md.NM&&(md.NN || !Fh x.op)))) ||
  ((kd x.op == 1||kd x.op == 3)&&kd y.op == 3&&y.guard.isNone && !md.nZ))
section
variable {P:Program} {n:Nat} {all:Array Oper} {o:Oper}
structure AD(all:Array Oper)(o:Oper)(a b:Act):Prop where
 want:Region.wanted o (yielded all a.tmps)=Region.wanted o (yielded all b.tmps)
 exec:execOp a.eval o=execOp b.eval o
theorem AD.put{a:Act}{d:Nat}(v:Value)(hs:tk o.op=true)(h:d∉o.looksAt all):AD all o (a.put (some d) v) a:=by
 refine⟨wanted_put o a (some d) v (fun e he=>by cases he;exact h),execOp_congr o (fun cs b e=>by rw[e]at hs;cases hs) (fun x hx=> ?_)⟩
 refine Act.eval_put fun e he hxe=> ?_
 cases he
 subst hxe
 exact h (by
  unfold Oper.looksAt
  refine List.mem_append_left _ ?_
  rw[List.mem_filterMap]
  exact⟨_,by simpa using hx,rfl⟩)
theorem AD.refl(a:Act):AD all o a a:=⟨rfl,rfl⟩
def Mv(n:Nat)(all:Array Oper)(o:Oper)(s1 s2:St):Prop:=∀a,gA n s2 a→∃a1,gA n s1 a1∧AD all o a1 a
def Fj(n:Nat)(all:Array Oper)(o:Oper)(s1 s2:St):Prop:=∀H G a w,Rl n s2 H G a w→∃a1,Rl n s1 H G a1 w∧AD all o a1 a
variable {s1 s2 s:St} {H H1 H2:Heap}
theorem JD.move{v:Value}(hm:Mv n all o s1 s2)(hl:Heap.le H1 H2)(h:JD P n all o s1 H1 v):JD P n all o s2 H2 v:=fun a w ha hd=>by
 obtain⟨a1,h1,h2⟩:=hm a ha
 rw[←h2.want,←h2.exec]
 exact h a1 w h1 (hd.le hl)
theorem CW.move{x:Slot}(hm:Fj n all o s1 s2)(hl:Heap.le H1 H2)(h:CW P n all o s1 H1 x):CW P n all o s2 H2 x:=fun G a w ha=>by
 obtain⟨a1,h1,h2⟩:=hm H2 G a w ha
 obtain⟨v,h3,h4,h5⟩:=h G a1 w (h1.le hl)
 exact⟨v,h3,by rw[←h2.want];exact h4,by rw[←h2.exec];exact h5⟩
theorem JG.move{md:Mode}{v:Value}(hm:Mv n all o s1 s2)(h:JG P n md all o s1 v):JG P n md all o s2 v:=fun a w ha hd=>by
 obtain⟨a1,h1,h2⟩:=hm a ha
 have:=h a1 w h1 hd
 rw[h2.want,h2.exec]at this
 exact this
theorem wv.move{cs:List Value}(hm:Mv n all o s1 s2)(h:wv P n all o s1 cs):wv P n all o s2 cs:=fun a w ha=>by
 obtain⟨a1,h1,h2⟩:=hm a ha
 rw[←h2.want,←h2.exec]
 exact h a1 w h1
theorem JE.move{b:Nat}{cs:List Value}(hm:Fj n all o s1 s2)(h:JE P n all o s1 b cs):JE P n all o s2 b cs:=fun H G a w ha=>by
 obtain⟨a1,h1,h2⟩:=hm H G a w ha
 rw[←h2.want,←h2.exec]
 exact h H G a1 w h1
theorem uS.move{mk:Nat→Value}{xs:List Value}{e:TypeId}(hm:Mv n all o s1 s2)(h:uS P n all o s1 mk xs e):uS P n all o s2 mk xs e:=fun a w ha=>by
 obtain⟨a1,h1,h2⟩:=hm a ha
 rw[←h2.want,←h2.exec]
 exact h a1 w h1
theorem EV.move{bF:Value→Heap→Prop}(hm:Mv n all o s1 s2)(h:EV P n all o s1 H bF):EV P n all o s2 H bF:=fun a w ha hd=>by
 obtain⟨a1,h1,h2⟩:=hm a ha
 have:=h a1 w h1 hd
 unfold lE at this⊢
 rw[←h2.want,←h2.exec]
 exact this
theorem wv.uniq{cs cG:List Value}(ha:∃a,gA n s a)(h:wv P n all o s cs)(h':wv P n all o s cG):cG=cs:=by
 obtain⟨a,ha⟩:=ha
 obtain⟨_,e,h1⟩:=h a default ha
 obtain⟨_,e',h2⟩:=h' a default ha
 rw[h1]at h2
 simp only[Result.ok.injEq,true_and]at h2
 have:=congrArg (fun w:World=>w.heap[(default:World).heap.size]?) h2
 simp only[heap_alloc_new,Option.some.injEq,Obj.cells.injEq]at this
 exact(List.toArray_inj this.1).symm
theorem uS.uniq{mk mk':Nat→Value}{xs oc:List Value}{e e':TypeId}(ha:∃a,gA n s a)(h:uS P n all o s mk xs e)(h':uS P n all o s mk' oc e'):mk'=mk∧oc=xs∧e'=e:=by
 obtain⟨a,ha⟩:=ha
 have key:∀w:World,mk' w.heap.size=mk w.heap.size∧oc=xs∧e'=e:=fun w=>by
  obtain⟨_,h1⟩:=h a w ha
  obtain⟨_,h2⟩:=h' a w ha
  rw[h1]at h2
  simp only[Result.ok.injEq,Next.value.injEq]at h2
  have:=congrArg (fun w':World=>w'.heap[w.heap.size]?) h2.2
  simp only[heap_alloc_new,Option.some.injEq,Obj.cells.injEq]at this
  exact⟨h2.1.symm,(List.toArray_inj this.1).symm,this.2.1.symm⟩
 refine⟨funext fun g=> ?_,(key default).2⟩
 have:=(key {(default:World)with heap:=Array.replicate g default}).1
 simpa using this
theorem EV.some{bF:Value→Heap→Prop}(h:EV P n all o s H bF)(ha:∃a,gA n s a)(hw:Real H):∃v H',bF v H'∧Real H':=by
 obtain⟨a,ha⟩:=ha
 obtain⟨w,hw⟩:=hw
 obtain⟨_,h2⟩:=h a w ha hw
 unfold lE at h2
 split at h2
 ·obtain⟨H',hp,hd,_⟩:=h2;exact⟨_,H',hp,_,hd⟩
 ·obtain⟨H',hp,hd,_⟩:=h2;exact⟨_,H',hp,_,hd⟩
 ·obtain⟨e,w',fr,⟨v,_,H',hp,hd,_⟩,_⟩:=h2 []
  exact⟨v,H',hp,w',hd⟩
 ·exact h2.elim
theorem EV.frame{bF:Value→Heap→Prop}{g:Nat}{ent:Ent}(hg:H g=none)(h:EV P n all o s H bF):
  EV P n all o s (ins H g ent) (fun v th=>∃H',bF v H'∧H' g=none∧th=ins H' g ent):=fun a w ha hd=>by
 obtain⟨h1,h2⟩:=h a w ha (hd.le (Heap.bG ent hg))
 refine⟨h1,h2.mono fun v w' hh=> ?_⟩
 obtain⟨H',hp,mL,hf⟩:=hh
 obtain⟨ob,ho,hoe⟩:=hd g ent (bn _ _ _)
 have bX:=hd.lt (bn H g ent)
 obtain⟨gC,fN⟩:=hf.keep g bX hg
 refine⟨ins H' g ent,⟨H',hp,fN,rfl⟩,fun k e hk=> ?_,⟨hf.os,hf.tape,hf.output,hf.size,fun k hk h0=> ?_,hf.form⟩⟩
 ·by_cases ek:k=g
  ·subst ek
   rw[bn]at hk
   simp only[Option.some.injEq]at hk
   subst hk
   exact⟨ob,gC.trans ho,hoe⟩
  ·rw[bg _ _ ek]at hk;exact mL k e hk
 ·have ek:k≠g:=fun e=>by subst e;rw[bn]at h0;cases h0
  rw[bg _ _ ek]at h0⊢
  exact hf.keep k hk h0
theorem od{d:Option Nat}{X:Slot}(hs:tk o.op=true)(hd:∀k,d=some k→k<n∧k∉o.looksAt all):Mv n all o (bE s d X) s:=fun a ha=>by
 cases d with
 | none=>exact⟨a,ha,.refl a⟩
 | some d=>
  obtain⟨hn,hl⟩:=hd d rfl
  have key:∀u,(∀v,X = .val v→u=v)→∃a1,gA n (bE s (some d) X) a1∧AD all o a1 a:=fun u hu=>by
   refine⟨a.put (some d) u,⟨by rw[Act.CV];exact ha.size,fun t v ht=> ?_⟩,.put u hs hl⟩
   by_cases e:t=d
   ·subst e
    rw[show bE s (some t) X=put s t X from rfl,ik]at ht
    simp only[Option.some.injEq]at ht
    rw[Act.yu _ _ _ (by rw[ha.size];exact hn),hu v ht]
   ·rw[show bE s (some d) X=put s d X from rfl,fF _ _ e]at ht
    rw[Act.ry _ _ e];exact ha.at_ t v ht
  cases X with
  | val v=>exact key v (fun v' h=>by cases h;rfl)
  | box cs=>exact key undef (fun v' h=>by cases h)
  | ref b off=>exact key undef (fun v' h=>by cases h)
theorem JH{d:Option Nat}{X:Slot}(hx:∀cs,X≠.box cs)(hs:tk o.op=true)(hd:∀k,d=some k→k<n∧k∉o.looksAt all):Fj n all o (bE s d X) s:=fun H G a w ha=>by
 cases d with
 | none=>exact⟨a,ha,.refl a⟩
 | some d=>
  obtain⟨hn,hl⟩:=hd d rfl
  cases X with
  | val v=>exact⟨_,ha.put hn (x:= .val v) rfl,.put _ hs hl⟩
  | box cs=>exact absurd rfl (hx cs)
  | ref b off=>exact⟨_,ha.put hn (x:= .ref b off) rfl,.put _ hs hl⟩
theorem uW{d:Option Nat}{X:Slot}(hs:tk o.op=true)(hd:∀k,d=some k→k<n∧k∉o.looksAt all):Mv n all o s (bE s d X):=fun a ha=>by
 cases d with
 | none=>exact⟨a,ha,.refl a⟩
 | some d=>
  obtain⟨hn,hl⟩:=hd d rfl
  obtain⟨v,hv⟩:=gA.back (s:=s) (d:=d) ha (fun t v ht h=>by rw[show bE s (some d) X=put s d X from rfl,fF _ _ ht];exact h) hn
  exact⟨_,hv,.put v hs hl⟩
theorem abZ{d:Option Nat}{X:Slot}(hs:tk o.op=true)(hd:∀k,d=some k→k<n∧k∉o.looksAt all)(hb:∀k cs,d=some k→s k≠some (.box cs)):Fj n all o s (bE s d X):=fun H G a w ha=>by
 cases d with
 | none=>exact⟨a,ha,.refl a⟩
 | some d=>
  obtain⟨hn,hl⟩:=hd d rfl
  obtain⟨v,hv⟩:=Rl.back (s:=s) (d:=d) ha (fun cs=>hb d cs rfl) (fun t x ht h _=>by rw[show bE s (some d) X=put s d X from rfl,fF _ _ ht];exact h) hn
  exact⟨_,hv,.put v hs hl⟩
theorem Fk{d t:Nat}{cs:List Value}{x:Slot}(ht:t≠d)(h:s t=some x)(hx:∀b o,x = .ref b o→b≠d):gX s d cs t=some x:=by
 rw[ph _ _ ht,h]
 cases x with
 | val v=>rfl
 | box c=>rfl
 | ref b off=>
  have:=hx b off rfl
  have hb:Nat.beq b d=false:=by
   cases hb:Nat.beq b d with
   | false=>rfl
   | true=>exact absurd (Nat.eq_of_beq_eq_true hb) this
  simp[uU,hb]
theorem JI{d:Nat}{cs:List Value}(hs:tk o.op=true)(hn:d<n)(hl:d∉o.looksAt all):Mv n all o s (gX s d cs):=fun a ha=>by
 obtain⟨v,hv⟩:=gA.back (s:=s) (d:=d) ha (fun t v ht h=>Fk ht h (fun b o e=>by cases e)) hn
 exact⟨_,hv,.put v hs hl⟩
theorem ab0{d:Nat}{cs:List Value}(hs:tk o.op=true)(hn:d<n)(hl:d∉o.looksAt all)(hb:∀cs,s d≠some (.box cs)):Fj n all o s (gX s d cs):=fun H G a w ha=>by
 obtain⟨v,hv⟩:=Rl.back (s:=s) (d:=d) ha hb (fun t x ht h hx=>Fk ht h hx) hn
 exact⟨_,hv,.put v hs hl⟩
theorem Um{d:Nat}{cs:List Value}:Mv n all o (gX s d cs) s:=fun a ha=>
 ⟨a,⟨ha.size,fun t v ht=>ha.at_ t v (NO ht).2⟩,.refl a⟩
theorem ab1{b:Nat}{cs cG:List Value}(hb:s b=some (.box cs)):Mv n all o s (put s b (.box cG)):=fun a ha=>
 ⟨a,⟨ha.size,fun t v ht=>ha.at_ t v (by
  have e:t≠b:=fun e=>by subst e;rw[hb]at ht;cases ht
  rw[fF _ _ e];exact ht)⟩,.refl a⟩
theorem qc{d e:Option Nat}(X Y:Slot)(h:∀k,d=some k→e≠some k):bE (bE s d X) e Y=bE (bE s e Y) d X:=by
 cases d with
 | none=>rfl
 | some d=>
  cases e with
  | none=>rfl
  | some e=>exact put_comm s X Y (fun h'=>h d rfl (by rw[h']))
theorem Fl{d:Option Nat}{e:Nat}{X:Slot}{cs:List Value}(h:d≠some e)(hx:∀b o,X = .ref b o→b≠e):gX (bE s d X) e cs=bE (gX s e cs) d X:=by
 cases d with
 | none=>rfl
 | some d=>
  have bo:d≠e:=fun h'=>h (by rw[h'])
  funext t
  show gX (put s d X) e cs t=put (gX s e cs) d X t
  by_cases h1:t=e
  ·subst h1
   rw[tm,fF _ _ (Ne.symm bo),tm]
  ·rw[ph _ _ h1]
   by_cases h2:t=d
   ·subst h2
    rw[ik,ik]
    have:=Fk (s:=put s t X) (cs:=cs) h1 (ik s t X) hx
    rw[ph _ _ h1,ik]at this
    exact this
   ·rw[fF _ _ h2,fF _ _ h2,ph _ _ h1]
theorem ab2(d e:Nat)(x:Option Slot):uU d (uU e x)=uU e (uU d x):=by
 cases x with
 | none=>rfl
 | some x=>
  cases x with
  | val v=>rfl
  | box c=>rfl
  | ref b o=>cases h1:Nat.beq b d <;> cases h2:Nat.beq b e <;> simp[uU,h1,h2]
theorem ab3{d e:Nat}{cs cG:List Value}(h:d≠e):gX (gX s d cs) e cG=gX (gX s e cG) d cs:=by
 funext t
 by_cases h1:t=e
 ·subst h1
  rw[tm,ph _ _ (Ne.symm h),tm];rfl
 ·rw[ph _ _ h1]
  by_cases h2:t=d
  ·subst h2
   rw[tm,tm];rfl
  ·rw[ph _ _ h2,ph _ _ h2,ph _ _ h1,ab2]
theorem Un{d:Option Nat}{b:Nat}{X:Slot}{cs:List Value}(h:d≠some b):put (bE s d X) b (.box cs)=bE (put s b (.box cs)) d X:=by
 cases d with
 | none=>rfl
 | some d=>exact put_comm s X (.box cs) (fun h'=>h (by rw[h']))
theorem CY(H:Heap){g k:Nat}(e e':Ent)(h:g≠k):ins (ins H g e) k e'=ins (ins H k e') g e:=by
 funext t
 by_cases h1:t=k
 ·subst h1;rw[bn,bg _ _ (Ne.symm h),bn]
 ·by_cases h2:t=g
  ·subst h2;rw[bg _ _ h1,bn,bn]
  ·rw[bg _ _ h1,bg _ _ h2,bg _ _ h2,bg _ _ h1]
end
theorem JJ(s:St)(d:Nat)(X:Slot):bE s (some d) X=put s d X:=rfl
theorem ju.bE{md:Mode}{s s':St}(h:ju md s s')(d:Option Nat)(X:Slot):ju md (bE s d X) (bE s' d X):=fun t=>by
 cases d with
 | none=>exact h t
 | some d=>
  rw[JJ,JJ]
  by_cases e:t=d
  ·subst e;exact .inl (by rw[ik,ik])
  ·rw[fF _ _ e,fF _ _ e];exact h t
theorem ju.ab4{md:Mode}{s s':St}{d:Option Nat}{X:Slot}(hX:∀c,X≠.box c)(h:ju md (aq.bE s d X) s'):∃wx,ju md s wx∧s'=aq.bE wx d X∧∀k,d=some k→wx k=s k:=by
 cases d with
 | none=>exact⟨s',h,rfl,fun k e=>by cases e⟩
 | some d=>
  rw[JJ]at h
  have hd:s' d=some X:=h.val hX (ik _ _ _)
  refine⟨fun t=>if t=d then s t else s' t,fun t=> ?_,?_,fun k e=>by cases e;simp⟩
  ·by_cases e:t=d
   ·left;simp[e]
   ·have:=h t
    rw[fF _ _ e]at this
    simpa [e]using this
  ·rw[JJ]
   funext t
   by_cases e:t=d
   ·subst e;rw[ik,hd]
   ·rw[fF _ _ e,if_neg e]
open Classical in
theorem ju.unbox{md:Mode}{s s':St}{d:Nat}{cs:List Value}(h:ju md (gX s d cs) s'):∃wx JK,ju md s wx∧s'=gX wx d JK∧wx d=s d:=by
 obtain⟨JK,hc⟩:=h.box (tm s d cs)
 refine⟨fun t=>if t=d∨s' t=gX s d cs t then s t else s' t,JK,fun t=> ?_,?_,by simp⟩
 ·by_cases e:t=d∨s' t=gX s d cs t
  ·left;simp only[e,if_true]
  ·simp only[e,if_false]
   rcases h t with h1 | ⟨h0,c,c',h1,h2⟩
   ·exact absurd (.inr h1) e
   ·rcases rA h1 with ⟨e1,_⟩ | ⟨_,h3⟩
    ·exact absurd (.inl e1) e
    ·exact .inr ⟨h0,c,c',h3,h2⟩
 ·funext t
  by_cases e:t=d
  ·subst e;rw[hc,tm]
  ·rw[ph _ _ e]
   by_cases e2:s' t=gX s d cs t
   ·simp only[e2,or_true,if_true];exact ph _ _ e
   ·rcases h t with h1 | ⟨h0,c,c',h1,h2⟩
    ·exact absurd h1 e2
    ·rw[if_neg (by rintro(h3 | h3);exact e h3;exact e2 h3),h2];rfl
theorem ju.store{md:Mode}{s s':St}{b:Nat}{cs cG:List Value}(hb:s b=some (.box cs))(hw:md.wr b=true)(h:ju md (put s b (.box cG)) s'):ju md s s':=fun t=>by
 by_cases e:t=b
 ·subst e
  obtain⟨c,hc⟩:=h.box (ik s t (.box cG))
  exact .inr ⟨hw,cs,c,hb,hc⟩
 ·have:=h t
  rwa [fF _ _ e]at this
end Go.aq
namespace Go.aq
section
variable {P:Program} {n:Nat} {all:Array Oper} {md:Mode} {x y:Oper} {s:St} {H:Heap} {K:St→Heap→Prop}
theorem yw{md:Mode}(eW:md≠.plain){k:Nat}(h:k=1∨k=2∨md = .plain):k=1∨k=2:=by
 rcases h with h | h | h
 ·exact .inl h
 ·exact .inr h
 ·exact absurd h eW
theorem rD(eW:md≠.plain)(fj:md.nZ=false)(d:Option Nat):md.nb s d=true↔∀k cs,d=some k→s k≠some (.box cs):=by
 cases d with
 | none=>cases md <;> simp[Mode.nb,Mode.nZ]at *
 | some d=>
  have:md.nb s (some d)=(match s d with | some (.box _)=>false | _=>true):=by cases md <;> first | exact absurd rfl eW | rfl | cases fj
  rw[this]
  cases hs:s d with
  | none=>exact⟨(fun _ k cs hk h=>by cases hk;rw[hs]at h;cases h),fun _=>rfl⟩
  | some z=>
   cases z with
   | val v=>exact⟨(fun _ k cs hk h=>by cases hk;rw[hs]at h;cases h),fun _=>rfl⟩
   | box c=>exact⟨(fun h=>by cases h),fun h=>absurd hs (h d c rfl)⟩
   | ref b o=>exact⟨(fun _ k cs hk h=>by cases hk;rw[hs]at h;cases h),fun _=>rfl⟩
theorem AE{X:Slot}:X.tl s=true↔(∀cs,X≠.box cs)∧∀b o,X = .ref b o→∃cs,s b=some (.box cs):=by
 cases X with
 | val v=>simp[Slot.tl]
 | box c=>simp[Slot.tl]
 | ref b o=>
  simp only[Slot.tl]
  cases hs:s b with
  | none=>simp[hs]
  | some z=>cases z <;> simp[hs]
theorem Fm{d:Option Nat}{X:Slot}{t:Nat}(h:d≠some t):bE s d X t=s t:=by
 cases d with
 | none=>rfl
 | some d=>exact fF s X (fun e=>h (by rw[e]))
theorem NP{d:Option Nat}{X:Slot}{t:Nat}{cs:List Value}(hx:∀cs,X≠.box cs)(h:bE s d X t=some (.box cs)):d≠some t∧s t=some (.box cs):=by
 cases d with
 | none=>exact⟨by simp,h⟩
 | some d=>
  by_cases e:t=d
  ·subst e
   rw[show bE s (some t) X=put s t X from rfl,ik]at h
   simp only[Option.some.injEq]at h
   exact absurd h (hx cs)
  ·rw[show bE s (some d) X=put s d X from rfl,fF _ _ e]at h
   exact⟨fun h'=>e (by cases h';rfl),h⟩
structure CZ(md:Mode)(all:Array Oper)(x y:Oper):Prop where
 xs:tk x.op=true
 ys:tk y.op=true
 xy:∀d,x.dst=some d→d∉y.looksAt all
 ne:∀d,x.dst=some d→y.dst≠some d
 yx:∀d,y.dst=some d→d∉x.looksAt all
 kind:(kd x.op=0∧(kd y.op=0∨(kd y.op=1∧md.Ui=false)∨(kd y.op=3∧(y.guard=none∨md.nZ=false))∨(kd y.op=2∧md.NM=true∧(md.NN=true∨Fh x.op=false))))∨((kd x.op=1∨kd x.op=3)∧kd y.op=3∧y.guard=none∧md.nZ=false)
theorem Sw.out(h:Sw md all x y=true):CZ md all x y:=by
 simp only[Sw,Bool.and_eq_true,Bool.or_eq_true,beq_iff_eq,Option.isNone_iff_eq_none,Bool.not_eq_true']at h
 obtain⟨⟨⟨h1,h2⟩,h3⟩,h4⟩:=h
 obtain⟨a1,a2,a3⟩:=Oper.apart_spec h1
 refine⟨h2,h3,a1,a2,a3,?_⟩
 rcases h4 with ⟨hx,hy⟩ | ⟨⟨⟨hx,hy⟩,hz⟩,hk⟩
 ·left
  refine⟨hx,?_⟩
  rcases hy with ((hy | hy) | hy) | hy
  ·exact .inl hy
  ·exact .inr (.inl hy)
  ·exact .inr (.inr (.inl hy))
  ·exact .inr (.inr (.inr ⟨hy.1.1,hy.1.2,hy.2⟩))
 ·exact .inr ⟨hx,hy,hz,hk⟩
theorem Den.ab5{H:Heap}{w:World}(h:Den H w)(xs:List Value)(e:TypeId):Den (ins H w.heap.size (whole xs e)) (w.alloc (.cells xs.toArray e (0,0))):=by
 intro g e' hg
 by_cases eg:g=w.heap.size
 ·subst eg
  rw[bn]at hg
  simp only[Option.some.injEq]at hg
  subst hg
  exact⟨_,heap_alloc_new w _,xs.toArray,(0,0),rfl,by simp[whole],fun i v hv=>by simpa [whole]using hv,fun _=>rfl⟩
 ·rw[bg _ _ eg]at hg
  exact h.alloc _ g e' hg
theorem Heap.le.mO{H H':Heap}{g:Nat}{e:Ent}(h:Heap.le H H')(hg:H' g=none):Heap.le (ins H g e) (ins H' g e):=fun k x hk=>by
 by_cases ek:k=g
 ·subst ek
  rw[bn]at hk⊢
  exact⟨x,hk,.refl x⟩
 ·rw[bg _ _ ek]at hk⊢
  exact h k x hk
theorem gY.ab6(eW:md≠.plain)(fj:md.nZ=false)(hw:CZ md all x y)(AF:∀d,x.dst=some d→d<n)(qd:∀d,y.dst=some d→d<n)
  (hS:∃a,gA n s a) (hH:Real H) (h:gY P n all md x s H (fun s1 H1=>gY P n all md y s1 H1 K)):gY P n all md y s H (fun s2 H2=>gY P n all md x s2 H2 K):=by
 have cZ:∀d,x.dst=some d→d<n∧d∉y.looksAt all:=fun d hd=>⟨AF d hd,hw.xy d hd⟩
 have kK:∀d,y.dst=some d→d<n∧d∉x.looksAt all:=fun d hd=>⟨qd d hd,hw.yx d hd⟩
 have Fo:∀d,y.dst=some d→x.dst≠some d:=fun d hd e=>hw.ne d e hd
 have l9:∀{X:Slot},(∀cs,X≠.box cs)→md.nb (bE s x.dst X) y.dst=true→md.nb s y.dst=true:=fun{X} hX hn=>by
  rw[rD eW fj]at hn⊢
  intro k cs hk hs
  exact hn k cs hk (by rw[Fm (Fo k hk)];exact hs)
 have oe:∀{Y:Slot},md.nb s x.dst=true→md.nb (bE s y.dst Y) x.dst=true:=fun{Y} hn=>by
  rw[rD eW fj]at hn⊢
  intro k cs hk hs
  exact hn k cs hk (by rw[Fm (hw.ne k hk)]at hs;exact hs)
 have Uo:∀{X Y:Slot},(∀cs,X≠.box cs)→Y.tl (bE s x.dst X)=true→Y.tl s=true:=fun{X Y} hX hg=>by
  rw[AE]at hg⊢
  exact⟨hg.1,fun b o e=>by obtain⟨cs,hc⟩:=hg.2 b o e;exact⟨cs,(NP hX hc).2⟩⟩
 have JL:∀{X Y:Slot},md.nb s y.dst=true→X.tl s=true→X.tl (bE s y.dst Y)=true:=fun{X Y} hn hg=>by
  rw[AE]at hg⊢
  refine⟨hg.1,fun b o e=> ?_⟩
  obtain⟨cs,hc⟩:=hg.2 b o e
  exact⟨cs,by rw[Fm (fun hk=>(rD eW fj _).1 hn b cs hk hc)];exact hc⟩
 have Uq:∀{k:Nat}{cs:List Value},md.nb s y.dst=true→y.dst=some k→s k≠some (.box cs):=fun{k cs} hn hk=>(rD eW fj _).1 hn k cs hk
 have JM:∀{X Y:Slot}{H1 H2:Heap},md.nb s y.dst=true→(∀c,Y≠.box c)→Heap.le H1 H2→(∀s',ju md s s'→CW P n all x s' H1 X)→∀s',ju md (bE s y.dst Y) s'→CW P n all x s' H2 X:=fun{X Y H1 H2} n1 hY hl h s' e=>by
  obtain⟨wx,e1,rfl,e2⟩:=e.ab4 hY
  exact(h _ e1).move (abZ hw.xs kK (fun k cs hk=>by rw[e2 k hk];exact Uq n1 hk)) hl
 cases h with
 | jH v hm nb h k=>
  have hX:∀cs,Slot.val v≠.box cs:=fun cs e=>by cases e
  cases k with
  | jH v' bK dD h' k'=>
   have n1:=l9 hX dD
   refine .jH v' bK n1 (h'.move (od hw.ys cZ) (.refl _)) (.jH v hm (oe nb) (h.move (uW hw.xs kK) (.refl _)) ?_)
   rw[←qc _ _ hw.ne];exact k'
  | jv X' bK dD tn h' k'=>
   have n1:=l9 hX dD
   refine .jv X' bK n1 (Uo hX tn) (fun s' e=>(h' _ (e.bE _ _)).move (JH hX hw.ys cZ) (.refl _)) (.jH v hm (oe nb) (h.move (uW hw.xs kK) (.refl _)) ?_)
   rw[←qc _ _ hw.ne];exact k'
  | jI d hd bK dD cs h' k'=>
   have n1:=l9 hX dD
   refine .jI d hd bK n1 cs (h'.move (od hw.ys cZ)) (.jH v hm ?_ (h.move (JI hw.xs (qd d hd) (hw.yx d hd)) (.refl _)) ?_)
   ·rw[rD eW fj]at nb⊢
    intro k cG hk hs
    rcases rA hs with ⟨e,_⟩ | ⟨_,hs⟩
    ·exact hw.ne k hk (by rw[hd,e])
    ·exact nb k cG hk hs
   ·rw[←Fl (fun e=>hw.ne d e hd) (fun b o e=>by cases e)];exact k'
  | l7 b cs cG hd bK hb ko h' k'=>
   obtain⟨wy,gD⟩:=NP hX hb
   refine .l7 b cs cG hd bK gD ko (h'.move (JH hX hw.ys cZ)) (.jH v hm ?_ (h.move (ab1 gD) (.refl _)) ?_)
   ·rw[rD eW fj]at nb⊢
    intro k c hk hs
    by_cases e:k=b
    ·subst e;exact wy hk
    ·rw[fF _ _ e]at hs;exact nb k c hk hs
   ·rw[←Un wy];exact k'
  | fresh mk xs e bK dD h' k'=>
   have n1:=l9 hX dD
   refine .fresh mk xs e bK n1 (h'.move (od hw.ys cZ)) fun g hg hr=> .jH v hm (oe nb) (h.move (uW hw.xs kK) (Heap.bG _ hg)) ?_
   rw[←qc _ _ hw.ne];exact k' g hg hr
  | l8 _ bW _ _ _ _ _=>rw[fj]at bW;cases bW
  | oa _ _ _ bW _ _ _ _=>rw[fj]at bW;cases bW
  | mM _ bW _ _ _ _ _=>rw[fj]at bW;cases bW
  | iU bF ha dD h' bK k'=>
   have lF:=yw eW ha
   have n1:=l9 hX dD
   have NQ:∀u H',bF u H'→Heap.le H H':=by
    cases md with
    | plain=>exact absurd rfl eW
    | bJ=>exact bK.2
    | pg st=>exact bK.2
    | gB=>
     rcases bK with e | e
     ·have:=rC.1 e
      rcases hw.kind with ⟨_,h1 | h1 | h1 | h1⟩ | h1
      ·omega
      ·omega
      ·omega
      ·exact absurd h1.2.1 (by decide)
      ·omega
     ·exact e
    | cO k=>cases fj
    | uT=>
     rcases hw.kind with ⟨_,h1 | h1 | h1 | h1⟩ | h1
     ·omega
     ·exact absurd h1.2 (by decide)
     ·omega
     ·exact absurd h1.2.1 (by decide)
     ·omega
   refine .iU bF ha n1 (h'.move (od hw.ys cZ)) bK fun u H' hp hr=> .jH v hm (oe nb) (h.move (uW hw.xs kK) (NQ u H' hp)) ?_
   rw[←qc _ _ hw.ne];exact k' u H' hp hr
 | jv X hm nb hx h k=>
  have hX:=(AE.1 hx).1
  have kx:=CX hm
  cases k with
  | jH v' bK dD h' k'=>
   have n1:=l9 hX dD
   refine .jH v' bK n1 (h'.move (od hw.ys cZ) (.refl _)) (.jv X hm (oe nb) (JL n1 hx) (JM n1 (fun c e=>by cases e) (.refl _) h) ?_)
   rw[←qc _ _ hw.ne];exact k'
  | jv X' bK dD tn h' k'=>
   have n1:=l9 hX dD
   refine .jv X' bK n1 (Uo hX tn) (fun s' e=>(h' _ (e.bE _ _)).move (JH hX hw.ys cZ) (.refl _)) (.jv X hm (oe nb) (JL n1 hx) (JM n1 (AE.1 tn).1 (.refl _) h) ?_)
   rw[←qc _ _ hw.ne];exact k'
  | jI d hd bK dD cs h' k'=>
   have n1:=l9 hX dD
   have tq:∀cs,s d≠some (.box cs):=fun cs=>Uq n1 hd
   refine .jI d hd bK n1 cs (h'.move (od hw.ys cZ)) (.jv X hm ?_ ?_ (fun s' e=>by
    obtain⟨wx,JK,e1,rfl,e2⟩:=e.unbox
    exact(h _ e1).move (ab0 hw.xs (qd d hd) (hw.yx d hd) (fun cs=>by rw[e2];exact tq cs)) (.refl _)) ?_)
   ·rw[rD eW fj]at nb⊢
    intro k cG hk hs
    rcases rA hs with ⟨e,_⟩ | ⟨_,hs⟩
    ·exact hw.ne k hk (by rw[hd,e])
    ·exact nb k cG hk hs
   ·rw[AE]at hx⊢
    refine⟨hx.1,fun b o e=> ?_⟩
    obtain⟨c,hc⟩:=hx.2 b o e
    exact⟨c,Fk (fun e=>by subst e;exact tq c hc) hc (fun b o e=>by cases e)⟩
   ·rw[←Fl (fun e=>hw.ne d e hd) (fun b o e hb=>by subst hb;obtain⟨c,hc⟩:=(AE.1 hx).2 b o e;exact tq c hc)];exact k'
  | l7 b cs cG hd bK hb ko h' k'=>
   have:=rC.1 bK
   have hT:md.NN=true:=by
    rcases hw.kind with ⟨_,h1 | h1 | h1 | h1⟩ | h1
    ·omega
    ·omega
    ·omega
    ·rcases h1.2.2 with h2 | h2
     ·exact h2
     ·rw[hm]at h2;cases h2
    ·omega
   have hwr:md.wr b=true:=by
    cases md <;> first | exact ko | cases hT
   obtain⟨wy,gD⟩:=NP hX hb
   refine .l7 b cs cG hd bK gD ko (h'.move (JH hX hw.ys cZ)) (.jv X hm ?_ ?_ (fun s' e=>h s' (e.store gD hwr)) ?_)
   ·rw[rD eW fj]at nb⊢
    intro k c hk hs
    by_cases e:k=b
    ·subst e;exact wy hk
    ·rw[fF _ _ e]at hs;exact nb k c hk hs
   ·rw[AE]at hx⊢
    refine⟨hx.1,fun b' o e=> ?_⟩
    obtain⟨c,hc⟩:=hx.2 b' o e
    by_cases e2:b'=b
    ·subst e2;exact⟨cG,ik _ _ _⟩
    ·exact⟨c,by rw[fF _ _ e2];exact hc⟩
   ·rw[←Un wy];exact k'
  | fresh mk xs e bK dD h' k'=>
   have n1:=l9 hX dD
   refine .fresh mk xs e bK n1 (h'.move (od hw.ys cZ)) fun g hg hr=> .jv X hm (oe nb) (JL n1 hx) (JM n1 (fun c e=>by cases e) (Heap.bG _ hg) h) ?_
   rw[←qc _ _ hw.ne];exact k' g hg hr
  | l8 _ bW _ _ _ _ _=>rw[fj]at bW;cases bW
  | oa _ _ _ bW _ _ _ _=>rw[fj]at bW;cases bW
  | mM _ bW _ _ _ _ _=>rw[fj]at bW;cases bW
  | iU bF ha dD h' bK k'=>
   have lF:=yw eW ha
   have n1:=l9 hX dD
   have NQ:∀u H',bF u H'→Heap.le H H':=by
    cases md with
    | plain=>exact absurd rfl eW
    | bJ=>exact bK.2
    | pg st=>exact bK.2
    | gB=>
     rcases bK with e | e
     ·have:=rC.1 e
      rcases hw.kind with ⟨_,h1 | h1 | h1 | h1⟩ | h1
      ·omega
      ·omega
      ·omega
      ·exact absurd h1.2.1 (by decide)
      ·omega
     ·exact e
    | cO k=>cases fj
    | uT=>
     rcases hw.kind with ⟨_,h1 | h1 | h1 | h1⟩ | h1
     ·omega
     ·exact absurd h1.2 (by decide)
     ·omega
     ·exact absurd h1.2.1 (by decide)
     ·omega
   refine .iU bF ha n1 (h'.move (od hw.ys cZ)) bK fun u H' hp hr=> .jv X hm (oe nb) (JL n1 hx) (JM n1 (fun c e=>by cases e) (NQ u H' hp) h) ?_
   rw[←qc _ _ hw.ne];exact k' u H' hp hr
 | jI dx AG pj tr cx hx k=>
  have kx:=yv.1 (show rz x.op=true by simp[rz,pj])
  have po:kd y.op=3∧y.guard=none:=by
   rcases hw.kind with ⟨h1,_⟩ | h1
   ·omega
   ·exact⟨h1.2.1,h1.2.2.1⟩
  have n1:md.nb (gX s dx cx) y.dst=true→md.nb s y.dst=true:=fun hn=>by
   rw[rD eW fj]at hn⊢
   intro k cs hk hs
   exact hn k cs hk (Fk (fun e=>Fo k hk (by rw[AG,e])) hs (fun b o e=>by cases e))
  cases k with
  | jH v' bK dD h' k'=>
   rcases bK with e | e
   ·rw[yv.2 po.1]at e;cases e
   ·exact absurd po.2 e
  | jv X' bK dD tn h' k'=>have:=CX bK;omega
  | jI d hd bK dD cs h' k'=>
   refine .jI d hd bK (n1 dD) cs (h'.move Um) (.jI dx AG pj ?_ cx (hx.move (JI hw.xs (qd d hd) (hw.yx d hd))) ?_)
   ·rw[rD eW fj]at tr⊢
    intro k cG hk hs
    rcases rA hs with ⟨e,_⟩ | ⟨_,hs⟩
    ·exact hw.ne k hk (by rw[hd,e])
    ·exact tr k cG hk hs
   ·rw[←ab3 (fun e=>hw.ne dx AG (by rw[hd,e]))];exact k'
  | l7 b cs cG hd bK hb ko h' k'=>have:=rC.1 bK;omega
  | fresh mk xs e bK dD h' k'=>
   refine .fresh mk xs e bK (n1 dD) (h'.move Um) fun g hg hr=> .jI dx AG pj (oe tr) cx (hx.move (uW hw.xs kK)) ?_
   rw[Fl (fun e=>Fo dx e AG) (fun b o e=>by cases e)];exact k' g hg hr
  | l8 _ bW _ _ _ _ _=>rw[fj]at bW;cases bW
  | oa _ _ _ bW _ _ _ _=>rw[fj]at bW;cases bW
  | mM _ bW _ _ _ _ _=>rw[fj]at bW;cases bW
  | iU bF ha dD h' bK k'=>have lF:=yw eW ha;omega
 | l7 b cs cG hd hm hb ko h k=>
  have:=rC.1 hm
  rcases hw.kind with ⟨h1,_⟩ | h1 <;> omega
 | fresh JN rE ex pj tr hx k=>
  have kx:kd x.op=3:=yv.1 (by rcases pj with e | ⟨e,_⟩ <;> simp[rz,e]at *)
  have po:kd y.op=3∧y.guard=none:=by
   rcases hw.kind with ⟨h1,_⟩ | h1
   ·omega
   ·exact⟨h1.2.1,h1.2.2.1⟩
  obtain⟨w,hd⟩:=hH
  have fc:Den (ins H w.heap.size (whole rE ex)) (w.alloc (.cells rE.toArray ex (0,0))):=Den.ab5 hd rE ex
  rcases Ul po.1 with ⟨AH,AI⟩ | ⟨AH,AI⟩
  ·
   have only:∀g,H g=none→Real (ins H g (whole rE ex))→∃d cs,y.dst=some d∧md.nb s y.dst=true∧wv P n all y s cs∧K (gX (bE s x.dst (.val (JN g))) d cs) (ins H g (whole rE ex)):=by
    intro g hg hr
    cases k g hg hr with
    | jH v' bK dD h' k'=>
     rcases bK with e | e
     ·rw[yv.2 po.1]at e;cases e
     ·exact absurd po.2 e
    | jv X' bK dD tn h' k'=>have:=CX bK;omega
    | l7 b cs cG hd bK hb ko h' k'=>have:=rC.1 bK;omega
    | l8 _ bW _ _ _ _ _=>rw[fj]at bW;cases bW
    | oa _ _ _ bW _ _ _ _=>rw[fj]at bW;cases bW
    | mM _ bW _ _ _ _ _=>rw[fj]at bW;cases bW
    | iU bF ha dD h' bK k'=>have lF:=yw eW ha;omega
    | fresh mk xs e bK dD h' k'=>
     rcases bK with e | e
     ·rw[AI]at e;cases e
     ·exact absurd e.1 eW
    | jI d hd bK dD cs h' k'=>exact⟨d,cs,hd,l9 (fun cs e=>by cases e) dD,h'.move (od hw.ys cZ),k'⟩
   obtain⟨d,cs,qe,AJ,hy,_⟩:=only _ hd.fresh ⟨_,fc⟩
   refine .jI d qe AH AJ cs hy (.fresh JN rE ex pj ?_ (hx.move (JI hw.xs (qd d qe) (hw.yx d qe))) fun g hg hr=> ?_)
   ·rw[rD eW fj]at tr⊢
    intro k cG hk hs
    rcases rA hs with ⟨e,_⟩ | ⟨_,hs⟩
    ·exact hw.ne k hk (by rw[qe,e])
    ·exact tr k cG hk hs
   ·obtain⟨d',cG,Fp,_,uX,hk⟩:=only g hg hr
    obtain rfl:d'=d:=by rw[qe]at Fp;cases Fp;rfl
    obtain rfl:=hy.uniq hS uX
    rw[←Fl (fun e=>hw.ne _ e qe) (fun b o e=>by cases e)];exact hk
  ·have only:∀g,H g=none→Real (ins H g (whole rE ex))→∃mk xs e,md.nb s y.dst=true∧uS P n all y s mk xs e∧∀g',ins H g (whole rE ex) g'=none→Real (ins (ins H g (whole rE ex)) g' (whole xs e))→K (bE (bE s x.dst (.val (JN g))) y.dst (.val (mk g'))) (ins (ins H g (whole rE ex)) g' (whole xs e)):=by
    intro g hg hr
    cases k g hg hr with
    | jH v' bK dD h' k'=>
     rcases bK with e | e
     ·rw[yv.2 po.1]at e;cases e
     ·exact absurd po.2 e
    | jv X' bK dD tn h' k'=>have:=CX bK;omega
    | l7 b cs cG hd bK hb ko h' k'=>have:=rC.1 bK;omega
    | l8 _ bW _ _ _ _ _=>rw[fj]at bW;cases bW
    | oa _ _ _ bW _ _ _ _=>rw[fj]at bW;cases bW
    | mM _ bW _ _ _ _ _=>rw[fj]at bW;cases bW
    | iU bF ha dD h' bK k'=>have lF:=yw eW ha;omega
    | jI d hd bK dD cs h' k'=>rw[AH]at bK;cases bK
    | fresh mk xs e bK dD h' k'=>exact⟨mk,xs,e,l9 (fun cs e=>by cases e) dD,h'.move (od hw.ys cZ),k'⟩
   obtain⟨mk,xs,e,AJ,hy,_⟩:=only _ hd.fresh ⟨_,fc⟩
   refine .fresh mk xs e (.inl AI) AJ hy fun g' iB dR=> .fresh JN rE ex pj (oe tr) (hx.move (uW hw.xs kK)) fun g hg hr=> ?_
   have bo:g≠g':=fun e'=>by subst e';rw[bn]at hg;cases hg
   have qf:H g=none:=by rw[bg _ _ bo]at hg;exact hg
   have px:Real (ins H g (whole rE ex)):=by
    obtain⟨w1,gi⟩:=hr
    rw[CY _ _ _ bo.symm]at gi
    exact⟨w1,gi.le (Heap.bG _ (by rw[bg _ _ bo.symm];exact iB))⟩
   obtain⟨mk',oc,e',_,uX,hk⟩:=only g qf px
   obtain⟨rfl,rfl,rfl⟩:=hy.uniq hS uX
   have:=hk g' (by rw[bg _ _ bo.symm];exact iB) (by rw[CY _ _ _ bo];exact hr)
   rw[←qc _ _ hw.ne,CY _ _ _ bo.symm];exact this
 | l8 _ bW _ _ _ _ _=>rw[fj]at bW;cases bW
 | oa _ _ _ bW _ _ _ _=>rw[fj]at bW;cases bW
 | mM _ bW _ _ _ _ _=>rw[fj]at bW;cases bW
 | iU NR NS tr hx pj k=>
  have lF:=yw eW NS
  obtain⟨v0,Ur,AK,wz⟩:=hx.some hS hH
  rcases hw.kind with ⟨kx0,jk⟩ | ⟨_,ab7,ab8,_⟩
  ·omega
  ·have po:kd y.op=3∧y.guard=none:=⟨ab7,ab8⟩
   rcases Ul po.1 with ⟨AH,AI⟩ | ⟨AH,AI⟩
   ·have only:∀v H',NR v H'→Real H'→∃d cs,y.dst=some d∧md.nb s y.dst=true∧wv P n all y s cs∧K (gX (bE s x.dst (.val v)) d cs) H':=by
     intro v H' hp hr
     cases k v H' hp hr with
     | jH v' bK dD h' k'=>
      rcases bK with e | e
      ·rw[yv.2 po.1]at e;cases e
      ·exact absurd po.2 e
     | jv X' bK dD tn h' k'=>have:=CX bK;omega
     | l7 b cs cG hd bK hb ko h' k'=>have:=rC.1 bK;omega
     | l8 _ bW _ _ _ _ _=>rw[fj]at bW;cases bW
     | oa _ _ _ bW _ _ _ _=>rw[fj]at bW;cases bW
     | mM _ bW _ _ _ _ _=>rw[fj]at bW;cases bW
     | iU bF ha dD h' bK k'=>have lF:=yw eW ha;omega
     | fresh mk xs e bK dD h' k'=>
      rcases bK with e | e
      ·rw[AI]at e;cases e
      ·exact absurd e.1 eW
     | jI d hd bK dD cs h' k'=>exact⟨d,cs,hd,l9 (fun cs e=>by cases e) dD,h'.move (od hw.ys cZ),k'⟩
    obtain⟨d,cs,qe,AJ,hy,_⟩:=only v0 Ur AK wz
    refine .jI d qe AH AJ cs hy (.iU NR NS ?_ (hx.move (JI hw.xs (qd d qe) (hw.yx d qe))) pj fun v H' hp hr=> ?_)
    ·rw[rD eW fj]at tr⊢
     intro k cG hk hs
     rcases rA hs with ⟨e,_⟩ | ⟨_,hs⟩
     ·exact hw.ne k hk (by rw[qe,e])
     ·exact tr k cG hk hs
    ·obtain⟨d',cG,Fp,_,uX,hk⟩:=only v H' hp hr
     obtain rfl:d'=d:=by rw[qe]at Fp;cases Fp;rfl
     obtain rfl:=hy.uniq hS uX
     rw[←Fl (fun e=>hw.ne _ e qe) (fun b o e=>by cases e)];exact hk
   ·have only:∀v H',NR v H'→Real H'→∃mk xs e,md.nb s y.dst=true∧uS P n all y s mk xs e∧∀g',H' g'=none→Real (ins H' g' (whole xs e))→K (bE (bE s x.dst (.val v)) y.dst (.val (mk g'))) (ins H' g' (whole xs e)):=by
     intro v H' hp hr
     cases k v H' hp hr with
     | jH v' bK dD h' k'=>
      rcases bK with e | e
      ·rw[yv.2 po.1]at e;cases e
      ·exact absurd po.2 e
     | jv X' bK dD tn h' k'=>have:=CX bK;omega
     | l7 b cs cG hd bK hb ko h' k'=>have:=rC.1 bK;omega
     | l8 _ bW _ _ _ _ _=>rw[fj]at bW;cases bW
     | oa _ _ _ bW _ _ _ _=>rw[fj]at bW;cases bW
     | mM _ bW _ _ _ _ _=>rw[fj]at bW;cases bW
     | iU bF ha dD h' bK k'=>have lF:=yw eW ha;omega
     | jI d hd bK dD cs h' k'=>rw[AH]at bK;cases bK
     | fresh mk xs e bK dD h' k'=>exact⟨mk,xs,e,l9 (fun cs e=>by cases e) dD,h'.move (od hw.ys cZ),k'⟩
    obtain⟨mk,xs,e,AJ,hy,_⟩:=only v0 Ur AK wz
    refine .fresh mk xs e (.inl AI) AJ hy fun g hg hr=> .iU _ NS (oe tr) ((hx.move (uW hw.xs kK)).frame hg) ?_ fun v th AL Us=> ?_
    ·cases md with
     | plain=>exact absurd rfl eW
     | pg st=>
      refine⟨pj.1,fun v th AL=> ?_⟩
      obtain⟨H',hp,iB,rfl⟩:=AL
      exact Heap.le.mO (pj.2 v H' hp) iB
     | bJ=>
      refine⟨pj.1,fun v th AL=> ?_⟩
      obtain⟨H',hp,iB,rfl⟩:=AL
      exact Heap.le.mO (pj.2 v H' hp) iB
     | gB=>
      rcases pj with e' | e'
      ·exact .inl e'
      ·refine .inr fun v th AL=> ?_
       obtain⟨H',hp,iB,rfl⟩:=AL
       exact Heap.le.mO (e' v H' hp) iB
     | uT=>trivial
     | cO k=>trivial
    ·obtain⟨H',hp,iB,rfl⟩:=AL
     have px:Real H':=by
      obtain⟨w1,gi⟩:=Us
      exact⟨w1,gi.le (Heap.bG _ iB)⟩
     obtain⟨mk',oc,e',_,uX,hk⟩:=only v H' hp px
     obtain⟨rfl,rfl,rfl⟩:=hy.uniq hS uX
     rw[←qc _ _ hw.ne];exact hk g iB Us
theorem Ut(d:Option Nat):ji s d=true↔∀k cs,d=some k→s k≠some (.box cs):=by
 cases d with
 | none=>simp[ji]
 | some d=>
  have e:ji s (some d)=(match s d with | some (.box _)=>false | _=>true):=rfl
  rw[e]
  cases hs:s d with
  | none=>exact⟨(fun _ k cs hk h=>by cases hk;rw[hs]at h;cases h),fun _=>rfl⟩
  | some z=>
   cases z with
   | val v=>exact⟨(fun _ k cs hk h=>by cases hk;rw[hs]at h;cases h),fun _=>rfl⟩
   | box c=>exact⟨(fun h=>by cases h),fun h=>absurd hs (h d c rfl)⟩
   | ref b o=>exact⟨(fun _ k cs hk h=>by cases hk;rw[hs]at h;cases h),fun _=>rfl⟩
theorem uY(hK:md.nZ=true){d:Option Nat}(h:md.nb s d=true):False:=by
 cases md <;> simp[Mode.nZ,Mode.nb]at hK h
theorem gY.ab9(hK:md.nZ=true)(hw:CZ md all x y)(AF:∀d,x.dst=some d→d<n)(qd:∀d,y.dst=some d→d<n)
  (h:gY P n all md x s H (fun s1 H1=>gY P n all md y s1 H1 K)):gY P n all md y s H (fun s2 H2=>gY P n all md x s2 H2 K):=by
 have cZ:∀d,x.dst=some d→d<n∧d∉y.looksAt all:=fun d hd=>⟨AF d hd,hw.xy d hd⟩
 have kK:∀d,y.dst=some d→d<n∧d∉x.looksAt all:=fun d hd=>⟨qd d hd,hw.yx d hd⟩
 have Fo:∀d,y.dst=some d→x.dst≠some d:=fun d hd e=>hw.ne d e hd
 have kx:kd x.op=0:=by
  rcases hw.kind with h1 | h1
  ·exact h1.1
  ·rw[hK]at h1;exact absurd h1.2.2.2 (by decide)
 have ky:kd y.op≠2:=fun e=>by
  rcases hw.kind with ⟨_,h1 | h1 | h1 | h1⟩ | h1
  ·omega
  ·omega
  ·omega
  ·have:=h1.2.1
   cases md <;> simp[Mode.nZ,Mode.NM]at hK this
  ·omega
 have l9:∀{v:Value},ji (bE s x.dst (.val v)) y.dst=true→ji s y.dst=true:=fun{v} hn=>by
  rw[Ut]at hn⊢
  intro k cs hk hs
  exact hn k cs hk (by rw[Fm (Fo k hk)];exact hs)
 have oe:∀{v:Value},ji s x.dst=true→ji (bE s y.dst (.val v)) x.dst=true:=fun{v} hn=>by
  rw[Ut]at hn⊢
  intro k cs hk hs
  exact hn k cs hk (by rw[Fm (hw.ne k hk)]at hs;exact hs)
 cases h with
 | jH v hm nb h k=>exact(uY hK nb).elim
 | jv X hm nb hx h k=>exact(uY hK nb).elim
 | jI d hd hm nb cs h k=>exact(uY hK nb).elim
 | l7 b cs cG hd hm hb ko h k=>have:=rC.1 hm;omega
 | fresh mk xs e hm nb h k=>exact(uY hK nb).elim
 | iU bF ha nb h hm k=>exact(uY hK nb).elim
 | oa mk xs e hk hm nb h k=>have:=yv.1 (show rz x.op=true by simp[rz,hm]);omega
 | mM bF hk ha nb h hm k=>omega
 | l8 v hk hm nb hc h k=>
  cases k with
  | jH v hm nb h k=>exact(uY hK nb).elim
  | jv X hm nb hx h k=>exact(uY hK nb).elim
  | jI d hd hm nb cs h k=>exact(uY hK nb).elim
  | l7 b cs cG hd hm hb ko h k=>exact absurd (rC.1 hm) ky
  | fresh mk xs e hm nb h k=>exact(uY hK nb).elim
  | iU bF ha nb h hm k=>exact(uY hK nb).elim
  | l8 v' iI bK dD jw h' k'=>
   refine .l8 v' iI bK (l9 dD) hc (h'.move (od hw.ys cZ)) (.l8 v hk hm (oe nb) hc (h.move (uW hw.xs kK)) ?_)
   rw[←qc _ _ hw.ne];exact k'
  | oa mk xs e iI bK dD h' k'=>
   refine .oa mk xs e iI bK (l9 dD) (h'.move (od hw.ys cZ)) fun g hg hr=> .l8 v hk hm (oe nb) (fun ad u hu=>cB (Heap.bG _ hg) (hc ad u hu)) (h.move (uW hw.xs kK)) ?_
   rw[←qc _ _ hw.ne];exact k' g hg hr
  | mM bF iI Fq dD h' bK k'=>
   have aca:∀u H',bF u H'→md.fM H':=by
    rcases bK with e | e
    ·exact absurd (rC.1 e) ky
    ·exact e
   refine .mM bF iI Fq (l9 dD) (h'.move (od hw.ys cZ)) bK fun u H' hp hr=> .l8 v hk hm (oe nb) (aca u H' hp) (h.move (uW hw.xs kK)) ?_
   rw[←qc _ _ hw.ne];exact k' u H' hp hr
theorem gY.swap(eW:md≠.plain)(hw:CZ md all x y)(AF:∀d,x.dst=some d→d<n)(qd:∀d,y.dst=some d→d<n)
  (hS:∃a,gA n s a) (hH:Real H) (h:gY P n all md x s H (fun s1 H1=>gY P n all md y s1 H1 K)):gY P n all md y s H (fun s2 H2=>gY P n all md x s2 H2 K):=by
 cases hK:md.nZ with
 | false=>exact gY.ab6 eW hK hw AF qd hS hH h
 | true=>exact gY.ab9 hK hw AF qd h
end
end Go.aq
namespace Go.aq
section
variable (P:Program) (n:Nat) (all:Array Oper) (md:Mode)
def aT:List Oper→St→Heap→(St→Heap→Prop)→Prop
 | [],s,H,K=>K s H
 | o::r,s,H,K=>gY P n all md o s H (fun s' H'=>aT r s' H' K)
end
section
variable {P:Program} {n:Nat} {all:Array Oper} {md:Mode} {s:St} {H:Heap} {K K':St→Heap→Prop}
theorem gY.acb{o:Oper}(rB:∀d,o.dst=some d→d<n)(hS:∃a,gA n s a)(hH:Real H)(h:gY P n all md o s H K)
  (hk:∀s H,(∃a,gA n s a)→Real H→K s H→K' s H):gY P n all md o s H K':=by
 obtain⟨a,ha⟩:=hS
 have AM:∀X:Slot,(∃a,gA n (bE s o.dst X) a):=fun X=>by
  obtain⟨d⟩ | hd:o.dst=none∨∃d,o.dst=some d:=by cases o.dst <;> simp
  ·rw[‹o.dst=none›];exact⟨a,ha⟩
  ·obtain⟨d,hd⟩:=hd
   rw[hd]
   have key:∀u,(∀v,X = .val v→u=v)→∃a,gA n (bE s (some d) X) a:=fun u hu=>by
    refine⟨a.put (some d) u,by rw[Act.CV];exact ha.size,fun t v ht=> ?_⟩
    by_cases e:t=d
    ·subst e
     rw[show bE s (some t) X=put s t X from rfl,ik]at ht
     simp only[Option.some.injEq]at ht
     rw[Act.yu _ _ _ (by rw[ha.size];exact rB t hd),hu v ht]
    ·rw[show bE s (some d) X=put s d X from rfl,fF _ _ e]at ht
     rw[Act.ry _ _ e];exact ha.at_ t v ht
   cases X with
   | val v=>exact key v (fun v' h=>by cases h;rfl)
   | box cs=>exact key undef (fun v' h=>by cases h)
   | ref b off=>exact key undef (fun v' h=>by cases h)
 cases h with
 | jH v hm nb h k=>exact .jH v hm nb h (hk _ _ (AM _) hH k)
 | jv x hm nb hx h k=>exact .jv x hm nb hx h (hk _ _ (AM _) hH k)
 | jI d hd hm nb cs h k=>exact .jI d hd hm nb cs h (hk _ _ ⟨a,ha.size,fun t v ht=>ha.at_ t v (NO ht).2⟩ hH k)
 | l7 b cs cG hd hm hb ko h k=>
  refine .l7 b cs cG hd hm hb ko h (hk _ _ ⟨a,ha.size,fun t v ht=> ?_⟩ hH k)
  by_cases e:t=b
  ·subst e;rw[ik]at ht;cases ht
  ·rw[fF _ _ e]at ht;exact ha.at_ t v ht
 | fresh mk xs e hm nb h k=>exact .fresh mk xs e hm nb h fun g hg hr=>hk _ _ (AM _) hr (k g hg hr)
 | iU bF Fq nb h hm k=>exact .iU bF Fq nb h hm fun v H' hp hr=>hk _ _ (AM _) hr (k v H' hp hr)
 | l8 v bW hm nb hc h k=>exact .l8 v bW hm nb hc h (hk _ _ (AM _) hH k)
 | oa mk xs e bW hm nb h k=>exact .oa mk xs e bW hm nb h fun g hg hr=>hk _ _ (AM _) hr (k g hg hr)
 | mM bF bW Fq nb h hm k=>exact .mM bF bW Fq nb h hm fun v H' hp hr=>hk _ _ (AM _) hr (k v H' hp hr)
theorem aT.front(eW:md≠.plain){y:Oper}{Y:List Oper}(qd:∀d,y.dst=some d→d<n):∀(X:List Oper)(s:St)(H:Heap),(∀x,x∈X→CZ md all x y)→(∀x,x∈X→∀d,x.dst=some d→d<n)→
  (∃a,gA n s a)→Real H→aT P n all md (X++y::Y) s H K→aT P n all md (y::(X++Y)) s H K:=by
 intro X
 induction X with
 | nil=>intro s H _ _ _ _ h;exact h
 | cons x X ih=>
  intro s H hw hn hS hH h
  have h1:gY P n all md x s H (fun s1 H1=>gY P n all md y s1 H1 (fun s2 H2=>aT P n all md (X++Y) s2 H2 K)):=
   gY.acb (hn x (List.mem_cons_self ..)) hS hH h fun s1 H1 hS1 NT h1=>
    ih s1 H1 (fun z hz=>hw z (List.mem_cons_of_mem _ hz)) (fun z hz=>hn z (List.mem_cons_of_mem _ hz)) hS1 NT h1
  exact gY.swap eW (hw x (List.mem_cons_self ..)) (hn x (List.mem_cons_self ..)) qd hS hH h1
end
theorem Oper.Uu{P:Program}{o:Oper}{a:Act}{w:World}{K:Act→World→Prop}{Q:Exit→Act→World→Prop}(h:o.wp P a w K (fun _ _ _=>False)):o.wp P a w K Q:=by
 unfold Oper.wp at h⊢
 generalize (execOp a.eval o).run P w=r at h⊢
 cases r with
 | ok m w'=>
  cases m <;> simp only[Oper.upon]at h⊢<;> first
   | exact h
   | exact h.mono fun e Ff he=>by
      cases e with
      | returned v=>exact he
      | panicked c=>exact he.elim
      | outgrown=>obtain⟨_,_,hh⟩:=he;exact hh.elim
 | halt x w'=>cases x <;> simp only[Oper.upon]at h⊢
section
variable {P:Program} {n:Nat} {w0:World} {H0:Heap} {Q:Exit→Act→World→Prop} {K:St→Heap→Prop}
theorem Fs{a b:Nat}(h:Nat.blt a b=true):a<b:=Nat.le_of_ble_eq_true h
def Ft(n:Nat)(l:List Oper):Bool:=l.all fun o=>match o.dst with | some d=>Nat.blt d n | none=>true
theorem Uv{l:List Oper}(h:Ft n l=true):∀o,o∈l→∀d,o.dst=some d→d<n:=fun o ho d hd=>by
 have:=List.all_eq_true.1 h o ho
 rw[hd]at this
 exact Fs this
theorem aT.wpList{all:Array Oper}(hQ:∀s H a w,Rel w0 H0 n s H a w→K s H→Q .normal a w):∀(l:List Oper)(s:St)(H:Heap)(a:Act)(w:World),(∀o,o∈l→∀d,o.dst=some d→d<n)→
  Rel w0 H0 n s H a w→aT P n all .plain l s H K→wpList P all Q l a w:=by
 intro l
 induction l with
 | nil=>intro s H a w _ hR h;exact hQ s H a w hR h
 | cons o l ih=>
  intro s H a w hn hR h
  have hs:=gY.sound hR (hn o (List.mem_cons_self ..)) h
  unfold Go.wpList
  rcases hs with ⟨h1,h2⟩ | ⟨h1,s',H',dO,h2⟩
  ·rw[if_pos h1]
   refine .inl (Oper.Uu (Oper.wp_mono (fun a' w' hh=> ?_) h2))
   obtain⟨s',H',dO,hk⟩:=hh
   exact ih s' H' a' w' (fun z hz=>hn z (List.mem_cons_of_mem _ hz)) dO hk
  ·rw[if_neg (by rw[h1];simp)]
   exact ih s' H' _ w (fun z hz=>hn z (List.mem_cons_of_mem _ hz)) dO h2
end
def fe(l:List Oper)(i:Nat):Oper:=l[i]?.getD default
def pz(l:List Oper):Nat→Nat→Nat→Bool
 | 0,_,_=>false
 | f+1,i,j=>(fe l j).after.any fun e=>Region.binds .any e&&(Nat.beq e.on i||pz l f i e.on)
def AN(md:Mode)(l:List Oper):List Nat→Bool
 | []=>true
 | i::r=>r.all (fun j=>pz l l.length i j||Sw md l.toArray (fe l i) (fe l j))&&AN md l r
def Fu:List Nat→Bool
 | []=>true
 | i::r=> !r.contains i&&Fu r
def C0(n:Nat)(md:Mode)(l:List Oper)(perm:List Nat):Bool:=
 !md.Ug&&Ft n l&&Nat.beq perm.length l.length&&perm.all (fun i=>Nat.blt i l.length)&&Fu perm&&AN md l perm&&(List.range l.length).all (fun i=>perm.contains i) &&
 (List.range l.length).all fun i=>(fe l i).after.all fun e=> !Region.binds .any e||Nat.blt e.on i
section
variable {P:Program} {n:Nat} {w0:World} {H0:Heap} {Q:Exit→Act→World→Prop} {K:St→Heap→Prop} {md:Mode} {l:List Oper}
theorem JO{i:Nat}(h:i<l.length):l[i]? = some (fe l i):=by
 unfold fe;rw[List.getElem?_eq_getElem h];rfl
theorem acd{ld:Array Bool}(JP:∀i,ld.getD i false=true→∀e,e∈(fe l i).after→Region.binds .any e=true→ld.getD e.on false=true):
  ∀f i j,(∀e,e∈(fe l j).after→Region.binds .any e=true→ld.getD e.on false=true)→pz l f i j=true→ld.getD i false=true:=by
 intro f
 induction f with
 | zero=>intro i j _ h;cases h
 | succ f ih=>
  intro i j hj h
  simp only[pz,Array.any_eq_true']at h
  obtain⟨e,he,h⟩:=h
  simp only[Bool.and_eq_true,Bool.or_eq_true]at h
  obtain⟨hb,h⟩:=h
  rcases h with h | h
  ·have:=Nat.eq_of_beq_eq_true h
   rw[←this];exact hj e he hb
  ·exact ih i e.on (JP _ (hj e he hb)) h
theorem ace{r:List Nat}(h:AN md l r=true):r.Pairwise fun i j=>pz l l.length i j=true∨Sw md l.toArray (fe l i) (fe l j)=true:=by
 induction r with
 | nil=>exact .nil
 | cons i r ih=>
  simp only[AN,Bool.and_eq_true,List.all_eq_true,Bool.or_eq_true]at h
  exact .cons (fun j hj=>h.1 j hj) (ih h.2)
theorem acf{r:List Nat}(h:Fu r=true):r.Nodup:=by
 induction r with
 | nil=>exact .nil
 | cons i r ih=>
  simp only[Fu,Bool.and_eq_true,Bool.not_eq_true',List.contains_eq_mem,decide_eq_false_iff_not]at h
  exact List.nodup_cons.2 ⟨h.1,ih h.2⟩
theorem Uw{A:Array Bool}{i j:Nat}{b:Bool}(hi:i<A.size):(A.setIfInBounds i true).getD j b=if j=i then true else A.getD j b:=by
 simp only[Array.getD_eq_getD_getElem?,Array.getElem?_setIfInBounds]
 by_cases e:i=j
 ·subst e;simp[hi]
 ·rw[if_neg e,if_neg (Ne.symm e)]
theorem acg(eW:md≠.plain)(hn:∀o,o∈l→∀d,o.dst=some d→d<n)(Ux:∀i,i<l.length→∀e,e∈(fe l i).after→Region.binds .any e=true→e.on<i)
  (hQ:∀s H a w,Rel w0 H0 n s H a w→K s H→Q .normal a w):
  ∀(fuel:Nat)(r:List Nat)(ld:Array Bool)(s:St)(H:Heap)(a:Act)(w:World),(∀i,i∈r↔i<l.length∧ld.getD i true=false)→r.Nodup→ld.size=l.length→
  (r.Pairwise fun i j=>pz l l.length i j=true∨Sw md l.toArray (fe l i) (fe l j)=true)→
  (∀i,ld.getD i false=true→∀e,e∈(fe l i).after→Region.binds .any e=true→ld.getD e.on false=true)→
  r.length≤fuel→Rel w0 H0 n s H a w→aT P n l.toArray md (r.map (fe l)) s H K→wpAny P .any l.toArray Q fuel ld a w:=by
 intro fuel
 induction fuel with
 | zero=>
  intro r ld s H a w hr _ cP _ _ hlen hR h
  obtain rfl:r = []:=List.eq_nil_of_length_eq_zero (by omega)
  refine⟨?_,hQ s H a w hR h⟩
  unfold Region.ready
  rw[List.filter_eq_nil_iff]
  intro i hi hp
  simp only[List.mem_range,List.size_toArray]at hi
  simp only[Bool.and_eq_true,Bool.not_eq_true']at hp
  exact absurd ((hr i).2 ⟨hi,hp.1⟩) (by simp)
 | succ fuel ih=>
  intro r ld s H a w hr dV cP yy JP hlen hR h
  have og:∀i,i∈Region.ready .any l.toArray ld↔i∈r∧∀e,e∈(fe l i).after→Region.binds .any e=true→ld.getD e.on false=true:=by
   intro i
   unfold Region.ready
   rw[List.mem_filter,hr]
   simp only[List.mem_range,List.size_toArray,Bool.and_eq_true,Bool.not_eq_true',List.getElem?_toArray]
   constructor
   ·rintro⟨h1,h2,h3⟩
    rw[JO h1]at h3
    simp only[Option.map_some,Option.getD_some,Array.all_eq_true',Bool.or_eq_true,Bool.not_eq_true']at h3
    refine⟨⟨h1,h2⟩,fun e he hb=> ?_⟩
    rcases h3 e he with h4 | h4
    ·rw[hb]at h4;cases h4
    ·exact h4
   ·rintro⟨⟨h1,h2⟩,h3⟩
    refine⟨h1,h2,?_⟩
    rw[JO h1]
    simp only[Option.map_some,Option.getD_some,Array.all_eq_true',Bool.or_eq_true,Bool.not_eq_true']
    intro e he
    cases hb:Region.binds .any e with
    | false=>exact .inl rfl
    | true=>exact .inr (h3 e he hb)
  have NU:∀j,j<l.length→j∉r→ld.getD j false=true:=by
   intro j hj hjr
   have:ld.getD j true≠false:=fun hf=>hjr ((hr j).2 ⟨hj,hf⟩)
   simp only[Array.getD_eq_getD_getElem?]at this⊢
   rw[Array.getElem?_eq_getElem (by omega)]at this⊢
   simpa using this
  refine⟨fun he=> ?_,fun i hi=> ?_⟩
  ·
   have wz:r = []:=by
    cases hc:r with
    | nil=>rfl
    | cons z r'=>
     exfalso
     have key:∀m,∀i,i≤m→i∈r→False:=by
      intro m
      induction m with
      | zero=>
       intro i aP nz
       have rF:i∈Region.ready .any l.toArray ld:=(og i).2 ⟨nz,fun e C1 hb=>by
        have:=Ux i ((hr i).1 nz).1 e C1 hb;omega⟩
       rw[he]at rF;cases rF
      | succ m ihm=>
       intro i aP nz
       have AO:=((hr i).1 nz).1
       have rF:i∈Region.ready .any l.toArray ld:=(og i).2 ⟨nz,fun e C1 hb=>by
        have bX:=Ux i AO e C1 hb
        exact NU e.on (by omega) (fun h'=>ihm e.on (by omega) h')⟩
       rw[he]at rF;cases rF
     exact key z z (Nat.le_refl _) (by rw[hc];exact List.mem_cons_self ..)
   subst wz
   exact hQ s H a w hR h
  ·obtain⟨nz,Uy⟩:=(og i).1 hi
   have AO:=((hr i).1 nz).1
   obtain⟨X,Y,rfl⟩:=List.append_of_mem nz
   have ko:∀x,x∈X→CZ md l.toArray (fe l x) (fe l i):=by
    intro x hx
    have hp:pz l l.length x i=true∨Sw md l.toArray (fe l x) (fe l i)=true:=by
     rw[List.pairwise_append]at yy
     exact yy.2.2 x hx i (List.mem_cons_self ..)
    rcases hp with hp | hp
    ·exfalso
     have h1:=acd JP l.length x i Uy hp
     have h2:=((hr x).1 (List.mem_append_left _ hx)).2
     simp only[Array.getD_eq_getD_getElem?]at h1 h2
     cases hg:ld[x]? with
     | none=>rw[hg]at h1;simp at h1
     | some b=>rw[hg]at h1 h2;simp at h1 h2;rw[h1]at h2;cases h2
    ·exact Sw.out hp
   have NV:∀j,j<l.length→∀d,(fe l j).dst=some d→d<n:=fun j hj=>hn _ (List.mem_of_getElem? (JO hj))
   obtain⟨G,hl,_⟩:=hR.fits
   have ach:=aT.front (P:=P) eW (y:=fe l i) (Y:=Y.map (fe l)) (K:=K) (NV i AO) (X.map (fe l)) s H
    (fun x hx=>by obtain⟨j,hj,rfl⟩:=List.mem_map.1 hx;exact ko j hj)
    (fun x hx=>by obtain⟨j,hj,rfl⟩:=List.mem_map.1 hx;exact NV j ((hr j).1 (List.mem_append_left _ hj)).1) ⟨a,hl.aK⟩ ⟨w,hl.den⟩ (by simpa using h)
   have hs:=gY.sound hR (NV i AO) ach
   have Uz:(X++Y).Nodup∧i∉X++Y:=by
    have:=(List.perm_middle (a:=i) (l₁:=X) (l₂:=Y)).nodup_iff.1 dV
    rw[List.nodup_cons]at this
    exact⟨this.2,this.1⟩
   have next:∀s' H' a' w',Rel w0 H0 n s' H' a' w'→aT P n l.toArray md (X.map (fe l)++Y.map (fe l)) s' H' K→wpAny P .any l.toArray Q fuel (ld.setIfInBounds i true) a' w':=by
    intro s' H' a' w' dO hk
    refine ih (X++Y) _ s' H' a' w' (fun j=> ?_) Uz.1 (by simpa using cP) ?_ (fun j hj e C1 hb=> ?_) ?_ dO (by simpa using hk)
    ·rw[Uw (by omega)]
     by_cases e:j=i
     ·subst e
      simp only[if_true]
      exact⟨fun h'=>absurd h' Uz.2,fun h'=>by cases h'.2⟩
     ·rw[if_neg e,←hr]
      simp only[List.mem_append,List.mem_cons]
      constructor
      ·rintro(h' | h')
       ·exact .inl h'
       ·exact .inr (.inr h')
      ·rintro(h' | h' | h')
       ·exact .inl h'
       ·exact absurd h' e
       ·exact .inr h'
    ·exact yy.sublist (List.Sublist.append (List.Sublist.refl _) (List.sublist_cons_self ..))
    ·rw[Uw (by omega)]at hj⊢
     by_cases e2:e.on=i
     ·rw[if_pos e2]
     ·rw[if_neg e2]
      by_cases e3:j=i
      ·subst e3;exact Uy e C1 hb
      ·rw[if_neg e3]at hj;exact JP j hj e C1 hb
    ·simp only[List.length_append,List.length_cons]at hlen⊢;omega
   unfold wpOp
   rw[show l.toArray[i]? = some (fe l i)from by rw[List.getElem?_toArray];exact JO AO]
   simp only
   rcases hs with ⟨h1,h2⟩ | ⟨h1,s',H',dO,h2⟩
   ·rw[if_pos h1]
    refine .inl (Oper.Uu (Oper.wp_mono (fun a' w' hh=> ?_) h2))
    obtain⟨s',H',dO,hk⟩:=hh
    exact next s' H' a' w' dO hk
   ·rw[if_neg (by rw[h1];simp)]
    exact next s' H' _ w dO h2
theorem aci{id:Nat}{perm:List Nat}{s:St}{H:Heap}{a:Act}{w:World}(hf:P.follows .mixedOrders=true)(hc:C0 n md l perm=true)
  (hQ:∀s H a w,Rel w0 H0 n s H a w→K s H→Q .normal a w) (hR:Rel w0 H0 n s H a w) (h:aT P n l.toArray md (perm.map (fe l)) s H K):(Code.region id l.toArray true).wp P Q a w:=by
 simp only[C0,Bool.and_eq_true,List.all_eq_true]at hc
 obtain⟨⟨⟨⟨⟨⟨⟨h1,h2⟩,h3⟩,h4⟩,h5⟩,h6⟩,h8⟩,h7⟩:=hc
 have h1:md≠.plain:=fun e=>by rw[e]at h1;cases h1
 have h3:=Nat.eq_of_beq_eq_true h3
 have h4:∀i,i∈perm→i<l.length:=fun i hi=>Fs (h4 i hi)
 have h5:=acf h5
 have fT:∀i,i<l.length→i∈perm:=by
  intro i hi
  simpa using h8 i (List.mem_range.2 hi)
 refine wp_region_any hf ?_
 refine acg h1 (Uv h2) (fun i hi e he hb=> ?_) hQ l.toArray.size perm _ s H a _ (fun i=> ?_) h5 (by simp) (ace h6) (fun i hi=> ?_) (by simp[h3]) ?_ h
 ·have:=h7 i (List.mem_range.2 hi)
  rw[Array.all_eq_true']at this
  have:=this e he
  simp only[Bool.or_eq_true,Bool.not_eq_true']at this
  rcases this with h' | h'
  ·rw[hb]at h';cases h'
  ·exact Fs h'
 ·constructor
  ·intro hi
   refine⟨h4 i hi,?_⟩
   simp[Array.getD_eq_getD_getElem?,h4 i hi]
  ·exact fun hi=>fT i hi.1
 ·exfalso
  simp only[Array.getD_eq_getD_getElem?,Array.getElem?_replicate]at hi
  split at hi <;> simp at hi
 ·obtain⟨G,hl,hb⟩:=hR.fits
  exact⟨hR.defers,⟨G,⟨hl.aK,hl.boxes,hl.inj,hl.refs,hl.den⟩,hb⟩,⟨hR.fx.os,hR.fx.tape,hR.fx.output,hR.fx.size,hR.fx.keep,hR.fx.form⟩⟩
end
end Go.aq
