/- Part 0 of the proof: Eng1, Eng2, Eng3, Eng4, Eng5. -/
import Derived.Orders
import Derived.Tactics
import Derived.Maps.AppendAt
import Derived.Laws.OwnMore
import Derived.Laws.MakeOwn
import Derived.Below
set_option linter.unusedVariables false
namespace Go.ar
inductive Slot where
 | val (v:Value)
 | box (cs:List Value)
 | ref (b off:Nat)
abbrev St:=Nat→Option Slot
def emp:St:=fun _=>none
def put(s:St)(d:Nat)(x:Slot):St:=fun t=>cond (Nat.beq t d) (some x) (s t)
def gG(s:St)(d:Nat)(cs:List Value):St:=fun t=>
 cond (Nat.beq t d) (some (.box cs)) (match s t with | some (.ref b o)=>cond (Nat.beq b d) none (some (.ref b o)) | x=>x)
def bn(s:St)(d:Option Nat)(x:Slot):St:=match d with | some d=>put s d x | none=>s
theorem gS(s:St)(d:Nat)(x:Slot):put s d x d=some x:=by simp[put]
theorem fp(s:St){d t:Nat}(x:Slot)(h:t≠d):put s d x t=s t:=by
 have:Nat.beq t d=false:=by
  cases hb:Nat.beq t d with
  | false=>rfl
  | true=>exact absurd (Nat.eq_of_beq_eq_true hb) h
 simp[put,this]
theorem put_comm(s:St){d e:Nat}(x y:Slot)(h:d≠e):put (put s d x) e y=put (put s e y) d x:=by
 funext t
 by_cases h1:t=d
 ·subst h1;rw[fp _ _ h,gS,gS]
 ·by_cases h2:t=e
  ·subst h2;rw[gS,fp _ _ h1,gS]
  ·rw[fp _ _ h2,fp _ _ h1,fp _ _ h1,fp _ _ h2]
structure Ent where
 xs:List Value
 size:Nat
 elem:TypeId
 own:Bool
def Ent.of(e:Ent)(o:Obj):Prop:=
 ∃(c:Array Value)(fz:Nat×Nat),o = .cells c e.elem fz∧c.size=e.size∧(∀(i:Nat)(v:Value),e.xs[i]? = some v→c[i]? = some v)∧(e.own=true→fz=(0,0))
abbrev Heap:=Nat→Option Ent
def Den(H:Heap)(w:World):Prop:=∀g e,H g=some e→∃o,w.heap[g]? = some o∧e.of o
def ins(H:Heap)(g:Nat)(e:Ent):Heap:=fun k=>if k=g then some e else H k
theorem bo(H:Heap)(g:Nat)(e:Ent):ins H g e g=some e:=by simp[ins]
theorem a7(H:Heap){g k:Nat}(e:Ent)(h:k≠g):ins H g e k=H k:=by simp[ins,h]
def Ent.le(e e':Ent):Prop:=e'.size=e.size∧e'.elem=e.elem∧e'.own=e.own∧e.xs <+:e'.xs
def Heap.le(H H':Heap):Prop:=∀g e,H g=some e→∃e',H' g=some e'∧e.le e'
theorem Ent.le.refl(e:Ent):e.le e:=⟨rfl,rfl,rfl,List.prefix_rfl⟩
theorem Ent.le.trans{a b c:Ent}(h:a.le b)(k:b.le c):a.le c:=
 ⟨k.1.trans h.1,k.2.1.trans h.2.1,k.2.2.1.trans h.2.2.1,h.2.2.2.trans k.2.2.2⟩
theorem Heap.le.refl(H:Heap):Heap.le H H:=fun _ e h=>⟨e,h,.refl e⟩
theorem Heap.le.trans{A B C:Heap}(h:Heap.le A B)(k:Heap.le B C):Heap.le A C:=fun g e he=>by
 obtain⟨e',h1,h2⟩:=h g e he
 obtain⟨Md,h3,h4⟩:=k g e' h1
 exact⟨Md,h3,h2.trans h4⟩
theorem Heap.bI{H:Heap}{g:Nat}(e:Ent)(h:H g=none):Heap.le H (ins H g e):=fun k x hk=>
 ⟨x,by rw[a7 _ _ (fun e=>by subst e;rw[h]at hk;cases hk)];exact hk,.refl x⟩
theorem Me{l l':List Value}(h:l <+:l'){i:Nat}{v:Value}(hi:l[i]? = some v):l'[i]? = some v:=by
 obtain⟨t,rfl⟩:=h
 rw[List.getElem?_append_left (List.getElem?_eq_some_iff.1 hi).1];exact hi
theorem Ent.le.of{e e':Ent}(h:e.le e'){o:Obj}(ho:e'.of o):e.of o:=by
 obtain⟨c,fz,h1,h2,h3,h4⟩:=ho
 exact⟨c,fz,by rw[h1,h.2.1],by rw[h2,h.1],fun i v hv=>h3 i v (Me h.2.2.2 hv),fun ho=>h4 (h.2.2.1.trans ho)⟩
theorem Den.le{H H':Heap}(h:Heap.le H H'){w:World}(hd:Den H' w):Den H w:=fun g e he=>by
 obtain⟨e',h1,h2⟩:=h g e he
 obtain⟨o,h3,h4⟩:=hd g e' h1
 exact⟨o,h3,h2.of h4⟩
theorem Den.lt{H:Heap}{w:World}(h:Den H w){g:Nat}{e:Ent}(hg:H g=some e):g<w.heap.size:=by
 obtain⟨o,h1,_⟩:=h g e hg
 exact(Array.getElem?_eq_some_iff.1 h1).1
theorem Den.fresh{H:Heap}{w:World}(h:Den H w):H w.heap.size=none:=by
 cases hg:H w.heap.size with
 | none=>rfl
 | some e=>have:=h.lt hg;omega
def cell(H:Heap)(a:Addr):Option Value:=
 match H a.block with
 | some e=>if a.spot.isSome then none else e.xs[a.off]?
 | none=>none
theorem Den.cell{H:Heap}{w:World}(h:Den H w){a:Addr}{v:Value}(hc:cell H a=some v):w.cell? a=some v:=by
 unfold ar.cell at hc
 cases hg:H a.block with
 | none=>rw[hg]at hc;cases hc
 | some e=>
  rw[hg]at hc
  obtain⟨o,h1,c,fz,rfl,h3,h4,_⟩:=h _ _ hg
  simp only at hc
  split at hc
  ·cases hc
  ·rename_i hs
   simp[World.cell?,h1,hs,h4 _ _ hc]
theorem cF{H H':Heap}(h:Heap.le H H'){a:Addr}{v:Value}(hc:cell H a=some v):cell H' a=some v:=by
 unfold cell at hc⊢
 cases hg:H a.block with
 | none=>rw[hg]at hc;cases hc
 | some e=>
  rw[hg]at hc
  obtain⟨e',h1,h2⟩:=h _ _ hg
  rw[h1]
  simp only at hc⊢
  split at hc
  ·cases hc
  ·rename_i hs
   rw[if_neg hs];exact Me h2.2.2.2 hc
structure Fx(H:Heap)(w:World)(H':Heap)(w':World):Prop where
 os:w'.os=w.os
 tape:w'.tape=w.tape
 output:w'.output=w.output
 size:w.heap.size≤w'.heap.size
 keep:∀g,g<w.heap.size→H g=none→w'.heap[g]? = w.heap[g]?∧H' g=none
 form:∀(g:Nat)(c:Array Value)(t:TypeId)(fz:Nat×Nat),w.heap[g]? = some (.cells c t fz)→∃c',w'.heap[g]? = some (.cells c' t fz)∧c'.size=c.size
theorem Fx.refl(H:Heap)(w:World):Fx H w H w:=⟨rfl,rfl,rfl,Nat.le_refl _,fun _ _ h=>⟨rfl,h⟩,fun _ c _ _ h=>⟨c,h,rfl⟩⟩
theorem Fx.trans{H H' rW:Heap}{w w' DJ:World}(h:Fx H w H' w')(k:Fx H' w' rW DJ):Fx H w rW DJ:=
 ⟨k.os.trans h.os,k.tape.trans h.tape,k.output.trans h.output,Nat.le_trans h.size k.size,fun g hg h0=>by
  have h1:=h.keep g hg h0
  have h2:=k.keep g (Nat.lt_of_lt_of_le hg h.size) h1.2
  exact⟨h2.1.trans h1.1,h2.2⟩,fun g c t fz hc=>by
  obtain⟨c1,h1,h2⟩:=h.form g c t fz hc
  obtain⟨c2,h3,h4⟩:=k.form g c1 t fz h1
  exact⟨c2,h3,h4.trans h2⟩⟩
theorem Fx.Mf{w w':World}(h:∀g,g<w.heap.size→w'.heap[g]? = w.heap[g]?):∀(g:Nat)(c:Array Value)(t:TypeId)(fz:Nat×Nat),w.heap[g]? = some (.cells c t fz)→∃c',w'.heap[g]? = some (.cells c' t fz)∧c'.size=c.size:=
 fun g c t fz hc=>⟨c,by rw[h g (Array.getElem?_eq_some_iff.1 hc).1];exact hc,rfl⟩
structure gf(n:Nat)(s:St)(a:Act):Prop where
 size:a.tmps.size=n
 at_:∀t v,s t=some (.val v)→a.tmps[t]? = some v
structure Rl(n:Nat)(s:St)(H:Heap)(G:Nat→Nat)(a:Act)(w:World):Prop where
 aH:gf n s a
 boxes:∀t cs,s t=some (.box cs)→a.tmps[t]? = some (.pointer (some ⟨G t,0,none⟩))∧H (G t)=none∧∃e,w.heap[G t]? = some (.cells cs.toArray e (0,0))
 inj:∀t t' cs cA,s t=some (.box cs)→s t'=some (.box cA)→G t=G t'→t=t'
 refs:∀t b off cs,s t=some (.ref b off)→s b=some (.box cs)→a.tmps[t]? = some (.pointer (some ⟨G b,off,none⟩))
 den:Den H w
structure Rel(w0:World)(H0:Heap)(n:Nat)(s:St)(H:Heap)(a:Act)(w:World):Prop where
 defers:a.defers = []
 fits:∃G,Rl n s H G a w∧∀t cs,s t=some (.box cs)→w0.heap.size≤G t
 fx:Fx H0 w0 H w
def ev(s:St):Operand→Option Value
 | .tmp t=>match s t with | some (.val v)=>some v | _=>none
 | .const v=>some v
 | .func f=>some (.func (.func f) #[] #[])
 | .global g=>some (.pointer (some ⟨g,0,none⟩))
theorem bO{n:Nat}{s:St}{a:Act}(h:gf n s a){x:Operand}{v:Value}(hx:ev s x=some v):a.eval x=v:=by
 cases x with
 | tmp t=>
  simp only[ev]at hx
  cases hs:s t with
  | none=>rw[hs]at hx;cases hx
  | some y=>
   rw[hs]at hx
   cases y with
   | val u=>
    simp only[Option.some.injEq]at hx
    subst hx
    have:=h.at_ t u hs
    simp[Act.eval,this]
   | box=>cases hx
   | ref=>cases hx
 | const u=>simp only[ev,Option.some.injEq]at hx;exact hx
 | func f=>simp only[ev,Option.some.injEq]at hx;exact hx
 | global g=>simp only[ev,Option.some.injEq]at hx;exact hx
theorem Act.wM(a:Act)(d:Nat)(v:Value)(h:d<a.tmps.size):(a.put (some d) v).tmps[d]? = some v:=by
 simp[Act.put,h]
theorem Act.qF(a:Act){d t:Nat}(v:Value)(h:t≠d):(a.put (some d) v).tmps[t]? = a.tmps[t]? :=by
 simp[Act.put,Array.getElem?_setIfInBounds_ne (Ne.symm h)]
theorem Act.BQ(a:Act)(d:Option Tmp)(v:Value):(a.put d v).tmps.size=a.tmps.size:=by
 cases d <;> simp[Act.put]
theorem Act.Sq(a:Act)(d:Option Tmp)(v:Value):(a.put d v).defers=a.defers:=by
 cases d <;> rfl
def Mg(G:Nat→Nat):Slot→Value→Prop
 | .val v,u=>u=v
 | .ref b off,u=>u = .pointer (some ⟨G b,off,none⟩)
 | .box _,_=>False
theorem Rl.put{n:Nat}{s:St}{H:Heap}{G:Nat→Nat}{a:Act}{w:World}(h:Rl n s H G a w){d:Nat}{x:Slot}{v:Value}(hn:d<n)(hx:Mg G x v):
  Rl n (put s d x) H G (a.put (some d) v) w:=by
 have hd:d<a.tmps.size:=by rw[h.aH.size];exact hn
 have nb:∀t cs,ar.put s d x t=some (.box cs)→t≠d∧s t=some (.box cs):=by
  intro t cs ht
  by_cases e:t=d
  ·subst e
   rw[gS]at ht
   simp only[Option.some.injEq]at ht
   subst ht
   exact hx.elim
  ·rw[fp _ _ e]at ht;exact⟨e,ht⟩
 refine⟨⟨by rw[Act.BQ];exact h.aH.size,fun t u ht=> ?_⟩,fun t cs ht=> ?_,fun t t' cs cA ht oQ e=> ?_,fun t b off cs ht hb=> ?_,h.den⟩
 ·by_cases e:t=d
  ·subst e
   rw[gS]at ht
   simp only[Option.some.injEq]at ht
   subst ht
   rw[Act.wM _ _ _ hd,hx]
  ·rw[fp _ _ e]at ht
   rw[Act.qF _ _ e];exact h.aH.at_ t u ht
 ·obtain⟨e,ht⟩:=nb t cs ht
  rw[Act.qF _ _ e];exact h.boxes t cs ht
 ·exact h.inj t t' cs cA (nb t cs ht).2 (nb t' cA oQ).2 e
 ·obtain⟨_,hb⟩:=nb b cs hb
  by_cases e:t=d
  ·subst e
   rw[gS]at ht
   simp only[Option.some.injEq]at ht
   subst ht
   rw[Act.wM _ _ _ hd,hx]
  ·rw[fp _ _ e]at ht
   rw[Act.qF _ _ e];exact h.refs t b off cs ht hb
theorem Rl.tB{n:Nat}{s:St}{H H':Heap}{G:Nat→Nat}{a:Act}{w w':World}(h:Rl n s H G a w)(hd:Den H' w')(hf:Fx H w H' w'):Rl n s H' G a w':=
 ⟨h.aH,fun t cs ht=>by
  obtain⟨h1,h2,e,h3⟩:=h.boxes t cs ht
  obtain⟨h4,h5⟩:=hf.keep (G t) (Array.getElem?_eq_some_iff.1 h3).1 h2
  exact⟨h1,h5,e,h4.trans h3⟩,h.inj,h.refs,hd⟩
theorem Rl.le{n:Nat}{s:St}{H H':Heap}{G:Nat→Nat}{a:Act}{w:World}(h:Rl n s H' G a w)(hl:Heap.le H H'):Rl n s H G a w:=
 ⟨h.aH,fun t cs ht=>by
  obtain⟨h1,h2,h3⟩:=h.boxes t cs ht
  refine⟨h1,?_,h3⟩
  cases hg:H (G t)with
  | none=>rfl
  | some e=>(obtain⟨e',h4,_⟩:=hl _ _ hg;rw[h2]at h4;exact nomatch h4),h.inj,h.refs,h.den.le hl⟩
theorem gf.back{n:Nat}{s s':St}{a:Act}{d:Nat}(h:gf n s' a)(hs:∀t v,t≠d→s t=some (.val v)→s' t=some (.val v))(hd:d<n):∃v,gf n s (a.put (some d) v):=by
 have mf:d<a.tmps.size:=by rw[h.size];exact hd
 have key:∀v,(∀u,s d=some (.val u)→v=u)→gf n s (a.put (some d) v):=fun v h1=>
  ⟨by rw[Act.BQ];exact h.size,fun t u ht=>by
   by_cases e:t=d
   ·subst e;rw[Act.wM _ _ _ mf,h1 u ht]
   ·rw[Act.qF _ _ e];exact h.at_ t u (hs t u e ht)⟩
 cases hx:s d with
 | none=>exact⟨undef,key _ (fun u hu=>by rw[hx]at hu;cases hu)⟩
 | some y=>
  cases y with
  | val u=>exact⟨u,key _ (fun u' hu=>by rw[hx]at hu;cases hu;rfl)⟩
  | box cs=>exact⟨undef,key _ (fun u hu=>by rw[hx]at hu;cases hu)⟩
  | ref b o=>exact⟨undef,key _ (fun u hu=>by rw[hx]at hu;cases hu)⟩
theorem Rl.back{n:Nat}{s s':St}{H:Heap}{G:Nat→Nat}{a:Act}{w:World}{d:Nat}(h:Rl n s' H G a w)(hn:∀cs,s d≠some (.box cs))
  (hs:∀t x,t≠d→s t=some x→(∀b o,x = .ref b o→b≠d)→s' t=some x) (hd:d<n):∃v,Rl n s H G (a.put (some d) v) w:=by
 have mf:d<a.tmps.size:=by rw[h.aH.size];exact hd
 have vc:∀t cs,s t=some (.box cs)→s' t=some (.box cs)∧t≠d:=fun t cs ht=>by
  have e:t≠d:=fun e=>by subst e;exact hn cs ht
  exact⟨hs t _ e ht (fun b o h=>by cases h),e⟩
 have key:∀v,(∀u,s d=some (.val u)→v=u)→(∀b o,s d=some (.ref b o)→v = .pointer (some ⟨G b,o,none⟩))→Rl n s H G (a.put (some d) v) w:=by
  intro v h1 h2
  refine⟨⟨by rw[Act.BQ];exact h.aH.size,fun t u ht=> ?_⟩,fun t cs ht=> ?_,fun t t' cs cA ht oQ e=> ?_,fun t b off cs ht hb=> ?_,h.den⟩
  ·by_cases e:t=d
   ·subst e;rw[Act.wM _ _ _ mf,h1 u ht]
   ·rw[Act.qF _ _ e];exact h.aH.at_ t u (hs t _ e ht (fun b o h=>by cases h))
  ·obtain⟨h3,e⟩:=vc t cs ht
   rw[Act.qF _ _ e];exact h.boxes t cs h3
  ·exact h.inj t t' cs cA (vc t cs ht).1 (vc t' cA oQ).1 e
  ·obtain⟨rX,eb⟩:=vc b cs hb
   by_cases e:t=d
   ·subst e;rw[Act.wM _ _ _ mf,h2 b off ht]
   ·rw[Act.qF _ _ e]
    exact h.refs t b off cs (hs t _ e ht (fun b' o' h=>by cases h;exact eb)) rX
 cases hx:s d with
 | none=>exact⟨undef,key _ (fun u hu=>by rw[hx]at hu;cases hu) (fun b o hu=>by rw[hx]at hu;cases hu)⟩
 | some y=>
  cases y with
  | val u=>exact⟨u,key _ (fun u' hu=>by rw[hx]at hu;cases hu;rfl) (fun b o hu=>by rw[hx]at hu;cases hu)⟩
  | box cs=>exact absurd hx (hn cs)
  | ref b o=>exact⟨_,key (.pointer (some ⟨G b,o,none⟩)) (fun u hu=>by rw[hx]at hu;cases hu) (fun b' o' hu=>by rw[hx]at hu;cases hu;rfl)⟩
end Go.ar
namespace Go.ar
section
variable (P:Program) (n:Nat)
def DK(all:Array Oper)(s:St)(o:Oper):Prop:=
 o.guard=none∨∃j want d,o.guard=some (j,want)∧(all[j]?).bind (·.dst)=some d∧s d=some (.val (.bool want))
def Sr(all:Array Oper)(s:St)(o:Oper):Prop:=
 ∃j want d v,o.guard=some (j,want)∧(all[j]?).bind (·.dst)=some d∧s d=some (.val v)∧((∃b,v = .bool b∧b≠want)∨∃ts,v = .tuple ts)
def Ig(all:Array Oper)(o:Oper)(s:St)(H:Heap)(v:Value):Prop:=∀a w,gf n s a→Den H w→
 (Region.wanted o (yielded all a.tmps)=true∧(execOp a.eval o).run P w = .ok (.value v) w)∨(Region.wanted o (yielded all a.tmps)=false∧v=undef)
def BR(all:Array Oper)(o:Oper)(s:St)(H:Heap)(x:Slot):Prop:=∀G a w,Rl n s H G a w→
 ∃v,Mg G x v∧Region.wanted o (yielded all a.tmps)=true∧(execOp a.eval o).run P w = .ok (.value v) w
def vd(all:Array Oper)(o:Oper)(s:St)(cs:List Value):Prop:=∀a w,gf n s a→
 Region.wanted o (yielded all a.tmps)=true∧∃e,(execOp a.eval o).run P w = .ok (.value (.pointer (some ⟨w.heap.size,0,none⟩))) (w.alloc (.cells cs.toArray e (0,0)))
structure Ss(w w':World)(g:Nat)(cs:List Value):Prop where
 os:w'.os=w.os
 tape:w'.tape=w.tape
 output:w'.output=w.output
 size:w'.heap.size=w.heap.size
 other:∀k,k≠g→w'.heap[k]? = w.heap[k]?
 new:∃e,w'.heap[g]? = some (.cells cs.toArray e (0,0))
def Ih(all:Array Oper)(o:Oper)(s:St)(b:Nat)(cA:List Value):Prop:=∀H G a w,Rl n s H G a w→
 Region.wanted o (yielded all a.tmps)=true∧∃w',(execOp a.eval o).run P w = .ok .skip w'∧Ss w w' (G b) cA
def tC(all:Array Oper)(o:Oper)(s:St)(mk:Nat→Value)(xs:List Value)(e:TypeId):Prop:=∀a w,gf n s a→
 Region.wanted o (yielded all a.tmps)=true∧(execOp a.eval o).run P w = .ok (.value (mk w.heap.size)) (w.alloc (.cells xs.toArray e (0,0)))
def whole(xs:List Value)(e:TypeId):Ent:=⟨xs,xs.length,e,true⟩
def lk(o:Oper)(ρ:Operand→Value)(w:World)(R:Value→World→Prop):Prop:=
 match (execOp ρ o).run P w with
 | .ok (.value v) w'=>R v w'
 | .ok .skip w'=>R undef w'
 | .ok (.enter f args) w'=>Calls P f args w' fun e DJ=>∃v,e = .returned v∧R v DJ
 | _=>False
def EV(all:Array Oper)(o:Oper)(s:St)(H:Heap)(bx:Value→Heap→Prop):Prop:=∀a w,gf n s a→Den H w→
 Region.wanted o (yielded all a.tmps)=true∧lk P o a.eval w (fun v w'=>∃H',bx v H'∧Den H' w'∧Fx H w H' w')
inductive Mode where
 | plain | bF | fV | tD
 | cG (kc:Addr→Option Value)
 | pM (st:List Nat)
def Mode.Su:Mode→Bool
 | .plain=>true
 | _=>false
def Mode.Mh:Mode→Bool
 | .bF=>true
 | .pM _=>true
 | _=>false
def Mode.Mi:Mode→Bool
 | .pM _=>true
 | _=>false
def Mode.wr:Mode→Nat→Bool
 | .pM st,b=>st.contains b
 | _,_=>false
def Mode.SA:Mode→Nat→Bool
 | .pM st,b=>st.contains b
 | _,_=>true
def ju(md:Mode)(s s':St):Prop:=∀t,s' t=s t∨(md.wr t=true∧∃c c',s t=some (.box c)∧s' t=some (.box c'))
theorem ju.refl(md:Mode)(s:St):ju md s s:=fun _=> .inl rfl
theorem ju.val{md:Mode}{s s':St}(h:ju md s s'){t:Nat}{x:Slot}(hx:∀c,x≠.box c)(e:s t=some x):s' t=some x:=by
 rcases h t with h1 | ⟨_,c,c',h1,_⟩
 ·rw[h1,e]
 ·rw[e]at h1;exact absurd (Option.some.inj h1) (hx c)
theorem ju.box{md:Mode}{s s':St}(h:ju md s s'){t:Nat}{c:List Value}(e:s t=some (.box c)):∃c',s' t=some (.box c'):=by
 rcases h t with h1 | ⟨_,_,c',_,h1⟩
 ·exact⟨c,by rw[h1,e]⟩
 ·exact⟨c',h1⟩
theorem ju.keep{md:Mode}{s s':St}(h:ju md s s'){t:Nat}(e:md.wr t=false):s' t=s t:=by
 rcases h t with h1 | ⟨h1,_⟩
 ·exact h1
 ·rw[e]at h1;cases h1
def Mode.SB:Mode→Bool
 | .tD=>true
 | _=>false
def Mode.nF:Mode→Bool
 | .cG _=>true
 | _=>false
def Mode.kc:Mode→Addr→Option Value
 | .cG k=>k
 | _=>fun _=>none
def Mode.fy(md:Mode)(H:Heap):Prop:=∀ad v,md.kc ad=some v→cell H ad=some v
def ja(s:St)(d:Option Nat):Bool:=
 match d with
 | some d=>(match s d with | some (.box _)=>false | _=>true)
 | none=>true
def yZ:Op→Bool
 | .store .. =>true
 | _=>false
def DL:Op→Bool
 | .load .. | .fieldAddr .. =>true
 | _=>false
def y5:Op→Bool
 | .alloc _ | .box .. =>true
 | _=>false
def y6:Op→Bool
 | .buildSlice .. =>true
 | _=>false
def qG(o:Op):Bool:=y5 o||y6 o
def Real(H:Heap):Prop:=∃w,Den H w
def rY:Op→Bool
 | .select .. =>false
 | _=>true
def Ii(c:Call):Bool:=
 match c.callee with
 | .builtin .len | .builtin .cap | .builtin .min | .builtin .max=>true
 | _=>false
def kd:Op→Nat
 | .store .. =>2
 | .alloc _ | .box .. | .buildSlice .. =>3
 | .call c=>if Ii c then 0 else 1
 | .makeSlice .. | .go _ | .defer _ | .panic _ | .send .. | .recv .. | .select .. | .mapUpdate .. | .mapEntry .. | .entryStore .. | .insert .. | .makeMap .. | .makeChan .. | .ready _ | .next .. | .range .. =>1
 | _=>0
def Mode.ok(md:Mode)(o:Oper)(H:Heap)(bx:Value→Heap→Prop):Prop:=
 match md with
 | .plain=>True
 | .bF=>yZ o.op=false∧∀v H',bx v H'→Heap.le H H'
 | .fV=>yZ o.op=true∨∀v H',bx v H'→Heap.le H H'
 | .tD=>True
 | .cG _=>True
 | .pM _=>yZ o.op=false∧∀v H',bx v H'→Heap.le H H'
def Mode.nb(md:Mode)(s:St)(d:Option Nat):Bool:=
 match md with
 | .plain=>true
 | .cG _=>false
 | _=>match d with
  | some d=>(match s d with | some (.box _)=>false | _=>true)
  | none=>true
def Slot.rZ(s:St):Slot→Bool
 | .val _=>true
 | .box _=>false
 | .ref b _=>match s b with | some (.box _)=>true | _=>false
def Ij(md:Mode)(all:Array Oper)(o:Oper)(s:St)(v:Value):Prop:=∀a w,gf n s a→(∀ad u,md.kc ad=some u→w.cell? ad=some u)→
 (Region.wanted o (yielded all a.tmps)=true∧(execOp a.eval o).run P w = .ok (.value v) w)∨(Region.wanted o (yielded all a.tmps)=false∧v=undef)
inductive gH(all:Array Oper)(md:Mode)(o:Oper)(s:St)(H:Heap)(K:St→Heap→Prop):Prop
 | jI (v:Value) (hm:qG o.op=false∨o.guard≠none) (nb:md.nb s o.dst=true) (h:Ig P n all o s H v) (k:K (bn s o.dst (.val v)) H)
 | jv (x:Slot) (hm:DL o.op=true) (nb:md.nb s o.dst=true) (hx:x.rZ s=true) (h:∀s',ju md s s'→BR P n all o s' H x) (k:K (bn s o.dst x) H)
 | jJ (d:Nat) (hd:o.dst=some d) (hm:y5 o.op=true) (nb:md.nb s o.dst=true) (cs:List Value) (h:vd P n all o s cs) (k:K (gG s d cs) H)
 | lM (b:Nat) (cs cA:List Value) (hd:o.dst=none) (hm:yZ o.op=true) (hb:s b=some (.box cs)) (hw:md.SA b=true) (h:Ih P n all o s b cA) (k:K (put s b (.box cA)) H)
 | fresh (mk:Nat→Value) (xs:List Value) (e:TypeId) (hm:y6 o.op=true∨(md = .plain∧y5 o.op=true)) (nb:md.nb s o.dst=true) (h:tC P n all o s mk xs e) (k:∀g,H g=none→Real (ins H g (whole xs e))→K (bn s o.dst (.val (mk g))) (ins H g (whole xs e)))
 | iK (bx:Value→Heap→Prop) (ha:kd o.op=1∨kd o.op=2∨md = .plain) (nb:md.nb s o.dst=true) (h:EV P n all o s H bx) (hm:md.ok o H bx) (k:∀v H',bx v H'→Real H'→K (bn s o.dst (.val v)) H')
 | lN (v:Value) (hk:md.nF=true) (hm:qG o.op=false) (nb:ja s o.dst=true) (hc:md.fy H) (h:Ij P n md all o s v) (k:K (bn s o.dst (.val v)) H)
 | nG (mk:Nat→Value) (xs:List Value) (e:TypeId) (hk:md.nF=true) (hm:y6 o.op=true) (nb:ja s o.dst=true) (h:tC P n all o s mk xs e) (k:∀g,H g=none→Real (ins H g (whole xs e))→K (bn s o.dst (.val (mk g))) (ins H g (whole xs e)))
 | mg (bx:Value→Heap→Prop) (hk:md.nF=true) (ha:kd o.op=1∨kd o.op=2) (nb:ja s o.dst=true) (h:EV P n all o s H bx) (hm:yZ o.op=true∨∀v H',bx v H'→md.fy H') (k:∀v H',bx v H'→Real H'→K (bn s o.dst (.val v)) H')
end
theorem lk.mono{P:Program}{o:Oper}{ρ:Operand→Value}{w:World}{R R':Value→World→Prop}(h:lk P o ρ w R)(hr:∀v w',R v w'→R' v w'):lk P o ρ w R':=by
 unfold lk at h⊢
 split at h
 ·exact hr _ _ h
 ·exact hr _ _ h
 ·exact h.mono fun e w' ⟨v,he,h⟩=>⟨v,he,hr _ _ h⟩
 ·exact h
theorem lk.wp{P:Program}{o:Oper}{a:Act}{w:World}{R:Value→World→Prop}{K:Act→World→Prop}{Q:Exit→Act→World→Prop}(h:lk P o a.eval w R)(hk:∀v w',R v w'→K (a.put o.dst v) w'):o.wp P a w K Q:=by
 unfold lk at h
 unfold Oper.wp
 split at h
 ·rename_i v w' e;rw[e];exact hk _ _ h
 ·rename_i w' e;rw[e];exact hk _ _ h
 ·rename_i f args w' e;rw[e]
  exact h.mono fun e w' ⟨v,he,h⟩=>by subst he;exact hk _ _ h
 ·exact h.elim
section sound
variable {P:Program} {all:Array Oper} {md:Mode} {o:Oper} {s:St} {H:Heap} {K:St→Heap→Prop} {w0:World} {H0:Heap} {n:Nat} {a:Act} {w:World}
theorem jZ(h:gf n s a)(hr:DK all s o):Region.wanted o (yielded all a.tmps)=true:=by
 rcases hr with hg | ⟨j,want,d,hg,hd,hs⟩
 ·simp[Region.wanted,hg]
 ·have:=h.at_ d _ hs
  simp[Region.wanted,hg,yielded,hd,this]
theorem aao(h:gf n s a)(hr:Sr all s o):Region.wanted o (yielded all a.tmps)=false:=by
 obtain⟨j,want,d,v,hg,hd,hs,aY⟩:=hr
 have:=h.at_ d _ hs
 rcases aY with ⟨b,rfl,aY⟩ | ⟨ts,rfl⟩
 ·simp[Region.wanted,hg,yielded,hd,this,aY]
 ·simp[Region.wanted,hg,yielded,hd,this]
theorem Rel.put(h:Rel w0 H0 n s H a w){d:Option Nat}(hd:∀k,d=some k→k<n){x:Slot}{v:Value}{G:Nat→Nat}(hl:Rl n s H G a w)(hb:∀t cs,s t=some (.box cs)→w0.heap.size≤G t)(hx:Mg G x v):
  Rel w0 H0 n (bn s d x) H (a.put d v) w:=by
 cases d with
 | none=>exact⟨h.defers,⟨G,hl,hb⟩,h.fx⟩
 | some d=>
  refine⟨by rw[Act.Sq];exact h.defers,⟨G,hl.put (hd d rfl) hx,fun t cs ht=> ?_⟩,h.fx⟩
  by_cases e:t=d
  ·subst e
   rw[show bn s (some t) x=ar.put s t x from rfl,gS]at ht
   simp only[Option.some.injEq]at ht
   subst ht
   exact hx.elim
  ·rw[show bn s (some d) x=ar.put s d x from rfl,fp _ _ e]at ht
   exact hb t cs ht
theorem r6(s:St)(d:Nat)(cs:List Value):gG s d cs d=some (.box cs):=by simp[gG]
def tE(d:Nat):Option Slot→Option Slot
 | some (.ref b o)=>cond (Nat.beq b d) none (some (.ref b o))
 | x=>x
theorem oR(s:St){d t:Nat}(cs:List Value)(h:t≠d):gG s d cs t=tE d (s t):=by
 have:Nat.beq t d=false:=by
  cases hb:Nat.beq t d with
  | false=>rfl
  | true=>exact absurd (Nat.eq_of_beq_eq_true hb) h
 unfold gG
 rw[this]
 cases hs:s t with
 | none=>rfl
 | some x=>cases x <;> rfl
theorem Mj{s:St}{d t:Nat}{cs:List Value}{v:Value}(h:gG s d cs t=some (.val v)):t≠d∧s t=some (.val v):=by
 have e:t≠d:=fun e=>by subst e;rw[r6]at h;cases h
 refine⟨e,?_⟩
 rw[oR _ _ e]at h
 unfold tE at h
 split at h
 ·rename_i b o' _
  cases hb:Nat.beq b d <;> rw[hb]at h <;> cases h
 ·exact h
theorem aap{s:St}{d t b off:Nat}{cs:List Value}(h:gG s d cs t=some (.ref b off)):t≠d∧b≠d∧s t=some (.ref b off):=by
 have e:t≠d:=fun e=>by subst e;rw[r6]at h;cases h
 rw[oR _ _ e]at h
 unfold tE at h
 split at h
 ·rename_i b' o' hs
  cases hb:Nat.beq b' d with
  | true=>rw[hb]at h;cases h
  | false=>
   rw[hb]at h
   simp only[cond_false,Option.some.injEq,Slot.ref.injEq]at h
   obtain⟨rfl,rfl⟩:=h
   exact⟨e,(fun e=>by subst e;rw[Nat.beq_refl]at hb;cases hb),hs⟩
 ·rename_i hn
  exact absurd h (hn b off)
theorem qH{s:St}{d t:Nat}{cs cA:List Value}(h:gG s d cs t=some (.box cA)):(t=d∧cA=cs)∨(t≠d∧s t=some (.box cA)):=by
 by_cases e:t=d
 ·subst e
  rw[r6]at h
  simp only[Option.some.injEq,Slot.box.injEq]at h
  exact .inl ⟨rfl,h.symm⟩
 ·refine .inr ⟨e,?_⟩
  rw[oR _ _ e]at h
  unfold tE at h
  split at h
  ·rename_i b o' _
   cases hb:Nat.beq b d <;> rw[hb]at h <;> cases h
  ·exact h
theorem Den.alloc{H:Heap}{w:World}(h:Den H w)(o:Obj):Den H (w.alloc o):=fun g e hg=>by
 obtain⟨o',h1,h2⟩:=h g e hg
 exact⟨o',by rw[RowKit.Below.heap_alloc _ _ _ (h.lt hg)];exact h1,h2⟩
theorem Rl.jJ{G:Nat→Nat}(h:Rl n s H G a w){d:Nat}(hn:d<n)(cs:List Value)(e:TypeId):
  Rl n (gG s d cs) H (fun t=>if t=d then w.heap.size else G t) (a.put (some d) (.pointer (some ⟨w.heap.size,0,none⟩))) (w.alloc (.cells cs.toArray e (0,0))):=by
 have hd:d<a.tmps.size:=by rw[h.aH.size];exact hn
 have bU:∀t cs,s t=some (.box cs)→G t<w.heap.size:=fun t cs ht=>by
  obtain⟨_,_,e,h3⟩:=h.boxes t cs ht
  exact(Array.getElem?_eq_some_iff.1 h3).1
 refine⟨⟨by rw[Act.BQ];exact h.aH.size,fun t v ht=> ?_⟩,fun t cA ht=> ?_,fun t t' SC SD ht oQ hG=> ?_,fun t b off cA ht hb=> ?_,h.den.alloc _⟩
 ·obtain⟨e1,ht⟩:=Mj ht
  rw[Act.qF _ _ e1];exact h.aH.at_ t v ht
 ·rcases qH ht with ⟨rfl,rfl⟩ | ⟨e1,ht⟩
  ·simp only[if_true]
   exact⟨Act.wM _ _ _ hd,h.den.fresh,e,heap_alloc_new w _⟩
  ·rw[if_neg e1,Act.qF _ _ e1]
   obtain⟨h1,h2,e2,h3⟩:=h.boxes t cA ht
   exact⟨h1,h2,e2,by rw[RowKit.Below.heap_alloc _ _ _ (bU t cA ht)];exact h3⟩
 ·rcases qH ht with ⟨h1,_⟩ | ⟨e1,h1⟩
  ·rcases qH oQ with ⟨h2,_⟩ | ⟨e2,h2⟩
   ·rw[h1,h2]
   ·rw[if_pos h1,if_neg e2]at hG
    have:=bU t' SD h2;omega
  ·rcases qH oQ with ⟨h2,_⟩ | ⟨e2,h2⟩
   ·rw[if_pos h2,if_neg e1]at hG
    have:=bU t SC h1;omega
   ·rw[if_neg e1,if_neg e2]at hG
    exact h.inj t t' SC SD h1 h2 hG
 ·obtain⟨e1,e2,ht⟩:=aap ht
  rcases qH hb with ⟨rfl,rfl⟩ | ⟨_,hb⟩
  ·exact absurd rfl e2
  ·rw[if_neg e2,Act.qF _ _ e1]
   exact h.refs t b off cA ht hb
theorem Rl.lM{G:Nat→Nat}(h:Rl n s H G a w){b:Nat}{cs cA:List Value}(hb:s b=some (.box cs)){w':World}(hw:Ss w w' (G b) cA):
  Rl n (ar.put s b (.box cA)) H G a w':=by
 have vc:∀t c,ar.put s b (.box cA) t=some (.box c)→∃c',s t=some (.box c')∧((t=b∧c=cA)∨(t≠b∧c=c')):=by
  intro t c ht
  by_cases e:t=b
  ·subst e
   rw[gS]at ht
   simp only[Option.some.injEq,Slot.box.injEq]at ht
   exact⟨cs,hb,.inl ⟨rfl,ht.symm⟩⟩
  ·rw[fp _ _ e]at ht
   exact⟨c,ht,.inr ⟨e,rfl⟩⟩
 refine⟨⟨h.aH.size,fun t v ht=> ?_⟩,fun t c ht=> ?_,fun t t' c1 c2 ht oQ hG=> ?_,fun t b' off c ht rX=> ?_,fun g e hg=> ?_⟩
 ·by_cases e:t=b
  ·subst e;rw[gS]at ht;cases ht
  ·rw[fp _ _ e]at ht;exact h.aH.at_ t v ht
 ·obtain⟨c',hs,hc⟩:=vc t c ht
  obtain⟨h1,h2,e,h3⟩:=h.boxes t c' hs
  rcases hc with ⟨rfl,rfl⟩ | ⟨aY,rfl⟩
  ·exact⟨h1,h2,hw.new⟩
  ·exact⟨h1,h2,e,by rw[hw.other _ (fun hG=>aY (h.inj t b _ _ hs hb hG))];exact h3⟩
 ·obtain⟨c1',hs,_⟩:=vc t c1 ht
  obtain⟨c2',mh,_⟩:=vc t' c2 oQ
  exact h.inj t t' c1' c2' hs mh hG
 ·obtain⟨c',hs,_⟩:=vc b' c rX
  by_cases e:t=b
  ·subst e;rw[gS]at ht;cases ht
  ·rw[fp _ _ e]at ht;exact h.refs t b' off c' ht hs
 ·obtain⟨o',h1,h2⟩:=h.den g e hg
  refine⟨o',?_,h2⟩
  rw[hw.other _ (fun hG=> ?_)]
  ·exact h1
  ·obtain⟨_,h3,_⟩:=h.boxes b cs hb
   rw[←hG,hg]at h3;cases h3
theorem gH.sound(hR:Rel w0 H0 n s H a w)(qI:∀d,o.dst=some d→d<n)(h:gH P n all md o s H K):
  (Region.wanted o (yielded all a.tmps)=true∧o.wp P a w (fun a' w'=>∃s' H',Rel w0 H0 n s' H' a' w'∧K s' H') (fun _ _ _=>False))∨
  (Region.wanted o (yielded all a.tmps)=false∧∃s' H',Rel w0 H0 n s' H' (a.put o.dst undef) w∧K s' H'):=by
 obtain⟨G,hl,hb⟩:=hR.fits
 cases h with
 | jI v hm nb h k=>
  rcases h a w hl.aH hl.den with ⟨h1,h2⟩ | ⟨h1,h2⟩
  ·refine .inl ⟨h1,?_⟩
   unfold Oper.wp
   rw[h2]
   exact⟨_,_,hR.put (x:= .val v) qI hl hb rfl,k⟩
  ·subst h2
   exact .inr ⟨h1,_,_,hR.put (x:= .val undef) qI hl hb rfl,k⟩
 | jv x hm nb hx h k=>
  obtain⟨v,tF,h1,h2⟩:=h s (.refl _ _) G a w hl
  refine .inl ⟨h1,?_⟩
  unfold Oper.wp
  rw[h2]
  exact⟨_,_,hR.put qI hl hb tF,k⟩
 | jJ d hd hm nb cs h k=>
  obtain⟨h1,e,h2⟩:=h a w hl.aH
  refine .inl ⟨h1,?_⟩
  unfold Oper.wp
  rw[h2]
  show ∃s' H',Rel w0 H0 n s' H' (a.put o.dst _) _∧K s' H'
  rw[hd]
  refine⟨_,_,⟨by rw[Act.Sq];exact hR.defers,⟨_,hl.jJ (qI d hd) cs e,fun t cA ht=> ?_⟩,?_⟩,k⟩
  ·rcases qH ht with ⟨rfl,rfl⟩ | ⟨e1,ht⟩
   ·simp only[if_true];exact hR.fx.size
   ·rw[if_neg e1];exact hb t cA ht
  ·exact hR.fx.trans ⟨rfl,rfl,rfl,by simp,fun g hg h0=>⟨RowKit.Below.heap_alloc _ _ _ hg,h0⟩,Fx.Mf fun g hg=>RowKit.Below.heap_alloc _ _ _ hg⟩
 | lM b cs cA hd hm y7 ki h k=>
  obtain⟨h1,w',h2,hw⟩:=h H G a w hl
  refine .inl ⟨h1,?_⟩
  unfold Oper.wp
  rw[h2]
  show ∃s' H',Rel w0 H0 n s' H' (a.put o.dst undef) w'∧K s' H'
  rw[hd]
  refine⟨_,_,⟨hR.defers,⟨G,hl.lM y7 hw,fun t c ht=> ?_⟩,?_⟩,k⟩
  ·by_cases e:t=b
   ·subst e;exact hb t cs y7
   ·rw[fp _ _ e]at ht;exact hb t c ht
  ·refine⟨hw.os.trans hR.fx.os,hw.tape.trans hR.fx.tape,hw.output.trans hR.fx.output,by rw[hw.size];exact hR.fx.size,fun g hg h0=> ?_,fun g c t fz hc=> ?_⟩
   ·have h3:=hR.fx.keep g hg h0
    refine⟨?_,h3.2⟩
    rw[hw.other _ (fun e=> ?_)]
    ·exact h3.1
    ·have:=hb b cs y7;omega
   ·obtain⟨c',h3,h4⟩:=hR.fx.form g c t fz hc
    have bU:=(Array.getElem?_eq_some_iff.1 hc).1
    have:=hb b cs y7
    exact⟨c',by rw[hw.other _ (by omega)];exact h3,h4⟩
 | fresh mk xs e hm nb h k=>
  obtain⟨h1,h2⟩:=h a w hl.aH
  refine .inl ⟨h1,?_⟩
  unfold Oper.wp
  rw[h2]
  have nH:=hl.den.fresh
  have hd:Den (ins H w.heap.size (whole xs e)) (w.alloc (.cells xs.toArray e (0,0))):=by
   intro g e' hg
   by_cases eg:g=w.heap.size
   ·subst eg
    rw[bo]at hg
    simp only[Option.some.injEq]at hg
    subst hg
    exact⟨_,heap_alloc_new w _,xs.toArray,(0,0),rfl,by simp[whole],fun i v hv=>by simpa [whole]using hv,fun _=>rfl⟩
   ·rw[a7 _ _ eg]at hg
    exact hl.den.alloc _ g e' hg
  have hf:Fx H w (ins H w.heap.size (whole xs e)) (w.alloc (.cells xs.toArray e (0,0))):=
   ⟨rfl,rfl,rfl,by simp,fun g hg h0=>⟨RowKit.Below.heap_alloc _ _ _ hg,by rw[a7 _ _ (by omega)];exact h0⟩,Fx.Mf fun g hg=>RowKit.Below.heap_alloc _ _ _ hg⟩
  have kA:=hl.tB hd hf
  have dH:Rel w0 H0 n s (ins H w.heap.size (whole xs e)) a (w.alloc (.cells xs.toArray e (0,0))):=⟨hR.defers,⟨G,kA,hb⟩,hR.fx.trans hf⟩
  exact⟨_,_,dH.put (x:= .val _) qI kA hb rfl,k _ nH ⟨_,hd⟩⟩
 | iK bx ha nb h hm k=>
  obtain⟨h1,h2⟩:=h a w hl.aH hl.den
  refine .inl ⟨h1,h2.wp fun v w' hh=> ?_⟩
  obtain⟨H',hp,hd,hf⟩:=hh
  have kA:=hl.tB hd hf
  have dH:Rel w0 H0 n s H' a w':=⟨hR.defers,⟨G,kA,hb⟩,hR.fx.trans hf⟩
  exact⟨_,_,dH.put (x:= .val v) qI kA hb rfl,k v H' hp ⟨w',hd⟩⟩
 | lN v bM hm nb hc h k=>
  rcases h a w hl.aH (fun ad u hu=>hl.den.cell (hc ad u hu))with ⟨h1,h2⟩ | ⟨h1,h2⟩
  ·refine .inl ⟨h1,?_⟩
   unfold Oper.wp
   rw[h2]
   exact⟨_,_,hR.put (x:= .val v) qI hl hb rfl,k⟩
  ·subst h2
   exact .inr ⟨h1,_,_,hR.put (x:= .val undef) qI hl hb rfl,k⟩
 | nG mk xs e bM hm nb h k=>
  obtain⟨h1,h2⟩:=h a w hl.aH
  refine .inl ⟨h1,?_⟩
  unfold Oper.wp
  rw[h2]
  have nH:=hl.den.fresh
  have hd:Den (ins H w.heap.size (whole xs e)) (w.alloc (.cells xs.toArray e (0,0))):=by
   intro g e' hg
   by_cases eg:g=w.heap.size
   ·subst eg
    rw[bo]at hg
    simp only[Option.some.injEq]at hg
    subst hg
    exact⟨_,heap_alloc_new w _,xs.toArray,(0,0),rfl,by simp[whole],fun i v hv=>by simpa [whole]using hv,fun _=>rfl⟩
   ·rw[a7 _ _ eg]at hg
    exact hl.den.alloc _ g e' hg
  have hf:Fx H w (ins H w.heap.size (whole xs e)) (w.alloc (.cells xs.toArray e (0,0))):=
   ⟨rfl,rfl,rfl,by simp,fun g hg h0=>⟨RowKit.Below.heap_alloc _ _ _ hg,by rw[a7 _ _ (by omega)];exact h0⟩,Fx.Mf fun g hg=>RowKit.Below.heap_alloc _ _ _ hg⟩
  have kA:=hl.tB hd hf
  have dH:Rel w0 H0 n s (ins H w.heap.size (whole xs e)) a (w.alloc (.cells xs.toArray e (0,0))):=⟨hR.defers,⟨G,kA,hb⟩,hR.fx.trans hf⟩
  exact⟨_,_,dH.put (x:= .val _) qI kA hb rfl,k _ nH ⟨_,hd⟩⟩
 | mg bx bM ha nb h hm k=>
  obtain⟨h1,h2⟩:=h a w hl.aH hl.den
  refine .inl ⟨h1,h2.wp fun v w' hh=> ?_⟩
  obtain⟨H',hp,hd,hf⟩:=hh
  have kA:=hl.tB hd hf
  have dH:Rel w0 H0 n s H' a w':=⟨hR.defers,⟨G,kA,hb⟩,hR.fx.trans hf⟩
  exact⟨_,_,dH.put (x:= .val v) qI kA hb rfl,k v H' hp ⟨w',hd⟩⟩
end sound
end Go.ar
namespace Go.ar
theorem wN{o:Op}:qG o=true↔kd o=3:=by
 cases o <;> simp[qG,y5,y6,kd]
 split <;> simp
theorem SE{o:Op}(h:kd o=3):(y5 o=true∧y6 o=false)∨(y5 o=false∧y6 o=true):=by
 cases o <;> simp[y5,y6,kd]at h⊢
 split at h <;> simp at h
theorem qJ{o:Op}:yZ o=true↔kd o=2:=by
 cases o <;> simp[yZ,kd]
 split <;> simp
theorem BS{o:Op}(h:DL o=true):kd o=0:=by
 cases o <;> simp[DL]at h <;> rfl
def Sw(md:Mode)(all:Array Oper)(x y:Oper):Bool:=
 x.apart all y&&rY x.op&&rY y.op &&
 ((kd x.op == 0&&(kd y.op == 0||(kd y.op == 1 && !md.SB)||(kd y.op == 3&&(y.guard.isNone || !md.nF))||(kd y.op == 2&&md.Mh&&(md.Mi || !DL x.op)))) ||
  ((kd x.op == 1||kd x.op == 3)&&kd y.op == 3&&y.guard.isNone && !md.nF))
section
variable {P:Program} {n:Nat} {all:Array Oper} {o:Oper}
structure y8(all:Array Oper)(o:Oper)(a b:Act):Prop where
 want:Region.wanted o (yielded all a.tmps)=Region.wanted o (yielded all b.tmps)
 exec:execOp a.eval o=execOp b.eval o
theorem y8.put{a:Act}{d:Nat}(v:Value)(hs:rY o.op=true)(h:d∉o.looksAt all):y8 all o (a.put (some d) v) a:=by
 refine⟨wanted_put o a (some d) v (fun e he=>by cases he;exact h),execOp_congr o (fun cs b e=>by rw[e]at hs;cases hs) (fun x hx=> ?_)⟩
 refine Act.eval_put fun e he hxe=> ?_
 cases he
 subst hxe
 exact h (by
  unfold Oper.looksAt
  refine List.mem_append_left _ ?_
  rw[List.mem_filterMap]
  exact⟨_,by simpa using hx,rfl⟩)
theorem y8.refl(a:Act):y8 all o a a:=⟨rfl,rfl⟩
def Mv(n:Nat)(all:Array Oper)(o:Oper)(s1 s2:St):Prop:=∀a,gf n s2 a→∃a1,gf n s1 a1∧y8 all o a1 a
def DM(n:Nat)(all:Array Oper)(o:Oper)(s1 s2:St):Prop:=∀H G a w,Rl n s2 H G a w→∃a1,Rl n s1 H G a1 w∧y8 all o a1 a
variable {s1 s2 s:St} {H H1 H2:Heap}
theorem Ig.move{v:Value}(hm:Mv n all o s1 s2)(hl:Heap.le H1 H2)(h:Ig P n all o s1 H1 v):Ig P n all o s2 H2 v:=fun a w ha hd=>by
 obtain⟨a1,h1,h2⟩:=hm a ha
 rw[←h2.want,←h2.exec]
 exact h a1 w h1 (hd.le hl)
theorem BR.move{x:Slot}(hm:DM n all o s1 s2)(hl:Heap.le H1 H2)(h:BR P n all o s1 H1 x):BR P n all o s2 H2 x:=fun G a w ha=>by
 obtain⟨a1,h1,h2⟩:=hm H2 G a w ha
 obtain⟨v,h3,h4,h5⟩:=h G a1 w (h1.le hl)
 exact⟨v,h3,by rw[←h2.want];exact h4,by rw[←h2.exec];exact h5⟩
theorem Ij.move{md:Mode}{v:Value}(hm:Mv n all o s1 s2)(h:Ij P n md all o s1 v):Ij P n md all o s2 v:=fun a w ha hd=>by
 obtain⟨a1,h1,h2⟩:=hm a ha
 have:=h a1 w h1 hd
 rw[h2.want,h2.exec]at this
 exact this
theorem vd.move{cs:List Value}(hm:Mv n all o s1 s2)(h:vd P n all o s1 cs):vd P n all o s2 cs:=fun a w ha=>by
 obtain⟨a1,h1,h2⟩:=hm a ha
 rw[←h2.want,←h2.exec]
 exact h a1 w h1
theorem Ih.move{b:Nat}{cs:List Value}(hm:DM n all o s1 s2)(h:Ih P n all o s1 b cs):Ih P n all o s2 b cs:=fun H G a w ha=>by
 obtain⟨a1,h1,h2⟩:=hm H G a w ha
 rw[←h2.want,←h2.exec]
 exact h H G a1 w h1
theorem tC.move{mk:Nat→Value}{xs:List Value}{e:TypeId}(hm:Mv n all o s1 s2)(h:tC P n all o s1 mk xs e):tC P n all o s2 mk xs e:=fun a w ha=>by
 obtain⟨a1,h1,h2⟩:=hm a ha
 rw[←h2.want,←h2.exec]
 exact h a1 w h1
theorem EV.move{bx:Value→Heap→Prop}(hm:Mv n all o s1 s2)(h:EV P n all o s1 H bx):EV P n all o s2 H bx:=fun a w ha hd=>by
 obtain⟨a1,h1,h2⟩:=hm a ha
 have:=h a1 w h1 hd
 unfold lk at this⊢
 rw[←h2.want,←h2.exec]
 exact this
theorem vd.uniq{cs cA:List Value}(ha:∃a,gf n s a)(h:vd P n all o s cs)(h':vd P n all o s cA):cA=cs:=by
 obtain⟨a,ha⟩:=ha
 obtain⟨_,e,h1⟩:=h a default ha
 obtain⟨_,e',h2⟩:=h' a default ha
 rw[h1]at h2
 simp only[Result.ok.injEq,true_and]at h2
 have:=congrArg (fun w:World=>w.heap[(default:World).heap.size]?) h2
 simp only[heap_alloc_new,Option.some.injEq,Obj.cells.injEq]at this
 exact(List.toArray_inj this.1).symm
theorem tC.uniq{mk mk':Nat→Value}{xs pN:List Value}{e e':TypeId}(ha:∃a,gf n s a)(h:tC P n all o s mk xs e)(h':tC P n all o s mk' pN e'):mk'=mk∧pN=xs∧e'=e:=by
 obtain⟨a,ha⟩:=ha
 have key:∀w:World,mk' w.heap.size=mk w.heap.size∧pN=xs∧e'=e:=fun w=>by
  obtain⟨_,h1⟩:=h a w ha
  obtain⟨_,h2⟩:=h' a w ha
  rw[h1]at h2
  simp only[Result.ok.injEq,Next.value.injEq]at h2
  have:=congrArg (fun w':World=>w'.heap[w.heap.size]?) h2.2
  simp only[heap_alloc_new,Option.some.injEq,Obj.cells.injEq]at this
  exact⟨h2.1.symm,(List.toArray_inj this.1).symm,this.2.1.symm⟩
 refine⟨funext fun g=> ?_,(key default).2⟩
 have:=(key {(default:World)with heap:=Array.replicate g default}).1
 simpa using this
theorem EV.some{bx:Value→Heap→Prop}(h:EV P n all o s H bx)(ha:∃a,gf n s a)(hw:Real H):∃v H',bx v H'∧Real H':=by
 obtain⟨a,ha⟩:=ha
 obtain⟨w,hw⟩:=hw
 obtain⟨_,h2⟩:=h a w ha hw
 unfold lk at h2
 split at h2
 ·obtain⟨H',hp,hd,_⟩:=h2;exact⟨_,H',hp,_,hd⟩
 ·obtain⟨H',hp,hd,_⟩:=h2;exact⟨_,H',hp,_,hd⟩
 ·obtain⟨e,w',fr,⟨v,_,H',hp,hd,_⟩,_⟩:=h2 []
  exact⟨v,H',hp,w',hd⟩
 ·exact h2.elim
theorem EV.frame{bx:Value→Heap→Prop}{g:Nat}{ent:Ent}(hg:H g=none)(h:EV P n all o s H bx):
  EV P n all o s (ins H g ent) (fun v rW=>∃H',bx v H'∧H' g=none∧rW=ins H' g ent):=fun a w ha hd=>by
 obtain⟨h1,h2⟩:=h a w ha (hd.le (Heap.bI ent hg))
 refine⟨h1,h2.mono fun v w' hh=> ?_⟩
 obtain⟨H',hp,mf,hf⟩:=hh
 obtain⟨ob,ho,hoe⟩:=hd g ent (bo _ _ _)
 have bU:=hd.lt (bo H g ent)
 obtain⟨fW,fA⟩:=hf.keep g bU hg
 refine⟨ins H' g ent,⟨H',hp,fA,rfl⟩,fun k e hk=> ?_,⟨hf.os,hf.tape,hf.output,hf.size,fun k hk h0=> ?_,hf.form⟩⟩
 ·by_cases ek:k=g
  ·subst ek
   rw[bo]at hk
   simp only[Option.some.injEq]at hk
   subst hk
   exact⟨ob,fW.trans ho,hoe⟩
  ·rw[a7 _ _ ek]at hk;exact mf k e hk
 ·have ek:k≠g:=fun e=>by subst e;rw[bo]at h0;cases h0
  rw[a7 _ _ ek]at h0⊢
  exact hf.keep k hk h0
theorem nI{d:Option Nat}{X:Slot}(hs:rY o.op=true)(hd:∀k,d=some k→k<n∧k∉o.looksAt all):Mv n all o (bn s d X) s:=fun a ha=>by
 cases d with
 | none=>exact⟨a,ha,.refl a⟩
 | some d=>
  obtain⟨hn,hl⟩:=hd d rfl
  have key:∀u,(∀v,X = .val v→u=v)→∃a1,gf n (bn s (some d) X) a1∧y8 all o a1 a:=fun u hu=>by
   refine⟨a.put (some d) u,⟨by rw[Act.BQ];exact ha.size,fun t v ht=> ?_⟩,.put u hs hl⟩
   by_cases e:t=d
   ·subst e
    rw[show bn s (some t) X=put s t X from rfl,gS]at ht
    simp only[Option.some.injEq]at ht
    rw[Act.wM _ _ _ (by rw[ha.size];exact hn),hu v ht]
   ·rw[show bn s (some d) X=put s d X from rfl,fp _ _ e]at ht
    rw[Act.qF _ _ e];exact ha.at_ t v ht
  cases X with
  | val v=>exact key v (fun v' h=>by cases h;rfl)
  | box cs=>exact key undef (fun v' h=>by cases h)
  | ref b off=>exact key undef (fun v' h=>by cases h)
theorem Ik{d:Option Nat}{X:Slot}(hx:∀cs,X≠.box cs)(hs:rY o.op=true)(hd:∀k,d=some k→k<n∧k∉o.looksAt all):DM n all o (bn s d X) s:=fun H G a w ha=>by
 cases d with
 | none=>exact⟨a,ha,.refl a⟩
 | some d=>
  obtain⟨hn,hl⟩:=hd d rfl
  cases X with
  | val v=>exact⟨_,ha.put hn (x:= .val v) rfl,.put _ hs hl⟩
  | box cs=>exact absurd rfl (hx cs)
  | ref b off=>exact⟨_,ha.put hn (x:= .ref b off) rfl,.put _ hs hl⟩
theorem tG{d:Option Nat}{X:Slot}(hs:rY o.op=true)(hd:∀k,d=some k→k<n∧k∉o.looksAt all):Mv n all o s (bn s d X):=fun a ha=>by
 cases d with
 | none=>exact⟨a,ha,.refl a⟩
 | some d=>
  obtain⟨hn,hl⟩:=hd d rfl
  obtain⟨v,hv⟩:=gf.back (s:=s) (d:=d) ha (fun t v ht h=>by rw[show bn s (some d) X=put s d X from rfl,fp _ _ ht];exact h) hn
  exact⟨_,hv,.put v hs hl⟩
theorem aaq{d:Option Nat}{X:Slot}(hs:rY o.op=true)(hd:∀k,d=some k→k<n∧k∉o.looksAt all)(hb:∀k cs,d=some k→s k≠some (.box cs)):DM n all o s (bn s d X):=fun H G a w ha=>by
 cases d with
 | none=>exact⟨a,ha,.refl a⟩
 | some d=>
  obtain⟨hn,hl⟩:=hd d rfl
  obtain⟨v,hv⟩:=Rl.back (s:=s) (d:=d) ha (fun cs=>hb d cs rfl) (fun t x ht h _=>by rw[show bn s (some d) X=put s d X from rfl,fp _ _ ht];exact h) hn
  exact⟨_,hv,.put v hs hl⟩
theorem DN{d t:Nat}{cs:List Value}{x:Slot}(ht:t≠d)(h:s t=some x)(hx:∀b o,x = .ref b o→b≠d):gG s d cs t=some x:=by
 rw[oR _ _ ht,h]
 cases x with
 | val v=>rfl
 | box c=>rfl
 | ref b off=>
  have:=hx b off rfl
  have hb:Nat.beq b d=false:=by
   cases hb:Nat.beq b d with
   | false=>rfl
   | true=>exact absurd (Nat.eq_of_beq_eq_true hb) this
  simp[tE,hb]
theorem Il{d:Nat}{cs:List Value}(hs:rY o.op=true)(hn:d<n)(hl:d∉o.looksAt all):Mv n all o s (gG s d cs):=fun a ha=>by
 obtain⟨v,hv⟩:=gf.back (s:=s) (d:=d) ha (fun t v ht h=>DN ht h (fun b o e=>by cases e)) hn
 exact⟨_,hv,.put v hs hl⟩
theorem aar{d:Nat}{cs:List Value}(hs:rY o.op=true)(hn:d<n)(hl:d∉o.looksAt all)(hb:∀cs,s d≠some (.box cs)):DM n all o s (gG s d cs):=fun H G a w ha=>by
 obtain⟨v,hv⟩:=Rl.back (s:=s) (d:=d) ha hb (fun t x ht h hx=>DN ht h hx) hn
 exact⟨_,hv,.put v hs hl⟩
theorem SF{d:Nat}{cs:List Value}:Mv n all o (gG s d cs) s:=fun a ha=>
 ⟨a,⟨ha.size,fun t v ht=>ha.at_ t v (Mj ht).2⟩,.refl a⟩
theorem aas{b:Nat}{cs cA:List Value}(hb:s b=some (.box cs)):Mv n all o s (put s b (.box cA)):=fun a ha=>
 ⟨a,⟨ha.size,fun t v ht=>ha.at_ t v (by
  have e:t≠b:=fun e=>by subst e;rw[hb]at ht;cases ht
  rw[fp _ _ e];exact ht)⟩,.refl a⟩
theorem pO{d e:Option Nat}(X Y:Slot)(h:∀k,d=some k→e≠some k):bn (bn s d X) e Y=bn (bn s e Y) d X:=by
 cases d with
 | none=>rfl
 | some d=>
  cases e with
  | none=>rfl
  | some e=>exact put_comm s X Y (fun h'=>h d rfl (by rw[h']))
theorem DO{d:Option Nat}{e:Nat}{X:Slot}{cs:List Value}(h:d≠some e)(hx:∀b o,X = .ref b o→b≠e):gG (bn s d X) e cs=bn (gG s e cs) d X:=by
 cases d with
 | none=>rfl
 | some d=>
  have aY:d≠e:=fun h'=>h (by rw[h'])
  funext t
  show gG (put s d X) e cs t=put (gG s e cs) d X t
  by_cases h1:t=e
  ·subst h1
   rw[r6,fp _ _ (Ne.symm aY),r6]
  ·rw[oR _ _ h1]
   by_cases h2:t=d
   ·subst h2
    rw[gS,gS]
    have:=DN (s:=put s t X) (cs:=cs) h1 (gS s t X) hx
    rw[oR _ _ h1,gS]at this
    exact this
   ·rw[fp _ _ h2,fp _ _ h2,oR _ _ h1]
theorem aat(d e:Nat)(x:Option Slot):tE d (tE e x)=tE e (tE d x):=by
 cases x with
 | none=>rfl
 | some x=>
  cases x with
  | val v=>rfl
  | box c=>rfl
  | ref b o=>cases h1:Nat.beq b d <;> cases h2:Nat.beq b e <;> simp[tE,h1,h2]
theorem aau{d e:Nat}{cs cA:List Value}(h:d≠e):gG (gG s d cs) e cA=gG (gG s e cA) d cs:=by
 funext t
 by_cases h1:t=e
 ·subst h1
  rw[r6,oR _ _ (Ne.symm h),r6];rfl
 ·rw[oR _ _ h1]
  by_cases h2:t=d
  ·subst h2
   rw[r6,r6];rfl
  ·rw[oR _ _ h2,oR _ _ h2,oR _ _ h1,aat]
theorem SG{d:Option Nat}{b:Nat}{X:Slot}{cs:List Value}(h:d≠some b):put (bn s d X) b (.box cs)=bn (put s b (.box cs)) d X:=by
 cases d with
 | none=>rfl
 | some d=>exact put_comm s X (.box cs) (fun h'=>h (by rw[h']))
theorem BT(H:Heap){g k:Nat}(e e':Ent)(h:g≠k):ins (ins H g e) k e'=ins (ins H k e') g e:=by
 funext t
 by_cases h1:t=k
 ·subst h1;rw[bo,a7 _ _ (Ne.symm h),bo]
 ·by_cases h2:t=g
  ·subst h2;rw[a7 _ _ h1,bo,bo]
  ·rw[a7 _ _ h1,a7 _ _ h2,a7 _ _ h2,a7 _ _ h1]
end
theorem Im(s:St)(d:Nat)(X:Slot):bn s (some d) X=put s d X:=rfl
theorem ju.bn{md:Mode}{s s':St}(h:ju md s s')(d:Option Nat)(X:Slot):ju md (bn s d X) (bn s' d X):=fun t=>by
 cases d with
 | none=>exact h t
 | some d=>
  rw[Im,Im]
  by_cases e:t=d
  ·subst e;exact .inl (by rw[gS,gS])
  ·rw[fp _ _ e,fp _ _ e];exact h t
theorem ju.aav{md:Mode}{s s':St}{d:Option Nat}{X:Slot}(hX:∀c,X≠.box c)(h:ju md (ar.bn s d X) s'):∃vf,ju md s vf∧s'=ar.bn vf d X∧∀k,d=some k→vf k=s k:=by
 cases d with
 | none=>exact⟨s',h,rfl,fun k e=>by cases e⟩
 | some d=>
  rw[Im]at h
  have hd:s' d=some X:=h.val hX (gS _ _ _)
  refine⟨fun t=>if t=d then s t else s' t,fun t=> ?_,?_,fun k e=>by cases e;simp⟩
  ·by_cases e:t=d
   ·left;simp[e]
   ·have:=h t
    rw[fp _ _ e]at this
    simpa [e]using this
  ·rw[Im]
   funext t
   by_cases e:t=d
   ·subst e;rw[gS,hd]
   ·rw[fp _ _ e,if_neg e]
open Classical in
theorem ju.unbox{md:Mode}{s s':St}{d:Nat}{cs:List Value}(h:ju md (gG s d cs) s'):∃vf Io,ju md s vf∧s'=gG vf d Io∧vf d=s d:=by
 obtain⟨Io,hc⟩:=h.box (r6 s d cs)
 refine⟨fun t=>if t=d∨s' t=gG s d cs t then s t else s' t,Io,fun t=> ?_,?_,by simp⟩
 ·by_cases e:t=d∨s' t=gG s d cs t
  ·left;simp only[e,if_true]
  ·simp only[e,if_false]
   rcases h t with h1 | ⟨h0,c,c',h1,h2⟩
   ·exact absurd (.inr h1) e
   ·rcases qH h1 with ⟨e1,_⟩ | ⟨_,h3⟩
    ·exact absurd (.inl e1) e
    ·exact .inr ⟨h0,c,c',h3,h2⟩
 ·funext t
  by_cases e:t=d
  ·subst e;rw[hc,r6]
  ·rw[oR _ _ e]
   by_cases e2:s' t=gG s d cs t
   ·simp only[e2,or_true,if_true];exact oR _ _ e
   ·rcases h t with h1 | ⟨h0,c,c',h1,h2⟩
    ·exact absurd h1 e2
    ·rw[if_neg (by rintro(h3 | h3);exact e h3;exact e2 h3),h2];rfl
theorem ju.store{md:Mode}{s s':St}{b:Nat}{cs cA:List Value}(hb:s b=some (.box cs))(hw:md.wr b=true)(h:ju md (put s b (.box cA)) s'):ju md s s':=fun t=>by
 by_cases e:t=b
 ·subst e
  obtain⟨c,hc⟩:=h.box (gS s t (.box cA))
  exact .inr ⟨hw,cs,c,hb,hc⟩
 ·have:=h t
  rwa [fp _ _ e]at this
end Go.ar
namespace Go.ar
section
variable {P:Program} {n:Nat} {all:Array Oper} {md:Mode} {x y:Oper} {s:St} {H:Heap} {K:St→Heap→Prop}
theorem wO{md:Mode}(eM:md≠.plain){k:Nat}(h:k=1∨k=2∨md = .plain):k=1∨k=2:=by
 rcases h with h | h | h
 ·exact .inl h
 ·exact .inr h
 ·exact absurd h eM
theorem qK(eM:md≠.plain)(eY:md.nF=false)(d:Option Nat):md.nb s d=true↔∀k cs,d=some k→s k≠some (.box cs):=by
 cases d with
 | none=>cases md <;> simp[Mode.nb,Mode.nF]at *
 | some d=>
  have:md.nb s (some d)=(match s d with | some (.box _)=>false | _=>true):=by cases md <;> first | exact absurd rfl eM | rfl | cases eY
  rw[this]
  cases hs:s d with
  | none=>exact⟨(fun _ k cs hk h=>by cases hk;rw[hs]at h;cases h),fun _=>rfl⟩
  | some z=>
   cases z with
   | val v=>exact⟨(fun _ k cs hk h=>by cases hk;rw[hs]at h;cases h),fun _=>rfl⟩
   | box c=>exact⟨(fun h=>by cases h),fun h=>absurd hs (h d c rfl)⟩
   | ref b o=>exact⟨(fun _ k cs hk h=>by cases hk;rw[hs]at h;cases h),fun _=>rfl⟩
theorem y9{X:Slot}:X.rZ s=true↔(∀cs,X≠.box cs)∧∀b o,X = .ref b o→∃cs,s b=some (.box cs):=by
 cases X with
 | val v=>simp[Slot.rZ]
 | box c=>simp[Slot.rZ]
 | ref b o=>
  simp only[Slot.rZ]
  cases hs:s b with
  | none=>simp[hs]
  | some z=>cases z <;> simp[hs]
theorem DP{d:Option Nat}{X:Slot}{t:Nat}(h:d≠some t):bn s d X t=s t:=by
 cases d with
 | none=>rfl
 | some d=>exact fp s X (fun e=>h (by rw[e]))
theorem Mk{d:Option Nat}{X:Slot}{t:Nat}{cs:List Value}(hx:∀cs,X≠.box cs)(h:bn s d X t=some (.box cs)):d≠some t∧s t=some (.box cs):=by
 cases d with
 | none=>exact⟨by simp,h⟩
 | some d=>
  by_cases e:t=d
  ·subst e
   rw[show bn s (some t) X=put s t X from rfl,gS]at h
   simp only[Option.some.injEq]at h
   exact absurd h (hx cs)
  ·rw[show bn s (some d) X=put s d X from rfl,fp _ _ e]at h
   exact⟨fun h'=>e (by cases h';rfl),h⟩
structure BU(md:Mode)(all:Array Oper)(x y:Oper):Prop where
 xs:rY x.op=true
 ys:rY y.op=true
 xy:∀d,x.dst=some d→d∉y.looksAt all
 ne:∀d,x.dst=some d→y.dst≠some d
 yx:∀d,y.dst=some d→d∉x.looksAt all
 kind:(kd x.op=0∧(kd y.op=0∨(kd y.op=1∧md.SB=false)∨(kd y.op=3∧(y.guard=none∨md.nF=false))∨(kd y.op=2∧md.Mh=true∧(md.Mi=true∨DL x.op=false))))∨((kd x.op=1∨kd x.op=3)∧kd y.op=3∧y.guard=none∧md.nF=false)
theorem Sw.out(h:Sw md all x y=true):BU md all x y:=by
 simp only[Sw,Bool.and_eq_true,Bool.or_eq_true,beq_iff_eq,Option.isNone_iff_eq_none,Bool.not_eq_true']at h
 obtain⟨⟨⟨h1,h2⟩,h3⟩,h4⟩:=h
 obtain⟨a1,a2,a3⟩:=Oper.apart_spec h1
 refine⟨h2,h3,a1,a2,a3,?_⟩
 rcases h4 with ⟨hx,hy⟩ | ⟨⟨⟨hx,hy⟩,hz⟩,hk⟩
 ·left
  refine⟨hx,?_⟩
  rcases hy with ((hy | hy) | hy) | hy
  ·exact .inl hy
  ·exact .inr (.inl hy)
  ·exact .inr (.inr (.inl hy))
  ·exact .inr (.inr (.inr ⟨hy.1.1,hy.1.2,hy.2⟩))
 ·exact .inr ⟨hx,hy,hz,hk⟩
theorem Den.aaw{H:Heap}{w:World}(h:Den H w)(xs:List Value)(e:TypeId):Den (ins H w.heap.size (whole xs e)) (w.alloc (.cells xs.toArray e (0,0))):=by
 intro g e' hg
 by_cases eg:g=w.heap.size
 ·subst eg
  rw[bo]at hg
  simp only[Option.some.injEq]at hg
  subst hg
  exact⟨_,heap_alloc_new w _,xs.toArray,(0,0),rfl,by simp[whole],fun i v hv=>by simpa [whole]using hv,fun _=>rfl⟩
 ·rw[a7 _ _ eg]at hg
  exact h.alloc _ g e' hg
theorem Heap.le.pP{H H':Heap}{g:Nat}{e:Ent}(h:Heap.le H H')(hg:H' g=none):Heap.le (ins H g e) (ins H' g e):=fun k x hk=>by
 by_cases ek:k=g
 ·subst ek
  rw[bo]at hk⊢
  exact⟨x,hk,.refl x⟩
 ·rw[a7 _ _ ek]at hk⊢
  exact h k x hk
theorem gH.aax(eM:md≠.plain)(eY:md.nF=false)(hw:BU md all x y)(za:∀d,x.dst=some d→d<n)(pQ:∀d,y.dst=some d→d<n)
  (hS:∃a,gf n s a) (hH:Real H) (h:gH P n all md x s H (fun s1 H1=>gH P n all md y s1 H1 K)):gH P n all md y s H (fun s2 H2=>gH P n all md x s2 H2 K):=by
 have cB:∀d,x.dst=some d→d<n∧d∉y.looksAt all:=fun d hd=>⟨za d hd,hw.xy d hd⟩
 have jb:∀d,y.dst=some d→d<n∧d∉x.looksAt all:=fun d hd=>⟨pQ d hd,hw.yx d hd⟩
 have DQ:∀d,y.dst=some d→x.dst≠some d:=fun d hd e=>hw.ne d e hd
 have lO:∀{X:Slot},(∀cs,X≠.box cs)→md.nb (bn s x.dst X) y.dst=true→md.nb s y.dst=true:=fun{X} hX hn=>by
  rw[qK eM eY]at hn⊢
  intro k cs hk hs
  exact hn k cs hk (by rw[DP (DQ k hk)];exact hs)
 have nJ:∀{Y:Slot},md.nb s x.dst=true→md.nb (bn s y.dst Y) x.dst=true:=fun{Y} hn=>by
  rw[qK eM eY]at hn⊢
  intro k cs hk hs
  exact hn k cs hk (by rw[DP (hw.ne k hk)]at hs;exact hs)
 have SH:∀{X Y:Slot},(∀cs,X≠.box cs)→Y.rZ (bn s x.dst X)=true→Y.rZ s=true:=fun{X Y} hX hg=>by
  rw[y9]at hg⊢
  exact⟨hg.1,fun b o e=>by obtain⟨cs,hc⟩:=hg.2 b o e;exact⟨cs,(Mk hX hc).2⟩⟩
 have Ip:∀{X Y:Slot},md.nb s y.dst=true→X.rZ s=true→X.rZ (bn s y.dst Y)=true:=fun{X Y} hn hg=>by
  rw[y9]at hg⊢
  refine⟨hg.1,fun b o e=> ?_⟩
  obtain⟨cs,hc⟩:=hg.2 b o e
  exact⟨cs,by rw[DP (fun hk=>(qK eM eY _).1 hn b cs hk hc)];exact hc⟩
 have SI:∀{k:Nat}{cs:List Value},md.nb s y.dst=true→y.dst=some k→s k≠some (.box cs):=fun{k cs} hn hk=>(qK eM eY _).1 hn k cs hk
 have Iq:∀{X Y:Slot}{H1 H2:Heap},md.nb s y.dst=true→(∀c,Y≠.box c)→Heap.le H1 H2→(∀s',ju md s s'→BR P n all x s' H1 X)→∀s',ju md (bn s y.dst Y) s'→BR P n all x s' H2 X:=fun{X Y H1 H2} n1 hY hl h s' e=>by
  obtain⟨vf,e1,rfl,e2⟩:=e.aav hY
  exact(h _ e1).move (aaq hw.xs jb (fun k cs hk=>by rw[e2 k hk];exact SI n1 hk)) hl
 cases h with
 | jI v hm nb h k=>
  have hX:∀cs,Slot.val v≠.box cs:=fun cs e=>by cases e
  cases k with
  | jI v' bB dr h' k'=>
   have n1:=lO hX dr
   refine .jI v' bB n1 (h'.move (nI hw.ys cB) (.refl _)) (.jI v hm (nJ nb) (h.move (tG hw.xs jb) (.refl _)) ?_)
   rw[←pO _ _ hw.ne];exact k'
  | jv X' bB dr r7 h' k'=>
   have n1:=lO hX dr
   refine .jv X' bB n1 (SH hX r7) (fun s' e=>(h' _ (e.bn _ _)).move (Ik hX hw.ys cB) (.refl _)) (.jI v hm (nJ nb) (h.move (tG hw.xs jb) (.refl _)) ?_)
   rw[←pO _ _ hw.ne];exact k'
  | jJ d hd bB dr cs h' k'=>
   have n1:=lO hX dr
   refine .jJ d hd bB n1 cs (h'.move (nI hw.ys cB)) (.jI v hm ?_ (h.move (Il hw.xs (pQ d hd) (hw.yx d hd)) (.refl _)) ?_)
   ·rw[qK eM eY]at nb⊢
    intro k cA hk hs
    rcases qH hs with ⟨e,_⟩ | ⟨_,hs⟩
    ·exact hw.ne k hk (by rw[hd,e])
    ·exact nb k cA hk hs
   ·rw[←DO (fun e=>hw.ne d e hd) (fun b o e=>by cases e)];exact k'
  | lM b cs cA hd bB hb ki h' k'=>
   obtain⟨DR,iv⟩:=Mk hX hb
   refine .lM b cs cA hd bB iv ki (h'.move (Ik hX hw.ys cB)) (.jI v hm ?_ (h.move (aas iv) (.refl _)) ?_)
   ·rw[qK eM eY]at nb⊢
    intro k c hk hs
    by_cases e:k=b
    ·subst e;exact DR hk
    ·rw[fp _ _ e]at hs;exact nb k c hk hs
   ·rw[←SG DR];exact k'
  | fresh mk xs e bB dr h' k'=>
   have n1:=lO hX dr
   refine .fresh mk xs e bB n1 (h'.move (nI hw.ys cB)) fun g hg hr=> .jI v hm (nJ nb) (h.move (tG hw.xs jb) (Heap.bI _ hg)) ?_
   rw[←pO _ _ hw.ne];exact k' g hg hr
  | lN _ bM _ _ _ _ _=>rw[eY]at bM;cases bM
  | nG _ _ _ bM _ _ _ _=>rw[eY]at bM;cases bM
  | mg _ bM _ _ _ _ _=>rw[eY]at bM;cases bM
  | iK bx ha dr h' bB k'=>
   have ll:=wO eM ha
   have n1:=lO hX dr
   have Ml:∀u H',bx u H'→Heap.le H H':=by
    cases md with
    | plain=>exact absurd rfl eM
    | bF=>exact bB.2
    | pM st=>exact bB.2
    | fV=>
     rcases bB with e | e
     ·have:=qJ.1 e
      rcases hw.kind with ⟨_,h1 | h1 | h1 | h1⟩ | h1
      ·omega
      ·omega
      ·omega
      ·exact absurd h1.2.1 (by decide)
      ·omega
     ·exact e
    | cG k=>cases eY
    | tD=>
     rcases hw.kind with ⟨_,h1 | h1 | h1 | h1⟩ | h1
     ·omega
     ·exact absurd h1.2 (by decide)
     ·omega
     ·exact absurd h1.2.1 (by decide)
     ·omega
   refine .iK bx ha n1 (h'.move (nI hw.ys cB)) bB fun u H' hp hr=> .jI v hm (nJ nb) (h.move (tG hw.xs jb) (Ml u H' hp)) ?_
   rw[←pO _ _ hw.ne];exact k' u H' hp hr
 | jv X hm nb hx h k=>
  have hX:=(y9.1 hx).1
  have kx:=BS hm
  cases k with
  | jI v' bB dr h' k'=>
   have n1:=lO hX dr
   refine .jI v' bB n1 (h'.move (nI hw.ys cB) (.refl _)) (.jv X hm (nJ nb) (Ip n1 hx) (Iq n1 (fun c e=>by cases e) (.refl _) h) ?_)
   rw[←pO _ _ hw.ne];exact k'
  | jv X' bB dr r7 h' k'=>
   have n1:=lO hX dr
   refine .jv X' bB n1 (SH hX r7) (fun s' e=>(h' _ (e.bn _ _)).move (Ik hX hw.ys cB) (.refl _)) (.jv X hm (nJ nb) (Ip n1 hx) (Iq n1 (y9.1 r7).1 (.refl _) h) ?_)
   rw[←pO _ _ hw.ne];exact k'
  | jJ d hd bB dr cs h' k'=>
   have n1:=lO hX dr
   have r8:∀cs,s d≠some (.box cs):=fun cs=>SI n1 hd
   refine .jJ d hd bB n1 cs (h'.move (nI hw.ys cB)) (.jv X hm ?_ ?_ (fun s' e=>by
    obtain⟨vf,Io,e1,rfl,e2⟩:=e.unbox
    exact(h _ e1).move (aar hw.xs (pQ d hd) (hw.yx d hd) (fun cs=>by rw[e2];exact r8 cs)) (.refl _)) ?_)
   ·rw[qK eM eY]at nb⊢
    intro k cA hk hs
    rcases qH hs with ⟨e,_⟩ | ⟨_,hs⟩
    ·exact hw.ne k hk (by rw[hd,e])
    ·exact nb k cA hk hs
   ·rw[y9]at hx⊢
    refine⟨hx.1,fun b o e=> ?_⟩
    obtain⟨c,hc⟩:=hx.2 b o e
    exact⟨c,DN (fun e=>by subst e;exact r8 c hc) hc (fun b o e=>by cases e)⟩
   ·rw[←DO (fun e=>hw.ne d e hd) (fun b o e hb=>by subst hb;obtain⟨c,hc⟩:=(y9.1 hx).2 b o e;exact r8 c hc)];exact k'
  | lM b cs cA hd bB hb ki h' k'=>
   have:=qJ.1 bB
   have hT:md.Mi=true:=by
    rcases hw.kind with ⟨_,h1 | h1 | h1 | h1⟩ | h1
    ·omega
    ·omega
    ·omega
    ·rcases h1.2.2 with h2 | h2
     ·exact h2
     ·rw[hm]at h2;cases h2
    ·omega
   have hwr:md.wr b=true:=by
    cases md <;> first | exact ki | cases hT
   obtain⟨DR,iv⟩:=Mk hX hb
   refine .lM b cs cA hd bB iv ki (h'.move (Ik hX hw.ys cB)) (.jv X hm ?_ ?_ (fun s' e=>h s' (e.store iv hwr)) ?_)
   ·rw[qK eM eY]at nb⊢
    intro k c hk hs
    by_cases e:k=b
    ·subst e;exact DR hk
    ·rw[fp _ _ e]at hs;exact nb k c hk hs
   ·rw[y9]at hx⊢
    refine⟨hx.1,fun b' o e=> ?_⟩
    obtain⟨c,hc⟩:=hx.2 b' o e
    by_cases e2:b'=b
    ·subst e2;exact⟨cA,gS _ _ _⟩
    ·exact⟨c,by rw[fp _ _ e2];exact hc⟩
   ·rw[←SG DR];exact k'
  | fresh mk xs e bB dr h' k'=>
   have n1:=lO hX dr
   refine .fresh mk xs e bB n1 (h'.move (nI hw.ys cB)) fun g hg hr=> .jv X hm (nJ nb) (Ip n1 hx) (Iq n1 (fun c e=>by cases e) (Heap.bI _ hg) h) ?_
   rw[←pO _ _ hw.ne];exact k' g hg hr
  | lN _ bM _ _ _ _ _=>rw[eY]at bM;cases bM
  | nG _ _ _ bM _ _ _ _=>rw[eY]at bM;cases bM
  | mg _ bM _ _ _ _ _=>rw[eY]at bM;cases bM
  | iK bx ha dr h' bB k'=>
   have ll:=wO eM ha
   have n1:=lO hX dr
   have Ml:∀u H',bx u H'→Heap.le H H':=by
    cases md with
    | plain=>exact absurd rfl eM
    | bF=>exact bB.2
    | pM st=>exact bB.2
    | fV=>
     rcases bB with e | e
     ·have:=qJ.1 e
      rcases hw.kind with ⟨_,h1 | h1 | h1 | h1⟩ | h1
      ·omega
      ·omega
      ·omega
      ·exact absurd h1.2.1 (by decide)
      ·omega
     ·exact e
    | cG k=>cases eY
    | tD=>
     rcases hw.kind with ⟨_,h1 | h1 | h1 | h1⟩ | h1
     ·omega
     ·exact absurd h1.2 (by decide)
     ·omega
     ·exact absurd h1.2.1 (by decide)
     ·omega
   refine .iK bx ha n1 (h'.move (nI hw.ys cB)) bB fun u H' hp hr=> .jv X hm (nJ nb) (Ip n1 hx) (Iq n1 (fun c e=>by cases e) (Ml u H' hp) h) ?_
   rw[←pO _ _ hw.ne];exact k' u H' hp hr
 | jJ dx zb oS se cx hx k=>
  have kx:=wN.1 (show qG x.op=true by simp[qG,oS])
  have oT:kd y.op=3∧y.guard=none:=by
   rcases hw.kind with ⟨h1,_⟩ | h1
   ·omega
   ·exact⟨h1.2.1,h1.2.2.1⟩
  have n1:md.nb (gG s dx cx) y.dst=true→md.nb s y.dst=true:=fun hn=>by
   rw[qK eM eY]at hn⊢
   intro k cs hk hs
   exact hn k cs hk (DN (fun e=>DQ k hk (by rw[zb,e])) hs (fun b o e=>by cases e))
  cases k with
  | jI v' bB dr h' k'=>
   rcases bB with e | e
   ·rw[wN.2 oT.1]at e;cases e
   ·exact absurd oT.2 e
  | jv X' bB dr r7 h' k'=>have:=BS bB;omega
  | jJ d hd bB dr cs h' k'=>
   refine .jJ d hd bB (n1 dr) cs (h'.move SF) (.jJ dx zb oS ?_ cx (hx.move (Il hw.xs (pQ d hd) (hw.yx d hd))) ?_)
   ·rw[qK eM eY]at se⊢
    intro k cA hk hs
    rcases qH hs with ⟨e,_⟩ | ⟨_,hs⟩
    ·exact hw.ne k hk (by rw[hd,e])
    ·exact se k cA hk hs
   ·rw[←aau (fun e=>hw.ne dx zb (by rw[hd,e]))];exact k'
  | lM b cs cA hd bB hb ki h' k'=>have:=qJ.1 bB;omega
  | fresh mk xs e bB dr h' k'=>
   refine .fresh mk xs e bB (n1 dr) (h'.move SF) fun g hg hr=> .jJ dx zb oS (nJ se) cx (hx.move (tG hw.xs jb)) ?_
   rw[DO (fun e=>DQ dx e zb) (fun b o e=>by cases e)];exact k' g hg hr
  | lN _ bM _ _ _ _ _=>rw[eY]at bM;cases bM
  | nG _ _ _ bM _ _ _ _=>rw[eY]at bM;cases bM
  | mg _ bM _ _ _ _ _=>rw[eY]at bM;cases bM
  | iK bx ha dr h' bB k'=>have ll:=wO eM ha;omega
 | lM b cs cA hd hm hb ki h k=>
  have:=qJ.1 hm
  rcases hw.kind with ⟨h1,_⟩ | h1 <;> omega
 | fresh Ir qL ex oS se hx k=>
  have kx:kd x.op=3:=wN.1 (by rcases oS with e | ⟨e,_⟩ <;> simp[qG,e]at *)
  have oT:kd y.op=3∧y.guard=none:=by
   rcases hw.kind with ⟨h1,_⟩ | h1
   ·omega
   ·exact⟨h1.2.1,h1.2.2.1⟩
  obtain⟨w,hd⟩:=hH
  have fj:Den (ins H w.heap.size (whole qL ex)) (w.alloc (.cells qL.toArray ex (0,0))):=Den.aaw hd qL ex
  rcases SE oT.1 with ⟨zc,zd⟩ | ⟨zc,zd⟩
  ·
   have only:∀g,H g=none→Real (ins H g (whole qL ex))→∃d cs,y.dst=some d∧md.nb s y.dst=true∧vd P n all y s cs∧K (gG (bn s x.dst (.val (Ir g))) d cs) (ins H g (whole qL ex)):=by
    intro g hg hr
    cases k g hg hr with
    | jI v' bB dr h' k'=>
     rcases bB with e | e
     ·rw[wN.2 oT.1]at e;cases e
     ·exact absurd oT.2 e
    | jv X' bB dr r7 h' k'=>have:=BS bB;omega
    | lM b cs cA hd bB hb ki h' k'=>have:=qJ.1 bB;omega
    | lN _ bM _ _ _ _ _=>rw[eY]at bM;cases bM
    | nG _ _ _ bM _ _ _ _=>rw[eY]at bM;cases bM
    | mg _ bM _ _ _ _ _=>rw[eY]at bM;cases bM
    | iK bx ha dr h' bB k'=>have ll:=wO eM ha;omega
    | fresh mk xs e bB dr h' k'=>
     rcases bB with e | e
     ·rw[zd]at e;cases e
     ·exact absurd e.1 eM
    | jJ d hd bB dr cs h' k'=>exact⟨d,cs,hd,lO (fun cs e=>by cases e) dr,h'.move (nI hw.ys cB),k'⟩
   obtain⟨d,cs,pR,ze,hy,_⟩:=only _ hd.fresh ⟨_,fj⟩
   refine .jJ d pR zc ze cs hy (.fresh Ir qL ex oS ?_ (hx.move (Il hw.xs (pQ d pR) (hw.yx d pR))) fun g hg hr=> ?_)
   ·rw[qK eM eY]at se⊢
    intro k cA hk hs
    rcases qH hs with ⟨e,_⟩ | ⟨_,hs⟩
    ·exact hw.ne k hk (by rw[pR,e])
    ·exact se k cA hk hs
   ·obtain⟨d',cA,DS,_,tH,hk⟩:=only g hg hr
    obtain rfl:d'=d:=by rw[pR]at DS;cases DS;rfl
    obtain rfl:=hy.uniq hS tH
    rw[←DO (fun e=>hw.ne _ e pR) (fun b o e=>by cases e)];exact hk
  ·have only:∀g,H g=none→Real (ins H g (whole qL ex))→∃mk xs e,md.nb s y.dst=true∧tC P n all y s mk xs e∧∀g',ins H g (whole qL ex) g'=none→Real (ins (ins H g (whole qL ex)) g' (whole xs e))→K (bn (bn s x.dst (.val (Ir g))) y.dst (.val (mk g'))) (ins (ins H g (whole qL ex)) g' (whole xs e)):=by
    intro g hg hr
    cases k g hg hr with
    | jI v' bB dr h' k'=>
     rcases bB with e | e
     ·rw[wN.2 oT.1]at e;cases e
     ·exact absurd oT.2 e
    | jv X' bB dr r7 h' k'=>have:=BS bB;omega
    | lM b cs cA hd bB hb ki h' k'=>have:=qJ.1 bB;omega
    | lN _ bM _ _ _ _ _=>rw[eY]at bM;cases bM
    | nG _ _ _ bM _ _ _ _=>rw[eY]at bM;cases bM
    | mg _ bM _ _ _ _ _=>rw[eY]at bM;cases bM
    | iK bx ha dr h' bB k'=>have ll:=wO eM ha;omega
    | jJ d hd bB dr cs h' k'=>rw[zc]at bB;cases bB
    | fresh mk xs e bB dr h' k'=>exact⟨mk,xs,e,lO (fun cs e=>by cases e) dr,h'.move (nI hw.ys cB),k'⟩
   obtain⟨mk,xs,e,ze,hy,_⟩:=only _ hd.fresh ⟨_,fj⟩
   refine .fresh mk xs e (.inl zd) ze hy fun g' ie dt=> .fresh Ir qL ex oS (nJ se) (hx.move (tG hw.xs jb)) fun g hg hr=> ?_
   have aY:g≠g':=fun e'=>by subst e';rw[bo]at hg;cases hg
   have nK:H g=none:=by rw[a7 _ _ aY]at hg;exact hg
   have sh:Real (ins H g (whole qL ex)):=by
    obtain⟨w1,fX⟩:=hr
    rw[BT _ _ _ aY.symm]at fX
    exact⟨w1,fX.le (Heap.bI _ (by rw[a7 _ _ aY.symm];exact ie))⟩
   obtain⟨mk',pN,e',_,tH,hk⟩:=only g nK sh
   obtain⟨rfl,rfl,rfl⟩:=hy.uniq hS tH
   have:=hk g' (by rw[a7 _ _ aY.symm];exact ie) (by rw[BT _ _ _ aY];exact hr)
   rw[←pO _ _ hw.ne,BT _ _ _ aY.symm];exact this
 | lN _ bM _ _ _ _ _=>rw[eY]at bM;cases bM
 | nG _ _ _ bM _ _ _ _=>rw[eY]at bM;cases bM
 | mg _ bM _ _ _ _ _=>rw[eY]at bM;cases bM
 | iK Mm Mn se hx oS k=>
  have ll:=wO eM Mn
  obtain⟨v0,SJ,BV,sj⟩:=hx.some hS hH
  rcases hw.kind with ⟨kx0,jc⟩ | ⟨_,aay,aaz,_⟩
  ·omega
  ·have oT:kd y.op=3∧y.guard=none:=⟨aay,aaz⟩
   rcases SE oT.1 with ⟨zc,zd⟩ | ⟨zc,zd⟩
   ·have only:∀v H',Mm v H'→Real H'→∃d cs,y.dst=some d∧md.nb s y.dst=true∧vd P n all y s cs∧K (gG (bn s x.dst (.val v)) d cs) H':=by
     intro v H' hp hr
     cases k v H' hp hr with
     | jI v' bB dr h' k'=>
      rcases bB with e | e
      ·rw[wN.2 oT.1]at e;cases e
      ·exact absurd oT.2 e
     | jv X' bB dr r7 h' k'=>have:=BS bB;omega
     | lM b cs cA hd bB hb ki h' k'=>have:=qJ.1 bB;omega
     | lN _ bM _ _ _ _ _=>rw[eY]at bM;cases bM
     | nG _ _ _ bM _ _ _ _=>rw[eY]at bM;cases bM
     | mg _ bM _ _ _ _ _=>rw[eY]at bM;cases bM
     | iK bx ha dr h' bB k'=>have ll:=wO eM ha;omega
     | fresh mk xs e bB dr h' k'=>
      rcases bB with e | e
      ·rw[zd]at e;cases e
      ·exact absurd e.1 eM
     | jJ d hd bB dr cs h' k'=>exact⟨d,cs,hd,lO (fun cs e=>by cases e) dr,h'.move (nI hw.ys cB),k'⟩
    obtain⟨d,cs,pR,ze,hy,_⟩:=only v0 SJ BV sj
    refine .jJ d pR zc ze cs hy (.iK Mm Mn ?_ (hx.move (Il hw.xs (pQ d pR) (hw.yx d pR))) oS fun v H' hp hr=> ?_)
    ·rw[qK eM eY]at se⊢
     intro k cA hk hs
     rcases qH hs with ⟨e,_⟩ | ⟨_,hs⟩
     ·exact hw.ne k hk (by rw[pR,e])
     ·exact se k cA hk hs
    ·obtain⟨d',cA,DS,_,tH,hk⟩:=only v H' hp hr
     obtain rfl:d'=d:=by rw[pR]at DS;cases DS;rfl
     obtain rfl:=hy.uniq hS tH
     rw[←DO (fun e=>hw.ne _ e pR) (fun b o e=>by cases e)];exact hk
   ·have only:∀v H',Mm v H'→Real H'→∃mk xs e,md.nb s y.dst=true∧tC P n all y s mk xs e∧∀g',H' g'=none→Real (ins H' g' (whole xs e))→K (bn (bn s x.dst (.val v)) y.dst (.val (mk g'))) (ins H' g' (whole xs e)):=by
     intro v H' hp hr
     cases k v H' hp hr with
     | jI v' bB dr h' k'=>
      rcases bB with e | e
      ·rw[wN.2 oT.1]at e;cases e
      ·exact absurd oT.2 e
     | jv X' bB dr r7 h' k'=>have:=BS bB;omega
     | lM b cs cA hd bB hb ki h' k'=>have:=qJ.1 bB;omega
     | lN _ bM _ _ _ _ _=>rw[eY]at bM;cases bM
     | nG _ _ _ bM _ _ _ _=>rw[eY]at bM;cases bM
     | mg _ bM _ _ _ _ _=>rw[eY]at bM;cases bM
     | iK bx ha dr h' bB k'=>have ll:=wO eM ha;omega
     | jJ d hd bB dr cs h' k'=>rw[zc]at bB;cases bB
     | fresh mk xs e bB dr h' k'=>exact⟨mk,xs,e,lO (fun cs e=>by cases e) dr,h'.move (nI hw.ys cB),k'⟩
    obtain⟨mk,xs,e,ze,hy,_⟩:=only v0 SJ BV sj
    refine .fresh mk xs e (.inl zd) ze hy fun g hg hr=> .iK _ Mn (nJ se) ((hx.move (tG hw.xs jb)).frame hg) ?_ fun v rW zf SK=> ?_
    ·cases md with
     | plain=>exact absurd rfl eM
     | pM st=>
      refine⟨oS.1,fun v rW zf=> ?_⟩
      obtain⟨H',hp,ie,rfl⟩:=zf
      exact Heap.le.pP (oS.2 v H' hp) ie
     | bF=>
      refine⟨oS.1,fun v rW zf=> ?_⟩
      obtain⟨H',hp,ie,rfl⟩:=zf
      exact Heap.le.pP (oS.2 v H' hp) ie
     | fV=>
      rcases oS with e' | e'
      ·exact .inl e'
      ·refine .inr fun v rW zf=> ?_
       obtain⟨H',hp,ie,rfl⟩:=zf
       exact Heap.le.pP (e' v H' hp) ie
     | tD=>trivial
     | cG k=>trivial
    ·obtain⟨H',hp,ie,rfl⟩:=zf
     have sh:Real H':=by
      obtain⟨w1,fX⟩:=SK
      exact⟨w1,fX.le (Heap.bI _ ie)⟩
     obtain⟨mk',pN,e',_,tH,hk⟩:=only v H' hp sh
     obtain⟨rfl,rfl,rfl⟩:=hy.uniq hS tH
     rw[←pO _ _ hw.ne];exact hk g ie SK
theorem SL(d:Option Nat):ja s d=true↔∀k cs,d=some k→s k≠some (.box cs):=by
 cases d with
 | none=>simp[ja]
 | some d=>
  have e:ja s (some d)=(match s d with | some (.box _)=>false | _=>true):=rfl
  rw[e]
  cases hs:s d with
  | none=>exact⟨(fun _ k cs hk h=>by cases hk;rw[hs]at h;cases h),fun _=>rfl⟩
  | some z=>
   cases z with
   | val v=>exact⟨(fun _ k cs hk h=>by cases hk;rw[hs]at h;cases h),fun _=>rfl⟩
   | box c=>exact⟨(fun h=>by cases h),fun h=>absurd hs (h d c rfl)⟩
   | ref b o=>exact⟨(fun _ k cs hk h=>by cases hk;rw[hs]at h;cases h),fun _=>rfl⟩
theorem tI(hK:md.nF=true){d:Option Nat}(h:md.nb s d=true):False:=by
 cases md <;> simp[Mode.nF,Mode.nb]at hK h
theorem gH.aaA(hK:md.nF=true)(hw:BU md all x y)(za:∀d,x.dst=some d→d<n)(pQ:∀d,y.dst=some d→d<n)
  (h:gH P n all md x s H (fun s1 H1=>gH P n all md y s1 H1 K)):gH P n all md y s H (fun s2 H2=>gH P n all md x s2 H2 K):=by
 have cB:∀d,x.dst=some d→d<n∧d∉y.looksAt all:=fun d hd=>⟨za d hd,hw.xy d hd⟩
 have jb:∀d,y.dst=some d→d<n∧d∉x.looksAt all:=fun d hd=>⟨pQ d hd,hw.yx d hd⟩
 have DQ:∀d,y.dst=some d→x.dst≠some d:=fun d hd e=>hw.ne d e hd
 have kx:kd x.op=0:=by
  rcases hw.kind with h1 | h1
  ·exact h1.1
  ·rw[hK]at h1;exact absurd h1.2.2.2 (by decide)
 have ky:kd y.op≠2:=fun e=>by
  rcases hw.kind with ⟨_,h1 | h1 | h1 | h1⟩ | h1
  ·omega
  ·omega
  ·omega
  ·have:=h1.2.1
   cases md <;> simp[Mode.nF,Mode.Mh]at hK this
  ·omega
 have lO:∀{v:Value},ja (bn s x.dst (.val v)) y.dst=true→ja s y.dst=true:=fun{v} hn=>by
  rw[SL]at hn⊢
  intro k cs hk hs
  exact hn k cs hk (by rw[DP (DQ k hk)];exact hs)
 have nJ:∀{v:Value},ja s x.dst=true→ja (bn s y.dst (.val v)) x.dst=true:=fun{v} hn=>by
  rw[SL]at hn⊢
  intro k cs hk hs
  exact hn k cs hk (by rw[DP (hw.ne k hk)]at hs;exact hs)
 cases h with
 | jI v hm nb h k=>exact(tI hK nb).elim
 | jv X hm nb hx h k=>exact(tI hK nb).elim
 | jJ d hd hm nb cs h k=>exact(tI hK nb).elim
 | lM b cs cA hd hm hb ki h k=>have:=qJ.1 hm;omega
 | fresh mk xs e hm nb h k=>exact(tI hK nb).elim
 | iK bx ha nb h hm k=>exact(tI hK nb).elim
 | nG mk xs e hk hm nb h k=>have:=wN.1 (show qG x.op=true by simp[qG,hm]);omega
 | mg bx hk ha nb h hm k=>omega
 | lN v hk hm nb hc h k=>
  cases k with
  | jI v hm nb h k=>exact(tI hK nb).elim
  | jv X hm nb hx h k=>exact(tI hK nb).elim
  | jJ d hd hm nb cs h k=>exact(tI hK nb).elim
  | lM b cs cA hd hm hb ki h k=>exact absurd (qJ.1 hm) ky
  | fresh mk xs e hm nb h k=>exact(tI hK nb).elim
  | iK bx ha nb h hm k=>exact(tI hK nb).elim
  | lN v' iw bB dr jd h' k'=>
   refine .lN v' iw bB (lO dr) hc (h'.move (nI hw.ys cB)) (.lN v hk hm (nJ nb) hc (h.move (tG hw.xs jb)) ?_)
   rw[←pO _ _ hw.ne];exact k'
  | nG mk xs e iw bB dr h' k'=>
   refine .nG mk xs e iw bB (lO dr) (h'.move (nI hw.ys cB)) fun g hg hr=> .lN v hk hm (nJ nb) (fun ad u hu=>cF (Heap.bI _ hg) (hc ad u hu)) (h.move (tG hw.xs jb)) ?_
   rw[←pO _ _ hw.ne];exact k' g hg hr
  | mg bx iw DT dr h' bB k'=>
   have aaB:∀u H',bx u H'→md.fy H':=by
    rcases bB with e | e
    ·exact absurd (qJ.1 e) ky
    ·exact e
   refine .mg bx iw DT (lO dr) (h'.move (nI hw.ys cB)) bB fun u H' hp hr=> .lN v hk hm (nJ nb) (aaB u H' hp) (h.move (tG hw.xs jb)) ?_
   rw[←pO _ _ hw.ne];exact k' u H' hp hr
theorem gH.swap(eM:md≠.plain)(hw:BU md all x y)(za:∀d,x.dst=some d→d<n)(pQ:∀d,y.dst=some d→d<n)
  (hS:∃a,gf n s a) (hH:Real H) (h:gH P n all md x s H (fun s1 H1=>gH P n all md y s1 H1 K)):gH P n all md y s H (fun s2 H2=>gH P n all md x s2 H2 K):=by
 cases hK:md.nF with
 | false=>exact gH.aax eM hK hw za pQ hS hH h
 | true=>exact gH.aaA hK hw za pQ h
end
end Go.ar
namespace Go.ar
section
variable (P:Program) (n:Nat) (all:Array Oper) (md:Mode)
def aP:List Oper→St→Heap→(St→Heap→Prop)→Prop
 | [],s,H,K=>K s H
 | o::r,s,H,K=>gH P n all md o s H (fun s' H'=>aP r s' H' K)
end
section
variable {P:Program} {n:Nat} {all:Array Oper} {md:Mode} {s:St} {H:Heap} {K K':St→Heap→Prop}
theorem gH.aaC{o:Oper}(qI:∀d,o.dst=some d→d<n)(hS:∃a,gf n s a)(hH:Real H)(h:gH P n all md o s H K)
  (hk:∀s H,(∃a,gf n s a)→Real H→K s H→K' s H):gH P n all md o s H K':=by
 obtain⟨a,ha⟩:=hS
 have zh:∀X:Slot,(∃a,gf n (bn s o.dst X) a):=fun X=>by
  obtain⟨d⟩ | hd:o.dst=none∨∃d,o.dst=some d:=by cases o.dst <;> simp
  ·rw[‹o.dst=none›];exact⟨a,ha⟩
  ·obtain⟨d,hd⟩:=hd
   rw[hd]
   have key:∀u,(∀v,X = .val v→u=v)→∃a,gf n (bn s (some d) X) a:=fun u hu=>by
    refine⟨a.put (some d) u,by rw[Act.BQ];exact ha.size,fun t v ht=> ?_⟩
    by_cases e:t=d
    ·subst e
     rw[show bn s (some t) X=put s t X from rfl,gS]at ht
     simp only[Option.some.injEq]at ht
     rw[Act.wM _ _ _ (by rw[ha.size];exact qI t hd),hu v ht]
    ·rw[show bn s (some d) X=put s d X from rfl,fp _ _ e]at ht
     rw[Act.qF _ _ e];exact ha.at_ t v ht
   cases X with
   | val v=>exact key v (fun v' h=>by cases h;rfl)
   | box cs=>exact key undef (fun v' h=>by cases h)
   | ref b off=>exact key undef (fun v' h=>by cases h)
 cases h with
 | jI v hm nb h k=>exact .jI v hm nb h (hk _ _ (zh _) hH k)
 | jv x hm nb hx h k=>exact .jv x hm nb hx h (hk _ _ (zh _) hH k)
 | jJ d hd hm nb cs h k=>exact .jJ d hd hm nb cs h (hk _ _ ⟨a,ha.size,fun t v ht=>ha.at_ t v (Mj ht).2⟩ hH k)
 | lM b cs cA hd hm hb ki h k=>
  refine .lM b cs cA hd hm hb ki h (hk _ _ ⟨a,ha.size,fun t v ht=> ?_⟩ hH k)
  by_cases e:t=b
  ·subst e;rw[gS]at ht;cases ht
  ·rw[fp _ _ e]at ht;exact ha.at_ t v ht
 | fresh mk xs e hm nb h k=>exact .fresh mk xs e hm nb h fun g hg hr=>hk _ _ (zh _) hr (k g hg hr)
 | iK bx DT nb h hm k=>exact .iK bx DT nb h hm fun v H' hp hr=>hk _ _ (zh _) hr (k v H' hp hr)
 | lN v bM hm nb hc h k=>exact .lN v bM hm nb hc h (hk _ _ (zh _) hH k)
 | nG mk xs e bM hm nb h k=>exact .nG mk xs e bM hm nb h fun g hg hr=>hk _ _ (zh _) hr (k g hg hr)
 | mg bx bM DT nb h hm k=>exact .mg bx bM DT nb h hm fun v H' hp hr=>hk _ _ (zh _) hr (k v H' hp hr)
theorem aP.front(eM:md≠.plain){y:Oper}{Y:List Oper}(pQ:∀d,y.dst=some d→d<n):∀(X:List Oper)(s:St)(H:Heap),(∀x,x∈X→BU md all x y)→(∀x,x∈X→∀d,x.dst=some d→d<n)→
  (∃a,gf n s a)→Real H→aP P n all md (X++y::Y) s H K→aP P n all md (y::(X++Y)) s H K:=by
 intro X
 induction X with
 | nil=>intro s H _ _ _ _ h;exact h
 | cons x X ih=>
  intro s H hw hn hS hH h
  have h1:gH P n all md x s H (fun s1 H1=>gH P n all md y s1 H1 (fun s2 H2=>aP P n all md (X++Y) s2 H2 K)):=
   gH.aaC (hn x (List.mem_cons_self ..)) hS hH h fun s1 H1 hS1 Mo h1=>
    ih s1 H1 (fun z hz=>hw z (List.mem_cons_of_mem _ hz)) (fun z hz=>hn z (List.mem_cons_of_mem _ hz)) hS1 Mo h1
  exact gH.swap eM (hw x (List.mem_cons_self ..)) (hn x (List.mem_cons_self ..)) pQ hS hH h1
end
theorem Oper.SM{P:Program}{o:Oper}{a:Act}{w:World}{K:Act→World→Prop}{Q:Exit→Act→World→Prop}(h:o.wp P a w K (fun _ _ _=>False)):o.wp P a w K Q:=by
 unfold Oper.wp at h⊢
 generalize (execOp a.eval o).run P w=r at h⊢
 cases r with
 | ok m w'=>
  cases m <;> simp only[Oper.upon]at h⊢<;> first
   | exact h
   | exact h.mono fun e DJ he=>by
      cases e with
      | returned v=>exact he
      | panicked c=>exact he.elim
      | outgrown=>obtain⟨_,_,hh⟩:=he;exact hh.elim
 | halt x w'=>cases x <;> simp only[Oper.upon]at h⊢
section
variable {P:Program} {n:Nat} {w0:World} {H0:Heap} {Q:Exit→Act→World→Prop} {K:St→Heap→Prop}
theorem DU{a b:Nat}(h:Nat.blt a b=true):a<b:=Nat.le_of_ble_eq_true h
def DV(n:Nat)(l:List Oper):Bool:=l.all fun o=>match o.dst with | some d=>Nat.blt d n | none=>true
theorem SN{l:List Oper}(h:DV n l=true):∀o,o∈l→∀d,o.dst=some d→d<n:=fun o ho d hd=>by
 have:=List.all_eq_true.1 h o ho
 rw[hd]at this
 exact DU this
theorem aP.wpList{all:Array Oper}(hQ:∀s H a w,Rel w0 H0 n s H a w→K s H→Q .normal a w):∀(l:List Oper)(s:St)(H:Heap)(a:Act)(w:World),(∀o,o∈l→∀d,o.dst=some d→d<n)→
  Rel w0 H0 n s H a w→aP P n all .plain l s H K→wpList P all Q l a w:=by
 intro l
 induction l with
 | nil=>intro s H a w _ hR h;exact hQ s H a w hR h
 | cons o l ih=>
  intro s H a w hn hR h
  have hs:=gH.sound hR (hn o (List.mem_cons_self ..)) h
  unfold Go.wpList
  rcases hs with ⟨h1,h2⟩ | ⟨h1,s',H',dH,h2⟩
  ·rw[if_pos h1]
   refine .inl (Oper.SM (Oper.wp_mono (fun a' w' hh=> ?_) h2))
   obtain⟨s',H',dH,hk⟩:=hh
   exact ih s' H' a' w' (fun z hz=>hn z (List.mem_cons_of_mem _ hz)) dH hk
  ·rw[if_neg (by rw[h1];simp)]
   exact ih s' H' _ w (fun z hz=>hn z (List.mem_cons_of_mem _ hz)) dH h2
end
def eR(l:List Oper)(i:Nat):Oper:=l[i]?.getD default
def oU(l:List Oper):Nat→Nat→Nat→Bool
 | 0,_,_=>false
 | f+1,i,j=>(eR l j).after.any fun e=>Region.binds .any e&&(Nat.beq e.on i||oU l f i e.on)
def zi(md:Mode)(l:List Oper):List Nat→Bool
 | []=>true
 | i::r=>r.all (fun j=>oU l l.length i j||Sw md l.toArray (eR l i) (eR l j))&&zi md l r
def DW:List Nat→Bool
 | []=>true
 | i::r=> !r.contains i&&DW r
def BW(n:Nat)(md:Mode)(l:List Oper)(perm:List Nat):Bool:=
 !md.Su&&DV n l&&Nat.beq perm.length l.length&&perm.all (fun i=>Nat.blt i l.length)&&DW perm&&zi md l perm&&(List.range l.length).all (fun i=>perm.contains i) &&
 (List.range l.length).all fun i=>(eR l i).after.all fun e=> !Region.binds .any e||Nat.blt e.on i
section
variable {P:Program} {n:Nat} {w0:World} {H0:Heap} {Q:Exit→Act→World→Prop} {K:St→Heap→Prop} {md:Mode} {l:List Oper}
theorem Is{i:Nat}(h:i<l.length):l[i]? = some (eR l i):=by
 unfold eR;rw[List.getElem?_eq_getElem h];rfl
theorem aaD{kQ:Array Bool}(It:∀i,kQ.getD i false=true→∀e,e∈(eR l i).after→Region.binds .any e=true→kQ.getD e.on false=true):
  ∀f i j,(∀e,e∈(eR l j).after→Region.binds .any e=true→kQ.getD e.on false=true)→oU l f i j=true→kQ.getD i false=true:=by
 intro f
 induction f with
 | zero=>intro i j _ h;cases h
 | succ f ih=>
  intro i j hj h
  simp only[oU,Array.any_eq_true']at h
  obtain⟨e,he,h⟩:=h
  simp only[Bool.and_eq_true,Bool.or_eq_true]at h
  obtain⟨hb,h⟩:=h
  rcases h with h | h
  ·have:=Nat.eq_of_beq_eq_true h
   rw[←this];exact hj e he hb
  ·exact ih i e.on (It _ (hj e he hb)) h
theorem aaE{r:List Nat}(h:zi md l r=true):r.Pairwise fun i j=>oU l l.length i j=true∨Sw md l.toArray (eR l i) (eR l j)=true:=by
 induction r with
 | nil=>exact .nil
 | cons i r ih=>
  simp only[zi,Bool.and_eq_true,List.all_eq_true,Bool.or_eq_true]at h
  exact .cons (fun j hj=>h.1 j hj) (ih h.2)
theorem aaF{r:List Nat}(h:DW r=true):r.Nodup:=by
 induction r with
 | nil=>exact .nil
 | cons i r ih=>
  simp only[DW,Bool.and_eq_true,Bool.not_eq_true',List.contains_eq_mem,decide_eq_false_iff_not]at h
  exact List.nodup_cons.2 ⟨h.1,ih h.2⟩
theorem SO{A:Array Bool}{i j:Nat}{b:Bool}(hi:i<A.size):(A.setIfInBounds i true).getD j b=if j=i then true else A.getD j b:=by
 simp only[Array.getD_eq_getD_getElem?,Array.getElem?_setIfInBounds]
 by_cases e:i=j
 ·subst e;simp[hi]
 ·rw[if_neg e,if_neg (Ne.symm e)]
theorem aaG(eM:md≠.plain)(hn:∀o,o∈l→∀d,o.dst=some d→d<n)(SP:∀i,i<l.length→∀e,e∈(eR l i).after→Region.binds .any e=true→e.on<i)
  (hQ:∀s H a w,Rel w0 H0 n s H a w→K s H→Q .normal a w):
  ∀(fuel:Nat)(r:List Nat)(kQ:Array Bool)(s:St)(H:Heap)(a:Act)(w:World),(∀i,i∈r↔i<l.length∧kQ.getD i true=false)→r.Nodup→kQ.size=l.length→
  (r.Pairwise fun i j=>oU l l.length i j=true∨Sw md l.toArray (eR l i) (eR l j)=true)→
  (∀i,kQ.getD i false=true→∀e,e∈(eR l i).after→Region.binds .any e=true→kQ.getD e.on false=true)→
  r.length≤fuel→Rel w0 H0 n s H a w→aP P n l.toArray md (r.map (eR l)) s H K→wpAny P .any l.toArray Q fuel kQ a w:=by
 intro fuel
 induction fuel with
 | zero=>
  intro r kQ s H a w hr _ cO _ _ hlen hR h
  obtain rfl:r = []:=List.eq_nil_of_length_eq_zero (by omega)
  refine⟨?_,hQ s H a w hR h⟩
  unfold Region.ready
  rw[List.filter_eq_nil_iff]
  intro i hi hp
  simp only[List.mem_range,List.size_toArray]at hi
  simp only[Bool.and_eq_true,Bool.not_eq_true']at hp
  exact absurd ((hr i).2 ⟨hi,hp.1⟩) (by simp)
 | succ fuel ih=>
  intro r kQ s H a w hr dJ cO wP It hlen hR h
  have nL:∀i,i∈Region.ready .any l.toArray kQ↔i∈r∧∀e,e∈(eR l i).after→Region.binds .any e=true→kQ.getD e.on false=true:=by
   intro i
   unfold Region.ready
   rw[List.mem_filter,hr]
   simp only[List.mem_range,List.size_toArray,Bool.and_eq_true,Bool.not_eq_true',List.getElem?_toArray]
   constructor
   ·rintro⟨h1,h2,h3⟩
    rw[Is h1]at h3
    simp only[Option.map_some,Option.getD_some,Array.all_eq_true',Bool.or_eq_true,Bool.not_eq_true']at h3
    refine⟨⟨h1,h2⟩,fun e he hb=> ?_⟩
    rcases h3 e he with h4 | h4
    ·rw[hb]at h4;cases h4
    ·exact h4
   ·rintro⟨⟨h1,h2⟩,h3⟩
    refine⟨h1,h2,?_⟩
    rw[Is h1]
    simp only[Option.map_some,Option.getD_some,Array.all_eq_true',Bool.or_eq_true,Bool.not_eq_true']
    intro e he
    cases hb:Region.binds .any e with
    | false=>exact .inl rfl
    | true=>exact .inr (h3 e he hb)
  have Mp:∀j,j<l.length→j∉r→kQ.getD j false=true:=by
   intro j hj hjr
   have:kQ.getD j true≠false:=fun hf=>hjr ((hr j).2 ⟨hj,hf⟩)
   simp only[Array.getD_eq_getD_getElem?]at this⊢
   rw[Array.getElem?_eq_getElem (by omega)]at this⊢
   simpa using this
  refine⟨fun he=> ?_,fun i hi=> ?_⟩
  ·
   have sj:r = []:=by
    cases hc:r with
    | nil=>rfl
    | cons z r'=>
     exfalso
     have key:∀m,∀i,i≤m→i∈r→False:=by
      intro m
      induction m with
      | zero=>
       intro i aQ mU
       have sk:i∈Region.ready .any l.toArray kQ:=(nL i).2 ⟨mU,fun e BX hb=>by
        have:=SP i ((hr i).1 mU).1 e BX hb;omega⟩
       rw[he]at sk;cases sk
      | succ m ihm=>
       intro i aQ mU
       have zj:=((hr i).1 mU).1
       have sk:i∈Region.ready .any l.toArray kQ:=(nL i).2 ⟨mU,fun e BX hb=>by
        have bU:=SP i zj e BX hb
        exact Mp e.on (by omega) (fun h'=>ihm e.on (by omega) h')⟩
       rw[he]at sk;cases sk
     exact key z z (Nat.le_refl _) (by rw[hc];exact List.mem_cons_self ..)
   subst sj
   exact hQ s H a w hR h
  ·obtain⟨mU,SQ⟩:=(nL i).1 hi
   have zj:=((hr i).1 mU).1
   obtain⟨X,Y,rfl⟩:=List.append_of_mem mU
   have ki:∀x,x∈X→BU md l.toArray (eR l x) (eR l i):=by
    intro x hx
    have hp:oU l l.length x i=true∨Sw md l.toArray (eR l x) (eR l i)=true:=by
     rw[List.pairwise_append]at wP
     exact wP.2.2 x hx i (List.mem_cons_self ..)
    rcases hp with hp | hp
    ·exfalso
     have h1:=aaD It l.length x i SQ hp
     have h2:=((hr x).1 (List.mem_append_left _ hx)).2
     simp only[Array.getD_eq_getD_getElem?]at h1 h2
     cases hg:kQ[x]? with
     | none=>rw[hg]at h1;simp at h1
     | some b=>rw[hg]at h1 h2;simp at h1 h2;rw[h1]at h2;cases h2
    ·exact Sw.out hp
   have Mq:∀j,j<l.length→∀d,(eR l j).dst=some d→d<n:=fun j hj=>hn _ (List.mem_of_getElem? (Is hj))
   obtain⟨G,hl,_⟩:=hR.fits
   have aaH:=aP.front (P:=P) eM (y:=eR l i) (Y:=Y.map (eR l)) (K:=K) (Mq i zj) (X.map (eR l)) s H
    (fun x hx=>by obtain⟨j,hj,rfl⟩:=List.mem_map.1 hx;exact ki j hj)
    (fun x hx=>by obtain⟨j,hj,rfl⟩:=List.mem_map.1 hx;exact Mq j ((hr j).1 (List.mem_append_left _ hj)).1) ⟨a,hl.aH⟩ ⟨w,hl.den⟩ (by simpa using h)
   have hs:=gH.sound hR (Mq i zj) aaH
   have SR:(X++Y).Nodup∧i∉X++Y:=by
    have:=(List.perm_middle (a:=i) (l₁:=X) (l₂:=Y)).nodup_iff.1 dJ
    rw[List.nodup_cons]at this
    exact⟨this.2,this.1⟩
   have next:∀s' H' a' w',Rel w0 H0 n s' H' a' w'→aP P n l.toArray md (X.map (eR l)++Y.map (eR l)) s' H' K→wpAny P .any l.toArray Q fuel (kQ.setIfInBounds i true) a' w':=by
    intro s' H' a' w' dH hk
    refine ih (X++Y) _ s' H' a' w' (fun j=> ?_) SR.1 (by simpa using cO) ?_ (fun j hj e BX hb=> ?_) ?_ dH (by simpa using hk)
    ·rw[SO (by omega)]
     by_cases e:j=i
     ·subst e
      simp only[if_true]
      exact⟨fun h'=>absurd h' SR.2,fun h'=>by cases h'.2⟩
     ·rw[if_neg e,←hr]
      simp only[List.mem_append,List.mem_cons]
      constructor
      ·rintro(h' | h')
       ·exact .inl h'
       ·exact .inr (.inr h')
      ·rintro(h' | h' | h')
       ·exact .inl h'
       ·exact absurd h' e
       ·exact .inr h'
    ·exact wP.sublist (List.Sublist.append (List.Sublist.refl _) (List.sublist_cons_self ..))
    ·rw[SO (by omega)]at hj⊢
     by_cases e2:e.on=i
     ·rw[if_pos e2]
     ·rw[if_neg e2]
      by_cases e3:j=i
      ·subst e3;exact SQ e BX hb
      ·rw[if_neg e3]at hj;exact It j hj e BX hb
    ·simp only[List.length_append,List.length_cons]at hlen⊢;omega
   unfold wpOp
   rw[show l.toArray[i]? = some (eR l i)from by rw[List.getElem?_toArray];exact Is zj]
   simp only
   rcases hs with ⟨h1,h2⟩ | ⟨h1,s',H',dH,h2⟩
   ·rw[if_pos h1]
    refine .inl (Oper.SM (Oper.wp_mono (fun a' w' hh=> ?_) h2))
    obtain⟨s',H',dH,hk⟩:=hh
    exact next s' H' a' w' dH hk
   ·rw[if_neg (by rw[h1];simp)]
    exact next s' H' _ w dH h2
theorem aaI{id:Nat}{perm:List Nat}{s:St}{H:Heap}{a:Act}{w:World}(hf:P.follows .mixedOrders=true)(hc:BW n md l perm=true)
  (hQ:∀s H a w,Rel w0 H0 n s H a w→K s H→Q .normal a w) (hR:Rel w0 H0 n s H a w) (h:aP P n l.toArray md (perm.map (eR l)) s H K):(Code.region id l.toArray true).wp P Q a w:=by
 simp only[BW,Bool.and_eq_true,List.all_eq_true]at hc
 obtain⟨⟨⟨⟨⟨⟨⟨h1,h2⟩,h3⟩,h4⟩,h5⟩,h6⟩,h8⟩,h7⟩:=hc
 have h1:md≠.plain:=fun e=>by rw[e]at h1;cases h1
 have h3:=Nat.eq_of_beq_eq_true h3
 have h4:∀i,i∈perm→i<l.length:=fun i hi=>DU (h4 i hi)
 have h5:=aaF h5
 have ix:∀i,i<l.length→i∈perm:=by
  intro i hi
  simpa using h8 i (List.mem_range.2 hi)
 refine wp_region_any hf ?_
 refine aaG h1 (SN h2) (fun i hi e he hb=> ?_) hQ l.toArray.size perm _ s H a _ (fun i=> ?_) h5 (by simp) (aaE h6) (fun i hi=> ?_) (by simp[h3]) ?_ h
 ·have:=h7 i (List.mem_range.2 hi)
  rw[Array.all_eq_true']at this
  have:=this e he
  simp only[Bool.or_eq_true,Bool.not_eq_true']at this
  rcases this with h' | h'
  ·rw[hb]at h';cases h'
  ·exact DU h'
 ·constructor
  ·intro hi
   refine⟨h4 i hi,?_⟩
   simp[Array.getD_eq_getD_getElem?,h4 i hi]
  ·exact fun hi=>ix i hi.1
 ·exfalso
  simp only[Array.getD_eq_getD_getElem?,Array.getElem?_replicate]at hi
  split at hi <;> simp at hi
 ·obtain⟨G,hl,hb⟩:=hR.fits
  exact⟨hR.defers,⟨G,⟨hl.aH,hl.boxes,hl.inj,hl.refs,hl.den⟩,hb⟩,⟨hR.fx.os,hR.fx.tape,hR.fx.output,hR.fx.size,hR.fx.keep,hR.fx.form⟩⟩
end
end Go.ar
