/- Part 0 of the proof: Eng1, Eng2, Eng3, Eng4, Eng5. -/
import Derived.Orders
import Derived.Tactics
import Derived.Maps.AppendAt
import Derived.Laws.OwnMore
import Derived.Laws.MakeOwn
import Derived.Below
set_option linter.unusedVariables false
namespace Go.au
inductive Slot where
 | val (v:Value)
 | box (cs:List Value)
 | ref (b off:Nat)
abbrev St:=Nat→Option Slot
def emp:St:=fun _=>none
def put(s:St)(d:Nat)(x:Slot):St:=fun t=>cond (Nat.beq t d) (some x) (s t)
def gU(s:St)(d:Nat)(cs:List Value):St:=fun t=>
 cond (Nat.beq t d) (some (.box cs)) (match s t with | some (.ref b o)=>cond (Nat.beq b d) none (some (.ref b o)) | x=>x)
def bn(s:St)(d:Option Nat)(x:Slot):St:=match d with | some d=>put s d x | none=>s
theorem ig(s:St)(d:Nat)(x:Slot):put s d x d=some x:=by simp[put]
theorem fD(s:St){d t:Nat}(x:Slot)(h:t≠d):put s d x t=s t:=by
 have:Nat.beq t d=false:=by
  cases hb:Nat.beq t d with
  | false=>rfl
  | true=>exact absurd (Nat.eq_of_beq_eq_true hb) h
 simp[put,this]
theorem put_comm(s:St){d e:Nat}(x y:Slot)(h:d≠e):put (put s d x) e y=put (put s e y) d x:=by
 funext t
 by_cases h1:t=d
 ·subst h1;rw[fD _ _ h,ig,ig]
 ·by_cases h2:t=e
  ·subst h2;rw[ig,fD _ _ h1,ig]
  ·rw[fD _ _ h2,fD _ _ h1,fD _ _ h1,fD _ _ h2]
structure Ent where
 xs:List Value
 size:Nat
 elem:TypeId
 own:Bool
def Ent.of(e:Ent)(o:Obj):Prop:=
 ∃(c:Array Value)(fz:Nat×Nat),o = .cells c e.elem fz∧c.size=e.size∧(∀(i:Nat)(v:Value),e.xs[i]? = some v→c[i]? = some v)∧(e.own=true→fz=(0,0))
abbrev Heap:=Nat→Option Ent
def Den(H:Heap)(w:World):Prop:=∀g e,H g=some e→∃o,w.heap[g]? = some o∧e.of o
def ins(H:Heap)(g:Nat)(e:Ent):Heap:=fun k=>if k=g then some e else H k
theorem bD(H:Heap)(g:Nat)(e:Ent):ins H g e g=some e:=by simp[ins]
theorem a6(H:Heap){g k:Nat}(e:Ent)(h:k≠g):ins H g e k=H k:=by simp[ins,h]
def Ent.le(e e':Ent):Prop:=e'.size=e.size∧e'.elem=e.elem∧e'.own=e.own∧e.xs <+:e'.xs
def Heap.le(H H':Heap):Prop:=∀g e,H g=some e→∃e',H' g=some e'∧e.le e'
theorem Ent.le.refl(e:Ent):e.le e:=⟨rfl,rfl,rfl,List.prefix_rfl⟩
theorem Ent.le.trans{a b c:Ent}(h:a.le b)(k:b.le c):a.le c:=
 ⟨k.1.trans h.1,k.2.1.trans h.2.1,k.2.2.1.trans h.2.2.1,h.2.2.2.trans k.2.2.2⟩
theorem Heap.le.refl(H:Heap):Heap.le H H:=fun _ e h=>⟨e,h,.refl e⟩
theorem Heap.le.trans{A B C:Heap}(h:Heap.le A B)(k:Heap.le B C):Heap.le A C:=fun g e he=>by
 obtain⟨e',h1,h2⟩:=h g e he
 obtain⟨Ol,h3,h4⟩:=k g e' h1
 exact⟨Ol,h3,h2.trans h4⟩
theorem Heap.bB{H:Heap}{g:Nat}(e:Ent)(h:H g=none):Heap.le H (ins H g e):=fun k x hk=>
 ⟨x,by rw[a6 _ _ (fun e=>by subst e;rw[h]at hk;cases hk)];exact hk,.refl x⟩
theorem Om{l l':List Value}(h:l <+:l'){i:Nat}{v:Value}(hi:l[i]? = some v):l'[i]? = some v:=by
 obtain⟨t,rfl⟩:=h
 rw[List.getElem?_append_left (List.getElem?_eq_some_iff.1 hi).1];exact hi
theorem Ent.le.of{e e':Ent}(h:e.le e'){o:Obj}(ho:e'.of o):e.of o:=by
 obtain⟨c,fz,h1,h2,h3,h4⟩:=ho
 exact⟨c,fz,by rw[h1,h.2.1],by rw[h2,h.1],fun i v hv=>h3 i v (Om h.2.2.2 hv),fun ho=>h4 (h.2.2.1.trans ho)⟩
theorem Den.le{H H':Heap}(h:Heap.le H H'){w:World}(hd:Den H' w):Den H w:=fun g e he=>by
 obtain⟨e',h1,h2⟩:=h g e he
 obtain⟨o,h3,h4⟩:=hd g e' h1
 exact⟨o,h3,h2.of h4⟩
theorem Den.lt{H:Heap}{w:World}(h:Den H w){g:Nat}{e:Ent}(hg:H g=some e):g<w.heap.size:=by
 obtain⟨o,h1,_⟩:=h g e hg
 exact(Array.getElem?_eq_some_iff.1 h1).1
theorem Den.fresh{H:Heap}{w:World}(h:Den H w):H w.heap.size=none:=by
 cases hg:H w.heap.size with
 | none=>rfl
 | some e=>have:=h.lt hg;omega
def cell(H:Heap)(a:Addr):Option Value:=
 match H a.block with
 | some e=>if a.spot.isSome then none else e.xs[a.off]?
 | none=>none
theorem Den.cell{H:Heap}{w:World}(h:Den H w){a:Addr}{v:Value}(hc:cell H a=some v):w.cell? a=some v:=by
 unfold au.cell at hc
 cases hg:H a.block with
 | none=>rw[hg]at hc;cases hc
 | some e=>
  rw[hg]at hc
  obtain⟨o,h1,c,fz,rfl,h3,h4,_⟩:=h _ _ hg
  simp only at hc
  split at hc
  ·cases hc
  ·rename_i hs
   simp[World.cell?,h1,hs,h4 _ _ hc]
theorem cN{H H':Heap}(h:Heap.le H H'){a:Addr}{v:Value}(hc:cell H a=some v):cell H' a=some v:=by
 unfold cell at hc⊢
 cases hg:H a.block with
 | none=>rw[hg]at hc;cases hc
 | some e=>
  rw[hg]at hc
  obtain⟨e',h1,h2⟩:=h _ _ hg
  rw[h1]
  simp only at hc⊢
  split at hc
  ·cases hc
  ·rename_i hs
   rw[if_neg hs];exact Om h2.2.2.2 hc
structure Fx(H:Heap)(w:World)(H':Heap)(w':World):Prop where
 os:w'.os=w.os
 tape:w'.tape=w.tape
 output:w'.output=w.output
 size:w.heap.size≤w'.heap.size
 keep:∀g,g<w.heap.size→H g=none→w'.heap[g]? = w.heap[g]?∧H' g=none
 form:∀(g:Nat)(c:Array Value)(t:TypeId)(fz:Nat×Nat),w.heap[g]? = some (.cells c t fz)→∃c',w'.heap[g]? = some (.cells c' t fz)∧c'.size=c.size
theorem Fx.refl(H:Heap)(w:World):Fx H w H w:=⟨rfl,rfl,rfl,Nat.le_refl _,fun _ _ h=>⟨rfl,h⟩,fun _ c _ _ h=>⟨c,h,rfl⟩⟩
theorem Fx.trans{H H' sX:Heap}{w w' Fk:World}(h:Fx H w H' w')(k:Fx H' w' sX Fk):Fx H w sX Fk:=
 ⟨k.os.trans h.os,k.tape.trans h.tape,k.output.trans h.output,Nat.le_trans h.size k.size,fun g hg h0=>by
  have h1:=h.keep g hg h0
  have h2:=k.keep g (Nat.lt_of_lt_of_le hg h.size) h1.2
  exact⟨h2.1.trans h1.1,h2.2⟩,fun g c t fz hc=>by
  obtain⟨c1,h1,h2⟩:=h.form g c t fz hc
  obtain⟨c2,h3,h4⟩:=k.form g c1 t fz h1
  exact⟨c2,h3,h4.trans h2⟩⟩
theorem Fx.On{w w':World}(h:∀g,g<w.heap.size→w'.heap[g]? = w.heap[g]?):∀(g:Nat)(c:Array Value)(t:TypeId)(fz:Nat×Nat),w.heap[g]? = some (.cells c t fz)→∃c',w'.heap[g]? = some (.cells c' t fz)∧c'.size=c.size:=
 fun g c t fz hc=>⟨c,by rw[h g (Array.getElem?_eq_some_iff.1 hc).1];exact hc,rfl⟩
structure gC(n:Nat)(s:St)(a:Act):Prop where
 size:a.tmps.size=n
 at_:∀t v,s t=some (.val v)→a.tmps[t]? = some v
structure Rl(n:Nat)(s:St)(H:Heap)(G:Nat→Nat)(a:Act)(w:World):Prop where
 aK:gC n s a
 boxes:∀t cs,s t=some (.box cs)→a.tmps[t]? = some (.pointer (some ⟨G t,0,none⟩))∧H (G t)=none∧∃e,w.heap[G t]? = some (.cells cs.toArray e (0,0))
 inj:∀t t' cs cE,s t=some (.box cs)→s t'=some (.box cE)→G t=G t'→t=t'
 refs:∀t b off cs,s t=some (.ref b off)→s b=some (.box cs)→a.tmps[t]? = some (.pointer (some ⟨G b,off,none⟩))
 den:Den H w
structure Rel(w0:World)(H0:Heap)(n:Nat)(s:St)(H:Heap)(a:Act)(w:World):Prop where
 defers:a.defers = []
 fits:∃G,Rl n s H G a w∧∀t cs,s t=some (.box cs)→w0.heap.size≤G t
 fx:Fx H0 w0 H w
def ev(s:St):Operand→Option Value
 | .tmp t=>match s t with | some (.val v)=>some v | _=>none
 | .const v=>some v
 | .func f=>some (.func (.func f) #[] #[])
 | .global g=>some (.pointer (some ⟨g,0,none⟩))
theorem bS{n:Nat}{s:St}{a:Act}(h:gC n s a){x:Operand}{v:Value}(hx:ev s x=some v):a.eval x=v:=by
 cases x with
 | tmp t=>
  simp only[ev]at hx
  cases hs:s t with
  | none=>rw[hs]at hx;cases hx
  | some y=>
   rw[hs]at hx
   cases y with
   | val u=>
    simp only[Option.some.injEq]at hx
    subst hx
    have:=h.at_ t u hs
    simp[Act.eval,this]
   | box=>cases hx
   | ref=>cases hx
 | const u=>simp only[ev,Option.some.injEq]at hx;exact hx
 | func f=>simp only[ev,Option.some.injEq]at hx;exact hx
 | global g=>simp only[ev,Option.some.injEq]at hx;exact hx
theorem Act.yn(a:Act)(d:Nat)(v:Value)(h:d<a.tmps.size):(a.put (some d) v).tmps[d]? = some v:=by
 simp[Act.put,h]
theorem Act.rp(a:Act){d t:Nat}(v:Value)(h:t≠d):(a.put (some d) v).tmps[t]? = a.tmps[t]? :=by
 simp[Act.put,Array.getElem?_setIfInBounds_ne (Ne.symm h)]
theorem Act.CV(a:Act)(d:Option Tmp)(v:Value):(a.put d v).tmps.size=a.tmps.size:=by
 cases d <;> simp[Act.put]
theorem Act.UY(a:Act)(d:Option Tmp)(v:Value):(a.put d v).defers=a.defers:=by
 cases d <;> rfl
def Oo(G:Nat→Nat):Slot→Value→Prop
 | .val v,u=>u=v
 | .ref b off,u=>u = .pointer (some ⟨G b,off,none⟩)
 | .box _,_=>False
theorem Rl.put{n:Nat}{s:St}{H:Heap}{G:Nat→Nat}{a:Act}{w:World}(h:Rl n s H G a w){d:Nat}{x:Slot}{v:Value}(hn:d<n)(hx:Oo G x v):
  Rl n (put s d x) H G (a.put (some d) v) w:=by
 have hd:d<a.tmps.size:=by rw[h.aK.size];exact hn
 have nb:∀t cs,au.put s d x t=some (.box cs)→t≠d∧s t=some (.box cs):=by
  intro t cs ht
  by_cases e:t=d
  ·subst e
   rw[ig]at ht
   simp only[Option.some.injEq]at ht
   subst ht
   exact hx.elim
  ·rw[fD _ _ e]at ht;exact⟨e,ht⟩
 refine⟨⟨by rw[Act.CV];exact h.aK.size,fun t u ht=> ?_⟩,fun t cs ht=> ?_,fun t t' cs cE ht pD e=> ?_,fun t b off cs ht hb=> ?_,h.den⟩
 ·by_cases e:t=d
  ·subst e
   rw[ig]at ht
   simp only[Option.some.injEq]at ht
   subst ht
   rw[Act.yn _ _ _ hd,hx]
  ·rw[fD _ _ e]at ht
   rw[Act.rp _ _ e];exact h.aK.at_ t u ht
 ·obtain⟨e,ht⟩:=nb t cs ht
  rw[Act.rp _ _ e];exact h.boxes t cs ht
 ·exact h.inj t t' cs cE (nb t cs ht).2 (nb t' cE pD).2 e
 ·obtain⟨_,hb⟩:=nb b cs hb
  by_cases e:t=d
  ·subst e
   rw[ig]at ht
   simp only[Option.some.injEq]at ht
   subst ht
   rw[Act.yn _ _ _ hd,hx]
  ·rw[fD _ _ e]at ht
   rw[Act.rp _ _ e];exact h.refs t b off cs ht hb
theorem Rl.uz{n:Nat}{s:St}{H H':Heap}{G:Nat→Nat}{a:Act}{w w':World}(h:Rl n s H G a w)(hd:Den H' w')(hf:Fx H w H' w'):Rl n s H' G a w':=
 ⟨h.aK,fun t cs ht=>by
  obtain⟨h1,h2,e,h3⟩:=h.boxes t cs ht
  obtain⟨h4,h5⟩:=hf.keep (G t) (Array.getElem?_eq_some_iff.1 h3).1 h2
  exact⟨h1,h5,e,h4.trans h3⟩,h.inj,h.refs,hd⟩
theorem Rl.le{n:Nat}{s:St}{H H':Heap}{G:Nat→Nat}{a:Act}{w:World}(h:Rl n s H' G a w)(hl:Heap.le H H'):Rl n s H G a w:=
 ⟨h.aK,fun t cs ht=>by
  obtain⟨h1,h2,h3⟩:=h.boxes t cs ht
  refine⟨h1,?_,h3⟩
  cases hg:H (G t)with
  | none=>rfl
  | some e=>(obtain⟨e',h4,_⟩:=hl _ _ hg;rw[h2]at h4;exact nomatch h4),h.inj,h.refs,h.den.le hl⟩
theorem gC.back{n:Nat}{s s':St}{a:Act}{d:Nat}(h:gC n s' a)(hs:∀t v,t≠d→s t=some (.val v)→s' t=some (.val v))(hd:d<n):∃v,gC n s (a.put (some d) v):=by
 have mX:d<a.tmps.size:=by rw[h.size];exact hd
 have key:∀v,(∀u,s d=some (.val u)→v=u)→gC n s (a.put (some d) v):=fun v h1=>
  ⟨by rw[Act.CV];exact h.size,fun t u ht=>by
   by_cases e:t=d
   ·subst e;rw[Act.yn _ _ _ mX,h1 u ht]
   ·rw[Act.rp _ _ e];exact h.at_ t u (hs t u e ht)⟩
 cases hx:s d with
 | none=>exact⟨undef,key _ (fun u hu=>by rw[hx]at hu;cases hu)⟩
 | some y=>
  cases y with
  | val u=>exact⟨u,key _ (fun u' hu=>by rw[hx]at hu;cases hu;rfl)⟩
  | box cs=>exact⟨undef,key _ (fun u hu=>by rw[hx]at hu;cases hu)⟩
  | ref b o=>exact⟨undef,key _ (fun u hu=>by rw[hx]at hu;cases hu)⟩
theorem Rl.back{n:Nat}{s s':St}{H:Heap}{G:Nat→Nat}{a:Act}{w:World}{d:Nat}(h:Rl n s' H G a w)(hn:∀cs,s d≠some (.box cs))
  (hs:∀t x,t≠d→s t=some x→(∀b o,x = .ref b o→b≠d)→s' t=some x) (hd:d<n):∃v,Rl n s H G (a.put (some d) v) w:=by
 have mX:d<a.tmps.size:=by rw[h.aK.size];exact hd
 have oo:∀t cs,s t=some (.box cs)→s' t=some (.box cs)∧t≠d:=fun t cs ht=>by
  have e:t≠d:=fun e=>by subst e;exact hn cs ht
  exact⟨hs t _ e ht (fun b o h=>by cases h),e⟩
 have key:∀v,(∀u,s d=some (.val u)→v=u)→(∀b o,s d=some (.ref b o)→v = .pointer (some ⟨G b,o,none⟩))→Rl n s H G (a.put (some d) v) w:=by
  intro v h1 h2
  refine⟨⟨by rw[Act.CV];exact h.aK.size,fun t u ht=> ?_⟩,fun t cs ht=> ?_,fun t t' cs cE ht pD e=> ?_,fun t b off cs ht hb=> ?_,h.den⟩
  ·by_cases e:t=d
   ·subst e;rw[Act.yn _ _ _ mX,h1 u ht]
   ·rw[Act.rp _ _ e];exact h.aK.at_ t u (hs t _ e ht (fun b o h=>by cases h))
  ·obtain⟨h3,e⟩:=oo t cs ht
   rw[Act.rp _ _ e];exact h.boxes t cs h3
  ·exact h.inj t t' cs cE (oo t cs ht).1 (oo t' cE pD).1 e
  ·obtain⟨sY,eb⟩:=oo b cs hb
   by_cases e:t=d
   ·subst e;rw[Act.yn _ _ _ mX,h2 b off ht]
   ·rw[Act.rp _ _ e]
    exact h.refs t b off cs (hs t _ e ht (fun b' o' h=>by cases h;exact eb)) sY
 cases hx:s d with
 | none=>exact⟨undef,key _ (fun u hu=>by rw[hx]at hu;cases hu) (fun b o hu=>by rw[hx]at hu;cases hu)⟩
 | some y=>
  cases y with
  | val u=>exact⟨u,key _ (fun u' hu=>by rw[hx]at hu;cases hu;rfl) (fun b o hu=>by rw[hx]at hu;cases hu)⟩
  | box cs=>exact absurd hx (hn cs)
  | ref b o=>exact⟨_,key (.pointer (some ⟨G b,o,none⟩)) (fun u hu=>by rw[hx]at hu;cases hu) (fun b' o' hu=>by rw[hx]at hu;cases hu;rfl)⟩
end Go.au
namespace Go.au
section
variable (P:Program) (n:Nat)
def Fl(all:Array Oper)(s:St)(o:Oper):Prop:=
 o.guard=none∨∃j want d,o.guard=some (j,want)∧(all[j]?).bind (·.dst)=some d∧s d=some (.val (.bool want))
def UZ(all:Array Oper)(s:St)(o:Oper):Prop:=
 ∃j want d v,o.guard=some (j,want)∧(all[j]?).bind (·.dst)=some d∧s d=some (.val v)∧((∃b,v = .bool b∧b≠want)∨∃ts,v = .tuple ts)
def JV(all:Array Oper)(o:Oper)(s:St)(H:Heap)(v:Value):Prop:=∀a w,gC n s a→Den H w→
 (Region.wanted o (yielded all a.tmps)=true∧(execOp a.eval o).run P w = .ok (.value v) w)∨(Region.wanted o (yielded all a.tmps)=false∧v=undef)
def CW(all:Array Oper)(o:Oper)(s:St)(H:Heap)(x:Slot):Prop:=∀G a w,Rl n s H G a w→
 ∃v,Oo G x v∧Region.wanted o (yielded all a.tmps)=true∧(execOp a.eval o).run P w = .ok (.value v) w
def vZ(all:Array Oper)(o:Oper)(s:St)(cs:List Value):Prop:=∀a w,gC n s a→
 Region.wanted o (yielded all a.tmps)=true∧∃e,(execOp a.eval o).run P w = .ok (.value (.pointer (some ⟨w.heap.size,0,none⟩))) (w.alloc (.cells cs.toArray e (0,0)))
structure U0(w w':World)(g:Nat)(cs:List Value):Prop where
 os:w'.os=w.os
 tape:w'.tape=w.tape
 output:w'.output=w.output
 size:w'.heap.size=w.heap.size
 other:∀k,k≠g→w'.heap[k]? = w.heap[k]?
 new:∃e,w'.heap[g]? = some (.cells cs.toArray e (0,0))
def JW(all:Array Oper)(o:Oper)(s:St)(b:Nat)(cE:List Value):Prop:=∀H G a w,Rl n s H G a w→
 Region.wanted o (yielded all a.tmps)=true∧∃w',(execOp a.eval o).run P w = .ok .skip w'∧U0 w w' (G b) cE
def uA(all:Array Oper)(o:Oper)(s:St)(mk:Nat→Value)(xs:List Value)(e:TypeId):Prop:=∀a w,gC n s a→
 Region.wanted o (yielded all a.tmps)=true∧(execOp a.eval o).run P w = .ok (.value (mk w.heap.size)) (w.alloc (.cells xs.toArray e (0,0)))
def whole(xs:List Value)(e:TypeId):Ent:=⟨xs,xs.length,e,true⟩
def lM(o:Oper)(ρ:Operand→Value)(w:World)(R:Value→World→Prop):Prop:=
 match (execOp ρ o).run P w with
 | .ok (.value v) w'=>R v w'
 | .ok .skip w'=>R undef w'
 | .ok (.enter f args) w'=>Calls P f args w' fun e Fk=>∃v,e = .returned v∧R v Fk
 | _=>False
def EV(all:Array Oper)(o:Oper)(s:St)(H:Heap)(bF:Value→Heap→Prop):Prop:=∀a w,gC n s a→Den H w→
 Region.wanted o (yielded all a.tmps)=true∧lM P o a.eval w (fun v w'=>∃H',bF v H'∧Den H' w'∧Fx H w H' w')
inductive Mode where
 | plain | bL | gD | uB
 | cO (kc:Addr→Option Value)
 | pE (st:List Nat)
def Mode.U3:Mode→Bool
 | .plain=>true
 | _=>false
def Mode.Oq:Mode→Bool
 | .bL=>true
 | .pE _=>true
 | _=>false
def Mode.Ot:Mode→Bool
 | .pE _=>true
 | _=>false
def Mode.wr:Mode→Nat→Bool
 | .pE st,b=>st.contains b
 | _,_=>false
def Mode.U4:Mode→Nat→Bool
 | .pE st,b=>st.contains b
 | _,_=>true
def jF(md:Mode)(s s':St):Prop:=∀t,s' t=s t∨(md.wr t=true∧∃c c',s t=some (.box c)∧s' t=some (.box c'))
theorem jF.refl(md:Mode)(s:St):jF md s s:=fun _=> .inl rfl
theorem jF.val{md:Mode}{s s':St}(h:jF md s s'){t:Nat}{x:Slot}(hx:∀c,x≠.box c)(e:s t=some x):s' t=some x:=by
 rcases h t with h1 | ⟨_,c,c',h1,_⟩
 ·rw[h1,e]
 ·rw[e]at h1;exact absurd (Option.some.inj h1) (hx c)
theorem jF.box{md:Mode}{s s':St}(h:jF md s s'){t:Nat}{c:List Value}(e:s t=some (.box c)):∃c',s' t=some (.box c'):=by
 rcases h t with h1 | ⟨_,_,c',_,h1⟩
 ·exact⟨c,by rw[h1,e]⟩
 ·exact⟨c',h1⟩
theorem jF.keep{md:Mode}{s s':St}(h:jF md s s'){t:Nat}(e:md.wr t=false):s' t=s t:=by
 rcases h t with h1 | ⟨h1,_⟩
 ·exact h1
 ·rw[e]at h1;cases h1
def Mode.U5:Mode→Bool
 | .uB=>true
 | _=>false
def Mode.ot:Mode→Bool
 | .cO _=>true
 | _=>false
def Mode.kc:Mode→Addr→Option Value
 | .cO k=>k
 | _=>fun _=>none
def Mode.fM(md:Mode)(H:Heap):Prop:=∀ad v,md.kc ad=some v→cell H ad=some v
def js(s:St)(d:Option Nat):Bool:=
 match d with
 | some d=>(match s d with | some (.box _)=>false | _=>true)
 | none=>true
def Ae:Op→Bool
 | .store .. =>true
 | _=>false
def Fm:Op→Bool
 | .load .. | .fieldAddr .. =>true
 | _=>false
def Ag:Op→Bool
 | .alloc _ | .box .. =>true
 | _=>false
def Ah:Op→Bool
 | .buildSlice .. =>true
 | _=>false
def ru(o:Op):Bool:=Ag o||Ah o
def Real(H:Heap):Prop:=∃w,Den H w
def sZ:Op→Bool
 | .select .. =>false
 | _=>true
def JX(c:Call):Bool:=
 match c.callee with
 | .builtin .len | .builtin .cap | .builtin .min | .builtin .max=>true
 | _=>false
def kd:Op→Nat
 | .store .. =>2
 | .alloc _ | .box .. | .buildSlice .. =>3
 | .call c=>if JX c then 0 else 1
 | .makeSlice .. | .go _ | .defer _ | .panic _ | .send .. | .recv .. | .select .. | .mapUpdate .. | .mapEntry .. | .entryStore .. | .insert .. | .makeMap .. | .makeChan .. | .ready _ | .next .. | .range .. =>1
 | _=>0
def Mode.ok(md:Mode)(o:Oper)(H:Heap)(bF:Value→Heap→Prop):Prop:=
 match md with
 | .plain=>True
 | .bL=>Ae o.op=false∧∀v H',bF v H'→Heap.le H H'
 | .gD=>Ae o.op=true∨∀v H',bF v H'→Heap.le H H'
 | .uB=>True
 | .cO _=>True
 | .pE _=>Ae o.op=false∧∀v H',bF v H'→Heap.le H H'
def Mode.nb(md:Mode)(s:St)(d:Option Nat):Bool:=
 match md with
 | .plain=>true
 | .cO _=>false
 | _=>match d with
  | some d=>(match s d with | some (.box _)=>false | _=>true)
  | none=>true
def Slot.s0(s:St):Slot→Bool
 | .val _=>true
 | .box _=>false
 | .ref b _=>match s b with | some (.box _)=>true | _=>false
def JY(md:Mode)(all:Array Oper)(o:Oper)(s:St)(v:Value):Prop:=∀a w,gC n s a→(∀ad u,md.kc ad=some u→w.cell? ad=some u)→
 (Region.wanted o (yielded all a.tmps)=true∧(execOp a.eval o).run P w = .ok (.value v) w)∨(Region.wanted o (yielded all a.tmps)=false∧v=undef)
inductive gV(all:Array Oper)(md:Mode)(o:Oper)(s:St)(H:Heap)(K:St→Heap→Prop):Prop
 | jR (v:Value) (hm:ru o.op=false∨o.guard≠none) (nb:md.nb s o.dst=true) (h:JV P n all o s H v) (k:K (bn s o.dst (.val v)) H)
 | jG (x:Slot) (hm:Fm o.op=true) (nb:md.nb s o.dst=true) (hx:x.s0 s=true) (h:∀s',jF md s s'→CW P n all o s' H x) (k:K (bn s o.dst x) H)
 | jS (d:Nat) (hd:o.dst=some d) (hm:Ag o.op=true) (nb:md.nb s o.dst=true) (cs:List Value) (h:vZ P n all o s cs) (k:K (gU s d cs) H)
 | mo (b:Nat) (cs cE:List Value) (hd:o.dst=none) (hm:Ae o.op=true) (hb:s b=some (.box cs)) (hw:md.U4 b=true) (h:JW P n all o s b cE) (k:K (put s b (.box cE)) H)
 | fresh (mk:Nat→Value) (xs:List Value) (e:TypeId) (hm:Ah o.op=true∨(md = .plain∧Ag o.op=true)) (nb:md.nb s o.dst=true) (h:uA P n all o s mk xs e) (k:∀g,H g=none→Real (ins H g (whole xs e))→K (bn s o.dst (.val (mk g))) (ins H g (whole xs e)))
 | iW (bF:Value→Heap→Prop) (ha:kd o.op=1∨kd o.op=2∨md = .plain) (nb:md.nb s o.dst=true) (h:EV P n all o s H bF) (hm:md.ok o H bF) (k:∀v H',bF v H'→Real H'→K (bn s o.dst (.val v)) H')
 | mq (v:Value) (hk:md.ot=true) (hm:ru o.op=false) (nb:js s o.dst=true) (hc:md.fM H) (h:JY P n md all o s v) (k:K (bn s o.dst (.val v)) H)
 | ou (mk:Nat→Value) (xs:List Value) (e:TypeId) (hk:md.ot=true) (hm:Ah o.op=true) (nb:js s o.dst=true) (h:uA P n all o s mk xs e) (k:∀g,H g=none→Real (ins H g (whole xs e))→K (bn s o.dst (.val (mk g))) (ins H g (whole xs e)))
 | mY (bF:Value→Heap→Prop) (hk:md.ot=true) (ha:kd o.op=1∨kd o.op=2) (nb:js s o.dst=true) (h:EV P n all o s H bF) (hm:Ae o.op=true∨∀v H',bF v H'→md.fM H') (k:∀v H',bF v H'→Real H'→K (bn s o.dst (.val v)) H')
end
theorem lM.mono{P:Program}{o:Oper}{ρ:Operand→Value}{w:World}{R R':Value→World→Prop}(h:lM P o ρ w R)(hr:∀v w',R v w'→R' v w'):lM P o ρ w R':=by
 unfold lM at h⊢
 split at h
 ·exact hr _ _ h
 ·exact hr _ _ h
 ·exact h.mono fun e w' ⟨v,he,h⟩=>⟨v,he,hr _ _ h⟩
 ·exact h
theorem lM.wp{P:Program}{o:Oper}{a:Act}{w:World}{R:Value→World→Prop}{K:Act→World→Prop}{Q:Exit→Act→World→Prop}(h:lM P o a.eval w R)(hk:∀v w',R v w'→K (a.put o.dst v) w'):o.wp P a w K Q:=by
 unfold lM at h
 unfold Oper.wp
 split at h
 ·rename_i v w' e;rw[e];exact hk _ _ h
 ·rename_i w' e;rw[e];exact hk _ _ h
 ·rename_i f args w' e;rw[e]
  exact h.mono fun e w' ⟨v,he,h⟩=>by subst he;exact hk _ _ h
 ·exact h.elim
section sound
variable {P:Program} {all:Array Oper} {md:Mode} {o:Oper} {s:St} {H:Heap} {K:St→Heap→Prop} {w0:World} {H0:Heap} {n:Nat} {a:Act} {w:World}
theorem jT(h:gC n s a)(hr:Fl all s o):Region.wanted o (yielded all a.tmps)=true:=by
 rcases hr with hg | ⟨j,want,d,hg,hd,hs⟩
 ·simp[Region.wanted,hg]
 ·have:=h.at_ d _ hs
  simp[Region.wanted,hg,yielded,hd,this]
theorem ab3(h:gC n s a)(hr:UZ all s o):Region.wanted o (yielded all a.tmps)=false:=by
 obtain⟨j,want,d,v,hg,hd,hs,aZ⟩:=hr
 have:=h.at_ d _ hs
 rcases aZ with ⟨b,rfl,aZ⟩ | ⟨ts,rfl⟩
 ·simp[Region.wanted,hg,yielded,hd,this,aZ]
 ·simp[Region.wanted,hg,yielded,hd,this]
theorem Rel.put(h:Rel w0 H0 n s H a w){d:Option Nat}(hd:∀k,d=some k→k<n){x:Slot}{v:Value}{G:Nat→Nat}(hl:Rl n s H G a w)(hb:∀t cs,s t=some (.box cs)→w0.heap.size≤G t)(hx:Oo G x v):
  Rel w0 H0 n (bn s d x) H (a.put d v) w:=by
 cases d with
 | none=>exact⟨h.defers,⟨G,hl,hb⟩,h.fx⟩
 | some d=>
  refine⟨by rw[Act.UY];exact h.defers,⟨G,hl.put (hd d rfl) hx,fun t cs ht=> ?_⟩,h.fx⟩
  by_cases e:t=d
  ·subst e
   rw[show bn s (some t) x=au.put s t x from rfl,ig]at ht
   simp only[Option.some.injEq]at ht
   subst ht
   exact hx.elim
  ·rw[show bn s (some d) x=au.put s d x from rfl,fD _ _ e]at ht
   exact hb t cs ht
theorem s3(s:St)(d:Nat)(cs:List Value):gU s d cs d=some (.box cs):=by simp[gU]
def uC(d:Nat):Option Slot→Option Slot
 | some (.ref b o)=>cond (Nat.beq b d) none (some (.ref b o))
 | x=>x
theorem pG(s:St){d t:Nat}(cs:List Value)(h:t≠d):gU s d cs t=uC d (s t):=by
 have:Nat.beq t d=false:=by
  cases hb:Nat.beq t d with
  | false=>rfl
  | true=>exact absurd (Nat.eq_of_beq_eq_true hb) h
 unfold gU
 rw[this]
 cases hs:s t with
 | none=>rfl
 | some x=>cases x <;> rfl
theorem Ou{s:St}{d t:Nat}{cs:List Value}{v:Value}(h:gU s d cs t=some (.val v)):t≠d∧s t=some (.val v):=by
 have e:t≠d:=fun e=>by subst e;rw[s3]at h;cases h
 refine⟨e,?_⟩
 rw[pG _ _ e]at h
 unfold uC at h
 split at h
 ·rename_i b o' _
  cases hb:Nat.beq b d <;> rw[hb]at h <;> cases h
 ·exact h
theorem ab4{s:St}{d t b off:Nat}{cs:List Value}(h:gU s d cs t=some (.ref b off)):t≠d∧b≠d∧s t=some (.ref b off):=by
 have e:t≠d:=fun e=>by subst e;rw[s3]at h;cases h
 rw[pG _ _ e]at h
 unfold uC at h
 split at h
 ·rename_i b' o' hs
  cases hb:Nat.beq b' d with
  | true=>rw[hb]at h;cases h
  | false=>
   rw[hb]at h
   simp only[cond_false,Option.some.injEq,Slot.ref.injEq]at h
   obtain⟨rfl,rfl⟩:=h
   exact⟨e,(fun e=>by subst e;rw[Nat.beq_refl]at hb;cases hb),hs⟩
 ·rename_i hn
  exact absurd h (hn b off)
theorem rz{s:St}{d t:Nat}{cs cE:List Value}(h:gU s d cs t=some (.box cE)):(t=d∧cE=cs)∨(t≠d∧s t=some (.box cE)):=by
 by_cases e:t=d
 ·subst e
  rw[s3]at h
  simp only[Option.some.injEq,Slot.box.injEq]at h
  exact .inl ⟨rfl,h.symm⟩
 ·refine .inr ⟨e,?_⟩
  rw[pG _ _ e]at h
  unfold uC at h
  split at h
  ·rename_i b o' _
   cases hb:Nat.beq b d <;> rw[hb]at h <;> cases h
  ·exact h
theorem Den.alloc{H:Heap}{w:World}(h:Den H w)(o:Obj):Den H (w.alloc o):=fun g e hg=>by
 obtain⟨o',h1,h2⟩:=h g e hg
 exact⟨o',by rw[RowKit.Below.heap_alloc _ _ _ (h.lt hg)];exact h1,h2⟩
theorem Rl.jS{G:Nat→Nat}(h:Rl n s H G a w){d:Nat}(hn:d<n)(cs:List Value)(e:TypeId):
  Rl n (gU s d cs) H (fun t=>if t=d then w.heap.size else G t) (a.put (some d) (.pointer (some ⟨w.heap.size,0,none⟩))) (w.alloc (.cells cs.toArray e (0,0))):=by
 have hd:d<a.tmps.size:=by rw[h.aK.size];exact hn
 have bI:∀t cs,s t=some (.box cs)→G t<w.heap.size:=fun t cs ht=>by
  obtain⟨_,_,e,h3⟩:=h.boxes t cs ht
  exact(Array.getElem?_eq_some_iff.1 h3).1
 refine⟨⟨by rw[Act.CV];exact h.aK.size,fun t v ht=> ?_⟩,fun t cE ht=> ?_,fun t t' U6 U7 ht pD hG=> ?_,fun t b off cE ht hb=> ?_,h.den.alloc _⟩
 ·obtain⟨e1,ht⟩:=Ou ht
  rw[Act.rp _ _ e1];exact h.aK.at_ t v ht
 ·rcases rz ht with ⟨rfl,rfl⟩ | ⟨e1,ht⟩
  ·simp only[if_true]
   exact⟨Act.yn _ _ _ hd,h.den.fresh,e,heap_alloc_new w _⟩
  ·rw[if_neg e1,Act.rp _ _ e1]
   obtain⟨h1,h2,e2,h3⟩:=h.boxes t cE ht
   exact⟨h1,h2,e2,by rw[RowKit.Below.heap_alloc _ _ _ (bI t cE ht)];exact h3⟩
 ·rcases rz ht with ⟨h1,_⟩ | ⟨e1,h1⟩
  ·rcases rz pD with ⟨h2,_⟩ | ⟨e2,h2⟩
   ·rw[h1,h2]
   ·rw[if_pos h1,if_neg e2]at hG
    have:=bI t' U7 h2;omega
  ·rcases rz pD with ⟨h2,_⟩ | ⟨e2,h2⟩
   ·rw[if_pos h2,if_neg e1]at hG
    have:=bI t U6 h1;omega
   ·rw[if_neg e1,if_neg e2]at hG
    exact h.inj t t' U6 U7 h1 h2 hG
 ·obtain⟨e1,e2,ht⟩:=ab4 ht
  rcases rz hb with ⟨rfl,rfl⟩ | ⟨_,hb⟩
  ·exact absurd rfl e2
  ·rw[if_neg e2,Act.rp _ _ e1]
   exact h.refs t b off cE ht hb
theorem Rl.mo{G:Nat→Nat}(h:Rl n s H G a w){b:Nat}{cs cE:List Value}(hb:s b=some (.box cs)){w':World}(hw:U0 w w' (G b) cE):
  Rl n (au.put s b (.box cE)) H G a w':=by
 have oo:∀t c,au.put s b (.box cE) t=some (.box c)→∃c',s t=some (.box c')∧((t=b∧c=cE)∨(t≠b∧c=c')):=by
  intro t c ht
  by_cases e:t=b
  ·subst e
   rw[ig]at ht
   simp only[Option.some.injEq,Slot.box.injEq]at ht
   exact⟨cs,hb,.inl ⟨rfl,ht.symm⟩⟩
  ·rw[fD _ _ e]at ht
   exact⟨c,ht,.inr ⟨e,rfl⟩⟩
 refine⟨⟨h.aK.size,fun t v ht=> ?_⟩,fun t c ht=> ?_,fun t t' c1 c2 ht pD hG=> ?_,fun t b' off c ht sY=> ?_,fun g e hg=> ?_⟩
 ·by_cases e:t=b
  ·subst e;rw[ig]at ht;cases ht
  ·rw[fD _ _ e]at ht;exact h.aK.at_ t v ht
 ·obtain⟨c',hs,hc⟩:=oo t c ht
  obtain⟨h1,h2,e,h3⟩:=h.boxes t c' hs
  rcases hc with ⟨rfl,rfl⟩ | ⟨aZ,rfl⟩
  ·exact⟨h1,h2,hw.new⟩
  ·exact⟨h1,h2,e,by rw[hw.other _ (fun hG=>aZ (h.inj t b _ _ hs hb hG))];exact h3⟩
 ·obtain⟨c1',hs,_⟩:=oo t c1 ht
  obtain⟨c2',m0,_⟩:=oo t' c2 pD
  exact h.inj t t' c1' c2' hs m0 hG
 ·obtain⟨c',hs,_⟩:=oo b' c sY
  by_cases e:t=b
  ·subst e;rw[ig]at ht;cases ht
  ·rw[fD _ _ e]at ht;exact h.refs t b' off c' ht hs
 ·obtain⟨o',h1,h2⟩:=h.den g e hg
  refine⟨o',?_,h2⟩
  rw[hw.other _ (fun hG=> ?_)]
  ·exact h1
  ·obtain⟨_,h3,_⟩:=h.boxes b cs hb
   rw[←hG,hg]at h3;cases h3
theorem gV.sound(hR:Rel w0 H0 n s H a w)(rA:∀d,o.dst=some d→d<n)(h:gV P n all md o s H K):
  (Region.wanted o (yielded all a.tmps)=true∧o.wp P a w (fun a' w'=>∃s' H',Rel w0 H0 n s' H' a' w'∧K s' H') (fun _ _ _=>False))∨
  (Region.wanted o (yielded all a.tmps)=false∧∃s' H',Rel w0 H0 n s' H' (a.put o.dst undef) w∧K s' H'):=by
 obtain⟨G,hl,hb⟩:=hR.fits
 cases h with
 | jR v hm nb h k=>
  rcases h a w hl.aK hl.den with ⟨h1,h2⟩ | ⟨h1,h2⟩
  ·refine .inl ⟨h1,?_⟩
   unfold Oper.wp
   rw[h2]
   exact⟨_,_,hR.put (x:= .val v) rA hl hb rfl,k⟩
  ·subst h2
   exact .inr ⟨h1,_,_,hR.put (x:= .val undef) rA hl hb rfl,k⟩
 | jG x hm nb hx h k=>
  obtain⟨v,uD,h1,h2⟩:=h s (.refl _ _) G a w hl
  refine .inl ⟨h1,?_⟩
  unfold Oper.wp
  rw[h2]
  exact⟨_,_,hR.put rA hl hb uD,k⟩
 | jS d hd hm nb cs h k=>
  obtain⟨h1,e,h2⟩:=h a w hl.aK
  refine .inl ⟨h1,?_⟩
  unfold Oper.wp
  rw[h2]
  show ∃s' H',Rel w0 H0 n s' H' (a.put o.dst _) _∧K s' H'
  rw[hd]
  refine⟨_,_,⟨by rw[Act.UY];exact hR.defers,⟨_,hl.jS (rA d hd) cs e,fun t cE ht=> ?_⟩,?_⟩,k⟩
  ·rcases rz ht with ⟨rfl,rfl⟩ | ⟨e1,ht⟩
   ·simp only[if_true];exact hR.fx.size
   ·rw[if_neg e1];exact hb t cE ht
  ·exact hR.fx.trans ⟨rfl,rfl,rfl,by simp,fun g hg h0=>⟨RowKit.Below.heap_alloc _ _ _ hg,h0⟩,Fx.On fun g hg=>RowKit.Below.heap_alloc _ _ _ hg⟩
 | mo b cs cE hd hm CX kC h k=>
  obtain⟨h1,w',h2,hw⟩:=h H G a w hl
  refine .inl ⟨h1,?_⟩
  unfold Oper.wp
  rw[h2]
  show ∃s' H',Rel w0 H0 n s' H' (a.put o.dst undef) w'∧K s' H'
  rw[hd]
  refine⟨_,_,⟨hR.defers,⟨G,hl.mo CX hw,fun t c ht=> ?_⟩,?_⟩,k⟩
  ·by_cases e:t=b
   ·subst e;exact hb t cs CX
   ·rw[fD _ _ e]at ht;exact hb t c ht
  ·refine⟨hw.os.trans hR.fx.os,hw.tape.trans hR.fx.tape,hw.output.trans hR.fx.output,by rw[hw.size];exact hR.fx.size,fun g hg h0=> ?_,fun g c t fz hc=> ?_⟩
   ·have h3:=hR.fx.keep g hg h0
    refine⟨?_,h3.2⟩
    rw[hw.other _ (fun e=> ?_)]
    ·exact h3.1
    ·have:=hb b cs CX;omega
   ·obtain⟨c',h3,h4⟩:=hR.fx.form g c t fz hc
    have bI:=(Array.getElem?_eq_some_iff.1 hc).1
    have:=hb b cs CX
    exact⟨c',by rw[hw.other _ (by omega)];exact h3,h4⟩
 | fresh mk xs e hm nb h k=>
  obtain⟨h1,h2⟩:=h a w hl.aK
  refine .inl ⟨h1,?_⟩
  unfold Oper.wp
  rw[h2]
  have ow:=hl.den.fresh
  have hd:Den (ins H w.heap.size (whole xs e)) (w.alloc (.cells xs.toArray e (0,0))):=by
   intro g e' hg
   by_cases eg:g=w.heap.size
   ·subst eg
    rw[bD]at hg
    simp only[Option.some.injEq]at hg
    subst hg
    exact⟨_,heap_alloc_new w _,xs.toArray,(0,0),rfl,by simp[whole],fun i v hv=>by simpa [whole]using hv,fun _=>rfl⟩
   ·rw[a6 _ _ eg]at hg
    exact hl.den.alloc _ g e' hg
  have hf:Fx H w (ins H w.heap.size (whole xs e)) (w.alloc (.cells xs.toArray e (0,0))):=
   ⟨rfl,rfl,rfl,by simp,fun g hg h0=>⟨RowKit.Below.heap_alloc _ _ _ hg,by rw[a6 _ _ (by omega)];exact h0⟩,Fx.On fun g hg=>RowKit.Below.heap_alloc _ _ _ hg⟩
  have kN:=hl.uz hd hf
  have dM:Rel w0 H0 n s (ins H w.heap.size (whole xs e)) a (w.alloc (.cells xs.toArray e (0,0))):=⟨hR.defers,⟨G,kN,hb⟩,hR.fx.trans hf⟩
  exact⟨_,_,dM.put (x:= .val _) rA kN hb rfl,k _ ow ⟨_,hd⟩⟩
 | iW bF ha nb h hm k=>
  obtain⟨h1,h2⟩:=h a w hl.aK hl.den
  refine .inl ⟨h1,h2.wp fun v w' hh=> ?_⟩
  obtain⟨H',hp,hd,hf⟩:=hh
  have kN:=hl.uz hd hf
  have dM:Rel w0 H0 n s H' a w':=⟨hR.defers,⟨G,kN,hb⟩,hR.fx.trans hf⟩
  exact⟨_,_,dM.put (x:= .val v) rA kN hb rfl,k v H' hp ⟨w',hd⟩⟩
 | mq v bT hm nb hc h k=>
  rcases h a w hl.aK (fun ad u hu=>hl.den.cell (hc ad u hu))with ⟨h1,h2⟩ | ⟨h1,h2⟩
  ·refine .inl ⟨h1,?_⟩
   unfold Oper.wp
   rw[h2]
   exact⟨_,_,hR.put (x:= .val v) rA hl hb rfl,k⟩
  ·subst h2
   exact .inr ⟨h1,_,_,hR.put (x:= .val undef) rA hl hb rfl,k⟩
 | ou mk xs e bT hm nb h k=>
  obtain⟨h1,h2⟩:=h a w hl.aK
  refine .inl ⟨h1,?_⟩
  unfold Oper.wp
  rw[h2]
  have ow:=hl.den.fresh
  have hd:Den (ins H w.heap.size (whole xs e)) (w.alloc (.cells xs.toArray e (0,0))):=by
   intro g e' hg
   by_cases eg:g=w.heap.size
   ·subst eg
    rw[bD]at hg
    simp only[Option.some.injEq]at hg
    subst hg
    exact⟨_,heap_alloc_new w _,xs.toArray,(0,0),rfl,by simp[whole],fun i v hv=>by simpa [whole]using hv,fun _=>rfl⟩
   ·rw[a6 _ _ eg]at hg
    exact hl.den.alloc _ g e' hg
  have hf:Fx H w (ins H w.heap.size (whole xs e)) (w.alloc (.cells xs.toArray e (0,0))):=
   ⟨rfl,rfl,rfl,by simp,fun g hg h0=>⟨RowKit.Below.heap_alloc _ _ _ hg,by rw[a6 _ _ (by omega)];exact h0⟩,Fx.On fun g hg=>RowKit.Below.heap_alloc _ _ _ hg⟩
  have kN:=hl.uz hd hf
  have dM:Rel w0 H0 n s (ins H w.heap.size (whole xs e)) a (w.alloc (.cells xs.toArray e (0,0))):=⟨hR.defers,⟨G,kN,hb⟩,hR.fx.trans hf⟩
  exact⟨_,_,dM.put (x:= .val _) rA kN hb rfl,k _ ow ⟨_,hd⟩⟩
 | mY bF bT ha nb h hm k=>
  obtain⟨h1,h2⟩:=h a w hl.aK hl.den
  refine .inl ⟨h1,h2.wp fun v w' hh=> ?_⟩
  obtain⟨H',hp,hd,hf⟩:=hh
  have kN:=hl.uz hd hf
  have dM:Rel w0 H0 n s H' a w':=⟨hR.defers,⟨G,kN,hb⟩,hR.fx.trans hf⟩
  exact⟨_,_,dM.put (x:= .val v) rA kN hb rfl,k v H' hp ⟨w',hd⟩⟩
end sound
end Go.au
namespace Go.au
theorem yo{o:Op}:ru o=true↔kd o=3:=by
 cases o <;> simp[ru,Ag,Ah,kd]
 split <;> simp
theorem U8{o:Op}(h:kd o=3):(Ag o=true∧Ah o=false)∨(Ag o=false∧Ah o=true):=by
 cases o <;> simp[Ag,Ah,kd]at h⊢
 split at h <;> simp at h
theorem rB{o:Op}:Ae o=true↔kd o=2:=by
 cases o <;> simp[Ae,kd]
 split <;> simp
theorem CY{o:Op}(h:Fm o=true):kd o=0:=by
 cases o <;> simp[Fm]at h <;> rfl
def Sw(md:Mode)(all:Array Oper)(x y:Oper):Bool:=
 x.apart all y&&sZ x.op&&sZ y.op &&
 ((kd x.op == 0&&(kd y.op == 0||(kd y.op == 1 && !md.U5)||(kd y.op == 3&&(y.guard.isNone || !md.ot))||(kd y.op == 2&&md.Oq&&(md.Ot || !Fm x.op)))) ||
  ((kd x.op == 1||kd x.op == 3)&&kd y.op == 3&&y.guard.isNone && !md.ot))
section
variable {P:Program} {n:Nat} {all:Array Oper} {o:Oper}
structure Ai(all:Array Oper)(o:Oper)(a b:Act):Prop where
 want:Region.wanted o (yielded all a.tmps)=Region.wanted o (yielded all b.tmps)
 exec:execOp a.eval o=execOp b.eval o
theorem Ai.put{a:Act}{d:Nat}(v:Value)(hs:sZ o.op=true)(h:d∉o.looksAt all):Ai all o (a.put (some d) v) a:=by
 refine⟨wanted_put o a (some d) v (fun e he=>by cases he;exact h),execOp_congr o (fun cs b e=>by rw[e]at hs;cases hs) (fun x hx=> ?_)⟩
 refine Act.eval_put fun e he Ov=> ?_
 cases he
 subst Ov
 exact h (by
  unfold Oper.looksAt
  refine List.mem_append_left _ ?_
  rw[List.mem_filterMap]
  exact⟨_,by simpa using hx,rfl⟩)
theorem Ai.refl(a:Act):Ai all o a a:=⟨rfl,rfl⟩
def Mv(n:Nat)(all:Array Oper)(o:Oper)(s1 s2:St):Prop:=∀a,gC n s2 a→∃a1,gC n s1 a1∧Ai all o a1 a
def Fo(n:Nat)(all:Array Oper)(o:Oper)(s1 s2:St):Prop:=∀H G a w,Rl n s2 H G a w→∃a1,Rl n s1 H G a1 w∧Ai all o a1 a
variable {s1 s2 s:St} {H H1 H2:Heap}
theorem JV.move{v:Value}(hm:Mv n all o s1 s2)(hl:Heap.le H1 H2)(h:JV P n all o s1 H1 v):JV P n all o s2 H2 v:=fun a w ha hd=>by
 obtain⟨a1,h1,h2⟩:=hm a ha
 rw[←h2.want,←h2.exec]
 exact h a1 w h1 (hd.le hl)
theorem CW.move{x:Slot}(hm:Fo n all o s1 s2)(hl:Heap.le H1 H2)(h:CW P n all o s1 H1 x):CW P n all o s2 H2 x:=fun G a w ha=>by
 obtain⟨a1,h1,h2⟩:=hm H2 G a w ha
 obtain⟨v,h3,h4,h5⟩:=h G a1 w (h1.le hl)
 exact⟨v,h3,by rw[←h2.want];exact h4,by rw[←h2.exec];exact h5⟩
theorem JY.move{md:Mode}{v:Value}(hm:Mv n all o s1 s2)(h:JY P n md all o s1 v):JY P n md all o s2 v:=fun a w ha hd=>by
 obtain⟨a1,h1,h2⟩:=hm a ha
 have:=h a1 w h1 hd
 rw[h2.want,h2.exec]at this
 exact this
theorem vZ.move{cs:List Value}(hm:Mv n all o s1 s2)(h:vZ P n all o s1 cs):vZ P n all o s2 cs:=fun a w ha=>by
 obtain⟨a1,h1,h2⟩:=hm a ha
 rw[←h2.want,←h2.exec]
 exact h a1 w h1
theorem JW.move{b:Nat}{cs:List Value}(hm:Fo n all o s1 s2)(h:JW P n all o s1 b cs):JW P n all o s2 b cs:=fun H G a w ha=>by
 obtain⟨a1,h1,h2⟩:=hm H G a w ha
 rw[←h2.want,←h2.exec]
 exact h H G a1 w h1
theorem uA.move{mk:Nat→Value}{xs:List Value}{e:TypeId}(hm:Mv n all o s1 s2)(h:uA P n all o s1 mk xs e):uA P n all o s2 mk xs e:=fun a w ha=>by
 obtain⟨a1,h1,h2⟩:=hm a ha
 rw[←h2.want,←h2.exec]
 exact h a1 w h1
theorem EV.move{bF:Value→Heap→Prop}(hm:Mv n all o s1 s2)(h:EV P n all o s1 H bF):EV P n all o s2 H bF:=fun a w ha hd=>by
 obtain⟨a1,h1,h2⟩:=hm a ha
 have:=h a1 w h1 hd
 unfold lM at this⊢
 rw[←h2.want,←h2.exec]
 exact this
theorem vZ.uniq{cs cE:List Value}(ha:∃a,gC n s a)(h:vZ P n all o s cs)(h':vZ P n all o s cE):cE=cs:=by
 obtain⟨a,ha⟩:=ha
 obtain⟨_,e,h1⟩:=h a default ha
 obtain⟨_,e',h2⟩:=h' a default ha
 rw[h1]at h2
 simp only[Result.ok.injEq,true_and]at h2
 have:=congrArg (fun w:World=>w.heap[(default:World).heap.size]?) h2
 simp only[heap_alloc_new,Option.some.injEq,Obj.cells.injEq]at this
 exact(List.toArray_inj this.1).symm
theorem uA.uniq{mk mk':Nat→Value}{xs qi:List Value}{e e':TypeId}(ha:∃a,gC n s a)(h:uA P n all o s mk xs e)(h':uA P n all o s mk' qi e'):mk'=mk∧qi=xs∧e'=e:=by
 obtain⟨a,ha⟩:=ha
 have key:∀w:World,mk' w.heap.size=mk w.heap.size∧qi=xs∧e'=e:=fun w=>by
  obtain⟨_,h1⟩:=h a w ha
  obtain⟨_,h2⟩:=h' a w ha
  rw[h1]at h2
  simp only[Result.ok.injEq,Next.value.injEq]at h2
  have:=congrArg (fun w':World=>w'.heap[w.heap.size]?) h2.2
  simp only[heap_alloc_new,Option.some.injEq,Obj.cells.injEq]at this
  exact⟨h2.1.symm,(List.toArray_inj this.1).symm,this.2.1.symm⟩
 refine⟨funext fun g=> ?_,(key default).2⟩
 have:=(key {(default:World)with heap:=Array.replicate g default}).1
 simpa using this
theorem EV.some{bF:Value→Heap→Prop}(h:EV P n all o s H bF)(ha:∃a,gC n s a)(hw:Real H):∃v H',bF v H'∧Real H':=by
 obtain⟨a,ha⟩:=ha
 obtain⟨w,hw⟩:=hw
 obtain⟨_,h2⟩:=h a w ha hw
 unfold lM at h2
 split at h2
 ·obtain⟨H',hp,hd,_⟩:=h2;exact⟨_,H',hp,_,hd⟩
 ·obtain⟨H',hp,hd,_⟩:=h2;exact⟨_,H',hp,_,hd⟩
 ·obtain⟨e,w',fr,⟨v,_,H',hp,hd,_⟩,_⟩:=h2 []
  exact⟨v,H',hp,w',hd⟩
 ·exact h2.elim
theorem EV.frame{bF:Value→Heap→Prop}{g:Nat}{ent:Ent}(hg:H g=none)(h:EV P n all o s H bF):
  EV P n all o s (ins H g ent) (fun v sX=>∃H',bF v H'∧H' g=none∧sX=ins H' g ent):=fun a w ha hd=>by
 obtain⟨h1,h2⟩:=h a w ha (hd.le (Heap.bB ent hg))
 refine⟨h1,h2.mono fun v w' hh=> ?_⟩
 obtain⟨H',hp,mX,hf⟩:=hh
 obtain⟨ob,ho,hoe⟩:=hd g ent (bD _ _ _)
 have bI:=hd.lt (bD H g ent)
 obtain⟨gE,fN⟩:=hf.keep g bI hg
 refine⟨ins H' g ent,⟨H',hp,fN,rfl⟩,fun k e hk=> ?_,⟨hf.os,hf.tape,hf.output,hf.size,fun k hk h0=> ?_,hf.form⟩⟩
 ·by_cases ek:k=g
  ·subst ek
   rw[bD]at hk
   simp only[Option.some.injEq]at hk
   subst hk
   exact⟨ob,gE.trans ho,hoe⟩
  ·rw[a6 _ _ ek]at hk;exact mX k e hk
 ·have ek:k≠g:=fun e=>by subst e;rw[bD]at h0;cases h0
  rw[a6 _ _ ek]at h0⊢
  exact hf.keep k hk h0
theorem ox{d:Option Nat}{X:Slot}(hs:sZ o.op=true)(hd:∀k,d=some k→k<n∧k∉o.looksAt all):Mv n all o (bn s d X) s:=fun a ha=>by
 cases d with
 | none=>exact⟨a,ha,.refl a⟩
 | some d=>
  obtain⟨hn,hl⟩:=hd d rfl
  have key:∀u,(∀v,X = .val v→u=v)→∃a1,gC n (bn s (some d) X) a1∧Ai all o a1 a:=fun u hu=>by
   refine⟨a.put (some d) u,⟨by rw[Act.CV];exact ha.size,fun t v ht=> ?_⟩,.put u hs hl⟩
   by_cases e:t=d
   ·subst e
    rw[show bn s (some t) X=put s t X from rfl,ig]at ht
    simp only[Option.some.injEq]at ht
    rw[Act.yn _ _ _ (by rw[ha.size];exact hn),hu v ht]
   ·rw[show bn s (some d) X=put s d X from rfl,fD _ _ e]at ht
    rw[Act.rp _ _ e];exact ha.at_ t v ht
  cases X with
  | val v=>exact key v (fun v' h=>by cases h;rfl)
  | box cs=>exact key undef (fun v' h=>by cases h)
  | ref b off=>exact key undef (fun v' h=>by cases h)
theorem JZ{d:Option Nat}{X:Slot}(hx:∀cs,X≠.box cs)(hs:sZ o.op=true)(hd:∀k,d=some k→k<n∧k∉o.looksAt all):Fo n all o (bn s d X) s:=fun H G a w ha=>by
 cases d with
 | none=>exact⟨a,ha,.refl a⟩
 | some d=>
  obtain⟨hn,hl⟩:=hd d rfl
  cases X with
  | val v=>exact⟨_,ha.put hn (x:= .val v) rfl,.put _ hs hl⟩
  | box cs=>exact absurd rfl (hx cs)
  | ref b off=>exact⟨_,ha.put hn (x:= .ref b off) rfl,.put _ hs hl⟩
theorem uE{d:Option Nat}{X:Slot}(hs:sZ o.op=true)(hd:∀k,d=some k→k<n∧k∉o.looksAt all):Mv n all o s (bn s d X):=fun a ha=>by
 cases d with
 | none=>exact⟨a,ha,.refl a⟩
 | some d=>
  obtain⟨hn,hl⟩:=hd d rfl
  obtain⟨v,hv⟩:=gC.back (s:=s) (d:=d) ha (fun t v ht h=>by rw[show bn s (some d) X=put s d X from rfl,fD _ _ ht];exact h) hn
  exact⟨_,hv,.put v hs hl⟩
theorem ab5{d:Option Nat}{X:Slot}(hs:sZ o.op=true)(hd:∀k,d=some k→k<n∧k∉o.looksAt all)(hb:∀k cs,d=some k→s k≠some (.box cs)):Fo n all o s (bn s d X):=fun H G a w ha=>by
 cases d with
 | none=>exact⟨a,ha,.refl a⟩
 | some d=>
  obtain⟨hn,hl⟩:=hd d rfl
  obtain⟨v,hv⟩:=Rl.back (s:=s) (d:=d) ha (fun cs=>hb d cs rfl) (fun t x ht h _=>by rw[show bn s (some d) X=put s d X from rfl,fD _ _ ht];exact h) hn
  exact⟨_,hv,.put v hs hl⟩
theorem Fp{d t:Nat}{cs:List Value}{x:Slot}(ht:t≠d)(h:s t=some x)(hx:∀b o,x = .ref b o→b≠d):gU s d cs t=some x:=by
 rw[pG _ _ ht,h]
 cases x with
 | val v=>rfl
 | box c=>rfl
 | ref b off=>
  have:=hx b off rfl
  have hb:Nat.beq b d=false:=by
   cases hb:Nat.beq b d with
   | false=>rfl
   | true=>exact absurd (Nat.eq_of_beq_eq_true hb) this
  simp[uC,hb]
theorem J0{d:Nat}{cs:List Value}(hs:sZ o.op=true)(hn:d<n)(hl:d∉o.looksAt all):Mv n all o s (gU s d cs):=fun a ha=>by
 obtain⟨v,hv⟩:=gC.back (s:=s) (d:=d) ha (fun t v ht h=>Fp ht h (fun b o e=>by cases e)) hn
 exact⟨_,hv,.put v hs hl⟩
theorem ab6{d:Nat}{cs:List Value}(hs:sZ o.op=true)(hn:d<n)(hl:d∉o.looksAt all)(hb:∀cs,s d≠some (.box cs)):Fo n all o s (gU s d cs):=fun H G a w ha=>by
 obtain⟨v,hv⟩:=Rl.back (s:=s) (d:=d) ha hb (fun t x ht h hx=>Fp ht h hx) hn
 exact⟨_,hv,.put v hs hl⟩
theorem U9{d:Nat}{cs:List Value}:Mv n all o (gU s d cs) s:=fun a ha=>
 ⟨a,⟨ha.size,fun t v ht=>ha.at_ t v (Ou ht).2⟩,.refl a⟩
theorem ab7{b:Nat}{cs cE:List Value}(hb:s b=some (.box cs)):Mv n all o s (put s b (.box cE)):=fun a ha=>
 ⟨a,⟨ha.size,fun t v ht=>ha.at_ t v (by
  have e:t≠b:=fun e=>by subst e;rw[hb]at ht;cases ht
  rw[fD _ _ e];exact ht)⟩,.refl a⟩
theorem qj{d e:Option Nat}(X Y:Slot)(h:∀k,d=some k→e≠some k):bn (bn s d X) e Y=bn (bn s e Y) d X:=by
 cases d with
 | none=>rfl
 | some d=>
  cases e with
  | none=>rfl
  | some e=>exact put_comm s X Y (fun h'=>h d rfl (by rw[h']))
theorem Fq{d:Option Nat}{e:Nat}{X:Slot}{cs:List Value}(h:d≠some e)(hx:∀b o,X = .ref b o→b≠e):gU (bn s d X) e cs=bn (gU s e cs) d X:=by
 cases d with
 | none=>rfl
 | some d=>
  have aZ:d≠e:=fun h'=>h (by rw[h'])
  funext t
  show gU (put s d X) e cs t=put (gU s e cs) d X t
  by_cases h1:t=e
  ·subst h1
   rw[s3,fD _ _ (Ne.symm aZ),s3]
  ·rw[pG _ _ h1]
   by_cases h2:t=d
   ·subst h2
    rw[ig,ig]
    have:=Fp (s:=put s t X) (cs:=cs) h1 (ig s t X) hx
    rw[pG _ _ h1,ig]at this
    exact this
   ·rw[fD _ _ h2,fD _ _ h2,pG _ _ h1]
theorem ab8(d e:Nat)(x:Option Slot):uC d (uC e x)=uC e (uC d x):=by
 cases x with
 | none=>rfl
 | some x=>
  cases x with
  | val v=>rfl
  | box c=>rfl
  | ref b o=>cases h1:Nat.beq b d <;> cases h2:Nat.beq b e <;> simp[uC,h1,h2]
theorem ab9{d e:Nat}{cs cE:List Value}(h:d≠e):gU (gU s d cs) e cE=gU (gU s e cE) d cs:=by
 funext t
 by_cases h1:t=e
 ·subst h1
  rw[s3,pG _ _ (Ne.symm h),s3];rfl
 ·rw[pG _ _ h1]
  by_cases h2:t=d
  ·subst h2
   rw[s3,s3];rfl
  ·rw[pG _ _ h2,pG _ _ h2,pG _ _ h1,ab8]
theorem Va{d:Option Nat}{b:Nat}{X:Slot}{cs:List Value}(h:d≠some b):put (bn s d X) b (.box cs)=bn (put s b (.box cs)) d X:=by
 cases d with
 | none=>rfl
 | some d=>exact put_comm s X (.box cs) (fun h'=>h (by rw[h']))
theorem CZ(H:Heap){g k:Nat}(e e':Ent)(h:g≠k):ins (ins H g e) k e'=ins (ins H k e') g e:=by
 funext t
 by_cases h1:t=k
 ·subst h1;rw[bD,a6 _ _ (Ne.symm h),bD]
 ·by_cases h2:t=g
  ·subst h2;rw[a6 _ _ h1,bD,bD]
  ·rw[a6 _ _ h1,a6 _ _ h2,a6 _ _ h2,a6 _ _ h1]
end
theorem J1(s:St)(d:Nat)(X:Slot):bn s (some d) X=put s d X:=rfl
theorem jF.bn{md:Mode}{s s':St}(h:jF md s s')(d:Option Nat)(X:Slot):jF md (bn s d X) (bn s' d X):=fun t=>by
 cases d with
 | none=>exact h t
 | some d=>
  rw[J1,J1]
  by_cases e:t=d
  ·subst e;exact .inl (by rw[ig,ig])
  ·rw[fD _ _ e,fD _ _ e];exact h t
theorem jF.aca{md:Mode}{s s':St}{d:Option Nat}{X:Slot}(hX:∀c,X≠.box c)(h:jF md (au.bn s d X) s'):∃wa,jF md s wa∧s'=au.bn wa d X∧∀k,d=some k→wa k=s k:=by
 cases d with
 | none=>exact⟨s',h,rfl,fun k e=>by cases e⟩
 | some d=>
  rw[J1]at h
  have hd:s' d=some X:=h.val hX (ig _ _ _)
  refine⟨fun t=>if t=d then s t else s' t,fun t=> ?_,?_,fun k e=>by cases e;simp⟩
  ·by_cases e:t=d
   ·left;simp[e]
   ·have:=h t
    rw[fD _ _ e]at this
    simpa [e]using this
  ·rw[J1]
   funext t
   by_cases e:t=d
   ·subst e;rw[ig,hd]
   ·rw[fD _ _ e,if_neg e]
open Classical in
theorem jF.unbox{md:Mode}{s s':St}{d:Nat}{cs:List Value}(h:jF md (gU s d cs) s'):∃wa J2,jF md s wa∧s'=gU wa d J2∧wa d=s d:=by
 obtain⟨J2,hc⟩:=h.box (s3 s d cs)
 refine⟨fun t=>if t=d∨s' t=gU s d cs t then s t else s' t,J2,fun t=> ?_,?_,by simp⟩
 ·by_cases e:t=d∨s' t=gU s d cs t
  ·left;simp only[e,if_true]
  ·simp only[e,if_false]
   rcases h t with h1 | ⟨h0,c,c',h1,h2⟩
   ·exact absurd (.inr h1) e
   ·rcases rz h1 with ⟨e1,_⟩ | ⟨_,h3⟩
    ·exact absurd (.inl e1) e
    ·exact .inr ⟨h0,c,c',h3,h2⟩
 ·funext t
  by_cases e:t=d
  ·subst e;rw[hc,s3]
  ·rw[pG _ _ e]
   by_cases e2:s' t=gU s d cs t
   ·simp only[e2,or_true,if_true];exact pG _ _ e
   ·rcases h t with h1 | ⟨h0,c,c',h1,h2⟩
    ·exact absurd h1 e2
    ·rw[if_neg (by rintro(h3 | h3);exact e h3;exact e2 h3),h2];rfl
theorem jF.store{md:Mode}{s s':St}{b:Nat}{cs cE:List Value}(hb:s b=some (.box cs))(hw:md.wr b=true)(h:jF md (put s b (.box cE)) s'):jF md s s':=fun t=>by
 by_cases e:t=b
 ·subst e
  obtain⟨c,hc⟩:=h.box (ig s t (.box cE))
  exact .inr ⟨hw,cs,c,hb,hc⟩
 ·have:=h t
  rwa [fD _ _ e]at this
end Go.au
namespace Go.au
section
variable {P:Program} {n:Nat} {all:Array Oper} {md:Mode} {x y:Oper} {s:St} {H:Heap} {K:St→Heap→Prop}
theorem yp{md:Mode}(eU:md≠.plain){k:Nat}(h:k=1∨k=2∨md = .plain):k=1∨k=2:=by
 rcases h with h | h | h
 ·exact .inl h
 ·exact .inr h
 ·exact absurd h eU
theorem rC(eU:md≠.plain)(fp:md.ot=false)(d:Option Nat):md.nb s d=true↔∀k cs,d=some k→s k≠some (.box cs):=by
 cases d with
 | none=>cases md <;> simp[Mode.nb,Mode.ot]at *
 | some d=>
  have:md.nb s (some d)=(match s d with | some (.box _)=>false | _=>true):=by cases md <;> first | exact absurd rfl eU | rfl | cases fp
  rw[this]
  cases hs:s d with
  | none=>exact⟨(fun _ k cs hk h=>by cases hk;rw[hs]at h;cases h),fun _=>rfl⟩
  | some z=>
   cases z with
   | val v=>exact⟨(fun _ k cs hk h=>by cases hk;rw[hs]at h;cases h),fun _=>rfl⟩
   | box c=>exact⟨(fun h=>by cases h),fun h=>absurd hs (h d c rfl)⟩
   | ref b o=>exact⟨(fun _ k cs hk h=>by cases hk;rw[hs]at h;cases h),fun _=>rfl⟩
theorem Aj{X:Slot}:X.s0 s=true↔(∀cs,X≠.box cs)∧∀b o,X = .ref b o→∃cs,s b=some (.box cs):=by
 cases X with
 | val v=>simp[Slot.s0]
 | box c=>simp[Slot.s0]
 | ref b o=>
  simp only[Slot.s0]
  cases hs:s b with
  | none=>simp[hs]
  | some z=>cases z <;> simp[hs]
theorem Fs{d:Option Nat}{X:Slot}{t:Nat}(h:d≠some t):bn s d X t=s t:=by
 cases d with
 | none=>rfl
 | some d=>exact fD s X (fun e=>h (by rw[e]))
theorem Ow{d:Option Nat}{X:Slot}{t:Nat}{cs:List Value}(hx:∀cs,X≠.box cs)(h:bn s d X t=some (.box cs)):d≠some t∧s t=some (.box cs):=by
 cases d with
 | none=>exact⟨by simp,h⟩
 | some d=>
  by_cases e:t=d
  ·subst e
   rw[show bn s (some t) X=put s t X from rfl,ig]at h
   simp only[Option.some.injEq]at h
   exact absurd h (hx cs)
  ·rw[show bn s (some d) X=put s d X from rfl,fD _ _ e]at h
   exact⟨fun h'=>e (by cases h';rfl),h⟩
structure C0(md:Mode)(all:Array Oper)(x y:Oper):Prop where
 xs:sZ x.op=true
 ys:sZ y.op=true
 xy:∀d,x.dst=some d→d∉y.looksAt all
 ne:∀d,x.dst=some d→y.dst≠some d
 yx:∀d,y.dst=some d→d∉x.looksAt all
 kind:(kd x.op=0∧(kd y.op=0∨(kd y.op=1∧md.U5=false)∨(kd y.op=3∧(y.guard=none∨md.ot=false))∨(kd y.op=2∧md.Oq=true∧(md.Ot=true∨Fm x.op=false))))∨((kd x.op=1∨kd x.op=3)∧kd y.op=3∧y.guard=none∧md.ot=false)
theorem Sw.out(h:Sw md all x y=true):C0 md all x y:=by
 simp only[Sw,Bool.and_eq_true,Bool.or_eq_true,beq_iff_eq,Option.isNone_iff_eq_none,Bool.not_eq_true']at h
 obtain⟨⟨⟨h1,h2⟩,h3⟩,h4⟩:=h
 obtain⟨a1,a2,a3⟩:=Oper.apart_spec h1
 refine⟨h2,h3,a1,a2,a3,?_⟩
 rcases h4 with ⟨hx,hy⟩ | ⟨⟨⟨hx,hy⟩,hz⟩,hk⟩
 ·left
  refine⟨hx,?_⟩
  rcases hy with ((hy | hy) | hy) | hy
  ·exact .inl hy
  ·exact .inr (.inl hy)
  ·exact .inr (.inr (.inl hy))
  ·exact .inr (.inr (.inr ⟨hy.1.1,hy.1.2,hy.2⟩))
 ·exact .inr ⟨hx,hy,hz,hk⟩
theorem Den.acb{H:Heap}{w:World}(h:Den H w)(xs:List Value)(e:TypeId):Den (ins H w.heap.size (whole xs e)) (w.alloc (.cells xs.toArray e (0,0))):=by
 intro g e' hg
 by_cases eg:g=w.heap.size
 ·subst eg
  rw[bD]at hg
  simp only[Option.some.injEq]at hg
  subst hg
  exact⟨_,heap_alloc_new w _,xs.toArray,(0,0),rfl,by simp[whole],fun i v hv=>by simpa [whole]using hv,fun _=>rfl⟩
 ·rw[a6 _ _ eg]at hg
  exact h.alloc _ g e' hg
theorem Heap.le.qk{H H':Heap}{g:Nat}{e:Ent}(h:Heap.le H H')(hg:H' g=none):Heap.le (ins H g e) (ins H' g e):=fun k x hk=>by
 by_cases ek:k=g
 ·subst ek
  rw[bD]at hk⊢
  exact⟨x,hk,.refl x⟩
 ·rw[a6 _ _ ek]at hk⊢
  exact h k x hk
theorem gV.acd(eU:md≠.plain)(fp:md.ot=false)(hw:C0 md all x y)(Ak:∀d,x.dst=some d→d<n)(ql:∀d,y.dst=some d→d<n)
  (hS:∃a,gC n s a) (hH:Real H) (h:gV P n all md x s H (fun s1 H1=>gV P n all md y s1 H1 K)):gV P n all md y s H (fun s2 H2=>gV P n all md x s2 H2 K):=by
 have cP:∀d,x.dst=some d→d<n∧d∉y.looksAt all:=fun d hd=>⟨Ak d hd,hw.xy d hd⟩
 have kD:∀d,y.dst=some d→d<n∧d∉x.looksAt all:=fun d hd=>⟨ql d hd,hw.yx d hd⟩
 have Ft:∀d,y.dst=some d→x.dst≠some d:=fun d hd e=>hw.ne d e hd
 have mr:∀{X:Slot},(∀cs,X≠.box cs)→md.nb (bn s x.dst X) y.dst=true→md.nb s y.dst=true:=fun{X} hX hn=>by
  rw[rC eU fp]at hn⊢
  intro k cs hk hs
  exact hn k cs hk (by rw[Fs (Ft k hk)];exact hs)
 have oy:∀{Y:Slot},md.nb s x.dst=true→md.nb (bn s y.dst Y) x.dst=true:=fun{Y} hn=>by
  rw[rC eU fp]at hn⊢
  intro k cs hk hs
  exact hn k cs hk (by rw[Fs (hw.ne k hk)]at hs;exact hs)
 have Vb:∀{X Y:Slot},(∀cs,X≠.box cs)→Y.s0 (bn s x.dst X)=true→Y.s0 s=true:=fun{X Y} hX hg=>by
  rw[Aj]at hg⊢
  exact⟨hg.1,fun b o e=>by obtain⟨cs,hc⟩:=hg.2 b o e;exact⟨cs,(Ow hX hc).2⟩⟩
 have J3:∀{X Y:Slot},md.nb s y.dst=true→X.s0 s=true→X.s0 (bn s y.dst Y)=true:=fun{X Y} hn hg=>by
  rw[Aj]at hg⊢
  refine⟨hg.1,fun b o e=> ?_⟩
  obtain⟨cs,hc⟩:=hg.2 b o e
  exact⟨cs,by rw[Fs (fun hk=>(rC eU fp _).1 hn b cs hk hc)];exact hc⟩
 have Vc:∀{k:Nat}{cs:List Value},md.nb s y.dst=true→y.dst=some k→s k≠some (.box cs):=fun{k cs} hn hk=>(rC eU fp _).1 hn k cs hk
 have J4:∀{X Y:Slot}{H1 H2:Heap},md.nb s y.dst=true→(∀c,Y≠.box c)→Heap.le H1 H2→(∀s',jF md s s'→CW P n all x s' H1 X)→∀s',jF md (bn s y.dst Y) s'→CW P n all x s' H2 X:=fun{X Y H1 H2} n1 hY hl h s' e=>by
  obtain⟨wa,e1,rfl,e2⟩:=e.aca hY
  exact(h _ e1).move (ab5 hw.xs kD (fun k cs hk=>by rw[e2 k hk];exact Vc n1 hk)) hl
 cases h with
 | jR v hm nb h k=>
  have hX:∀cs,Slot.val v≠.box cs:=fun cs e=>by cases e
  cases k with
  | jR v' bH dz h' k'=>
   have n1:=mr hX dz
   refine .jR v' bH n1 (h'.move (ox hw.ys cP) (.refl _)) (.jR v hm (oy nb) (h.move (uE hw.xs kD) (.refl _)) ?_)
   rw[←qj _ _ hw.ne];exact k'
  | jG X' bH dz s4 h' k'=>
   have n1:=mr hX dz
   refine .jG X' bH n1 (Vb hX s4) (fun s' e=>(h' _ (e.bn _ _)).move (JZ hX hw.ys cP) (.refl _)) (.jR v hm (oy nb) (h.move (uE hw.xs kD) (.refl _)) ?_)
   rw[←qj _ _ hw.ne];exact k'
  | jS d hd bH dz cs h' k'=>
   have n1:=mr hX dz
   refine .jS d hd bH n1 cs (h'.move (ox hw.ys cP)) (.jR v hm ?_ (h.move (J0 hw.xs (ql d hd) (hw.yx d hd)) (.refl _)) ?_)
   ·rw[rC eU fp]at nb⊢
    intro k cE hk hs
    rcases rz hs with ⟨e,_⟩ | ⟨_,hs⟩
    ·exact hw.ne k hk (by rw[hd,e])
    ·exact nb k cE hk hs
   ·rw[←Fq (fun e=>hw.ne d e hd) (fun b o e=>by cases e)];exact k'
  | mo b cs cE hd bH hb kC h' k'=>
   obtain⟨Al,iJ⟩:=Ow hX hb
   refine .mo b cs cE hd bH iJ kC (h'.move (JZ hX hw.ys cP)) (.jR v hm ?_ (h.move (ab7 iJ) (.refl _)) ?_)
   ·rw[rC eU fp]at nb⊢
    intro k c hk hs
    by_cases e:k=b
    ·subst e;exact Al hk
    ·rw[fD _ _ e]at hs;exact nb k c hk hs
   ·rw[←Va Al];exact k'
  | fresh mk xs e bH dz h' k'=>
   have n1:=mr hX dz
   refine .fresh mk xs e bH n1 (h'.move (ox hw.ys cP)) fun g hg hr=> .jR v hm (oy nb) (h.move (uE hw.xs kD) (Heap.bB _ hg)) ?_
   rw[←qj _ _ hw.ne];exact k' g hg hr
  | mq _ bT _ _ _ _ _=>rw[fp]at bT;cases bT
  | ou _ _ _ bT _ _ _ _=>rw[fp]at bT;cases bT
  | mY _ bT _ _ _ _ _=>rw[fp]at bT;cases bT
  | iW bF ha dz h' bH k'=>
   have lN:=yp eU ha
   have n1:=mr hX dz
   have Ox:∀u H',bF u H'→Heap.le H H':=by
    cases md with
    | plain=>exact absurd rfl eU
    | bL=>exact bH.2
    | pE st=>exact bH.2
    | gD=>
     rcases bH with e | e
     ·have:=rB.1 e
      rcases hw.kind with ⟨_,h1 | h1 | h1 | h1⟩ | h1
      ·omega
      ·omega
      ·omega
      ·exact absurd h1.2.1 (by decide)
      ·omega
     ·exact e
    | cO k=>cases fp
    | uB=>
     rcases hw.kind with ⟨_,h1 | h1 | h1 | h1⟩ | h1
     ·omega
     ·exact absurd h1.2 (by decide)
     ·omega
     ·exact absurd h1.2.1 (by decide)
     ·omega
   refine .iW bF ha n1 (h'.move (ox hw.ys cP)) bH fun u H' hp hr=> .jR v hm (oy nb) (h.move (uE hw.xs kD) (Ox u H' hp)) ?_
   rw[←qj _ _ hw.ne];exact k' u H' hp hr
 | jG X hm nb hx h k=>
  have hX:=(Aj.1 hx).1
  have kx:=CY hm
  cases k with
  | jR v' bH dz h' k'=>
   have n1:=mr hX dz
   refine .jR v' bH n1 (h'.move (ox hw.ys cP) (.refl _)) (.jG X hm (oy nb) (J3 n1 hx) (J4 n1 (fun c e=>by cases e) (.refl _) h) ?_)
   rw[←qj _ _ hw.ne];exact k'
  | jG X' bH dz s4 h' k'=>
   have n1:=mr hX dz
   refine .jG X' bH n1 (Vb hX s4) (fun s' e=>(h' _ (e.bn _ _)).move (JZ hX hw.ys cP) (.refl _)) (.jG X hm (oy nb) (J3 n1 hx) (J4 n1 (Aj.1 s4).1 (.refl _) h) ?_)
   rw[←qj _ _ hw.ne];exact k'
  | jS d hd bH dz cs h' k'=>
   have n1:=mr hX dz
   have s5:∀cs,s d≠some (.box cs):=fun cs=>Vc n1 hd
   refine .jS d hd bH n1 cs (h'.move (ox hw.ys cP)) (.jG X hm ?_ ?_ (fun s' e=>by
    obtain⟨wa,J2,e1,rfl,e2⟩:=e.unbox
    exact(h _ e1).move (ab6 hw.xs (ql d hd) (hw.yx d hd) (fun cs=>by rw[e2];exact s5 cs)) (.refl _)) ?_)
   ·rw[rC eU fp]at nb⊢
    intro k cE hk hs
    rcases rz hs with ⟨e,_⟩ | ⟨_,hs⟩
    ·exact hw.ne k hk (by rw[hd,e])
    ·exact nb k cE hk hs
   ·rw[Aj]at hx⊢
    refine⟨hx.1,fun b o e=> ?_⟩
    obtain⟨c,hc⟩:=hx.2 b o e
    exact⟨c,Fp (fun e=>by subst e;exact s5 c hc) hc (fun b o e=>by cases e)⟩
   ·rw[←Fq (fun e=>hw.ne d e hd) (fun b o e hb=>by subst hb;obtain⟨c,hc⟩:=(Aj.1 hx).2 b o e;exact s5 c hc)];exact k'
  | mo b cs cE hd bH hb kC h' k'=>
   have:=rB.1 bH
   have hT:md.Ot=true:=by
    rcases hw.kind with ⟨_,h1 | h1 | h1 | h1⟩ | h1
    ·omega
    ·omega
    ·omega
    ·rcases h1.2.2 with h2 | h2
     ·exact h2
     ·rw[hm]at h2;cases h2
    ·omega
   have hwr:md.wr b=true:=by
    cases md <;> first | exact kC | cases hT
   obtain⟨Al,iJ⟩:=Ow hX hb
   refine .mo b cs cE hd bH iJ kC (h'.move (JZ hX hw.ys cP)) (.jG X hm ?_ ?_ (fun s' e=>h s' (e.store iJ hwr)) ?_)
   ·rw[rC eU fp]at nb⊢
    intro k c hk hs
    by_cases e:k=b
    ·subst e;exact Al hk
    ·rw[fD _ _ e]at hs;exact nb k c hk hs
   ·rw[Aj]at hx⊢
    refine⟨hx.1,fun b' o e=> ?_⟩
    obtain⟨c,hc⟩:=hx.2 b' o e
    by_cases e2:b'=b
    ·subst e2;exact⟨cE,ig _ _ _⟩
    ·exact⟨c,by rw[fD _ _ e2];exact hc⟩
   ·rw[←Va Al];exact k'
  | fresh mk xs e bH dz h' k'=>
   have n1:=mr hX dz
   refine .fresh mk xs e bH n1 (h'.move (ox hw.ys cP)) fun g hg hr=> .jG X hm (oy nb) (J3 n1 hx) (J4 n1 (fun c e=>by cases e) (Heap.bB _ hg) h) ?_
   rw[←qj _ _ hw.ne];exact k' g hg hr
  | mq _ bT _ _ _ _ _=>rw[fp]at bT;cases bT
  | ou _ _ _ bT _ _ _ _=>rw[fp]at bT;cases bT
  | mY _ bT _ _ _ _ _=>rw[fp]at bT;cases bT
  | iW bF ha dz h' bH k'=>
   have lN:=yp eU ha
   have n1:=mr hX dz
   have Ox:∀u H',bF u H'→Heap.le H H':=by
    cases md with
    | plain=>exact absurd rfl eU
    | bL=>exact bH.2
    | pE st=>exact bH.2
    | gD=>
     rcases bH with e | e
     ·have:=rB.1 e
      rcases hw.kind with ⟨_,h1 | h1 | h1 | h1⟩ | h1
      ·omega
      ·omega
      ·omega
      ·exact absurd h1.2.1 (by decide)
      ·omega
     ·exact e
    | cO k=>cases fp
    | uB=>
     rcases hw.kind with ⟨_,h1 | h1 | h1 | h1⟩ | h1
     ·omega
     ·exact absurd h1.2 (by decide)
     ·omega
     ·exact absurd h1.2.1 (by decide)
     ·omega
   refine .iW bF ha n1 (h'.move (ox hw.ys cP)) bH fun u H' hp hr=> .jG X hm (oy nb) (J3 n1 hx) (J4 n1 (fun c e=>by cases e) (Ox u H' hp) h) ?_
   rw[←qj _ _ hw.ne];exact k' u H' hp hr
 | jS dx An pH s6 cx hx k=>
  have kx:=yo.1 (show ru x.op=true by simp[ru,pH])
  have pI:kd y.op=3∧y.guard=none:=by
   rcases hw.kind with ⟨h1,_⟩ | h1
   ·omega
   ·exact⟨h1.2.1,h1.2.2.1⟩
  have n1:md.nb (gU s dx cx) y.dst=true→md.nb s y.dst=true:=fun hn=>by
   rw[rC eU fp]at hn⊢
   intro k cs hk hs
   exact hn k cs hk (Fp (fun e=>Ft k hk (by rw[An,e])) hs (fun b o e=>by cases e))
  cases k with
  | jR v' bH dz h' k'=>
   rcases bH with e | e
   ·rw[yo.2 pI.1]at e;cases e
   ·exact absurd pI.2 e
  | jG X' bH dz s4 h' k'=>have:=CY bH;omega
  | jS d hd bH dz cs h' k'=>
   refine .jS d hd bH (n1 dz) cs (h'.move U9) (.jS dx An pH ?_ cx (hx.move (J0 hw.xs (ql d hd) (hw.yx d hd))) ?_)
   ·rw[rC eU fp]at s6⊢
    intro k cE hk hs
    rcases rz hs with ⟨e,_⟩ | ⟨_,hs⟩
    ·exact hw.ne k hk (by rw[hd,e])
    ·exact s6 k cE hk hs
   ·rw[←ab9 (fun e=>hw.ne dx An (by rw[hd,e]))];exact k'
  | mo b cs cE hd bH hb kC h' k'=>have:=rB.1 bH;omega
  | fresh mk xs e bH dz h' k'=>
   refine .fresh mk xs e bH (n1 dz) (h'.move U9) fun g hg hr=> .jS dx An pH (oy s6) cx (hx.move (uE hw.xs kD)) ?_
   rw[Fq (fun e=>Ft dx e An) (fun b o e=>by cases e)];exact k' g hg hr
  | mq _ bT _ _ _ _ _=>rw[fp]at bT;cases bT
  | ou _ _ _ bT _ _ _ _=>rw[fp]at bT;cases bT
  | mY _ bT _ _ _ _ _=>rw[fp]at bT;cases bT
  | iW bF ha dz h' bH k'=>have lN:=yp eU ha;omega
 | mo b cs cE hd hm hb kC h k=>
  have:=rB.1 hm
  rcases hw.kind with ⟨h1,_⟩ | h1 <;> omega
 | fresh J5 rD ex pH s6 hx k=>
  have kx:kd x.op=3:=yo.1 (by rcases pH with e | ⟨e,_⟩ <;> simp[ru,e]at *)
  have pI:kd y.op=3∧y.guard=none:=by
   rcases hw.kind with ⟨h1,_⟩ | h1
   ·omega
   ·exact⟨h1.2.1,h1.2.2.1⟩
  obtain⟨w,hd⟩:=hH
  have fa:Den (ins H w.heap.size (whole rD ex)) (w.alloc (.cells rD.toArray ex (0,0))):=Den.acb hd rD ex
  rcases U8 pI.1 with ⟨Aq,Aw⟩ | ⟨Aq,Aw⟩
  ·
   have only:∀g,H g=none→Real (ins H g (whole rD ex))→∃d cs,y.dst=some d∧md.nb s y.dst=true∧vZ P n all y s cs∧K (gU (bn s x.dst (.val (J5 g))) d cs) (ins H g (whole rD ex)):=by
    intro g hg hr
    cases k g hg hr with
    | jR v' bH dz h' k'=>
     rcases bH with e | e
     ·rw[yo.2 pI.1]at e;cases e
     ·exact absurd pI.2 e
    | jG X' bH dz s4 h' k'=>have:=CY bH;omega
    | mo b cs cE hd bH hb kC h' k'=>have:=rB.1 bH;omega
    | mq _ bT _ _ _ _ _=>rw[fp]at bT;cases bT
    | ou _ _ _ bT _ _ _ _=>rw[fp]at bT;cases bT
    | mY _ bT _ _ _ _ _=>rw[fp]at bT;cases bT
    | iW bF ha dz h' bH k'=>have lN:=yp eU ha;omega
    | fresh mk xs e bH dz h' k'=>
     rcases bH with e | e
     ·rw[Aw]at e;cases e
     ·exact absurd e.1 eU
    | jS d hd bH dz cs h' k'=>exact⟨d,cs,hd,mr (fun cs e=>by cases e) dz,h'.move (ox hw.ys cP),k'⟩
   obtain⟨d,cs,qm,Ay,hy,_⟩:=only _ hd.fresh ⟨_,fa⟩
   refine .jS d qm Aq Ay cs hy (.fresh J5 rD ex pH ?_ (hx.move (J0 hw.xs (ql d qm) (hw.yx d qm))) fun g hg hr=> ?_)
   ·rw[rC eU fp]at s6⊢
    intro k cE hk hs
    rcases rz hs with ⟨e,_⟩ | ⟨_,hs⟩
    ·exact hw.ne k hk (by rw[qm,e])
    ·exact s6 k cE hk hs
   ·obtain⟨d',cE,Fu,_,uG,hk⟩:=only g hg hr
    obtain rfl:d'=d:=by rw[qm]at Fu;cases Fu;rfl
    obtain rfl:=hy.uniq hS uG
    rw[←Fq (fun e=>hw.ne _ e qm) (fun b o e=>by cases e)];exact hk
  ·have only:∀g,H g=none→Real (ins H g (whole rD ex))→∃mk xs e,md.nb s y.dst=true∧uA P n all y s mk xs e∧∀g',ins H g (whole rD ex) g'=none→Real (ins (ins H g (whole rD ex)) g' (whole xs e))→K (bn (bn s x.dst (.val (J5 g))) y.dst (.val (mk g'))) (ins (ins H g (whole rD ex)) g' (whole xs e)):=by
    intro g hg hr
    cases k g hg hr with
    | jR v' bH dz h' k'=>
     rcases bH with e | e
     ·rw[yo.2 pI.1]at e;cases e
     ·exact absurd pI.2 e
    | jG X' bH dz s4 h' k'=>have:=CY bH;omega
    | mo b cs cE hd bH hb kC h' k'=>have:=rB.1 bH;omega
    | mq _ bT _ _ _ _ _=>rw[fp]at bT;cases bT
    | ou _ _ _ bT _ _ _ _=>rw[fp]at bT;cases bT
    | mY _ bT _ _ _ _ _=>rw[fp]at bT;cases bT
    | iW bF ha dz h' bH k'=>have lN:=yp eU ha;omega
    | jS d hd bH dz cs h' k'=>rw[Aq]at bH;cases bH
    | fresh mk xs e bH dz h' k'=>exact⟨mk,xs,e,mr (fun cs e=>by cases e) dz,h'.move (ox hw.ys cP),k'⟩
   obtain⟨mk,xs,e,Ay,hy,_⟩:=only _ hd.fresh ⟨_,fa⟩
   refine .fresh mk xs e (.inl Aw) Ay hy fun g' iB dQ=> .fresh J5 rD ex pH (oy s6) (hx.move (uE hw.xs kD)) fun g hg hr=> ?_
   have aZ:g≠g':=fun e'=>by subst e';rw[bD]at hg;cases hg
   have qn:H g=none:=by rw[a6 _ _ aZ]at hg;exact hg
   have s7:Real (ins H g (whole rD ex)):=by
    obtain⟨w1,gq⟩:=hr
    rw[CZ _ _ _ aZ.symm]at gq
    exact⟨w1,gq.le (Heap.bB _ (by rw[a6 _ _ aZ.symm];exact iB))⟩
   obtain⟨mk',qi,e',_,uG,hk⟩:=only g qn s7
   obtain⟨rfl,rfl,rfl⟩:=hy.uniq hS uG
   have:=hk g' (by rw[a6 _ _ aZ.symm];exact iB) (by rw[CZ _ _ _ aZ];exact hr)
   rw[←qj _ _ hw.ne,CZ _ _ _ aZ.symm];exact this
 | mq _ bT _ _ _ _ _=>rw[fp]at bT;cases bT
 | ou _ _ _ bT _ _ _ _=>rw[fp]at bT;cases bT
 | mY _ bT _ _ _ _ _=>rw[fp]at bT;cases bT
 | iW Oy Oz s6 hx pH k=>
  have lN:=yp eU Oz
  obtain⟨v0,Vd,Az,s8⟩:=hx.some hS hH
  rcases hw.kind with ⟨kx0,jt⟩ | ⟨_,ace,acf,_⟩
  ·omega
  ·have pI:kd y.op=3∧y.guard=none:=⟨ace,acf⟩
   rcases U8 pI.1 with ⟨Aq,Aw⟩ | ⟨Aq,Aw⟩
   ·have only:∀v H',Oy v H'→Real H'→∃d cs,y.dst=some d∧md.nb s y.dst=true∧vZ P n all y s cs∧K (gU (bn s x.dst (.val v)) d cs) H':=by
     intro v H' hp hr
     cases k v H' hp hr with
     | jR v' bH dz h' k'=>
      rcases bH with e | e
      ·rw[yo.2 pI.1]at e;cases e
      ·exact absurd pI.2 e
     | jG X' bH dz s4 h' k'=>have:=CY bH;omega
     | mo b cs cE hd bH hb kC h' k'=>have:=rB.1 bH;omega
     | mq _ bT _ _ _ _ _=>rw[fp]at bT;cases bT
     | ou _ _ _ bT _ _ _ _=>rw[fp]at bT;cases bT
     | mY _ bT _ _ _ _ _=>rw[fp]at bT;cases bT
     | iW bF ha dz h' bH k'=>have lN:=yp eU ha;omega
     | fresh mk xs e bH dz h' k'=>
      rcases bH with e | e
      ·rw[Aw]at e;cases e
      ·exact absurd e.1 eU
     | jS d hd bH dz cs h' k'=>exact⟨d,cs,hd,mr (fun cs e=>by cases e) dz,h'.move (ox hw.ys cP),k'⟩
    obtain⟨d,cs,qm,Ay,hy,_⟩:=only v0 Vd Az s8
    refine .jS d qm Aq Ay cs hy (.iW Oy Oz ?_ (hx.move (J0 hw.xs (ql d qm) (hw.yx d qm))) pH fun v H' hp hr=> ?_)
    ·rw[rC eU fp]at s6⊢
     intro k cE hk hs
     rcases rz hs with ⟨e,_⟩ | ⟨_,hs⟩
     ·exact hw.ne k hk (by rw[qm,e])
     ·exact s6 k cE hk hs
    ·obtain⟨d',cE,Fu,_,uG,hk⟩:=only v H' hp hr
     obtain rfl:d'=d:=by rw[qm]at Fu;cases Fu;rfl
     obtain rfl:=hy.uniq hS uG
     rw[←Fq (fun e=>hw.ne _ e qm) (fun b o e=>by cases e)];exact hk
   ·have only:∀v H',Oy v H'→Real H'→∃mk xs e,md.nb s y.dst=true∧uA P n all y s mk xs e∧∀g',H' g'=none→Real (ins H' g' (whole xs e))→K (bn (bn s x.dst (.val v)) y.dst (.val (mk g'))) (ins H' g' (whole xs e)):=by
     intro v H' hp hr
     cases k v H' hp hr with
     | jR v' bH dz h' k'=>
      rcases bH with e | e
      ·rw[yo.2 pI.1]at e;cases e
      ·exact absurd pI.2 e
     | jG X' bH dz s4 h' k'=>have:=CY bH;omega
     | mo b cs cE hd bH hb kC h' k'=>have:=rB.1 bH;omega
     | mq _ bT _ _ _ _ _=>rw[fp]at bT;cases bT
     | ou _ _ _ bT _ _ _ _=>rw[fp]at bT;cases bT
     | mY _ bT _ _ _ _ _=>rw[fp]at bT;cases bT
     | iW bF ha dz h' bH k'=>have lN:=yp eU ha;omega
     | jS d hd bH dz cs h' k'=>rw[Aq]at bH;cases bH
     | fresh mk xs e bH dz h' k'=>exact⟨mk,xs,e,mr (fun cs e=>by cases e) dz,h'.move (ox hw.ys cP),k'⟩
    obtain⟨mk,xs,e,Ay,hy,_⟩:=only v0 Vd Az s8
    refine .fresh mk xs e (.inl Aw) Ay hy fun g hg hr=> .iW _ Oz (oy s6) ((hx.move (uE hw.xs kD)).frame hg) ?_ fun v sX AA Ve=> ?_
    ·cases md with
     | plain=>exact absurd rfl eU
     | pE st=>
      refine⟨pH.1,fun v sX AA=> ?_⟩
      obtain⟨H',hp,iB,rfl⟩:=AA
      exact Heap.le.qk (pH.2 v H' hp) iB
     | bL=>
      refine⟨pH.1,fun v sX AA=> ?_⟩
      obtain⟨H',hp,iB,rfl⟩:=AA
      exact Heap.le.qk (pH.2 v H' hp) iB
     | gD=>
      rcases pH with e' | e'
      ·exact .inl e'
      ·refine .inr fun v sX AA=> ?_
       obtain⟨H',hp,iB,rfl⟩:=AA
       exact Heap.le.qk (e' v H' hp) iB
     | uB=>trivial
     | cO k=>trivial
    ·obtain⟨H',hp,iB,rfl⟩:=AA
     have s7:Real H':=by
      obtain⟨w1,gq⟩:=Ve
      exact⟨w1,gq.le (Heap.bB _ iB)⟩
     obtain⟨mk',qi,e',_,uG,hk⟩:=only v H' hp s7
     obtain⟨rfl,rfl,rfl⟩:=hy.uniq hS uG
     rw[←qj _ _ hw.ne];exact hk g iB Ve
theorem Vf(d:Option Nat):js s d=true↔∀k cs,d=some k→s k≠some (.box cs):=by
 cases d with
 | none=>simp[js]
 | some d=>
  have e:js s (some d)=(match s d with | some (.box _)=>false | _=>true):=rfl
  rw[e]
  cases hs:s d with
  | none=>exact⟨(fun _ k cs hk h=>by cases hk;rw[hs]at h;cases h),fun _=>rfl⟩
  | some z=>
   cases z with
   | val v=>exact⟨(fun _ k cs hk h=>by cases hk;rw[hs]at h;cases h),fun _=>rfl⟩
   | box c=>exact⟨(fun h=>by cases h),fun h=>absurd hs (h d c rfl)⟩
   | ref b o=>exact⟨(fun _ k cs hk h=>by cases hk;rw[hs]at h;cases h),fun _=>rfl⟩
theorem uH(hK:md.ot=true){d:Option Nat}(h:md.nb s d=true):False:=by
 cases md <;> simp[Mode.ot,Mode.nb]at hK h
theorem gV.acg(hK:md.ot=true)(hw:C0 md all x y)(Ak:∀d,x.dst=some d→d<n)(ql:∀d,y.dst=some d→d<n)
  (h:gV P n all md x s H (fun s1 H1=>gV P n all md y s1 H1 K)):gV P n all md y s H (fun s2 H2=>gV P n all md x s2 H2 K):=by
 have cP:∀d,x.dst=some d→d<n∧d∉y.looksAt all:=fun d hd=>⟨Ak d hd,hw.xy d hd⟩
 have kD:∀d,y.dst=some d→d<n∧d∉x.looksAt all:=fun d hd=>⟨ql d hd,hw.yx d hd⟩
 have Ft:∀d,y.dst=some d→x.dst≠some d:=fun d hd e=>hw.ne d e hd
 have kx:kd x.op=0:=by
  rcases hw.kind with h1 | h1
  ·exact h1.1
  ·rw[hK]at h1;exact absurd h1.2.2.2 (by decide)
 have ky:kd y.op≠2:=fun e=>by
  rcases hw.kind with ⟨_,h1 | h1 | h1 | h1⟩ | h1
  ·omega
  ·omega
  ·omega
  ·have:=h1.2.1
   cases md <;> simp[Mode.ot,Mode.Oq]at hK this
  ·omega
 have mr:∀{v:Value},js (bn s x.dst (.val v)) y.dst=true→js s y.dst=true:=fun{v} hn=>by
  rw[Vf]at hn⊢
  intro k cs hk hs
  exact hn k cs hk (by rw[Fs (Ft k hk)];exact hs)
 have oy:∀{v:Value},js s x.dst=true→js (bn s y.dst (.val v)) x.dst=true:=fun{v} hn=>by
  rw[Vf]at hn⊢
  intro k cs hk hs
  exact hn k cs hk (by rw[Fs (hw.ne k hk)]at hs;exact hs)
 cases h with
 | jR v hm nb h k=>exact(uH hK nb).elim
 | jG X hm nb hx h k=>exact(uH hK nb).elim
 | jS d hd hm nb cs h k=>exact(uH hK nb).elim
 | mo b cs cE hd hm hb kC h k=>have:=rB.1 hm;omega
 | fresh mk xs e hm nb h k=>exact(uH hK nb).elim
 | iW bF ha nb h hm k=>exact(uH hK nb).elim
 | ou mk xs e hk hm nb h k=>have:=yo.1 (show ru x.op=true by simp[ru,hm]);omega
 | mY bF hk ha nb h hm k=>omega
 | mq v hk hm nb hc h k=>
  cases k with
  | jR v hm nb h k=>exact(uH hK nb).elim
  | jG X hm nb hx h k=>exact(uH hK nb).elim
  | jS d hd hm nb cs h k=>exact(uH hK nb).elim
  | mo b cs cE hd hm hb kC h k=>exact absurd (rB.1 hm) ky
  | fresh mk xs e hm nb h k=>exact(uH hK nb).elim
  | iW bF ha nb h hm k=>exact(uH hK nb).elim
  | mq v' iK bH dz jH h' k'=>
   refine .mq v' iK bH (mr dz) hc (h'.move (ox hw.ys cP)) (.mq v hk hm (oy nb) hc (h.move (uE hw.xs kD)) ?_)
   rw[←qj _ _ hw.ne];exact k'
  | ou mk xs e iK bH dz h' k'=>
   refine .ou mk xs e iK bH (mr dz) (h'.move (ox hw.ys cP)) fun g hg hr=> .mq v hk hm (oy nb) (fun ad u hu=>cN (Heap.bB _ hg) (hc ad u hu)) (h.move (uE hw.xs kD)) ?_
   rw[←qj _ _ hw.ne];exact k' g hg hr
  | mY bF iK Fv dz h' bH k'=>
   have ach:∀u H',bF u H'→md.fM H':=by
    rcases bH with e | e
    ·exact absurd (rB.1 e) ky
    ·exact e
   refine .mY bF iK Fv (mr dz) (h'.move (ox hw.ys cP)) bH fun u H' hp hr=> .mq v hk hm (oy nb) (ach u H' hp) (h.move (uE hw.xs kD)) ?_
   rw[←qj _ _ hw.ne];exact k' u H' hp hr
theorem gV.swap(eU:md≠.plain)(hw:C0 md all x y)(Ak:∀d,x.dst=some d→d<n)(ql:∀d,y.dst=some d→d<n)
  (hS:∃a,gC n s a) (hH:Real H) (h:gV P n all md x s H (fun s1 H1=>gV P n all md y s1 H1 K)):gV P n all md y s H (fun s2 H2=>gV P n all md x s2 H2 K):=by
 cases hK:md.ot with
 | false=>exact gV.acd eU hK hw Ak ql hS hH h
 | true=>exact gV.acg hK hw Ak ql h
end
end Go.au
namespace Go.au
section
variable (P:Program) (n:Nat) (all:Array Oper) (md:Mode)
def aP:List Oper→St→Heap→(St→Heap→Prop)→Prop
 | [],s,H,K=>K s H
 | o::r,s,H,K=>gV P n all md o s H (fun s' H'=>aP r s' H' K)
end
section
variable {P:Program} {n:Nat} {all:Array Oper} {md:Mode} {s:St} {H:Heap} {K K':St→Heap→Prop}
theorem gV.aci{o:Oper}(rA:∀d,o.dst=some d→d<n)(hS:∃a,gC n s a)(hH:Real H)(h:gV P n all md o s H K)
  (hk:∀s H,(∃a,gC n s a)→Real H→K s H→K' s H):gV P n all md o s H K':=by
 obtain⟨a,ha⟩:=hS
 have AB:∀X:Slot,(∃a,gC n (bn s o.dst X) a):=fun X=>by
  obtain⟨d⟩ | hd:o.dst=none∨∃d,o.dst=some d:=by cases o.dst <;> simp
  ·rw[‹o.dst=none›];exact⟨a,ha⟩
  ·obtain⟨d,hd⟩:=hd
   rw[hd]
   have key:∀u,(∀v,X = .val v→u=v)→∃a,gC n (bn s (some d) X) a:=fun u hu=>by
    refine⟨a.put (some d) u,by rw[Act.CV];exact ha.size,fun t v ht=> ?_⟩
    by_cases e:t=d
    ·subst e
     rw[show bn s (some t) X=put s t X from rfl,ig]at ht
     simp only[Option.some.injEq]at ht
     rw[Act.yn _ _ _ (by rw[ha.size];exact rA t hd),hu v ht]
    ·rw[show bn s (some d) X=put s d X from rfl,fD _ _ e]at ht
     rw[Act.rp _ _ e];exact ha.at_ t v ht
   cases X with
   | val v=>exact key v (fun v' h=>by cases h;rfl)
   | box cs=>exact key undef (fun v' h=>by cases h)
   | ref b off=>exact key undef (fun v' h=>by cases h)
 cases h with
 | jR v hm nb h k=>exact .jR v hm nb h (hk _ _ (AB _) hH k)
 | jG x hm nb hx h k=>exact .jG x hm nb hx h (hk _ _ (AB _) hH k)
 | jS d hd hm nb cs h k=>exact .jS d hd hm nb cs h (hk _ _ ⟨a,ha.size,fun t v ht=>ha.at_ t v (Ou ht).2⟩ hH k)
 | mo b cs cE hd hm hb kC h k=>
  refine .mo b cs cE hd hm hb kC h (hk _ _ ⟨a,ha.size,fun t v ht=> ?_⟩ hH k)
  by_cases e:t=b
  ·subst e;rw[ig]at ht;cases ht
  ·rw[fD _ _ e]at ht;exact ha.at_ t v ht
 | fresh mk xs e hm nb h k=>exact .fresh mk xs e hm nb h fun g hg hr=>hk _ _ (AB _) hr (k g hg hr)
 | iW bF Fv nb h hm k=>exact .iW bF Fv nb h hm fun v H' hp hr=>hk _ _ (AB _) hr (k v H' hp hr)
 | mq v bT hm nb hc h k=>exact .mq v bT hm nb hc h (hk _ _ (AB _) hH k)
 | ou mk xs e bT hm nb h k=>exact .ou mk xs e bT hm nb h fun g hg hr=>hk _ _ (AB _) hr (k g hg hr)
 | mY bF bT Fv nb h hm k=>exact .mY bF bT Fv nb h hm fun v H' hp hr=>hk _ _ (AB _) hr (k v H' hp hr)
theorem aP.front(eU:md≠.plain){y:Oper}{Y:List Oper}(ql:∀d,y.dst=some d→d<n):∀(X:List Oper)(s:St)(H:Heap),(∀x,x∈X→C0 md all x y)→(∀x,x∈X→∀d,x.dst=some d→d<n)→
  (∃a,gC n s a)→Real H→aP P n all md (X++y::Y) s H K→aP P n all md (y::(X++Y)) s H K:=by
 intro X
 induction X with
 | nil=>intro s H _ _ _ _ h;exact h
 | cons x X ih=>
  intro s H hw hn hS hH h
  have h1:gV P n all md x s H (fun s1 H1=>gV P n all md y s1 H1 (fun s2 H2=>aP P n all md (X++Y) s2 H2 K)):=
   gV.aci (hn x (List.mem_cons_self ..)) hS hH h fun s1 H1 hS1 Fw h1=>
    ih s1 H1 (fun z hz=>hw z (List.mem_cons_of_mem _ hz)) (fun z hz=>hn z (List.mem_cons_of_mem _ hz)) hS1 Fw h1
  exact gV.swap eU (hw x (List.mem_cons_self ..)) (hn x (List.mem_cons_self ..)) ql hS hH h1
end
theorem Oper.Vg{P:Program}{o:Oper}{a:Act}{w:World}{K:Act→World→Prop}{Q:Exit→Act→World→Prop}(h:o.wp P a w K (fun _ _ _=>False)):o.wp P a w K Q:=by
 unfold Oper.wp at h⊢
 generalize (execOp a.eval o).run P w=r at h⊢
 cases r with
 | ok m w'=>
  cases m <;> simp only[Oper.upon]at h⊢<;> first
   | exact h
   | exact h.mono fun e Fk he=>by
      cases e with
      | returned v=>exact he
      | panicked c=>exact he.elim
      | outgrown=>obtain⟨_,_,hh⟩:=he;exact hh.elim
 | halt x w'=>cases x <;> simp only[Oper.upon]at h⊢
section
variable {P:Program} {n:Nat} {w0:World} {H0:Heap} {Q:Exit→Act→World→Prop} {K:St→Heap→Prop}
theorem Fy{a b:Nat}(h:Nat.blt a b=true):a<b:=Nat.le_of_ble_eq_true h
def Fz(n:Nat)(l:List Oper):Bool:=l.all fun o=>match o.dst with | some d=>Nat.blt d n | none=>true
theorem Vh{l:List Oper}(h:Fz n l=true):∀o,o∈l→∀d,o.dst=some d→d<n:=fun o ho d hd=>by
 have:=List.all_eq_true.1 h o ho
 rw[hd]at this
 exact Fy this
theorem aP.wpList{all:Array Oper}(hQ:∀s H a w,Rel w0 H0 n s H a w→K s H→Q .normal a w):∀(l:List Oper)(s:St)(H:Heap)(a:Act)(w:World),(∀o,o∈l→∀d,o.dst=some d→d<n)→
  Rel w0 H0 n s H a w→aP P n all .plain l s H K→wpList P all Q l a w:=by
 intro l
 induction l with
 | nil=>intro s H a w _ hR h;exact hQ s H a w hR h
 | cons o l ih=>
  intro s H a w hn hR h
  have hs:=gV.sound hR (hn o (List.mem_cons_self ..)) h
  unfold Go.wpList
  rcases hs with ⟨h1,h2⟩ | ⟨h1,s',H',dM,h2⟩
  ·rw[if_pos h1]
   refine .inl (Oper.Vg (Oper.wp_mono (fun a' w' hh=> ?_) h2))
   obtain⟨s',H',dM,hk⟩:=hh
   exact ih s' H' a' w' (fun z hz=>hn z (List.mem_cons_of_mem _ hz)) dM hk
  ·rw[if_neg (by rw[h1];simp)]
   exact ih s' H' _ w (fun z hz=>hn z (List.mem_cons_of_mem _ hz)) dM h2
end
def fc(l:List Oper)(i:Nat):Oper:=l[i]?.getD default
def pJ(l:List Oper):Nat→Nat→Nat→Bool
 | 0,_,_=>false
 | f+1,i,j=>(fc l j).after.any fun e=>Region.binds .any e&&(Nat.beq e.on i||pJ l f i e.on)
def AD(md:Mode)(l:List Oper):List Nat→Bool
 | []=>true
 | i::r=>r.all (fun j=>pJ l l.length i j||Sw md l.toArray (fc l i) (fc l j))&&AD md l r
def FA:List Nat→Bool
 | []=>true
 | i::r=> !r.contains i&&FA r
def C1(n:Nat)(md:Mode)(l:List Oper)(perm:List Nat):Bool:=
 !md.U3&&Fz n l&&Nat.beq perm.length l.length&&perm.all (fun i=>Nat.blt i l.length)&&FA perm&&AD md l perm&&(List.range l.length).all (fun i=>perm.contains i) &&
 (List.range l.length).all fun i=>(fc l i).after.all fun e=> !Region.binds .any e||Nat.blt e.on i
section
variable {P:Program} {n:Nat} {w0:World} {H0:Heap} {Q:Exit→Act→World→Prop} {K:St→Heap→Prop} {md:Mode} {l:List Oper}
theorem J6{i:Nat}(h:i<l.length):l[i]? = some (fc l i):=by
 unfold fc;rw[List.getElem?_eq_getElem h];rfl
theorem acj{kZ:Array Bool}(J7:∀i,kZ.getD i false=true→∀e,e∈(fc l i).after→Region.binds .any e=true→kZ.getD e.on false=true):
  ∀f i j,(∀e,e∈(fc l j).after→Region.binds .any e=true→kZ.getD e.on false=true)→pJ l f i j=true→kZ.getD i false=true:=by
 intro f
 induction f with
 | zero=>intro i j _ h;cases h
 | succ f ih=>
  intro i j hj h
  simp only[pJ,Array.any_eq_true']at h
  obtain⟨e,he,h⟩:=h
  simp only[Bool.and_eq_true,Bool.or_eq_true]at h
  obtain⟨hb,h⟩:=h
  rcases h with h | h
  ·have:=Nat.eq_of_beq_eq_true h
   rw[←this];exact hj e he hb
  ·exact ih i e.on (J7 _ (hj e he hb)) h
theorem ack{r:List Nat}(h:AD md l r=true):r.Pairwise fun i j=>pJ l l.length i j=true∨Sw md l.toArray (fc l i) (fc l j)=true:=by
 induction r with
 | nil=>exact .nil
 | cons i r ih=>
  simp only[AD,Bool.and_eq_true,List.all_eq_true,Bool.or_eq_true]at h
  exact .cons (fun j hj=>h.1 j hj) (ih h.2)
theorem acm{r:List Nat}(h:FA r=true):r.Nodup:=by
 induction r with
 | nil=>exact .nil
 | cons i r ih=>
  simp only[FA,Bool.and_eq_true,Bool.not_eq_true',List.contains_eq_mem,decide_eq_false_iff_not]at h
  exact List.nodup_cons.2 ⟨h.1,ih h.2⟩
theorem Vi{A:Array Bool}{i j:Nat}{b:Bool}(hi:i<A.size):(A.setIfInBounds i true).getD j b=if j=i then true else A.getD j b:=by
 simp only[Array.getD_eq_getD_getElem?,Array.getElem?_setIfInBounds]
 by_cases e:i=j
 ·subst e;simp[hi]
 ·rw[if_neg e,if_neg (Ne.symm e)]
theorem acn(eU:md≠.plain)(hn:∀o,o∈l→∀d,o.dst=some d→d<n)(Vj:∀i,i<l.length→∀e,e∈(fc l i).after→Region.binds .any e=true→e.on<i)
  (hQ:∀s H a w,Rel w0 H0 n s H a w→K s H→Q .normal a w):
  ∀(fuel:Nat)(r:List Nat)(kZ:Array Bool)(s:St)(H:Heap)(a:Act)(w:World),(∀i,i∈r↔i<l.length∧kZ.getD i true=false)→r.Nodup→kZ.size=l.length→
  (r.Pairwise fun i j=>pJ l l.length i j=true∨Sw md l.toArray (fc l i) (fc l j)=true)→
  (∀i,kZ.getD i false=true→∀e,e∈(fc l i).after→Region.binds .any e=true→kZ.getD e.on false=true)→
  r.length≤fuel→Rel w0 H0 n s H a w→aP P n l.toArray md (r.map (fc l)) s H K→wpAny P .any l.toArray Q fuel kZ a w:=by
 intro fuel
 induction fuel with
 | zero=>
  intro r kZ s H a w hr _ cK _ _ hlen hR h
  obtain rfl:r = []:=List.eq_nil_of_length_eq_zero (by omega)
  refine⟨?_,hQ s H a w hR h⟩
  unfold Region.ready
  rw[List.filter_eq_nil_iff]
  intro i hi hp
  simp only[List.mem_range,List.size_toArray]at hi
  simp only[Bool.and_eq_true,Bool.not_eq_true']at hp
  exact absurd ((hr i).2 ⟨hi,hp.1⟩) (by simp)
 | succ fuel ih=>
  intro r kZ s H a w hr dT cK yq J7 hlen hR h
  have oz:∀i,i∈Region.ready .any l.toArray kZ↔i∈r∧∀e,e∈(fc l i).after→Region.binds .any e=true→kZ.getD e.on false=true:=by
   intro i
   unfold Region.ready
   rw[List.mem_filter,hr]
   simp only[List.mem_range,List.size_toArray,Bool.and_eq_true,Bool.not_eq_true',List.getElem?_toArray]
   constructor
   ·rintro⟨h1,h2,h3⟩
    rw[J6 h1]at h3
    simp only[Option.map_some,Option.getD_some,Array.all_eq_true',Bool.or_eq_true,Bool.not_eq_true']at h3
    refine⟨⟨h1,h2⟩,fun e he hb=> ?_⟩
    rcases h3 e he with h4 | h4
    ·rw[hb]at h4;cases h4
    ·exact h4
   ·rintro⟨⟨h1,h2⟩,h3⟩
    refine⟨h1,h2,?_⟩
    rw[J6 h1]
    simp only[Option.map_some,Option.getD_some,Array.all_eq_true',Bool.or_eq_true,Bool.not_eq_true']
    intro e he
    cases hb:Region.binds .any e with
    | false=>exact .inl rfl
    | true=>exact .inr (h3 e he hb)
  have OA:∀j,j<l.length→j∉r→kZ.getD j false=true:=by
   intro j hj hjr
   have:kZ.getD j true≠false:=fun hf=>hjr ((hr j).2 ⟨hj,hf⟩)
   simp only[Array.getD_eq_getD_getElem?]at this⊢
   rw[Array.getElem?_eq_getElem (by omega)]at this⊢
   simpa using this
  refine⟨fun he=> ?_,fun i hi=> ?_⟩
  ·
   have s8:r = []:=by
    cases hc:r with
    | nil=>rfl
    | cons z r'=>
     exfalso
     have key:∀m,∀i,i≤m→i∈r→False:=by
      intro m
      induction m with
      | zero=>
       intro i aT nL
       have uI:i∈Region.ready .any l.toArray kZ:=(oz i).2 ⟨nL,fun e C2 hb=>by
        have:=Vj i ((hr i).1 nL).1 e C2 hb;omega⟩
       rw[he]at uI;cases uI
      | succ m ihm=>
       intro i aT nL
       have m6:=((hr i).1 nL).1
       have uI:i∈Region.ready .any l.toArray kZ:=(oz i).2 ⟨nL,fun e C2 hb=>by
        have bI:=Vj i m6 e C2 hb
        exact OA e.on (by omega) (fun h'=>ihm e.on (by omega) h')⟩
       rw[he]at uI;cases uI
     exact key z z (Nat.le_refl _) (by rw[hc];exact List.mem_cons_self ..)
   subst s8
   exact hQ s H a w hR h
  ·obtain⟨nL,Vk⟩:=(oz i).1 hi
   have m6:=((hr i).1 nL).1
   obtain⟨X,Y,rfl⟩:=List.append_of_mem nL
   have kC:∀x,x∈X→C0 md l.toArray (fc l x) (fc l i):=by
    intro x hx
    have hp:pJ l l.length x i=true∨Sw md l.toArray (fc l x) (fc l i)=true:=by
     rw[List.pairwise_append]at yq
     exact yq.2.2 x hx i (List.mem_cons_self ..)
    rcases hp with hp | hp
    ·exfalso
     have h1:=acj J7 l.length x i Vk hp
     have h2:=((hr x).1 (List.mem_append_left _ hx)).2
     simp only[Array.getD_eq_getD_getElem?]at h1 h2
     cases hg:kZ[x]? with
     | none=>rw[hg]at h1;simp at h1
     | some b=>rw[hg]at h1 h2;simp at h1 h2;rw[h1]at h2;cases h2
    ·exact Sw.out hp
   have OB:∀j,j<l.length→∀d,(fc l j).dst=some d→d<n:=fun j hj=>hn _ (List.mem_of_getElem? (J6 hj))
   obtain⟨G,hl,_⟩:=hR.fits
   have aco:=aP.front (P:=P) eU (y:=fc l i) (Y:=Y.map (fc l)) (K:=K) (OB i m6) (X.map (fc l)) s H
    (fun x hx=>by obtain⟨j,hj,rfl⟩:=List.mem_map.1 hx;exact kC j hj)
    (fun x hx=>by obtain⟨j,hj,rfl⟩:=List.mem_map.1 hx;exact OB j ((hr j).1 (List.mem_append_left _ hj)).1) ⟨a,hl.aK⟩ ⟨w,hl.den⟩ (by simpa using h)
   have hs:=gV.sound hR (OB i m6) aco
   have Vl:(X++Y).Nodup∧i∉X++Y:=by
    have:=(List.perm_middle (a:=i) (l₁:=X) (l₂:=Y)).nodup_iff.1 dT
    rw[List.nodup_cons]at this
    exact⟨this.2,this.1⟩
   have next:∀s' H' a' w',Rel w0 H0 n s' H' a' w'→aP P n l.toArray md (X.map (fc l)++Y.map (fc l)) s' H' K→wpAny P .any l.toArray Q fuel (kZ.setIfInBounds i true) a' w':=by
    intro s' H' a' w' dM hk
    refine ih (X++Y) _ s' H' a' w' (fun j=> ?_) Vl.1 (by simpa using cK) ?_ (fun j hj e C2 hb=> ?_) ?_ dM (by simpa using hk)
    ·rw[Vi (by omega)]
     by_cases e:j=i
     ·subst e
      simp only[if_true]
      exact⟨fun h'=>absurd h' Vl.2,fun h'=>by cases h'.2⟩
     ·rw[if_neg e,←hr]
      simp only[List.mem_append,List.mem_cons]
      constructor
      ·rintro(h' | h')
       ·exact .inl h'
       ·exact .inr (.inr h')
      ·rintro(h' | h' | h')
       ·exact .inl h'
       ·exact absurd h' e
       ·exact .inr h'
    ·exact yq.sublist (List.Sublist.append (List.Sublist.refl _) (List.sublist_cons_self ..))
    ·rw[Vi (by omega)]at hj⊢
     by_cases e2:e.on=i
     ·rw[if_pos e2]
     ·rw[if_neg e2]
      by_cases e3:j=i
      ·subst e3;exact Vk e C2 hb
      ·rw[if_neg e3]at hj;exact J7 j hj e C2 hb
    ·simp only[List.length_append,List.length_cons]at hlen⊢;omega
   unfold wpOp
   rw[show l.toArray[i]? = some (fc l i)from by rw[List.getElem?_toArray];exact J6 m6]
   simp only
   rcases hs with ⟨h1,h2⟩ | ⟨h1,s',H',dM,h2⟩
   ·rw[if_pos h1]
    refine .inl (Oper.Vg (Oper.wp_mono (fun a' w' hh=> ?_) h2))
    obtain⟨s',H',dM,hk⟩:=hh
    exact next s' H' a' w' dM hk
   ·rw[if_neg (by rw[h1];simp)]
    exact next s' H' _ w dM h2
theorem acp{id:Nat}{perm:List Nat}{s:St}{H:Heap}{a:Act}{w:World}(hf:P.follows .mixedOrders=true)(hc:C1 n md l perm=true)
  (hQ:∀s H a w,Rel w0 H0 n s H a w→K s H→Q .normal a w) (hR:Rel w0 H0 n s H a w) (h:aP P n l.toArray md (perm.map (fc l)) s H K):(Code.region id l.toArray true).wp P Q a w:=by
 simp only[C1,Bool.and_eq_true,List.all_eq_true]at hc
 obtain⟨⟨⟨⟨⟨⟨⟨h1,h2⟩,h3⟩,h4⟩,h5⟩,h6⟩,h8⟩,h7⟩:=hc
 have h1:md≠.plain:=fun e=>by rw[e]at h1;cases h1
 have h3:=Nat.eq_of_beq_eq_true h3
 have h4:∀i,i∈perm→i<l.length:=fun i hi=>Fy (h4 i hi)
 have h5:=acm h5
 have gW:∀i,i<l.length→i∈perm:=by
  intro i hi
  simpa using h8 i (List.mem_range.2 hi)
 refine wp_region_any hf ?_
 refine acn h1 (Vh h2) (fun i hi e he hb=> ?_) hQ l.toArray.size perm _ s H a _ (fun i=> ?_) h5 (by simp) (ack h6) (fun i hi=> ?_) (by simp[h3]) ?_ h
 ·have:=h7 i (List.mem_range.2 hi)
  rw[Array.all_eq_true']at this
  have:=this e he
  simp only[Bool.or_eq_true,Bool.not_eq_true']at this
  rcases this with h' | h'
  ·rw[hb]at h';cases h'
  ·exact Fy h'
 ·constructor
  ·intro hi
   refine⟨h4 i hi,?_⟩
   simp[Array.getD_eq_getD_getElem?,h4 i hi]
  ·exact fun hi=>gW i hi.1
 ·exfalso
  simp only[Array.getD_eq_getD_getElem?,Array.getElem?_replicate]at hi
  split at hi <;> simp at hi
 ·obtain⟨G,hl,hb⟩:=hR.fits
  exact⟨hR.defers,⟨G,⟨hl.aK,hl.boxes,hl.inj,hl.refs,hl.den⟩,hb⟩,⟨hR.fx.os,hR.fx.tape,hR.fx.output,hR.fx.size,hR.fx.keep,hR.fx.form⟩⟩
end
end Go.au
