/- Part 0 of the proof: Eng1, Eng2, Eng3, Eng4, Eng5. -/
import Derived.Orders
import Derived.Tactics
import Derived.Maps.AppendAt
import Derived.Laws.OwnMore
import Derived.Laws.MakeOwn
import Derived.Below
set_option linter.unusedVariables false
namespace Go.aq
inductive Slot where
 | val (v:Value)
 | box (cs:List Value)
 | ref (b off:Nat)
abbrev St:=Nat→Option Slot
def emp:St:=fun _=>none
def put(s:St)(d:Nat)(x:Slot):St:=fun t=>cond (Nat.beq t d) (some x) (s t)
def ig(s:St)(d:Nat)(cs:List Value):St:=fun t=>
 cond (Nat.beq t d) (some (.box cs)) (match s t with | some (.ref b o)=>cond (Nat.beq b d) none (some (.ref b o)) | x=>x)
def bD(s:St)(d:Option Nat)(x:Slot):St:=match d with | some d=>put s d x | none=>s
theorem iz(s:St)(d:Nat)(x:Slot):put s d x d=some x:=by simp[put]
theorem fG(s:St){d t:Nat}(x:Slot)(h:t≠d):put s d x t=s t:=by
 have:Nat.beq t d=false:=by
  cases hb:Nat.beq t d with
  | false=>rfl
  | true=>exact absurd (Nat.eq_of_beq_eq_true hb) h
 simp[put,this]
theorem put_comm(s:St){d e:Nat}(x y:Slot)(h:d≠e):put (put s d x) e y=put (put s e y) d x:=by
 funext t
 by_cases h1:t=d
 ·subst h1;rw[fG _ _ h,iz,iz]
 ·by_cases h2:t=e
  ·subst h2;rw[iz,fG _ _ h1,iz]
  ·rw[fG _ _ h2,fG _ _ h1,fG _ _ h1,fG _ _ h2]
structure Ent where
 xs:List Value
 size:Nat
 elem:TypeId
 own:Bool
def Ent.of(e:Ent)(o:Obj):Prop:=
 ∃(c:Array Value)(fz:Nat×Nat),o = .cells c e.elem fz∧c.size=e.size∧(∀(i:Nat)(v:Value),e.xs[i]? = some v→c[i]? = some v)∧(e.own=true→fz=(0,0))
abbrev Heap:=Nat→Option Ent
def Den(H:Heap)(w:World):Prop:=∀g e,H g=some e→∃o,w.heap[g]? = some o∧e.of o
def ins(H:Heap)(g:Nat)(e:Ent):Heap:=fun k=>if k=g then some e else H k
theorem bC(H:Heap)(g:Nat)(e:Ent):ins H g e g=some e:=by simp[ins]
theorem bn(H:Heap){g k:Nat}(e:Ent)(h:k≠g):ins H g e k=H k:=by simp[ins,h]
def Ent.le(e e':Ent):Prop:=e'.size=e.size∧e'.elem=e.elem∧e'.own=e.own∧e.xs <+:e'.xs
def Heap.le(H H':Heap):Prop:=∀g e,H g=some e→∃e',H' g=some e'∧e.le e'
theorem Ent.le.refl(e:Ent):e.le e:=⟨rfl,rfl,rfl,List.prefix_rfl⟩
theorem Ent.le.trans{a b c:Ent}(h:a.le b)(k:b.le c):a.le c:=
 ⟨k.1.trans h.1,k.2.1.trans h.2.1,k.2.2.1.trans h.2.2.1,h.2.2.2.trans k.2.2.2⟩
theorem Heap.le.refl(H:Heap):Heap.le H H:=fun _ e h=>⟨e,h,.refl e⟩
theorem Heap.le.trans{A B C:Heap}(h:Heap.le A B)(k:Heap.le B C):Heap.le A C:=fun g e he=>by
 obtain⟨e',h1,h2⟩:=h g e he
 obtain⟨ND,h3,h4⟩:=k g e' h1
 exact⟨ND,h3,h2.trans h4⟩
theorem Heap.bI{H:Heap}{g:Nat}(e:Ent)(h:H g=none):Heap.le H (ins H g e):=fun k x hk=>
 ⟨x,by rw[bn _ _ (fun e=>by subst e;rw[h]at hk;cases hk)];exact hk,.refl x⟩
theorem NF{l l':List Value}(h:l <+:l'){i:Nat}{v:Value}(hi:l[i]? = some v):l'[i]? = some v:=by
 obtain⟨t,rfl⟩:=h
 rw[List.getElem?_append_left (List.getElem?_eq_some_iff.1 hi).1];exact hi
theorem Ent.le.of{e e':Ent}(h:e.le e'){o:Obj}(ho:e'.of o):e.of o:=by
 obtain⟨c,fz,h1,h2,h3,h4⟩:=ho
 exact⟨c,fz,by rw[h1,h.2.1],by rw[h2,h.1],fun i v hv=>h3 i v (NF h.2.2.2 hv),fun ho=>h4 (h.2.2.1.trans ho)⟩
theorem Den.le{H H':Heap}(h:Heap.le H H'){w:World}(hd:Den H' w):Den H w:=fun g e he=>by
 obtain⟨e',h1,h2⟩:=h g e he
 obtain⟨o,h3,h4⟩:=hd g e' h1
 exact⟨o,h3,h2.of h4⟩
theorem Den.lt{H:Heap}{w:World}(h:Den H w){g:Nat}{e:Ent}(hg:H g=some e):g<w.heap.size:=by
 obtain⟨o,h1,_⟩:=h g e hg
 exact(Array.getElem?_eq_some_iff.1 h1).1
theorem Den.fresh{H:Heap}{w:World}(h:Den H w):H w.heap.size=none:=by
 cases hg:H w.heap.size with
 | none=>rfl
 | some e=>have:=h.lt hg;omega
def cell(H:Heap)(a:Addr):Option Value:=
 match H a.block with
 | some e=>if a.spot.isSome then none else e.xs[a.off]?
 | none=>none
theorem Den.cell{H:Heap}{w:World}(h:Den H w){a:Addr}{v:Value}(hc:cell H a=some v):w.cell? a=some v:=by
 unfold aq.cell at hc
 cases hg:H a.block with
 | none=>rw[hg]at hc;cases hc
 | some e=>
  rw[hg]at hc
  obtain⟨o,h1,c,fz,rfl,h3,h4,_⟩:=h _ _ hg
  simp only at hc
  split at hc
  ·cases hc
  ·rename_i hs
   simp[World.cell?,h1,hs,h4 _ _ hc]
theorem cF{H H':Heap}(h:Heap.le H H'){a:Addr}{v:Value}(hc:cell H a=some v):cell H' a=some v:=by
 unfold cell at hc⊢
 cases hg:H a.block with
 | none=>rw[hg]at hc;cases hc
 | some e=>
  rw[hg]at hc
  obtain⟨e',h1,h2⟩:=h _ _ hg
  rw[h1]
  simp only at hc⊢
  split at hc
  ·cases hc
  ·rename_i hs
   rw[if_neg hs];exact NF h2.2.2.2 hc
structure Fx(H:Heap)(w:World)(H':Heap)(w':World):Prop where
 os:w'.os=w.os
 tape:w'.tape=w.tape
 output:w'.output=w.output
 size:w.heap.size≤w'.heap.size
 keep:∀g,g<w.heap.size→H g=none→w'.heap[g]? = w.heap[g]?∧H' g=none
 form:∀(g:Nat)(c:Array Value)(t:TypeId)(fz:Nat×Nat),w.heap[g]? = some (.cells c t fz)→∃c',w'.heap[g]? = some (.cells c' t fz)∧c'.size=c.size
theorem Fx.refl(H:Heap)(w:World):Fx H w H w:=⟨rfl,rfl,rfl,Nat.le_refl _,fun _ _ h=>⟨rfl,h⟩,fun _ c _ _ h=>⟨c,h,rfl⟩⟩
theorem Fx.trans{H H' tn:Heap}{w w' Fa:World}(h:Fx H w H' w')(k:Fx H' w' tn Fa):Fx H w tn Fa:=
 ⟨k.os.trans h.os,k.tape.trans h.tape,k.output.trans h.output,Nat.le_trans h.size k.size,fun g hg h0=>by
  have h1:=h.keep g hg h0
  have h2:=k.keep g (Nat.lt_of_lt_of_le hg h.size) h1.2
  exact⟨h2.1.trans h1.1,h2.2⟩,fun g c t fz hc=>by
  obtain⟨c1,h1,h2⟩:=h.form g c t fz hc
  obtain⟨c2,h3,h4⟩:=k.form g c1 t fz h1
  exact⟨c2,h3,h4.trans h2⟩⟩
theorem Fx.NG{w w':World}(h:∀g,g<w.heap.size→w'.heap[g]? = w.heap[g]?):∀(g:Nat)(c:Array Value)(t:TypeId)(fz:Nat×Nat),w.heap[g]? = some (.cells c t fz)→∃c',w'.heap[g]? = some (.cells c' t fz)∧c'.size=c.size:=
 fun g c t fz hc=>⟨c,by rw[h g (Array.getElem?_eq_some_iff.1 hc).1];exact hc,rfl⟩
structure gK(n:Nat)(s:St)(a:Act):Prop where
 size:a.tmps.size=n
 at_:∀t v,s t=some (.val v)→a.tmps[t]? = some v
structure Rl(n:Nat)(s:St)(H:Heap)(G:Nat→Nat)(a:Act)(w:World):Prop where
 aK:gK n s a
 boxes:∀t cs,s t=some (.box cs)→a.tmps[t]? = some (.pointer (some ⟨G t,0,none⟩))∧H (G t)=none∧∃e,w.heap[G t]? = some (.cells cs.toArray e (0,0))
 inj:∀t t' cs cK,s t=some (.box cs)→s t'=some (.box cK)→G t=G t'→t=t'
 refs:∀t b off cs,s t=some (.ref b off)→s b=some (.box cs)→a.tmps[t]? = some (.pointer (some ⟨G b,off,none⟩))
 den:Den H w
structure Rel(w0:World)(H0:Heap)(n:Nat)(s:St)(H:Heap)(a:Act)(w:World):Prop where
 defers:a.defers = []
 fits:∃G,Rl n s H G a w∧∀t cs,s t=some (.box cs)→w0.heap.size≤G t
 fx:Fx H0 w0 H w
def ev(s:St):Operand→Option Value
 | .tmp t=>match s t with | some (.val v)=>some v | _=>none
 | .const v=>some v
 | .func f=>some (.func (.func f) #[] #[])
 | .global g=>some (.pointer (some ⟨g,0,none⟩))
theorem bR{n:Nat}{s:St}{a:Act}(h:gK n s a){x:Operand}{v:Value}(hx:ev s x=some v):a.eval x=v:=by
 cases x with
 | tmp t=>
  simp only[ev]at hx
  cases hs:s t with
  | none=>rw[hs]at hx;cases hx
  | some y=>
   rw[hs]at hx
   cases y with
   | val u=>
    simp only[Option.some.injEq]at hx
    subst hx
    have:=h.at_ t u hs
    simp[Act.eval,this]
   | box=>cases hx
   | ref=>cases hx
 | const u=>simp only[ev,Option.some.injEq]at hx;exact hx
 | func f=>simp only[ev,Option.some.injEq]at hx;exact hx
 | global g=>simp only[ev,Option.some.injEq]at hx;exact hx
theorem Act.yk(a:Act)(d:Nat)(v:Value)(h:d<a.tmps.size):(a.put (some d) v).tmps[d]? = some v:=by
 simp[Act.put,h]
theorem Act.rG(a:Act){d t:Nat}(v:Value)(h:t≠d):(a.put (some d) v).tmps[t]? = a.tmps[t]? :=by
 simp[Act.put,Array.getElem?_setIfInBounds_ne (Ne.symm h)]
theorem Act.CJ(a:Act)(d:Option Tmp)(v:Value):(a.put d v).tmps.size=a.tmps.size:=by
 cases d <;> simp[Act.put]
theorem Act.Um(a:Act)(d:Option Tmp)(v:Value):(a.put d v).defers=a.defers:=by
 cases d <;> rfl
def NH(G:Nat→Nat):Slot→Value→Prop
 | .val v,u=>u=v
 | .ref b off,u=>u = .pointer (some ⟨G b,off,none⟩)
 | .box _,_=>False
theorem Rl.put{n:Nat}{s:St}{H:Heap}{G:Nat→Nat}{a:Act}{w:World}(h:Rl n s H G a w){d:Nat}{x:Slot}{v:Value}(hn:d<n)(hx:NH G x v):
  Rl n (put s d x) H G (a.put (some d) v) w:=by
 have hd:d<a.tmps.size:=by rw[h.aK.size];exact hn
 have nb:∀t cs,aq.put s d x t=some (.box cs)→t≠d∧s t=some (.box cs):=by
  intro t cs ht
  by_cases e:t=d
  ·subst e
   rw[iz]at ht
   simp only[Option.some.injEq]at ht
   subst ht
   exact hx.elim
  ·rw[fG _ _ e]at ht;exact⟨e,ht⟩
 refine⟨⟨by rw[Act.CJ];exact h.aK.size,fun t u ht=> ?_⟩,fun t cs ht=> ?_,fun t t' cs cK ht ph e=> ?_,fun t b off cs ht hb=> ?_,h.den⟩
 ·by_cases e:t=d
  ·subst e
   rw[iz]at ht
   simp only[Option.some.injEq]at ht
   subst ht
   rw[Act.yk _ _ _ hd,hx]
  ·rw[fG _ _ e]at ht
   rw[Act.rG _ _ e];exact h.aK.at_ t u ht
 ·obtain⟨e,ht⟩:=nb t cs ht
  rw[Act.rG _ _ e];exact h.boxes t cs ht
 ·exact h.inj t t' cs cK (nb t cs ht).2 (nb t' cK ph).2 e
 ·obtain⟨_,hb⟩:=nb b cs hb
  by_cases e:t=d
  ·subst e
   rw[iz]at ht
   simp only[Option.some.injEq]at ht
   subst ht
   rw[Act.yk _ _ _ hd,hx]
  ·rw[fG _ _ e]at ht
   rw[Act.rG _ _ e];exact h.refs t b off cs ht hb
theorem Rl.vc{n:Nat}{s:St}{H H':Heap}{G:Nat→Nat}{a:Act}{w w':World}(h:Rl n s H G a w)(hd:Den H' w')(hf:Fx H w H' w'):Rl n s H' G a w':=
 ⟨h.aK,fun t cs ht=>by
  obtain⟨h1,h2,e,h3⟩:=h.boxes t cs ht
  obtain⟨h4,h5⟩:=hf.keep (G t) (Array.getElem?_eq_some_iff.1 h3).1 h2
  exact⟨h1,h5,e,h4.trans h3⟩,h.inj,h.refs,hd⟩
theorem Rl.le{n:Nat}{s:St}{H H':Heap}{G:Nat→Nat}{a:Act}{w:World}(h:Rl n s H' G a w)(hl:Heap.le H H'):Rl n s H G a w:=
 ⟨h.aK,fun t cs ht=>by
  obtain⟨h1,h2,h3⟩:=h.boxes t cs ht
  refine⟨h1,?_,h3⟩
  cases hg:H (G t)with
  | none=>rfl
  | some e=>(obtain⟨e',h4,_⟩:=hl _ _ hg;rw[h2]at h4;exact nomatch h4),h.inj,h.refs,h.den.le hl⟩
theorem gK.back{n:Nat}{s s':St}{a:Act}{d:Nat}(h:gK n s' a)(hs:∀t v,t≠d→s t=some (.val v)→s' t=some (.val v))(hd:d<n):∃v,gK n s (a.put (some d) v):=by
 have mQ:d<a.tmps.size:=by rw[h.size];exact hd
 have key:∀v,(∀u,s d=some (.val u)→v=u)→gK n s (a.put (some d) v):=fun v h1=>
  ⟨by rw[Act.CJ];exact h.size,fun t u ht=>by
   by_cases e:t=d
   ·subst e;rw[Act.yk _ _ _ mQ,h1 u ht]
   ·rw[Act.rG _ _ e];exact h.at_ t u (hs t u e ht)⟩
 cases hx:s d with
 | none=>exact⟨undef,key _ (fun u hu=>by rw[hx]at hu;cases hu)⟩
 | some y=>
  cases y with
  | val u=>exact⟨u,key _ (fun u' hu=>by rw[hx]at hu;cases hu;rfl)⟩
  | box cs=>exact⟨undef,key _ (fun u hu=>by rw[hx]at hu;cases hu)⟩
  | ref b o=>exact⟨undef,key _ (fun u hu=>by rw[hx]at hu;cases hu)⟩
theorem Rl.back{n:Nat}{s s':St}{H:Heap}{G:Nat→Nat}{a:Act}{w:World}{d:Nat}(h:Rl n s' H G a w)(hn:∀cs,s d≠some (.box cs))
  (hs:∀t x,t≠d→s t=some x→(∀b o,x = .ref b o→b≠d)→s' t=some x) (hd:d<n):∃v,Rl n s H G (a.put (some d) v) w:=by
 have mQ:d<a.tmps.size:=by rw[h.aK.size];exact hd
 have rH:∀t cs,s t=some (.box cs)→s' t=some (.box cs)∧t≠d:=fun t cs ht=>by
  have e:t≠d:=fun e=>by subst e;exact hn cs ht
  exact⟨hs t _ e ht (fun b o h=>by cases h),e⟩
 have key:∀v,(∀u,s d=some (.val u)→v=u)→(∀b o,s d=some (.ref b o)→v = .pointer (some ⟨G b,o,none⟩))→Rl n s H G (a.put (some d) v) w:=by
  intro v h1 h2
  refine⟨⟨by rw[Act.CJ];exact h.aK.size,fun t u ht=> ?_⟩,fun t cs ht=> ?_,fun t t' cs cK ht ph e=> ?_,fun t b off cs ht hb=> ?_,h.den⟩
  ·by_cases e:t=d
   ·subst e;rw[Act.yk _ _ _ mQ,h1 u ht]
   ·rw[Act.rG _ _ e];exact h.aK.at_ t u (hs t _ e ht (fun b o h=>by cases h))
  ·obtain⟨h3,e⟩:=rH t cs ht
   rw[Act.rG _ _ e];exact h.boxes t cs h3
  ·exact h.inj t t' cs cK (rH t cs ht).1 (rH t' cK ph).1 e
  ·obtain⟨tq,eb⟩:=rH b cs hb
   by_cases e:t=d
   ·subst e;rw[Act.yk _ _ _ mQ,h2 b off ht]
   ·rw[Act.rG _ _ e]
    exact h.refs t b off cs (hs t _ e ht (fun b' o' h=>by cases h;exact eb)) tq
 cases hx:s d with
 | none=>exact⟨undef,key _ (fun u hu=>by rw[hx]at hu;cases hu) (fun b o hu=>by rw[hx]at hu;cases hu)⟩
 | some y=>
  cases y with
  | val u=>exact⟨u,key _ (fun u' hu=>by rw[hx]at hu;cases hu;rfl) (fun b o hu=>by rw[hx]at hu;cases hu)⟩
  | box cs=>exact absurd hx (hn cs)
  | ref b o=>exact⟨_,key (.pointer (some ⟨G b,o,none⟩)) (fun u hu=>by rw[hx]at hu;cases hu) (fun b' o' hu=>by rw[hx]at hu;cases hu;rfl)⟩
end Go.aq
namespace Go.aq
section
variable (P:Program) (n:Nat)
def Fb(all:Array Oper)(s:St)(o:Oper):Prop:=
 o.guard=none∨∃j want d,o.guard=some (j,want)∧(all[j]?).bind (·.dst)=some d∧s d=some (.val (.bool want))
def Un(all:Array Oper)(s:St)(o:Oper):Prop:=
 ∃j want d v,o.guard=some (j,want)∧(all[j]?).bind (·.dst)=some d∧s d=some (.val v)∧((∃b,v = .bool b∧b≠want)∨∃ts,v = .tuple ts)
def JD(all:Array Oper)(o:Oper)(s:St)(H:Heap)(v:Value):Prop:=∀a w,gK n s a→Den H w→
 (Region.wanted o (yielded all a.tmps)=true∧(execOp a.eval o).run P w = .ok (.value v) w)∨(Region.wanted o (yielded all a.tmps)=false∧v=undef)
def CL(all:Array Oper)(o:Oper)(s:St)(H:Heap)(x:Slot):Prop:=∀G a w,Rl n s H G a w→
 ∃v,NH G x v∧Region.wanted o (yielded all a.tmps)=true∧(execOp a.eval o).run P w = .ok (.value v) w
def wu(all:Array Oper)(o:Oper)(s:St)(cs:List Value):Prop:=∀a w,gK n s a→
 Region.wanted o (yielded all a.tmps)=true∧∃e,(execOp a.eval o).run P w = .ok (.value (.pointer (some ⟨w.heap.size,0,none⟩))) (w.alloc (.cells cs.toArray e (0,0)))
structure Uo(w w':World)(g:Nat)(cs:List Value):Prop where
 os:w'.os=w.os
 tape:w'.tape=w.tape
 output:w'.output=w.output
 size:w'.heap.size=w.heap.size
 other:∀k,k≠g→w'.heap[k]? = w.heap[k]?
 new:∃e,w'.heap[g]? = some (.cells cs.toArray e (0,0))
def JE(all:Array Oper)(o:Oper)(s:St)(b:Nat)(cK:List Value):Prop:=∀H G a w,Rl n s H G a w→
 Region.wanted o (yielded all a.tmps)=true∧∃w',(execOp a.eval o).run P w = .ok .skip w'∧Uo w w' (G b) cK
def vd(all:Array Oper)(o:Oper)(s:St)(mk:Nat→Value)(xs:List Value)(e:TypeId):Prop:=∀a w,gK n s a→
 Region.wanted o (yielded all a.tmps)=true∧(execOp a.eval o).run P w = .ok (.value (mk w.heap.size)) (w.alloc (.cells xs.toArray e (0,0)))
def whole(xs:List Value)(e:TypeId):Ent:=⟨xs,xs.length,e,true⟩
def lQ(o:Oper)(ρ:Operand→Value)(w:World)(R:Value→World→Prop):Prop:=
 match (execOp ρ o).run P w with
 | .ok (.value v) w'=>R v w'
 | .ok .skip w'=>R undef w'
 | .ok (.enter f args) w'=>Calls P f args w' fun e Fa=>∃v,e = .returned v∧R v Fa
 | _=>False
def EV(all:Array Oper)(o:Oper)(s:St)(H:Heap)(bE:Value→Heap→Prop):Prop:=∀a w,gK n s a→Den H w→
 Region.wanted o (yielded all a.tmps)=true∧lQ P o a.eval w (fun v w'=>∃H',bE v H'∧Den H' w'∧Fx H w H' w')
inductive Mode where
 | plain | bK | gD | vf
 | cO (kc:Addr→Option Value)
 | qh (st:List Nat)
def Mode.Uq:Mode→Bool
 | .plain=>true
 | _=>false
def Mode.NI:Mode→Bool
 | .bK=>true
 | .qh _=>true
 | _=>false
def Mode.NJ:Mode→Bool
 | .qh _=>true
 | _=>false
def Mode.wr:Mode→Nat→Bool
 | .qh st,b=>st.contains b
 | _,_=>false
def Mode.Ur:Mode→Nat→Bool
 | .qh st,b=>st.contains b
 | _,_=>true
def jy(md:Mode)(s s':St):Prop:=∀t,s' t=s t∨(md.wr t=true∧∃c c',s t=some (.box c)∧s' t=some (.box c'))
theorem jy.refl(md:Mode)(s:St):jy md s s:=fun _=> .inl rfl
theorem jy.val{md:Mode}{s s':St}(h:jy md s s'){t:Nat}{x:Slot}(hx:∀c,x≠.box c)(e:s t=some x):s' t=some x:=by
 rcases h t with h1 | ⟨_,c,c',h1,_⟩
 ·rw[h1,e]
 ·rw[e]at h1;exact absurd (Option.some.inj h1) (hx c)
theorem jy.box{md:Mode}{s s':St}(h:jy md s s'){t:Nat}{c:List Value}(e:s t=some (.box c)):∃c',s' t=some (.box c'):=by
 rcases h t with h1 | ⟨_,_,c',_,h1⟩
 ·exact⟨c,by rw[h1,e]⟩
 ·exact⟨c',h1⟩
theorem jy.keep{md:Mode}{s s':St}(h:jy md s s'){t:Nat}(e:md.wr t=false):s' t=s t:=by
 rcases h t with h1 | ⟨h1,_⟩
 ·exact h1
 ·rw[e]at h1;cases h1
def Mode.Us:Mode→Bool
 | .vf=>true
 | _=>false
def Mode.og:Mode→Bool
 | .cO _=>true
 | _=>false
def Mode.kc:Mode→Addr→Option Value
 | .cO k=>k
 | _=>fun _=>none
def Mode.fO(md:Mode)(H:Heap):Prop:=∀ad v,md.kc ad=some v→cell H ad=some v
def jl(s:St)(d:Option Nat):Bool:=
 match d with
 | some d=>(match s d with | some (.box _)=>false | _=>true)
 | none=>true
def z7:Op→Bool
 | .store .. =>true
 | _=>false
def Fc:Op→Bool
 | .load .. | .fieldAddr .. =>true
 | _=>false
def z8:Op→Bool
 | .alloc _ | .box .. =>true
 | _=>false
def Aa:Op→Bool
 | .buildSlice .. =>true
 | _=>false
def rI(o:Op):Bool:=z8 o||Aa o
def Real(H:Heap):Prop:=∃w,Den H w
def tt:Op→Bool
 | .select .. =>false
 | _=>true
def JF(c:Call):Bool:=
 match c.callee with
 | .builtin .len | .builtin .cap | .builtin .min | .builtin .max=>true
 | _=>false
def kd:Op→Nat
 | .store .. =>2
 | .alloc _ | .box .. | .buildSlice .. =>3
 | .call c=>if JF c then 0 else 1
 | .makeSlice .. | .go _ | .defer _ | .panic _ | .send .. | .recv .. | .select .. | .mapUpdate .. | .mapEntry .. | .entryStore .. | .insert .. | .makeMap .. | .makeChan .. | .ready _ | .next .. | .range .. =>1
 | _=>0
def Mode.ok(md:Mode)(o:Oper)(H:Heap)(bE:Value→Heap→Prop):Prop:=
 match md with
 | .plain=>True
 | .bK=>z7 o.op=false∧∀v H',bE v H'→Heap.le H H'
 | .gD=>z7 o.op=true∨∀v H',bE v H'→Heap.le H H'
 | .vf=>True
 | .cO _=>True
 | .qh _=>z7 o.op=false∧∀v H',bE v H'→Heap.le H H'
def Mode.nb(md:Mode)(s:St)(d:Option Nat):Bool:=
 match md with
 | .plain=>true
 | .cO _=>false
 | _=>match d with
  | some d=>(match s d with | some (.box _)=>false | _=>true)
  | none=>true
def Slot.tu(s:St):Slot→Bool
 | .val _=>true
 | .box _=>false
 | .ref b _=>match s b with | some (.box _)=>true | _=>false
def JG(md:Mode)(all:Array Oper)(o:Oper)(s:St)(v:Value):Prop:=∀a w,gK n s a→(∀ad u,md.kc ad=some u→w.cell? ad=some u)→
 (Region.wanted o (yielded all a.tmps)=true∧(execOp a.eval o).run P w = .ok (.value v) w)∨(Region.wanted o (yielded all a.tmps)=false∧v=undef)
inductive ij(all:Array Oper)(md:Mode)(o:Oper)(s:St)(H:Heap)(K:St→Heap→Prop):Prop
 | jK (v:Value) (hm:rI o.op=false∨o.guard≠none) (nb:md.nb s o.dst=true) (h:JD P n all o s H v) (k:K (bD s o.dst (.val v)) H)
 | jz (x:Slot) (hm:Fc o.op=true) (nb:md.nb s o.dst=true) (hx:x.tu s=true) (h:∀s',jy md s s'→CL P n all o s' H x) (k:K (bD s o.dst x) H)
 | jL (d:Nat) (hd:o.dst=some d) (hm:z8 o.op=true) (nb:md.nb s o.dst=true) (cs:List Value) (h:wu P n all o s cs) (k:K (ig s d cs) H)
 | me (b:Nat) (cs cK:List Value) (hd:o.dst=none) (hm:z7 o.op=true) (hb:s b=some (.box cs)) (hw:md.Ur b=true) (h:JE P n all o s b cK) (k:K (put s b (.box cK)) H)
 | fresh (mk:Nat→Value) (xs:List Value) (e:TypeId) (hm:Aa o.op=true∨(md = .plain∧z8 o.op=true)) (nb:md.nb s o.dst=true) (h:vd P n all o s mk xs e) (k:∀g,H g=none→Real (ins H g (whole xs e))→K (bD s o.dst (.val (mk g))) (ins H g (whole xs e)))
 | iY (bE:Value→Heap→Prop) (ha:kd o.op=1∨kd o.op=2∨md = .plain) (nb:md.nb s o.dst=true) (h:EV P n all o s H bE) (hm:md.ok o H bE) (k:∀v H',bE v H'→Real H'→K (bD s o.dst (.val v)) H')
 | mf (v:Value) (hk:md.og=true) (hm:rI o.op=false) (nb:jl s o.dst=true) (hc:md.fO H) (h:JG P n md all o s v) (k:K (bD s o.dst (.val v)) H)
 | oh (mk:Nat→Value) (xs:List Value) (e:TypeId) (hk:md.og=true) (hm:Aa o.op=true) (nb:jl s o.dst=true) (h:vd P n all o s mk xs e) (k:∀g,H g=none→Real (ins H g (whole xs e))→K (bD s o.dst (.val (mk g))) (ins H g (whole xs e)))
 | mR (bE:Value→Heap→Prop) (hk:md.og=true) (ha:kd o.op=1∨kd o.op=2) (nb:jl s o.dst=true) (h:EV P n all o s H bE) (hm:z7 o.op=true∨∀v H',bE v H'→md.fO H') (k:∀v H',bE v H'→Real H'→K (bD s o.dst (.val v)) H')
end
theorem lQ.mono{P:Program}{o:Oper}{ρ:Operand→Value}{w:World}{R R':Value→World→Prop}(h:lQ P o ρ w R)(hr:∀v w',R v w'→R' v w'):lQ P o ρ w R':=by
 unfold lQ at h⊢
 split at h
 ·exact hr _ _ h
 ·exact hr _ _ h
 ·exact h.mono fun e w' ⟨v,he,h⟩=>⟨v,he,hr _ _ h⟩
 ·exact h
theorem lQ.wp{P:Program}{o:Oper}{a:Act}{w:World}{R:Value→World→Prop}{K:Act→World→Prop}{Q:Exit→Act→World→Prop}(h:lQ P o a.eval w R)(hk:∀v w',R v w'→K (a.put o.dst v) w'):o.wp P a w K Q:=by
 unfold lQ at h
 unfold Oper.wp
 split at h
 ·rename_i v w' e;rw[e];exact hk _ _ h
 ·rename_i w' e;rw[e];exact hk _ _ h
 ·rename_i f args w' e;rw[e]
  exact h.mono fun e w' ⟨v,he,h⟩=>by subst he;exact hk _ _ h
 ·exact h.elim
section sound
variable {P:Program} {all:Array Oper} {md:Mode} {o:Oper} {s:St} {H:Heap} {K:St→Heap→Prop} {w0:World} {H0:Heap} {n:Nat} {a:Act} {w:World}
theorem jM(h:gK n s a)(hr:Fb all s o):Region.wanted o (yielded all a.tmps)=true:=by
 rcases hr with hg | ⟨j,want,d,hg,hd,hs⟩
 ·simp[Region.wanted,hg]
 ·have:=h.at_ d _ hs
  simp[Region.wanted,hg,yielded,hd,this]
theorem acm(h:gK n s a)(hr:Un all s o):Region.wanted o (yielded all a.tmps)=false:=by
 obtain⟨j,want,d,v,hg,hd,hs,bA⟩:=hr
 have:=h.at_ d _ hs
 rcases bA with ⟨b,rfl,bA⟩ | ⟨ts,rfl⟩
 ·simp[Region.wanted,hg,yielded,hd,this,bA]
 ·simp[Region.wanted,hg,yielded,hd,this]
theorem Rel.put(h:Rel w0 H0 n s H a w){d:Option Nat}(hd:∀k,d=some k→k<n){x:Slot}{v:Value}{G:Nat→Nat}(hl:Rl n s H G a w)(hb:∀t cs,s t=some (.box cs)→w0.heap.size≤G t)(hx:NH G x v):
  Rel w0 H0 n (bD s d x) H (a.put d v) w:=by
 cases d with
 | none=>exact⟨h.defers,⟨G,hl,hb⟩,h.fx⟩
 | some d=>
  refine⟨by rw[Act.Um];exact h.defers,⟨G,hl.put (hd d rfl) hx,fun t cs ht=> ?_⟩,h.fx⟩
  by_cases e:t=d
  ·subst e
   rw[show bD s (some t) x=aq.put s t x from rfl,iz]at ht
   simp only[Option.some.injEq]at ht
   subst ht
   exact hx.elim
  ·rw[show bD s (some d) x=aq.put s d x from rfl,fG _ _ e]at ht
   exact hb t cs ht
theorem tv(s:St)(d:Nat)(cs:List Value):ig s d cs d=some (.box cs):=by simp[ig]
def vg(d:Nat):Option Slot→Option Slot
 | some (.ref b o)=>cond (Nat.beq b d) none (some (.ref b o))
 | x=>x
theorem pj(s:St){d t:Nat}(cs:List Value)(h:t≠d):ig s d cs t=vg d (s t):=by
 have:Nat.beq t d=false:=by
  cases hb:Nat.beq t d with
  | false=>rfl
  | true=>exact absurd (Nat.eq_of_beq_eq_true hb) h
 unfold ig
 rw[this]
 cases hs:s t with
 | none=>rfl
 | some x=>cases x <;> rfl
theorem NK{s:St}{d t:Nat}{cs:List Value}{v:Value}(h:ig s d cs t=some (.val v)):t≠d∧s t=some (.val v):=by
 have e:t≠d:=fun e=>by subst e;rw[tv]at h;cases h
 refine⟨e,?_⟩
 rw[pj _ _ e]at h
 unfold vg at h
 split at h
 ·rename_i b o' _
  cases hb:Nat.beq b d <;> rw[hb]at h <;> cases h
 ·exact h
theorem acn{s:St}{d t b off:Nat}{cs:List Value}(h:ig s d cs t=some (.ref b off)):t≠d∧b≠d∧s t=some (.ref b off):=by
 have e:t≠d:=fun e=>by subst e;rw[tv]at h;cases h
 rw[pj _ _ e]at h
 unfold vg at h
 split at h
 ·rename_i b' o' hs
  cases hb:Nat.beq b' d with
  | true=>rw[hb]at h;cases h
  | false=>
   rw[hb]at h
   simp only[cond_false,Option.some.injEq,Slot.ref.injEq]at h
   obtain⟨rfl,rfl⟩:=h
   exact⟨e,(fun e=>by subst e;rw[Nat.beq_refl]at hb;cases hb),hs⟩
 ·rename_i hn
  exact absurd h (hn b off)
theorem rJ{s:St}{d t:Nat}{cs cK:List Value}(h:ig s d cs t=some (.box cK)):(t=d∧cK=cs)∨(t≠d∧s t=some (.box cK)):=by
 by_cases e:t=d
 ·subst e
  rw[tv]at h
  simp only[Option.some.injEq,Slot.box.injEq]at h
  exact .inl ⟨rfl,h.symm⟩
 ·refine .inr ⟨e,?_⟩
  rw[pj _ _ e]at h
  unfold vg at h
  split at h
  ·rename_i b o' _
   cases hb:Nat.beq b d <;> rw[hb]at h <;> cases h
  ·exact h
theorem Den.alloc{H:Heap}{w:World}(h:Den H w)(o:Obj):Den H (w.alloc o):=fun g e hg=>by
 obtain⟨o',h1,h2⟩:=h g e hg
 exact⟨o',by rw[RowKit.Below.heap_alloc _ _ _ (h.lt hg)];exact h1,h2⟩
theorem Rl.jL{G:Nat→Nat}(h:Rl n s H G a w){d:Nat}(hn:d<n)(cs:List Value)(e:TypeId):
  Rl n (ig s d cs) H (fun t=>if t=d then w.heap.size else G t) (a.put (some d) (.pointer (some ⟨w.heap.size,0,none⟩))) (w.alloc (.cells cs.toArray e (0,0))):=by
 have hd:d<a.tmps.size:=by rw[h.aK.size];exact hn
 have bP:∀t cs,s t=some (.box cs)→G t<w.heap.size:=fun t cs ht=>by
  obtain⟨_,_,e,h3⟩:=h.boxes t cs ht
  exact(Array.getElem?_eq_some_iff.1 h3).1
 refine⟨⟨by rw[Act.CJ];exact h.aK.size,fun t v ht=> ?_⟩,fun t cK ht=> ?_,fun t t' Ut Uu ht ph hG=> ?_,fun t b off cK ht hb=> ?_,h.den.alloc _⟩
 ·obtain⟨e1,ht⟩:=NK ht
  rw[Act.rG _ _ e1];exact h.aK.at_ t v ht
 ·rcases rJ ht with ⟨rfl,rfl⟩ | ⟨e1,ht⟩
  ·simp only[if_true]
   exact⟨Act.yk _ _ _ hd,h.den.fresh,e,heap_alloc_new w _⟩
  ·rw[if_neg e1,Act.rG _ _ e1]
   obtain⟨h1,h2,e2,h3⟩:=h.boxes t cK ht
   exact⟨h1,h2,e2,by rw[RowKit.Below.heap_alloc _ _ _ (bP t cK ht)];exact h3⟩
 ·rcases rJ ht with ⟨h1,_⟩ | ⟨e1,h1⟩
  ·rcases rJ ph with ⟨h2,_⟩ | ⟨e2,h2⟩
   ·rw[h1,h2]
   ·rw[if_pos h1,if_neg e2]at hG
    have:=bP t' Uu h2;omega
  ·rcases rJ ph with ⟨h2,_⟩ | ⟨e2,h2⟩
   ·rw[if_pos h2,if_neg e1]at hG
    have:=bP t Ut h1;omega
   ·rw[if_neg e1,if_neg e2]at hG
    exact h.inj t t' Ut Uu h1 h2 hG
 ·obtain⟨e1,e2,ht⟩:=acn ht
  rcases rJ hb with ⟨rfl,rfl⟩ | ⟨_,hb⟩
  ·exact absurd rfl e2
  ·rw[if_neg e2,Act.rG _ _ e1]
   exact h.refs t b off cK ht hb
theorem Rl.me{G:Nat→Nat}(h:Rl n s H G a w){b:Nat}{cs cK:List Value}(hb:s b=some (.box cs)){w':World}(hw:Uo w w' (G b) cK):
  Rl n (aq.put s b (.box cK)) H G a w':=by
 have rH:∀t c,aq.put s b (.box cK) t=some (.box c)→∃c',s t=some (.box c')∧((t=b∧c=cK)∨(t≠b∧c=c')):=by
  intro t c ht
  by_cases e:t=b
  ·subst e
   rw[iz]at ht
   simp only[Option.some.injEq,Slot.box.injEq]at ht
   exact⟨cs,hb,.inl ⟨rfl,ht.symm⟩⟩
  ·rw[fG _ _ e]at ht
   exact⟨c,ht,.inr ⟨e,rfl⟩⟩
 refine⟨⟨h.aK.size,fun t v ht=> ?_⟩,fun t c ht=> ?_,fun t t' c1 c2 ht ph hG=> ?_,fun t b' off c ht tq=> ?_,fun g e hg=> ?_⟩
 ·by_cases e:t=b
  ·subst e;rw[iz]at ht;cases ht
  ·rw[fG _ _ e]at ht;exact h.aK.at_ t v ht
 ·obtain⟨c',hs,hc⟩:=rH t c ht
  obtain⟨h1,h2,e,h3⟩:=h.boxes t c' hs
  rcases hc with ⟨rfl,rfl⟩ | ⟨bA,rfl⟩
  ·exact⟨h1,h2,hw.new⟩
  ·exact⟨h1,h2,e,by rw[hw.other _ (fun hG=>bA (h.inj t b _ _ hs hb hG))];exact h3⟩
 ·obtain⟨c1',hs,_⟩:=rH t c1 ht
  obtain⟨c2',mS,_⟩:=rH t' c2 ph
  exact h.inj t t' c1' c2' hs mS hG
 ·obtain⟨c',hs,_⟩:=rH b' c tq
  by_cases e:t=b
  ·subst e;rw[iz]at ht;cases ht
  ·rw[fG _ _ e]at ht;exact h.refs t b' off c' ht hs
 ·obtain⟨o',h1,h2⟩:=h.den g e hg
  refine⟨o',?_,h2⟩
  rw[hw.other _ (fun hG=> ?_)]
  ·exact h1
  ·obtain⟨_,h3,_⟩:=h.boxes b cs hb
   rw[←hG,hg]at h3;cases h3
theorem ij.sound(hR:Rel w0 H0 n s H a w)(rK:∀d,o.dst=some d→d<n)(h:ij P n all md o s H K):
  (Region.wanted o (yielded all a.tmps)=true∧o.wp P a w (fun a' w'=>∃s' H',Rel w0 H0 n s' H' a' w'∧K s' H') (fun _ _ _=>False))∨
  (Region.wanted o (yielded all a.tmps)=false∧∃s' H',Rel w0 H0 n s' H' (a.put o.dst undef) w∧K s' H'):=by
 obtain⟨G,hl,hb⟩:=hR.fits
 cases h with
 | jK v hm nb h k=>
  rcases h a w hl.aK hl.den with ⟨h1,h2⟩ | ⟨h1,h2⟩
  ·refine .inl ⟨h1,?_⟩
   unfold Oper.wp
   rw[h2]
   exact⟨_,_,hR.put (x:= .val v) rK hl hb rfl,k⟩
  ·subst h2
   exact .inr ⟨h1,_,_,hR.put (x:= .val undef) rK hl hb rfl,k⟩
 | jz x hm nb hx h k=>
  obtain⟨v,po,h1,h2⟩:=h s (.refl _ _) G a w hl
  refine .inl ⟨h1,?_⟩
  unfold Oper.wp
  rw[h2]
  exact⟨_,_,hR.put rK hl hb po,k⟩
 | jL d hd hm nb cs h k=>
  obtain⟨h1,e,h2⟩:=h a w hl.aK
  refine .inl ⟨h1,?_⟩
  unfold Oper.wp
  rw[h2]
  show ∃s' H',Rel w0 H0 n s' H' (a.put o.dst _) _∧K s' H'
  rw[hd]
  refine⟨_,_,⟨by rw[Act.Um];exact hR.defers,⟨_,hl.jL (rK d hd) cs e,fun t cK ht=> ?_⟩,?_⟩,k⟩
  ·rcases rJ ht with ⟨rfl,rfl⟩ | ⟨e1,ht⟩
   ·simp only[if_true];exact hR.fx.size
   ·rw[if_neg e1];exact hb t cK ht
  ·exact hR.fx.trans ⟨rfl,rfl,rfl,by simp,fun g hg h0=>⟨RowKit.Below.heap_alloc _ _ _ hg,h0⟩,Fx.NG fun g hg=>RowKit.Below.heap_alloc _ _ _ hg⟩
 | me b cs cK hd hm Fe ku h k=>
  obtain⟨h1,w',h2,hw⟩:=h H G a w hl
  refine .inl ⟨h1,?_⟩
  unfold Oper.wp
  rw[h2]
  show ∃s' H',Rel w0 H0 n s' H' (a.put o.dst undef) w'∧K s' H'
  rw[hd]
  refine⟨_,_,⟨hR.defers,⟨G,hl.me Fe hw,fun t c ht=> ?_⟩,?_⟩,k⟩
  ·by_cases e:t=b
   ·subst e;exact hb t cs Fe
   ·rw[fG _ _ e]at ht;exact hb t c ht
  ·refine⟨hw.os.trans hR.fx.os,hw.tape.trans hR.fx.tape,hw.output.trans hR.fx.output,by rw[hw.size];exact hR.fx.size,fun g hg h0=> ?_,fun g c t fz hc=> ?_⟩
   ·have h3:=hR.fx.keep g hg h0
    refine⟨?_,h3.2⟩
    rw[hw.other _ (fun e=> ?_)]
    ·exact h3.1
    ·have:=hb b cs Fe;omega
   ·obtain⟨c',h3,h4⟩:=hR.fx.form g c t fz hc
    have bP:=(Array.getElem?_eq_some_iff.1 hc).1
    have:=hb b cs Fe
    exact⟨c',by rw[hw.other _ (by omega)];exact h3,h4⟩
 | fresh mk xs e hm nb h k=>
  obtain⟨h1,h2⟩:=h a w hl.aK
  refine .inl ⟨h1,?_⟩
  unfold Oper.wp
  rw[h2]
  have vh:=hl.den.fresh
  have hd:Den (ins H w.heap.size (whole xs e)) (w.alloc (.cells xs.toArray e (0,0))):=by
   intro g e' hg
   by_cases eg:g=w.heap.size
   ·subst eg
    rw[bC]at hg
    simp only[Option.some.injEq]at hg
    subst hg
    exact⟨_,heap_alloc_new w _,xs.toArray,(0,0),rfl,by simp[whole],fun i v hv=>by simpa [whole]using hv,fun _=>rfl⟩
   ·rw[bn _ _ eg]at hg
    exact hl.den.alloc _ g e' hg
  have hf:Fx H w (ins H w.heap.size (whole xs e)) (w.alloc (.cells xs.toArray e (0,0))):=
   ⟨rfl,rfl,rfl,by simp,fun g hg h0=>⟨RowKit.Below.heap_alloc _ _ _ hg,by rw[bn _ _ (by omega)];exact h0⟩,Fx.NG fun g hg=>RowKit.Below.heap_alloc _ _ _ hg⟩
  have kQ:=hl.vc hd hf
  have dN:Rel w0 H0 n s (ins H w.heap.size (whole xs e)) a (w.alloc (.cells xs.toArray e (0,0))):=⟨hR.defers,⟨G,kQ,hb⟩,hR.fx.trans hf⟩
  exact⟨_,_,dN.put (x:= .val _) rK kQ hb rfl,k _ vh ⟨_,hd⟩⟩
 | iY bE ha nb h hm k=>
  obtain⟨h1,h2⟩:=h a w hl.aK hl.den
  refine .inl ⟨h1,h2.wp fun v w' hh=> ?_⟩
  obtain⟨H',hp,hd,hf⟩:=hh
  have kQ:=hl.vc hd hf
  have dN:Rel w0 H0 n s H' a w':=⟨hR.defers,⟨G,kQ,hb⟩,hR.fx.trans hf⟩
  exact⟨_,_,dN.put (x:= .val v) rK kQ hb rfl,k v H' hp ⟨w',hd⟩⟩
 | mf v bV hm nb hc h k=>
  rcases h a w hl.aK (fun ad u hu=>hl.den.cell (hc ad u hu))with ⟨h1,h2⟩ | ⟨h1,h2⟩
  ·refine .inl ⟨h1,?_⟩
   unfold Oper.wp
   rw[h2]
   exact⟨_,_,hR.put (x:= .val v) rK hl hb rfl,k⟩
  ·subst h2
   exact .inr ⟨h1,_,_,hR.put (x:= .val undef) rK hl hb rfl,k⟩
 | oh mk xs e bV hm nb h k=>
  obtain⟨h1,h2⟩:=h a w hl.aK
  refine .inl ⟨h1,?_⟩
  unfold Oper.wp
  rw[h2]
  have vh:=hl.den.fresh
  have hd:Den (ins H w.heap.size (whole xs e)) (w.alloc (.cells xs.toArray e (0,0))):=by
   intro g e' hg
   by_cases eg:g=w.heap.size
   ·subst eg
    rw[bC]at hg
    simp only[Option.some.injEq]at hg
    subst hg
    exact⟨_,heap_alloc_new w _,xs.toArray,(0,0),rfl,by simp[whole],fun i v hv=>by simpa [whole]using hv,fun _=>rfl⟩
   ·rw[bn _ _ eg]at hg
    exact hl.den.alloc _ g e' hg
  have hf:Fx H w (ins H w.heap.size (whole xs e)) (w.alloc (.cells xs.toArray e (0,0))):=
   ⟨rfl,rfl,rfl,by simp,fun g hg h0=>⟨RowKit.Below.heap_alloc _ _ _ hg,by rw[bn _ _ (by omega)];exact h0⟩,Fx.NG fun g hg=>RowKit.Below.heap_alloc _ _ _ hg⟩
  have kQ:=hl.vc hd hf
  have dN:Rel w0 H0 n s (ins H w.heap.size (whole xs e)) a (w.alloc (.cells xs.toArray e (0,0))):=⟨hR.defers,⟨G,kQ,hb⟩,hR.fx.trans hf⟩
  exact⟨_,_,dN.put (x:= .val _) rK kQ hb rfl,k _ vh ⟨_,hd⟩⟩
 | mR bE bV ha nb h hm k=>
  obtain⟨h1,h2⟩:=h a w hl.aK hl.den
  refine .inl ⟨h1,h2.wp fun v w' hh=> ?_⟩
  obtain⟨H',hp,hd,hf⟩:=hh
  have kQ:=hl.vc hd hf
  have dN:Rel w0 H0 n s H' a w':=⟨hR.defers,⟨G,kQ,hb⟩,hR.fx.trans hf⟩
  exact⟨_,_,dN.put (x:= .val v) rK kQ hb rfl,k v H' hp ⟨w',hd⟩⟩
end sound
end Go.aq
namespace Go.aq
theorem yl{o:Op}:rI o=true↔kd o=3:=by
 cases o <;> simp[rI,z8,Aa,kd]
 split <;> simp
theorem Uv{o:Op}(h:kd o=3):(z8 o=true∧Aa o=false)∨(z8 o=false∧Aa o=true):=by
 cases o <;> simp[z8,Aa,kd]at h⊢
 split at h <;> simp at h
theorem rL{o:Op}:z7 o=true↔kd o=2:=by
 cases o <;> simp[z7,kd]
 split <;> simp
theorem CN{o:Op}(h:Fc o=true):kd o=0:=by
 cases o <;> simp[Fc]at h <;> rfl
def Sw(md:Mode)(all:Array Oper)(x y:Oper):Bool:=
 x.apart all y&&tt x.op&&tt y.op &&
 ((kd x.op == 0&&(kd y.op == 0||(kd y.op == 1 && !md.Us)||(kd y.op == 3&&(y.guard.isNone || !md.og))||(kd y.op == 2&&md.NI&&(md.NJ || !Fc x.op)))) ||
  ((kd x.op == 1||kd x.op == 3)&&kd y.op == 3&&y.guard.isNone && !md.og))
section
variable {P:Program} {n:Nat} {all:Array Oper} {o:Oper}
structure Ae(all:Array Oper)(o:Oper)(a b:Act):Prop where
 want:Region.wanted o (yielded all a.tmps)=Region.wanted o (yielded all b.tmps)
 exec:execOp a.eval o=execOp b.eval o
theorem Ae.put{a:Act}{d:Nat}(v:Value)(hs:tt o.op=true)(h:d∉o.looksAt all):Ae all o (a.put (some d) v) a:=by
 refine⟨wanted_put o a (some d) v (fun e he=>by cases he;exact h),execOp_congr o (fun cs b e=>by rw[e]at hs;cases hs) (fun x hx=> ?_)⟩
 refine Act.eval_put fun e he hxe=> ?_
 cases he
 subst hxe
 exact h (by
  unfold Oper.looksAt
  refine List.mem_append_left _ ?_
  rw[List.mem_filterMap]
  exact⟨_,by simpa using hx,rfl⟩)
theorem Ae.refl(a:Act):Ae all o a a:=⟨rfl,rfl⟩
def Mv(n:Nat)(all:Array Oper)(o:Oper)(s1 s2:St):Prop:=∀a,gK n s2 a→∃a1,gK n s1 a1∧Ae all o a1 a
def Ff(n:Nat)(all:Array Oper)(o:Oper)(s1 s2:St):Prop:=∀H G a w,Rl n s2 H G a w→∃a1,Rl n s1 H G a1 w∧Ae all o a1 a
variable {s1 s2 s:St} {H H1 H2:Heap}
theorem JD.move{v:Value}(hm:Mv n all o s1 s2)(hl:Heap.le H1 H2)(h:JD P n all o s1 H1 v):JD P n all o s2 H2 v:=fun a w ha hd=>by
 obtain⟨a1,h1,h2⟩:=hm a ha
 rw[←h2.want,←h2.exec]
 exact h a1 w h1 (hd.le hl)
theorem CL.move{x:Slot}(hm:Ff n all o s1 s2)(hl:Heap.le H1 H2)(h:CL P n all o s1 H1 x):CL P n all o s2 H2 x:=fun G a w ha=>by
 obtain⟨a1,h1,h2⟩:=hm H2 G a w ha
 obtain⟨v,h3,h4,h5⟩:=h G a1 w (h1.le hl)
 exact⟨v,h3,by rw[←h2.want];exact h4,by rw[←h2.exec];exact h5⟩
theorem JG.move{md:Mode}{v:Value}(hm:Mv n all o s1 s2)(h:JG P n md all o s1 v):JG P n md all o s2 v:=fun a w ha hd=>by
 obtain⟨a1,h1,h2⟩:=hm a ha
 have:=h a1 w h1 hd
 rw[h2.want,h2.exec]at this
 exact this
theorem wu.move{cs:List Value}(hm:Mv n all o s1 s2)(h:wu P n all o s1 cs):wu P n all o s2 cs:=fun a w ha=>by
 obtain⟨a1,h1,h2⟩:=hm a ha
 rw[←h2.want,←h2.exec]
 exact h a1 w h1
theorem JE.move{b:Nat}{cs:List Value}(hm:Ff n all o s1 s2)(h:JE P n all o s1 b cs):JE P n all o s2 b cs:=fun H G a w ha=>by
 obtain⟨a1,h1,h2⟩:=hm H G a w ha
 rw[←h2.want,←h2.exec]
 exact h H G a1 w h1
theorem vd.move{mk:Nat→Value}{xs:List Value}{e:TypeId}(hm:Mv n all o s1 s2)(h:vd P n all o s1 mk xs e):vd P n all o s2 mk xs e:=fun a w ha=>by
 obtain⟨a1,h1,h2⟩:=hm a ha
 rw[←h2.want,←h2.exec]
 exact h a1 w h1
theorem EV.move{bE:Value→Heap→Prop}(hm:Mv n all o s1 s2)(h:EV P n all o s1 H bE):EV P n all o s2 H bE:=fun a w ha hd=>by
 obtain⟨a1,h1,h2⟩:=hm a ha
 have:=h a1 w h1 hd
 unfold lQ at this⊢
 rw[←h2.want,←h2.exec]
 exact this
theorem wu.uniq{cs cK:List Value}(ha:∃a,gK n s a)(h:wu P n all o s cs)(h':wu P n all o s cK):cK=cs:=by
 obtain⟨a,ha⟩:=ha
 obtain⟨_,e,h1⟩:=h a default ha
 obtain⟨_,e',h2⟩:=h' a default ha
 rw[h1]at h2
 simp only[Result.ok.injEq,true_and]at h2
 have:=congrArg (fun w:World=>w.heap[(default:World).heap.size]?) h2
 simp only[heap_alloc_new,Option.some.injEq,Obj.cells.injEq]at this
 exact(List.toArray_inj this.1).symm
theorem vd.uniq{mk mk':Nat→Value}{xs oj:List Value}{e e':TypeId}(ha:∃a,gK n s a)(h:vd P n all o s mk xs e)(h':vd P n all o s mk' oj e'):mk'=mk∧oj=xs∧e'=e:=by
 obtain⟨a,ha⟩:=ha
 have key:∀w:World,mk' w.heap.size=mk w.heap.size∧oj=xs∧e'=e:=fun w=>by
  obtain⟨_,h1⟩:=h a w ha
  obtain⟨_,h2⟩:=h' a w ha
  rw[h1]at h2
  simp only[Result.ok.injEq,Next.value.injEq]at h2
  have:=congrArg (fun w':World=>w'.heap[w.heap.size]?) h2.2
  simp only[heap_alloc_new,Option.some.injEq,Obj.cells.injEq]at this
  exact⟨h2.1.symm,(List.toArray_inj this.1).symm,this.2.1.symm⟩
 refine⟨funext fun g=> ?_,(key default).2⟩
 have:=(key {(default:World)with heap:=Array.replicate g default}).1
 simpa using this
theorem EV.some{bE:Value→Heap→Prop}(h:EV P n all o s H bE)(ha:∃a,gK n s a)(hw:Real H):∃v H',bE v H'∧Real H':=by
 obtain⟨a,ha⟩:=ha
 obtain⟨w,hw⟩:=hw
 obtain⟨_,h2⟩:=h a w ha hw
 unfold lQ at h2
 split at h2
 ·obtain⟨H',hp,hd,_⟩:=h2;exact⟨_,H',hp,_,hd⟩
 ·obtain⟨H',hp,hd,_⟩:=h2;exact⟨_,H',hp,_,hd⟩
 ·obtain⟨e,w',fr,⟨v,_,H',hp,hd,_⟩,_⟩:=h2 []
  exact⟨v,H',hp,w',hd⟩
 ·exact h2.elim
theorem EV.frame{bE:Value→Heap→Prop}{g:Nat}{ent:Ent}(hg:H g=none)(h:EV P n all o s H bE):
  EV P n all o s (ins H g ent) (fun v tn=>∃H',bE v H'∧H' g=none∧tn=ins H' g ent):=fun a w ha hd=>by
 obtain⟨h1,h2⟩:=h a w ha (hd.le (Heap.bI ent hg))
 refine⟨h1,h2.mono fun v w' hh=> ?_⟩
 obtain⟨H',hp,mQ,hf⟩:=hh
 obtain⟨ob,ho,hoe⟩:=hd g ent (bC _ _ _)
 have bP:=hd.lt (bC H g ent)
 obtain⟨gL,fP⟩:=hf.keep g bP hg
 refine⟨ins H' g ent,⟨H',hp,fP,rfl⟩,fun k e hk=> ?_,⟨hf.os,hf.tape,hf.output,hf.size,fun k hk h0=> ?_,hf.form⟩⟩
 ·by_cases ek:k=g
  ·subst ek
   rw[bC]at hk
   simp only[Option.some.injEq]at hk
   subst hk
   exact⟨ob,gL.trans ho,hoe⟩
  ·rw[bn _ _ ek]at hk;exact mQ k e hk
 ·have ek:k≠g:=fun e=>by subst e;rw[bC]at h0;cases h0
  rw[bn _ _ ek]at h0⊢
  exact hf.keep k hk h0
theorem om{d:Option Nat}{X:Slot}(hs:tt o.op=true)(hd:∀k,d=some k→k<n∧k∉o.looksAt all):Mv n all o (bD s d X) s:=fun a ha=>by
 cases d with
 | none=>exact⟨a,ha,.refl a⟩
 | some d=>
  obtain⟨hn,hl⟩:=hd d rfl
  have key:∀u,(∀v,X = .val v→u=v)→∃a1,gK n (bD s (some d) X) a1∧Ae all o a1 a:=fun u hu=>by
   refine⟨a.put (some d) u,⟨by rw[Act.CJ];exact ha.size,fun t v ht=> ?_⟩,.put u hs hl⟩
   by_cases e:t=d
   ·subst e
    rw[show bD s (some t) X=put s t X from rfl,iz]at ht
    simp only[Option.some.injEq]at ht
    rw[Act.yk _ _ _ (by rw[ha.size];exact hn),hu v ht]
   ·rw[show bD s (some d) X=put s d X from rfl,fG _ _ e]at ht
    rw[Act.rG _ _ e];exact ha.at_ t v ht
  cases X with
  | val v=>exact key v (fun v' h=>by cases h;rfl)
  | box cs=>exact key undef (fun v' h=>by cases h)
  | ref b off=>exact key undef (fun v' h=>by cases h)
theorem JH{d:Option Nat}{X:Slot}(hx:∀cs,X≠.box cs)(hs:tt o.op=true)(hd:∀k,d=some k→k<n∧k∉o.looksAt all):Ff n all o (bD s d X) s:=fun H G a w ha=>by
 cases d with
 | none=>exact⟨a,ha,.refl a⟩
 | some d=>
  obtain⟨hn,hl⟩:=hd d rfl
  cases X with
  | val v=>exact⟨_,ha.put hn (x:= .val v) rfl,.put _ hs hl⟩
  | box cs=>exact absurd rfl (hx cs)
  | ref b off=>exact⟨_,ha.put hn (x:= .ref b off) rfl,.put _ hs hl⟩
theorem vi{d:Option Nat}{X:Slot}(hs:tt o.op=true)(hd:∀k,d=some k→k<n∧k∉o.looksAt all):Mv n all o s (bD s d X):=fun a ha=>by
 cases d with
 | none=>exact⟨a,ha,.refl a⟩
 | some d=>
  obtain⟨hn,hl⟩:=hd d rfl
  obtain⟨v,hv⟩:=gK.back (s:=s) (d:=d) ha (fun t v ht h=>by rw[show bD s (some d) X=put s d X from rfl,fG _ _ ht];exact h) hn
  exact⟨_,hv,.put v hs hl⟩
theorem aco{d:Option Nat}{X:Slot}(hs:tt o.op=true)(hd:∀k,d=some k→k<n∧k∉o.looksAt all)(hb:∀k cs,d=some k→s k≠some (.box cs)):Ff n all o s (bD s d X):=fun H G a w ha=>by
 cases d with
 | none=>exact⟨a,ha,.refl a⟩
 | some d=>
  obtain⟨hn,hl⟩:=hd d rfl
  obtain⟨v,hv⟩:=Rl.back (s:=s) (d:=d) ha (fun cs=>hb d cs rfl) (fun t x ht h _=>by rw[show bD s (some d) X=put s d X from rfl,fG _ _ ht];exact h) hn
  exact⟨_,hv,.put v hs hl⟩
theorem Fg{d t:Nat}{cs:List Value}{x:Slot}(ht:t≠d)(h:s t=some x)(hx:∀b o,x = .ref b o→b≠d):ig s d cs t=some x:=by
 rw[pj _ _ ht,h]
 cases x with
 | val v=>rfl
 | box c=>rfl
 | ref b off=>
  have:=hx b off rfl
  have hb:Nat.beq b d=false:=by
   cases hb:Nat.beq b d with
   | false=>rfl
   | true=>exact absurd (Nat.eq_of_beq_eq_true hb) this
  simp[vg,hb]
theorem JI{d:Nat}{cs:List Value}(hs:tt o.op=true)(hn:d<n)(hl:d∉o.looksAt all):Mv n all o s (ig s d cs):=fun a ha=>by
 obtain⟨v,hv⟩:=gK.back (s:=s) (d:=d) ha (fun t v ht h=>Fg ht h (fun b o e=>by cases e)) hn
 exact⟨_,hv,.put v hs hl⟩
theorem acp{d:Nat}{cs:List Value}(hs:tt o.op=true)(hn:d<n)(hl:d∉o.looksAt all)(hb:∀cs,s d≠some (.box cs)):Ff n all o s (ig s d cs):=fun H G a w ha=>by
 obtain⟨v,hv⟩:=Rl.back (s:=s) (d:=d) ha hb (fun t x ht h hx=>Fg ht h hx) hn
 exact⟨_,hv,.put v hs hl⟩
theorem Uw{d:Nat}{cs:List Value}:Mv n all o (ig s d cs) s:=fun a ha=>
 ⟨a,⟨ha.size,fun t v ht=>ha.at_ t v (NK ht).2⟩,.refl a⟩
theorem acq{b:Nat}{cs cK:List Value}(hb:s b=some (.box cs)):Mv n all o s (put s b (.box cK)):=fun a ha=>
 ⟨a,⟨ha.size,fun t v ht=>ha.at_ t v (by
  have e:t≠b:=fun e=>by subst e;rw[hb]at ht;cases ht
  rw[fG _ _ e];exact ht)⟩,.refl a⟩
theorem qi{d e:Option Nat}(X Y:Slot)(h:∀k,d=some k→e≠some k):bD (bD s d X) e Y=bD (bD s e Y) d X:=by
 cases d with
 | none=>rfl
 | some d=>
  cases e with
  | none=>rfl
  | some e=>exact put_comm s X Y (fun h'=>h d rfl (by rw[h']))
theorem Fh{d:Option Nat}{e:Nat}{X:Slot}{cs:List Value}(h:d≠some e)(hx:∀b o,X = .ref b o→b≠e):ig (bD s d X) e cs=bD (ig s e cs) d X:=by
 cases d with
 | none=>rfl
 | some d=>
  have bA:d≠e:=fun h'=>h (by rw[h'])
  funext t
  show ig (put s d X) e cs t=put (ig s e cs) d X t
  by_cases h1:t=e
  ·subst h1
   rw[tv,fG _ _ (Ne.symm bA),tv]
  ·rw[pj _ _ h1]
   by_cases h2:t=d
   ·subst h2
    rw[iz,iz]
    have:=Fg (s:=put s t X) (cs:=cs) h1 (iz s t X) hx
    rw[pj _ _ h1,iz]at this
    exact this
   ·rw[fG _ _ h2,fG _ _ h2,pj _ _ h1]
theorem acr(d e:Nat)(x:Option Slot):vg d (vg e x)=vg e (vg d x):=by
 cases x with
 | none=>rfl
 | some x=>
  cases x with
  | val v=>rfl
  | box c=>rfl
  | ref b o=>cases h1:Nat.beq b d <;> cases h2:Nat.beq b e <;> simp[vg,h1,h2]
theorem acs{d e:Nat}{cs cK:List Value}(h:d≠e):ig (ig s d cs) e cK=ig (ig s e cK) d cs:=by
 funext t
 by_cases h1:t=e
 ·subst h1
  rw[tv,pj _ _ (Ne.symm h),tv];rfl
 ·rw[pj _ _ h1]
  by_cases h2:t=d
  ·subst h2
   rw[tv,tv];rfl
  ·rw[pj _ _ h2,pj _ _ h2,pj _ _ h1,acr]
theorem Ux{d:Option Nat}{b:Nat}{X:Slot}{cs:List Value}(h:d≠some b):put (bD s d X) b (.box cs)=bD (put s b (.box cs)) d X:=by
 cases d with
 | none=>rfl
 | some d=>exact put_comm s X (.box cs) (fun h'=>h (by rw[h']))
theorem CO(H:Heap){g k:Nat}(e e':Ent)(h:g≠k):ins (ins H g e) k e'=ins (ins H k e') g e:=by
 funext t
 by_cases h1:t=k
 ·subst h1;rw[bC,bn _ _ (Ne.symm h),bC]
 ·by_cases h2:t=g
  ·subst h2;rw[bn _ _ h1,bC,bC]
  ·rw[bn _ _ h1,bn _ _ h2,bn _ _ h2,bn _ _ h1]
end
theorem JJ(s:St)(d:Nat)(X:Slot):bD s (some d) X=put s d X:=rfl
theorem jy.bD{md:Mode}{s s':St}(h:jy md s s')(d:Option Nat)(X:Slot):jy md (bD s d X) (bD s' d X):=fun t=>by
 cases d with
 | none=>exact h t
 | some d=>
  rw[JJ,JJ]
  by_cases e:t=d
  ·subst e;exact .inl (by rw[iz,iz])
  ·rw[fG _ _ e,fG _ _ e];exact h t
theorem jy.acu{md:Mode}{s s':St}{d:Option Nat}{X:Slot}(hX:∀c,X≠.box c)(h:jy md (aq.bD s d X) s'):∃wv,jy md s wv∧s'=aq.bD wv d X∧∀k,d=some k→wv k=s k:=by
 cases d with
 | none=>exact⟨s',h,rfl,fun k e=>by cases e⟩
 | some d=>
  rw[JJ]at h
  have hd:s' d=some X:=h.val hX (iz _ _ _)
  refine⟨fun t=>if t=d then s t else s' t,fun t=> ?_,?_,fun k e=>by cases e;simp⟩
  ·by_cases e:t=d
   ·left;simp[e]
   ·have:=h t
    rw[fG _ _ e]at this
    simpa [e]using this
  ·rw[JJ]
   funext t
   by_cases e:t=d
   ·subst e;rw[iz,hd]
   ·rw[fG _ _ e,if_neg e]
open Classical in
theorem jy.unbox{md:Mode}{s s':St}{d:Nat}{cs:List Value}(h:jy md (ig s d cs) s'):∃wv JK,jy md s wv∧s'=ig wv d JK∧wv d=s d:=by
 obtain⟨JK,hc⟩:=h.box (tv s d cs)
 refine⟨fun t=>if t=d∨s' t=ig s d cs t then s t else s' t,JK,fun t=> ?_,?_,by simp⟩
 ·by_cases e:t=d∨s' t=ig s d cs t
  ·left;simp only[e,if_true]
  ·simp only[e,if_false]
   rcases h t with h1 | ⟨h0,c,c',h1,h2⟩
   ·exact absurd (.inr h1) e
   ·rcases rJ h1 with ⟨e1,_⟩ | ⟨_,h3⟩
    ·exact absurd (.inl e1) e
    ·exact .inr ⟨h0,c,c',h3,h2⟩
 ·funext t
  by_cases e:t=d
  ·subst e;rw[hc,tv]
  ·rw[pj _ _ e]
   by_cases e2:s' t=ig s d cs t
   ·simp only[e2,or_true,if_true];exact pj _ _ e
   ·rcases h t with h1 | ⟨h0,c,c',h1,h2⟩
    ·exact absurd h1 e2
    ·rw[if_neg (by rintro(h3 | h3);exact e h3;exact e2 h3),h2];rfl
theorem jy.store{md:Mode}{s s':St}{b:Nat}{cs cK:List Value}(hb:s b=some (.box cs))(hw:md.wr b=true)(h:jy md (put s b (.box cK)) s'):jy md s s':=fun t=>by
 by_cases e:t=b
 ·subst e
  obtain⟨c,hc⟩:=h.box (iz s t (.box cK))
  exact .inr ⟨hw,cs,c,hb,hc⟩
 ·have:=h t
  rwa [fG _ _ e]at this
end Go.aq
namespace Go.aq
section
variable {P:Program} {n:Nat} {all:Array Oper} {md:Mode} {x y:Oper} {s:St} {H:Heap} {K:St→Heap→Prop}
theorem ym{md:Mode}(eX:md≠.plain){k:Nat}(h:k=1∨k=2∨md = .plain):k=1∨k=2:=by
 rcases h with h | h | h
 ·exact .inl h
 ·exact .inr h
 ·exact absurd h eX
theorem rM(eX:md≠.plain)(fl:md.og=false)(d:Option Nat):md.nb s d=true↔∀k cs,d=some k→s k≠some (.box cs):=by
 cases d with
 | none=>cases md <;> simp[Mode.nb,Mode.og]at *
 | some d=>
  have:md.nb s (some d)=(match s d with | some (.box _)=>false | _=>true):=by cases md <;> first | exact absurd rfl eX | rfl | cases fl
  rw[this]
  cases hs:s d with
  | none=>exact⟨(fun _ k cs hk h=>by cases hk;rw[hs]at h;cases h),fun _=>rfl⟩
  | some z=>
   cases z with
   | val v=>exact⟨(fun _ k cs hk h=>by cases hk;rw[hs]at h;cases h),fun _=>rfl⟩
   | box c=>exact⟨(fun h=>by cases h),fun h=>absurd hs (h d c rfl)⟩
   | ref b o=>exact⟨(fun _ k cs hk h=>by cases hk;rw[hs]at h;cases h),fun _=>rfl⟩
theorem Ag{X:Slot}:X.tu s=true↔(∀cs,X≠.box cs)∧∀b o,X = .ref b o→∃cs,s b=some (.box cs):=by
 cases X with
 | val v=>simp[Slot.tu]
 | box c=>simp[Slot.tu]
 | ref b o=>
  simp only[Slot.tu]
  cases hs:s b with
  | none=>simp[hs]
  | some z=>cases z <;> simp[hs]
theorem Fi{d:Option Nat}{X:Slot}{t:Nat}(h:d≠some t):bD s d X t=s t:=by
 cases d with
 | none=>rfl
 | some d=>exact fG s X (fun e=>h (by rw[e]))
theorem NL{d:Option Nat}{X:Slot}{t:Nat}{cs:List Value}(hx:∀cs,X≠.box cs)(h:bD s d X t=some (.box cs)):d≠some t∧s t=some (.box cs):=by
 cases d with
 | none=>exact⟨by simp,h⟩
 | some d=>
  by_cases e:t=d
  ·subst e
   rw[show bD s (some t) X=put s t X from rfl,iz]at h
   simp only[Option.some.injEq]at h
   exact absurd h (hx cs)
  ·rw[show bD s (some d) X=put s d X from rfl,fG _ _ e]at h
   exact⟨fun h'=>e (by cases h';rfl),h⟩
structure CP(md:Mode)(all:Array Oper)(x y:Oper):Prop where
 xs:tt x.op=true
 ys:tt y.op=true
 xy:∀d,x.dst=some d→d∉y.looksAt all
 ne:∀d,x.dst=some d→y.dst≠some d
 yx:∀d,y.dst=some d→d∉x.looksAt all
 kind:(kd x.op=0∧(kd y.op=0∨(kd y.op=1∧md.Us=false)∨(kd y.op=3∧(y.guard=none∨md.og=false))∨(kd y.op=2∧md.NI=true∧(md.NJ=true∨Fc x.op=false))))∨((kd x.op=1∨kd x.op=3)∧kd y.op=3∧y.guard=none∧md.og=false)
theorem Sw.out(h:Sw md all x y=true):CP md all x y:=by
 simp only[Sw,Bool.and_eq_true,Bool.or_eq_true,beq_iff_eq,Option.isNone_iff_eq_none,Bool.not_eq_true']at h
 obtain⟨⟨⟨h1,h2⟩,h3⟩,h4⟩:=h
 obtain⟨a1,a2,a3⟩:=Oper.apart_spec h1
 refine⟨h2,h3,a1,a2,a3,?_⟩
 rcases h4 with ⟨hx,hy⟩ | ⟨⟨⟨hx,hy⟩,hz⟩,hk⟩
 ·left
  refine⟨hx,?_⟩
  rcases hy with ((hy | hy) | hy) | hy
  ·exact .inl hy
  ·exact .inr (.inl hy)
  ·exact .inr (.inr (.inl hy))
  ·exact .inr (.inr (.inr ⟨hy.1.1,hy.1.2,hy.2⟩))
 ·exact .inr ⟨hx,hy,hz,hk⟩
theorem Den.acv{H:Heap}{w:World}(h:Den H w)(xs:List Value)(e:TypeId):Den (ins H w.heap.size (whole xs e)) (w.alloc (.cells xs.toArray e (0,0))):=by
 intro g e' hg
 by_cases eg:g=w.heap.size
 ·subst eg
  rw[bC]at hg
  simp only[Option.some.injEq]at hg
  subst hg
  exact⟨_,heap_alloc_new w _,xs.toArray,(0,0),rfl,by simp[whole],fun i v hv=>by simpa [whole]using hv,fun _=>rfl⟩
 ·rw[bn _ _ eg]at hg
  exact h.alloc _ g e' hg
theorem Heap.le.nF{H H':Heap}{g:Nat}{e:Ent}(h:Heap.le H H')(hg:H' g=none):Heap.le (ins H g e) (ins H' g e):=fun k x hk=>by
 by_cases ek:k=g
 ·subst ek
  rw[bC]at hk⊢
  exact⟨x,hk,.refl x⟩
 ·rw[bn _ _ ek]at hk⊢
  exact h k x hk
theorem ij.acw(eX:md≠.plain)(fl:md.og=false)(hw:CP md all x y)(Ah:∀d,x.dst=some d→d<n)(qj:∀d,y.dst=some d→d<n)
  (hS:∃a,gK n s a) (hH:Real H) (h:ij P n all md x s H (fun s1 H1=>ij P n all md y s1 H1 K)):ij P n all md y s H (fun s2 H2=>ij P n all md x s2 H2 K):=by
 have cY:∀d,x.dst=some d→d<n∧d∉y.looksAt all:=fun d hd=>⟨Ah d hd,hw.xy d hd⟩
 have kR:∀d,y.dst=some d→d<n∧d∉x.looksAt all:=fun d hd=>⟨qj d hd,hw.yx d hd⟩
 have Fj:∀d,y.dst=some d→x.dst≠some d:=fun d hd e=>hw.ne d e hd
 have mg:∀{X:Slot},(∀cs,X≠.box cs)→md.nb (bD s x.dst X) y.dst=true→md.nb s y.dst=true:=fun{X} hX hn=>by
  rw[rM eX fl]at hn⊢
  intro k cs hk hs
  exact hn k cs hk (by rw[Fi (Fj k hk)];exact hs)
 have oo:∀{Y:Slot},md.nb s x.dst=true→md.nb (bD s y.dst Y) x.dst=true:=fun{Y} hn=>by
  rw[rM eX fl]at hn⊢
  intro k cs hk hs
  exact hn k cs hk (by rw[Fi (hw.ne k hk)]at hs;exact hs)
 have Uy:∀{X Y:Slot},(∀cs,X≠.box cs)→Y.tu (bD s x.dst X)=true→Y.tu s=true:=fun{X Y} hX hg=>by
  rw[Ag]at hg⊢
  exact⟨hg.1,fun b o e=>by obtain⟨cs,hc⟩:=hg.2 b o e;exact⟨cs,(NL hX hc).2⟩⟩
 have JL:∀{X Y:Slot},md.nb s y.dst=true→X.tu s=true→X.tu (bD s y.dst Y)=true:=fun{X Y} hn hg=>by
  rw[Ag]at hg⊢
  refine⟨hg.1,fun b o e=> ?_⟩
  obtain⟨cs,hc⟩:=hg.2 b o e
  exact⟨cs,by rw[Fi (fun hk=>(rM eX fl _).1 hn b cs hk hc)];exact hc⟩
 have Uz:∀{k:Nat}{cs:List Value},md.nb s y.dst=true→y.dst=some k→s k≠some (.box cs):=fun{k cs} hn hk=>(rM eX fl _).1 hn k cs hk
 have JM:∀{X Y:Slot}{H1 H2:Heap},md.nb s y.dst=true→(∀c,Y≠.box c)→Heap.le H1 H2→(∀s',jy md s s'→CL P n all x s' H1 X)→∀s',jy md (bD s y.dst Y) s'→CL P n all x s' H2 X:=fun{X Y H1 H2} n1 hY hl h s' e=>by
  obtain⟨wv,e1,rfl,e2⟩:=e.acu hY
  exact(h _ e1).move (aco hw.xs kR (fun k cs hk=>by rw[e2 k hk];exact Uz n1 hk)) hl
 cases h with
 | jK v hm nb h k=>
  have hX:∀cs,Slot.val v≠.box cs:=fun cs e=>by cases e
  cases k with
  | jK v' bL dE h' k'=>
   have n1:=mg hX dE
   refine .jK v' bL n1 (h'.move (om hw.ys cY) (.refl _)) (.jK v hm (oo nb) (h.move (vi hw.xs kR) (.refl _)) ?_)
   rw[←qi _ _ hw.ne];exact k'
  | jz X' bL dE tw h' k'=>
   have n1:=mg hX dE
   refine .jz X' bL n1 (Uy hX tw) (fun s' e=>(h' _ (e.bD _ _)).move (JH hX hw.ys cY) (.refl _)) (.jK v hm (oo nb) (h.move (vi hw.xs kR) (.refl _)) ?_)
   rw[←qi _ _ hw.ne];exact k'
  | jL d hd bL dE cs h' k'=>
   have n1:=mg hX dE
   refine .jL d hd bL n1 cs (h'.move (om hw.ys cY)) (.jK v hm ?_ (h.move (JI hw.xs (qj d hd) (hw.yx d hd)) (.refl _)) ?_)
   ·rw[rM eX fl]at nb⊢
    intro k cK hk hs
    rcases rJ hs with ⟨e,_⟩ | ⟨_,hs⟩
    ·exact hw.ne k hk (by rw[hd,e])
    ·exact nb k cK hk hs
   ·rw[←Fh (fun e=>hw.ne d e hd) (fun b o e=>by cases e)];exact k'
  | me b cs cK hd bL hb ku h' k'=>
   obtain⟨wx,gM⟩:=NL hX hb
   refine .me b cs cK hd bL gM ku (h'.move (JH hX hw.ys cY)) (.jK v hm ?_ (h.move (acq gM) (.refl _)) ?_)
   ·rw[rM eX fl]at nb⊢
    intro k c hk hs
    by_cases e:k=b
    ·subst e;exact wx hk
    ·rw[fG _ _ e]at hs;exact nb k c hk hs
   ·rw[←Ux wx];exact k'
  | fresh mk xs e bL dE h' k'=>
   have n1:=mg hX dE
   refine .fresh mk xs e bL n1 (h'.move (om hw.ys cY)) fun g hg hr=> .jK v hm (oo nb) (h.move (vi hw.xs kR) (Heap.bI _ hg)) ?_
   rw[←qi _ _ hw.ne];exact k' g hg hr
  | mf _ bV _ _ _ _ _=>rw[fl]at bV;cases bV
  | oh _ _ _ bV _ _ _ _=>rw[fl]at bV;cases bV
  | mR _ bV _ _ _ _ _=>rw[fl]at bV;cases bV
  | iY bE ha dE h' bL k'=>
   have lR:=ym eX ha
   have n1:=mg hX dE
   have NM:∀u H',bE u H'→Heap.le H H':=by
    cases md with
    | plain=>exact absurd rfl eX
    | bK=>exact bL.2
    | qh st=>exact bL.2
    | gD=>
     rcases bL with e | e
     ·have:=rL.1 e
      rcases hw.kind with ⟨_,h1 | h1 | h1 | h1⟩ | h1
      ·omega
      ·omega
      ·omega
      ·exact absurd h1.2.1 (by decide)
      ·omega
     ·exact e
    | cO k=>cases fl
    | vf=>
     rcases hw.kind with ⟨_,h1 | h1 | h1 | h1⟩ | h1
     ·omega
     ·exact absurd h1.2 (by decide)
     ·omega
     ·exact absurd h1.2.1 (by decide)
     ·omega
   refine .iY bE ha n1 (h'.move (om hw.ys cY)) bL fun u H' hp hr=> .jK v hm (oo nb) (h.move (vi hw.xs kR) (NM u H' hp)) ?_
   rw[←qi _ _ hw.ne];exact k' u H' hp hr
 | jz X hm nb hx h k=>
  have hX:=(Ag.1 hx).1
  have kx:=CN hm
  cases k with
  | jK v' bL dE h' k'=>
   have n1:=mg hX dE
   refine .jK v' bL n1 (h'.move (om hw.ys cY) (.refl _)) (.jz X hm (oo nb) (JL n1 hx) (JM n1 (fun c e=>by cases e) (.refl _) h) ?_)
   rw[←qi _ _ hw.ne];exact k'
  | jz X' bL dE tw h' k'=>
   have n1:=mg hX dE
   refine .jz X' bL n1 (Uy hX tw) (fun s' e=>(h' _ (e.bD _ _)).move (JH hX hw.ys cY) (.refl _)) (.jz X hm (oo nb) (JL n1 hx) (JM n1 (Ag.1 tw).1 (.refl _) h) ?_)
   rw[←qi _ _ hw.ne];exact k'
  | jL d hd bL dE cs h' k'=>
   have n1:=mg hX dE
   have tx:∀cs,s d≠some (.box cs):=fun cs=>Uz n1 hd
   refine .jL d hd bL n1 cs (h'.move (om hw.ys cY)) (.jz X hm ?_ ?_ (fun s' e=>by
    obtain⟨wv,JK,e1,rfl,e2⟩:=e.unbox
    exact(h _ e1).move (acp hw.xs (qj d hd) (hw.yx d hd) (fun cs=>by rw[e2];exact tx cs)) (.refl _)) ?_)
   ·rw[rM eX fl]at nb⊢
    intro k cK hk hs
    rcases rJ hs with ⟨e,_⟩ | ⟨_,hs⟩
    ·exact hw.ne k hk (by rw[hd,e])
    ·exact nb k cK hk hs
   ·rw[Ag]at hx⊢
    refine⟨hx.1,fun b o e=> ?_⟩
    obtain⟨c,hc⟩:=hx.2 b o e
    exact⟨c,Fg (fun e=>by subst e;exact tx c hc) hc (fun b o e=>by cases e)⟩
   ·rw[←Fh (fun e=>hw.ne d e hd) (fun b o e hb=>by subst hb;obtain⟨c,hc⟩:=(Ag.1 hx).2 b o e;exact tx c hc)];exact k'
  | me b cs cK hd bL hb ku h' k'=>
   have:=rL.1 bL
   have hT:md.NJ=true:=by
    rcases hw.kind with ⟨_,h1 | h1 | h1 | h1⟩ | h1
    ·omega
    ·omega
    ·omega
    ·rcases h1.2.2 with h2 | h2
     ·exact h2
     ·rw[hm]at h2;cases h2
    ·omega
   have hwr:md.wr b=true:=by
    cases md <;> first | exact ku | cases hT
   obtain⟨wx,gM⟩:=NL hX hb
   refine .me b cs cK hd bL gM ku (h'.move (JH hX hw.ys cY)) (.jz X hm ?_ ?_ (fun s' e=>h s' (e.store gM hwr)) ?_)
   ·rw[rM eX fl]at nb⊢
    intro k c hk hs
    by_cases e:k=b
    ·subst e;exact wx hk
    ·rw[fG _ _ e]at hs;exact nb k c hk hs
   ·rw[Ag]at hx⊢
    refine⟨hx.1,fun b' o e=> ?_⟩
    obtain⟨c,hc⟩:=hx.2 b' o e
    by_cases e2:b'=b
    ·subst e2;exact⟨cK,iz _ _ _⟩
    ·exact⟨c,by rw[fG _ _ e2];exact hc⟩
   ·rw[←Ux wx];exact k'
  | fresh mk xs e bL dE h' k'=>
   have n1:=mg hX dE
   refine .fresh mk xs e bL n1 (h'.move (om hw.ys cY)) fun g hg hr=> .jz X hm (oo nb) (JL n1 hx) (JM n1 (fun c e=>by cases e) (Heap.bI _ hg) h) ?_
   rw[←qi _ _ hw.ne];exact k' g hg hr
  | mf _ bV _ _ _ _ _=>rw[fl]at bV;cases bV
  | oh _ _ _ bV _ _ _ _=>rw[fl]at bV;cases bV
  | mR _ bV _ _ _ _ _=>rw[fl]at bV;cases bV
  | iY bE ha dE h' bL k'=>
   have lR:=ym eX ha
   have n1:=mg hX dE
   have NM:∀u H',bE u H'→Heap.le H H':=by
    cases md with
    | plain=>exact absurd rfl eX
    | bK=>exact bL.2
    | qh st=>exact bL.2
    | gD=>
     rcases bL with e | e
     ·have:=rL.1 e
      rcases hw.kind with ⟨_,h1 | h1 | h1 | h1⟩ | h1
      ·omega
      ·omega
      ·omega
      ·exact absurd h1.2.1 (by decide)
      ·omega
     ·exact e
    | cO k=>cases fl
    | vf=>
     rcases hw.kind with ⟨_,h1 | h1 | h1 | h1⟩ | h1
     ·omega
     ·exact absurd h1.2 (by decide)
     ·omega
     ·exact absurd h1.2.1 (by decide)
     ·omega
   refine .iY bE ha n1 (h'.move (om hw.ys cY)) bL fun u H' hp hr=> .jz X hm (oo nb) (JL n1 hx) (JM n1 (fun c e=>by cases e) (NM u H' hp) h) ?_
   rw[←qi _ _ hw.ne];exact k' u H' hp hr
 | jL dx Ai px tz cx hx k=>
  have kx:=yl.1 (show rI x.op=true by simp[rI,px])
  have pz:kd y.op=3∧y.guard=none:=by
   rcases hw.kind with ⟨h1,_⟩ | h1
   ·omega
   ·exact⟨h1.2.1,h1.2.2.1⟩
  have n1:md.nb (ig s dx cx) y.dst=true→md.nb s y.dst=true:=fun hn=>by
   rw[rM eX fl]at hn⊢
   intro k cs hk hs
   exact hn k cs hk (Fg (fun e=>Fj k hk (by rw[Ai,e])) hs (fun b o e=>by cases e))
  cases k with
  | jK v' bL dE h' k'=>
   rcases bL with e | e
   ·rw[yl.2 pz.1]at e;cases e
   ·exact absurd pz.2 e
  | jz X' bL dE tw h' k'=>have:=CN bL;omega
  | jL d hd bL dE cs h' k'=>
   refine .jL d hd bL (n1 dE) cs (h'.move Uw) (.jL dx Ai px ?_ cx (hx.move (JI hw.xs (qj d hd) (hw.yx d hd))) ?_)
   ·rw[rM eX fl]at tz⊢
    intro k cK hk hs
    rcases rJ hs with ⟨e,_⟩ | ⟨_,hs⟩
    ·exact hw.ne k hk (by rw[hd,e])
    ·exact tz k cK hk hs
   ·rw[←acs (fun e=>hw.ne dx Ai (by rw[hd,e]))];exact k'
  | me b cs cK hd bL hb ku h' k'=>have:=rL.1 bL;omega
  | fresh mk xs e bL dE h' k'=>
   refine .fresh mk xs e bL (n1 dE) (h'.move Uw) fun g hg hr=> .jL dx Ai px (oo tz) cx (hx.move (vi hw.xs kR)) ?_
   rw[Fh (fun e=>Fj dx e Ai) (fun b o e=>by cases e)];exact k' g hg hr
  | mf _ bV _ _ _ _ _=>rw[fl]at bV;cases bV
  | oh _ _ _ bV _ _ _ _=>rw[fl]at bV;cases bV
  | mR _ bV _ _ _ _ _=>rw[fl]at bV;cases bV
  | iY bE ha dE h' bL k'=>have lR:=ym eX ha;omega
 | me b cs cK hd hm hb ku h k=>
  have:=rL.1 hm
  rcases hw.kind with ⟨h1,_⟩ | h1 <;> omega
 | fresh JN rN ex px tz hx k=>
  have kx:kd x.op=3:=yl.1 (by rcases px with e | ⟨e,_⟩ <;> simp[rI,e]at *)
  have pz:kd y.op=3∧y.guard=none:=by
   rcases hw.kind with ⟨h1,_⟩ | h1
   ·omega
   ·exact⟨h1.2.1,h1.2.2.1⟩
  obtain⟨w,hd⟩:=hH
  have ff:Den (ins H w.heap.size (whole rN ex)) (w.alloc (.cells rN.toArray ex (0,0))):=Den.acv hd rN ex
  rcases Uv pz.1 with ⟨Aj,Ak⟩ | ⟨Aj,Ak⟩
  ·
   have only:∀g,H g=none→Real (ins H g (whole rN ex))→∃d cs,y.dst=some d∧md.nb s y.dst=true∧wu P n all y s cs∧K (ig (bD s x.dst (.val (JN g))) d cs) (ins H g (whole rN ex)):=by
    intro g hg hr
    cases k g hg hr with
    | jK v' bL dE h' k'=>
     rcases bL with e | e
     ·rw[yl.2 pz.1]at e;cases e
     ·exact absurd pz.2 e
    | jz X' bL dE tw h' k'=>have:=CN bL;omega
    | me b cs cK hd bL hb ku h' k'=>have:=rL.1 bL;omega
    | mf _ bV _ _ _ _ _=>rw[fl]at bV;cases bV
    | oh _ _ _ bV _ _ _ _=>rw[fl]at bV;cases bV
    | mR _ bV _ _ _ _ _=>rw[fl]at bV;cases bV
    | iY bE ha dE h' bL k'=>have lR:=ym eX ha;omega
    | fresh mk xs e bL dE h' k'=>
     rcases bL with e | e
     ·rw[Ak]at e;cases e
     ·exact absurd e.1 eX
    | jL d hd bL dE cs h' k'=>exact⟨d,cs,hd,mg (fun cs e=>by cases e) dE,h'.move (om hw.ys cY),k'⟩
   obtain⟨d,cs,qk,Al,hy,_⟩:=only _ hd.fresh ⟨_,ff⟩
   refine .jL d qk Aj Al cs hy (.fresh JN rN ex px ?_ (hx.move (JI hw.xs (qj d qk) (hw.yx d qk))) fun g hg hr=> ?_)
   ·rw[rM eX fl]at tz⊢
    intro k cK hk hs
    rcases rJ hs with ⟨e,_⟩ | ⟨_,hs⟩
    ·exact hw.ne k hk (by rw[qk,e])
    ·exact tz k cK hk hs
   ·obtain⟨d',cK,Fk,_,vj,hk⟩:=only g hg hr
    obtain rfl:d'=d:=by rw[qk]at Fk;cases Fk;rfl
    obtain rfl:=hy.uniq hS vj
    rw[←Fh (fun e=>hw.ne _ e qk) (fun b o e=>by cases e)];exact hk
  ·have only:∀g,H g=none→Real (ins H g (whole rN ex))→∃mk xs e,md.nb s y.dst=true∧vd P n all y s mk xs e∧∀g',ins H g (whole rN ex) g'=none→Real (ins (ins H g (whole rN ex)) g' (whole xs e))→K (bD (bD s x.dst (.val (JN g))) y.dst (.val (mk g'))) (ins (ins H g (whole rN ex)) g' (whole xs e)):=by
    intro g hg hr
    cases k g hg hr with
    | jK v' bL dE h' k'=>
     rcases bL with e | e
     ·rw[yl.2 pz.1]at e;cases e
     ·exact absurd pz.2 e
    | jz X' bL dE tw h' k'=>have:=CN bL;omega
    | me b cs cK hd bL hb ku h' k'=>have:=rL.1 bL;omega
    | mf _ bV _ _ _ _ _=>rw[fl]at bV;cases bV
    | oh _ _ _ bV _ _ _ _=>rw[fl]at bV;cases bV
    | mR _ bV _ _ _ _ _=>rw[fl]at bV;cases bV
    | iY bE ha dE h' bL k'=>have lR:=ym eX ha;omega
    | jL d hd bL dE cs h' k'=>rw[Aj]at bL;cases bL
    | fresh mk xs e bL dE h' k'=>exact⟨mk,xs,e,mg (fun cs e=>by cases e) dE,h'.move (om hw.ys cY),k'⟩
   obtain⟨mk,xs,e,Al,hy,_⟩:=only _ hd.fresh ⟨_,ff⟩
   refine .fresh mk xs e (.inl Ak) Al hy fun g' iG dS=> .fresh JN rN ex px (oo tz) (hx.move (vi hw.xs kR)) fun g hg hr=> ?_
   have bA:g≠g':=fun e'=>by subst e';rw[bC]at hg;cases hg
   have ql:H g=none:=by rw[bn _ _ bA]at hg;exact hg
   have pA:Real (ins H g (whole rN ex)):=by
    obtain⟨w1,gE⟩:=hr
    rw[CO _ _ _ bA.symm]at gE
    exact⟨w1,gE.le (Heap.bI _ (by rw[bn _ _ bA.symm];exact iG))⟩
   obtain⟨mk',oj,e',_,vj,hk⟩:=only g ql pA
   obtain⟨rfl,rfl,rfl⟩:=hy.uniq hS vj
   have:=hk g' (by rw[bn _ _ bA.symm];exact iG) (by rw[CO _ _ _ bA];exact hr)
   rw[←qi _ _ hw.ne,CO _ _ _ bA.symm];exact this
 | mf _ bV _ _ _ _ _=>rw[fl]at bV;cases bV
 | oh _ _ _ bV _ _ _ _=>rw[fl]at bV;cases bV
 | mR _ bV _ _ _ _ _=>rw[fl]at bV;cases bV
 | iY NN NO tz hx px k=>
  have lR:=ym eX NO
  obtain⟨v0,UA,An,wy⟩:=hx.some hS hH
  rcases hw.kind with ⟨kx0,jm⟩ | ⟨_,acx,acy,_⟩
  ·omega
  ·have pz:kd y.op=3∧y.guard=none:=⟨acx,acy⟩
   rcases Uv pz.1 with ⟨Aj,Ak⟩ | ⟨Aj,Ak⟩
   ·have only:∀v H',NN v H'→Real H'→∃d cs,y.dst=some d∧md.nb s y.dst=true∧wu P n all y s cs∧K (ig (bD s x.dst (.val v)) d cs) H':=by
     intro v H' hp hr
     cases k v H' hp hr with
     | jK v' bL dE h' k'=>
      rcases bL with e | e
      ·rw[yl.2 pz.1]at e;cases e
      ·exact absurd pz.2 e
     | jz X' bL dE tw h' k'=>have:=CN bL;omega
     | me b cs cK hd bL hb ku h' k'=>have:=rL.1 bL;omega
     | mf _ bV _ _ _ _ _=>rw[fl]at bV;cases bV
     | oh _ _ _ bV _ _ _ _=>rw[fl]at bV;cases bV
     | mR _ bV _ _ _ _ _=>rw[fl]at bV;cases bV
     | iY bE ha dE h' bL k'=>have lR:=ym eX ha;omega
     | fresh mk xs e bL dE h' k'=>
      rcases bL with e | e
      ·rw[Ak]at e;cases e
      ·exact absurd e.1 eX
     | jL d hd bL dE cs h' k'=>exact⟨d,cs,hd,mg (fun cs e=>by cases e) dE,h'.move (om hw.ys cY),k'⟩
    obtain⟨d,cs,qk,Al,hy,_⟩:=only v0 UA An wy
    refine .jL d qk Aj Al cs hy (.iY NN NO ?_ (hx.move (JI hw.xs (qj d qk) (hw.yx d qk))) px fun v H' hp hr=> ?_)
    ·rw[rM eX fl]at tz⊢
     intro k cK hk hs
     rcases rJ hs with ⟨e,_⟩ | ⟨_,hs⟩
     ·exact hw.ne k hk (by rw[qk,e])
     ·exact tz k cK hk hs
    ·obtain⟨d',cK,Fk,_,vj,hk⟩:=only v H' hp hr
     obtain rfl:d'=d:=by rw[qk]at Fk;cases Fk;rfl
     obtain rfl:=hy.uniq hS vj
     rw[←Fh (fun e=>hw.ne _ e qk) (fun b o e=>by cases e)];exact hk
   ·have only:∀v H',NN v H'→Real H'→∃mk xs e,md.nb s y.dst=true∧vd P n all y s mk xs e∧∀g',H' g'=none→Real (ins H' g' (whole xs e))→K (bD (bD s x.dst (.val v)) y.dst (.val (mk g'))) (ins H' g' (whole xs e)):=by
     intro v H' hp hr
     cases k v H' hp hr with
     | jK v' bL dE h' k'=>
      rcases bL with e | e
      ·rw[yl.2 pz.1]at e;cases e
      ·exact absurd pz.2 e
     | jz X' bL dE tw h' k'=>have:=CN bL;omega
     | me b cs cK hd bL hb ku h' k'=>have:=rL.1 bL;omega
     | mf _ bV _ _ _ _ _=>rw[fl]at bV;cases bV
     | oh _ _ _ bV _ _ _ _=>rw[fl]at bV;cases bV
     | mR _ bV _ _ _ _ _=>rw[fl]at bV;cases bV
     | iY bE ha dE h' bL k'=>have lR:=ym eX ha;omega
     | jL d hd bL dE cs h' k'=>rw[Aj]at bL;cases bL
     | fresh mk xs e bL dE h' k'=>exact⟨mk,xs,e,mg (fun cs e=>by cases e) dE,h'.move (om hw.ys cY),k'⟩
    obtain⟨mk,xs,e,Al,hy,_⟩:=only v0 UA An wy
    refine .fresh mk xs e (.inl Ak) Al hy fun g hg hr=> .iY _ NO (oo tz) ((hx.move (vi hw.xs kR)).frame hg) ?_ fun v tn Aq UB=> ?_
    ·cases md with
     | plain=>exact absurd rfl eX
     | qh st=>
      refine⟨px.1,fun v tn Aq=> ?_⟩
      obtain⟨H',hp,iG,rfl⟩:=Aq
      exact Heap.le.nF (px.2 v H' hp) iG
     | bK=>
      refine⟨px.1,fun v tn Aq=> ?_⟩
      obtain⟨H',hp,iG,rfl⟩:=Aq
      exact Heap.le.nF (px.2 v H' hp) iG
     | gD=>
      rcases px with e' | e'
      ·exact .inl e'
      ·refine .inr fun v tn Aq=> ?_
       obtain⟨H',hp,iG,rfl⟩:=Aq
       exact Heap.le.nF (e' v H' hp) iG
     | vf=>trivial
     | cO k=>trivial
    ·obtain⟨H',hp,iG,rfl⟩:=Aq
     have pA:Real H':=by
      obtain⟨w1,gE⟩:=UB
      exact⟨w1,gE.le (Heap.bI _ iG)⟩
     obtain⟨mk',oj,e',_,vj,hk⟩:=only v H' hp pA
     obtain⟨rfl,rfl,rfl⟩:=hy.uniq hS vj
     rw[←qi _ _ hw.ne];exact hk g iG UB
theorem UC(d:Option Nat):jl s d=true↔∀k cs,d=some k→s k≠some (.box cs):=by
 cases d with
 | none=>simp[jl]
 | some d=>
  have e:jl s (some d)=(match s d with | some (.box _)=>false | _=>true):=rfl
  rw[e]
  cases hs:s d with
  | none=>exact⟨(fun _ k cs hk h=>by cases hk;rw[hs]at h;cases h),fun _=>rfl⟩
  | some z=>
   cases z with
   | val v=>exact⟨(fun _ k cs hk h=>by cases hk;rw[hs]at h;cases h),fun _=>rfl⟩
   | box c=>exact⟨(fun h=>by cases h),fun h=>absurd hs (h d c rfl)⟩
   | ref b o=>exact⟨(fun _ k cs hk h=>by cases hk;rw[hs]at h;cases h),fun _=>rfl⟩
theorem vk(hK:md.og=true){d:Option Nat}(h:md.nb s d=true):False:=by
 cases md <;> simp[Mode.og,Mode.nb]at hK h
theorem ij.acz(hK:md.og=true)(hw:CP md all x y)(Ah:∀d,x.dst=some d→d<n)(qj:∀d,y.dst=some d→d<n)
  (h:ij P n all md x s H (fun s1 H1=>ij P n all md y s1 H1 K)):ij P n all md y s H (fun s2 H2=>ij P n all md x s2 H2 K):=by
 have cY:∀d,x.dst=some d→d<n∧d∉y.looksAt all:=fun d hd=>⟨Ah d hd,hw.xy d hd⟩
 have kR:∀d,y.dst=some d→d<n∧d∉x.looksAt all:=fun d hd=>⟨qj d hd,hw.yx d hd⟩
 have Fj:∀d,y.dst=some d→x.dst≠some d:=fun d hd e=>hw.ne d e hd
 have kx:kd x.op=0:=by
  rcases hw.kind with h1 | h1
  ·exact h1.1
  ·rw[hK]at h1;exact absurd h1.2.2.2 (by decide)
 have ky:kd y.op≠2:=fun e=>by
  rcases hw.kind with ⟨_,h1 | h1 | h1 | h1⟩ | h1
  ·omega
  ·omega
  ·omega
  ·have:=h1.2.1
   cases md <;> simp[Mode.og,Mode.NI]at hK this
  ·omega
 have mg:∀{v:Value},jl (bD s x.dst (.val v)) y.dst=true→jl s y.dst=true:=fun{v} hn=>by
  rw[UC]at hn⊢
  intro k cs hk hs
  exact hn k cs hk (by rw[Fi (Fj k hk)];exact hs)
 have oo:∀{v:Value},jl s x.dst=true→jl (bD s y.dst (.val v)) x.dst=true:=fun{v} hn=>by
  rw[UC]at hn⊢
  intro k cs hk hs
  exact hn k cs hk (by rw[Fi (hw.ne k hk)]at hs;exact hs)
 cases h with
 | jK v hm nb h k=>exact(vk hK nb).elim
 | jz X hm nb hx h k=>exact(vk hK nb).elim
 | jL d hd hm nb cs h k=>exact(vk hK nb).elim
 | me b cs cK hd hm hb ku h k=>have:=rL.1 hm;omega
 | fresh mk xs e hm nb h k=>exact(vk hK nb).elim
 | iY bE ha nb h hm k=>exact(vk hK nb).elim
 | oh mk xs e hk hm nb h k=>have:=yl.1 (show rI x.op=true by simp[rI,hm]);omega
 | mR bE hk ha nb h hm k=>omega
 | mf v hk hm nb hc h k=>
  cases k with
  | jK v hm nb h k=>exact(vk hK nb).elim
  | jz X hm nb hx h k=>exact(vk hK nb).elim
  | jL d hd hm nb cs h k=>exact(vk hK nb).elim
  | me b cs cK hd hm hb ku h k=>exact absurd (rL.1 hm) ky
  | fresh mk xs e hm nb h k=>exact(vk hK nb).elim
  | iY bE ha nb h hm k=>exact(vk hK nb).elim
  | mf v' iM bL dE jA h' k'=>
   refine .mf v' iM bL (mg dE) hc (h'.move (om hw.ys cY)) (.mf v hk hm (oo nb) hc (h.move (vi hw.xs kR)) ?_)
   rw[←qi _ _ hw.ne];exact k'
  | oh mk xs e iM bL dE h' k'=>
   refine .oh mk xs e iM bL (mg dE) (h'.move (om hw.ys cY)) fun g hg hr=> .mf v hk hm (oo nb) (fun ad u hu=>cF (Heap.bI _ hg) (hc ad u hu)) (h.move (vi hw.xs kR)) ?_
   rw[←qi _ _ hw.ne];exact k' g hg hr
  | mR bE iM Fl dE h' bL k'=>
   have acA:∀u H',bE u H'→md.fO H':=by
    rcases bL with e | e
    ·exact absurd (rL.1 e) ky
    ·exact e
   refine .mR bE iM Fl (mg dE) (h'.move (om hw.ys cY)) bL fun u H' hp hr=> .mf v hk hm (oo nb) (acA u H' hp) (h.move (vi hw.xs kR)) ?_
   rw[←qi _ _ hw.ne];exact k' u H' hp hr
theorem ij.swap(eX:md≠.plain)(hw:CP md all x y)(Ah:∀d,x.dst=some d→d<n)(qj:∀d,y.dst=some d→d<n)
  (hS:∃a,gK n s a) (hH:Real H) (h:ij P n all md x s H (fun s1 H1=>ij P n all md y s1 H1 K)):ij P n all md y s H (fun s2 H2=>ij P n all md x s2 H2 K):=by
 cases hK:md.og with
 | false=>exact ij.acw eX hK hw Ah qj hS hH h
 | true=>exact ij.acz hK hw Ah qj h
end
end Go.aq
namespace Go.aq
section
variable (P:Program) (n:Nat) (all:Array Oper) (md:Mode)
def aT:List Oper→St→Heap→(St→Heap→Prop)→Prop
 | [],s,H,K=>K s H
 | o::r,s,H,K=>ij P n all md o s H (fun s' H'=>aT r s' H' K)
end
section
variable {P:Program} {n:Nat} {all:Array Oper} {md:Mode} {s:St} {H:Heap} {K K':St→Heap→Prop}
theorem ij.acB{o:Oper}(rK:∀d,o.dst=some d→d<n)(hS:∃a,gK n s a)(hH:Real H)(h:ij P n all md o s H K)
  (hk:∀s H,(∃a,gK n s a)→Real H→K s H→K' s H):ij P n all md o s H K':=by
 obtain⟨a,ha⟩:=hS
 have Aw:∀X:Slot,(∃a,gK n (bD s o.dst X) a):=fun X=>by
  obtain⟨d⟩ | hd:o.dst=none∨∃d,o.dst=some d:=by cases o.dst <;> simp
  ·rw[‹o.dst=none›];exact⟨a,ha⟩
  ·obtain⟨d,hd⟩:=hd
   rw[hd]
   have key:∀u,(∀v,X = .val v→u=v)→∃a,gK n (bD s (some d) X) a:=fun u hu=>by
    refine⟨a.put (some d) u,by rw[Act.CJ];exact ha.size,fun t v ht=> ?_⟩
    by_cases e:t=d
    ·subst e
     rw[show bD s (some t) X=put s t X from rfl,iz]at ht
     simp only[Option.some.injEq]at ht
     rw[Act.yk _ _ _ (by rw[ha.size];exact rK t hd),hu v ht]
    ·rw[show bD s (some d) X=put s d X from rfl,fG _ _ e]at ht
     rw[Act.rG _ _ e];exact ha.at_ t v ht
   cases X with
   | val v=>exact key v (fun v' h=>by cases h;rfl)
   | box cs=>exact key undef (fun v' h=>by cases h)
   | ref b off=>exact key undef (fun v' h=>by cases h)
 cases h with
 | jK v hm nb h k=>exact .jK v hm nb h (hk _ _ (Aw _) hH k)
 | jz x hm nb hx h k=>exact .jz x hm nb hx h (hk _ _ (Aw _) hH k)
 | jL d hd hm nb cs h k=>exact .jL d hd hm nb cs h (hk _ _ ⟨a,ha.size,fun t v ht=>ha.at_ t v (NK ht).2⟩ hH k)
 | me b cs cK hd hm hb ku h k=>
  refine .me b cs cK hd hm hb ku h (hk _ _ ⟨a,ha.size,fun t v ht=> ?_⟩ hH k)
  by_cases e:t=b
  ·subst e;rw[iz]at ht;cases ht
  ·rw[fG _ _ e]at ht;exact ha.at_ t v ht
 | fresh mk xs e hm nb h k=>exact .fresh mk xs e hm nb h fun g hg hr=>hk _ _ (Aw _) hr (k g hg hr)
 | iY bE Fl nb h hm k=>exact .iY bE Fl nb h hm fun v H' hp hr=>hk _ _ (Aw _) hr (k v H' hp hr)
 | mf v bV hm nb hc h k=>exact .mf v bV hm nb hc h (hk _ _ (Aw _) hH k)
 | oh mk xs e bV hm nb h k=>exact .oh mk xs e bV hm nb h fun g hg hr=>hk _ _ (Aw _) hr (k g hg hr)
 | mR bE bV Fl nb h hm k=>exact .mR bE bV Fl nb h hm fun v H' hp hr=>hk _ _ (Aw _) hr (k v H' hp hr)
theorem aT.front(eX:md≠.plain){y:Oper}{Y:List Oper}(qj:∀d,y.dst=some d→d<n):∀(X:List Oper)(s:St)(H:Heap),(∀x,x∈X→CP md all x y)→(∀x,x∈X→∀d,x.dst=some d→d<n)→
  (∃a,gK n s a)→Real H→aT P n all md (X++y::Y) s H K→aT P n all md (y::(X++Y)) s H K:=by
 intro X
 induction X with
 | nil=>intro s H _ _ _ _ h;exact h
 | cons x X ih=>
  intro s H hw hn hS hH h
  have h1:ij P n all md x s H (fun s1 H1=>ij P n all md y s1 H1 (fun s2 H2=>aT P n all md (X++Y) s2 H2 K)):=
   ij.acB (hn x (List.mem_cons_self ..)) hS hH h fun s1 H1 hS1 NP h1=>
    ih s1 H1 (fun z hz=>hw z (List.mem_cons_of_mem _ hz)) (fun z hz=>hn z (List.mem_cons_of_mem _ hz)) hS1 NP h1
  exact ij.swap eX (hw x (List.mem_cons_self ..)) (hn x (List.mem_cons_self ..)) qj hS hH h1
end
theorem Oper.UD{P:Program}{o:Oper}{a:Act}{w:World}{K:Act→World→Prop}{Q:Exit→Act→World→Prop}(h:o.wp P a w K (fun _ _ _=>False)):o.wp P a w K Q:=by
 unfold Oper.wp at h⊢
 generalize (execOp a.eval o).run P w=r at h⊢
 cases r with
 | ok m w'=>
  cases m <;> simp only[Oper.upon]at h⊢<;> first
   | exact h
   | exact h.mono fun e Fa he=>by
      cases e with
      | returned v=>exact he
      | panicked c=>exact he.elim
      | outgrown=>obtain⟨_,_,hh⟩:=he;exact hh.elim
 | halt x w'=>cases x <;> simp only[Oper.upon]at h⊢
section
variable {P:Program} {n:Nat} {w0:World} {H0:Heap} {Q:Exit→Act→World→Prop} {K:St→Heap→Prop}
theorem Fm{a b:Nat}(h:Nat.blt a b=true):a<b:=Nat.le_of_ble_eq_true h
def Fo(n:Nat)(l:List Oper):Bool:=l.all fun o=>match o.dst with | some d=>Nat.blt d n | none=>true
theorem UE{l:List Oper}(h:Fo n l=true):∀o,o∈l→∀d,o.dst=some d→d<n:=fun o ho d hd=>by
 have:=List.all_eq_true.1 h o ho
 rw[hd]at this
 exact Fm this
theorem aT.wpList{all:Array Oper}(hQ:∀s H a w,Rel w0 H0 n s H a w→K s H→Q .normal a w):∀(l:List Oper)(s:St)(H:Heap)(a:Act)(w:World),(∀o,o∈l→∀d,o.dst=some d→d<n)→
  Rel w0 H0 n s H a w→aT P n all .plain l s H K→wpList P all Q l a w:=by
 intro l
 induction l with
 | nil=>intro s H a w _ hR h;exact hQ s H a w hR h
 | cons o l ih=>
  intro s H a w hn hR h
  have hs:=ij.sound hR (hn o (List.mem_cons_self ..)) h
  unfold Go.wpList
  rcases hs with ⟨h1,h2⟩ | ⟨h1,s',H',dN,h2⟩
  ·rw[if_pos h1]
   refine .inl (Oper.UD (Oper.wp_mono (fun a' w' hh=> ?_) h2))
   obtain⟨s',H',dN,hk⟩:=hh
   exact ih s' H' a' w' (fun z hz=>hn z (List.mem_cons_of_mem _ hz)) dN hk
  ·rw[if_neg (by rw[h1];simp)]
   exact ih s' H' _ w (fun z hz=>hn z (List.mem_cons_of_mem _ hz)) dN h2
end
def fg(l:List Oper)(i:Nat):Oper:=l[i]?.getD default
def pB(l:List Oper):Nat→Nat→Nat→Bool
 | 0,_,_=>false
 | f+1,i,j=>(fg l j).after.any fun e=>Region.binds .any e&&(Nat.beq e.on i||pB l f i e.on)
def Ay(md:Mode)(l:List Oper):List Nat→Bool
 | []=>true
 | i::r=>r.all (fun j=>pB l l.length i j||Sw md l.toArray (fg l i) (fg l j))&&Ay md l r
def Fp:List Nat→Bool
 | []=>true
 | i::r=> !r.contains i&&Fp r
def CQ(n:Nat)(md:Mode)(l:List Oper)(perm:List Nat):Bool:=
 !md.Uq&&Fo n l&&Nat.beq perm.length l.length&&perm.all (fun i=>Nat.blt i l.length)&&Fp perm&&Ay md l perm&&(List.range l.length).all (fun i=>perm.contains i) &&
 (List.range l.length).all fun i=>(fg l i).after.all fun e=> !Region.binds .any e||Nat.blt e.on i
section
variable {P:Program} {n:Nat} {w0:World} {H0:Heap} {Q:Exit→Act→World→Prop} {K:St→Heap→Prop} {md:Mode} {l:List Oper}
theorem JO{i:Nat}(h:i<l.length):l[i]? = some (fg l i):=by
 unfold fg;rw[List.getElem?_eq_getElem h];rfl
theorem acC{lq:Array Bool}(JP:∀i,lq.getD i false=true→∀e,e∈(fg l i).after→Region.binds .any e=true→lq.getD e.on false=true):
  ∀f i j,(∀e,e∈(fg l j).after→Region.binds .any e=true→lq.getD e.on false=true)→pB l f i j=true→lq.getD i false=true:=by
 intro f
 induction f with
 | zero=>intro i j _ h;cases h
 | succ f ih=>
  intro i j hj h
  simp only[pB,Array.any_eq_true']at h
  obtain⟨e,he,h⟩:=h
  simp only[Bool.and_eq_true,Bool.or_eq_true]at h
  obtain⟨hb,h⟩:=h
  rcases h with h | h
  ·have:=Nat.eq_of_beq_eq_true h
   rw[←this];exact hj e he hb
  ·exact ih i e.on (JP _ (hj e he hb)) h
theorem acD{r:List Nat}(h:Ay md l r=true):r.Pairwise fun i j=>pB l l.length i j=true∨Sw md l.toArray (fg l i) (fg l j)=true:=by
 induction r with
 | nil=>exact .nil
 | cons i r ih=>
  simp only[Ay,Bool.and_eq_true,List.all_eq_true,Bool.or_eq_true]at h
  exact .cons (fun j hj=>h.1 j hj) (ih h.2)
theorem acE{r:List Nat}(h:Fp r=true):r.Nodup:=by
 induction r with
 | nil=>exact .nil
 | cons i r ih=>
  simp only[Fp,Bool.and_eq_true,Bool.not_eq_true',List.contains_eq_mem,decide_eq_false_iff_not]at h
  exact List.nodup_cons.2 ⟨h.1,ih h.2⟩
theorem UF{A:Array Bool}{i j:Nat}{b:Bool}(hi:i<A.size):(A.setIfInBounds i true).getD j b=if j=i then true else A.getD j b:=by
 simp only[Array.getD_eq_getD_getElem?,Array.getElem?_setIfInBounds]
 by_cases e:i=j
 ·subst e;simp[hi]
 ·rw[if_neg e,if_neg (Ne.symm e)]
theorem acF(eX:md≠.plain)(hn:∀o,o∈l→∀d,o.dst=some d→d<n)(UG:∀i,i<l.length→∀e,e∈(fg l i).after→Region.binds .any e=true→e.on<i)
  (hQ:∀s H a w,Rel w0 H0 n s H a w→K s H→Q .normal a w):
  ∀(fuel:Nat)(r:List Nat)(lq:Array Bool)(s:St)(H:Heap)(a:Act)(w:World),(∀i,i∈r↔i<l.length∧lq.getD i true=false)→r.Nodup→lq.size=l.length→
  (r.Pairwise fun i j=>pB l l.length i j=true∨Sw md l.toArray (fg l i) (fg l j)=true)→
  (∀i,lq.getD i false=true→∀e,e∈(fg l i).after→Region.binds .any e=true→lq.getD e.on false=true)→
  r.length≤fuel→Rel w0 H0 n s H a w→aT P n l.toArray md (r.map (fg l)) s H K→wpAny P .any l.toArray Q fuel lq a w:=by
 intro fuel
 induction fuel with
 | zero=>
  intro r lq s H a w hr _ cP _ _ hlen hR h
  obtain rfl:r = []:=List.eq_nil_of_length_eq_zero (by omega)
  refine⟨?_,hQ s H a w hR h⟩
  unfold Region.ready
  rw[List.filter_eq_nil_iff]
  intro i hi hp
  simp only[List.mem_range,List.size_toArray]at hi
  simp only[Bool.and_eq_true,Bool.not_eq_true']at hp
  exact absurd ((hr i).2 ⟨hi,hp.1⟩) (by simp)
 | succ fuel ih=>
  intro r lq s H a w hr dW cP yn JP hlen hR h
  have ot:∀i,i∈Region.ready .any l.toArray lq↔i∈r∧∀e,e∈(fg l i).after→Region.binds .any e=true→lq.getD e.on false=true:=by
   intro i
   unfold Region.ready
   rw[List.mem_filter,hr]
   simp only[List.mem_range,List.size_toArray,Bool.and_eq_true,Bool.not_eq_true',List.getElem?_toArray]
   constructor
   ·rintro⟨h1,h2,h3⟩
    rw[JO h1]at h3
    simp only[Option.map_some,Option.getD_some,Array.all_eq_true',Bool.or_eq_true,Bool.not_eq_true']at h3
    refine⟨⟨h1,h2⟩,fun e he hb=> ?_⟩
    rcases h3 e he with h4 | h4
    ·rw[hb]at h4;cases h4
    ·exact h4
   ·rintro⟨⟨h1,h2⟩,h3⟩
    refine⟨h1,h2,?_⟩
    rw[JO h1]
    simp only[Option.map_some,Option.getD_some,Array.all_eq_true',Bool.or_eq_true,Bool.not_eq_true']
    intro e he
    cases hb:Region.binds .any e with
    | false=>exact .inl rfl
    | true=>exact .inr (h3 e he hb)
  have NQ:∀j,j<l.length→j∉r→lq.getD j false=true:=by
   intro j hj hjr
   have:lq.getD j true≠false:=fun hf=>hjr ((hr j).2 ⟨hj,hf⟩)
   simp only[Array.getD_eq_getD_getElem?]at this⊢
   rw[Array.getElem?_eq_getElem (by omega)]at this⊢
   simpa using this
  refine⟨fun he=> ?_,fun i hi=> ?_⟩
  ·
   have wy:r = []:=by
    cases hc:r with
    | nil=>rfl
    | cons z r'=>
     exfalso
     have key:∀m,∀i,i≤m→i∈r→False:=by
      intro m
      induction m with
      | zero=>
       intro i aO nG
       have rO:i∈Region.ready .any l.toArray lq:=(ot i).2 ⟨nG,fun e CR hb=>by
        have:=UG i ((hr i).1 nG).1 e CR hb;omega⟩
       rw[he]at rO;cases rO
      | succ m ihm=>
       intro i aO nG
       have Az:=((hr i).1 nG).1
       have rO:i∈Region.ready .any l.toArray lq:=(ot i).2 ⟨nG,fun e CR hb=>by
        have bP:=UG i Az e CR hb
        exact NQ e.on (by omega) (fun h'=>ihm e.on (by omega) h')⟩
       rw[he]at rO;cases rO
     exact key z z (Nat.le_refl _) (by rw[hc];exact List.mem_cons_self ..)
   subst wy
   exact hQ s H a w hR h
  ·obtain⟨nG,UH⟩:=(ot i).1 hi
   have Az:=((hr i).1 nG).1
   obtain⟨X,Y,rfl⟩:=List.append_of_mem nG
   have ku:∀x,x∈X→CP md l.toArray (fg l x) (fg l i):=by
    intro x hx
    have hp:pB l l.length x i=true∨Sw md l.toArray (fg l x) (fg l i)=true:=by
     rw[List.pairwise_append]at yn
     exact yn.2.2 x hx i (List.mem_cons_self ..)
    rcases hp with hp | hp
    ·exfalso
     have h1:=acC JP l.length x i UH hp
     have h2:=((hr x).1 (List.mem_append_left _ hx)).2
     simp only[Array.getD_eq_getD_getElem?]at h1 h2
     cases hg:lq[x]? with
     | none=>rw[hg]at h1;simp at h1
     | some b=>rw[hg]at h1 h2;simp at h1 h2;rw[h1]at h2;cases h2
    ·exact Sw.out hp
   have NR:∀j,j<l.length→∀d,(fg l j).dst=some d→d<n:=fun j hj=>hn _ (List.mem_of_getElem? (JO hj))
   obtain⟨G,hl,_⟩:=hR.fits
   have acG:=aT.front (P:=P) eX (y:=fg l i) (Y:=Y.map (fg l)) (K:=K) (NR i Az) (X.map (fg l)) s H
    (fun x hx=>by obtain⟨j,hj,rfl⟩:=List.mem_map.1 hx;exact ku j hj)
    (fun x hx=>by obtain⟨j,hj,rfl⟩:=List.mem_map.1 hx;exact NR j ((hr j).1 (List.mem_append_left _ hj)).1) ⟨a,hl.aK⟩ ⟨w,hl.den⟩ (by simpa using h)
   have hs:=ij.sound hR (NR i Az) acG
   have UI:(X++Y).Nodup∧i∉X++Y:=by
    have:=(List.perm_middle (a:=i) (l₁:=X) (l₂:=Y)).nodup_iff.1 dW
    rw[List.nodup_cons]at this
    exact⟨this.2,this.1⟩
   have next:∀s' H' a' w',Rel w0 H0 n s' H' a' w'→aT P n l.toArray md (X.map (fg l)++Y.map (fg l)) s' H' K→wpAny P .any l.toArray Q fuel (lq.setIfInBounds i true) a' w':=by
    intro s' H' a' w' dN hk
    refine ih (X++Y) _ s' H' a' w' (fun j=> ?_) UI.1 (by simpa using cP) ?_ (fun j hj e CR hb=> ?_) ?_ dN (by simpa using hk)
    ·rw[UF (by omega)]
     by_cases e:j=i
     ·subst e
      simp only[if_true]
      exact⟨fun h'=>absurd h' UI.2,fun h'=>by cases h'.2⟩
     ·rw[if_neg e,←hr]
      simp only[List.mem_append,List.mem_cons]
      constructor
      ·rintro(h' | h')
       ·exact .inl h'
       ·exact .inr (.inr h')
      ·rintro(h' | h' | h')
       ·exact .inl h'
       ·exact absurd h' e
       ·exact .inr h'
    ·exact yn.sublist (List.Sublist.append (List.Sublist.refl _) (List.sublist_cons_self ..))
    ·rw[UF (by omega)]at hj⊢
     by_cases e2:e.on=i
     ·rw[if_pos e2]
     ·rw[if_neg e2]
      by_cases e3:j=i
      ·subst e3;exact UH e CR hb
      ·rw[if_neg e3]at hj;exact JP j hj e CR hb
    ·simp only[List.length_append,List.length_cons]at hlen⊢;omega
   unfold wpOp
   rw[show l.toArray[i]? = some (fg l i)from by rw[List.getElem?_toArray];exact JO Az]
   simp only
   rcases hs with ⟨h1,h2⟩ | ⟨h1,s',H',dN,h2⟩
   ·rw[if_pos h1]
    refine .inl (Oper.UD (Oper.wp_mono (fun a' w' hh=> ?_) h2))
    obtain⟨s',H',dN,hk⟩:=hh
    exact next s' H' a' w' dN hk
   ·rw[if_neg (by rw[h1];simp)]
    exact next s' H' _ w dN h2
theorem acH{id:Nat}{perm:List Nat}{s:St}{H:Heap}{a:Act}{w:World}(hf:P.follows .mixedOrders=true)(hc:CQ n md l perm=true)
  (hQ:∀s H a w,Rel w0 H0 n s H a w→K s H→Q .normal a w) (hR:Rel w0 H0 n s H a w) (h:aT P n l.toArray md (perm.map (fg l)) s H K):(Code.region id l.toArray true).wp P Q a w:=by
 simp only[CQ,Bool.and_eq_true,List.all_eq_true]at hc
 obtain⟨⟨⟨⟨⟨⟨⟨h1,h2⟩,h3⟩,h4⟩,h5⟩,h6⟩,h8⟩,h7⟩:=hc
 have h1:md≠.plain:=fun e=>by rw[e]at h1;cases h1
 have h3:=Nat.eq_of_beq_eq_true h3
 have h4:∀i,i∈perm→i<l.length:=fun i hi=>Fm (h4 i hi)
 have h5:=acE h5
 have fm:∀i,i<l.length→i∈perm:=by
  intro i hi
  simpa using h8 i (List.mem_range.2 hi)
 refine wp_region_any hf ?_
 refine acF h1 (UE h2) (fun i hi e he hb=> ?_) hQ l.toArray.size perm _ s H a _ (fun i=> ?_) h5 (by simp) (acD h6) (fun i hi=> ?_) (by simp[h3]) ?_ h
 ·have:=h7 i (List.mem_range.2 hi)
  rw[Array.all_eq_true']at this
  have:=this e he
  simp only[Bool.or_eq_true,Bool.not_eq_true']at this
  rcases this with h' | h'
  ·rw[hb]at h';cases h'
  ·exact Fm h'
 ·constructor
  ·intro hi
   refine⟨h4 i hi,?_⟩
   simp[Array.getD_eq_getD_getElem?,h4 i hi]
  ·exact fun hi=>fm i hi.1
 ·exfalso
  simp only[Array.getD_eq_getD_getElem?,Array.getElem?_replicate]at hi
  split at hi <;> simp at hi
 ·obtain⟨G,hl,hb⟩:=hR.fits
  exact⟨hR.defers,⟨G,⟨hl.aK,hl.boxes,hl.inj,hl.refs,hl.den⟩,hb⟩,⟨hR.fx.os,hR.fx.tape,hR.fx.output,hR.fx.size,hR.fx.keep,hR.fx.form⟩⟩
end
end Go.aq
