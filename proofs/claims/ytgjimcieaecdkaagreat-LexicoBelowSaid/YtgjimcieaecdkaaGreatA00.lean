/- Part 0 of the proof: Eng1, Eng2, Eng3, Eng4, Eng5. -/
import Derived.Orders
import Derived.Tactics
import Derived.Maps.AppendAt
import Derived.Laws.OwnMore
import Derived.Laws.MakeOwn
import Derived.Below
set_option linter.unusedVariables false
namespace Go.ar
inductive Slot where
 | val (v:Value)
 | box (cs:List Value)
 | ref (b off:Nat)
abbrev St:=Nat→Option Slot
def emp:St:=fun _=>none
def put(s:St)(d:Nat)(x:Slot):St:=fun t=>cond (Nat.beq t d) (some x) (s t)
def eO(s:St)(d:Nat)(cs:List Value):St:=fun t=>
 cond (Nat.beq t d) (some (.box cs)) (match s t with | some (.ref b o)=>cond (Nat.beq b d) none (some (.ref b o)) | x=>x)
def aR(s:St)(d:Option Nat)(x:Slot):St:=match d with | some d=>put s d x | none=>s
theorem fm(s:St)(d:Nat)(x:Slot):put s d x d=some x:=by simp[put]
theorem eh(s:St){d t:Nat}(x:Slot)(h:t≠d):put s d x t=s t:=by
 have:Nat.beq t d=false:=by
  cases hb:Nat.beq t d with
  | false=>rfl
  | true=>exact absurd (Nat.eq_of_beq_eq_true hb) h
 simp[put,this]
theorem put_comm(s:St){d e:Nat}(x y:Slot)(h:d≠e):put (put s d x) e y=put (put s e y) d x:=by
 funext t
 by_cases h1:t=d
 ·subst h1;rw[eh _ _ h,fm,fm]
 ·by_cases h2:t=e
  ·subst h2;rw[fm,eh _ _ h1,fm]
  ·rw[eh _ _ h2,eh _ _ h1,eh _ _ h1,eh _ _ h2]
structure aG where
 xs:List Value
 size:Nat
 elem:TypeId
 own:Bool
def aG.of(e:aG)(o:Obj):Prop:=
 ∃(c:Array Value)(fz:Nat×Nat),o = .cells c e.elem fz∧c.size=e.size∧(∀(i:Nat)(v:Value),e.xs[i]? = some v→c[i]? = some v)∧(e.own=true→fz=(0,0))
abbrev Heap:=Nat→Option aG
def Den(H:Heap)(w:World):Prop:=∀g e,H g=some e→∃o,w.heap[g]? = some o∧e.of o
def ins(H:Heap)(g:Nat)(e:aG):Heap:=fun k=>if k=g then some e else H k
theorem bx(H:Heap)(g:Nat)(e:aG):ins H g e g=some e:=by simp[ins]
theorem bA(H:Heap){g k:Nat}(e:aG)(h:k≠g):ins H g e k=H k:=by simp[ins,h]
def aG.le(e e':aG):Prop:=e'.size=e.size∧e'.elem=e.elem∧e'.own=e.own∧e.xs <+:e'.xs
def Heap.le(H H':Heap):Prop:=∀g e,H g=some e→∃e',H' g=some e'∧e.le e'
theorem aG.le.refl(e:aG):e.le e:=⟨rfl,rfl,rfl,List.prefix_rfl⟩
theorem aG.le.trans{a b c:aG}(h:a.le b)(k:b.le c):a.le c:=
 ⟨k.1.trans h.1,k.2.1.trans h.2.1,k.2.2.1.trans h.2.2.1,h.2.2.2.trans k.2.2.2⟩
theorem Heap.le.refl(H:Heap):Heap.le H H:=fun _ e h=>⟨e,h,.refl e⟩
theorem Heap.le.trans{A B C:Heap}(h:Heap.le A B)(k:Heap.le B C):Heap.le A C:=fun g e he=>by
 obtain⟨e',h1,h2⟩:=h g e he
 obtain⟨Gr,h3,h4⟩:=k g e' h1
 exact⟨Gr,h3,h2.trans h4⟩
theorem Heap.a0{H:Heap}{g:Nat}(e:aG)(h:H g=none):Heap.le H (ins H g e):=fun k x hk=>
 ⟨x,by rw[bA _ _ (fun e=>by subst e;rw[h]at hk;cases hk)];exact hk,.refl x⟩
theorem Gs{l l':List Value}(h:l <+:l'){i:Nat}{v:Value}(hi:l[i]? = some v):l'[i]? = some v:=by
 obtain⟨t,rfl⟩:=h
 rw[List.getElem?_append_left (List.getElem?_eq_some_iff.1 hi).1];exact hi
theorem aG.le.of{e e':aG}(h:e.le e'){o:Obj}(ho:e'.of o):e.of o:=by
 obtain⟨c,fz,h1,h2,h3,h4⟩:=ho
 exact⟨c,fz,by rw[h1,h.2.1],by rw[h2,h.1],fun i v hv=>h3 i v (Gs h.2.2.2 hv),fun ho=>h4 (h.2.2.1.trans ho)⟩
theorem Den.le{H H':Heap}(h:Heap.le H H'){w:World}(hd:Den H' w):Den H w:=fun g e he=>by
 obtain⟨e',h1,h2⟩:=h g e he
 obtain⟨o,h3,h4⟩:=hd g e' h1
 exact⟨o,h3,h2.of h4⟩
theorem Den.lt{H:Heap}{w:World}(h:Den H w){g:Nat}{e:aG}(hg:H g=some e):g<w.heap.size:=by
 obtain⟨o,h1,_⟩:=h g e hg
 exact(Array.getElem?_eq_some_iff.1 h1).1
theorem Den.fresh{H:Heap}{w:World}(h:Den H w):H w.heap.size=none:=by
 cases hg:H w.heap.size with
 | none=>rfl
 | some e=>have:=h.lt hg;omega
def cell(H:Heap)(a:Addr):Option Value:=
 match H a.block with
 | some e=>if a.spot.isSome then none else e.xs[a.off]?
 | none=>none
theorem Den.cell{H:Heap}{w:World}(h:Den H w){a:Addr}{v:Value}(hc:cell H a=some v):w.cell? a=some v:=by
 unfold ar.cell at hc
 cases hg:H a.block with
 | none=>rw[hg]at hc;cases hc
 | some e=>
  rw[hg]at hc
  obtain⟨o,h1,c,fz,rfl,h3,h4,_⟩:=h _ _ hg
  simp only at hc
  split at hc
  ·cases hc
  ·rename_i hs
   simp[World.cell?,h1,hs,h4 _ _ hc]
theorem cy{H H':Heap}(h:Heap.le H H'){a:Addr}{v:Value}(hc:cell H a=some v):cell H' a=some v:=by
 unfold cell at hc⊢
 cases hg:H a.block with
 | none=>rw[hg]at hc;cases hc
 | some e=>
  rw[hg]at hc
  obtain⟨e',h1,h2⟩:=h _ _ hg
  rw[h1]
  simp only at hc⊢
  split at hc
  ·cases hc
  ·rename_i hs
   rw[if_neg hs];exact Gs h2.2.2.2 hc
structure Fx(H:Heap)(w:World)(H':Heap)(w':World):Prop where
 os:w'.os=w.os
 tape:w'.tape=w.tape
 output:w'.output=w.output
 size:w.heap.size≤w'.heap.size
 ia:∀g,g<w.heap.size→H g=none→w'.heap[g]? = w.heap[g]?∧H' g=none
 form:∀(g:Nat)(c:Array Value)(t:TypeId)(fz:Nat×Nat),w.heap[g]? = some (.cells c t fz)→∃c',w'.heap[g]? = some (.cells c' t fz)∧c'.size=c.size
theorem Fx.refl(H:Heap)(w:World):Fx H w H w:=⟨rfl,rfl,rfl,Nat.le_refl _,fun _ _ h=>⟨rfl,h⟩,fun _ c _ _ h=>⟨c,h,rfl⟩⟩
theorem Fx.trans{H H' rT:Heap}{w w' yU:World}(h:Fx H w H' w')(k:Fx H' w' rT yU):Fx H w rT yU:=
 ⟨k.os.trans h.os,k.tape.trans h.tape,k.output.trans h.output,Nat.le_trans h.size k.size,fun g hg h0=>by
  have h1:=h.ia g hg h0
  have h2:=k.ia g (Nat.lt_of_lt_of_le hg h.size) h1.2
  exact⟨h2.1.trans h1.1,h2.2⟩,fun g c t fz hc=>by
  obtain⟨c1,h1,h2⟩:=h.form g c t fz hc
  obtain⟨c2,h3,h4⟩:=k.form g c1 t fz h1
  exact⟨c2,h3,h4.trans h2⟩⟩
theorem Fx.Gt{w w':World}(h:∀g,g<w.heap.size→w'.heap[g]? = w.heap[g]?):∀(g:Nat)(c:Array Value)(t:TypeId)(fz:Nat×Nat),w.heap[g]? = some (.cells c t fz)→∃c',w'.heap[g]? = some (.cells c' t fz)∧c'.size=c.size:=
 fun g c t fz hc=>⟨c,by rw[h g (Array.getElem?_eq_some_iff.1 hc).1];exact hc,rfl⟩
structure eG(n:Nat)(s:St)(a:Act):Prop where
 size:a.tmps.size=n
 at_:∀t v,s t=some (.val v)→a.tmps[t]? = some v
structure Rl(n:Nat)(s:St)(H:Heap)(G:Nat→Nat)(a:Act)(w:World):Prop where
 aN:eG n s a
 boxes:∀t cs,s t=some (.box cs)→a.tmps[t]? = some (.pointer (some ⟨G t,0,none⟩))∧H (G t)=none∧∃e,w.heap[G t]? = some (.cells cs.toArray e (0,0))
 inj:∀t t' cs bN,s t=some (.box cs)→s t'=some (.box bN)→G t=G t'→t=t'
 refs:∀t b off cs,s t=some (.ref b off)→s b=some (.box cs)→a.tmps[t]? = some (.pointer (some ⟨G b,off,none⟩))
 den:Den H w
structure Rel(w0:World)(H0:Heap)(n:Nat)(s:St)(H:Heap)(a:Act)(w:World):Prop where
 defers:a.defers = []
 fits:∃G,Rl n s H G a w∧∀t cs,s t=some (.box cs)→w0.heap.size≤G t
 fx:Fx H0 w0 H w
def ev(s:St):Operand→Option Value
 | .tmp t=>match s t with | some (.val v)=>some v | _=>none
 | .const v=>some v
 | .func f=>some (.func (.func f) #[] #[])
 | .global g=>some (.pointer (some ⟨g,0,none⟩))
theorem bm{n:Nat}{s:St}{a:Act}(h:eG n s a){x:Operand}{v:Value}(hx:ev s x=some v):a.eval x=v:=by
 cases x with
 | tmp t=>
  simp only[ev]at hx
  cases hs:s t with
  | none=>rw[hs]at hx;cases hx
  | some y=>
   rw[hs]at hx
   cases y with
   | val u=>
    simp only[Option.some.injEq]at hx
    subst hx
    have:=h.at_ t u hs
    simp[Act.eval,this]
   | box=>cases hx
   | ref=>cases hx
 | const u=>simp only[ev,Option.some.injEq]at hx;exact hx
 | func f=>simp only[ev,Option.some.injEq]at hx;exact hx
 | global g=>simp only[ev,Option.some.injEq]at hx;exact hx
theorem Act.rU(a:Act)(d:Nat)(v:Value)(h:d<a.tmps.size):(a.put (some d) v).tmps[d]? = some v:=by
 simp[Act.put,h]
theorem Act.nh(a:Act){d t:Nat}(v:Value)(h:t≠d):(a.put (some d) v).tmps[t]? = a.tmps[t]? :=by
 simp[Act.put,Array.getElem?_setIfInBounds_ne (Ne.symm h)]
theorem Act.wk(a:Act)(d:Option Tmp)(v:Value):(a.put d v).tmps.size=a.tmps.size:=by
 cases d <;> simp[Act.put]
theorem Act.Ly(a:Act)(d:Option Tmp)(v:Value):(a.put d v).defers=a.defers:=by
 cases d <;> rfl
def Gu(G:Nat→Nat):Slot→Value→Prop
 | .val v,u=>u=v
 | .ref b off,u=>u = .pointer (some ⟨G b,off,none⟩)
 | .box _,_=>False
theorem Rl.put{n:Nat}{s:St}{H:Heap}{G:Nat→Nat}{a:Act}{w:World}(h:Rl n s H G a w){d:Nat}{x:Slot}{v:Value}(hn:d<n)(hx:Gu G x v):
  Rl n (put s d x) H G (a.put (some d) v) w:=by
 have hd:d<a.tmps.size:=by rw[h.aN.size];exact hn
 have nb:∀t cs,ar.put s d x t=some (.box cs)→t≠d∧s t=some (.box cs):=by
  intro t cs ht
  by_cases e:t=d
  ·subst e
   rw[fm]at ht
   simp only[Option.some.injEq]at ht
   subst ht
   exact hx.elim
  ·rw[eh _ _ e]at ht;exact⟨e,ht⟩
 refine⟨⟨by rw[Act.wk];exact h.aN.size,fun t u ht=> ?_⟩,fun t cs ht=> ?_,fun t t' cs bN ht po e=> ?_,fun t b off cs ht hb=> ?_,h.den⟩
 ·by_cases e:t=d
  ·subst e
   rw[fm]at ht
   simp only[Option.some.injEq]at ht
   subst ht
   rw[Act.rU _ _ _ hd,hx]
  ·rw[eh _ _ e]at ht
   rw[Act.nh _ _ e];exact h.aN.at_ t u ht
 ·obtain⟨e,ht⟩:=nb t cs ht
  rw[Act.nh _ _ e];exact h.boxes t cs ht
 ·exact h.inj t t' cs bN (nb t cs ht).2 (nb t' bN po).2 e
 ·obtain⟨_,hb⟩:=nb b cs hb
  by_cases e:t=d
  ·subst e
   rw[fm]at ht
   simp only[Option.some.injEq]at ht
   subst ht
   rw[Act.rU _ _ _ hd,hx]
  ·rw[eh _ _ e]at ht
   rw[Act.nh _ _ e];exact h.refs t b off cs ht hb
theorem Rl.CC{n:Nat}{s:St}{H H':Heap}{G:Nat→Nat}{a:Act}{w w':World}(h:Rl n s H G a w)(hd:Den H' w')(hf:Fx H w H' w'):Rl n s H' G a w':=
 ⟨h.aN,fun t cs ht=>by
  obtain⟨h1,h2,e,h3⟩:=h.boxes t cs ht
  obtain⟨h4,h5⟩:=hf.ia (G t) (Array.getElem?_eq_some_iff.1 h3).1 h2
  exact⟨h1,h5,e,h4.trans h3⟩,h.inj,h.refs,hd⟩
theorem Rl.le{n:Nat}{s:St}{H H':Heap}{G:Nat→Nat}{a:Act}{w:World}(h:Rl n s H' G a w)(hl:Heap.le H H'):Rl n s H G a w:=
 ⟨h.aN,fun t cs ht=>by
  obtain⟨h1,h2,h3⟩:=h.boxes t cs ht
  refine⟨h1,?_,h3⟩
  cases hg:H (G t)with
  | none=>rfl
  | some e=>(obtain⟨e',h4,_⟩:=hl _ _ hg;rw[h2]at h4;exact nomatch h4),h.inj,h.refs,h.den.le hl⟩
theorem eG.back{n:Nat}{s s':St}{a:Act}{d:Nat}(h:eG n s' a)(hs:∀t v,t≠d→s t=some (.val v)→s' t=some (.val v))(hd:d<n):∃v,eG n s (a.put (some d) v):=by
 have jO:d<a.tmps.size:=by rw[h.size];exact hd
 have key:∀v,(∀u,s d=some (.val u)→v=u)→eG n s (a.put (some d) v):=fun v h1=>
  ⟨by rw[Act.wk];exact h.size,fun t u ht=>by
   by_cases e:t=d
   ·subst e;rw[Act.rU _ _ _ jO,h1 u ht]
   ·rw[Act.nh _ _ e];exact h.at_ t u (hs t u e ht)⟩
 cases hx:s d with
 | none=>exact⟨undef,key _ (fun u hu=>by rw[hx]at hu;cases hu)⟩
 | some y=>
  cases y with
  | val u=>exact⟨u,key _ (fun u' hu=>by rw[hx]at hu;cases hu;rfl)⟩
  | box cs=>exact⟨undef,key _ (fun u hu=>by rw[hx]at hu;cases hu)⟩
  | ref b o=>exact⟨undef,key _ (fun u hu=>by rw[hx]at hu;cases hu)⟩
theorem Rl.back{n:Nat}{s s':St}{H:Heap}{G:Nat→Nat}{a:Act}{w:World}{d:Nat}(h:Rl n s' H G a w)(hn:∀cs,s d≠some (.box cs))
  (hs:∀t x,t≠d→s t=some x→(∀b o,x = .ref b o→b≠d)→s' t=some x) (hd:d<n):∃v,Rl n s H G (a.put (some d) v) w:=by
 have jO:d<a.tmps.size:=by rw[h.aN.size];exact hd
 have kK:∀t cs,s t=some (.box cs)→s' t=some (.box cs)∧t≠d:=fun t cs ht=>by
  have e:t≠d:=fun e=>by subst e;exact hn cs ht
  exact⟨hs t _ e ht (fun b o h=>by cases h),e⟩
 have key:∀v,(∀u,s d=some (.val u)→v=u)→(∀b o,s d=some (.ref b o)→v = .pointer (some ⟨G b,o,none⟩))→Rl n s H G (a.put (some d) v) w:=by
  intro v h1 h2
  refine⟨⟨by rw[Act.wk];exact h.aN.size,fun t u ht=> ?_⟩,fun t cs ht=> ?_,fun t t' cs bN ht po e=> ?_,fun t b off cs ht hb=> ?_,h.den⟩
  ·by_cases e:t=d
   ·subst e;rw[Act.rU _ _ _ jO,h1 u ht]
   ·rw[Act.nh _ _ e];exact h.aN.at_ t u (hs t _ e ht (fun b o h=>by cases h))
  ·obtain⟨h3,e⟩:=kK t cs ht
   rw[Act.nh _ _ e];exact h.boxes t cs h3
  ·exact h.inj t t' cs bN (kK t cs ht).1 (kK t' bN po).1 e
  ·obtain⟨tN,eb⟩:=kK b cs hb
   by_cases e:t=d
   ·subst e;rw[Act.rU _ _ _ jO,h2 b off ht]
   ·rw[Act.nh _ _ e]
    exact h.refs t b off cs (hs t _ e ht (fun b' o' h=>by cases h;exact eb)) tN
 cases hx:s d with
 | none=>exact⟨undef,key _ (fun u hu=>by rw[hx]at hu;cases hu) (fun b o hu=>by rw[hx]at hu;cases hu)⟩
 | some y=>
  cases y with
  | val u=>exact⟨u,key _ (fun u' hu=>by rw[hx]at hu;cases hu;rfl) (fun b o hu=>by rw[hx]at hu;cases hu)⟩
  | box cs=>exact absurd hx (hn cs)
  | ref b o=>exact⟨_,key (.pointer (some ⟨G b,o,none⟩)) (fun u hu=>by rw[hx]at hu;cases hu) (fun b' o' hu=>by rw[hx]at hu;cases hu;rfl)⟩
end Go.ar
namespace Go.ar
section
variable (P:Program) (n:Nat)
def yV(all:Array Oper)(s:St)(o:Oper):Prop:=
 o.guard=none∨∃j want d,o.guard=some (j,want)∧(all[j]?).bind (·.dst)=some d∧s d=some (.val (.bool want))
def LA(all:Array Oper)(s:St)(o:Oper):Prop:=
 ∃j want d v,o.guard=some (j,want)∧(all[j]?).bind (·.dst)=some d∧s d=some (.val v)∧((∃b,v = .bool b∧b≠want)∨∃ts,v = .tuple ts)
def CD(all:Array Oper)(o:Oper)(s:St)(H:Heap)(v:Value):Prop:=∀a w,eG n s a→Den H w→
 (Region.wanted o (yielded all a.tmps)=true∧(execOp a.eval o).run P w = .ok (.value v) w)∨(Region.wanted o (yielded all a.tmps)=false∧v=undef)
def wm(all:Array Oper)(o:Oper)(s:St)(H:Heap)(x:Slot):Prop:=∀G a w,Rl n s H G a w→
 ∃v,Gu G x v∧Region.wanted o (yielded all a.tmps)=true∧(execOp a.eval o).run P w = .ok (.value v) w
def qC(all:Array Oper)(o:Oper)(s:St)(cs:List Value):Prop:=∀a w,eG n s a→
 Region.wanted o (yielded all a.tmps)=true∧∃e,(execOp a.eval o).run P w = .ok (.value (.pointer (some ⟨w.heap.size,0,none⟩))) (w.alloc (.cells cs.toArray e (0,0)))
structure LB(w w':World)(g:Nat)(cs:List Value):Prop where
 os:w'.os=w.os
 tape:w'.tape=w.tape
 output:w'.output=w.output
 size:w'.heap.size=w.heap.size
 other:∀k,k≠g→w'.heap[k]? = w.heap[k]?
 new:∃e,w'.heap[g]? = some (.cells cs.toArray e (0,0))
def CE(all:Array Oper)(o:Oper)(s:St)(b:Nat)(bN:List Value):Prop:=∀H G a w,Rl n s H G a w→
 Region.wanted o (yielded all a.tmps)=true∧∃w',(execOp a.eval o).run P w = .ok .skip w'∧LB w w' (G b) bN
def px(all:Array Oper)(o:Oper)(s:St)(mk:Nat→Value)(xs:List Value)(e:TypeId):Prop:=∀a w,eG n s a→
 Region.wanted o (yielded all a.tmps)=true∧(execOp a.eval o).run P w = .ok (.value (mk w.heap.size)) (w.alloc (.cells xs.toArray e (0,0)))
def whole(xs:List Value)(e:TypeId):aG:=⟨xs,xs.length,e,true⟩
def iX(o:Oper)(ρ:Operand→Value)(w:World)(R:Value→World→Prop):Prop:=
 match (execOp ρ o).run P w with
 | .ok (.value v) w'=>R v w'
 | .ok .skip w'=>R undef w'
 | .ok (.enter f args) w'=>Calls P f args w' fun e yU=>∃v,e = .returned v∧R v yU
 | _=>False
def EV(all:Array Oper)(o:Oper)(s:St)(H:Heap)(aX:Value→Heap→Prop):Prop:=∀a w,eG n s a→Den H w→
 Region.wanted o (yielded all a.tmps)=true∧iX P o a.eval w (fun v w'=>∃H',aX v H'∧Den H' w'∧Fx H w H' w')
inductive Mode where
 | plain | bR | fR | py
 | dR (kc:Addr→Option Value)
 | qD (st:List Nat)
def Mode.Sq:Mode→Bool
 | .plain=>true
 | _=>false
def Mode.Gv:Mode→Bool
 | .bR=>true
 | .qD _=>true
 | _=>false
def Mode.Gw:Mode→Bool
 | .qD _=>true
 | _=>false
def Mode.wr:Mode→Nat→Bool
 | .qD st,b=>st.contains b
 | _,_=>false
def Mode.LC:Mode→Nat→Bool
 | .qD st,b=>st.contains b
 | _,_=>true
def fS(md:Mode)(s s':St):Prop:=∀t,s' t=s t∨(md.wr t=true∧∃c c',s t=some (.box c)∧s' t=some (.box c'))
theorem fS.refl(md:Mode)(s:St):fS md s s:=fun _=> .inl rfl
theorem fS.val{md:Mode}{s s':St}(h:fS md s s'){t:Nat}{x:Slot}(hx:∀c,x≠.box c)(e:s t=some x):s' t=some x:=by
 rcases h t with h1 | ⟨_,c,c',h1,_⟩
 ·rw[h1,e]
 ·rw[e]at h1;exact absurd (Option.some.inj h1) (hx c)
theorem fS.box{md:Mode}{s s':St}(h:fS md s s'){t:Nat}{c:List Value}(e:s t=some (.box c)):∃c',s' t=some (.box c'):=by
 rcases h t with h1 | ⟨_,_,c',_,h1⟩
 ·exact⟨c,by rw[h1,e]⟩
 ·exact⟨c',h1⟩
theorem fS.ia{md:Mode}{s s':St}(h:fS md s s'){t:Nat}(e:md.wr t=false):s' t=s t:=by
 rcases h t with h1 | ⟨h1,_⟩
 ·exact h1
 ·rw[e]at h1;cases h1
def Mode.LD:Mode→Bool
 | .py=>true
 | _=>false
def Mode.kL:Mode→Bool
 | .dR _=>true
 | _=>false
def Mode.kc:Mode→Addr→Option Value
 | .dR k=>k
 | _=>fun _=>none
def Mode.og(md:Mode)(H:Heap):Prop:=∀ad v,md.kc ad=some v→cell H ad=some v
def ju(s:St)(d:Option Nat):Bool:=
 match d with
 | some d=>(match s d with | some (.box _)=>false | _=>true)
 | none=>true
def tO:Op→Bool
 | .store .. =>true
 | _=>false
def yW:Op→Bool
 | .load .. | .fieldAddr .. =>true
 | _=>false
def tP:Op→Bool
 | .alloc _ | .box .. =>true
 | _=>false
def tQ:Op→Bool
 | .buildSlice .. =>true
 | _=>false
def ni(o:Op):Bool:=tP o||tQ o
def Real(H:Heap):Prop:=∃w,Den H w
def oh:Op→Bool
 | .select .. =>false
 | _=>true
def CF(c:Call):Bool:=
 match c.callee with
 | .builtin .len | .builtin .cap | .builtin .min | .builtin .max=>true
 | _=>false
def kd:Op→Nat
 | .store .. =>2
 | .alloc _ | .box .. | .buildSlice .. =>3
 | .call c=>if CF c then 0 else 1
 | .makeSlice .. | .go _ | .defer _ | .panic _ | .send .. | .recv .. | .select .. | .mapUpdate .. | .mapEntry .. | .entryStore .. | .insert .. | .makeMap .. | .makeChan .. | .ready _ | .next .. | .range .. =>1
 | _=>0
def Mode.ok(md:Mode)(o:Oper)(H:Heap)(aX:Value→Heap→Prop):Prop:=
 match md with
 | .plain=>True
 | .bR=>tO o.op=false∧∀v H',aX v H'→Heap.le H H'
 | .fR=>tO o.op=true∨∀v H',aX v H'→Heap.le H H'
 | .py=>True
 | .dR _=>True
 | .qD _=>tO o.op=false∧∀v H',aX v H'→Heap.le H H'
def Mode.nb(md:Mode)(s:St)(d:Option Nat):Bool:=
 match md with
 | .plain=>true
 | .dR _=>false
 | _=>match d with
  | some d=>(match s d with | some (.box _)=>false | _=>true)
  | none=>true
def Slot.oj(s:St):Slot→Bool
 | .val _=>true
 | .box _=>false
 | .ref b _=>match s b with | some (.box _)=>true | _=>false
def CG(md:Mode)(all:Array Oper)(o:Oper)(s:St)(v:Value):Prop:=∀a w,eG n s a→(∀ad u,md.kc ad=some u→w.cell? ad=some u)→
 (Region.wanted o (yielded all a.tmps)=true∧(execOp a.eval o).run P w = .ok (.value v) w)∨(Region.wanted o (yielded all a.tmps)=false∧v=undef)
inductive eP(all:Array Oper)(md:Mode)(o:Oper)(s:St)(H:Heap)(K:St→Heap→Prop):Prop
 | fX (v:Value) (hm:ni o.op=false∨o.guard≠none) (nb:md.nb s o.dst=true) (h:CD P n all o s H v) (k:K (aR s o.dst (.val v)) H)
 | fT (x:Slot) (hm:yW o.op=true) (nb:md.nb s o.dst=true) (hx:x.oj s=true) (h:∀s',fS md s s'→wm P n all o s' H x) (k:K (aR s o.dst x) H)
 | fY (d:Nat) (hd:o.dst=some d) (hm:tP o.op=true) (nb:md.nb s o.dst=true) (cs:List Value) (h:qC P n all o s cs) (k:K (eO s d cs) H)
 | jv (b:Nat) (cs bN:List Value) (hd:o.dst=none) (hm:tO o.op=true) (hb:s b=some (.box cs)) (hw:md.LC b=true) (h:CE P n all o s b bN) (k:K (put s b (.box bN)) H)
 | fresh (mk:Nat→Value) (xs:List Value) (e:TypeId) (hm:tQ o.op=true∨(md = .plain∧tP o.op=true)) (nb:md.nb s o.dst=true) (h:px P n all o s mk xs e) (k:∀g,H g=none→Real (ins H g (whole xs e))→K (aR s o.dst (.val (mk g))) (ins H g (whole xs e)))
 | fo (aX:Value→Heap→Prop) (ha:kd o.op=1∨kd o.op=2∨md = .plain) (nb:md.nb s o.dst=true) (h:EV P n all o s H aX) (hm:md.ok o H aX) (k:∀v H',aX v H'→Real H'→K (aR s o.dst (.val v)) H')
 | jw (v:Value) (hk:md.kL=true) (hm:ni o.op=false) (nb:ju s o.dst=true) (hc:md.og H) (h:CG P n md all o s v) (k:K (aR s o.dst (.val v)) H)
 | kM (mk:Nat→Value) (xs:List Value) (e:TypeId) (hk:md.kL=true) (hm:tQ o.op=true) (nb:ju s o.dst=true) (h:px P n all o s mk xs e) (k:∀g,H g=none→Real (ins H g (whole xs e))→K (aR s o.dst (.val (mk g))) (ins H g (whole xs e)))
 | jP (aX:Value→Heap→Prop) (hk:md.kL=true) (ha:kd o.op=1∨kd o.op=2) (nb:ju s o.dst=true) (h:EV P n all o s H aX) (hm:tO o.op=true∨∀v H',aX v H'→md.og H') (k:∀v H',aX v H'→Real H'→K (aR s o.dst (.val v)) H')
end
theorem iX.mono{P:Program}{o:Oper}{ρ:Operand→Value}{w:World}{R R':Value→World→Prop}(h:iX P o ρ w R)(hr:∀v w',R v w'→R' v w'):iX P o ρ w R':=by
 unfold iX at h⊢
 split at h
 ·exact hr _ _ h
 ·exact hr _ _ h
 ·exact h.mono fun e w' ⟨v,he,h⟩=>⟨v,he,hr _ _ h⟩
 ·exact h
theorem iX.wp{P:Program}{o:Oper}{a:Act}{w:World}{R:Value→World→Prop}{K:Act→World→Prop}{Q:Exit→Act→World→Prop}(h:iX P o a.eval w R)(hk:∀v w',R v w'→K (a.put o.dst v) w'):o.wp P a w K Q:=by
 unfold iX at h
 unfold Oper.wp
 split at h
 ·rename_i v w' e;rw[e];exact hk _ _ h
 ·rename_i w' e;rw[e];exact hk _ _ h
 ·rename_i f args w' e;rw[e]
  exact h.mono fun e w' ⟨v,he,h⟩=>by subst he;exact hk _ _ h
 ·exact h.elim
section sound
variable {P:Program} {all:Array Oper} {md:Mode} {o:Oper} {s:St} {H:Heap} {K:St→Heap→Prop} {w0:World} {H0:Heap} {n:Nat} {a:Act} {w:World}
theorem fZ(h:eG n s a)(hr:yV all s o):Region.wanted o (yielded all a.tmps)=true:=by
 rcases hr with hg | ⟨j,want,d,hg,hd,hs⟩
 ·simp[Region.wanted,hg]
 ·have:=h.at_ d _ hs
  simp[Region.wanted,hg,yielded,hd,this]
theorem Sr(h:eG n s a)(hr:LA all s o):Region.wanted o (yielded all a.tmps)=false:=by
 obtain⟨j,want,d,v,hg,hd,hs,a6⟩:=hr
 have:=h.at_ d _ hs
 rcases a6 with ⟨b,rfl,a6⟩ | ⟨ts,rfl⟩
 ·simp[Region.wanted,hg,yielded,hd,this,a6]
 ·simp[Region.wanted,hg,yielded,hd,this]
theorem Rel.put(h:Rel w0 H0 n s H a w){d:Option Nat}(hd:∀k,d=some k→k<n){x:Slot}{v:Value}{G:Nat→Nat}(hl:Rl n s H G a w)(hb:∀t cs,s t=some (.box cs)→w0.heap.size≤G t)(hx:Gu G x v):
  Rel w0 H0 n (aR s d x) H (a.put d v) w:=by
 cases d with
 | none=>exact⟨h.defers,⟨G,hl,hb⟩,h.fx⟩
 | some d=>
  refine⟨by rw[Act.Ly];exact h.defers,⟨G,hl.put (hd d rfl) hx,fun t cs ht=> ?_⟩,h.fx⟩
  by_cases e:t=d
  ·subst e
   rw[show aR s (some t) x=ar.put s t x from rfl,fm]at ht
   simp only[Option.some.injEq]at ht
   subst ht
   exact hx.elim
  ·rw[show aR s (some d) x=ar.put s d x from rfl,eh _ _ e]at ht
   exact hb t cs ht
theorem om(s:St)(d:Nat)(cs:List Value):eO s d cs d=some (.box cs):=by simp[eO]
def pz(d:Nat):Option Slot→Option Slot
 | some (.ref b o)=>cond (Nat.beq b d) none (some (.ref b o))
 | x=>x
theorem lG(s:St){d t:Nat}(cs:List Value)(h:t≠d):eO s d cs t=pz d (s t):=by
 have:Nat.beq t d=false:=by
  cases hb:Nat.beq t d with
  | false=>rfl
  | true=>exact absurd (Nat.eq_of_beq_eq_true hb) h
 unfold eO
 rw[this]
 cases hs:s t with
 | none=>rfl
 | some x=>cases x <;> rfl
theorem Gx{s:St}{d t:Nat}{cs:List Value}{v:Value}(h:eO s d cs t=some (.val v)):t≠d∧s t=some (.val v):=by
 have e:t≠d:=fun e=>by subst e;rw[om]at h;cases h
 refine⟨e,?_⟩
 rw[lG _ _ e]at h
 unfold pz at h
 split at h
 ·rename_i b o' _
  cases hb:Nat.beq b d <;> rw[hb]at h <;> cases h
 ·exact h
theorem Ss{s:St}{d t b off:Nat}{cs:List Value}(h:eO s d cs t=some (.ref b off)):t≠d∧b≠d∧s t=some (.ref b off):=by
 have e:t≠d:=fun e=>by subst e;rw[om]at h;cases h
 rw[lG _ _ e]at h
 unfold pz at h
 split at h
 ·rename_i b' o' hs
  cases hb:Nat.beq b' d with
  | true=>rw[hb]at h;cases h
  | false=>
   rw[hb]at h
   simp only[cond_false,Option.some.injEq,Slot.ref.injEq]at h
   obtain⟨rfl,rfl⟩:=h
   exact⟨e,(fun e=>by subst e;rw[Nat.beq_refl]at hb;cases hb),hs⟩
 ·rename_i hn
  exact absurd h (hn b off)
theorem nm{s:St}{d t:Nat}{cs bN:List Value}(h:eO s d cs t=some (.box bN)):(t=d∧bN=cs)∨(t≠d∧s t=some (.box bN)):=by
 by_cases e:t=d
 ·subst e
  rw[om]at h
  simp only[Option.some.injEq,Slot.box.injEq]at h
  exact .inl ⟨rfl,h.symm⟩
 ·refine .inr ⟨e,?_⟩
  rw[lG _ _ e]at h
  unfold pz at h
  split at h
  ·rename_i b o' _
   cases hb:Nat.beq b d <;> rw[hb]at h <;> cases h
  ·exact h
theorem Den.alloc{H:Heap}{w:World}(h:Den H w)(o:Obj):Den H (w.alloc o):=fun g e hg=>by
 obtain⟨o',h1,h2⟩:=h g e hg
 exact⟨o',by rw[RowKit.Below.heap_alloc _ _ _ (h.lt hg)];exact h1,h2⟩
theorem Rl.fY{G:Nat→Nat}(h:Rl n s H G a w){d:Nat}(hn:d<n)(cs:List Value)(e:TypeId):
  Rl n (eO s d cs) H (fun t=>if t=d then w.heap.size else G t) (a.put (some d) (.pointer (some ⟨w.heap.size,0,none⟩))) (w.alloc (.cells cs.toArray e (0,0))):=by
 have hd:d<a.tmps.size:=by rw[h.aN.size];exact hn
 have a7:∀t cs,s t=some (.box cs)→G t<w.heap.size:=fun t cs ht=>by
  obtain⟨_,_,e,h3⟩:=h.boxes t cs ht
  exact(Array.getElem?_eq_some_iff.1 h3).1
 refine⟨⟨by rw[Act.wk];exact h.aN.size,fun t v ht=> ?_⟩,fun t bN ht=> ?_,fun t t' LF Gy ht po hG=> ?_,fun t b off bN ht hb=> ?_,h.den.alloc _⟩
 ·obtain⟨e1,ht⟩:=Gx ht
  rw[Act.nh _ _ e1];exact h.aN.at_ t v ht
 ·rcases nm ht with ⟨rfl,rfl⟩ | ⟨e1,ht⟩
  ·simp only[if_true]
   exact⟨Act.rU _ _ _ hd,h.den.fresh,e,heap_alloc_new w _⟩
  ·rw[if_neg e1,Act.nh _ _ e1]
   obtain⟨h1,h2,e2,h3⟩:=h.boxes t bN ht
   exact⟨h1,h2,e2,by rw[RowKit.Below.heap_alloc _ _ _ (a7 t bN ht)];exact h3⟩
 ·rcases nm ht with ⟨h1,_⟩ | ⟨e1,h1⟩
  ·rcases nm po with ⟨h2,_⟩ | ⟨e2,h2⟩
   ·rw[h1,h2]
   ·rw[if_pos h1,if_neg e2]at hG
    have:=a7 t' Gy h2;omega
  ·rcases nm po with ⟨h2,_⟩ | ⟨e2,h2⟩
   ·rw[if_pos h2,if_neg e1]at hG
    have:=a7 t LF h1;omega
   ·rw[if_neg e1,if_neg e2]at hG
    exact h.inj t t' LF Gy h1 h2 hG
 ·obtain⟨e1,e2,ht⟩:=Ss ht
  rcases nm hb with ⟨rfl,rfl⟩ | ⟨_,hb⟩
  ·exact absurd rfl e2
  ·rw[if_neg e2,Act.nh _ _ e1]
   exact h.refs t b off bN ht hb
theorem Rl.jv{G:Nat→Nat}(h:Rl n s H G a w){b:Nat}{cs bN:List Value}(hb:s b=some (.box cs)){w':World}(hw:LB w w' (G b) bN):
  Rl n (ar.put s b (.box bN)) H G a w':=by
 have kK:∀t c,ar.put s b (.box bN) t=some (.box c)→∃c',s t=some (.box c')∧((t=b∧c=bN)∨(t≠b∧c=c')):=by
  intro t c ht
  by_cases e:t=b
  ·subst e
   rw[fm]at ht
   simp only[Option.some.injEq,Slot.box.injEq]at ht
   exact⟨cs,hb,.inl ⟨rfl,ht.symm⟩⟩
  ·rw[eh _ _ e]at ht
   exact⟨c,ht,.inr ⟨e,rfl⟩⟩
 refine⟨⟨h.aN.size,fun t v ht=> ?_⟩,fun t c ht=> ?_,fun t t' c1 c2 ht po hG=> ?_,fun t b' off c ht tN=> ?_,fun g e hg=> ?_⟩
 ·by_cases e:t=b
  ·subst e;rw[fm]at ht;cases ht
  ·rw[eh _ _ e]at ht;exact h.aN.at_ t v ht
 ·obtain⟨c',hs,hc⟩:=kK t c ht
  obtain⟨h1,h2,e,h3⟩:=h.boxes t c' hs
  rcases hc with ⟨rfl,rfl⟩ | ⟨a6,rfl⟩
  ·exact⟨h1,h2,hw.new⟩
  ·exact⟨h1,h2,e,by rw[hw.other _ (fun hG=>a6 (h.inj t b _ _ hs hb hG))];exact h3⟩
 ·obtain⟨Su,hs,_⟩:=kK t c1 ht
  obtain⟨Sv,jQ,_⟩:=kK t' c2 po
  exact h.inj t t' Su Sv hs jQ hG
 ·obtain⟨c',hs,_⟩:=kK b' c tN
  by_cases e:t=b
  ·subst e;rw[fm]at ht;cases ht
  ·rw[eh _ _ e]at ht;exact h.refs t b' off c' ht hs
 ·obtain⟨o',h1,h2⟩:=h.den g e hg
  refine⟨o',?_,h2⟩
  rw[hw.other _ (fun hG=> ?_)]
  ·exact h1
  ·obtain⟨_,h3,_⟩:=h.boxes b cs hb
   rw[←hG,hg]at h3;cases h3
theorem eP.sound(hR:Rel w0 H0 n s H a w)(nn:∀d,o.dst=some d→d<n)(h:eP P n all md o s H K):
  (Region.wanted o (yielded all a.tmps)=true∧o.wp P a w (fun a' w'=>∃s' H',Rel w0 H0 n s' H' a' w'∧K s' H') (fun _ _ _=>False))∨
  (Region.wanted o (yielded all a.tmps)=false∧∃s' H',Rel w0 H0 n s' H' (a.put o.dst undef) w∧K s' H'):=by
 obtain⟨G,hl,hb⟩:=hR.fits
 cases h with
 | fX v hm nb h k=>
  rcases h a w hl.aN hl.den with ⟨h1,h2⟩ | ⟨h1,h2⟩
  ·refine .inl ⟨h1,?_⟩
   unfold Oper.wp
   rw[h2]
   exact⟨_,_,hR.put (x:= .val v) nn hl hb rfl,k⟩
  ·subst h2
   exact .inr ⟨h1,_,_,hR.put (x:= .val undef) nn hl hb rfl,k⟩
 | fT x hm nb hx h k=>
  obtain⟨v,pA,h1,h2⟩:=h s (.refl _ _) G a w hl
  refine .inl ⟨h1,?_⟩
  unfold Oper.wp
  rw[h2]
  exact⟨_,_,hR.put nn hl hb pA,k⟩
 | fY d hd hm nb cs h k=>
  obtain⟨h1,e,h2⟩:=h a w hl.aN
  refine .inl ⟨h1,?_⟩
  unfold Oper.wp
  rw[h2]
  show ∃s' H',Rel w0 H0 n s' H' (a.put o.dst _) _∧K s' H'
  rw[hd]
  refine⟨_,_,⟨by rw[Act.Ly];exact hR.defers,⟨_,hl.fY (nn d hd) cs e,fun t bN ht=> ?_⟩,?_⟩,k⟩
  ·rcases nm ht with ⟨rfl,rfl⟩ | ⟨e1,ht⟩
   ·simp only[if_true];exact hR.fx.size
   ·rw[if_neg e1];exact hb t bN ht
  ·exact hR.fx.trans ⟨rfl,rfl,rfl,by simp,fun g hg h0=>⟨RowKit.Below.heap_alloc _ _ _ hg,h0⟩,Fx.Gt fun g hg=>RowKit.Below.heap_alloc _ _ _ hg⟩
 | jv b cs bN hd hm wo gQ h k=>
  obtain⟨h1,w',h2,hw⟩:=h H G a w hl
  refine .inl ⟨h1,?_⟩
  unfold Oper.wp
  rw[h2]
  show ∃s' H',Rel w0 H0 n s' H' (a.put o.dst undef) w'∧K s' H'
  rw[hd]
  refine⟨_,_,⟨hR.defers,⟨G,hl.jv wo hw,fun t c ht=> ?_⟩,?_⟩,k⟩
  ·by_cases e:t=b
   ·subst e;exact hb t cs wo
   ·rw[eh _ _ e]at ht;exact hb t c ht
  ·refine⟨hw.os.trans hR.fx.os,hw.tape.trans hR.fx.tape,hw.output.trans hR.fx.output,by rw[hw.size];exact hR.fx.size,fun g hg h0=> ?_,fun g c t fz hc=> ?_⟩
   ·have h3:=hR.fx.ia g hg h0
    refine⟨?_,h3.2⟩
    rw[hw.other _ (fun e=> ?_)]
    ·exact h3.1
    ·have:=hb b cs wo;omega
   ·obtain⟨c',h3,h4⟩:=hR.fx.form g c t fz hc
    have a7:=(Array.getElem?_eq_some_iff.1 hc).1
    have:=hb b cs wo
    exact⟨c',by rw[hw.other _ (by omega)];exact h3,h4⟩
 | fresh mk xs e hm nb h k=>
  obtain⟨h1,h2⟩:=h a w hl.aN
  refine .inl ⟨h1,?_⟩
  unfold Oper.wp
  rw[h2]
  have ib:=hl.den.fresh
  have hd:Den (ins H w.heap.size (whole xs e)) (w.alloc (.cells xs.toArray e (0,0))):=by
   intro g e' hg
   by_cases eg:g=w.heap.size
   ·subst eg
    rw[bx]at hg
    simp only[Option.some.injEq]at hg
    subst hg
    exact⟨_,heap_alloc_new w _,xs.toArray,(0,0),rfl,by simp[whole],fun i v hv=>by simpa [whole]using hv,fun _=>rfl⟩
   ·rw[bA _ _ eg]at hg
    exact hl.den.alloc _ g e' hg
  have hf:Fx H w (ins H w.heap.size (whole xs e)) (w.alloc (.cells xs.toArray e (0,0))):=
   ⟨rfl,rfl,rfl,by simp,fun g hg h0=>⟨RowKit.Below.heap_alloc _ _ _ hg,by rw[bA _ _ (by omega)];exact h0⟩,Fx.Gt fun g hg=>RowKit.Below.heap_alloc _ _ _ hg⟩
  have iY:=hl.CC hd hf
  have cN:Rel w0 H0 n s (ins H w.heap.size (whole xs e)) a (w.alloc (.cells xs.toArray e (0,0))):=⟨hR.defers,⟨G,iY,hb⟩,hR.fx.trans hf⟩
  exact⟨_,_,cN.put (x:= .val _) nn iY hb rfl,k _ ib ⟨_,hd⟩⟩
 | fo aX ha nb h hm k=>
  obtain⟨h1,h2⟩:=h a w hl.aN hl.den
  refine .inl ⟨h1,h2.wp fun v w' hh=> ?_⟩
  obtain⟨H',hp,hd,hf⟩:=hh
  have iY:=hl.CC hd hf
  have cN:Rel w0 H0 n s H' a w':=⟨hR.defers,⟨G,iY,hb⟩,hR.fx.trans hf⟩
  exact⟨_,_,cN.put (x:= .val v) nn iY hb rfl,k v H' hp ⟨w',hd⟩⟩
 | jw v bB hm nb hc h k=>
  rcases h a w hl.aN (fun ad u hu=>hl.den.cell (hc ad u hu))with ⟨h1,h2⟩ | ⟨h1,h2⟩
  ·refine .inl ⟨h1,?_⟩
   unfold Oper.wp
   rw[h2]
   exact⟨_,_,hR.put (x:= .val v) nn hl hb rfl,k⟩
  ·subst h2
   exact .inr ⟨h1,_,_,hR.put (x:= .val undef) nn hl hb rfl,k⟩
 | kM mk xs e bB hm nb h k=>
  obtain⟨h1,h2⟩:=h a w hl.aN
  refine .inl ⟨h1,?_⟩
  unfold Oper.wp
  rw[h2]
  have ib:=hl.den.fresh
  have hd:Den (ins H w.heap.size (whole xs e)) (w.alloc (.cells xs.toArray e (0,0))):=by
   intro g e' hg
   by_cases eg:g=w.heap.size
   ·subst eg
    rw[bx]at hg
    simp only[Option.some.injEq]at hg
    subst hg
    exact⟨_,heap_alloc_new w _,xs.toArray,(0,0),rfl,by simp[whole],fun i v hv=>by simpa [whole]using hv,fun _=>rfl⟩
   ·rw[bA _ _ eg]at hg
    exact hl.den.alloc _ g e' hg
  have hf:Fx H w (ins H w.heap.size (whole xs e)) (w.alloc (.cells xs.toArray e (0,0))):=
   ⟨rfl,rfl,rfl,by simp,fun g hg h0=>⟨RowKit.Below.heap_alloc _ _ _ hg,by rw[bA _ _ (by omega)];exact h0⟩,Fx.Gt fun g hg=>RowKit.Below.heap_alloc _ _ _ hg⟩
  have iY:=hl.CC hd hf
  have cN:Rel w0 H0 n s (ins H w.heap.size (whole xs e)) a (w.alloc (.cells xs.toArray e (0,0))):=⟨hR.defers,⟨G,iY,hb⟩,hR.fx.trans hf⟩
  exact⟨_,_,cN.put (x:= .val _) nn iY hb rfl,k _ ib ⟨_,hd⟩⟩
 | jP aX bB ha nb h hm k=>
  obtain⟨h1,h2⟩:=h a w hl.aN hl.den
  refine .inl ⟨h1,h2.wp fun v w' hh=> ?_⟩
  obtain⟨H',hp,hd,hf⟩:=hh
  have iY:=hl.CC hd hf
  have cN:Rel w0 H0 n s H' a w':=⟨hR.defers,⟨G,iY,hb⟩,hR.fx.trans hf⟩
  exact⟨_,_,cN.put (x:= .val v) nn iY hb rfl,k v H' hp ⟨w',hd⟩⟩
end sound
end Go.ar
namespace Go.ar
theorem rV{o:Op}:ni o=true↔kd o=3:=by
 cases o <;> simp[ni,tP,tQ,kd]
 split <;> simp
theorem LG{o:Op}(h:kd o=3):(tP o=true∧tQ o=false)∨(tP o=false∧tQ o=true):=by
 cases o <;> simp[tP,tQ,kd]at h⊢
 split at h <;> simp at h
theorem nt{o:Op}:tO o=true↔kd o=2:=by
 cases o <;> simp[tO,kd]
 split <;> simp
theorem wq{o:Op}(h:yW o=true):kd o=0:=by
 cases o <;> simp[yW]at h <;> rfl
def Sw(md:Mode)(all:Array Oper)(x y:Oper):Bool:=
 x.apart all y&&oh x.op&&oh y.op &&
 ((kd x.op == 0&&(kd y.op == 0||(kd y.op == 1 && !md.LD)||(kd y.op == 3&&(y.guard.isNone || !md.kL))||(kd y.op == 2&&md.Gv&&(md.Gw || !yW x.op)))) ||
  ((kd x.op == 1||kd x.op == 3)&&kd y.op == 3&&y.guard.isNone && !md.kL))
section
variable {P:Program} {n:Nat} {all:Array Oper} {o:Oper}
structure tR(all:Array Oper)(o:Oper)(a b:Act):Prop where
 want:Region.wanted o (yielded all a.tmps)=Region.wanted o (yielded all b.tmps)
 exec:execOp a.eval o=execOp b.eval o
theorem tR.put{a:Act}{d:Nat}(v:Value)(hs:oh o.op=true)(h:d∉o.looksAt all):tR all o (a.put (some d) v) a:=by
 refine⟨wanted_put o a (some d) v (fun e he=>by cases he;exact h),execOp_congr o (fun cs b e=>by rw[e]at hs;cases hs) (fun x hx=> ?_)⟩
 refine Act.eval_put fun e he SA=> ?_
 cases he
 subst SA
 exact h (by
  unfold Oper.looksAt
  refine List.mem_append_left _ ?_
  rw[List.mem_filterMap]
  exact⟨_,by simpa using hx,rfl⟩)
theorem tR.refl(a:Act):tR all o a a:=⟨rfl,rfl⟩
def Mv(n:Nat)(all:Array Oper)(o:Oper)(s1 s2:St):Prop:=∀a,eG n s2 a→∃a1,eG n s1 a1∧tR all o a1 a
def yX(n:Nat)(all:Array Oper)(o:Oper)(s1 s2:St):Prop:=∀H G a w,Rl n s2 H G a w→∃a1,Rl n s1 H G a1 w∧tR all o a1 a
variable {s1 s2 s:St} {H H1 H2:Heap}
theorem CD.move{v:Value}(hm:Mv n all o s1 s2)(hl:Heap.le H1 H2)(h:CD P n all o s1 H1 v):CD P n all o s2 H2 v:=fun a w ha hd=>by
 obtain⟨a1,h1,h2⟩:=hm a ha
 rw[←h2.want,←h2.exec]
 exact h a1 w h1 (hd.le hl)
theorem wm.move{x:Slot}(hm:yX n all o s1 s2)(hl:Heap.le H1 H2)(h:wm P n all o s1 H1 x):wm P n all o s2 H2 x:=fun G a w ha=>by
 obtain⟨a1,h1,h2⟩:=hm H2 G a w ha
 obtain⟨v,h3,h4,h5⟩:=h G a1 w (h1.le hl)
 exact⟨v,h3,by rw[←h2.want];exact h4,by rw[←h2.exec];exact h5⟩
theorem CG.move{md:Mode}{v:Value}(hm:Mv n all o s1 s2)(h:CG P n md all o s1 v):CG P n md all o s2 v:=fun a w ha hd=>by
 obtain⟨a1,h1,h2⟩:=hm a ha
 have:=h a1 w h1 hd
 rw[h2.want,h2.exec]at this
 exact this
theorem qC.move{cs:List Value}(hm:Mv n all o s1 s2)(h:qC P n all o s1 cs):qC P n all o s2 cs:=fun a w ha=>by
 obtain⟨a1,h1,h2⟩:=hm a ha
 rw[←h2.want,←h2.exec]
 exact h a1 w h1
theorem CE.move{b:Nat}{cs:List Value}(hm:yX n all o s1 s2)(h:CE P n all o s1 b cs):CE P n all o s2 b cs:=fun H G a w ha=>by
 obtain⟨a1,h1,h2⟩:=hm H G a w ha
 rw[←h2.want,←h2.exec]
 exact h H G a1 w h1
theorem px.move{mk:Nat→Value}{xs:List Value}{e:TypeId}(hm:Mv n all o s1 s2)(h:px P n all o s1 mk xs e):px P n all o s2 mk xs e:=fun a w ha=>by
 obtain⟨a1,h1,h2⟩:=hm a ha
 rw[←h2.want,←h2.exec]
 exact h a1 w h1
theorem EV.move{aX:Value→Heap→Prop}(hm:Mv n all o s1 s2)(h:EV P n all o s1 H aX):EV P n all o s2 H aX:=fun a w ha hd=>by
 obtain⟨a1,h1,h2⟩:=hm a ha
 have:=h a1 w h1 hd
 unfold iX at this⊢
 rw[←h2.want,←h2.exec]
 exact this
theorem qC.uniq{cs bN:List Value}(ha:∃a,eG n s a)(h:qC P n all o s cs)(h':qC P n all o s bN):bN=cs:=by
 obtain⟨a,ha⟩:=ha
 obtain⟨_,e,h1⟩:=h a default ha
 obtain⟨_,e',h2⟩:=h' a default ha
 rw[h1]at h2
 simp only[Result.ok.injEq,true_and]at h2
 have:=congrArg (fun w:World=>w.heap[(default:World).heap.size]?) h2
 simp only[heap_alloc_new,Option.some.injEq,Obj.cells.injEq]at this
 exact(List.toArray_inj this.1).symm
theorem px.uniq{mk mk':Nat→Value}{xs mh:List Value}{e e':TypeId}(ha:∃a,eG n s a)(h:px P n all o s mk xs e)(h':px P n all o s mk' mh e'):mk'=mk∧mh=xs∧e'=e:=by
 obtain⟨a,ha⟩:=ha
 have key:∀w:World,mk' w.heap.size=mk w.heap.size∧mh=xs∧e'=e:=fun w=>by
  obtain⟨_,h1⟩:=h a w ha
  obtain⟨_,h2⟩:=h' a w ha
  rw[h1]at h2
  simp only[Result.ok.injEq,Next.value.injEq]at h2
  have:=congrArg (fun w':World=>w'.heap[w.heap.size]?) h2.2
  simp only[heap_alloc_new,Option.some.injEq,Obj.cells.injEq]at this
  exact⟨h2.1.symm,(List.toArray_inj this.1).symm,this.2.1.symm⟩
 refine⟨funext fun g=> ?_,(key default).2⟩
 have:=(key {(default:World)with heap:=Array.replicate g default}).1
 simpa using this
theorem EV.some{aX:Value→Heap→Prop}(h:EV P n all o s H aX)(ha:∃a,eG n s a)(hw:Real H):∃v H',aX v H'∧Real H':=by
 obtain⟨a,ha⟩:=ha
 obtain⟨w,hw⟩:=hw
 obtain⟨_,h2⟩:=h a w ha hw
 unfold iX at h2
 split at h2
 ·obtain⟨H',hp,hd,_⟩:=h2;exact⟨_,H',hp,_,hd⟩
 ·obtain⟨H',hp,hd,_⟩:=h2;exact⟨_,H',hp,_,hd⟩
 ·obtain⟨e,w',fr,⟨v,_,H',hp,hd,_⟩,_⟩:=h2 []
  exact⟨v,H',hp,w',hd⟩
 ·exact h2.elim
theorem EV.frame{aX:Value→Heap→Prop}{g:Nat}{ent:aG}(hg:H g=none)(h:EV P n all o s H aX):
  EV P n all o s (ins H g ent) (fun v rT=>∃H',aX v H'∧H' g=none∧rT=ins H' g ent):=fun a w ha hd=>by
 obtain⟨h1,h2⟩:=h a w ha (hd.le (Heap.a0 ent hg))
 refine⟨h1,h2.mono fun v w' hh=> ?_⟩
 obtain⟨H',hp,jO,hf⟩:=hh
 obtain⟨ob,ho,SB⟩:=hd g ent (bx _ _ _)
 have a7:=hd.lt (bx H g ent)
 obtain⟨fU,gi⟩:=hf.ia g a7 hg
 refine⟨ins H' g ent,⟨H',hp,gi,rfl⟩,fun k e hk=> ?_,⟨hf.os,hf.tape,hf.output,hf.size,fun k hk h0=> ?_,hf.form⟩⟩
 ·by_cases ek:k=g
  ·subst ek
   rw[bx]at hk
   simp only[Option.some.injEq]at hk
   subst hk
   exact⟨ob,fU.trans ho,SB⟩
  ·rw[bA _ _ ek]at hk;exact jO k e hk
 ·have ek:k≠g:=fun e=>by subst e;rw[bx]at h0;cases h0
  rw[bA _ _ ek]at h0⊢
  exact hf.ia k hk h0
theorem kN{d:Option Nat}{X:Slot}(hs:oh o.op=true)(hd:∀k,d=some k→k<n∧k∉o.looksAt all):Mv n all o (aR s d X) s:=fun a ha=>by
 cases d with
 | none=>exact⟨a,ha,.refl a⟩
 | some d=>
  obtain⟨hn,hl⟩:=hd d rfl
  have key:∀u,(∀v,X = .val v→u=v)→∃a1,eG n (aR s (some d) X) a1∧tR all o a1 a:=fun u hu=>by
   refine⟨a.put (some d) u,⟨by rw[Act.wk];exact ha.size,fun t v ht=> ?_⟩,.put u hs hl⟩
   by_cases e:t=d
   ·subst e
    rw[show aR s (some t) X=put s t X from rfl,fm]at ht
    simp only[Option.some.injEq]at ht
    rw[Act.rU _ _ _ (by rw[ha.size];exact hn),hu v ht]
   ·rw[show aR s (some d) X=put s d X from rfl,eh _ _ e]at ht
    rw[Act.nh _ _ e];exact ha.at_ t v ht
  cases X with
  | val v=>exact key v (fun v' h=>by cases h;rfl)
  | box cs=>exact key undef (fun v' h=>by cases h)
  | ref b off=>exact key undef (fun v' h=>by cases h)
theorem CH{d:Option Nat}{X:Slot}(hx:∀cs,X≠.box cs)(hs:oh o.op=true)(hd:∀k,d=some k→k<n∧k∉o.looksAt all):yX n all o (aR s d X) s:=fun H G a w ha=>by
 cases d with
 | none=>exact⟨a,ha,.refl a⟩
 | some d=>
  obtain⟨hn,hl⟩:=hd d rfl
  cases X with
  | val v=>exact⟨_,ha.put hn (x:= .val v) rfl,.put _ hs hl⟩
  | box cs=>exact absurd rfl (hx cs)
  | ref b off=>exact⟨_,ha.put hn (x:= .ref b off) rfl,.put _ hs hl⟩
theorem pB{d:Option Nat}{X:Slot}(hs:oh o.op=true)(hd:∀k,d=some k→k<n∧k∉o.looksAt all):Mv n all o s (aR s d X):=fun a ha=>by
 cases d with
 | none=>exact⟨a,ha,.refl a⟩
 | some d=>
  obtain⟨hn,hl⟩:=hd d rfl
  obtain⟨v,hv⟩:=eG.back (s:=s) (d:=d) ha (fun t v ht h=>by rw[show aR s (some d) X=put s d X from rfl,eh _ _ ht];exact h) hn
  exact⟨_,hv,.put v hs hl⟩
theorem SC{d:Option Nat}{X:Slot}(hs:oh o.op=true)(hd:∀k,d=some k→k<n∧k∉o.looksAt all)(hb:∀k cs,d=some k→s k≠some (.box cs)):yX n all o s (aR s d X):=fun H G a w ha=>by
 cases d with
 | none=>exact⟨a,ha,.refl a⟩
 | some d=>
  obtain⟨hn,hl⟩:=hd d rfl
  obtain⟨v,hv⟩:=Rl.back (s:=s) (d:=d) ha (fun cs=>hb d cs rfl) (fun t x ht h _=>by rw[show aR s (some d) X=put s d X from rfl,eh _ _ ht];exact h) hn
  exact⟨_,hv,.put v hs hl⟩
theorem yY{d t:Nat}{cs:List Value}{x:Slot}(ht:t≠d)(h:s t=some x)(hx:∀b o,x = .ref b o→b≠d):eO s d cs t=some x:=by
 rw[lG _ _ ht,h]
 cases x with
 | val v=>rfl
 | box c=>rfl
 | ref b off=>
  have:=hx b off rfl
  have hb:Nat.beq b d=false:=by
   cases hb:Nat.beq b d with
   | false=>rfl
   | true=>exact absurd (Nat.eq_of_beq_eq_true hb) this
  simp[pz,hb]
theorem CI{d:Nat}{cs:List Value}(hs:oh o.op=true)(hn:d<n)(hl:d∉o.looksAt all):Mv n all o s (eO s d cs):=fun a ha=>by
 obtain⟨v,hv⟩:=eG.back (s:=s) (d:=d) ha (fun t v ht h=>yY ht h (fun b o e=>by cases e)) hn
 exact⟨_,hv,.put v hs hl⟩
theorem SD{d:Nat}{cs:List Value}(hs:oh o.op=true)(hn:d<n)(hl:d∉o.looksAt all)(hb:∀cs,s d≠some (.box cs)):yX n all o s (eO s d cs):=fun H G a w ha=>by
 obtain⟨v,hv⟩:=Rl.back (s:=s) (d:=d) ha hb (fun t x ht h hx=>yY ht h hx) hn
 exact⟨_,hv,.put v hs hl⟩
theorem LH{d:Nat}{cs:List Value}:Mv n all o (eO s d cs) s:=fun a ha=>
 ⟨a,⟨ha.size,fun t v ht=>ha.at_ t v (Gx ht).2⟩,.refl a⟩
theorem SE{b:Nat}{cs bN:List Value}(hb:s b=some (.box cs)):Mv n all o s (put s b (.box bN)):=fun a ha=>
 ⟨a,⟨ha.size,fun t v ht=>ha.at_ t v (by
  have e:t≠b:=fun e=>by subst e;rw[hb]at ht;cases ht
  rw[eh _ _ e];exact ht)⟩,.refl a⟩
theorem mj{d e:Option Nat}(X Y:Slot)(h:∀k,d=some k→e≠some k):aR (aR s d X) e Y=aR (aR s e Y) d X:=by
 cases d with
 | none=>rfl
 | some d=>
  cases e with
  | none=>rfl
  | some e=>exact put_comm s X Y (fun h'=>h d rfl (by rw[h']))
theorem yZ{d:Option Nat}{e:Nat}{X:Slot}{cs:List Value}(h:d≠some e)(hx:∀b o,X = .ref b o→b≠e):eO (aR s d X) e cs=aR (eO s e cs) d X:=by
 cases d with
 | none=>rfl
 | some d=>
  have a6:d≠e:=fun h'=>h (by rw[h'])
  funext t
  show eO (put s d X) e cs t=put (eO s e cs) d X t
  by_cases h1:t=e
  ·subst h1
   rw[om,eh _ _ (Ne.symm a6),om]
  ·rw[lG _ _ h1]
   by_cases h2:t=d
   ·subst h2
    rw[fm,fm]
    have:=yY (s:=put s t X) (cs:=cs) h1 (fm s t X) hx
    rw[lG _ _ h1,fm]at this
    exact this
   ·rw[eh _ _ h2,eh _ _ h2,lG _ _ h1]
theorem SF(d e:Nat)(x:Option Slot):pz d (pz e x)=pz e (pz d x):=by
 cases x with
 | none=>rfl
 | some x=>
  cases x with
  | val v=>rfl
  | box c=>rfl
  | ref b o=>cases h1:Nat.beq b d <;> cases h2:Nat.beq b e <;> simp[pz,h1,h2]
theorem SG{d e:Nat}{cs bN:List Value}(h:d≠e):eO (eO s d cs) e bN=eO (eO s e bN) d cs:=by
 funext t
 by_cases h1:t=e
 ·subst h1
  rw[om,lG _ _ (Ne.symm h),om];rfl
 ·rw[lG _ _ h1]
  by_cases h2:t=d
  ·subst h2
   rw[om,om];rfl
  ·rw[lG _ _ h2,lG _ _ h2,lG _ _ h1,SF]
theorem LI{d:Option Nat}{b:Nat}{X:Slot}{cs:List Value}(h:d≠some b):put (aR s d X) b (.box cs)=aR (put s b (.box cs)) d X:=by
 cases d with
 | none=>rfl
 | some d=>exact put_comm s X (.box cs) (fun h'=>h (by rw[h']))
theorem wu(H:Heap){g k:Nat}(e e':aG)(h:g≠k):ins (ins H g e) k e'=ins (ins H k e') g e:=by
 funext t
 by_cases h1:t=k
 ·subst h1;rw[bx,bA _ _ (Ne.symm h),bx]
 ·by_cases h2:t=g
  ·subst h2;rw[bA _ _ h1,bx,bx]
  ·rw[bA _ _ h1,bA _ _ h2,bA _ _ h2,bA _ _ h1]
end
theorem CJ(s:St)(d:Nat)(X:Slot):aR s (some d) X=put s d X:=rfl
theorem fS.aR{md:Mode}{s s':St}(h:fS md s s')(d:Option Nat)(X:Slot):fS md (aR s d X) (aR s' d X):=fun t=>by
 cases d with
 | none=>exact h t
 | some d=>
  rw[CJ,CJ]
  by_cases e:t=d
  ·subst e;exact .inl (by rw[fm,fm])
  ·rw[eh _ _ e,eh _ _ e];exact h t
theorem fS.SH{md:Mode}{s s':St}{d:Option Nat}{X:Slot}(hX:∀c,X≠.box c)(h:fS md (ar.aR s d X) s'):∃qE,fS md s qE∧s'=ar.aR qE d X∧∀k,d=some k→qE k=s k:=by
 cases d with
 | none=>exact⟨s',h,rfl,fun k e=>by cases e⟩
 | some d=>
  rw[CJ]at h
  have hd:s' d=some X:=h.val hX (fm _ _ _)
  refine⟨fun t=>if t=d then s t else s' t,fun t=> ?_,?_,fun k e=>by cases e;simp⟩
  ·by_cases e:t=d
   ·left;simp[e]
   ·have:=h t
    rw[eh _ _ e]at this
    simpa [e]using this
  ·rw[CJ]
   funext t
   by_cases e:t=d
   ·subst e;rw[fm,hd]
   ·rw[eh _ _ e,if_neg e]
open Classical in
theorem fS.unbox{md:Mode}{s s':St}{d:Nat}{cs:List Value}(h:fS md (eO s d cs) s'):∃qE CK,fS md s qE∧s'=eO qE d CK∧qE d=s d:=by
 obtain⟨CK,hc⟩:=h.box (om s d cs)
 refine⟨fun t=>if t=d∨s' t=eO s d cs t then s t else s' t,CK,fun t=> ?_,?_,by simp⟩
 ·by_cases e:t=d∨s' t=eO s d cs t
  ·left;simp only[e,if_true]
  ·simp only[e,if_false]
   rcases h t with h1 | ⟨h0,c,c',h1,h2⟩
   ·exact absurd (.inr h1) e
   ·rcases nm h1 with ⟨e1,_⟩ | ⟨_,h3⟩
    ·exact absurd (.inl e1) e
    ·exact .inr ⟨h0,c,c',h3,h2⟩
 ·funext t
  by_cases e:t=d
  ·subst e;rw[hc,om]
  ·rw[lG _ _ e]
   by_cases e2:s' t=eO s d cs t
   ·simp only[e2,or_true,if_true];exact lG _ _ e
   ·rcases h t with h1 | ⟨h0,c,c',h1,h2⟩
    ·exact absurd h1 e2
    ·rw[if_neg (by rintro(h3 | h3);exact e h3;exact e2 h3),h2];rfl
theorem fS.store{md:Mode}{s s':St}{b:Nat}{cs bN:List Value}(hb:s b=some (.box cs))(hw:md.wr b=true)(h:fS md (put s b (.box bN)) s'):fS md s s':=fun t=>by
 by_cases e:t=b
 ·subst e
  obtain⟨c,hc⟩:=h.box (fm s t (.box bN))
  exact .inr ⟨hw,cs,c,hb,hc⟩
 ·have:=h t
  rwa [eh _ _ e]at this
end Go.ar
namespace Go.ar
section
variable {P:Program} {n:Nat} {all:Array Oper} {md:Mode} {x y:Oper} {s:St} {H:Heap} {K:St→Heap→Prop}
theorem rW{md:Mode}(dy:md≠.plain){k:Nat}(h:k=1∨k=2∨md = .plain):k=1∨k=2:=by
 rcases h with h | h | h
 ·exact .inl h
 ·exact .inr h
 ·exact absurd h dy
theorem nu(dy:md≠.plain)(dF:md.kL=false)(d:Option Nat):md.nb s d=true↔∀k cs,d=some k→s k≠some (.box cs):=by
 cases d with
 | none=>cases md <;> simp[Mode.nb,Mode.kL]at *
 | some d=>
  have:md.nb s (some d)=(match s d with | some (.box _)=>false | _=>true):=by cases md <;> first | exact absurd rfl dy | rfl | cases dF
  rw[this]
  cases hs:s d with
  | none=>exact⟨(fun _ k cs hk h=>by cases hk;rw[hs]at h;cases h),fun _=>rfl⟩
  | some z=>
   cases z with
   | val v=>exact⟨(fun _ k cs hk h=>by cases hk;rw[hs]at h;cases h),fun _=>rfl⟩
   | box c=>exact⟨(fun h=>by cases h),fun h=>absurd hs (h d c rfl)⟩
   | ref b o=>exact⟨(fun _ k cs hk h=>by cases hk;rw[hs]at h;cases h),fun _=>rfl⟩
theorem tS{X:Slot}:X.oj s=true↔(∀cs,X≠.box cs)∧∀b o,X = .ref b o→∃cs,s b=some (.box cs):=by
 cases X with
 | val v=>simp[Slot.oj]
 | box c=>simp[Slot.oj]
 | ref b o=>
  simp only[Slot.oj]
  cases hs:s b with
  | none=>simp[hs]
  | some z=>cases z <;> simp[hs]
theorem y3{d:Option Nat}{X:Slot}{t:Nat}(h:d≠some t):aR s d X t=s t:=by
 cases d with
 | none=>rfl
 | some d=>exact eh s X (fun e=>h (by rw[e]))
theorem Gz{d:Option Nat}{X:Slot}{t:Nat}{cs:List Value}(hx:∀cs,X≠.box cs)(h:aR s d X t=some (.box cs)):d≠some t∧s t=some (.box cs):=by
 cases d with
 | none=>exact⟨by simp,h⟩
 | some d=>
  by_cases e:t=d
  ·subst e
   rw[show aR s (some t) X=put s t X from rfl,fm]at h
   simp only[Option.some.injEq]at h
   exact absurd h (hx cs)
  ·rw[show aR s (some d) X=put s d X from rfl,eh _ _ e]at h
   exact⟨fun h'=>e (by cases h';rfl),h⟩
structure wv(md:Mode)(all:Array Oper)(x y:Oper):Prop where
 xs:oh x.op=true
 ys:oh y.op=true
 xy:∀d,x.dst=some d→d∉y.looksAt all
 ne:∀d,x.dst=some d→y.dst≠some d
 yx:∀d,y.dst=some d→d∉x.looksAt all
 kind:(kd x.op=0∧(kd y.op=0∨(kd y.op=1∧md.LD=false)∨(kd y.op=3∧(y.guard=none∨md.kL=false))∨(kd y.op=2∧md.Gv=true∧(md.Gw=true∨yW x.op=false))))∨((kd x.op=1∨kd x.op=3)∧kd y.op=3∧y.guard=none∧md.kL=false)
theorem Sw.out(h:Sw md all x y=true):wv md all x y:=by
 simp only[Sw,Bool.and_eq_true,Bool.or_eq_true,beq_iff_eq,Option.isNone_iff_eq_none,Bool.not_eq_true']at h
 obtain⟨⟨⟨h1,h2⟩,h3⟩,h4⟩:=h
 obtain⟨a1,a2,a3⟩:=Oper.apart_spec h1
 refine⟨h2,h3,a1,a2,a3,?_⟩
 rcases h4 with ⟨hx,hy⟩ | ⟨⟨⟨hx,hy⟩,hz⟩,hk⟩
 ·left
  refine⟨hx,?_⟩
  rcases hy with ((hy | hy) | hy) | hy
  ·exact .inl hy
  ·exact .inr (.inl hy)
  ·exact .inr (.inr (.inl hy))
  ·exact .inr (.inr (.inr ⟨hy.1.1,hy.1.2,hy.2⟩))
 ·exact .inr ⟨hx,hy,hz,hk⟩
theorem Den.SI{H:Heap}{w:World}(h:Den H w)(xs:List Value)(e:TypeId):Den (ins H w.heap.size (whole xs e)) (w.alloc (.cells xs.toArray e (0,0))):=by
 intro g e' hg
 by_cases eg:g=w.heap.size
 ·subst eg
  rw[bx]at hg
  simp only[Option.some.injEq]at hg
  subst hg
  exact⟨_,heap_alloc_new w _,xs.toArray,(0,0),rfl,by simp[whole],fun i v hv=>by simpa [whole]using hv,fun _=>rfl⟩
 ·rw[bA _ _ eg]at hg
  exact h.alloc _ g e' hg
theorem Heap.le.rX{H H':Heap}{g:Nat}{e:aG}(h:Heap.le H H')(hg:H' g=none):Heap.le (ins H g e) (ins H' g e):=fun k x hk=>by
 by_cases ek:k=g
 ·subst ek
  rw[bx]at hk⊢
  exact⟨x,hk,.refl x⟩
 ·rw[bA _ _ ek]at hk⊢
  exact h k x hk
theorem eP.SJ(dy:md≠.plain)(dF:md.kL=false)(hw:wv md all x y)(wy:∀d,x.dst=some d→d<n)(ml:∀d,y.dst=some d→d<n)
  (hS:∃a,eG n s a) (hH:Real H) (h:eP P n all md x s H (fun s1 H1=>eP P n all md y s1 H1 K)):eP P n all md y s H (fun s2 H2=>eP P n all md x s2 H2 K):=by
 have cj:∀d,x.dst=some d→d<n∧d∉y.looksAt all:=fun d hd=>⟨wy d hd,hw.xy d hd⟩
 have kO:∀d,y.dst=some d→d<n∧d∉x.looksAt all:=fun d hd=>⟨ml d hd,hw.yx d hd⟩
 have y4:∀d,y.dst=some d→x.dst≠some d:=fun d hd e=>hw.ne d e hd
 have jx:∀{X:Slot},(∀cs,X≠.box cs)→md.nb (aR s x.dst X) y.dst=true→md.nb s y.dst=true:=fun{X} hX hn=>by
  rw[nu dy dF]at hn⊢
  intro k cs hk hs
  exact hn k cs hk (by rw[y3 (y4 k hk)];exact hs)
 have kP:∀{Y:Slot},md.nb s x.dst=true→md.nb (aR s y.dst Y) x.dst=true:=fun{Y} hn=>by
  rw[nu dy dF]at hn⊢
  intro k cs hk hs
  exact hn k cs hk (by rw[y3 (hw.ne k hk)]at hs;exact hs)
 have LJ:∀{X Y:Slot},(∀cs,X≠.box cs)→Y.oj (aR s x.dst X)=true→Y.oj s=true:=fun{X Y} hX hg=>by
  rw[tS]at hg⊢
  exact⟨hg.1,fun b o e=>by obtain⟨cs,hc⟩:=hg.2 b o e;exact⟨cs,(Gz hX hc).2⟩⟩
 have CL:∀{X Y:Slot},md.nb s y.dst=true→X.oj s=true→X.oj (aR s y.dst Y)=true:=fun{X Y} hn hg=>by
  rw[tS]at hg⊢
  refine⟨hg.1,fun b o e=> ?_⟩
  obtain⟨cs,hc⟩:=hg.2 b o e
  exact⟨cs,by rw[y3 (fun hk=>(nu dy dF _).1 hn b cs hk hc)];exact hc⟩
 have LK:∀{k:Nat}{cs:List Value},md.nb s y.dst=true→y.dst=some k→s k≠some (.box cs):=fun{k cs} hn hk=>(nu dy dF _).1 hn k cs hk
 have CN:∀{X Y:Slot}{H1 H2:Heap},md.nb s y.dst=true→(∀c,Y≠.box c)→Heap.le H1 H2→(∀s',fS md s s'→wm P n all x s' H1 X)→∀s',fS md (aR s y.dst Y) s'→wm P n all x s' H2 X:=fun{X Y H1 H2} n1 hY hl h s' e=>by
  obtain⟨qE,e1,rfl,e2⟩:=e.SH hY
  exact(h _ e1).move (SC hw.xs kO (fun k cs hk=>by rw[e2 k hk];exact LK n1 hk)) hl
 cases h with
 | fX v hm nb h k=>
  have hX:∀cs,Slot.val v≠.box cs:=fun cs e=>by cases e
  cases k with
  | fX v' aV cG h' k'=>
   have n1:=jx hX cG
   refine .fX v' aV n1 (h'.move (kN hw.ys cj) (.refl _)) (.fX v hm (kP nb) (h.move (pB hw.xs kO) (.refl _)) ?_)
   rw[←mj _ _ hw.ne];exact k'
  | fT X' aV cG oo h' k'=>
   have n1:=jx hX cG
   refine .fT X' aV n1 (LJ hX oo) (fun s' e=>(h' _ (e.aR _ _)).move (CH hX hw.ys cj) (.refl _)) (.fX v hm (kP nb) (h.move (pB hw.xs kO) (.refl _)) ?_)
   rw[←mj _ _ hw.ne];exact k'
  | fY d hd aV cG cs h' k'=>
   have n1:=jx hX cG
   refine .fY d hd aV n1 cs (h'.move (kN hw.ys cj)) (.fX v hm ?_ (h.move (CI hw.xs (ml d hd) (hw.yx d hd)) (.refl _)) ?_)
   ·rw[nu dy dF]at nb⊢
    intro k bN hk hs
    rcases nm hs with ⟨e,_⟩ | ⟨_,hs⟩
    ·exact hw.ne k hk (by rw[hd,e])
    ·exact nb k bN hk hs
   ·rw[←yZ (fun e=>hw.ne d e hd) (fun b o e=>by cases e)];exact k'
  | jv b cs bN hd aV hb gQ h' k'=>
   obtain⟨qF,gS⟩:=Gz hX hb
   refine .jv b cs bN hd aV gS gQ (h'.move (CH hX hw.ys cj)) (.fX v hm ?_ (h.move (SE gS) (.refl _)) ?_)
   ·rw[nu dy dF]at nb⊢
    intro k c hk hs
    by_cases e:k=b
    ·subst e;exact qF hk
    ·rw[eh _ _ e]at hs;exact nb k c hk hs
   ·rw[←LI qF];exact k'
  | fresh mk xs e aV cG h' k'=>
   have n1:=jx hX cG
   refine .fresh mk xs e aV n1 (h'.move (kN hw.ys cj)) fun g hg hr=> .fX v hm (kP nb) (h.move (pB hw.xs kO) (Heap.a0 _ hg)) ?_
   rw[←mj _ _ hw.ne];exact k' g hg hr
  | jw _ bB _ _ _ _ _=>rw[dF]at bB;cases bB
  | kM _ _ _ bB _ _ _ _=>rw[dF]at bB;cases bB
  | jP _ bB _ _ _ _ _=>rw[dF]at bB;cases bB
  | fo aX ha cG h' aV k'=>
   have kn:=rW dy ha
   have n1:=jx hX cG
   have GA:∀u H',aX u H'→Heap.le H H':=by
    cases md with
    | plain=>exact absurd rfl dy
    | bR=>exact aV.2
    | qD st=>exact aV.2
    | fR=>
     rcases aV with e | e
     ·have:=nt.1 e
      rcases hw.kind with ⟨_,h1 | h1 | h1 | h1⟩ | h1
      ·omega
      ·omega
      ·omega
      ·exact absurd h1.2.1 (by decide)
      ·omega
     ·exact e
    | dR k=>cases dF
    | py=>
     rcases hw.kind with ⟨_,h1 | h1 | h1 | h1⟩ | h1
     ·omega
     ·exact absurd h1.2 (by decide)
     ·omega
     ·exact absurd h1.2.1 (by decide)
     ·omega
   refine .fo aX ha n1 (h'.move (kN hw.ys cj)) aV fun u H' hp hr=> .fX v hm (kP nb) (h.move (pB hw.xs kO) (GA u H' hp)) ?_
   rw[←mj _ _ hw.ne];exact k' u H' hp hr
 | fT X hm nb hx h k=>
  have hX:=(tS.1 hx).1
  have kx:=wq hm
  cases k with
  | fX v' aV cG h' k'=>
   have n1:=jx hX cG
   refine .fX v' aV n1 (h'.move (kN hw.ys cj) (.refl _)) (.fT X hm (kP nb) (CL n1 hx) (CN n1 (fun c e=>by cases e) (.refl _) h) ?_)
   rw[←mj _ _ hw.ne];exact k'
  | fT X' aV cG oo h' k'=>
   have n1:=jx hX cG
   refine .fT X' aV n1 (LJ hX oo) (fun s' e=>(h' _ (e.aR _ _)).move (CH hX hw.ys cj) (.refl _)) (.fT X hm (kP nb) (CL n1 hx) (CN n1 (tS.1 oo).1 (.refl _) h) ?_)
   rw[←mj _ _ hw.ne];exact k'
  | fY d hd aV cG cs h' k'=>
   have n1:=jx hX cG
   have ot:∀cs,s d≠some (.box cs):=fun cs=>LK n1 hd
   refine .fY d hd aV n1 cs (h'.move (kN hw.ys cj)) (.fT X hm ?_ ?_ (fun s' e=>by
    obtain⟨qE,CK,e1,rfl,e2⟩:=e.unbox
    exact(h _ e1).move (SD hw.xs (ml d hd) (hw.yx d hd) (fun cs=>by rw[e2];exact ot cs)) (.refl _)) ?_)
   ·rw[nu dy dF]at nb⊢
    intro k bN hk hs
    rcases nm hs with ⟨e,_⟩ | ⟨_,hs⟩
    ·exact hw.ne k hk (by rw[hd,e])
    ·exact nb k bN hk hs
   ·rw[tS]at hx⊢
    refine⟨hx.1,fun b o e=> ?_⟩
    obtain⟨c,hc⟩:=hx.2 b o e
    exact⟨c,yY (fun e=>by subst e;exact ot c hc) hc (fun b o e=>by cases e)⟩
   ·rw[←yZ (fun e=>hw.ne d e hd) (fun b o e hb=>by subst hb;obtain⟨c,hc⟩:=(tS.1 hx).2 b o e;exact ot c hc)];exact k'
  | jv b cs bN hd aV hb gQ h' k'=>
   have:=nt.1 aV
   have hT:md.Gw=true:=by
    rcases hw.kind with ⟨_,h1 | h1 | h1 | h1⟩ | h1
    ·omega
    ·omega
    ·omega
    ·rcases h1.2.2 with h2 | h2
     ·exact h2
     ·rw[hm]at h2;cases h2
    ·omega
   have SK:md.wr b=true:=by
    cases md <;> first | exact gQ | cases hT
   obtain⟨qF,gS⟩:=Gz hX hb
   refine .jv b cs bN hd aV gS gQ (h'.move (CH hX hw.ys cj)) (.fT X hm ?_ ?_ (fun s' e=>h s' (e.store gS SK)) ?_)
   ·rw[nu dy dF]at nb⊢
    intro k c hk hs
    by_cases e:k=b
    ·subst e;exact qF hk
    ·rw[eh _ _ e]at hs;exact nb k c hk hs
   ·rw[tS]at hx⊢
    refine⟨hx.1,fun b' o e=> ?_⟩
    obtain⟨c,hc⟩:=hx.2 b' o e
    by_cases e2:b'=b
    ·subst e2;exact⟨bN,fm _ _ _⟩
    ·exact⟨c,by rw[eh _ _ e2];exact hc⟩
   ·rw[←LI qF];exact k'
  | fresh mk xs e aV cG h' k'=>
   have n1:=jx hX cG
   refine .fresh mk xs e aV n1 (h'.move (kN hw.ys cj)) fun g hg hr=> .fT X hm (kP nb) (CL n1 hx) (CN n1 (fun c e=>by cases e) (Heap.a0 _ hg) h) ?_
   rw[←mj _ _ hw.ne];exact k' g hg hr
  | jw _ bB _ _ _ _ _=>rw[dF]at bB;cases bB
  | kM _ _ _ bB _ _ _ _=>rw[dF]at bB;cases bB
  | jP _ bB _ _ _ _ _=>rw[dF]at bB;cases bB
  | fo aX ha cG h' aV k'=>
   have kn:=rW dy ha
   have n1:=jx hX cG
   have GA:∀u H',aX u H'→Heap.le H H':=by
    cases md with
    | plain=>exact absurd rfl dy
    | bR=>exact aV.2
    | qD st=>exact aV.2
    | fR=>
     rcases aV with e | e
     ·have:=nt.1 e
      rcases hw.kind with ⟨_,h1 | h1 | h1 | h1⟩ | h1
      ·omega
      ·omega
      ·omega
      ·exact absurd h1.2.1 (by decide)
      ·omega
     ·exact e
    | dR k=>cases dF
    | py=>
     rcases hw.kind with ⟨_,h1 | h1 | h1 | h1⟩ | h1
     ·omega
     ·exact absurd h1.2 (by decide)
     ·omega
     ·exact absurd h1.2.1 (by decide)
     ·omega
   refine .fo aX ha n1 (h'.move (kN hw.ys cj)) aV fun u H' hp hr=> .fT X hm (kP nb) (CL n1 hx) (CN n1 (fun c e=>by cases e) (GA u H' hp) h) ?_
   rw[←mj _ _ hw.ne];exact k' u H' hp hr
 | fY dx y5 lH ou cx hx k=>
  have kx:=rV.1 (show ni x.op=true by simp[ni,lH])
  have lI:kd y.op=3∧y.guard=none:=by
   rcases hw.kind with ⟨h1,_⟩ | h1
   ·omega
   ·exact⟨h1.2.1,h1.2.2.1⟩
  have n1:md.nb (eO s dx cx) y.dst=true→md.nb s y.dst=true:=fun hn=>by
   rw[nu dy dF]at hn⊢
   intro k cs hk hs
   exact hn k cs hk (yY (fun e=>y4 k hk (by rw[y5,e])) hs (fun b o e=>by cases e))
  cases k with
  | fX v' aV cG h' k'=>
   rcases aV with e | e
   ·rw[rV.2 lI.1]at e;cases e
   ·exact absurd lI.2 e
  | fT X' aV cG oo h' k'=>have:=wq aV;omega
  | fY d hd aV cG cs h' k'=>
   refine .fY d hd aV (n1 cG) cs (h'.move LH) (.fY dx y5 lH ?_ cx (hx.move (CI hw.xs (ml d hd) (hw.yx d hd))) ?_)
   ·rw[nu dy dF]at ou⊢
    intro k bN hk hs
    rcases nm hs with ⟨e,_⟩ | ⟨_,hs⟩
    ·exact hw.ne k hk (by rw[hd,e])
    ·exact ou k bN hk hs
   ·rw[←SG (fun e=>hw.ne dx y5 (by rw[hd,e]))];exact k'
  | jv b cs bN hd aV hb gQ h' k'=>have:=nt.1 aV;omega
  | fresh mk xs e aV cG h' k'=>
   refine .fresh mk xs e aV (n1 cG) (h'.move LH) fun g hg hr=> .fY dx y5 lH (kP ou) cx (hx.move (pB hw.xs kO)) ?_
   rw[yZ (fun e=>y4 dx e y5) (fun b o e=>by cases e)];exact k' g hg hr
  | jw _ bB _ _ _ _ _=>rw[dF]at bB;cases bB
  | kM _ _ _ bB _ _ _ _=>rw[dF]at bB;cases bB
  | jP _ bB _ _ _ _ _=>rw[dF]at bB;cases bB
  | fo aX ha cG h' aV k'=>have kn:=rW dy ha;omega
 | jv b cs bN hd hm hb gQ h k=>
  have:=nt.1 hm
  rcases hw.kind with ⟨h1,_⟩ | h1 <;> omega
 | fresh CO nv ex lH ou hx k=>
  have kx:kd x.op=3:=rV.1 (by rcases lH with e | ⟨e,_⟩ <;> simp[ni,e]at *)
  have lI:kd y.op=3∧y.guard=none:=by
   rcases hw.kind with ⟨h1,_⟩ | h1
   ·omega
   ·exact⟨h1.2.1,h1.2.2.1⟩
  obtain⟨w,hd⟩:=hH
  have ej:Den (ins H w.heap.size (whole nv ex)) (w.alloc (.cells nv.toArray ex (0,0))):=Den.SI hd nv ex
  rcases LG lI.1 with ⟨tT,tU⟩ | ⟨tT,tU⟩
  ·
   have only:∀g,H g=none→Real (ins H g (whole nv ex))→∃d cs,y.dst=some d∧md.nb s y.dst=true∧qC P n all y s cs∧K (eO (aR s x.dst (.val (CO g))) d cs) (ins H g (whole nv ex)):=by
    intro g hg hr
    cases k g hg hr with
    | fX v' aV cG h' k'=>
     rcases aV with e | e
     ·rw[rV.2 lI.1]at e;cases e
     ·exact absurd lI.2 e
    | fT X' aV cG oo h' k'=>have:=wq aV;omega
    | jv b cs bN hd aV hb gQ h' k'=>have:=nt.1 aV;omega
    | jw _ bB _ _ _ _ _=>rw[dF]at bB;cases bB
    | kM _ _ _ bB _ _ _ _=>rw[dF]at bB;cases bB
    | jP _ bB _ _ _ _ _=>rw[dF]at bB;cases bB
    | fo aX ha cG h' aV k'=>have kn:=rW dy ha;omega
    | fresh mk xs e aV cG h' k'=>
     rcases aV with e | e
     ·rw[tU]at e;cases e
     ·exact absurd e.1 dy
    | fY d hd aV cG cs h' k'=>exact⟨d,cs,hd,jx (fun cs e=>by cases e) cG,h'.move (kN hw.ys cj),k'⟩
   obtain⟨d,cs,mm,tV,hy,_⟩:=only _ hd.fresh ⟨_,ej⟩
   refine .fY d mm tT tV cs hy (.fresh CO nv ex lH ?_ (hx.move (CI hw.xs (ml d mm) (hw.yx d mm))) fun g hg hr=> ?_)
   ·rw[nu dy dF]at ou⊢
    intro k bN hk hs
    rcases nm hs with ⟨e,_⟩ | ⟨_,hs⟩
    ·exact hw.ne k hk (by rw[mm,e])
    ·exact ou k bN hk hs
   ·obtain⟨d',bN,y6,_,pC,hk⟩:=only g hg hr
    obtain rfl:d'=d:=by rw[mm]at y6;cases y6;rfl
    obtain rfl:=hy.uniq hS pC
    rw[←yZ (fun e=>hw.ne _ e mm) (fun b o e=>by cases e)];exact hk
  ·have only:∀g,H g=none→Real (ins H g (whole nv ex))→∃mk xs e,md.nb s y.dst=true∧px P n all y s mk xs e∧∀g',ins H g (whole nv ex) g'=none→Real (ins (ins H g (whole nv ex)) g' (whole xs e))→K (aR (aR s x.dst (.val (CO g))) y.dst (.val (mk g'))) (ins (ins H g (whole nv ex)) g' (whole xs e)):=by
    intro g hg hr
    cases k g hg hr with
    | fX v' aV cG h' k'=>
     rcases aV with e | e
     ·rw[rV.2 lI.1]at e;cases e
     ·exact absurd lI.2 e
    | fT X' aV cG oo h' k'=>have:=wq aV;omega
    | jv b cs bN hd aV hb gQ h' k'=>have:=nt.1 aV;omega
    | jw _ bB _ _ _ _ _=>rw[dF]at bB;cases bB
    | kM _ _ _ bB _ _ _ _=>rw[dF]at bB;cases bB
    | jP _ bB _ _ _ _ _=>rw[dF]at bB;cases bB
    | fo aX ha cG h' aV k'=>have kn:=rW dy ha;omega
    | fY d hd aV cG cs h' k'=>rw[tT]at aV;cases aV
    | fresh mk xs e aV cG h' k'=>exact⟨mk,xs,e,jx (fun cs e=>by cases e) cG,h'.move (kN hw.ys cj),k'⟩
   obtain⟨mk,xs,e,tV,hy,_⟩:=only _ hd.fresh ⟨_,ej⟩
   refine .fresh mk xs e (.inl tU) tV hy fun g' kQ cM=> .fresh CO nv ex lH (kP ou) (hx.move (pB hw.xs kO)) fun g hg hr=> ?_
   have a6:g≠g':=fun e'=>by subst e';rw[bx]at hg;cases hg
   have mo:H g=none:=by rw[bA _ _ a6]at hg;exact hg
   have ow:Real (ins H g (whole nv ex)):=by
    obtain⟨w1,eB⟩:=hr
    rw[wu _ _ _ a6.symm]at eB
    exact⟨w1,eB.le (Heap.a0 _ (by rw[bA _ _ a6.symm];exact kQ))⟩
   obtain⟨mk',mh,e',_,pC,hk⟩:=only g mo ow
   obtain⟨rfl,rfl,rfl⟩:=hy.uniq hS pC
   have:=hk g' (by rw[bA _ _ a6.symm];exact kQ) (by rw[wu _ _ _ a6];exact hr)
   rw[←mj _ _ hw.ne,wu _ _ _ a6.symm];exact this
 | jw _ bB _ _ _ _ _=>rw[dF]at bB;cases bB
 | kM _ _ _ bB _ _ _ _=>rw[dF]at bB;cases bB
 | jP _ bB _ _ _ _ _=>rw[dF]at bB;cases bB
 | fo GB GC ou hx lH k=>
  have kn:=rW dy GC
  obtain⟨v0,LL,y7,qG⟩:=hx.some hS hH
  rcases hw.kind with ⟨kx0,fE⟩ | ⟨_,SL,SM,_⟩
  ·omega
  ·have lI:kd y.op=3∧y.guard=none:=⟨SL,SM⟩
   rcases LG lI.1 with ⟨tT,tU⟩ | ⟨tT,tU⟩
   ·have only:∀v H',GB v H'→Real H'→∃d cs,y.dst=some d∧md.nb s y.dst=true∧qC P n all y s cs∧K (eO (aR s x.dst (.val v)) d cs) H':=by
     intro v H' hp hr
     cases k v H' hp hr with
     | fX v' aV cG h' k'=>
      rcases aV with e | e
      ·rw[rV.2 lI.1]at e;cases e
      ·exact absurd lI.2 e
     | fT X' aV cG oo h' k'=>have:=wq aV;omega
     | jv b cs bN hd aV hb gQ h' k'=>have:=nt.1 aV;omega
     | jw _ bB _ _ _ _ _=>rw[dF]at bB;cases bB
     | kM _ _ _ bB _ _ _ _=>rw[dF]at bB;cases bB
     | jP _ bB _ _ _ _ _=>rw[dF]at bB;cases bB
     | fo aX ha cG h' aV k'=>have kn:=rW dy ha;omega
     | fresh mk xs e aV cG h' k'=>
      rcases aV with e | e
      ·rw[tU]at e;cases e
      ·exact absurd e.1 dy
     | fY d hd aV cG cs h' k'=>exact⟨d,cs,hd,jx (fun cs e=>by cases e) cG,h'.move (kN hw.ys cj),k'⟩
    obtain⟨d,cs,mm,tV,hy,_⟩:=only v0 LL y7 qG
    refine .fY d mm tT tV cs hy (.fo GB GC ?_ (hx.move (CI hw.xs (ml d mm) (hw.yx d mm))) lH fun v H' hp hr=> ?_)
    ·rw[nu dy dF]at ou⊢
     intro k bN hk hs
     rcases nm hs with ⟨e,_⟩ | ⟨_,hs⟩
     ·exact hw.ne k hk (by rw[mm,e])
     ·exact ou k bN hk hs
    ·obtain⟨d',bN,y6,_,pC,hk⟩:=only v H' hp hr
     obtain rfl:d'=d:=by rw[mm]at y6;cases y6;rfl
     obtain rfl:=hy.uniq hS pC
     rw[←yZ (fun e=>hw.ne _ e mm) (fun b o e=>by cases e)];exact hk
   ·have only:∀v H',GB v H'→Real H'→∃mk xs e,md.nb s y.dst=true∧px P n all y s mk xs e∧∀g',H' g'=none→Real (ins H' g' (whole xs e))→K (aR (aR s x.dst (.val v)) y.dst (.val (mk g'))) (ins H' g' (whole xs e)):=by
     intro v H' hp hr
     cases k v H' hp hr with
     | fX v' aV cG h' k'=>
      rcases aV with e | e
      ·rw[rV.2 lI.1]at e;cases e
      ·exact absurd lI.2 e
     | fT X' aV cG oo h' k'=>have:=wq aV;omega
     | jv b cs bN hd aV hb gQ h' k'=>have:=nt.1 aV;omega
     | jw _ bB _ _ _ _ _=>rw[dF]at bB;cases bB
     | kM _ _ _ bB _ _ _ _=>rw[dF]at bB;cases bB
     | jP _ bB _ _ _ _ _=>rw[dF]at bB;cases bB
     | fo aX ha cG h' aV k'=>have kn:=rW dy ha;omega
     | fY d hd aV cG cs h' k'=>rw[tT]at aV;cases aV
     | fresh mk xs e aV cG h' k'=>exact⟨mk,xs,e,jx (fun cs e=>by cases e) cG,h'.move (kN hw.ys cj),k'⟩
    obtain⟨mk,xs,e,tV,hy,_⟩:=only v0 LL y7 qG
    refine .fresh mk xs e (.inl tU) tV hy fun g hg hr=> .fo _ GC (kP ou) ((hx.move (pB hw.xs kO)).frame hg) ?_ fun v rT tW LM=> ?_
    ·cases md with
     | plain=>exact absurd rfl dy
     | qD st=>
      refine⟨lH.1,fun v rT tW=> ?_⟩
      obtain⟨H',hp,kQ,rfl⟩:=tW
      exact Heap.le.rX (lH.2 v H' hp) kQ
     | bR=>
      refine⟨lH.1,fun v rT tW=> ?_⟩
      obtain⟨H',hp,kQ,rfl⟩:=tW
      exact Heap.le.rX (lH.2 v H' hp) kQ
     | fR=>
      rcases lH with e' | e'
      ·exact .inl e'
      ·refine .inr fun v rT tW=> ?_
       obtain⟨H',hp,kQ,rfl⟩:=tW
       exact Heap.le.rX (e' v H' hp) kQ
     | py=>trivial
     | dR k=>trivial
    ·obtain⟨H',hp,kQ,rfl⟩:=tW
     have ow:Real H':=by
      obtain⟨w1,eB⟩:=LM
      exact⟨w1,eB.le (Heap.a0 _ kQ)⟩
     obtain⟨mk',mh,e',_,pC,hk⟩:=only v H' hp ow
     obtain⟨rfl,rfl,rfl⟩:=hy.uniq hS pC
     rw[←mj _ _ hw.ne];exact hk g kQ LM
theorem LN(d:Option Nat):ju s d=true↔∀k cs,d=some k→s k≠some (.box cs):=by
 cases d with
 | none=>simp[ju]
 | some d=>
  have e:ju s (some d)=(match s d with | some (.box _)=>false | _=>true):=rfl
  rw[e]
  cases hs:s d with
  | none=>exact⟨(fun _ k cs hk h=>by cases hk;rw[hs]at h;cases h),fun _=>rfl⟩
  | some z=>
   cases z with
   | val v=>exact⟨(fun _ k cs hk h=>by cases hk;rw[hs]at h;cases h),fun _=>rfl⟩
   | box c=>exact⟨(fun h=>by cases h),fun h=>absurd hs (h d c rfl)⟩
   | ref b o=>exact⟨(fun _ k cs hk h=>by cases hk;rw[hs]at h;cases h),fun _=>rfl⟩
theorem pD(hK:md.kL=true){d:Option Nat}(h:md.nb s d=true):False:=by
 cases md <;> simp[Mode.kL,Mode.nb]at hK h
theorem eP.SN(hK:md.kL=true)(hw:wv md all x y)(wy:∀d,x.dst=some d→d<n)(ml:∀d,y.dst=some d→d<n)
  (h:eP P n all md x s H (fun s1 H1=>eP P n all md y s1 H1 K)):eP P n all md y s H (fun s2 H2=>eP P n all md x s2 H2 K):=by
 have cj:∀d,x.dst=some d→d<n∧d∉y.looksAt all:=fun d hd=>⟨wy d hd,hw.xy d hd⟩
 have kO:∀d,y.dst=some d→d<n∧d∉x.looksAt all:=fun d hd=>⟨ml d hd,hw.yx d hd⟩
 have y4:∀d,y.dst=some d→x.dst≠some d:=fun d hd e=>hw.ne d e hd
 have kx:kd x.op=0:=by
  rcases hw.kind with h1 | h1
  ·exact h1.1
  ·rw[hK]at h1;exact absurd h1.2.2.2 (by decide)
 have ky:kd y.op≠2:=fun e=>by
  rcases hw.kind with ⟨_,h1 | h1 | h1 | h1⟩ | h1
  ·omega
  ·omega
  ·omega
  ·have:=h1.2.1
   cases md <;> simp[Mode.kL,Mode.Gv]at hK this
  ·omega
 have jx:∀{v:Value},ju (aR s x.dst (.val v)) y.dst=true→ju s y.dst=true:=fun{v} hn=>by
  rw[LN]at hn⊢
  intro k cs hk hs
  exact hn k cs hk (by rw[y3 (y4 k hk)];exact hs)
 have kP:∀{v:Value},ju s x.dst=true→ju (aR s y.dst (.val v)) x.dst=true:=fun{v} hn=>by
  rw[LN]at hn⊢
  intro k cs hk hs
  exact hn k cs hk (by rw[y3 (hw.ne k hk)]at hs;exact hs)
 cases h with
 | fX v hm nb h k=>exact(pD hK nb).elim
 | fT X hm nb hx h k=>exact(pD hK nb).elim
 | fY d hd hm nb cs h k=>exact(pD hK nb).elim
 | jv b cs bN hd hm hb gQ h k=>have:=nt.1 hm;omega
 | fresh mk xs e hm nb h k=>exact(pD hK nb).elim
 | fo aX ha nb h hm k=>exact(pD hK nb).elim
 | kM mk xs e hk hm nb h k=>have:=rV.1 (show ni x.op=true by simp[ni,hm]);omega
 | jP aX hk ha nb h hm k=>omega
 | jw v hk hm nb hc h k=>
  cases k with
  | fX v hm nb h k=>exact(pD hK nb).elim
  | fT X hm nb hx h k=>exact(pD hK nb).elim
  | fY d hd hm nb cs h k=>exact(pD hK nb).elim
  | jv b cs bN hd hm hb gQ h k=>exact absurd (nt.1 hm) ky
  | fresh mk xs e hm nb h k=>exact(pD hK nb).elim
  | fo aX ha nb h hm k=>exact(pD hK nb).elim
  | jw v' ic aV cG gF h' k'=>
   refine .jw v' ic aV (jx cG) hc (h'.move (kN hw.ys cj)) (.jw v hk hm (kP nb) hc (h.move (pB hw.xs kO)) ?_)
   rw[←mj _ _ hw.ne];exact k'
  | kM mk xs e ic aV cG h' k'=>
   refine .kM mk xs e ic aV (jx cG) (h'.move (kN hw.ys cj)) fun g hg hr=> .jw v hk hm (kP nb) (fun ad u hu=>cy (Heap.a0 _ hg) (hc ad u hu)) (h.move (pB hw.xs kO)) ?_
   rw[←mj _ _ hw.ne];exact k' g hg hr
  | jP aX ic y8 cG h' aV k'=>
   have SO:∀u H',aX u H'→md.og H':=by
    rcases aV with e | e
    ·exact absurd (nt.1 e) ky
    ·exact e
   refine .jP aX ic y8 (jx cG) (h'.move (kN hw.ys cj)) aV fun u H' hp hr=> .jw v hk hm (kP nb) (SO u H' hp) (h.move (pB hw.xs kO)) ?_
   rw[←mj _ _ hw.ne];exact k' u H' hp hr
theorem eP.swap(dy:md≠.plain)(hw:wv md all x y)(wy:∀d,x.dst=some d→d<n)(ml:∀d,y.dst=some d→d<n)
  (hS:∃a,eG n s a) (hH:Real H) (h:eP P n all md x s H (fun s1 H1=>eP P n all md y s1 H1 K)):eP P n all md y s H (fun s2 H2=>eP P n all md x s2 H2 K):=by
 cases hK:md.kL with
 | false=>exact eP.SJ dy hK hw wy ml hS hH h
 | true=>exact eP.SN hK hw wy ml h
end
end Go.ar
namespace Go.ar
section
variable (P:Program) (n:Nat) (all:Array Oper) (md:Mode)
def aE:List Oper→St→Heap→(St→Heap→Prop)→Prop
 | [],s,H,K=>K s H
 | o::r,s,H,K=>eP P n all md o s H (fun s' H'=>aE r s' H' K)
end
section
variable {P:Program} {n:Nat} {all:Array Oper} {md:Mode} {s:St} {H:Heap} {K K':St→Heap→Prop}
theorem eP.SP{o:Oper}(nn:∀d,o.dst=some d→d<n)(hS:∃a,eG n s a)(hH:Real H)(h:eP P n all md o s H K)
  (hk:∀s H,(∃a,eG n s a)→Real H→K s H→K' s H):eP P n all md o s H K':=by
 obtain⟨a,ha⟩:=hS
 have tX:∀X:Slot,(∃a,eG n (aR s o.dst X) a):=fun X=>by
  obtain⟨d⟩ | hd:o.dst=none∨∃d,o.dst=some d:=by cases o.dst <;> simp
  ·rw[‹o.dst=none›];exact⟨a,ha⟩
  ·obtain⟨d,hd⟩:=hd
   rw[hd]
   have key:∀u,(∀v,X = .val v→u=v)→∃a,eG n (aR s (some d) X) a:=fun u hu=>by
    refine⟨a.put (some d) u,by rw[Act.wk];exact ha.size,fun t v ht=> ?_⟩
    by_cases e:t=d
    ·subst e
     rw[show aR s (some t) X=put s t X from rfl,fm]at ht
     simp only[Option.some.injEq]at ht
     rw[Act.rU _ _ _ (by rw[ha.size];exact nn t hd),hu v ht]
    ·rw[show aR s (some d) X=put s d X from rfl,eh _ _ e]at ht
     rw[Act.nh _ _ e];exact ha.at_ t v ht
   cases X with
   | val v=>exact key v (fun v' h=>by cases h;rfl)
   | box cs=>exact key undef (fun v' h=>by cases h)
   | ref b off=>exact key undef (fun v' h=>by cases h)
 cases h with
 | fX v hm nb h k=>exact .fX v hm nb h (hk _ _ (tX _) hH k)
 | fT x hm nb hx h k=>exact .fT x hm nb hx h (hk _ _ (tX _) hH k)
 | fY d hd hm nb cs h k=>exact .fY d hd hm nb cs h (hk _ _ ⟨a,ha.size,fun t v ht=>ha.at_ t v (Gx ht).2⟩ hH k)
 | jv b cs bN hd hm hb gQ h k=>
  refine .jv b cs bN hd hm hb gQ h (hk _ _ ⟨a,ha.size,fun t v ht=> ?_⟩ hH k)
  by_cases e:t=b
  ·subst e;rw[fm]at ht;cases ht
  ·rw[eh _ _ e]at ht;exact ha.at_ t v ht
 | fresh mk xs e hm nb h k=>exact .fresh mk xs e hm nb h fun g hg hr=>hk _ _ (tX _) hr (k g hg hr)
 | fo aX y8 nb h hm k=>exact .fo aX y8 nb h hm fun v H' hp hr=>hk _ _ (tX _) hr (k v H' hp hr)
 | jw v bB hm nb hc h k=>exact .jw v bB hm nb hc h (hk _ _ (tX _) hH k)
 | kM mk xs e bB hm nb h k=>exact .kM mk xs e bB hm nb h fun g hg hr=>hk _ _ (tX _) hr (k g hg hr)
 | jP aX bB y8 nb h hm k=>exact .jP aX bB y8 nb h hm fun v H' hp hr=>hk _ _ (tX _) hr (k v H' hp hr)
theorem aE.front(dy:md≠.plain){y:Oper}{Y:List Oper}(ml:∀d,y.dst=some d→d<n):∀(X:List Oper)(s:St)(H:Heap),(∀x,x∈X→wv md all x y)→(∀x,x∈X→∀d,x.dst=some d→d<n)→
  (∃a,eG n s a)→Real H→aE P n all md (X++y::Y) s H K→aE P n all md (y::(X++Y)) s H K:=by
 intro X
 induction X with
 | nil=>intro s H _ _ _ _ h;exact h
 | cons x X ih=>
  intro s H hw hn hS hH h
  have h1:eP P n all md x s H (fun s1 H1=>eP P n all md y s1 H1 (fun s2 H2=>aE P n all md (X++Y) s2 H2 K)):=
   eP.SP (hn x (List.mem_cons_self ..)) hS hH h fun s1 H1 SQ y9 h1=>
    ih s1 H1 (fun z hz=>hw z (List.mem_cons_of_mem _ hz)) (fun z hz=>hn z (List.mem_cons_of_mem _ hz)) SQ y9 h1
  exact eP.swap dy (hw x (List.mem_cons_self ..)) (hn x (List.mem_cons_self ..)) ml hS hH h1
end
theorem Oper.LO{P:Program}{o:Oper}{a:Act}{w:World}{K:Act→World→Prop}{Q:Exit→Act→World→Prop}(h:o.wp P a w K (fun _ _ _=>False)):o.wp P a w K Q:=by
 unfold Oper.wp at h⊢
 generalize (execOp a.eval o).run P w=r at h⊢
 cases r with
 | ok m w'=>
  cases m <;> simp only[Oper.upon]at h⊢<;> first
   | exact h
   | exact h.mono fun e yU he=>by
      cases e with
      | returned v=>exact he
      | panicked c=>exact he.elim
      | outgrown=>obtain⟨_,_,hh⟩:=he;exact hh.elim
 | halt x w'=>cases x <;> simp only[Oper.upon]at h⊢
section
variable {P:Program} {n:Nat} {w0:World} {H0:Heap} {Q:Exit→Act→World→Prop} {K:St→Heap→Prop}
theorem GD{a b:Nat}(h:Nat.blt a b=true):a<b:=Nat.le_of_ble_eq_true h
def CP(n:Nat)(l:List Oper):Bool:=l.all fun o=>match o.dst with | some d=>Nat.blt d n | none=>true
theorem LQ{l:List Oper}(h:CP n l=true):∀o,o∈l→∀d,o.dst=some d→d<n:=fun o ho d hd=>by
 have:=List.all_eq_true.1 h o ho
 rw[hd]at this
 exact GD this
theorem aE.wpList{all:Array Oper}(hQ:∀s H a w,Rel w0 H0 n s H a w→K s H→Q .normal a w):∀(l:List Oper)(s:St)(H:Heap)(a:Act)(w:World),(∀o,o∈l→∀d,o.dst=some d→d<n)→
  Rel w0 H0 n s H a w→aE P n all .plain l s H K→wpList P all Q l a w:=by
 intro l
 induction l with
 | nil=>intro s H a w _ hR h;exact hQ s H a w hR h
 | cons o l ih=>
  intro s H a w hn hR h
  have hs:=eP.sound hR (hn o (List.mem_cons_self ..)) h
  unfold Go.wpList
  rcases hs with ⟨h1,h2⟩ | ⟨h1,s',H',cN,h2⟩
  ·rw[if_pos h1]
   refine .inl (Oper.LO (Oper.wp_mono (fun a' w' hh=> ?_) h2))
   obtain⟨s',H',cN,hk⟩:=hh
   exact ih s' H' a' w' (fun z hz=>hn z (List.mem_cons_of_mem _ hz)) cN hk
  ·rw[if_neg (by rw[h1];simp)]
   exact ih s' H' _ w (fun z hz=>hn z (List.mem_cons_of_mem _ hz)) cN h2
end
def eU(l:List Oper)(i:Nat):Oper:=l[i]?.getD default
def tY(l:List Oper):Nat→Nat→Nat→Bool
 | 0,_,_=>false
 | f+1,i,j=>(eU l j).after.any fun e=>Region.binds .any e&&(Nat.beq e.on i||tY l f i e.on)
def CQ(md:Mode)(l:List Oper):List Nat→Bool
 | []=>true
 | i::r=>r.all (fun j=>tY l l.length i j||Sw md l.toArray (eU l i) (eU l j))&&CQ md l r
def CR:List Nat→Bool
 | []=>true
 | i::r=> !r.contains i&&CR r
def CS(n:Nat)(md:Mode)(l:List Oper)(perm:List Nat):Bool:=
 !md.Sq&&CP n l&&Nat.beq perm.length l.length&&perm.all (fun i=>Nat.blt i l.length)&&CR perm&&CQ md l perm&&(List.range l.length).all (fun i=>perm.contains i) &&
 (List.range l.length).all fun i=>(eU l i).after.all fun e=> !Region.binds .any e||Nat.blt e.on i
section
variable {P:Program} {n:Nat} {w0:World} {H0:Heap} {Q:Exit→Act→World→Prop} {K:St→Heap→Prop} {md:Mode} {l:List Oper}
theorem CT{i:Nat}(h:i<l.length):l[i]? = some (eU l i):=by
 unfold eU;rw[List.getElem?_eq_getElem h];rfl
theorem SR{iC:Array Bool}(CU:∀i,iC.getD i false=true→∀e,e∈(eU l i).after→Region.binds .any e=true→iC.getD e.on false=true):
  ∀f i j,(∀e,e∈(eU l j).after→Region.binds .any e=true→iC.getD e.on false=true)→tY l f i j=true→iC.getD i false=true:=by
 intro f
 induction f with
 | zero=>intro i j _ h;cases h
 | succ f ih=>
  intro i j hj h
  simp only[tY,Array.any_eq_true']at h
  obtain⟨e,he,h⟩:=h
  simp only[Bool.and_eq_true,Bool.or_eq_true]at h
  obtain⟨hb,h⟩:=h
  rcases h with h | h
  ·have:=Nat.eq_of_beq_eq_true h
   rw[←this];exact hj e he hb
  ·exact ih i e.on (CU _ (hj e he hb)) h
theorem SS{r:List Nat}(h:CQ md l r=true):r.Pairwise fun i j=>tY l l.length i j=true∨Sw md l.toArray (eU l i) (eU l j)=true:=by
 induction r with
 | nil=>exact .nil
 | cons i r ih=>
  simp only[CQ,Bool.and_eq_true,List.all_eq_true,Bool.or_eq_true]at h
  exact .cons (fun j hj=>h.1 j hj) (ih h.2)
theorem SU{r:List Nat}(h:CR r=true):r.Nodup:=by
 induction r with
 | nil=>exact .nil
 | cons i r ih=>
  simp only[CR,Bool.and_eq_true,Bool.not_eq_true',List.contains_eq_mem,decide_eq_false_iff_not]at h
  exact List.nodup_cons.2 ⟨h.1,ih h.2⟩
theorem LR{A:Array Bool}{i j:Nat}{b:Bool}(hi:i<A.size):(A.setIfInBounds i true).getD j b=if j=i then true else A.getD j b:=by
 simp only[Array.getD_eq_getD_getElem?,Array.getElem?_setIfInBounds]
 by_cases e:i=j
 ·subst e;simp[hi]
 ·rw[if_neg e,if_neg (Ne.symm e)]
theorem SV(dy:md≠.plain)(hn:∀o,o∈l→∀d,o.dst=some d→d<n)(LS:∀i,i<l.length→∀e,e∈(eU l i).after→Region.binds .any e=true→e.on<i)
  (hQ:∀s H a w,Rel w0 H0 n s H a w→K s H→Q .normal a w):
  ∀(fuel:Nat)(r:List Nat)(iC:Array Bool)(s:St)(H:Heap)(a:Act)(w:World),(∀i,i∈r↔i<l.length∧iC.getD i true=false)→r.Nodup→iC.size=l.length→
  (r.Pairwise fun i j=>tY l l.length i j=true∨Sw md l.toArray (eU l i) (eU l j)=true)→
  (∀i,iC.getD i false=true→∀e,e∈(eU l i).after→Region.binds .any e=true→iC.getD e.on false=true)→
  r.length≤fuel→Rel w0 H0 n s H a w→aE P n l.toArray md (r.map (eU l)) s H K→wpAny P .any l.toArray Q fuel iC a w:=by
 intro fuel
 induction fuel with
 | zero=>
  intro r iC s H a w hr _ bV _ _ hlen hR h
  obtain rfl:r = []:=List.eq_nil_of_length_eq_zero (by omega)
  refine⟨?_,hQ s H a w hR h⟩
  unfold Region.ready
  rw[List.filter_eq_nil_iff]
  intro i hi hp
  simp only[List.mem_range,List.size_toArray]at hi
  simp only[Bool.and_eq_true,Bool.not_eq_true']at hp
  exact absurd ((hr i).2 ⟨hi,hp.1⟩) (by simp)
 | succ fuel ih=>
  intro r iC s H a w hr gT bV rY CU hlen hR h
  have pE:∀i,i∈Region.ready .any l.toArray iC↔i∈r∧∀e,e∈(eU l i).after→Region.binds .any e=true→iC.getD e.on false=true:=by
   intro i
   unfold Region.ready
   rw[List.mem_filter,hr]
   simp only[List.mem_range,List.size_toArray,Bool.and_eq_true,Bool.not_eq_true',List.getElem?_toArray]
   constructor
   ·rintro⟨h1,h2,h3⟩
    rw[CT h1]at h3
    simp only[Option.map_some,Option.getD_some,Array.all_eq_true',Bool.or_eq_true,Bool.not_eq_true']at h3
    refine⟨⟨h1,h2⟩,fun e he hb=> ?_⟩
    rcases h3 e he with h4 | h4
    ·rw[hb]at h4;cases h4
    ·exact h4
   ·rintro⟨⟨h1,h2⟩,h3⟩
    refine⟨h1,h2,?_⟩
    rw[CT h1]
    simp only[Option.map_some,Option.getD_some,Array.all_eq_true',Bool.or_eq_true,Bool.not_eq_true']
    intro e he
    cases hb:Region.binds .any e with
    | false=>exact .inl rfl
    | true=>exact .inr (h3 e he hb)
  have GF:∀j,j<l.length→j∉r→iC.getD j false=true:=by
   intro j hj SW
   have:iC.getD j true≠false:=fun hf=>SW ((hr j).2 ⟨hj,hf⟩)
   simp only[Array.getD_eq_getD_getElem?]at this⊢
   rw[Array.getElem?_eq_getElem (by omega)]at this⊢
   simpa using this
  refine⟨fun he=> ?_,fun i hi=> ?_⟩
  ·
   have qG:r = []:=by
    cases hc:r with
    | nil=>rfl
    | cons z r'=>
     exfalso
     have key:∀m,∀i,i≤m→i∈r→False:=by
      intro m
      induction m with
      | zero=>
       intro i dX rZ
       have ox:i∈Region.ready .any l.toArray iC:=(pE i).2 ⟨rZ,fun e wz hb=>by
        have:=LS i ((hr i).1 rZ).1 e wz hb;omega⟩
       rw[he]at ox;cases ox
      | succ m SX=>
       intro i dX rZ
       have lJ:=((hr i).1 rZ).1
       have ox:i∈Region.ready .any l.toArray iC:=(pE i).2 ⟨rZ,fun e wz hb=>by
        have a7:=LS i lJ e wz hb
        exact GF e.on (by omega) (fun h'=>SX e.on (by omega) h')⟩
       rw[he]at ox;cases ox
     exact key z z (Nat.le_refl _) (by rw[hc];exact List.mem_cons_self ..)
   subst qG
   exact hQ s H a w hR h
  ·obtain⟨rZ,LU⟩:=(pE i).1 hi
   have lJ:=((hr i).1 rZ).1
   obtain⟨X,Y,rfl⟩:=List.append_of_mem rZ
   have gQ:∀x,x∈X→wv md l.toArray (eU l x) (eU l i):=by
    intro x hx
    have hp:tY l l.length x i=true∨Sw md l.toArray (eU l x) (eU l i)=true:=by
     rw[List.pairwise_append]at rY
     exact rY.2.2 x hx i (List.mem_cons_self ..)
    rcases hp with hp | hp
    ·exfalso
     have h1:=SR CU l.length x i LU hp
     have h2:=((hr x).1 (List.mem_append_left _ hx)).2
     simp only[Array.getD_eq_getD_getElem?]at h1 h2
     cases hg:iC[x]? with
     | none=>rw[hg]at h1;simp at h1
     | some b=>rw[hg]at h1 h2;simp at h1 h2;rw[h1]at h2;cases h2
    ·exact Sw.out hp
   have GG:∀j,j<l.length→∀d,(eU l j).dst=some d→d<n:=fun j hj=>hn _ (List.mem_of_getElem? (CT hj))
   obtain⟨G,hl,_⟩:=hR.fits
   have SY:=aE.front (P:=P) dy (y:=eU l i) (Y:=Y.map (eU l)) (K:=K) (GG i lJ) (X.map (eU l)) s H
    (fun x hx=>by obtain⟨j,hj,rfl⟩:=List.mem_map.1 hx;exact gQ j hj)
    (fun x hx=>by obtain⟨j,hj,rfl⟩:=List.mem_map.1 hx;exact GG j ((hr j).1 (List.mem_append_left _ hj)).1) ⟨a,hl.aN⟩ ⟨w,hl.den⟩ (by simpa using h)
   have hs:=eP.sound hR (GG i lJ) SY
   have LV:(X++Y).Nodup∧i∉X++Y:=by
    have:=(List.perm_middle (a:=i) (l₁:=X) (l₂:=Y)).nodup_iff.1 gT
    rw[List.nodup_cons]at this
    exact⟨this.2,this.1⟩
   have next:∀s' H' a' w',Rel w0 H0 n s' H' a' w'→aE P n l.toArray md (X.map (eU l)++Y.map (eU l)) s' H' K→wpAny P .any l.toArray Q fuel (iC.setIfInBounds i true) a' w':=by
    intro s' H' a' w' cN hk
    refine ih (X++Y) _ s' H' a' w' (fun j=> ?_) LV.1 (by simpa using bV) ?_ (fun j hj e wz hb=> ?_) ?_ cN (by simpa using hk)
    ·rw[LR (by omega)]
     by_cases e:j=i
     ·subst e
      simp only[if_true]
      exact⟨fun h'=>absurd h' LV.2,fun h'=>by cases h'.2⟩
     ·rw[if_neg e,←hr]
      simp only[List.mem_append,List.mem_cons]
      constructor
      ·rintro(h' | h')
       ·exact .inl h'
       ·exact .inr (.inr h')
      ·rintro(h' | h' | h')
       ·exact .inl h'
       ·exact absurd h' e
       ·exact .inr h'
    ·exact rY.sublist (List.Sublist.append (List.Sublist.refl _) (List.sublist_cons_self ..))
    ·rw[LR (by omega)]at hj⊢
     by_cases e2:e.on=i
     ·rw[if_pos e2]
     ·rw[if_neg e2]
      by_cases e3:j=i
      ·subst e3;exact LU e wz hb
      ·rw[if_neg e3]at hj;exact CU j hj e wz hb
    ·simp only[List.length_append,List.length_cons]at hlen⊢;omega
   unfold wpOp
   rw[show l.toArray[i]? = some (eU l i)from by rw[List.getElem?_toArray];exact CT lJ]
   simp only
   rcases hs with ⟨h1,h2⟩ | ⟨h1,s',H',cN,h2⟩
   ·rw[if_pos h1]
    refine .inl (Oper.LO (Oper.wp_mono (fun a' w' hh=> ?_) h2))
    obtain⟨s',H',cN,hk⟩:=hh
    exact next s' H' a' w' cN hk
   ·rw[if_neg (by rw[h1];simp)]
    exact next s' H' _ w cN h2
theorem SZ{id:Nat}{perm:List Nat}{s:St}{H:Heap}{a:Act}{w:World}(hf:P.follows .mixedOrders=true)(hc:CS n md l perm=true)
  (hQ:∀s H a w,Rel w0 H0 n s H a w→K s H→Q .normal a w) (hR:Rel w0 H0 n s H a w) (h:aE P n l.toArray md (perm.map (eU l)) s H K):(Code.region id l.toArray true).wp P Q a w:=by
 simp only[CS,Bool.and_eq_true,List.all_eq_true]at hc
 obtain⟨⟨⟨⟨⟨⟨⟨h1,h2⟩,h3⟩,h4⟩,h5⟩,h6⟩,h8⟩,h7⟩:=hc
 have h1:md≠.plain:=fun e=>by rw[e]at h1;cases h1
 have h3:=Nat.eq_of_beq_eq_true h3
 have h4:∀i,i∈perm→i<l.length:=fun i hi=>GD (h4 i hi)
 have h5:=SU h5
 have za:∀i,i<l.length→i∈perm:=by
  intro i hi
  simpa using h8 i (List.mem_range.2 hi)
 refine wp_region_any hf ?_
 refine SV h1 (LQ h2) (fun i hi e he hb=> ?_) hQ l.toArray.size perm _ s H a _ (fun i=> ?_) h5 (by simp) (SS h6) (fun i hi=> ?_) (by simp[h3]) ?_ h
 ·have:=h7 i (List.mem_range.2 hi)
  rw[Array.all_eq_true']at this
  have:=this e he
  simp only[Bool.or_eq_true,Bool.not_eq_true']at this
  rcases this with h' | h'
  ·rw[hb]at h';cases h'
  ·exact GD h'
 ·constructor
  ·intro hi
   refine⟨h4 i hi,?_⟩
   simp[Array.getD_eq_getD_getElem?,h4 i hi]
  ·exact fun hi=>za i hi.1
 ·exfalso
  simp only[Array.getD_eq_getD_getElem?,Array.getElem?_replicate]at hi
  split at hi <;> simp at hi
 ·obtain⟨G,hl,hb⟩:=hR.fits
  exact⟨hR.defers,⟨G,⟨hl.aN,hl.boxes,hl.inj,hl.refs,hl.den⟩,hb⟩,⟨hR.fx.os,hR.fx.tape,hR.fx.output,hR.fx.size,hR.fx.ia,hR.fx.form⟩⟩
end
end Go.ar
