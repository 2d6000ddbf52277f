/- Part 1 of the proof: Eng6, Eng7, Eng8, Eng9, Eng10, Eng11. -/
import Derived.Test.YtgjimcieaecdkaaGreatA00
import Derived.Laws.Small
import Derived.Laws.Pointers
set_option linter.unusedVariables false
namespace Go.au
def Sub(s' s:St):Prop:=∀t x,s' t=some x→s t=some x
theorem iG(s:St):Sub emp s:=fun _ _ h=>by cases h
theorem dB{s' s:St}{d:Nat}{x:Slot}(hx:s d=some x)(h:Sub s' s):Sub (put s' d x) s:=fun t y hy=>by
 by_cases e:t=d
 ·subst e
  rw[fi]at hy
  rw[hx];exact hy
 ·rw[dW _ _ e]at hy;exact h t y hy
section
variable {w0:World} {H0:Heap} {n:Nat} {H:Heap} {a:Act} {w:World}
theorem Rel.sub{s s':St}(h:Rel w0 H0 n s H a w)(hs:Sub s' s):Rel w0 H0 n s' H a w:=by
 obtain⟨G,hl,hb⟩:=h.fits
 refine⟨h.defers,⟨G,⟨⟨hl.aH.size,fun t v ht=>hl.aH.at_ t v (hs t _ ht)⟩,fun t cs ht=>hl.boxes t cs (hs t _ ht),fun t t' cs bH ht ox e=>hl.inj t t' cs bH (hs t _ ht) (hs t' _ ox) e,
  fun t b off cs ht hb=>hl.refs t b off cs (hs t _ ht) (hs b _ hb),hl.den⟩,fun t cs ht=>hb t cs (hs t _ ht)⟩,h.fx⟩
end
def sO(s:St):List Nat→Option St
 | []=>some emp
 | t::ts=>
  match s t with
  | some x=>(match sO s ts with | some s'=>some (put s' t x) | none=>none)
  | none=>sO s ts
theorem P8{s:St}:∀(ts:List Nat)(s':St),sO s ts=some s'→Sub s' s:=by
 intro ts
 induction ts with
 | nil=>intro s' h;simp only[sO,Option.some.injEq]at h;subst h;exact iG s
 | cons t ts ih=>
  intro s' h
  unfold sO at h
  split at h
  ·rename_i x hx
   split at h
   ·rename_i s1 h1
    simp only[Option.some.injEq]at h
    subst h
    exact dB hx (ih s1 h1)
   ·cases h
  ·exact ih s' h
section
variable (P:Program) (n:Nat) (w0:World) (H0:Heap)
def VC(c:Code)(Q:Exit→St→Heap→Prop)(s:St)(H:Heap):Prop:=
 ∀a w,Rel w0 H0 n s H a w→c.wp P (fun e a' w'=>∃s' H',Rel w0 H0 n s' H' a' w'∧Q e s' H') a w
end
def mJ(K:St→Heap→Prop)(Q:Exit→St→Heap→Prop):Exit→St→Heap→Prop
 | .normal,s,H=>K s H
 | e,s,H=>Q e s H
def Jn(id:Nat)(Q:Exit→St→Heap→Prop):Exit→St→Heap→Prop
 | .exit i,s,H=>cond (Nat.beq i id) (Q .normal s H) (Q (.exit i) s H)
 | e,s,H=>Q e s H
section
variable {P:Program} {n:Nat} {w0:World} {H0:Heap} {Q:Exit→St→Heap→Prop} {s:St} {H:Heap}
theorem xB{c:Code}{s':St}(hs:Sub s' s)(h:VC P n w0 H0 c Q s' H):VC P n w0 H0 c Q s H:=fun a w hR=>h a w (hR.sub hs)
theorem ah{c:Code}(ts:List Nat){s':St}(hs:sO s ts=some s')(h:VC P n w0 H0 c Q s' H):VC P n w0 H0 c Q s H:=xB (P8 ts s' hs) h
theorem sP{c:Code}{Q':Exit→St→Heap→Prop}(h:VC P n w0 H0 c Q s H)(hq:∀e s H,Q e s H→Q' e s H):VC P n w0 H0 c Q' s H:=
 fun a w hR=>wp_mono (h a w hR) fun _ _ _ ⟨s',H',cH,qS⟩=>⟨s',H',cH,hq _ _ _ qS⟩
theorem aw(h:Q .normal s H):VC P n w0 H0 .skip Q s H:=fun _ _ hR=>wp_skip ⟨s,H,hR,h⟩
theorem ar(h:Q .ret s H):VC P n w0 H0 .ret Q s H:=fun _ _ hR=>wp_ret ⟨s,H,hR,h⟩
theorem bA{id:Nat}(h:Q (.exit id) s H):VC P n w0 H0 (.exit id) Q s H:=fun _ _ hR=>wp_exit ⟨s,H,hR,h⟩
theorem ao{x y:Code}(h:VC P n w0 H0 x (mJ (VC P n w0 H0 y Q) Q) s H):VC P n w0 H0 (.seq x y) Q s H:=fun a w hR=>by
 refine wp_seq (wp_mono (h a w hR) fun e a' w' ⟨s',H',cH,hq⟩=> ?_)
 cases e with
 | normal=>exact hq a' w' cH
 | exit i=>exact⟨s',H',cH,hq⟩
 | goto l=>exact⟨s',H',cH,hq⟩
 | ret=>exact⟨s',H',cH,hq⟩
 | panic c=>exact⟨s',H',cH,hq⟩
 | outgrown=>exact⟨s',H',cH,hq⟩
theorem aD{id:Nat}{c:Code}(h:VC P n w0 H0 c (Jn id Q) s H):VC P n w0 H0 (.block id c) Q s H:=fun a w hR=>by
 refine wp_block (wp_mono (h a w hR) fun e a' w' ⟨s',H',cH,hq⟩=> ?_)
 cases e with
 | normal=>exact⟨s',H',cH,hq⟩
 | exit i=>
  simp only[Exit.inBlock]
  unfold Jn at hq
  by_cases e:i=id
  ·subst e
   rw[if_pos rfl]
   simp only[Nat.beq_refl,cond_true]at hq
   exact⟨s',H',cH,hq⟩
  ·rw[if_neg e]
   have hb:Nat.beq i id=false:=by
    cases hb:Nat.beq i id with
    | false=>rfl
    | true=>exact absurd (Nat.eq_of_beq_eq_true hb) e
   simp only[hb,cond_false]at hq
   exact⟨s',H',cH,hq⟩
 | goto l=>exact⟨s',H',cH,hq⟩
 | ret=>exact⟨s',H',cH,hq⟩
 | panic c=>exact⟨s',H',cH,hq⟩
 | outgrown=>exact⟨s',H',cH,hq⟩
theorem az{c:Operand}{x y:Code}{b:Bool}(hc:ev s c=some (.bool b))(ht:b=true→VC P n w0 H0 x Q s H)(hf:b=false→VC P n w0 H0 y Q s H):VC P n w0 H0 (.cond c x y) Q s H:=fun a w hR=>by
 obtain⟨G,hl,_⟩:=hR.fits
 exact wp_cond_split (a7 hl.aH hc) (fun h=>ht h a w hR) (fun h=>hf h a w hR)
theorem cI{c:Operand}{x y:Code}(hc:ev s c=some (.bool true))(h:VC P n w0 H0 x Q s H):VC P n w0 H0 (.cond c x y) Q s H:=az hc (fun _=>h) (fun h=>by cases h)
theorem cP{c:Operand}{x y:Code}(hc:ev s c=some (.bool false))(h:VC P n w0 H0 y Q s H):VC P n w0 H0 (.cond c x y) Q s H:=az hc (fun h=>by cases h) (fun _=>h)
theorem aB{id:Nat}{l:List Oper}(hn:Bn n l=true)(h:aE P n l.toArray .plain l s H (fun s H=>Q .normal s H)):VC P n w0 H0 (.region id l.toArray false) Q s H:=fun a w hR=>
 wp_region_lit (aE.wpList (fun s' H' _ _ cH hk=>⟨s',H',cH,hk⟩) l s H a w (Ji hn) hR h)
theorem fk(md:Mode)(perm:List Nat){id:Nat}{l:List Oper}(hf:P.follows .mixedOrders=true)(hc:Bq n md l perm=true)(h:aE P n l.toArray md (perm.map (eO l)) s H (fun s H=>Q .normal s H)):
  VC P n w0 H0 (.region id l.toArray true) Q s H:=fun _ _ hR=>
 P7 hf hc (fun s' H' _ _ cH hk=>⟨s',H',cH,hk⟩) hR h
theorem Jo{γ:Type}{c:Code}(R:γ→γ→Prop)(S:γ→St)(Φ:γ→Heap→Prop)(g:γ)(P9:Acc R g)(hs:Sub (S g) s)(h0:Φ g H)
  (round:∀g H,Φ g H→VC P n w0 H0 c (mJ (fun s' H'=>∃g',R g' g∧Sub (S g') s'∧Φ g' H') Q) (S g) H):VC P n w0 H0 (.loop c) Q s H:=fun a w hR=>by
 intro b k cs
 have key:∀g,Acc R g→∀H a w,Φ g H→Rel w0 H0 n (S g) H a w→∃e a' w',(∃s' H',Rel w0 H0 n s' H' a' w'∧Q e s' H')∧Arrives P (lone (b.at a (.code c :: .inLoop c::k)) cs w) b k cs e a' w':=by
  intro g hg
  induction hg with
  | intro g _ ih=>
   intro H a w Qa hR
   obtain⟨e,vi,vj,⟨s',H',cH,hq⟩,qT⟩:=round g H Qa a w hR b (.inLoop c::k) cs
   cases e with
   | normal=>
    obtain⟨g',a8,Qb,Qc⟩:=hq
    obtain⟨Qd,Qe,Qf,Qg,Qh⟩:=ih g' a8 H' vi vj Qc (cH.sub Qb)
    exact⟨Qd,Qe,Qf,Qg,.of_steps (Steps.trans qT (.one step_inLoop)) Qh⟩
   | exit id=>exact⟨_,vi,vj,⟨s',H',cH,hq⟩,.pass (x:= .inLoop c) rfl (fun _ _=> .inl (by simp)) qT⟩
   | goto l=>exact⟨_,vi,vj,⟨s',H',cH,hq⟩,.pass (x:= .inLoop c) rfl (fun _ _=> .inl (by simp)) qT⟩
   | ret=>exact⟨_,vi,vj,⟨s',H',cH,hq⟩,.pass (x:= .inLoop c) rfl (fun _ _=> .inl (by simp)) qT⟩
   | panic ch=>exact⟨_,vi,vj,⟨s',H',cH,hq⟩,.pass (x:= .inLoop c) rfl (fun _ _=> .inl (by simp)) qT⟩
   | outgrown=>exact⟨_,vi,vj,⟨s',H',cH,hq⟩,.pass (x:= .inLoop c) rfl (fun _ _=> .inl (by simp)) qT⟩
 obtain⟨e,a',w',hq,qT⟩:=key g P9 H a w h0 (hR.sub hs)
 exact⟨e,a',w',hq,.of_steps (.one step_loop) qT⟩
theorem Bu{γ:Type}{c:Code}(μ:γ→Nat)(S:γ→St)(Φ:γ→Heap→Prop)(g:γ)(hs:Sub (S g) s)(h0:Φ g H)
  (round:∀g H,Φ g H→VC P n w0 H0 c (mJ (fun s' H'=>∃g',μ g'<μ g∧Sub (S g') s'∧Φ g' H') Q) (S g) H):VC P n w0 H0 (.loop c) Q s H:=
 Jo (InvImage (· < ·) μ) S Φ g (InvImage.accessible μ (Nat.lt_wfRel.wf.apply _)) hs h0 round
end
structure Fn(P:Program)(f:FuncId)(args:Array Value)(H:Heap)(aY:Value→Heap→Prop):Prop where
 ent:∃fn,P.funcs[f]? = some fn∧fn.body.isNone=false∧(fn.name == "runtime.NumGoroutine")=false
 run:∀w,Den H w→Calls P f args w fun e w'=>∃v,e = .returned v∧∃H',aY v H'∧Den H' w'∧Fx H w H' w'
theorem Fn.mono{P:Program}{f:FuncId}{args:Array Value}{H:Heap}{aY Jp:Value→Heap→Prop}(h:Fn P f args H aY)(hp:∀v H',aY v H'→Jp v H'):Fn P f args H Jp:=
 ⟨h.ent,fun w hd=>(h.run w hd).mono fun _ _ ⟨v,he,H',h1,h2,h3⟩=>⟨v,he,H',hp v H' h1,h2,h3⟩⟩
def start(args:List Value):St:=fun t=>match args[t]? with | some v=>some (.val v) | none=>none
inductive sQ(P:Program)(s:St):List ResultVar→List Value→Prop
 | nil:sQ P s [] []
 | tmp {t:Nat} {v:Value} {rs:List ResultVar} {vs:List Value} (h:s t=some (.val v)) (r:sQ P s rs vs):sQ P s (.tmp t::rs) (v::vs)
 | agg {t ty:Nat} {cs:List Value} {fs:Array Field} {i:TypeInfo} {rs:List ResultVar} {vs:List Value} (h:s t=some (.box cs)) (hu:P.underlying ty=some (.struct fs)) (hi:P.info? ty=some i) (hz:i.size=cs.length) (r:sQ P s rs vs):
    sQ P s (.cell t ty::rs) (.agg cs.toArray::vs)
def xC:List Value→Value
 | [v]=>v
 | vs=> .tuple vs.toArray
def Qi(P:Program)(rs:List ResultVar)(aY:Value→Heap→Prop)(e:Exit)(s:St)(H:Heap):Prop:=
 (e = .normal∨e = .ret)∧∃vs,sQ P s rs vs∧aY (xC vs) H
theorem Qj{P:Program}{w:World}{g:Nat}{cs:Array Value}{e:TypeId}(hg:w.heap[g]? = some (.cells cs e (0,0))):∀(k i:Nat)(acc:Array Value),i+k≤cs.size→
  (loadCellsFrom ⟨g,0,none⟩ i k acc).run P w = .ok (acc++(cs.toList.drop i |>.take k).toArray) w:=by
 intro k
 induction k with
 | zero=>intro i acc _;simp[loadCellsFrom]
 | succ k ih=>
  intro i acc hk
  have hi:i<cs.size:=by omega
  have hc:w.cell? ((⟨g,0,none⟩:Addr).add i)=some cs[i]:=by
   unfold Addr.add World.cell?
   by_cases h0:i=0
   ·subst h0;simp[hg,hi]
   ·simp[h0,hg,hi]
  simp only[loadCellsFrom,load,Sem.run_bind,Sem.run,hc,Result.andThen_ok]
  rw[ih (i+1) _ (by omega)]
  have hd:List.drop i cs.toList=cs[i]::List.drop (i+1) cs.toList:=by
   rw[List.drop_eq_getElem_cons (by simpa using hi)];simp
  rw[hd,List.take_succ_cons]
  simp
def vk(tmps:Array Value):ResultVar→Sem Value
 | .tmp t=>pure (tmps.getD t undef)
 | .cell b t=>(do loadVar t (←asAddr (tmps.getD b undef)))
theorem Qk{tmps:Array Value}{t:Nat}{v:Value}(h:tmps[t]? = some v):vk tmps (.tmp t)=pure v:=by simp[vk,h]
theorem Ql{tmps:Array Value}{t ty:Nat}{v:Value}(h:tmps[t]? = some v):vk tmps (.cell t ty)=(do loadVar ty (←asAddr v)):=by simp[vk,h]
theorem Qm{fn:Func}{rs:List ResultVar}(hr:fn.results=rs.toArray)(tmps:Array Value):results fn tmps=(do
  let vs ←List.toArray <$> rs.mapM (vk tmps)
  pure (if h:vs.size=1 then vs[0]else .tuple vs)):=by
 unfold results
 rw[hr,List.mapM_toArray]
 exact congrArg (fun F:ResultVar→Sem Value=>(do
  let vs ←List.toArray <$> rs.mapM F
  pure (if h:vs.size=1 then vs[0]else .tuple vs):Sem Value)) (funext fun r=>by cases r <;> rfl)
theorem Qn{P:Program}{n:Nat}{s:St}{H:Heap}{G:Nat→Nat}{a:Act}{w:World}(hl:Rl n s H G a w):∀{rs:List ResultVar}{vs:List Value},sQ P s rs vs→
  Sem.run P (rs.mapM (vk a.tmps)) w=Result.ok vs w:=by
 intro rs vs h
 induction h with
 | nil=>simp
 | tmp h r ih=>
  have:=hl.aH.at_ _ _ h
  simp[List.mapM_cons,Qk this,ih]
 | @agg t ty cs fs i rs vs h hu hi hz r ih=>
  obtain⟨h1,_,e,h2⟩:=hl.boxes _ _ h
  have Qo:=Qj (P:=P) h2 cs.length 0 #[] (by simp)
  simp[List.mapM_cons,Ql h1,asAddr,loadVar,isAgg,run_underlying hu,sizeOf,typeInfo,hi,hz,loadCells,Qo,ih]
theorem aU{P:Program}{f:FuncId}{fn:Func}{c:Code}{args:List Value}{n:Nat}{H:Heap}{rs:List ResultVar}{aY:Value→Heap→Prop}(hf:P.funcs[f]? = some fn)(hb:fn.body=some c)
  (Qp:(fn.name == "runtime.NumGoroutine")=false) (hn:fn.ntmps=n) (hr:fn.results=rs.toArray) (xD:Nat.ble args.length n=true)
  (h:∀w0,VC P n w0 H c (Qi P rs aY) (start args) H):Fn P f args.toArray H aY:=by
 refine⟨⟨fn,hf,by rw[hb];rfl,Qp⟩,fun w hd=> ?_⟩
 have xD:=Nat.le_of_ble_eq_true xD
 refine calls_of_wp hf hb (wp_mono (h w _ w ⟨rfl,⟨fun _=>0,⟨⟨?_,fun t v ht=> ?_⟩,fun t cs ht=> ?_,fun t t' cs bH ht=> ?_,fun t b off cs ht=> ?_,hd⟩,fun t cs ht=> ?_⟩,.refl H w⟩) fun e a' w' ⟨s',H',cH,he,vs,lN,hp⟩=> ?_)
 ·simp[hn];omega
 ·simp only[start]at ht
  split at ht
  ·rename_i u hu
   simp only[Option.some.injEq,Slot.val.injEq]at ht
   subst ht
   rw[Array.getElem?_append_left (by simpa using(List.getElem?_eq_some_iff.1 hu).1)]
   simpa using hu
  ·cases ht
 ·simp only[start]at ht;split at ht <;> cases ht
 ·simp only[start]at ht;split at ht <;> cases ht
 ·simp only[start]at ht;split at ht <;> cases ht
 ·simp only[start]at ht;split at ht <;> cases ht
 ·obtain⟨G,hl,_⟩:=cH.fits
  have qU:(results fn a'.tmps).run P w' = .ok (xC vs) w':=by
   have:=Qn (P:=P) hl lN
   rw[Qm hr]
   simp only[Sem.run_bind,map_eq_pure_bind,this,Result.andThen_ok,Sem.run_pure]
   cases vs with
   | nil=>simp[xC]
   | cons v vs=>
    cases vs with
    | nil=>simp[xC]
    | cons u vs=>simp[xC]
  rcases he with rfl | rfl
  ·exact⟨cH.defers,_,qU,_,rfl,H',hp,hl.den,cH.fx⟩
  ·exact⟨cH.defers,_,qU,_,rfl,H',hp,hl.den,cH.fx⟩
attribute [irreducible] VC
end Go.au
namespace Go.au
inductive Ti where
 | sl (e sz:Nat)
 | st (n:Nat) (fs:List (Nat×Nat))
 | it (k:IntKind)
 | ce
 | no
abbrev Tb:=List Ti
def bW(P:Program)(t:TypeId):Ti→Prop
 | .sl e sz=>P.underlying t=some (.slice e)∧∃i,P.info? e=some i∧i.size=sz
 | .st n ps=>∃fs i,P.underlying t=some (.struct fs)∧P.info? t=some i∧i.size=n∧fs.size=ps.length∧
    ∀(f:Nat)(p:Nat×Nat),ps[f]? = some p→∃fd j,fs[f]? = some fd∧fd.offset=p.1∧P.info? fd.type=some j∧j.size=p.2∧p.2≠0
 | .it k=>P.underlying t=some (.int k)
 | .ce=>∃d,P.underlying t=some d∧(∀fs,d≠.struct fs)∧∀n e,d≠.array n e
 | .no=>True
def iH(P:Program)(tb:Tb):Prop:=∀(t:TypeId)(x:Ti),tb[t]? = some x→bW P t x
theorem EI{P:Program}{t:TypeId}{d:TypeDesc}(h:P.underlying t=some d)(h1:∀fs,d≠.struct fs)(h2:∀n e,d≠.array n e)(w:World):(isAgg t).run P w = .ok false w:=by
 unfold isAgg
 simp only[Sem.run_bind,run_underlying h,Result.andThen_ok]
 cases d <;> first | exact absurd rfl (h1 _) | exact absurd rfl (h2 _ _) | rfl
def sR:Ti→Bool
 | .sl .. | .it _ | .ce=>true
 | _=>false
theorem Qq{P:Program}{t:TypeId}{x:Ti}(h:bW P t x)(h1:sR x=true)(w:World):(isAgg t).run P w = .ok false w:=by
 cases x with
 | sl e sz=>exact EI h.1 (fun _ e=>by cases e) (fun _ _ e=>by cases e) w
 | it k=>exact EI h (fun _ e=>by cases e) (fun _ _ e=>by cases e) w
 | ce=>obtain⟨d,h1,h2,h3⟩:=h;exact EI h1 h2 h3 w
 | st n o=>cases h1
 | no=>cases h1
def ef(op:BinOp)(a b:Int):Option Bool:=
 match op with
 | .eql=>some (a == b)
 | .neq=>some (a != b)
 | .lss=>some (decide (a<b))
 | .leq=>some (decide (a≤b))
 | .gtr=>some (decide (a>b))
 | .geq=>some (decide (a≥b))
 | _=>none
def Bv(x:Ti)(cs:List Value)(off:Nat):Option Value:=
 match x with
 | .st n _=>cond (Nat.ble (off+n) cs.length) (some (.agg (cond (Nat.beq off 0&&Nat.beq n cs.length) cs ((cs.drop off).take n)).toArray)) none
 | .sl .. | .it _ | .ce=>cs[off]?
 | .no=>none
def EJ(tb:Tb)(s:St):Op→Option Slot
 | .move x=>(match ev s x with | some v=>some (.val v) | none=>none)
 | .assign x=>(match ev s x with | some v=>some (.val v) | none=>none)
 | .pick c a b=>(match ev s c with
  | some (.bool true)=>(match ev s a with | some v=>some (.val v) | none=>none)
  | some (.bool false)=>(match ev s b with | some v=>some (.val v) | none=>none)
  | _=>none)
 | .binOp op _ x y _=>(match ev s x,ev s y with
  | some (.int k a),some (.int k' b)=>(match decide (k=k')with
   | true=>(match ef op a b with | some r=>some (.val (.bool r)) | none=>none)
   | false=>none)
  | _,_=>none)
 | .unOp .not _ x=>(match ev s x with | some (.bool b)=>some (.val (.bool (!b))) | _=>none)
 | .extract x i=>(match ev s x with
  | some (.tuple vs)=>(match vs[i]? with | some v=>some (.val v) | none=>none)
  | _=>none)
 | .nilCheck x=>(match ev s x with | some (.pointer (some a))=>some (.val (.pointer (some a))) | _=>none)
 | .load t (.tmp x)=>(match s x with
  | some (.box cs)=>(match tb[t]? with
   | some ti=>(match Bv ti cs 0 with | some v=>some (.val v) | none=>none)
   | none=>none)
  | some (.ref b off)=>(match s b with
   | some (.box cs)=>(match tb[t]? with
    | some ti=>(match Bv ti cs off with | some v=>some (.val v) | none=>none)
    | none=>none)
   | _=>none)
  | _=>none)
 | .fieldAddr t (.tmp x) f=>(match tb[t]? with
  | some (.st _ ps)=>(match ps[f]? with
   | some p=>(match s x with
    | some (.box _)=>some (.ref x p.1)
    | some (.ref b off)=>(match s b with | some (.box _)=>some (.ref b (off+p.1)) | _=>none)
    | _=>none)
   | none=>none)
  | _=>none)
 | .call c=>(match c.callee with
  | .builtin .len=>(match c.args.toList,c.argTypes.toList with
   | [x],[t]=>(match ev s x with
    | some (.slice _ n _)=>(match tb[t]? with | some (.sl _ _)=>some (.val (.int .i64 n)) | _=>none)
    | _=>none)
   | _,_=>none)
  | _=>none)
 | _=>none
def bI(all:Array Oper)(s:St):Option (Nat×Bool)→Option Bool
 | none=>some true
 | some (j,want)=>(match (match all[j]? with | some o=>o.dst | none=>none)with
  | some d=>(match s d with | some (.val (.bool b))=>some (match b,want with | true,true=>true | false,false=>true | _,_=>false) | some (.val (.tuple _))=>some false | _=>none)
  | none=>none)
def Bw(md:Mode)(s:St):Op→Bool
 | .load _ (.tmp x)=>(match s x with
  | some (.box _)=> !md.wr x
  | some (.ref b _)=> !md.wr b
  | _=>true)
 | _=>true
def qV(tb:Tb)(md:Mode)(all:Array Oper):List Oper→St→Option St
 | [],s=>some s
 | o::r,s=>(match md.nb s o.dst&&Bw md s o.op with
  | true=>(match bI all s o.guard with
   | some true=>(match EJ tb s o.op with | some x=>qV tb md all r (aQ s o.dst x) | none=>none)
   | some false=>qV tb md all r (aQ s o.dst (.val undef))
   | none=>none)
  | false=>none)
section
variable {P:Program} {n:Nat} {tb:Tb} {all:Array Oper} {s:St} {H:Heap} {o:Oper}
theorem iI(h:bI all s o.guard=some true):xa all s o:=by
 unfold bI at h
 split at h
 ·rename_i hg;exact .inl hg
 ·rename_i j want hg
  split at h
  ·rename_i d hd
   split at h
   ·rename_i b hs
    refine .inr ⟨j,want,d,hg,?_,?_⟩
    ·cases hj:all[j]? with
     | none=>rw[hj]at hd;cases hd
     | some o'=>rw[hj]at hd;exact hd
    ·cases b <;> cases want <;> simp at h <;> exact hs
   ·cases h
   ·cases h
  ·cases h
theorem Jq(h:bI all s o.guard=some false):I4 all s o:=by
 unfold bI at h
 split at h
 ·cases h
 ·rename_i j want hg
  split at h
  ·rename_i d hd
   split at h
   ·rename_i b hs
    refine⟨j,want,d,_,hg,?_,hs,.inl ⟨b,rfl,?_⟩⟩
    ·cases hj:all[j]? with
     | none=>rw[hj]at hd;cases hd
     | some o'=>rw[hj]at hd;exact hd
    ·cases b <;> cases want <;> simp at h <;> simp
   ·rename_i ts hs
    refine⟨j,want,d,_,hg,?_,hs,.inr ⟨ts,rfl⟩⟩
    cases hj:all[j]? with
    | none=>rw[hj]at hd;cases hd
    | some o'=>rw[hj]at hd;exact hd
   ·cases h
  ·cases h
theorem Jr{w:World}{g off:Nat}{cs:Array Value}{e:TypeId}{fz:Nat×Nat}(hg:w.heap[g]? = some (.cells cs e fz))(i:Nat):w.cell? ((⟨g,off,none⟩:Addr).add i)=cs[off+i]? :=by
 unfold Addr.add World.cell?
 by_cases h0:i=0
 ·subst h0;simp[hg]
 ·simp[h0,hg]
theorem Qr{w:World}{a:Addr}(vs:List Value)(hc:∀(i:Nat)(v:Value),vs[i]? = some v→w.cell? (a.add i)=some v):∀(k i:Nat)(acc:Array Value),i+k≤vs.length→
  (loadCellsFrom a i k acc).run P w = .ok (acc++((vs.drop i).take k).toArray) w:=by
 intro k
 induction k with
 | zero=>intro i acc _;simp[loadCellsFrom]
 | succ k ih=>
  intro i acc hk
  have hi:i<vs.length:=by omega
  simp only[loadCellsFrom,load,Sem.run_bind,Sem.run,hc i _ (List.getElem?_eq_getElem hi),Result.andThen_ok]
  rw[ih (i+1) _ (by omega),List.drop_eq_getElem_cons hi,List.take_succ_cons]
  simp
theorem Js{w:World}{a:Addr}{t:TypeId}{fs:Array Field}{i:TypeInfo}(hu:P.underlying t=some (.struct fs))(hi:P.info? t=some i)(vs:List Value)(hz:i.size=vs.length)
  (hc:∀(j:Nat)(v:Value),vs[j]? = some v→w.cell? (a.add j)=some v):(loadVar t a).run P w = .ok (.agg vs.toArray) w:=by
 have:=Qr (P:=P) vs hc vs.length 0 #[] (by omega)
 simp[loadVar,isAgg,run_underlying hu,sizeOf,typeInfo,hi,hz,loadCells,this]
theorem EK{w:World}{a:Addr}{t:TypeId}{x:Ti}(ht:bW P t x)(h1:sR x=true){v:Value}(hc:w.cell? a=some v):(loadVar t a).run P w = .ok v w:=by
 simp[loadVar,Qq ht h1,load,Sem.run,hc]
theorem Jt{w:World}{g off:Nat}{cs:List Value}{e t:TypeId}{x:Ti}{v:Value}(ht:bW P t x)(hg:w.heap[g]? = some (.cells cs.toArray e (0,0)))(h:Bv x cs off=some v):(loadVar t ⟨g,off,none⟩).run P w = .ok v w:=by
 have one:sR x=true→cs[off]? = some v→(loadVar t ⟨g,off,none⟩).run P w = .ok v w:=fun h1 h2=>by
  refine EK ht h1 ?_
  have:=Jr (off:=off) hg 0
  simp only[Addr.add,if_true,Nat.add_zero]at this
  rw[this];simpa using h2
 cases x with
 | sl e sz=>exact one rfl h
 | it k=>exact one rfl h
 | ce=>exact one rfl h
 | no=>cases h
 | st m sS=>
  obtain⟨fs,i,hu,hi,hz,_,_⟩:=ht
  simp only[Bv]at h
  cases hb:Nat.ble (off+m) cs.length with
  | false=>rw[hb]at h;cases h
  | true=>
   rw[hb]at h
   have hle:=Nat.le_of_ble_eq_true hb
   simp only[cond_true,Option.some.injEq]at h
   subst h
   have EG:(cond (Nat.beq off 0&&Nat.beq m cs.length) cs ((cs.drop off).take m))=(cs.drop off).take m:=by
    cases hc:(Nat.beq off 0&&Nat.beq m cs.length)with
    | false=>rfl
    | true=>
     simp only[Bool.and_eq_true]at hc
     have h1:=Nat.eq_of_beq_eq_true hc.1
     have h2:=Nat.eq_of_beq_eq_true hc.2
     subst h1
     subst h2
     simp
   rw[EG]
   refine Js hu hi _ (by rw[hz];simp;omega) fun j v hj=> ?_
   rw[Jr hg]
   rw[List.getElem?_take]at hj
   split at hj
   ·rw[List.getElem?_drop]at hj;simpa using hj
   ·cases hj
theorem Qs{op:BinOp}{a b:Int}{r:Bool}(h:ef op a b=some r):Op.intCmp op a b=pure (.bool r):=by
 cases op <;> simp[ef,Op.intCmp]at h⊢<;> rw[h]
theorem pO{op:BinOp}{t:TypeId}{x y:Operand}{k k':IntKind}{a b:Int}(w:World):(eqGuard op t x y (.int k a) (.int k' b)).run P w = .ok () w:=by
 unfold eqGuard
 cases op <;> simp
theorem By{a:Addr}{fd:Field}{j:TypeInfo}(hj:P.info? fd.type=some j)(hz:j.size≠0)(w:World):(fieldPlace a fd).run P w = .ok (a.add fd.offset) w:=by
 simp[fieldPlace,sizeOf,typeInfo,hj,hz]
theorem fS.runs{md:Mode}{s s':St}(h:fS md s s')(hr:xa all s o):xa all s' o:=by
 rcases hr with hg | ⟨j,want,d,hg,hd,hs⟩
 ·exact .inl hg
 ·exact .inr ⟨j,want,d,hg,hd,h.val (fun c e=>by cases e) hs⟩
theorem Qt(cT:iH P tb){md:Mode}{K:St→Heap→Prop}{x:Slot}(hg:xa all s o)(nb:md.nb s o.dst=true)(lO:Bw md s o.op=true)(h:EJ tb s o.op=some x)(k:K (aQ s o.dst x) H):eK P n all md o s H K:=by
 obtain⟨dst,op,ty,pos,after,guard⟩:=o
 have dn:∀(v:Value),mC op=false→(∀a w,ey n s a→(execOp a.eval ⟨dst,op,ty,pos,after,guard⟩).run P w = .ok (.value v) w)→x = .val v→eK P n all md ⟨dst,op,ty,pos,after,guard⟩ s H K:=by
  intro v h1 h2 h3
  subst h3
  exact .gh v (.inl h1) nb (fun a w ha _=> .inl ⟨gy ha hg,h2 a w ha⟩) k
 simp only at h
 unfold EJ at h
 split at h
 ·rename_i y
  split at h
  ·rename_i v hv
   simp only[Option.some.injEq]at h
   exact dn v rfl (fun a w ha=>by simp[execOp,a7 ha hv]) h.symm
  ·cases h
 ·rename_i y
  split at h
  ·rename_i v hv
   simp only[Option.some.injEq]at h
   exact dn v rfl (fun a w ha=>by simp[execOp,a7 ha hv]) h.symm
  ·cases h
 ·rename_i c y z
  split at h
  ·rename_i hc
   split at h
   ·rename_i v hv
    simp only[Option.some.injEq]at h
    exact dn v rfl (fun a w ha=>by simp[execOp,a7 ha hv,a7 ha hc,asBool]) h.symm
   ·cases h
  ·rename_i hc
   split at h
   ·rename_i v hv
    simp only[Option.some.injEq]at h
    exact dn v rfl (fun a w ha=>by simp[execOp,a7 ha hv,a7 ha hc,asBool]) h.symm
   ·cases h
  ·cases h
 ·rename_i op t y z t'
  split at h
  ·rename_i k1 a1 k2 b1 hy hz
   split at h
   ·rename_i hk
    have hk:=of_decide_eq_true hk
    subst hk
    split at h
    ·rename_i r hr
     simp only[Option.some.injEq]at h
     refine dn (.bool r) rfl (fun a w ha=> ?_) h.symm
     have aaa:=Qs hr
     simp only[execOp,a7 ha hy,a7 ha hz,Sem.run_bind,pO,Result.andThen_ok]
     cases op <;> simp[ef]at hr <;> simp[binOp,Op.intCmp,hr]
    ·cases h
   ·cases h
  ·cases h
 ·rename_i t y
  split at h
  ·rename_i b hb
   simp only[Option.some.injEq]at h
   exact dn _ rfl (fun a w ha=>by simp[execOp,a7 ha hb,Op.unary]) h.symm
  ·cases h
 ·rename_i y i
  split at h
  ·rename_i vs lN
   split at h
   ·rename_i v hv
    simp only[Option.some.injEq]at h
    exact dn v rfl (fun a w ha=>by simp[execOp,a7 ha lN,Instr.extract,hv]) h.symm
   ·cases h
  ·cases h
 ·rename_i y
  split at h
  ·rename_i ad hb
   simp only[Option.some.injEq]at h
   exact dn _ rfl (fun a w ha=>by simp[execOp,a7 ha hb]) h.symm
  ·cases h
 ·rename_i t y
  split at h
  ·rename_i cs e7
   split at h
   ·rename_i ti aj
    split at h
    ·rename_i v hv
     simp only[Option.some.injEq]at h
     subst h
     refine .fT (.val v) rfl nb rfl (fun s' jt G a w hl=>⟨v,rfl,gy hl.aH (jt.runs hg),?_⟩) k
     have k9:md.wr y=false:=by simpa [Bw,e7]using lO
     obtain⟨h1,_,e,h2⟩:=hl.boxes y cs (by rw[jt.gU k9];exact e7)
     have:=Jt (cT t ti aj) h2 hv
     have he:a.eval (.tmp y) = .pointer (some ⟨G y,0,none⟩):=by simp[Act.eval,h1]
     simp[execOp,Instr.loadAt,he,Instr.sureAddr,this]
    ·cases h
   ·cases h
  ·rename_i b off Bz
   split at h
   ·rename_i cs e7
    split at h
    ·rename_i ti aj
     split at h
     ·rename_i v hv
      simp only[Option.some.injEq]at h
      subst h
      refine .fT (.val v) rfl nb rfl (fun s' jt G a w hl=>⟨v,rfl,gy hl.aH (jt.runs hg),?_⟩) k
      have k9:md.wr b=false:=by simpa [Bw,Bz]using lO
      have vn:s' b=some (.box cs):=by rw[jt.gU k9];exact e7
      obtain⟨h1,_,e,h2⟩:=hl.boxes b cs vn
      have:=Jt (cT t ti aj) h2 hv
      have he:a.eval (.tmp y) = .pointer (some ⟨G b,off,none⟩):=by simp[Act.eval,hl.refs _ _ _ _ (jt.val (fun c e=>by cases e) Bz) vn]
      simp[execOp,Instr.loadAt,he,Instr.sureAddr,this]
     ·cases h
    ·cases h
   ·cases h
  ·cases h
 ·rename_i t y f
  split at h
  ·rename_i m sS aj
   obtain⟨fs,i,hu,hi,hz,_,Qu⟩:=cT t _ aj
   split at h
   ·rename_i p Qv
    obtain⟨o',qW⟩:=p
    obtain⟨fd,j,ie,gW,qX,Qw,Qx⟩:=Qu f _ Qv
    have Ju:j.size≠0:=by rw[Qw];exact Qx
    simp only at gW h
    split at h
    ·rename_i cs e7
     simp only[Option.some.injEq]at h
     subst h
     refine .fT (.ref y o') rfl nb (by simp[Slot.nv,e7]) (fun s' jt G a w hl=>⟨_,rfl,gy hl.aH (jt.runs hg),?_⟩) k
     obtain⟨c2,vn⟩:=jt.box e7
     obtain⟨h1,_,e,h2⟩:=hl.boxes _ _ vn
     have he:a.eval (.tmp y) = .pointer (some ⟨G y,0,none⟩):=by simp[Act.eval,h1]
     have pP:(⟨G y,0,none⟩:Addr).add o'=⟨G y,o',none⟩:=by
      unfold Addr.add;split
      ·rename_i e0;rw[e0]
      ·simp
     simp[execOp,Instr.fieldAt,run_underlying hu,ie,he,Instr.sureAddr,By qX Ju,gW,pP]
    ·rename_i b off Bz
     split at h
     ·rename_i cs e7
      simp only[Option.some.injEq]at h
      subst h
      refine .fT (.ref b (off+o')) rfl nb (by simp[Slot.nv,e7]) (fun s' jt G a w hl=>⟨_,rfl,gy hl.aH (jt.runs hg),?_⟩) k
      obtain⟨c2,vn⟩:=jt.box e7
      have he:a.eval (.tmp y) = .pointer (some ⟨G b,off,none⟩):=by simp[Act.eval,hl.refs _ _ _ _ (jt.val (fun c e=>by cases e) Bz) vn]
      have pP:(⟨G b,off,none⟩:Addr).add o'=⟨G b,off+o',none⟩:=by
       unfold Addr.add;split
       ·rename_i e0;rw[e0];rfl
       ·rfl
      simp[execOp,Instr.fieldAt,run_underlying hu,ie,he,Instr.sureAddr,By qX Ju,gW,pP]
     ·cases h
    ·cases h
   ·cases h
  ·cases h
 ·rename_i c
  obtain⟨callee,args,argTypes⟩:=c
  simp only at h
  split at h
  ·split at h
   ·rename_i y t xD Qy
    have e1:args = #[y]:=by rw[←Array.toArray_toList (xs:=args),xD]
    have e2:argTypes = #[t]:=by rw[←Array.toArray_toList (xs:=argTypes),Qy]
    subst e1
    subst e2
    split at h
    ·rename_i A m c hv
     split at h
     ·rename_i e' qW aj
      simp only[Option.some.injEq]at h
      have hu:=(cT t _ aj).1
      exact dn _ rfl (fun a w ha=>by simp[execOp,resolve,invoke,builtin,a7 ha hv,Builtin.len_,run_underlying hu,goInt]) h.symm
     ·cases h
    ·cases h
   ·cases h
  ·cases h
 ·cases h
theorem Qz(cT:iH P tb){md:Mode}{K:St→Heap→Prop}{r:List Oper}:∀(l:List Oper)(s s':St),qV tb md all l s=some s'→aE P n all md r s' H K→aE P n all md (l++r) s H K:=by
 intro l
 induction l with
 | nil=>intro s s' h k;simp only[qV,Option.some.injEq]at h;subst h;exact k
 | cons o l ih=>
  intro s s' h k
  simp only[qV]at h
  split at h
  ·rename_i QA
   obtain⟨nb,lO⟩:=Bool.and_eq_true_iff.1 QA
   split at h
   ·rename_i hg
    split at h
    ·rename_i x hx
     exact Qt cT (iI hg) nb lO hx (ih _ _ h k)
    ·cases h
   ·rename_i hg
    refine .gh undef ?_ nb (fun a w ha _=> .inr ⟨PE ha (Jq hg),rfl⟩) (ih _ _ h k)
    obtain⟨j,want,d,b,km,_⟩:=Jq hg
    exact .inr (by rw[km];simp)
   ·cases h
  ·cases h
theorem Jv(cT:iH P tb){md:Mode}{K:St→Heap→Prop}(k:Nat){l:List Oper}{s':St}(h:qV tb md all (l.take k) s=some s')(hk:aE P n all md (l.drop k) s' H K):aE P n all md l s H K:=by
 have:=Qz (r:=l.drop k) cT _ _ _ h hk
 rwa [List.take_append_drop]at this
theorem Jw{md:Mode}{K:St→Heap→Prop}{l:List Oper}(d:Nat){x x':Slot}(hs:s d=some x)(he:x=x')(hk:aE P n all md l (put s d x') H K):aE P n all md l s H K:=by
 subst he
 have:put s d x=s:=by
  funext t
  by_cases e:t=d
  ·subst e;rw[fi,hs]
  ·rw[dW _ _ e]
 rwa [this]at hk
end
end Go.au
namespace Go.au
abbrev Fit(k:IntKind)(n:Int):Prop:=
 match k with
 | .i8=> -128≤n∧n≤127
 | .i16=> -32768≤n∧n≤32767
 | .i32=> -2147483648≤n∧n≤2147483647
 | .i64=> -9223372036854775808≤n∧n≤9223372036854775807
 | .u8=>0≤n∧n≤255
 | .u16=>0≤n∧n≤65535
 | .u32=>0≤n∧n≤4294967295
 | .u64=>0≤n∧n≤18446744073709551615
theorem sT{k:IntKind}{n:Int}(h:Fit k n):k.wrap n=n:=by
 cases k <;> simp only[Fit]at h <;> simp only[IntKind.wrap,IntKind.bits,IntKind.signed] <;> simp <;> omega
section
variable {P:Program} {n:Nat} {tb:Tb} {all:Array Oper} {s:St} {H:Heap} {md:Mode} {K:St→Heap→Prop} {r:List Oper} {dst:Option Nat} {ty:TypeId} {pos:String} {after:Array Edge} {gd:Option (Nat×Bool)}
theorem fF{op:Op}(v:Value)(hm:mC op=false)(hg:bI all s gd=some true)(nb:md.nb s dst=true)
  (h:∀a w,ey n s a→Den H w→(execOp a.eval ⟨dst,op,ty,pos,after,gd⟩).run P w = .ok (.value v) w) (k:aE P n all md r (aQ s dst (.val v)) H K):aE P n all md (⟨dst,op,ty,pos,after,gd⟩::r) s H K:=
 .gh v (.inl hm) nb (fun a w ha hd=> .inl ⟨gy ha (iI (o:=⟨dst,op,ty,pos,after,gd⟩) hg),h a w ha hd⟩) k
theorem aJ{t t':TypeId}{x y:Operand}{k:IntKind}{a b:Int}(hx:ev s x=some (.int k a))(hy:ev s y=some (.int k b))(hf:Fit k (a+b))
  (hk:aE P n all md r (aQ s dst (.val (.int k (a+b)))) H K) (hg:bI all s gd=some true:=by rfl) (nb:md.nb s dst=true:=by rfl):aE P n all md (⟨dst,.binOp .add t x y t',ty,pos,after,gd⟩::r) s H K:=
 fF _ rfl hg nb (fun c w hc _=>by simp[execOp,a7 hc hx,a7 hc hy,pO,binOp,Op.intArith,sT hf]) hk
theorem cY{t t':TypeId}{x y:Operand}{k:IntKind}{a b:Int}(hx:ev s x=some (.int k a))(hy:ev s y=some (.int k b))(hf:Fit k (a-b))
  (hk:aE P n all md r (aQ s dst (.val (.int k (a-b)))) H K) (hg:bI all s gd=some true:=by rfl) (nb:md.nb s dst=true:=by rfl):aE P n all md (⟨dst,.binOp .sub t x y t',ty,pos,after,gd⟩::r) s H K:=
 fF _ rfl hg nb (fun c w hc _=>by simp[execOp,a7 hc hx,a7 hc hy,pO,binOp,Op.intArith,sT hf]) hk
theorem gB{t t':TypeId}{x y:Operand}{k:IntKind}{a b:Int}(hx:ev s x=some (.int k a))(hy:ev s y=some (.int k b))(hf:Fit k (a*b))
  (hk:aE P n all md r (aQ s dst (.val (.int k (a*b)))) H K) (hg:bI all s gd=some true:=by rfl) (nb:md.nb s dst=true:=by rfl):aE P n all md (⟨dst,.binOp .mul t x y t',ty,pos,after,gd⟩::r) s H K:=
 fF _ rfl hg nb (fun c w hc _=>by simp[execOp,a7 hc hx,a7 hc hy,pO,binOp,Op.intArith,sT hf]) hk
theorem QB{t t':TypeId}{x y:Operand}{k:IntKind}{a b:Int}{op:BinOp}{v:Int}(hx:ev s x=some (.int k a))(hy:ev s y=some (.int k b))(hv:Op.intArith op k a b=pure (.int k v))
  (hk:aE P n all md r (aQ s dst (.val (.int k v))) H K) (hg:bI all s gd=some true:=by rfl) (nb:md.nb s dst=true:=by rfl):aE P n all md (⟨dst,.binOp op t x y t',ty,pos,after,gd⟩::r) s H K:=
 fF _ rfl hg nb (fun c w hc _=>by
  cases op <;> simp[Op.intArith,stuck,pure]at hv <;> simp[execOp,a7 hc hx,a7 hc hy,pO,binOp,Op.intArith,hv]) hk
theorem iY{t t':TypeId}{x y:Operand}{k:IntKind}{a b:Int}(hx:ev s x=some (.int k a))(hy:ev s y=some (.int k b))(ha:0≤a)(hb:0<b)(hf:Fit k (a/b))
  (hk:aE P n all md r (aQ s dst (.val (.int k (a/b)))) H K) (hg:bI all s gd=some true:=by rfl) (nb:md.nb s dst=true:=by rfl):aE P n all md (⟨dst,.binOp .quo t x y t',ty,pos,after,gd⟩::r) s H K:=
 fF _ rfl hg nb (fun c w hc _=>by
  have e:a.tdiv b=a/b:=Int.tdiv_eq_ediv_of_nonneg ha
  have h0:b≠0:=by omega
  simp[execOp,a7 hc hx,a7 hc hy,pO,binOp,Op.intDiv,h0,e,sT hf]) hk
theorem jR{t t':TypeId}{x y:Operand}{k:IntKind}{a b:Int}(hx:ev s x=some (.int k a))(hy:ev s y=some (.int k b))(ha:0≤a)(hb:0<b)
  (hk:aE P n all md r (aQ s dst (.val (.int k (a%b)))) H K) (hg:bI all s gd=some true:=by rfl) (nb:md.nb s dst=true:=by rfl):aE P n all md (⟨dst,.binOp .rem t x y t',ty,pos,after,gd⟩::r) s H K:=
 fF _ rfl hg nb (fun c w hc _=>by
  have e:a.tmod b=a%b:=Int.tmod_eq_emod_of_nonneg ha
  have h0:b≠0:=by omega
  simp[execOp,a7 hc hx,a7 hc hy,pO,binOp,Op.intDiv,h0,e]) hk
theorem QC{t t':TypeId}{x y:Operand}{k:IntKind}{a b:Int}(hx:ev s x=some (.int k a))(hy:ev s y=some (.int k b))(hb:b≠0)(hf:Fit k (a.tdiv b))
  (hk:aE P n all md r (aQ s dst (.val (.int k (a.tdiv b)))) H K) (hg:bI all s gd=some true:=by rfl) (nb:md.nb s dst=true:=by rfl):aE P n all md (⟨dst,.binOp .quo t x y t',ty,pos,after,gd⟩::r) s H K:=
 fF _ rfl hg nb (fun c w hc _=>by simp[execOp,a7 hc hx,a7 hc hy,pO,binOp,Op.intDiv,hb,sT hf]) hk
theorem vo{t:TypeId}{x:Operand}{k:IntKind}{a:Int}(hx:ev s x=some (.int k a))(hf:Fit k (-a))
  (hk:aE P n all md r (aQ s dst (.val (.int k (-a)))) H K) (hg:bI all s gd=some true:=by rfl) (nb:md.nb s dst=true:=by rfl):aE P n all md (⟨dst,.unOp .neg t x,ty,pos,after,gd⟩::r) s H K:=
 fF _ rfl hg nb (fun c w hc _=>by simp[execOp,a7 hc hx,Op.unary,Op.intArith,sT hf]) hk
theorem ct{src d:TypeId}{x:Operand}{k k':IntKind}{a:Int}(cT:iH P tb)(hd:tb[d]? = some (.it k'))(hs:tb[src]? = some (.it k))(hx:ev s x=some (.int k a))(hf:Fit k' a)
  (hk:aE P n all md r (aQ s dst (.val (.int k' a))) H K) (hg:bI all s gd=some true:=by rfl) (nb:md.nb s dst=true:=by rfl):aE P n all md (⟨dst,.convert src d x,ty,pos,after,gd⟩::r) s H K:=
 fF _ rfl hg nb (fun c w hc _=>by
  have h1:=cT d _ hd
  have h2:=cT src _ hs
  simp only[bW]at h1 h2
  simp[execOp,a7 hc hx,convert,run_underlying h1,run_underlying h2,Conv.intToInt,sT hf]) hk
theorem Jy{src d:TypeId}{x:Operand}{k k':IntKind}{a:Int}(cT:iH P tb)(hd:tb[d]? = some (.it k'))(hs:tb[src]? = some (.it k))(hx:ev s x=some (.int k a))
  (hk:aE P n all md r (aQ s dst (.val (.int k' (k'.wrap a)))) H K) (hg:bI all s gd=some true:=by rfl) (nb:md.nb s dst=true:=by rfl):aE P n all md (⟨dst,.convert src d x,ty,pos,after,gd⟩::r) s H K:=
 fF _ rfl hg nb (fun c w hc _=>by
  have h1:=cT d _ hd
  have h2:=cT src _ hs
  simp only[bW]at h1 h2
  simp[execOp,a7 hc hx,convert,run_underlying h1,run_underlying h2,Conv.intToInt]) hk
theorem Jz{t t':TypeId}{x y:Operand}{a b:Bool}(ht:P.underlying t=some .bool)(hx:ev s x=some (.bool a))(hy:ev s y=some (.bool b))
  (hk:aE P n all md r (aQ s dst (.val (.bool (a == b)))) H K) (hg:bI all s gd=some true:=by rfl) (nb:md.nb s dst=true:=by rfl):aE P n all md (⟨dst,.binOp .eql t x y t',ty,pos,after,gd⟩::r) s H K:=
 fF _ rfl hg nb (fun c w hc _=>by
  have e:(eqGuard .eql t x y (.bool a) (.bool b)).run P w = .ok () w:=by simp[eqGuard]
  simp only[execOp,a7 hc hx,a7 hc hy,Sem.run_bind,e,run_eql_bool w t a b ht,Result.andThen_ok,Sem.run_pure]) hk
theorem BA{t t':TypeId}{x y:Operand}{a b:Bool}(ht:P.underlying t=some .bool)(hx:ev s x=some (.bool a))(hy:ev s y=some (.bool b))
  (hk:aE P n all md r (aQ s dst (.val (.bool (a != b)))) H K) (hg:bI all s gd=some true:=by rfl) (nb:md.nb s dst=true:=by rfl):aE P n all md (⟨dst,.binOp .neq t x y t',ty,pos,after,gd⟩::r) s H K:=
 fF _ rfl hg nb (fun c w hc _=>by
  have e:(eqGuard .neq t x y (.bool a) (.bool b)).run P w = .ok () w:=by simp[eqGuard]
  simp only[execOp,a7 hc hx,a7 hc hy,Sem.run_bind,e,run_neq_bool w t a b ht,Result.andThen_ok,Sem.run_pure,bne]) hk
theorem xE{t t':TypeId}{x y:Operand}{p:Option Addr}(ht:P.underlying t=some (.pointer (P.pointee t)))(hx:ev s x=some (.pointer p))(hy:ev s y=some (.pointer none))
  (hk:aE P n all md r (aQ s dst (.val (.bool p.isNone))) H K) (hg:bI all s gd=some true:=by rfl) (nb:md.nb s dst=true:=by rfl):aE P n all md (⟨dst,.binOp .eql t x y t',ty,pos,after,gd⟩::r) s H K:=
 fF _ rfl hg nb (fun c w hc _=>by
  have e:(eqGuard .eql t x y (.pointer p) (.pointer none)).run P w = .ok () w:=by simp[eqGuard]
  simp only[execOp,a7 hc hx,a7 hc hy,Sem.run_bind,e,run_eql_pointer_nil w t p ht,Result.andThen_ok,Sem.run_pure]) hk
theorem qY{t t':TypeId}{x y:Operand}{p:Option Addr}(ht:P.underlying t=some (.pointer (P.pointee t)))(hx:ev s x=some (.pointer p))(hy:ev s y=some (.pointer none))
  (hk:aE P n all md r (aQ s dst (.val (.bool (!p.isNone)))) H K) (hg:bI all s gd=some true:=by rfl) (nb:md.nb s dst=true:=by rfl):aE P n all md (⟨dst,.binOp .neq t x y t',ty,pos,after,gd⟩::r) s H K:=
 fF _ rfl hg nb (fun c w hc _=>by
  have e:(eqGuard .neq t x y (.pointer p) (.pointer none)).run P w = .ok () w:=by simp[eqGuard]
  simp only[execOp,a7 hc hx,a7 hc hy,Sem.run_bind,e,run_neq_pointer_nil w t p ht,Result.andThen_ok,Sem.run_pure]) hk
def Rd(H:Heap)(A:Option Addr)(xs:List Value):Prop:=∀(i:Nat)(v:Value),xs[i]? = some v→∃ad,A=some ad∧cell H (ad.add i)=some v
theorem Rd.le{H H':Heap}{A:Option Addr}{xs:List Value}(h:Rd H A xs)(hl:Heap.le H H'):Rd H' A xs:=fun i v hv=>by
 obtain⟨ad,h1,h2⟩:=h i v hv
 exact⟨ad,h1,cg hl h2⟩
theorem Rd.nil(H:Heap)(A:Option Addr):Rd H A []:=fun i v h=>by simp at h
theorem add_add(a:Addr)(i j:Nat):(a.add i).add j=a.add (i+j):=by
 unfold Addr.add
 by_cases hi:i=0 <;> by_cases hj:j=0 <;> simp[hi,hj,Nat.add_assoc]
theorem pQ{t:TypeId}{x i:Operand}{ad:Addr}{m c:Nat}{k:IntKind}{j:Int}{e sz:Nat}(cT:iH P tb)(ht:tb[t]? = some (.sl e sz))(hx:ev s x=some (.slice (some ad) m c))(hi:ev s i=some (.int k j))(h0:0≤j)(h1:j<m)
  (hk:aE P n all md r (aQ s dst (.val (.pointer (some (ad.add (j.toNat*sz)))))) H K) (hg:bI all s gd=some true:=by rfl) (nb:md.nb s dst=true:=by rfl):aE P n all md (⟨dst,.indexAddr t x i,ty,pos,after,gd⟩::r) s H K:=
 fF _ rfl hg nb (fun a w ha _=>by
  obtain⟨hu,ii,h2,h3⟩:=cT t _ ht
  simp[execOp,a7 ha hx,a7 ha hi,Instr.indexAt,asIntOf,run_underlying hu,h0,h1,sizeOf,typeInfo,h2,h3]) hk
theorem aX{t:TypeId}{x:Operand}{f:Nat}{ad:Addr}{m o z:Nat}{ps:List (Nat×Nat)}(cT:iH P tb)(ht:tb[t]? = some (.st m ps))(hf:ps[f]? = some (o,z))(hx:ev s x=some (.pointer (some ad)))
  (hk:aE P n all md r (aQ s dst (.val (.pointer (some (ad.add o))))) H K) (hg:bI all s gd=some true:=by rfl) (nb:md.nb s dst=true:=by rfl):aE P n all md (⟨dst,.fieldAddr t x f,ty,pos,after,gd⟩::r) s H K:=
 fF _ rfl hg nb (fun a w ha _=>by
  obtain⟨fs,ii,hu,h2,h3,_,h4⟩:=cT t _ ht
  obtain⟨fd,jj,h5,h6,h7,h9,fU⟩:=h4 f _ hf
  have h8:jj.size≠0:=by rw[h9];exact fU
  simp only at h6
  simp[execOp,a7 ha hx,Instr.fieldAt,run_underlying hu,h5,Instr.sureAddr,By h7 h8,h6]) hk
theorem aP{t:TypeId}{x:Operand}{ad:Addr}{ti:Ti}{v:Value}(cT:iH P tb)(ht:tb[t]? = some ti)(h1:sR ti=true)(hx:ev s x=some (.pointer (some ad)))(hc:cell H ad=some v)
  (hk:aE P n all md r (aQ s dst (.val v)) H K) (hg:bI all s gd=some true:=by rfl) (nb:md.nb s dst=true:=by rfl):aE P n all md (⟨dst,.load t x,ty,pos,after,gd⟩::r) s H K:=
 fF _ rfl hg nb (fun a w ha hd=>by simp[execOp,a7 ha hx,Instr.loadAt,Instr.sureAddr,EK (cT t _ ht) h1 (hd.cell hc)]) hk
theorem vp{t:TypeId}{x:Operand}{ad:Addr}{m:Nat}{sS:List (Nat×Nat)}{vs:List Value}(cT:iH P tb)(ht:tb[t]? = some (.st m sS))(hx:ev s x=some (.pointer (some ad)))(hm:vs.length=m)
  (hc:∀(i:Nat)(v:Value),vs[i]? = some v→cell H (ad.add i)=some v)
  (hk:aE P n all md r (aQ s dst (.val (.agg vs.toArray))) H K) (hg:bI all s gd=some true:=by rfl) (nb:md.nb s dst=true:=by rfl):aE P n all md (⟨dst,.load t x,ty,pos,after,gd⟩::r) s H K:=
 fF _ rfl hg nb (fun a w ha hd=>by
  obtain⟨fs,ii,hu,h2,h3,_,h4⟩:=cT t _ ht
  simp[execOp,a7 ha hx,Instr.loadAt,Instr.sureAddr,Js hu h2 vs (by rw[h3,hm]) (fun j v hv=>hd.cell (hc j v hv))]) hk
theorem a5{t t2:TypeId}{x i:Operand}{A:Option Addr}{m c d1:Nat}{sU:Option Nat}{nD:TypeId}{nE:String}{nF:Array Edge}{jS:Option (Nat×Bool)}{k:IntKind}{j:Int}{e:Nat}{ti:Ti}{xs:List Value}{v:Value}
  (cT:iH P tb) (ht:tb[t]? = some (.sl e 1)) (fG:tb[t2]? = some ti) (h1:sR ti=true) (hx:ev s x=some (.slice A m c)) (hi:ev s i=some (.int k j)) (hr:Rd H A xs) (hv:xs[j.toNat]? = some v) (h0:0≤j) (hm:j<m)
  (hk:∀ad:Addr,aE P n all md r (aQ (put s d1 (.val (.pointer (some ad)))) sU (.val v)) H K) (hg:bI all s gd=some true:=by rfl) (nb:md.nb s (some d1)=true:=by rfl) (dC:∀ad:Addr,bI all (put s d1 (.val (.pointer (some ad)))) jS=some true:=by exact fun _=>rfl) (sV:∀ad:Addr,md.nb (put s d1 (.val (.pointer (some ad)))) sU=true:=by exact fun _=>rfl):
  aE P n all md (⟨some d1,.indexAddr t x i,ty,pos,after,gd⟩::⟨sU,.load t2 (.tmp d1),nD,nE,nF,jS⟩::r) s H K:=by
 obtain⟨ad,rfl,hc⟩:=hr _ _ hv
 refine pQ cT ht hx hi h0 hm (aP (ad:=ad.add (j.toNat*1)) cT fG h1 (by simp[ev,put,aQ]) (by rw[Nat.mul_one];exact hc) (hk _) (dC _) (sV _)) hg nb
theorem cQ{t t2:TypeId}{x i:Operand}{A:Option Addr}{m c d1:Nat}{sU:Option Nat}{nD:TypeId}{nE:String}{nF:Array Edge}{jS:Option (Nat×Bool)}{k:IntKind}{j:Int}{e sz:Nat}{sS:List (Nat×Nat)}{xs vs:List Value}
  (cT:iH P tb) (ht:tb[t]? = some (.sl e sz)) (fG:tb[t2]? = some (.st sz sS)) (hx:ev s x=some (.slice A m c)) (hi:ev s i=some (.int k j)) (hr:Rd H A xs) (hl:vs.length=sz) (hp:0<sz) (hv:∀(q:Nat)(v:Value),vs[q]? = some v→xs[j.toNat*sz+q]? = some v) (h0:0≤j) (hm:j<m)
  (hk:∀ad:Addr,aE P n all md r (aQ (put s d1 (.val (.pointer (some ad)))) sU (.val (.agg vs.toArray))) H K) (hg:bI all s gd=some true:=by rfl) (nb:md.nb s (some d1)=true:=by rfl) (dC:∀ad:Addr,bI all (put s d1 (.val (.pointer (some ad)))) jS=some true:=by exact fun _=>rfl) (sV:∀ad:Addr,md.nb (put s d1 (.val (.pointer (some ad)))) sU=true:=by exact fun _=>rfl):
  aE P n all md (⟨some d1,.indexAddr t x i,ty,pos,after,gd⟩::⟨sU,.load t2 (.tmp d1),nD,nE,nF,jS⟩::r) s H K:=by
 have QD:vs[0]? = some (vs[0]'(by omega)):=List.getElem?_eq_getElem (by omega)
 obtain⟨ad,rfl,_⟩:=hr _ _ (hv 0 _ QD)
 refine pQ cT ht hx hi h0 hm (vp (ad:=ad.add (j.toNat*sz)) cT fG (by simp[ev,put,aQ]) hl (fun q v hq=> ?_) (hk _) (dC _) (sV _)) hg nb
 obtain⟨JA,h1,h2⟩:=hr _ _ (hv q v hq)
 cases h1
 rw[add_add];exact h2
def fm(P:Program)(e sz:Nat)(z:Value)(bytes:Nat):Prop:=∃i,P.info? e=some i∧i.zero=some z∧i.size=sz∧i.bytes=bytes∧z.cells.size=sz∧0<sz
theorem bR{e:TypeId}{x:Operand}{d:Nat}{v:Value}{cs:List Value}(hx:ev s x=some v)(hc:v.cells=cs.toArray)
  (hk:aE P n all md r (eJ s d cs) H K) (hg:bI all s gd=some true:=by rfl) (nb:md.nb s (some d)=true:=by rfl):aE P n all md (⟨some d,.box e x,ty,pos,after,gd⟩::r) s H K:=
 .gi d rfl rfl nb cs (fun a w ha=>⟨gy ha (iI (o:=⟨some d,.box e x,ty,pos,after,gd⟩) hg),e,by
  simp[execOp,Instr.box,newVar,newRow,newObj,a7 ha hx,hc,Sem.run]⟩) hk
theorem bG{e:TypeId}{d sz bytes:Nat}{z:Value}{cs:List Value}(he:fm P e sz z bytes)(hc:z.cells=cs.toArray)
  (hk:aE P n all md r (eJ s d cs) H K) (hg:bI all s gd=some true:=by rfl) (nb:md.nb s (some d)=true:=by rfl):aE P n all md (⟨some d,.alloc e,ty,pos,after,gd⟩::r) s H K:=
 .gi d rfl rfl nb cs (fun a w ha=>⟨gy ha (iI (o:=⟨some d,.alloc e,ty,pos,after,gd⟩) hg),e,by
  obtain⟨i,h1,h2,_⟩:=he
  simp[execOp,Instr.alloc,zeroValue,typeInfo,h1,h2,newVar,newRow,newObj,hc,Sem.run]⟩) hk
theorem JB{e:TypeId}{x:Operand}{d:Nat}{v:Value}{cs:List Value}(hx:ev s x=some v)(hc:v.cells=cs.toArray)
  (hk:∀g,H g=none→aE P n all .plain r (put s d (.val (.pointer (some ⟨g,0,none⟩)))) (ins H g (whole cs e)) K) (hg:bI all s gd=some true:=by rfl):aE P n all .plain (⟨some d,.box e x,ty,pos,after,gd⟩::r) s H K:=
 .fresh (fun g=> .pointer (some ⟨g,0,none⟩)) cs e (.inr ⟨rfl,rfl⟩) rfl (fun a w ha=>⟨gy ha (iI (o:=⟨some d,.box e x,ty,pos,after,gd⟩) hg),by
  simp[execOp,Instr.box,newVar,newRow,newObj,a7 ha hx,hc,Sem.run]⟩) fun g hg _=>hk g hg
theorem QE{e:TypeId}{d sz bytes:Nat}{z:Value}{cs:List Value}(he:fm P e sz z bytes)(hc:z.cells=cs.toArray)
  (hk:∀g,H g=none→aE P n all .plain r (put s d (.val (.pointer (some ⟨g,0,none⟩)))) (ins H g (whole cs e)) K) (hg:bI all s gd=some true:=by rfl):aE P n all .plain (⟨some d,.alloc e,ty,pos,after,gd⟩::r) s H K:=
 .fresh (fun g=> .pointer (some ⟨g,0,none⟩)) cs e (.inr ⟨rfl,rfl⟩) rfl (fun a w ha=>⟨gy ha (iI (o:=⟨some d,.alloc e,ty,pos,after,gd⟩) hg),by
  obtain⟨i,h1,h2,_⟩:=he
  simp[execOp,Instr.alloc,zeroValue,typeInfo,h1,h2,newVar,newRow,newObj,hc,Sem.run]⟩) fun g hg _=>hk g hg
def aA(cs:List Value)(off:Nat):List Value→List Value
 | []=>cs
 | v::vs=>aA (cs.set off v) (off+1) vs
theorem xF(vs:List Value):∀(cs:List Value)(off:Nat),(aA cs off vs).length=cs.length:=by
 induction vs with
 | nil=>intro cs off;rfl
 | cons v vs ih=>intro cs off;simp[aA,ih]
def sW:Value→Bool
 | .agg _ | .tuple _=>false
 | _=>true
theorem BB{g:Nat}{e:TypeId}:∀(vs:List Value)(cs:List Value)(w:World)(base i:Nat),w.heap[g]? = some (.cells cs.toArray e (0,0))→(∀v,v∈vs→sW v=true)→base+i+vs.length≤cs.length→
  ∃w',(storeCells ⟨g,base,none⟩ vs i).run P w = .ok () w'∧w'.os=w.os∧w'.tape=w.tape∧w'.output=w.output∧w'.heap.size=w.heap.size∧(∀k,k≠g→w'.heap[k]? = w.heap[k]?)∧
   w'.heap[g]? = some (.cells (aA cs (base+i) vs).toArray e (0,0)):=by
 intro vs
 induction vs with
 | nil=>intro cs w base i hg _ _;exact⟨w,by simp[storeCells],rfl,rfl,rfl,rfl,fun _ _=>rfl,hg⟩
 | cons v vs ih=>
  intro cs w base i hg h1 hl
  simp only[List.length_cons]at hl
  have pP:(⟨g,base,none⟩:Addr).add i=⟨g,base+i,none⟩:=by
   unfold Addr.add;split
   ·rename_i e0;rw[e0];rfl
   ·rfl
  have QF:w.cell? ⟨g,base+i,none⟩=some (cs[base+i]'(by omega)):=by
   simp[World.cell?,hg,show base+i<cs.length by omega]
  have mK:w.frozen? ⟨g,base+i,none⟩=false:=by simp[World.frozen?,hg]
  have cJ:(store ⟨g,base+i,none⟩ v).run P w = .ok () (w.setCell ⟨g,base+i,none⟩ v):=by
   have:=h1 v (List.mem_cons_self ..)
   cases v <;> simp[sW]at this <;> simp[store,Sem.run,QF,mK]
  have km:(w.setCell ⟨g,base+i,none⟩ v).heap[g]? = some (.cells (cs.set (base+i) v).toArray e (0,0)):=by
   simp[World.setCell,Array.getElem?_modify,hg]
  obtain⟨w',h2,h3,h4,h5,h6,h7,h8⟩:=ih (cs.set (base+i) v) (w.setCell ⟨g,base+i,none⟩ v) base (i+1) km (fun u hu=>h1 u (List.mem_cons_of_mem _ hu)) (by simp;omega)
  refine⟨w',?_,h3,h4,h5,by rw[h6];simp[World.setCell],fun k hk=> ?_,h8⟩
  ·simp only[storeCells,pP,Sem.run_bind,cJ,Result.andThen_ok]
   exact h2
  ·rw[h7 k hk]
   simp[World.setCell,Array.getElem?_modify,Ne.symm hk]
theorem aO{t:TypeId}{x:Nat}{y:Operand}{b off m:Nat}{cs vs:List Value}{v:Value}{i:TypeInfo}(hx:(x=b∧off=0)∨s x=some (.ref b off))(hb:s b=some (.box cs))(hy:ev s y=some v)(hv:v.cells=vs.toArray)
  (hi:P.info? t=some i) (hz:i.size=m) (hm:vs.length=m) (h1:vs.all sW=true) (hl:Nat.ble (off+m) cs.length=true) (hk:aE P n all md r (put s b (.box (aA cs off vs))) H K) (hg:bI all s gd=some true:=by rfl) (gJ:md.I6 b=true:=by rfl):
  aE P n all md (⟨none,.store t (.tmp x) y,ty,pos,after,gd⟩::r) s H K:=
 .iV b cs _ rfl rfl hb gJ (fun H' G a w iE=>by
  refine⟨gy iE.aH (iI (o:=⟨none,.store t (.tmp x) y,ty,pos,after,gd⟩) hg),?_⟩
  obtain⟨h2,_,e,h3⟩:=iE.boxes _ _ hb
  have he:a.eval (.tmp x) = .pointer (some ⟨G b,off,none⟩):=by
   rcases hx with ⟨rfl,rfl⟩ | hx
   ·simp[Act.eval,h2]
   ·simp[Act.eval,iE.refs _ _ _ _ hx hb]
  have hlen:=Nat.le_of_ble_eq_true hl
  obtain⟨w',h4,h5,h6,h7,h8,h9,fU⟩:=BB (P:=P) vs cs w off 0 h3 (fun u hu=>List.all_eq_true.1 h1 u hu) (by omega)
  refine⟨w',?_,⟨h5,h6,h7,h8,h9,e,fU⟩⟩
  simp[execOp,he,a7 iE.aH hy,Instr.storeAt,Instr.sureAddr,storeVar,sizeOf,typeInfo,hi,hz,hv,hm,h4]) hk
def mL(s:St):List Operand→Option (List Value)
 | []=>some []
 | x::xs=>(match ev s x with
  | some v=>(match mL s xs with | some vs=>some (v::vs) | none=>none)
  | none=>none)
theorem EL{a:Act}(h:ey n s a):∀(xs:List Operand)(vs:List Value),mL s xs=some vs→xs.map a.eval=vs:=by
 intro xs
 induction xs with
 | nil=>intro vs hv;simp only[mL,Option.some.injEq]at hv;subst hv;rfl
 | cons x xs ih=>
  intro vs hv
  simp only[mL]at hv
  split at hv
  ·rename_i v hx
   split at hv
   ·rename_i us hu
    simp only[Option.some.injEq]at hv
    subst hv
    simp[a7 h hx,ih us hu]
   ·cases hv
  ·cases hv
theorem xG{f:Operand}{iZ:FuncId}{cap args:List Value}{xs:List Operand}{ts:Array TypeId}{aY:Value→Heap→Prop}(hf:ev s f=some (.func (.func iZ) #[] cap.toArray))(hx:mL s xs=some args)
  (hg:bI all s gd=some true) (h:Fn P iZ (args++cap).toArray H aY):EV P n all ⟨dst,.call ⟨.value f,xs.toArray,ts⟩,ty,pos,after,gd⟩ s H aY:=fun a w ha hd=>by
 refine⟨gy ha (iI (o:=⟨dst,.call ⟨.value f,xs.toArray,ts⟩,ty,pos,after,gd⟩) hg),?_⟩
 obtain⟨fn,h1,h2,h3⟩:=h.ent
 have qU:(execOp a.eval ⟨dst,.call ⟨.value f,xs.toArray,ts⟩,ty,pos,after,gd⟩).run P w = .ok (.enter iZ (args++cap).toArray) w:=by
  have QG:¬fn.name = "runtime.NumGoroutine" :=by simpa using h3
  have QH:¬fn.body=none:=fun e=>by rw[e]at h2;cases h2
  simp[execOp,resolve,a7 ha hf,Deferred.ofValue,invoke,callFunc,program,Sem.run,h1,QH,QG,EL ha xs args hx]
 unfold iD
 rw[qU]
 exact(h.run w hd).mono fun e w' ⟨v,he,H',hp,jr,QI⟩=>⟨v,he,H',hp,jr,QI⟩
theorem xH{f:Operand}{xs:Array Operand}{ts:Array TypeId}:kd (.call ⟨.value f,xs,ts⟩)=1:=by simp[kd,Bc]
theorem aq{f:Operand}{iZ:FuncId}{args:List Value}{xs:List Operand}{ts:Array TypeId}{aY:Value→Heap→Prop}(hf:ev s f=some (.func (.func iZ) #[] #[]))(hx:mL s xs=some args)
  (h:Fn P iZ args.toArray H aY) (hk:∀v H',aY v H'→aE P n all .plain r (aQ s dst (.val v)) H' K) (hg:bI all s gd=some true:=by rfl):aE P n all .plain (⟨dst,.call ⟨.value f,xs.toArray,ts⟩,ty,pos,after,gd⟩::r) s H K:=
 .fj aY (.inl xH) rfl (xG (cap:=[]) hf hx hg (by simpa using h)) trivial fun v H' hp _=>hk v H' hp
theorem aI{f:Operand}{iZ:FuncId}{args:List Value}{xs:List Operand}{ts:Array TypeId}{aY:Value→Heap→Prop}(hf:ev s f=some (.func (.func iZ) #[] #[]))(hx:mL s xs=some args)
  (h:Fn P iZ args.toArray H aY) (hm:∀v H',aY v H'→Heap.le H H') (hk:∀v H',aY v H'→aE P n all md r (aQ s dst (.val v)) H' K) (hg:bI all s gd=some true:=by rfl) (nb:md.nb s dst=true:=by rfl):aE P n all md (⟨dst,.call ⟨.value f,xs.toArray,ts⟩,ty,pos,after,gd⟩::r) s H K:=
 .fj aY (.inl xH) nb (xG (cap:=[]) hf hx hg (by simpa using h)) (by cases md <;> first | trivial | exact⟨rfl,hm⟩ | exact .inr hm) fun v H' hp _=>hk v H' hp
theorem QJ{f:Operand}{iZ:FuncId}{cap args:List Value}{xs:List Operand}{ts:Array TypeId}{aY:Value→Heap→Prop}(hf:ev s f=some (.func (.func iZ) #[] cap.toArray))(hx:mL s xs=some args)
  (h:Fn P iZ (args++cap).toArray H aY) (hm:md = .plain∨∀v H',aY v H'→Heap.le H H') (hk:∀v H',aY v H'→aE P n all md r (aQ s dst (.val v)) H' K) (hg:bI all s gd=some true:=by rfl) (nb:md.nb s dst=true:=by rfl):aE P n all md (⟨dst,.call ⟨.value f,xs.toArray,ts⟩,ty,pos,after,gd⟩::r) s H K:=
 .fj aY (.inl xH) nb (xG (cap:=cap) hf hx hg h) (by rcases hm with rfl | hm <;> first | trivial | (cases md <;> first | trivial | exact⟨rfl,hm⟩ | exact .inr hm)) fun v H' hp _=>hk v H' hp
end
end Go.au
namespace Go.au
def bm(H:Heap)(v:Value)(e sz n:Nat)(xs:List Value):Prop:=
 xs.length=n*sz∧((v = .slice none 0 0∧n=0)∨∃g cap,v = .slice (some ⟨g,0,none⟩) n cap∧H g=some ⟨xs,cap*sz,e,true⟩∧n≤cap∧cap≤maxLen)
theorem oG(H:Heap)(e sz:Nat):bm H (.slice none 0 0) e sz 0 []:=⟨by simp,.inl ⟨rfl,rfl⟩⟩
theorem bm.rd{H:Heap}{A:Option Addr}{m c e sz n:Nat}{xs:List Value}(h:bm H (.slice A m c) e sz n xs):Rd H A xs:=fun i v hv=>by
 rcases h.2 with ⟨h1,h2⟩ | ⟨g,cap,h1,h2,_⟩
 ·have:xs = []:=List.eq_nil_of_length_eq_zero (by rw[h.1,h2,Nat.zero_mul])
  rw[this]at hv;simp at hv
 ·cases h1
  refine⟨_,rfl,?_⟩
  have pP:(⟨g,0,none⟩:Addr).add i=⟨g,i,none⟩:=by
   unfold Addr.add;split
   ·rename_i e0;rw[e0]
   ·simp
  simp[cell,pP,h2,hv]
theorem bm.form{H:Heap}{v:Value}{e sz n:Nat}{xs:List Value}(h:bm H v e sz n xs):∃A c,v = .slice A n c:=by
 rcases h.2 with ⟨h1,h2⟩ | ⟨g,cap,h1,_⟩
 ·exact⟨none,0,by rw[h1,h2]⟩
 ·exact⟨_,cap,h1⟩
theorem bm.same{H H':Heap}{v:Value}{e sz n:Nat}{xs:List Value}(h:bm H v e sz n xs)(hs:∀g,v.ownBlock=some g→H' g=H g):bm H' v e sz n xs:=by
 refine⟨h.1,?_⟩
 rcases h.2 with h1 | ⟨g,cap,h1,h2,h3⟩
 ·exact .inl h1
 ·refine .inr ⟨g,cap,h1,?_,h3⟩
  rw[hs g (by rw[h1];rfl)];exact h2
theorem bm.block{H:Heap}{v:Value}{e sz n:Nat}{xs:List Value}(h:bm H v e sz n xs){g:Nat}(hg:v.ownBlock=some g):∃ent,H g=some ent:=by
 rcases h.2 with ⟨h1,_⟩ | ⟨g',cap,h1,h2,_⟩
 ·rw[h1]at hg;cases hg
 ·rw[h1]at hg;cases hg;exact⟨_,h2⟩
structure App(H:Heap)(v:Value)(e sz n:Nat)(xs:List Value)(v':Value)(H':Heap):Prop where
 own:bm H' v' e sz n xs
 le:Heap.le H H'
 same:∀k ent,H k=some ent→v.ownBlock≠some k→H' k=some ent
 at_:v'.ownBlock=v.ownBlock∨∃g,v'.ownBlock=some g∧H g=none
section
variable {P:Program} {n:Nat} {tb:Tb} {all:Array Oper} {s:St} {H:Heap} {md:Mode} {K:St→Heap→Prop} {r:List Oper} {dst:Option Nat} {ty:TypeId} {pos:String} {after:Array Edge} {gd:Option (Nat×Bool)}
theorem bm.world{v:Value}{e sz m:Nat}{xs:List Value}(h:bm H v e sz m xs){w:World}(hd:Den H w):w.ownsRow 0 e sz v m xs:=by
 refine⟨h.1,?_⟩
 rcases h.2 with h1 | ⟨g,cap,h1,h2,h3,h4⟩
 ·exact .inl h1
 ·obtain⟨o,h5,c,fz,rfl,h6,h7,h8⟩:=hd g _ h2
  have mK:=h8 rfl
  subst mK
  refine .inr ⟨g,cap,c,h1,Nat.zero_le _,h5,h3,h4,h6,?_⟩
  have hlen:m*sz≤c.size:=by
   have:c.size=cap*sz:=h6
   rw[this];exact Nat.mul_le_mul_right _ h3
  apply List.ext_getElem?
  intro i
  rw[List.getElem?_take]
  by_cases hi:i<m*sz
  ·rw[if_pos hi]
   have hx:xs[i]? = some (xs[i]'(by rw[h.1];exact hi)):=List.getElem?_eq_getElem _
   rw[hx]
   have:=h7 i _ hx
   simpa using this
  ·rw[if_neg hi,List.getElem?_eq_none (by rw[h.1];omega)]
theorem Rd.world{A:Option Addr}{xs:List Value}(h:Rd H A xs){w:World}(hd:Den H w){ad:Addr}(hA:A=some ad):∀(j:Nat)(u:Value),xs[j]? = some u→w.cell? (ad.add j)=some u:=fun j u hu=>by
 obtain⟨JA,h1,h2⟩:=h j u hu
 rw[hA]at h1
 cases h1
 exact hd.cell h2
theorem vq{w w':World}{g:Nat}{ent:aG}{o:Obj}(hd:Den H w)(QK:w'.os=w.os)(BC:w'.tape=w.tape)(QL:w'.output=w.output)(bZ:w.heap.size≤w'.heap.size)
  (EM:∀k,k<w.heap.size→k≠g→w'.heap[k]? = w.heap[k]?) (hg:w'.heap[g]? = some o) (ho:ent.of o) (eP:(∃e0,H g=some e0∧e0.own=true∧ent.own=true∧ent.elem=e0.elem∧ent.size=e0.size)∨w.heap.size≤g):Den (ins H g ent) w'∧Fx H w (ins H g ent) w':=by
 refine⟨fun k e hk=> ?_,⟨QK,BC,QL,bZ,fun k hk h0=> ?_,fun k c t fz hc=> ?_⟩⟩
 ·by_cases ek:k=g
  ·subst ek
   rw[bn]at hk
   cases hk
   exact⟨o,hg,ho⟩
  ·rw[bD _ _ ek]at hk
   obtain⟨o',h1,h2⟩:=hd k e hk
   exact⟨o',by rw[EM k (hd.lt hk) ek];exact h1,h2⟩
 ·have ek:k≠g:=fun e=>by
   subst e
   rcases eP with ⟨e0,h,_⟩ | h
   ·rw[h0]at h;cases h
   ·omega
  rw[bD _ _ ek]
  exact⟨EM k hk ek,h0⟩
 ·have a8:=(Array.getElem?_eq_some_iff.1 hc).1
  by_cases ek:k=g
  ·subst ek
   rcases eP with ⟨e0,h,h1,h2,h3,h4⟩ | h
   ·obtain⟨o',k1,c1,QM,rfl,k2,_,k3⟩:=hd k e0 h
    rw[hc]at k1
    cases k1
    obtain⟨c2,fz2,rfl,k4,_,k5⟩:=ho
    have e1:=k3 h1
    have e2:=k5 h2
    subst e1
    subst e2
    exact⟨c2,by rw[hg,h3],by rw[k4,h4,k2]⟩
   ·omega
  ·exact⟨c,by rw[EM k a8 ek];exact hc,rfl⟩
theorem JC{w:World}{t e sz bytes:Nat}{z v:Value}{m k c:Nat}{A:Option Addr}{xs news:List Value}(hd:Den H w)(ht:P.underlying t=some (.slice e))(he:fm P e sz z bytes)(ho:bm H v e sz m xs)(hr:Rd H A news)(hl:news.length=k*sz)
  (h1:∀u∈news,u.oneCell'=true) (hb:(m+k)*bytes≤140737488355328) (mM:m+k≤9223372036854775807) (ty:TypeId):
  ∃v' w' H',(Builtin.append_ #[t,t] ty #[v,.slice A k c]).run P w = .ok v' w'∧App H v e sz (m+k) (xs++news) v' H'∧Den H' w'∧Fx H w H' w':=by
 obtain⟨i,hi,hz,bZ,BD,xI,hp⟩:=he
 subst bZ
 subst BD
 have hlen:(xs++news).length=(m+k)*i.size:=by rw[List.length_append,ho.1,hl,Nat.add_mul]
 have grown:∀(oH:Nat)(w1:World)(pre:Array Value),oH<m+k→pre=xs.toArray→w1=w.drew.alloc (.cells (pre++news.toArray++Builtin.zeroCells z.cells (grownCap w (m+k) oH e-(m+k))) e)→
   ∃H',App H v e i.size (m+k) (xs++news) (.slice (some ⟨w.heap.size,0,none⟩) (m+k) (grownCap w (m+k) oH e)) H'∧Den H' w1∧Fx H w H' w1:=by
  intro oH w1 pre hold nG ee
  subst nG
  subst ee
  have EN:=grownCap_ge w (m+k) oH e
  have qZ:grownCap w (m+k) oH e≤maxLen:=grownCap_le_maxLen w (m+k) oH e (by simp only[maxLen];omega)
  have jr:Den H w.drew:=hd
  have key:=vq (H:=H) (w:=w) (w':=w.drew.alloc (.cells (xs.toArray++news.toArray++Builtin.zeroCells z.cells (grownCap w (m+k) oH e-(m+k))) e)) (g:=w.heap.size)
   (ent:=⟨xs++news,grownCap w (m+k) oH e*i.size,e,true⟩) (o:= .cells (xs.toArray++news.toArray++Builtin.zeroCells z.cells (grownCap w (m+k) oH e-(m+k))) e) hd rfl rfl rfl (by simp)
   (fun q hq _=>heap_alloc_old w.drew _ q hq) (heap_alloc_new w.drew _) ⟨_,(0,0),rfl,?_,?_,fun _=>rfl⟩ (.inr (Nat.le_refl _))
  ·exact⟨_,⟨⟨hlen,.inr ⟨_,_,rfl,bn _ _ _,EN,qZ⟩⟩,Heap.bh _ hd.fresh,fun q ent hq _=>by rw[bD _ _ (fun e=>by have:=hd.lt hq;omega)];exact hq,.inr ⟨_,rfl,hd.fresh⟩⟩,key⟩
  ·simp only[Array.size_append,List.size_toArray,size_zeroCells,xI,ho.1,hl,←Nat.add_mul]
   congr 1
   omega
  ·intro q u hq
   rw[Array.getElem?_append_left (by
    have:=(List.getElem?_eq_some_iff.1 hq).1
    simpa using this)]
   simpa using hq
 rcases A with _ | ad
 ·
  have hn:news = []:=by
   cases news with
   | nil=>rfl
   | cons u us=>obtain⟨ad,h,_⟩:=hr 0 u rfl;cases h
  subst hn
  have hk:k=0:=by
   simp only[List.length_nil]at hl
   rcases Nat.eq_zero_or_pos k with h | h
   ·exact h
   ·have:=Nat.mul_pos h hp;omega
  subst hk
  refine⟨v,w,H,?_,⟨by simpa using ho,.refl H,fun q ent hq _=>hq,.inl rfl⟩,hd,.refl H w⟩
  rcases ho.2 with ⟨rfl,rfl⟩ | ⟨g,cap,rfl,_,q3,_⟩
  ·simp[Builtin.append_,run_underlying ht,sizeOf,typeInfo,hi,Builtin.lenOf,Builtin.firstCells]
  ·simp[Builtin.append_,run_underlying ht,sizeOf,typeInfo,hi,Builtin.lenOf,Builtin.firstCells,q3,storeCells]
 ·have EO:=hr.world hd rfl
  rcases ho.2 with ⟨rfl,rfl⟩ | ⟨g,cap,rfl,hg,q3,qZ⟩
  ·have hx:xs = []:=List.eq_nil_of_length_eq_zero (by simpa using ho.1)
   subst hx
   rcases Nat.eq_zero_or_pos k with hk | hk
   ·subst hk
    have hn:news = []:=List.eq_nil_of_length_eq_zero (by simpa using hl)
    subst hn
    refine⟨.slice none 0 0,w,H,?_,⟨oG H e i.size,.refl H,fun q ent hq _=>hq,.inl rfl⟩,hd,.refl H w⟩
    simp[Builtin.append_,run_underlying ht,sizeOf,typeInfo,hi,Builtin.lenOf,Builtin.firstCells,loadCells,loadCellsFrom]
   ·have cF:=run_append_nil (P:=P) w t ty e i z ht hi hz ad k c news hl EO hk (by omega) (by simp only[Nat.zero_add]at hb;omega)
    obtain⟨H',h2,h3⟩:=grown 0 _ #[] (by omega) (by simp) rfl
    simp only[Nat.zero_add,Array.empty_append]at h2 h3
    exact⟨_,_,H',cF,by simpa using h2,h3⟩
  ·obtain⟨ob,h5,cur,fz,rfl,h6,h7,h8⟩:=hd g _ hg
   have mK:=h8 rfl
   subst mK
   by_cases EP:m+k≤cap
   ·have QN:m*i.size+news.length≤cur.size:=by
     have:cur.size=cap*i.size:=h6
     rw[hl,this,←Nat.add_mul];exact Nat.mul_le_mul_right _ EP
    have cF:=run_append_room (P:=P) w t ty e i ht hi g m cap cur h5 ad k c news hl EO h1 EP QN
    have QO:cur.toList.take (m*i.size)=xs:=by
     obtain⟨_,h | ⟨g',aab,aac,h9,_,fU,_,_,_,fo⟩⟩:=ho.world hd
     ·exact absurd h.1 (by simp)
     ·cases h9
      rw[h5]at fU
      cases fU
      exact fo
    have key:=vq (H:=H) (w:=w) (w':=w.setRow g (cur.toList.take (m*i.size)++news++cur.toList.drop (m*i.size+news.length)).toArray) (g:=g)
     (ent:=⟨xs++news,cap*i.size,e,true⟩) (o:= .cells (cur.toList.take (m*i.size)++news++cur.toList.drop (m*i.size+news.length)).toArray e) hd rfl rfl rfl (by simp[World.setRow])
     (fun q _ hq=>setRow_other w g q _ hq) (setRow_heap w g cur _ e _ h5) ⟨_,(0,0),rfl,?_,?_,fun _=>rfl⟩ (.inl ⟨_,hg,rfl,rfl,rfl,rfl⟩)
    ·refine⟨_,_,_,cF,⟨⟨hlen,.inr ⟨g,cap,rfl,bn _ _ _,EP,qZ⟩⟩,fun q ent hq=> ?_,fun q ent hq a4=> ?_,.inl rfl⟩,key⟩
     ·by_cases eq:q=g
      ·subst eq
       rw[hg]at hq
       cases hq
       exact⟨_,bn _ _ _,rfl,rfl,rfl,List.prefix_append _ _⟩
      ·exact⟨ent,by rw[bD _ _ eq];exact hq,.refl ent⟩
     ·rw[bD _ _ (fun eq=>a4 (by rw[eq];rfl))];exact hq
    ·have e7:cur.size=cap*i.size:=h6
     simp only[List.size_toArray,List.length_append,List.length_take,List.length_drop,Array.length_toList]
     omega
    ·intro q u hq
     rw[QO]
     have:(xs++news++List.drop (m*i.size+news.length) cur.toList)[q]? = some u:=by
      rw[List.getElem?_append_left (List.getElem?_eq_some_iff.1 hq).1];exact hq
     simpa using this
   ·have holds:∀(j:Nat)(u:Value),xs[j]? = some u→w.cell? ((⟨g,0,none⟩:Addr).add j)=some u:=ho.rd.world hd rfl
    have cF:=run_append_grow (P:=P) w t ty e i z ht hi hz ⟨g,0,none⟩ m cap xs ho.1 holds ad k c news hl EO (by omega) (by omega) (growslice_fits (by omega) hb)
    obtain⟨H',h2,h3⟩:=grown cap _ xs.toArray (by omega) rfl rfl
    exact⟨_,_,H',cF,h2,h3⟩
theorem eX{t e sz bytes:Nat}{x y:Operand}{z v:Value}{m k c:Nat}{A:Option Addr}{xs news:List Value}(ht:P.underlying t=some (.slice e))(he:fm P e sz z bytes)(hx:ev s x=some v)(hy:ev s y=some (.slice A k c))(ho:bm H v e sz m xs)
  (hr:Rd H A news) (hl:news.length=k*sz) (h1:∀u∈news,u.oneCell'=true) (hb:(m+k)*bytes≤140737488355328) (mM:m+k≤9223372036854775807)
  (hk:∀v' H',App H v e sz (m+k) (xs++news) v' H'→aE P n all md r (aQ s dst (.val v')) H' K) (hg:bI all s gd=some true:=by rfl) (nb:md.nb s dst=true:=by rfl):aE P n all md (⟨dst,.call ⟨.builtin .append,#[x,y],#[t,t]⟩,ty,pos,after,gd⟩::r) s H K:=
 .fj (fun v' H'=>App H v e sz (m+k) (xs++news) v' H') (.inl (by simp[kd,Bc])) nb (fun a w ha hd=>by
  refine⟨gy ha (iI (o:=⟨dst,.call ⟨.builtin .append,#[x,y],#[t,t]⟩,ty,pos,after,gd⟩) hg),?_⟩
  obtain⟨v',w',H',qU,h2,h3,h4⟩:=JC (c:=c) hd ht he ho hr hl h1 hb mM ty
  have hex:(execOp a.eval ⟨dst,.call ⟨.builtin .append,#[x,y],#[t,t]⟩,ty,pos,after,gd⟩).run P w = .ok (.value v') w':=by
   simp[execOp,resolve,invoke,builtin,a7 ha hx,a7 ha hy,qU]
  unfold iD
  rw[hex]
  exact⟨H',h2,h3,h4⟩) (by cases md <;> first | trivial | exact⟨rfl,fun _ _ h=>h.le⟩ | exact .inr fun _ _ h=>h.le) fun v' H' hp _=>hk v' H' hp
def dg(zs:List Value)(k:Nat):List Value:=(List.range k).map fun q=>(zs[q%zs.length]?).getD undef
theorem JD(zs:List Value)(k:Nat):(dg zs k).length=k:=by simp[dg]
theorem QP{zs:List Value}{sz m j q:Nat}{v:Value}(hz:zs.length=sz)(hj:j<m)(hv:zs[q]? = some v):(dg zs (m*sz))[j*sz+q]? = some v:=by
 have hq:q<sz:=by rw[←hz];exact(List.getElem?_eq_some_iff.1 hv).1
 have a8:j*sz+q<m*sz:=by
  have:(j+1)*sz≤m*sz:=Nat.mul_le_mul_right _ hj
  rw[Nat.add_mul]at this;omega
 have QQ:(j*sz+q)%sz=q:=by rw[Nat.add_comm,Nat.add_mul_mod_self_right];exact Nat.mod_eq_of_lt hq
 simp[dg,a8,hz,QQ,hv]
theorem JE(z:Value)(k:Nat):dg [z] k=List.replicate k z:=by
 apply List.ext_getElem?
 intro i
 by_cases h:i<k
 ·simp[dg,h,Nat.mod_one]
 ·simp[dg,h]
theorem ja{t e sz bytes:Nat}{x y:Operand}{z:Value}{kl kc:IntKind}{l c:Int}{zs:List Value}(ht:P.underlying t=some (.slice e))(he:fm P e sz z bytes)(xI:z.cells=zs.toArray)(hx:ev s x=some (.int kl l))(hy:ev s y=some (.int kc c))(h0:0≤l)(pR:l≤c)
  (hb:(bytes:Int)*c≤281474976710656) (mM:c≤9223372036854775807)
  (hk:∀g,H g=none→aE P n all md r (aQ s dst (.val (.slice (some ⟨g,0,none⟩) l.toNat c.toNat))) (ins H g ⟨dg zs (l.toNat*sz),c.toNat*sz,e,true⟩) K) (hg:bI all s gd=some true:=by rfl) (nb:md.nb s dst=true:=by rfl):
  aE P n all md (⟨dst,.makeSlice t x y,ty,pos,after,gd⟩::r) s H K:=
 .fj (fun v H'=>∃g,H g=none∧v = .slice (some ⟨g,0,none⟩) l.toNat c.toNat∧H'=ins H g ⟨dg zs (l.toNat*sz),c.toNat*sz,e,true⟩) (.inl rfl) nb (fun a w ha hd=>by
  refine⟨gy ha (iI (o:=⟨dst,.makeSlice t x y,ty,pos,after,gd⟩) hg),?_⟩
  obtain⟨i,hi,hz,bZ,BD,ER,hp⟩:=he
  subst bZ
  subst BD
  have qU:=run_make (P:=P) w t e i z ht hi hz kl kc l c h0 pR hb mM
  have hex:(execOp a.eval ⟨dst,.makeSlice t x y,ty,pos,after,gd⟩).run P w = .ok (.value (.slice (some ⟨w.heap.size,0,none⟩) l.toNat c.toNat)) (w.alloc (.cells (madeCells z.cells (c.toNat*i.size)) e)):=by
   simp[execOp,a7 ha hx,a7 ha hy,qU]
  unfold iD
  rw[hex]
  have ES:zs.length=i.size:=by rw[xI]at ER;simpa using ER
  have key:=vq (H:=H) (w:=w) (w':=w.alloc (.cells (madeCells z.cells (c.toNat*i.size)) e)) (g:=w.heap.size) (ent:=⟨dg zs (l.toNat*i.size),c.toNat*i.size,e,true⟩) (o:= .cells (madeCells z.cells (c.toNat*i.size)) e) hd rfl rfl rfl (by simp)
   (fun q hq _=>heap_alloc_old w _ q hq) (heap_alloc_new w _) ⟨_,(0,0),rfl,size_madeCells _ _,?_,fun _=>rfl⟩ (.inr (Nat.le_refl _))
  ·exact⟨_,⟨_,hd.fresh,rfl,rfl⟩,key⟩
  ·intro q u hq
   have qS:(dg zs (l.toNat*i.size))[q]? = some u:=hq
   have a8:q<l.toNat*i.size:=by have:=(List.getElem?_eq_some_iff.1 qS).1;rwa [JD]at this
   have ET:q<c.toNat*i.size:=Nat.lt_of_lt_of_le a8 (Nat.mul_le_mul_right _ (by omega))
   have EU:q%i.size<zs.length:=by rw[ES];exact Nat.mod_lt _ hp
   simp only[dg,List.getElem?_map,List.getElem?_range a8,Option.map_some,ES,List.getElem?_eq_getElem EU,Option.getD_some,Option.some.injEq]at qS
   have:(zs[q%i.size]?).getD default=u:=by rw[List.getElem?_eq_getElem EU];exact qS
   simp[madeCells,ET,xI,ES,this]) (by
   have hle:∀v H',(∃g,H g=none∧v=Value.slice (some ⟨g,0,none⟩) l.toNat c.toNat∧H'=ins H g ⟨dg zs (l.toNat*sz),c.toNat*sz,e,true⟩)→Heap.le H H':=fun v H' ⟨g,hg,_,hH⟩=>by rw[hH];exact Heap.bh _ hg
   cases md <;> first | trivial | exact⟨rfl,hle⟩ | exact .inr hle) fun v H' ⟨g,hg,hv,hH⟩ _=>by rw[hv,hH];exact hk g hg
def eB:List Value→List Value
 | []=>[]
 | v::vs=>v.cells.toList++eB vs
theorem QR:∀(cs:List Value)(pre post:List Value),post.length≥cs.length→
  ((cs.toArray.zipIdx).foldl (fun a (c,j)=>a.setIfInBounds (pre.length+j) c) (pre++post).toArray)=(pre++cs++post.drop cs.length).toArray:=by
 intro cs pre post h
 have gen:∀(l:List Value)(k:Nat)(mid rest:List Value),mid.length=k→rest.length≥l.length→
   ((l.zipIdx k).foldl (fun(a:Array Value)(p:Value×Nat)=>a.setIfInBounds (pre.length+p.2) p.1) (pre++mid++rest).toArray)=(pre++(mid++l)++rest.drop l.length).toArray:=by
  intro l
  induction l with
  | nil=>intro k mid rest _ _;simp
  | cons c l ih=>
   intro k mid rest hk hr
   cases rest with
   | nil=>simp at hr
   | cons d rest=>
    simp only[List.zipIdx_cons,List.foldl_cons]
    have:((pre++mid++d::rest).toArray.setIfInBounds (pre.length+k) c)=(pre++(mid ++ [c])++rest).toArray:=by
     simp only[List.setIfInBounds_toArray]
     congr 1
     rw[List.append_assoc,List.set_append_right _ _ (by omega),Nat.add_sub_cancel_left,List.set_append_right _ _ (by omega),hk,Nat.sub_self]
     simp
    rw[this,ih (k+1) (mid ++ [c]) rest (by simp[hk]) (by simp at hr;omega)]
    simp
 have:=gen cs 0 [] post rfl h
 simp only[List.append_nil,List.nil_append]at this
 rw[←this]
 simp
theorem JF{sz:Nat}:∀(vs:List Value)(k:Nat)(pre post:List Value),(∀v,v∈vs→v.cells.size=sz)→pre.length=k*sz→post.length=vs.length*sz→
  Instr.fill (fun i=>some (i*sz,sz)) (pre++post).toArray ((List.range' k vs.length).zip vs)=some (pre++eB vs).toArray:=by
 intro vs
 induction vs with
 | nil=>
  intro k pre post _ _ hp
  have:post = []:=List.eq_nil_of_length_eq_zero (by simpa using hp)
  subst this
  simp[Instr.fill,eB]
 | cons v vs ih=>
  intro k pre post hv nG QS
  have bZ:=hv v (List.mem_cons_self ..)
  simp only[List.length_cons,List.range'_succ,List.zip_cons_cons,Instr.fill]
  have QT:post.length=vs.length*sz+sz:=by rw[QS];simp[Nat.add_mul]
  rw[if_neg (by simp[bZ];rw[QT,←nG];omega)]
  have h1:=QR v.cells.toList pre post (by simp[bZ];omega)
  rw[nG]at h1
  simp only[Array.toArray_toList,Array.length_toList]at h1
  rw[h1]
  have h2:=ih (k+1) (pre++v.cells.toList) (post.drop v.cells.size) (fun u hu=>hv u (List.mem_cons_of_mem _ hu)) (by simp[nG,bZ,Nat.add_mul]) (by simp[bZ];omega)
  rw[h2]
  simp[eB]
def vt:Nat→List Operand→List (Nat×Operand)
 | _,[]=>[]
 | k,x::xs=>(k,x)::vt (k+1) xs
theorem QU(ρ:Operand→Value):∀(xs:List Operand)(k:Nat),(vt k xs).map (fun p=>(p.1,ρ p.2))=(List.range' k xs.length).zip (xs.map ρ):=by
 intro xs
 induction xs with
 | nil=>intro k;rfl
 | cons x xs ih=>intro k;simp[vt,List.range'_succ,ih]
theorem JG{w:World}{t e len:Nat}{i:TypeInfo}{z:Value}{parts:Array (Nat×Value)}{cells:Array Value}(ht:P.underlying t=some (.slice e))(hi:P.info? e=some i)(hz:i.zero=some z)(hs:len*i.size≤16777216)(h0:len*i.size≠0)
  (hf:Instr.fill (fun k=>some (k*i.size,i.size)) (madeCells z.cells (len*i.size)) parts.toList=some cells):(Instr.buildSlice t len parts).run P w = .ok (.slice (some ⟨w.heap.size,0,none⟩) len len) (w.alloc (.cells cells e)):=by
 have jt:¬(len*i.size>2^24):=by omega
 unfold madeCells at hf
 unfold Instr.buildSlice
 simp only[Sem.run_bind,run_underlying ht,Result.andThen_ok,sizeOf,typeInfo,program,Sem.run,hi,Sem.run_pure,if_neg jt,if_neg h0,zeroValue,hz]
 rw[hf]
 simp[newRow,newObj,Sem.run]
theorem dD{t e sz bytes len:Nat}{ps:List (Nat×Operand)}{z:Value}{vs cs:List Value}(ht:P.underlying t=some (.slice e))(he:fm P e sz z bytes)(hp:vt 0 (ps.map (·.2))=ps)(hlen:len=(ps.map (·.2)).length)(h1:Nat.ble 1 len=true)(hx:mL s (ps.map (·.2))=some vs)
  (hv:vs.all (fun v=>Nat.beq v.cells.size sz)=true) (hc:eB vs=cs) (EW:Nat.ble (len*sz) 16777216=true)
  (hk:∀g,H g=none→aE P n all md r (aQ s dst (.val (.slice (some ⟨g,0,none⟩) len len))) (ins H g (whole cs e)) K) (hg:bI all s gd=some true:=by rfl) (nb:md.nb s dst=true:=by rfl):
  aE P n all md (⟨dst,.buildSlice t len ps.toArray,ty,pos,after,gd⟩::r) s H K:=
 .fresh (fun g=> .slice (some ⟨g,0,none⟩) len len) cs e (.inl rfl) nb (fun a w ha=>by
  obtain⟨xs,q6⟩:∃xs,xs=ps.map (·.2):=⟨_,rfl⟩
  rw[←q6]at hp hlen hx
  clear q6
  subst hp
  refine⟨gy ha (iI (o:=⟨dst,.buildSlice t len (vt 0 xs).toArray,ty,pos,after,gd⟩) hg),?_⟩
  obtain⟨i,hi,hz,bZ,BD,ER,Bm⟩:=he
  subst bZ
  subst hlen
  subst hc
  have lN:=EL ha xs vs hx
  have ig:vs.length=xs.length:=by rw[←lN];simp
  have QV:((vt 0 xs).toArray.map fun(i,x)=>(i,a.eval x)).toList=(List.range' 0 vs.length).zip vs:=by
   rw[ig,←lN];simpa using QU a.eval xs 0
  have sX:=JF (sz:=i.size) vs 0 [] (madeCells z.cells (xs.length*i.size)).toList (fun v vu=>Nat.eq_of_beq_eq_true (List.all_eq_true.1 hv v vu)) (by simp) (by simp[size_madeCells,ig])
  have JH:=Nat.le_of_ble_eq_true h1
  simp only[List.nil_append,Array.toArray_toList]at sX
  rw[←QV]at sX
  have:=JG (w:=w) ht hi hz (Nat.le_of_ble_eq_true EW) (by have:=Nat.mul_pos JH Bm;omega) sX
  simp only[execOp,Sem.run_bind,this,Result.andThen_ok,Sem.run_pure]) fun g hg _=>hk g hg
theorem dE{t t2:TypeId}{x i y:Operand}{g o m c d1:Nat}{nD:TypeId}{nE:String}{nF:Array Edge}{jS:Option (Nat×Bool)}{k:IntKind}{j:Int}{e sz:Nat}{ent:aG}{v:Value}{vs:List Value}{ii:TypeInfo}
  (de:md = .plain∨md = .fC) (cT:iH P tb) (ht:tb[t]? = some (.sl e sz)) (hx:ev s x=some (.slice (some ⟨g,o,none⟩) m c)) (hi:ev s i=some (.int k j)) (h0:0≤j) (hm:j<m) (hg:H g=some ent) (bS:ent.own=true) (eP:o+m*sz≤ent.xs.length)
  (sY:P.info? t2=some ii) (bZ:ii.size=sz) (hy:∀ad:Addr,ev (put s d1 (.val (.pointer (some ad)))) y=some v) (hv:v.cells=vs.toArray) (ig:vs.length=sz) (h1:vs.all sW=true)
  (hk:∀ad:Addr,aE P n all md r (put s d1 (.val (.pointer (some ad)))) (ins H g {ent with xs:=aA ent.xs (o+j.toNat*sz) vs}) K) (pS:bI all s gd=some true:=by rfl) (nb:md.nb s (some d1)=true:=by rfl) (dC:∀ad:Addr,bI all (put s d1 (.val (.pointer (some ad)))) jS=some true:=by exact fun _=>rfl):
  aE P n all md (⟨some d1,.indexAddr t x i,ty,pos,after,gd⟩::⟨none,.store t2 (.tmp d1) y,nD,nE,nF,jS⟩::r) s H K:=by
 have pP:(⟨g,o,none⟩:Addr).add (j.toNat*sz)=⟨g,o+j.toNat*sz,none⟩:=by
  unfold Addr.add;split
  ·rename_i e0;rw[e0];rfl
  ·rfl
 have hjm:j.toNat*sz+sz≤m*sz:=by
  have:(j.toNat+1)*sz≤m*sz:=Nat.mul_le_mul_right _ (by omega)
  rw[Nat.add_mul]at this;omega
 refine pQ cT ht hx hi h0 hm ?_ pS nb
 rw[pP]
 refine .fj (fun _ H'=>H'=ins H g {ent with xs:=aA ent.xs (o+j.toNat*sz) vs}) (.inr (.inl rfl)) (by rcases de with rfl | rfl <;> rfl) (fun a w ha hd=> ?_) (by rcases de with rfl | rfl <;> first | trivial | exact .inl rfl) fun _ H' hH _=>by rw[hH];exact hk _
 refine⟨gy ha (iI (o:=⟨none,.store t2 (.tmp d1) y,nD,nE,nF,jS⟩) (dC _)),?_⟩
 obtain⟨ob,h2,cur,fz,rfl,h3,h4,h5⟩:=hd g ent hg
 have mK:=h5 bS
 subst mK
 have xJ:cur=cur.toList.toArray:=by simp
 have hlen:ent.xs.length≤cur.toList.length:=by
  rcases Nat.eq_zero_or_pos ent.xs.length with h | h
  ·omega
  ·have hx:=h4 (ent.xs.length-1) _ (List.getElem?_eq_getElem (by omega))
   have:=(Array.getElem?_eq_some_iff.1 hx).1
   simp;omega
 rw[xJ]at h2
 obtain⟨w',h6,h7,h8,h9,fU,fo,sZ⟩:=BB (P:=P) vs cur.toList w (o+j.toNat*sz) 0 h2 (fun u hu=>List.all_eq_true.1 h1 u hu) (by omega)
 have hp:ev (put s d1 (.val (.pointer (some ⟨g,o+j.toNat*sz,none⟩)))) (.tmp d1)=some (.pointer (some ⟨g,o+j.toNat*sz,none⟩)):=by simp[ev,put]
 have hex:(execOp a.eval ⟨none,.store t2 (.tmp d1) y,nD,nE,nF,jS⟩).run P w = .ok .skip w':=by
  simp[execOp,a7 ha hp,a7 ha (hy _),Instr.storeAt,Instr.sureAddr,storeVar,sizeOf,typeInfo,sY,bZ,hv,ig,h6]
 unfold iD
 rw[hex]
 refine⟨_,rfl,vq (o:= .cells (aA cur.toList (o+j.toNat*sz+0) vs).toArray ent.elem (0,0)) hd h7 h8 h9 (by omega) (fun q _ hq=>fo q hq) sZ ⟨_,(0,0),rfl,?_,?_,fun _=>rfl⟩ (.inl ⟨_,hg,bS,bS,rfl,rfl⟩)⟩
 ·simp[xF,h3]
 ·intro q u hq
  have key:∀(us:List Value)(A B:List Value)(p:Nat),(∀(i:Nat)(w:Value),A[i]? = some w→B[i]? = some w)→p+us.length≤A.length→∀(i:Nat)(w:Value),(aA A p us)[i]? = some w→(aA B p us)[i]? = some w:=by
   intro us
   induction us with
   | nil=>intro A B p h _ i w hw;exact h i w hw
   | cons x us ih=>
    intro A B p h hl i w hw
    simp only[List.length_cons]at hl
    refine ih (A.set p x) (B.set p x) (p+1) (fun i w hw=> ?_) (by simp;omega) i w hw
    have hB:p<B.length:=(List.getElem?_eq_some_iff.1 (h p _ (List.getElem?_eq_getElem (by omega)))).1
    rw[List.getElem?_set]at hw⊢
    by_cases e:p=i
    ·subst e
     rw[if_pos rfl]at hw⊢
     rw[if_pos (by omega)]at hw
     rw[if_pos hB];exact hw
    ·rw[if_neg e]at hw⊢
     exact h i w hw
  have:=key vs ent.xs cur.toList (o+j.toNat*sz) (fun i w hw=>by simpa using h4 i w hw) (by omega) q u hq
  simpa using this
theorem vw{t e sz:Nat}{x:Operand}{lo hi:Option Operand}{A:Option Addr}{m c l h:Nat}(cT:iH P tb)(ht:tb[t]? = some (.sl e sz))(hx:ev s x=some (.slice A m c))
  (cO:(lo=none∧l=0)∨∃y k,lo=some y∧ev s y=some (.int k (l:Int))) (QW:(hi=none∧h=m)∨∃y k,hi=some y∧ev s y=some (.int k (h:Int))) (QX:l≤h) (QY:h≤c)
  (hk:aE P n all md r (aQ s dst (.val (.slice (if c=l then A else A.map (·.add (l*sz))) (h-l) (c-l)))) H K) (hg:bI all s gd=some true:=by rfl) (nb:md.nb s dst=true:=by rfl):
  aE P n all md (⟨dst,.slice t x lo hi none,ty,pos,after,gd⟩::r) s H K:=
 fF _ rfl hg nb (fun a w ha _=>by
  obtain⟨hu,i,h2,h3⟩:=cT t _ ht
  have hl:∀k,(Instr.sliceBound (.int k (l:Int)) h .sliceB).run P w = .ok l w:=fun k=>by
   simp[Instr.sliceBound,asIntOf,QX]
  have hh:∀k,(Instr.sliceBound (.int k (h:Int)) c .sliceAcap).run P w = .ok h w:=fun k=>by
   simp[Instr.sliceBound,asIntOf,QY]
  rcases cO with ⟨rfl,rfl⟩ | ⟨y,k,rfl,hy⟩ <;> rcases QW with ⟨rfl,rfl⟩ | ⟨y',k',rfl,oD⟩
  ·simp[execOp,a7 ha hx,Instr.sliceAt,run_underlying hu,Instr.slice,Instr.sliceBounds,sizeOf,typeInfo,h2]
  ·simp[execOp,a7 ha hx,a7 ha oD,Instr.sliceAt,run_underlying hu,Instr.slice,Instr.sliceBounds,hh,sizeOf,typeInfo,h2]
  ·simp[execOp,a7 ha hx,a7 ha hy,Instr.sliceAt,run_underlying hu,Instr.slice,Instr.sliceBounds,hl,sizeOf,typeInfo,h2,h3]
  ·simp[execOp,a7 ha hx,a7 ha hy,a7 ha oD,Instr.sliceAt,run_underlying hu,Instr.slice,Instr.sliceBounds,hl,hh,sizeOf,typeInfo,h2,h3]) hk
end
end Go.au
namespace Go.au
theorem ay{P:Program}{n:Nat}{all:Array Oper}{md:Mode}{s:St}{H:Heap}{K:St→Heap→Prop}(h:K s H):aE P n all md [] s H K:=h
end Go.au
namespace Go.au
theorem ax{P:Program}{n:Nat}{all:Array Oper}{s:St}{H:Heap}{md:Mode}{K:St→Heap→Prop}{r:List Oper}{dst:Option Nat}{ty:TypeId}{pos:String}{after:Array Edge}{gd:Option (Nat×Bool)}{op:BinOp}{t t':TypeId}{x y:Operand}{k:IntKind}{a b:Int}(v:Bool)
  (hx:ev s x=some (.int k a)) (hy:ev s y=some (.int k b)) (hv:ef op a b=some v) (hk:aE P n all md r (aQ s dst (.val (.bool v))) H K) (hg:bI all s gd=some true:=by rfl) (nb:md.nb s dst=true:=by rfl):
  aE P n all md (⟨dst,.binOp op t x y t',ty,pos,after,gd⟩::r) s H K:=
 fF _ rfl hg nb (fun c w hc _=>by
  simp only[execOp,a7 hc hx,a7 hc hy,Sem.run_bind,pO,Result.andThen_ok]
  cases op <;> simp[ef]at hv <;> simp[binOp,Op.intCmp,hv]) hk
end Go.au
namespace Go.au
section
variable {P:Program} {n:Nat} {w0:World} {H0:Heap} {Q:Exit→St→Heap→Prop} {s:St} {H:Heap}
theorem ae{id:Nat}{l:List Oper}{y:Code}(h:aE P n l.toArray .plain l s H (fun s H=>VC P n w0 H0 y Q s H))(hn:Bn n l=true:=by rfl):VC P n w0 H0 (.seq (.region id l.toArray false) y) Q s H:=
 ao (aB hn h)
theorem bT(md:Mode)(perm:List Nat){id:Nat}{l:List Oper}{y:Code}(hf:P.follows .mixedOrders=true)(hc:Bq n md l perm=true)(h:aE P n l.toArray md (perm.map (eO l)) s H (fun s H=>VC P n w0 H0 y Q s H)):
  VC P n w0 H0 (.seq (.region id l.toArray true) y) Q s H:=ao (fk md perm hf hc h)
theorem ab{all:Array Oper}{md:Mode}(ts:List Nat){s':St}{y:Code}(h:VC P n w0 H0 y Q s' H)(hs:sO s ts=some s':=by rfl):aE P n all md [] s H (fun s H=>VC P n w0 H0 y Q s H):=ah ts hs h
end
end Go.au
namespace Go.au
section
variable {P:Program} {n:Nat} {w0:World} {H0:Heap} {Q:Exit→St→Heap→Prop} {s:St} {H:Heap}
theorem gm{α:Type}{c:Code}(μ:α→Nat)(S:α→St)(Φ:α→Heap→Prop)(a:α)(h0:Φ a H)(hs:Sub (S a) s)
  (round:∀a H,Φ a H→VC P n w0 H0 c (mJ (fun s' H'=>∃a',μ a'<μ a∧Sub (S a') s'∧Φ a' H') Q) (S a) H):VC P n w0 H0 (.loop c) Q s H:=Bu μ S Φ a hs h0 round
theorem jb{α β:Type}{c:Code}(μ:α→β→Nat)(S:α→β→St)(Φ:α→β→Heap→Prop)(a:α)(b:β)(h0:Φ a b H)(hs:Sub (S a b) s)
  (round:∀a b H,Φ a b H→VC P n w0 H0 c (mJ (fun s' H'=>∃a' b',μ a' b'<μ a b∧Sub (S a' b') s'∧Φ a' b' H') Q) (S a b) H):VC P n w0 H0 (.loop c) Q s H:=
 Bu (γ:=α×β) (fun g=>μ g.1 g.2) (fun g=>S g.1 g.2) (fun g=>Φ g.1 g.2) (a,b) hs h0 fun g H h=>sP (round g.1 g.2 H h) fun e s H hq=>by
  cases e <;> first | exact hq | (obtain⟨a',b',h⟩:=hq;exact⟨(a',b'),h⟩)
theorem ju{α β γ:Type}{c:Code}(μ:α→β→γ→Nat)(S:α→β→γ→St)(Φ:α→β→γ→Heap→Prop)(a:α)(b:β)(d:γ)(h0:Φ a b d H)(hs:Sub (S a b d) s)
  (round:∀a b d H,Φ a b d H→VC P n w0 H0 c (mJ (fun s' H'=>∃a' b' d',μ a' b' d'<μ a b d∧Sub (S a' b' d') s'∧Φ a' b' d' H') Q) (S a b d) H):VC P n w0 H0 (.loop c) Q s H:=
 Bu (γ:=α×β×γ) (fun g=>μ g.1 g.2.1 g.2.2) (fun g=>S g.1 g.2.1 g.2.2) (fun g=>Φ g.1 g.2.1 g.2.2) (a,b,d) hs h0 fun g H h=>sP (round g.1 g.2.1 g.2.2 H h) fun e s H hq=>by
  cases e <;> first | exact hq | (obtain⟨a',b',d',h⟩:=hq;exact⟨(a',b',d'),h⟩)
theorem oI{α β γ δ:Type}{c:Code}(μ:α→β→γ→δ→Nat)(S:α→β→γ→δ→St)(Φ:α→β→γ→δ→Heap→Prop)(a:α)(b:β)(d:γ)(f:δ)(h0:Φ a b d f H)(hs:Sub (S a b d f) s)
  (round:∀a b d f H,Φ a b d f H→VC P n w0 H0 c (mJ (fun s' H'=>∃a' b' d' f',μ a' b' d' f'<μ a b d f∧Sub (S a' b' d' f') s'∧Φ a' b' d' f' H') Q) (S a b d f) H):VC P n w0 H0 (.loop c) Q s H:=
 Bu (γ:=α×β×γ×δ) (fun g=>μ g.1 g.2.1 g.2.2.1 g.2.2.2) (fun g=>S g.1 g.2.1 g.2.2.1 g.2.2.2) (fun g=>Φ g.1 g.2.1 g.2.2.1 g.2.2.2) (a,b,d,f) hs h0 fun g H h=>sP (round g.1 g.2.1 g.2.2.1 g.2.2.2 H h) fun e s H hq=>by
  cases e <;> first | exact hq | (obtain⟨a',b',d',f',h⟩:=hq;exact⟨(a',b',d',f'),h⟩)
theorem QZ{γ:Type}{x y:Code}(S:γ→St)(Φ:γ→Heap→Prop)(h:VC P n w0 H0 x (mJ (fun s' H'=>∃g,Sub (S g) s'∧Φ g H') Q) s H)(k:∀g H,Φ g H→VC P n w0 H0 y Q (S g) H):VC P n w0 H0 (.seq x y) Q s H:=
 ao (sP h fun e s H hq=>by
  cases e <;> first | exact hq | (obtain⟨g,h1,h2⟩:=hq;exact xB h1 (k g H h2)))
theorem EX{x y:Code}(S:St)(Φ:Heap→Prop)(h:VC P n w0 H0 x (mJ (fun s' H'=>Sub S s'∧Φ H') Q) s H)(k:∀H,Φ H→VC P n w0 H0 y Q S H):VC P n w0 H0 (.seq x y) Q s H:=
 ao (sP h fun e s H hq=>by
  cases e <;> first | exact hq | (obtain⟨h1,h2⟩:=hq;exact xB h1 (k H h2)))
theorem nH{α:Type}{x y:Code}(S:α→St)(Φ:α→Heap→Prop)(h:VC P n w0 H0 x (mJ (fun s' H'=>∃a,Sub (S a) s'∧Φ a H') Q) s H)(k:∀a H,Φ a H→VC P n w0 H0 y Q (S a) H):VC P n w0 H0 (.seq x y) Q s H:=QZ S Φ h k
theorem EY{α β:Type}{x y:Code}(S:α→β→St)(Φ:α→β→Heap→Prop)(h:VC P n w0 H0 x (mJ (fun s' H'=>∃a b,Sub (S a b) s'∧Φ a b H') Q) s H)(k:∀a b H,Φ a b H→VC P n w0 H0 y Q (S a b) H):VC P n w0 H0 (.seq x y) Q s H:=
 ao (sP h fun e s H hq=>by
  cases e <;> first | exact hq | (obtain⟨a,b,h1,h2⟩:=hq;exact xB h1 (k a b H h2)))
end
end Go.au
namespace Go.au
theorem jc{k:IntKind}{a b:Int}(h:a=b):some (Slot.val (.int k a))=some (Slot.val (.int k b)):=by rw[h]
end Go.au
namespace Go.au
theorem Q0{P:Program}{n:Nat}{w0:World}{H0:Heap}{Q:Exit→St→Heap→Prop}{s:St}{H:Heap}{α β γ δ:Type}{x y:Code}(S:α→β→γ→δ→St)(Φ:α→β→γ→δ→Heap→Prop)(h:VC P n w0 H0 x (mJ (fun s' H'=>∃a b c d,Sub (S a b c d) s'∧Φ a b c d H') Q) s H)(k:∀a b c d H,Φ a b c d H→VC P n w0 H0 y Q (S a b c d) H):VC P n w0 H0 (.seq x y) Q s H:=
 ao (sP h fun e s H hq=>by
  cases e <;> first | exact hq | (obtain⟨a,b,c,d,h1,h2⟩:=hq;exact xB h1 (k a b c d H h2)))
end Go.au
namespace Go.au
theorem av{s s2:St}(h:Sub s s2:=by repeat (first | exact iG _ | refine dB rfl ?_ | refine dB (jc (by first | omega | (simp;done))) ?_)):Sub s s2:=h
end Go.au
namespace Go.au
open Go
theorem Q1(cs:List Value)(a:List Value)(off:Nat):(cs.toArray.zipIdx.foldl (fun(x:Array Value)(p:Value×Nat)=>x.setIfInBounds (off+p.2) p.1) a.toArray)=(aA a off cs).toArray:=by
 have gen:∀(l:List Value)(k:Nat)(a:List Value),((l.zipIdx k).foldl (fun(x:Array Value)(p:Value×Nat)=>x.setIfInBounds (off+p.2) p.1) a.toArray)=(aA a (off+k) l).toArray:=by
  intro l
  induction l with
  | nil=>intro k a;rfl
  | cons c l ih=>
   intro k a
   simp only[List.zipIdx_cons,List.foldl_cons,List.setIfInBounds_toArray,ih,aA,Nat.add_assoc]
 have:=gen cs 0 a
 rw[Nat.add_zero]at this
 rw[←this]
 simp
def xK(pl:List (Nat×Nat))(cs:List Value):List (Nat×Value)→Option (List Value)
 | []=>some cs
 | (i,v)::rest=>(match pl[i]? with
  | none=>none
  | some (off,size)=>cond (Nat.beq v.cells.toList.length size&&Nat.ble (off+size) cs.length) (xK pl (aA cs off v.cells.toList) rest) none)
theorem Q2{pl:List (Nat×Nat)}:∀(parts:List (Nat×Value))(cs out:List Value),xK pl cs parts=some out→Instr.fill (pl.toArray[·]?) cs.toArray parts=some out.toArray:=by
 intro parts
 induction parts with
 | nil=>intro cs out h;simp only[xK,Option.some.injEq]at h;subst h;rfl
 | cons p parts ih=>
  obtain⟨i,v⟩:=p
  intro cs out h
  simp only[xK]at h
  cases hp:pl[i]? with
  | none=>rw[hp]at h;cases h
  | some q=>
   obtain⟨off,size⟩:=q
   rw[hp]at h
   simp only at h
   cases hc:(Nat.beq v.cells.toList.length size&&Nat.ble (off+size) cs.length)with
   | false=>rw[hc]at h;cases h
   | true=>
    rw[hc]at h
    simp only[cond_true]at h
    simp only[Bool.and_eq_true]at hc
    have h1:=Nat.eq_of_beq_eq_true hc.1
    have h2:=Nat.le_of_ble_eq_true hc.2
    simp only[Array.length_toList]at h1
    have h3:=ih _ _ h
    have xL:pl.toArray[i]? = some (off,size):=by rw[List.getElem?_toArray];exact hp
    simp only[Instr.fill,xL]
    rw[if_neg (by simp[h1];omega)]
    have h4:=Q1 v.cells.toList cs off
    simp only[Array.toArray_toList]at h4
    rw[←h4]at h3
    exact h3
def xM(s:St):List (Nat×Operand)→Option (List (Nat×Value))
 | []=>some []
 | (i,x)::r=>(match ev s x with
  | some v=>(match xM s r with | some vs=>some ((i,v)::vs) | none=>none)
  | none=>none)
theorem Q3{n:Nat}{s:St}{a:Act}(h:ey n s a):∀(xs:List (Nat×Operand))(vs:List (Nat×Value)),xM s xs=some vs→xs.map (fun p=>(p.1,a.eval p.2))=vs:=by
 intro xs
 induction xs with
 | nil=>intro vs hv;simp only[xM,Option.some.injEq]at hv;subst hv;rfl
 | cons p xs ih=>
  obtain⟨i,x⟩:=p
  intro vs hv
  simp only[xM]at hv
  split at hv
  ·rename_i v hx
   split at hv
   ·rename_i us hu
    simp only[Option.some.injEq]at hv
    subst hv
    rw[List.map_cons,ih _ hu,a7 h hx]
   ·cases hv
  ·cases hv
theorem Q4{P:Program}{w:World}{pl:List (Nat×Nat)}{fs:Array Field}(hs:fs.size=pl.length)
  (hp:∀(f:Nat)(p:Nat×Nat),pl[f]? = some p→∃fd j,fs[f]? = some fd∧fd.offset=p.1∧P.info? fd.type=some j∧j.size=p.2∧p.2≠0):
  (fs.mapM fun f=>(do pure (f.offset,←sizeOf f.type):Sem (Nat×Nat))).run P w = .ok pl.toArray w:=by
 obtain⟨l⟩:=fs
 rw[List.mapM_toArray]
 simp only[List.size_toArray]at hs
 have gen:∀(l:List Field)(pl:List (Nat×Nat)),l.length=pl.length→(∀(f:Nat)(p:Nat×Nat),pl[f]? = some p→∃fd j,l[f]? = some fd∧fd.offset=p.1∧P.info? fd.type=some j∧j.size=p.2∧p.2≠0)→
   (l.mapM fun f=>(do pure (f.offset,←sizeOf f.type):Sem (Nat×Nat))).run P w = .ok pl w:=by
  intro l
  induction l with
  | nil=>intro pl h _;cases pl with | nil=>rfl | cons _ _=>simp at h
  | cons f l ih=>
   intro pl h hp
   cases pl with
   | nil=>simp at h
   | cons p pl=>
    obtain⟨fd,j,h1,h2,h3,h4,_⟩:=hp 0 p rfl
    simp only[List.getElem?_cons_zero,Option.some.injEq]at h1
    subst h1
    have h5:=ih pl (by simpa using h) (fun f p hf=>hp (f+1) p (by simpa using hf))
    rw[List.mapM_cons,Sem.run_bind,Sem.run_bind]
    have e:(sizeOf f.type).run P w = .ok p.2 w:=by simp[sizeOf,typeInfo,h3,h4]
    rw[e,Result.andThen_ok,Sem.run_pure,Result.andThen_ok,Sem.run_bind,h5,Result.andThen_ok,Sem.run_pure,h2]
 have:=gen l pl hs (by simpa using hp)
 rw[map_eq_pure_bind,Sem.run_bind,this,Result.andThen_ok,Sem.run_pure]
section
variable {P:Program} {n:Nat} {tb:Tb} {all:Array Oper} {s:St} {H:Heap} {md:Mode} {K:St→Heap→Prop} {r:List Oper} {dst:Option Nat} {ty:TypeId} {pos:String} {after:Array Edge} {gd:Option (Nat×Bool)}
theorem eC{t sz qW bytes:Nat}{pl:List (Nat×Nat)}{ps:List (Nat×Operand)}{vs:List (Nat×Value)}{zs cs:List Value}(cT:iH P tb)(ht:tb[t]? = some (.st sz pl))(he:fm P t qW (.agg zs.toArray) bytes)(hx:xM s ps=some vs)(hf:xK pl zs vs=some cs)
  (hk:aE P n all md r (aQ s dst (.val (.agg cs.toArray))) H K) (hg:bI all s gd=some true:=by rfl) (nb:md.nb s dst=true:=by rfl):
  aE P n all md (⟨dst,.build t ps.toArray,ty,pos,after,gd⟩::r) s H K:=
 fF _ rfl hg nb (fun a w ha _=>by
  obtain⟨i,hi,hz,_,_,_,_⟩:=he
  obtain⟨fs,i',hu,_,_,h4,h5⟩:=cT _ _ ht
  have lN:=Q3 ha ps vs hx
  have sX:=Q2 vs zs cs hf
  have BE:=Q4 (P:=P) (w:=w) h4 h5
  simp only[execOp,Instr.build,Sem.run_bind,zeroValue,typeInfo,program,Sem.run,hi,hz,Result.andThen_ok,run_underlying hu,Sem.run_pure]
  rw[BE]
  simp only[Result.andThen_ok,Value.cells,List.map_toArray,List.toList_toArray]
  rw[lN,sX]
  simp) hk
theorem Q5{t:TypeId}{x:Operand}{k:IntKind}{a:Int}(hx:ev s x=some (.int k a))
  (hk:aE P n all md r (aQ s dst (.val (.int k (k.wrap (-a))))) H K) (hg:bI all s gd=some true:=by rfl) (nb:md.nb s dst=true:=by rfl):aE P n all md (⟨dst,.unOp .neg t x,ty,pos,after,gd⟩::r) s H K:=
 fF _ rfl hg nb (fun c w hc _=>by simp[execOp,a7 hc hx,Op.unary,Op.intArith]) hk
end
end Go.au
namespace Go.au
open Go
theorem Den.draw{H:Heap}{w:World}(h:Den H w)(k:Nat):Den H {w with drawn:=k}:=h
theorem Fx.draw{H:Heap}{w:World}(k:Nat):Fx H w H {w with drawn:=k}:=⟨rfl,rfl,rfl,Nat.le_refl _,fun _ _ h=>⟨rfl,h⟩,fun _ c _ _ h=>⟨c,h,rfl⟩⟩
theorem Q6(z:Int):0≤IntKind.u64.wrap z∧IntKind.u64.wrap z<18446744073709551616:=by
 show 0≤z%18446744073709551616∧z%18446744073709551616<18446744073709551616
 omega
theorem Q7{P:Program}{w:World}{op:BinOp}(xN:op = .add∨op = .mul∨op = .quo)(a b:Nat):∃b' k,(Op.floatArith op .f64 a b).run P w = .ok (.float .f64 b') {w with drawn:=k}:=by
 have key:∀res:Option Nat,∃(b' k:Nat),(Sem.bind (Sem.pure res) fun res=>(match res with | some r=>(pure (Value.float .f64 r):Sem Value) | none=>(do pure (Value.float .f64 (←choose (.nanBits .f64 a b))):Sem Value))).run P w = .ok (.float .f64 b') {w with drawn:=k}:=by
  intro res
  cases res with
  | some r=>exact⟨r,w.drawn,rfl⟩
  | none=>exact⟨_,w.drawn+1,rfl⟩
 rcases xN with rfl | rfl | rfl <;> exact key _
theorem Q8{P:Program}{w:World}(a:Nat):∃(b k:Nat),(b:Int)<18446744073709551616∧(Conv.floatToInt .f64 a .u64).run P w = .ok (.int .u64 (b:Int)) {w with drawn:=k}:=by
 have any:∃(b k:Nat),(b:Int)<18446744073709551616∧Sem.run P (do pure (.int .u64 (IntKind.u64.wrap (←choose (.floatToInt .f64 a .u64)))):Sem Value) w = .ok (.int .u64 (b:Int)) {w with drawn:=k}:=by
  have h1:=Q6 ((Question.floatToInt .f64 a .u64).cut (w.tape w.drawn (Question.floatToInt .f64 a .u64)))
  refine⟨(IntKind.u64.wrap ((Question.floatToInt .f64 a .u64).cut (w.tape w.drawn (Question.floatToInt .f64 a .u64)))).toNat,w.drawn+1,by omega,?_⟩
  rw[Int.toNat_of_nonneg h1.1]
  rfl
 unfold Conv.floatToInt
 cases (FloatKind.f64.decode a).toInt .zero with
 | none=>exact any
 | some z=>
  simp only
  split
  ·rename_i h
   have h0:IntKind.u64.min=0:=rfl
   have h1:IntKind.u64.max=18446744073709551615:=rfl
   rw[h0,h1]at h
   exact⟨z.toNat,w.drawn,by omega,by rw[Int.toNat_of_nonneg h.1];rfl⟩
  ·exact any
section
variable {P:Program} {n:Nat} {tb:Tb} {all:Array Oper} {s:St} {H:Heap} {md:Mode} {K:St→Heap→Prop} {r:List Oper} {dst:Option Nat} {ty:TypeId} {pos:String} {after:Array Edge} {gd:Option (Nat×Bool)}
theorem EZ{src d:TypeId}{x:Operand}{k:IntKind}{ds:TypeDesc}{a:Int}(hs:P.underlying src=some ds)(hd:P.underlying d=some (.float .f64))(hx:ev s x=some (.int k a))
  (hk:∀b,aE P n all md r (aQ s dst (.val (.float .f64 b))) H K) (hg:bI all s gd=some true:=by rfl) (nb:md.nb s dst=true:=by rfl):aE P n all md (⟨dst,.convert src d x,ty,pos,after,gd⟩::r) s H K:=
 fF (.float .f64 (FloatKind.f64.nearest a)) rfl hg nb (fun c w hc _=>by
  simp[execOp,a7 hc hx,convert,run_underlying hs,run_underlying hd,Conv.intToFloat]) (hk _)
theorem E0{op:BinOp}(xN:op = .add∨op = .mul∨op = .quo){t t':TypeId}{x y:Operand}{a b:Nat}(hx:ev s x=some (.float .f64 a))(hy:ev s y=some (.float .f64 b))
  (hk:∀b,aE P n all .plain r (aQ s dst (.val (.float .f64 b))) H K) (hg:bI all s gd=some true:=by rfl):aE P n all .plain (⟨dst,.binOp op t x y t',ty,pos,after,gd⟩::r) s H K:=
 .fj (fun v H'=>H'=H∧∃b,v = .float .f64 b) (.inr (.inr rfl)) rfl (fun c w hc hd=>by
  refine⟨gy hc (iI (o:=⟨dst,.binOp op t x y t',ty,pos,after,gd⟩) hg),?_⟩
  obtain⟨b',k,h1⟩:=Q7 (P:=P) (w:=w) xN a b
  have h2:(execOp c.eval ⟨dst,.binOp op t x y t',ty,pos,after,gd⟩).run P w = .ok (.value (.float .f64 b')) {w with drawn:=k}:=by
   have e1:(eqGuard op t x y (.float .f64 a) (.float .f64 b)).run P w = .ok () w:=by rcases xN with rfl | rfl | rfl <;> rfl
   have e2:binOp op t (.float .f64 a) (.float .f64 b)=Op.floatArith op .f64 a b:=by rcases xN with rfl | rfl | rfl <;> rfl
   simp only[execOp,a7 hc hx,a7 hc hy,Sem.run_bind,e1,e2,h1,Result.andThen_ok,Sem.run_pure]
  unfold iD
  rw[h2]
  exact⟨H,⟨rfl,b',rfl⟩,hd.draw _,.draw _⟩) trivial fun v H' hp _=>by obtain⟨rfl,b,rfl⟩:=hp;exact hk b
theorem Q9{src d:TypeId}{x:Operand}{ds:TypeDesc}{a:Nat}(hs:P.underlying src=some ds)(hd:P.underlying d=some (.int .u64))(hx:ev s x=some (.float .f64 a))
  (hk:∀b:Nat,(b:Int)<18446744073709551616→aE P n all .plain r (aQ s dst (.val (.int .u64 (b:Int)))) H K) (hg:bI all s gd=some true:=by rfl):aE P n all .plain (⟨dst,.convert src d x,ty,pos,after,gd⟩::r) s H K:=
 .fj (fun v H'=>H'=H∧∃b:Nat,(b:Int)<18446744073709551616∧v = .int .u64 (b:Int)) (.inr (.inr rfl)) rfl (fun c w hc Ra=>by
  refine⟨gy hc (iI (o:=⟨dst,.convert src d x,ty,pos,after,gd⟩) hg),?_⟩
  obtain⟨b',k,h0,h1⟩:=Q8 (P:=P) (w:=w) a
  have h2:(execOp c.eval ⟨dst,.convert src d x,ty,pos,after,gd⟩).run P w = .ok (.value (.int .u64 (b':Int))) {w with drawn:=k}:=by
   simp only[execOp,a7 hc hx,convert,Sem.run_bind,run_underlying hs,run_underlying hd,h1,Result.andThen_ok,Sem.run_pure]
  unfold iD
  rw[h2]
  exact⟨H,⟨rfl,b',h0,rfl⟩,Ra.draw _,.draw _⟩) trivial fun v H' hp _=>by obtain⟨rfl,b,h0,rfl⟩:=hp;exact hk b h0
theorem Rb{x y:Operand}{k k':IntKind}{a b:Int}{E1:Array TypeId}(hx:ev s x=some (.int k a))(hy:ev s y=some (.int k' b))
  (hk:aE P n all md r (aQ s dst (.val (.int k (if b<a then b else a)))) H K) (hg:bI all s gd=some true:=by rfl) (nb:md.nb s dst=true:=by rfl):aE P n all md (⟨dst,.call {callee:= .builtin .min,args:= #[x,y],argTypes:=E1},ty,pos,after,gd⟩::r) s H K:=
 fF _ rfl hg nb (fun c w hc _=>by
  simp[execOp,resolve,invoke,builtin,a7 hc hx,a7 hc hy,Builtin.min_,Builtin.min2]) hk
theorem Rc{x y:Operand}{k k':IntKind}{a b:Int}{E1:Array TypeId}(hx:ev s x=some (.int k a))(hy:ev s y=some (.int k' b))
  (hk:aE P n all md r (aQ s dst (.val (.int k (if b>a then b else a)))) H K) (hg:bI all s gd=some true:=by rfl) (nb:md.nb s dst=true:=by rfl):aE P n all md (⟨dst,.call {callee:= .builtin .max,args:= #[x,y],argTypes:=E1},ty,pos,after,gd⟩::r) s H K:=
 fF _ rfl hg nb (fun c w hc _=>by
  simp[execOp,resolve,invoke,builtin,a7 hc hx,a7 hc hy,Builtin.max_,Builtin.max2]) hk
end
end Go.au
