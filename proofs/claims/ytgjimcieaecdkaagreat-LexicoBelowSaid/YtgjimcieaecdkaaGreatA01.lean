/- Part 1 of the proof: Eng6, Eng7, Eng8, Eng9, Eng10, Eng11. -/
import Derived.Test.YtgjimcieaecdkaaGreatA00
import Derived.Laws.Small
import Derived.Laws.Pointers
set_option linter.unusedVariables false
namespace Go.ar
def Sub(s' s:St):Prop:=∀t x,s' t=some x→s t=some x
theorem iZ(s:St):Sub emp s:=fun _ _ h=>by cases h
theorem dM{s' s:St}{d:Nat}{x:Slot}(hx:s d=some x)(h:Sub s' s):Sub (put s' d x) s:=fun t y hy=>by
 by_cases e:t=d
 ·subst e
  rw[fm]at hy
  rw[hx];exact hy
 ·rw[eh _ _ e]at hy;exact h t y hy
section
variable {w0:World} {H0:Heap} {n:Nat} {H:Heap} {a:Act} {w:World}
theorem Rel.sub{s s':St}(h:Rel w0 H0 n s H a w)(hs:Sub s' s):Rel w0 H0 n s' H a w:=by
 obtain⟨G,hl,hb⟩:=h.fits
 refine⟨h.defers,⟨G,⟨⟨hl.aN.size,fun t v ht=>hl.aN.at_ t v (hs t _ ht)⟩,fun t cs ht=>hl.boxes t cs (hs t _ ht),fun t t' cs bN ht po e=>hl.inj t t' cs bN (hs t _ ht) (hs t' _ po) e,
  fun t b off cs ht hb=>hl.refs t b off cs (hs t _ ht) (hs b _ hb),hl.den⟩,fun t cs ht=>hb t cs (hs t _ ht)⟩,h.fx⟩
end
def tZ(s:St):List Nat→Option St
 | []=>some emp
 | t::ts=>
  match s t with
  | some x=>(match tZ s ts with | some s'=>some (put s' t x) | none=>none)
  | none=>tZ s ts
theorem S0{s:St}:∀(ts:List Nat)(s':St),tZ s ts=some s'→Sub s' s:=by
 intro ts
 induction ts with
 | nil=>intro s' h;simp only[tZ,Option.some.injEq]at h;subst h;exact iZ s
 | cons t ts ih=>
  intro s' h
  unfold tZ at h
  split at h
  ·rename_i x hx
   split at h
   ·rename_i s1 h1
    simp only[Option.some.injEq]at h
    subst h
    exact dM hx (ih s1 h1)
   ·cases h
  ·exact ih s' h
section
variable (P:Program) (n:Nat) (w0:World) (H0:Heap)
def VC(c:Code)(Q:Exit→St→Heap→Prop)(s:St)(H:Heap):Prop:=
 ∀a w,Rel w0 H0 n s H a w→c.wp P (fun e a' w'=>∃s' H',Rel w0 H0 n s' H' a' w'∧Q e s' H') a w
end
def mq(K:St→Heap→Prop)(Q:Exit→St→Heap→Prop):Exit→St→Heap→Prop
 | .normal,s,H=>K s H
 | e,s,H=>Q e s H
def LW(id:Nat)(Q:Exit→St→Heap→Prop):Exit→St→Heap→Prop
 | .exit i,s,H=>cond (Nat.beq i id) (Q .normal s H) (Q (.exit i) s H)
 | e,s,H=>Q e s H
section
variable {P:Program} {n:Nat} {w0:World} {H0:Heap} {Q:Exit→St→Heap→Prop} {s:St} {H:Heap}
theorem wA{c:Code}{s':St}(hs:Sub s' s)(h:VC P n w0 H0 c Q s' H):VC P n w0 H0 c Q s H:=fun a w hR=>h a w (hR.sub hs)
theorem aj{c:Code}(ts:List Nat){s':St}(hs:tZ s ts=some s')(h:VC P n w0 H0 c Q s' H):VC P n w0 H0 c Q s H:=wA (S0 ts s' hs) h
theorem r6{c:Code}{Q':Exit→St→Heap→Prop}(h:VC P n w0 H0 c Q s H)(hq:∀e s H,Q e s H→Q' e s H):VC P n w0 H0 c Q' s H:=
 fun a w hR=>wp_mono (h a w hR) fun _ _ _ ⟨s',H',cN,r7⟩=>⟨s',H',cN,hq _ _ _ r7⟩
theorem ax(h:Q .normal s H):VC P n w0 H0 .skip Q s H:=fun _ _ hR=>wp_skip ⟨s,H,hR,h⟩
theorem aw(h:Q .ret s H):VC P n w0 H0 .ret Q s H:=fun _ _ hR=>wp_ret ⟨s,H,hR,h⟩
theorem bC{id:Nat}(h:Q (.exit id) s H):VC P n w0 H0 (.exit id) Q s H:=fun _ _ hR=>wp_exit ⟨s,H,hR,h⟩
theorem aq{x y:Code}(h:VC P n w0 H0 x (mq (VC P n w0 H0 y Q) Q) s H):VC P n w0 H0 (.seq x y) Q s H:=fun a w hR=>by
 refine wp_seq (wp_mono (h a w hR) fun e a' w' ⟨s',H',cN,hq⟩=> ?_)
 cases e with
 | normal=>exact hq a' w' cN
 | exit i=>exact⟨s',H',cN,hq⟩
 | goto l=>exact⟨s',H',cN,hq⟩
 | ret=>exact⟨s',H',cN,hq⟩
 | panic c=>exact⟨s',H',cN,hq⟩
 | outgrown=>exact⟨s',H',cN,hq⟩
theorem aD{id:Nat}{c:Code}(h:VC P n w0 H0 c (LW id Q) s H):VC P n w0 H0 (.block id c) Q s H:=fun a w hR=>by
 refine wp_block (wp_mono (h a w hR) fun e a' w' ⟨s',H',cN,hq⟩=> ?_)
 cases e with
 | normal=>exact⟨s',H',cN,hq⟩
 | exit i=>
  simp only[Exit.inBlock]
  unfold LW at hq
  by_cases e:i=id
  ·subst e
   rw[if_pos rfl]
   simp only[Nat.beq_refl,cond_true]at hq
   exact⟨s',H',cN,hq⟩
  ·rw[if_neg e]
   have hb:Nat.beq i id=false:=by
    cases hb:Nat.beq i id with
    | false=>rfl
    | true=>exact absurd (Nat.eq_of_beq_eq_true hb) e
   simp only[hb,cond_false]at hq
   exact⟨s',H',cN,hq⟩
 | goto l=>exact⟨s',H',cN,hq⟩
 | ret=>exact⟨s',H',cN,hq⟩
 | panic c=>exact⟨s',H',cN,hq⟩
 | outgrown=>exact⟨s',H',cN,hq⟩
theorem az{c:Operand}{x y:Code}{b:Bool}(hc:ev s c=some (.bool b))(ht:b=true→VC P n w0 H0 x Q s H)(hf:b=false→VC P n w0 H0 y Q s H):VC P n w0 H0 (.cond c x y) Q s H:=fun a w hR=>by
 obtain⟨G,hl,_⟩:=hR.fits
 exact wp_cond_split (bm hl.aN hc) (fun h=>ht h a w hR) (fun h=>hf h a w hR)
theorem eL{c:Operand}{x y:Code}(hc:ev s c=some (.bool true))(h:VC P n w0 H0 x Q s H):VC P n w0 H0 (.cond c x y) Q s H:=az hc (fun _=>h) (fun h=>by cases h)
theorem dG{c:Operand}{x y:Code}(hc:ev s c=some (.bool false))(h:VC P n w0 H0 y Q s H):VC P n w0 H0 (.cond c x y) Q s H:=az hc (fun h=>by cases h) (fun _=>h)
theorem aF{id:Nat}{l:List Oper}(hn:CP n l=true)(h:aE P n l.toArray .plain l s H (fun s H=>Q .normal s H)):VC P n w0 H0 (.region id l.toArray false) Q s H:=fun a w hR=>
 wp_region_lit (aE.wpList (fun s' H' _ _ cN hk=>⟨s',H',cN,hk⟩) l s H a w (LQ hn) hR h)
theorem fc(md:Mode)(perm:List Nat){id:Nat}{l:List Oper}(hf:P.follows .mixedOrders=true)(hc:CS n md l perm=true)(h:aE P n l.toArray md (perm.map (eU l)) s H (fun s H=>Q .normal s H)):
  VC P n w0 H0 (.region id l.toArray true) Q s H:=fun _ _ hR=>
 SZ hf hc (fun s' H' _ _ cN hk=>⟨s',H',cN,hk⟩) hR h
theorem LX{γ:Type}{c:Code}(R:γ→γ→Prop)(S:γ→St)(Φ:γ→Heap→Prop)(g:γ)(S1:Acc R g)(hs:Sub (S g) s)(h0:Φ g H)
  (round:∀g H,Φ g H→VC P n w0 H0 c (mq (fun s' H'=>∃g',R g' g∧Sub (S g') s'∧Φ g' H') Q) (S g) H):VC P n w0 H0 (.loop c) Q s H:=fun a w hR=>by
 intro b k cs
 have key:∀g,Acc R g→∀H a w,Φ g H→Rel w0 H0 n (S g) H a w→∃e a' w',(∃s' H',Rel w0 H0 n s' H' a' w'∧Q e s' H')∧Arrives P (lone (b.at a (.code c :: .inLoop c::k)) cs w) b k cs e a' w':=by
  intro g hg
  induction hg with
  | intro g _ ih=>
   intro H a w S2 hR
   obtain⟨e,wB,wC,⟨s',H',cN,hq⟩,r8⟩:=round g H S2 a w hR b (.inLoop c::k) cs
   cases e with
   | normal=>
    obtain⟨g',a7,S3,S4⟩:=hq
    obtain⟨S5,S6,S8,S9,Ta⟩:=ih g' a7 H' wB wC S4 (cN.sub S3)
    exact⟨S5,S6,S8,S9,.of_steps (Steps.trans r8 (.one step_inLoop)) Ta⟩
   | exit id=>exact⟨_,wB,wC,⟨s',H',cN,hq⟩,.pass (x:= .inLoop c) rfl (fun _ _=> .inl (by simp)) r8⟩
   | goto l=>exact⟨_,wB,wC,⟨s',H',cN,hq⟩,.pass (x:= .inLoop c) rfl (fun _ _=> .inl (by simp)) r8⟩
   | ret=>exact⟨_,wB,wC,⟨s',H',cN,hq⟩,.pass (x:= .inLoop c) rfl (fun _ _=> .inl (by simp)) r8⟩
   | panic ch=>exact⟨_,wB,wC,⟨s',H',cN,hq⟩,.pass (x:= .inLoop c) rfl (fun _ _=> .inl (by simp)) r8⟩
   | outgrown=>exact⟨_,wB,wC,⟨s',H',cN,hq⟩,.pass (x:= .inLoop c) rfl (fun _ _=> .inl (by simp)) r8⟩
 obtain⟨e,a',w',hq,r8⟩:=key g S1 H a w h0 (hR.sub hs)
 exact⟨e,a',w',hq,.of_steps (.one step_loop) r8⟩
theorem CV{γ:Type}{c:Code}(μ:γ→Nat)(S:γ→St)(Φ:γ→Heap→Prop)(g:γ)(hs:Sub (S g) s)(h0:Φ g H)
  (round:∀g H,Φ g H→VC P n w0 H0 c (mq (fun s' H'=>∃g',μ g'<μ g∧Sub (S g') s'∧Φ g' H') Q) (S g) H):VC P n w0 H0 (.loop c) Q s H:=
 LX (InvImage (· < ·) μ) S Φ g (InvImage.accessible μ (Nat.lt_wfRel.wf.apply _)) hs h0 round
end
structure Fn(P:Program)(f:FuncId)(args:Array Value)(H:Heap)(aX:Value→Heap→Prop):Prop where
 ent:∃fn,P.funcs[f]? = some fn∧fn.body.isNone=false∧(fn.name == "runtime.NumGoroutine")=false
 run:∀w,Den H w→Calls P f args w fun e w'=>∃v,e = .returned v∧∃H',aX v H'∧Den H' w'∧Fx H w H' w'
theorem Fn.mono{P:Program}{f:FuncId}{args:Array Value}{H:Heap}{aX LY:Value→Heap→Prop}(h:Fn P f args H aX)(hp:∀v H',aX v H'→LY v H'):Fn P f args H LY:=
 ⟨h.ent,fun w hd=>(h.run w hd).mono fun _ _ ⟨v,he,H',h1,h2,h3⟩=>⟨v,he,H',hp v H' h1,h2,h3⟩⟩
def start(args:List Value):St:=fun t=>match args[t]? with | some v=>some (.val v) | none=>none
inductive ua(P:Program)(s:St):List ResultVar→List Value→Prop
 | nil:ua P s [] []
 | tmp {t:Nat} {v:Value} {rs:List ResultVar} {vs:List Value} (h:s t=some (.val v)) (r:ua P s rs vs):ua P s (.tmp t::rs) (v::vs)
 | agg {t ty:Nat} {cs:List Value} {fs:Array Field} {i:TypeInfo} {rs:List ResultVar} {vs:List Value} (h:s t=some (.box cs)) (hu:P.underlying ty=some (.struct fs)) (hi:P.info? ty=some i) (hz:i.size=cs.length) (r:ua P s rs vs):
    ua P s (.cell t ty::rs) (.agg cs.toArray::vs)
def zb:List Value→Value
 | [v]=>v
 | vs=> .tuple vs.toArray
def Tc(P:Program)(rs:List ResultVar)(aX:Value→Heap→Prop)(e:Exit)(s:St)(H:Heap):Prop:=
 (e = .normal∨e = .ret)∧∃vs,ua P s rs vs∧aX (zb vs) H
theorem Td{P:Program}{w:World}{g:Nat}{cs:Array Value}{e:TypeId}(hg:w.heap[g]? = some (.cells cs e (0,0))):∀(k i:Nat)(acc:Array Value),i+k≤cs.size→
  (loadCellsFrom ⟨g,0,none⟩ i k acc).run P w = .ok (acc++(cs.toList.drop i |>.take k).toArray) w:=by
 intro k
 induction k with
 | zero=>intro i acc _;simp[loadCellsFrom]
 | succ k ih=>
  intro i acc hk
  have hi:i<cs.size:=by omega
  have hc:w.cell? ((⟨g,0,none⟩:Addr).add i)=some cs[i]:=by
   unfold Addr.add World.cell?
   by_cases h0:i=0
   ·subst h0;simp[hg,hi]
   ·simp[h0,hg,hi]
  simp only[loadCellsFrom,load,Sem.run_bind,Sem.run,hc,Result.andThen_ok]
  rw[ih (i+1) _ (by omega)]
  have hd:List.drop i cs.toList=cs[i]::List.drop (i+1) cs.toList:=by
   rw[List.drop_eq_getElem_cons (by simpa using hi)];simp
  rw[hd,List.take_succ_cons]
  simp
def wD(tmps:Array Value):ResultVar→Sem Value
 | .tmp t=>pure (tmps.getD t undef)
 | .cell b t=>(do loadVar t (←asAddr (tmps.getD b undef)))
theorem Te{tmps:Array Value}{t:Nat}{v:Value}(h:tmps[t]? = some v):wD tmps (.tmp t)=pure v:=by simp[wD,h]
theorem Tf{tmps:Array Value}{t ty:Nat}{v:Value}(h:tmps[t]? = some v):wD tmps (.cell t ty)=(do loadVar ty (←asAddr v)):=by simp[wD,h]
theorem Tg{fn:Func}{rs:List ResultVar}(hr:fn.results=rs.toArray)(tmps:Array Value):results fn tmps=(do
  let vs ←List.toArray <$> rs.mapM (wD tmps)
  pure (if h:vs.size=1 then vs[0]else .tuple vs)):=by
 unfold results
 rw[hr,List.mapM_toArray]
 exact congrArg (fun F:ResultVar→Sem Value=>(do
  let vs ←List.toArray <$> rs.mapM F
  pure (if h:vs.size=1 then vs[0]else .tuple vs):Sem Value)) (funext fun r=>by cases r <;> rfl)
theorem Th{P:Program}{n:Nat}{s:St}{H:Heap}{G:Nat→Nat}{a:Act}{w:World}(hl:Rl n s H G a w):∀{rs:List ResultVar}{vs:List Value},ua P s rs vs→
  Sem.run P (rs.mapM (wD a.tmps)) w=Result.ok vs w:=by
 intro rs vs h
 induction h with
 | nil=>simp
 | tmp h r ih=>
  have:=hl.aN.at_ _ _ h
  simp[List.mapM_cons,Te this,ih]
 | @agg t ty cs fs i rs vs h hu hi hz r ih=>
  obtain⟨h1,_,e,h2⟩:=hl.boxes _ _ h
  have Tj:=Td (P:=P) h2 cs.length 0 #[] (by simp)
  simp[List.mapM_cons,Tf h1,asAddr,loadVar,isAgg,run_underlying hu,sizeOf,typeInfo,hi,hz,loadCells,Tj,ih]
theorem aW{P:Program}{f:FuncId}{fn:Func}{c:Code}{args:List Value}{n:Nat}{H:Heap}{rs:List ResultVar}{aX:Value→Heap→Prop}(hf:P.funcs[f]? = some fn)(hb:fn.body=some c)
  (Tk:(fn.name == "runtime.NumGoroutine")=false) (hn:fn.ntmps=n) (hr:fn.results=rs.toArray) (zc:Nat.ble args.length n=true)
  (h:∀w0,VC P n w0 H c (Tc P rs aX) (start args) H):Fn P f args.toArray H aX:=by
 refine⟨⟨fn,hf,by rw[hb];rfl,Tk⟩,fun w hd=> ?_⟩
 have zc:=Nat.le_of_ble_eq_true zc
 refine calls_of_wp hf hb (wp_mono (h w _ w ⟨rfl,⟨fun _=>0,⟨⟨?_,fun t v ht=> ?_⟩,fun t cs ht=> ?_,fun t t' cs bN ht=> ?_,fun t b off cs ht=> ?_,hd⟩,fun t cs ht=> ?_⟩,.refl H w⟩) fun e a' w' ⟨s',H',cN,he,vs,ko,hp⟩=> ?_)
 ·simp[hn];omega
 ·simp only[start]at ht
  split at ht
  ·rename_i u hu
   simp only[Option.some.injEq,Slot.val.injEq]at ht
   subst ht
   rw[Array.getElem?_append_left (by simpa using(List.getElem?_eq_some_iff.1 hu).1)]
   simpa using hu
  ·cases ht
 ·simp only[start]at ht;split at ht <;> cases ht
 ·simp only[start]at ht;split at ht <;> cases ht
 ·simp only[start]at ht;split at ht <;> cases ht
 ·simp only[start]at ht;split at ht <;> cases ht
 ·obtain⟨G,hl,_⟩:=cN.fits
  have se:(results fn a'.tmps).run P w' = .ok (zb vs) w':=by
   have:=Th (P:=P) hl ko
   rw[Tg hr]
   simp only[Sem.run_bind,map_eq_pure_bind,this,Result.andThen_ok,Sem.run_pure]
   cases vs with
   | nil=>simp[zb]
   | cons v vs=>
    cases vs with
    | nil=>simp[zb]
    | cons u vs=>simp[zb]
  rcases he with rfl | rfl
  ·exact⟨cN.defers,_,se,_,rfl,H',hp,hl.den,cN.fx⟩
  ·exact⟨cN.defers,_,se,_,rfl,H',hp,hl.den,cN.fx⟩
attribute [irreducible] VC
end Go.ar
namespace Go.ar
inductive Ti where
 | sl (e sz:Nat)
 | st (n:Nat) (fs:List (Nat×Nat))
 | it (k:IntKind)
 | ce
 | no
abbrev Tb:=List Ti
def bX(P:Program)(t:TypeId):Ti→Prop
 | .sl e sz=>P.underlying t=some (.slice e)∧∃i,P.info? e=some i∧i.size=sz
 | .st n ps=>∃fs i,P.underlying t=some (.struct fs)∧P.info? t=some i∧i.size=n∧fs.size=ps.length∧
    ∀(f:Nat)(p:Nat×Nat),ps[f]? = some p→∃fd j,fs[f]? = some fd∧fd.offset=p.1∧P.info? fd.type=some j∧j.size=p.2∧p.2≠0
 | .it k=>P.underlying t=some (.int k)
 | .ce=>∃d,P.underlying t=some d∧(∀fs,d≠.struct fs)∧∀n e,d≠.array n e
 | .no=>True
def ja(P:Program)(tb:Tb):Prop:=∀(t:TypeId)(x:Ti),tb[t]? = some x→bX P t x
theorem GH{P:Program}{t:TypeId}{d:TypeDesc}(h:P.underlying t=some d)(h1:∀fs,d≠.struct fs)(h2:∀n e,d≠.array n e)(w:World):(isAgg t).run P w = .ok false w:=by
 unfold isAgg
 simp only[Sem.run_bind,run_underlying h,Result.andThen_ok]
 cases d <;> first | exact absurd rfl (h1 _) | exact absurd rfl (h2 _ _) | rfl
def ub:Ti→Bool
 | .sl .. | .it _ | .ce=>true
 | _=>false
theorem Tl{P:Program}{t:TypeId}{x:Ti}(h:bX P t x)(h1:ub x=true)(w:World):(isAgg t).run P w = .ok false w:=by
 cases x with
 | sl e sz=>exact GH h.1 (fun _ e=>by cases e) (fun _ _ e=>by cases e) w
 | it k=>exact GH h (fun _ e=>by cases e) (fun _ _ e=>by cases e) w
 | ce=>obtain⟨d,h1,h2,h3⟩:=h;exact GH h1 h2 h3 w
 | st n o=>cases h1
 | no=>cases h1
def eC(op:BinOp)(a b:Int):Option Bool:=
 match op with
 | .eql=>some (a == b)
 | .neq=>some (a != b)
 | .lss=>some (decide (a<b))
 | .leq=>some (decide (a≤b))
 | .gtr=>some (decide (a>b))
 | .geq=>some (decide (a≥b))
 | _=>none
def CW(x:Ti)(cs:List Value)(off:Nat):Option Value:=
 match x with
 | .st n _=>cond (Nat.ble (off+n) cs.length) (some (.agg (cond (Nat.beq off 0&&Nat.beq n cs.length) cs ((cs.drop off).take n)).toArray)) none
 | .sl .. | .it _ | .ce=>cs[off]?
 | .no=>none
def GI(tb:Tb)(s:St):Op→Option Slot
 | .move x=>(match ev s x with | some v=>some (.val v) | none=>none)
 | .assign x=>(match ev s x with | some v=>some (.val v) | none=>none)
 | .pick c a b=>(match ev s c with
  | some (.bool true)=>(match ev s a with | some v=>some (.val v) | none=>none)
  | some (.bool false)=>(match ev s b with | some v=>some (.val v) | none=>none)
  | _=>none)
 | .binOp op _ x y _=>(match ev s x,ev s y with
  | some (.int k a),some (.int k' b)=>(match decide (k=k')with
   | true=>(match eC op a b with | some r=>some (.val (.bool r)) | none=>none)
   | false=>none)
  | _,_=>none)
 | .unOp .not _ x=>(match ev s x with | some (.bool b)=>some (.val (.bool (!b))) | _=>none)
 | .extract x i=>(match ev s x with
  | some (.tuple vs)=>(match vs[i]? with | some v=>some (.val v) | none=>none)
  | _=>none)
 | .nilCheck x=>(match ev s x with | some (.pointer (some a))=>some (.val (.pointer (some a))) | _=>none)
 | .load t (.tmp x)=>(match s x with
  | some (.box cs)=>(match tb[t]? with
   | some ti=>(match CW ti cs 0 with | some v=>some (.val v) | none=>none)
   | none=>none)
  | some (.ref b off)=>(match s b with
   | some (.box cs)=>(match tb[t]? with
    | some ti=>(match CW ti cs off with | some v=>some (.val v) | none=>none)
    | none=>none)
   | _=>none)
  | _=>none)
 | .fieldAddr t (.tmp x) f=>(match tb[t]? with
  | some (.st _ ps)=>(match ps[f]? with
   | some p=>(match s x with
    | some (.box _)=>some (.ref x p.1)
    | some (.ref b off)=>(match s b with | some (.box _)=>some (.ref b (off+p.1)) | _=>none)
    | _=>none)
   | none=>none)
  | _=>none)
 | .call c=>(match c.callee with
  | .builtin .len=>(match c.args.toList,c.argTypes.toList with
   | [x],[t]=>(match ev s x with
    | some (.slice _ n _)=>(match tb[t]? with | some (.sl _ _)=>some (.val (.int .i64 n)) | _=>none)
    | _=>none)
   | _,_=>none)
  | _=>none)
 | _=>none
def bM(all:Array Oper)(s:St):Option (Nat×Bool)→Option Bool
 | none=>some true
 | some (j,want)=>(match (match all[j]? with | some o=>o.dst | none=>none)with
  | some d=>(match s d with | some (.val (.bool b))=>some (match b,want with | true,true=>true | false,false=>true | _,_=>false) | some (.val (.tuple _))=>some false | _=>none)
  | none=>none)
def CX(md:Mode)(s:St):Op→Bool
 | .load _ (.tmp x)=>(match s x with
  | some (.box _)=> !md.wr x
  | some (.ref b _)=> !md.wr b
  | _=>true)
 | _=>true
def sh(tb:Tb)(md:Mode)(all:Array Oper):List Oper→St→Option St
 | [],s=>some s
 | o::r,s=>(match md.nb s o.dst&&CX md s o.op with
  | true=>(match bM all s o.guard with
   | some true=>(match GI tb s o.op with | some x=>sh tb md all r (aR s o.dst x) | none=>none)
   | some false=>sh tb md all r (aR s o.dst (.val undef))
   | none=>none)
  | false=>none)
section
variable {P:Program} {n:Nat} {tb:Tb} {all:Array Oper} {s:St} {H:Heap} {o:Oper}
theorem iD(h:bM all s o.guard=some true):yV all s o:=by
 unfold bM at h
 split at h
 ·rename_i hg;exact .inl hg
 ·rename_i j want hg
  split at h
  ·rename_i d hd
   split at h
   ·rename_i b hs
    refine .inr ⟨j,want,d,hg,?_,?_⟩
    ·cases hj:all[j]? with
     | none=>rw[hj]at hd;cases hd
     | some o'=>rw[hj]at hd;exact hd
    ·cases b <;> cases want <;> simp at h <;> exact hs
   ·cases h
   ·cases h
  ·cases h
theorem LZ(h:bM all s o.guard=some false):LA all s o:=by
 unfold bM at h
 split at h
 ·cases h
 ·rename_i j want hg
  split at h
  ·rename_i d hd
   split at h
   ·rename_i b hs
    refine⟨j,want,d,_,hg,?_,hs,.inl ⟨b,rfl,?_⟩⟩
    ·cases hj:all[j]? with
     | none=>rw[hj]at hd;cases hd
     | some o'=>rw[hj]at hd;exact hd
    ·cases b <;> cases want <;> simp at h <;> simp
   ·rename_i ts hs
    refine⟨j,want,d,_,hg,?_,hs,.inr ⟨ts,rfl⟩⟩
    cases hj:all[j]? with
    | none=>rw[hj]at hd;cases hd
    | some o'=>rw[hj]at hd;exact hd
   ·cases h
  ·cases h
theorem L0{w:World}{g off:Nat}{cs:Array Value}{e:TypeId}{fz:Nat×Nat}(hg:w.heap[g]? = some (.cells cs e fz))(i:Nat):w.cell? ((⟨g,off,none⟩:Addr).add i)=cs[off+i]? :=by
 unfold Addr.add World.cell?
 by_cases h0:i=0
 ·subst h0;simp[hg]
 ·simp[h0,hg]
theorem Tm{w:World}{a:Addr}(vs:List Value)(hc:∀(i:Nat)(v:Value),vs[i]? = some v→w.cell? (a.add i)=some v):∀(k i:Nat)(acc:Array Value),i+k≤vs.length→
  (loadCellsFrom a i k acc).run P w = .ok (acc++((vs.drop i).take k).toArray) w:=by
 intro k
 induction k with
 | zero=>intro i acc _;simp[loadCellsFrom]
 | succ k ih=>
  intro i acc hk
  have hi:i<vs.length:=by omega
  simp only[loadCellsFrom,load,Sem.run_bind,Sem.run,hc i _ (List.getElem?_eq_getElem hi),Result.andThen_ok]
  rw[ih (i+1) _ (by omega),List.drop_eq_getElem_cons hi,List.take_succ_cons]
  simp
theorem L1{w:World}{a:Addr}{t:TypeId}{fs:Array Field}{i:TypeInfo}(hu:P.underlying t=some (.struct fs))(hi:P.info? t=some i)(vs:List Value)(hz:i.size=vs.length)
  (hc:∀(j:Nat)(v:Value),vs[j]? = some v→w.cell? (a.add j)=some v):(loadVar t a).run P w = .ok (.agg vs.toArray) w:=by
 have:=Tm (P:=P) vs hc vs.length 0 #[] (by omega)
 simp[loadVar,isAgg,run_underlying hu,sizeOf,typeInfo,hi,hz,loadCells,this]
theorem GJ{w:World}{a:Addr}{t:TypeId}{x:Ti}(ht:bX P t x)(h1:ub x=true){v:Value}(hc:w.cell? a=some v):(loadVar t a).run P w = .ok v w:=by
 simp[loadVar,Tl ht h1,load,Sem.run,hc]
theorem L2{w:World}{g off:Nat}{cs:List Value}{e t:TypeId}{x:Ti}{v:Value}(ht:bX P t x)(hg:w.heap[g]? = some (.cells cs.toArray e (0,0)))(h:CW x cs off=some v):(loadVar t ⟨g,off,none⟩).run P w = .ok v w:=by
 have one:ub x=true→cs[off]? = some v→(loadVar t ⟨g,off,none⟩).run P w = .ok v w:=fun h1 h2=>by
  refine GJ ht h1 ?_
  have:=L0 (off:=off) hg 0
  simp only[Addr.add,if_true,Nat.add_zero]at this
  rw[this];simpa using h2
 cases x with
 | sl e sz=>exact one rfl h
 | it k=>exact one rfl h
 | ce=>exact one rfl h
 | no=>cases h
 | st m uc=>
  obtain⟨fs,i,hu,hi,hz,_,_⟩:=ht
  simp only[CW]at h
  cases hb:Nat.ble (off+m) cs.length with
  | false=>rw[hb]at h;cases h
  | true=>
   rw[hb]at h
   have hle:=Nat.le_of_ble_eq_true hb
   simp only[cond_true,Option.some.injEq]at h
   subst h
   have GF:(cond (Nat.beq off 0&&Nat.beq m cs.length) cs ((cs.drop off).take m))=(cs.drop off).take m:=by
    cases hc:(Nat.beq off 0&&Nat.beq m cs.length)with
    | false=>rfl
    | true=>
     simp only[Bool.and_eq_true]at hc
     have h1:=Nat.eq_of_beq_eq_true hc.1
     have h2:=Nat.eq_of_beq_eq_true hc.2
     subst h1
     subst h2
     simp
   rw[GF]
   refine L1 hu hi _ (by rw[hz];simp;omega) fun j v hj=> ?_
   rw[L0 hg]
   rw[List.getElem?_take]at hj
   split at hj
   ·rw[List.getElem?_drop]at hj;simpa using hj
   ·cases hj
theorem Tn{op:BinOp}{a b:Int}{r:Bool}(h:eC op a b=some r):Op.intCmp op a b=pure (.bool r):=by
 cases op <;> simp[eC,Op.intCmp]at h⊢<;> rw[h]
theorem qH{op:BinOp}{t:TypeId}{x y:Operand}{k k':IntKind}{a b:Int}(w:World):(eqGuard op t x y (.int k a) (.int k' b)).run P w = .ok () w:=by
 unfold eqGuard
 cases op <;> simp
theorem CY{a:Addr}{fd:Field}{j:TypeInfo}(hj:P.info? fd.type=some j)(hz:j.size≠0)(w:World):(fieldPlace a fd).run P w = .ok (a.add fd.offset) w:=by
 simp[fieldPlace,sizeOf,typeInfo,hj,hz]
theorem fS.runs{md:Mode}{s s':St}(h:fS md s s')(hr:yV all s o):yV all s' o:=by
 rcases hr with hg | ⟨j,want,d,hg,hd,hs⟩
 ·exact .inl hg
 ·exact .inr ⟨j,want,d,hg,hd,h.val (fun c e=>by cases e) hs⟩
theorem To(cY:ja P tb){md:Mode}{K:St→Heap→Prop}{x:Slot}(hg:yV all s o)(nb:md.nb s o.dst=true)(mr:CX md s o.op=true)(h:GI tb s o.op=some x)(k:K (aR s o.dst x) H):eP P n all md o s H K:=by
 obtain⟨dst,op,ty,pos,after,guard⟩:=o
 have dn:∀(v:Value),ni op=false→(∀a w,eG n s a→(execOp a.eval ⟨dst,op,ty,pos,after,guard⟩).run P w = .ok (.value v) w)→x = .val v→eP P n all md ⟨dst,op,ty,pos,after,guard⟩ s H K:=by
  intro v h1 h2 h3
  subst h3
  exact .fX v (.inl h1) nb (fun a w ha _=> .inl ⟨fZ ha hg,h2 a w ha⟩) k
 simp only at h
 unfold GI at h
 split at h
 ·rename_i y
  split at h
  ·rename_i v hv
   simp only[Option.some.injEq]at h
   exact dn v rfl (fun a w ha=>by simp[execOp,bm ha hv]) h.symm
  ·cases h
 ·rename_i y
  split at h
  ·rename_i v hv
   simp only[Option.some.injEq]at h
   exact dn v rfl (fun a w ha=>by simp[execOp,bm ha hv]) h.symm
  ·cases h
 ·rename_i c y z
  split at h
  ·rename_i hc
   split at h
   ·rename_i v hv
    simp only[Option.some.injEq]at h
    exact dn v rfl (fun a w ha=>by simp[execOp,bm ha hv,bm ha hc,asBool]) h.symm
   ·cases h
  ·rename_i hc
   split at h
   ·rename_i v hv
    simp only[Option.some.injEq]at h
    exact dn v rfl (fun a w ha=>by simp[execOp,bm ha hv,bm ha hc,asBool]) h.symm
   ·cases h
  ·cases h
 ·rename_i op t y z t'
  split at h
  ·rename_i k1 a1 k2 b1 hy hz
   split at h
   ·rename_i hk
    have hk:=of_decide_eq_true hk
    subst hk
    split at h
    ·rename_i r hr
     simp only[Option.some.injEq]at h
     refine dn (.bool r) rfl (fun a w ha=> ?_) h.symm
     have acK:=Tn hr
     simp only[execOp,bm ha hy,bm ha hz,Sem.run_bind,qH,Result.andThen_ok]
     cases op <;> simp[eC]at hr <;> simp[binOp,Op.intCmp,hr]
    ·cases h
   ·cases h
  ·cases h
 ·rename_i t y
  split at h
  ·rename_i b hb
   simp only[Option.some.injEq]at h
   exact dn _ rfl (fun a w ha=>by simp[execOp,bm ha hb,Op.unary]) h.symm
  ·cases h
 ·rename_i y i
  split at h
  ·rename_i vs ko
   split at h
   ·rename_i v hv
    simp only[Option.some.injEq]at h
    exact dn v rfl (fun a w ha=>by simp[execOp,bm ha ko,Instr.extract,hv]) h.symm
   ·cases h
  ·cases h
 ·rename_i y
  split at h
  ·rename_i ad hb
   simp only[Option.some.injEq]at h
   exact dn _ rfl (fun a w ha=>by simp[execOp,bm ha hb]) h.symm
  ·cases h
 ·rename_i t y
  split at h
  ·rename_i cs fe
   split at h
   ·rename_i ti ak
    split at h
    ·rename_i v hv
     simp only[Option.some.injEq]at h
     subst h
     refine .fT (.val v) rfl nb rfl (fun s' jQ G a w hl=>⟨v,rfl,fZ hl.aN (jQ.runs hg),?_⟩) k
     have lK:md.wr y=false:=by simpa [CX,fe]using mr
     obtain⟨h1,_,e,h2⟩:=hl.boxes y cs (by rw[jQ.ia lK];exact fe)
     have:=L2 (cY t ti ak) h2 hv
     have he:a.eval (.tmp y) = .pointer (some ⟨G y,0,none⟩):=by simp[Act.eval,h1]
     simp[execOp,Instr.loadAt,he,Instr.sureAddr,this]
    ·cases h
   ·cases h
  ·rename_i b off CZ
   split at h
   ·rename_i cs fe
    split at h
    ·rename_i ti ak
     split at h
     ·rename_i v hv
      simp only[Option.some.injEq]at h
      subst h
      refine .fT (.val v) rfl nb rfl (fun s' jQ G a w hl=>⟨v,rfl,fZ hl.aN (jQ.runs hg),?_⟩) k
      have lK:md.wr b=false:=by simpa [CX,CZ]using mr
      have wE:s' b=some (.box cs):=by rw[jQ.ia lK];exact fe
      obtain⟨h1,_,e,h2⟩:=hl.boxes b cs wE
      have:=L2 (cY t ti ak) h2 hv
      have he:a.eval (.tmp y) = .pointer (some ⟨G b,off,none⟩):=by simp[Act.eval,hl.refs _ _ _ _ (jQ.val (fun c e=>by cases e) CZ) wE]
      simp[execOp,Instr.loadAt,he,Instr.sureAddr,this]
     ·cases h
    ·cases h
   ·cases h
  ·cases h
 ·rename_i t y f
  split at h
  ·rename_i m uc ak
   obtain⟨fs,i,hu,hi,hz,_,Tp⟩:=cY t _ ak
   split at h
   ·rename_i p Tq
    obtain⟨o',dS⟩:=p
    obtain⟨fd,j,jR,kR,sj,Tr,Ts⟩:=Tp f _ Tq
    have L3:j.size≠0:=by rw[Tr];exact Ts
    simp only at kR h
    split at h
    ·rename_i cs fe
     simp only[Option.some.injEq]at h
     subst h
     refine .fT (.ref y o') rfl nb (by simp[Slot.oj,fe]) (fun s' jQ G a w hl=>⟨_,rfl,fZ hl.aN (jQ.runs hg),?_⟩) k
     obtain⟨c2,wE⟩:=jQ.box fe
     obtain⟨h1,_,e,h2⟩:=hl.boxes _ _ wE
     have he:a.eval (.tmp y) = .pointer (some ⟨G y,0,none⟩):=by simp[Act.eval,h1]
     have qI:(⟨G y,0,none⟩:Addr).add o'=⟨G y,o',none⟩:=by
      unfold Addr.add;split
      ·rename_i e0;rw[e0]
      ·simp
     simp[execOp,Instr.fieldAt,run_underlying hu,jR,he,Instr.sureAddr,CY sj L3,kR,qI]
    ·rename_i b off CZ
     split at h
     ·rename_i cs fe
      simp only[Option.some.injEq]at h
      subst h
      refine .fT (.ref b (off+o')) rfl nb (by simp[Slot.oj,fe]) (fun s' jQ G a w hl=>⟨_,rfl,fZ hl.aN (jQ.runs hg),?_⟩) k
      obtain⟨c2,wE⟩:=jQ.box fe
      have he:a.eval (.tmp y) = .pointer (some ⟨G b,off,none⟩):=by simp[Act.eval,hl.refs _ _ _ _ (jQ.val (fun c e=>by cases e) CZ) wE]
      have qI:(⟨G b,off,none⟩:Addr).add o'=⟨G b,off+o',none⟩:=by
       unfold Addr.add;split
       ·rename_i e0;rw[e0];rfl
       ·rfl
      simp[execOp,Instr.fieldAt,run_underlying hu,jR,he,Instr.sureAddr,CY sj L3,kR,qI]
     ·cases h
    ·cases h
   ·cases h
  ·cases h
 ·rename_i c
  obtain⟨callee,args,argTypes⟩:=c
  simp only at h
  split at h
  ·split at h
   ·rename_i y t zc Tt
    have e1:args = #[y]:=by rw[←Array.toArray_toList (xs:=args),zc]
    have e2:argTypes = #[t]:=by rw[←Array.toArray_toList (xs:=argTypes),Tt]
    subst e1
    subst e2
    split at h
    ·rename_i A m c hv
     split at h
     ·rename_i e' dS ak
      simp only[Option.some.injEq]at h
      have hu:=(cY t _ ak).1
      exact dn _ rfl (fun a w ha=>by simp[execOp,resolve,invoke,builtin,bm ha hv,Builtin.len_,run_underlying hu,goInt]) h.symm
     ·cases h
    ·cases h
   ·cases h
  ·cases h
 ·cases h
theorem Tu(cY:ja P tb){md:Mode}{K:St→Heap→Prop}{r:List Oper}:∀(l:List Oper)(s s':St),sh tb md all l s=some s'→aE P n all md r s' H K→aE P n all md (l++r) s H K:=by
 intro l
 induction l with
 | nil=>intro s s' h k;simp only[sh,Option.some.injEq]at h;subst h;exact k
 | cons o l ih=>
  intro s s' h k
  simp only[sh]at h
  split at h
  ·rename_i Tv
   obtain⟨nb,mr⟩:=Bool.and_eq_true_iff.1 Tv
   split at h
   ·rename_i hg
    split at h
    ·rename_i x hx
     exact To cY (iD hg) nb mr hx (ih _ _ h k)
    ·cases h
   ·rename_i hg
    refine .fX undef ?_ nb (fun a w ha _=> .inr ⟨Sr ha (LZ hg),rfl⟩) (ih _ _ h k)
    obtain⟨j,want,d,b,kQ,_⟩:=LZ hg
    exact .inr (by rw[kQ];simp)
   ·cases h
  ·cases h
theorem L4(cY:ja P tb){md:Mode}{K:St→Heap→Prop}(k:Nat){l:List Oper}{s':St}(h:sh tb md all (l.take k) s=some s')(hk:aE P n all md (l.drop k) s' H K):aE P n all md l s H K:=by
 have:=Tu (r:=l.drop k) cY _ _ _ h hk
 rwa [List.take_append_drop]at this
theorem L5{md:Mode}{K:St→Heap→Prop}{l:List Oper}(d:Nat){x x':Slot}(hs:s d=some x)(he:x=x')(hk:aE P n all md l (put s d x') H K):aE P n all md l s H K:=by
 subst he
 have:put s d x=s:=by
  funext t
  by_cases e:t=d
  ·subst e;rw[fm,hs]
  ·rw[eh _ _ e]
 rwa [this]at hk
end
end Go.ar
namespace Go.ar
abbrev Fit(k:IntKind)(n:Int):Prop:=
 match k with
 | .i8=> -128≤n∧n≤127
 | .i16=> -32768≤n∧n≤32767
 | .i32=> -2147483648≤n∧n≤2147483647
 | .i64=> -9223372036854775808≤n∧n≤9223372036854775807
 | .u8=>0≤n∧n≤255
 | .u16=>0≤n∧n≤65535
 | .u32=>0≤n∧n≤4294967295
 | .u64=>0≤n∧n≤18446744073709551615
theorem ue{k:IntKind}{n:Int}(h:Fit k n):k.wrap n=n:=by
 cases k <;> simp only[Fit]at h <;> simp only[IntKind.wrap,IntKind.bits,IntKind.signed] <;> simp <;> omega
section
variable {P:Program} {n:Nat} {tb:Tb} {all:Array Oper} {s:St} {H:Heap} {md:Mode} {K:St→Heap→Prop} {r:List Oper} {dst:Option Nat} {ty:TypeId} {pos:String} {after:Array Edge} {gd:Option (Nat×Bool)}
theorem fp{op:Op}(v:Value)(hm:ni op=false)(hg:bM all s gd=some true)(nb:md.nb s dst=true)
  (h:∀a w,eG n s a→Den H w→(execOp a.eval ⟨dst,op,ty,pos,after,gd⟩).run P w = .ok (.value v) w) (k:aE P n all md r (aR s dst (.val v)) H K):aE P n all md (⟨dst,op,ty,pos,after,gd⟩::r) s H K:=
 .fX v (.inl hm) nb (fun a w ha hd=> .inl ⟨fZ ha (iD (o:=⟨dst,op,ty,pos,after,gd⟩) hg),h a w ha hd⟩) k
theorem aO{t t':TypeId}{x y:Operand}{k:IntKind}{a b:Int}(hx:ev s x=some (.int k a))(hy:ev s y=some (.int k b))(hf:Fit k (a+b))
  (hk:aE P n all md r (aR s dst (.val (.int k (a+b)))) H K) (hg:bM all s gd=some true:=by rfl) (nb:md.nb s dst=true:=by rfl):aE P n all md (⟨dst,.binOp .add t x y t',ty,pos,after,gd⟩::r) s H K:=
 fp _ rfl hg nb (fun c w hc _=>by simp[execOp,bm hc hx,bm hc hy,qH,binOp,Op.intArith,ue hf]) hk
theorem di{t t':TypeId}{x y:Operand}{k:IntKind}{a b:Int}(hx:ev s x=some (.int k a))(hy:ev s y=some (.int k b))(hf:Fit k (a-b))
  (hk:aE P n all md r (aR s dst (.val (.int k (a-b)))) H K) (hg:bM all s gd=some true:=by rfl) (nb:md.nb s dst=true:=by rfl):aE P n all md (⟨dst,.binOp .sub t x y t',ty,pos,after,gd⟩::r) s H K:=
 fp _ rfl hg nb (fun c w hc _=>by simp[execOp,bm hc hx,bm hc hy,qH,binOp,Op.intArith,ue hf]) hk
theorem gG{t t':TypeId}{x y:Operand}{k:IntKind}{a b:Int}(hx:ev s x=some (.int k a))(hy:ev s y=some (.int k b))(hf:Fit k (a*b))
  (hk:aE P n all md r (aR s dst (.val (.int k (a*b)))) H K) (hg:bM all s gd=some true:=by rfl) (nb:md.nb s dst=true:=by rfl):aE P n all md (⟨dst,.binOp .mul t x y t',ty,pos,after,gd⟩::r) s H K:=
 fp _ rfl hg nb (fun c w hc _=>by simp[execOp,bm hc hx,bm hc hy,qH,binOp,Op.intArith,ue hf]) hk
theorem Tw{t t':TypeId}{x y:Operand}{k:IntKind}{a b:Int}{op:BinOp}{v:Int}(hx:ev s x=some (.int k a))(hy:ev s y=some (.int k b))(hv:Op.intArith op k a b=pure (.int k v))
  (hk:aE P n all md r (aR s dst (.val (.int k v))) H K) (hg:bM all s gd=some true:=by rfl) (nb:md.nb s dst=true:=by rfl):aE P n all md (⟨dst,.binOp op t x y t',ty,pos,after,gd⟩::r) s H K:=
 fp _ rfl hg nb (fun c w hc _=>by
  cases op <;> simp[Op.intArith,stuck,pure]at hv <;> simp[execOp,bm hc hx,bm hc hy,qH,binOp,Op.intArith,hv]) hk
theorem jy{t t':TypeId}{x y:Operand}{k:IntKind}{a b:Int}(hx:ev s x=some (.int k a))(hy:ev s y=some (.int k b))(ha:0≤a)(hb:0<b)(hf:Fit k (a/b))
  (hk:aE P n all md r (aR s dst (.val (.int k (a/b)))) H K) (hg:bM all s gd=some true:=by rfl) (nb:md.nb s dst=true:=by rfl):aE P n all md (⟨dst,.binOp .quo t x y t',ty,pos,after,gd⟩::r) s H K:=
 fp _ rfl hg nb (fun c w hc _=>by
  have e:a.tdiv b=a/b:=Int.tdiv_eq_ediv_of_nonneg ha
  have h0:b≠0:=by omega
  simp[execOp,bm hc hx,bm hc hy,qH,binOp,Op.intDiv,h0,e,ue hf]) hk
theorem kp{t t':TypeId}{x y:Operand}{k:IntKind}{a b:Int}(hx:ev s x=some (.int k a))(hy:ev s y=some (.int k b))(ha:0≤a)(hb:0<b)
  (hk:aE P n all md r (aR s dst (.val (.int k (a%b)))) H K) (hg:bM all s gd=some true:=by rfl) (nb:md.nb s dst=true:=by rfl):aE P n all md (⟨dst,.binOp .rem t x y t',ty,pos,after,gd⟩::r) s H K:=
 fp _ rfl hg nb (fun c w hc _=>by
  have e:a.tmod b=a%b:=Int.tmod_eq_emod_of_nonneg ha
  have h0:b≠0:=by omega
  simp[execOp,bm hc hx,bm hc hy,qH,binOp,Op.intDiv,h0,e]) hk
theorem Tx{t t':TypeId}{x y:Operand}{k:IntKind}{a b:Int}(hx:ev s x=some (.int k a))(hy:ev s y=some (.int k b))(hb:b≠0)(hf:Fit k (a.tdiv b))
  (hk:aE P n all md r (aR s dst (.val (.int k (a.tdiv b)))) H K) (hg:bM all s gd=some true:=by rfl) (nb:md.nb s dst=true:=by rfl):aE P n all md (⟨dst,.binOp .quo t x y t',ty,pos,after,gd⟩::r) s H K:=
 fp _ rfl hg nb (fun c w hc _=>by simp[execOp,bm hc hx,bm hc hy,qH,binOp,Op.intDiv,hb,ue hf]) hk
theorem wF{t:TypeId}{x:Operand}{k:IntKind}{a:Int}(hx:ev s x=some (.int k a))(hf:Fit k (-a))
  (hk:aE P n all md r (aR s dst (.val (.int k (-a)))) H K) (hg:bM all s gd=some true:=by rfl) (nb:md.nb s dst=true:=by rfl):aE P n all md (⟨dst,.unOp .neg t x,ty,pos,after,gd⟩::r) s H K:=
 fp _ rfl hg nb (fun c w hc _=>by simp[execOp,bm hc hx,Op.unary,Op.intArith,ue hf]) hk
theorem cF{src d:TypeId}{x:Operand}{k k':IntKind}{a:Int}(cY:ja P tb)(hd:tb[d]? = some (.it k'))(hs:tb[src]? = some (.it k))(hx:ev s x=some (.int k a))(hf:Fit k' a)
  (hk:aE P n all md r (aR s dst (.val (.int k' a))) H K) (hg:bM all s gd=some true:=by rfl) (nb:md.nb s dst=true:=by rfl):aE P n all md (⟨dst,.convert src d x,ty,pos,after,gd⟩::r) s H K:=
 fp _ rfl hg nb (fun c w hc _=>by
  have h1:=cY d _ hd
  have h2:=cY src _ hs
  simp only[bX]at h1 h2
  simp[execOp,bm hc hx,convert,run_underlying h1,run_underlying h2,Conv.intToInt,ue hf]) hk
theorem L6{src d:TypeId}{x:Operand}{k k':IntKind}{a:Int}(cY:ja P tb)(hd:tb[d]? = some (.it k'))(hs:tb[src]? = some (.it k))(hx:ev s x=some (.int k a))
  (hk:aE P n all md r (aR s dst (.val (.int k' (k'.wrap a)))) H K) (hg:bM all s gd=some true:=by rfl) (nb:md.nb s dst=true:=by rfl):aE P n all md (⟨dst,.convert src d x,ty,pos,after,gd⟩::r) s H K:=
 fp _ rfl hg nb (fun c w hc _=>by
  have h1:=cY d _ hd
  have h2:=cY src _ hs
  simp only[bX]at h1 h2
  simp[execOp,bm hc hx,convert,run_underlying h1,run_underlying h2,Conv.intToInt]) hk
theorem GK{t t':TypeId}{x y:Operand}{a b:Bool}(ht:P.underlying t=some .bool)(hx:ev s x=some (.bool a))(hy:ev s y=some (.bool b))
  (hk:aE P n all md r (aR s dst (.val (.bool (a == b)))) H K) (hg:bM all s gd=some true:=by rfl) (nb:md.nb s dst=true:=by rfl):aE P n all md (⟨dst,.binOp .eql t x y t',ty,pos,after,gd⟩::r) s H K:=
 fp _ rfl hg nb (fun c w hc _=>by
  have e:(eqGuard .eql t x y (.bool a) (.bool b)).run P w = .ok () w:=by simp[eqGuard]
  simp only[execOp,bm hc hx,bm hc hy,Sem.run_bind,e,run_eql_bool w t a b ht,Result.andThen_ok,Sem.run_pure]) hk
theorem GL{t t':TypeId}{x y:Operand}{a b:Bool}(ht:P.underlying t=some .bool)(hx:ev s x=some (.bool a))(hy:ev s y=some (.bool b))
  (hk:aE P n all md r (aR s dst (.val (.bool (a != b)))) H K) (hg:bM all s gd=some true:=by rfl) (nb:md.nb s dst=true:=by rfl):aE P n all md (⟨dst,.binOp .neq t x y t',ty,pos,after,gd⟩::r) s H K:=
 fp _ rfl hg nb (fun c w hc _=>by
  have e:(eqGuard .neq t x y (.bool a) (.bool b)).run P w = .ok () w:=by simp[eqGuard]
  simp only[execOp,bm hc hx,bm hc hy,Sem.run_bind,e,run_neq_bool w t a b ht,Result.andThen_ok,Sem.run_pure,bne]) hk
theorem zd{t t':TypeId}{x y:Operand}{p:Option Addr}(ht:P.underlying t=some (.pointer (P.pointee t)))(hx:ev s x=some (.pointer p))(hy:ev s y=some (.pointer none))
  (hk:aE P n all md r (aR s dst (.val (.bool p.isNone))) H K) (hg:bM all s gd=some true:=by rfl) (nb:md.nb s dst=true:=by rfl):aE P n all md (⟨dst,.binOp .eql t x y t',ty,pos,after,gd⟩::r) s H K:=
 fp _ rfl hg nb (fun c w hc _=>by
  have e:(eqGuard .eql t x y (.pointer p) (.pointer none)).run P w = .ok () w:=by simp[eqGuard]
  simp only[execOp,bm hc hx,bm hc hy,Sem.run_bind,e,run_eql_pointer_nil w t p ht,Result.andThen_ok,Sem.run_pure]) hk
theorem sk{t t':TypeId}{x y:Operand}{p:Option Addr}(ht:P.underlying t=some (.pointer (P.pointee t)))(hx:ev s x=some (.pointer p))(hy:ev s y=some (.pointer none))
  (hk:aE P n all md r (aR s dst (.val (.bool (!p.isNone)))) H K) (hg:bM all s gd=some true:=by rfl) (nb:md.nb s dst=true:=by rfl):aE P n all md (⟨dst,.binOp .neq t x y t',ty,pos,after,gd⟩::r) s H K:=
 fp _ rfl hg nb (fun c w hc _=>by
  have e:(eqGuard .neq t x y (.pointer p) (.pointer none)).run P w = .ok () w:=by simp[eqGuard]
  simp only[execOp,bm hc hx,bm hc hy,Sem.run_bind,e,run_neq_pointer_nil w t p ht,Result.andThen_ok,Sem.run_pure]) hk
def Rd(H:Heap)(A:Option Addr)(xs:List Value):Prop:=∀(i:Nat)(v:Value),xs[i]? = some v→∃ad,A=some ad∧cell H (ad.add i)=some v
theorem Rd.le{H H':Heap}{A:Option Addr}{xs:List Value}(h:Rd H A xs)(hl:Heap.le H H'):Rd H' A xs:=fun i v hv=>by
 obtain⟨ad,h1,h2⟩:=h i v hv
 exact⟨ad,h1,cy hl h2⟩
theorem Rd.nil(H:Heap)(A:Option Addr):Rd H A []:=fun i v h=>by simp at h
theorem add_add(a:Addr)(i j:Nat):(a.add i).add j=a.add (i+j):=by
 unfold Addr.add
 by_cases hi:i=0 <;> by_cases hj:j=0 <;> simp[hi,hj,Nat.add_assoc]
theorem qJ{t:TypeId}{x i:Operand}{ad:Addr}{m c:Nat}{k:IntKind}{j:Int}{e sz:Nat}(cY:ja P tb)(ht:tb[t]? = some (.sl e sz))(hx:ev s x=some (.slice (some ad) m c))(hi:ev s i=some (.int k j))(h0:0≤j)(h1:j<m)
  (hk:aE P n all md r (aR s dst (.val (.pointer (some (ad.add (j.toNat*sz)))))) H K) (hg:bM all s gd=some true:=by rfl) (nb:md.nb s dst=true:=by rfl):aE P n all md (⟨dst,.indexAddr t x i,ty,pos,after,gd⟩::r) s H K:=
 fp _ rfl hg nb (fun a w ha _=>by
  obtain⟨hu,ii,h2,h3⟩:=cY t _ ht
  simp[execOp,bm ha hx,bm ha hi,Instr.indexAt,asIntOf,run_underlying hu,h0,h1,sizeOf,typeInfo,h2,h3]) hk
theorem a4{t:TypeId}{x:Operand}{f:Nat}{ad:Addr}{m o z:Nat}{ps:List (Nat×Nat)}(cY:ja P tb)(ht:tb[t]? = some (.st m ps))(hf:ps[f]? = some (o,z))(hx:ev s x=some (.pointer (some ad)))
  (hk:aE P n all md r (aR s dst (.val (.pointer (some (ad.add o))))) H K) (hg:bM all s gd=some true:=by rfl) (nb:md.nb s dst=true:=by rfl):aE P n all md (⟨dst,.fieldAddr t x f,ty,pos,after,gd⟩::r) s H K:=
 fp _ rfl hg nb (fun a w ha _=>by
  obtain⟨fs,ii,hu,h2,h3,_,h4⟩:=cY t _ ht
  obtain⟨fd,jj,h5,h6,h7,h9,fV⟩:=h4 f _ hf
  have h8:jj.size≠0:=by rw[h9];exact fV
  simp only at h6
  simp[execOp,bm ha hx,Instr.fieldAt,run_underlying hu,h5,Instr.sureAddr,CY h7 h8,h6]) hk
theorem aQ{t:TypeId}{x:Operand}{ad:Addr}{ti:Ti}{v:Value}(cY:ja P tb)(ht:tb[t]? = some ti)(h1:ub ti=true)(hx:ev s x=some (.pointer (some ad)))(hc:cell H ad=some v)
  (hk:aE P n all md r (aR s dst (.val v)) H K) (hg:bM all s gd=some true:=by rfl) (nb:md.nb s dst=true:=by rfl):aE P n all md (⟨dst,.load t x,ty,pos,after,gd⟩::r) s H K:=
 fp _ rfl hg nb (fun a w ha hd=>by simp[execOp,bm ha hx,Instr.loadAt,Instr.sureAddr,GJ (cY t _ ht) h1 (hd.cell hc)]) hk
theorem wG{t:TypeId}{x:Operand}{ad:Addr}{m:Nat}{uc:List (Nat×Nat)}{vs:List Value}(cY:ja P tb)(ht:tb[t]? = some (.st m uc))(hx:ev s x=some (.pointer (some ad)))(hm:vs.length=m)
  (hc:∀(i:Nat)(v:Value),vs[i]? = some v→cell H (ad.add i)=some v)
  (hk:aE P n all md r (aR s dst (.val (.agg vs.toArray))) H K) (hg:bM all s gd=some true:=by rfl) (nb:md.nb s dst=true:=by rfl):aE P n all md (⟨dst,.load t x,ty,pos,after,gd⟩::r) s H K:=
 fp _ rfl hg nb (fun a w ha hd=>by
  obtain⟨fs,ii,hu,h2,h3,_,h4⟩:=cY t _ ht
  simp[execOp,bm ha hx,Instr.loadAt,Instr.sureAddr,L1 hu h2 vs (by rw[h3,hm]) (fun j v hv=>hd.cell (hc j v hv))]) hk
theorem a9{t t2:TypeId}{x i:Operand}{A:Option Addr}{m c d1:Nat}{ug:Option Nat}{oy:TypeId}{oz:String}{oA:Array Edge}{kq:Option (Nat×Bool)}{k:IntKind}{j:Int}{e:Nat}{ti:Ti}{xs:List Value}{v:Value}
  (cY:ja P tb) (ht:tb[t]? = some (.sl e 1)) (fF:tb[t2]? = some ti) (h1:ub ti=true) (hx:ev s x=some (.slice A m c)) (hi:ev s i=some (.int k j)) (hr:Rd H A xs) (hv:xs[j.toNat]? = some v) (h0:0≤j) (hm:j<m)
  (hk:∀ad:Addr,aE P n all md r (aR (put s d1 (.val (.pointer (some ad)))) ug (.val v)) H K) (hg:bM all s gd=some true:=by rfl) (nb:md.nb s (some d1)=true:=by rfl) (dN:∀ad:Addr,bM all (put s d1 (.val (.pointer (some ad)))) kq=some true:=by exact fun _=>rfl) (uh:∀ad:Addr,md.nb (put s d1 (.val (.pointer (some ad)))) ug=true:=by exact fun _=>rfl):
  aE P n all md (⟨some d1,.indexAddr t x i,ty,pos,after,gd⟩::⟨ug,.load t2 (.tmp d1),oy,oz,oA,kq⟩::r) s H K:=by
 obtain⟨ad,rfl,hc⟩:=hr _ _ hv
 refine qJ cY ht hx hi h0 hm (aQ (ad:=ad.add (j.toNat*1)) cY fF h1 (by simp[ev,put,aR]) (by rw[Nat.mul_one];exact hc) (hk _) (dN _) (uh _)) hg nb
theorem cS{t t2:TypeId}{x i:Operand}{A:Option Addr}{m c d1:Nat}{ug:Option Nat}{oy:TypeId}{oz:String}{oA:Array Edge}{kq:Option (Nat×Bool)}{k:IntKind}{j:Int}{e sz:Nat}{uc:List (Nat×Nat)}{xs vs:List Value}
  (cY:ja P tb) (ht:tb[t]? = some (.sl e sz)) (fF:tb[t2]? = some (.st sz uc)) (hx:ev s x=some (.slice A m c)) (hi:ev s i=some (.int k j)) (hr:Rd H A xs) (hl:vs.length=sz) (hp:0<sz) (hv:∀(q:Nat)(v:Value),vs[q]? = some v→xs[j.toNat*sz+q]? = some v) (h0:0≤j) (hm:j<m)
  (hk:∀ad:Addr,aE P n all md r (aR (put s d1 (.val (.pointer (some ad)))) ug (.val (.agg vs.toArray))) H K) (hg:bM all s gd=some true:=by rfl) (nb:md.nb s (some d1)=true:=by rfl) (dN:∀ad:Addr,bM all (put s d1 (.val (.pointer (some ad)))) kq=some true:=by exact fun _=>rfl) (uh:∀ad:Addr,md.nb (put s d1 (.val (.pointer (some ad)))) ug=true:=by exact fun _=>rfl):
  aE P n all md (⟨some d1,.indexAddr t x i,ty,pos,after,gd⟩::⟨ug,.load t2 (.tmp d1),oy,oz,oA,kq⟩::r) s H K:=by
 have Tz:vs[0]? = some (vs[0]'(by omega)):=List.getElem?_eq_getElem (by omega)
 obtain⟨ad,rfl,_⟩:=hr _ _ (hv 0 _ Tz)
 refine qJ cY ht hx hi h0 hm (wG (ad:=ad.add (j.toNat*sz)) cY fF (by simp[ev,put,aR]) hl (fun q v hq=> ?_) (hk _) (dN _) (uh _)) hg nb
 obtain⟨L7,h1,h2⟩:=hr _ _ (hv q v hq)
 cases h1
 rw[add_add];exact h2
def eR(P:Program)(e sz:Nat)(z:Value)(bytes:Nat):Prop:=∃i,P.info? e=some i∧i.zero=some z∧i.size=sz∧i.bytes=bytes∧z.cells.size=sz∧0<sz
theorem bY{e:TypeId}{x:Operand}{d:Nat}{v:Value}{cs:List Value}(hx:ev s x=some v)(hc:v.cells=cs.toArray)
  (hk:aE P n all md r (eO s d cs) H K) (hg:bM all s gd=some true:=by rfl) (nb:md.nb s (some d)=true:=by rfl):aE P n all md (⟨some d,.box e x,ty,pos,after,gd⟩::r) s H K:=
 .fY d rfl rfl nb cs (fun a w ha=>⟨fZ ha (iD (o:=⟨some d,.box e x,ty,pos,after,gd⟩) hg),e,by
  simp[execOp,Instr.box,newVar,newRow,newObj,bm ha hx,hc,Sem.run]⟩) hk
theorem bD{e:TypeId}{d sz bytes:Nat}{z:Value}{cs:List Value}(he:eR P e sz z bytes)(hc:z.cells=cs.toArray)
  (hk:aE P n all md r (eO s d cs) H K) (hg:bM all s gd=some true:=by rfl) (nb:md.nb s (some d)=true:=by rfl):aE P n all md (⟨some d,.alloc e,ty,pos,after,gd⟩::r) s H K:=
 .fY d rfl rfl nb cs (fun a w ha=>⟨fZ ha (iD (o:=⟨some d,.alloc e,ty,pos,after,gd⟩) hg),e,by
  obtain⟨i,h1,h2,_⟩:=he
  simp[execOp,Instr.alloc,zeroValue,typeInfo,h1,h2,newVar,newRow,newObj,hc,Sem.run]⟩) hk
theorem L8{e:TypeId}{x:Operand}{d:Nat}{v:Value}{cs:List Value}(hx:ev s x=some v)(hc:v.cells=cs.toArray)
  (hk:∀g,H g=none→aE P n all .plain r (put s d (.val (.pointer (some ⟨g,0,none⟩)))) (ins H g (whole cs e)) K) (hg:bM all s gd=some true:=by rfl):aE P n all .plain (⟨some d,.box e x,ty,pos,after,gd⟩::r) s H K:=
 .fresh (fun g=> .pointer (some ⟨g,0,none⟩)) cs e (.inr ⟨rfl,rfl⟩) rfl (fun a w ha=>⟨fZ ha (iD (o:=⟨some d,.box e x,ty,pos,after,gd⟩) hg),by
  simp[execOp,Instr.box,newVar,newRow,newObj,bm ha hx,hc,Sem.run]⟩) fun g hg _=>hk g hg
theorem TA{e:TypeId}{d sz bytes:Nat}{z:Value}{cs:List Value}(he:eR P e sz z bytes)(hc:z.cells=cs.toArray)
  (hk:∀g,H g=none→aE P n all .plain r (put s d (.val (.pointer (some ⟨g,0,none⟩)))) (ins H g (whole cs e)) K) (hg:bM all s gd=some true:=by rfl):aE P n all .plain (⟨some d,.alloc e,ty,pos,after,gd⟩::r) s H K:=
 .fresh (fun g=> .pointer (some ⟨g,0,none⟩)) cs e (.inr ⟨rfl,rfl⟩) rfl (fun a w ha=>⟨fZ ha (iD (o:=⟨some d,.alloc e,ty,pos,after,gd⟩) hg),by
  obtain⟨i,h1,h2,_⟩:=he
  simp[execOp,Instr.alloc,zeroValue,typeInfo,h1,h2,newVar,newRow,newObj,hc,Sem.run]⟩) fun g hg _=>hk g hg
def aC(cs:List Value)(off:Nat):List Value→List Value
 | []=>cs
 | v::vs=>aC (cs.set off v) (off+1) vs
theorem ze(vs:List Value):∀(cs:List Value)(off:Nat),(aC cs off vs).length=cs.length:=by
 induction vs with
 | nil=>intro cs off;rfl
 | cons v vs ih=>intro cs off;simp[aC,ih]
def ui:Value→Bool
 | .agg _ | .tuple _=>false
 | _=>true
theorem C0{g:Nat}{e:TypeId}:∀(vs:List Value)(cs:List Value)(w:World)(base i:Nat),w.heap[g]? = some (.cells cs.toArray e (0,0))→(∀v,v∈vs→ui v=true)→base+i+vs.length≤cs.length→
  ∃w',(storeCells ⟨g,base,none⟩ vs i).run P w = .ok () w'∧w'.os=w.os∧w'.tape=w.tape∧w'.output=w.output∧w'.heap.size=w.heap.size∧(∀k,k≠g→w'.heap[k]? = w.heap[k]?)∧
   w'.heap[g]? = some (.cells (aC cs (base+i) vs).toArray e (0,0)):=by
 intro vs
 induction vs with
 | nil=>intro cs w base i hg _ _;exact⟨w,by simp[storeCells],rfl,rfl,rfl,rfl,fun _ _=>rfl,hg⟩
 | cons v vs ih=>
  intro cs w base i hg h1 hl
  simp only[List.length_cons]at hl
  have qI:(⟨g,base,none⟩:Addr).add i=⟨g,base+i,none⟩:=by
   unfold Addr.add;split
   ·rename_i e0;rw[e0];rfl
   ·rfl
  have TB:w.cell? ⟨g,base+i,none⟩=some (cs[base+i]'(by omega)):=by
   simp[World.cell?,hg,show base+i<cs.length by omega]
  have kS:w.frozen? ⟨g,base+i,none⟩=false:=by simp[World.frozen?,hg]
  have dO:(store ⟨g,base+i,none⟩ v).run P w = .ok () (w.setCell ⟨g,base+i,none⟩ v):=by
   have:=h1 v (List.mem_cons_self ..)
   cases v <;> simp[ui]at this <;> simp[store,Sem.run,TB,kS]
  have kQ:(w.setCell ⟨g,base+i,none⟩ v).heap[g]? = some (.cells (cs.set (base+i) v).toArray e (0,0)):=by
   simp[World.setCell,Array.getElem?_modify,hg]
  obtain⟨w',h2,h3,h4,h5,h6,h7,h8⟩:=ih (cs.set (base+i) v) (w.setCell ⟨g,base+i,none⟩ v) base (i+1) kQ (fun u hu=>h1 u (List.mem_cons_of_mem _ hu)) (by simp;omega)
  refine⟨w',?_,h3,h4,h5,by rw[h6];simp[World.setCell],fun k hk=> ?_,h8⟩
  ·simp only[storeCells,qI,Sem.run_bind,dO,Result.andThen_ok]
   exact h2
  ·rw[h7 k hk]
   simp[World.setCell,Array.getElem?_modify,Ne.symm hk]
theorem aM{t:TypeId}{x:Nat}{y:Operand}{b off m:Nat}{cs vs:List Value}{v:Value}{i:TypeInfo}(hx:(x=b∧off=0)∨s x=some (.ref b off))(hb:s b=some (.box cs))(hy:ev s y=some v)(hv:v.cells=vs.toArray)
  (hi:P.info? t=some i) (hz:i.size=m) (hm:vs.length=m) (h1:vs.all ui=true) (hl:Nat.ble (off+m) cs.length=true) (hk:aE P n all md r (put s b (.box (aC cs off vs))) H K) (hg:bM all s gd=some true:=by rfl) (gQ:md.LC b=true:=by rfl):
  aE P n all md (⟨none,.store t (.tmp x) y,ty,pos,after,gd⟩::r) s H K:=
 .jv b cs _ rfl rfl hb gQ (fun H' G a w iY=>by
  refine⟨fZ iY.aN (iD (o:=⟨none,.store t (.tmp x) y,ty,pos,after,gd⟩) hg),?_⟩
  obtain⟨h2,_,e,h3⟩:=iY.boxes _ _ hb
  have he:a.eval (.tmp x) = .pointer (some ⟨G b,off,none⟩):=by
   rcases hx with ⟨rfl,rfl⟩ | hx
   ·simp[Act.eval,h2]
   ·simp[Act.eval,iY.refs _ _ _ _ hx hb]
  have hlen:=Nat.le_of_ble_eq_true hl
  obtain⟨w',h4,h5,h6,h7,h8,h9,fV⟩:=C0 (P:=P) vs cs w off 0 h3 (fun u hu=>List.all_eq_true.1 h1 u hu) (by omega)
  refine⟨w',?_,⟨h5,h6,h7,h8,h9,e,fV⟩⟩
  simp[execOp,he,bm iY.aN hy,Instr.storeAt,Instr.sureAddr,storeVar,sizeOf,typeInfo,hi,hz,hv,hm,h4]) hk
def nx(s:St):List Operand→Option (List Value)
 | []=>some []
 | x::xs=>(match ev s x with
  | some v=>(match nx s xs with | some vs=>some (v::vs) | none=>none)
  | none=>none)
theorem GM{a:Act}(h:eG n s a):∀(xs:List Operand)(vs:List Value),nx s xs=some vs→xs.map a.eval=vs:=by
 intro xs
 induction xs with
 | nil=>intro vs hv;simp only[nx,Option.some.injEq]at hv;subst hv;rfl
 | cons x xs ih=>
  intro vs hv
  simp only[nx]at hv
  split at hv
  ·rename_i v hx
   split at hv
   ·rename_i us hu
    simp only[Option.some.injEq]at hv
    subst hv
    simp[bm h hx,ih us hu]
   ·cases hv
  ·cases hv
theorem zf{f:Operand}{jz:FuncId}{cap args:List Value}{xs:List Operand}{ts:Array TypeId}{aX:Value→Heap→Prop}(hf:ev s f=some (.func (.func jz) #[] cap.toArray))(hx:nx s xs=some args)
  (hg:bM all s gd=some true) (h:Fn P jz (args++cap).toArray H aX):EV P n all ⟨dst,.call ⟨.value f,xs.toArray,ts⟩,ty,pos,after,gd⟩ s H aX:=fun a w ha hd=>by
 refine⟨fZ ha (iD (o:=⟨dst,.call ⟨.value f,xs.toArray,ts⟩,ty,pos,after,gd⟩) hg),?_⟩
 obtain⟨fn,h1,h2,h3⟩:=h.ent
 have se:(execOp a.eval ⟨dst,.call ⟨.value f,xs.toArray,ts⟩,ty,pos,after,gd⟩).run P w = .ok (.enter jz (args++cap).toArray) w:=by
  have TC:¬fn.name = "runtime.NumGoroutine" :=by simpa using h3
  have TD:¬fn.body=none:=fun e=>by rw[e]at h2;cases h2
  simp[execOp,resolve,bm ha hf,Deferred.ofValue,invoke,callFunc,program,Sem.run,h1,TD,TC,GM ha xs args hx]
 unfold iX
 rw[se]
 exact(h.run w hd).mono fun e w' ⟨v,he,H',hp,jO,TE⟩=>⟨v,he,H',hp,jO,TE⟩
theorem zh{f:Operand}{xs:Array Operand}{ts:Array TypeId}:kd (.call ⟨.value f,xs,ts⟩)=1:=by simp[kd,CF]
theorem au{f:Operand}{jz:FuncId}{args:List Value}{xs:List Operand}{ts:Array TypeId}{aX:Value→Heap→Prop}(hf:ev s f=some (.func (.func jz) #[] #[]))(hx:nx s xs=some args)
  (h:Fn P jz args.toArray H aX) (hk:∀v H',aX v H'→aE P n all .plain r (aR s dst (.val v)) H' K) (hg:bM all s gd=some true:=by rfl):aE P n all .plain (⟨dst,.call ⟨.value f,xs.toArray,ts⟩,ty,pos,after,gd⟩::r) s H K:=
 .fo aX (.inl zh) rfl (zf (cap:=[]) hf hx hg (by simpa using h)) trivial fun v H' hp _=>hk v H' hp
theorem aT{f:Operand}{jz:FuncId}{args:List Value}{xs:List Operand}{ts:Array TypeId}{aX:Value→Heap→Prop}(hf:ev s f=some (.func (.func jz) #[] #[]))(hx:nx s xs=some args)
  (h:Fn P jz args.toArray H aX) (hm:∀v H',aX v H'→Heap.le H H') (hk:∀v H',aX v H'→aE P n all md r (aR s dst (.val v)) H' K) (hg:bM all s gd=some true:=by rfl) (nb:md.nb s dst=true:=by rfl):aE P n all md (⟨dst,.call ⟨.value f,xs.toArray,ts⟩,ty,pos,after,gd⟩::r) s H K:=
 .fo aX (.inl zh) nb (zf (cap:=[]) hf hx hg (by simpa using h)) (by cases md <;> first | trivial | exact⟨rfl,hm⟩ | exact .inr hm) fun v H' hp _=>hk v H' hp
theorem TF{f:Operand}{jz:FuncId}{cap args:List Value}{xs:List Operand}{ts:Array TypeId}{aX:Value→Heap→Prop}(hf:ev s f=some (.func (.func jz) #[] cap.toArray))(hx:nx s xs=some args)
  (h:Fn P jz (args++cap).toArray H aX) (hm:md = .plain∨∀v H',aX v H'→Heap.le H H') (hk:∀v H',aX v H'→aE P n all md r (aR s dst (.val v)) H' K) (hg:bM all s gd=some true:=by rfl) (nb:md.nb s dst=true:=by rfl):aE P n all md (⟨dst,.call ⟨.value f,xs.toArray,ts⟩,ty,pos,after,gd⟩::r) s H K:=
 .fo aX (.inl zh) nb (zf (cap:=cap) hf hx hg h) (by rcases hm with rfl | hm <;> first | trivial | (cases md <;> first | trivial | exact⟨rfl,hm⟩ | exact .inr hm)) fun v H' hp _=>hk v H' hp
end
end Go.ar
namespace Go.ar
def bE(H:Heap)(v:Value)(e sz n:Nat)(xs:List Value):Prop:=
 xs.length=n*sz∧((v = .slice none 0 0∧n=0)∨∃g cap,v = .slice (some ⟨g,0,none⟩) n cap∧H g=some ⟨xs,cap*sz,e,true⟩∧n≤cap∧cap≤maxLen)
theorem mu(H:Heap)(e sz:Nat):bE H (.slice none 0 0) e sz 0 []:=⟨by simp,.inl ⟨rfl,rfl⟩⟩
theorem bE.rd{H:Heap}{A:Option Addr}{m c e sz n:Nat}{xs:List Value}(h:bE H (.slice A m c) e sz n xs):Rd H A xs:=fun i v hv=>by
 rcases h.2 with ⟨h1,h2⟩ | ⟨g,cap,h1,h2,_⟩
 ·have:xs = []:=List.eq_nil_of_length_eq_zero (by rw[h.1,h2,Nat.zero_mul])
  rw[this]at hv;simp at hv
 ·cases h1
  refine⟨_,rfl,?_⟩
  have qI:(⟨g,0,none⟩:Addr).add i=⟨g,i,none⟩:=by
   unfold Addr.add;split
   ·rename_i e0;rw[e0]
   ·simp
  simp[cell,qI,h2,hv]
theorem bE.form{H:Heap}{v:Value}{e sz n:Nat}{xs:List Value}(h:bE H v e sz n xs):∃A c,v = .slice A n c:=by
 rcases h.2 with ⟨h1,h2⟩ | ⟨g,cap,h1,_⟩
 ·exact⟨none,0,by rw[h1,h2]⟩
 ·exact⟨_,cap,h1⟩
theorem bE.same{H H':Heap}{v:Value}{e sz n:Nat}{xs:List Value}(h:bE H v e sz n xs)(hs:∀g,v.ownBlock=some g→H' g=H g):bE H' v e sz n xs:=by
 refine⟨h.1,?_⟩
 rcases h.2 with h1 | ⟨g,cap,h1,h2,h3⟩
 ·exact .inl h1
 ·refine .inr ⟨g,cap,h1,?_,h3⟩
  rw[hs g (by rw[h1];rfl)];exact h2
theorem bE.block{H:Heap}{v:Value}{e sz n:Nat}{xs:List Value}(h:bE H v e sz n xs){g:Nat}(hg:v.ownBlock=some g):∃ent,H g=some ent:=by
 rcases h.2 with ⟨h1,_⟩ | ⟨g',cap,h1,h2,_⟩
 ·rw[h1]at hg;cases hg
 ·rw[h1]at hg;cases hg;exact⟨_,h2⟩
structure App(H:Heap)(v:Value)(e sz n:Nat)(xs:List Value)(v':Value)(H':Heap):Prop where
 own:bE H' v' e sz n xs
 le:Heap.le H H'
 same:∀k ent,H k=some ent→v.ownBlock≠some k→H' k=some ent
 at_:v'.ownBlock=v.ownBlock∨∃g,v'.ownBlock=some g∧H g=none
section
variable {P:Program} {n:Nat} {tb:Tb} {all:Array Oper} {s:St} {H:Heap} {md:Mode} {K:St→Heap→Prop} {r:List Oper} {dst:Option Nat} {ty:TypeId} {pos:String} {after:Array Edge} {gd:Option (Nat×Bool)}
theorem bE.world{v:Value}{e sz m:Nat}{xs:List Value}(h:bE H v e sz m xs){w:World}(hd:Den H w):w.ownsRow 0 e sz v m xs:=by
 refine⟨h.1,?_⟩
 rcases h.2 with h1 | ⟨g,cap,h1,h2,h3,h4⟩
 ·exact .inl h1
 ·obtain⟨o,h5,c,fz,rfl,h6,h7,h8⟩:=hd g _ h2
  have kS:=h8 rfl
  subst kS
  refine .inr ⟨g,cap,c,h1,Nat.zero_le _,h5,h3,h4,h6,?_⟩
  have hlen:m*sz≤c.size:=by
   have:c.size=cap*sz:=h6
   rw[this];exact Nat.mul_le_mul_right _ h3
  apply List.ext_getElem?
  intro i
  rw[List.getElem?_take]
  by_cases hi:i<m*sz
  ·rw[if_pos hi]
   have hx:xs[i]? = some (xs[i]'(by rw[h.1];exact hi)):=List.getElem?_eq_getElem _
   rw[hx]
   have:=h7 i _ hx
   simpa using this
  ·rw[if_neg hi,List.getElem?_eq_none (by rw[h.1];omega)]
theorem Rd.world{A:Option Addr}{xs:List Value}(h:Rd H A xs){w:World}(hd:Den H w){ad:Addr}(hA:A=some ad):∀(j:Nat)(u:Value),xs[j]? = some u→w.cell? (ad.add j)=some u:=fun j u hu=>by
 obtain⟨L7,h1,h2⟩:=h j u hu
 rw[hA]at h1
 cases h1
 exact hd.cell h2
theorem wH{w w':World}{g:Nat}{ent:aG}{o:Obj}(hd:Den H w)(TH:w'.os=w.os)(C1:w'.tape=w.tape)(C2:w'.output=w.output)(bV:w.heap.size≤w'.heap.size)
  (GN:∀k,k<w.heap.size→k≠g→w'.heap[k]? = w.heap[k]?) (hg:w'.heap[g]? = some o) (ho:ent.of o) (iE:(∃e0,H g=some e0∧e0.own=true∧ent.own=true∧ent.elem=e0.elem∧ent.size=e0.size)∨w.heap.size≤g):Den (ins H g ent) w'∧Fx H w (ins H g ent) w':=by
 refine⟨fun k e hk=> ?_,⟨TH,C1,C2,bV,fun k hk h0=> ?_,fun k c t fz hc=> ?_⟩⟩
 ·by_cases ek:k=g
  ·subst ek
   rw[bx]at hk
   cases hk
   exact⟨o,hg,ho⟩
  ·rw[bA _ _ ek]at hk
   obtain⟨o',h1,h2⟩:=hd k e hk
   exact⟨o',by rw[GN k (hd.lt hk) ek];exact h1,h2⟩
 ·have ek:k≠g:=fun e=>by
   subst e
   rcases iE with ⟨e0,h,_⟩ | h
   ·rw[h0]at h;cases h
   ·omega
  rw[bA _ _ ek]
  exact⟨GN k hk ek,h0⟩
 ·have a7:=(Array.getElem?_eq_some_iff.1 hc).1
  by_cases ek:k=g
  ·subst ek
   rcases iE with ⟨e0,h,h1,h2,h3,h4⟩ | h
   ·obtain⟨o',k1,c1,TI,rfl,k2,_,k3⟩:=hd k e0 h
    rw[hc]at k1
    cases k1
    obtain⟨c2,fz2,rfl,k4,_,k5⟩:=ho
    have e1:=k3 h1
    have e2:=k5 h2
    subst e1
    subst e2
    exact⟨c2,by rw[hg,h3],by rw[k4,h4,k2]⟩
   ·omega
  ·exact⟨c,by rw[GN k a7 ek];exact hc,rfl⟩
theorem L9{w:World}{t e sz bytes:Nat}{z v:Value}{m k c:Nat}{A:Option Addr}{xs news:List Value}(hd:Den H w)(ht:P.underlying t=some (.slice e))(he:eR P e sz z bytes)(ho:bE H v e sz m xs)(hr:Rd H A news)(hl:news.length=k*sz)
  (h1:∀u∈news,u.oneCell'=true) (hb:(m+k)*bytes≤140737488355328) (ny:m+k≤9223372036854775807) (ty:TypeId):
  ∃v' w' H',(Builtin.append_ #[t,t] ty #[v,.slice A k c]).run P w = .ok v' w'∧App H v e sz (m+k) (xs++news) v' H'∧Den H' w'∧Fx H w H' w':=by
 obtain⟨i,hi,hz,bV,zi,oB,hp⟩:=he
 subst bV
 subst zi
 have hlen:(xs++news).length=(m+k)*i.size:=by rw[List.length_append,ho.1,hl,Nat.add_mul]
 have grown:∀(pG:Nat)(w1:World)(pre:Array Value),pG<m+k→pre=xs.toArray→w1=w.drew.alloc (.cells (pre++news.toArray++Builtin.zeroCells z.cells (grownCap w (m+k) pG e-(m+k))) e)→
   ∃H',App H v e i.size (m+k) (xs++news) (.slice (some ⟨w.heap.size,0,none⟩) (m+k) (grownCap w (m+k) pG e)) H'∧Den H' w1∧Fx H w H' w1:=by
  intro pG w1 pre hold oC eB
  subst oC
  subst eB
  have wI:=grownCap_ge w (m+k) pG e
  have sm:grownCap w (m+k) pG e≤maxLen:=grownCap_le_maxLen w (m+k) pG e (by simp only[maxLen];omega)
  have jO:Den H w.drew:=hd
  have key:=wH (H:=H) (w:=w) (w':=w.drew.alloc (.cells (xs.toArray++news.toArray++Builtin.zeroCells z.cells (grownCap w (m+k) pG e-(m+k))) e)) (g:=w.heap.size)
   (ent:=⟨xs++news,grownCap w (m+k) pG e*i.size,e,true⟩) (o:= .cells (xs.toArray++news.toArray++Builtin.zeroCells z.cells (grownCap w (m+k) pG e-(m+k))) e) hd rfl rfl rfl (by simp)
   (fun q hq _=>heap_alloc_old w.drew _ q hq) (heap_alloc_new w.drew _) ⟨_,(0,0),rfl,?_,?_,fun _=>rfl⟩ (.inr (Nat.le_refl _))
  ·exact⟨_,⟨⟨hlen,.inr ⟨_,_,rfl,bx _ _ _,wI,sm⟩⟩,Heap.a0 _ hd.fresh,fun q ent hq _=>by rw[bA _ _ (fun e=>by have:=hd.lt hq;omega)];exact hq,.inr ⟨_,rfl,hd.fresh⟩⟩,key⟩
  ·simp only[Array.size_append,List.size_toArray,size_zeroCells,oB,ho.1,hl,←Nat.add_mul]
   congr 1
   omega
  ·intro q u hq
   rw[Array.getElem?_append_left (by
    have:=(List.getElem?_eq_some_iff.1 hq).1
    simpa using this)]
   simpa using hq
 rcases A with _ | ad
 ·
  have hn:news = []:=by
   cases news with
   | nil=>rfl
   | cons u us=>obtain⟨ad,h,_⟩:=hr 0 u rfl;cases h
  subst hn
  have hk:k=0:=by
   simp only[List.length_nil]at hl
   rcases Nat.eq_zero_or_pos k with h | h
   ·exact h
   ·have:=Nat.mul_pos h hp;omega
  subst hk
  refine⟨v,w,H,?_,⟨by simpa using ho,.refl H,fun q ent hq _=>hq,.inl rfl⟩,hd,.refl H w⟩
  rcases ho.2 with ⟨rfl,rfl⟩ | ⟨g,cap,rfl,_,so,_⟩
  ·simp[Builtin.append_,run_underlying ht,sizeOf,typeInfo,hi,Builtin.lenOf,Builtin.firstCells]
  ·simp[Builtin.append_,run_underlying ht,sizeOf,typeInfo,hi,Builtin.lenOf,Builtin.firstCells,so,storeCells]
 ·have GO:=hr.world hd rfl
  rcases ho.2 with ⟨rfl,rfl⟩ | ⟨g,cap,rfl,hg,so,sm⟩
  ·have hx:xs = []:=List.eq_nil_of_length_eq_zero (by simpa using ho.1)
   subst hx
   rcases Nat.eq_zero_or_pos k with hk | hk
   ·subst hk
    have hn:news = []:=List.eq_nil_of_length_eq_zero (by simpa using hl)
    subst hn
    refine⟨.slice none 0 0,w,H,?_,⟨mu H e i.size,.refl H,fun q ent hq _=>hq,.inl rfl⟩,hd,.refl H w⟩
    simp[Builtin.append_,run_underlying ht,sizeOf,typeInfo,hi,Builtin.lenOf,Builtin.firstCells,loadCells,loadCellsFrom]
   ·have cM:=run_append_nil (P:=P) w t ty e i z ht hi hz ad k c news hl GO hk (by omega) (by simp only[Nat.zero_add]at hb;omega)
    obtain⟨H',h2,h3⟩:=grown 0 _ #[] (by omega) (by simp) rfl
    simp only[Nat.zero_add,Array.empty_append]at h2 h3
    exact⟨_,_,H',cM,by simpa using h2,h3⟩
  ·obtain⟨ob,h5,cur,fz,rfl,h6,h7,h8⟩:=hd g _ hg
   have kS:=h8 rfl
   subst kS
   by_cases GP:m+k≤cap
   ·have sq:m*i.size+news.length≤cur.size:=by
     have:cur.size=cap*i.size:=h6
     rw[hl,this,←Nat.add_mul];exact Nat.mul_le_mul_right _ GP
    have cM:=run_append_room (P:=P) w t ty e i ht hi g m cap cur h5 ad k c news hl GO h1 GP sq
    have TJ:cur.toList.take (m*i.size)=xs:=by
     obtain⟨_,h | ⟨g',acL,acM,h9,_,fV,_,_,_,fq⟩⟩:=ho.world hd
     ·exact absurd h.1 (by simp)
     ·cases h9
      rw[h5]at fV
      cases fV
      exact fq
    have key:=wH (H:=H) (w:=w) (w':=w.setRow g (cur.toList.take (m*i.size)++news++cur.toList.drop (m*i.size+news.length)).toArray) (g:=g)
     (ent:=⟨xs++news,cap*i.size,e,true⟩) (o:= .cells (cur.toList.take (m*i.size)++news++cur.toList.drop (m*i.size+news.length)).toArray e) hd rfl rfl rfl (by simp[World.setRow])
     (fun q _ hq=>setRow_other w g q _ hq) (setRow_heap w g cur _ e _ h5) ⟨_,(0,0),rfl,?_,?_,fun _=>rfl⟩ (.inl ⟨_,hg,rfl,rfl,rfl,rfl⟩)
    ·refine⟨_,_,_,cM,⟨⟨hlen,.inr ⟨g,cap,rfl,bx _ _ _,GP,sm⟩⟩,fun q ent hq=> ?_,fun q ent hq a6=> ?_,.inl rfl⟩,key⟩
     ·by_cases eq:q=g
      ·subst eq
       rw[hg]at hq
       cases hq
       exact⟨_,bx _ _ _,rfl,rfl,rfl,List.prefix_append _ _⟩
      ·exact⟨ent,by rw[bA _ _ eq];exact hq,.refl ent⟩
     ·rw[bA _ _ (fun eq=>a6 (by rw[eq];rfl))];exact hq
    ·have fe:cur.size=cap*i.size:=h6
     simp only[List.size_toArray,List.length_append,List.length_take,List.length_drop,Array.length_toList]
     omega
    ·intro q u hq
     rw[TJ]
     have:(xs++news++List.drop (m*i.size+news.length) cur.toList)[q]? = some u:=by
      rw[List.getElem?_append_left (List.getElem?_eq_some_iff.1 hq).1];exact hq
     simpa using this
   ·have holds:∀(j:Nat)(u:Value),xs[j]? = some u→w.cell? ((⟨g,0,none⟩:Addr).add j)=some u:=ho.rd.world hd rfl
    have cM:=run_append_grow (P:=P) w t ty e i z ht hi hz ⟨g,0,none⟩ m cap xs ho.1 holds ad k c news hl GO (by omega) (by omega) (growslice_fits (by omega) hb)
    obtain⟨H',h2,h3⟩:=grown cap _ xs.toArray (by omega) rfl rfl
    exact⟨_,_,H',cM,h2,h3⟩
theorem dY{t e sz bytes:Nat}{x y:Operand}{z v:Value}{m k c:Nat}{A:Option Addr}{xs news:List Value}(ht:P.underlying t=some (.slice e))(he:eR P e sz z bytes)(hx:ev s x=some v)(hy:ev s y=some (.slice A k c))(ho:bE H v e sz m xs)
  (hr:Rd H A news) (hl:news.length=k*sz) (h1:∀u∈news,u.oneCell'=true) (hb:(m+k)*bytes≤140737488355328) (ny:m+k≤9223372036854775807)
  (hk:∀v' H',App H v e sz (m+k) (xs++news) v' H'→aE P n all md r (aR s dst (.val v')) H' K) (hg:bM all s gd=some true:=by rfl) (nb:md.nb s dst=true:=by rfl):aE P n all md (⟨dst,.call ⟨.builtin .append,#[x,y],#[t,t]⟩,ty,pos,after,gd⟩::r) s H K:=
 .fo (fun v' H'=>App H v e sz (m+k) (xs++news) v' H') (.inl (by simp[kd,CF])) nb (fun a w ha hd=>by
  refine⟨fZ ha (iD (o:=⟨dst,.call ⟨.builtin .append,#[x,y],#[t,t]⟩,ty,pos,after,gd⟩) hg),?_⟩
  obtain⟨v',w',H',se,h2,h3,h4⟩:=L9 (c:=c) hd ht he ho hr hl h1 hb ny ty
  have hex:(execOp a.eval ⟨dst,.call ⟨.builtin .append,#[x,y],#[t,t]⟩,ty,pos,after,gd⟩).run P w = .ok (.value v') w':=by
   simp[execOp,resolve,invoke,builtin,bm ha hx,bm ha hy,se]
  unfold iX
  rw[hex]
  exact⟨H',h2,h3,h4⟩) (by cases md <;> first | trivial | exact⟨rfl,fun _ _ h=>h.le⟩ | exact .inr fun _ _ h=>h.le) fun v' H' hp _=>hk v' H' hp
def cA(zs:List Value)(k:Nat):List Value:=(List.range k).map fun q=>(zs[q%zs.length]?).getD undef
theorem GQ(zs:List Value)(k:Nat):(cA zs k).length=k:=by simp[cA]
theorem TK{zs:List Value}{sz m j q:Nat}{v:Value}(hz:zs.length=sz)(hj:j<m)(hv:zs[q]? = some v):(cA zs (m*sz))[j*sz+q]? = some v:=by
 have hq:q<sz:=by rw[←hz];exact(List.getElem?_eq_some_iff.1 hv).1
 have a7:j*sz+q<m*sz:=by
  have:(j+1)*sz≤m*sz:=Nat.mul_le_mul_right _ hj
  rw[Nat.add_mul]at this;omega
 have TM:(j*sz+q)%sz=q:=by rw[Nat.add_comm,Nat.add_mul_mod_self_right];exact Nat.mod_eq_of_lt hq
 simp[cA,a7,hz,TM,hv]
theorem Ma(z:Value)(k:Nat):cA [z] k=List.replicate k z:=by
 apply List.ext_getElem?
 intro i
 by_cases h:i<k
 ·simp[cA,h,Nat.mod_one]
 ·simp[cA,h]
theorem iF{t e sz bytes:Nat}{x y:Operand}{z:Value}{kl kc:IntKind}{l c:Int}{zs:List Value}(ht:P.underlying t=some (.slice e))(he:eR P e sz z bytes)(oB:z.cells=zs.toArray)(hx:ev s x=some (.int kl l))(hy:ev s y=some (.int kc c))(h0:0≤l)(qK:l≤c)
  (hb:(bytes:Int)*c≤281474976710656) (ny:c≤9223372036854775807)
  (hk:∀g,H g=none→aE P n all md r (aR s dst (.val (.slice (some ⟨g,0,none⟩) l.toNat c.toNat))) (ins H g ⟨cA zs (l.toNat*sz),c.toNat*sz,e,true⟩) K) (hg:bM all s gd=some true:=by rfl) (nb:md.nb s dst=true:=by rfl):
  aE P n all md (⟨dst,.makeSlice t x y,ty,pos,after,gd⟩::r) s H K:=
 .fo (fun v H'=>∃g,H g=none∧v = .slice (some ⟨g,0,none⟩) l.toNat c.toNat∧H'=ins H g ⟨cA zs (l.toNat*sz),c.toNat*sz,e,true⟩) (.inl rfl) nb (fun a w ha hd=>by
  refine⟨fZ ha (iD (o:=⟨dst,.makeSlice t x y,ty,pos,after,gd⟩) hg),?_⟩
  obtain⟨i,hi,hz,bV,zi,C3,hp⟩:=he
  subst bV
  subst zi
  have se:=run_make (P:=P) w t e i z ht hi hz kl kc l c h0 qK hb ny
  have hex:(execOp a.eval ⟨dst,.makeSlice t x y,ty,pos,after,gd⟩).run P w = .ok (.value (.slice (some ⟨w.heap.size,0,none⟩) l.toNat c.toNat)) (w.alloc (.cells (madeCells z.cells (c.toNat*i.size)) e)):=by
   simp[execOp,bm ha hx,bm ha hy,se]
  unfold iX
  rw[hex]
  have C4:zs.length=i.size:=by rw[oB]at C3;simpa using C3
  have key:=wH (H:=H) (w:=w) (w':=w.alloc (.cells (madeCells z.cells (c.toNat*i.size)) e)) (g:=w.heap.size) (ent:=⟨cA zs (l.toNat*i.size),c.toNat*i.size,e,true⟩) (o:= .cells (madeCells z.cells (c.toNat*i.size)) e) hd rfl rfl rfl (by simp)
   (fun q hq _=>heap_alloc_old w _ q hq) (heap_alloc_new w _) ⟨_,(0,0),rfl,size_madeCells _ _,?_,fun _=>rfl⟩ (.inr (Nat.le_refl _))
  ·exact⟨_,⟨_,hd.fresh,rfl,rfl⟩,key⟩
  ·intro q u hq
   have r7:(cA zs (l.toNat*i.size))[q]? = some u:=hq
   have a7:q<l.toNat*i.size:=by have:=(List.getElem?_eq_some_iff.1 r7).1;rwa [GQ]at this
   have GR:q<c.toNat*i.size:=Nat.lt_of_lt_of_le a7 (Nat.mul_le_mul_right _ (by omega))
   have sw:q%i.size<zs.length:=by rw[C4];exact Nat.mod_lt _ hp
   simp only[cA,List.getElem?_map,List.getElem?_range a7,Option.map_some,C4,List.getElem?_eq_getElem sw,Option.getD_some,Option.some.injEq]at r7
   have:(zs[q%i.size]?).getD default=u:=by rw[List.getElem?_eq_getElem sw];exact r7
   simp[madeCells,GR,oB,C4,this]) (by
   have hle:∀v H',(∃g,H g=none∧v=Value.slice (some ⟨g,0,none⟩) l.toNat c.toNat∧H'=ins H g ⟨cA zs (l.toNat*sz),c.toNat*sz,e,true⟩)→Heap.le H H':=fun v H' ⟨g,hg,_,hH⟩=>by rw[hH];exact Heap.a0 _ hg
   cases md <;> first | trivial | exact⟨rfl,hle⟩ | exact .inr hle) fun v H' ⟨g,hg,hv,hH⟩ _=>by rw[hv,hH];exact hk g hg
def cz:List Value→List Value
 | []=>[]
 | v::vs=>v.cells.toList++cz vs
theorem TN:∀(cs:List Value)(pre post:List Value),post.length≥cs.length→
  ((cs.toArray.zipIdx).foldl (fun a (c,j)=>a.setIfInBounds (pre.length+j) c) (pre++post).toArray)=(pre++cs++post.drop cs.length).toArray:=by
 intro cs pre post h
 have gen:∀(l:List Value)(k:Nat)(mid rest:List Value),mid.length=k→rest.length≥l.length→
   ((l.zipIdx k).foldl (fun(a:Array Value)(p:Value×Nat)=>a.setIfInBounds (pre.length+p.2) p.1) (pre++mid++rest).toArray)=(pre++(mid++l)++rest.drop l.length).toArray:=by
  intro l
  induction l with
  | nil=>intro k mid rest _ _;simp
  | cons c l ih=>
   intro k mid rest hk hr
   cases rest with
   | nil=>simp at hr
   | cons d rest=>
    simp only[List.zipIdx_cons,List.foldl_cons]
    have:((pre++mid++d::rest).toArray.setIfInBounds (pre.length+k) c)=(pre++(mid ++ [c])++rest).toArray:=by
     simp only[List.setIfInBounds_toArray]
     congr 1
     rw[List.append_assoc,List.set_append_right _ _ (by omega),Nat.add_sub_cancel_left,List.set_append_right _ _ (by omega),hk,Nat.sub_self]
     simp
    rw[this,ih (k+1) (mid ++ [c]) rest (by simp[hk]) (by simp at hr;omega)]
    simp
 have:=gen cs 0 [] post rfl h
 simp only[List.append_nil,List.nil_append]at this
 rw[←this]
 simp
theorem Mb{sz:Nat}:∀(vs:List Value)(k:Nat)(pre post:List Value),(∀v,v∈vs→v.cells.size=sz)→pre.length=k*sz→post.length=vs.length*sz→
  Instr.fill (fun i=>some (i*sz,sz)) (pre++post).toArray ((List.range' k vs.length).zip vs)=some (pre++cz vs).toArray:=by
 intro vs
 induction vs with
 | nil=>
  intro k pre post _ _ hp
  have:post = []:=List.eq_nil_of_length_eq_zero (by simpa using hp)
  subst this
  simp[Instr.fill,cz]
 | cons v vs ih=>
  intro k pre post hv oC TO
  have bV:=hv v (List.mem_cons_self ..)
  simp only[List.length_cons,List.range'_succ,List.zip_cons_cons,Instr.fill]
  have TP:post.length=vs.length*sz+sz:=by rw[TO];simp[Nat.add_mul]
  rw[if_neg (by simp[bV];rw[TP,←oC];omega)]
  have h1:=TN v.cells.toList pre post (by simp[bV];omega)
  rw[oC]at h1
  simp only[Array.toArray_toList,Array.length_toList]at h1
  rw[h1]
  have h2:=ih (k+1) (pre++v.cells.toList) (post.drop v.cells.size) (fun u hu=>hv u (List.mem_cons_of_mem _ hu)) (by simp[oC,bV,Nat.add_mul]) (by simp[bV];omega)
  rw[h2]
  simp[cz]
def wJ:Nat→List Operand→List (Nat×Operand)
 | _,[]=>[]
 | k,x::xs=>(k,x)::wJ (k+1) xs
theorem TQ(ρ:Operand→Value):∀(xs:List Operand)(k:Nat),(wJ k xs).map (fun p=>(p.1,ρ p.2))=(List.range' k xs.length).zip (xs.map ρ):=by
 intro xs
 induction xs with
 | nil=>intro k;rfl
 | cons x xs ih=>intro k;simp[wJ,List.range'_succ,ih]
theorem Mc{w:World}{t e len:Nat}{i:TypeInfo}{z:Value}{parts:Array (Nat×Value)}{cells:Array Value}(ht:P.underlying t=some (.slice e))(hi:P.info? e=some i)(hz:i.zero=some z)(hs:len*i.size≤16777216)(h0:len*i.size≠0)
  (hf:Instr.fill (fun k=>some (k*i.size,i.size)) (madeCells z.cells (len*i.size)) parts.toList=some cells):(Instr.buildSlice t len parts).run P w = .ok (.slice (some ⟨w.heap.size,0,none⟩) len len) (w.alloc (.cells cells e)):=by
 have jQ:¬(len*i.size>2^24):=by omega
 unfold madeCells at hf
 unfold Instr.buildSlice
 simp only[Sem.run_bind,run_underlying ht,Result.andThen_ok,sizeOf,typeInfo,program,Sem.run,hi,Sem.run_pure,if_neg jQ,if_neg h0,zeroValue,hz]
 rw[hf]
 simp[newRow,newObj,Sem.run]
theorem cU{t e sz bytes len:Nat}{ps:List (Nat×Operand)}{z:Value}{vs cs:List Value}(ht:P.underlying t=some (.slice e))(he:eR P e sz z bytes)(hp:wJ 0 (ps.map (·.2))=ps)(hlen:len=(ps.map (·.2)).length)(h1:Nat.ble 1 len=true)(hx:nx s (ps.map (·.2))=some vs)
  (hv:vs.all (fun v=>Nat.beq v.cells.size sz)=true) (hc:cz vs=cs) (GS:Nat.ble (len*sz) 16777216=true)
  (hk:∀g,H g=none→aE P n all md r (aR s dst (.val (.slice (some ⟨g,0,none⟩) len len))) (ins H g (whole cs e)) K) (hg:bM all s gd=some true:=by rfl) (nb:md.nb s dst=true:=by rfl):
  aE P n all md (⟨dst,.buildSlice t len ps.toArray,ty,pos,after,gd⟩::r) s H K:=
 .fresh (fun g=> .slice (some ⟨g,0,none⟩) len len) cs e (.inl rfl) nb (fun a w ha=>by
  obtain⟨xs,C5⟩:∃xs,xs=ps.map (·.2):=⟨_,rfl⟩
  rw[←C5]at hp hlen hx
  clear C5
  subst hp
  refine⟨fZ ha (iD (o:=⟨dst,.buildSlice t len (wJ 0 xs).toArray,ty,pos,after,gd⟩) hg),?_⟩
  obtain⟨i,hi,hz,bV,zi,C3,y7⟩:=he
  subst bV
  subst hlen
  subst hc
  have ko:=GM ha xs vs hx
  have fG:vs.length=xs.length:=by rw[←ko];simp
  have TR:((wJ 0 xs).toArray.map fun(i,x)=>(i,a.eval x)).toList=(List.range' 0 vs.length).zip vs:=by
   rw[fG,←ko];simpa using TQ a.eval xs 0
  have uj:=Mb (sz:=i.size) vs 0 [] (madeCells z.cells (xs.length*i.size)).toList (fun v wK=>Nat.eq_of_beq_eq_true (List.all_eq_true.1 hv v wK)) (by simp) (by simp[size_madeCells,fG])
  have Md:=Nat.le_of_ble_eq_true h1
  simp only[List.nil_append,Array.toArray_toList]at uj
  rw[←TR]at uj
  have:=Mc (w:=w) ht hi hz (Nat.le_of_ble_eq_true GS) (by have:=Nat.mul_pos Md y7;omega) uj
  simp only[execOp,Sem.run_bind,this,Result.andThen_ok,Sem.run_pure]) fun g hg _=>hk g hg
theorem dP{t t2:TypeId}{x i y:Operand}{g o m c d1:Nat}{oy:TypeId}{oz:String}{oA:Array Edge}{kq:Option (Nat×Bool)}{k:IntKind}{j:Int}{e sz:Nat}{ent:aG}{v:Value}{vs:List Value}{ii:TypeInfo}
  (dy:md = .plain∨md = .fR) (cY:ja P tb) (ht:tb[t]? = some (.sl e sz)) (hx:ev s x=some (.slice (some ⟨g,o,none⟩) m c)) (hi:ev s i=some (.int k j)) (h0:0≤j) (hm:j<m) (hg:H g=some ent) (bW:ent.own=true) (iE:o+m*sz≤ent.xs.length)
  (uk:P.info? t2=some ii) (bV:ii.size=sz) (hy:∀ad:Addr,ev (put s d1 (.val (.pointer (some ad)))) y=some v) (hv:v.cells=vs.toArray) (fG:vs.length=sz) (h1:vs.all ui=true)
  (hk:∀ad:Addr,aE P n all md r (put s d1 (.val (.pointer (some ad)))) (ins H g {ent with xs:=aC ent.xs (o+j.toNat*sz) vs}) K) (ie:bM all s gd=some true:=by rfl) (nb:md.nb s (some d1)=true:=by rfl) (dN:∀ad:Addr,bM all (put s d1 (.val (.pointer (some ad)))) kq=some true:=by exact fun _=>rfl):
  aE P n all md (⟨some d1,.indexAddr t x i,ty,pos,after,gd⟩::⟨none,.store t2 (.tmp d1) y,oy,oz,oA,kq⟩::r) s H K:=by
 have qI:(⟨g,o,none⟩:Addr).add (j.toNat*sz)=⟨g,o+j.toNat*sz,none⟩:=by
  unfold Addr.add;split
  ·rename_i e0;rw[e0];rfl
  ·rfl
 have hjm:j.toNat*sz+sz≤m*sz:=by
  have:(j.toNat+1)*sz≤m*sz:=Nat.mul_le_mul_right _ (by omega)
  rw[Nat.add_mul]at this;omega
 refine qJ cY ht hx hi h0 hm ?_ ie nb
 rw[qI]
 refine .fo (fun _ H'=>H'=ins H g {ent with xs:=aC ent.xs (o+j.toNat*sz) vs}) (.inr (.inl rfl)) (by rcases dy with rfl | rfl <;> rfl) (fun a w ha hd=> ?_) (by rcases dy with rfl | rfl <;> first | trivial | exact .inl rfl) fun _ H' hH _=>by rw[hH];exact hk _
 refine⟨fZ ha (iD (o:=⟨none,.store t2 (.tmp d1) y,oy,oz,oA,kq⟩) (dN _)),?_⟩
 obtain⟨ob,h2,cur,fz,rfl,h3,h4,h5⟩:=hd g ent hg
 have kS:=h5 bW
 subst kS
 have zj:cur=cur.toList.toArray:=by simp
 have hlen:ent.xs.length≤cur.toList.length:=by
  rcases Nat.eq_zero_or_pos ent.xs.length with h | h
  ·omega
  ·have hx:=h4 (ent.xs.length-1) _ (List.getElem?_eq_getElem (by omega))
   have:=(Array.getElem?_eq_some_iff.1 hx).1
   simp;omega
 rw[zj]at h2
 obtain⟨w',h6,h7,h8,h9,fV,fq,uo⟩:=C0 (P:=P) vs cur.toList w (o+j.toNat*sz) 0 h2 (fun u hu=>List.all_eq_true.1 h1 u hu) (by omega)
 have hp:ev (put s d1 (.val (.pointer (some ⟨g,o+j.toNat*sz,none⟩)))) (.tmp d1)=some (.pointer (some ⟨g,o+j.toNat*sz,none⟩)):=by simp[ev,put]
 have hex:(execOp a.eval ⟨none,.store t2 (.tmp d1) y,oy,oz,oA,kq⟩).run P w = .ok .skip w':=by
  simp[execOp,bm ha hp,bm ha (hy _),Instr.storeAt,Instr.sureAddr,storeVar,sizeOf,typeInfo,uk,bV,hv,fG,h6]
 unfold iX
 rw[hex]
 refine⟨_,rfl,wH (o:= .cells (aC cur.toList (o+j.toNat*sz+0) vs).toArray ent.elem (0,0)) hd h7 h8 h9 (by omega) (fun q _ hq=>fq q hq) uo ⟨_,(0,0),rfl,?_,?_,fun _=>rfl⟩ (.inl ⟨_,hg,bW,bW,rfl,rfl⟩)⟩
 ·simp[ze,h3]
 ·intro q u hq
  have key:∀(us:List Value)(A B:List Value)(p:Nat),(∀(i:Nat)(w:Value),A[i]? = some w→B[i]? = some w)→p+us.length≤A.length→∀(i:Nat)(w:Value),(aC A p us)[i]? = some w→(aC B p us)[i]? = some w:=by
   intro us
   induction us with
   | nil=>intro A B p h _ i w hw;exact h i w hw
   | cons x us ih=>
    intro A B p h hl i w hw
    simp only[List.length_cons]at hl
    refine ih (A.set p x) (B.set p x) (p+1) (fun i w hw=> ?_) (by simp;omega) i w hw
    have hB:p<B.length:=(List.getElem?_eq_some_iff.1 (h p _ (List.getElem?_eq_getElem (by omega)))).1
    rw[List.getElem?_set]at hw⊢
    by_cases e:p=i
    ·subst e
     rw[if_pos rfl]at hw⊢
     rw[if_pos (by omega)]at hw
     rw[if_pos hB];exact hw
    ·rw[if_neg e]at hw⊢
     exact h i w hw
  have:=key vs ent.xs cur.toList (o+j.toNat*sz) (fun i w hw=>by simpa using h4 i w hw) (by omega) q u hq
  simpa using this
theorem qL{t e sz:Nat}{x:Operand}{lo hi:Option Operand}{A:Option Addr}{m c l h:Nat}(cY:ja P tb)(ht:tb[t]? = some (.sl e sz))(hx:ev s x=some (.slice A m c))
  (cV:(lo=none∧l=0)∨∃y k,lo=some y∧ev s y=some (.int k (l:Int))) (TS:(hi=none∧h=m)∨∃y k,hi=some y∧ev s y=some (.int k (h:Int))) (TT:l≤h) (TU:h≤c)
  (hk:aE P n all md r (aR s dst (.val (.slice (if c=l then A else A.map (·.add (l*sz))) (h-l) (c-l)))) H K) (hg:bM all s gd=some true:=by rfl) (nb:md.nb s dst=true:=by rfl):
  aE P n all md (⟨dst,.slice t x lo hi none,ty,pos,after,gd⟩::r) s H K:=
 fp _ rfl hg nb (fun a w ha _=>by
  obtain⟨hu,i,h2,h3⟩:=cY t _ ht
  have hl:∀k,(Instr.sliceBound (.int k (l:Int)) h .sliceB).run P w = .ok l w:=fun k=>by
   simp[Instr.sliceBound,asIntOf,TT]
  have hh:∀k,(Instr.sliceBound (.int k (h:Int)) c .sliceAcap).run P w = .ok h w:=fun k=>by
   simp[Instr.sliceBound,asIntOf,TU]
  rcases cV with ⟨rfl,rfl⟩ | ⟨y,k,rfl,hy⟩ <;> rcases TS with ⟨rfl,rfl⟩ | ⟨y',k',rfl,pC⟩
  ·simp[execOp,bm ha hx,Instr.sliceAt,run_underlying hu,Instr.slice,Instr.sliceBounds,sizeOf,typeInfo,h2]
  ·simp[execOp,bm ha hx,bm ha pC,Instr.sliceAt,run_underlying hu,Instr.slice,Instr.sliceBounds,hh,sizeOf,typeInfo,h2]
  ·simp[execOp,bm ha hx,bm ha hy,Instr.sliceAt,run_underlying hu,Instr.slice,Instr.sliceBounds,hl,sizeOf,typeInfo,h2,h3]
  ·simp[execOp,bm ha hx,bm ha hy,bm ha pC,Instr.sliceAt,run_underlying hu,Instr.slice,Instr.sliceBounds,hl,hh,sizeOf,typeInfo,h2,h3]) hk
end
end Go.ar
namespace Go.ar
theorem aA{P:Program}{n:Nat}{all:Array Oper}{md:Mode}{s:St}{H:Heap}{K:St→Heap→Prop}(h:K s H):aE P n all md [] s H K:=h
end Go.ar
namespace Go.ar
theorem aS{P:Program}{n:Nat}{all:Array Oper}{s:St}{H:Heap}{md:Mode}{K:St→Heap→Prop}{r:List Oper}{dst:Option Nat}{ty:TypeId}{pos:String}{after:Array Edge}{gd:Option (Nat×Bool)}{op:BinOp}{t t':TypeId}{x y:Operand}{k:IntKind}{a b:Int}(v:Bool)
  (hx:ev s x=some (.int k a)) (hy:ev s y=some (.int k b)) (hv:eC op a b=some v) (hk:aE P n all md r (aR s dst (.val (.bool v))) H K) (hg:bM all s gd=some true:=by rfl) (nb:md.nb s dst=true:=by rfl):
  aE P n all md (⟨dst,.binOp op t x y t',ty,pos,after,gd⟩::r) s H K:=
 fp _ rfl hg nb (fun c w hc _=>by
  simp only[execOp,bm hc hx,bm hc hy,Sem.run_bind,qH,Result.andThen_ok]
  cases op <;> simp[eC]at hv <;> simp[binOp,Op.intCmp,hv]) hk
end Go.ar
namespace Go.ar
section
variable {P:Program} {n:Nat} {w0:World} {H0:Heap} {Q:Exit→St→Heap→Prop} {s:St} {H:Heap}
theorem af{id:Nat}{l:List Oper}{y:Code}(h:aE P n l.toArray .plain l s H (fun s H=>VC P n w0 H0 y Q s H))(hn:CP n l=true:=by rfl):VC P n w0 H0 (.seq (.region id l.toArray false) y) Q s H:=
 aq (aF hn h)
theorem cg(md:Mode)(perm:List Nat){id:Nat}{l:List Oper}{y:Code}(hf:P.follows .mixedOrders=true)(hc:CS n md l perm=true)(h:aE P n l.toArray md (perm.map (eU l)) s H (fun s H=>VC P n w0 H0 y Q s H)):
  VC P n w0 H0 (.seq (.region id l.toArray true) y) Q s H:=aq (fc md perm hf hc h)
theorem ae{all:Array Oper}{md:Mode}(ts:List Nat){s':St}{y:Code}(h:VC P n w0 H0 y Q s' H)(hs:tZ s ts=some s':=by rfl):aE P n all md [] s H (fun s H=>VC P n w0 H0 y Q s H):=aj ts hs h
end
end Go.ar
namespace Go.ar
section
variable {P:Program} {n:Nat} {w0:World} {H0:Heap} {Q:Exit→St→Heap→Prop} {s:St} {H:Heap}
theorem gj{α:Type}{c:Code}(μ:α→Nat)(S:α→St)(Φ:α→Heap→Prop)(a:α)(h0:Φ a H)(hs:Sub (S a) s)
  (round:∀a H,Φ a H→VC P n w0 H0 c (mq (fun s' H'=>∃a',μ a'<μ a∧Sub (S a') s'∧Φ a' H') Q) (S a) H):VC P n w0 H0 (.loop c) Q s H:=CV μ S Φ a hs h0 round
theorem jS{α β:Type}{c:Code}(μ:α→β→Nat)(S:α→β→St)(Φ:α→β→Heap→Prop)(a:α)(b:β)(h0:Φ a b H)(hs:Sub (S a b) s)
  (round:∀a b H,Φ a b H→VC P n w0 H0 c (mq (fun s' H'=>∃a' b',μ a' b'<μ a b∧Sub (S a' b') s'∧Φ a' b' H') Q) (S a b) H):VC P n w0 H0 (.loop c) Q s H:=
 CV (γ:=α×β) (fun g=>μ g.1 g.2) (fun g=>S g.1 g.2) (fun g=>Φ g.1 g.2) (a,b) hs h0 fun g H h=>r6 (round g.1 g.2 H h) fun e s H hq=>by
  cases e <;> first | exact hq | (obtain⟨a',b',h⟩:=hq;exact⟨(a',b'),h⟩)
theorem jb{α β γ:Type}{c:Code}(μ:α→β→γ→Nat)(S:α→β→γ→St)(Φ:α→β→γ→Heap→Prop)(a:α)(b:β)(d:γ)(h0:Φ a b d H)(hs:Sub (S a b d) s)
  (round:∀a b d H,Φ a b d H→VC P n w0 H0 c (mq (fun s' H'=>∃a' b' d',μ a' b' d'<μ a b d∧Sub (S a' b' d') s'∧Φ a' b' d' H') Q) (S a b d) H):VC P n w0 H0 (.loop c) Q s H:=
 CV (γ:=α×β×γ) (fun g=>μ g.1 g.2.1 g.2.2) (fun g=>S g.1 g.2.1 g.2.2) (fun g=>Φ g.1 g.2.1 g.2.2) (a,b,d) hs h0 fun g H h=>r6 (round g.1 g.2.1 g.2.2 H h) fun e s H hq=>by
  cases e <;> first | exact hq | (obtain⟨a',b',d',h⟩:=hq;exact⟨(a',b',d'),h⟩)
theorem nz{α β γ δ:Type}{c:Code}(μ:α→β→γ→δ→Nat)(S:α→β→γ→δ→St)(Φ:α→β→γ→δ→Heap→Prop)(a:α)(b:β)(d:γ)(f:δ)(h0:Φ a b d f H)(hs:Sub (S a b d f) s)
  (round:∀a b d f H,Φ a b d f H→VC P n w0 H0 c (mq (fun s' H'=>∃a' b' d' f',μ a' b' d' f'<μ a b d f∧Sub (S a' b' d' f') s'∧Φ a' b' d' f' H') Q) (S a b d f) H):VC P n w0 H0 (.loop c) Q s H:=
 CV (γ:=α×β×γ×δ) (fun g=>μ g.1 g.2.1 g.2.2.1 g.2.2.2) (fun g=>S g.1 g.2.1 g.2.2.1 g.2.2.2) (fun g=>Φ g.1 g.2.1 g.2.2.1 g.2.2.2) (a,b,d,f) hs h0 fun g H h=>r6 (round g.1 g.2.1 g.2.2.1 g.2.2.2 H h) fun e s H hq=>by
  cases e <;> first | exact hq | (obtain⟨a',b',d',f',h⟩:=hq;exact⟨(a',b',d',f'),h⟩)
theorem TV{γ:Type}{x y:Code}(S:γ→St)(Φ:γ→Heap→Prop)(h:VC P n w0 H0 x (mq (fun s' H'=>∃g,Sub (S g) s'∧Φ g H') Q) s H)(k:∀g H,Φ g H→VC P n w0 H0 y Q (S g) H):VC P n w0 H0 (.seq x y) Q s H:=
 aq (r6 h fun e s H hq=>by
  cases e <;> first | exact hq | (obtain⟨g,h1,h2⟩:=hq;exact wA h1 (k g H h2)))
theorem GU{x y:Code}(S:St)(Φ:Heap→Prop)(h:VC P n w0 H0 x (mq (fun s' H'=>Sub S s'∧Φ H') Q) s H)(k:∀H,Φ H→VC P n w0 H0 y Q S H):VC P n w0 H0 (.seq x y) Q s H:=
 aq (r6 h fun e s H hq=>by
  cases e <;> first | exact hq | (obtain⟨h1,h2⟩:=hq;exact wA h1 (k H h2)))
theorem oD{α:Type}{x y:Code}(S:α→St)(Φ:α→Heap→Prop)(h:VC P n w0 H0 x (mq (fun s' H'=>∃a,Sub (S a) s'∧Φ a H') Q) s H)(k:∀a H,Φ a H→VC P n w0 H0 y Q (S a) H):VC P n w0 H0 (.seq x y) Q s H:=TV S Φ h k
theorem GV{α β:Type}{x y:Code}(S:α→β→St)(Φ:α→β→Heap→Prop)(h:VC P n w0 H0 x (mq (fun s' H'=>∃a b,Sub (S a b) s'∧Φ a b H') Q) s H)(k:∀a b H,Φ a b H→VC P n w0 H0 y Q (S a b) H):VC P n w0 H0 (.seq x y) Q s H:=
 aq (r6 h fun e s H hq=>by
  cases e <;> first | exact hq | (obtain⟨a,b,h1,h2⟩:=hq;exact wA h1 (k a b H h2)))
theorem TW{α β γ:Type}{x y:Code}(S:α→β→γ→St)(Φ:α→β→γ→Heap→Prop)(h:VC P n w0 H0 x (mq (fun s' H'=>∃a b c,Sub (S a b c) s'∧Φ a b c H') Q) s H)(k:∀a b c H,Φ a b c H→VC P n w0 H0 y Q (S a b c) H):VC P n w0 H0 (.seq x y) Q s H:=
 aq (r6 h fun e s H hq=>by
  cases e <;> first | exact hq | (obtain⟨a,b,c,h1,h2⟩:=hq;exact wA h1 (k a b c H h2)))
end
end Go.ar
namespace Go.ar
theorem jA{k:IntKind}{a b:Int}(h:a=b):some (Slot.val (.int k a))=some (Slot.val (.int k b)):=by rw[h]
end Go.ar
namespace Go.ar
theorem TX{P:Program}{n:Nat}{w0:World}{H0:Heap}{Q:Exit→St→Heap→Prop}{s:St}{H:Heap}{α β γ δ:Type}{x y:Code}(S:α→β→γ→δ→St)(Φ:α→β→γ→δ→Heap→Prop)(h:VC P n w0 H0 x (mq (fun s' H'=>∃a b c d,Sub (S a b c d) s'∧Φ a b c d H') Q) s H)(k:∀a b c d H,Φ a b c d H→VC P n w0 H0 y Q (S a b c d) H):VC P n w0 H0 (.seq x y) Q s H:=
 aq (r6 h fun e s H hq=>by
  cases e <;> first | exact hq | (obtain⟨a,b,c,d,h1,h2⟩:=hq;exact wA h1 (k a b c d H h2)))
end Go.ar
namespace Go.ar
theorem ay{s s2:St}(h:Sub s s2:=by repeat (first | exact iZ _ | refine dM rfl ?_ | refine dM (jA (by first | omega | (simp;done))) ?_)):Sub s s2:=h
end Go.ar
namespace Go.ar
open Go
theorem TY(cs:List Value)(a:List Value)(off:Nat):(cs.toArray.zipIdx.foldl (fun(x:Array Value)(p:Value×Nat)=>x.setIfInBounds (off+p.2) p.1) a.toArray)=(aC a off cs).toArray:=by
 have gen:∀(l:List Value)(k:Nat)(a:List Value),((l.zipIdx k).foldl (fun(x:Array Value)(p:Value×Nat)=>x.setIfInBounds (off+p.2) p.1) a.toArray)=(aC a (off+k) l).toArray:=by
  intro l
  induction l with
  | nil=>intro k a;rfl
  | cons c l ih=>
   intro k a
   simp only[List.zipIdx_cons,List.foldl_cons,List.setIfInBounds_toArray,ih,aC,Nat.add_assoc]
 have:=gen cs 0 a
 rw[Nat.add_zero]at this
 rw[←this]
 simp
def zk(pl:List (Nat×Nat))(cs:List Value):List (Nat×Value)→Option (List Value)
 | []=>some cs
 | (i,v)::rest=>(match pl[i]? with
  | none=>none
  | some (off,size)=>cond (Nat.beq v.cells.toList.length size&&Nat.ble (off+size) cs.length) (zk pl (aC cs off v.cells.toList) rest) none)
theorem TZ{pl:List (Nat×Nat)}:∀(parts:List (Nat×Value))(cs out:List Value),zk pl cs parts=some out→Instr.fill (pl.toArray[·]?) cs.toArray parts=some out.toArray:=by
 intro parts
 induction parts with
 | nil=>intro cs out h;simp only[zk,Option.some.injEq]at h;subst h;rfl
 | cons p parts ih=>
  obtain⟨i,v⟩:=p
  intro cs out h
  simp only[zk]at h
  cases hp:pl[i]? with
  | none=>rw[hp]at h;cases h
  | some q=>
   obtain⟨off,size⟩:=q
   rw[hp]at h
   simp only at h
   cases hc:(Nat.beq v.cells.toList.length size&&Nat.ble (off+size) cs.length)with
   | false=>rw[hc]at h;cases h
   | true=>
    rw[hc]at h
    simp only[cond_true]at h
    simp only[Bool.and_eq_true]at hc
    have h1:=Nat.eq_of_beq_eq_true hc.1
    have h2:=Nat.le_of_ble_eq_true hc.2
    simp only[Array.length_toList]at h1
    have h3:=ih _ _ h
    have zl:pl.toArray[i]? = some (off,size):=by rw[List.getElem?_toArray];exact hp
    simp only[Instr.fill,zl]
    rw[if_neg (by simp[h1];omega)]
    have h4:=TY v.cells.toList cs off
    simp only[Array.toArray_toList]at h4
    rw[←h4]at h3
    exact h3
def zm(s:St):List (Nat×Operand)→Option (List (Nat×Value))
 | []=>some []
 | (i,x)::r=>(match ev s x with
  | some v=>(match zm s r with | some vs=>some ((i,v)::vs) | none=>none)
  | none=>none)
theorem T1{n:Nat}{s:St}{a:Act}(h:eG n s a):∀(xs:List (Nat×Operand))(vs:List (Nat×Value)),zm s xs=some vs→xs.map (fun p=>(p.1,a.eval p.2))=vs:=by
 intro xs
 induction xs with
 | nil=>intro vs hv;simp only[zm,Option.some.injEq]at hv;subst hv;rfl
 | cons p xs ih=>
  obtain⟨i,x⟩:=p
  intro vs hv
  simp only[zm]at hv
  split at hv
  ·rename_i v hx
   split at hv
   ·rename_i us hu
    simp only[Option.some.injEq]at hv
    subst hv
    rw[List.map_cons,ih _ hu,bm h hx]
   ·cases hv
  ·cases hv
theorem T2{P:Program}{w:World}{pl:List (Nat×Nat)}{fs:Array Field}(hs:fs.size=pl.length)
  (hp:∀(f:Nat)(p:Nat×Nat),pl[f]? = some p→∃fd j,fs[f]? = some fd∧fd.offset=p.1∧P.info? fd.type=some j∧j.size=p.2∧p.2≠0):
  (fs.mapM fun f=>(do pure (f.offset,←sizeOf f.type):Sem (Nat×Nat))).run P w = .ok pl.toArray w:=by
 obtain⟨l⟩:=fs
 rw[List.mapM_toArray]
 simp only[List.size_toArray]at hs
 have gen:∀(l:List Field)(pl:List (Nat×Nat)),l.length=pl.length→(∀(f:Nat)(p:Nat×Nat),pl[f]? = some p→∃fd j,l[f]? = some fd∧fd.offset=p.1∧P.info? fd.type=some j∧j.size=p.2∧p.2≠0)→
   (l.mapM fun f=>(do pure (f.offset,←sizeOf f.type):Sem (Nat×Nat))).run P w = .ok pl w:=by
  intro l
  induction l with
  | nil=>intro pl h _;cases pl with | nil=>rfl | cons _ _=>simp at h
  | cons f l ih=>
   intro pl h hp
   cases pl with
   | nil=>simp at h
   | cons p pl=>
    obtain⟨fd,j,h1,h2,h3,h4,_⟩:=hp 0 p rfl
    simp only[List.getElem?_cons_zero,Option.some.injEq]at h1
    subst h1
    have h5:=ih pl (by simpa using h) (fun f p hf=>hp (f+1) p (by simpa using hf))
    rw[List.mapM_cons,Sem.run_bind,Sem.run_bind]
    have e:(sizeOf f.type).run P w = .ok p.2 w:=by simp[sizeOf,typeInfo,h3,h4]
    rw[e,Result.andThen_ok,Sem.run_pure,Result.andThen_ok,Sem.run_bind,h5,Result.andThen_ok,Sem.run_pure,h2]
 have:=gen l pl hs (by simpa using hp)
 rw[map_eq_pure_bind,Sem.run_bind,this,Result.andThen_ok,Sem.run_pure]
section
variable {P:Program} {n:Nat} {tb:Tb} {all:Array Oper} {s:St} {H:Heap} {md:Mode} {K:St→Heap→Prop} {r:List Oper} {dst:Option Nat} {ty:TypeId} {pos:String} {after:Array Edge} {gd:Option (Nat×Bool)}
theorem dH{t sz dS bytes:Nat}{pl:List (Nat×Nat)}{ps:List (Nat×Operand)}{vs:List (Nat×Value)}{zs cs:List Value}(cY:ja P tb)(ht:tb[t]? = some (.st sz pl))(he:eR P t dS (.agg zs.toArray) bytes)(hx:zm s ps=some vs)(hf:zk pl zs vs=some cs)
  (hk:aE P n all md r (aR s dst (.val (.agg cs.toArray))) H K) (hg:bM all s gd=some true:=by rfl) (nb:md.nb s dst=true:=by rfl):
  aE P n all md (⟨dst,.build t ps.toArray,ty,pos,after,gd⟩::r) s H K:=
 fp _ rfl hg nb (fun a w ha _=>by
  obtain⟨i,hi,hz,_,_,_,_⟩:=he
  obtain⟨fs,i',hu,_,_,h4,h5⟩:=cY _ _ ht
  have ko:=T1 ha ps vs hx
  have uj:=TZ vs zs cs hf
  have C6:=T2 (P:=P) (w:=w) h4 h5
  simp only[execOp,Instr.build,Sem.run_bind,zeroValue,typeInfo,program,Sem.run,hi,hz,Result.andThen_ok,run_underlying hu,Sem.run_pure]
  rw[C6]
  simp only[Result.andThen_ok,Value.cells,List.map_toArray,List.toList_toArray]
  rw[ko,uj]
  simp) hk
theorem T3{t:TypeId}{x:Operand}{k:IntKind}{a:Int}(hx:ev s x=some (.int k a))
  (hk:aE P n all md r (aR s dst (.val (.int k (k.wrap (-a))))) H K) (hg:bM all s gd=some true:=by rfl) (nb:md.nb s dst=true:=by rfl):aE P n all md (⟨dst,.unOp .neg t x,ty,pos,after,gd⟩::r) s H K:=
 fp _ rfl hg nb (fun c w hc _=>by simp[execOp,bm hc hx,Op.unary,Op.intArith]) hk
end
end Go.ar
namespace Go.ar
open Go
theorem Den.draw{H:Heap}{w:World}(h:Den H w)(k:Nat):Den H {w with drawn:=k}:=h
theorem Fx.draw{H:Heap}{w:World}(k:Nat):Fx H w H {w with drawn:=k}:=⟨rfl,rfl,rfl,Nat.le_refl _,fun _ _ h=>⟨rfl,h⟩,fun _ c _ _ h=>⟨c,h,rfl⟩⟩
theorem T4(z:Int):0≤IntKind.u64.wrap z∧IntKind.u64.wrap z<18446744073709551616:=by
 show 0≤z%18446744073709551616∧z%18446744073709551616<18446744073709551616
 omega
theorem T5{P:Program}{w:World}{op:BinOp}(zo:op = .add∨op = .mul∨op = .quo)(a b:Nat):∃b' k,(Op.floatArith op .f64 a b).run P w = .ok (.float .f64 b') {w with drawn:=k}:=by
 have key:∀res:Option Nat,∃(b' k:Nat),(Sem.bind (Sem.pure res) fun res=>(match res with | some r=>(pure (Value.float .f64 r):Sem Value) | none=>(do pure (Value.float .f64 (←choose (.nanBits .f64 a b))):Sem Value))).run P w = .ok (.float .f64 b') {w with drawn:=k}:=by
  intro res
  cases res with
  | some r=>exact⟨r,w.drawn,rfl⟩
  | none=>exact⟨_,w.drawn+1,rfl⟩
 rcases zo with rfl | rfl | rfl <;> exact key _
theorem T6{P:Program}{w:World}(a:Nat):∃(b k:Nat),(b:Int)<18446744073709551616∧(Conv.floatToInt .f64 a .u64).run P w = .ok (.int .u64 (b:Int)) {w with drawn:=k}:=by
 have any:∃(b k:Nat),(b:Int)<18446744073709551616∧Sem.run P (do pure (.int .u64 (IntKind.u64.wrap (←choose (.floatToInt .f64 a .u64)))):Sem Value) w = .ok (.int .u64 (b:Int)) {w with drawn:=k}:=by
  have h1:=T4 ((Question.floatToInt .f64 a .u64).cut (w.tape w.drawn (Question.floatToInt .f64 a .u64)))
  refine⟨(IntKind.u64.wrap ((Question.floatToInt .f64 a .u64).cut (w.tape w.drawn (Question.floatToInt .f64 a .u64)))).toNat,w.drawn+1,by omega,?_⟩
  rw[Int.toNat_of_nonneg h1.1]
  rfl
 unfold Conv.floatToInt
 cases (FloatKind.f64.decode a).toInt .zero with
 | none=>exact any
 | some z=>
  simp only
  split
  ·rename_i h
   have h0:IntKind.u64.min=0:=rfl
   have h1:IntKind.u64.max=18446744073709551615:=rfl
   rw[h0,h1]at h
   exact⟨z.toNat,w.drawn,by omega,by rw[Int.toNat_of_nonneg h.1];rfl⟩
  ·exact any
section
variable {P:Program} {n:Nat} {tb:Tb} {all:Array Oper} {s:St} {H:Heap} {md:Mode} {K:St→Heap→Prop} {r:List Oper} {dst:Option Nat} {ty:TypeId} {pos:String} {after:Array Edge} {gd:Option (Nat×Bool)}
theorem GW{src d:TypeId}{x:Operand}{k:IntKind}{ds:TypeDesc}{a:Int}(hs:P.underlying src=some ds)(hd:P.underlying d=some (.float .f64))(hx:ev s x=some (.int k a))
  (hk:∀b,aE P n all md r (aR s dst (.val (.float .f64 b))) H K) (hg:bM all s gd=some true:=by rfl) (nb:md.nb s dst=true:=by rfl):aE P n all md (⟨dst,.convert src d x,ty,pos,after,gd⟩::r) s H K:=
 fp (.float .f64 (FloatKind.f64.nearest a)) rfl hg nb (fun c w hc _=>by
  simp[execOp,bm hc hx,convert,run_underlying hs,run_underlying hd,Conv.intToFloat]) (hk _)
theorem GX{op:BinOp}(zo:op = .add∨op = .mul∨op = .quo){t t':TypeId}{x y:Operand}{a b:Nat}(hx:ev s x=some (.float .f64 a))(hy:ev s y=some (.float .f64 b))
  (hk:∀b,aE P n all .plain r (aR s dst (.val (.float .f64 b))) H K) (hg:bM all s gd=some true:=by rfl):aE P n all .plain (⟨dst,.binOp op t x y t',ty,pos,after,gd⟩::r) s H K:=
 .fo (fun v H'=>H'=H∧∃b,v = .float .f64 b) (.inr (.inr rfl)) rfl (fun c w hc hd=>by
  refine⟨fZ hc (iD (o:=⟨dst,.binOp op t x y t',ty,pos,after,gd⟩) hg),?_⟩
  obtain⟨b',k,h1⟩:=T5 (P:=P) (w:=w) zo a b
  have h2:(execOp c.eval ⟨dst,.binOp op t x y t',ty,pos,after,gd⟩).run P w = .ok (.value (.float .f64 b')) {w with drawn:=k}:=by
   have e1:(eqGuard op t x y (.float .f64 a) (.float .f64 b)).run P w = .ok () w:=by rcases zo with rfl | rfl | rfl <;> rfl
   have e2:binOp op t (.float .f64 a) (.float .f64 b)=Op.floatArith op .f64 a b:=by rcases zo with rfl | rfl | rfl <;> rfl
   simp only[execOp,bm hc hx,bm hc hy,Sem.run_bind,e1,e2,h1,Result.andThen_ok,Sem.run_pure]
  unfold iX
  rw[h2]
  exact⟨H,⟨rfl,b',rfl⟩,hd.draw _,.draw _⟩) trivial fun v H' hp _=>by obtain⟨rfl,b,rfl⟩:=hp;exact hk b
theorem T7{src d:TypeId}{x:Operand}{ds:TypeDesc}{a:Nat}(hs:P.underlying src=some ds)(hd:P.underlying d=some (.int .u64))(hx:ev s x=some (.float .f64 a))
  (hk:∀b:Nat,(b:Int)<18446744073709551616→aE P n all .plain r (aR s dst (.val (.int .u64 (b:Int)))) H K) (hg:bM all s gd=some true:=by rfl):aE P n all .plain (⟨dst,.convert src d x,ty,pos,after,gd⟩::r) s H K:=
 .fo (fun v H'=>H'=H∧∃b:Nat,(b:Int)<18446744073709551616∧v = .int .u64 (b:Int)) (.inr (.inr rfl)) rfl (fun c w hc T9=>by
  refine⟨fZ hc (iD (o:=⟨dst,.convert src d x,ty,pos,after,gd⟩) hg),?_⟩
  obtain⟨b',k,h0,h1⟩:=T6 (P:=P) (w:=w) a
  have h2:(execOp c.eval ⟨dst,.convert src d x,ty,pos,after,gd⟩).run P w = .ok (.value (.int .u64 (b':Int))) {w with drawn:=k}:=by
   simp only[execOp,bm hc hx,convert,Sem.run_bind,run_underlying hs,run_underlying hd,h1,Result.andThen_ok,Sem.run_pure]
  unfold iX
  rw[h2]
  exact⟨H,⟨rfl,b',h0,rfl⟩,T9.draw _,.draw _⟩) trivial fun v H' hp _=>by obtain⟨rfl,b,h0,rfl⟩:=hp;exact hk b h0
theorem Me{x y:Operand}{k k':IntKind}{a b:Int}{GY:Array TypeId}(hx:ev s x=some (.int k a))(hy:ev s y=some (.int k' b))
  (hk:aE P n all md r (aR s dst (.val (.int k (if b<a then b else a)))) H K) (hg:bM all s gd=some true:=by rfl) (nb:md.nb s dst=true:=by rfl):aE P n all md (⟨dst,.call {callee:= .builtin .min,args:= #[x,y],argTypes:=GY},ty,pos,after,gd⟩::r) s H K:=
 fp _ rfl hg nb (fun c w hc _=>by
  simp[execOp,resolve,invoke,builtin,bm hc hx,bm hc hy,Builtin.min_,Builtin.min2]) hk
theorem Ua{x y:Operand}{k k':IntKind}{a b:Int}{GY:Array TypeId}(hx:ev s x=some (.int k a))(hy:ev s y=some (.int k' b))
  (hk:aE P n all md r (aR s dst (.val (.int k (if b>a then b else a)))) H K) (hg:bM all s gd=some true:=by rfl) (nb:md.nb s dst=true:=by rfl):aE P n all md (⟨dst,.call {callee:= .builtin .max,args:= #[x,y],argTypes:=GY},ty,pos,after,gd⟩::r) s H K:=
 fp _ rfl hg nb (fun c w hc _=>by
  simp[execOp,resolve,invoke,builtin,bm hc hx,bm hc hy,Builtin.max_,Builtin.max2]) hk
end
end Go.ar
