/- Part 2 of the proof: Ty, Num, Dat, Nat1, Nat2, Nat3, Nat4, Nat5, Nat6, Nat7, Nat8, Knu. -/
import Derived.Test.YtdjoookebbbjkaaGreatA01
import Derived.Test.YtdjoookebbbjkaaGreatProg
import Derived.KernelRfl
set_option linter.unusedVariables false
namespace Go.aq
open Go.Proofs
def tb:Tb:=[
 .no,.no,.it .i64,.it .i64,.ce,.it .u8,.it .u8,.st 4 [(0,1),(1,1),(2,1),(3,1)],
 .no,.no,.no,.no,.it .u64,.st 2 [(0,1),(1,1)],.no,.ce,
 .ce,.ce,.st 1 [(0,1)],.no,.no,.it .i32,.sl 25 2,.sl 43 2,
 .st 2 [(0,1),(1,1)],.st 2 [(0,1),(1,1)],.no,.no,.sl 38 3,.it .i64,.no,.no,
 .no,.no,.no,.no,.sl 74 1,.st 3 [(0,1),(1,1),(2,1)],.st 3 [(0,1),(1,1),(2,1)],.no,
 .no,.no,.st 2 [(0,1),(1,1)],.st 2 [(0,1),(1,1)],.no,.no,.no,.no,
 .no,.sl 3 1,.no,.no,.sl 4 1,.sl 80 5,.st 2 [(0,1),(1,1)],.st 2 [(0,1),(1,1)],
 .no,.no,.no,.no,.no,.no,.no,.no,
 .st 7 [(0,1),(1,3),(4,1),(5,1),(6,1)],.st 7 [(0,1),(1,3),(4,1),(5,1),(6,1)],.no,.no,.no,.no,.no,.no,
 .no,.it .u64,.it .u32,.no,.no,.no,.no,.st 5 [(0,1),(1,1),(2,3)],
 .st 5 [(0,1),(1,1),(2,3)],.no,.no,.no,.sl 28 1,.st 2 [(0,1),(1,1)],.st 2 [(0,1),(1,1)],.no,
 .no,.no,.no,.no,.no,.no,.no,.no,
 .no,.no,.sl 74 1,.st 3 [(0,1),(1,1),(2,1)],.st 3 [(0,1),(1,1),(2,1)],.no,.no,.no,
 .no,.no,.no,.no,.no,.no,.no,.no,
 .no,.no,.ce,.no,.no,.sl 121 3,.no,.ce,
 .st 3 [(0,1),(1,1),(2,1)],.st 3 [(0,1),(1,1),(2,1)],.no,.no,.no,.sl 117 1,.st 9 [(0,1),(1,1),(2,1),(3,1),(4,1),(5,1),(6,1),(7,1),(8,1)],.st 9 [(0,1),(1,1),(2,1),(3,1),(4,1),(5,1),(6,1),(7,1),(8,1)],
 .no,.no,.no,.no,.ce,.sl 136 1,.st 3 [(0,1),(1,1),(2,1)],.st 3 [(0,1),(1,1),(2,1)],
 .sl 138 2,.st 2 [(0,1),(1,1)],.st 2 [(0,1),(1,1)],.no,.no,.no,.no,.no,
 .no,.no,.no,.no,.no,.it .u64,.no,.no,
 .no,.no,.no,.no,.no,.no,.no,.no,
 .no,.no,.no,.no,.no,.no,.no,.it .i64,
 .no,.no,.no,.no,.no,.no,.no,.no,
 .no,.no,.no,.no,.no,.no,.no,.it .u64,
 .no,.no,.no,.ce,.no,.no,.no,.no,
 .no,.no,.no,.ce,.no,.no,.no,.st 4 [(0,1),(1,1),(2,1),(3,1)],
 .no,.no,.no,.no,.it .u8,.it .u8,.no,.ce,
 .it .i32,.it .i32,.st 11 [(0,1),(1,1),(2,1),(3,1),(4,1),(5,1),(6,1),(7,1),(8,1),(9,1),(10,1)]]
def FN(P:Program):Nat→Tb→Prop
 | _,[]=>True
 | k,x::r=>cB P k x∧FN P (k+1) r
theorem FN.out{P:Program}:∀(r:Tb)(k:Nat),FN P k r→∀(t:Nat)(x:Ti),r[t]? = some x→cB P (k+t) x:=by
 intro r
 induction r with
 | nil=>intro k _ t x h;simp at h
 | cons y r ih=>
  intro k h t x hx
  cases t with
  | zero=>simp only[List.getElem?_cons_zero,Option.some.injEq]at hx;subst hx;exact h.1
  | succ t=>have:=ih (k+1) h.2 t x (by simpa using hx);rwa [show k+(t+1)=k+1+t by omega]
theorem qp{P:Program}{t e sz:Nat}(hu:P.underlying t=some (.slice e))(h:(P.info? e).map (·.size)=some sz):cB P t (.sl e sz):=by
 refine⟨hu,?_⟩
 cases hi:P.info? e with
 | none=>rw[hi]at h;cases h
 | some i=>rw[hi]at h;exact⟨i,rfl,by simpa using h⟩
theorem nH{P:Program}{t:Nat}{k:IntKind}(hu:P.underlying t=some (.int k)):cB P t (.it k):=hu
theorem vp{P:Program}{t:Nat}{d:TypeDesc}(hu:P.underlying t=some d)(h:(match d with | .struct _ | .array .. =>false | _=>true)=true):cB P t .ce:=
 ⟨d,hu,(fun _ e=>by subst e;cases h),(fun _ _ e=>by subst e;cases h)⟩
def J2(P:Program)(fs:List Field)(ps:List (Nat×Nat)):Bool:=
 match fs,ps with
 | [],[]=>true
 | f::fs,p::ps=>Nat.beq f.offset p.1&&(match P.info? f.type with | some j=>Nat.beq j.size p.2 | none=>false) && !Nat.beq p.2 0&&J2 P fs ps
 | _,_=>false
theorem adq{P:Program}:∀(fs:List Field)(ps:List (Nat×Nat)),J2 P fs ps=true→fs.length=ps.length∧∀(f:Nat)(p:Nat×Nat),ps[f]? = some p→∃fd j,fs[f]? = some fd∧fd.offset=p.1∧P.info? fd.type=some j∧j.size=p.2∧p.2≠0:=by
 intro fs
 induction fs with
 | nil=>intro ps h;cases ps with
  | nil=>exact⟨rfl,fun f p hp=>by simp at hp⟩
  | cons p ps=>cases h
 | cons fd fs ih=>intro ps h;cases ps with
  | nil=>cases h
  | cons p ps=>
   simp only[J2,Bool.and_eq_true]at h
   obtain⟨⟨⟨h1,h2⟩,h3⟩,h4⟩:=h
   obtain⟨h5,h6⟩:=ih ps h4
   refine⟨by simp[h5],fun f q hq=> ?_⟩
   cases f with
   | zero=>
    simp only[List.getElem?_cons_zero,Option.some.injEq]at hq
    subst hq
    cases hj:P.info? fd.type with
    | none=>rw[hj]at h2;cases h2
    | some j=>
     rw[hj]at h2
     exact⟨fd,j,rfl,Nat.eq_of_beq_eq_true h1,hj,Nat.eq_of_beq_eq_true h2,fun e=>by rw[e]at h3;cases h3⟩
   | succ f=>obtain⟨fd',j,h7⟩:=h6 f q (by simpa using hq);exact⟨fd',j,by simpa using h7⟩
theorem iH{P:Program}{t n:Nat}{fs:List Field}{ps:List (Nat×Nat)}(hu:P.underlying t=some (.struct fs.toArray))(h:(P.info? t).map (·.size)=some n)(hf:J2 P fs ps=true):cB P t (.st n ps):=by
 cases hi:P.info? t with
 | none=>rw[hi]at h;cases h
 | some i=>
  obtain⟨h1,h2⟩:=adq fs ps hf
  rw[hi]at h
  exact⟨fs.toArray,i,hu,hi,by simpa using h,by simpa using h1,fun f p hp=>by obtain⟨fd,j,h3⟩:=h2 f p hp;exact⟨fd,j,by simpa using h3⟩⟩
theorem jB{P:Program}{e sz bytes:Nat}{z:Value}(h:(P.info? e).map (fun i=>(i.zero,i.size,i.bytes))=some (some z,sz,bytes))(hz:z.cells.size=sz)(hp:0<sz):fH P e sz z bytes:=by
 cases hi:P.info? e with
 | none=>rw[hi]at h;cases h
 | some i=>
  rw[hi]at h
  simp only[Option.map_some,Option.some.injEq,Prod.mk.injEq]at h
  exact⟨i,hi,h.1,h.2.1,h.2.2,hz,hp⟩
theorem ti2:cB Tryz.prog 2 (.it .i64):=nH Tryz.underlying2
theorem ti3:cB Tryz.prog 3 (.it .i64):=nH Tryz.underlying3
theorem ti4:cB Tryz.prog 4 (.ce):=vp Tryz.underlying4 rfl
theorem ti5:cB Tryz.prog 5 (.it .u8):=nH Tryz.underlying5
theorem U1:cB Tryz.prog 6 (.it .u8):=nH Tryz.underlying6
theorem ti7:cB Tryz.prog 7 (.st 4 [(0,1),(1,1),(2,1),(3,1)]):=iH Tryz.underlying7 (by kernel_rfl) (by kernel_rfl)
theorem adr:cB Tryz.prog 12 (.it .u64):=nH Tryz.underlying12
theorem ads:cB Tryz.prog 13 (.st 2 [(0,1),(1,1)]):=iH Tryz.underlying13 (by kernel_rfl) (by kernel_rfl)
theorem adt:cB Tryz.prog 15 (.ce):=vp Tryz.underlying15 rfl
theorem adu:cB Tryz.prog 16 (.ce):=vp Tryz.underlying16 rfl
theorem adv:cB Tryz.prog 17 (.ce):=vp Tryz.underlying17 rfl
theorem adw:cB Tryz.prog 18 (.st 1 [(0,1)]):=iH Tryz.underlying18 (by kernel_rfl) (by kernel_rfl)
theorem N9:cB Tryz.prog 21 (.it .i32):=nH Tryz.underlying21
theorem adx:cB Tryz.prog 22 (.sl 25 2):=qp Tryz.underlying22 (by kernel_rfl)
theorem U2:cB Tryz.prog 23 (.sl 43 2):=qp Tryz.underlying23 (by kernel_rfl)
theorem ady:cB Tryz.prog 24 (.st 2 [(0,1),(1,1)]):=iH Tryz.underlying24 (by kernel_rfl) (by kernel_rfl)
theorem adz:cB Tryz.prog 25 (.st 2 [(0,1),(1,1)]):=iH Tryz.underlying25 (by kernel_rfl) (by kernel_rfl)
theorem Oa:cB Tryz.prog 28 (.sl 38 3):=qp Tryz.underlying28 (by kernel_rfl)
theorem J3:cB Tryz.prog 29 (.it .i64):=nH Tryz.underlying29
theorem adA:cB Tryz.prog 36 (.sl 74 1):=qp Tryz.underlying36 (by kernel_rfl)
theorem adB:cB Tryz.prog 37 (.st 3 [(0,1),(1,1),(2,1)]):=iH Tryz.underlying37 (by kernel_rfl) (by kernel_rfl)
theorem adC:cB Tryz.prog 38 (.st 3 [(0,1),(1,1),(2,1)]):=iH Tryz.underlying38 (by kernel_rfl) (by kernel_rfl)
theorem adD:cB Tryz.prog 42 (.st 2 [(0,1),(1,1)]):=iH Tryz.underlying42 (by kernel_rfl) (by kernel_rfl)
theorem adE:cB Tryz.prog 43 (.st 2 [(0,1),(1,1)]):=iH Tryz.underlying43 (by kernel_rfl) (by kernel_rfl)
theorem adF:cB Tryz.prog 49 (.sl 3 1):=qp Tryz.underlying49 (by kernel_rfl)
theorem adG:cB Tryz.prog 52 (.sl 4 1):=qp Tryz.underlying52 (by kernel_rfl)
theorem adH:cB Tryz.prog 53 (.sl 80 5):=qp Tryz.underlying53 (by kernel_rfl)
theorem adI:cB Tryz.prog 54 (.st 2 [(0,1),(1,1)]):=iH Tryz.underlying54 (by kernel_rfl) (by kernel_rfl)
theorem adJ:cB Tryz.prog 55 (.st 2 [(0,1),(1,1)]):=iH Tryz.underlying55 (by kernel_rfl) (by kernel_rfl)
theorem adK:cB Tryz.prog 64 (.st 7 [(0,1),(1,3),(4,1),(5,1),(6,1)]):=iH Tryz.underlying64 (by kernel_rfl) (by kernel_rfl)
theorem adL:cB Tryz.prog 65 (.st 7 [(0,1),(1,3),(4,1),(5,1),(6,1)]):=iH Tryz.underlying65 (by kernel_rfl) (by kernel_rfl)
theorem adM:cB Tryz.prog 73 (.it .u64):=nH Tryz.underlying73
theorem adN:cB Tryz.prog 74 (.it .u32):=nH Tryz.underlying74
theorem adO:cB Tryz.prog 79 (.st 5 [(0,1),(1,1),(2,3)]):=iH Tryz.underlying79 (by kernel_rfl) (by kernel_rfl)
theorem adP:cB Tryz.prog 80 (.st 5 [(0,1),(1,1),(2,3)]):=iH Tryz.underlying80 (by kernel_rfl) (by kernel_rfl)
theorem adQ:cB Tryz.prog 84 (.sl 28 1):=qp Tryz.underlying84 (by kernel_rfl)
theorem adR:cB Tryz.prog 85 (.st 2 [(0,1),(1,1)]):=iH Tryz.underlying85 (by kernel_rfl) (by kernel_rfl)
theorem adS:cB Tryz.prog 86 (.st 2 [(0,1),(1,1)]):=iH Tryz.underlying86 (by kernel_rfl) (by kernel_rfl)
theorem adT:cB Tryz.prog 98 (.sl 74 1):=qp Tryz.underlying98 (by kernel_rfl)
theorem adU:cB Tryz.prog 99 (.st 3 [(0,1),(1,1),(2,1)]):=iH Tryz.underlying99 (by kernel_rfl) (by kernel_rfl)
theorem adV:cB Tryz.prog 100 (.st 3 [(0,1),(1,1),(2,1)]):=iH Tryz.underlying100 (by kernel_rfl) (by kernel_rfl)
theorem adW:cB Tryz.prog 114 (.ce):=vp Tryz.underlying114 rfl
theorem adX:cB Tryz.prog 117 (.sl 121 3):=qp Tryz.underlying117 (by kernel_rfl)
theorem adY:cB Tryz.prog 119 (.ce):=vp Tryz.underlying119 rfl
theorem adZ:cB Tryz.prog 120 (.st 3 [(0,1),(1,1),(2,1)]):=iH Tryz.underlying120 (by kernel_rfl) (by kernel_rfl)
theorem ad0:cB Tryz.prog 121 (.st 3 [(0,1),(1,1),(2,1)]):=iH Tryz.underlying121 (by kernel_rfl) (by kernel_rfl)
theorem ad1:cB Tryz.prog 125 (.sl 117 1):=qp Tryz.underlying125 (by kernel_rfl)
theorem ad2:cB Tryz.prog 126 (.st 9 [(0,1),(1,1),(2,1),(3,1),(4,1),(5,1),(6,1),(7,1),(8,1)]):=iH Tryz.underlying126 (by kernel_rfl) (by kernel_rfl)
theorem ad3:cB Tryz.prog 127 (.st 9 [(0,1),(1,1),(2,1),(3,1),(4,1),(5,1),(6,1),(7,1),(8,1)]):=iH Tryz.underlying127 (by kernel_rfl) (by kernel_rfl)
theorem ad4:cB Tryz.prog 132 (.ce):=vp Tryz.underlying132 rfl
theorem ad5:cB Tryz.prog 133 (.sl 136 1):=qp Tryz.underlying133 (by kernel_rfl)
theorem ad6:cB Tryz.prog 134 (.st 3 [(0,1),(1,1),(2,1)]):=iH Tryz.underlying134 (by kernel_rfl) (by kernel_rfl)
theorem ad7:cB Tryz.prog 135 (.st 3 [(0,1),(1,1),(2,1)]):=iH Tryz.underlying135 (by kernel_rfl) (by kernel_rfl)
theorem ad8:cB Tryz.prog 136 (.sl 138 2):=qp Tryz.underlying136 (by kernel_rfl)
theorem aea:cB Tryz.prog 137 (.st 2 [(0,1),(1,1)]):=iH Tryz.underlying137 (by kernel_rfl) (by kernel_rfl)
theorem aeb:cB Tryz.prog 138 (.st 2 [(0,1),(1,1)]):=iH Tryz.underlying138 (by kernel_rfl) (by kernel_rfl)
theorem aec:cB Tryz.prog 149 (.it .u64):=nH Tryz.underlying149
theorem aed:cB Tryz.prog 167 (.it .i64):=nH Tryz.underlying167
theorem aee:cB Tryz.prog 183 (.it .u64):=nH Tryz.underlying183
theorem aef:cB Tryz.prog 187 (.ce):=vp Tryz.underlying187 rfl
theorem aeg:cB Tryz.prog 195 (.ce):=vp Tryz.underlying195 rfl
theorem aeh:cB Tryz.prog 199 (.st 4 [(0,1),(1,1),(2,1),(3,1)]):=iH Tryz.underlying199 (by kernel_rfl) (by kernel_rfl)
theorem aei:cB Tryz.prog 204 (.it .u8):=nH Tryz.underlying204
theorem aej:cB Tryz.prog 205 (.it .u8):=nH Tryz.underlying205
theorem aek:cB Tryz.prog 207 (.ce):=vp Tryz.underlying207 rfl
theorem ael:cB Tryz.prog 208 (.it .i32):=nH Tryz.underlying208
theorem aem:cB Tryz.prog 209 (.it .i32):=nH Tryz.underlying209
theorem aen:cB Tryz.prog 210 (.st 11 [(0,1),(1,1),(2,1),(3,1),(4,1),(5,1),(6,1),(7,1),(8,1),(9,1),(10,1)]):=iH Tryz.underlying210 (by kernel_rfl) (by kernel_rfl)
set_option maxRecDepth 10000 in
theorem aeo:FN Tryz.prog 0 tb:=⟨trivial,trivial,ti2,ti3,ti4,ti5,U1,ti7,trivial,trivial,trivial,trivial,adr,ads,trivial,adt,adu,adv,adw,trivial,trivial,N9,adx,U2,ady,adz,trivial,trivial,Oa,J3,trivial,trivial,trivial,trivial,trivial,trivial,adA,adB,adC,trivial,trivial,trivial,adD,adE,trivial,trivial,trivial,trivial,trivial,adF,trivial,trivial,adG,adH,adI,adJ,trivial,trivial,trivial,trivial,trivial,trivial,trivial,trivial,adK,adL,trivial,trivial,trivial,trivial,trivial,trivial,trivial,adM,adN,trivial,trivial,trivial,trivial,adO,adP,trivial,trivial,trivial,adQ,adR,adS,trivial,trivial,trivial,trivial,trivial,trivial,trivial,trivial,trivial,trivial,trivial,adT,adU,adV,trivial,trivial,trivial,trivial,trivial,trivial,trivial,trivial,trivial,trivial,trivial,trivial,trivial,adW,trivial,trivial,adX,trivial,adY,adZ,ad0,trivial,trivial,trivial,ad1,ad2,ad3,trivial,trivial,trivial,trivial,ad4,ad5,ad6,ad7,ad8,aea,aeb,trivial,trivial,trivial,trivial,trivial,trivial,trivial,trivial,trivial,trivial,aec,trivial,trivial,trivial,trivial,trivial,trivial,trivial,trivial,trivial,trivial,trivial,trivial,trivial,trivial,trivial,trivial,trivial,aed,trivial,trivial,trivial,trivial,trivial,trivial,trivial,trivial,trivial,trivial,trivial,trivial,trivial,trivial,trivial,aee,trivial,trivial,trivial,aef,trivial,trivial,trivial,trivial,trivial,trivial,trivial,aeg,trivial,trivial,trivial,aeh,trivial,trivial,trivial,trivial,aei,aej,trivial,aek,ael,aem,aen,trivial⟩
theorem ag:j0 Tryz.prog tb:=fun t x h=>by have:=FN.out tb 0 aeo t x h;rwa [Nat.zero_add]at this
theorem follows:Tryz.prog.follows .mixedOrders=true:=by kernel_rfl
theorem el2:fH Tryz.prog 2 1 (.int .i64 0) 8:=jB (by kernel_rfl) rfl (by decide)
theorem qq:∃i,Tryz.prog.info? 2=some i∧i.size=1:=by obtain⟨i,h,_,h2,_⟩:=el2;exact⟨i,h,h2⟩
theorem fE:fH Tryz.prog 3 1 (.int .i64 0) 8:=jB (by kernel_rfl) rfl (by decide)
theorem vq:∃i,Tryz.prog.info? 3=some i∧i.size=1:=by obtain⟨i,h,_,h2,_⟩:=fE;exact⟨i,h,h2⟩
theorem Ob:fH Tryz.prog 4 1 (.bool false) 1:=jB (by kernel_rfl) rfl (by decide)
theorem FO:∃i,Tryz.prog.info? 4=some i∧i.size=1:=by obtain⟨i,h,_,h2,_⟩:=Ob;exact⟨i,h,h2⟩
theorem im:fH Tryz.prog 25 2 (.agg #[.int .i64 0,.slice none 0 0]) 32:=jB (by kernel_rfl) rfl (by decide)
theorem AJ:∃i,Tryz.prog.info? 25=some i∧i.size=2:=by obtain⟨i,h,_,h2,_⟩:=im;exact⟨i,h,h2⟩
theorem AK:fH Tryz.prog 28 1 (.slice none 0 0) 24:=jB (by kernel_rfl) rfl (by decide)
theorem Oc:∃i,Tryz.prog.info? 28=some i∧i.size=1:=by obtain⟨i,h,_,h2,_⟩:=AK;exact⟨i,h,h2⟩
theorem cj:fH Tryz.prog 38 3 (.agg #[.bool false,.slice none 0 0,.slice none 0 0]) 56:=jB (by kernel_rfl) rfl (by decide)
theorem aX:∃i,Tryz.prog.info? 38=some i∧i.size=3:=by obtain⟨i,h,_,h2,_⟩:=cj;exact⟨i,h,h2⟩
theorem rT:fH Tryz.prog 43 2 (.agg #[.int .i64 0,.int .i64 0]) 16:=jB (by kernel_rfl) rfl (by decide)
theorem J4:∃i,Tryz.prog.info? 43=some i∧i.size=2:=by obtain⟨i,h,_,h2,_⟩:=rT;exact⟨i,h,h2⟩
theorem aep:fH Tryz.prog 49 1 (.slice none 0 0) 24:=jB (by kernel_rfl) rfl (by decide)
theorem vt:∃i,Tryz.prog.info? 49=some i∧i.size=1:=by obtain⟨i,h,_,h2,_⟩:=aep;exact⟨i,h,h2⟩
theorem aeq:fH Tryz.prog 53 1 (.slice none 0 0) 24:=jB (by kernel_rfl) rfl (by decide)
theorem U3:∃i,Tryz.prog.info? 53=some i∧i.size=1:=by obtain⟨i,h,_,h2,_⟩:=aeq;exact⟨i,h,h2⟩
theorem yB:fH Tryz.prog 55 2 (.agg #[.slice none 0 0,.slice none 0 0]) 48:=jB (by kernel_rfl) rfl (by decide)
theorem C4:∃i,Tryz.prog.info? 55=some i∧i.size=2:=by obtain⟨i,h,_,h2,_⟩:=yB;exact⟨i,h,h2⟩
theorem yC:fH Tryz.prog 65 7 (.agg #[.int .i64 0,.bool false,.slice none 0 0,.slice none 0 0,.slice none 0 0,.slice none 0 0,.slice none 0 0]) 136:=jB (by kernel_rfl) rfl (by decide)
theorem tG:∃i,Tryz.prog.info? 65=some i∧i.size=7:=by obtain⟨i,h,_,h2,_⟩:=yC;exact⟨i,h,h2⟩
theorem eL:fH Tryz.prog 74 1 (.int .u32 0) 4:=jB (by kernel_rfl) rfl (by decide)
theorem oz:∃i,Tryz.prog.info? 74=some i∧i.size=1:=by obtain⟨i,h,_,h2,_⟩:=eL;exact⟨i,h,h2⟩
theorem kU:fH Tryz.prog 80 5 (.agg #[.slice none 0 0,.int .i64 0,.bool false,.slice none 0 0,.slice none 0 0]) 88:=jB (by kernel_rfl) rfl (by decide)
theorem oA:∃i,Tryz.prog.info? 80=some i∧i.size=5:=by obtain⟨i,h,_,h2,_⟩:=kU;exact⟨i,h,h2⟩
theorem aer:fH Tryz.prog 84 1 (.slice none 0 0) 24:=jB (by kernel_rfl) rfl (by decide)
theorem J5:∃i,Tryz.prog.info? 84=some i∧i.size=1:=by obtain⟨i,h,_,h2,_⟩:=aer;exact⟨i,h,h2⟩
theorem J6:fH Tryz.prog 86 2 (.agg #[.slice none 0 0,.slice none 0 0]) 48:=jB (by kernel_rfl) rfl (by decide)
theorem Od:∃i,Tryz.prog.info? 86=some i∧i.size=2:=by obtain⟨i,h,_,h2,_⟩:=J6;exact⟨i,h,h2⟩
theorem j5:fH Tryz.prog 100 3 (.agg #[.bool false,.slice none 0 0,.slice none 0 0]) 56:=jB (by kernel_rfl) rfl (by decide)
theorem jc:∃i,Tryz.prog.info? 100=some i∧i.size=3:=by obtain⟨i,h,_,h2,_⟩:=j5;exact⟨i,h,h2⟩
theorem U4:fH Tryz.prog 114 1 (.pointer none) 8:=jB (by kernel_rfl) rfl (by decide)
theorem aes:∃i,Tryz.prog.info? 114=some i∧i.size=1:=by obtain⟨i,h,_,h2,_⟩:=U4;exact⟨i,h,h2⟩
theorem Oe:fH Tryz.prog 117 1 (.slice none 0 0) 24:=jB (by kernel_rfl) rfl (by decide)
theorem FP:∃i,Tryz.prog.info? 117=some i∧i.size=1:=by obtain⟨i,h,_,h2,_⟩:=Oe;exact⟨i,h,h2⟩
theorem fh:fH Tryz.prog 121 3 (.agg #[.int .i64 0,.int .i64 0,.pointer none]) 24:=jB (by kernel_rfl) rfl (by decide)
theorem cL:∃i,Tryz.prog.info? 121=some i∧i.size=3:=by obtain⟨i,h,_,h2,_⟩:=fh;exact⟨i,h,h2⟩
theorem aet:fH Tryz.prog 125 1 (.slice none 0 0) 24:=jB (by kernel_rfl) rfl (by decide)
theorem aeu:∃i,Tryz.prog.info? 125=some i∧i.size=1:=by obtain⟨i,h,_,h2,_⟩:=aet;exact⟨i,h,h2⟩
theorem aev:fH Tryz.prog 127 9 (.agg #[.int .i64 0,.int .i64 0,.slice none 0 0,.slice none 0 0,.slice none 0 0,.slice none 0 0,.slice none 0 0,.slice none 0 0,.slice none 0 0]) 184:=jB (by kernel_rfl) rfl (by decide)
theorem aew:fH Tryz.prog 133 1 (.slice none 0 0) 24:=jB (by kernel_rfl) rfl (by decide)
theorem J7:∃i,Tryz.prog.info? 133=some i∧i.size=1:=by obtain⟨i,h,_,h2,_⟩:=aew;exact⟨i,h,h2⟩
theorem aex:fH Tryz.prog 135 3 (.agg #[.slice none 0 0,.slice none 0 0,.bool false]) 56:=jB (by kernel_rfl) rfl (by decide)
theorem C5:fH Tryz.prog 136 1 (.slice none 0 0) 24:=jB (by kernel_rfl) rfl (by decide)
theorem fQ:fH Tryz.prog 138 2 (.agg #[.int .i64 0,.int .i64 0]) 16:=jB (by kernel_rfl) rfl (by decide)
theorem eF:∃i,Tryz.prog.info? 138=some i∧i.size=2:=by obtain⟨i,h,_,h2,_⟩:=fQ;exact⟨i,h,h2⟩
end Go.aq
namespace Num
def B:Nat:=1000000000
theorem mU:0<B:=by decide
theorem ck:B=1000000000:=rfl
def val:List Nat→Nat
 | []=>0
 | x::xs=>x+B*val xs
theorem jC(x:Nat)(xs:List Nat):val (x::xs)=x+B*val xs:=rfl
theorem U5(xs ys:List Nat):val (xs++ys)=val xs+B^xs.length*val ys:=by
 induction xs with
 | nil=>simp[val]
 | cons x xs ih=>rw[List.cons_append,jC,jC,ih,List.length_cons,Nat.pow_succ];grind
theorem rU(xs:List Nat)(y:Nat):val (xs ++ [y])=val xs+B^xs.length*y:=by
 rw[U5];simp[val]
def Lt(l:List Nat):Prop:=∀x,x∈l→x<B
theorem Lt.nil:Lt []:=fun x h=>by cases h
theorem Lt.append{a b:List Nat}(ha:Lt a)(hb:Lt b):Lt (a++b):=fun x h=>by
 rcases List.mem_append.1 h with h | h
 ·exact ha x h
 ·exact hb x h
theorem Lt.snoc{a:List Nat}{y:Nat}(ha:Lt a)(hy:y<B):Lt (a ++ [y]):=ha.append (fun x h=>by simp at h;omega)
theorem Lt.take{a:List Nat}(ha:Lt a)(k:Nat):Lt (a.take k):=fun x h=>ha x (List.mem_of_mem_take h)
theorem Lt.drop{a:List Nat}(ha:Lt a)(k:Nat):Lt (a.drop k):=fun x h=>ha x (List.mem_of_mem_drop h)
theorem Lt.get{a:List Nat}(ha:Lt a){i y:Nat}(h:a[i]? = some y):y<B:=ha y (List.mem_of_getElem? h)
theorem vu{l:List Nat}(h:Lt l):val l<B^l.length:=by
 induction l with
 | nil=>simp[val]
 | cons x l ih=>
  have h1:=h x (List.mem_cons_self ..)
  have h2:=ih (fun y hy=>h y (List.mem_cons_of_mem _ hy))
  rw[jC,List.length_cons,Nat.pow_succ]
  have h3:B*(val l+1)≤B*B^l.length:=Nat.mul_le_mul_left _ h2
  rw[Nat.mul_add,Nat.mul_one]at h3
  rw[Nat.mul_comm (B^l.length)];omega
theorem kV{l:List Nat}{i x:Nat}(h:l[i]? = some x):val (l.take (i+1))=val (l.take i)+B^i*x:=by
 have hi:i<l.length:=(List.getElem?_eq_some_iff.1 h).1
 have hx:l[i]=x:=(List.getElem?_eq_some_iff.1 h).2
 rw[List.take_succ_eq_append_getElem hi,hx,rU,List.length_take,Nat.min_eq_left (by omega)]
structure rV(l:List Nat):Prop where
 lt:Lt l
 last:∀x,l.getLast?=some x→x≠0
theorem rV.nil:rV []:=⟨Lt.nil,fun x h=>by simp at h⟩
def yD:Nat→Nat→List Nat
 | 0,_=>[]
 | f+1,n=>if n=0 then []else(n%B)::yD f (n/B)
def al(n:Nat):List Nat:=yD n n
theorem aey(f:Nat):∀g n,n≤f→n≤g→yD f n=yD g n:=by
 induction f with
 | zero=>intro g n h _;obtain rfl:n=0:=by omega
         cases g <;> simp[yD]
 | succ f ih=>
  intro g n h hg
  cases g with
  | zero=>obtain rfl:n=0:=by omega
          simp[yD]
  | succ g=>
   simp only[yD]
   split
   ·rfl
   ·rename_i hn
    have:n/B<n:=Nat.div_lt_self (by omega) (by decide)
    rw[ih g (n/B) (by omega) (by omega)]
theorem qt:al 0 = []:=rfl
theorem yE{n:Nat}(h:0<n):al n=(n%B)::al (n/B):=by
 unfold al
 obtain⟨m,rfl⟩:∃m,n=m+1:=⟨n-1,by omega⟩
 rw[yD,if_neg (by omega)]
 have:(m+1)/B<m+1:=Nat.div_lt_self (by omega) (by decide)
 rw[aey m ((m+1)/B) ((m+1)/B) (by omega) (Nat.le_refl _)]
theorem cU(n:Nat):val (al n)=n:=by
 induction n using Nat.strongRecOn with
 | _ n ih=>
  rcases Nat.eq_zero_or_pos n with h | h
  ·subst h;rfl
  ·rw[yE h,jC,ih (n/B) (Nat.div_lt_self h (by decide))]
   exact Nat.mod_add_div n B
theorem U6{n:Nat}(h:0<n):al n≠[]:=by rw[yE h];simp
theorem fR(n:Nat):rV (al n):=by
 induction n using Nat.strongRecOn with
 | _ n ih=>
  rcases Nat.eq_zero_or_pos n with h | h
  ·subst h;exact rV.nil
  ·have vw:=ih (n/B) (Nat.div_lt_self h (by decide))
   rw[yE h]
   refine⟨fun x hx=> ?_,fun x hx=> ?_⟩
   ·rcases List.mem_cons.1 hx with e | e
    ·rw[e];exact Nat.mod_lt _ mU
    ·exact vw.lt x e
   ·rcases Nat.eq_zero_or_pos (n/B)with h0 | h0
    ·rw[h0,qt]at hx
     simp at hx
     have:=Nat.mod_add_div n B
     rw[h0]at this
     omega
    ·cases hl:al (n/B)with
     | nil=>exact absurd hl (U6 h0)
     | cons y ys=>
      rw[hl,List.getLast?_cons_cons,←hl]at hx
      exact vw.last x hx
theorem rV.pos{l:List Nat}(h:rV l)(hl:l≠[]):B^(l.length-1)≤val l:=by
 have e:l=l.dropLast ++ [l.getLast hl]:=(List.dropLast_concat_getLast hl).symm
 have hx:=h.last (l.getLast hl) (List.getLast?_eq_some_getLast hl)
 rw[e,rU]
 simp only[List.length_append,List.length_dropLast,List.length_singleton]
 have:B^(l.length-1)*1≤B^(l.length-1)*l.getLast hl:=Nat.mul_le_mul_left _ (by omega)
 rw[Nat.mul_one]at this
 have e2:l.length-1+1-1=l.length-1:=by omega
 rw[e2];omega
theorem aez{l:List Nat}(h:Lt l)(hp:l = []∨B^(l.length-1)≤val l):rV l:=by
 refine⟨h,fun x hx h0=> ?_⟩
 subst h0
 have hl:l≠[]:=fun e=>by subst e;simp at hx
 rcases hp with e | hp
 ·exact hl e
 ·have e:l=l.dropLast ++ [0]:=by
   have:=(List.dropLast_concat_getLast hl).symm
   rw[List.getLast?_eq_some_getLast hl]at hx
   simp only[Option.some.injEq]at hx
   rw[hx]at this
   exact this
  have hv:val l=val l.dropLast:=by
   have:=rU l.dropLast 0
   rw[←e,Nat.mul_zero]at this;omega
  have bP:=vu (l:=l.dropLast) (fun x hx=>h x ((List.dropLast_sublist l).subset hx))
  rw[List.length_dropLast]at bP
  omega
theorem U8{l:List Nat}(h:rV l):al (val l)=l:=by
 induction l with
 | nil=>rfl
 | cons x l ih=>
  have hx:x<B:=h.lt x (List.mem_cons_self ..)
  have hp:0<val (x::l):=by
   have:=h.pos (by simp)
   have h2:0<B^((x::l).length-1):=Nat.pow_pos mU
   omega
  rw[yE hp,jC]
  have h1:(x+B*val l)%B=x:=by rw[Nat.add_mul_mod_self_left];exact Nat.mod_eq_of_lt hx
  have h2:(x+B*val l)/B=val l:=by rw[Nat.add_mul_div_left _ _ mU,Nat.div_eq_of_lt hx,Nat.zero_add]
  rw[h1,h2]
  rw[ih ⟨fun y hy=>h.lt y (List.mem_cons_of_mem _ hy),fun y hy=>h.last y (by
   cases l with
   | nil=>simp at hy
   | cons z zs=>rw[List.getLast?_cons_cons];exact hy)⟩]
theorem aeA{l:List Nat}{n:Nat}(h:rV l)(hv:val l=n):l=al n:=by rw[←hv,U8 h]
theorem C6(n:Nat):n<B^(al n).length:=by
 have:=vu (fR n).lt
 rwa [cU]at this
theorem jd{n k:Nat}:(al n).length≤k↔n<B^k:=by
 constructor
 ·intro h
  exact Nat.lt_of_lt_of_le (C6 n) (Nat.pow_le_pow_right mU h)
 ·intro h
  rcases Nat.eq_zero_or_pos n with h0 | h0
  ·subst h0;simp[qt]
  ·have hp:=(fR n).pos (U6 h0)
   rw[cU]at hp
   have:(al n).length-1<k:=(Nat.pow_lt_pow_iff_right (by decide:1<B)).1 (Nat.lt_of_le_of_lt hp h)
   omega
theorem ml{m n:Nat}(h:m≤n):(al m).length≤(al n).length:=jd.2 (Nat.lt_of_le_of_lt h (C6 n))
theorem aeB{n:Nat}:al n = []↔n=0:=by
 constructor
 ·intro h
  have:=cU n
  rw[h]at this;exact this.symm
 ·intro h;subst h;rfl
theorem jO{n:Nat}:(al n).length=0↔n=0:=by rw[List.length_eq_zero_iff,aeB]
end Num
namespace Num
theorem J8{a:List Nat}{i p:Nat}(h:a[i]? = some p):val a=val (a.take i)+B^i*(p+B*val (a.drop (i+1))):=by
 have hi:=(List.getElem?_eq_some_iff.1 h).1
 have hp:=(List.getElem?_eq_some_iff.1 h).2
 have e:a=a.take i++a.drop i:=(List.take_append_drop i a).symm
 have e2:a.drop i=p::a.drop (i+1):=by rw[List.drop_eq_getElem_cons hi,hp]
 conv=>lhs;rw[e,e2,U5,jC,List.length_take,Nat.min_eq_left (by omega)]
theorem J9{a b:List Nat}{i p q:Nat}(ha:Lt a)(h1:a[i]? = some p)(h2:b[i]? = some q)(hd:a.drop (i+1)=b.drop (i+1))(mV:p<q):val a<val b:=by
 rw[J8 h1,J8 h2,hd]
 have hi:=(List.getElem?_eq_some_iff.1 h1).1
 have h3:=vu (ha.take i)
 rw[List.length_take,Nat.min_eq_left (by omega)]at h3
 have h4:B^i*(p+1+B*val (b.drop (i+1)))≤B^i*(q+B*val (b.drop (i+1))):=Nat.mul_le_mul_left _ (by omega)
 rw[show p+1+B*val (b.drop (i+1))=p+B*val (b.drop (i+1))+1 by omega,Nat.mul_add,Nat.mul_one]at h4
 omega
def kz(x y:Nat):Int:=if x<y then -1 else if x=y then 0 else 1
theorem Ka{x y:Nat}(h:x<y):kz x y = -1:=by simp[kz,h]
theorem Kb{x y:Nat}(h:y<x):kz x y=1:=by simp[kz];omega
theorem U9(x:Nat):kz x x=0:=by simp[kz]
theorem Kc{x y:Nat}(h:(al x).length<(al y).length):x<y:=by
 rcases Nat.lt_or_ge x y with h1 | h1
 ·exact h1
 ·have:=ml h1;omega
theorem Va{a b:List Nat}{k p:Nat}(hk:0<k)(h1:a[k-1]? = some p)(h2:b[k-1]? = some p)(hd:a.drop k=b.drop k):a.drop (k-1)=b.drop (k-1):=by
 have e1:=List.drop_eq_getElem_cons (List.getElem?_eq_some_iff.1 h1).1
 have e2:=List.drop_eq_getElem_cons (List.getElem?_eq_some_iff.1 h2).1
 rw[(List.getElem?_eq_some_iff.1 h1).2,show k-1+1=k by omega]at e1
 rw[(List.getElem?_eq_some_iff.1 h2).2,show k-1+1=k by omega]at e2
 rw[e1,e2,hd]
end Num
namespace Num
theorem yF(l:List Nat)(k:Nat):val (l.take (k+1))=val (l.take k)+B^k*(l[k]?.getD 0):=by
 cases h:l[k]? with
 | some x=>simpa using kV h
 | none=>
  have:l.length≤k:=by simpa using h
  rw[List.take_of_length_le (by omega),List.take_of_length_le this];simp
theorem C7{o:List Nat}{k a b s t u:Nat}(ho:o.length=k)(h:val o+B^k*a=t)(hs:s=a+b)(hu:u=t+B^k*b):val (o ++ [s%B])+B^(k+1)*(s/B)=u:=by
 rw[rU,ho,Nat.pow_succ]
 have h1:B^k*s=B^k*(s%B)+B^k*(B*(s/B)):=by rw[←Nat.mul_add,Nat.mod_add_div]
 have h2:B^k*s=B^k*a+B^k*b:=by rw[hs,Nat.mul_add]
 rw[Nat.mul_assoc];omega
theorem last_pos{o:List Nat}{n:Nat}(h:Lt o)(ho:o.length=n)(hn:n=0∨B^(n-1)≤val o):rV o:=aez h (by
 rcases hn with e | e
 ·left;exact List.eq_nil_of_length_eq_zero (by omega)
 ·right;rw[ho];exact e)
end Num
namespace Num
theorem FQ{o:List Nat}{k br br' s d e ta tb ta' tb':Nat}(ho:o.length=k)(h:ta+B^k*br=val o+tb)(hs:s+br+e=d+B*br')(ha:ta'=ta+B^k*d)(hb:tb'=tb+B^k*e):
  ta'+B^(k+1)*br'=val (o ++ [s])+tb':=by
 rw[rU,ho,ha,hb,Nat.pow_succ,Nat.mul_assoc]
 have h1:B^k*(s+br+e)=B^k*(d+B*br'):=by rw[hs]
 simp only[Nat.mul_add]at h1
 omega
theorem Vb{l:List Nat}{t x y:Nat}(h:l[t]? = some x):val (l.set t y)+B^t*x=val l+B^t*y:=by
 induction l generalizing t with
 | nil=>simp at h
 | cons z l ih=>
  cases t with
  | zero=>simp at h;subst h;simp[val];omega
  | succ t=>
   simp only[List.getElem?_cons_succ]at h
   have:=ih h
   rw[List.set_cons_succ,jC,jC,Nat.pow_succ]
   have h2:B*(val (l.set t y)+B^t*x)=B*(val l+B^t*y):=by rw[this]
   simp only[Nat.mul_add]at h2
   have e1:B^t*B*x=B*(B^t*x):=by rw[Nat.mul_comm (B^t) B,Nat.mul_assoc]
   have e2:B^t*B*y=B*(B^t*y):=by rw[Nat.mul_comm (B^t) B,Nat.mul_assoc]
   omega
theorem Lt.set{l:List Nat}{t y:Nat}(h:Lt l)(hy:y<B):Lt (l.set t y):=fun x hx=>by
 rcases List.mem_or_eq_of_mem_set hx with h1 | h1
 ·exact h x h1
 ·omega
theorem Lt.replicate(n:Nat):Lt (List.replicate n 0):=fun x hx=>by
 have:=List.eq_of_mem_replicate hx
 rw[this];exact mU
theorem Vc(n:Nat):val (List.replicate n 0)=0:=by
 induction n with
 | zero=>rfl
 | succ n ih=>rw[List.replicate_succ,jC,ih,Nat.mul_zero]
theorem aeC{l:List Nat}{k y:Nat}(h:k<l.length):(l.set k y).take (k+1)=l.take k ++ [y]:=by
 rw[List.take_succ_eq_append_getElem (by simpa using h),List.getElem_set_self,List.take_set_of_le (Nat.le_refl _)]
theorem set_drop{l:List Nat}{k y:Nat}(h:k<l.length):(l.set k y).drop k=y::l.drop (k+1):=by
 rw[List.drop_eq_getElem_cons (by simpa using h),List.getElem_set_self,List.drop_set_of_lt (Nat.lt_succ_self _)]
theorem C8{l:List Nat}{k d:Nat}(h:l[k]? = some d):l.drop k=d::l.drop (k+1):=by
 rw[List.drop_eq_getElem_cons (List.getElem?_eq_some_iff.1 h).1,(List.getElem?_eq_some_iff.1 h).2]
end Num
namespace Go.aq
open Go.Proofs Num
theorem vr{n:Nat}{all:Array Oper}{s:St}{H:Heap}{md:Mode}{K:St→Heap→Prop}(k:Nat){l:List Oper}{s1:St}(hk:aT Tryz.prog n all md (l.drop k) s1 H K)(h:yr tb md all (l.take k) s=some s1:=by rfl):aT Tryz.prog n all md l s H K:=UO ag k h hk
theorem aa{n:Nat}{all:Array Oper}{s:St}{H:Heap}{md:Mode}{K:St→Heap→Prop}(k:Nat){l:List Oper}{s1:St}(h:yr tb md all (l.take k) s=some s1)(hk:aT Tryz.prog n all md (l.drop k) s1 H K):aT Tryz.prog n all md l s H K:=UO ag k h hk
theorem gi{a b:Int}(h:a=b):gF .eql a b=some true:=by subst h;simp[gF]
theorem jn{a b:Int}(h:a≠b):gF .eql a b=some false:=by simp[gF,h]
theorem vx{a b:Int}(h:a≠b):gF .neq a b=some true:=by simp[gF,h]
theorem wE{a b:Int}(h:a=b):gF .neq a b=some false:=by subst h;simp[gF]
theorem je{a b:Int}(h:a<b):gF .lss a b=some true:=by simp[gF,h]
theorem iq{a b:Int}(h:b≤a):gF .lss a b=some false:=by simp[gF,h]
theorem rW{a b:Int}(h:a≤b):gF .leq a b=some true:=by simp[gF,h]
theorem AL{a b:Int}(h:b<a):gF .leq a b=some false:=by simp[gF,h]
theorem oB{a b:Int}(h:b<a):gF .gtr a b=some true:=by simp[gF,h]
theorem kA{a b:Int}(h:a≤b):gF .gtr a b=some false:=by simp[gF,h]
theorem lT{a b:Int}(h:b≤a):gF .geq a b=some true:=by simp[gF,h]
theorem pE{a b:Int}(h:a<b):gF .geq a b=some false:=by simp[gF,h]
def U(l:List Nat):List Value:=l.map fun x=> .int .u32 (Int.ofNat x)
theorem dC{l:List Nat}{i:Nat}{x:Nat}(h:l[i]? = some x):(U l)[i]? = some (.int .u32 (x:Int)):=by simp[U,h]
theorem C9(l:List Nat):(U l).length=l.length:=by simp[U]
theorem Kd(a b:List Nat):U (a++b)=U a++U b:=by simp[U]
theorem FR(l:List Nat)(k:Nat):U (l.take k)=(U l).take k:=by simp[U,List.map_take]
theorem oC(l:List Nat):∀u∈U l,u.oneCell'=true:=fun u hu=>by
 simp only[U,List.mem_map]at hu
 obtain⟨x,_,rfl⟩:=hu
 rfl
def jD(H:Heap)(v:Value)(l:List Nat):Prop:=∃A c,v = .slice A l.length c∧l.length≤c∧Rd H A (U l)
theorem jD.le{H H':Heap}{v:Value}{l:List Nat}(h:jD H v l)(hl:Heap.le H H'):jD H' v l:=by
 obtain⟨A,c,h1,h2,h3⟩:=h
 exact⟨A,c,h1,h2,h3.le hl⟩
def dt(H:Heap)(v:Value)(x:Nat):Prop:=jD H v (al x)
theorem dt.le{H H':Heap}{v:Value}{x:Nat}(h:dt H v x)(hl:Heap.le H H'):dt H' v x:=jD.le h hl
theorem Rd.take{H:Heap}{A:Option Addr}{xs:List Value}(h:Rd H A xs)(k:Nat):Rd H A (xs.take k):=fun i v hv=>by
 rw[List.getElem?_take]at hv
 split at hv
 ·exact h i v hv
 ·cases hv
def kW(H:Heap)(v:Value)(l:List Nat):Prop:=bW H v 74 1 l.length (U l)
theorem kW.lim{H:Heap}{v:Value}{l:List Nat}(h:kW H v l):jD H v l:=by
 obtain⟨A,c,rfl⟩:=bW.form h
 refine⟨A,c,rfl,?_,bW.rd h⟩
 rcases h.2 with ⟨h1,h2⟩ | ⟨g,cap,h1,_,h3,_⟩
 ·omega
 ·cases h1;exact h3
theorem yG(H:Heap):kW H (.slice none 0 0) []:=lv H 74 1
theorem App.pG{H H':Heap}{v v':Value}{a b:List Nat}{n m:Nat}(h:App H v 74 1 (n+m) (U a++U b) v' H')(ha:n=a.length)(hb:m=b.length):kW H' v' (a++b):=by
 have:=h.own
 subst ha
 subst hb
 unfold kW
 rw[Kd,List.length_append];exact this
structure mW(H:Heap)(x:Nat)(v:Value)(H':Heap):Prop where
 le:Heap.le H H'
 nat:dt H' v x
theorem Da{H:Heap}{v:Value}{l:List Nat}{x:Nat}(h:jD H v l)(hn:rV l)(hv:val l=x):dt H v x:=by
 unfold dt
 rwa [←aeA hn hv]
theorem wF(H:Heap):dt H (.slice none 0 0) 0:=Da (l:=[]) (kW.lim (yG H)) rV.nil rfl
theorem Ke{l:List Nat}{k:Nat}(bP:Lt l)(hk:k≤l.length)(hv:val (l.take k)=val l)(hx:k=0∨∃x,l[k-1]? = some x∧x≠0):al (val l)=l.take k:=by
 rw[←hv]
 refine U8 ⟨bP.take k,fun y hy=> ?_⟩
 rcases hx with rfl | ⟨x,h1,h2⟩
 ·simp at hy
 ·have:(l.take k).getLast?=some x:=by
   rw[List.getLast?_eq_getElem?,List.length_take,Nat.min_eq_left hk,List.getElem?_take]
   rw[if_pos ?_]
   ·exact h1
   ·rcases Nat.eq_zero_or_pos k with e | e
    ·subst e;simp at hy
    ·omega
  rw[this]at hy
  cases hy
  exact h2
theorem yH(c:Nat)(A:Option Addr)(sz:Nat):(if c=0 then A else A.map (·.add (0*sz)))=A:=by
 split
 ·rfl
 ·cases A <;> simp[Addr.add]
theorem bW.ins{H:Heap}{v:Value}{e sz n:Nat}{xs:List Value}(h:bW H v e sz n xs){g:Nat}(ent:Ent)(hg:H g=none):bW (aq.ins H g ent) v e sz n xs:=
 h.same fun k hk=>by
  obtain⟨en,he⟩:=h.block hk
  exact bn _ _ (fun e=>by subst e;rw[hg]at he;cases he)
theorem kW.ins{H:Heap}{v:Value}{l:List Nat}(h:kW H v l){g:Nat}(ent:Ent)(hg:H g=none):kW (aq.ins H g ent) v l:=bW.ins h ent hg
theorem iu(g i:Nat):(⟨g,0,none⟩:Addr).add i=⟨g,i,none⟩:=by
 unfold Addr.add;split
 ·rename_i e0;rw[e0]
 ·simp
theorem eN(H:Heap)(g:Nat)(xs:List Value)(sz e:Nat)(b:Bool):Rd (ins H g ⟨xs,sz,e,b⟩) (some ⟨g,0,none⟩) xs:=fun i v hv=>⟨_,rfl,by simp[cell,iu,ins,hv]⟩
theorem rX{H:Heap}{g e:Nat}{a:Int}{y:Nat}(h:a=y):Rd (ins H g (whole [.int .u32 a] e)) (some ⟨g,0,none⟩) (U [y]):=by
 subst h;exact eN _ _ _ _ _ _
theorem Kf{H:Heap}{g e sz:Nat}{zs:List Value}{k:Int}{c:Nat}(hk:k.toNat=0)(hc:c≤maxLen):bW (ins H g ⟨cR zs (k.toNat*sz),c*sz,e,true⟩) (.slice (some ⟨g,0,none⟩) k.toNat c) e sz 0 []:=by
 refine⟨by simp,.inr ⟨g,c,by rw[hk],?_,by omega,hc⟩⟩
 rw[bC,hk,Nat.zero_mul];rfl
theorem Vd(a b:Nat):(a:Int)%(b:Int)=((a%b:Nat):Int):=rfl
def dH(l:List Nat)(n:Nat):Ent:=⟨U l,n*1,74,true⟩
theorem nF(H:Heap)(g:Nat)(e e':Ent):ins (ins H g e) g e'=ins H g e':=by
 funext k;unfold ins;split <;> rfl
theorem Of(l:List Nat)(k y:Nat):(U l).set k (.int .u32 (y:Int))=U (l.set k y):=by simp[U,List.map_set]
theorem vy{H:Heap}{g n k:Nat}{l:List Nat}{a:Int}{y:Nat}(h:a=y):ins (ins H g (dH l n)) g {dH l n with xs:=aL (dH l n).xs (0+k*1) [.int .u32 a]}=ins H g (dH (l.set k y) n):=by
 subst h
 rw[nF]
 simp only[dH,aL,Nat.zero_add,Nat.mul_one,Of]
theorem Kg(H:Heap)(g:Nat)(l:List Nat)(n:Nat):Rd (ins H g (dH l n)) (some ⟨g,0,none⟩) (U l):=eN _ _ _ _ _ _
theorem aeD{H:Heap}{g:Nat}{k:Int}{n:Nat}(hk:k.toNat=n):ins H g ⟨cR [.int .u32 0] (k.toNat*1),n*1,74,true⟩=ins H g (dH (List.replicate n 0) n):=by
 subst hk
 rw[Nat.mul_one,UX]
 congr 1
 simp[dH,U]
theorem oD(l:List Nat)(n:Nat):(dH l n).xs.length=l.length:=by simp[dH,U]
theorem AM(H:Heap)(g:Nat)(l:List Nat)(n m:Nat)(hm:m=l.length)(hn:m≤n):jD (ins H g (dH l n)) (.slice (some ⟨g,0,none⟩) m n) l:=⟨_,n,by rw[hm],by omega,Kg H g l n⟩
end Go.aq
namespace Go.aq
open Go.Proofs Num
theorem Og{H:Heap}{A:Option Addr}{c:Nat}{l:List Nat}(bP:Lt l)(hr:Rd H A (U l))(hc:l.length≤c)(hm:(l.length:Int)≤35184372088832):
 Fn Tryz.prog 150 #[.slice A l.length c] H (mW H (val l)):=by
 refine aY (args:=[_]) Tryz.func150 rfl rfl Tryz.ntmps150 rfl rfl fun w0=> ?_;refine ah [0] rfl ?_;refine ae (aa 1 rfl (ab [0] ?_));refine ae (aa 3 rfl (ab [0,3] ?_));refine ao (aE (fI (fun(k:Nat)=>k) (fun(k:Nat)=>put (put (emp) 0 (.val (.slice A l.length c))) 3 (.val (.int .i64 (k:Int)))) (fun(k:Nat) H'=>H'=H∧k≤l.length∧val (l.take k)=val l) l.length (⟨rfl,Nat.le_refl _,by simp⟩) (by repeat (first | exact iN _ | refine dB rfl ?_ | refine dB (jb (by omega)) ?_)) ?_));rintro k H1 ⟨rfl,hk,hv⟩
 rcases Nat.eq_zero_or_pos k with rfl | Db
 ·
  refine ao (ae (aa 1 rfl (aG false rfl rfl (by simp[gF]) ?_)));refine aa 8 rfl (ab [0,3,15] ?_);refine dd rfl (aU (ae (aa 2 rfl (rR (l:=0) (h:=0) ag rfl rfl (.inl ⟨rfl,rfl⟩) (.inr ⟨_,_,rfl,rfl⟩) (by omega) (by omega) ?_))));rw[yH];refine aa 1 rfl (ab [2] ?_);have e:=Ke bP hk hv (.inl rfl);refine az ⟨.inr rfl,_,.tmp rfl (.nil),.refl _,A,c,?_,?_,?_⟩
  ·rw[e];simp;rfl
  ·rw[e];simp
  ·rw[e,FR];exact hr.take _
 obtain⟨x,hx⟩:∃x,l[k-1]? = some x:=⟨_,List.getElem?_eq_getElem (by omega)⟩;refine ao (ae (aa 1 rfl (aG true rfl rfl (by simp[gF];omega) ?_)));refine aa 3 rfl (cQ rfl rfl ⟨by omega,by omega⟩ (aS ag rfl rfl rfl rfl rfl (hr) (dC (by rw[show ((k:Int)-1).toNat=k-1 by omega];exact hx)) (by omega) (by omega) fun _=> ?_));refine aa 2 rfl (ab [0,3,15] ?_);refine aD rfl (fun hb=> ?_) (fun hb=> ?_)
 ·
  simp at hb
  refine aw (ah [0,3] rfl ?_);refine aE (aA rfl (aa 1 rfl (cQ rfl rfl ⟨by omega,by omega⟩ (aa 1 rfl (au ?_)))));exact⟨k-1,by omega,(by repeat (first | exact iN _ | refine dB rfl ?_ | refine dB (jb (by omega)) ?_)),rfl,by omega,by have:=kV hx;rw[show k-1+1=k by omega,hb,Nat.mul_zero,Nat.add_zero]at this;rw[←this];exact hv⟩
 ·
  simp at hb
  refine aU (ah [0,3] rfl ?_);refine ae (aa 2 rfl (rR ag rfl rfl (.inl ⟨rfl,rfl⟩) (.inr ⟨_,_,rfl,rfl⟩) (by omega) (by omega) ?_));rw[yH];refine aa 1 rfl (ab [2] ?_);refine az ⟨.inr rfl,_,.tmp rfl (.nil),?_⟩;have e:=Ke bP hk hv (.inr ⟨x,hx,hb⟩);refine⟨.refl _,A,c,?_,?_,?_⟩
  ·rw[e,List.length_take,Nat.min_eq_left hk];rfl
  ·rw[e,List.length_take,Nat.min_eq_left hk];omega
  ·rw[e,FR];exact hr.take _
theorem aeE{H:Heap}{A:Option Addr}{c x:Nat}(hr:Rd H A (U (al x))):
 Fn Tryz.prog 151 #[.slice A (al x).length c] H (fun v H'=>H'=H∧v = .bool (decide (x=1))):=by
 refine aY (args:=[_]) Tryz.func151 rfl rfl Tryz.ntmps151 rfl rfl fun w0=> ?_;refine ah [0] rfl ?_;refine ae (aa 1 rfl (ab [0] ?_))
 by_cases hl:(al x).length=1
 ·
  obtain⟨y,hy⟩:=List.length_eq_one_iff.1 hl;refine ae (aa 2 rfl (aG true rfl rfl (by simp[gF,hl]) ?_));refine aa 2 rfl (aS ag rfl rfl rfl rfl rfl (hr) (dC (show (al x)[0]? = some y by rw[hy];rfl)) (by omega) (by omega) fun _=> ?_);refine aa 3 rfl (ab [2] ?_);refine az ⟨.inr rfl,_,.tmp rfl (.nil),?_⟩;refine⟨rfl,?_⟩;have hv:=cU x;rw[hy]at hv
  simp[val]at hv
  subst hv
  show Value.bool _=_
  congr 1
  rw[Bool.eq_iff_iff];simp;omega
 ·
  skip
  refine ae (aa 2 rfl (aG false rfl rfl (by simp[gF];omega) ?_));refine aa 7 rfl (ab [2] ?_);refine az ⟨.inr rfl,_,.tmp rfl (.nil),?_⟩;refine⟨rfl,?_⟩;have:x≠1:=fun e=>hl (by subst e;rfl)
  simp[this];rfl
end Go.aq
namespace Go.aq
open Go.Proofs Num
theorem Ve{H:Heap}{A A':Option Addr}{c c' x y:Nat}(hr:Rd H A (U (al x)))(dS:Rd H A' (U (al y)))(hm:((al x).length:Int)≤35184372088832):
 Fn Tryz.prog 111 #[.slice A (al x).length c,.slice A' (al y).length c'] H (fun v H'=>H'=H∧v = .int .i64 (kz x y)):=by
 refine aY (args:=[_,_]) Tryz.func111 rfl rfl Tryz.ntmps111 rfl rfl fun w0=> ?_;refine ah [0,1] rfl ?_;refine ae (aa 1 rfl (ab [0,1] ?_));refine ao (ae (aa 5 rfl (ab [0,1,10] ?_)));refine aD rfl (fun hb=> ?_) (fun hb=> ?_)
 ·
  have hl:(al x).length≠(al y).length:=by simp at hb;omega
  refine ao (ae (aa 5 rfl (ab [15] ?_)));refine aD rfl (fun hb=> ?_) (fun hb=> ?_)
  ·
   simp at hb
   refine ae (aa 1 rfl (ab [4] ?_));refine az ⟨.inr rfl,_,.tmp rfl (.nil),?_⟩;exact⟨rfl,by rw[Ka (Kc hb)];rfl⟩
  ·
   simp at hb
   refine aw (ah [] rfl ?_);refine ae (aa 1 rfl (ab [4] ?_));refine az ⟨.inr rfl,_,.tmp rfl (.nil),?_⟩;exact⟨rfl,by rw[Kb (Kc (by omega))];rfl⟩
 ·
  have hl:(al x).length=(al y).length:=by simp at hb;omega
  refine aw (ah [0,1] rfl ?_);refine ao (ae (aa 2 rfl (cQ rfl rfl ⟨by omega,by omega⟩ (aa 1 rfl (ab [0,1,5] ?_)))));refine aE (fI (fun(k:Nat)=>k) (fun(k:Nat)=>put (put (put (emp) 0 (.val (.slice A (al x).length c))) 1 (.val (.slice A' (al y).length c'))) 5 (.val (.int .i64 ((k:Int)-1)))) (fun(k:Nat) H'=>H'=H∧k≤(al x).length∧(al x).drop k=(al y).drop k) (al x).length (⟨rfl,Nat.le_refl _,by rw[List.drop_of_length_le (Nat.le_refl _),List.drop_of_length_le (by omega)]⟩) (by repeat (first | exact iN _ | refine dB rfl ?_ | refine dB (jb (by omega)) ?_)) ?_);rintro k H1 ⟨rfl,hk,hd⟩;refine ao (ae (aa 2 rfl (ab [0,1,5,20] ?_)));refine aD rfl (fun hb=> ?_) (fun hb=> ?_)
  ·
   simp at hb
   obtain⟨p,hp⟩:∃p,(al x)[k-1]? = some p:=⟨_,List.getElem?_eq_getElem (by omega)⟩;obtain⟨q,hq⟩:∃q,(al y)[k-1]? = some q:=⟨_,List.getElem?_eq_getElem (by omega)⟩
   have hj:((k:Int)-1).toNat=k-1:=by omega
   have ff:(al x).drop (k-1+1)=(al y).drop (k-1+1):=by rw[show k-1+1=k by omega];exact hd
   refine aw (ah [0,1,5] rfl ?_);refine ao (aE (aE (bN .bK [0,1,2,3,4,5,6,7,8,9] follows (by kernel_rfl) ?_)));refine aa 2 rfl (aS ag rfl rfl rfl rfl rfl (hr) (by rw[hj];exact dC hp) (by omega) (by omega) fun _=> ?_);refine aa 2 rfl (aS ag rfl rfl rfl rfl rfl (dS) (by rw[hj];exact dC hq) (by omega) (by omega) fun _=> ?_);refine aa 2 rfl (ab [0,1,5,23] ?_);refine aD rfl (fun hb=> ?_) (fun hb=> ?_)
   ·
    have mV:p<q:=by simpa using hb
    refine ae (aa 1 rfl (ab [4] ?_));refine az ⟨.inr rfl,_,.tmp rfl (.nil),?_⟩;exact⟨rfl,by rw[Ka (by have:=J9 (fR x).lt hp hq ff mV;rwa [cU,cU]at this)];rfl⟩
   have mV:¬p<q:=by simpa using hb
   refine bN .bK [0,1,2,3,4,5,6,7,8,9] follows (by kernel_rfl) ?_;refine aa 2 rfl (aS ag rfl rfl rfl rfl rfl (hr) (by rw[hj];exact dC hp) (by omega) (by omega) fun _=> ?_);refine aa 2 rfl (aS ag rfl rfl rfl rfl rfl (dS) (by rw[hj];exact dC hq) (by omega) (by omega) fun _=> ?_);refine aa 2 rfl (ab [0,1,5,33] ?_);refine aD rfl (fun hb=> ?_) (fun hb=> ?_)
   ·
    have FT:q<p:=by simpa using hb
    refine ae (aa 1 rfl (ab [4] ?_));refine az ⟨.inr rfl,_,.tmp rfl (.nil),?_⟩;exact⟨rfl,by rw[Kb (by have:=J9 (fR y).lt hq hp ff.symm FT;rwa [cU,cU]at this)];rfl⟩
   have FT:¬q<p:=by simpa using hb
   refine aw (ah [0,1,5] rfl ?_);refine aA rfl (aa 1 rfl (cQ rfl rfl ⟨by omega,by omega⟩ (aa 1 rfl (au ?_))))
   obtain rfl:p=q:=by omega
   exact⟨k-1,by omega,(by repeat (first | exact iN _ | refine dB rfl ?_ | refine dB (jb (by omega)) ?_)),rfl,by omega,Va (by omega) hp hq hd⟩
  simp at hb
  refine aU (ah [] rfl ?_);refine ae (aa 1 rfl (ab [4] ?_));refine az ⟨.inr rfl,_,.tmp rfl (.nil),?_⟩
  obtain rfl:k=0:=by omega
  have:x=y:=by rw[←cU x,←cU y];simpa using congrArg val hd
  exact⟨rfl,by rw[this,U9];rfl⟩
end Go.aq
namespace Go.aq
open Go.Proofs Num
theorem Vf{H:Heap}{A:Option Addr}{c x:Nat}(hr:Rd H A (U (al x)))(hm:(al x).length≤2):
 Fn Tryz.prog 166 #[.slice A (al x).length c] H (fun v H'=>H'=H∧v = .tuple #[.int .u64 (x:Int),.bool true]):=by
 refine aY (args:=[_]) Tryz.func166 rfl rfl Tryz.ntmps166 rfl rfl fun w0=> ?_;refine ah [0] rfl ?_;refine ae (aa 2 rfl (ab [0] ?_));refine ae (aa 1 rfl (ab [0,4] ?_));refine ao (ae (aa 3 rfl (ab [0,4,8,9] ?_)));refine aE (fI (fun(k:Nat)=>(al x).length-k) (fun(k:Nat)=>put (put (put (put (emp) 0 (.val (.slice A (al x).length c))) 4 (.val (.int .u64 (val ((al x).drop ((al x).length-k)):Int)))) 8 (.val (.int .i64 ((al x).length:Int)))) 9 (.val (.int .i64 (k:Int)))) (fun(k:Nat) H'=>H'=H∧k≤(al x).length) 0 (⟨rfl,by omega⟩) (dB rfl (dB rfl (dB (jb (by simp[val])) (dB rfl (iN _))))) ?_);rintro k H1 ⟨rfl,hk⟩;refine ae (aa 1 rfl (ab [0,4,8,9,10] ?_));refine ao (aD rfl (fun hb=> ?_) (fun hb=> ?_))
 ·
  simp at hb
  obtain⟨p,hp⟩:∃p,(al x)[(al x).length-1-k]? = some p:=⟨_,List.getElem?_eq_getElem (by omega)⟩;have yI:=(fR x).lt.get hp;rw[ck]at yI
  have kX:(al x).drop ((al x).length-1-k)=p::(al x).drop ((al x).length-k):=by
   rw[List.drop_eq_getElem_cons (List.getElem?_eq_some_iff.1 hp).1,(List.getElem?_eq_some_iff.1 hp).2,show (al x).length-1-k+1=(al x).length-k by omega]
  have hw:val ((al x).drop ((al x).length-k))<B:=by
   have h1:=vu ((fR x).lt.drop ((al x).length-k));have h2:B^((al x).drop ((al x).length-k)).length≤B^1:=Nat.pow_le_pow_right mU (by simp;omega);rw[Nat.pow_one]at h2;omega
  rw[ck]at hw
  have hj:(((al x).length:Int)-1-(k:Int)).toNat=(al x).length-1-k:=by omega
  refine aw (ah [0,4,8,9] rfl ?_);refine ao (aE (ae (aa 2 rfl (ab [0,4,5,8,9] ?_))));refine ae (aa 3 rfl (cQ rfl rfl ⟨by omega,by omega⟩ (aa 1 rfl (cQ rfl rfl ⟨by omega,by omega⟩ (aS ag rfl rfl rfl rfl rfl (hr) (by rw[hj];exact dC hp) (by omega) (by omega) fun _=> ?_)))));refine dr ag rfl rfl rfl ⟨by omega,by omega⟩ (aa 1 rfl (ab [0,4,6,8,9] ?_));refine ao (ae (aa 2 rfl (cQ rfl rfl ⟨by omega,by omega⟩ (lS rfl rfl (by omega) (by omega) ⟨by omega,by omega⟩ (aa 1 rfl (ab [0,4,6,8,9,25] ?_))))));refine aD rfl (fun hb=> ?_) (fun hb=> ?_)
  ·
   exfalso;simp at hb;omega
  ·
   skip
   refine aw (ah [0,4,6,8,9] rfl ?_);refine aA rfl (aa 1 rfl (gZ rfl rfl ⟨by omega,by omega⟩ (aa 1 rfl (aF rfl rfl ⟨by omega,by omega⟩ (aa 1 rfl (au (ah [0,4,8,9] rfl ?_)))))));refine aA rfl (aF rfl rfl ⟨by omega,by omega⟩ (aa 1 rfl (au ?_)))
   have dZ:val ((al x).drop ((al x).length-(k+1)))=val ((al x).drop ((al x).length-k))*1000000000+p:=by
    rw[show (al x).length-(k+1)=(al x).length-1-k by omega,kX,jC,ck];omega
   exact⟨k+1,by omega,ar,rfl,by omega⟩
 ·
  simp at hb
  refine aU (ah [4] rfl ?_);refine ae (aa 3 rfl (ab [2,3] ?_));refine az ⟨.inr rfl,_,.tmp rfl (.tmp rfl (.nil)),?_⟩
  obtain rfl:k=(al x).length:=by omega
  refine⟨rfl,?_⟩;rw[Nat.sub_self,List.drop_zero,cU];rfl
theorem Kh{H:Heap}{x:Nat}(hx:x<18446744073709551616):
 Fn Tryz.prog 114 #[.int .u64 (x:Int)] H (mW H x):=by
 refine aY (args:=[_]) Tryz.func114 rfl rfl Tryz.ntmps114 rfl rfl fun w0=> ?_;refine ah [0] rfl ?_;refine ae (aa 1 rfl (ab [0] ?_));refine ae (aa 1 rfl (ab [0,3] ?_));refine ao (aE (fD (fun(y:Nat)(v:Value)(o:List Nat)=>y) (fun(y:Nat)(v:Value)(o:List Nat)=>put (put (emp) 0 (.val (.int .u64 (y:Int)))) 3 (.val (v))) (fun(y:Nat)(v:Value)(o:List Nat) H'=>Heap.le H H'∧kW H' v o∧y≤x∧o++al y=al x) x (.slice none 0 0) [] (⟨.refl _,yG _,Nat.le_refl _,rfl⟩) ar ?_));rintro y v o H1 ⟨hle,cG,wG,ho⟩;obtain⟨A,c,rfl⟩:=bW.form cG
 have dX:o.length≤(al x).length:=by rw[←ho];simp
 have cY:(al x).length≤3:=jd.2 (by rw[ck];omega);refine ao (ae (aa 2 rfl (ab [0,3,5] ?_)));refine aD rfl (fun hb=> ?_) (fun hb=> ?_)
 ·
  have hb:0<y:=by simpa using hb
  refine aw (ah [0,3] rfl ?_);refine ao (aE (aA rfl (aa 2 rfl (mT rfl rfl (by omega) (by omega) (dr ag rfl rfl rfl ⟨by omega,by omega⟩ (cS Tryz.underlying98 eL rfl rfl rfl rfl rfl rfl rfl ?_))))));intro gb a6;refine eD Tryz.underlying98 eL rfl rfl (cG.ins _ a6) (rX (Vd y 1000000000)) (rfl) (oC _) (by omega) (by omega) ?_;intro v1 H2 ha;refine aa 1 rfl (au (ah [0,3] rfl ?_));refine aA rfl (aa 1 rfl (lS rfl rfl (by omega) (by omega) ⟨by omega,by omega⟩ (aa 1 rfl (au ?_))))
  have jm:0<y:=by omega
  rw[yE jm]at ho;exact⟨y/B,v1,o ++ [y%B],Nat.div_lt_self jm (by decide),ar,(hle.trans (Heap.bI _ a6)).trans ha.le,ha.pG rfl rfl,Nat.le_trans (Nat.div_le_self _ _) wG,by simpa using ho⟩
 ·
  have hb:y=0:=by simpa using hb
  refine aU (ah [3] rfl ?_);refine ae (aa 2 rfl (ab [2] ?_));refine az ⟨.inr rfl,_,.tmp rfl (.nil),?_⟩;subst hb;exact⟨hle,Da (cG.lim) (by rw[show o=al x by simpa [qt]using ho];exact fR x) (by rw[show o=al x by simpa [qt]using ho];exact cU x)⟩
end Go.aq
namespace Go.aq
open Go.Proofs Num
theorem aeF{H:Heap}{A:Option Addr}{c:Nat}{l:List Nat}(AN:∀x,x∈l→x<4294967296)(hr:Rd H A (U l))(hm:(l.length:Int)≤8796093022208):
 Fn Tryz.prog 108 #[.slice A l.length c] H (mW H (val l)):=by
 refine aY (args:=[_]) Tryz.func108 rfl rfl Tryz.ntmps108 rfl rfl fun w0=> ?_;refine ah [0] rfl ?_;refine ae (aa 1 rfl (ab [0] ?_));refine ae (aa 2 rfl (aF rfl rfl ⟨by omega,by omega⟩ (gO Tryz.underlying98 eL rfl rfl rfl (by omega) (by omega) (by omega) (by omega) ?_)));intro g hg;refine aa 1 rfl (ab [0,3] ?_);refine ae (aa 1 rfl (ab [0,3,4] ?_));refine ao (ae (aa 3 rfl (ab [0,3,4,12,13] ?_)));refine aE (rS (fun(k:Nat)(v:Value)(o:List Nat)(cr:Nat)=>l.length-k) (fun(k:Nat)(v:Value)(o:List Nat)(cr:Nat)=>put (put (put (put (put (emp) 0 (.val (.slice A l.length c))) 3 (.val (v))) 4 (.val (.int .u64 (cr:Int)))) 12 (.val (.int .i64 (l.length:Int)))) 13 (.val (.int .i64 (k:Int)))) (fun(k:Nat)(v:Value)(o:List Nat)(cr:Nat) H'=>Heap.le H H'∧kW H' v o∧k≤l.length∧o.length=k∧Lt o∧cr≤4∧val o+B^k*cr=val (l.take k)) 0 _ [] 0 (⟨Heap.bI _ hg,Kf rfl (by simp only[maxLen];omega),by omega,rfl,Lt.nil,by omega,by simp[val]⟩) ar ?_);rintro k v o cr H1 ⟨hle,cG,hk,dX,eE,qu,hv⟩;obtain⟨Ao,co,rfl⟩:=bW.form cG;refine ae (aa 1 rfl (ab [0,3,4,12,13,14] ?_));refine ao (aD rfl (fun hb=> ?_) (fun hb=> ?_))
 ·
  have hb:k<l.length:=by simpa using hb
  obtain⟨p,hp⟩:∃p,l[k]? = some p:=⟨_,List.getElem?_eq_getElem hb⟩;have aeG:=AN p (List.mem_of_getElem? hp);refine aw (ah [0,3,4,12,13] rfl ?_);refine ao (aE (ae (aa 2 rfl (ab [0,3,4,5,12,13] ?_))));refine ae (aa 2 rfl (aS ag rfl rfl rfl rfl rfl (hr.le hle) (dC hp) (by omega) (by omega) fun _=>(dr ag rfl rfl rfl ⟨by omega,by omega⟩ (aa 1 rfl (aF rfl rfl ⟨by omega,by omega⟩ (aa 1 rfl (ab [0,3,6,12,13] ?_)))))));refine ae (aa 2 rfl (mT rfl rfl (by omega) (by omega) (dr ag rfl rfl rfl ⟨by omega,by omega⟩ (cS Tryz.underlying98 eL rfl rfl rfl rfl rfl rfl rfl ?_))));intro gb a6;refine eD Tryz.underlying98 eL rfl rfl (cG.ins _ a6) (rX (y:=(p+cr)%1000000000) rfl) (rfl) (oC _) (by omega) (by omega) ?_;intro v1 H2 ha;refine aa 1 rfl (ab [0,3,6,12,13] ?_);refine aA rfl (aa 1 rfl (lS rfl rfl (by omega) (by omega) ⟨by omega,by omega⟩ (aa 1 rfl (au (ah [0,3,4,12,13] rfl ?_)))));refine aA rfl (aF rfl rfl ⟨by omega,by omega⟩ (aa 1 rfl (au ?_)));have dZ:=C7 (s:=p+cr) (u:=val (l.take (k+1))) dX hv (Nat.add_comm _ _) (kV hp)
  have e1:(((p+cr)%B:Nat):Int)=((p:Int)+cr)%1000000000:=rfl;exact⟨k+1,v1,o ++ [(p+cr)%B],(p+cr)/B,by omega,ar,(hle.trans (Heap.bI _ a6)).trans ha.le,ha.pG rfl rfl,by omega,by simp[dX],eE.snoc (Nat.mod_lt _ mU),by rw[ck];omega,dZ⟩
 ·
  have hb:l.length≤k:=by simpa using hb
  obtain rfl:k=l.length:=by omega
  rw[List.take_length]at hv;refine aU (ah [3,4] rfl ?_);refine AI (fun(v:Value)(o:List Nat)=>put (emp) 3 (.val (v))) (fun(v:Value)(o:List Nat) H'=>Heap.le H H'∧kW H' v o∧o.length≤l.length+1∧Lt o∧val o=val l) ?_ ?_
  ·
   refine ae (aa 2 rfl (ab [3,4,33] ?_));refine aD rfl (fun hb=> ?_) (fun hb=> ?_)
   ·
    have hb:0<cr:=by simpa using hb
    refine aA rfl (aa 2 rfl (dr ag rfl rfl rfl ⟨by omega,by omega⟩ (cS Tryz.underlying98 eL rfl rfl rfl rfl rfl rfl rfl ?_)));intro gb a6;refine eD Tryz.underlying98 eL rfl rfl (cG.ins _ a6) (rX (y:=cr) rfl) (rfl) (oC _) (by omega) (by omega) ?_;intro v1 H2 ha;refine aa 1 rfl (au ?_);exact⟨v1,o ++ [cr],(by repeat (first | exact iN _ | refine dB rfl ?_ | refine dB (jb (by omega)) ?_)),(hle.trans (Heap.bI _ a6)).trans ha.le,ha.pG rfl rfl,by simp;omega,eE.snoc (by rw[ck];omega),by rw[rU,dX];exact hv⟩
   have hb:cr=0:=by simpa using hb
   refine aw ?_;exact⟨_,o,(by repeat (first | exact iN _ | refine dB rfl ?_ | refine dB (jb (by omega)) ?_)),hle,cG,by omega,eE,by rw[hb,Nat.mul_zero]at hv;omega⟩
  rintro v o H3 ⟨hle,cG,dX,eE,hv⟩;obtain⟨Ao,co,AO,pH,Oh⟩:=cG.lim;subst AO;refine ae (aa 1 rfl (aB rfl rfl (Og eE Oh pH (by omega)) ?_));intro v1 H4 hp;refine aa 1 rfl (ab [2] ?_);refine az ⟨.inr rfl,_,.tmp rfl (.nil),?_⟩;exact⟨hle.trans hp.le,by have:=hp.nat;rwa [hv]at this⟩
end Go.aq
namespace Go.aq
open Go.Proofs Num
theorem aeH{H:Heap}{u v:Value}{x y:Nat}(hx:dt H u x)(hy:dt H v y)(hm:((al x).length:Int)≤8796093022208)(bL:((al y).length:Int)≤8796093022208):
 Fn Tryz.prog 110 #[u,v] H (mW H (x+y)):=by
 obtain⟨A,c,rfl,hc,hr⟩:=hx
 obtain⟨A',c',rfl,jA,dS⟩:=hy;refine aY (args:=[_,_]) Tryz.func110 rfl rfl Tryz.ntmps110 rfl rfl fun w0=> ?_;refine ah [0,1] rfl ?_;refine ae (aa 1 rfl (ab [0,1] ?_));refine adf (fun(u:Value)(w:Value)(p:Nat)(q:Nat)=>put (put (emp) 0 (.val (u))) 1 (.val (w))) (fun(u:Value)(w:Value)(p:Nat)(q:Nat) H'=>H'=H∧dt H u p∧dt H w q∧p+q=x+y∧(al q).length≤(al p).length∧((al p).length:Int)≤8796093022208) ?_ ?_
 ·
  refine ae (aa 5 rfl (ab [0,1,13] ?_));refine aD rfl (fun hb=> ?_) (fun hb=> ?_)
  ·
   simp at hb
   refine aA rfl (aa 4 rfl (au ?_));exact⟨_,_,y,x,(by repeat (first | exact iN _ | refine dB rfl ?_ | refine dB (jb (by omega)) ?_)),rfl,⟨A',c',rfl,jA,dS⟩,⟨A,c,rfl,hc,hr⟩,by omega,by omega,by omega⟩
  ·
   simp at hb
   refine aw ?_;exact⟨_,_,x,y,(by repeat (first | exact iN _ | refine dB rfl ?_ | refine dB (jb (by omega)) ?_)),rfl,⟨A,c,rfl,hc,hr⟩,⟨A',c',rfl,jA,dS⟩,by omega,by omega,by omega⟩
 ·
  rintro u w p q H3 ⟨rfl,hp,hq,mV,hl,hm⟩;clear hr dS hc jA;obtain⟨A,c,rfl,hc,hr⟩:=hp;obtain⟨A',c',rfl,jA,dS⟩:=hq;have fY:=(fR p).lt;have dO:=(fR q).lt;refine ae (aa 2 rfl (aF rfl rfl ⟨by omega,by omega⟩ (gO Tryz.underlying98 eL rfl rfl rfl (by omega) (by omega) (by omega) (by omega) ?_)));intro g hg;refine aa 1 rfl (ab [0,1,5] ?_);refine ae (aa 1 rfl (ab [0,1,5,6] ?_));refine ao (ae (aa 3 rfl (ab [0,1,5,6,21,22] ?_)));refine aE (rS (fun(k:Nat)(v:Value)(o:List Nat)(cr:Nat)=>(al p).length-k) (fun(k:Nat)(v:Value)(o:List Nat)(cr:Nat)=>put (put (put (put (put (put (emp) 0 (.val (.slice A (al p).length c))) 1 (.val (.slice A' (al q).length c'))) 5 (.val (v))) 6 (.val (.int .u32 (cr:Int)))) 21 (.val (.int .i64 ((al p).length:Int)))) 22 (.val (.int .i64 (k:Int)))) (fun(k:Nat)(v:Value)(o:List Nat)(cr:Nat) H'=>Heap.le H3 H'∧kW H' v o∧k≤(al p).length∧o.length=k∧Lt o∧cr≤1∧val o+B^k*cr=val ((al p).take k)+val ((al q).take k)) 0 _ [] 0 (⟨Heap.bI _ hg,Kf rfl (by simp only[maxLen];omega),by omega,rfl,Lt.nil,by omega,by simp[val]⟩) ar ?_);rintro k v o cr H1 ⟨hle,cG,hk,dX,eE,qu,hv⟩;obtain⟨Ao,co,rfl⟩:=bW.form cG
  refine ae (aa 1 rfl (ab [0,1,5,6,21,22,23] ?_));refine ao (aD rfl (fun hb=> ?_) (fun hb=> ?_))
  ·
   have hb:k<(al p).length:=by simpa using hb
   obtain⟨d,hd⟩:∃d,(al p)[k]? = some d:=⟨_,List.getElem?_eq_getElem hb⟩;have lU:=fY.get hd;rw[ck]at lU;obtain⟨e,he⟩:∃e,e=((al q)[k]?).getD 0:=⟨_,rfl⟩
   have Dc:e<1000000000:=by
    cases hq:(al q)[k]? with
    | none=>rw[hq]at he;simp at he;omega
    | some z=>rw[hq]at he;simp at he;have:=dO.get hq;rw[ck]at this;omega
   refine aw (ah [0,1,5,6,21,22] rfl ?_);refine ao (aE (ae (aa 2 rfl (ab [0,1,5,6,7,21,22] ?_))));refine ae (aa 2 rfl (aS ag rfl rfl rfl rfl rfl (hr.le hle) (dC hd) (by omega) (by omega) fun _=>(aa 1 rfl (aF rfl rfl ⟨by omega,by omega⟩ (aa 1 rfl (ab [0,1,5,7,8,21,22] ?_))))));refine kT (fun(sv:Nat)=>put (put (put (put (put (put (emp) 0 (.val (.slice A (al p).length c))) 1 (.val (.slice A' (al q).length c'))) 5 (.val (.slice Ao o.length co))) 8 (.val (.int .u32 (sv:Int)))) 21 (.val (.int .i64 ((al p).length:Int)))) 22 (.val (.int .i64 (k:Int)))) (fun(sv:Nat) H'=>H'=H1∧sv=d+cr+e) ?_ ?_
   ·
    refine ae (aa 4 rfl (ab [0,1,5,7,8,21,22,34] ?_));refine aD rfl (fun hb=> ?_) (fun hb=> ?_)
    ·
     have hb:k<(al q).length:=by simpa using hb
     have hz:(al q)[k]? = some e:=by rw[List.getElem?_eq_getElem hb]at he⊢;simp at he;rw[he]
     refine aA rfl (aa 3 rfl (aS ag rfl rfl rfl rfl rfl (dS.le hle) (dC hz) (by omega) (by omega) fun _=>(aF rfl rfl ⟨by omega,by omega⟩ (aa 1 rfl (au ?_)))));exact⟨d+cr+e,(by repeat (first | exact iN _ | refine dB rfl ?_ | refine dB (jb (by omega)) ?_)),rfl,rfl⟩
    have hb:(al q).length≤k:=by simpa using hb
    obtain rfl:e=0:=by rw[he,List.getElem?_eq_none hb];rfl
    refine aw ?_;exact⟨d+cr,(by repeat (first | exact iN _ | refine dB rfl ?_ | refine dB (jb (by omega)) ?_)),rfl,rfl⟩
   rintro sv H4 ⟨rfl,wH⟩;refine ae (aa 1 rfl (lS rfl rfl (by omega) (by omega) ⟨by omega,by omega⟩ (aa 1 rfl (ab [0,1,5,6,8,21,22] ?_))));refine aA rfl (aa 2 rfl (mT rfl rfl (by omega) (by omega) (cS Tryz.underlying98 eL rfl rfl rfl rfl rfl rfl rfl ?_)));intro gb a6;refine eD Tryz.underlying98 eL rfl rfl (cG.ins _ a6) (rX (y:=sv%1000000000) rfl) (rfl) (oC _) (by omega) (by omega) ?_;intro v1 H2 ha;refine aa 1 rfl (au (ah [0,1,5,6,21,22] rfl ?_));refine aA rfl (aF rfl rfl ⟨by omega,by omega⟩ (aa 1 rfl (au ?_)));have dZ:=C7 (s:=cr+(d+e)) (u:=val ((al p).take (k+1))+val ((al q).take (k+1))) dX hv rfl (by rw[kV hd,yF,←he,Nat.mul_add];omega)
   obtain rfl:sv=cr+(d+e):=by omega
   exact⟨k+1,v1,o ++ [(cr+(d+e))%B],(cr+(d+e))/B,by omega,ar,(hle.trans (Heap.bI _ a6)).trans ha.le,ha.pG rfl rfl,by omega,by simp[dX],eE.snoc (Nat.mod_lt _ mU),by rw[ck];omega,dZ⟩
  have hb:(al p).length≤k:=by simpa using hb
  obtain rfl:k=(al p).length:=by omega
  rw[List.take_length,List.take_of_length_le hl,cU,cU]at hv;refine aU (ah [5,6] rfl ?_);refine ao (ae (aa 2 rfl (ab [5,6,50] ?_)));refine aD rfl (fun hb=> ?_) (fun hb=> ?_)
  ·
   have hb:0<cr:=by simpa using hb
   refine aA rfl (aa 2 rfl (cS Tryz.underlying98 eL rfl rfl rfl rfl rfl rfl rfl ?_));intro gb a6;refine eD Tryz.underlying98 eL rfl rfl (cG.ins _ a6) (rX (y:=cr) rfl) (rfl) (oC _) (by omega) (by omega) ?_;intro v1 H2 ha;refine aa 1 rfl (au (ah [5] rfl ?_));refine ae (aa 2 rfl (ab [4] ?_));refine az ⟨.inr rfl,_,.tmp rfl (.nil),?_⟩
   have AO:val (o ++ [cr])=x+y:=by rw[rU,dX,hv];exact mV
   exact⟨(hle.trans (Heap.bI _ a6)).trans ha.le,Da (ha.pG (a:=o) (b:=[cr]) rfl rfl).lim ⟨eE.snoc (by rw[ck];omega),fun z hz=>by simp at hz;omega⟩ AO⟩
  have hb:cr=0:=by simpa using hb
  refine aw (ah [5] rfl ?_);refine ae (aa 2 rfl (ab [4] ?_));refine az ⟨.inr rfl,_,.tmp rfl (.nil),?_⟩;rw[hb,Nat.mul_zero,Nat.add_zero]at hv;refine⟨hle,Da cG.lim (last_pos eE dX ?_) (by rw[hv];exact mV)⟩
  rcases Nat.eq_zero_or_pos (al p).length with h0 | h0
  ·exact .inl h0
  have:=(fR p).pos (by intro e0;rw[e0]at h0;simp at h0);rw[cU]at this;exact .inr (by rw[hv];omega)
end Go.aq
namespace Go.aq
open Go.Proofs Num
theorem Vg{H:Heap}{u v:Value}{x y:Nat}(hx:dt H u x)(hy:dt H v y)(wG:y≤x)(hm:((al x).length:Int)≤8796093022208):
 Fn Tryz.prog 112 #[u,v] H (mW H (x-y)):=by
 obtain⟨A,c,rfl,hc,hr⟩:=hx
 obtain⟨A',c',rfl,jA,dS⟩:=hy
 have fY:=(fR x).lt
 have dO:=(fR y).lt
 have hl:=ml wG;refine aY (args:=[_,_]) Tryz.func112 rfl rfl Tryz.ntmps112 rfl rfl fun w0=> ?_;refine ah [0,1] rfl ?_;refine ae (aa 1 rfl (ab [0,1] ?_));refine ae (aa 2 rfl (gO Tryz.underlying98 eL rfl rfl rfl (by omega) (by omega) (by omega) (by omega) ?_));intro g hg;refine aa 1 rfl (ab [0,1,5] ?_);refine ae (aa 1 rfl (ab [0,1,5,6] ?_));refine ao (ae (aa 3 rfl (ab [0,1,5,6,13,14] ?_)));refine aE (rS (fun(k:Nat)(v:Value)(o:List Nat)(br:Nat)=>(al x).length-k) (fun(k:Nat)(v:Value)(o:List Nat)(br:Nat)=>put (put (put (put (put (put (emp) 0 (.val (.slice A (al x).length c))) 1 (.val (.slice A' (al y).length c'))) 5 (.val (v))) 6 (.val (.int .i64 (br:Int)))) 13 (.val (.int .i64 ((al x).length:Int)))) 14 (.val (.int .i64 (k:Int)))) (fun(k:Nat)(v:Value)(o:List Nat)(br:Nat) H'=>Heap.le H H'∧kW H' v o∧k≤(al x).length∧o.length=k∧Lt o∧br≤1∧val ((al x).take k)+B^k*br=val o+val ((al y).take k)) 0 _ [] 0 (⟨Heap.bI _ hg,Kf rfl (by simp only[maxLen];omega),by omega,rfl,Lt.nil,by omega,by simp[val]⟩) ar ?_);rintro k v o br H1 ⟨hle,cG,hk,dX,eE,vz,hv⟩;obtain⟨Ao,co,rfl⟩:=bW.form cG;refine ae (vr 1 ?_)
 refine ab [0,1,5,6,13,14,15] ?_;refine ao (aD rfl (fun hb=> ?_) (fun hb=> ?_))
 ·
  have hb:k<(al x).length:=by simpa using hb
  obtain⟨d,hd⟩:∃d,(al x)[k]? = some d:=⟨_,List.getElem?_eq_getElem hb⟩;have lU:=fY.get hd;rw[ck]at lU;obtain⟨e,he⟩:∃e,e=((al y)[k]?).getD 0:=⟨_,rfl⟩
  have Dc:e<1000000000:=by
   cases hq:(al y)[k]? with
   | none=>rw[hq]at he;simp at he;omega
   | some z=>rw[hq]at he;simp at he;have:=dO.get hq;rw[ck]at this;omega
  refine aw (ah [0,1,5,6,13,14] rfl ?_);refine ao (aE (ae (aa 2 rfl (ab [0,1,5,6,7,13,14] ?_))));refine ae (aa 2 rfl (aS ag rfl rfl rfl rfl rfl (hr.le hle) (dC hd) (by omega) (by omega) fun _=>(dr ag rfl rfl rfl ⟨by omega,by omega⟩ (aa 1 rfl (cQ rfl rfl ⟨by omega,by omega⟩ (aa 1 rfl (ab [0,1,5,7,8,13,14] ?_)))))));refine kT (fun(sv:Int)=>put (put (put (put (put (put (emp) 0 (.val (.slice A (al x).length c))) 1 (.val (.slice A' (al y).length c'))) 5 (.val (.slice Ao o.length co))) 8 (.val (.int .i64 sv))) 13 (.val (.int .i64 ((al x).length:Int)))) 14 (.val (.int .i64 (k:Int)))) (fun(sv:Int) H'=>H'=H1∧sv=(d:Int)-br-e) ?_ ?_
  ·
   refine ae (aa 4 rfl (ab [0,1,5,7,8,13,14,27] ?_));refine aD rfl (fun hb=> ?_) (fun hb=> ?_)
   ·
    have hb:k<(al y).length:=by simpa using hb
    have hz:(al y)[k]? = some e:=by rw[List.getElem?_eq_getElem hb]at he⊢;simp at he;rw[he]
    refine aA rfl (aa 3 rfl (aS ag rfl rfl rfl rfl rfl (dS.le hle) (dC hz) (by omega) (by omega) fun _=>(dr ag rfl rfl rfl ⟨by omega,by omega⟩ (cQ rfl rfl ⟨by omega,by omega⟩ (aa 1 rfl (au ?_))))));exact⟨(d:Int)-br-e,(by repeat (first | exact iN _ | refine dB rfl ?_ | refine dB (jb (by omega)) ?_)),rfl,rfl⟩
   have hb:(al y).length≤k:=by simpa using hb
   have Ki:e=0:=by rw[he,List.getElem?_eq_none hb];rfl
   refine aw ?_;exact⟨(d:Int)-br,(by repeat (first | exact iN _ | refine dB rfl ?_ | refine dB (jb (by omega)) ?_)),rfl,by omega⟩
  ·
   rintro sv H4 ⟨rfl,wH⟩;refine ae (aa 1 rfl (ab [0,1,5,6,8,13,14] ?_));refine ao (ae (aa 2 rfl (ab [0,1,5,6,8,13,14,36] ?_)));refine aD rfl (fun hb=> ?_) (fun hb=> ?_)
   ·
    have hb:sv<0:=by simpa using hb
    refine ae (aa 1 rfl (aF rfl rfl ⟨by omega,by omega⟩ (aa 1 rfl (ab [0,1,5,8,13,14] ?_))));refine aA rfl (aa 1 rfl (au (ah [0,1,5,6,8,13,14] rfl ?_)));refine aA rfl (aa 2 rfl (dr ag rfl rfl rfl ⟨by omega,by omega⟩ (cS Tryz.underlying98 eL rfl rfl rfl rfl rfl rfl rfl ?_)));intro gb a6;refine eD Tryz.underlying98 eL rfl rfl (cG.ins _ a6) (rX (y:=if sv<0 then d+1000000000-br-e else d-br-e) (by split <;> omega)) (rfl) (oC _) (by omega) (by omega) ?_;intro v1 H2 ha
    (first|rw[if_pos hb]at ha|rw[if_neg (by omega)]at ha)
    refine aa 1 rfl (au (ah [0,1,5,6,13,14] rfl ?_));refine aA rfl (aF rfl rfl ⟨by omega,by omega⟩ (aa 1 rfl (au ?_)));have dZ:=FQ (s:=d+1000000000-br-e) (br':=1) (d:=d) (e:=e) dX hv (by rw[ck];omega) (kV hd) (show val ((al y).take (k+1))=val ((al y).take k)+B^k*e by rw[yF,←he]);exact⟨k+1,v1,o ++ [d+1000000000-br-e],1,by omega,ar,(hle.trans (Heap.bI _ a6)).trans ha.le,ha.pG rfl rfl,by omega,by simp[dX],eE.snoc (by rw[ck];omega),by omega,dZ⟩
   have hb:0≤sv:=by simpa using hb
   refine aw (ah [0,1,5,6,8,13,14] rfl ?_);refine aA rfl (aa 2 rfl (dr ag rfl rfl rfl ⟨by omega,by omega⟩ (cS Tryz.underlying98 eL rfl rfl rfl rfl rfl rfl rfl ?_)));intro gb a6;refine eD Tryz.underlying98 eL rfl rfl (cG.ins _ a6) (rX (y:=if sv<0 then d+1000000000-br-e else d-br-e) (by split <;> omega)) (rfl) (oC _) (by omega) (by omega) ?_;intro v1 H2 ha
   (first|rw[if_pos hb]at ha|rw[if_neg (by omega)]at ha)
   refine aa 1 rfl (au (ah [0,1,5,6,13,14] rfl ?_));refine aA rfl (aF rfl rfl ⟨by omega,by omega⟩ (aa 1 rfl (au ?_)));have dZ:=FQ (s:=d-br-e) (br':=0) (d:=d) (e:=e) dX hv (by omega) (kV hd) (show val ((al y).take (k+1))=val ((al y).take k)+B^k*e by rw[yF,←he]);exact⟨k+1,v1,o ++ [d-br-e],0,by omega,ar,(hle.trans (Heap.bI _ a6)).trans ha.le,ha.pG rfl rfl,by omega,by simp[dX],eE.snoc (by rw[ck];omega),by omega,dZ⟩
 ·
  have hb:(al x).length≤k:=by simpa using hb
  obtain rfl:k=(al x).length:=by omega
  rw[List.take_length,List.take_of_length_le hl,cU,cU]at hv;have AO:=vu eE;rw[dX]at AO
  have tH:br=0:=by
   rcases Nat.eq_zero_or_pos br with h | h
   ·exact h
   ·
    obtain rfl:br=1:=by omega
    omega
  obtain⟨Ao',co',aeI,pH,Oh⟩:=cG.lim
  cases aeI
  refine aU (ah [5] rfl ?_);refine ae (aa 1 rfl (aB rfl rfl (Og eE Oh pH (by omega)) ?_));intro v1 H4 hp;refine aa 1 rfl (ab [4] ?_);refine az ⟨.inr rfl,_,.tmp rfl (.nil),?_⟩;exact⟨hle.trans hp.le,by have:=hp.nat;rwa [show val o=x-y by rw[tH]at hv;omega]at this⟩
end Go.aq
namespace Go.aq
open Go.Proofs Num
theorem yJ(H:Heap)(g n:Nat):ins H g ⟨cR [.int .u32 0] (n*1),n*1,74,true⟩=ins H g (dH (List.replicate n 0) n):=aeD (k:=n) rfl
theorem yK{l:List Nat}{k y:Nat}(h:k<l.length):(l.set k y).take (k+1)=l.take k ++ [y]:=aeC h
theorem Kj{q m r x:Nat}(h:q*m+r=x)(hr:r<m):x/m=q∧x%m=r:=by
 subst h
 refine⟨?_,?_⟩
 ·rw[Nat.mul_comm,Nat.mul_add_div (by omega),Nat.div_eq_of_lt hr,Nat.add_zero]
 ·rw[Nat.mul_comm,Nat.mul_add_mod,Nat.mod_eq_of_lt hr]
def aeJ(H:Heap)(n x:Nat)(v:Value)(H':Heap):Prop:=∃g l,H g=none∧v = .slice (some ⟨g,0,none⟩) n n∧H'=ins H g (dH l n)∧l.length=n∧Lt l∧val l=x
theorem Kk{H:Heap}{v:Value}{l:List Nat}(h:jD H v l)(bP:Lt l)(hm:(l.length:Int)≤35184372088832):Fn Tryz.prog 150 #[v] H (mW H (val l)):=by
 obtain⟨A,c,rfl,hc,hr⟩:=h
 exact Og bP hr hc hm
theorem Vh{H:Heap}{u:Value}{l:List Nat}{m:Nat}(hu:jD H u l)(hl:Lt l)(hm:m<1000000000)(hs:(l.length:Int)≤8796093022208):
 Fn Tryz.prog 168 #[u,.int .u64 (m:Int)] H (aeJ H (l.length+1) (val l*m)):=by
 obtain⟨A,c,rfl,hc,hr⟩:=hu;refine aY (args:=[_,_]) Tryz.func168 rfl rfl Tryz.ntmps168 rfl rfl fun w0=> ?_;refine ah [0,1] rfl ?_;refine ae (aa 1 rfl (ab [0,1] ?_));refine ae (aa 2 rfl (aF rfl rfl ⟨by omega,by omega⟩ (gO Tryz.underlying98 eL rfl rfl rfl (by omega) (by omega) (by omega) (by omega) ?_)));intro g hg;rw[show ((l.length:Int)+1).toNat=l.length+1 from by omega,yJ];have qv:=fun e=>hr.le (Heap.bI (g:=g) e hg);refine aa 1 rfl (ab [0,1,5] ?_);refine ae (aa 1 rfl (ab [0,1,5,6] ?_));refine ao (ae (aa 3 rfl (ab [0,1,5,6,14,15] ?_)));refine aE (fD (fun(k:Nat)(o:List Nat)(cr:Nat)=>l.length-k) (fun(k:Nat)(o:List Nat)(cr:Nat)=>put (put (put (put (put (put (emp) 0 (.val (.slice A l.length c))) 1 (.val (.int .u64 (m:Int)))) 5 (.val (.slice (some ⟨g,0,none⟩) (l.length+1) (l.length+1)))) 6 (.val (.int .u64 (cr:Int)))) 14 (.val (.int .i64 (l.length:Int)))) 15 (.val (.int .i64 (k:Int)))) (fun(k:Nat)(o:List Nat)(cr:Nat) H'=>H'=ins H g (dH o (l.length+1))∧k≤l.length∧o.length=l.length+1∧Lt o∧cr<1000000000∧val (o.take k)+B^k*cr=val (l.take k)*m) 0 _ 0 (⟨rfl,by omega,by simp,Lt.replicate _,by omega,by simp[val]⟩) ar ?_)
 rintro k o cr H1 ⟨rfl,hk,dX,eE,qu,hv⟩;refine ae (aa 1 rfl (ab [0,1,5,6,14,15,16] ?_));refine ao (aD rfl (fun hb=> ?_) (fun hb=> ?_))
 ·
  have hb:k<l.length:=by simpa using hb
  obtain⟨d,hd⟩:∃d,l[k]? = some d:=⟨_,List.getElem?_eq_getElem hb⟩;have lU:=hl.get hd;rw[ck]at lU;have Vi:d*m≤999999999*999999999:=Nat.mul_le_mul (by omega) (by omega)
  have Vj:(d:Int)*(m:Int)=((d*m:Nat):Int):=by simp
  obtain⟨dm,amM⟩:∃dm,dm=d*m:=⟨_,rfl⟩;refine aw (ah [0,1,5,6,14,15] rfl ?_);refine ao (aE (ae (aa 2 rfl (ab [0,1,5,6,7,14,15] ?_))));refine ae (aa 2 rfl (aS ag rfl rfl rfl rfl rfl (qv _) (dC hd) (by omega) (by omega) fun _=>(dr ag rfl rfl rfl ⟨by omega,by omega⟩ (aa 1 rfl (gZ rfl rfl ⟨by omega,by omega⟩ (aa 1 rfl (aF rfl rfl ⟨by omega,by omega⟩ (aa 1 rfl (ab [0,1,5,7,8,14,15] ?_)))))))));refine ae (aa 3 rfl (mT rfl rfl (by omega) (by omega) (dr ag rfl rfl rfl ⟨by omega,by omega⟩ ?_)));obtain⟨ti,aj,ak⟩:=oz;refine cT (.inl rfl) ag rfl rfl rfl (by omega) (by omega) (bC _ _ _) rfl (by rw[oD];omega) aj ak (fun _=>rfl) rfl rfl rfl fun _=> ?_;refine ab [0,1,5,8,14,15] ?_;refine aA rfl (aa 1 rfl (lS rfl rfl (by omega) (by omega) ⟨by omega,by omega⟩ (aa 1 rfl (au (ah [0,1,5,6,14,15] rfl ?_)))));refine aA rfl (aF rfl rfl ⟨by omega,by omega⟩ (aa 1 rfl (au ?_)));have dZ:=C7 (s:=d*m+cr) (a:=cr) (b:=d*m) (u:=val (l.take (k+1))*m) (by simp;omega) hv (by omega) (by rw[kV hd,Nat.add_mul,Nat.mul_assoc])
  rw[←yK (by omega)]at dZ;exact⟨k+1,o.set k ((d*m+cr)%B),(d*m+cr)/B,by omega,ar,by rw[vy (y:=(d*m+cr)%B) (by rw[ck];omega)];rfl,by omega,by simp[dX],eE.set (Nat.mod_lt _ mU),by rw[ck];omega,dZ⟩
 ·
  have hb:l.length≤k:=by simpa using hb
  obtain rfl:k=l.length:=by omega
  rw[List.take_length]at hv;refine aU (ah [0,5,6] rfl ?_);refine ae (aa 4 rfl (dr ag rfl rfl rfl ⟨by omega,by omega⟩ ?_));obtain⟨ti,aj,ak⟩:=oz;refine cT (.inl rfl) ag rfl rfl rfl (by omega) (by omega) (bC _ _ _) rfl (by rw[oD];omega) aj ak (fun _=>rfl) rfl rfl rfl fun _=> ?_;refine ab [5] ?_;refine ae (aa 2 rfl (ab [4] ?_));refine az ⟨.inr rfl,_,.tmp rfl (.nil),?_⟩;refine⟨g,o.set l.length cr,hg,rfl,?_,by simp[dX],eE.set (by rw[ck];omega),?_⟩
  ·rw[vy (y:=cr) rfl];rfl
  ·rw[←List.take_length (l:=o.set l.length cr),List.length_set,dX,yK (by omega),rU,List.length_take,Nat.min_eq_left (by omega)];exact hv
theorem Vk{H:Heap}{u:Value}{l:List Nat}{m:Nat}(hu:jD H u l)(hl:Lt l)(hm:m<1000000000)(wI:0<m)(hs:(l.length:Int)≤8796093022208):
 Fn Tryz.prog 167 #[u,.int .u64 (m:Int)] H (fun v H'=>Heap.le H H'∧∃q,v = .tuple #[q,.int .u64 ((val l%m:Nat):Int)]∧dt H' q (val l/m)):=by
 obtain⟨A,c,rfl,hc,hr⟩:=hu;refine aY (args:=[_,_]) Tryz.func167 rfl rfl Tryz.ntmps167 rfl rfl fun w0=> ?_;refine ah [0,1] rfl ?_;refine ae (aa 2 rfl (ab [0,1] ?_));refine ae (aa 2 rfl (gO Tryz.underlying98 eL rfl rfl rfl (by omega) (by omega) (by omega) (by omega) ?_));intro g hg;rw[show ((l.length:Int)).toNat=l.length from by omega,yJ];have qv:=fun e=>hr.le (Heap.bI (g:=g) e hg);refine aa 1 rfl (ab [0,1,6] ?_);refine ae (aa 1 rfl (ab [0,1,6,7] ?_));refine ao (ae (aa 2 rfl (cQ rfl rfl ⟨by omega,by omega⟩ (aa 1 rfl (ab [0,1,6,7,8] ?_)))));refine aE (fD (fun(k:Nat)(o:List Nat)(rs:Nat)=>k) (fun(k:Nat)(o:List Nat)(rs:Nat)=>put (put (put (put (put (emp) 0 (.val (.slice A l.length c))) 1 (.val (.int .u64 (m:Int)))) 6 (.val (.slice (some ⟨g,0,none⟩) l.length l.length))) 7 (.val (.int .u64 (rs:Int)))) 8 (.val (.int .i64 ((k:Int)-1)))) (fun(k:Nat)(o:List Nat)(rs:Nat) H'=>H'=ins H g (dH o l.length)∧k≤l.length∧o.length=l.length∧Lt o∧rs<m∧val (o.drop k)*m+rs=val (l.drop k)) l.length _ 0 (⟨rfl,by omega,by simp,Lt.replicate _,by omega,by simp[val]⟩) ar ?_);rintro k o rs H1 ⟨rfl,hk,dX,eE,yL,hv⟩;refine ao ?_
 refine ae (aa 2 rfl (ab [0,1,6,7,8,17] ?_));refine aD rfl (fun hb=> ?_) (fun hb=> ?_)
 ·
  have hb:1≤k:=by simp at hb;omega
  obtain⟨k,rfl⟩:∃j,k=j+1:=⟨k-1,by omega⟩;obtain⟨d,hd⟩:∃d,l[k]? = some d:=⟨_,List.getElem?_eq_getElem (by omega)⟩;have lU:=hl.get hd;rw[ck]at lU
  have hj:(((k+1:Nat):Int)-1).toNat=k:=by omega
  have mm:((rs:Int)*1000000000+(d:Int))/(m:Int)<1000000000:=Int.ediv_lt_of_lt_mul (by omega) (by omega);have bX:0≤((rs:Int)*1000000000+(d:Int))/(m:Int):=Int.ediv_nonneg (by omega) (by omega);refine aw (ah [0,1,6,7,8] rfl ?_);refine ao (aE (ae (aa 1 rfl (gZ rfl rfl ⟨by omega,by omega⟩ (aa 2 rfl (aS ag rfl rfl rfl rfl rfl (qv _) (by rw[hj];exact dC hd) (by omega) (by omega) fun _=> ?_))))));refine dr ag rfl rfl rfl ⟨by omega,by omega⟩ (aF rfl rfl ⟨by omega,by omega⟩ (aa 1 rfl (ab [0,1,6,8,9] ?_)));refine ae (aa 4 rfl (lS rfl rfl (by omega) (by omega) ⟨by omega,by omega⟩ (dr ag rfl rfl rfl ⟨by omega,by omega⟩ ?_)));obtain⟨ti,aj,ak⟩:=oz;refine cT (.inl rfl) ag rfl rfl rfl (by omega) (by omega) (bC _ _ _) rfl (by rw[oD];omega) aj ak (fun _=>rfl) rfl rfl rfl fun _=> ?_;refine ab [0,1,6,8,9] ?_;refine aA rfl (aa 2 rfl (mT rfl rfl (by omega) (by omega) (aa 1 rfl (au (ah [0,1,6,7,8] rfl ?_)))));refine aA rfl (aa 1 rfl (cQ rfl rfl ⟨by omega,by omega⟩ (aa 1 rfl (au ?_))))
  have hq:(rs*1000000000+d)/m<1000000000:=by rw[Nat.div_lt_iff_lt_mul wI];omega
  refine⟨k,o.set k ((rs*1000000000+d)/m),(rs*1000000000+d)%m,by omega,ar,by rw[vy (y:=(rs*1000000000+d)/m) (by simp)];rw[hj],by omega,by simp[dX],eE.set (by rw[ck];omega),Nat.mod_lt _ wI,?_⟩;rw[set_drop (by omega),C8 hd,jC,jC,←hv];have:=Nat.div_add_mod (rs*1000000000+d) m
  simp only[ck,Nat.add_mul,Nat.mul_add,Nat.mul_assoc]
  rw[Nat.mul_comm m]at this
  omega
 ·
  have hb:k=0:=by simp at hb;omega
  subst hb
  simp only[List.drop_zero]at hv
  refine aU (ah [6,7] rfl ?_);refine ae (aa 1 rfl (aB rfl rfl (Kk (AM _ _ o _ _ dX.symm (Nat.le_refl _)) eE (by omega)) ?_));intro v1 H4 hp;refine aa 3 rfl (ab [4,5] ?_);refine az ⟨.inr rfl,_,.tmp rfl (.tmp rfl (.nil)),?_⟩;refine⟨(Heap.bI _ hg).trans hp.le,v1,?_,?_⟩
  ·rw[(Kj hv yL).2];rfl
  ·rw[(Kj hv yL).1];exact hp.nat
end Go.aq
namespace Go.aq
open Go.Proofs Num
def rY(o:List Nat)(p:Nat):Prop:=∀t z,p≤t→o[t]? = some z→z=0
theorem rY.set{o:List Nat}{p t y:Nat}(h:rY o p)(ht:t<p):rY (o.set t y) p:=fun s z hs hz=>by
 rw[List.getElem?_set_ne (by omega)]at hz
 exact h s z hs hz
theorem rY.aeK{o:List Nat}{p y:Nat}(h:rY o p):rY (o.set p y) (p+1):=fun s z hs hz=>by
 rw[List.getElem?_set_ne (by omega)]at hz
 exact h s z (by omega) hz
theorem Vm(n p:Nat):rY (List.replicate n 0) p:=fun t z _ hz=>by
 rw[List.getElem?_replicate]at hz
 split at hz
 ·cases hz;rfl
 ·cases hz
theorem Vn{o:List Nat}{i j e cr s X Y P d:Nat}(he:o[i+j]? = some e)(hv:val o+B^(i+j)*cr=X+B^i*d*Y)(hs:s=d*P+e+cr):
  val (o.set (i+j) (s%B))+B^(i+(j+1))*(s/B)=X+B^i*d*(Y+B^j*P):=by
 have h1:=Vb (y:=s%B) he
 have h2:B^(i+j)*s=B^(i+j)*(s%B)+B^(i+j)*(B*(s/B)):=by rw[←Nat.mul_add,Nat.mod_add_div]
 have h3:B^(i+j)*s=B^(i+j)*(d*P)+B^(i+j)*e+B^(i+j)*cr:=by rw[hs,Nat.mul_add,Nat.mul_add]
 have h4:B^i*d*(B^j*P)=B^(i+j)*(d*P):=by rw[Nat.pow_add,Nat.mul_assoc,Nat.mul_assoc,Nat.mul_left_comm d]
 rw[Nat.mul_add,h4,←Nat.add_assoc i j 1,Nat.pow_succ,Nat.mul_assoc]
 omega
theorem AP{H:Heap}{u v:Value}{x y:Nat}(hx:dt H u x)(hy:dt H v y)(hm:((al x).length:Int)≤8796093022208)(bL:((al y).length:Int)≤8796093022208):
 Fn Tryz.prog 109 #[u,v] H (mW H (x*y)):=by
 obtain⟨A,c,rfl,hc,hr⟩:=hx
 obtain⟨A',c',rfl,jA,dS⟩:=hy
 have fY:=(fR x).lt
 have dO:=(fR y).lt;refine aY (args:=[_,_]) Tryz.func109 rfl rfl Tryz.ntmps109 rfl rfl fun w0=> ?_;refine ah [0,1] rfl ?_;refine ae (aa 1 rfl (ab [0,1] ?_));refine ao ?_
 by_cases mo:(al x).length=0
 ·
  skip
  refine ae (aa 2 rfl (aG true rfl rfl (gi (by omega)) (aa 5 rfl (ab [0,1,17] ?_))));refine cI rfl (ae (aa 1 rfl (ab [4] ?_)));refine az ⟨.inr rfl,_,.tmp rfl (.nil),?_⟩;exact⟨.refl _,by have:x=0:=(by rw[←cU x,List.eq_nil_of_length_eq_zero mo];rfl);rw[this,Nat.zero_mul];exact wF H⟩
 ·
  skip
  refine ae (aa 2 rfl (aG false rfl rfl (jn (by omega)) (aa 5 rfl (ab [0,1,17] ?_))));refine aD rfl (fun hb=> ?_) (fun hb=> ?_)
  ·
   have hb:(al y).length=0:=by simpa using hb
   refine ae (aa 1 rfl (ab [4] ?_));refine az ⟨.inr rfl,_,.tmp rfl (.nil),?_⟩;exact⟨.refl _,by have:y=0:=(by rw[←cU y,List.eq_nil_of_length_eq_zero hb];rfl);rw[this,Nat.mul_zero];exact wF H⟩
  have jm:(al y).length≠0:=by simpa using hb
  refine aw (ah [0,1] rfl ?_);refine ae (aa 4 rfl (aF rfl rfl ⟨by omega,by omega⟩ (gO Tryz.underlying98 eL rfl rfl rfl (by omega) (by omega) (by omega) (by omega) ?_)));intro g hg;rw[show (((al x).length:Int)+((al y).length:Int)).toNat=((al x).length+(al y).length)from by omega,yJ];have qv:=fun e=>hr.le (Heap.bI (g:=g) e hg);have FU:=fun e=>dS.le (Heap.bI (g:=g) e hg);refine aa 1 rfl (ab [0,1,5] ?_);refine ao (ae (aa 3 rfl (ab [0,1,5,25,26] ?_)));refine aE (fX (fun(i:Nat)(o:List Nat)=>(al x).length-i) (fun(i:Nat)(o:List Nat)=>put (put (put (put (put (emp) 0 (.val (.slice A (al x).length c))) 1 (.val (.slice A' (al y).length c'))) 5 (.val (.slice (some ⟨g,0,none⟩) ((al x).length+(al y).length) ((al x).length+(al y).length)))) 25 (.val (.int .i64 ((al x).length:Int)))) 26 (.val (.int .i64 (i:Int)))) (fun(i:Nat)(o:List Nat) H'=>H'=ins H g (dH o ((al x).length+(al y).length))∧i≤(al x).length∧o.length=((al x).length+(al y).length)∧Lt o∧rY o (i+(al y).length)∧val o=val ((al x).take i)*y) 0 _ (⟨rfl,by omega,by simp,Lt.replicate _,Vm _ _,by simp[val,Vc]⟩) ar ?_);rintro i o H1 ⟨rfl,hi,dX,eE,hz,hv⟩;refine ae ?_
  refine aa 1 rfl (ab [0,1,5,25,26,27] ?_);refine ao (aD rfl (fun hb=> ?_) (fun hb=> ?_))
  ·
   have hb:i<(al x).length:=by simpa using hb
   obtain⟨d,hd⟩:∃d,(al x)[i]? = some d:=⟨_,List.getElem?_eq_getElem hb⟩;have lU:=fY.get hd;rw[ck]at lU;refine aw (ah [0,1,5,25,26] rfl ?_);refine ao (aE (ae (aa 2 rfl (ab [0,1,5,6,25,26] ?_))));refine ae (aa 1 rfl (ab [0,1,5,6,7,25,26] ?_));refine ao (ae (aa 3 rfl (ab [0,1,5,6,7,25,26,30,31] ?_)));refine aE (fD (fun(j:Nat)(o2:List Nat)(cr:Nat)=>(al y).length-j) (fun(j:Nat)(o2:List Nat)(cr:Nat)=>put (put (put (put (put (put (put (put (put (emp) 0 (.val (.slice A (al x).length c))) 1 (.val (.slice A' (al y).length c'))) 5 (.val (.slice (some ⟨g,0,none⟩) ((al x).length+(al y).length) ((al x).length+(al y).length)))) 6 (.val (.int .i64 (i:Int)))) 7 (.val (.int .u64 (cr:Int)))) 25 (.val (.int .i64 ((al x).length:Int)))) 26 (.val (.int .i64 (i:Int)))) 30 (.val (.int .i64 ((al y).length:Int)))) 31 (.val (.int .i64 (j:Int)))) (fun(j:Nat)(o2:List Nat)(cr:Nat) H'=>H'=ins H g (dH o2 ((al x).length+(al y).length))∧j≤(al y).length∧o2.length=((al x).length+(al y).length)∧Lt o2∧cr<1000000000∧rY o2 (i+(al y).length)∧val o2+B^(i+j)*cr=val ((al x).take i)*y+B^i*d*val ((al y).take j)) 0 o 0 (⟨rfl,by omega,dX,eE,by omega,hz,by simp[val,hv]⟩) ar ?_)
   rintro j o2 cr H1 ⟨rfl,hj,FV,AQ,qu,pI,dT⟩;refine ae (aa 1 rfl (ab [0,1,5,6,7,25,26,30,31,32] ?_));refine ao (aD rfl (fun hb=> ?_) (fun hb=> ?_))
   ·
    have hb:j<(al y).length:=by simpa using hb
    obtain⟨p,hp⟩:∃p,(al y)[j]? = some p:=⟨_,List.getElem?_eq_getElem hb⟩;have yI:=dO.get hp;rw[ck]at yI;obtain⟨e,he⟩:∃e,o2[i+j]? = some e:=⟨_,List.getElem?_eq_getElem (by omega)⟩;have Dc:=AQ.get he;rw[ck]at Dc
    have AR:((i:Int)+(j:Int)).toNat=i+j:=by omega
    have Vi:d*p≤999999999*999999999:=Nat.mul_le_mul (by omega) (by omega)
    have Vj:(d:Int)*(p:Int)=((d*p:Nat):Int):=by simp
    refine aw (ah [0,1,5,6,7,25,26,30,31] rfl ?_);refine ao (aE (ae (aa 2 rfl (ab [0,1,5,6,7,8,25,26,30,31] ?_))));refine bN .bK [0,1,2,3,4,5,6,7,8,9,10,11,12,13,14,15,16,17,18,19,20,21] follows (by kernel_rfl) ?_;refine aa 2 rfl (aS ag rfl rfl rfl rfl rfl (qv _) (dC hd) (by omega) (by omega) fun _=>(dr ag rfl rfl rfl ⟨by omega,by omega⟩ (aa 2 rfl (aS ag rfl rfl rfl rfl rfl (FU _) (dC hp) (by omega) (by omega) fun _=>(dr ag rfl rfl rfl ⟨by omega,by omega⟩ (gZ rfl rfl ⟨by omega,by omega⟩ (aa 3 rfl (aF rfl rfl ⟨by omega,by omega⟩ (aS ag rfl rfl rfl rfl rfl (Kg _ _ _ _) (by rw[AR];exact dC he) (by omega) (by omega) fun _=> ?_)))))))));refine dr ag rfl rfl rfl ⟨by omega,by omega⟩ (aF rfl rfl ⟨by omega,by omega⟩ (aa 1 rfl (aF rfl rfl ⟨by omega,by omega⟩ (aa 1 rfl (ab [0,1,5,6,8,9,25,26,30,31] ?_)))));refine ae (aa 3 rfl (aF rfl rfl ⟨by omega,by omega⟩ (aa 1 rfl (mT rfl rfl (by omega) (by omega) (dr ag rfl rfl rfl ⟨by omega,by omega⟩ ?_)))));obtain⟨ti,aj,ak⟩:=oz;refine cT (.inl rfl) ag rfl rfl rfl (by omega) (by omega) (bC _ _ _) rfl (by rw[oD];omega) aj ak (fun _=>rfl) rfl rfl rfl fun _=> ?_
    refine ab [0,1,5,6,9,25,26,30,31] ?_;refine aA rfl (aa 1 rfl (lS rfl rfl (by omega) (by omega) ⟨by omega,by omega⟩ (aa 1 rfl (au (ah [0,1,5,6,7,25,26,30,31] rfl ?_)))));refine aA rfl (aF rfl rfl ⟨by omega,by omega⟩ (aa 1 rfl (au ?_)));refine⟨j+1,o2.set (i+j) ((d*p+e+cr)%B),(d*p+e+cr)/B,by omega,ar,by rw[vy (y:=(d*p+e+cr)%B) (by rw[ck];simp),AR],by omega,by simp[FV],AQ.set (Nat.mod_lt _ mU),by rw[ck];omega,pI.set (by omega),?_⟩;rw[kV hp];exact Vn he dT rfl
   have hb:(al y).length≤j:=by simpa using hb
   obtain rfl:j=(al y).length:=by omega
   rw[List.take_length,cU]at dT;refine aU (ah [0,1,5,6,7,25,26] rfl ?_);refine aA rfl (aa 4 rfl (aF rfl rfl ⟨by omega,by omega⟩ (aa 1 rfl (dr ag rfl rfl rfl ⟨by omega,by omega⟩ ?_))));obtain⟨ti,aj,ak⟩:=oz;refine cT (.inl rfl) ag rfl rfl rfl (by omega) (by omega) (bC _ _ _) rfl (by rw[oD];omega) aj ak (fun _=>rfl) rfl rfl rfl fun _=> ?_;refine au (ah [0,1,5,25,26] rfl ?_);refine aA rfl (aF rfl rfl ⟨by omega,by omega⟩ (aa 1 rfl (au ?_)));obtain⟨e,he⟩:∃e,o2[i+(al y).length]? = some e:=⟨_,List.getElem?_eq_getElem (by omega)⟩;have Ki:=pI _ _ (Nat.le_refl _) he;subst Ki;refine⟨i+1,o2.set (i+(al y).length) cr,by omega,ar,by rw[vy (y:=cr) rfl,show ((i:Int)+((al y).length:Int)).toNat=i+(al y).length by omega],by omega,by simp[FV],AQ.set (by rw[ck];omega),by rw[Nat.add_right_comm];exact pI.aeK,?_⟩;have h1:=Vb (y:=cr) he;rw[kV hd,Nat.add_mul]
   omega
  have hb:(al x).length≤i:=by simpa using hb
  obtain rfl:i=(al x).length:=by omega
  rw[List.take_length,cU]at hv;refine aU (ah [5] rfl ?_);refine ae (aa 1 rfl (aB rfl rfl (Kk (AM _ _ o _ _ dX.symm (Nat.le_refl _)) eE (by omega)) ?_));intro v1 H4 hp;refine aa 1 rfl (ab [4] ?_);refine az ⟨.inr rfl,_,.tmp rfl (.nil),?_⟩;exact⟨(Heap.bI _ hg).trans hp.le,by have:=hp.nat;rwa [hv]at this⟩
end Go.aq
namespace Num
theorem aeL{T V W vl wl head u2 top next bJ rest:Nat}(hV:V=vl+T*(next+B*top))(hW:W=wl+T*(u2+B*head))(pJ:wl<T)(hg:bJ*top+rest=head)(hc:rest*B+u2<bJ*next):W<bJ*V:=by
 have h1:u2+B*head+1≤bJ*(next+B*top):=by
  rw[←hg,Nat.mul_add,Nat.mul_add,Nat.mul_left_comm bJ B top,Nat.mul_comm B rest];omega
 have h2:T*(u2+B*head+1)≤T*(bJ*(next+B*top)):=Nat.mul_le_mul_left _ h1
 rw[hV,hW,Nat.mul_add bJ,Nat.mul_left_comm bJ T]
 rw[Nat.mul_add T _ 1]at h2
 omega
theorem aeM{T V W vl wl head u2 top next bJ rest:Nat}(hV:V=vl+T*(next+B*top))(hW:W=wl+T*(u2+B*head))(il:vl<T)(Dd:1≤top)(hg:bJ*top+rest=head)(hc:bJ*next≤rest*B+u2)(Kl:bJ<B):bJ*V<W+V:=by
 have h1:bJ*(next+B*top)≤u2+B*head:=by
  rw[←hg,Nat.mul_add,Nat.mul_add,Nat.mul_left_comm bJ B top,Nat.mul_comm B rest];omega
 have h2:T*(bJ*(next+B*top))≤T*(u2+B*head):=Nat.mul_le_mul_left _ h1
 have h3:bJ*vl≤bJ*T:=Nat.mul_le_mul_left _ (by omega)
 have h4:bJ*T<B*T:=Nat.mul_lt_mul_of_pos_right Kl (by omega)
 have h5:T*(B*1)≤T*(B*top):=Nat.mul_le_mul_left _ (Nat.mul_le_mul_left _ Dd)
 have h6:T*(B*1)=B*T:=by rw[Nat.mul_one,Nat.mul_comm]
 have h7:T*(next+B*top)=T*next+T*(B*top):=Nat.mul_add _ _ _
 have h8:bJ*V=bJ*vl+T*(bJ*(next+B*top)):=by rw[hV,Nat.mul_add,Nat.mul_left_comm bJ T]
 omega
theorem aeN{T V W vl wl head u2 top next:Nat}(hV:V=vl+T*(next+B*top))(hW:W=wl+T*(u2+B*head))(il:vl<T)(FW:next<B)(h:W<B*V):head<(top+1)*B:=by
 have h1:V<T*(B*(top+1)):=by
  have h2:T*(next+B*top+1)≤T*(B*(top+1)):=Nat.mul_le_mul_left _ (by rw[Nat.mul_add B top 1];omega)
  rw[Nat.mul_add T _ 1]at h2
  omega
 have h2:B*V<B*(T*(B*(top+1))):=Nat.mul_lt_mul_of_pos_left h1 mU
 have h3:T*(B*head)≤W:=by rw[hW,Nat.mul_add T u2];omega
 have h4:T*(B*head)<T*(B*((top+1)*B)):=by
  have:B*(T*(B*(top+1)))=T*(B*((top+1)*B)):=by rw[Nat.mul_left_comm B T,Nat.mul_comm (top+1) B]
  omega
 exact Nat.lt_of_mul_lt_mul_left (Nat.lt_of_mul_lt_mul_left h4)
theorem aeO{T V W vl wl head u2 top next bJ rest:Nat}(hV:V=vl+T*(next+B*top))(hW:W=wl+T*(u2+B*head))(il:vl<T)(FW:next<B)(hh:head<(top+1)*B)(hg:bJ*top+rest=head)(hr:B≤rest):bJ<B∧bJ*V≤W:=by
 have h0:bJ<B:=by
  have h1:bJ*top<B*top:=by rw[Nat.add_mul,Nat.one_mul,Nat.mul_comm top B]at hh;omega
  exact Nat.lt_of_mul_lt_mul_right h1
 refine⟨h0,?_⟩
 have h1:V≤T*(B*(top+1)):=by
  have h2:T*(next+B*top+1)≤T*(B*(top+1)):=Nat.mul_le_mul_left _ (by rw[Nat.mul_add B top 1];omega)
  rw[Nat.mul_add T _ 1]at h2
  omega
 have h2:bJ*V≤bJ*(T*(B*(top+1))):=Nat.mul_le_mul_left _ h1
 have h3:bJ*(T*(B*(top+1)))=T*(B*(bJ*(top+1))):=by rw[Nat.mul_left_comm bJ T,Nat.mul_left_comm bJ B]
 have h4:bJ*(top+1)≤head:=by rw[Nat.mul_add,Nat.mul_one];omega
 have h5:T*(B*(bJ*(top+1)))≤T*(B*head):=Nat.mul_le_mul_left _ (Nat.mul_le_mul_left _ h4)
 have h6:T*(B*head)≤W:=by rw[hW,Nat.mul_add T u2];omega
 omega
theorem Vo{bJ top rest head:Nat}(hg:bJ*top+rest=head)(h:0<bJ):(bJ-1)*top+(rest+top)=head:=by
 obtain⟨j,rfl⟩:∃j,bJ=j+1:=⟨bJ-1,by omega⟩
 rw[Nat.add_mul,Nat.one_mul]at hg
 rw[Nat.add_sub_cancel];omega
theorem aeP{V W bJ q:Nat}(hq:q=W/V)(hV:0<V)(h:bJ*V<W+V):bJ≤q+1:=by
 subst hq
 have h1:=Nat.div_add_mod W V
 have h2:=Nat.mod_lt W hV
 have h3:bJ*V<(W/V+2)*V:=by
  rw[Nat.add_mul]
  rw[Nat.mul_comm]at h1
  omega
 have:=Nat.lt_of_mul_lt_mul_right h3
 omega
theorem Oi{V W bJ q:Nat}(hq:q=W/V)(h:W<bJ*V):q<bJ:=by
 subst hq
 exact Nat.div_lt_of_lt_mul (by rwa [Nat.mul_comm]at h)
theorem aeQ{w:List Nat}{k p a b:Nat}(hl:w.length=k+3)(h0:w[k]? = some p)(h1:w[k+1]? = some a)(h2:w[k+2]? = some b):val w=val (w.take k)+B^k*(p+B*(b*B+a)):=by
 rw[J8 h0,C8 h1,C8 h2,List.drop_eq_nil_of_le (by omega),jC,jC]
 simp only[val,Nat.mul_zero,Nat.add_zero]
 rw[Nat.mul_comm b B,Nat.add_comm a]
theorem aeR{w:List Nat}{k p a:Nat}(hl:w.length=k+2)(h0:w[k]? = some p)(h1:w[k+1]? = some a):val w=val (w.take k)+B^k*(p+B*a):=by
 rw[J8 h0,C8 h1,List.drop_eq_nil_of_le (by omega),jC]
 simp only[val,Nat.mul_zero,Nat.add_zero]
theorem De{w:List Nat}{k:Nat}(h:Lt w)(hk:k≤w.length):val (w.take k)<B^k:=by
 have:=vu (h.take k)
 rwa [List.length_take,Nat.min_eq_left hk]at this
theorem aeS{n V W X un br bJ q:Nat}(hW:W=X+B^n*un){Y:Nat}(hX:X+B^n*br=Y+bJ*V)(vz:br≤un)(hq:q=W/V)(FX:q≤bJ)(hV:0<V):bJ=q∧Y+B^n*(un-br)=W%V:=by
 have h1:B^n*un=B^n*(un-br)+B^n*br:=by rw[←Nat.mul_add,Nat.sub_add_cancel vz]
 have h2:W=Y+B^n*(un-br)+bJ*V:=by omega
 have h3:bJ≤q:=by
  rw[hq,Nat.le_div_iff_mul_le hV];omega
 have h4:bJ=q:=by omega
 refine⟨h4,?_⟩
 have h5:=Nat.div_add_mod W V
 rw[←hq,←h4,Nat.mul_comm]at h5
 omega
theorem aeT{n V W X un br bJ q:Nat}(hW:W=X+B^n*un){Y Z cr:Nat}(hX:X+B^n*br=Y+bJ*V)(vz:un<br)(hq:q=W/V)(eu:bJ≤q+1)(hV:0<V)(hVn:V<B^n)(hY:Y<B^n)(hZ:Z<B^n)(hZY:Z+B^n*cr=Y+V):bJ=q+1∧un+cr=br∧Z=W%V:=by
 have h0:B^n*br=B^n*un+B^n*(br-un):=by rw[←Nat.mul_add];congr 1;omega
 have h1:W+B^n*(br-un)=Y+bJ*V:=by omega
 have FI:B^n*1≤B^n*(br-un):=Nat.mul_le_mul_left _ (by omega)
 have h2:W<bJ*V:=by omega
 have h3:=Oi hq h2
 have h4:bJ=q+1:=by omega
 have h5:=Nat.div_add_mod W V
 have h6:=Nat.mod_lt W hV
 rw[←hq,Nat.mul_comm]at h5
 have h7:bJ*V=q*V+V:=by rw[h4,Nat.add_mul,Nat.one_mul]
 have h8:W%V+B^n*(br-un)=Z+B^n*cr:=by omega
 have h9:br-un=cr:=by
  have e1:(W%V+B^n*(br-un))/B^n=br-un:=by
   rw[Nat.add_mul_div_left _ _ (by omega),Nat.div_eq_of_lt (by omega),Nat.zero_add]
  have e2:(Z+B^n*cr)/B^n=cr:=by
   rw[Nat.add_mul_div_left _ _ (by omega),Nat.div_eq_of_lt (by omega),Nat.zero_add]
  rw[←e1,←e2,h8]
 subst h9
 exact⟨h4,by omega,by omega⟩
theorem Oj(a b:List Nat):val (a++b)=val a+B^a.length*val b:=by
 induction a with
 | nil=>simp[val]
 | cons x a ih=>
  rw[List.cons_append,jC,jC,ih,List.length_cons,Nat.pow_succ,Nat.mul_add,Nat.mul_comm (B^a.length) B,Nat.mul_assoc];omega
theorem FY(l:List Nat){k:Nat}(hk:k≤l.length):val l=val (l.take k)+B^k*val (l.drop k):=by
 have:=Oj (l.take k) (l.drop k)
 rwa [List.take_append_drop,List.length_take,Nat.min_eq_left hk]at this
theorem Vp{l:List Nat}{j n V:Nat}(tI:Lt l)(hlen:j+n+1≤l.length)(hd:val (l.drop (j+1))<V)(hV:V≤B^n):
  val (l.drop (j+n+1))=0∧val (l.drop j)=val ((l.drop j).take (n+1))∧val ((l.drop j).take (n+1))<B*V:=by
 have h1:=FY (l.drop (j+1)) (k:=n) (by simp;omega)
 rw[List.drop_drop,show j+1+n=j+n+1 by omega]at h1
 have h0:val (l.drop (j+n+1))=0:=by
  rcases Nat.eq_zero_or_pos (val (l.drop (j+n+1)))with e | e
  ·exact e
  ·have:B^n*1≤B^n*val (l.drop (j+n+1)):=Nat.mul_le_mul_left _ e
   omega
 have h2:=FY (l.drop j) (k:=n+1) (by simp;omega)
 rw[List.drop_drop,show j+(n+1)=j+n+1 by omega,h0,Nat.mul_zero,Nat.add_zero]at h2
 refine⟨h0,h2,?_⟩
 rw[←h2]
 have hj:l[j]? = some l[j]:=List.getElem?_eq_getElem (by omega)
 rw[C8 hj,jC]
 have h3:=tI.get hj
 have h4:B*(val (l.drop (j+1))+1)≤B*V:=Nat.mul_le_mul_left _ hd
 rw[Nat.mul_add]at h4
 omega
theorem aeU{l o w':List Nat}{j n V S q:Nat}(tI:Lt l)(hlen:j+n+1≤l.length)(hd:val (l.drop (j+1))<V)(hV:V≤B^n)(ho:j<o.length)
  (hinv:val (o.drop (j+1))*V*B^(j+1)+val l=S) (hq:q=val ((l.drop j).take (n+1))/V) (hw:val w'=val ((l.drop j).take (n+1))%V) (pJ:w'.length=n+1):
  val ((o.set j q).drop j)*V*B^j+val (l.take j++w'++l.drop (j+n+1))=S∧val ((l.take j++w'++l.drop (j+n+1)).drop j)<V:=by
 obtain⟨h0,h1,h2⟩:=Vp tI hlen hd hV
 have e1:=FY l (k:=j) (by omega)
 have e2:val (w'++l.drop (j+n+1))=val w':=by rw[Oj,h0,Nat.mul_zero,Nat.add_zero]
 have e3:val (l.take j++w'++l.drop (j+n+1))=val (l.take j)+B^j*val w':=by
  rw[List.append_assoc,Oj,e2,List.length_take,Nat.min_eq_left (by omega)]
 have e4:=Nat.div_add_mod (val ((l.drop j).take (n+1))) V
 rw[←hq,←hw]at e4
 refine⟨?_,?_⟩
 ·rw[set_drop ho,jC,e3]
  rw[h1,←e4]at e1
  have e5:(q+B*val (o.drop (j+1)))*V*B^j=B^j*(V*q)+val (o.drop (j+1))*V*B^(j+1):=by
   rw[Nat.add_mul,Nat.add_mul,Nat.pow_succ,Nat.mul_comm q V,Nat.mul_comm (V*q),Nat.mul_assoc B,Nat.mul_comm (B^j) B,Nat.mul_left_comm _ B,Nat.mul_assoc B]
  rw[Nat.mul_add]at e1
  omega
 ·rw[List.append_assoc,List.drop_append_of_le_length (by simp;omega),List.drop_of_length_le (by rw[List.length_take];omega),List.nil_append,e2,hw]
  exact Nat.mod_lt _ (by omega)
theorem aeV{l:List Nat}{x sc n m y:Nat}(hm:m≤l.length)(hl:val l=x*sc)(hx:x<B^(m+(n-1)))(hy:B^(n-1)≤y)(hs:0<sc):val (l.drop m)<y*sc:=by
 have h1:=FY l hm
 have h2:B^m*val (l.drop m)<B^m*(y*sc):=by
  have a1:x*sc<B^(m+(n-1))*sc:=Nat.mul_lt_mul_of_pos_right hx hs
  have a2:B^(m+(n-1))*sc≤B^m*(y*sc):=by
   rw[Nat.pow_add,Nat.mul_assoc]
   exact Nat.mul_le_mul_left _ (Nat.mul_le_mul_right _ hy)
  omega
 exact Nat.lt_of_mul_lt_mul_left h2
theorem aeW{Q R x y sc:Nat}(h:Q*(y*sc)+R=x*sc)(hR:R<y*sc)(hs:0<sc):Q=x/y∧R/sc=x%y:=by
 have h1:x*sc/(y*sc)=Q:=by
  rw[←h,Nat.mul_comm Q,Nat.mul_add_div (by omega),Nat.div_eq_of_lt hR,Nat.add_zero]
 have h2:x*sc%(y*sc)=R:=by
  rw[←h,Nat.mul_comm Q,Nat.mul_add_mod,Nat.mod_eq_of_lt hR]
 rw[Nat.mul_div_mul_right _ _ hs]at h1
 rw[Nat.mul_mod_mul_right]at h2
 exact⟨h1.symm,by rw[←h2,Nat.mul_div_cancel _ hs]⟩
end Num
