/- Part 2 of the proof: Ty, Num, Dat, Nat1, Nat2, Nat3, Nat4, Nat5, Nat6, Nat7, Nat8, Knu. -/
import Derived.Test.YtdjoookebbbjkaaGreatA01
import Derived.Test.YtdjoookebbbjkaaGreatProg
import Derived.KernelRfl
set_option linter.unusedVariables false
namespace Go.aq
open Go.Proofs
def tb:Tb:=[
 .no,.no,.it .i64,.it .i64,.ce,.it .u8,.it .u8,.st 4 [(0,1),(1,1),(2,1),(3,1)],
 .no,.no,.no,.no,.it .u64,.st 2 [(0,1),(1,1)],.no,.ce,
 .ce,.ce,.st 1 [(0,1)],.no,.no,.it .i32,.sl 25 2,.sl 43 2,
 .st 2 [(0,1),(1,1)],.st 2 [(0,1),(1,1)],.no,.no,.sl 38 3,.it .i64,.no,.no,
 .no,.no,.no,.no,.sl 74 1,.st 3 [(0,1),(1,1),(2,1)],.st 3 [(0,1),(1,1),(2,1)],.no,
 .no,.no,.st 2 [(0,1),(1,1)],.st 2 [(0,1),(1,1)],.no,.no,.no,.no,
 .no,.sl 3 1,.no,.no,.sl 4 1,.sl 80 5,.st 2 [(0,1),(1,1)],.st 2 [(0,1),(1,1)],
 .no,.no,.no,.no,.no,.no,.no,.no,
 .st 7 [(0,1),(1,3),(4,1),(5,1),(6,1)],.st 7 [(0,1),(1,3),(4,1),(5,1),(6,1)],.no,.no,.no,.no,.no,.no,
 .no,.it .u64,.it .u32,.no,.no,.no,.no,.st 5 [(0,1),(1,1),(2,3)],
 .st 5 [(0,1),(1,1),(2,3)],.no,.no,.no,.sl 28 1,.st 2 [(0,1),(1,1)],.st 2 [(0,1),(1,1)],.no,
 .no,.no,.no,.no,.no,.no,.no,.no,
 .no,.no,.sl 74 1,.st 3 [(0,1),(1,1),(2,1)],.st 3 [(0,1),(1,1),(2,1)],.no,.no,.no,
 .no,.no,.no,.no,.no,.no,.no,.no,
 .no,.no,.ce,.no,.no,.sl 121 3,.no,.ce,
 .st 3 [(0,1),(1,1),(2,1)],.st 3 [(0,1),(1,1),(2,1)],.no,.no,.no,.sl 117 1,.st 9 [(0,1),(1,1),(2,1),(3,1),(4,1),(5,1),(6,1),(7,1),(8,1)],.st 9 [(0,1),(1,1),(2,1),(3,1),(4,1),(5,1),(6,1),(7,1),(8,1)],
 .no,.no,.no,.no,.ce,.sl 136 1,.st 3 [(0,1),(1,1),(2,1)],.st 3 [(0,1),(1,1),(2,1)],
 .sl 138 2,.st 2 [(0,1),(1,1)],.st 2 [(0,1),(1,1)],.no,.no,.no,.no,.no,
 .no,.no,.no,.no,.no,.it .u64,.no,.no,
 .no,.no,.no,.no,.no,.no,.no,.no,
 .no,.no,.no,.no,.no,.no,.no,.it .i64,
 .no,.no,.no,.no,.no,.no,.no,.no,
 .no,.no,.no,.no,.no,.no,.no,.it .u64,
 .no,.no,.no,.ce,.no,.no,.no,.no,
 .no,.no,.no,.ce,.no,.no,.no,.st 4 [(0,1),(1,1),(2,1),(3,1)],
 .no,.no,.no,.no,.it .u8,.it .u8,.no,.ce,
 .it .i32,.it .i32,.st 11 [(0,1),(1,1),(2,1),(3,1),(4,1),(5,1),(6,1),(7,1),(8,1),(9,1),(10,1)]]
def FP(P:Program):Nat→Tb→Prop
 | _,[]=>True
 | k,x::r=>ck P k x∧FP P (k+1) r
theorem FP.out{P:Program}:∀(r:Tb)(k:Nat),FP P k r→∀(t:Nat)(x:Ti),r[t]? = some x→ck P (k+t) x:=by
 intro r
 induction r with
 | nil=>intro k _ t x h;simp at h
 | cons y r ih=>
  intro k h t x hx
  cases t with
  | zero=>simp only[List.getElem?_cons_zero,Option.some.injEq]at hx;subst hx;exact h.1
  | succ t=>have:=ih (k+1) h.2 t x (by simpa using hx);rwa [show k+(t+1)=k+1+t by omega]
theorem qi{P:Program}{t e sz:Nat}(hu:P.underlying t=some (.slice e))(h:(P.info? e).map (·.size)=some sz):ck P t (.sl e sz):=by
 refine⟨hu,?_⟩
 cases hi:P.info? e with
 | none=>rw[hi]at h;cases h
 | some i=>rw[hi]at h;exact⟨i,rfl,by simpa using h⟩
theorem nA{P:Program}{t:Nat}{k:IntKind}(hu:P.underlying t=some (.int k)):ck P t (.it k):=hu
theorem u0{P:Program}{t:Nat}{d:TypeDesc}(hu:P.underlying t=some d)(h:(match d with | .struct _ | .array .. =>false | _=>true)=true):ck P t .ce:=
 ⟨d,hu,(fun _ e=>by subst e;cases h),(fun _ _ e=>by subst e;cases h)⟩
def J3(P:Program)(fs:List Field)(ps:List (Nat×Nat)):Bool:=
 match fs,ps with
 | [],[]=>true
 | f::fs,p::ps=>Nat.beq f.offset p.1&&(match P.info? f.type with | some j=>Nat.beq j.size p.2 | none=>false) && !Nat.beq p.2 0&&J3 P fs ps
 | _,_=>false
theorem ac1{P:Program}:∀(fs:List Field)(ps:List (Nat×Nat)),J3 P fs ps=true→fs.length=ps.length∧∀(f:Nat)(p:Nat×Nat),ps[f]? = some p→∃fd j,fs[f]? = some fd∧fd.offset=p.1∧P.info? fd.type=some j∧j.size=p.2∧p.2≠0:=by
 intro fs
 induction fs with
 | nil=>intro ps h;cases ps with
  | nil=>exact⟨rfl,fun f p hp=>by simp at hp⟩
  | cons p ps=>cases h
 | cons fd fs ih=>intro ps h;cases ps with
  | nil=>cases h
  | cons p ps=>
   simp only[J3,Bool.and_eq_true]at h
   obtain⟨⟨⟨h1,h2⟩,h3⟩,h4⟩:=h
   obtain⟨h5,h6⟩:=ih ps h4
   refine⟨by simp[h5],fun f q hq=> ?_⟩
   cases f with
   | zero=>
    simp only[List.getElem?_cons_zero,Option.some.injEq]at hq
    subst hq
    cases hj:P.info? fd.type with
    | none=>rw[hj]at h2;cases h2
    | some j=>
     rw[hj]at h2
     exact⟨fd,j,rfl,Nat.eq_of_beq_eq_true h1,hj,Nat.eq_of_beq_eq_true h2,fun e=>by rw[e]at h3;cases h3⟩
   | succ f=>obtain⟨fd',j,h7⟩:=h6 f q (by simpa using hq);exact⟨fd',j,by simpa using h7⟩
theorem iC{P:Program}{t n:Nat}{fs:List Field}{ps:List (Nat×Nat)}(hu:P.underlying t=some (.struct fs.toArray))(h:(P.info? t).map (·.size)=some n)(hf:J3 P fs ps=true):ck P t (.st n ps):=by
 cases hi:P.info? t with
 | none=>rw[hi]at h;cases h
 | some i=>
  obtain⟨h1,h2⟩:=ac1 fs ps hf
  rw[hi]at h
  exact⟨fs.toArray,i,hu,hi,by simpa using h,by simpa using h1,fun f p hp=>by obtain⟨fd,j,h3⟩:=h2 f p hp;exact⟨fd,j,by simpa using h3⟩⟩
theorem jm{P:Program}{e sz bytes:Nat}{z:Value}(h:(P.info? e).map (fun i=>(i.zero,i.size,i.bytes))=some (some z,sz,bytes))(hz:z.cells.size=sz)(hp:0<sz):fA P e sz z bytes:=by
 cases hi:P.info? e with
 | none=>rw[hi]at h;cases h
 | some i=>
  rw[hi]at h
  simp only[Option.map_some,Option.some.injEq,Prod.mk.injEq]at h
  exact⟨i,hi,h.1,h.2.1,h.2.2,hz,hp⟩
theorem ti2:ck Tryz.prog 2 (.it .i64):=nA Tryz.underlying2
theorem ti3:ck Tryz.prog 3 (.it .i64):=nA Tryz.underlying3
theorem ti4:ck Tryz.prog 4 (.ce):=u0 Tryz.underlying4 rfl
theorem ti5:ck Tryz.prog 5 (.it .u8):=nA Tryz.underlying5
theorem UR:ck Tryz.prog 6 (.it .u8):=nA Tryz.underlying6
theorem ti7:ck Tryz.prog 7 (.st 4 [(0,1),(1,1),(2,1),(3,1)]):=iC Tryz.underlying7 (by kernel_rfl) (by kernel_rfl)
theorem ac2:ck Tryz.prog 12 (.it .u64):=nA Tryz.underlying12
theorem ac3:ck Tryz.prog 13 (.st 2 [(0,1),(1,1)]):=iC Tryz.underlying13 (by kernel_rfl) (by kernel_rfl)
theorem ac4:ck Tryz.prog 15 (.ce):=u0 Tryz.underlying15 rfl
theorem ac5:ck Tryz.prog 16 (.ce):=u0 Tryz.underlying16 rfl
theorem ac6:ck Tryz.prog 17 (.ce):=u0 Tryz.underlying17 rfl
theorem ac7:ck Tryz.prog 18 (.st 1 [(0,1)]):=iC Tryz.underlying18 (by kernel_rfl) (by kernel_rfl)
theorem Oe:ck Tryz.prog 21 (.it .i32):=nA Tryz.underlying21
theorem ac8:ck Tryz.prog 22 (.sl 25 2):=qi Tryz.underlying22 (by kernel_rfl)
theorem US:ck Tryz.prog 23 (.sl 43 2):=qi Tryz.underlying23 (by kernel_rfl)
theorem ac9:ck Tryz.prog 24 (.st 2 [(0,1),(1,1)]):=iC Tryz.underlying24 (by kernel_rfl) (by kernel_rfl)
theorem ada:ck Tryz.prog 25 (.st 2 [(0,1),(1,1)]):=iC Tryz.underlying25 (by kernel_rfl) (by kernel_rfl)
theorem Of:ck Tryz.prog 28 (.sl 38 3):=qi Tryz.underlying28 (by kernel_rfl)
theorem J4:ck Tryz.prog 29 (.it .i64):=nA Tryz.underlying29
theorem adb:ck Tryz.prog 36 (.sl 74 1):=qi Tryz.underlying36 (by kernel_rfl)
theorem ade:ck Tryz.prog 37 (.st 3 [(0,1),(1,1),(2,1)]):=iC Tryz.underlying37 (by kernel_rfl) (by kernel_rfl)
theorem adf:ck Tryz.prog 38 (.st 3 [(0,1),(1,1),(2,1)]):=iC Tryz.underlying38 (by kernel_rfl) (by kernel_rfl)
theorem adg:ck Tryz.prog 42 (.st 2 [(0,1),(1,1)]):=iC Tryz.underlying42 (by kernel_rfl) (by kernel_rfl)
theorem adh:ck Tryz.prog 43 (.st 2 [(0,1),(1,1)]):=iC Tryz.underlying43 (by kernel_rfl) (by kernel_rfl)
theorem adi:ck Tryz.prog 49 (.sl 3 1):=qi Tryz.underlying49 (by kernel_rfl)
theorem adj:ck Tryz.prog 52 (.sl 4 1):=qi Tryz.underlying52 (by kernel_rfl)
theorem adk:ck Tryz.prog 53 (.sl 80 5):=qi Tryz.underlying53 (by kernel_rfl)
theorem adl:ck Tryz.prog 54 (.st 2 [(0,1),(1,1)]):=iC Tryz.underlying54 (by kernel_rfl) (by kernel_rfl)
theorem adm:ck Tryz.prog 55 (.st 2 [(0,1),(1,1)]):=iC Tryz.underlying55 (by kernel_rfl) (by kernel_rfl)
theorem adn:ck Tryz.prog 64 (.st 7 [(0,1),(1,3),(4,1),(5,1),(6,1)]):=iC Tryz.underlying64 (by kernel_rfl) (by kernel_rfl)
theorem ado:ck Tryz.prog 65 (.st 7 [(0,1),(1,3),(4,1),(5,1),(6,1)]):=iC Tryz.underlying65 (by kernel_rfl) (by kernel_rfl)
theorem adp:ck Tryz.prog 73 (.it .u64):=nA Tryz.underlying73
theorem adq:ck Tryz.prog 74 (.it .u32):=nA Tryz.underlying74
theorem adr:ck Tryz.prog 79 (.st 5 [(0,1),(1,1),(2,3)]):=iC Tryz.underlying79 (by kernel_rfl) (by kernel_rfl)
theorem ads:ck Tryz.prog 80 (.st 5 [(0,1),(1,1),(2,3)]):=iC Tryz.underlying80 (by kernel_rfl) (by kernel_rfl)
theorem adt:ck Tryz.prog 84 (.sl 28 1):=qi Tryz.underlying84 (by kernel_rfl)
theorem adu:ck Tryz.prog 85 (.st 2 [(0,1),(1,1)]):=iC Tryz.underlying85 (by kernel_rfl) (by kernel_rfl)
theorem adv:ck Tryz.prog 86 (.st 2 [(0,1),(1,1)]):=iC Tryz.underlying86 (by kernel_rfl) (by kernel_rfl)
theorem adw:ck Tryz.prog 98 (.sl 74 1):=qi Tryz.underlying98 (by kernel_rfl)
theorem adx:ck Tryz.prog 99 (.st 3 [(0,1),(1,1),(2,1)]):=iC Tryz.underlying99 (by kernel_rfl) (by kernel_rfl)
theorem ady:ck Tryz.prog 100 (.st 3 [(0,1),(1,1),(2,1)]):=iC Tryz.underlying100 (by kernel_rfl) (by kernel_rfl)
theorem adz:ck Tryz.prog 114 (.ce):=u0 Tryz.underlying114 rfl
theorem adA:ck Tryz.prog 117 (.sl 121 3):=qi Tryz.underlying117 (by kernel_rfl)
theorem adB:ck Tryz.prog 119 (.ce):=u0 Tryz.underlying119 rfl
theorem adC:ck Tryz.prog 120 (.st 3 [(0,1),(1,1),(2,1)]):=iC Tryz.underlying120 (by kernel_rfl) (by kernel_rfl)
theorem adD:ck Tryz.prog 121 (.st 3 [(0,1),(1,1),(2,1)]):=iC Tryz.underlying121 (by kernel_rfl) (by kernel_rfl)
theorem adE:ck Tryz.prog 125 (.sl 117 1):=qi Tryz.underlying125 (by kernel_rfl)
theorem adF:ck Tryz.prog 126 (.st 9 [(0,1),(1,1),(2,1),(3,1),(4,1),(5,1),(6,1),(7,1),(8,1)]):=iC Tryz.underlying126 (by kernel_rfl) (by kernel_rfl)
theorem adG:ck Tryz.prog 127 (.st 9 [(0,1),(1,1),(2,1),(3,1),(4,1),(5,1),(6,1),(7,1),(8,1)]):=iC Tryz.underlying127 (by kernel_rfl) (by kernel_rfl)
theorem adH:ck Tryz.prog 132 (.ce):=u0 Tryz.underlying132 rfl
theorem adI:ck Tryz.prog 133 (.sl 136 1):=qi Tryz.underlying133 (by kernel_rfl)
theorem adJ:ck Tryz.prog 134 (.st 3 [(0,1),(1,1),(2,1)]):=iC Tryz.underlying134 (by kernel_rfl) (by kernel_rfl)
theorem adK:ck Tryz.prog 135 (.st 3 [(0,1),(1,1),(2,1)]):=iC Tryz.underlying135 (by kernel_rfl) (by kernel_rfl)
theorem adL:ck Tryz.prog 136 (.sl 138 2):=qi Tryz.underlying136 (by kernel_rfl)
theorem adM:ck Tryz.prog 137 (.st 2 [(0,1),(1,1)]):=iC Tryz.underlying137 (by kernel_rfl) (by kernel_rfl)
theorem adN:ck Tryz.prog 138 (.st 2 [(0,1),(1,1)]):=iC Tryz.underlying138 (by kernel_rfl) (by kernel_rfl)
theorem adO:ck Tryz.prog 149 (.it .u64):=nA Tryz.underlying149
theorem adP:ck Tryz.prog 167 (.it .i64):=nA Tryz.underlying167
theorem adQ:ck Tryz.prog 183 (.it .u64):=nA Tryz.underlying183
theorem adR:ck Tryz.prog 187 (.ce):=u0 Tryz.underlying187 rfl
theorem adS:ck Tryz.prog 195 (.ce):=u0 Tryz.underlying195 rfl
theorem adT:ck Tryz.prog 199 (.st 4 [(0,1),(1,1),(2,1),(3,1)]):=iC Tryz.underlying199 (by kernel_rfl) (by kernel_rfl)
theorem adU:ck Tryz.prog 204 (.it .u8):=nA Tryz.underlying204
theorem adV:ck Tryz.prog 205 (.it .u8):=nA Tryz.underlying205
theorem adW:ck Tryz.prog 207 (.ce):=u0 Tryz.underlying207 rfl
theorem adX:ck Tryz.prog 208 (.it .i32):=nA Tryz.underlying208
theorem adY:ck Tryz.prog 209 (.it .i32):=nA Tryz.underlying209
theorem adZ:ck Tryz.prog 210 (.st 11 [(0,1),(1,1),(2,1),(3,1),(4,1),(5,1),(6,1),(7,1),(8,1),(9,1),(10,1)]):=iC Tryz.underlying210 (by kernel_rfl) (by kernel_rfl)
set_option maxRecDepth 10000 in
theorem ad0:FP Tryz.prog 0 tb:=⟨trivial,trivial,ti2,ti3,ti4,ti5,UR,ti7,trivial,trivial,trivial,trivial,ac2,ac3,trivial,ac4,ac5,ac6,ac7,trivial,trivial,Oe,ac8,US,ac9,ada,trivial,trivial,Of,J4,trivial,trivial,trivial,trivial,trivial,trivial,adb,ade,adf,trivial,trivial,trivial,adg,adh,trivial,trivial,trivial,trivial,trivial,adi,trivial,trivial,adj,adk,adl,adm,trivial,trivial,trivial,trivial,trivial,trivial,trivial,trivial,adn,ado,trivial,trivial,trivial,trivial,trivial,trivial,trivial,adp,adq,trivial,trivial,trivial,trivial,adr,ads,trivial,trivial,trivial,adt,adu,adv,trivial,trivial,trivial,trivial,trivial,trivial,trivial,trivial,trivial,trivial,trivial,adw,adx,ady,trivial,trivial,trivial,trivial,trivial,trivial,trivial,trivial,trivial,trivial,trivial,trivial,trivial,adz,trivial,trivial,adA,trivial,adB,adC,adD,trivial,trivial,trivial,adE,adF,adG,trivial,trivial,trivial,trivial,adH,adI,adJ,adK,adL,adM,adN,trivial,trivial,trivial,trivial,trivial,trivial,trivial,trivial,trivial,trivial,adO,trivial,trivial,trivial,trivial,trivial,trivial,trivial,trivial,trivial,trivial,trivial,trivial,trivial,trivial,trivial,trivial,trivial,adP,trivial,trivial,trivial,trivial,trivial,trivial,trivial,trivial,trivial,trivial,trivial,trivial,trivial,trivial,trivial,adQ,trivial,trivial,trivial,adR,trivial,trivial,trivial,trivial,trivial,trivial,trivial,adS,trivial,trivial,trivial,adT,trivial,trivial,trivial,trivial,adU,adV,trivial,adW,adX,adY,adZ,trivial⟩
theorem ag:jX Tryz.prog tb:=fun t x h=>by have:=FP.out tb 0 ad0 t x h;rwa [Nat.zero_add]at this
theorem follows:Tryz.prog.follows .mixedOrders=true:=by kernel_rfl
theorem el2:fA Tryz.prog 2 1 (.int .i64 0) 8:=jm (by kernel_rfl) rfl (by decide)
theorem qj:∃i,Tryz.prog.info? 2=some i∧i.size=1:=by obtain⟨i,h,_,h2,_⟩:=el2;exact⟨i,h,h2⟩
theorem fC:fA Tryz.prog 3 1 (.int .i64 0) 8:=jm (by kernel_rfl) rfl (by decide)
theorem u6:∃i,Tryz.prog.info? 3=some i∧i.size=1:=by obtain⟨i,h,_,h2,_⟩:=fC;exact⟨i,h,h2⟩
theorem FQ:fA Tryz.prog 4 1 (.bool false) 1:=jm (by kernel_rfl) rfl (by decide)
theorem Dd:∃i,Tryz.prog.info? 4=some i∧i.size=1:=by obtain⟨i,h,_,h2,_⟩:=FQ;exact⟨i,h,h2⟩
theorem il:fA Tryz.prog 25 2 (.agg #[.int .i64 0,.slice none 0 0]) 32:=jm (by kernel_rfl) rfl (by decide)
theorem yL:∃i,Tryz.prog.info? 25=some i∧i.size=2:=by obtain⟨i,h,_,h2,_⟩:=il;exact⟨i,h,h2⟩
theorem AX:fA Tryz.prog 28 1 (.slice none 0 0) 24:=jm (by kernel_rfl) rfl (by decide)
theorem J5:∃i,Tryz.prog.info? 28=some i∧i.size=1:=by obtain⟨i,h,_,h2,_⟩:=AX;exact⟨i,h,h2⟩
theorem bQ:fA Tryz.prog 38 3 (.agg #[.bool false,.slice none 0 0,.slice none 0 0]) 56:=jm (by kernel_rfl) rfl (by decide)
theorem aU:∃i,Tryz.prog.info? 38=some i∧i.size=3:=by obtain⟨i,h,_,h2,_⟩:=bQ;exact⟨i,h,h2⟩
theorem rK:fA Tryz.prog 43 2 (.agg #[.int .i64 0,.int .i64 0]) 16:=jm (by kernel_rfl) rfl (by decide)
theorem J6:∃i,Tryz.prog.info? 43=some i∧i.size=2:=by obtain⟨i,h,_,h2,_⟩:=rK;exact⟨i,h,h2⟩
theorem ad1:fA Tryz.prog 49 1 (.slice none 0 0) 24:=jm (by kernel_rfl) rfl (by decide)
theorem vc:∃i,Tryz.prog.info? 49=some i∧i.size=1:=by obtain⟨i,h,_,h2,_⟩:=ad1;exact⟨i,h,h2⟩
theorem ad2:fA Tryz.prog 52 1 (.slice none 0 0) 24:=jm (by kernel_rfl) rfl (by decide)
theorem ad3:∃i,Tryz.prog.info? 52=some i∧i.size=1:=by obtain⟨i,h,_,h2,_⟩:=ad2;exact⟨i,h,h2⟩
theorem ad4:fA Tryz.prog 53 1 (.slice none 0 0) 24:=jm (by kernel_rfl) rfl (by decide)
theorem Og:∃i,Tryz.prog.info? 53=some i∧i.size=1:=by obtain⟨i,h,_,h2,_⟩:=ad4;exact⟨i,h,h2⟩
theorem wF:fA Tryz.prog 55 2 (.agg #[.slice none 0 0,.slice none 0 0]) 48:=jm (by kernel_rfl) rfl (by decide)
theorem De:∃i,Tryz.prog.info? 55=some i∧i.size=2:=by obtain⟨i,h,_,h2,_⟩:=wF;exact⟨i,h,h2⟩
theorem vd:fA Tryz.prog 65 7 (.agg #[.int .i64 0,.bool false,.slice none 0 0,.slice none 0 0,.slice none 0 0,.slice none 0 0,.slice none 0 0]) 136:=jm (by kernel_rfl) rfl (by decide)
theorem pD:∃i,Tryz.prog.info? 65=some i∧i.size=7:=by obtain⟨i,h,_,h2,_⟩:=vd;exact⟨i,h,h2⟩
theorem eH:fA Tryz.prog 74 1 (.int .u32 0) 4:=jm (by kernel_rfl) rfl (by decide)
theorem ou:∃i,Tryz.prog.info? 74=some i∧i.size=1:=by obtain⟨i,h,_,h2,_⟩:=eH;exact⟨i,h,h2⟩
theorem jx:fA Tryz.prog 80 5 (.agg #[.slice none 0 0,.int .i64 0,.bool false,.slice none 0 0,.slice none 0 0]) 88:=jm (by kernel_rfl) rfl (by decide)
theorem nB:∃i,Tryz.prog.info? 80=some i∧i.size=5:=by obtain⟨i,h,_,h2,_⟩:=jx;exact⟨i,h,h2⟩
theorem ad5:fA Tryz.prog 84 1 (.slice none 0 0) 24:=jm (by kernel_rfl) rfl (by decide)
theorem J7:∃i,Tryz.prog.info? 84=some i∧i.size=1:=by obtain⟨i,h,_,h2,_⟩:=ad5;exact⟨i,h,h2⟩
theorem J8:fA Tryz.prog 86 2 (.agg #[.slice none 0 0,.slice none 0 0]) 48:=jm (by kernel_rfl) rfl (by decide)
theorem Oh:∃i,Tryz.prog.info? 86=some i∧i.size=2:=by obtain⟨i,h,_,h2,_⟩:=J8;exact⟨i,h,h2⟩
theorem jY:fA Tryz.prog 100 3 (.agg #[.bool false,.slice none 0 0,.slice none 0 0]) 56:=jm (by kernel_rfl) rfl (by decide)
theorem iY:∃i,Tryz.prog.info? 100=some i∧i.size=3:=by obtain⟨i,h,_,h2,_⟩:=jY;exact⟨i,h,h2⟩
theorem UT:fA Tryz.prog 114 1 (.pointer none) 8:=jm (by kernel_rfl) rfl (by decide)
theorem ad6:∃i,Tryz.prog.info? 114=some i∧i.size=1:=by obtain⟨i,h,_,h2,_⟩:=UT;exact⟨i,h,h2⟩
theorem Oi:fA Tryz.prog 117 1 (.slice none 0 0) 24:=jm (by kernel_rfl) rfl (by decide)
theorem FR:∃i,Tryz.prog.info? 117=some i∧i.size=1:=by obtain⟨i,h,_,h2,_⟩:=Oi;exact⟨i,h,h2⟩
theorem ff:fA Tryz.prog 121 3 (.agg #[.int .i64 0,.int .i64 0,.pointer none]) 24:=jm (by kernel_rfl) rfl (by decide)
theorem cH:∃i,Tryz.prog.info? 121=some i∧i.size=3:=by obtain⟨i,h,_,h2,_⟩:=ff;exact⟨i,h,h2⟩
theorem ad7:fA Tryz.prog 125 1 (.slice none 0 0) 24:=jm (by kernel_rfl) rfl (by decide)
theorem ad8:∃i,Tryz.prog.info? 125=some i∧i.size=1:=by obtain⟨i,h,_,h2,_⟩:=ad7;exact⟨i,h,h2⟩
theorem aea:fA Tryz.prog 127 9 (.agg #[.int .i64 0,.int .i64 0,.slice none 0 0,.slice none 0 0,.slice none 0 0,.slice none 0 0,.slice none 0 0,.slice none 0 0,.slice none 0 0]) 184:=jm (by kernel_rfl) rfl (by decide)
theorem aeb:fA Tryz.prog 133 1 (.slice none 0 0) 24:=jm (by kernel_rfl) rfl (by decide)
theorem J9:∃i,Tryz.prog.info? 133=some i∧i.size=1:=by obtain⟨i,h,_,h2,_⟩:=aeb;exact⟨i,h,h2⟩
theorem aec:fA Tryz.prog 135 3 (.agg #[.slice none 0 0,.slice none 0 0,.bool false]) 56:=jm (by kernel_rfl) rfl (by decide)
theorem Df:fA Tryz.prog 136 1 (.slice none 0 0) 24:=jm (by kernel_rfl) rfl (by decide)
theorem fO:fA Tryz.prog 138 2 (.agg #[.int .i64 0,.int .i64 0]) 16:=jm (by kernel_rfl) rfl (by decide)
theorem eD:∃i,Tryz.prog.info? 138=some i∧i.size=2:=by obtain⟨i,h,_,h2,_⟩:=fO;exact⟨i,h,h2⟩
end Go.aq
namespace Num
def B:Nat:=1000000000
theorem mQ:0<B:=by decide
theorem cg:B=1000000000:=rfl
def val:List Nat→Nat
 | []=>0
 | x::xs=>x+B*val xs
theorem jy(x:Nat)(xs:List Nat):val (x::xs)=x+B*val xs:=rfl
theorem UU(xs ys:List Nat):val (xs++ys)=val xs+B^xs.length*val ys:=by
 induction xs with
 | nil=>simp[val]
 | cons x xs ih=>rw[List.cons_append,jy,jy,ih,List.length_cons,Nat.pow_succ];grind
theorem rL(xs:List Nat)(y:Nat):val (xs ++ [y])=val xs+B^xs.length*y:=by
 rw[UU];simp[val]
def Lt(l:List Nat):Prop:=∀x,x∈l→x<B
theorem Lt.nil:Lt []:=fun x h=>by cases h
theorem Lt.append{a b:List Nat}(ha:Lt a)(hb:Lt b):Lt (a++b):=fun x h=>by
 rcases List.mem_append.1 h with h | h
 ·exact ha x h
 ·exact hb x h
theorem Lt.snoc{a:List Nat}{y:Nat}(ha:Lt a)(hy:y<B):Lt (a ++ [y]):=ha.append (fun x h=>by simp at h;omega)
theorem Lt.take{a:List Nat}(ha:Lt a)(k:Nat):Lt (a.take k):=fun x h=>ha x (List.mem_of_mem_take h)
theorem Lt.drop{a:List Nat}(ha:Lt a)(k:Nat):Lt (a.drop k):=fun x h=>ha x (List.mem_of_mem_drop h)
theorem Lt.get{a:List Nat}(ha:Lt a){i y:Nat}(h:a[i]? = some y):y<B:=ha y (List.mem_of_getElem? h)
theorem vf{l:List Nat}(h:Lt l):val l<B^l.length:=by
 induction l with
 | nil=>simp[val]
 | cons x l ih=>
  have h1:=h x (List.mem_cons_self ..)
  have h2:=ih (fun y hy=>h y (List.mem_cons_of_mem _ hy))
  rw[jy,List.length_cons,Nat.pow_succ]
  have h3:B*(val l+1)≤B*B^l.length:=Nat.mul_le_mul_left _ h2
  rw[Nat.mul_add,Nat.mul_one]at h3
  rw[Nat.mul_comm (B^l.length)];omega
theorem kN{l:List Nat}{i x:Nat}(h:l[i]? = some x):val (l.take (i+1))=val (l.take i)+B^i*x:=by
 have hi:i<l.length:=(List.getElem?_eq_some_iff.1 h).1
 have hx:l[i]=x:=(List.getElem?_eq_some_iff.1 h).2
 rw[List.take_succ_eq_append_getElem hi,hx,rL,List.length_take,Nat.min_eq_left (by omega)]
structure rM(l:List Nat):Prop where
 lt:Lt l
 last:∀x,l.getLast?=some x→x≠0
theorem rM.nil:rM []:=⟨Lt.nil,fun x h=>by simp at h⟩
def yM:Nat→Nat→List Nat
 | 0,_=>[]
 | f+1,n=>if n=0 then []else(n%B)::yM f (n/B)
def al(n:Nat):List Nat:=yM n n
theorem aed(f:Nat):∀g n,n≤f→n≤g→yM f n=yM g n:=by
 induction f with
 | zero=>intro g n h _;obtain rfl:n=0:=by omega
         cases g <;> simp[yM]
 | succ f ih=>
  intro g n h hg
  cases g with
  | zero=>obtain rfl:n=0:=by omega
          simp[yM]
  | succ g=>
   simp only[yM]
   split
   ·rfl
   ·rename_i hn
    have:n/B<n:=Nat.div_lt_self (by omega) (by decide)
    rw[ih g (n/B) (by omega) (by omega)]
theorem qk:al 0 = []:=rfl
theorem yN{n:Nat}(h:0<n):al n=(n%B)::al (n/B):=by
 unfold al
 obtain⟨m,rfl⟩:∃m,n=m+1:=⟨n-1,by omega⟩
 rw[yM,if_neg (by omega)]
 have:(m+1)/B<m+1:=Nat.div_lt_self (by omega) (by decide)
 rw[aed m ((m+1)/B) ((m+1)/B) (by omega) (Nat.le_refl _)]
theorem cR(n:Nat):val (al n)=n:=by
 induction n using Nat.strongRecOn with
 | _ n ih=>
  rcases Nat.eq_zero_or_pos n with h | h
  ·subst h;rfl
  ·rw[yN h,jy,ih (n/B) (Nat.div_lt_self h (by decide))]
   exact Nat.mod_add_div n B
theorem UW{n:Nat}(h:0<n):al n≠[]:=by rw[yN h];simp
theorem fP(n:Nat):rM (al n):=by
 induction n using Nat.strongRecOn with
 | _ n ih=>
  rcases Nat.eq_zero_or_pos n with h | h
  ·subst h;exact rM.nil
  ·have vg:=ih (n/B) (Nat.div_lt_self h (by decide))
   rw[yN h]
   refine⟨fun x hx=> ?_,fun x hx=> ?_⟩
   ·rcases List.mem_cons.1 hx with e | e
    ·rw[e];exact Nat.mod_lt _ mQ
    ·exact vg.lt x e
   ·rcases Nat.eq_zero_or_pos (n/B)with h0 | h0
    ·rw[h0,qk]at hx
     simp at hx
     have:=Nat.mod_add_div n B
     rw[h0]at this
     omega
    ·cases hl:al (n/B)with
     | nil=>exact absurd hl (UW h0)
     | cons y ys=>
      rw[hl,List.getLast?_cons_cons,←hl]at hx
      exact vg.last x hx
theorem rM.pos{l:List Nat}(h:rM l)(hl:l≠[]):B^(l.length-1)≤val l:=by
 have e:l=l.dropLast ++ [l.getLast hl]:=(List.dropLast_concat_getLast hl).symm
 have hx:=h.last (l.getLast hl) (List.getLast?_eq_some_getLast hl)
 rw[e,rL]
 simp only[List.length_append,List.length_dropLast,List.length_singleton]
 have:B^(l.length-1)*1≤B^(l.length-1)*l.getLast hl:=Nat.mul_le_mul_left _ (by omega)
 rw[Nat.mul_one]at this
 have e2:l.length-1+1-1=l.length-1:=by omega
 rw[e2];omega
theorem aee{l:List Nat}(h:Lt l)(hp:l = []∨B^(l.length-1)≤val l):rM l:=by
 refine⟨h,fun x hx h0=> ?_⟩
 subst h0
 have hl:l≠[]:=fun e=>by subst e;simp at hx
 rcases hp with e | hp
 ·exact hl e
 ·have e:l=l.dropLast ++ [0]:=by
   have:=(List.dropLast_concat_getLast hl).symm
   rw[List.getLast?_eq_some_getLast hl]at hx
   simp only[Option.some.injEq]at hx
   rw[hx]at this
   exact this
  have hv:val l=val l.dropLast:=by
   have:=rL l.dropLast 0
   rw[←e,Nat.mul_zero]at this;omega
  have bX:=vf (l:=l.dropLast) (fun x hx=>h x ((List.dropLast_sublist l).subset hx))
  rw[List.length_dropLast]at bX
  omega
theorem UX{l:List Nat}(h:rM l):al (val l)=l:=by
 induction l with
 | nil=>rfl
 | cons x l ih=>
  have hx:x<B:=h.lt x (List.mem_cons_self ..)
  have hp:0<val (x::l):=by
   have:=h.pos (by simp)
   have h2:0<B^((x::l).length-1):=Nat.pow_pos mQ
   omega
  rw[yN hp,jy]
  have h1:(x+B*val l)%B=x:=by rw[Nat.add_mul_mod_self_left];exact Nat.mod_eq_of_lt hx
  have h2:(x+B*val l)/B=val l:=by rw[Nat.add_mul_div_left _ _ mQ,Nat.div_eq_of_lt hx,Nat.zero_add]
  rw[h1,h2]
  rw[ih ⟨fun y hy=>h.lt y (List.mem_cons_of_mem _ hy),fun y hy=>h.last y (by
   cases l with
   | nil=>simp at hy
   | cons z zs=>rw[List.getLast?_cons_cons];exact hy)⟩]
theorem aef{l:List Nat}{n:Nat}(h:rM l)(hv:val l=n):l=al n:=by rw[←hv,UX h]
theorem Dg(n:Nat):n<B^(al n).length:=by
 have:=vf (fP n).lt
 rwa [cR]at this
theorem iZ{n k:Nat}:(al n).length≤k↔n<B^k:=by
 constructor
 ·intro h
  exact Nat.lt_of_lt_of_le (Dg n) (Nat.pow_le_pow_right mQ h)
 ·intro h
  rcases Nat.eq_zero_or_pos n with h0 | h0
  ·subst h0;simp[qk]
  ·have hp:=(fP n).pos (UW h0)
   rw[cR]at hp
   have:(al n).length-1<k:=(Nat.pow_lt_pow_iff_right (by decide:1<B)).1 (Nat.lt_of_le_of_lt hp h)
   omega
theorem mc{m n:Nat}(h:m≤n):(al m).length≤(al n).length:=iZ.2 (Nat.lt_of_le_of_lt h (Dg n))
theorem aeg{n:Nat}:al n = []↔n=0:=by
 constructor
 ·intro h
  have:=cR n
  rw[h]at this;exact this.symm
 ·intro h;subst h;rfl
theorem jL{n:Nat}:(al n).length=0↔n=0:=by rw[List.length_eq_zero_iff,aeg]
end Num
namespace Num
theorem Ka{a:List Nat}{i p:Nat}(h:a[i]? = some p):val a=val (a.take i)+B^i*(p+B*val (a.drop (i+1))):=by
 have hi:=(List.getElem?_eq_some_iff.1 h).1
 have hp:=(List.getElem?_eq_some_iff.1 h).2
 have e:a=a.take i++a.drop i:=(List.take_append_drop i a).symm
 have e2:a.drop i=p::a.drop (i+1):=by rw[List.drop_eq_getElem_cons hi,hp]
 conv=>lhs;rw[e,e2,UU,jy,List.length_take,Nat.min_eq_left (by omega)]
theorem Kb{a b:List Nat}{i p q:Nat}(ha:Lt a)(h1:a[i]? = some p)(h2:b[i]? = some q)(hd:a.drop (i+1)=b.drop (i+1))(mR:p<q):val a<val b:=by
 rw[Ka h1,Ka h2,hd]
 have hi:=(List.getElem?_eq_some_iff.1 h1).1
 have h3:=vf (ha.take i)
 rw[List.length_take,Nat.min_eq_left (by omega)]at h3
 have h4:B^i*(p+1+B*val (b.drop (i+1)))≤B^i*(q+B*val (b.drop (i+1))):=Nat.mul_le_mul_left _ (by omega)
 rw[show p+1+B*val (b.drop (i+1))=p+B*val (b.drop (i+1))+1 by omega,Nat.mul_add,Nat.mul_one]at h4
 omega
def kr(x y:Nat):Int:=if x<y then -1 else if x=y then 0 else 1
theorem Kc{x y:Nat}(h:x<y):kr x y = -1:=by simp[kr,h]
theorem Kd{x y:Nat}(h:y<x):kr x y=1:=by simp[kr];omega
theorem UY(x:Nat):kr x x=0:=by simp[kr]
theorem Ke{x y:Nat}(h:(al x).length<(al y).length):x<y:=by
 rcases Nat.lt_or_ge x y with h1 | h1
 ·exact h1
 ·have:=mc h1;omega
theorem UZ{a b:List Nat}{k p:Nat}(hk:0<k)(h1:a[k-1]? = some p)(h2:b[k-1]? = some p)(hd:a.drop k=b.drop k):a.drop (k-1)=b.drop (k-1):=by
 have e1:=List.drop_eq_getElem_cons (List.getElem?_eq_some_iff.1 h1).1
 have e2:=List.drop_eq_getElem_cons (List.getElem?_eq_some_iff.1 h2).1
 rw[(List.getElem?_eq_some_iff.1 h1).2,show k-1+1=k by omega]at e1
 rw[(List.getElem?_eq_some_iff.1 h2).2,show k-1+1=k by omega]at e2
 rw[e1,e2,hd]
end Num
namespace Num
theorem yO(l:List Nat)(k:Nat):val (l.take (k+1))=val (l.take k)+B^k*(l[k]?.getD 0):=by
 cases h:l[k]? with
 | some x=>simpa using kN h
 | none=>
  have:l.length≤k:=by simpa using h
  rw[List.take_of_length_le (by omega),List.take_of_length_le this];simp
theorem Dh{o:List Nat}{k a b s t u:Nat}(ho:o.length=k)(h:val o+B^k*a=t)(hs:s=a+b)(hu:u=t+B^k*b):val (o ++ [s%B])+B^(k+1)*(s/B)=u:=by
 rw[rL,ho,Nat.pow_succ]
 have h1:B^k*s=B^k*(s%B)+B^k*(B*(s/B)):=by rw[←Nat.mul_add,Nat.mod_add_div]
 have h2:B^k*s=B^k*a+B^k*b:=by rw[hs,Nat.mul_add]
 rw[Nat.mul_assoc];omega
theorem last_pos{o:List Nat}{n:Nat}(h:Lt o)(ho:o.length=n)(hn:n=0∨B^(n-1)≤val o):rM o:=aee h (by
 rcases hn with e | e
 ·left;exact List.eq_nil_of_length_eq_zero (by omega)
 ·right;rw[ho];exact e)
end Num
namespace Num
theorem FT{o:List Nat}{k br br' s d e ta tb ta' tb':Nat}(ho:o.length=k)(h:ta+B^k*br=val o+tb)(hs:s+br+e=d+B*br')(ha:ta'=ta+B^k*d)(hb:tb'=tb+B^k*e):
  ta'+B^(k+1)*br'=val (o ++ [s])+tb':=by
 rw[rL,ho,ha,hb,Nat.pow_succ,Nat.mul_assoc]
 have h1:B^k*(s+br+e)=B^k*(d+B*br'):=by rw[hs]
 simp only[Nat.mul_add]at h1
 omega
theorem U0{l:List Nat}{t x y:Nat}(h:l[t]? = some x):val (l.set t y)+B^t*x=val l+B^t*y:=by
 induction l generalizing t with
 | nil=>simp at h
 | cons z l ih=>
  cases t with
  | zero=>simp at h;subst h;simp[val];omega
  | succ t=>
   simp only[List.getElem?_cons_succ]at h
   have:=ih h
   rw[List.set_cons_succ,jy,jy,Nat.pow_succ]
   have h2:B*(val (l.set t y)+B^t*x)=B*(val l+B^t*y):=by rw[this]
   simp only[Nat.mul_add]at h2
   have e1:B^t*B*x=B*(B^t*x):=by rw[Nat.mul_comm (B^t) B,Nat.mul_assoc]
   have e2:B^t*B*y=B*(B^t*y):=by rw[Nat.mul_comm (B^t) B,Nat.mul_assoc]
   omega
theorem Lt.set{l:List Nat}{t y:Nat}(h:Lt l)(hy:y<B):Lt (l.set t y):=fun x hx=>by
 rcases List.mem_or_eq_of_mem_set hx with h1 | h1
 ·exact h x h1
 ·omega
theorem Lt.replicate(n:Nat):Lt (List.replicate n 0):=fun x hx=>by
 have:=List.eq_of_mem_replicate hx
 rw[this];exact mQ
theorem U1(n:Nat):val (List.replicate n 0)=0:=by
 induction n with
 | zero=>rfl
 | succ n ih=>rw[List.replicate_succ,jy,ih,Nat.mul_zero]
theorem aeh{l:List Nat}{k y:Nat}(h:k<l.length):(l.set k y).take (k+1)=l.take k ++ [y]:=by
 rw[List.take_succ_eq_append_getElem (by simpa using h),List.getElem_set_self,List.take_set_of_le (Nat.le_refl _)]
theorem set_drop{l:List Nat}{k y:Nat}(h:k<l.length):(l.set k y).drop k=y::l.drop (k+1):=by
 rw[List.drop_eq_getElem_cons (by simpa using h),List.getElem_set_self,List.drop_set_of_lt (Nat.lt_succ_self _)]
theorem Di{l:List Nat}{k d:Nat}(h:l[k]? = some d):l.drop k=d::l.drop (k+1):=by
 rw[List.drop_eq_getElem_cons (List.getElem?_eq_some_iff.1 h).1,(List.getElem?_eq_some_iff.1 h).2]
end Num
namespace Go.aq
open Go.Proofs Num
theorem vr{n:Nat}{all:Array Oper}{s:St}{H:Heap}{md:Mode}{K:St→Heap→Prop}(k:Nat){l:List Oper}{s1:St}(hk:aT Tryz.prog n all md (l.drop k) s1 H K)(h:yC tb md all (l.take k) s=some s1:=by rfl):aT Tryz.prog n all md l s H K:=UF ag k h hk
theorem aa{n:Nat}{all:Array Oper}{s:St}{H:Heap}{md:Mode}{K:St→Heap→Prop}(k:Nat){l:List Oper}{s1:St}(h:yC tb md all (l.take k) s=some s1)(hk:aT Tryz.prog n all md (l.drop k) s1 H K):aT Tryz.prog n all md l s H K:=UF ag k h hk
theorem iL{a b:Int}(h:a=b):gj .eql a b=some true:=by subst h;simp[gj]
theorem ks{a b:Int}(h:a≠b):gj .eql a b=some false:=by simp[gj,h]
theorem vh{a b:Int}(h:a≠b):gj .neq a b=some true:=by simp[gj,h]
theorem vi{a b:Int}(h:a=b):gj .neq a b=some false:=by subst h;simp[gj]
theorem ja{a b:Int}(h:a<b):gj .lss a b=some true:=by simp[gj,h]
theorem ia{a b:Int}(h:b≤a):gj .lss a b=some false:=by simp[gj,h]
theorem rN{a b:Int}(h:a≤b):gj .leq a b=some true:=by simp[gj,h]
theorem AY{a b:Int}(h:b<a):gj .leq a b=some false:=by simp[gj,h]
theorem ov{a b:Int}(h:b<a):gj .gtr a b=some true:=by simp[gj,h]
theorem kt{a b:Int}(h:a≤b):gj .gtr a b=some false:=by simp[gj,h]
theorem me{a b:Int}(h:b≤a):gj .geq a b=some true:=by simp[gj,h]
theorem ql{a b:Int}(h:a<b):gj .geq a b=some false:=by simp[gj,h]
def U(l:List Nat):List Value:=l.map fun x=> .int .u32 (Int.ofNat x)
theorem dB{l:List Nat}{i:Nat}{x:Nat}(h:l[i]? = some x):(U l)[i]? = some (.int .u32 (x:Int)):=by simp[U,h]
theorem Dj(l:List Nat):(U l).length=l.length:=by simp[U]
theorem Kf(a b:List Nat):U (a++b)=U a++U b:=by simp[U]
theorem FU(l:List Nat)(k:Nat):U (l.take k)=(U l).take k:=by simp[U,List.map_take]
theorem ow(l:List Nat):∀u∈U l,u.oneCell'=true:=fun u hu=>by
 simp only[U,List.mem_map]at hu
 obtain⟨x,_,rfl⟩:=hu
 rfl
def jz(H:Heap)(v:Value)(l:List Nat):Prop:=∃A c,v = .slice A l.length c∧l.length≤c∧Rd H A (U l)
theorem jz.le{H H':Heap}{v:Value}{l:List Nat}(h:jz H v l)(hl:Heap.le H H'):jz H' v l:=by
 obtain⟨A,c,h1,h2,h3⟩:=h
 exact⟨A,c,h1,h2,h3.le hl⟩
def dr(H:Heap)(v:Value)(x:Nat):Prop:=jz H v (al x)
theorem dr.le{H H':Heap}{v:Value}{x:Nat}(h:dr H v x)(hl:Heap.le H H'):dr H' v x:=jz.le h hl
theorem Rd.take{H:Heap}{A:Option Addr}{xs:List Value}(h:Rd H A xs)(k:Nat):Rd H A (xs.take k):=fun i v hv=>by
 rw[List.getElem?_take]at hv
 split at hv
 ·exact h i v hv
 ·cases hv
def kO(H:Heap)(v:Value)(l:List Nat):Prop:=bR H v 74 1 l.length (U l)
theorem kO.lim{H:Heap}{v:Value}{l:List Nat}(h:kO H v l):jz H v l:=by
 obtain⟨A,c,rfl⟩:=bR.form h
 refine⟨A,c,rfl,?_,bR.rd h⟩
 rcases h.2 with ⟨h1,h2⟩ | ⟨g,cap,h1,_,h3,_⟩
 ·omega
 ·cases h1;exact h3
theorem yP(H:Heap):kO H (.slice none 0 0) []:=kL H 74 1
theorem App.pE{H H':Heap}{v v':Value}{a b:List Nat}{n m:Nat}(h:App H v 74 1 (n+m) (U a++U b) v' H')(ha:n=a.length)(hb:m=b.length):kO H' v' (a++b):=by
 have:=h.own
 subst ha
 subst hb
 unfold kO
 rw[Kf,List.length_append];exact this
structure mS(H:Heap)(x:Nat)(v:Value)(H':Heap):Prop where
 le:Heap.le H H'
 nat:dr H' v x
theorem Dk{H:Heap}{v:Value}{l:List Nat}{x:Nat}(h:jz H v l)(hn:rM l)(hv:val l=x):dr H v x:=by
 unfold dr
 rwa [←aef hn hv]
theorem wG(H:Heap):dr H (.slice none 0 0) 0:=Dk (l:=[]) (kO.lim (yP H)) rM.nil rfl
theorem Kg{l:List Nat}{k:Nat}(bX:Lt l)(hk:k≤l.length)(hv:val (l.take k)=val l)(hx:k=0∨∃x,l[k-1]? = some x∧x≠0):al (val l)=l.take k:=by
 rw[←hv]
 refine UX ⟨bX.take k,fun y hy=> ?_⟩
 rcases hx with rfl | ⟨x,h1,h2⟩
 ·simp at hy
 ·have:(l.take k).getLast?=some x:=by
   rw[List.getLast?_eq_getElem?,List.length_take,Nat.min_eq_left hk,List.getElem?_take]
   rw[if_pos ?_]
   ·exact h1
   ·rcases Nat.eq_zero_or_pos k with e | e
    ·subst e;simp at hy
    ·omega
  rw[this]at hy
  cases hy
  exact h2
theorem yQ(c:Nat)(A:Option Addr)(sz:Nat):(if c=0 then A else A.map (·.add (0*sz)))=A:=by
 split
 ·rfl
 ·cases A <;> simp[Addr.add]
theorem bR.ins{H:Heap}{v:Value}{e sz n:Nat}{xs:List Value}(h:bR H v e sz n xs){g:Nat}(ent:Ent)(hg:H g=none):bR (aq.ins H g ent) v e sz n xs:=
 h.same fun k hk=>by
  obtain⟨en,he⟩:=h.block hk
  exact bg _ _ (fun e=>by subst e;rw[hg]at he;cases he)
theorem kO.ins{H:Heap}{v:Value}{l:List Nat}(h:kO H v l){g:Nat}(ent:Ent)(hg:H g=none):kO (aq.ins H g ent) v l:=bR.ins h ent hg
theorem im(g i:Nat):(⟨g,0,none⟩:Addr).add i=⟨g,i,none⟩:=by
 unfold Addr.add;split
 ·rename_i e0;rw[e0]
 ·simp
theorem ea(H:Heap)(g:Nat)(xs:List Value)(sz e:Nat)(b:Bool):Rd (ins H g ⟨xs,sz,e,b⟩) (some ⟨g,0,none⟩) xs:=fun i v hv=>⟨_,rfl,by simp[cell,im,ins,hv]⟩
theorem rO{H:Heap}{g e:Nat}{a:Int}{y:Nat}(h:a=y):Rd (ins H g (whole [.int .u32 a] e)) (some ⟨g,0,none⟩) (U [y]):=by
 subst h;exact ea _ _ _ _ _ _
theorem Kh{H:Heap}{g e sz:Nat}{zs:List Value}{k:Int}{c:Nat}(hk:k.toNat=0)(hc:c≤maxLen):bR (ins H g ⟨dd zs (k.toNat*sz),c*sz,e,true⟩) (.slice (some ⟨g,0,none⟩) k.toNat c) e sz 0 []:=by
 refine⟨by simp,.inr ⟨g,c,by rw[hk],?_,by omega,hc⟩⟩
 rw[bn,hk,Nat.zero_mul];rfl
theorem U2(a b:Nat):(a:Int)%(b:Int)=((a%b:Nat):Int):=rfl
def dH(l:List Nat)(n:Nat):Ent:=⟨U l,n*1,74,true⟩
theorem mO(H:Heap)(g:Nat)(e e':Ent):ins (ins H g e) g e'=ins H g e':=by
 funext k;unfold ins;split <;> rfl
theorem Oj(l:List Nat)(k y:Nat):(U l).set k (.int .u32 (y:Int))=U (l.set k y):=by simp[U,List.map_set]
theorem vj{H:Heap}{g n k:Nat}{l:List Nat}{a:Int}{y:Nat}(h:a=y):ins (ins H g (dH l n)) g {dH l n with xs:=aJ (dH l n).xs (0+k*1) [.int .u32 a]}=ins H g (dH (l.set k y) n):=by
 subst h
 rw[mO]
 simp only[dH,aJ,Nat.zero_add,Nat.mul_one,Oj]
theorem Ki(H:Heap)(g:Nat)(l:List Nat)(n:Nat):Rd (ins H g (dH l n)) (some ⟨g,0,none⟩) (U l):=ea _ _ _ _ _ _
theorem aei{H:Heap}{g:Nat}{k:Int}{n:Nat}(hk:k.toNat=n):ins H g ⟨dd [.int .u32 0] (k.toNat*1),n*1,74,true⟩=ins H g (dH (List.replicate n 0) n):=by
 subst hk
 rw[Nat.mul_one,UN]
 congr 1
 simp[dH,U]
theorem ox(l:List Nat)(n:Nat):(dH l n).xs.length=l.length:=by simp[dH,U]
theorem AZ(H:Heap)(g:Nat)(l:List Nat)(n m:Nat)(hm:m=l.length)(hn:m≤n):jz (ins H g (dH l n)) (.slice (some ⟨g,0,none⟩) m n) l:=⟨_,n,by rw[hm],by omega,Ki H g l n⟩
end Go.aq
namespace Go.aq
open Go.Proofs Num
theorem Ol{H:Heap}{A:Option Addr}{c:Nat}{l:List Nat}(bX:Lt l)(hr:Rd H A (U l))(hc:l.length≤c)(hm:(l.length:Int)≤35184372088832):
 Fn Tryz.prog 150 #[.slice A l.length c] H (mS H (val l)):=by
 refine aZ (args:=[_]) Tryz.func150 rfl rfl Tryz.ntmps150 rfl rfl fun w0=> ?_;refine ah [0] rfl ?_;refine ae (aa 1 rfl (ab [0] ?_));refine ae (aa 3 rfl (ab [0,3] ?_));refine ao (aE (fY (fun(k:Nat)=>k) (fun(k:Nat)=>put (put (emp) 0 (.val (.slice A l.length c))) 3 (.val (.int .i64 (k:Int)))) (fun(k:Nat) H'=>H'=H∧k≤l.length∧val (l.take k)=val l) l.length (⟨rfl,Nat.le_refl _,by simp⟩) (by repeat (first | exact iJ _ | refine dA rfl ?_ | refine dA (iX (by omega)) ?_)) ?_));rintro k H1 ⟨rfl,hk,hv⟩
 rcases Nat.eq_zero_or_pos k with rfl | Kj
 ·
  refine ao (ae (aa 1 rfl (aG false rfl rfl (by simp[gj]) ?_)));refine aa 8 rfl (ab [0,3,15] ?_);refine dh rfl (aX (ae (aa 2 rfl (rJ (l:=0) (h:=0) ag rfl rfl (.inl ⟨rfl,rfl⟩) (.inr ⟨_,_,rfl,rfl⟩) (by omega) (by omega) ?_))));rw[yQ];refine aa 1 rfl (ab [2] ?_);have e:=Kg bX hk hv (.inl rfl);refine aB ⟨.inr rfl,_,.tmp rfl (.nil),.refl _,A,c,?_,?_,?_⟩
  ·rw[e];simp;rfl
  ·rw[e];simp
  ·rw[e,FU];exact hr.take _
 obtain⟨x,hx⟩:∃x,l[k-1]? = some x:=⟨_,List.getElem?_eq_getElem (by omega)⟩;refine ao (ae (aa 1 rfl (aG true rfl rfl (by simp[gj];omega) ?_)));refine aa 3 rfl (cQ rfl rfl ⟨by omega,by omega⟩ (aS ag rfl rfl rfl rfl rfl (hr) (dB (by rw[show ((k:Int)-1).toNat=k-1 by omega];exact hx)) (by omega) (by omega) fun _=> ?_));refine aa 2 rfl (ab [0,3,15] ?_);refine aD rfl (fun hb=> ?_) (fun hb=> ?_)
 ·
  simp at hb
  refine az (ah [0,3] rfl ?_);refine aE (aA rfl (aa 1 rfl (cQ rfl rfl ⟨by omega,by omega⟩ (aa 1 rfl (au ?_)))));exact⟨k-1,by omega,(by repeat (first | exact iJ _ | refine dA rfl ?_ | refine dA (iX (by omega)) ?_)),rfl,by omega,by have:=kN hx;rw[show k-1+1=k by omega,hb,Nat.mul_zero,Nat.add_zero]at this;rw[←this];exact hv⟩
 ·
  simp at hb
  refine aX (ah [0,3] rfl ?_);refine ae (aa 2 rfl (rJ ag rfl rfl (.inl ⟨rfl,rfl⟩) (.inr ⟨_,_,rfl,rfl⟩) (by omega) (by omega) ?_));rw[yQ];refine aa 1 rfl (ab [2] ?_);refine aB ⟨.inr rfl,_,.tmp rfl (.nil),?_⟩;have e:=Kg bX hk hv (.inr ⟨x,hx,hb⟩);refine⟨.refl _,A,c,?_,?_,?_⟩
  ·rw[e,List.length_take,Nat.min_eq_left hk];rfl
  ·rw[e,List.length_take,Nat.min_eq_left hk];omega
  ·rw[e,FU];exact hr.take _
theorem aej{H:Heap}{A:Option Addr}{c x:Nat}(hr:Rd H A (U (al x))):
 Fn Tryz.prog 151 #[.slice A (al x).length c] H (fun v H'=>H'=H∧v = .bool (decide (x=1))):=by
 refine aZ (args:=[_]) Tryz.func151 rfl rfl Tryz.ntmps151 rfl rfl fun w0=> ?_;refine ah [0] rfl ?_;refine ae (aa 1 rfl (ab [0] ?_))
 by_cases hl:(al x).length=1
 ·
  obtain⟨y,hy⟩:=List.length_eq_one_iff.1 hl;refine ae (aa 2 rfl (aG true rfl rfl (by simp[gj,hl]) ?_));refine aa 2 rfl (aS ag rfl rfl rfl rfl rfl (hr) (dB (show (al x)[0]? = some y by rw[hy];rfl)) (by omega) (by omega) fun _=> ?_);refine aa 3 rfl (ab [2] ?_);refine aB ⟨.inr rfl,_,.tmp rfl (.nil),?_⟩;refine⟨rfl,?_⟩;have hv:=cR x;rw[hy]at hv
  simp[val]at hv
  subst hv
  show Value.bool _=_
  congr 1
  rw[Bool.eq_iff_iff];simp;omega
 ·
  skip
  refine ae (aa 2 rfl (aG false rfl rfl (by simp[gj];omega) ?_));refine aa 7 rfl (ab [2] ?_);refine aB ⟨.inr rfl,_,.tmp rfl (.nil),?_⟩;refine⟨rfl,?_⟩;have:x≠1:=fun e=>hl (by subst e;rfl)
  simp[this];rfl
end Go.aq
namespace Go.aq
open Go.Proofs Num
theorem U3{H:Heap}{A A':Option Addr}{c c' x y:Nat}(hr:Rd H A (U (al x)))(dR:Rd H A' (U (al y)))(hm:((al x).length:Int)≤35184372088832):
 Fn Tryz.prog 111 #[.slice A (al x).length c,.slice A' (al y).length c'] H (fun v H'=>H'=H∧v = .int .i64 (kr x y)):=by
 refine aZ (args:=[_,_]) Tryz.func111 rfl rfl Tryz.ntmps111 rfl rfl fun w0=> ?_;refine ah [0,1] rfl ?_;refine ae (aa 1 rfl (ab [0,1] ?_));refine ao (ae (aa 5 rfl (ab [0,1,10] ?_)));refine aD rfl (fun hb=> ?_) (fun hb=> ?_)
 ·
  have hl:(al x).length≠(al y).length:=by simp at hb;omega
  refine ao (ae (aa 5 rfl (ab [15] ?_)));refine aD rfl (fun hb=> ?_) (fun hb=> ?_)
  ·
   simp at hb
   refine ae (aa 1 rfl (ab [4] ?_));refine aB ⟨.inr rfl,_,.tmp rfl (.nil),?_⟩;exact⟨rfl,by rw[Kc (Ke hb)];rfl⟩
  ·
   simp at hb
   refine az (ah [] rfl ?_);refine ae (aa 1 rfl (ab [4] ?_));refine aB ⟨.inr rfl,_,.tmp rfl (.nil),?_⟩;exact⟨rfl,by rw[Kd (Ke (by omega))];rfl⟩
 ·
  have hl:(al x).length=(al y).length:=by simp at hb;omega
  refine az (ah [0,1] rfl ?_);refine ao (ae (aa 2 rfl (cQ rfl rfl ⟨by omega,by omega⟩ (aa 1 rfl (ab [0,1,5] ?_)))));refine aE (fY (fun(k:Nat)=>k) (fun(k:Nat)=>put (put (put (emp) 0 (.val (.slice A (al x).length c))) 1 (.val (.slice A' (al y).length c'))) 5 (.val (.int .i64 ((k:Int)-1)))) (fun(k:Nat) H'=>H'=H∧k≤(al x).length∧(al x).drop k=(al y).drop k) (al x).length (⟨rfl,Nat.le_refl _,by rw[List.drop_of_length_le (Nat.le_refl _),List.drop_of_length_le (by omega)]⟩) (by repeat (first | exact iJ _ | refine dA rfl ?_ | refine dA (iX (by omega)) ?_)) ?_);rintro k H1 ⟨rfl,hk,hd⟩;refine ao (ae (aa 2 rfl (ab [0,1,5,20] ?_)));refine aD rfl (fun hb=> ?_) (fun hb=> ?_)
  ·
   simp at hb
   obtain⟨p,hp⟩:∃p,(al x)[k-1]? = some p:=⟨_,List.getElem?_eq_getElem (by omega)⟩;obtain⟨q,hq⟩:∃q,(al y)[k-1]? = some q:=⟨_,List.getElem?_eq_getElem (by omega)⟩
   have hj:((k:Int)-1).toNat=k-1:=by omega
   have fc:(al x).drop (k-1+1)=(al y).drop (k-1+1):=by rw[show k-1+1=k by omega];exact hd
   refine az (ah [0,1,5] rfl ?_);refine ao (aE (aE (bM .bJ [0,1,2,3,4,5,6,7,8,9] follows (by kernel_rfl) ?_)));refine aa 2 rfl (aS ag rfl rfl rfl rfl rfl (hr) (by rw[hj];exact dB hp) (by omega) (by omega) fun _=> ?_);refine aa 2 rfl (aS ag rfl rfl rfl rfl rfl (dR) (by rw[hj];exact dB hq) (by omega) (by omega) fun _=> ?_);refine aa 2 rfl (ab [0,1,5,23] ?_);refine aD rfl (fun hb=> ?_) (fun hb=> ?_)
   ·
    have mR:p<q:=by simpa using hb
    refine ae (aa 1 rfl (ab [4] ?_));refine aB ⟨.inr rfl,_,.tmp rfl (.nil),?_⟩;exact⟨rfl,by rw[Kc (by have:=Kb (fP x).lt hp hq fc mR;rwa [cR,cR]at this)];rfl⟩
   have mR:¬p<q:=by simpa using hb
   refine bM .bJ [0,1,2,3,4,5,6,7,8,9] follows (by kernel_rfl) ?_;refine aa 2 rfl (aS ag rfl rfl rfl rfl rfl (hr) (by rw[hj];exact dB hp) (by omega) (by omega) fun _=> ?_);refine aa 2 rfl (aS ag rfl rfl rfl rfl rfl (dR) (by rw[hj];exact dB hq) (by omega) (by omega) fun _=> ?_);refine aa 2 rfl (ab [0,1,5,33] ?_);refine aD rfl (fun hb=> ?_) (fun hb=> ?_)
   ·
    have FV:q<p:=by simpa using hb
    refine ae (aa 1 rfl (ab [4] ?_));refine aB ⟨.inr rfl,_,.tmp rfl (.nil),?_⟩;exact⟨rfl,by rw[Kd (by have:=Kb (fP y).lt hq hp fc.symm FV;rwa [cR,cR]at this)];rfl⟩
   have FV:¬q<p:=by simpa using hb
   refine az (ah [0,1,5] rfl ?_);refine aA rfl (aa 1 rfl (cQ rfl rfl ⟨by omega,by omega⟩ (aa 1 rfl (au ?_))))
   obtain rfl:p=q:=by omega
   exact⟨k-1,by omega,(by repeat (first | exact iJ _ | refine dA rfl ?_ | refine dA (iX (by omega)) ?_)),rfl,by omega,UZ (by omega) hp hq hd⟩
  simp at hb
  refine aX (ah [] rfl ?_);refine ae (aa 1 rfl (ab [4] ?_));refine aB ⟨.inr rfl,_,.tmp rfl (.nil),?_⟩
  obtain rfl:k=0:=by omega
  have:x=y:=by rw[←cR x,←cR y];simpa using congrArg val hd
  exact⟨rfl,by rw[this,UY];rfl⟩
end Go.aq
namespace Go.aq
open Go.Proofs Num
theorem U4{H:Heap}{A:Option Addr}{c x:Nat}(hr:Rd H A (U (al x)))(hm:(al x).length≤2):
 Fn Tryz.prog 166 #[.slice A (al x).length c] H (fun v H'=>H'=H∧v = .tuple #[.int .u64 (x:Int),.bool true]):=by
 refine aZ (args:=[_]) Tryz.func166 rfl rfl Tryz.ntmps166 rfl rfl fun w0=> ?_;refine ah [0] rfl ?_;refine ae (aa 2 rfl (ab [0] ?_));refine ae (aa 1 rfl (ab [0,4] ?_));refine ao (ae (aa 3 rfl (ab [0,4,8,9] ?_)));refine aE (fY (fun(k:Nat)=>(al x).length-k) (fun(k:Nat)=>put (put (put (put (emp) 0 (.val (.slice A (al x).length c))) 4 (.val (.int .u64 (val ((al x).drop ((al x).length-k)):Int)))) 8 (.val (.int .i64 ((al x).length:Int)))) 9 (.val (.int .i64 (k:Int)))) (fun(k:Nat) H'=>H'=H∧k≤(al x).length) 0 (⟨rfl,by omega⟩) (dA rfl (dA rfl (dA (iX (by simp[val])) (dA rfl (iJ _))))) ?_);rintro k H1 ⟨rfl,hk⟩;refine ae (aa 1 rfl (ab [0,4,8,9,10] ?_));refine ao (aD rfl (fun hb=> ?_) (fun hb=> ?_))
 ·
  simp at hb
  obtain⟨p,hp⟩:∃p,(al x)[(al x).length-1-k]? = some p:=⟨_,List.getElem?_eq_getElem (by omega)⟩;have yR:=(fP x).lt.get hp;rw[cg]at yR
  have kP:(al x).drop ((al x).length-1-k)=p::(al x).drop ((al x).length-k):=by
   rw[List.drop_eq_getElem_cons (List.getElem?_eq_some_iff.1 hp).1,(List.getElem?_eq_some_iff.1 hp).2,show (al x).length-1-k+1=(al x).length-k by omega]
  have hw:val ((al x).drop ((al x).length-k))<B:=by
   have h1:=vf ((fP x).lt.drop ((al x).length-k));have h2:B^((al x).drop ((al x).length-k)).length≤B^1:=Nat.pow_le_pow_right mQ (by simp;omega);rw[Nat.pow_one]at h2;omega
  rw[cg]at hw
  have hj:(((al x).length:Int)-1-(k:Int)).toNat=(al x).length-1-k:=by omega
  refine az (ah [0,4,8,9] rfl ?_);refine ao (aE (ae (aa 2 rfl (ab [0,4,5,8,9] ?_))));refine ae (aa 3 rfl (cQ rfl rfl ⟨by omega,by omega⟩ (aa 1 rfl (cQ rfl rfl ⟨by omega,by omega⟩ (aS ag rfl rfl rfl rfl rfl (hr) (by rw[hj];exact dB hp) (by omega) (by omega) fun _=> ?_)))));refine di ag rfl rfl rfl ⟨by omega,by omega⟩ (aa 1 rfl (ab [0,4,6,8,9] ?_));refine ao (ae (aa 2 rfl (cQ rfl rfl ⟨by omega,by omega⟩ (lG rfl rfl (by omega) (by omega) ⟨by omega,by omega⟩ (aa 1 rfl (ab [0,4,6,8,9,25] ?_))))));refine aD rfl (fun hb=> ?_) (fun hb=> ?_)
  ·
   exfalso;simp at hb;omega
  ·
   skip
   refine az (ah [0,4,6,8,9] rfl ?_);refine aA rfl (aa 1 rfl (gO rfl rfl ⟨by omega,by omega⟩ (aa 1 rfl (aF rfl rfl ⟨by omega,by omega⟩ (aa 1 rfl (au (ah [0,4,8,9] rfl ?_)))))));refine aA rfl (aF rfl rfl ⟨by omega,by omega⟩ (aa 1 rfl (au ?_)))
   have dG:val ((al x).drop ((al x).length-(k+1)))=val ((al x).drop ((al x).length-k))*1000000000+p:=by
    rw[show (al x).length-(k+1)=(al x).length-1-k by omega,kP,jy,cg];omega
   exact⟨k+1,by omega,ar,rfl,by omega⟩
 ·
  simp at hb
  refine aX (ah [4] rfl ?_);refine ae (aa 3 rfl (ab [2,3] ?_));refine aB ⟨.inr rfl,_,.tmp rfl (.tmp rfl (.nil)),?_⟩
  obtain rfl:k=(al x).length:=by omega
  refine⟨rfl,?_⟩;rw[Nat.sub_self,List.drop_zero,cR];rfl
theorem Kk{H:Heap}{x:Nat}(hx:x<18446744073709551616):
 Fn Tryz.prog 114 #[.int .u64 (x:Int)] H (mS H x):=by
 refine aZ (args:=[_]) Tryz.func114 rfl rfl Tryz.ntmps114 rfl rfl fun w0=> ?_;refine ah [0] rfl ?_;refine ae (aa 1 rfl (ab [0] ?_));refine ae (aa 1 rfl (ab [0,3] ?_));refine ao (aE (fB (fun(y:Nat)(v:Value)(o:List Nat)=>y) (fun(y:Nat)(v:Value)(o:List Nat)=>put (put (emp) 0 (.val (.int .u64 (y:Int)))) 3 (.val (v))) (fun(y:Nat)(v:Value)(o:List Nat) H'=>Heap.le H H'∧kO H' v o∧y≤x∧o++al y=al x) x (.slice none 0 0) [] (⟨.refl _,yP _,Nat.le_refl _,rfl⟩) ar ?_));rintro y v o H1 ⟨hle,cC,wH,ho⟩;obtain⟨A,c,rfl⟩:=bR.form cC
 have dX:o.length≤(al x).length:=by rw[←ho];simp
 have cZ:(al x).length≤3:=iZ.2 (by rw[cg];omega);refine ao (ae (aa 2 rfl (ab [0,3,5] ?_)));refine aD rfl (fun hb=> ?_) (fun hb=> ?_)
 ·
  have hb:0<y:=by simpa using hb
  refine az (ah [0,3] rfl ?_);refine ao (aE (aA rfl (aa 2 rfl (mP rfl rfl (by omega) (by omega) (di ag rfl rfl rfl ⟨by omega,by omega⟩ (cI Tryz.underlying98 eH rfl rfl rfl rfl rfl rfl rfl ?_))))));intro gb aV;refine dW Tryz.underlying98 eH rfl rfl (cC.ins _ aV) (rO (U2 y 1000000000)) (rfl) (ow _) (by omega) (by omega) ?_;intro v1 H2 ha;refine aa 1 rfl (au (ah [0,3] rfl ?_));refine aA rfl (aa 1 rfl (lG rfl rfl (by omega) (by omega) ⟨by omega,by omega⟩ (aa 1 rfl (au ?_))))
  have jk:0<y:=by omega
  rw[yN jk]at ho;exact⟨y/B,v1,o ++ [y%B],Nat.div_lt_self jk (by decide),ar,(hle.trans (Heap.bG _ aV)).trans ha.le,ha.pE rfl rfl,Nat.le_trans (Nat.div_le_self _ _) wH,by simpa using ho⟩
 ·
  have hb:y=0:=by simpa using hb
  refine aX (ah [3] rfl ?_);refine ae (aa 2 rfl (ab [2] ?_));refine aB ⟨.inr rfl,_,.tmp rfl (.nil),?_⟩;subst hb;exact⟨hle,Dk (cC.lim) (by rw[show o=al x by simpa [qk]using ho];exact fP x) (by rw[show o=al x by simpa [qk]using ho];exact cR x)⟩
end Go.aq
namespace Go.aq
open Go.Proofs Num
theorem aek{H:Heap}{A:Option Addr}{c:Nat}{l:List Nat}(Ba:∀x,x∈l→x<4294967296)(hr:Rd H A (U l))(hm:(l.length:Int)≤8796093022208):
 Fn Tryz.prog 108 #[.slice A l.length c] H (mS H (val l)):=by
 refine aZ (args:=[_]) Tryz.func108 rfl rfl Tryz.ntmps108 rfl rfl fun w0=> ?_;refine ah [0] rfl ?_;refine ae (aa 1 rfl (ab [0] ?_));refine ae (aa 2 rfl (aF rfl rfl ⟨by omega,by omega⟩ (gP Tryz.underlying98 eH rfl rfl rfl (by omega) (by omega) (by omega) (by omega) ?_)));intro g hg;refine aa 1 rfl (ab [0,3] ?_);refine ae (aa 1 rfl (ab [0,3,4] ?_));refine ao (ae (aa 3 rfl (ab [0,3,4,12,13] ?_)));refine aE (pC (fun(k:Nat)(v:Value)(o:List Nat)(cr:Nat)=>l.length-k) (fun(k:Nat)(v:Value)(o:List Nat)(cr:Nat)=>put (put (put (put (put (emp) 0 (.val (.slice A l.length c))) 3 (.val (v))) 4 (.val (.int .u64 (cr:Int)))) 12 (.val (.int .i64 (l.length:Int)))) 13 (.val (.int .i64 (k:Int)))) (fun(k:Nat)(v:Value)(o:List Nat)(cr:Nat) H'=>Heap.le H H'∧kO H' v o∧k≤l.length∧o.length=k∧Lt o∧cr≤4∧val o+B^k*cr=val (l.take k)) 0 _ [] 0 (⟨Heap.bG _ hg,Kh rfl (by simp only[maxLen];omega),by omega,rfl,Lt.nil,by omega,by simp[val]⟩) ar ?_);rintro k v o cr H1 ⟨hle,cC,hk,dX,eu,qm,hv⟩;obtain⟨Ao,co,rfl⟩:=bR.form cC;refine ae (aa 1 rfl (ab [0,3,4,12,13,14] ?_));refine ao (aD rfl (fun hb=> ?_) (fun hb=> ?_))
 ·
  have hb:k<l.length:=by simpa using hb
  obtain⟨p,hp⟩:∃p,l[k]? = some p:=⟨_,List.getElem?_eq_getElem hb⟩;have ael:=Ba p (List.mem_of_getElem? hp);refine az (ah [0,3,4,12,13] rfl ?_);refine ao (aE (ae (aa 2 rfl (ab [0,3,4,5,12,13] ?_))));refine ae (aa 2 rfl (aS ag rfl rfl rfl rfl rfl (hr.le hle) (dB hp) (by omega) (by omega) fun _=>(di ag rfl rfl rfl ⟨by omega,by omega⟩ (aa 1 rfl (aF rfl rfl ⟨by omega,by omega⟩ (aa 1 rfl (ab [0,3,6,12,13] ?_)))))));refine ae (aa 2 rfl (mP rfl rfl (by omega) (by omega) (di ag rfl rfl rfl ⟨by omega,by omega⟩ (cI Tryz.underlying98 eH rfl rfl rfl rfl rfl rfl rfl ?_))));intro gb aV;refine dW Tryz.underlying98 eH rfl rfl (cC.ins _ aV) (rO (y:=(p+cr)%1000000000) rfl) (rfl) (ow _) (by omega) (by omega) ?_;intro v1 H2 ha;refine aa 1 rfl (ab [0,3,6,12,13] ?_);refine aA rfl (aa 1 rfl (lG rfl rfl (by omega) (by omega) ⟨by omega,by omega⟩ (aa 1 rfl (au (ah [0,3,4,12,13] rfl ?_)))));refine aA rfl (aF rfl rfl ⟨by omega,by omega⟩ (aa 1 rfl (au ?_)));have dG:=Dh (s:=p+cr) (u:=val (l.take (k+1))) dX hv (Nat.add_comm _ _) (kN hp)
  have e1:(((p+cr)%B:Nat):Int)=((p:Int)+cr)%1000000000:=rfl;exact⟨k+1,v1,o ++ [(p+cr)%B],(p+cr)/B,by omega,ar,(hle.trans (Heap.bG _ aV)).trans ha.le,ha.pE rfl rfl,by omega,by simp[dX],eu.snoc (Nat.mod_lt _ mQ),by rw[cg];omega,dG⟩
 ·
  have hb:l.length≤k:=by simpa using hb
  obtain rfl:k=l.length:=by omega
  rw[List.take_length]at hv;refine aX (ah [3,4] rfl ?_);refine AW (fun(v:Value)(o:List Nat)=>put (emp) 3 (.val (v))) (fun(v:Value)(o:List Nat) H'=>Heap.le H H'∧kO H' v o∧o.length≤l.length+1∧Lt o∧val o=val l) ?_ ?_
  ·
   refine ae (aa 2 rfl (ab [3,4,33] ?_));refine aD rfl (fun hb=> ?_) (fun hb=> ?_)
   ·
    have hb:0<cr:=by simpa using hb
    refine aA rfl (aa 2 rfl (di ag rfl rfl rfl ⟨by omega,by omega⟩ (cI Tryz.underlying98 eH rfl rfl rfl rfl rfl rfl rfl ?_)));intro gb aV;refine dW Tryz.underlying98 eH rfl rfl (cC.ins _ aV) (rO (y:=cr) rfl) (rfl) (ow _) (by omega) (by omega) ?_;intro v1 H2 ha;refine aa 1 rfl (au ?_);exact⟨v1,o ++ [cr],(by repeat (first | exact iJ _ | refine dA rfl ?_ | refine dA (iX (by omega)) ?_)),(hle.trans (Heap.bG _ aV)).trans ha.le,ha.pE rfl rfl,by simp;omega,eu.snoc (by rw[cg];omega),by rw[rL,dX];exact hv⟩
   have hb:cr=0:=by simpa using hb
   refine az ?_;exact⟨_,o,(by repeat (first | exact iJ _ | refine dA rfl ?_ | refine dA (iX (by omega)) ?_)),hle,cC,by omega,eu,by rw[hb,Nat.mul_zero]at hv;omega⟩
  rintro v o H3 ⟨hle,cC,dX,eu,hv⟩;obtain⟨Ao,co,Bb,oy,Om⟩:=cC.lim;subst Bb;refine ae (aa 1 rfl (aC rfl rfl (Ol eu Om oy (by omega)) ?_));intro v1 H4 hp;refine aa 1 rfl (ab [2] ?_);refine aB ⟨.inr rfl,_,.tmp rfl (.nil),?_⟩;exact⟨hle.trans hp.le,by have:=hp.nat;rwa [hv]at this⟩
end Go.aq
namespace Go.aq
open Go.Proofs Num
theorem aem{H:Heap}{u v:Value}{x y:Nat}(hx:dr H u x)(hy:dr H v y)(hm:((al x).length:Int)≤8796093022208)(bK:((al y).length:Int)≤8796093022208):
 Fn Tryz.prog 110 #[u,v] H (mS H (x+y)):=by
 obtain⟨A,c,rfl,hc,hr⟩:=hx
 obtain⟨A',c',rfl,jw,dR⟩:=hy;refine aZ (args:=[_,_]) Tryz.func110 rfl rfl Tryz.ntmps110 rfl rfl fun w0=> ?_;refine ah [0,1] rfl ?_;refine ae (aa 1 rfl (ab [0,1] ?_));refine acQ (fun(u:Value)(w:Value)(p:Nat)(q:Nat)=>put (put (emp) 0 (.val (u))) 1 (.val (w))) (fun(u:Value)(w:Value)(p:Nat)(q:Nat) H'=>H'=H∧dr H u p∧dr H w q∧p+q=x+y∧(al q).length≤(al p).length∧((al p).length:Int)≤8796093022208) ?_ ?_
 ·
  refine ae (aa 5 rfl (ab [0,1,13] ?_));refine aD rfl (fun hb=> ?_) (fun hb=> ?_)
  ·
   simp at hb
   refine aA rfl (aa 4 rfl (au ?_));exact⟨_,_,y,x,(by repeat (first | exact iJ _ | refine dA rfl ?_ | refine dA (iX (by omega)) ?_)),rfl,⟨A',c',rfl,jw,dR⟩,⟨A,c,rfl,hc,hr⟩,by omega,by omega,by omega⟩
  ·
   simp at hb
   refine az ?_;exact⟨_,_,x,y,(by repeat (first | exact iJ _ | refine dA rfl ?_ | refine dA (iX (by omega)) ?_)),rfl,⟨A,c,rfl,hc,hr⟩,⟨A',c',rfl,jw,dR⟩,by omega,by omega,by omega⟩
 ·
  rintro u w p q H3 ⟨rfl,hp,hq,mR,hl,hm⟩;clear hr dR hc jw;obtain⟨A,c,rfl,hc,hr⟩:=hp;obtain⟨A',c',rfl,jw,dR⟩:=hq;have iD:=(fP p).lt;have eE:=(fP q).lt;refine ae (aa 2 rfl (aF rfl rfl ⟨by omega,by omega⟩ (gP Tryz.underlying98 eH rfl rfl rfl (by omega) (by omega) (by omega) (by omega) ?_)));intro g hg;refine aa 1 rfl (ab [0,1,5] ?_);refine ae (aa 1 rfl (ab [0,1,5,6] ?_));refine ao (ae (aa 3 rfl (ab [0,1,5,6,21,22] ?_)));refine aE (pC (fun(k:Nat)(v:Value)(o:List Nat)(cr:Nat)=>(al p).length-k) (fun(k:Nat)(v:Value)(o:List Nat)(cr:Nat)=>put (put (put (put (put (put (emp) 0 (.val (.slice A (al p).length c))) 1 (.val (.slice A' (al q).length c'))) 5 (.val (v))) 6 (.val (.int .u32 (cr:Int)))) 21 (.val (.int .i64 ((al p).length:Int)))) 22 (.val (.int .i64 (k:Int)))) (fun(k:Nat)(v:Value)(o:List Nat)(cr:Nat) H'=>Heap.le H3 H'∧kO H' v o∧k≤(al p).length∧o.length=k∧Lt o∧cr≤1∧val o+B^k*cr=val ((al p).take k)+val ((al q).take k)) 0 _ [] 0 (⟨Heap.bG _ hg,Kh rfl (by simp only[maxLen];omega),by omega,rfl,Lt.nil,by omega,by simp[val]⟩) ar ?_);rintro k v o cr H1 ⟨hle,cC,hk,dX,eu,qm,hv⟩;obtain⟨Ao,co,rfl⟩:=bR.form cC
  refine ae (aa 1 rfl (ab [0,1,5,6,21,22,23] ?_));refine ao (aD rfl (fun hb=> ?_) (fun hb=> ?_))
  ·
   have hb:k<(al p).length:=by simpa using hb
   obtain⟨d,hd⟩:∃d,(al p)[k]? = some d:=⟨_,List.getElem?_eq_getElem hb⟩;have lH:=iD.get hd;rw[cg]at lH;obtain⟨e,he⟩:∃e,e=((al q)[k]?).getD 0:=⟨_,rfl⟩
   have Dl:e<1000000000:=by
    cases hq:(al q)[k]? with
    | none=>rw[hq]at he;simp at he;omega
    | some z=>rw[hq]at he;simp at he;have:=eE.get hq;rw[cg]at this;omega
   refine az (ah [0,1,5,6,21,22] rfl ?_);refine ao (aE (ae (aa 2 rfl (ab [0,1,5,6,7,21,22] ?_))));refine ae (aa 2 rfl (aS ag rfl rfl rfl rfl rfl (hr.le hle) (dB hd) (by omega) (by omega) fun _=>(aa 1 rfl (aF rfl rfl ⟨by omega,by omega⟩ (aa 1 rfl (ab [0,1,5,7,8,21,22] ?_))))));refine kM (fun(sv:Nat)=>put (put (put (put (put (put (emp) 0 (.val (.slice A (al p).length c))) 1 (.val (.slice A' (al q).length c'))) 5 (.val (.slice Ao o.length co))) 8 (.val (.int .u32 (sv:Int)))) 21 (.val (.int .i64 ((al p).length:Int)))) 22 (.val (.int .i64 (k:Int)))) (fun(sv:Nat) H'=>H'=H1∧sv=d+cr+e) ?_ ?_
   ·
    refine ae (aa 4 rfl (ab [0,1,5,7,8,21,22,34] ?_));refine aD rfl (fun hb=> ?_) (fun hb=> ?_)
    ·
     have hb:k<(al q).length:=by simpa using hb
     have hz:(al q)[k]? = some e:=by rw[List.getElem?_eq_getElem hb]at he⊢;simp at he;rw[he]
     refine aA rfl (aa 3 rfl (aS ag rfl rfl rfl rfl rfl (dR.le hle) (dB hz) (by omega) (by omega) fun _=>(aF rfl rfl ⟨by omega,by omega⟩ (aa 1 rfl (au ?_)))));exact⟨d+cr+e,(by repeat (first | exact iJ _ | refine dA rfl ?_ | refine dA (iX (by omega)) ?_)),rfl,rfl⟩
    have hb:(al q).length≤k:=by simpa using hb
    obtain rfl:e=0:=by rw[he,List.getElem?_eq_none hb];rfl
    refine az ?_;exact⟨d+cr,(by repeat (first | exact iJ _ | refine dA rfl ?_ | refine dA (iX (by omega)) ?_)),rfl,rfl⟩
   rintro sv H4 ⟨rfl,wI⟩;refine ae (aa 1 rfl (lG rfl rfl (by omega) (by omega) ⟨by omega,by omega⟩ (aa 1 rfl (ab [0,1,5,6,8,21,22] ?_))));refine aA rfl (aa 2 rfl (mP rfl rfl (by omega) (by omega) (cI Tryz.underlying98 eH rfl rfl rfl rfl rfl rfl rfl ?_)));intro gb aV;refine dW Tryz.underlying98 eH rfl rfl (cC.ins _ aV) (rO (y:=sv%1000000000) rfl) (rfl) (ow _) (by omega) (by omega) ?_;intro v1 H2 ha;refine aa 1 rfl (au (ah [0,1,5,6,21,22] rfl ?_));refine aA rfl (aF rfl rfl ⟨by omega,by omega⟩ (aa 1 rfl (au ?_)));have dG:=Dh (s:=cr+(d+e)) (u:=val ((al p).take (k+1))+val ((al q).take (k+1))) dX hv rfl (by rw[kN hd,yO,←he,Nat.mul_add];omega)
   obtain rfl:sv=cr+(d+e):=by omega
   exact⟨k+1,v1,o ++ [(cr+(d+e))%B],(cr+(d+e))/B,by omega,ar,(hle.trans (Heap.bG _ aV)).trans ha.le,ha.pE rfl rfl,by omega,by simp[dX],eu.snoc (Nat.mod_lt _ mQ),by rw[cg];omega,dG⟩
  have hb:(al p).length≤k:=by simpa using hb
  obtain rfl:k=(al p).length:=by omega
  rw[List.take_length,List.take_of_length_le hl,cR,cR]at hv;refine aX (ah [5,6] rfl ?_);refine ao (ae (aa 2 rfl (ab [5,6,50] ?_)));refine aD rfl (fun hb=> ?_) (fun hb=> ?_)
  ·
   have hb:0<cr:=by simpa using hb
   refine aA rfl (aa 2 rfl (cI Tryz.underlying98 eH rfl rfl rfl rfl rfl rfl rfl ?_));intro gb aV;refine dW Tryz.underlying98 eH rfl rfl (cC.ins _ aV) (rO (y:=cr) rfl) (rfl) (ow _) (by omega) (by omega) ?_;intro v1 H2 ha;refine aa 1 rfl (au (ah [5] rfl ?_));refine ae (aa 2 rfl (ab [4] ?_));refine aB ⟨.inr rfl,_,.tmp rfl (.nil),?_⟩
   have Bb:val (o ++ [cr])=x+y:=by rw[rL,dX,hv];exact mR
   exact⟨(hle.trans (Heap.bG _ aV)).trans ha.le,Dk (ha.pE (a:=o) (b:=[cr]) rfl rfl).lim ⟨eu.snoc (by rw[cg];omega),fun z hz=>by simp at hz;omega⟩ Bb⟩
  have hb:cr=0:=by simpa using hb
  refine az (ah [5] rfl ?_);refine ae (aa 2 rfl (ab [4] ?_));refine aB ⟨.inr rfl,_,.tmp rfl (.nil),?_⟩;rw[hb,Nat.mul_zero,Nat.add_zero]at hv;refine⟨hle,Dk cC.lim (last_pos eu dX ?_) (by rw[hv];exact mR)⟩
  rcases Nat.eq_zero_or_pos (al p).length with h0 | h0
  ·exact .inl h0
  have:=(fP p).pos (by intro e0;rw[e0]at h0;simp at h0);rw[cR]at this;exact .inr (by rw[hv];omega)
end Go.aq
namespace Go.aq
open Go.Proofs Num
theorem U5{H:Heap}{u v:Value}{x y:Nat}(hx:dr H u x)(hy:dr H v y)(wH:y≤x)(hm:((al x).length:Int)≤8796093022208):
 Fn Tryz.prog 112 #[u,v] H (mS H (x-y)):=by
 obtain⟨A,c,rfl,hc,hr⟩:=hx
 obtain⟨A',c',rfl,jw,dR⟩:=hy
 have iD:=(fP x).lt
 have eE:=(fP y).lt
 have hl:=mc wH;refine aZ (args:=[_,_]) Tryz.func112 rfl rfl Tryz.ntmps112 rfl rfl fun w0=> ?_;refine ah [0,1] rfl ?_;refine ae (aa 1 rfl (ab [0,1] ?_));refine ae (aa 2 rfl (gP Tryz.underlying98 eH rfl rfl rfl (by omega) (by omega) (by omega) (by omega) ?_));intro g hg;refine aa 1 rfl (ab [0,1,5] ?_);refine ae (aa 1 rfl (ab [0,1,5,6] ?_));refine ao (ae (aa 3 rfl (ab [0,1,5,6,13,14] ?_)));refine aE (pC (fun(k:Nat)(v:Value)(o:List Nat)(br:Nat)=>(al x).length-k) (fun(k:Nat)(v:Value)(o:List Nat)(br:Nat)=>put (put (put (put (put (put (emp) 0 (.val (.slice A (al x).length c))) 1 (.val (.slice A' (al y).length c'))) 5 (.val (v))) 6 (.val (.int .i64 (br:Int)))) 13 (.val (.int .i64 ((al x).length:Int)))) 14 (.val (.int .i64 (k:Int)))) (fun(k:Nat)(v:Value)(o:List Nat)(br:Nat) H'=>Heap.le H H'∧kO H' v o∧k≤(al x).length∧o.length=k∧Lt o∧br≤1∧val ((al x).take k)+B^k*br=val o+val ((al y).take k)) 0 _ [] 0 (⟨Heap.bG _ hg,Kh rfl (by simp only[maxLen];omega),by omega,rfl,Lt.nil,by omega,by simp[val]⟩) ar ?_);rintro k v o br H1 ⟨hle,cC,hk,dX,eu,vk,hv⟩;obtain⟨Ao,co,rfl⟩:=bR.form cC;refine ae (vr 1 ?_)
 refine ab [0,1,5,6,13,14,15] ?_;refine ao (aD rfl (fun hb=> ?_) (fun hb=> ?_))
 ·
  have hb:k<(al x).length:=by simpa using hb
  obtain⟨d,hd⟩:∃d,(al x)[k]? = some d:=⟨_,List.getElem?_eq_getElem hb⟩;have lH:=iD.get hd;rw[cg]at lH;obtain⟨e,he⟩:∃e,e=((al y)[k]?).getD 0:=⟨_,rfl⟩
  have Dl:e<1000000000:=by
   cases hq:(al y)[k]? with
   | none=>rw[hq]at he;simp at he;omega
   | some z=>rw[hq]at he;simp at he;have:=eE.get hq;rw[cg]at this;omega
  refine az (ah [0,1,5,6,13,14] rfl ?_);refine ao (aE (ae (aa 2 rfl (ab [0,1,5,6,7,13,14] ?_))));refine ae (aa 2 rfl (aS ag rfl rfl rfl rfl rfl (hr.le hle) (dB hd) (by omega) (by omega) fun _=>(di ag rfl rfl rfl ⟨by omega,by omega⟩ (aa 1 rfl (cQ rfl rfl ⟨by omega,by omega⟩ (aa 1 rfl (ab [0,1,5,7,8,13,14] ?_)))))));refine kM (fun(sv:Int)=>put (put (put (put (put (put (emp) 0 (.val (.slice A (al x).length c))) 1 (.val (.slice A' (al y).length c'))) 5 (.val (.slice Ao o.length co))) 8 (.val (.int .i64 sv))) 13 (.val (.int .i64 ((al x).length:Int)))) 14 (.val (.int .i64 (k:Int)))) (fun(sv:Int) H'=>H'=H1∧sv=(d:Int)-br-e) ?_ ?_
  ·
   refine ae (aa 4 rfl (ab [0,1,5,7,8,13,14,27] ?_));refine aD rfl (fun hb=> ?_) (fun hb=> ?_)
   ·
    have hb:k<(al y).length:=by simpa using hb
    have hz:(al y)[k]? = some e:=by rw[List.getElem?_eq_getElem hb]at he⊢;simp at he;rw[he]
    refine aA rfl (aa 3 rfl (aS ag rfl rfl rfl rfl rfl (dR.le hle) (dB hz) (by omega) (by omega) fun _=>(di ag rfl rfl rfl ⟨by omega,by omega⟩ (cQ rfl rfl ⟨by omega,by omega⟩ (aa 1 rfl (au ?_))))));exact⟨(d:Int)-br-e,(by repeat (first | exact iJ _ | refine dA rfl ?_ | refine dA (iX (by omega)) ?_)),rfl,rfl⟩
   have hb:(al y).length≤k:=by simpa using hb
   have Kl:e=0:=by rw[he,List.getElem?_eq_none hb];rfl
   refine az ?_;exact⟨(d:Int)-br,(by repeat (first | exact iJ _ | refine dA rfl ?_ | refine dA (iX (by omega)) ?_)),rfl,by omega⟩
  ·
   rintro sv H4 ⟨rfl,wI⟩;refine ae (aa 1 rfl (ab [0,1,5,6,8,13,14] ?_));refine ao (ae (aa 2 rfl (ab [0,1,5,6,8,13,14,36] ?_)));refine aD rfl (fun hb=> ?_) (fun hb=> ?_)
   ·
    have hb:sv<0:=by simpa using hb
    refine ae (aa 1 rfl (aF rfl rfl ⟨by omega,by omega⟩ (aa 1 rfl (ab [0,1,5,8,13,14] ?_))));refine aA rfl (aa 1 rfl (au (ah [0,1,5,6,8,13,14] rfl ?_)));refine aA rfl (aa 2 rfl (di ag rfl rfl rfl ⟨by omega,by omega⟩ (cI Tryz.underlying98 eH rfl rfl rfl rfl rfl rfl rfl ?_)));intro gb aV;refine dW Tryz.underlying98 eH rfl rfl (cC.ins _ aV) (rO (y:=if sv<0 then d+1000000000-br-e else d-br-e) (by split <;> omega)) (rfl) (ow _) (by omega) (by omega) ?_;intro v1 H2 ha
    (first|rw[if_pos hb]at ha|rw[if_neg (by omega)]at ha)
    refine aa 1 rfl (au (ah [0,1,5,6,13,14] rfl ?_));refine aA rfl (aF rfl rfl ⟨by omega,by omega⟩ (aa 1 rfl (au ?_)));have dG:=FT (s:=d+1000000000-br-e) (br':=1) (d:=d) (e:=e) dX hv (by rw[cg];omega) (kN hd) (show val ((al y).take (k+1))=val ((al y).take k)+B^k*e by rw[yO,←he]);exact⟨k+1,v1,o ++ [d+1000000000-br-e],1,by omega,ar,(hle.trans (Heap.bG _ aV)).trans ha.le,ha.pE rfl rfl,by omega,by simp[dX],eu.snoc (by rw[cg];omega),by omega,dG⟩
   have hb:0≤sv:=by simpa using hb
   refine az (ah [0,1,5,6,8,13,14] rfl ?_);refine aA rfl (aa 2 rfl (di ag rfl rfl rfl ⟨by omega,by omega⟩ (cI Tryz.underlying98 eH rfl rfl rfl rfl rfl rfl rfl ?_)));intro gb aV;refine dW Tryz.underlying98 eH rfl rfl (cC.ins _ aV) (rO (y:=if sv<0 then d+1000000000-br-e else d-br-e) (by split <;> omega)) (rfl) (ow _) (by omega) (by omega) ?_;intro v1 H2 ha
   (first|rw[if_pos hb]at ha|rw[if_neg (by omega)]at ha)
   refine aa 1 rfl (au (ah [0,1,5,6,13,14] rfl ?_));refine aA rfl (aF rfl rfl ⟨by omega,by omega⟩ (aa 1 rfl (au ?_)));have dG:=FT (s:=d-br-e) (br':=0) (d:=d) (e:=e) dX hv (by omega) (kN hd) (show val ((al y).take (k+1))=val ((al y).take k)+B^k*e by rw[yO,←he]);exact⟨k+1,v1,o ++ [d-br-e],0,by omega,ar,(hle.trans (Heap.bG _ aV)).trans ha.le,ha.pE rfl rfl,by omega,by simp[dX],eu.snoc (by rw[cg];omega),by omega,dG⟩
 ·
  have hb:(al x).length≤k:=by simpa using hb
  obtain rfl:k=(al x).length:=by omega
  rw[List.take_length,List.take_of_length_le hl,cR,cR]at hv;have Bb:=vf eu;rw[dX]at Bb
  have tz:br=0:=by
   rcases Nat.eq_zero_or_pos br with h | h
   ·exact h
   ·
    obtain rfl:br=1:=by omega
    omega
  obtain⟨Ao',co',aen,oy,Om⟩:=cC.lim
  cases aen
  refine aX (ah [5] rfl ?_);refine ae (aa 1 rfl (aC rfl rfl (Ol eu Om oy (by omega)) ?_));intro v1 H4 hp;refine aa 1 rfl (ab [4] ?_);refine aB ⟨.inr rfl,_,.tmp rfl (.nil),?_⟩;exact⟨hle.trans hp.le,by have:=hp.nat;rwa [show val o=x-y by rw[tz]at hv;omega]at this⟩
end Go.aq
namespace Go.aq
open Go.Proofs Num
theorem yS(H:Heap)(g n:Nat):ins H g ⟨dd [.int .u32 0] (n*1),n*1,74,true⟩=ins H g (dH (List.replicate n 0) n):=aei (k:=n) rfl
theorem yT{l:List Nat}{k y:Nat}(h:k<l.length):(l.set k y).take (k+1)=l.take k ++ [y]:=aeh h
theorem Km{q m r x:Nat}(h:q*m+r=x)(hr:r<m):x/m=q∧x%m=r:=by
 subst h
 refine⟨?_,?_⟩
 ·rw[Nat.mul_comm,Nat.mul_add_div (by omega),Nat.div_eq_of_lt hr,Nat.add_zero]
 ·rw[Nat.mul_comm,Nat.mul_add_mod,Nat.mod_eq_of_lt hr]
def aeo(H:Heap)(n x:Nat)(v:Value)(H':Heap):Prop:=∃g l,H g=none∧v = .slice (some ⟨g,0,none⟩) n n∧H'=ins H g (dH l n)∧l.length=n∧Lt l∧val l=x
theorem Kn{H:Heap}{v:Value}{l:List Nat}(h:jz H v l)(bX:Lt l)(hm:(l.length:Int)≤35184372088832):Fn Tryz.prog 150 #[v] H (mS H (val l)):=by
 obtain⟨A,c,rfl,hc,hr⟩:=h
 exact Ol bX hr hc hm
theorem U6{H:Heap}{u:Value}{l:List Nat}{m:Nat}(hu:jz H u l)(hl:Lt l)(hm:m<1000000000)(hs:(l.length:Int)≤8796093022208):
 Fn Tryz.prog 168 #[u,.int .u64 (m:Int)] H (aeo H (l.length+1) (val l*m)):=by
 obtain⟨A,c,rfl,hc,hr⟩:=hu;refine aZ (args:=[_,_]) Tryz.func168 rfl rfl Tryz.ntmps168 rfl rfl fun w0=> ?_;refine ah [0,1] rfl ?_;refine ae (aa 1 rfl (ab [0,1] ?_));refine ae (aa 2 rfl (aF rfl rfl ⟨by omega,by omega⟩ (gP Tryz.underlying98 eH rfl rfl rfl (by omega) (by omega) (by omega) (by omega) ?_)));intro g hg;rw[show ((l.length:Int)+1).toNat=l.length+1 from by omega,yS];have qn:=fun e=>hr.le (Heap.bG (g:=g) e hg);refine aa 1 rfl (ab [0,1,5] ?_);refine ae (aa 1 rfl (ab [0,1,5,6] ?_));refine ao (ae (aa 3 rfl (ab [0,1,5,6,14,15] ?_)));refine aE (fB (fun(k:Nat)(o:List Nat)(cr:Nat)=>l.length-k) (fun(k:Nat)(o:List Nat)(cr:Nat)=>put (put (put (put (put (put (emp) 0 (.val (.slice A l.length c))) 1 (.val (.int .u64 (m:Int)))) 5 (.val (.slice (some ⟨g,0,none⟩) (l.length+1) (l.length+1)))) 6 (.val (.int .u64 (cr:Int)))) 14 (.val (.int .i64 (l.length:Int)))) 15 (.val (.int .i64 (k:Int)))) (fun(k:Nat)(o:List Nat)(cr:Nat) H'=>H'=ins H g (dH o (l.length+1))∧k≤l.length∧o.length=l.length+1∧Lt o∧cr<1000000000∧val (o.take k)+B^k*cr=val (l.take k)*m) 0 _ 0 (⟨rfl,by omega,by simp,Lt.replicate _,by omega,by simp[val]⟩) ar ?_)
 rintro k o cr H1 ⟨rfl,hk,dX,eu,qm,hv⟩;refine ae (aa 1 rfl (ab [0,1,5,6,14,15,16] ?_));refine ao (aD rfl (fun hb=> ?_) (fun hb=> ?_))
 ·
  have hb:k<l.length:=by simpa using hb
  obtain⟨d,hd⟩:∃d,l[k]? = some d:=⟨_,List.getElem?_eq_getElem hb⟩;have lH:=hl.get hd;rw[cg]at lH;have U8:d*m≤999999999*999999999:=Nat.mul_le_mul (by omega) (by omega)
  have U9:(d:Int)*(m:Int)=((d*m:Nat):Int):=by simp
  obtain⟨dm,amB⟩:∃dm,dm=d*m:=⟨_,rfl⟩;refine az (ah [0,1,5,6,14,15] rfl ?_);refine ao (aE (ae (aa 2 rfl (ab [0,1,5,6,7,14,15] ?_))));refine ae (aa 2 rfl (aS ag rfl rfl rfl rfl rfl (qn _) (dB hd) (by omega) (by omega) fun _=>(di ag rfl rfl rfl ⟨by omega,by omega⟩ (aa 1 rfl (gO rfl rfl ⟨by omega,by omega⟩ (aa 1 rfl (aF rfl rfl ⟨by omega,by omega⟩ (aa 1 rfl (ab [0,1,5,7,8,14,15] ?_)))))))));refine ae (aa 3 rfl (mP rfl rfl (by omega) (by omega) (di ag rfl rfl rfl ⟨by omega,by omega⟩ ?_)));obtain⟨ti,aj,ak⟩:=ou;refine cV (.inl rfl) ag rfl rfl rfl (by omega) (by omega) (bn _ _ _) rfl (by rw[ox];omega) aj ak (fun _=>rfl) rfl rfl rfl fun _=> ?_;refine ab [0,1,5,8,14,15] ?_;refine aA rfl (aa 1 rfl (lG rfl rfl (by omega) (by omega) ⟨by omega,by omega⟩ (aa 1 rfl (au (ah [0,1,5,6,14,15] rfl ?_)))));refine aA rfl (aF rfl rfl ⟨by omega,by omega⟩ (aa 1 rfl (au ?_)));have dG:=Dh (s:=d*m+cr) (a:=cr) (b:=d*m) (u:=val (l.take (k+1))*m) (by simp;omega) hv (by omega) (by rw[kN hd,Nat.add_mul,Nat.mul_assoc])
  rw[←yT (by omega)]at dG;exact⟨k+1,o.set k ((d*m+cr)%B),(d*m+cr)/B,by omega,ar,by rw[vj (y:=(d*m+cr)%B) (by rw[cg];omega)];rfl,by omega,by simp[dX],eu.set (Nat.mod_lt _ mQ),by rw[cg];omega,dG⟩
 ·
  have hb:l.length≤k:=by simpa using hb
  obtain rfl:k=l.length:=by omega
  rw[List.take_length]at hv;refine aX (ah [0,5,6] rfl ?_);refine ae (aa 4 rfl (di ag rfl rfl rfl ⟨by omega,by omega⟩ ?_));obtain⟨ti,aj,ak⟩:=ou;refine cV (.inl rfl) ag rfl rfl rfl (by omega) (by omega) (bn _ _ _) rfl (by rw[ox];omega) aj ak (fun _=>rfl) rfl rfl rfl fun _=> ?_;refine ab [5] ?_;refine ae (aa 2 rfl (ab [4] ?_));refine aB ⟨.inr rfl,_,.tmp rfl (.nil),?_⟩;refine⟨g,o.set l.length cr,hg,rfl,?_,by simp[dX],eu.set (by rw[cg];omega),?_⟩
  ·rw[vj (y:=cr) rfl];rfl
  ·rw[←List.take_length (l:=o.set l.length cr),List.length_set,dX,yT (by omega),rL,List.length_take,Nat.min_eq_left (by omega)];exact hv
theorem Va{H:Heap}{u:Value}{l:List Nat}{m:Nat}(hu:jz H u l)(hl:Lt l)(hm:m<1000000000)(wJ:0<m)(hs:(l.length:Int)≤8796093022208):
 Fn Tryz.prog 167 #[u,.int .u64 (m:Int)] H (fun v H'=>Heap.le H H'∧∃q,v = .tuple #[q,.int .u64 ((val l%m:Nat):Int)]∧dr H' q (val l/m)):=by
 obtain⟨A,c,rfl,hc,hr⟩:=hu;refine aZ (args:=[_,_]) Tryz.func167 rfl rfl Tryz.ntmps167 rfl rfl fun w0=> ?_;refine ah [0,1] rfl ?_;refine ae (aa 2 rfl (ab [0,1] ?_));refine ae (aa 2 rfl (gP Tryz.underlying98 eH rfl rfl rfl (by omega) (by omega) (by omega) (by omega) ?_));intro g hg;rw[show ((l.length:Int)).toNat=l.length from by omega,yS];have qn:=fun e=>hr.le (Heap.bG (g:=g) e hg);refine aa 1 rfl (ab [0,1,6] ?_);refine ae (aa 1 rfl (ab [0,1,6,7] ?_));refine ao (ae (aa 2 rfl (cQ rfl rfl ⟨by omega,by omega⟩ (aa 1 rfl (ab [0,1,6,7,8] ?_)))));refine aE (fB (fun(k:Nat)(o:List Nat)(rs:Nat)=>k) (fun(k:Nat)(o:List Nat)(rs:Nat)=>put (put (put (put (put (emp) 0 (.val (.slice A l.length c))) 1 (.val (.int .u64 (m:Int)))) 6 (.val (.slice (some ⟨g,0,none⟩) l.length l.length))) 7 (.val (.int .u64 (rs:Int)))) 8 (.val (.int .i64 ((k:Int)-1)))) (fun(k:Nat)(o:List Nat)(rs:Nat) H'=>H'=ins H g (dH o l.length)∧k≤l.length∧o.length=l.length∧Lt o∧rs<m∧val (o.drop k)*m+rs=val (l.drop k)) l.length _ 0 (⟨rfl,by omega,by simp,Lt.replicate _,by omega,by simp[val]⟩) ar ?_);rintro k o rs H1 ⟨rfl,hk,dX,eu,yU,hv⟩;refine ao ?_
 refine ae (aa 2 rfl (ab [0,1,6,7,8,17] ?_));refine aD rfl (fun hb=> ?_) (fun hb=> ?_)
 ·
  have hb:1≤k:=by simp at hb;omega
  obtain⟨k,rfl⟩:∃j,k=j+1:=⟨k-1,by omega⟩;obtain⟨d,hd⟩:∃d,l[k]? = some d:=⟨_,List.getElem?_eq_getElem (by omega)⟩;have lH:=hl.get hd;rw[cg]at lH
  have hj:(((k+1:Nat):Int)-1).toNat=k:=by omega
  have mf:((rs:Int)*1000000000+(d:Int))/(m:Int)<1000000000:=Int.ediv_lt_of_lt_mul (by omega) (by omega);have b8:0≤((rs:Int)*1000000000+(d:Int))/(m:Int):=Int.ediv_nonneg (by omega) (by omega);refine az (ah [0,1,6,7,8] rfl ?_);refine ao (aE (ae (aa 1 rfl (gO rfl rfl ⟨by omega,by omega⟩ (aa 2 rfl (aS ag rfl rfl rfl rfl rfl (qn _) (by rw[hj];exact dB hd) (by omega) (by omega) fun _=> ?_))))));refine di ag rfl rfl rfl ⟨by omega,by omega⟩ (aF rfl rfl ⟨by omega,by omega⟩ (aa 1 rfl (ab [0,1,6,8,9] ?_)));refine ae (aa 4 rfl (lG rfl rfl (by omega) (by omega) ⟨by omega,by omega⟩ (di ag rfl rfl rfl ⟨by omega,by omega⟩ ?_)));obtain⟨ti,aj,ak⟩:=ou;refine cV (.inl rfl) ag rfl rfl rfl (by omega) (by omega) (bn _ _ _) rfl (by rw[ox];omega) aj ak (fun _=>rfl) rfl rfl rfl fun _=> ?_;refine ab [0,1,6,8,9] ?_;refine aA rfl (aa 2 rfl (mP rfl rfl (by omega) (by omega) (aa 1 rfl (au (ah [0,1,6,7,8] rfl ?_)))));refine aA rfl (aa 1 rfl (cQ rfl rfl ⟨by omega,by omega⟩ (aa 1 rfl (au ?_))))
  have hq:(rs*1000000000+d)/m<1000000000:=by rw[Nat.div_lt_iff_lt_mul wJ];omega
  refine⟨k,o.set k ((rs*1000000000+d)/m),(rs*1000000000+d)%m,by omega,ar,by rw[vj (y:=(rs*1000000000+d)/m) (by simp)];rw[hj],by omega,by simp[dX],eu.set (by rw[cg];omega),Nat.mod_lt _ wJ,?_⟩;rw[set_drop (by omega),Di hd,jy,jy,←hv];have:=Nat.div_add_mod (rs*1000000000+d) m
  simp only[cg,Nat.add_mul,Nat.mul_add,Nat.mul_assoc]
  rw[Nat.mul_comm m]at this
  omega
 ·
  have hb:k=0:=by simp at hb;omega
  subst hb
  simp only[List.drop_zero]at hv
  refine aX (ah [6,7] rfl ?_);refine ae (aa 1 rfl (aC rfl rfl (Kn (AZ _ _ o _ _ dX.symm (Nat.le_refl _)) eu (by omega)) ?_));intro v1 H4 hp;refine aa 3 rfl (ab [4,5] ?_);refine aB ⟨.inr rfl,_,.tmp rfl (.tmp rfl (.nil)),?_⟩;refine⟨(Heap.bG _ hg).trans hp.le,v1,?_,?_⟩
  ·rw[(Km hv yU).2];rfl
  ·rw[(Km hv yU).1];exact hp.nat
end Go.aq
namespace Go.aq
open Go.Proofs Num
def rP(o:List Nat)(p:Nat):Prop:=∀t z,p≤t→o[t]? = some z→z=0
theorem rP.set{o:List Nat}{p t y:Nat}(h:rP o p)(ht:t<p):rP (o.set t y) p:=fun s z hs hz=>by
 rw[List.getElem?_set_ne (by omega)]at hz
 exact h s z hs hz
theorem rP.aep{o:List Nat}{p y:Nat}(h:rP o p):rP (o.set p y) (p+1):=fun s z hs hz=>by
 rw[List.getElem?_set_ne (by omega)]at hz
 exact h s z (by omega) hz
theorem Vb(n p:Nat):rP (List.replicate n 0) p:=fun t z _ hz=>by
 rw[List.getElem?_replicate]at hz
 split at hz
 ·cases hz;rfl
 ·cases hz
theorem Vc{o:List Nat}{i j e cr s X Y P d:Nat}(he:o[i+j]? = some e)(hv:val o+B^(i+j)*cr=X+B^i*d*Y)(hs:s=d*P+e+cr):
  val (o.set (i+j) (s%B))+B^(i+(j+1))*(s/B)=X+B^i*d*(Y+B^j*P):=by
 have h1:=U0 (y:=s%B) he
 have h2:B^(i+j)*s=B^(i+j)*(s%B)+B^(i+j)*(B*(s/B)):=by rw[←Nat.mul_add,Nat.mod_add_div]
 have h3:B^(i+j)*s=B^(i+j)*(d*P)+B^(i+j)*e+B^(i+j)*cr:=by rw[hs,Nat.mul_add,Nat.mul_add]
 have h4:B^i*d*(B^j*P)=B^(i+j)*(d*P):=by rw[Nat.pow_add,Nat.mul_assoc,Nat.mul_assoc,Nat.mul_left_comm d]
 rw[Nat.mul_add,h4,←Nat.add_assoc i j 1,Nat.pow_succ,Nat.mul_assoc]
 omega
theorem Bc{H:Heap}{u v:Value}{x y:Nat}(hx:dr H u x)(hy:dr H v y)(hm:((al x).length:Int)≤8796093022208)(bK:((al y).length:Int)≤8796093022208):
 Fn Tryz.prog 109 #[u,v] H (mS H (x*y)):=by
 obtain⟨A,c,rfl,hc,hr⟩:=hx
 obtain⟨A',c',rfl,jw,dR⟩:=hy
 have iD:=(fP x).lt
 have eE:=(fP y).lt;refine aZ (args:=[_,_]) Tryz.func109 rfl rfl Tryz.ntmps109 rfl rfl fun w0=> ?_;refine ah [0,1] rfl ?_;refine ae (aa 1 rfl (ab [0,1] ?_));refine ao ?_
 by_cases mg:(al x).length=0
 ·
  skip
  refine ae (aa 2 rfl (aG true rfl rfl (iL (by omega)) (aa 5 rfl (ab [0,1,17] ?_))));refine cK rfl (ae (aa 1 rfl (ab [4] ?_)));refine aB ⟨.inr rfl,_,.tmp rfl (.nil),?_⟩;exact⟨.refl _,by have:x=0:=(by rw[←cR x,List.eq_nil_of_length_eq_zero mg];rfl);rw[this,Nat.zero_mul];exact wG H⟩
 ·
  skip
  refine ae (aa 2 rfl (aG false rfl rfl (ks (by omega)) (aa 5 rfl (ab [0,1,17] ?_))));refine aD rfl (fun hb=> ?_) (fun hb=> ?_)
  ·
   have hb:(al y).length=0:=by simpa using hb
   refine ae (aa 1 rfl (ab [4] ?_));refine aB ⟨.inr rfl,_,.tmp rfl (.nil),?_⟩;exact⟨.refl _,by have:y=0:=(by rw[←cR y,List.eq_nil_of_length_eq_zero hb];rfl);rw[this,Nat.mul_zero];exact wG H⟩
  have jk:(al y).length≠0:=by simpa using hb
  refine az (ah [0,1] rfl ?_);refine ae (aa 4 rfl (aF rfl rfl ⟨by omega,by omega⟩ (gP Tryz.underlying98 eH rfl rfl rfl (by omega) (by omega) (by omega) (by omega) ?_)));intro g hg;rw[show (((al x).length:Int)+((al y).length:Int)).toNat=((al x).length+(al y).length)from by omega,yS];have qn:=fun e=>hr.le (Heap.bG (g:=g) e hg);have FW:=fun e=>dR.le (Heap.bG (g:=g) e hg);refine aa 1 rfl (ab [0,1,5] ?_);refine ao (ae (aa 3 rfl (ab [0,1,5,25,26] ?_)));refine aE (gn (fun(i:Nat)(o:List Nat)=>(al x).length-i) (fun(i:Nat)(o:List Nat)=>put (put (put (put (put (emp) 0 (.val (.slice A (al x).length c))) 1 (.val (.slice A' (al y).length c'))) 5 (.val (.slice (some ⟨g,0,none⟩) ((al x).length+(al y).length) ((al x).length+(al y).length)))) 25 (.val (.int .i64 ((al x).length:Int)))) 26 (.val (.int .i64 (i:Int)))) (fun(i:Nat)(o:List Nat) H'=>H'=ins H g (dH o ((al x).length+(al y).length))∧i≤(al x).length∧o.length=((al x).length+(al y).length)∧Lt o∧rP o (i+(al y).length)∧val o=val ((al x).take i)*y) 0 _ (⟨rfl,by omega,by simp,Lt.replicate _,Vb _ _,by simp[val,U1]⟩) ar ?_);rintro i o H1 ⟨rfl,hi,dX,eu,hz,hv⟩;refine ae ?_
  refine aa 1 rfl (ab [0,1,5,25,26,27] ?_);refine ao (aD rfl (fun hb=> ?_) (fun hb=> ?_))
  ·
   have hb:i<(al x).length:=by simpa using hb
   obtain⟨d,hd⟩:∃d,(al x)[i]? = some d:=⟨_,List.getElem?_eq_getElem hb⟩;have lH:=iD.get hd;rw[cg]at lH;refine az (ah [0,1,5,25,26] rfl ?_);refine ao (aE (ae (aa 2 rfl (ab [0,1,5,6,25,26] ?_))));refine ae (aa 1 rfl (ab [0,1,5,6,7,25,26] ?_));refine ao (ae (aa 3 rfl (ab [0,1,5,6,7,25,26,30,31] ?_)));refine aE (fB (fun(j:Nat)(o2:List Nat)(cr:Nat)=>(al y).length-j) (fun(j:Nat)(o2:List Nat)(cr:Nat)=>put (put (put (put (put (put (put (put (put (emp) 0 (.val (.slice A (al x).length c))) 1 (.val (.slice A' (al y).length c'))) 5 (.val (.slice (some ⟨g,0,none⟩) ((al x).length+(al y).length) ((al x).length+(al y).length)))) 6 (.val (.int .i64 (i:Int)))) 7 (.val (.int .u64 (cr:Int)))) 25 (.val (.int .i64 ((al x).length:Int)))) 26 (.val (.int .i64 (i:Int)))) 30 (.val (.int .i64 ((al y).length:Int)))) 31 (.val (.int .i64 (j:Int)))) (fun(j:Nat)(o2:List Nat)(cr:Nat) H'=>H'=ins H g (dH o2 ((al x).length+(al y).length))∧j≤(al y).length∧o2.length=((al x).length+(al y).length)∧Lt o2∧cr<1000000000∧rP o2 (i+(al y).length)∧val o2+B^(i+j)*cr=val ((al x).take i)*y+B^i*d*val ((al y).take j)) 0 o 0 (⟨rfl,by omega,dX,eu,by omega,hz,by simp[val,hv]⟩) ar ?_)
   rintro j o2 cr H1 ⟨rfl,hj,FX,Be,qm,pG,dT⟩;refine ae (aa 1 rfl (ab [0,1,5,6,7,25,26,30,31,32] ?_));refine ao (aD rfl (fun hb=> ?_) (fun hb=> ?_))
   ·
    have hb:j<(al y).length:=by simpa using hb
    obtain⟨p,hp⟩:∃p,(al y)[j]? = some p:=⟨_,List.getElem?_eq_getElem hb⟩;have yR:=eE.get hp;rw[cg]at yR;obtain⟨e,he⟩:∃e,o2[i+j]? = some e:=⟨_,List.getElem?_eq_getElem (by omega)⟩;have Dl:=Be.get he;rw[cg]at Dl
    have Bf:((i:Int)+(j:Int)).toNat=i+j:=by omega
    have U8:d*p≤999999999*999999999:=Nat.mul_le_mul (by omega) (by omega)
    have U9:(d:Int)*(p:Int)=((d*p:Nat):Int):=by simp
    refine az (ah [0,1,5,6,7,25,26,30,31] rfl ?_);refine ao (aE (ae (aa 2 rfl (ab [0,1,5,6,7,8,25,26,30,31] ?_))));refine bM .bJ [0,1,2,3,4,5,6,7,8,9,10,11,12,13,14,15,16,17,18,19,20,21] follows (by kernel_rfl) ?_;refine aa 2 rfl (aS ag rfl rfl rfl rfl rfl (qn _) (dB hd) (by omega) (by omega) fun _=>(di ag rfl rfl rfl ⟨by omega,by omega⟩ (aa 2 rfl (aS ag rfl rfl rfl rfl rfl (FW _) (dB hp) (by omega) (by omega) fun _=>(di ag rfl rfl rfl ⟨by omega,by omega⟩ (gO rfl rfl ⟨by omega,by omega⟩ (aa 3 rfl (aF rfl rfl ⟨by omega,by omega⟩ (aS ag rfl rfl rfl rfl rfl (Ki _ _ _ _) (by rw[Bf];exact dB he) (by omega) (by omega) fun _=> ?_)))))))));refine di ag rfl rfl rfl ⟨by omega,by omega⟩ (aF rfl rfl ⟨by omega,by omega⟩ (aa 1 rfl (aF rfl rfl ⟨by omega,by omega⟩ (aa 1 rfl (ab [0,1,5,6,8,9,25,26,30,31] ?_)))));refine ae (aa 3 rfl (aF rfl rfl ⟨by omega,by omega⟩ (aa 1 rfl (mP rfl rfl (by omega) (by omega) (di ag rfl rfl rfl ⟨by omega,by omega⟩ ?_)))));obtain⟨ti,aj,ak⟩:=ou;refine cV (.inl rfl) ag rfl rfl rfl (by omega) (by omega) (bn _ _ _) rfl (by rw[ox];omega) aj ak (fun _=>rfl) rfl rfl rfl fun _=> ?_
    refine ab [0,1,5,6,9,25,26,30,31] ?_;refine aA rfl (aa 1 rfl (lG rfl rfl (by omega) (by omega) ⟨by omega,by omega⟩ (aa 1 rfl (au (ah [0,1,5,6,7,25,26,30,31] rfl ?_)))));refine aA rfl (aF rfl rfl ⟨by omega,by omega⟩ (aa 1 rfl (au ?_)));refine⟨j+1,o2.set (i+j) ((d*p+e+cr)%B),(d*p+e+cr)/B,by omega,ar,by rw[vj (y:=(d*p+e+cr)%B) (by rw[cg];simp),Bf],by omega,by simp[FX],Be.set (Nat.mod_lt _ mQ),by rw[cg];omega,pG.set (by omega),?_⟩;rw[kN hp];exact Vc he dT rfl
   have hb:(al y).length≤j:=by simpa using hb
   obtain rfl:j=(al y).length:=by omega
   rw[List.take_length,cR]at dT;refine aX (ah [0,1,5,6,7,25,26] rfl ?_);refine aA rfl (aa 4 rfl (aF rfl rfl ⟨by omega,by omega⟩ (aa 1 rfl (di ag rfl rfl rfl ⟨by omega,by omega⟩ ?_))));obtain⟨ti,aj,ak⟩:=ou;refine cV (.inl rfl) ag rfl rfl rfl (by omega) (by omega) (bn _ _ _) rfl (by rw[ox];omega) aj ak (fun _=>rfl) rfl rfl rfl fun _=> ?_;refine au (ah [0,1,5,25,26] rfl ?_);refine aA rfl (aF rfl rfl ⟨by omega,by omega⟩ (aa 1 rfl (au ?_)));obtain⟨e,he⟩:∃e,o2[i+(al y).length]? = some e:=⟨_,List.getElem?_eq_getElem (by omega)⟩;have Kl:=pG _ _ (Nat.le_refl _) he;subst Kl;refine⟨i+1,o2.set (i+(al y).length) cr,by omega,ar,by rw[vj (y:=cr) rfl,show ((i:Int)+((al y).length:Int)).toNat=i+(al y).length by omega],by omega,by simp[FX],Be.set (by rw[cg];omega),by rw[Nat.add_right_comm];exact pG.aep,?_⟩;have h1:=U0 (y:=cr) he;rw[kN hd,Nat.add_mul]
   omega
  have hb:(al x).length≤i:=by simpa using hb
  obtain rfl:i=(al x).length:=by omega
  rw[List.take_length,cR]at hv;refine aX (ah [5] rfl ?_);refine ae (aa 1 rfl (aC rfl rfl (Kn (AZ _ _ o _ _ dX.symm (Nat.le_refl _)) eu (by omega)) ?_));intro v1 H4 hp;refine aa 1 rfl (ab [4] ?_);refine aB ⟨.inr rfl,_,.tmp rfl (.nil),?_⟩;exact⟨(Heap.bG _ hg).trans hp.le,by have:=hp.nat;rwa [hv]at this⟩
end Go.aq
namespace Num
theorem aeq{T V W vl wl head u2 top next bI rest:Nat}(hV:V=vl+T*(next+B*top))(hW:W=wl+T*(u2+B*head))(pH:wl<T)(hg:bI*top+rest=head)(hc:rest*B+u2<bI*next):W<bI*V:=by
 have h1:u2+B*head+1≤bI*(next+B*top):=by
  rw[←hg,Nat.mul_add,Nat.mul_add,Nat.mul_left_comm bI B top,Nat.mul_comm B rest];omega
 have h2:T*(u2+B*head+1)≤T*(bI*(next+B*top)):=Nat.mul_le_mul_left _ h1
 rw[hV,hW,Nat.mul_add bI,Nat.mul_left_comm bI T]
 rw[Nat.mul_add T _ 1]at h2
 omega
theorem aer{T V W vl wl head u2 top next bI rest:Nat}(hV:V=vl+T*(next+B*top))(hW:W=wl+T*(u2+B*head))(jl:vl<T)(Dm:1≤top)(hg:bI*top+rest=head)(hc:bI*next≤rest*B+u2)(Ko:bI<B):bI*V<W+V:=by
 have h1:bI*(next+B*top)≤u2+B*head:=by
  rw[←hg,Nat.mul_add,Nat.mul_add,Nat.mul_left_comm bI B top,Nat.mul_comm B rest];omega
 have h2:T*(bI*(next+B*top))≤T*(u2+B*head):=Nat.mul_le_mul_left _ h1
 have h3:bI*vl≤bI*T:=Nat.mul_le_mul_left _ (by omega)
 have h4:bI*T<B*T:=Nat.mul_lt_mul_of_pos_right Ko (by omega)
 have h5:T*(B*1)≤T*(B*top):=Nat.mul_le_mul_left _ (Nat.mul_le_mul_left _ Dm)
 have h6:T*(B*1)=B*T:=by rw[Nat.mul_one,Nat.mul_comm]
 have h7:T*(next+B*top)=T*next+T*(B*top):=Nat.mul_add _ _ _
 have h8:bI*V=bI*vl+T*(bI*(next+B*top)):=by rw[hV,Nat.mul_add,Nat.mul_left_comm bI T]
 omega
theorem aes{T V W vl wl head u2 top next:Nat}(hV:V=vl+T*(next+B*top))(hW:W=wl+T*(u2+B*head))(jl:vl<T)(FY:next<B)(h:W<B*V):head<(top+1)*B:=by
 have h1:V<T*(B*(top+1)):=by
  have h2:T*(next+B*top+1)≤T*(B*(top+1)):=Nat.mul_le_mul_left _ (by rw[Nat.mul_add B top 1];omega)
  rw[Nat.mul_add T _ 1]at h2
  omega
 have h2:B*V<B*(T*(B*(top+1))):=Nat.mul_lt_mul_of_pos_left h1 mQ
 have h3:T*(B*head)≤W:=by rw[hW,Nat.mul_add T u2];omega
 have h4:T*(B*head)<T*(B*((top+1)*B)):=by
  have:B*(T*(B*(top+1)))=T*(B*((top+1)*B)):=by rw[Nat.mul_left_comm B T,Nat.mul_comm (top+1) B]
  omega
 exact Nat.lt_of_mul_lt_mul_left (Nat.lt_of_mul_lt_mul_left h4)
theorem aet{T V W vl wl head u2 top next bI rest:Nat}(hV:V=vl+T*(next+B*top))(hW:W=wl+T*(u2+B*head))(jl:vl<T)(FY:next<B)(hh:head<(top+1)*B)(hg:bI*top+rest=head)(hr:B≤rest):bI<B∧bI*V≤W:=by
 have h0:bI<B:=by
  have h1:bI*top<B*top:=by rw[Nat.add_mul,Nat.one_mul,Nat.mul_comm top B]at hh;omega
  exact Nat.lt_of_mul_lt_mul_right h1
 refine⟨h0,?_⟩
 have h1:V≤T*(B*(top+1)):=by
  have h2:T*(next+B*top+1)≤T*(B*(top+1)):=Nat.mul_le_mul_left _ (by rw[Nat.mul_add B top 1];omega)
  rw[Nat.mul_add T _ 1]at h2
  omega
 have h2:bI*V≤bI*(T*(B*(top+1))):=Nat.mul_le_mul_left _ h1
 have h3:bI*(T*(B*(top+1)))=T*(B*(bI*(top+1))):=by rw[Nat.mul_left_comm bI T,Nat.mul_left_comm bI B]
 have h4:bI*(top+1)≤head:=by rw[Nat.mul_add,Nat.mul_one];omega
 have h5:T*(B*(bI*(top+1)))≤T*(B*head):=Nat.mul_le_mul_left _ (Nat.mul_le_mul_left _ h4)
 have h6:T*(B*head)≤W:=by rw[hW,Nat.mul_add T u2];omega
 omega
theorem Vd{bI top rest head:Nat}(hg:bI*top+rest=head)(h:0<bI):(bI-1)*top+(rest+top)=head:=by
 obtain⟨j,rfl⟩:∃j,bI=j+1:=⟨bI-1,by omega⟩
 rw[Nat.add_mul,Nat.one_mul]at hg
 rw[Nat.add_sub_cancel];omega
theorem aeu{V W bI q:Nat}(hq:q=W/V)(hV:0<V)(h:bI*V<W+V):bI≤q+1:=by
 subst hq
 have h1:=Nat.div_add_mod W V
 have h2:=Nat.mod_lt W hV
 have h3:bI*V<(W/V+2)*V:=by
  rw[Nat.add_mul]
  rw[Nat.mul_comm]at h1
  omega
 have:=Nat.lt_of_mul_lt_mul_right h3
 omega
theorem On{V W bI q:Nat}(hq:q=W/V)(h:W<bI*V):q<bI:=by
 subst hq
 exact Nat.div_lt_of_lt_mul (by rwa [Nat.mul_comm]at h)
theorem aev{w:List Nat}{k p a b:Nat}(hl:w.length=k+3)(h0:w[k]? = some p)(h1:w[k+1]? = some a)(h2:w[k+2]? = some b):val w=val (w.take k)+B^k*(p+B*(b*B+a)):=by
 rw[Ka h0,Di h1,Di h2,List.drop_eq_nil_of_le (by omega),jy,jy]
 simp only[val,Nat.mul_zero,Nat.add_zero]
 rw[Nat.mul_comm b B,Nat.add_comm a]
theorem aew{w:List Nat}{k p a:Nat}(hl:w.length=k+2)(h0:w[k]? = some p)(h1:w[k+1]? = some a):val w=val (w.take k)+B^k*(p+B*a):=by
 rw[Ka h0,Di h1,List.drop_eq_nil_of_le (by omega),jy]
 simp only[val,Nat.mul_zero,Nat.add_zero]
theorem Dn{w:List Nat}{k:Nat}(h:Lt w)(hk:k≤w.length):val (w.take k)<B^k:=by
 have:=vf (h.take k)
 rwa [List.length_take,Nat.min_eq_left hk]at this
theorem aex{n V W X un br bI q:Nat}(hW:W=X+B^n*un){Y:Nat}(hX:X+B^n*br=Y+bI*V)(vk:br≤un)(hq:q=W/V)(FZ:q≤bI)(hV:0<V):bI=q∧Y+B^n*(un-br)=W%V:=by
 have h1:B^n*un=B^n*(un-br)+B^n*br:=by rw[←Nat.mul_add,Nat.sub_add_cancel vk]
 have h2:W=Y+B^n*(un-br)+bI*V:=by omega
 have h3:bI≤q:=by
  rw[hq,Nat.le_div_iff_mul_le hV];omega
 have h4:bI=q:=by omega
 refine⟨h4,?_⟩
 have h5:=Nat.div_add_mod W V
 rw[←hq,←h4,Nat.mul_comm]at h5
 omega
theorem aey{n V W X un br bI q:Nat}(hW:W=X+B^n*un){Y Z cr:Nat}(hX:X+B^n*br=Y+bI*V)(vk:un<br)(hq:q=W/V)(ep:bI≤q+1)(hV:0<V)(hVn:V<B^n)(hY:Y<B^n)(hZ:Z<B^n)(hZY:Z+B^n*cr=Y+V):bI=q+1∧un+cr=br∧Z=W%V:=by
 have h0:B^n*br=B^n*un+B^n*(br-un):=by rw[←Nat.mul_add];congr 1;omega
 have h1:W+B^n*(br-un)=Y+bI*V:=by omega
 have FK:B^n*1≤B^n*(br-un):=Nat.mul_le_mul_left _ (by omega)
 have h2:W<bI*V:=by omega
 have h3:=On hq h2
 have h4:bI=q+1:=by omega
 have h5:=Nat.div_add_mod W V
 have h6:=Nat.mod_lt W hV
 rw[←hq,Nat.mul_comm]at h5
 have h7:bI*V=q*V+V:=by rw[h4,Nat.add_mul,Nat.one_mul]
 have h8:W%V+B^n*(br-un)=Z+B^n*cr:=by omega
 have h9:br-un=cr:=by
  have e1:(W%V+B^n*(br-un))/B^n=br-un:=by
   rw[Nat.add_mul_div_left _ _ (by omega),Nat.div_eq_of_lt (by omega),Nat.zero_add]
  have e2:(Z+B^n*cr)/B^n=cr:=by
   rw[Nat.add_mul_div_left _ _ (by omega),Nat.div_eq_of_lt (by omega),Nat.zero_add]
  rw[←e1,←e2,h8]
 subst h9
 exact⟨h4,by omega,by omega⟩
theorem Oo(a b:List Nat):val (a++b)=val a+B^a.length*val b:=by
 induction a with
 | nil=>simp[val]
 | cons x a ih=>
  rw[List.cons_append,jy,jy,ih,List.length_cons,Nat.pow_succ,Nat.mul_add,Nat.mul_comm (B^a.length) B,Nat.mul_assoc];omega
theorem F0(l:List Nat){k:Nat}(hk:k≤l.length):val l=val (l.take k)+B^k*val (l.drop k):=by
 have:=Oo (l.take k) (l.drop k)
 rwa [List.take_append_drop,List.length_take,Nat.min_eq_left hk]at this
theorem Ve{l:List Nat}{j n V:Nat}(tA:Lt l)(hlen:j+n+1≤l.length)(hd:val (l.drop (j+1))<V)(hV:V≤B^n):
  val (l.drop (j+n+1))=0∧val (l.drop j)=val ((l.drop j).take (n+1))∧val ((l.drop j).take (n+1))<B*V:=by
 have h1:=F0 (l.drop (j+1)) (k:=n) (by simp;omega)
 rw[List.drop_drop,show j+1+n=j+n+1 by omega]at h1
 have h0:val (l.drop (j+n+1))=0:=by
  rcases Nat.eq_zero_or_pos (val (l.drop (j+n+1)))with e | e
  ·exact e
  ·have:B^n*1≤B^n*val (l.drop (j+n+1)):=Nat.mul_le_mul_left _ e
   omega
 have h2:=F0 (l.drop j) (k:=n+1) (by simp;omega)
 rw[List.drop_drop,show j+(n+1)=j+n+1 by omega,h0,Nat.mul_zero,Nat.add_zero]at h2
 refine⟨h0,h2,?_⟩
 rw[←h2]
 have hj:l[j]? = some l[j]:=List.getElem?_eq_getElem (by omega)
 rw[Di hj,jy]
 have h3:=tA.get hj
 have h4:B*(val (l.drop (j+1))+1)≤B*V:=Nat.mul_le_mul_left _ hd
 rw[Nat.mul_add]at h4
 omega
theorem aez{l o w':List Nat}{j n V S q:Nat}(tA:Lt l)(hlen:j+n+1≤l.length)(hd:val (l.drop (j+1))<V)(hV:V≤B^n)(ho:j<o.length)
  (hinv:val (o.drop (j+1))*V*B^(j+1)+val l=S) (hq:q=val ((l.drop j).take (n+1))/V) (hw:val w'=val ((l.drop j).take (n+1))%V) (pH:w'.length=n+1):
  val ((o.set j q).drop j)*V*B^j+val (l.take j++w'++l.drop (j+n+1))=S∧val ((l.take j++w'++l.drop (j+n+1)).drop j)<V:=by
 obtain⟨h0,h1,h2⟩:=Ve tA hlen hd hV
 have e1:=F0 l (k:=j) (by omega)
 have e2:val (w'++l.drop (j+n+1))=val w':=by rw[Oo,h0,Nat.mul_zero,Nat.add_zero]
 have e3:val (l.take j++w'++l.drop (j+n+1))=val (l.take j)+B^j*val w':=by
  rw[List.append_assoc,Oo,e2,List.length_take,Nat.min_eq_left (by omega)]
 have e4:=Nat.div_add_mod (val ((l.drop j).take (n+1))) V
 rw[←hq,←hw]at e4
 refine⟨?_,?_⟩
 ·rw[set_drop ho,jy,e3]
  rw[h1,←e4]at e1
  have e5:(q+B*val (o.drop (j+1)))*V*B^j=B^j*(V*q)+val (o.drop (j+1))*V*B^(j+1):=by
   rw[Nat.add_mul,Nat.add_mul,Nat.pow_succ,Nat.mul_comm q V,Nat.mul_comm (V*q),Nat.mul_assoc B,Nat.mul_comm (B^j) B,Nat.mul_left_comm _ B,Nat.mul_assoc B]
  rw[Nat.mul_add]at e1
  omega
 ·rw[List.append_assoc,List.drop_append_of_le_length (by simp;omega),List.drop_of_length_le (by rw[List.length_take];omega),List.nil_append,e2,hw]
  exact Nat.mod_lt _ (by omega)
theorem aeA{l:List Nat}{x sc n m y:Nat}(hm:m≤l.length)(hl:val l=x*sc)(hx:x<B^(m+(n-1)))(hy:B^(n-1)≤y)(hs:0<sc):val (l.drop m)<y*sc:=by
 have h1:=F0 l hm
 have h2:B^m*val (l.drop m)<B^m*(y*sc):=by
  have a1:x*sc<B^(m+(n-1))*sc:=Nat.mul_lt_mul_of_pos_right hx hs
  have a2:B^(m+(n-1))*sc≤B^m*(y*sc):=by
   rw[Nat.pow_add,Nat.mul_assoc]
   exact Nat.mul_le_mul_left _ (Nat.mul_le_mul_right _ hy)
  omega
 exact Nat.lt_of_mul_lt_mul_left h2
theorem aeB{Q R x y sc:Nat}(h:Q*(y*sc)+R=x*sc)(hR:R<y*sc)(hs:0<sc):Q=x/y∧R/sc=x%y:=by
 have h1:x*sc/(y*sc)=Q:=by
  rw[←h,Nat.mul_comm Q,Nat.mul_add_div (by omega),Nat.div_eq_of_lt hR,Nat.add_zero]
 have h2:x*sc%(y*sc)=R:=by
  rw[←h,Nat.mul_comm Q,Nat.mul_add_mod,Nat.mod_eq_of_lt hR]
 rw[Nat.mul_div_mul_right _ _ hs]at h1
 rw[Nat.mul_mod_mul_right]at h2
 exact⟨h1.symm,by rw[←h2,Nat.mul_div_cancel _ hs]⟩
end Num
