/- Part 2 of the proof: Ty, Num, Dat, Nat1, Nat2, Nat3, Nat4, Nat5, Nat6, Nat7, Nat8, Knu. -/
import Derived.Test.YtfjncmjbhfdnpaaGreatA01
import Derived.Test.YtfjncmjbhfdnpaaGreatProg
import Derived.KernelRfl
set_option linter.unusedVariables false
namespace Go.ar
open Go.Proofs
def tb:Tb:=[
 .no,.no,.it .i64,.it .i64,.ce,.it .u8,.it .u8,.st 4 [(0,1),(1,1),(2,1),(3,1)],
 .no,.no,.no,.no,.it .u64,.st 2 [(0,1),(1,1)],.no,.ce,
 .ce,.ce,.st 1 [(0,1)],.no,.no,.it .i32,.sl 4 1,.sl 78 5,
 .st 2 [(0,1),(1,1)],.st 2 [(0,1),(1,1)],.sl 31 3,.no,.no,.sl 121 1,.st 3 [(0,1),(1,1),(2,1)],.st 3 [(0,1),(1,1),(2,1)],
 .st 7 [(0,1),(1,3),(4,1),(5,1),(6,1)],.st 7 [(0,1),(1,3),(4,1),(5,1),(6,1)],.it .i64,.no,.no,.no,.no,.no,
 .sl 26 1,.no,.st 5 [(0,1),(1,1),(2,1),(3,1),(4,1)],.st 5 [(0,1),(1,1),(2,1),(3,1),(4,1)],.no,.no,.no,.no,
 .no,.it .i8,.no,.no,.no,.no,.no,.no,
 .no,.no,.no,.no,.no,.no,.no,.sl 66 2,
 .sl 131 2,.st 2 [(0,1),(1,1)],.st 2 [(0,1),(1,1)],.no,.no,.no,.no,.no,
 .no,.no,.no,.no,.no,.st 5 [(0,1),(1,1),(2,3)],.st 5 [(0,1),(1,1),(2,3)],.no,
 .no,.no,.ce,.no,.no,.sl 90 3,.no,.no,
 .ce,.st 3 [(0,1),(1,1),(2,1)],.st 3 [(0,1),(1,1),(2,1)],.no,.no,.no,.sl 3 1,.sl 85 1,
 .st 9 [(0,1),(1,1),(2,1),(3,1),(4,1),(5,1),(6,1),(7,1),(8,1)],.st 9 [(0,1),(1,1),(2,1),(3,1),(4,1),(5,1),(6,1),(7,1),(8,1)],.no,.no,.no,.no,.st 2 [(0,1),(1,1)],.st 2 [(0,1),(1,1)],
 .no,.no,.no,.no,.no,.no,.no,.no,
 .no,.no,.no,.no,.no,.no,.no,.no,
 .it .u64,.it .u32,.no,.no,.no,.no,.no,.no,
 .no,.no,.st 2 [(0,1),(1,1)],.st 2 [(0,1),(1,1)],.no,.no,.no,.no,
 .no,.no,.no,.no,.no,.no,.no,.no,
 .no,.no,.sl 2 1,.no,.no,.no,.no,.no,
 .no,.no,.no,.no,.no,.ce,.sl 161 1,.st 3 [(0,1),(1,1),(2,1)],
 .st 3 [(0,1),(1,1),(2,1)],.sl 163 2,.st 2 [(0,1),(1,1)],.st 2 [(0,1),(1,1)],.no,.no,.no,.no,
 .no,.no,.no,.no,.no,.no,.no,.no,
 .no,.sl 121 1,.st 3 [(0,1),(1,1),(2,1)],.st 3 [(0,1),(1,1),(2,1)],.no,.no,.no,.no,
 .no,.no,.no,.no,.no,.no,.no,.no,
 .no,.no,.no,.no,.no,.no,.no,.no,
 .no,.no,.no,.no,.no,.no,.no,.no,
 .no,.no,.no,.no,.no,.it .u64,.no,.no,
 .no,.no,.no,.it .i64,.no,.no,.no,.no,
 .no,.no,.no,.no,.no,.no,.no,.no,
 .no,.no,.no,.it .u64,.no,.no,.no,.ce,
 .no,.ce,.no,.no,.no,.st 4 [(0,1),(1,1),(2,1),(3,1)]]
def Ei(P:Program):Nat→Tb→Prop
 | _,[]=>True
 | k,x::r=>cg P k x∧Ei P (k+1) r
theorem Ei.out{P:Program}:∀(r:Tb)(k:Nat),Ei P k r→∀(t:Nat)(x:Ti),r[t]? = some x→cg P (k+t) x:=by
 intro r
 induction r with
 | nil=>intro k _ t x h;simp at h
 | cons y r ih=>
  intro k h t x hx
  cases t with
  | zero=>simp only[List.getElem?_cons_zero,Option.some.injEq]at hx;subst hx;exact h.1
  | succ t=>have:=ih (k+1) h.2 t x (by simpa using hx);rwa [show k+(t+1)=k+1+t by omega]
theorem oW{P:Program}{t e sz:Nat}(hu:P.underlying t=some (.slice e))(h:(P.info? e).map (·.size)=some sz):cg P t (.sl e sz):=by
 refine⟨hu,?_⟩
 cases hi:P.info? e with
 | none=>rw[hi]at h;cases h
 | some i=>rw[hi]at h;exact⟨i,rfl,by simpa using h⟩
theorem pX{P:Program}{t:Nat}{k:IntKind}(hu:P.underlying t=some (.int k)):cg P t (.it k):=hu
theorem vo{P:Program}{t:Nat}{d:TypeDesc}(hu:P.underlying t=some d)(h:(match d with | .struct _ | .array .. =>false | _=>true)=true):cg P t .ce:=
 ⟨d,hu,(fun _ e=>by subst e;cases h),(fun _ _ e=>by subst e;cases h)⟩
def IE(P:Program)(fs:List Field)(ps:List (Nat×Nat)):Bool:=
 match fs,ps with
 | [],[]=>true
 | f::fs,p::ps=>Nat.beq f.offset p.1&&(match P.info? f.type with | some j=>Nat.beq j.size p.2 | none=>false) && !Nat.beq p.2 0&&IE P fs ps
 | _,_=>false
theorem abu{P:Program}:∀(fs:List Field)(ps:List (Nat×Nat)),IE P fs ps=true→fs.length=ps.length∧∀(f:Nat)(p:Nat×Nat),ps[f]? = some p→∃fd j,fs[f]? = some fd∧fd.offset=p.1∧P.info? fd.type=some j∧j.size=p.2∧p.2≠0:=by
 intro fs
 induction fs with
 | nil=>intro ps h;cases ps with
  | nil=>exact⟨rfl,fun f p hp=>by simp at hp⟩
  | cons p ps=>cases h
 | cons fd fs ih=>intro ps h;cases ps with
  | nil=>cases h
  | cons p ps=>
   simp only[IE,Bool.and_eq_true]at h
   obtain⟨⟨⟨h1,h2⟩,h3⟩,h4⟩:=h
   obtain⟨h5,h6⟩:=ih ps h4
   refine⟨by simp[h5],fun f q hq=> ?_⟩
   cases f with
   | zero=>
    simp only[List.getElem?_cons_zero,Option.some.injEq]at hq
    subst hq
    cases hj:P.info? fd.type with
    | none=>rw[hj]at h2;cases h2
    | some j=>
     rw[hj]at h2
     exact⟨fd,j,rfl,Nat.eq_of_beq_eq_true h1,hj,Nat.eq_of_beq_eq_true h2,fun e=>by rw[e]at h3;cases h3⟩
   | succ f=>obtain⟨fd',j,h7⟩:=h6 f q (by simpa using hq);exact⟨fd',j,by simpa using h7⟩
theorem gT{P:Program}{t n:Nat}{fs:List Field}{ps:List (Nat×Nat)}(hu:P.underlying t=some (.struct fs.toArray))(h:(P.info? t).map (·.size)=some n)(hf:IE P fs ps=true):cg P t (.st n ps):=by
 cases hi:P.info? t with
 | none=>rw[hi]at h;cases h
 | some i=>
  obtain⟨h1,h2⟩:=abu fs ps hf
  rw[hi]at h
  exact⟨fs.toArray,i,hu,hi,by simpa using h,by simpa using h1,fun f p hp=>by obtain⟨fd,j,h3⟩:=h2 f p hp;exact⟨fd,j,by simpa using h3⟩⟩
theorem kj{P:Program}{e sz bytes:Nat}{z:Value}(h:(P.info? e).map (fun i=>(i.zero,i.size,i.bytes))=some (some z,sz,bytes))(hz:z.cells.size=sz)(hp:0<sz):gw P e sz z bytes:=by
 cases hi:P.info? e with
 | none=>rw[hi]at h;cases h
 | some i=>
  rw[hi]at h
  simp only[Option.map_some,Option.some.injEq,Prod.mk.injEq]at h
  exact⟨i,hi,h.1,h.2.1,h.2.2,hz,hp⟩
theorem ti2:cg Tryz.prog 2 (.it .i64):=pX Tryz.underlying2
theorem ti3:cg Tryz.prog 3 (.it .i64):=pX Tryz.underlying3
theorem ti4:cg Tryz.prog 4 (.ce):=vo Tryz.underlying4 rfl
theorem ti5:cg Tryz.prog 5 (.it .u8):=pX Tryz.underlying5
theorem S9:cg Tryz.prog 6 (.it .u8):=pX Tryz.underlying6
theorem ti7:cg Tryz.prog 7 (.st 4 [(0,1),(1,1),(2,1),(3,1)]):=gT Tryz.underlying7 (by kernel_rfl) (by kernel_rfl)
theorem abv:cg Tryz.prog 12 (.it .u64):=pX Tryz.underlying12
theorem abw:cg Tryz.prog 13 (.st 2 [(0,1),(1,1)]):=gT Tryz.underlying13 (by kernel_rfl) (by kernel_rfl)
theorem abx:cg Tryz.prog 15 (.ce):=vo Tryz.underlying15 rfl
theorem aby:cg Tryz.prog 16 (.ce):=vo Tryz.underlying16 rfl
theorem abz:cg Tryz.prog 17 (.ce):=vo Tryz.underlying17 rfl
theorem abA:cg Tryz.prog 18 (.st 1 [(0,1)]):=gT Tryz.underlying18 (by kernel_rfl) (by kernel_rfl)
theorem MK:cg Tryz.prog 21 (.it .i32):=pX Tryz.underlying21
theorem abB:cg Tryz.prog 22 (.sl 4 1):=oW Tryz.underlying22 (by kernel_rfl)
theorem Ta:cg Tryz.prog 23 (.sl 78 5):=oW Tryz.underlying23 (by kernel_rfl)
theorem abC:cg Tryz.prog 24 (.st 2 [(0,1),(1,1)]):=gT Tryz.underlying24 (by kernel_rfl) (by kernel_rfl)
theorem abD:cg Tryz.prog 25 (.st 2 [(0,1),(1,1)]):=gT Tryz.underlying25 (by kernel_rfl) (by kernel_rfl)
theorem abE:cg Tryz.prog 26 (.sl 31 3):=oW Tryz.underlying26 (by kernel_rfl)
theorem IF:cg Tryz.prog 29 (.sl 121 1):=oW Tryz.underlying29 (by kernel_rfl)
theorem abF:cg Tryz.prog 30 (.st 3 [(0,1),(1,1),(2,1)]):=gT Tryz.underlying30 (by kernel_rfl) (by kernel_rfl)
theorem abG:cg Tryz.prog 31 (.st 3 [(0,1),(1,1),(2,1)]):=gT Tryz.underlying31 (by kernel_rfl) (by kernel_rfl)
theorem abH:cg Tryz.prog 32 (.st 7 [(0,1),(1,3),(4,1),(5,1),(6,1)]):=gT Tryz.underlying32 (by kernel_rfl) (by kernel_rfl)
theorem abI:cg Tryz.prog 33 (.st 7 [(0,1),(1,3),(4,1),(5,1),(6,1)]):=gT Tryz.underlying33 (by kernel_rfl) (by kernel_rfl)
theorem Tc:cg Tryz.prog 34 (.it .i64):=pX Tryz.underlying34
theorem abJ:cg Tryz.prog 40 (.sl 26 1):=oW Tryz.underlying40 (by kernel_rfl)
theorem abK:cg Tryz.prog 42 (.st 5 [(0,1),(1,1),(2,1),(3,1),(4,1)]):=gT Tryz.underlying42 (by kernel_rfl) (by kernel_rfl)
theorem abL:cg Tryz.prog 43 (.st 5 [(0,1),(1,1),(2,1),(3,1),(4,1)]):=gT Tryz.underlying43 (by kernel_rfl) (by kernel_rfl)
theorem abM:cg Tryz.prog 49 (.it .i8):=pX Tryz.underlying49
theorem abN:cg Tryz.prog 63 (.sl 66 2):=oW Tryz.underlying63 (by kernel_rfl)
theorem abO:cg Tryz.prog 64 (.sl 131 2):=oW Tryz.underlying64 (by kernel_rfl)
theorem abP:cg Tryz.prog 65 (.st 2 [(0,1),(1,1)]):=gT Tryz.underlying65 (by kernel_rfl) (by kernel_rfl)
theorem abQ:cg Tryz.prog 66 (.st 2 [(0,1),(1,1)]):=gT Tryz.underlying66 (by kernel_rfl) (by kernel_rfl)
theorem abR:cg Tryz.prog 77 (.st 5 [(0,1),(1,1),(2,3)]):=gT Tryz.underlying77 (by kernel_rfl) (by kernel_rfl)
theorem abS:cg Tryz.prog 78 (.st 5 [(0,1),(1,1),(2,3)]):=gT Tryz.underlying78 (by kernel_rfl) (by kernel_rfl)
theorem abT:cg Tryz.prog 82 (.ce):=vo Tryz.underlying82 rfl
theorem abU:cg Tryz.prog 85 (.sl 90 3):=oW Tryz.underlying85 (by kernel_rfl)
theorem abV:cg Tryz.prog 88 (.ce):=vo Tryz.underlying88 rfl
theorem abW:cg Tryz.prog 89 (.st 3 [(0,1),(1,1),(2,1)]):=gT Tryz.underlying89 (by kernel_rfl) (by kernel_rfl)
theorem abX:cg Tryz.prog 90 (.st 3 [(0,1),(1,1),(2,1)]):=gT Tryz.underlying90 (by kernel_rfl) (by kernel_rfl)
theorem abY:cg Tryz.prog 94 (.sl 3 1):=oW Tryz.underlying94 (by kernel_rfl)
theorem abZ:cg Tryz.prog 95 (.sl 85 1):=oW Tryz.underlying95 (by kernel_rfl)
theorem ab0:cg Tryz.prog 96 (.st 9 [(0,1),(1,1),(2,1),(3,1),(4,1),(5,1),(6,1),(7,1),(8,1)]):=gT Tryz.underlying96 (by kernel_rfl) (by kernel_rfl)
theorem ab1:cg Tryz.prog 97 (.st 9 [(0,1),(1,1),(2,1),(3,1),(4,1),(5,1),(6,1),(7,1),(8,1)]):=gT Tryz.underlying97 (by kernel_rfl) (by kernel_rfl)
theorem ab2:cg Tryz.prog 102 (.st 2 [(0,1),(1,1)]):=gT Tryz.underlying102 (by kernel_rfl) (by kernel_rfl)
theorem ab3:cg Tryz.prog 103 (.st 2 [(0,1),(1,1)]):=gT Tryz.underlying103 (by kernel_rfl) (by kernel_rfl)
theorem ab4:cg Tryz.prog 120 (.it .u64):=pX Tryz.underlying120
theorem ab5:cg Tryz.prog 121 (.it .u32):=pX Tryz.underlying121
theorem ab6:cg Tryz.prog 130 (.st 2 [(0,1),(1,1)]):=gT Tryz.underlying130 (by kernel_rfl) (by kernel_rfl)
theorem ab7:cg Tryz.prog 131 (.st 2 [(0,1),(1,1)]):=gT Tryz.underlying131 (by kernel_rfl) (by kernel_rfl)
theorem ab8:cg Tryz.prog 146 (.sl 2 1):=oW Tryz.underlying146 (by kernel_rfl)
theorem ab9:cg Tryz.prog 157 (.ce):=vo Tryz.underlying157 rfl
theorem aca:cg Tryz.prog 158 (.sl 161 1):=oW Tryz.underlying158 (by kernel_rfl)
theorem acb:cg Tryz.prog 159 (.st 3 [(0,1),(1,1),(2,1)]):=gT Tryz.underlying159 (by kernel_rfl) (by kernel_rfl)
theorem acd:cg Tryz.prog 160 (.st 3 [(0,1),(1,1),(2,1)]):=gT Tryz.underlying160 (by kernel_rfl) (by kernel_rfl)
theorem ace:cg Tryz.prog 161 (.sl 163 2):=oW Tryz.underlying161 (by kernel_rfl)
theorem acf:cg Tryz.prog 162 (.st 2 [(0,1),(1,1)]):=gT Tryz.underlying162 (by kernel_rfl) (by kernel_rfl)
theorem acg:cg Tryz.prog 163 (.st 2 [(0,1),(1,1)]):=gT Tryz.underlying163 (by kernel_rfl) (by kernel_rfl)
theorem ach:cg Tryz.prog 177 (.sl 121 1):=oW Tryz.underlying177 (by kernel_rfl)
theorem aci:cg Tryz.prog 178 (.st 3 [(0,1),(1,1),(2,1)]):=gT Tryz.underlying178 (by kernel_rfl) (by kernel_rfl)
theorem acj:cg Tryz.prog 179 (.st 3 [(0,1),(1,1),(2,1)]):=gT Tryz.underlying179 (by kernel_rfl) (by kernel_rfl)
theorem ack:cg Tryz.prog 213 (.it .u64):=pX Tryz.underlying213
theorem acm:cg Tryz.prog 219 (.it .i64):=pX Tryz.underlying219
theorem acn:cg Tryz.prog 235 (.it .u64):=pX Tryz.underlying235
theorem aco:cg Tryz.prog 239 (.ce):=vo Tryz.underlying239 rfl
theorem acp:cg Tryz.prog 241 (.ce):=vo Tryz.underlying241 rfl
theorem acq:cg Tryz.prog 245 (.st 4 [(0,1),(1,1),(2,1),(3,1)]):=gT Tryz.underlying245 (by kernel_rfl) (by kernel_rfl)
set_option maxRecDepth 10000 in
theorem acr:Ei Tryz.prog 0 tb:=⟨trivial,trivial,ti2,ti3,ti4,ti5,S9,ti7,trivial,trivial,trivial,trivial,abv,abw,trivial,abx,aby,abz,abA,trivial,trivial,MK,abB,Ta,abC,abD,abE,trivial,trivial,IF,abF,abG,abH,abI,Tc,trivial,trivial,trivial,trivial,trivial,abJ,trivial,abK,abL,trivial,trivial,trivial,trivial,trivial,abM,trivial,trivial,trivial,trivial,trivial,trivial,trivial,trivial,trivial,trivial,trivial,trivial,trivial,abN,abO,abP,abQ,trivial,trivial,trivial,trivial,trivial,trivial,trivial,trivial,trivial,trivial,abR,abS,trivial,trivial,trivial,abT,trivial,trivial,abU,trivial,trivial,abV,abW,abX,trivial,trivial,trivial,abY,abZ,ab0,ab1,trivial,trivial,trivial,trivial,ab2,ab3,trivial,trivial,trivial,trivial,trivial,trivial,trivial,trivial,trivial,trivial,trivial,trivial,trivial,trivial,trivial,trivial,ab4,ab5,trivial,trivial,trivial,trivial,trivial,trivial,trivial,trivial,ab6,ab7,trivial,trivial,trivial,trivial,trivial,trivial,trivial,trivial,trivial,trivial,trivial,trivial,trivial,trivial,ab8,trivial,trivial,trivial,trivial,trivial,trivial,trivial,trivial,trivial,trivial,ab9,aca,acb,acd,ace,acf,acg,trivial,trivial,trivial,trivial,trivial,trivial,trivial,trivial,trivial,trivial,trivial,trivial,trivial,ach,aci,acj,trivial,trivial,trivial,trivial,trivial,trivial,trivial,trivial,trivial,trivial,trivial,trivial,trivial,trivial,trivial,trivial,trivial,trivial,trivial,trivial,trivial,trivial,trivial,trivial,trivial,trivial,trivial,trivial,trivial,trivial,trivial,trivial,trivial,ack,trivial,trivial,trivial,trivial,trivial,acm,trivial,trivial,trivial,trivial,trivial,trivial,trivial,trivial,trivial,trivial,trivial,trivial,trivial,trivial,trivial,acn,trivial,trivial,trivial,aco,trivial,acp,trivial,trivial,trivial,acq,trivial⟩
theorem ae:jK Tryz.prog tb:=fun t x h=>by have:=Ei.out tb 0 acr t x h;rwa [Nat.zero_add]at this
theorem follows:Tryz.prog.follows .mixedOrders=true:=by kernel_rfl
theorem Ej:gw Tryz.prog 2 1 (.int .i64 0) 8:=kj (by kernel_rfl) rfl (by decide)
theorem nO:∃i,Tryz.prog.info? 2=some i∧i.size=1:=by obtain⟨i,h,_,h2,_⟩:=Ej;exact⟨i,h,h2⟩
theorem iP:gw Tryz.prog 3 1 (.int .i64 0) 8:=kj (by kernel_rfl) rfl (by decide)
theorem qP:∃i,Tryz.prog.info? 3=some i∧i.size=1:=by obtain⟨i,h,_,h2,_⟩:=iP;exact⟨i,h,h2⟩
theorem Td:gw Tryz.prog 4 1 (.bool false) 1:=kj (by kernel_rfl) rfl (by decide)
theorem IG:∃i,Tryz.prog.info? 4=some i∧i.size=1:=by obtain⟨i,h,_,h2,_⟩:=Td;exact⟨i,h,h2⟩
theorem ML:gw Tryz.prog 25 2 (.agg #[.slice none 0 0,.slice none 0 0]) 48:=kj (by kernel_rfl) rfl (by decide)
theorem acs:∃i,Tryz.prog.info? 25=some i∧i.size=2:=by obtain⟨i,h,_,h2,_⟩:=ML;exact⟨i,h,h2⟩
theorem xa:gw Tryz.prog 26 1 (.slice none 0 0) 24:=kj (by kernel_rfl) rfl (by decide)
theorem acu:∃i,Tryz.prog.info? 26=some i∧i.size=1:=by obtain⟨i,h,_,h2,_⟩:=xa;exact⟨i,h,h2⟩
theorem cR:gw Tryz.prog 31 3 (.agg #[.bool false,.slice none 0 0,.slice none 0 0]) 56:=kj (by kernel_rfl) rfl (by decide)
theorem a8:∃i,Tryz.prog.info? 31=some i∧i.size=3:=by obtain⟨i,h,_,h2,_⟩:=cR;exact⟨i,h,h2⟩
theorem vp:gw Tryz.prog 33 7 (.agg #[.int .i64 0,.bool false,.slice none 0 0,.slice none 0 0,.slice none 0 0,.slice none 0 0,.slice none 0 0]) 136:=kj (by kernel_rfl) rfl (by decide)
theorem qQ:∃i,Tryz.prog.info? 33=some i∧i.size=7:=by obtain⟨i,h,_,h2,_⟩:=vp;exact⟨i,h,h2⟩
theorem acv:gw Tryz.prog 40 1 (.slice none 0 0) 24:=kj (by kernel_rfl) rfl (by decide)
theorem IH:∃i,Tryz.prog.info? 40=some i∧i.size=1:=by obtain⟨i,h,_,h2,_⟩:=acv;exact⟨i,h,h2⟩
theorem kR:gw Tryz.prog 78 5 (.agg #[.slice none 0 0,.int .i64 0,.bool false,.slice none 0 0,.slice none 0 0]) 88:=kj (by kernel_rfl) rfl (by decide)
theorem mq:∃i,Tryz.prog.info? 78=some i∧i.size=5:=by obtain⟨i,h,_,h2,_⟩:=kR;exact⟨i,h,h2⟩
theorem Te:gw Tryz.prog 82 1 (.pointer none) 8:=kj (by kernel_rfl) rfl (by decide)
theorem acw:∃i,Tryz.prog.info? 82=some i∧i.size=1:=by obtain⟨i,h,_,h2,_⟩:=Te;exact⟨i,h,h2⟩
theorem MM:gw Tryz.prog 85 1 (.slice none 0 0) 24:=kj (by kernel_rfl) rfl (by decide)
theorem Ek:∃i,Tryz.prog.info? 85=some i∧i.size=1:=by obtain⟨i,h,_,h2,_⟩:=MM;exact⟨i,h,h2⟩
theorem dM:gw Tryz.prog 90 3 (.agg #[.int .i64 0,.int .i64 0,.pointer none]) 24:=kj (by kernel_rfl) rfl (by decide)
theorem bV:∃i,Tryz.prog.info? 90=some i∧i.size=3:=by obtain⟨i,h,_,h2,_⟩:=dM;exact⟨i,h,h2⟩
theorem acx:gw Tryz.prog 94 1 (.slice none 0 0) 24:=kj (by kernel_rfl) rfl (by decide)
theorem tL:∃i,Tryz.prog.info? 94=some i∧i.size=1:=by obtain⟨i,h,_,h2,_⟩:=acx;exact⟨i,h,h2⟩
theorem acy:gw Tryz.prog 95 1 (.slice none 0 0) 24:=kj (by kernel_rfl) rfl (by decide)
theorem acz:∃i,Tryz.prog.info? 95=some i∧i.size=1:=by obtain⟨i,h,_,h2,_⟩:=acy;exact⟨i,h,h2⟩
theorem acA:gw Tryz.prog 97 9 (.agg #[.int .i64 0,.int .i64 0,.slice none 0 0,.slice none 0 0,.slice none 0 0,.slice none 0 0,.slice none 0 0,.slice none 0 0,.slice none 0 0]) 184:=kj (by kernel_rfl) rfl (by decide)
theorem II:gw Tryz.prog 103 2 (.agg #[.slice none 0 0,.slice none 0 0]) 48:=kj (by kernel_rfl) rfl (by decide)
theorem MN:∃i,Tryz.prog.info? 103=some i∧i.size=2:=by obtain⟨i,h,_,h2,_⟩:=II;exact⟨i,h,h2⟩
theorem dV:gw Tryz.prog 121 1 (.int .u32 0) 4:=kj (by kernel_rfl) rfl (by decide)
theorem nP:∃i,Tryz.prog.info? 121=some i∧i.size=1:=by obtain⟨i,h,_,h2,_⟩:=dV;exact⟨i,h,h2⟩
theorem acB:gw Tryz.prog 158 1 (.slice none 0 0) 24:=kj (by kernel_rfl) rfl (by decide)
theorem IJ:∃i,Tryz.prog.info? 158=some i∧i.size=1:=by obtain⟨i,h,_,h2,_⟩:=acB;exact⟨i,h,h2⟩
theorem acC:gw Tryz.prog 160 3 (.agg #[.slice none 0 0,.slice none 0 0,.bool false]) 56:=kj (by kernel_rfl) rfl (by decide)
theorem Ca:gw Tryz.prog 161 1 (.slice none 0 0) 24:=kj (by kernel_rfl) rfl (by decide)
theorem fB:gw Tryz.prog 163 2 (.agg #[.int .i64 0,.int .i64 0]) 16:=kj (by kernel_rfl) rfl (by decide)
theorem dT:∃i,Tryz.prog.info? 163=some i∧i.size=2:=by obtain⟨i,h,_,h2,_⟩:=fB;exact⟨i,h,h2⟩
theorem km:gw Tryz.prog 179 3 (.agg #[.bool false,.slice none 0 0,.slice none 0 0]) 56:=kj (by kernel_rfl) rfl (by decide)
theorem jg:∃i,Tryz.prog.info? 179=some i∧i.size=3:=by obtain⟨i,h,_,h2,_⟩:=km;exact⟨i,h,h2⟩
end Go.ar
namespace Num
def B:Nat:=1000000000
theorem mr:0<B:=by decide
theorem bY:B=1000000000:=rfl
def val:List Nat→Nat
 | []=>0
 | x::xs=>x+B*val xs
theorem jy(x:Nat)(xs:List Nat):val (x::xs)=x+B*val xs:=rfl
theorem Tf(xs ys:List Nat):val (xs++ys)=val xs+B^xs.length*val ys:=by
 induction xs with
 | nil=>simp[val]
 | cons x xs ih=>rw[List.cons_append,jy,jy,ih,List.length_cons,Nat.pow_succ];grind
theorem qR(xs:List Nat)(y:Nat):val (xs ++ [y])=val xs+B^xs.length*y:=by
 rw[Tf];simp[val]
def Lt(l:List Nat):Prop:=∀x,x∈l→x<B
theorem Lt.nil:Lt []:=fun x h=>by cases h
theorem Lt.append{a b:List Nat}(ha:Lt a)(hb:Lt b):Lt (a++b):=fun x h=>by
 rcases List.mem_append.1 h with h | h
 ·exact ha x h
 ·exact hb x h
theorem Lt.snoc{a:List Nat}{y:Nat}(ha:Lt a)(hy:y<B):Lt (a ++ [y]):=ha.append (fun x h=>by simp at h;omega)
theorem Lt.take{a:List Nat}(ha:Lt a)(k:Nat):Lt (a.take k):=fun x h=>ha x (List.mem_of_mem_take h)
theorem Lt.drop{a:List Nat}(ha:Lt a)(k:Nat):Lt (a.drop k):=fun x h=>ha x (List.mem_of_mem_drop h)
theorem Lt.get{a:List Nat}(ha:Lt a){i y:Nat}(h:a[i]? = some y):y<B:=ha y (List.mem_of_getElem? h)
theorem tM{l:List Nat}(h:Lt l):val l<B^l.length:=by
 induction l with
 | nil=>simp[val]
 | cons x l ih=>
  have h1:=h x (List.mem_cons_self ..)
  have h2:=ih (fun y hy=>h y (List.mem_cons_of_mem _ hy))
  rw[jy,List.length_cons,Nat.pow_succ]
  have h3:B*(val l+1)≤B*B^l.length:=Nat.mul_le_mul_left _ h2
  rw[Nat.mul_add,Nat.mul_one]at h3
  rw[Nat.mul_comm (B^l.length)];omega
theorem kD{l:List Nat}{i x:Nat}(h:l[i]? = some x):val (l.take (i+1))=val (l.take i)+B^i*x:=by
 have hi:i<l.length:=(List.getElem?_eq_some_iff.1 h).1
 have hx:l[i]=x:=(List.getElem?_eq_some_iff.1 h).2
 rw[List.take_succ_eq_append_getElem hi,hx,qR,List.length_take,Nat.min_eq_left (by omega)]
structure qS(l:List Nat):Prop where
 lt:Lt l
 last:∀x,l.getLast?=some x→x≠0
theorem qS.nil:qS []:=⟨Lt.nil,fun x h=>by simp at h⟩
def xb:Nat→Nat→List Nat
 | 0,_=>[]
 | f+1,n=>if n=0 then []else(n%B)::xb f (n/B)
def ah(n:Nat):List Nat:=xb n n
theorem acD(f:Nat):∀g n,n≤f→n≤g→xb f n=xb g n:=by
 induction f with
 | zero=>intro g n h _;obtain rfl:n=0:=by omega
         cases g <;> simp[xb]
 | succ f ih=>
  intro g n h hg
  cases g with
  | zero=>obtain rfl:n=0:=by omega
          simp[xb]
  | succ g=>
   simp only[xb]
   split
   ·rfl
   ·rename_i hn
    have:n/B<n:=Nat.div_lt_self (by omega) (by decide)
    rw[ih g (n/B) (by omega) (by omega)]
theorem pY:ah 0 = []:=rfl
theorem xe{n:Nat}(h:0<n):ah n=(n%B)::ah (n/B):=by
 unfold ah
 obtain⟨m,rfl⟩:∃m,n=m+1:=⟨n-1,by omega⟩
 rw[xb,if_neg (by omega)]
 have:(m+1)/B<m+1:=Nat.div_lt_self (by omega) (by decide)
 rw[acD m ((m+1)/B) ((m+1)/B) (by omega) (Nat.le_refl _)]
theorem cI(n:Nat):val (ah n)=n:=by
 induction n using Nat.strongRecOn with
 | _ n ih=>
  rcases Nat.eq_zero_or_pos n with h | h
  ·subst h;rfl
  ·rw[xe h,jy,ih (n/B) (Nat.div_lt_self h (by decide))]
   exact Nat.mod_add_div n B
theorem Tg{n:Nat}(h:0<n):ah n≠[]:=by rw[xe h];simp
theorem fC(n:Nat):qS (ah n):=by
 induction n using Nat.strongRecOn with
 | _ n ih=>
  rcases Nat.eq_zero_or_pos n with h | h
  ·subst h;exact qS.nil
  ·have tN:=ih (n/B) (Nat.div_lt_self h (by decide))
   rw[xe h]
   refine⟨fun x hx=> ?_,fun x hx=> ?_⟩
   ·rcases List.mem_cons.1 hx with e | e
    ·rw[e];exact Nat.mod_lt _ mr
    ·exact tN.lt x e
   ·rcases Nat.eq_zero_or_pos (n/B)with h0 | h0
    ·rw[h0,pY]at hx
     simp at hx
     have:=Nat.mod_add_div n B
     rw[h0]at this
     omega
    ·cases hl:ah (n/B)with
     | nil=>exact absurd hl (Tg h0)
     | cons y ys=>
      rw[hl,List.getLast?_cons_cons,←hl]at hx
      exact tN.last x hx
theorem qS.pos{l:List Nat}(h:qS l)(hl:l≠[]):B^(l.length-1)≤val l:=by
 have e:l=l.dropLast ++ [l.getLast hl]:=(List.dropLast_concat_getLast hl).symm
 have hx:=h.last (l.getLast hl) (List.getLast?_eq_some_getLast hl)
 rw[e,qR]
 simp only[List.length_append,List.length_dropLast,List.length_singleton]
 have:B^(l.length-1)*1≤B^(l.length-1)*l.getLast hl:=Nat.mul_le_mul_left _ (by omega)
 rw[Nat.mul_one]at this
 have e2:l.length-1+1-1=l.length-1:=by omega
 rw[e2];omega
theorem acE{l:List Nat}(h:Lt l)(hp:l = []∨B^(l.length-1)≤val l):qS l:=by
 refine⟨h,fun x hx h0=> ?_⟩
 subst h0
 have hl:l≠[]:=fun e=>by subst e;simp at hx
 rcases hp with e | hp
 ·exact hl e
 ·have e:l=l.dropLast ++ [0]:=by
   have:=(List.dropLast_concat_getLast hl).symm
   rw[List.getLast?_eq_some_getLast hl]at hx
   simp only[Option.some.injEq]at hx
   rw[hx]at this
   exact this
  have hv:val l=val l.dropLast:=by
   have:=qR l.dropLast 0
   rw[←e,Nat.mul_zero]at this;omega
  have bU:=tM (l:=l.dropLast) (fun x hx=>h x ((List.dropLast_sublist l).subset hx))
  rw[List.length_dropLast]at bU
  omega
theorem Th{l:List Nat}(h:qS l):ah (val l)=l:=by
 induction l with
 | nil=>rfl
 | cons x l ih=>
  have hx:x<B:=h.lt x (List.mem_cons_self ..)
  have hp:0<val (x::l):=by
   have:=h.pos (by simp)
   have h2:0<B^((x::l).length-1):=Nat.pow_pos mr
   omega
  rw[xe hp,jy]
  have h1:(x+B*val l)%B=x:=by rw[Nat.add_mul_mod_self_left];exact Nat.mod_eq_of_lt hx
  have h2:(x+B*val l)/B=val l:=by rw[Nat.add_mul_div_left _ _ mr,Nat.div_eq_of_lt hx,Nat.zero_add]
  rw[h1,h2]
  rw[ih ⟨fun y hy=>h.lt y (List.mem_cons_of_mem _ hy),fun y hy=>h.last y (by
   cases l with
   | nil=>simp at hy
   | cons z zs=>rw[List.getLast?_cons_cons];exact hy)⟩]
theorem acF{l:List Nat}{n:Nat}(h:qS l)(hv:val l=n):l=ah n:=by rw[←hv,Th h]
theorem Cb(n:Nat):n<B^(ah n).length:=by
 have:=tM (fC n).lt
 rwa [cI]at this
theorem iQ{n k:Nat}:(ah n).length≤k↔n<B^k:=by
 constructor
 ·intro h
  exact Nat.lt_of_lt_of_le (Cb n) (Nat.pow_le_pow_right mr h)
 ·intro h
  rcases Nat.eq_zero_or_pos n with h0 | h0
  ·subst h0;simp[pY]
  ·have hp:=(fC n).pos (Tg h0)
   rw[cI]at hp
   have:(ah n).length-1<k:=(Nat.pow_lt_pow_iff_right (by decide:1<B)).1 (Nat.lt_of_le_of_lt hp h)
   omega
theorem lR{m n:Nat}(h:m≤n):(ah m).length≤(ah n).length:=iQ.2 (Nat.lt_of_le_of_lt h (Cb n))
theorem acG{n:Nat}:ah n = []↔n=0:=by
 constructor
 ·intro h
  have:=cI n
  rw[h]at this;exact this.symm
 ·intro h;subst h;rfl
theorem jM{n:Nat}:(ah n).length=0↔n=0:=by rw[List.length_eq_zero_iff,acG]
end Num
namespace Num
theorem IK{a:List Nat}{i p:Nat}(h:a[i]? = some p):val a=val (a.take i)+B^i*(p+B*val (a.drop (i+1))):=by
 have hi:=(List.getElem?_eq_some_iff.1 h).1
 have hp:=(List.getElem?_eq_some_iff.1 h).2
 have e:a=a.take i++a.drop i:=(List.take_append_drop i a).symm
 have e2:a.drop i=p::a.drop (i+1):=by rw[List.drop_eq_getElem_cons hi,hp]
 conv=>lhs;rw[e,e2,Tf,jy,List.length_take,Nat.min_eq_left (by omega)]
theorem IL{a b:List Nat}{i p q:Nat}(ha:Lt a)(h1:a[i]? = some p)(h2:b[i]? = some q)(hd:a.drop (i+1)=b.drop (i+1))(mu:p<q):val a<val b:=by
 rw[IK h1,IK h2,hd]
 have hi:=(List.getElem?_eq_some_iff.1 h1).1
 have h3:=tM (ha.take i)
 rw[List.length_take,Nat.min_eq_left (by omega)]at h3
 have h4:B^i*(p+1+B*val (b.drop (i+1)))≤B^i*(q+B*val (b.drop (i+1))):=Nat.mul_le_mul_left _ (by omega)
 rw[show p+1+B*val (b.drop (i+1))=p+B*val (b.drop (i+1))+1 by omega,Nat.mul_add,Nat.mul_one]at h4
 omega
def kn(x y:Nat):Int:=if x<y then -1 else if x=y then 0 else 1
theorem IM{x y:Nat}(h:x<y):kn x y = -1:=by simp[kn,h]
theorem IN{x y:Nat}(h:y<x):kn x y=1:=by simp[kn];omega
theorem Tj(x:Nat):kn x x=0:=by simp[kn]
theorem IP{x y:Nat}(h:(ah x).length<(ah y).length):x<y:=by
 rcases Nat.lt_or_ge x y with h1 | h1
 ·exact h1
 ·have:=lR h1;omega
theorem Tk{a b:List Nat}{k p:Nat}(hk:0<k)(h1:a[k-1]? = some p)(h2:b[k-1]? = some p)(hd:a.drop k=b.drop k):a.drop (k-1)=b.drop (k-1):=by
 have e1:=List.drop_eq_getElem_cons (List.getElem?_eq_some_iff.1 h1).1
 have e2:=List.drop_eq_getElem_cons (List.getElem?_eq_some_iff.1 h2).1
 rw[(List.getElem?_eq_some_iff.1 h1).2,show k-1+1=k by omega]at e1
 rw[(List.getElem?_eq_some_iff.1 h2).2,show k-1+1=k by omega]at e2
 rw[e1,e2,hd]
end Num
namespace Num
theorem xg(l:List Nat)(k:Nat):val (l.take (k+1))=val (l.take k)+B^k*(l[k]?.getD 0):=by
 cases h:l[k]? with
 | some x=>simpa using kD h
 | none=>
  have:l.length≤k:=by simpa using h
  rw[List.take_of_length_le (by omega),List.take_of_length_le this];simp
theorem Cc{o:List Nat}{k a b s t u:Nat}(ho:o.length=k)(h:val o+B^k*a=t)(hs:s=a+b)(hu:u=t+B^k*b):val (o ++ [s%B])+B^(k+1)*(s/B)=u:=by
 rw[qR,ho,Nat.pow_succ]
 have h1:B^k*s=B^k*(s%B)+B^k*(B*(s/B)):=by rw[←Nat.mul_add,Nat.mod_add_div]
 have h2:B^k*s=B^k*a+B^k*b:=by rw[hs,Nat.mul_add]
 rw[Nat.mul_assoc];omega
theorem last_pos{o:List Nat}{n:Nat}(h:Lt o)(ho:o.length=n)(hn:n=0∨B^(n-1)≤val o):qS o:=acE h (by
 rcases hn with e | e
 ·left;exact List.eq_nil_of_length_eq_zero (by omega)
 ·right;rw[ho];exact e)
end Num
namespace Num
theorem El{o:List Nat}{k br br' s d e ta tb ta' tb':Nat}(ho:o.length=k)(h:ta+B^k*br=val o+tb)(hs:s+br+e=d+B*br')(ha:ta'=ta+B^k*d)(hb:tb'=tb+B^k*e):
  ta'+B^(k+1)*br'=val (o ++ [s])+tb':=by
 rw[qR,ho,ha,hb,Nat.pow_succ,Nat.mul_assoc]
 have h1:B^k*(s+br+e)=B^k*(d+B*br'):=by rw[hs]
 simp only[Nat.mul_add]at h1
 omega
theorem Tl{l:List Nat}{t x y:Nat}(h:l[t]? = some x):val (l.set t y)+B^t*x=val l+B^t*y:=by
 induction l generalizing t with
 | nil=>simp at h
 | cons z l ih=>
  cases t with
  | zero=>simp at h;subst h;simp[val];omega
  | succ t=>
   simp only[List.getElem?_cons_succ]at h
   have:=ih h
   rw[List.set_cons_succ,jy,jy,Nat.pow_succ]
   have h2:B*(val (l.set t y)+B^t*x)=B*(val l+B^t*y):=by rw[this]
   simp only[Nat.mul_add]at h2
   have e1:B^t*B*x=B*(B^t*x):=by rw[Nat.mul_comm (B^t) B,Nat.mul_assoc]
   have e2:B^t*B*y=B*(B^t*y):=by rw[Nat.mul_comm (B^t) B,Nat.mul_assoc]
   omega
theorem Lt.set{l:List Nat}{t y:Nat}(h:Lt l)(hy:y<B):Lt (l.set t y):=fun x hx=>by
 rcases List.mem_or_eq_of_mem_set hx with h1 | h1
 ·exact h x h1
 ·omega
theorem Lt.replicate(n:Nat):Lt (List.replicate n 0):=fun x hx=>by
 have:=List.eq_of_mem_replicate hx
 rw[this];exact mr
theorem Tm(n:Nat):val (List.replicate n 0)=0:=by
 induction n with
 | zero=>rfl
 | succ n ih=>rw[List.replicate_succ,jy,ih,Nat.mul_zero]
theorem acH{l:List Nat}{k y:Nat}(h:k<l.length):(l.set k y).take (k+1)=l.take k ++ [y]:=by
 rw[List.take_succ_eq_append_getElem (by simpa using h),List.getElem_set_self,List.take_set_of_le (Nat.le_refl _)]
theorem set_drop{l:List Nat}{k y:Nat}(h:k<l.length):(l.set k y).drop k=y::l.drop (k+1):=by
 rw[List.drop_eq_getElem_cons (by simpa using h),List.getElem_set_self,List.drop_set_of_lt (Nat.lt_succ_self _)]
theorem Cd{l:List Nat}{k d:Nat}(h:l[k]? = some d):l.drop k=d::l.drop (k+1):=by
 rw[List.drop_eq_getElem_cons (List.getElem?_eq_some_iff.1 h).1,(List.getElem?_eq_some_iff.1 h).2]
end Num
namespace Go.ar
open Go.Proofs Num
theorem vr{n:Nat}{all:Array Oper}{s:St}{H:Heap}{md:Mode}{K:St→Heap→Prop}(k:Nat){l:List Oper}{s1:St}(hk:aP Tryz.prog n all md (l.drop k) s1 H K)(h:zo tb md all (l.take k) s=some s1:=by rfl):aP Tryz.prog n all md l s H K:=aa4 ae k h hk
theorem fk{a b:Int}(h:a=b):fY .eql a b=some true:=by subst h;simp[fY]
theorem gI{a b:Int}(h:a≠b):fY .eql a b=some false:=by simp[fY,h]
theorem my{a b:Int}(h:a≠b):fY .neq a b=some true:=by simp[fY,h]
theorem mV{a b:Int}(h:a=b):fY .neq a b=some false:=by subst h;simp[fY]
theorem iz{a b:Int}(h:a<b):fY .lss a b=some true:=by simp[fY,h]
theorem fQ{a b:Int}(h:b≤a):fY .lss a b=some false:=by simp[fY,h]
theorem oX{a b:Int}(h:a≤b):fY .leq a b=some true:=by simp[fY,h]
theorem xh{a b:Int}(h:b<a):fY .leq a b=some false:=by simp[fY,h]
theorem kS{a b:Int}(h:b<a):fY .gtr a b=some true:=by simp[fY,h]
theorem gA{a b:Int}(h:a≤b):fY .gtr a b=some false:=by simp[fY,h]
theorem qT{a b:Int}(h:b≤a):fY .geq a b=some true:=by simp[fY,h]
theorem zu{a b:Int}(h:a<b):fY .geq a b=some false:=by simp[fY,h]
def U(l:List Nat):List Value:=l.map fun x=> .int .u32 (Int.ofNat x)
theorem dd{l:List Nat}{i:Nat}{x:Nat}(h:l[i]? = some x):(U l)[i]? = some (.int .u32 (x:Int)):=by simp[U,h]
theorem zv(l:List Nat):(U l).length=l.length:=by simp[U]
theorem IQ(a b:List Nat):U (a++b)=U a++U b:=by simp[U]
theorem Em(l:List Nat)(k:Nat):U (l.take k)=(U l).take k:=by simp[U,List.map_take]
theorem nQ(l:List Nat):∀u∈U l,u.oneCell'=true:=fun u hu=>by
 simp only[U,List.mem_map]at hu
 obtain⟨x,_,rfl⟩:=hu
 rfl
def jh(H:Heap)(v:Value)(l:List Nat):Prop:=∃A c,v = .slice A l.length c∧l.length≤c∧Rd H A (U l)
theorem jh.le{H H':Heap}{v:Value}{l:List Nat}(h:jh H v l)(hl:Heap.le H H'):jh H' v l:=by
 obtain⟨A,c,h1,h2,h3⟩:=h
 exact⟨A,c,h1,h2,h3.le hl⟩
def cX(H:Heap)(v:Value)(x:Nat):Prop:=jh H v (ah x)
theorem cX.le{H H':Heap}{v:Value}{x:Nat}(h:cX H v x)(hl:Heap.le H H'):cX H' v x:=jh.le h hl
theorem Rd.take{H:Heap}{A:Option Addr}{xs:List Value}(h:Rd H A xs)(k:Nat):Rd H A (xs.take k):=fun i v hv=>by
 rw[List.getElem?_take]at hv
 split at hv
 ·exact h i v hv
 ·cases hv
def kE(H:Heap)(v:Value)(l:List Nat):Prop:=bP H v 121 1 l.length (U l)
theorem kE.lim{H:Heap}{v:Value}{l:List Nat}(h:kE H v l):jh H v l:=by
 obtain⟨A,c,rfl⟩:=bP.form h
 refine⟨A,c,rfl,?_,bP.rd h⟩
 rcases h.2 with ⟨h1,h2⟩ | ⟨g,cap,h1,_,h3,_⟩
 ·omega
 ·cases h1;exact h3
theorem xo(H:Heap):kE H (.slice none 0 0) []:=lQ H 121 1
theorem App.oY{H H':Heap}{v v':Value}{a b:List Nat}{n m:Nat}(h:App H v 121 1 (n+m) (U a++U b) v' H')(ha:n=a.length)(hb:m=b.length):kE H' v' (a++b):=by
 have:=h.own
 subst ha
 subst hb
 unfold kE
 rw[IQ,List.length_append];exact this
structure mz(H:Heap)(x:Nat)(v:Value)(H':Heap):Prop where
 le:Heap.le H H'
 nat:cX H' v x
theorem Ce{H:Heap}{v:Value}{l:List Nat}{x:Nat}(h:jh H v l)(hn:qS l)(hv:val l=x):cX H v x:=by
 unfold cX
 rwa [←acF hn hv]
theorem vq(H:Heap):cX H (.slice none 0 0) 0:=Ce (l:=[]) (kE.lim (xo H)) qS.nil rfl
theorem IS{l:List Nat}{k:Nat}(bU:Lt l)(hk:k≤l.length)(hv:val (l.take k)=val l)(hx:k=0∨∃x,l[k-1]? = some x∧x≠0):ah (val l)=l.take k:=by
 rw[←hv]
 refine Th ⟨bU.take k,fun y hy=> ?_⟩
 rcases hx with rfl | ⟨x,h1,h2⟩
 ·simp at hy
 ·have:(l.take k).getLast?=some x:=by
   rw[List.getLast?_eq_getElem?,List.length_take,Nat.min_eq_left hk,List.getElem?_take]
   rw[if_pos ?_]
   ·exact h1
   ·rcases Nat.eq_zero_or_pos k with e | e
    ·subst e;simp at hy
    ·omega
  rw[this]at hy
  cases hy
  exact h2
theorem zw(c:Nat)(A:Option Addr)(sz:Nat):(if c=0 then A else A.map (·.add (0*sz)))=A:=by
 split
 ·rfl
 ·cases A <;> simp[Addr.add]
theorem bP.ins{H:Heap}{v:Value}{e sz n:Nat}{xs:List Value}(h:bP H v e sz n xs){g:Nat}(ent:Ent)(hg:H g=none):bP (ar.ins H g ent) v e sz n xs:=
 h.same fun k hk=>by
  obtain⟨en,he⟩:=h.block hk
  exact a7 _ _ (fun e=>by subst e;rw[hg]at he;cases he)
theorem kE.ins{H:Heap}{v:Value}{l:List Nat}(h:kE H v l){g:Nat}(ent:Ent)(hg:H g=none):kE (ar.ins H g ent) v l:=bP.ins h ent hg
theorem iA(g i:Nat):(⟨g,0,none⟩:Addr).add i=⟨g,i,none⟩:=by
 unfold Addr.add;split
 ·rename_i e0;rw[e0]
 ·simp
theorem eZ(H:Heap)(g:Nat)(xs:List Value)(sz e:Nat)(b:Bool):Rd (ins H g ⟨xs,sz,e,b⟩) (some ⟨g,0,none⟩) xs:=fun i v hv=>⟨_,rfl,by simp[cell,iA,ins,hv]⟩
theorem qU{H:Heap}{g e:Nat}{a:Int}{y:Nat}(h:a=y):Rd (ins H g (whole [.int .u32 a] e)) (some ⟨g,0,none⟩) (U [y]):=by
 subst h;exact eZ _ _ _ _ _ _
theorem IT{H:Heap}{g e sz:Nat}{zs:List Value}{k:Int}{c:Nat}(hk:k.toNat=0)(hc:c≤maxLen):bP (ins H g ⟨du zs (k.toNat*sz),c*sz,e,true⟩) (.slice (some ⟨g,0,none⟩) k.toNat c) e sz 0 []:=by
 refine⟨by simp,.inr ⟨g,c,by rw[hk],?_,by omega,hc⟩⟩
 rw[bo,hk,Nat.zero_mul];rfl
theorem Tn(a b:Nat):(a:Int)%(b:Int)=((a%b:Nat):Int):=rfl
def dB(l:List Nat)(n:Nat):Ent:=⟨U l,n*1,121,true⟩
theorem pP(H:Heap)(g:Nat)(e e':Ent):ins (ins H g e) g e'=ins H g e':=by
 funext k;unfold ins;split <;> rfl
theorem MO(l:List Nat)(k y:Nat):(U l).set k (.int .u32 (y:Int))=U (l.set k y):=by simp[U,List.map_set]
theorem tO{H:Heap}{g n k:Nat}{l:List Nat}{a:Int}{y:Nat}(h:a=y):ins (ins H g (dB l n)) g {dB l n with xs:=aI (dB l n).xs (0+k*1) [.int .u32 a]}=ins H g (dB (l.set k y) n):=by
 subst h
 rw[pP]
 simp only[dB,aI,Nat.zero_add,Nat.mul_one,MO]
theorem IU(H:Heap)(g:Nat)(l:List Nat)(n:Nat):Rd (ins H g (dB l n)) (some ⟨g,0,none⟩) (U l):=eZ _ _ _ _ _ _
theorem acI{H:Heap}{g:Nat}{k:Int}{n:Nat}(hk:k.toNat=n):ins H g ⟨du [.int .u32 0] (k.toNat*1),n*1,121,true⟩=ins H g (dB (List.replicate n 0) n):=by
 subst hk
 rw[Nat.mul_one,S5]
 congr 1
 simp[dB,U]
theorem nR(l:List Nat)(n:Nat):(dB l n).xs.length=l.length:=by simp[dB,U]
theorem zx(H:Heap)(g:Nat)(l:List Nat)(n m:Nat)(hm:m=l.length)(hn:m≤n):jh (ins H g (dB l n)) (.slice (some ⟨g,0,none⟩) m n) l:=⟨_,n,by rw[hm],by omega,IU H g l n⟩
end Go.ar
namespace Go.ar
open Go.Proofs Num
theorem MP{H:Heap}{A:Option Addr}{c:Nat}{l:List Nat}(bU:Lt l)(hr:Rd H A (U l))(hc:l.length≤c)(hm:(l.length:Int)≤35184372088832):
 Fn Tryz.prog 207 #[.slice A l.length c] H (mz H (val l)):=by
 refine aZ (args:=[_]) Tryz.func207 rfl rfl Tryz.ntmps207 rfl rfl fun w0=> ?_;refine ag [0] rfl ?_;refine ab ?_;refine vr 1 ?_;refine aa [0] ?_;refine ab ?_;refine vr 3 ?_;refine aa [0,3] ?_;refine al ?_;refine aC ?_;refine fZ (fun(k:Nat)=>k) (fun(k:Nat)=>put (put (emp) 0 (.val (.slice A l.length c))) 3 (.val (.int .i64 (k:Int)))) (fun(k:Nat) H'=>H'=H∧k≤l.length∧val (l.take k)=val l) l.length (⟨rfl,Nat.le_refl _,by simp⟩) (by repeat (first | exact iy _ | refine dh rfl ?_ | refine dh (iO (by omega)) ?_)) ?_;rintro k H1 ⟨rfl,hk,hv⟩
 rcases Nat.eq_zero_or_pos k with rfl | IV
 ·
  refine al ?_;refine ab ?_;refine vr 1 ?_;refine aA false rfl rfl (by simp[fY]) ?_;refine vr 8 ?_;refine aa [0,3,15] ?_;refine cU rfl ?_;refine aU ?_;refine ab ?_;refine vr 2 ?_;refine wZ (l:=0) (h:=0) ae rfl rfl (.inl ⟨rfl,rfl⟩) (.inr ⟨_,_,rfl,rfl⟩) (by omega) (by omega) ?_;rw[zw];refine vr 1 ?_;refine aa [2] ?_;have e:=IS bU hk hv (.inl rfl);refine az ⟨.inr rfl,_,.tmp rfl (.nil),.refl _,A,c,?_,?_,?_⟩
  ·rw[e];simp;rfl
  ·rw[e];simp
  ·rw[e,Em];exact hr.take _
 obtain⟨x,hx⟩:∃x,l[k-1]? = some x:=⟨_,List.getElem?_eq_getElem (by omega)⟩;refine al ?_;refine ab ?_;refine vr 1 ?_;refine aA true rfl rfl (by simp[fY];omega) ?_;refine vr 3 ?_;refine cP rfl rfl ⟨by omega,by omega⟩ ?_;refine aM ae rfl rfl rfl rfl rfl (hr) (dd (by rw[show ((k:Int)-1).toNat=k-1 by omega];exact hx)) (by omega) (by omega) fun _=> ?_;refine vr 2 ?_;refine aa [0,3,15] ?_;refine aB rfl (fun hb=> ?_) (fun hb=> ?_)
 ·
  simp at hb
  refine au ?_;refine ag [0,3] rfl ?_;refine aC ?_;refine av rfl ?_;refine vr 1 ?_;refine cP rfl rfl ⟨by omega,by omega⟩ ?_;refine vr 1 ?_;refine aq ?_;exact⟨k-1,by omega,(by repeat (first | exact iy _ | refine dh rfl ?_ | refine dh (iO (by omega)) ?_)),rfl,by omega,by have:=kD hx;rw[show k-1+1=k by omega,hb,Nat.mul_zero,Nat.add_zero]at this;rw[←this];exact hv⟩
 ·
  simp at hb
  refine aU ?_;refine ag [0,3] rfl ?_;refine ab ?_;refine vr 2 ?_;refine wZ ae rfl rfl (.inl ⟨rfl,rfl⟩) (.inr ⟨_,_,rfl,rfl⟩) (by omega) (by omega) ?_;rw[zw];refine vr 1 ?_;refine aa [2] ?_;refine az ⟨.inr rfl,_,.tmp rfl (.nil),?_⟩;have e:=IS bU hk hv (.inr ⟨x,hx,hb⟩);refine⟨.refl _,A,c,?_,?_,?_⟩
  ·rw[e,List.length_take,Nat.min_eq_left hk];rfl
  ·rw[e,List.length_take,Nat.min_eq_left hk];omega
  ·rw[e,Em];exact hr.take _
theorem acJ{H:Heap}{A:Option Addr}{c x:Nat}(hr:Rd H A (U (ah x))):
 Fn Tryz.prog 208 #[.slice A (ah x).length c] H (fun v H'=>H'=H∧v = .bool (decide (x=1))):=by
 refine aZ (args:=[_]) Tryz.func208 rfl rfl Tryz.ntmps208 rfl rfl fun w0=> ?_;refine ag [0] rfl ?_;refine ab ?_;refine vr 1 ?_;refine aa [0] ?_
 by_cases hl:(ah x).length=1
 ·
  obtain⟨y,hy⟩:=List.length_eq_one_iff.1 hl;refine ab ?_;refine vr 2 ?_;refine aA true rfl rfl (by simp[fY,hl]) ?_;refine vr 2 ?_;refine aM ae rfl rfl rfl rfl rfl (hr) (dd (show (ah x)[0]? = some y by rw[hy];rfl)) (by omega) (by omega) fun _=> ?_;refine vr 3 ?_;refine aa [2] ?_;refine az ⟨.inr rfl,_,.tmp rfl (.nil),?_⟩;refine⟨rfl,?_⟩;have hv:=cI x;rw[hy]at hv
  simp[val]at hv
  subst hv
  show Value.bool _=_
  congr 1
  rw[Bool.eq_iff_iff];simp;omega
 ·
  skip
  refine ab ?_;refine vr 2 ?_;refine aA false rfl rfl (by simp[fY];omega) ?_;refine vr 7 ?_;refine aa [2] ?_;refine az ⟨.inr rfl,_,.tmp rfl (.nil),?_⟩;refine⟨rfl,?_⟩;have:x≠1:=fun e=>hl (by subst e;rfl)
  simp[this];rfl
end Go.ar
namespace Go.ar
open Go.Proofs Num
theorem To{H:Heap}{A A':Option Addr}{c c' x y:Nat}(hr:Rd H A (U (ah x)))(dt:Rd H A' (U (ah y)))(hm:((ah x).length:Int)≤35184372088832):
 Fn Tryz.prog 199 #[.slice A (ah x).length c,.slice A' (ah y).length c'] H (fun v H'=>H'=H∧v = .int .i64 (kn x y)):=by
 refine aZ (args:=[_,_]) Tryz.func199 rfl rfl Tryz.ntmps199 rfl rfl fun w0=> ?_;refine ag [0,1] rfl ?_;refine ab ?_;refine vr 1 ?_;refine aa [0,1] ?_;refine al ?_;refine ab ?_;refine vr 5 ?_;refine aa [0,1,10] ?_;refine aB rfl (fun hb=> ?_) (fun hb=> ?_)
 ·
  have hl:(ah x).length≠(ah y).length:=by simp at hb;omega
  refine al ?_;refine ab ?_;refine vr 5 ?_;refine aa [15] ?_;refine aB rfl (fun hb=> ?_) (fun hb=> ?_)
  ·
   simp at hb
   refine ab ?_;refine vr 1 ?_;refine aa [4] ?_;refine az ⟨.inr rfl,_,.tmp rfl (.nil),?_⟩;exact⟨rfl,by rw[IM (IP hb)];rfl⟩
  ·
   simp at hb
   refine au ?_;refine ag [] rfl ?_;refine ab ?_;refine vr 1 ?_;refine aa [4] ?_;refine az ⟨.inr rfl,_,.tmp rfl (.nil),?_⟩;exact⟨rfl,by rw[IN (IP (by omega))];rfl⟩
 ·
  have hl:(ah x).length=(ah y).length:=by simp at hb;omega
  refine au ?_;refine ag [0,1] rfl ?_;refine al ?_;refine ab ?_;refine vr 2 ?_;refine cP rfl rfl ⟨by omega,by omega⟩ ?_;refine vr 1 ?_;refine aa [0,1,5] ?_;refine aC ?_;refine fZ (fun(k:Nat)=>k) (fun(k:Nat)=>put (put (put (emp) 0 (.val (.slice A (ah x).length c))) 1 (.val (.slice A' (ah y).length c'))) 5 (.val (.int .i64 ((k:Int)-1)))) (fun(k:Nat) H'=>H'=H∧k≤(ah x).length∧(ah x).drop k=(ah y).drop k) (ah x).length (⟨rfl,Nat.le_refl _,by rw[List.drop_of_length_le (Nat.le_refl _),List.drop_of_length_le (by omega)]⟩) (by repeat (first | exact iy _ | refine dh rfl ?_ | refine dh (iO (by omega)) ?_)) ?_;rintro k H1 ⟨rfl,hk,hd⟩;refine al ?_;refine ab ?_;refine vr 2 ?_;refine aa [0,1,5,20] ?_;refine aB rfl (fun hb=> ?_) (fun hb=> ?_)
  ·
   simp at hb
   obtain⟨p,hp⟩:∃p,(ah x)[k-1]? = some p:=⟨_,List.getElem?_eq_getElem (by omega)⟩;obtain⟨q,hq⟩:∃q,(ah y)[k-1]? = some q:=⟨_,List.getElem?_eq_getElem (by omega)⟩
   have hj:((k:Int)-1).toNat=k-1:=by omega
   have fj:(ah x).drop (k-1+1)=(ah y).drop (k-1+1):=by rw[show k-1+1=k by omega];exact hd
   refine au ?_;refine ag [0,1,5] rfl ?_;refine al ?_;refine aC ?_;refine aC ?_;refine bJ .bF [0,1,2,3,4,5,6,7,8,9] follows (by kernel_rfl) ?_;refine vr 2 ?_;refine aM ae rfl rfl rfl rfl rfl (hr) (by rw[hj];exact dd hp) (by omega) (by omega) fun _=> ?_;refine vr 2 ?_;refine aM ae rfl rfl rfl rfl rfl (dt) (by rw[hj];exact dd hq) (by omega) (by omega) fun _=> ?_;refine vr 2 ?_;refine aa [0,1,5,23] ?_;refine aB rfl (fun hb=> ?_) (fun hb=> ?_)
   ·
    have mu:p<q:=by simpa using hb
    refine ab ?_;refine vr 1 ?_;refine aa [4] ?_;refine az ⟨.inr rfl,_,.tmp rfl (.nil),?_⟩;exact⟨rfl,by rw[IM (by have:=IL (fC x).lt hp hq fj mu;rwa [cI,cI]at this)];rfl⟩
   ·
    have mu:¬p<q:=by simpa using hb
    refine bJ .bF [0,1,2,3,4,5,6,7,8,9] follows (by kernel_rfl) ?_;refine vr 2 ?_;refine aM ae rfl rfl rfl rfl rfl (hr) (by rw[hj];exact dd hp) (by omega) (by omega) fun _=> ?_;refine vr 2 ?_;refine aM ae rfl rfl rfl rfl rfl (dt) (by rw[hj];exact dd hq) (by omega) (by omega) fun _=> ?_;refine vr 2 ?_;refine aa [0,1,5,33] ?_;refine aB rfl (fun hb=> ?_) (fun hb=> ?_)
    ·
     have En:q<p:=by simpa using hb
     refine ab ?_;refine vr 1 ?_;refine aa [4] ?_;refine az ⟨.inr rfl,_,.tmp rfl (.nil),?_⟩;exact⟨rfl,by rw[IN (by have:=IL (fC y).lt hq hp fj.symm En;rwa [cI,cI]at this)];rfl⟩
    ·
     have En:¬q<p:=by simpa using hb
     refine au ?_;refine ag [0,1,5] rfl ?_;refine av rfl ?_;refine vr 1 ?_;refine cP rfl rfl ⟨by omega,by omega⟩ ?_;refine vr 1 ?_;refine aq ?_
     obtain rfl:p=q:=by omega
     exact⟨k-1,by omega,(by repeat (first | exact iy _ | refine dh rfl ?_ | refine dh (iO (by omega)) ?_)),rfl,by omega,Tk (by omega) hp hq hd⟩
  ·
   simp at hb
   refine aU ?_;refine ag [] rfl ?_;refine ab ?_;refine vr 1 ?_;refine aa [4] ?_;refine az ⟨.inr rfl,_,.tmp rfl (.nil),?_⟩
   obtain rfl:k=0:=by omega
   have:x=y:=by rw[←cI x,←cI y];simpa using congrArg val hd
   exact⟨rfl,by rw[this,Tj];rfl⟩
end Go.ar
namespace Go.ar
open Go.Proofs Num
theorem Tp{H:Heap}{A:Option Addr}{c x:Nat}(hr:Rd H A (U (ah x)))(hm:(ah x).length≤2):
 Fn Tryz.prog 222 #[.slice A (ah x).length c] H (fun v H'=>H'=H∧v = .tuple #[.int .u64 (x:Int),.bool true]):=by
 refine aZ (args:=[_]) Tryz.func222 rfl rfl Tryz.ntmps222 rfl rfl fun w0=> ?_;refine ag [0] rfl ?_;refine ab ?_;refine vr 2 ?_;refine aa [0] ?_;refine ab ?_;refine vr 1 ?_;refine aa [0,4] ?_;refine al ?_;refine ab ?_;refine vr 3 ?_;refine aa [0,4,8,9] ?_;refine aC ?_;refine fZ (fun(k:Nat)=>(ah x).length-k) (fun(k:Nat)=>put (put (put (put (emp) 0 (.val (.slice A (ah x).length c))) 4 (.val (.int .u64 (val ((ah x).drop ((ah x).length-k)):Int)))) 8 (.val (.int .i64 ((ah x).length:Int)))) 9 (.val (.int .i64 (k:Int)))) (fun(k:Nat) H'=>H'=H∧k≤(ah x).length) 0 (⟨rfl,by omega⟩) (dh rfl (dh rfl (dh (iO (by simp[val])) (dh rfl (iy _))))) ?_;rintro k H1 ⟨rfl,hk⟩;refine ab ?_;refine vr 1 ?_;refine aa [0,4,8,9,10] ?_;refine al ?_;refine aB rfl (fun hb=> ?_) (fun hb=> ?_)
 ·
  simp at hb
  obtain⟨p,hp⟩:∃p,(ah x)[(ah x).length-1-k]? = some p:=⟨_,List.getElem?_eq_getElem (by omega)⟩;have xt:=(fC x).lt.get hp;rw[bY]at xt
  have kF:(ah x).drop ((ah x).length-1-k)=p::(ah x).drop ((ah x).length-k):=by
   rw[List.drop_eq_getElem_cons (List.getElem?_eq_some_iff.1 hp).1,(List.getElem?_eq_some_iff.1 hp).2,show (ah x).length-1-k+1=(ah x).length-k by omega]
  have hw:val ((ah x).drop ((ah x).length-k))<B:=by
   have h1:=tM ((fC x).lt.drop ((ah x).length-k));have h2:B^((ah x).drop ((ah x).length-k)).length≤B^1:=Nat.pow_le_pow_right mr (by simp;omega);rw[Nat.pow_one]at h2;omega
  rw[bY]at hw
  have hj:(((ah x).length:Int)-1-(k:Int)).toNat=(ah x).length-1-k:=by omega
  refine au ?_;refine ag [0,4,8,9] rfl ?_;refine al ?_;refine aC ?_;refine ab ?_;refine vr 2 ?_;refine aa [0,4,5,8,9] ?_;refine ab ?_;refine vr 3 ?_;refine cP rfl rfl ⟨by omega,by omega⟩ ?_;refine vr 1 ?_;refine cP rfl rfl ⟨by omega,by omega⟩ ?_;refine aM ae rfl rfl rfl rfl rfl (hr) (by rw[hj];exact dd hp) (by omega) (by omega) fun _=> ?_;refine cW ae rfl rfl rfl ⟨by omega,by omega⟩ ?_;refine vr 1 ?_;refine aa [0,4,6,8,9] ?_;refine al ?_;refine ab ?_;refine vr 2 ?_;refine cP rfl rfl ⟨by omega,by omega⟩ ?_;refine lq rfl rfl (by omega) (by omega) ⟨by omega,by omega⟩ ?_;refine vr 1 ?_;refine aa [0,4,6,8,9,25] ?_;refine aB rfl (fun hb=> ?_) (fun hb=> ?_)
  ·
   exfalso;simp at hb;omega
  ·
   skip
   refine au ?_;refine ag [0,4,6,8,9] rfl ?_;refine av rfl ?_;refine vr 1 ?_;refine gq rfl rfl ⟨by omega,by omega⟩ ?_;refine vr 1 ?_;refine aD rfl rfl ⟨by omega,by omega⟩ ?_;refine vr 1 ?_;refine aq ?_;refine ag [0,4,8,9] rfl ?_;refine av rfl ?_;refine aD rfl rfl ⟨by omega,by omega⟩ ?_;refine vr 1 ?_;refine aq ?_
   have cQ:val ((ah x).drop ((ah x).length-(k+1)))=val ((ah x).drop ((ah x).length-k))*1000000000+p:=by
    rw[show (ah x).length-(k+1)=(ah x).length-1-k by omega,kF,jy,bY];omega
   exact⟨k+1,by omega,an,rfl,by omega⟩
 ·
  simp at hb
  refine aU ?_;refine ag [4] rfl ?_;refine ab ?_;refine vr 3 ?_;refine aa [2,3] ?_;refine az ⟨.inr rfl,_,.tmp rfl (.tmp rfl (.nil)),?_⟩
  obtain rfl:k=(ah x).length:=by omega
  refine⟨rfl,?_⟩;rw[Nat.sub_self,List.drop_zero,cI];rfl
theorem IW{H:Heap}{x:Nat}(hx:x<18446744073709551616):
 Fn Tryz.prog 195 #[.int .u64 (x:Int)] H (mz H x):=by
 refine aZ (args:=[_]) Tryz.func195 rfl rfl Tryz.ntmps195 rfl rfl fun w0=> ?_;refine ag [0] rfl ?_;refine ab ?_;refine vr 1 ?_;refine aa [0] ?_;refine ab ?_;refine vr 1 ?_;refine aa [0,3] ?_;refine al ?_;refine aC ?_;refine gh (fun(y:Nat)(v:Value)(o:List Nat)=>y) (fun(y:Nat)(v:Value)(o:List Nat)=>put (put (emp) 0 (.val (.int .u64 (y:Int)))) 3 (.val (v))) (fun(y:Nat)(v:Value)(o:List Nat) H'=>Heap.le H H'∧kE H' v o∧y≤x∧o++ah y=ah x) x (.slice none 0 0) [] (⟨.refl _,xo _,Nat.le_refl _,rfl⟩) an ?_;rintro y v o H1 ⟨hle,cn,vt,ho⟩;obtain⟨A,c,rfl⟩:=bP.form cn
 have dK:o.length≤(ah x).length:=by rw[←ho];simp
 have cB:(ah x).length≤3:=iQ.2 (by rw[bY];omega);refine al ?_;refine ab ?_;refine vr 2 ?_;refine aa [0,3,5] ?_;refine aB rfl (fun hb=> ?_) (fun hb=> ?_)
 ·
  have hb:0<y:=by simpa using hb
  refine au ?_;refine ag [0,3] rfl ?_;refine al ?_;refine aC ?_;refine av rfl ?_;refine vr 2 ?_;refine mj rfl rfl (by omega) (by omega) ?_;refine cW ae rfl rfl rfl ⟨by omega,by omega⟩ ?_;refine dI Tryz.underlying177 dV rfl rfl rfl rfl rfl rfl rfl ?_;intro gb bD;refine eN Tryz.underlying177 dV rfl rfl (cn.ins _ bD) (qU (Tn y 1000000000)) (rfl) (nQ _) (by omega) (by omega) ?_;intro v1 H2 ha;refine vr 1 ?_;refine aq ?_;refine ag [0,3] rfl ?_;refine av rfl ?_;refine vr 1 ?_;refine lq rfl rfl (by omega) (by omega) ⟨by omega,by omega⟩ ?_;refine vr 1 ?_;refine aq ?_
  have jc:0<y:=by omega
  rw[xe jc]at ho;exact⟨y/B,v1,o ++ [y%B],Nat.div_lt_self jc (by decide),an,(hle.trans (Heap.bI _ bD)).trans ha.le,ha.oY rfl rfl,Nat.le_trans (Nat.div_le_self _ _) vt,by simpa using ho⟩
 ·
  have hb:y=0:=by simpa using hb
  refine aU ?_;refine ag [3] rfl ?_;refine ab ?_;refine vr 2 ?_;refine aa [2] ?_;refine az ⟨.inr rfl,_,.tmp rfl (.nil),?_⟩;subst hb;exact⟨hle,Ce (cn.lim) (by rw[show o=ah x by simpa [pY]using ho];exact fC x) (by rw[show o=ah x by simpa [pY]using ho];exact cI x)⟩
end Go.ar
namespace Go.ar
open Go.Proofs Num
theorem acK{H:Heap}{A:Option Addr}{c:Nat}{l:List Nat}(zy:∀x,x∈l→x<4294967296)(hr:Rd H A (U l))(hm:(l.length:Int)≤8796093022208):
 Fn Tryz.prog 194 #[.slice A l.length c] H (mz H (val l)):=by
 refine aZ (args:=[_]) Tryz.func194 rfl rfl Tryz.ntmps194 rfl rfl fun w0=> ?_;refine ag [0] rfl ?_;refine ab ?_;refine vr 1 ?_;refine aa [0] ?_;refine ab ?_;refine vr 2 ?_;refine aD rfl rfl ⟨by omega,by omega⟩ ?_;refine ig Tryz.underlying177 dV rfl rfl rfl (by omega) (by omega) (by omega) (by omega) ?_;intro g hg;refine vr 1 ?_;refine aa [0,3] ?_;refine ab ?_;refine vr 1 ?_;refine aa [0,3,4] ?_;refine al ?_;refine ab ?_;refine vr 3 ?_;refine aa [0,3,4,12,13] ?_;refine aC ?_;refine pW (fun(k:Nat)(v:Value)(o:List Nat)(cr:Nat)=>l.length-k) (fun(k:Nat)(v:Value)(o:List Nat)(cr:Nat)=>put (put (put (put (put (emp) 0 (.val (.slice A l.length c))) 3 (.val (v))) 4 (.val (.int .u64 (cr:Int)))) 12 (.val (.int .i64 (l.length:Int)))) 13 (.val (.int .i64 (k:Int)))) (fun(k:Nat)(v:Value)(o:List Nat)(cr:Nat) H'=>Heap.le H H'∧kE H' v o∧k≤l.length∧o.length=k∧Lt o∧cr≤4∧val o+B^k*cr=val (l.take k)) 0 _ [] 0 (⟨Heap.bI _ hg,IT rfl (by simp only[maxLen];omega),by omega,rfl,Lt.nil,by omega,by simp[val]⟩) an ?_;rintro k v o cr H1 ⟨hle,cn,hk,dK,dR,mW,hv⟩;obtain⟨Ao,co,rfl⟩:=bP.form cn;refine ab ?_;refine vr 1 ?_;refine aa [0,3,4,12,13,14] ?_;refine al ?_;refine aB rfl (fun hb=> ?_) (fun hb=> ?_)
 ·
  have hb:k<l.length:=by simpa using hb
  obtain⟨p,hp⟩:∃p,l[k]? = some p:=⟨_,List.getElem?_eq_getElem hb⟩;have acL:=zy p (List.mem_of_getElem? hp);refine au ?_;refine ag [0,3,4,12,13] rfl ?_;refine al ?_;refine aC ?_;refine ab ?_;refine vr 2 ?_;refine aa [0,3,4,5,12,13] ?_;refine ab ?_;refine vr 2 ?_;refine aM ae rfl rfl rfl rfl rfl (hr.le hle) (dd hp) (by omega) (by omega) fun _=> ?_;refine cW ae rfl rfl rfl ⟨by omega,by omega⟩ ?_;refine vr 1 ?_;refine aD rfl rfl ⟨by omega,by omega⟩ ?_;refine vr 1 ?_;refine aa [0,3,6,12,13] ?_;refine ab ?_;refine vr 2 ?_;refine mj rfl rfl (by omega) (by omega) ?_;refine cW ae rfl rfl rfl ⟨by omega,by omega⟩ ?_;refine dI Tryz.underlying177 dV rfl rfl rfl rfl rfl rfl rfl ?_;intro gb bD;refine eN Tryz.underlying177 dV rfl rfl (cn.ins _ bD) (qU (y:=(p+cr)%1000000000) rfl) (rfl) (nQ _) (by omega) (by omega) ?_;intro v1 H2 ha;refine vr 1 ?_;refine aa [0,3,6,12,13] ?_;refine av rfl ?_;refine vr 1 ?_;refine lq rfl rfl (by omega) (by omega) ⟨by omega,by omega⟩ ?_;refine vr 1 ?_;refine aq ?_;refine ag [0,3,4,12,13] rfl ?_;refine av rfl ?_;refine aD rfl rfl ⟨by omega,by omega⟩ ?_;refine vr 1 ?_;refine aq ?_;have cQ:=Cc (s:=p+cr) (u:=val (l.take (k+1))) dK hv (Nat.add_comm _ _) (kD hp)
  have e1:(((p+cr)%B:Nat):Int)=((p:Int)+cr)%1000000000:=rfl;exact⟨k+1,v1,o ++ [(p+cr)%B],(p+cr)/B,by omega,an,(hle.trans (Heap.bI _ bD)).trans ha.le,ha.oY rfl rfl,by omega,by simp[dK],dR.snoc (Nat.mod_lt _ mr),by rw[bY];omega,cQ⟩
 ·
  have hb:l.length≤k:=by simpa using hb
  obtain rfl:k=l.length:=by omega
  rw[List.take_length]at hv;refine aU ?_;refine ag [3,4] rfl ?_;refine zt (fun(v:Value)(o:List Nat)=>put (emp) 3 (.val (v))) (fun(v:Value)(o:List Nat) H'=>Heap.le H H'∧kE H' v o∧o.length≤l.length+1∧Lt o∧val o=val l) ?_ ?_
  ·
   refine ab ?_;refine vr 2 ?_;refine aa [3,4,33] ?_;refine aB rfl (fun hb=> ?_) (fun hb=> ?_)
   ·
    have hb:0<cr:=by simpa using hb
    refine av rfl ?_;refine vr 2 ?_;refine cW ae rfl rfl rfl ⟨by omega,by omega⟩ ?_;refine dI Tryz.underlying177 dV rfl rfl rfl rfl rfl rfl rfl ?_;intro gb bD;refine eN Tryz.underlying177 dV rfl rfl (cn.ins _ bD) (qU (y:=cr) rfl) (rfl) (nQ _) (by omega) (by omega) ?_;intro v1 H2 ha;refine vr 1 ?_;refine aq ?_;exact⟨v1,o ++ [cr],(by repeat (first | exact iy _ | refine dh rfl ?_ | refine dh (iO (by omega)) ?_)),(hle.trans (Heap.bI _ bD)).trans ha.le,ha.oY rfl rfl,by simp;omega,dR.snoc (by rw[bY];omega),by rw[qR,dK];exact hv⟩
   ·
    have hb:cr=0:=by simpa using hb
    refine au ?_;exact⟨_,o,(by repeat (first | exact iy _ | refine dh rfl ?_ | refine dh (iO (by omega)) ?_)),hle,cn,by omega,dR,by rw[hb,Nat.mul_zero]at hv;omega⟩
  ·
   rintro v o H3 ⟨hle,cn,dK,dR,hv⟩;obtain⟨Ao,co,zz,pZ,vu⟩:=cn.lim;subst zz;refine ab ?_;refine vr 1 ?_;refine aw rfl rfl (MP dR vu pZ (by omega)) ?_;intro v1 H4 hp;refine vr 1 ?_;refine aa [2] ?_;refine az ⟨.inr rfl,_,.tmp rfl (.nil),?_⟩;exact⟨hle.trans hp.le,by have:=hp.nat;rwa [hv]at this⟩
end Go.ar
namespace Go.ar
open Go.Proofs Num
theorem acM{H:Heap}{u v:Value}{x y:Nat}(hx:cX H u x)(hy:cX H v y)(hm:((ah x).length:Int)≤8796093022208)(bB:((ah y).length:Int)≤8796093022208):
 Fn Tryz.prog 205 #[u,v] H (mz H (x+y)):=by
 obtain⟨A,c,rfl,hc,hr⟩:=hx
 obtain⟨A',c',rfl,jd,dt⟩:=hy;refine aZ (args:=[_,_]) Tryz.func205 rfl rfl Tryz.ntmps205 rfl rfl fun w0=> ?_;refine ag [0,1] rfl ?_;refine ab ?_;refine vr 1 ?_;refine aa [0,1] ?_;refine abi (fun(u:Value)(w:Value)(p:Nat)(q:Nat)=>put (put (emp) 0 (.val (u))) 1 (.val (w))) (fun(u:Value)(w:Value)(p:Nat)(q:Nat) H'=>H'=H∧cX H u p∧cX H w q∧p+q=x+y∧(ah q).length≤(ah p).length∧((ah p).length:Int)≤8796093022208) ?_ ?_
 ·
  refine ab ?_;refine vr 5 ?_;refine aa [0,1,13] ?_;refine aB rfl (fun hb=> ?_) (fun hb=> ?_)
  ·
   simp at hb
   refine av rfl ?_;refine vr 4 ?_;refine aq ?_;exact⟨_,_,y,x,(by repeat (first | exact iy _ | refine dh rfl ?_ | refine dh (iO (by omega)) ?_)),rfl,⟨A',c',rfl,jd,dt⟩,⟨A,c,rfl,hc,hr⟩,by omega,by omega,by omega⟩
  ·
   simp at hb
   refine au ?_;exact⟨_,_,x,y,(by repeat (first | exact iy _ | refine dh rfl ?_ | refine dh (iO (by omega)) ?_)),rfl,⟨A,c,rfl,hc,hr⟩,⟨A',c',rfl,jd,dt⟩,by omega,by omega,by omega⟩
 ·
  rintro u w p q H3 ⟨rfl,hp,hq,mu,hl,hm⟩;clear hr dt hc jd;obtain⟨A,c,rfl,hc,hr⟩:=hp;obtain⟨A',c',rfl,jd,dt⟩:=hq;have ji:=(fC p).lt;have dU:=(fC q).lt;refine ab ?_;refine vr 2 ?_;refine aD rfl rfl ⟨by omega,by omega⟩ ?_;refine ig Tryz.underlying177 dV rfl rfl rfl (by omega) (by omega) (by omega) (by omega) ?_;intro g hg;refine vr 1 ?_;refine aa [0,1,5] ?_;refine ab ?_;refine vr 1 ?_;refine aa [0,1,5,6] ?_;refine al ?_;refine ab ?_;refine vr 3 ?_;refine aa [0,1,5,6,21,22] ?_;refine aC ?_;refine pW (fun(k:Nat)(v:Value)(o:List Nat)(cr:Nat)=>(ah p).length-k) (fun(k:Nat)(v:Value)(o:List Nat)(cr:Nat)=>put (put (put (put (put (put (emp) 0 (.val (.slice A (ah p).length c))) 1 (.val (.slice A' (ah q).length c'))) 5 (.val (v))) 6 (.val (.int .u32 (cr:Int)))) 21 (.val (.int .i64 ((ah p).length:Int)))) 22 (.val (.int .i64 (k:Int)))) (fun(k:Nat)(v:Value)(o:List Nat)(cr:Nat) H'=>Heap.le H3 H'∧kE H' v o∧k≤(ah p).length∧o.length=k∧Lt o∧cr≤1∧val o+B^k*cr=val ((ah p).take k)+val ((ah q).take k)) 0 _ [] 0 (⟨Heap.bI _ hg,IT rfl (by simp only[maxLen];omega),by omega,rfl,Lt.nil,by omega,by simp[val]⟩) an ?_;rintro k v o cr H1 ⟨hle,cn,hk,dK,dR,mW,hv⟩;obtain⟨Ao,co,rfl⟩:=bP.form cn
  refine ab ?_;refine vr 1 ?_;refine aa [0,1,5,6,21,22,23] ?_;refine al ?_;refine aB rfl (fun hb=> ?_) (fun hb=> ?_)
  ·
   have hb:k<(ah p).length:=by simpa using hb
   obtain⟨d,hd⟩:∃d,(ah p)[k]? = some d:=⟨_,List.getElem?_eq_getElem hb⟩;have lr:=ji.get hd;rw[bY]at lr;obtain⟨e,he⟩:∃e,e=((ah q)[k]?).getD 0:=⟨_,rfl⟩
   have Cf:e<1000000000:=by
    cases hq:(ah q)[k]? with
    | none=>rw[hq]at he;simp at he;omega
    | some z=>rw[hq]at he;simp at he;have:=dU.get hq;rw[bY]at this;omega
   refine au ?_;refine ag [0,1,5,6,21,22] rfl ?_;refine al ?_;refine aC ?_;refine ab ?_;refine vr 2 ?_;refine aa [0,1,5,6,7,21,22] ?_;refine ab ?_;refine vr 2 ?_;refine aM ae rfl rfl rfl rfl rfl (hr.le hle) (dd hd) (by omega) (by omega) fun _=> ?_;refine vr 1 ?_;refine aD rfl rfl ⟨by omega,by omega⟩ ?_;refine vr 1 ?_;refine aa [0,1,5,7,8,21,22] ?_;refine kC (fun(sv:Nat)=>put (put (put (put (put (put (emp) 0 (.val (.slice A (ah p).length c))) 1 (.val (.slice A' (ah q).length c'))) 5 (.val (.slice Ao o.length co))) 8 (.val (.int .u32 (sv:Int)))) 21 (.val (.int .i64 ((ah p).length:Int)))) 22 (.val (.int .i64 (k:Int)))) (fun(sv:Nat) H'=>H'=H1∧sv=d+cr+e) ?_ ?_
   ·
    refine ab ?_;refine vr 4 ?_;refine aa [0,1,5,7,8,21,22,34] ?_;refine aB rfl (fun hb=> ?_) (fun hb=> ?_)
    ·
     have hb:k<(ah q).length:=by simpa using hb
     have hz:(ah q)[k]? = some e:=by rw[List.getElem?_eq_getElem hb]at he⊢;simp at he;rw[he]
     refine av rfl ?_;refine vr 3 ?_;refine aM ae rfl rfl rfl rfl rfl (dt.le hle) (dd hz) (by omega) (by omega) fun _=> ?_;refine aD rfl rfl ⟨by omega,by omega⟩ ?_;refine vr 1 ?_;refine aq ?_;exact⟨d+cr+e,(by repeat (first | exact iy _ | refine dh rfl ?_ | refine dh (iO (by omega)) ?_)),rfl,rfl⟩
    ·
     have hb:(ah q).length≤k:=by simpa using hb
     obtain rfl:e=0:=by rw[he,List.getElem?_eq_none hb];rfl
     refine au ?_;exact⟨d+cr,(by repeat (first | exact iy _ | refine dh rfl ?_ | refine dh (iO (by omega)) ?_)),rfl,rfl⟩
   ·
    rintro sv H4 ⟨rfl,p3⟩;refine ab ?_;refine vr 1 ?_;refine lq rfl rfl (by omega) (by omega) ⟨by omega,by omega⟩ ?_;refine vr 1 ?_;refine aa [0,1,5,6,8,21,22] ?_;refine av rfl ?_;refine vr 2 ?_;refine mj rfl rfl (by omega) (by omega) ?_;refine dI Tryz.underlying177 dV rfl rfl rfl rfl rfl rfl rfl ?_;intro gb bD;refine eN Tryz.underlying177 dV rfl rfl (cn.ins _ bD) (qU (y:=sv%1000000000) rfl) (rfl) (nQ _) (by omega) (by omega) ?_;intro v1 H2 ha;refine vr 1 ?_;refine aq ?_;refine ag [0,1,5,6,21,22] rfl ?_;refine av rfl ?_;refine aD rfl rfl ⟨by omega,by omega⟩ ?_;refine vr 1 ?_;refine aq ?_;have cQ:=Cc (s:=cr+(d+e)) (u:=val ((ah p).take (k+1))+val ((ah q).take (k+1))) dK hv rfl (by rw[kD hd,xg,←he,Nat.mul_add];omega)
    obtain rfl:sv=cr+(d+e):=by omega
    exact⟨k+1,v1,o ++ [(cr+(d+e))%B],(cr+(d+e))/B,by omega,an,(hle.trans (Heap.bI _ bD)).trans ha.le,ha.oY rfl rfl,by omega,by simp[dK],dR.snoc (Nat.mod_lt _ mr),by rw[bY];omega,cQ⟩
  ·
   have hb:(ah p).length≤k:=by simpa using hb
   obtain rfl:k=(ah p).length:=by omega
   rw[List.take_length,List.take_of_length_le hl,cI,cI]at hv;refine aU ?_;refine ag [5,6] rfl ?_;refine al ?_;refine ab ?_;refine vr 2 ?_;refine aa [5,6,50] ?_;refine aB rfl (fun hb=> ?_) (fun hb=> ?_)
   ·
    have hb:0<cr:=by simpa using hb
    refine av rfl ?_;refine vr 2 ?_;refine dI Tryz.underlying177 dV rfl rfl rfl rfl rfl rfl rfl ?_;intro gb bD;refine eN Tryz.underlying177 dV rfl rfl (cn.ins _ bD) (qU (y:=cr) rfl) (rfl) (nQ _) (by omega) (by omega) ?_;intro v1 H2 ha;refine vr 1 ?_;refine aq ?_;refine ag [5] rfl ?_;refine ab ?_;refine vr 2 ?_;refine aa [4] ?_;refine az ⟨.inr rfl,_,.tmp rfl (.nil),?_⟩
    have zz:val (o ++ [cr])=x+y:=by rw[qR,dK,hv];exact mu
    exact⟨(hle.trans (Heap.bI _ bD)).trans ha.le,Ce (ha.oY (a:=o) (b:=[cr]) rfl rfl).lim ⟨dR.snoc (by rw[bY];omega),fun z hz=>by simp at hz;omega⟩ zz⟩
   ·
    have hb:cr=0:=by simpa using hb
    refine au ?_;refine ag [5] rfl ?_;refine ab ?_;refine vr 2 ?_;refine aa [4] ?_;refine az ⟨.inr rfl,_,.tmp rfl (.nil),?_⟩;rw[hb,Nat.mul_zero,Nat.add_zero]at hv;refine⟨hle,Ce cn.lim (last_pos dR dK ?_) (by rw[hv];exact mu)⟩
    rcases Nat.eq_zero_or_pos (ah p).length with h0 | h0
    ·exact .inl h0
    ·
     have:=(fC p).pos (by intro e0;rw[e0]at h0;simp at h0);rw[cI]at this;exact .inr (by rw[hv];omega)
end Go.ar
namespace Go.ar
open Go.Proofs Num
theorem Tq{H:Heap}{u v:Value}{x y:Nat}(hx:cX H u x)(hy:cX H v y)(vt:y≤x)(hm:((ah x).length:Int)≤8796093022208):
 Fn Tryz.prog 206 #[u,v] H (mz H (x-y)):=by
 obtain⟨A,c,rfl,hc,hr⟩:=hx
 obtain⟨A',c',rfl,jd,dt⟩:=hy
 have ji:=(fC x).lt
 have dU:=(fC y).lt
 have hl:=lR vt;refine aZ (args:=[_,_]) Tryz.func206 rfl rfl Tryz.ntmps206 rfl rfl fun w0=> ?_;refine ag [0,1] rfl ?_;refine ab ?_;refine vr 1 ?_;refine aa [0,1] ?_;refine ab ?_;refine vr 2 ?_;refine ig Tryz.underlying177 dV rfl rfl rfl (by omega) (by omega) (by omega) (by omega) ?_;intro g hg;refine vr 1 ?_;refine aa [0,1,5] ?_;refine ab ?_;refine vr 1 ?_;refine aa [0,1,5,6] ?_;refine al ?_;refine ab ?_;refine vr 3 ?_;refine aa [0,1,5,6,13,14] ?_;refine aC ?_;refine pW (fun(k:Nat)(v:Value)(o:List Nat)(br:Nat)=>(ah x).length-k) (fun(k:Nat)(v:Value)(o:List Nat)(br:Nat)=>put (put (put (put (put (put (emp) 0 (.val (.slice A (ah x).length c))) 1 (.val (.slice A' (ah y).length c'))) 5 (.val (v))) 6 (.val (.int .i64 (br:Int)))) 13 (.val (.int .i64 ((ah x).length:Int)))) 14 (.val (.int .i64 (k:Int)))) (fun(k:Nat)(v:Value)(o:List Nat)(br:Nat) H'=>Heap.le H H'∧kE H' v o∧k≤(ah x).length∧o.length=k∧Lt o∧br≤1∧val ((ah x).take k)+B^k*br=val o+val ((ah y).take k)) 0 _ [] 0 (⟨Heap.bI _ hg,IT rfl (by simp only[maxLen];omega),by omega,rfl,Lt.nil,by omega,by simp[val]⟩) an ?_;rintro k v o br H1 ⟨hle,cn,hk,dK,dR,tP,hv⟩;obtain⟨Ao,co,rfl⟩:=bP.form cn;refine ab ?_;refine vr 1 ?_
 refine aa [0,1,5,6,13,14,15] ?_;refine al ?_;refine aB rfl (fun hb=> ?_) (fun hb=> ?_)
 ·
  have hb:k<(ah x).length:=by simpa using hb
  obtain⟨d,hd⟩:∃d,(ah x)[k]? = some d:=⟨_,List.getElem?_eq_getElem hb⟩;have lr:=ji.get hd;rw[bY]at lr;obtain⟨e,he⟩:∃e,e=((ah y)[k]?).getD 0:=⟨_,rfl⟩
  have Cf:e<1000000000:=by
   cases hq:(ah y)[k]? with
   | none=>rw[hq]at he;simp at he;omega
   | some z=>rw[hq]at he;simp at he;have:=dU.get hq;rw[bY]at this;omega
  refine au ?_;refine ag [0,1,5,6,13,14] rfl ?_;refine al ?_;refine aC ?_;refine ab ?_;refine vr 2 ?_;refine aa [0,1,5,6,7,13,14] ?_;refine ab ?_;refine vr 2 ?_;refine aM ae rfl rfl rfl rfl rfl (hr.le hle) (dd hd) (by omega) (by omega) fun _=> ?_;refine cW ae rfl rfl rfl ⟨by omega,by omega⟩ ?_;refine vr 1 ?_;refine cP rfl rfl ⟨by omega,by omega⟩ ?_;refine vr 1 ?_;refine aa [0,1,5,7,8,13,14] ?_;refine kC (fun(sv:Int)=>put (put (put (put (put (put (emp) 0 (.val (.slice A (ah x).length c))) 1 (.val (.slice A' (ah y).length c'))) 5 (.val (.slice Ao o.length co))) 8 (.val (.int .i64 sv))) 13 (.val (.int .i64 ((ah x).length:Int)))) 14 (.val (.int .i64 (k:Int)))) (fun(sv:Int) H'=>H'=H1∧sv=(d:Int)-br-e) ?_ ?_
  ·
   refine ab ?_;refine vr 4 ?_;refine aa [0,1,5,7,8,13,14,27] ?_;refine aB rfl (fun hb=> ?_) (fun hb=> ?_)
   ·
    have hb:k<(ah y).length:=by simpa using hb
    have hz:(ah y)[k]? = some e:=by rw[List.getElem?_eq_getElem hb]at he⊢;simp at he;rw[he]
    refine av rfl ?_;refine vr 3 ?_;refine aM ae rfl rfl rfl rfl rfl (dt.le hle) (dd hz) (by omega) (by omega) fun _=> ?_;refine cW ae rfl rfl rfl ⟨by omega,by omega⟩ ?_;refine cP rfl rfl ⟨by omega,by omega⟩ ?_;refine vr 1 ?_;refine aq ?_;exact⟨(d:Int)-br-e,(by repeat (first | exact iy _ | refine dh rfl ?_ | refine dh (iO (by omega)) ?_)),rfl,rfl⟩
   ·
    have hb:(ah y).length≤k:=by simpa using hb
    have IX:e=0:=by rw[he,List.getElem?_eq_none hb];rfl
    refine au ?_;exact⟨(d:Int)-br,(by repeat (first | exact iy _ | refine dh rfl ?_ | refine dh (iO (by omega)) ?_)),rfl,by omega⟩
  ·
   rintro sv H4 ⟨rfl,p3⟩;refine ab ?_;refine vr 1 ?_;refine aa [0,1,5,6,8,13,14] ?_;refine al ?_;refine ab ?_;refine vr 2 ?_;refine aa [0,1,5,6,8,13,14,36] ?_;refine aB rfl (fun hb=> ?_) (fun hb=> ?_)
   ·
    have hb:sv<0:=by simpa using hb
    refine ab ?_;refine vr 1 ?_;refine aD rfl rfl ⟨by omega,by omega⟩ ?_;refine vr 1 ?_;refine aa [0,1,5,8,13,14] ?_;refine av rfl ?_;refine vr 1 ?_;refine aq ?_;refine ag [0,1,5,6,8,13,14] rfl ?_;refine av rfl ?_;refine vr 2 ?_;refine cW ae rfl rfl rfl ⟨by omega,by omega⟩ ?_;refine dI Tryz.underlying177 dV rfl rfl rfl rfl rfl rfl rfl ?_;intro gb bD;refine eN Tryz.underlying177 dV rfl rfl (cn.ins _ bD) (qU (y:=if sv<0 then d+1000000000-br-e else d-br-e) (by split <;> omega)) (rfl) (nQ _) (by omega) (by omega) ?_;intro v1 H2 ha
    (first|rw[if_pos hb]at ha|rw[if_neg (by omega)]at ha)
    refine vr 1 ?_;refine aq ?_;refine ag [0,1,5,6,13,14] rfl ?_;refine av rfl ?_;refine aD rfl rfl ⟨by omega,by omega⟩ ?_;refine vr 1 ?_;refine aq ?_;have cQ:=El (s:=d+1000000000-br-e) (br':=1) (d:=d) (e:=e) dK hv (by rw[bY];omega) (kD hd) (show val ((ah y).take (k+1))=val ((ah y).take k)+B^k*e by rw[xg,←he]);exact⟨k+1,v1,o ++ [d+1000000000-br-e],1,by omega,an,(hle.trans (Heap.bI _ bD)).trans ha.le,ha.oY rfl rfl,by omega,by simp[dK],dR.snoc (by rw[bY];omega),by omega,cQ⟩
   ·
    have hb:0≤sv:=by simpa using hb
    refine au ?_;refine ag [0,1,5,6,8,13,14] rfl ?_;refine av rfl ?_;refine vr 2 ?_;refine cW ae rfl rfl rfl ⟨by omega,by omega⟩ ?_;refine dI Tryz.underlying177 dV rfl rfl rfl rfl rfl rfl rfl ?_;intro gb bD;refine eN Tryz.underlying177 dV rfl rfl (cn.ins _ bD) (qU (y:=if sv<0 then d+1000000000-br-e else d-br-e) (by split <;> omega)) (rfl) (nQ _) (by omega) (by omega) ?_;intro v1 H2 ha
    (first|rw[if_pos hb]at ha|rw[if_neg (by omega)]at ha)
    refine vr 1 ?_;refine aq ?_;refine ag [0,1,5,6,13,14] rfl ?_;refine av rfl ?_;refine aD rfl rfl ⟨by omega,by omega⟩ ?_;refine vr 1 ?_;refine aq ?_;have cQ:=El (s:=d-br-e) (br':=0) (d:=d) (e:=e) dK hv (by omega) (kD hd) (show val ((ah y).take (k+1))=val ((ah y).take k)+B^k*e by rw[xg,←he]);exact⟨k+1,v1,o ++ [d-br-e],0,by omega,an,(hle.trans (Heap.bI _ bD)).trans ha.le,ha.oY rfl rfl,by omega,by simp[dK],dR.snoc (by rw[bY];omega),by omega,cQ⟩
 ·
  have hb:(ah x).length≤k:=by simpa using hb
  obtain rfl:k=(ah x).length:=by omega
  rw[List.take_length,List.take_of_length_le hl,cI,cI]at hv;have zz:=tM dR;rw[dK]at zz
  have sC:br=0:=by
   rcases Nat.eq_zero_or_pos br with h | h
   ·exact h
   ·
    obtain rfl:br=1:=by omega
    omega
  obtain⟨Ao',co',acN,pZ,vu⟩:=cn.lim
  cases acN
  refine aU ?_;refine ag [5] rfl ?_;refine ab ?_;refine vr 1 ?_;refine aw rfl rfl (MP dR vu pZ (by omega)) ?_;intro v1 H4 hp;refine vr 1 ?_;refine aa [4] ?_;refine az ⟨.inr rfl,_,.tmp rfl (.nil),?_⟩;exact⟨hle.trans hp.le,by have:=hp.nat;rwa [show val o=x-y by rw[sC]at hv;omega]at this⟩
end Go.ar
namespace Go.ar
open Go.Proofs Num
theorem xz(H:Heap)(g n:Nat):ins H g ⟨du [.int .u32 0] (n*1),n*1,121,true⟩=ins H g (dB (List.replicate n 0) n):=acI (k:=n) rfl
theorem xA{l:List Nat}{k y:Nat}(h:k<l.length):(l.set k y).take (k+1)=l.take k ++ [y]:=acH h
theorem IY{q m r x:Nat}(h:q*m+r=x)(hr:r<m):x/m=q∧x%m=r:=by
 subst h
 refine⟨?_,?_⟩
 ·rw[Nat.mul_comm,Nat.mul_add_div (by omega),Nat.div_eq_of_lt hr,Nat.add_zero]
 ·rw[Nat.mul_comm,Nat.mul_add_mod,Nat.mod_eq_of_lt hr]
def acO(H:Heap)(n x:Nat)(v:Value)(H':Heap):Prop:=∃g l,H g=none∧v = .slice (some ⟨g,0,none⟩) n n∧H'=ins H g (dB l n)∧l.length=n∧Lt l∧val l=x
theorem IZ{H:Heap}{v:Value}{l:List Nat}(h:jh H v l)(bU:Lt l)(hm:(l.length:Int)≤35184372088832):Fn Tryz.prog 207 #[v] H (mz H (val l)):=by
 obtain⟨A,c,rfl,hc,hr⟩:=h
 exact MP bU hr hc hm
theorem Tr{H:Heap}{u:Value}{l:List Nat}{m:Nat}(hu:jh H u l)(hl:Lt l)(hm:m<1000000000)(hs:(l.length:Int)≤8796093022208):
 Fn Tryz.prog 224 #[u,.int .u64 (m:Int)] H (acO H (l.length+1) (val l*m)):=by
 obtain⟨A,c,rfl,hc,hr⟩:=hu;refine aZ (args:=[_,_]) Tryz.func224 rfl rfl Tryz.ntmps224 rfl rfl fun w0=> ?_;refine ag [0,1] rfl ?_;refine ab ?_;refine vr 1 ?_;refine aa [0,1] ?_;refine ab ?_;refine vr 2 ?_;refine aD rfl rfl ⟨by omega,by omega⟩ ?_;refine ig Tryz.underlying177 dV rfl rfl rfl (by omega) (by omega) (by omega) (by omega) ?_;intro g hg;rw[show ((l.length:Int)+1).toNat=l.length+1 from by omega,xz];have p4:=fun e=>hr.le (Heap.bI (g:=g) e hg);refine vr 1 ?_;refine aa [0,1,5] ?_;refine ab ?_;refine vr 1 ?_;refine aa [0,1,5,6] ?_;refine al ?_;refine ab ?_;refine vr 3 ?_;refine aa [0,1,5,6,14,15] ?_;refine aC ?_;refine gh (fun(k:Nat)(o:List Nat)(cr:Nat)=>l.length-k) (fun(k:Nat)(o:List Nat)(cr:Nat)=>put (put (put (put (put (put (emp) 0 (.val (.slice A l.length c))) 1 (.val (.int .u64 (m:Int)))) 5 (.val (.slice (some ⟨g,0,none⟩) (l.length+1) (l.length+1)))) 6 (.val (.int .u64 (cr:Int)))) 14 (.val (.int .i64 (l.length:Int)))) 15 (.val (.int .i64 (k:Int)))) (fun(k:Nat)(o:List Nat)(cr:Nat) H'=>H'=ins H g (dB o (l.length+1))∧k≤l.length∧o.length=l.length+1∧Lt o∧cr<1000000000∧val (o.take k)+B^k*cr=val (l.take k)*m) 0 _ 0 (⟨rfl,by omega,by simp,Lt.replicate _,by omega,by simp[val]⟩) an ?_
 rintro k o cr H1 ⟨rfl,hk,dK,dR,mW,hv⟩;refine ab ?_;refine vr 1 ?_;refine aa [0,1,5,6,14,15,16] ?_;refine al ?_;refine aB rfl (fun hb=> ?_) (fun hb=> ?_)
 ·
  have hb:k<l.length:=by simpa using hb
  obtain⟨d,hd⟩:∃d,l[k]? = some d:=⟨_,List.getElem?_eq_getElem hb⟩;have lr:=hl.get hd;rw[bY]at lr;have Ts:d*m≤999999999*999999999:=Nat.mul_le_mul (by omega) (by omega)
  have Tt:(d:Int)*(m:Int)=((d*m:Nat):Int):=by simp
  obtain⟨dm,aj2⟩:∃dm,dm=d*m:=⟨_,rfl⟩;refine au ?_;refine ag [0,1,5,6,14,15] rfl ?_;refine al ?_;refine aC ?_;refine ab ?_;refine vr 2 ?_;refine aa [0,1,5,6,7,14,15] ?_;refine ab ?_;refine vr 2 ?_;refine aM ae rfl rfl rfl rfl rfl (p4 _) (dd hd) (by omega) (by omega) fun _=> ?_;refine cW ae rfl rfl rfl ⟨by omega,by omega⟩ ?_;refine vr 1 ?_;refine gq rfl rfl ⟨by omega,by omega⟩ ?_;refine vr 1 ?_;refine aD rfl rfl ⟨by omega,by omega⟩ ?_;refine vr 1 ?_;refine aa [0,1,5,7,8,14,15] ?_;refine ab ?_;refine vr 3 ?_;refine mj rfl rfl (by omega) (by omega) ?_;refine cW ae rfl rfl rfl ⟨by omega,by omega⟩ ?_;obtain⟨ti,aj,ak⟩:=nP;refine cM (.inl rfl) ae rfl rfl rfl (by omega) (by omega) (bo _ _ _) rfl (by rw[nR];omega) aj ak (fun _=>rfl) rfl rfl rfl fun _=> ?_;refine aa [0,1,5,8,14,15] ?_;refine av rfl ?_;refine vr 1 ?_;refine lq rfl rfl (by omega) (by omega) ⟨by omega,by omega⟩ ?_;refine vr 1 ?_;refine aq ?_;refine ag [0,1,5,6,14,15] rfl ?_;refine av rfl ?_;refine aD rfl rfl ⟨by omega,by omega⟩ ?_;refine vr 1 ?_;refine aq ?_;have cQ:=Cc (s:=d*m+cr) (a:=cr) (b:=d*m) (u:=val (l.take (k+1))*m) (by simp;omega) hv (by omega) (by rw[kD hd,Nat.add_mul,Nat.mul_assoc])
  rw[←xA (by omega)]at cQ;exact⟨k+1,o.set k ((d*m+cr)%B),(d*m+cr)/B,by omega,an,by rw[tO (y:=(d*m+cr)%B) (by rw[bY];omega)];rfl,by omega,by simp[dK],dR.set (Nat.mod_lt _ mr),by rw[bY];omega,cQ⟩
 ·
  have hb:l.length≤k:=by simpa using hb
  obtain rfl:k=l.length:=by omega
  rw[List.take_length]at hv;refine aU ?_;refine ag [0,5,6] rfl ?_;refine ab ?_;refine vr 4 ?_;refine cW ae rfl rfl rfl ⟨by omega,by omega⟩ ?_;obtain⟨ti,aj,ak⟩:=nP;refine cM (.inl rfl) ae rfl rfl rfl (by omega) (by omega) (bo _ _ _) rfl (by rw[nR];omega) aj ak (fun _=>rfl) rfl rfl rfl fun _=> ?_;refine aa [5] ?_;refine ab ?_;refine vr 2 ?_;refine aa [4] ?_;refine az ⟨.inr rfl,_,.tmp rfl (.nil),?_⟩;refine⟨g,o.set l.length cr,hg,rfl,?_,by simp[dK],dR.set (by rw[bY];omega),?_⟩
  ·rw[tO (y:=cr) rfl];rfl
  ·rw[←List.take_length (l:=o.set l.length cr),List.length_set,dK,xA (by omega),qR,List.length_take,Nat.min_eq_left (by omega)];exact hv
theorem Tu{H:Heap}{u:Value}{l:List Nat}{m:Nat}(hu:jh H u l)(hl:Lt l)(hm:m<1000000000)(vw:0<m)(hs:(l.length:Int)≤8796093022208):
 Fn Tryz.prog 223 #[u,.int .u64 (m:Int)] H (fun v H'=>Heap.le H H'∧∃q,v = .tuple #[q,.int .u64 ((val l%m:Nat):Int)]∧cX H' q (val l/m)):=by
 obtain⟨A,c,rfl,hc,hr⟩:=hu;refine aZ (args:=[_,_]) Tryz.func223 rfl rfl Tryz.ntmps223 rfl rfl fun w0=> ?_;refine ag [0,1] rfl ?_;refine ab ?_;refine vr 2 ?_;refine aa [0,1] ?_;refine ab ?_;refine vr 2 ?_;refine ig Tryz.underlying177 dV rfl rfl rfl (by omega) (by omega) (by omega) (by omega) ?_;intro g hg;rw[show ((l.length:Int)).toNat=l.length from by omega,xz];have p4:=fun e=>hr.le (Heap.bI (g:=g) e hg);refine vr 1 ?_;refine aa [0,1,6] ?_;refine ab ?_;refine vr 1 ?_;refine aa [0,1,6,7] ?_;refine al ?_;refine ab ?_;refine vr 2 ?_;refine cP rfl rfl ⟨by omega,by omega⟩ ?_;refine vr 1 ?_;refine aa [0,1,6,7,8] ?_;refine aC ?_;refine gh (fun(k:Nat)(o:List Nat)(rs:Nat)=>k) (fun(k:Nat)(o:List Nat)(rs:Nat)=>put (put (put (put (put (emp) 0 (.val (.slice A l.length c))) 1 (.val (.int .u64 (m:Int)))) 6 (.val (.slice (some ⟨g,0,none⟩) l.length l.length))) 7 (.val (.int .u64 (rs:Int)))) 8 (.val (.int .i64 ((k:Int)-1)))) (fun(k:Nat)(o:List Nat)(rs:Nat) H'=>H'=ins H g (dB o l.length)∧k≤l.length∧o.length=l.length∧Lt o∧rs<m∧val (o.drop k)*m+rs=val (l.drop k)) l.length _ 0 (⟨rfl,by omega,by simp,Lt.replicate _,by omega,by simp[val]⟩) an ?_;rintro k o rs H1 ⟨rfl,hk,dK,dR,qV,hv⟩;refine al ?_
 refine ab ?_;refine vr 2 ?_;refine aa [0,1,6,7,8,17] ?_;refine aB rfl (fun hb=> ?_) (fun hb=> ?_)
 ·
  have hb:1≤k:=by simp at hb;omega
  obtain⟨k,rfl⟩:∃j,k=j+1:=⟨k-1,by omega⟩;obtain⟨d,hd⟩:∃d,l[k]? = some d:=⟨_,List.getElem?_eq_getElem (by omega)⟩;have lr:=hl.get hd;rw[bY]at lr
  have hj:(((k+1:Nat):Int)-1).toNat=k:=by omega
  have jk:((rs:Int)*1000000000+(d:Int))/(m:Int)<1000000000:=Int.ediv_lt_of_lt_mul (by omega) (by omega);have bW:0≤((rs:Int)*1000000000+(d:Int))/(m:Int):=Int.ediv_nonneg (by omega) (by omega);refine au ?_;refine ag [0,1,6,7,8] rfl ?_;refine al ?_;refine aC ?_;refine ab ?_;refine vr 1 ?_;refine gq rfl rfl ⟨by omega,by omega⟩ ?_;refine vr 2 ?_;refine aM ae rfl rfl rfl rfl rfl (p4 _) (by rw[hj];exact dd hd) (by omega) (by omega) fun _=> ?_;refine cW ae rfl rfl rfl ⟨by omega,by omega⟩ ?_;refine aD rfl rfl ⟨by omega,by omega⟩ ?_;refine vr 1 ?_;refine aa [0,1,6,8,9] ?_;refine ab ?_;refine vr 4 ?_;refine lq rfl rfl (by omega) (by omega) ⟨by omega,by omega⟩ ?_;refine cW ae rfl rfl rfl ⟨by omega,by omega⟩ ?_;obtain⟨ti,aj,ak⟩:=nP;refine cM (.inl rfl) ae rfl rfl rfl (by omega) (by omega) (bo _ _ _) rfl (by rw[nR];omega) aj ak (fun _=>rfl) rfl rfl rfl fun _=> ?_;refine aa [0,1,6,8,9] ?_;refine av rfl ?_;refine vr 2 ?_;refine mj rfl rfl (by omega) (by omega) ?_;refine vr 1 ?_;refine aq ?_;refine ag [0,1,6,7,8] rfl ?_;refine av rfl ?_;refine vr 1 ?_;refine cP rfl rfl ⟨by omega,by omega⟩ ?_;refine vr 1 ?_;refine aq ?_
  have hq:(rs*1000000000+d)/m<1000000000:=by rw[Nat.div_lt_iff_lt_mul vw];omega
  refine⟨k,o.set k ((rs*1000000000+d)/m),(rs*1000000000+d)%m,by omega,an,by rw[tO (y:=(rs*1000000000+d)/m) (by simp)];rw[hj],by omega,by simp[dK],dR.set (by rw[bY];omega),Nat.mod_lt _ vw,?_⟩;rw[set_drop (by omega),Cd hd,jy,jy,←hv];have:=Nat.div_add_mod (rs*1000000000+d) m
  simp only[bY,Nat.add_mul,Nat.mul_add,Nat.mul_assoc]
  rw[Nat.mul_comm m]at this
  omega
 ·
  have hb:k=0:=by simp at hb;omega
  subst hb
  simp only[List.drop_zero]at hv
  refine aU ?_;refine ag [6,7] rfl ?_;refine ab ?_;refine vr 1 ?_;refine aw rfl rfl (IZ (zx _ _ o _ _ dK.symm (Nat.le_refl _)) dR (by omega)) ?_;intro v1 H4 hp;refine vr 3 ?_;refine aa [4,5] ?_;refine az ⟨.inr rfl,_,.tmp rfl (.tmp rfl (.nil)),?_⟩;refine⟨(Heap.bI _ hg).trans hp.le,v1,?_,?_⟩
  ·rw[(IY hv qV).2];rfl
  ·rw[(IY hv qV).1];exact hp.nat
end Go.ar
namespace Go.ar
open Go.Proofs Num
def qW(o:List Nat)(p:Nat):Prop:=∀t z,p≤t→o[t]? = some z→z=0
theorem qW.set{o:List Nat}{p t y:Nat}(h:qW o p)(ht:t<p):qW (o.set t y) p:=fun s z hs hz=>by
 rw[List.getElem?_set_ne (by omega)]at hz
 exact h s z hs hz
theorem qW.acP{o:List Nat}{p y:Nat}(h:qW o p):qW (o.set p y) (p+1):=fun s z hs hz=>by
 rw[List.getElem?_set_ne (by omega)]at hz
 exact h s z (by omega) hz
theorem Tv(n p:Nat):qW (List.replicate n 0) p:=fun t z _ hz=>by
 rw[List.getElem?_replicate]at hz
 split at hz
 ·cases hz;rfl
 ·cases hz
theorem Tx{o:List Nat}{i j e cr s X Y P d:Nat}(he:o[i+j]? = some e)(hv:val o+B^(i+j)*cr=X+B^i*d*Y)(hs:s=d*P+e+cr):
  val (o.set (i+j) (s%B))+B^(i+(j+1))*(s/B)=X+B^i*d*(Y+B^j*P):=by
 have h1:=Tl (y:=s%B) he
 have h2:B^(i+j)*s=B^(i+j)*(s%B)+B^(i+j)*(B*(s/B)):=by rw[←Nat.mul_add,Nat.mod_add_div]
 have h3:B^(i+j)*s=B^(i+j)*(d*P)+B^(i+j)*e+B^(i+j)*cr:=by rw[hs,Nat.mul_add,Nat.mul_add]
 have h4:B^i*d*(B^j*P)=B^(i+j)*(d*P):=by rw[Nat.pow_add,Nat.mul_assoc,Nat.mul_assoc,Nat.mul_left_comm d]
 rw[Nat.mul_add,h4,←Nat.add_assoc i j 1,Nat.pow_succ,Nat.mul_assoc]
 omega
theorem zA{H:Heap}{u v:Value}{x y:Nat}(hx:cX H u x)(hy:cX H v y)(hm:((ah x).length:Int)≤8796093022208)(bB:((ah y).length:Int)≤8796093022208):
 Fn Tryz.prog 197 #[u,v] H (mz H (x*y)):=by
 obtain⟨A,c,rfl,hc,hr⟩:=hx
 obtain⟨A',c',rfl,jd,dt⟩:=hy
 have ji:=(fC x).lt
 have dU:=(fC y).lt;refine aZ (args:=[_,_]) Tryz.func197 rfl rfl Tryz.ntmps197 rfl rfl fun w0=> ?_;refine ag [0,1] rfl ?_;refine ab ?_;refine vr 1 ?_;refine aa [0,1] ?_;refine al ?_
 by_cases jN:(ah x).length=0
 ·
  skip
  refine ab ?_;refine vr 2 ?_;refine aA true rfl rfl (fk (by omega)) ?_;refine vr 5 ?_;refine aa [0,1,17] ?_;refine cD rfl ?_;refine ab ?_;refine vr 1 ?_;refine aa [4] ?_;refine az ⟨.inr rfl,_,.tmp rfl (.nil),?_⟩;exact⟨.refl _,by have:x=0:=(by rw[←cI x,List.eq_nil_of_length_eq_zero jN];rfl);rw[this,Nat.zero_mul];exact vq H⟩
 ·
  skip
  refine ab ?_;refine vr 2 ?_;refine aA false rfl rfl (gI (by omega)) ?_;refine vr 5 ?_;refine aa [0,1,17] ?_;refine aB rfl (fun hb=> ?_) (fun hb=> ?_)
  ·
   have hb:(ah y).length=0:=by simpa using hb
   refine ab ?_;refine vr 1 ?_;refine aa [4] ?_;refine az ⟨.inr rfl,_,.tmp rfl (.nil),?_⟩;exact⟨.refl _,by have:y=0:=(by rw[←cI y,List.eq_nil_of_length_eq_zero hb];rfl);rw[this,Nat.mul_zero];exact vq H⟩
  ·
   have jc:(ah y).length≠0:=by simpa using hb
   refine au ?_;refine ag [0,1] rfl ?_;refine ab ?_;refine vr 4 ?_;refine aD rfl rfl ⟨by omega,by omega⟩ ?_;refine ig Tryz.underlying177 dV rfl rfl rfl (by omega) (by omega) (by omega) (by omega) ?_;intro g hg;rw[show (((ah x).length:Int)+((ah y).length:Int)).toNat=((ah x).length+(ah y).length)from by omega,xz];have p4:=fun e=>hr.le (Heap.bI (g:=g) e hg);have Eo:=fun e=>dt.le (Heap.bI (g:=g) e hg);refine vr 1 ?_;refine aa [0,1,5] ?_;refine al ?_;refine ab ?_;refine vr 3 ?_;refine aa [0,1,5,25,26] ?_;refine aC ?_;refine gy (fun(i:Nat)(o:List Nat)=>(ah x).length-i) (fun(i:Nat)(o:List Nat)=>put (put (put (put (put (emp) 0 (.val (.slice A (ah x).length c))) 1 (.val (.slice A' (ah y).length c'))) 5 (.val (.slice (some ⟨g,0,none⟩) ((ah x).length+(ah y).length) ((ah x).length+(ah y).length)))) 25 (.val (.int .i64 ((ah x).length:Int)))) 26 (.val (.int .i64 (i:Int)))) (fun(i:Nat)(o:List Nat) H'=>H'=ins H g (dB o ((ah x).length+(ah y).length))∧i≤(ah x).length∧o.length=((ah x).length+(ah y).length)∧Lt o∧qW o (i+(ah y).length)∧val o=val ((ah x).take i)*y) 0 _ (⟨rfl,by omega,by simp,Lt.replicate _,Tv _ _,by simp[val,Tm]⟩) an ?_;rintro i o H1 ⟨rfl,hi,dK,dR,hz,hv⟩;refine ab ?_
   refine vr 1 ?_;refine aa [0,1,5,25,26,27] ?_;refine al ?_;refine aB rfl (fun hb=> ?_) (fun hb=> ?_)
   ·
    have hb:i<(ah x).length:=by simpa using hb
    obtain⟨d,hd⟩:∃d,(ah x)[i]? = some d:=⟨_,List.getElem?_eq_getElem hb⟩;have lr:=ji.get hd;rw[bY]at lr;refine au ?_;refine ag [0,1,5,25,26] rfl ?_;refine al ?_;refine aC ?_;refine ab ?_;refine vr 2 ?_;refine aa [0,1,5,6,25,26] ?_;refine ab ?_;refine vr 1 ?_;refine aa [0,1,5,6,7,25,26] ?_;refine al ?_;refine ab ?_;refine vr 3 ?_;refine aa [0,1,5,6,7,25,26,30,31] ?_;refine aC ?_;refine gh (fun(j:Nat)(o2:List Nat)(cr:Nat)=>(ah y).length-j) (fun(j:Nat)(o2:List Nat)(cr:Nat)=>put (put (put (put (put (put (put (put (put (emp) 0 (.val (.slice A (ah x).length c))) 1 (.val (.slice A' (ah y).length c'))) 5 (.val (.slice (some ⟨g,0,none⟩) ((ah x).length+(ah y).length) ((ah x).length+(ah y).length)))) 6 (.val (.int .i64 (i:Int)))) 7 (.val (.int .u64 (cr:Int)))) 25 (.val (.int .i64 ((ah x).length:Int)))) 26 (.val (.int .i64 (i:Int)))) 30 (.val (.int .i64 ((ah y).length:Int)))) 31 (.val (.int .i64 (j:Int)))) (fun(j:Nat)(o2:List Nat)(cr:Nat) H'=>H'=ins H g (dB o2 ((ah x).length+(ah y).length))∧j≤(ah y).length∧o2.length=((ah x).length+(ah y).length)∧Lt o2∧cr<1000000000∧qW o2 (i+(ah y).length)∧val o2+B^(i+j)*cr=val ((ah x).take i)*y+B^i*d*val ((ah y).take j)) 0 o 0 (⟨rfl,by omega,dK,dR,by omega,hz,by simp[val,hv]⟩) an ?_
    rintro j o2 cr H1 ⟨rfl,hj,Ep,zB,mW,j0,dN⟩;refine ab ?_;refine vr 1 ?_;refine aa [0,1,5,6,7,25,26,30,31,32] ?_;refine al ?_;refine aB rfl (fun hb=> ?_) (fun hb=> ?_)
    ·
     have hb:j<(ah y).length:=by simpa using hb
     obtain⟨p,hp⟩:∃p,(ah y)[j]? = some p:=⟨_,List.getElem?_eq_getElem hb⟩;have xt:=dU.get hp;rw[bY]at xt;obtain⟨e,he⟩:∃e,o2[i+j]? = some e:=⟨_,List.getElem?_eq_getElem (by omega)⟩;have Cf:=zB.get he;rw[bY]at Cf
     have Er:((i:Int)+(j:Int)).toNat=i+j:=by omega
     have Ts:d*p≤999999999*999999999:=Nat.mul_le_mul (by omega) (by omega)
     have Tt:(d:Int)*(p:Int)=((d*p:Nat):Int):=by simp
     refine au ?_;refine ag [0,1,5,6,7,25,26,30,31] rfl ?_;refine al ?_;refine aC ?_;refine ab ?_;refine vr 2 ?_;refine aa [0,1,5,6,7,8,25,26,30,31] ?_;refine bJ .bF [0,1,2,3,4,5,6,7,8,9,10,11,12,13,14,15,16,17,18,19,20,21] follows (by kernel_rfl) ?_;refine vr 2 ?_;refine aM ae rfl rfl rfl rfl rfl (p4 _) (dd hd) (by omega) (by omega) fun _=> ?_;refine cW ae rfl rfl rfl ⟨by omega,by omega⟩ ?_;refine vr 2 ?_;refine aM ae rfl rfl rfl rfl rfl (Eo _) (dd hp) (by omega) (by omega) fun _=> ?_;refine cW ae rfl rfl rfl ⟨by omega,by omega⟩ ?_;refine gq rfl rfl ⟨by omega,by omega⟩ ?_;refine vr 3 ?_;refine aD rfl rfl ⟨by omega,by omega⟩ ?_;refine aM ae rfl rfl rfl rfl rfl (IU _ _ _ _) (by rw[Er];exact dd he) (by omega) (by omega) fun _=> ?_;refine cW ae rfl rfl rfl ⟨by omega,by omega⟩ ?_;refine aD rfl rfl ⟨by omega,by omega⟩ ?_;refine vr 1 ?_;refine aD rfl rfl ⟨by omega,by omega⟩ ?_;refine vr 1 ?_;refine aa [0,1,5,6,8,9,25,26,30,31] ?_;refine ab ?_;refine vr 3 ?_;refine aD rfl rfl ⟨by omega,by omega⟩ ?_;refine vr 1 ?_;refine mj rfl rfl (by omega) (by omega) ?_;refine cW ae rfl rfl rfl ⟨by omega,by omega⟩ ?_;obtain⟨ti,aj,ak⟩:=nP;refine cM (.inl rfl) ae rfl rfl rfl (by omega) (by omega) (bo _ _ _) rfl (by rw[nR];omega) aj ak (fun _=>rfl) rfl rfl rfl fun _=> ?_
     refine aa [0,1,5,6,9,25,26,30,31] ?_;refine av rfl ?_;refine vr 1 ?_;refine lq rfl rfl (by omega) (by omega) ⟨by omega,by omega⟩ ?_;refine vr 1 ?_;refine aq ?_;refine ag [0,1,5,6,7,25,26,30,31] rfl ?_;refine av rfl ?_;refine aD rfl rfl ⟨by omega,by omega⟩ ?_;refine vr 1 ?_;refine aq ?_;refine⟨j+1,o2.set (i+j) ((d*p+e+cr)%B),(d*p+e+cr)/B,by omega,an,by rw[tO (y:=(d*p+e+cr)%B) (by rw[bY];simp),Er],by omega,by simp[Ep],zB.set (Nat.mod_lt _ mr),by rw[bY];omega,j0.set (by omega),?_⟩;rw[kD hp];exact Tx he dN rfl
    ·
     have hb:(ah y).length≤j:=by simpa using hb
     obtain rfl:j=(ah y).length:=by omega
     rw[List.take_length,cI]at dN;refine aU ?_;refine ag [0,1,5,6,7,25,26] rfl ?_;refine av rfl ?_;refine vr 4 ?_;refine aD rfl rfl ⟨by omega,by omega⟩ ?_;refine vr 1 ?_;refine cW ae rfl rfl rfl ⟨by omega,by omega⟩ ?_;obtain⟨ti,aj,ak⟩:=nP;refine cM (.inl rfl) ae rfl rfl rfl (by omega) (by omega) (bo _ _ _) rfl (by rw[nR];omega) aj ak (fun _=>rfl) rfl rfl rfl fun _=> ?_;refine aq ?_;refine ag [0,1,5,25,26] rfl ?_;refine av rfl ?_;refine aD rfl rfl ⟨by omega,by omega⟩ ?_;refine vr 1 ?_;refine aq ?_;obtain⟨e,he⟩:∃e,o2[i+(ah y).length]? = some e:=⟨_,List.getElem?_eq_getElem (by omega)⟩;have IX:=j0 _ _ (Nat.le_refl _) he;subst IX;refine⟨i+1,o2.set (i+(ah y).length) cr,by omega,an,by rw[tO (y:=cr) rfl,show ((i:Int)+((ah y).length:Int)).toNat=i+(ah y).length by omega],by omega,by simp[Ep],zB.set (by rw[bY];omega),by rw[Nat.add_right_comm];exact j0.acP,?_⟩;have h1:=Tl (y:=cr) he;rw[kD hd,Nat.add_mul]
     omega
   ·
    have hb:(ah x).length≤i:=by simpa using hb
    obtain rfl:i=(ah x).length:=by omega
    rw[List.take_length,cI]at hv;refine aU ?_;refine ag [5] rfl ?_;refine ab ?_;refine vr 1 ?_;refine aw rfl rfl (IZ (zx _ _ o _ _ dK.symm (Nat.le_refl _)) dR (by omega)) ?_;intro v1 H4 hp;refine vr 1 ?_;refine aa [4] ?_;refine az ⟨.inr rfl,_,.tmp rfl (.nil),?_⟩;exact⟨(Heap.bI _ hg).trans hp.le,by have:=hp.nat;rwa [hv]at this⟩
end Go.ar
namespace Num
theorem acQ{T V W vl wl head u2 top next bA rest:Nat}(hV:V=vl+T*(next+B*top))(hW:W=wl+T*(u2+B*head))(oZ:wl<T)(hg:bA*top+rest=head)(hc:rest*B+u2<bA*next):W<bA*V:=by
 have h1:u2+B*head+1≤bA*(next+B*top):=by
  rw[←hg,Nat.mul_add,Nat.mul_add,Nat.mul_left_comm bA B top,Nat.mul_comm B rest];omega
 have h2:T*(u2+B*head+1)≤T*(bA*(next+B*top)):=Nat.mul_le_mul_left _ h1
 rw[hV,hW,Nat.mul_add bA,Nat.mul_left_comm bA T]
 rw[Nat.mul_add T _ 1]at h2
 omega
theorem acR{T V W vl wl head u2 top next bA rest:Nat}(hV:V=vl+T*(next+B*top))(hW:W=wl+T*(u2+B*head))(jL:vl<T)(Cg:1≤top)(hg:bA*top+rest=head)(hc:bA*next≤rest*B+u2)(I0:bA<B):bA*V<W+V:=by
 have h1:bA*(next+B*top)≤u2+B*head:=by
  rw[←hg,Nat.mul_add,Nat.mul_add,Nat.mul_left_comm bA B top,Nat.mul_comm B rest];omega
 have h2:T*(bA*(next+B*top))≤T*(u2+B*head):=Nat.mul_le_mul_left _ h1
 have h3:bA*vl≤bA*T:=Nat.mul_le_mul_left _ (by omega)
 have h4:bA*T<B*T:=Nat.mul_lt_mul_of_pos_right I0 (by omega)
 have h5:T*(B*1)≤T*(B*top):=Nat.mul_le_mul_left _ (Nat.mul_le_mul_left _ Cg)
 have h6:T*(B*1)=B*T:=by rw[Nat.mul_one,Nat.mul_comm]
 have h7:T*(next+B*top)=T*next+T*(B*top):=Nat.mul_add _ _ _
 have h8:bA*V=bA*vl+T*(bA*(next+B*top)):=by rw[hV,Nat.mul_add,Nat.mul_left_comm bA T]
 omega
theorem acS{T V W vl wl head u2 top next:Nat}(hV:V=vl+T*(next+B*top))(hW:W=wl+T*(u2+B*head))(jL:vl<T)(Es:next<B)(h:W<B*V):head<(top+1)*B:=by
 have h1:V<T*(B*(top+1)):=by
  have h2:T*(next+B*top+1)≤T*(B*(top+1)):=Nat.mul_le_mul_left _ (by rw[Nat.mul_add B top 1];omega)
  rw[Nat.mul_add T _ 1]at h2
  omega
 have h2:B*V<B*(T*(B*(top+1))):=Nat.mul_lt_mul_of_pos_left h1 mr
 have h3:T*(B*head)≤W:=by rw[hW,Nat.mul_add T u2];omega
 have h4:T*(B*head)<T*(B*((top+1)*B)):=by
  have:B*(T*(B*(top+1)))=T*(B*((top+1)*B)):=by rw[Nat.mul_left_comm B T,Nat.mul_comm (top+1) B]
  omega
 exact Nat.lt_of_mul_lt_mul_left (Nat.lt_of_mul_lt_mul_left h4)
theorem acT{T V W vl wl head u2 top next bA rest:Nat}(hV:V=vl+T*(next+B*top))(hW:W=wl+T*(u2+B*head))(jL:vl<T)(Es:next<B)(hh:head<(top+1)*B)(hg:bA*top+rest=head)(hr:B≤rest):bA<B∧bA*V≤W:=by
 have h0:bA<B:=by
  have h1:bA*top<B*top:=by rw[Nat.add_mul,Nat.one_mul,Nat.mul_comm top B]at hh;omega
  exact Nat.lt_of_mul_lt_mul_right h1
 refine⟨h0,?_⟩
 have h1:V≤T*(B*(top+1)):=by
  have h2:T*(next+B*top+1)≤T*(B*(top+1)):=Nat.mul_le_mul_left _ (by rw[Nat.mul_add B top 1];omega)
  rw[Nat.mul_add T _ 1]at h2
  omega
 have h2:bA*V≤bA*(T*(B*(top+1))):=Nat.mul_le_mul_left _ h1
 have h3:bA*(T*(B*(top+1)))=T*(B*(bA*(top+1))):=by rw[Nat.mul_left_comm bA T,Nat.mul_left_comm bA B]
 have h4:bA*(top+1)≤head:=by rw[Nat.mul_add,Nat.mul_one];omega
 have h5:T*(B*(bA*(top+1)))≤T*(B*head):=Nat.mul_le_mul_left _ (Nat.mul_le_mul_left _ h4)
 have h6:T*(B*head)≤W:=by rw[hW,Nat.mul_add T u2];omega
 omega
theorem Tz{bA top rest head:Nat}(hg:bA*top+rest=head)(h:0<bA):(bA-1)*top+(rest+top)=head:=by
 obtain⟨j,rfl⟩:∃j,bA=j+1:=⟨bA-1,by omega⟩
 rw[Nat.add_mul,Nat.one_mul]at hg
 rw[Nat.add_sub_cancel];omega
theorem acU{V W bA q:Nat}(hq:q=W/V)(hV:0<V)(h:bA*V<W+V):bA≤q+1:=by
 subst hq
 have h1:=Nat.div_add_mod W V
 have h2:=Nat.mod_lt W hV
 have h3:bA*V<(W/V+2)*V:=by
  rw[Nat.add_mul]
  rw[Nat.mul_comm]at h1
  omega
 have:=Nat.lt_of_mul_lt_mul_right h3
 omega
theorem MQ{V W bA q:Nat}(hq:q=W/V)(h:W<bA*V):q<bA:=by
 subst hq
 exact Nat.div_lt_of_lt_mul (by rwa [Nat.mul_comm]at h)
theorem acV{w:List Nat}{k p a b:Nat}(hl:w.length=k+3)(h0:w[k]? = some p)(h1:w[k+1]? = some a)(h2:w[k+2]? = some b):val w=val (w.take k)+B^k*(p+B*(b*B+a)):=by
 rw[IK h0,Cd h1,Cd h2,List.drop_eq_nil_of_le (by omega),jy,jy]
 simp only[val,Nat.mul_zero,Nat.add_zero]
 rw[Nat.mul_comm b B,Nat.add_comm a]
theorem acW{w:List Nat}{k p a:Nat}(hl:w.length=k+2)(h0:w[k]? = some p)(h1:w[k+1]? = some a):val w=val (w.take k)+B^k*(p+B*a):=by
 rw[IK h0,Cd h1,List.drop_eq_nil_of_le (by omega),jy]
 simp only[val,Nat.mul_zero,Nat.add_zero]
theorem Ch{w:List Nat}{k:Nat}(h:Lt w)(hk:k≤w.length):val (w.take k)<B^k:=by
 have:=tM (h.take k)
 rwa [List.length_take,Nat.min_eq_left hk]at this
theorem acX{n V W X un br bA q:Nat}(hW:W=X+B^n*un){Y:Nat}(hX:X+B^n*br=Y+bA*V)(tP:br≤un)(hq:q=W/V)(Et:q≤bA)(hV:0<V):bA=q∧Y+B^n*(un-br)=W%V:=by
 have h1:B^n*un=B^n*(un-br)+B^n*br:=by rw[←Nat.mul_add,Nat.sub_add_cancel tP]
 have h2:W=Y+B^n*(un-br)+bA*V:=by omega
 have h3:bA≤q:=by
  rw[hq,Nat.le_div_iff_mul_le hV];omega
 have h4:bA=q:=by omega
 refine⟨h4,?_⟩
 have h5:=Nat.div_add_mod W V
 rw[←hq,←h4,Nat.mul_comm]at h5
 omega
theorem acY{n V W X un br bA q:Nat}(hW:W=X+B^n*un){Y Z cr:Nat}(hX:X+B^n*br=Y+bA*V)(tP:un<br)(hq:q=W/V)(dQ:bA≤q+1)(hV:0<V)(hVn:V<B^n)(hY:Y<B^n)(hZ:Z<B^n)(hZY:Z+B^n*cr=Y+V):bA=q+1∧un+cr=br∧Z=W%V:=by
 have h0:B^n*br=B^n*un+B^n*(br-un):=by rw[←Nat.mul_add];congr 1;omega
 have h1:W+B^n*(br-un)=Y+bA*V:=by omega
 have Ed:B^n*1≤B^n*(br-un):=Nat.mul_le_mul_left _ (by omega)
 have h2:W<bA*V:=by omega
 have h3:=MQ hq h2
 have h4:bA=q+1:=by omega
 have h5:=Nat.div_add_mod W V
 have h6:=Nat.mod_lt W hV
 rw[←hq,Nat.mul_comm]at h5
 have h7:bA*V=q*V+V:=by rw[h4,Nat.add_mul,Nat.one_mul]
 have h8:W%V+B^n*(br-un)=Z+B^n*cr:=by omega
 have h9:br-un=cr:=by
  have e1:(W%V+B^n*(br-un))/B^n=br-un:=by
   rw[Nat.add_mul_div_left _ _ (by omega),Nat.div_eq_of_lt (by omega),Nat.zero_add]
  have e2:(Z+B^n*cr)/B^n=cr:=by
   rw[Nat.add_mul_div_left _ _ (by omega),Nat.div_eq_of_lt (by omega),Nat.zero_add]
  rw[←e1,←e2,h8]
 subst h9
 exact⟨h4,by omega,by omega⟩
theorem MR(a b:List Nat):val (a++b)=val a+B^a.length*val b:=by
 induction a with
 | nil=>simp[val]
 | cons x a ih=>
  rw[List.cons_append,jy,jy,ih,List.length_cons,Nat.pow_succ,Nat.mul_add,Nat.mul_comm (B^a.length) B,Nat.mul_assoc];omega
theorem Eu(l:List Nat){k:Nat}(hk:k≤l.length):val l=val (l.take k)+B^k*val (l.drop k):=by
 have:=MR (l.take k) (l.drop k)
 rwa [List.take_append_drop,List.length_take,Nat.min_eq_left hk]at this
theorem TA{l:List Nat}{j n V:Nat}(tQ:Lt l)(hlen:j+n+1≤l.length)(hd:val (l.drop (j+1))<V)(hV:V≤B^n):
  val (l.drop (j+n+1))=0∧val (l.drop j)=val ((l.drop j).take (n+1))∧val ((l.drop j).take (n+1))<B*V:=by
 have h1:=Eu (l.drop (j+1)) (k:=n) (by simp;omega)
 rw[List.drop_drop,show j+1+n=j+n+1 by omega]at h1
 have h0:val (l.drop (j+n+1))=0:=by
  rcases Nat.eq_zero_or_pos (val (l.drop (j+n+1)))with e | e
  ·exact e
  ·have:B^n*1≤B^n*val (l.drop (j+n+1)):=Nat.mul_le_mul_left _ e
   omega
 have h2:=Eu (l.drop j) (k:=n+1) (by simp;omega)
 rw[List.drop_drop,show j+(n+1)=j+n+1 by omega,h0,Nat.mul_zero,Nat.add_zero]at h2
 refine⟨h0,h2,?_⟩
 rw[←h2]
 have hj:l[j]? = some l[j]:=List.getElem?_eq_getElem (by omega)
 rw[Cd hj,jy]
 have h3:=tQ.get hj
 have h4:B*(val (l.drop (j+1))+1)≤B*V:=Nat.mul_le_mul_left _ hd
 rw[Nat.mul_add]at h4
 omega
theorem acZ{l o w':List Nat}{j n V S q:Nat}(tQ:Lt l)(hlen:j+n+1≤l.length)(hd:val (l.drop (j+1))<V)(hV:V≤B^n)(ho:j<o.length)
  (hinv:val (o.drop (j+1))*V*B^(j+1)+val l=S) (hq:q=val ((l.drop j).take (n+1))/V) (hw:val w'=val ((l.drop j).take (n+1))%V) (oZ:w'.length=n+1):
  val ((o.set j q).drop j)*V*B^j+val (l.take j++w'++l.drop (j+n+1))=S∧val ((l.take j++w'++l.drop (j+n+1)).drop j)<V:=by
 obtain⟨h0,h1,h2⟩:=TA tQ hlen hd hV
 have e1:=Eu l (k:=j) (by omega)
 have e2:val (w'++l.drop (j+n+1))=val w':=by rw[MR,h0,Nat.mul_zero,Nat.add_zero]
 have e3:val (l.take j++w'++l.drop (j+n+1))=val (l.take j)+B^j*val w':=by
  rw[List.append_assoc,MR,e2,List.length_take,Nat.min_eq_left (by omega)]
 have e4:=Nat.div_add_mod (val ((l.drop j).take (n+1))) V
 rw[←hq,←hw]at e4
 refine⟨?_,?_⟩
 ·rw[set_drop ho,jy,e3]
  rw[h1,←e4]at e1
  have e5:(q+B*val (o.drop (j+1)))*V*B^j=B^j*(V*q)+val (o.drop (j+1))*V*B^(j+1):=by
   rw[Nat.add_mul,Nat.add_mul,Nat.pow_succ,Nat.mul_comm q V,Nat.mul_comm (V*q),Nat.mul_assoc B,Nat.mul_comm (B^j) B,Nat.mul_left_comm _ B,Nat.mul_assoc B]
  rw[Nat.mul_add]at e1
  omega
 ·rw[List.append_assoc,List.drop_append_of_le_length (by simp;omega),List.drop_of_length_le (by rw[List.length_take];omega),List.nil_append,e2,hw]
  exact Nat.mod_lt _ (by omega)
theorem ac0{l:List Nat}{x sc n m y:Nat}(hm:m≤l.length)(hl:val l=x*sc)(hx:x<B^(m+(n-1)))(hy:B^(n-1)≤y)(hs:0<sc):val (l.drop m)<y*sc:=by
 have h1:=Eu l hm
 have h2:B^m*val (l.drop m)<B^m*(y*sc):=by
  have a1:x*sc<B^(m+(n-1))*sc:=Nat.mul_lt_mul_of_pos_right hx hs
  have a2:B^(m+(n-1))*sc≤B^m*(y*sc):=by
   rw[Nat.pow_add,Nat.mul_assoc]
   exact Nat.mul_le_mul_left _ (Nat.mul_le_mul_right _ hy)
  omega
 exact Nat.lt_of_mul_lt_mul_left h2
theorem ac1{Q R x y sc:Nat}(h:Q*(y*sc)+R=x*sc)(hR:R<y*sc)(hs:0<sc):Q=x/y∧R/sc=x%y:=by
 have h1:x*sc/(y*sc)=Q:=by
  rw[←h,Nat.mul_comm Q,Nat.mul_add_div (by omega),Nat.div_eq_of_lt hR,Nat.add_zero]
 have h2:x*sc%(y*sc)=R:=by
  rw[←h,Nat.mul_comm Q,Nat.mul_add_mod,Nat.mod_eq_of_lt hR]
 rw[Nat.mul_div_mul_right _ _ hs]at h1
 rw[Nat.mul_mod_mul_right]at h2
 exact⟨h1.symm,by rw[←h2,Nat.mul_div_cancel _ hs]⟩
end Num
