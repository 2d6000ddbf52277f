/- Part 2 of the proof: Ty, Num, Dat, Nat1, Nat2, Nat3, Nat4, Nat5, Nat6, Nat7, Nat8, Knu. -/
import Derived.Test.YtfjncmjbhfdnpaaGreatA01
import Derived.Test.YtfjncmjbhfdnpaaGreatProg
import Derived.KernelRfl
set_option linter.unusedVariables false
namespace Go.aw
open Go.Proofs
def tb:Tb:=[
 .no,.no,.it .i64,.it .i64,.ce,.it .u8,.it .u8,.st 4 [(0,1),(1,1),(2,1),(3,1)],
 .no,.no,.no,.no,.it .u64,.st 2 [(0,1),(1,1)],.no,.ce,
 .ce,.ce,.st 1 [(0,1)],.no,.no,.it .i32,.sl 4 1,.sl 78 5,
 .st 2 [(0,1),(1,1)],.st 2 [(0,1),(1,1)],.sl 31 3,.no,.no,.sl 121 1,.st 3 [(0,1),(1,1),(2,1)],.st 3 [(0,1),(1,1),(2,1)],
 .st 7 [(0,1),(1,3),(4,1),(5,1),(6,1)],.st 7 [(0,1),(1,3),(4,1),(5,1),(6,1)],.it .i64,.no,.no,.no,.no,.no,
 .sl 26 1,.no,.st 5 [(0,1),(1,1),(2,1),(3,1),(4,1)],.st 5 [(0,1),(1,1),(2,1),(3,1),(4,1)],.no,.no,.no,.no,
 .no,.it .i8,.no,.no,.no,.no,.no,.no,
 .no,.no,.no,.no,.no,.no,.no,.sl 66 2,
 .sl 131 2,.st 2 [(0,1),(1,1)],.st 2 [(0,1),(1,1)],.no,.no,.no,.no,.no,
 .no,.no,.no,.no,.no,.st 5 [(0,1),(1,1),(2,3)],.st 5 [(0,1),(1,1),(2,3)],.no,
 .no,.no,.ce,.no,.no,.sl 90 3,.no,.no,
 .ce,.st 3 [(0,1),(1,1),(2,1)],.st 3 [(0,1),(1,1),(2,1)],.no,.no,.no,.sl 3 1,.sl 85 1,
 .st 9 [(0,1),(1,1),(2,1),(3,1),(4,1),(5,1),(6,1),(7,1),(8,1)],.st 9 [(0,1),(1,1),(2,1),(3,1),(4,1),(5,1),(6,1),(7,1),(8,1)],.no,.no,.no,.no,.st 2 [(0,1),(1,1)],.st 2 [(0,1),(1,1)],
 .no,.no,.no,.no,.no,.no,.no,.no,
 .no,.no,.no,.no,.no,.no,.no,.no,
 .it .u64,.it .u32,.no,.no,.no,.no,.no,.no,
 .no,.no,.st 2 [(0,1),(1,1)],.st 2 [(0,1),(1,1)],.no,.no,.no,.no,
 .no,.no,.no,.no,.no,.no,.no,.no,
 .no,.no,.sl 2 1,.no,.no,.no,.no,.no,
 .no,.no,.no,.no,.no,.ce,.sl 161 1,.st 3 [(0,1),(1,1),(2,1)],
 .st 3 [(0,1),(1,1),(2,1)],.sl 163 2,.st 2 [(0,1),(1,1)],.st 2 [(0,1),(1,1)],.no,.no,.no,.no,
 .no,.no,.no,.no,.no,.no,.no,.no,
 .no,.sl 121 1,.st 3 [(0,1),(1,1),(2,1)],.st 3 [(0,1),(1,1),(2,1)],.no,.no,.no,.no,
 .no,.no,.no,.no,.no,.no,.no,.no,
 .no,.no,.no,.no,.no,.no,.no,.no,
 .no,.no,.no,.no,.no,.no,.no,.no,
 .no,.no,.no,.no,.no,.it .u64,.no,.no,
 .no,.no,.no,.it .i64,.no,.no,.no,.no,
 .no,.no,.no,.no,.no,.no,.no,.no,
 .no,.no,.no,.it .u64,.no,.no,.no,.ce,
 .no,.ce,.no,.no,.no,.st 4 [(0,1),(1,1),(2,1),(3,1)]]
def Ga(P:Program):Nat→Tb→Prop
 | _,[]=>True
 | k,x::r=>cB P k x∧Ga P (k+1) r
theorem Ga.out{P:Program}:∀(r:Tb)(k:Nat),Ga P k r→∀(t:Nat)(x:Ti),r[t]? = some x→cB P (k+t) x:=by
 intro r
 induction r with
 | nil=>intro k _ t x h;simp at h
 | cons y r ih=>
  intro k h t x hx
  cases t with
  | zero=>simp only[List.getElem?_cons_zero,Option.some.injEq]at hx;subst hx;exact h.1
  | succ t=>have:=ih (k+1) h.2 t x (by simpa using hx);rwa [show k+(t+1)=k+1+t by omega]
theorem pZ{P:Program}{t e sz:Nat}(hu:P.underlying t=some (.slice e))(h:(P.info? e).map (·.size)=some sz):cB P t (.sl e sz):=by
 refine⟨hu,?_⟩
 cases hi:P.info? e with
 | none=>rw[hi]at h;cases h
 | some i=>rw[hi]at h;exact⟨i,rfl,by simpa using h⟩
theorem qH{P:Program}{t:Nat}{k:IntKind}(hu:P.underlying t=some (.int k)):cB P t (.it k):=hu
theorem wo{P:Program}{t:Nat}{d:TypeDesc}(hu:P.underlying t=some d)(h:(match d with | .struct _ | .array .. =>false | _=>true)=true):cB P t .ce:=
 ⟨d,hu,(fun _ e=>by subst e;cases h),(fun _ _ e=>by subst e;cases h)⟩
def Kv(P:Program)(fs:List Field)(ps:List (Nat×Nat)):Bool:=
 match fs,ps with
 | [],[]=>true
 | f::fs,p::ps=>Nat.beq f.offset p.1&&(match P.info? f.type with | some j=>Nat.beq j.size p.2 | none=>false) && !Nat.beq p.2 0&&Kv P fs ps
 | _,_=>false
theorem ada{P:Program}:∀(fs:List Field)(ps:List (Nat×Nat)),Kv P fs ps=true→fs.length=ps.length∧∀(f:Nat)(p:Nat×Nat),ps[f]? = some p→∃fd j,fs[f]? = some fd∧fd.offset=p.1∧P.info? fd.type=some j∧j.size=p.2∧p.2≠0:=by
 intro fs
 induction fs with
 | nil=>intro ps h;cases ps with
  | nil=>exact⟨rfl,fun f p hp=>by simp at hp⟩
  | cons p ps=>cases h
 | cons fd fs ih=>intro ps h;cases ps with
  | nil=>cases h
  | cons p ps=>
   simp only[Kv,Bool.and_eq_true]at h
   obtain⟨⟨⟨h1,h2⟩,h3⟩,h4⟩:=h
   obtain⟨h5,h6⟩:=ih ps h4
   refine⟨by simp[h5],fun f q hq=> ?_⟩
   cases f with
   | zero=>
    simp only[List.getElem?_cons_zero,Option.some.injEq]at hq
    subst hq
    cases hj:P.info? fd.type with
    | none=>rw[hj]at h2;cases h2
    | some j=>
     rw[hj]at h2
     exact⟨fd,j,rfl,Nat.eq_of_beq_eq_true h1,hj,Nat.eq_of_beq_eq_true h2,fun e=>by rw[e]at h3;cases h3⟩
   | succ f=>obtain⟨fd',j,h7⟩:=h6 f q (by simpa using hq);exact⟨fd',j,by simpa using h7⟩
theorem iB{P:Program}{t n:Nat}{fs:List Field}{ps:List (Nat×Nat)}(hu:P.underlying t=some (.struct fs.toArray))(h:(P.info? t).map (·.size)=some n)(hf:Kv P fs ps=true):cB P t (.st n ps):=by
 cases hi:P.info? t with
 | none=>rw[hi]at h;cases h
 | some i=>
  obtain⟨h1,h2⟩:=ada fs ps hf
  rw[hi]at h
  exact⟨fs.toArray,i,hu,hi,by simpa using h,by simpa using h1,fun f p hp=>by obtain⟨fd,j,h3⟩:=h2 f p hp;exact⟨fd,j,by simpa using h3⟩⟩
theorem j5{P:Program}{e sz bytes:Nat}{z:Value}(h:(P.info? e).map (fun i=>(i.zero,i.size,i.bytes))=some (some z,sz,bytes))(hz:z.cells.size=sz)(hp:0<sz):fX P e sz z bytes:=by
 cases hi:P.info? e with
 | none=>rw[hi]at h;cases h
 | some i=>
  rw[hi]at h
  simp only[Option.map_some,Option.some.injEq,Prod.mk.injEq]at h
  exact⟨i,hi,h.1,h.2.1,h.2.2,hz,hp⟩
theorem ti2:cB Tryz.prog 2 (.it .i64):=qH Tryz.underlying2
theorem ti3:cB Tryz.prog 3 (.it .i64):=qH Tryz.underlying3
theorem ti4:cB Tryz.prog 4 (.ce):=wo Tryz.underlying4 rfl
theorem ti5:cB Tryz.prog 5 (.it .u8):=qH Tryz.underlying5
theorem Vw:cB Tryz.prog 6 (.it .u8):=qH Tryz.underlying6
theorem ti7:cB Tryz.prog 7 (.st 4 [(0,1),(1,1),(2,1),(3,1)]):=iB Tryz.underlying7 (by kernel_rfl) (by kernel_rfl)
theorem adb:cB Tryz.prog 12 (.it .u64):=qH Tryz.underlying12
theorem ade:cB Tryz.prog 13 (.st 2 [(0,1),(1,1)]):=iB Tryz.underlying13 (by kernel_rfl) (by kernel_rfl)
theorem adf:cB Tryz.prog 15 (.ce):=wo Tryz.underlying15 rfl
theorem adg:cB Tryz.prog 16 (.ce):=wo Tryz.underlying16 rfl
theorem adh:cB Tryz.prog 17 (.ce):=wo Tryz.underlying17 rfl
theorem adi:cB Tryz.prog 18 (.st 1 [(0,1)]):=iB Tryz.underlying18 (by kernel_rfl) (by kernel_rfl)
theorem OP:cB Tryz.prog 21 (.it .i32):=qH Tryz.underlying21
theorem adj:cB Tryz.prog 22 (.sl 4 1):=pZ Tryz.underlying22 (by kernel_rfl)
theorem Vx:cB Tryz.prog 23 (.sl 78 5):=pZ Tryz.underlying23 (by kernel_rfl)
theorem adk:cB Tryz.prog 24 (.st 2 [(0,1),(1,1)]):=iB Tryz.underlying24 (by kernel_rfl) (by kernel_rfl)
theorem adl:cB Tryz.prog 25 (.st 2 [(0,1),(1,1)]):=iB Tryz.underlying25 (by kernel_rfl) (by kernel_rfl)
theorem adm:cB Tryz.prog 26 (.sl 31 3):=pZ Tryz.underlying26 (by kernel_rfl)
theorem Kw:cB Tryz.prog 29 (.sl 121 1):=pZ Tryz.underlying29 (by kernel_rfl)
theorem adn:cB Tryz.prog 30 (.st 3 [(0,1),(1,1),(2,1)]):=iB Tryz.underlying30 (by kernel_rfl) (by kernel_rfl)
theorem ado:cB Tryz.prog 31 (.st 3 [(0,1),(1,1),(2,1)]):=iB Tryz.underlying31 (by kernel_rfl) (by kernel_rfl)
theorem adp:cB Tryz.prog 32 (.st 7 [(0,1),(1,3),(4,1),(5,1),(6,1)]):=iB Tryz.underlying32 (by kernel_rfl) (by kernel_rfl)
theorem adq:cB Tryz.prog 33 (.st 7 [(0,1),(1,3),(4,1),(5,1),(6,1)]):=iB Tryz.underlying33 (by kernel_rfl) (by kernel_rfl)
theorem Vy:cB Tryz.prog 34 (.it .i64):=qH Tryz.underlying34
theorem adr:cB Tryz.prog 40 (.sl 26 1):=pZ Tryz.underlying40 (by kernel_rfl)
theorem ads:cB Tryz.prog 42 (.st 5 [(0,1),(1,1),(2,1),(3,1),(4,1)]):=iB Tryz.underlying42 (by kernel_rfl) (by kernel_rfl)
theorem adt:cB Tryz.prog 43 (.st 5 [(0,1),(1,1),(2,1),(3,1),(4,1)]):=iB Tryz.underlying43 (by kernel_rfl) (by kernel_rfl)
theorem adu:cB Tryz.prog 49 (.it .i8):=qH Tryz.underlying49
theorem adv:cB Tryz.prog 63 (.sl 66 2):=pZ Tryz.underlying63 (by kernel_rfl)
theorem adw:cB Tryz.prog 64 (.sl 131 2):=pZ Tryz.underlying64 (by kernel_rfl)
theorem adx:cB Tryz.prog 65 (.st 2 [(0,1),(1,1)]):=iB Tryz.underlying65 (by kernel_rfl) (by kernel_rfl)
theorem ady:cB Tryz.prog 66 (.st 2 [(0,1),(1,1)]):=iB Tryz.underlying66 (by kernel_rfl) (by kernel_rfl)
theorem adz:cB Tryz.prog 77 (.st 5 [(0,1),(1,1),(2,3)]):=iB Tryz.underlying77 (by kernel_rfl) (by kernel_rfl)
theorem adA:cB Tryz.prog 78 (.st 5 [(0,1),(1,1),(2,3)]):=iB Tryz.underlying78 (by kernel_rfl) (by kernel_rfl)
theorem adB:cB Tryz.prog 82 (.ce):=wo Tryz.underlying82 rfl
theorem adC:cB Tryz.prog 85 (.sl 90 3):=pZ Tryz.underlying85 (by kernel_rfl)
theorem adD:cB Tryz.prog 88 (.ce):=wo Tryz.underlying88 rfl
theorem adE:cB Tryz.prog 89 (.st 3 [(0,1),(1,1),(2,1)]):=iB Tryz.underlying89 (by kernel_rfl) (by kernel_rfl)
theorem adF:cB Tryz.prog 90 (.st 3 [(0,1),(1,1),(2,1)]):=iB Tryz.underlying90 (by kernel_rfl) (by kernel_rfl)
theorem adG:cB Tryz.prog 94 (.sl 3 1):=pZ Tryz.underlying94 (by kernel_rfl)
theorem adH:cB Tryz.prog 95 (.sl 85 1):=pZ Tryz.underlying95 (by kernel_rfl)
theorem adI:cB Tryz.prog 96 (.st 9 [(0,1),(1,1),(2,1),(3,1),(4,1),(5,1),(6,1),(7,1),(8,1)]):=iB Tryz.underlying96 (by kernel_rfl) (by kernel_rfl)
theorem adJ:cB Tryz.prog 97 (.st 9 [(0,1),(1,1),(2,1),(3,1),(4,1),(5,1),(6,1),(7,1),(8,1)]):=iB Tryz.underlying97 (by kernel_rfl) (by kernel_rfl)
theorem adK:cB Tryz.prog 102 (.st 2 [(0,1),(1,1)]):=iB Tryz.underlying102 (by kernel_rfl) (by kernel_rfl)
theorem adL:cB Tryz.prog 103 (.st 2 [(0,1),(1,1)]):=iB Tryz.underlying103 (by kernel_rfl) (by kernel_rfl)
theorem adM:cB Tryz.prog 120 (.it .u64):=qH Tryz.underlying120
theorem adN:cB Tryz.prog 121 (.it .u32):=qH Tryz.underlying121
theorem adO:cB Tryz.prog 130 (.st 2 [(0,1),(1,1)]):=iB Tryz.underlying130 (by kernel_rfl) (by kernel_rfl)
theorem adP:cB Tryz.prog 131 (.st 2 [(0,1),(1,1)]):=iB Tryz.underlying131 (by kernel_rfl) (by kernel_rfl)
theorem adQ:cB Tryz.prog 146 (.sl 2 1):=pZ Tryz.underlying146 (by kernel_rfl)
theorem adR:cB Tryz.prog 157 (.ce):=wo Tryz.underlying157 rfl
theorem adS:cB Tryz.prog 158 (.sl 161 1):=pZ Tryz.underlying158 (by kernel_rfl)
theorem adT:cB Tryz.prog 159 (.st 3 [(0,1),(1,1),(2,1)]):=iB Tryz.underlying159 (by kernel_rfl) (by kernel_rfl)
theorem adU:cB Tryz.prog 160 (.st 3 [(0,1),(1,1),(2,1)]):=iB Tryz.underlying160 (by kernel_rfl) (by kernel_rfl)
theorem adV:cB Tryz.prog 161 (.sl 163 2):=pZ Tryz.underlying161 (by kernel_rfl)
theorem adW:cB Tryz.prog 162 (.st 2 [(0,1),(1,1)]):=iB Tryz.underlying162 (by kernel_rfl) (by kernel_rfl)
theorem adX:cB Tryz.prog 163 (.st 2 [(0,1),(1,1)]):=iB Tryz.underlying163 (by kernel_rfl) (by kernel_rfl)
theorem adY:cB Tryz.prog 177 (.sl 121 1):=pZ Tryz.underlying177 (by kernel_rfl)
theorem adZ:cB Tryz.prog 178 (.st 3 [(0,1),(1,1),(2,1)]):=iB Tryz.underlying178 (by kernel_rfl) (by kernel_rfl)
theorem ad0:cB Tryz.prog 179 (.st 3 [(0,1),(1,1),(2,1)]):=iB Tryz.underlying179 (by kernel_rfl) (by kernel_rfl)
theorem ad1:cB Tryz.prog 213 (.it .u64):=qH Tryz.underlying213
theorem ad2:cB Tryz.prog 219 (.it .i64):=qH Tryz.underlying219
theorem ad3:cB Tryz.prog 235 (.it .u64):=qH Tryz.underlying235
theorem ad4:cB Tryz.prog 239 (.ce):=wo Tryz.underlying239 rfl
theorem ad5:cB Tryz.prog 241 (.ce):=wo Tryz.underlying241 rfl
theorem ad6:cB Tryz.prog 245 (.st 4 [(0,1),(1,1),(2,1),(3,1)]):=iB Tryz.underlying245 (by kernel_rfl) (by kernel_rfl)
set_option maxRecDepth 10000 in
theorem ad7:Ga Tryz.prog 0 tb:=⟨trivial,trivial,ti2,ti3,ti4,ti5,Vw,ti7,trivial,trivial,trivial,trivial,adb,ade,trivial,adf,adg,adh,adi,trivial,trivial,OP,adj,Vx,adk,adl,adm,trivial,trivial,Kw,adn,ado,adp,adq,Vy,trivial,trivial,trivial,trivial,trivial,adr,trivial,ads,adt,trivial,trivial,trivial,trivial,trivial,adu,trivial,trivial,trivial,trivial,trivial,trivial,trivial,trivial,trivial,trivial,trivial,trivial,trivial,adv,adw,adx,ady,trivial,trivial,trivial,trivial,trivial,trivial,trivial,trivial,trivial,trivial,adz,adA,trivial,trivial,trivial,adB,trivial,trivial,adC,trivial,trivial,adD,adE,adF,trivial,trivial,trivial,adG,adH,adI,adJ,trivial,trivial,trivial,trivial,adK,adL,trivial,trivial,trivial,trivial,trivial,trivial,trivial,trivial,trivial,trivial,trivial,trivial,trivial,trivial,trivial,trivial,adM,adN,trivial,trivial,trivial,trivial,trivial,trivial,trivial,trivial,adO,adP,trivial,trivial,trivial,trivial,trivial,trivial,trivial,trivial,trivial,trivial,trivial,trivial,trivial,trivial,adQ,trivial,trivial,trivial,trivial,trivial,trivial,trivial,trivial,trivial,trivial,adR,adS,adT,adU,adV,adW,adX,trivial,trivial,trivial,trivial,trivial,trivial,trivial,trivial,trivial,trivial,trivial,trivial,trivial,adY,adZ,ad0,trivial,trivial,trivial,trivial,trivial,trivial,trivial,trivial,trivial,trivial,trivial,trivial,trivial,trivial,trivial,trivial,trivial,trivial,trivial,trivial,trivial,trivial,trivial,trivial,trivial,trivial,trivial,trivial,trivial,trivial,trivial,trivial,trivial,ad1,trivial,trivial,trivial,trivial,trivial,ad2,trivial,trivial,trivial,trivial,trivial,trivial,trivial,trivial,trivial,trivial,trivial,trivial,trivial,trivial,trivial,ad3,trivial,trivial,trivial,ad4,trivial,ad5,trivial,trivial,trivial,ad6,trivial⟩
theorem ah:jZ Tryz.prog tb:=fun t x h=>by have:=Ga.out tb 0 ad7 t x h;rwa [Nat.zero_add]at this
theorem follows:Tryz.prog.follows .mixedOrders=true:=by kernel_rfl
theorem el2:fX Tryz.prog 2 1 (.int .i64 0) 8:=j5 (by kernel_rfl) rfl (by decide)
theorem oV:∃i,Tryz.prog.info? 2=some i∧i.size=1:=by obtain⟨i,h,_,h2,_⟩:=el2;exact⟨i,h,h2⟩
theorem jl:fX Tryz.prog 3 1 (.int .i64 0) 8:=j5 (by kernel_rfl) rfl (by decide)
theorem p3:∃i,Tryz.prog.info? 3=some i∧i.size=1:=by obtain⟨i,h,_,h2,_⟩:=jl;exact⟨i,h,h2⟩
theorem Gb:fX Tryz.prog 4 1 (.bool false) 1:=j5 (by kernel_rfl) rfl (by decide)
theorem Gc:∃i,Tryz.prog.info? 4=some i∧i.size=1:=by obtain⟨i,h,_,h2,_⟩:=Gb;exact⟨i,h,h2⟩
theorem ad8:fX Tryz.prog 23 1 (.slice none 0 0) 24:=j5 (by kernel_rfl) rfl (by decide)
theorem Gd:∃i,Tryz.prog.info? 23=some i∧i.size=1:=by obtain⟨i,h,_,h2,_⟩:=ad8;exact⟨i,h,h2⟩
theorem p4:fX Tryz.prog 25 2 (.agg #[.slice none 0 0,.slice none 0 0]) 48:=j5 (by kernel_rfl) rfl (by decide)
theorem p5:∃i,Tryz.prog.info? 25=some i∧i.size=2:=by obtain⟨i,h,_,h2,_⟩:=p4;exact⟨i,h,h2⟩
theorem rP:fX Tryz.prog 26 1 (.slice none 0 0) 24:=j5 (by kernel_rfl) rfl (by decide)
theorem Ge:∃i,Tryz.prog.info? 26=some i∧i.size=1:=by obtain⟨i,h,_,h2,_⟩:=rP;exact⟨i,h,h2⟩
theorem bZ:fX Tryz.prog 31 3 (.agg #[.bool false,.slice none 0 0,.slice none 0 0]) 56:=j5 (by kernel_rfl) rfl (by decide)
theorem a6:∃i,Tryz.prog.info? 31=some i∧i.size=3:=by obtain⟨i,h,_,h2,_⟩:=bZ;exact⟨i,h,h2⟩
theorem uV:fX Tryz.prog 33 7 (.agg #[.int .i64 0,.bool false,.slice none 0 0,.slice none 0 0,.slice none 0 0,.slice none 0 0,.slice none 0 0]) 136:=j5 (by kernel_rfl) rfl (by decide)
theorem p6:∃i,Tryz.prog.info? 33=some i∧i.size=7:=by obtain⟨i,h,_,h2,_⟩:=uV;exact⟨i,h,h2⟩
theorem aea:fX Tryz.prog 40 1 (.slice none 0 0) 24:=j5 (by kernel_rfl) rfl (by decide)
theorem Gf:∃i,Tryz.prog.info? 40=some i∧i.size=1:=by obtain⟨i,h,_,h2,_⟩:=aea;exact⟨i,h,h2⟩
theorem uW:fX Tryz.prog 43 5 (.agg #[.int .i64 0,.slice none 0 0,.slice none 0 0,.slice none 0 0,.slice none 0 0]) 104:=j5 (by kernel_rfl) rfl (by decide)
theorem nX:∃i,Tryz.prog.info? 43=some i∧i.size=5:=by obtain⟨i,h,_,h2,_⟩:=uW;exact⟨i,h,h2⟩
theorem gL:fX Tryz.prog 78 5 (.agg #[.slice none 0 0,.int .i64 0,.bool false,.slice none 0 0,.slice none 0 0]) 88:=j5 (by kernel_rfl) rfl (by decide)
theorem nY:∃i,Tryz.prog.info? 78=some i∧i.size=5:=by obtain⟨i,h,_,h2,_⟩:=gL;exact⟨i,h,h2⟩
theorem Vz:fX Tryz.prog 82 1 (.pointer none) 8:=j5 (by kernel_rfl) rfl (by decide)
theorem aeb:∃i,Tryz.prog.info? 82=some i∧i.size=1:=by obtain⟨i,h,_,h2,_⟩:=Vz;exact⟨i,h,h2⟩
theorem OQ:fX Tryz.prog 85 1 (.slice none 0 0) 24:=j5 (by kernel_rfl) rfl (by decide)
theorem Gg:∃i,Tryz.prog.info? 85=some i∧i.size=1:=by obtain⟨i,h,_,h2,_⟩:=OQ;exact⟨i,h,h2⟩
theorem fk:fX Tryz.prog 90 3 (.agg #[.int .i64 0,.int .i64 0,.pointer none]) 24:=j5 (by kernel_rfl) rfl (by decide)
theorem cJ:∃i,Tryz.prog.info? 90=some i∧i.size=3:=by obtain⟨i,h,_,h2,_⟩:=fk;exact⟨i,h,h2⟩
theorem aec:fX Tryz.prog 94 1 (.slice none 0 0) 24:=j5 (by kernel_rfl) rfl (by decide)
theorem uX:∃i,Tryz.prog.info? 94=some i∧i.size=1:=by obtain⟨i,h,_,h2,_⟩:=aec;exact⟨i,h,h2⟩
theorem aed:fX Tryz.prog 95 1 (.slice none 0 0) 24:=j5 (by kernel_rfl) rfl (by decide)
theorem aee:∃i,Tryz.prog.info? 95=some i∧i.size=1:=by obtain⟨i,h,_,h2,_⟩:=aed;exact⟨i,h,h2⟩
theorem aef:fX Tryz.prog 97 9 (.agg #[.int .i64 0,.int .i64 0,.slice none 0 0,.slice none 0 0,.slice none 0 0,.slice none 0 0,.slice none 0 0,.slice none 0 0,.slice none 0 0]) 184:=j5 (by kernel_rfl) rfl (by decide)
theorem Kx:fX Tryz.prog 103 2 (.agg #[.slice none 0 0,.slice none 0 0]) 48:=j5 (by kernel_rfl) rfl (by decide)
theorem OR:∃i,Tryz.prog.info? 103=some i∧i.size=2:=by obtain⟨i,h,_,h2,_⟩:=Kx;exact⟨i,h,h2⟩
theorem eG:fX Tryz.prog 121 1 (.int .u32 0) 4:=j5 (by kernel_rfl) rfl (by decide)
theorem oW:∃i,Tryz.prog.info? 121=some i∧i.size=1:=by obtain⟨i,h,_,h2,_⟩:=eG;exact⟨i,h,h2⟩
theorem aeg:fX Tryz.prog 158 1 (.slice none 0 0) 24:=j5 (by kernel_rfl) rfl (by decide)
theorem Ky:∃i,Tryz.prog.info? 158=some i∧i.size=1:=by obtain⟨i,h,_,h2,_⟩:=aeg;exact⟨i,h,h2⟩
theorem aeh:fX Tryz.prog 160 3 (.agg #[.slice none 0 0,.slice none 0 0,.bool false]) 56:=j5 (by kernel_rfl) rfl (by decide)
theorem Dm:fX Tryz.prog 161 1 (.slice none 0 0) 24:=j5 (by kernel_rfl) rfl (by decide)
theorem fP:fX Tryz.prog 163 2 (.agg #[.int .i64 0,.int .i64 0]) 16:=j5 (by kernel_rfl) rfl (by decide)
theorem eE:∃i,Tryz.prog.info? 163=some i∧i.size=2:=by obtain⟨i,h,_,h2,_⟩:=fP;exact⟨i,h,h2⟩
theorem kr:fX Tryz.prog 179 3 (.agg #[.bool false,.slice none 0 0,.slice none 0 0]) 56:=j5 (by kernel_rfl) rfl (by decide)
theorem jm:∃i,Tryz.prog.info? 179=some i∧i.size=3:=by obtain⟨i,h,_,h2,_⟩:=kr;exact⟨i,h,h2⟩
end Go.aw
namespace Num
def B:Nat:=1000000000
theorem nt:0<B:=by decide
theorem cn:B=1000000000:=rfl
def val:List Nat→Nat
 | []=>0
 | x::xs=>x+B*val xs
theorem jA(x:Nat)(xs:List Nat):val (x::xs)=x+B*val xs:=rfl
theorem VA(xs ys:List Nat):val (xs++ys)=val xs+B^xs.length*val ys:=by
 induction xs with
 | nil=>simp[val]
 | cons x xs ih=>rw[List.cons_append,jA,jA,ih,List.length_cons,Nat.pow_succ];grind
theorem rQ(xs:List Nat)(y:Nat):val (xs ++ [y])=val xs+B^xs.length*y:=by
 rw[VA];simp[val]
def Lt(l:List Nat):Prop:=∀x,x∈l→x<B
theorem Lt.nil:Lt []:=fun x h=>by cases h
theorem Lt.append{a b:List Nat}(ha:Lt a)(hb:Lt b):Lt (a++b):=fun x h=>by
 rcases List.mem_append.1 h with h | h
 ·exact ha x h
 ·exact hb x h
theorem Lt.snoc{a:List Nat}{y:Nat}(ha:Lt a)(hy:y<B):Lt (a ++ [y]):=ha.append (fun x h=>by simp at h;omega)
theorem Lt.take{a:List Nat}(ha:Lt a)(k:Nat):Lt (a.take k):=fun x h=>ha x (List.mem_of_mem_take h)
theorem Lt.drop{a:List Nat}(ha:Lt a)(k:Nat):Lt (a.drop k):=fun x h=>ha x (List.mem_of_mem_drop h)
theorem Lt.get{a:List Nat}(ha:Lt a){i y:Nat}(h:a[i]? = some y):y<B:=ha y (List.mem_of_getElem? h)
theorem uY{l:List Nat}(h:Lt l):val l<B^l.length:=by
 induction l with
 | nil=>simp[val]
 | cons x l ih=>
  have h1:=h x (List.mem_cons_self ..)
  have h2:=ih (fun y hy=>h y (List.mem_cons_of_mem _ hy))
  rw[jA,List.length_cons,Nat.pow_succ]
  have h3:B*(val l+1)≤B*B^l.length:=Nat.mul_le_mul_left _ h2
  rw[Nat.mul_add,Nat.mul_one]at h3
  rw[Nat.mul_comm (B^l.length)];omega
theorem kY{l:List Nat}{i x:Nat}(h:l[i]? = some x):val (l.take (i+1))=val (l.take i)+B^i*x:=by
 have hi:i<l.length:=(List.getElem?_eq_some_iff.1 h).1
 have hx:l[i]=x:=(List.getElem?_eq_some_iff.1 h).2
 rw[List.take_succ_eq_append_getElem hi,hx,rQ,List.length_take,Nat.min_eq_left (by omega)]
structure rR(l:List Nat):Prop where
 lt:Lt l
 last:∀x,l.getLast?=some x→x≠0
theorem rR.nil:rR []:=⟨Lt.nil,fun x h=>by simp at h⟩
def yK:Nat→Nat→List Nat
 | 0,_=>[]
 | f+1,n=>if n=0 then []else(n%B)::yK f (n/B)
def ao(n:Nat):List Nat:=yK n n
theorem aei(f:Nat):∀g n,n≤f→n≤g→yK f n=yK g n:=by
 induction f with
 | zero=>intro g n h _;obtain rfl:n=0:=by omega
         cases g <;> simp[yK]
 | succ f ih=>
  intro g n h hg
  cases g with
  | zero=>obtain rfl:n=0:=by omega
          simp[yK]
  | succ g=>
   simp only[yK]
   split
   ·rfl
   ·rename_i hn
    have:n/B<n:=Nat.div_lt_self (by omega) (by decide)
    rw[ih g (n/B) (by omega) (by omega)]
theorem qI:ao 0 = []:=rfl
theorem yL{n:Nat}(h:0<n):ao n=(n%B)::ao (n/B):=by
 unfold ao
 obtain⟨m,rfl⟩:∃m,n=m+1:=⟨n-1,by omega⟩
 rw[yK,if_neg (by omega)]
 have:(m+1)/B<m+1:=Nat.div_lt_self (by omega) (by decide)
 rw[aei m ((m+1)/B) ((m+1)/B) (by omega) (Nat.le_refl _)]
theorem cS(n:Nat):val (ao n)=n:=by
 induction n using Nat.strongRecOn with
 | _ n ih=>
  rcases Nat.eq_zero_or_pos n with h | h
  ·subst h;rfl
  ·rw[yL h,jA,ih (n/B) (Nat.div_lt_self h (by decide))]
   exact Nat.mod_add_div n B
theorem VB{n:Nat}(h:0<n):ao n≠[]:=by rw[yL h];simp
theorem fQ(n:Nat):rR (ao n):=by
 induction n using Nat.strongRecOn with
 | _ n ih=>
  rcases Nat.eq_zero_or_pos n with h | h
  ·subst h;exact rR.nil
  ·have uZ:=ih (n/B) (Nat.div_lt_self h (by decide))
   rw[yL h]
   refine⟨fun x hx=> ?_,fun x hx=> ?_⟩
   ·rcases List.mem_cons.1 hx with e | e
    ·rw[e];exact Nat.mod_lt _ nt
    ·exact uZ.lt x e
   ·rcases Nat.eq_zero_or_pos (n/B)with h0 | h0
    ·rw[h0,qI]at hx
     simp at hx
     have:=Nat.mod_add_div n B
     rw[h0]at this
     omega
    ·cases hl:ao (n/B)with
     | nil=>exact absurd hl (VB h0)
     | cons y ys=>
      rw[hl,List.getLast?_cons_cons,←hl]at hx
      exact uZ.last x hx
theorem rR.pos{l:List Nat}(h:rR l)(hl:l≠[]):B^(l.length-1)≤val l:=by
 have e:l=l.dropLast ++ [l.getLast hl]:=(List.dropLast_concat_getLast hl).symm
 have hx:=h.last (l.getLast hl) (List.getLast?_eq_some_getLast hl)
 rw[e,rQ]
 simp only[List.length_append,List.length_dropLast,List.length_singleton]
 have:B^(l.length-1)*1≤B^(l.length-1)*l.getLast hl:=Nat.mul_le_mul_left _ (by omega)
 rw[Nat.mul_one]at this
 have e2:l.length-1+1-1=l.length-1:=by omega
 rw[e2];omega
theorem aej{l:List Nat}(h:Lt l)(hp:l = []∨B^(l.length-1)≤val l):rR l:=by
 refine⟨h,fun x hx h0=> ?_⟩
 subst h0
 have hl:l≠[]:=fun e=>by subst e;simp at hx
 rcases hp with e | hp
 ·exact hl e
 ·have e:l=l.dropLast ++ [0]:=by
   have:=(List.dropLast_concat_getLast hl).symm
   rw[List.getLast?_eq_some_getLast hl]at hx
   simp only[Option.some.injEq]at hx
   rw[hx]at this
   exact this
  have hv:val l=val l.dropLast:=by
   have:=rQ l.dropLast 0
   rw[←e,Nat.mul_zero]at this;omega
  have bL:=uY (l:=l.dropLast) (fun x hx=>h x ((List.dropLast_sublist l).subset hx))
  rw[List.length_dropLast]at bL
  omega
theorem VD{l:List Nat}(h:rR l):ao (val l)=l:=by
 induction l with
 | nil=>rfl
 | cons x l ih=>
  have hx:x<B:=h.lt x (List.mem_cons_self ..)
  have hp:0<val (x::l):=by
   have:=h.pos (by simp)
   have h2:0<B^((x::l).length-1):=Nat.pow_pos nt
   omega
  rw[yL hp,jA]
  have h1:(x+B*val l)%B=x:=by rw[Nat.add_mul_mod_self_left];exact Nat.mod_eq_of_lt hx
  have h2:(x+B*val l)/B=val l:=by rw[Nat.add_mul_div_left _ _ nt,Nat.div_eq_of_lt hx,Nat.zero_add]
  rw[h1,h2]
  rw[ih ⟨fun y hy=>h.lt y (List.mem_cons_of_mem _ hy),fun y hy=>h.last y (by
   cases l with
   | nil=>simp at hy
   | cons z zs=>rw[List.getLast?_cons_cons];exact hy)⟩]
theorem aek{l:List Nat}{n:Nat}(h:rR l)(hv:val l=n):l=ao n:=by rw[←hv,VD h]
theorem Dn(n:Nat):n<B^(ao n).length:=by
 have:=uY (fQ n).lt
 rwa [cS]at this
theorem jn{n k:Nat}:(ao n).length≤k↔n<B^k:=by
 constructor
 ·intro h
  exact Nat.lt_of_lt_of_le (Dn n) (Nat.pow_le_pow_right nt h)
 ·intro h
  rcases Nat.eq_zero_or_pos n with h0 | h0
  ·subst h0;simp[qI]
  ·have hp:=(fQ n).pos (VB h0)
   rw[cS]at hp
   have:(ao n).length-1<k:=(Nat.pow_lt_pow_iff_right (by decide:1<B)).1 (Nat.lt_of_le_of_lt hp h)
   omega
theorem mH{m n:Nat}(h:m≤n):(ao m).length≤(ao n).length:=jn.2 (Nat.lt_of_le_of_lt h (Dn n))
theorem ael{n:Nat}:ao n = []↔n=0:=by
 constructor
 ·intro h
  have:=cS n
  rw[h]at this;exact this.symm
 ·intro h;subst h;rfl
theorem j6{n:Nat}:(ao n).length=0↔n=0:=by rw[List.length_eq_zero_iff,ael]
end Num
namespace Num
theorem Kz{a:List Nat}{i p:Nat}(h:a[i]? = some p):val a=val (a.take i)+B^i*(p+B*val (a.drop (i+1))):=by
 have hi:=(List.getElem?_eq_some_iff.1 h).1
 have hp:=(List.getElem?_eq_some_iff.1 h).2
 have e:a=a.take i++a.drop i:=(List.take_append_drop i a).symm
 have e2:a.drop i=p::a.drop (i+1):=by rw[List.drop_eq_getElem_cons hi,hp]
 conv=>lhs;rw[e,e2,VA,jA,List.length_take,Nat.min_eq_left (by omega)]
theorem KA{a b:List Nat}{i p q:Nat}(ha:Lt a)(h1:a[i]? = some p)(h2:b[i]? = some q)(hd:a.drop (i+1)=b.drop (i+1))(nu:p<q):val a<val b:=by
 rw[Kz h1,Kz h2,hd]
 have hi:=(List.getElem?_eq_some_iff.1 h1).1
 have h3:=uY (ha.take i)
 rw[List.length_take,Nat.min_eq_left (by omega)]at h3
 have h4:B^i*(p+1+B*val (b.drop (i+1)))≤B^i*(q+B*val (b.drop (i+1))):=Nat.mul_le_mul_left _ (by omega)
 rw[show p+1+B*val (b.drop (i+1))=p+B*val (b.drop (i+1))+1 by omega,Nat.mul_add,Nat.mul_one]at h4
 omega
def kJ(x y:Nat):Int:=if x<y then -1 else if x=y then 0 else 1
theorem KB{x y:Nat}(h:x<y):kJ x y = -1:=by simp[kJ,h]
theorem KC{x y:Nat}(h:y<x):kJ x y=1:=by simp[kJ];omega
theorem VE(x:Nat):kJ x x=0:=by simp[kJ]
theorem KD{x y:Nat}(h:(ao x).length<(ao y).length):x<y:=by
 rcases Nat.lt_or_ge x y with h1 | h1
 ·exact h1
 ·have:=mH h1;omega
theorem VF{a b:List Nat}{k p:Nat}(hk:0<k)(h1:a[k-1]? = some p)(h2:b[k-1]? = some p)(hd:a.drop k=b.drop k):a.drop (k-1)=b.drop (k-1):=by
 have e1:=List.drop_eq_getElem_cons (List.getElem?_eq_some_iff.1 h1).1
 have e2:=List.drop_eq_getElem_cons (List.getElem?_eq_some_iff.1 h2).1
 rw[(List.getElem?_eq_some_iff.1 h1).2,show k-1+1=k by omega]at e1
 rw[(List.getElem?_eq_some_iff.1 h2).2,show k-1+1=k by omega]at e2
 rw[e1,e2,hd]
end Num
namespace Num
theorem yM(l:List Nat)(k:Nat):val (l.take (k+1))=val (l.take k)+B^k*(l[k]?.getD 0):=by
 cases h:l[k]? with
 | some x=>simpa using kY h
 | none=>
  have:l.length≤k:=by simpa using h
  rw[List.take_of_length_le (by omega),List.take_of_length_le this];simp
theorem Dp{o:List Nat}{k a b s t u:Nat}(ho:o.length=k)(h:val o+B^k*a=t)(hs:s=a+b)(hu:u=t+B^k*b):val (o ++ [s%B])+B^(k+1)*(s/B)=u:=by
 rw[rQ,ho,Nat.pow_succ]
 have h1:B^k*s=B^k*(s%B)+B^k*(B*(s/B)):=by rw[←Nat.mul_add,Nat.mod_add_div]
 have h2:B^k*s=B^k*a+B^k*b:=by rw[hs,Nat.mul_add]
 rw[Nat.mul_assoc];omega
theorem last_pos{o:List Nat}{n:Nat}(h:Lt o)(ho:o.length=n)(hn:n=0∨B^(n-1)≤val o):rR o:=aej h (by
 rcases hn with e | e
 ·left;exact List.eq_nil_of_length_eq_zero (by omega)
 ·right;rw[ho];exact e)
end Num
namespace Num
theorem Gh{o:List Nat}{k br br' s d e ta tb ta' tb':Nat}(ho:o.length=k)(h:ta+B^k*br=val o+tb)(hs:s+br+e=d+B*br')(ha:ta'=ta+B^k*d)(hb:tb'=tb+B^k*e):
  ta'+B^(k+1)*br'=val (o ++ [s])+tb':=by
 rw[rQ,ho,ha,hb,Nat.pow_succ,Nat.mul_assoc]
 have h1:B^k*(s+br+e)=B^k*(d+B*br'):=by rw[hs]
 simp only[Nat.mul_add]at h1
 omega
theorem VG{l:List Nat}{t x y:Nat}(h:l[t]? = some x):val (l.set t y)+B^t*x=val l+B^t*y:=by
 induction l generalizing t with
 | nil=>simp at h
 | cons z l ih=>
  cases t with
  | zero=>simp at h;subst h;simp[val];omega
  | succ t=>
   simp only[List.getElem?_cons_succ]at h
   have:=ih h
   rw[List.set_cons_succ,jA,jA,Nat.pow_succ]
   have h2:B*(val (l.set t y)+B^t*x)=B*(val l+B^t*y):=by rw[this]
   simp only[Nat.mul_add]at h2
   have e1:B^t*B*x=B*(B^t*x):=by rw[Nat.mul_comm (B^t) B,Nat.mul_assoc]
   have e2:B^t*B*y=B*(B^t*y):=by rw[Nat.mul_comm (B^t) B,Nat.mul_assoc]
   omega
theorem Lt.set{l:List Nat}{t y:Nat}(h:Lt l)(hy:y<B):Lt (l.set t y):=fun x hx=>by
 rcases List.mem_or_eq_of_mem_set hx with h1 | h1
 ·exact h x h1
 ·omega
theorem Lt.replicate(n:Nat):Lt (List.replicate n 0):=fun x hx=>by
 have:=List.eq_of_mem_replicate hx
 rw[this];exact nt
theorem VH(n:Nat):val (List.replicate n 0)=0:=by
 induction n with
 | zero=>rfl
 | succ n ih=>rw[List.replicate_succ,jA,ih,Nat.mul_zero]
theorem aem{l:List Nat}{k y:Nat}(h:k<l.length):(l.set k y).take (k+1)=l.take k ++ [y]:=by
 rw[List.take_succ_eq_append_getElem (by simpa using h),List.getElem_set_self,List.take_set_of_le (Nat.le_refl _)]
theorem set_drop{l:List Nat}{k y:Nat}(h:k<l.length):(l.set k y).drop k=y::l.drop (k+1):=by
 rw[List.drop_eq_getElem_cons (by simpa using h),List.getElem_set_self,List.drop_set_of_lt (Nat.lt_succ_self _)]
theorem Dq{l:List Nat}{k d:Nat}(h:l[k]? = some d):l.drop k=d::l.drop (k+1):=by
 rw[List.drop_eq_getElem_cons (List.getElem?_eq_some_iff.1 h).1,(List.getElem?_eq_some_iff.1 h).2]
end Num
namespace Go.aw
open Go.Proofs Num
theorem vr{n:Nat}{all:Array Oper}{s:St}{H:Heap}{md:Mode}{K:St→Heap→Prop}(k:Nat){l:List Oper}{s1:St}(hk:aQ Tryz.prog n all md (l.drop k) s1 H K)(h:yD tb md all (l.take k) s=some s1:=by rfl):aQ Tryz.prog n all md l s H K:=Vn ah k h hk
theorem ab{n:Nat}{all:Array Oper}{s:St}{H:Heap}{md:Mode}{K:St→Heap→Prop}(k:Nat){l:List Oper}{s1:St}(h:yD tb md all (l.take k) s=some s1)(hk:aQ Tryz.prog n all md (l.drop k) s1 H K):aQ Tryz.prog n all md l s H K:=Vn ah k h hk
theorem jR{a b:Int}(h:a=b):gB .eql a b=some true:=by subst h;simp[gB]
theorem lD{a b:Int}(h:a≠b):gB .eql a b=some false:=by simp[gB,h]
theorem u0{a b:Int}(h:a≠b):gB .neq a b=some true:=by simp[gB,h]
theorem wq{a b:Int}(h:a=b):gB .neq a b=some false:=by subst h;simp[gB]
theorem jS{a b:Int}(h:a<b):gB .lss a b=some true:=by simp[gB,h]
theorem iC{a b:Int}(h:b≤a):gB .lss a b=some false:=by simp[gB,h]
theorem p7{a b:Int}(h:a≤b):gB .leq a b=some true:=by simp[gB,h]
theorem yN{a b:Int}(h:b<a):gB .leq a b=some false:=by simp[gB,h]
theorem mI{a b:Int}(h:b<a):gB .gtr a b=some true:=by simp[gB,h]
theorem iW{a b:Int}(h:a≤b):gB .gtr a b=some false:=by simp[gB,h]
theorem rS{a b:Int}(h:b≤a):gB .geq a b=some true:=by simp[gB,h]
theorem AV{a b:Int}(h:a<b):gB .geq a b=some false:=by simp[gB,h]
def U(l:List Nat):List Value:=l.map fun x=> .int .u32 (Int.ofNat x)
theorem du{l:List Nat}{i:Nat}{x:Nat}(h:l[i]? = some x):(U l)[i]? = some (.int .u32 (x:Int)):=by simp[U,h]
theorem AW(l:List Nat):(U l).length=l.length:=by simp[U]
theorem KE(a b:List Nat):U (a++b)=U a++U b:=by simp[U]
theorem Gi(l:List Nat)(k:Nat):U (l.take k)=(U l).take k:=by simp[U,List.map_take]
theorem oX(l:List Nat):∀u∈U l,u.oneCell'=true:=fun u hu=>by
 simp only[U,List.mem_map]at hu
 obtain⟨x,_,rfl⟩:=hu
 rfl
def jB(H:Heap)(v:Value)(l:List Nat):Prop:=∃A c,v = .slice A l.length c∧l.length≤c∧Rd H A (U l)
theorem jB.le{H H':Heap}{v:Value}{l:List Nat}(h:jB H v l)(hl:Heap.le H H'):jB H' v l:=by
 obtain⟨A,c,h1,h2,h3⟩:=h
 exact⟨A,c,h1,h2,h3.le hl⟩
def dh(H:Heap)(v:Value)(x:Nat):Prop:=jB H v (ao x)
theorem dh.le{H H':Heap}{v:Value}{x:Nat}(h:dh H v x)(hl:Heap.le H H'):dh H' v x:=jB.le h hl
theorem Rd.take{H:Heap}{A:Option Addr}{xs:List Value}(h:Rd H A xs)(k:Nat):Rd H A (xs.take k):=fun i v hv=>by
 rw[List.getElem?_take]at hv
 split at hv
 ·exact h i v hv
 ·cases hv
def kZ(H:Heap)(v:Value)(l:List Nat):Prop:=cg H v 121 1 l.length (U l)
theorem kZ.lim{H:Heap}{v:Value}{l:List Nat}(h:kZ H v l):jB H v l:=by
 obtain⟨A,c,rfl⟩:=cg.form h
 refine⟨A,c,rfl,?_,cg.rd h⟩
 rcases h.2 with ⟨h1,h2⟩ | ⟨g,cap,h1,_,h3,_⟩
 ·omega
 ·cases h1;exact h3
theorem yO(H:Heap):kZ H (.slice none 0 0) []:=lB H 121 1
theorem App.p8{H H':Heap}{v v':Value}{a b:List Nat}{n m:Nat}(h:App H v 121 1 (n+m) (U a++U b) v' H')(ha:n=a.length)(hb:m=b.length):kZ H' v' (a++b):=by
 have:=h.own
 subst ha
 subst hb
 unfold kZ
 rw[KE,List.length_append];exact this
structure nv(H:Heap)(x:Nat)(v:Value)(H':Heap):Prop where
 le:Heap.le H H'
 nat:dh H' v x
theorem Dr{H:Heap}{v:Value}{l:List Nat}{x:Nat}(h:jB H v l)(hn:rR l)(hv:val l=x):dh H v x:=by
 unfold dh
 rwa [←aek hn hv]
theorem wu(H:Heap):dh H (.slice none 0 0) 0:=Dr (l:=[]) (kZ.lim (yO H)) rR.nil rfl
theorem KF{l:List Nat}{k:Nat}(bL:Lt l)(hk:k≤l.length)(hv:val (l.take k)=val l)(hx:k=0∨∃x,l[k-1]? = some x∧x≠0):ao (val l)=l.take k:=by
 rw[←hv]
 refine VD ⟨bL.take k,fun y hy=> ?_⟩
 rcases hx with rfl | ⟨x,h1,h2⟩
 ·simp at hy
 ·have:(l.take k).getLast?=some x:=by
   rw[List.getLast?_eq_getElem?,List.length_take,Nat.min_eq_left hk,List.getElem?_take]
   rw[if_pos ?_]
   ·exact h1
   ·rcases Nat.eq_zero_or_pos k with e | e
    ·subst e;simp at hy
    ·omega
  rw[this]at hy
  cases hy
  exact h2
theorem AY(c:Nat)(A:Option Addr)(sz:Nat):(if c=0 then A else A.map (·.add (0*sz)))=A:=by
 split
 ·rfl
 ·cases A <;> simp[Addr.add]
theorem cg.ins{H:Heap}{v:Value}{e sz n:Nat}{xs:List Value}(h:cg H v e sz n xs){g:Nat}(ent:Ent)(hg:H g=none):cg (aw.ins H g ent) v e sz n xs:=
 h.same fun k hk=>by
  obtain⟨en,he⟩:=h.block hk
  exact bg _ _ (fun e=>by subst e;rw[hg]at he;cases he)
theorem kZ.ins{H:Heap}{v:Value}{l:List Nat}(h:kZ H v l){g:Nat}(ent:Ent)(hg:H g=none):kZ (aw.ins H g ent) v l:=cg.ins h ent hg
theorem iX(g i:Nat):(⟨g,0,none⟩:Addr).add i=⟨g,i,none⟩:=by
 unfold Addr.add;split
 ·rename_i e0;rw[e0]
 ·simp
theorem dE(H:Heap)(g:Nat)(xs:List Value)(sz e:Nat)(b:Bool):Rd (ins H g ⟨xs,sz,e,b⟩) (some ⟨g,0,none⟩) xs:=fun i v hv=>⟨_,rfl,by simp[cell,iX,ins,hv]⟩
theorem rT{H:Heap}{g e:Nat}{a:Int}{y:Nat}(h:a=y):Rd (ins H g (whole [.int .u32 a] e)) (some ⟨g,0,none⟩) (U [y]):=by
 subst h;exact dE _ _ _ _ _ _
theorem KG{H:Heap}{g e sz:Nat}{zs:List Value}{k:Int}{c:Nat}(hk:k.toNat=0)(hc:c≤maxLen):cg (ins H g ⟨cD zs (k.toNat*sz),c*sz,e,true⟩) (.slice (some ⟨g,0,none⟩) k.toNat c) e sz 0 []:=by
 refine⟨by simp,.inr ⟨g,c,by rw[hk],?_,by omega,hc⟩⟩
 rw[bF,hk,Nat.zero_mul];rfl
theorem VI(a b:Nat):(a:Int)%(b:Int)=((a%b:Nat):Int):=rfl
def dH(l:List Nat)(n:Nat):Ent:=⟨U l,n*1,121,true⟩
theorem qB(H:Heap)(g:Nat)(e e':Ent):ins (ins H g e) g e'=ins H g e':=by
 funext k;unfold ins;split <;> rfl
theorem OS(l:List Nat)(k y:Nat):(U l).set k (.int .u32 (y:Int))=U (l.set k y):=by simp[U,List.map_set]
theorem u6{H:Heap}{g n k:Nat}{l:List Nat}{a:Int}{y:Nat}(h:a=y):ins (ins H g (dH l n)) g {dH l n with xs:=aM (dH l n).xs (0+k*1) [.int .u32 a]}=ins H g (dH (l.set k y) n):=by
 subst h
 rw[qB]
 simp only[dH,aM,Nat.zero_add,Nat.mul_one,OS]
theorem KH(H:Heap)(g:Nat)(l:List Nat)(n:Nat):Rd (ins H g (dH l n)) (some ⟨g,0,none⟩) (U l):=dE _ _ _ _ _ _
theorem aen{H:Heap}{g:Nat}{k:Int}{n:Nat}(hk:k.toNat=n):ins H g ⟨cD [.int .u32 0] (k.toNat*1),n*1,121,true⟩=ins H g (dH (List.replicate n 0) n):=by
 subst hk
 rw[Nat.mul_one,Vs]
 congr 1
 simp[dH,U]
theorem oY(l:List Nat)(n:Nat):(dH l n).xs.length=l.length:=by simp[dH,U]
theorem AZ(H:Heap)(g:Nat)(l:List Nat)(n m:Nat)(hm:m=l.length)(hn:m≤n):jB (ins H g (dH l n)) (.slice (some ⟨g,0,none⟩) m n) l:=⟨_,n,by rw[hm],by omega,KH H g l n⟩
end Go.aw
namespace Go.aw
open Go.Proofs Num
theorem OT{H:Heap}{A:Option Addr}{c:Nat}{l:List Nat}(bL:Lt l)(hr:Rd H A (U l))(hc:l.length≤c)(hm:(l.length:Int)≤35184372088832):
 Fn Tryz.prog 207 #[.slice A l.length c] H (nv H (val l)):=by
 refine aZ (args:=[_]) Tryz.func207 rfl rfl Tryz.ntmps207 rfl rfl fun w0=> ?_;refine aj [0] rfl ?_;refine ag (ab 1 rfl (ae [0] ?_));refine ag (ab 3 rfl (ae [0,3] ?_));refine aq (aG (gK (fun(k:Nat)=>k) (fun(k:Nat)=>put (put (emp) 0 (.val (.slice A l.length c))) 3 (.val (.int .i64 (k:Int)))) (fun(k:Nat) H'=>H'=H∧k≤l.length∧val (l.take k)=val l) l.length (⟨rfl,Nat.le_refl _,by simp⟩) (by repeat (first | exact iV _ | refine dB rfl ?_ | refine dB (jk (by omega)) ?_)) ?_));rintro k H1 ⟨rfl,hk,hv⟩
 rcases Nat.eq_zero_or_pos k with rfl | KI
 ·
  refine aq (ag (ab 1 rfl (aJ false rfl rfl (by simp[gB]) ?_)));refine ab 8 rfl (ae [0,3,15] ?_);refine dR rfl (aW (ag (ab 2 rfl (tt (l:=0) (h:=0) ah rfl rfl (.inl ⟨rfl,rfl⟩) (.inr ⟨_,_,rfl,rfl⟩) (by omega) (by omega) ?_))));rw[AY];refine ab 1 rfl (ae [2] ?_);have e:=KF bL hk hv (.inl rfl);refine aE ⟨.inr rfl,_,.tmp rfl (.nil),.refl _,A,c,?_,?_,?_⟩
  ·rw[e];simp;rfl
  ·rw[e];simp
  ·rw[e,Gi];exact hr.take _
 obtain⟨x,hx⟩:∃x,l[k-1]? = some x:=⟨_,List.getElem?_eq_getElem (by omega)⟩;refine aq (ag (ab 1 rfl (aJ true rfl rfl (by simp[gB];omega) ?_)));refine ab 3 rfl (cY rfl rfl ⟨by omega,by omega⟩ (aS ah rfl rfl rfl rfl rfl (hr) (du (by rw[show ((k:Int)-1).toNat=k-1 by omega];exact hx)) (by omega) (by omega) fun _=> ?_));refine ab 2 rfl (ae [0,3,15] ?_);refine aD rfl (fun hb=> ?_) (fun hb=> ?_)
 ·
  simp at hb
  refine aA (aj [0,3] rfl ?_);refine aG (aC rfl (ab 1 rfl (cY rfl rfl ⟨by omega,by omega⟩ (ab 1 rfl (az ?_)))));exact⟨k-1,by omega,(by repeat (first | exact iV _ | refine dB rfl ?_ | refine dB (jk (by omega)) ?_)),rfl,by omega,by have:=kY hx;rw[show k-1+1=k by omega,hb,Nat.mul_zero,Nat.add_zero]at this;rw[←this];exact hv⟩
 ·
  simp at hb
  refine aW (aj [0,3] rfl ?_);refine ag (ab 2 rfl (tt ah rfl rfl (.inl ⟨rfl,rfl⟩) (.inr ⟨_,_,rfl,rfl⟩) (by omega) (by omega) ?_));rw[AY];refine ab 1 rfl (ae [2] ?_);refine aE ⟨.inr rfl,_,.tmp rfl (.nil),?_⟩;have e:=KF bL hk hv (.inr ⟨x,hx,hb⟩);refine⟨.refl _,A,c,?_,?_,?_⟩
  ·rw[e,List.length_take,Nat.min_eq_left hk];rfl
  ·rw[e,List.length_take,Nat.min_eq_left hk];omega
  ·rw[e,Gi];exact hr.take _
theorem aeo{H:Heap}{A:Option Addr}{c x:Nat}(hr:Rd H A (U (ao x))):
 Fn Tryz.prog 208 #[.slice A (ao x).length c] H (fun v H'=>H'=H∧v = .bool (decide (x=1))):=by
 refine aZ (args:=[_]) Tryz.func208 rfl rfl Tryz.ntmps208 rfl rfl fun w0=> ?_;refine aj [0] rfl ?_;refine ag (ab 1 rfl (ae [0] ?_))
 by_cases hl:(ao x).length=1
 ·
  obtain⟨y,hy⟩:=List.length_eq_one_iff.1 hl;refine ag (ab 2 rfl (aJ true rfl rfl (by simp[gB,hl]) ?_));refine ab 2 rfl (aS ah rfl rfl rfl rfl rfl (hr) (du (show (ao x)[0]? = some y by rw[hy];rfl)) (by omega) (by omega) fun _=> ?_);refine ab 3 rfl (ae [2] ?_);refine aE ⟨.inr rfl,_,.tmp rfl (.nil),?_⟩;refine⟨rfl,?_⟩;have hv:=cS x;rw[hy]at hv
  simp[val]at hv
  subst hv
  show Value.bool _=_
  congr 1
  rw[Bool.eq_iff_iff];simp;omega
 ·
  skip
  refine ag (ab 2 rfl (aJ false rfl rfl (by simp[gB];omega) ?_));refine ab 7 rfl (ae [2] ?_);refine aE ⟨.inr rfl,_,.tmp rfl (.nil),?_⟩;refine⟨rfl,?_⟩;have:x≠1:=fun e=>hl (by subst e;rfl)
  simp[this];rfl
end Go.aw
namespace Go.aw
open Go.Proofs Num
theorem VJ{H:Heap}{A A':Option Addr}{c c' x y:Nat}(hr:Rd H A (U (ao x)))(dU:Rd H A' (U (ao y)))(hm:((ao x).length:Int)≤35184372088832):
 Fn Tryz.prog 199 #[.slice A (ao x).length c,.slice A' (ao y).length c'] H (fun v H'=>H'=H∧v = .int .i64 (kJ x y)):=by
 refine aZ (args:=[_,_]) Tryz.func199 rfl rfl Tryz.ntmps199 rfl rfl fun w0=> ?_;refine aj [0,1] rfl ?_;refine ag (ab 1 rfl (ae [0,1] ?_));refine aq (ag (ab 5 rfl (ae [0,1,10] ?_)));refine aD rfl (fun hb=> ?_) (fun hb=> ?_)
 ·
  have hl:(ao x).length≠(ao y).length:=by simp at hb;omega
  refine aq (ag (ab 5 rfl (ae [15] ?_)));refine aD rfl (fun hb=> ?_) (fun hb=> ?_)
  ·
   simp at hb
   refine ag (ab 1 rfl (ae [4] ?_));refine aE ⟨.inr rfl,_,.tmp rfl (.nil),?_⟩;exact⟨rfl,by rw[KB (KD hb)];rfl⟩
  ·
   simp at hb
   refine aA (aj [] rfl ?_);refine ag (ab 1 rfl (ae [4] ?_));refine aE ⟨.inr rfl,_,.tmp rfl (.nil),?_⟩;exact⟨rfl,by rw[KC (KD (by omega))];rfl⟩
 ·
  have hl:(ao x).length=(ao y).length:=by simp at hb;omega
  refine aA (aj [0,1] rfl ?_);refine aq (ag (ab 2 rfl (cY rfl rfl ⟨by omega,by omega⟩ (ab 1 rfl (ae [0,1,5] ?_)))));refine aG (gK (fun(k:Nat)=>k) (fun(k:Nat)=>put (put (put (emp) 0 (.val (.slice A (ao x).length c))) 1 (.val (.slice A' (ao y).length c'))) 5 (.val (.int .i64 ((k:Int)-1)))) (fun(k:Nat) H'=>H'=H∧k≤(ao x).length∧(ao x).drop k=(ao y).drop k) (ao x).length (⟨rfl,Nat.le_refl _,by rw[List.drop_of_length_le (Nat.le_refl _),List.drop_of_length_le (by omega)]⟩) (by repeat (first | exact iV _ | refine dB rfl ?_ | refine dB (jk (by omega)) ?_)) ?_);rintro k H1 ⟨rfl,hk,hd⟩;refine aq (ag (ab 2 rfl (ae [0,1,5,20] ?_)));refine aD rfl (fun hb=> ?_) (fun hb=> ?_)
  ·
   simp at hb
   obtain⟨p,hp⟩:∃p,(ao x)[k-1]? = some p:=⟨_,List.getElem?_eq_getElem (by omega)⟩;obtain⟨q,hq⟩:∃q,(ao y)[k-1]? = some q:=⟨_,List.getElem?_eq_getElem (by omega)⟩
   have hj:((k:Int)-1).toNat=k-1:=by omega
   have fh:(ao x).drop (k-1+1)=(ao y).drop (k-1+1):=by rw[show k-1+1=k by omega];exact hd
   refine aA (aj [0,1,5] rfl ?_);refine aq (aG (aG (bP .bJ [0,1,2,3,4,5,6,7,8,9] follows (by kernel_rfl) ?_)));refine ab 2 rfl (aS ah rfl rfl rfl rfl rfl (hr) (by rw[hj];exact du hp) (by omega) (by omega) fun _=> ?_);refine ab 2 rfl (aS ah rfl rfl rfl rfl rfl (dU) (by rw[hj];exact du hq) (by omega) (by omega) fun _=> ?_);refine ab 2 rfl (ae [0,1,5,23] ?_);refine aD rfl (fun hb=> ?_) (fun hb=> ?_)
   ·
    have nu:p<q:=by simpa using hb
    refine ag (ab 1 rfl (ae [4] ?_));refine aE ⟨.inr rfl,_,.tmp rfl (.nil),?_⟩;exact⟨rfl,by rw[KB (by have:=KA (fQ x).lt hp hq fh nu;rwa [cS,cS]at this)];rfl⟩
   have nu:¬p<q:=by simpa using hb
   refine bP .bJ [0,1,2,3,4,5,6,7,8,9] follows (by kernel_rfl) ?_;refine ab 2 rfl (aS ah rfl rfl rfl rfl rfl (hr) (by rw[hj];exact du hp) (by omega) (by omega) fun _=> ?_);refine ab 2 rfl (aS ah rfl rfl rfl rfl rfl (dU) (by rw[hj];exact du hq) (by omega) (by omega) fun _=> ?_);refine ab 2 rfl (ae [0,1,5,33] ?_);refine aD rfl (fun hb=> ?_) (fun hb=> ?_)
   ·
    have Gj:q<p:=by simpa using hb
    refine ag (ab 1 rfl (ae [4] ?_));refine aE ⟨.inr rfl,_,.tmp rfl (.nil),?_⟩;exact⟨rfl,by rw[KC (by have:=KA (fQ y).lt hq hp fh.symm Gj;rwa [cS,cS]at this)];rfl⟩
   have Gj:¬q<p:=by simpa using hb
   refine aA (aj [0,1,5] rfl ?_);refine aC rfl (ab 1 rfl (cY rfl rfl ⟨by omega,by omega⟩ (ab 1 rfl (az ?_))))
   obtain rfl:p=q:=by omega
   exact⟨k-1,by omega,(by repeat (first | exact iV _ | refine dB rfl ?_ | refine dB (jk (by omega)) ?_)),rfl,by omega,VF (by omega) hp hq hd⟩
  simp at hb
  refine aW (aj [] rfl ?_);refine ag (ab 1 rfl (ae [4] ?_));refine aE ⟨.inr rfl,_,.tmp rfl (.nil),?_⟩
  obtain rfl:k=0:=by omega
  have:x=y:=by rw[←cS x,←cS y];simpa using congrArg val hd
  exact⟨rfl,by rw[this,VE];rfl⟩
end Go.aw
namespace Go.aw
open Go.Proofs Num
theorem VK{H:Heap}{A:Option Addr}{c x:Nat}(hr:Rd H A (U (ao x)))(hm:(ao x).length≤2):
 Fn Tryz.prog 222 #[.slice A (ao x).length c] H (fun v H'=>H'=H∧v = .tuple #[.int .u64 (x:Int),.bool true]):=by
 refine aZ (args:=[_]) Tryz.func222 rfl rfl Tryz.ntmps222 rfl rfl fun w0=> ?_;refine aj [0] rfl ?_;refine ag (ab 2 rfl (ae [0] ?_));refine ag (ab 1 rfl (ae [0,4] ?_));refine aq (ag (ab 3 rfl (ae [0,4,8,9] ?_)));refine aG (gK (fun(k:Nat)=>(ao x).length-k) (fun(k:Nat)=>put (put (put (put (emp) 0 (.val (.slice A (ao x).length c))) 4 (.val (.int .u64 (val ((ao x).drop ((ao x).length-k)):Int)))) 8 (.val (.int .i64 ((ao x).length:Int)))) 9 (.val (.int .i64 (k:Int)))) (fun(k:Nat) H'=>H'=H∧k≤(ao x).length) 0 (⟨rfl,by omega⟩) (dB rfl (dB rfl (dB (jk (by simp[val])) (dB rfl (iV _))))) ?_);rintro k H1 ⟨rfl,hk⟩;refine ag (ab 1 rfl (ae [0,4,8,9,10] ?_));refine aq (aD rfl (fun hb=> ?_) (fun hb=> ?_))
 ·
  simp at hb
  obtain⟨p,hp⟩:∃p,(ao x)[(ao x).length-1-k]? = some p:=⟨_,List.getElem?_eq_getElem (by omega)⟩;have yP:=(fQ x).lt.get hp;rw[cn]at yP
  have lj:(ao x).drop ((ao x).length-1-k)=p::(ao x).drop ((ao x).length-k):=by
   rw[List.drop_eq_getElem_cons (List.getElem?_eq_some_iff.1 hp).1,(List.getElem?_eq_some_iff.1 hp).2,show (ao x).length-1-k+1=(ao x).length-k by omega]
  have hw:val ((ao x).drop ((ao x).length-k))<B:=by
   have h1:=uY ((fQ x).lt.drop ((ao x).length-k));have h2:B^((ao x).drop ((ao x).length-k)).length≤B^1:=Nat.pow_le_pow_right nt (by simp;omega);rw[Nat.pow_one]at h2;omega
  rw[cn]at hw
  have hj:(((ao x).length:Int)-1-(k:Int)).toNat=(ao x).length-1-k:=by omega
  refine aA (aj [0,4,8,9] rfl ?_);refine aq (aG (ag (ab 2 rfl (ae [0,4,5,8,9] ?_))));refine ag (ab 3 rfl (cY rfl rfl ⟨by omega,by omega⟩ (ab 1 rfl (cY rfl rfl ⟨by omega,by omega⟩ (aS ah rfl rfl rfl rfl rfl (hr) (by rw[hj];exact du hp) (by omega) (by omega) fun _=> ?_)))));refine dg ah rfl rfl rfl ⟨by omega,by omega⟩ (ab 1 rfl (ae [0,4,6,8,9] ?_));refine aq (ag (ab 2 rfl (cY rfl rfl ⟨by omega,by omega⟩ (l0 rfl rfl (by omega) (by omega) ⟨by omega,by omega⟩ (ab 1 rfl (ae [0,4,6,8,9,25] ?_))))));refine aD rfl (fun hb=> ?_) (fun hb=> ?_)
  ·
   exfalso;simp at hb;omega
  ·
   skip
   refine aA (aj [0,4,6,8,9] rfl ?_);refine aC rfl (ab 1 rfl (gW rfl rfl ⟨by omega,by omega⟩ (ab 1 rfl (aH rfl rfl ⟨by omega,by omega⟩ (ab 1 rfl (az (aj [0,4,8,9] rfl ?_)))))));refine aC rfl (aH rfl rfl ⟨by omega,by omega⟩ (ab 1 rfl (az ?_)))
   have dS:val ((ao x).drop ((ao x).length-(k+1)))=val ((ao x).drop ((ao x).length-k))*1000000000+p:=by
    rw[show (ao x).length-(k+1)=(ao x).length-1-k by omega,lj,jA,cn];omega
   exact⟨k+1,by omega,au,rfl,by omega⟩
 ·
  simp at hb
  refine aW (aj [4] rfl ?_);refine ag (ab 3 rfl (ae [2,3] ?_));refine aE ⟨.inr rfl,_,.tmp rfl (.tmp rfl (.nil)),?_⟩
  obtain rfl:k=(ao x).length:=by omega
  refine⟨rfl,?_⟩;rw[Nat.sub_self,List.drop_zero,cS];rfl
theorem KJ{H:Heap}{x:Nat}(hx:x<18446744073709551616):
 Fn Tryz.prog 195 #[.int .u64 (x:Int)] H (nv H x):=by
 refine aZ (args:=[_]) Tryz.func195 rfl rfl Tryz.ntmps195 rfl rfl fun w0=> ?_;refine aj [0] rfl ?_;refine ag (ab 1 rfl (ae [0] ?_));refine ag (ab 1 rfl (ae [0,3] ?_));refine aq (aG (fG (fun(y:Nat)(v:Value)(o:List Nat)=>y) (fun(y:Nat)(v:Value)(o:List Nat)=>put (put (emp) 0 (.val (.int .u64 (y:Int)))) 3 (.val (v))) (fun(y:Nat)(v:Value)(o:List Nat) H'=>Heap.le H H'∧kZ H' v o∧y≤x∧o++ao y=ao x) x (.slice none 0 0) [] (⟨.refl _,yO _,Nat.le_refl _,rfl⟩) au ?_));rintro y v o H1 ⟨hle,cE,wv,ho⟩;obtain⟨A,c,rfl⟩:=cg.form cE
 have cT:o.length≤(ao x).length:=by rw[←ho];simp
 have cP:(ao x).length≤3:=jn.2 (by rw[cn];omega);refine aq (ag (ab 2 rfl (ae [0,3,5] ?_)));refine aD rfl (fun hb=> ?_) (fun hb=> ?_)
 ·
  have hb:0<y:=by simpa using hb
  refine aA (aj [0,3] rfl ?_);refine aq (aG (aC rfl (ab 2 rfl (nh rfl rfl (by omega) (by omega) (dg ah rfl rfl rfl ⟨by omega,by omega⟩ (cR Tryz.underlying177 eG rfl rfl rfl rfl rfl rfl rfl ?_))))));intro gb bo;refine dK Tryz.underlying177 eG rfl rfl (cE.ins _ bo) (rT (VI y 1000000000)) (rfl) (oX _) (by omega) (by omega) ?_;intro v1 H2 ha;refine ab 1 rfl (az (aj [0,3] rfl ?_));refine aC rfl (ab 1 rfl (l0 rfl rfl (by omega) (by omega) ⟨by omega,by omega⟩ (ab 1 rfl (az ?_))))
  have jz:0<y:=by omega
  rw[yL jz]at ho;exact⟨y/B,v1,o ++ [y%B],Nat.div_lt_self jz (by decide),au,(hle.trans (Heap.bC _ bo)).trans ha.le,ha.p8 rfl rfl,Nat.le_trans (Nat.div_le_self _ _) wv,by simpa using ho⟩
 ·
  have hb:y=0:=by simpa using hb
  refine aW (aj [3] rfl ?_);refine ag (ab 2 rfl (ae [2] ?_));refine aE ⟨.inr rfl,_,.tmp rfl (.nil),?_⟩;subst hb;exact⟨hle,Dr (cE.lim) (by rw[show o=ao x by simpa [qI]using ho];exact fQ x) (by rw[show o=ao x by simpa [qI]using ho];exact cS x)⟩
end Go.aw
namespace Go.aw
open Go.Proofs Num
theorem aep{H:Heap}{A:Option Addr}{c:Nat}{l:List Nat}(Ba:∀x,x∈l→x<4294967296)(hr:Rd H A (U l))(hm:(l.length:Int)≤8796093022208):
 Fn Tryz.prog 194 #[.slice A l.length c] H (nv H (val l)):=by
 refine aZ (args:=[_]) Tryz.func194 rfl rfl Tryz.ntmps194 rfl rfl fun w0=> ?_;refine aj [0] rfl ?_;refine ag (ab 1 rfl (ae [0] ?_));refine ag (ab 2 rfl (aH rfl rfl ⟨by omega,by omega⟩ (gJ Tryz.underlying177 eG rfl rfl rfl (by omega) (by omega) (by omega) (by omega) ?_)));intro g hg;refine ab 1 rfl (ae [0,3] ?_);refine ag (ab 1 rfl (ae [0,3,4] ?_));refine aq (ag (ab 3 rfl (ae [0,3,4,12,13] ?_)));refine aG (oU (fun(k:Nat)(v:Value)(o:List Nat)(cr:Nat)=>l.length-k) (fun(k:Nat)(v:Value)(o:List Nat)(cr:Nat)=>put (put (put (put (put (emp) 0 (.val (.slice A l.length c))) 3 (.val (v))) 4 (.val (.int .u64 (cr:Int)))) 12 (.val (.int .i64 (l.length:Int)))) 13 (.val (.int .i64 (k:Int)))) (fun(k:Nat)(v:Value)(o:List Nat)(cr:Nat) H'=>Heap.le H H'∧kZ H' v o∧k≤l.length∧o.length=k∧Lt o∧cr≤4∧val o+B^k*cr=val (l.take k)) 0 _ [] 0 (⟨Heap.bC _ hg,KG rfl (by simp only[maxLen];omega),by omega,rfl,Lt.nil,by omega,by simp[val]⟩) au ?_);rintro k v o cr H1 ⟨hle,cE,hk,cT,eD,iM,hv⟩;obtain⟨Ao,co,rfl⟩:=cg.form cE;refine ag (ab 1 rfl (ae [0,3,4,12,13,14] ?_));refine aq (aD rfl (fun hb=> ?_) (fun hb=> ?_))
 ·
  have hb:k<l.length:=by simpa using hb
  obtain⟨p,hp⟩:∃p,l[k]? = some p:=⟨_,List.getElem?_eq_getElem hb⟩;have aeq:=Ba p (List.mem_of_getElem? hp);refine aA (aj [0,3,4,12,13] rfl ?_);refine aq (aG (ag (ab 2 rfl (ae [0,3,4,5,12,13] ?_))));refine ag (ab 2 rfl (aS ah rfl rfl rfl rfl rfl (hr.le hle) (du hp) (by omega) (by omega) fun _=>(dg ah rfl rfl rfl ⟨by omega,by omega⟩ (ab 1 rfl (aH rfl rfl ⟨by omega,by omega⟩ (ab 1 rfl (ae [0,3,6,12,13] ?_)))))));refine ag (ab 2 rfl (nh rfl rfl (by omega) (by omega) (dg ah rfl rfl rfl ⟨by omega,by omega⟩ (cR Tryz.underlying177 eG rfl rfl rfl rfl rfl rfl rfl ?_))));intro gb bo;refine dK Tryz.underlying177 eG rfl rfl (cE.ins _ bo) (rT (y:=(p+cr)%1000000000) rfl) (rfl) (oX _) (by omega) (by omega) ?_;intro v1 H2 ha;refine ab 1 rfl (ae [0,3,6,12,13] ?_);refine aC rfl (ab 1 rfl (l0 rfl rfl (by omega) (by omega) ⟨by omega,by omega⟩ (ab 1 rfl (az (aj [0,3,4,12,13] rfl ?_)))));refine aC rfl (aH rfl rfl ⟨by omega,by omega⟩ (ab 1 rfl (az ?_)));have dS:=Dp (s:=p+cr) (u:=val (l.take (k+1))) cT hv (Nat.add_comm _ _) (kY hp)
  have e1:(((p+cr)%B:Nat):Int)=((p:Int)+cr)%1000000000:=rfl;exact⟨k+1,v1,o ++ [(p+cr)%B],(p+cr)/B,by omega,au,(hle.trans (Heap.bC _ bo)).trans ha.le,ha.p8 rfl rfl,by omega,by simp[cT],eD.snoc (Nat.mod_lt _ nt),by rw[cn];omega,dS⟩
 ·
  have hb:l.length≤k:=by simpa using hb
  obtain rfl:k=l.length:=by omega
  rw[List.take_length]at hv;refine aW (aj [3,4] rfl ?_);refine AU (fun(v:Value)(o:List Nat)=>put (emp) 3 (.val (v))) (fun(v:Value)(o:List Nat) H'=>Heap.le H H'∧kZ H' v o∧o.length≤l.length+1∧Lt o∧val o=val l) ?_ ?_
  ·
   refine ag (ab 2 rfl (ae [3,4,33] ?_));refine aD rfl (fun hb=> ?_) (fun hb=> ?_)
   ·
    have hb:0<cr:=by simpa using hb
    refine aC rfl (ab 2 rfl (dg ah rfl rfl rfl ⟨by omega,by omega⟩ (cR Tryz.underlying177 eG rfl rfl rfl rfl rfl rfl rfl ?_)));intro gb bo;refine dK Tryz.underlying177 eG rfl rfl (cE.ins _ bo) (rT (y:=cr) rfl) (rfl) (oX _) (by omega) (by omega) ?_;intro v1 H2 ha;refine ab 1 rfl (az ?_);exact⟨v1,o ++ [cr],(by repeat (first | exact iV _ | refine dB rfl ?_ | refine dB (jk (by omega)) ?_)),(hle.trans (Heap.bC _ bo)).trans ha.le,ha.p8 rfl rfl,by simp;omega,eD.snoc (by rw[cn];omega),by rw[rQ,cT];exact hv⟩
   have hb:cr=0:=by simpa using hb
   refine aA ?_;exact⟨_,o,(by repeat (first | exact iV _ | refine dB rfl ?_ | refine dB (jk (by omega)) ?_)),hle,cE,by omega,eD,by rw[hb,Nat.mul_zero]at hv;omega⟩
  rintro v o H3 ⟨hle,cE,cT,eD,hv⟩;obtain⟨Ao,co,wy,lk,kK⟩:=cE.lim;subst wy;refine ag (ab 1 rfl (aF rfl rfl (OT eD kK lk (by omega)) ?_));intro v1 H4 hp;refine ab 1 rfl (ae [2] ?_);refine aE ⟨.inr rfl,_,.tmp rfl (.nil),?_⟩;exact⟨hle.trans hp.le,by have:=hp.nat;rwa [hv]at this⟩
end Go.aw
namespace Go.aw
open Go.Proofs Num
theorem aer{H:Heap}{u v:Value}{x y:Nat}(hx:dh H u x)(hy:dh H v y)(hm:((ao x).length:Int)≤8796093022208)(bI:((ao y).length:Int)≤8796093022208):
 Fn Tryz.prog 205 #[u,v] H (nv H (x+y)):=by
 obtain⟨A,c,rfl,hc,hr⟩:=hx
 obtain⟨A',c',rfl,jO,dU⟩:=hy;refine aZ (args:=[_,_]) Tryz.func205 rfl rfl Tryz.ntmps205 rfl rfl fun w0=> ?_;refine aj [0,1] rfl ?_;refine ag (ab 1 rfl (ae [0,1] ?_));refine acZ (fun(u:Value)(w:Value)(p:Nat)(q:Nat)=>put (put (emp) 0 (.val (u))) 1 (.val (w))) (fun(u:Value)(w:Value)(p:Nat)(q:Nat) H'=>H'=H∧dh H u p∧dh H w q∧p+q=x+y∧(ao q).length≤(ao p).length∧((ao p).length:Int)≤8796093022208) ?_ ?_
 ·
  refine ag (ab 5 rfl (ae [0,1,13] ?_));refine aD rfl (fun hb=> ?_) (fun hb=> ?_)
  ·
   simp at hb
   refine aC rfl (ab 4 rfl (az ?_));exact⟨_,_,y,x,(by repeat (first | exact iV _ | refine dB rfl ?_ | refine dB (jk (by omega)) ?_)),rfl,⟨A',c',rfl,jO,dU⟩,⟨A,c,rfl,hc,hr⟩,by omega,by omega,by omega⟩
  ·
   simp at hb
   refine aA ?_;exact⟨_,_,x,y,(by repeat (first | exact iV _ | refine dB rfl ?_ | refine dB (jk (by omega)) ?_)),rfl,⟨A,c,rfl,hc,hr⟩,⟨A',c',rfl,jO,dU⟩,by omega,by omega,by omega⟩
 ·
  rintro u w p q H3 ⟨rfl,hp,hq,nu,hl,hm⟩;clear hr dU hc jO;obtain⟨A,c,rfl,hc,hr⟩:=hp;obtain⟨A',c',rfl,jO,dU⟩:=hq;have jC:=(fQ p).lt;have eF:=(fQ q).lt;refine ag (ab 2 rfl (aH rfl rfl ⟨by omega,by omega⟩ (gJ Tryz.underlying177 eG rfl rfl rfl (by omega) (by omega) (by omega) (by omega) ?_)));intro g hg;refine ab 1 rfl (ae [0,1,5] ?_);refine ag (ab 1 rfl (ae [0,1,5,6] ?_));refine aq (ag (ab 3 rfl (ae [0,1,5,6,21,22] ?_)));refine aG (oU (fun(k:Nat)(v:Value)(o:List Nat)(cr:Nat)=>(ao p).length-k) (fun(k:Nat)(v:Value)(o:List Nat)(cr:Nat)=>put (put (put (put (put (put (emp) 0 (.val (.slice A (ao p).length c))) 1 (.val (.slice A' (ao q).length c'))) 5 (.val (v))) 6 (.val (.int .u32 (cr:Int)))) 21 (.val (.int .i64 ((ao p).length:Int)))) 22 (.val (.int .i64 (k:Int)))) (fun(k:Nat)(v:Value)(o:List Nat)(cr:Nat) H'=>Heap.le H3 H'∧kZ H' v o∧k≤(ao p).length∧o.length=k∧Lt o∧cr≤1∧val o+B^k*cr=val ((ao p).take k)+val ((ao q).take k)) 0 _ [] 0 (⟨Heap.bC _ hg,KG rfl (by simp only[maxLen];omega),by omega,rfl,Lt.nil,by omega,by simp[val]⟩) au ?_);rintro k v o cr H1 ⟨hle,cE,hk,cT,eD,iM,hv⟩;obtain⟨Ao,co,rfl⟩:=cg.form cE
  refine ag (ab 1 rfl (ae [0,1,5,6,21,22,23] ?_));refine aq (aD rfl (fun hb=> ?_) (fun hb=> ?_))
  ·
   have hb:k<(ao p).length:=by simpa using hb
   obtain⟨d,hd⟩:∃d,(ao p)[k]? = some d:=⟨_,List.getElem?_eq_getElem hb⟩;have l4:=jC.get hd;rw[cn]at l4;obtain⟨e,he⟩:∃e,e=((ao q)[k]?).getD 0:=⟨_,rfl⟩
   have Ds:e<1000000000:=by
    cases hq:(ao q)[k]? with
    | none=>rw[hq]at he;simp at he;omega
    | some z=>rw[hq]at he;simp at he;have:=eF.get hq;rw[cn]at this;omega
   refine aA (aj [0,1,5,6,21,22] rfl ?_);refine aq (aG (ag (ab 2 rfl (ae [0,1,5,6,7,21,22] ?_))));refine ag (ab 2 rfl (aS ah rfl rfl rfl rfl rfl (hr.le hle) (du hd) (by omega) (by omega) fun _=>(ab 1 rfl (aH rfl rfl ⟨by omega,by omega⟩ (ab 1 rfl (ae [0,1,5,7,8,21,22] ?_))))));refine kI (fun(sv:Nat)=>put (put (put (put (put (put (emp) 0 (.val (.slice A (ao p).length c))) 1 (.val (.slice A' (ao q).length c'))) 5 (.val (.slice Ao o.length co))) 8 (.val (.int .u32 (sv:Int)))) 21 (.val (.int .i64 ((ao p).length:Int)))) 22 (.val (.int .i64 (k:Int)))) (fun(sv:Nat) H'=>H'=H1∧sv=d+cr+e) ?_ ?_
   ·
    refine ag (ab 4 rfl (ae [0,1,5,7,8,21,22,34] ?_));refine aD rfl (fun hb=> ?_) (fun hb=> ?_)
    ·
     have hb:k<(ao q).length:=by simpa using hb
     have hz:(ao q)[k]? = some e:=by rw[List.getElem?_eq_getElem hb]at he⊢;simp at he;rw[he]
     refine aC rfl (ab 3 rfl (aS ah rfl rfl rfl rfl rfl (dU.le hle) (du hz) (by omega) (by omega) fun _=>(aH rfl rfl ⟨by omega,by omega⟩ (ab 1 rfl (az ?_)))));exact⟨d+cr+e,(by repeat (first | exact iV _ | refine dB rfl ?_ | refine dB (jk (by omega)) ?_)),rfl,rfl⟩
    have hb:(ao q).length≤k:=by simpa using hb
    obtain rfl:e=0:=by rw[he,List.getElem?_eq_none hb];rfl
    refine aA ?_;exact⟨d+cr,(by repeat (first | exact iV _ | refine dB rfl ?_ | refine dB (jk (by omega)) ?_)),rfl,rfl⟩
   rintro sv H4 ⟨rfl,wz⟩;refine ag (ab 1 rfl (l0 rfl rfl (by omega) (by omega) ⟨by omega,by omega⟩ (ab 1 rfl (ae [0,1,5,6,8,21,22] ?_))));refine aC rfl (ab 2 rfl (nh rfl rfl (by omega) (by omega) (cR Tryz.underlying177 eG rfl rfl rfl rfl rfl rfl rfl ?_)));intro gb bo;refine dK Tryz.underlying177 eG rfl rfl (cE.ins _ bo) (rT (y:=sv%1000000000) rfl) (rfl) (oX _) (by omega) (by omega) ?_;intro v1 H2 ha;refine ab 1 rfl (az (aj [0,1,5,6,21,22] rfl ?_));refine aC rfl (aH rfl rfl ⟨by omega,by omega⟩ (ab 1 rfl (az ?_)));have dS:=Dp (s:=cr+(d+e)) (u:=val ((ao p).take (k+1))+val ((ao q).take (k+1))) cT hv rfl (by rw[kY hd,yM,←he,Nat.mul_add];omega)
   obtain rfl:sv=cr+(d+e):=by omega
   exact⟨k+1,v1,o ++ [(cr+(d+e))%B],(cr+(d+e))/B,by omega,au,(hle.trans (Heap.bC _ bo)).trans ha.le,ha.p8 rfl rfl,by omega,by simp[cT],eD.snoc (Nat.mod_lt _ nt),by rw[cn];omega,dS⟩
  have hb:(ao p).length≤k:=by simpa using hb
  obtain rfl:k=(ao p).length:=by omega
  rw[List.take_length,List.take_of_length_le hl,cS,cS]at hv;refine aW (aj [5,6] rfl ?_);refine aq (ag (ab 2 rfl (ae [5,6,50] ?_)));refine aD rfl (fun hb=> ?_) (fun hb=> ?_)
  ·
   have hb:0<cr:=by simpa using hb
   refine aC rfl (ab 2 rfl (cR Tryz.underlying177 eG rfl rfl rfl rfl rfl rfl rfl ?_));intro gb bo;refine dK Tryz.underlying177 eG rfl rfl (cE.ins _ bo) (rT (y:=cr) rfl) (rfl) (oX _) (by omega) (by omega) ?_;intro v1 H2 ha;refine ab 1 rfl (az (aj [5] rfl ?_));refine ag (ab 2 rfl (ae [4] ?_));refine aE ⟨.inr rfl,_,.tmp rfl (.nil),?_⟩
   have wy:val (o ++ [cr])=x+y:=by rw[rQ,cT,hv];exact nu
   exact⟨(hle.trans (Heap.bC _ bo)).trans ha.le,Dr (ha.p8 (a:=o) (b:=[cr]) rfl rfl).lim ⟨eD.snoc (by rw[cn];omega),fun z hz=>by simp at hz;omega⟩ wy⟩
  have hb:cr=0:=by simpa using hb
  refine aA (aj [5] rfl ?_);refine ag (ab 2 rfl (ae [4] ?_));refine aE ⟨.inr rfl,_,.tmp rfl (.nil),?_⟩;rw[hb,Nat.mul_zero,Nat.add_zero]at hv;refine⟨hle,Dr cE.lim (last_pos eD cT ?_) (by rw[hv];exact nu)⟩
  rcases Nat.eq_zero_or_pos (ao p).length with h0 | h0
  ·exact .inl h0
  have:=(fQ p).pos (by intro e0;rw[e0]at h0;simp at h0);rw[cS]at this;exact .inr (by rw[hv];omega)
end Go.aw
namespace Go.aw
open Go.Proofs Num
theorem VL{H:Heap}{u v:Value}{x y:Nat}(hx:dh H u x)(hy:dh H v y)(wv:y≤x)(hm:((ao x).length:Int)≤8796093022208):
 Fn Tryz.prog 206 #[u,v] H (nv H (x-y)):=by
 obtain⟨A,c,rfl,hc,hr⟩:=hx
 obtain⟨A',c',rfl,jO,dU⟩:=hy
 have jC:=(fQ x).lt
 have eF:=(fQ y).lt
 have hl:=mH wv;refine aZ (args:=[_,_]) Tryz.func206 rfl rfl Tryz.ntmps206 rfl rfl fun w0=> ?_;refine aj [0,1] rfl ?_;refine ag (ab 1 rfl (ae [0,1] ?_));refine ag (ab 2 rfl (gJ Tryz.underlying177 eG rfl rfl rfl (by omega) (by omega) (by omega) (by omega) ?_));intro g hg;refine ab 1 rfl (ae [0,1,5] ?_);refine ag (ab 1 rfl (ae [0,1,5,6] ?_));refine aq (ag (ab 3 rfl (ae [0,1,5,6,13,14] ?_)));refine aG (oU (fun(k:Nat)(v:Value)(o:List Nat)(br:Nat)=>(ao x).length-k) (fun(k:Nat)(v:Value)(o:List Nat)(br:Nat)=>put (put (put (put (put (put (emp) 0 (.val (.slice A (ao x).length c))) 1 (.val (.slice A' (ao y).length c'))) 5 (.val (v))) 6 (.val (.int .i64 (br:Int)))) 13 (.val (.int .i64 ((ao x).length:Int)))) 14 (.val (.int .i64 (k:Int)))) (fun(k:Nat)(v:Value)(o:List Nat)(br:Nat) H'=>Heap.le H H'∧kZ H' v o∧k≤(ao x).length∧o.length=k∧Lt o∧br≤1∧val ((ao x).take k)+B^k*br=val o+val ((ao y).take k)) 0 _ [] 0 (⟨Heap.bC _ hg,KG rfl (by simp only[maxLen];omega),by omega,rfl,Lt.nil,by omega,by simp[val]⟩) au ?_);rintro k v o br H1 ⟨hle,cE,hk,cT,eD,vc,hv⟩;obtain⟨Ao,co,rfl⟩:=cg.form cE;refine ag (vr 1 ?_)
 refine ae [0,1,5,6,13,14,15] ?_;refine aq (aD rfl (fun hb=> ?_) (fun hb=> ?_))
 ·
  have hb:k<(ao x).length:=by simpa using hb
  obtain⟨d,hd⟩:∃d,(ao x)[k]? = some d:=⟨_,List.getElem?_eq_getElem hb⟩;have l4:=jC.get hd;rw[cn]at l4;obtain⟨e,he⟩:∃e,e=((ao y)[k]?).getD 0:=⟨_,rfl⟩
  have Ds:e<1000000000:=by
   cases hq:(ao y)[k]? with
   | none=>rw[hq]at he;simp at he;omega
   | some z=>rw[hq]at he;simp at he;have:=eF.get hq;rw[cn]at this;omega
  refine aA (aj [0,1,5,6,13,14] rfl ?_);refine aq (aG (ag (ab 2 rfl (ae [0,1,5,6,7,13,14] ?_))));refine ag (ab 2 rfl (aS ah rfl rfl rfl rfl rfl (hr.le hle) (du hd) (by omega) (by omega) fun _=>(dg ah rfl rfl rfl ⟨by omega,by omega⟩ (ab 1 rfl (cY rfl rfl ⟨by omega,by omega⟩ (ab 1 rfl (ae [0,1,5,7,8,13,14] ?_)))))));refine kI (fun(sv:Int)=>put (put (put (put (put (put (emp) 0 (.val (.slice A (ao x).length c))) 1 (.val (.slice A' (ao y).length c'))) 5 (.val (.slice Ao o.length co))) 8 (.val (.int .i64 sv))) 13 (.val (.int .i64 ((ao x).length:Int)))) 14 (.val (.int .i64 (k:Int)))) (fun(sv:Int) H'=>H'=H1∧sv=(d:Int)-br-e) ?_ ?_
  ·
   refine ag (ab 4 rfl (ae [0,1,5,7,8,13,14,27] ?_));refine aD rfl (fun hb=> ?_) (fun hb=> ?_)
   ·
    have hb:k<(ao y).length:=by simpa using hb
    have hz:(ao y)[k]? = some e:=by rw[List.getElem?_eq_getElem hb]at he⊢;simp at he;rw[he]
    refine aC rfl (ab 3 rfl (aS ah rfl rfl rfl rfl rfl (dU.le hle) (du hz) (by omega) (by omega) fun _=>(dg ah rfl rfl rfl ⟨by omega,by omega⟩ (cY rfl rfl ⟨by omega,by omega⟩ (ab 1 rfl (az ?_))))));exact⟨(d:Int)-br-e,(by repeat (first | exact iV _ | refine dB rfl ?_ | refine dB (jk (by omega)) ?_)),rfl,rfl⟩
   have hb:(ao y).length≤k:=by simpa using hb
   have Dt:e=0:=by rw[he,List.getElem?_eq_none hb];rfl
   refine aA ?_;exact⟨(d:Int)-br,(by repeat (first | exact iV _ | refine dB rfl ?_ | refine dB (jk (by omega)) ?_)),rfl,by omega⟩
  ·
   rintro sv H4 ⟨rfl,wz⟩;refine ag (ab 1 rfl (ae [0,1,5,6,8,13,14] ?_));refine aq (ag (ab 2 rfl (ae [0,1,5,6,8,13,14,36] ?_)));refine aD rfl (fun hb=> ?_) (fun hb=> ?_)
   ·
    have hb:sv<0:=by simpa using hb
    refine ag (ab 1 rfl (aH rfl rfl ⟨by omega,by omega⟩ (ab 1 rfl (ae [0,1,5,8,13,14] ?_))));refine aC rfl (ab 1 rfl (az (aj [0,1,5,6,8,13,14] rfl ?_)));refine aC rfl (ab 2 rfl (dg ah rfl rfl rfl ⟨by omega,by omega⟩ (cR Tryz.underlying177 eG rfl rfl rfl rfl rfl rfl rfl ?_)));intro gb bo;refine dK Tryz.underlying177 eG rfl rfl (cE.ins _ bo) (rT (y:=if sv<0 then d+1000000000-br-e else d-br-e) (by split <;> omega)) (rfl) (oX _) (by omega) (by omega) ?_;intro v1 H2 ha
    (first|rw[if_pos hb]at ha|rw[if_neg (by omega)]at ha)
    refine ab 1 rfl (az (aj [0,1,5,6,13,14] rfl ?_));refine aC rfl (aH rfl rfl ⟨by omega,by omega⟩ (ab 1 rfl (az ?_)));have dS:=Gh (s:=d+1000000000-br-e) (br':=1) (d:=d) (e:=e) cT hv (by rw[cn];omega) (kY hd) (show val ((ao y).take (k+1))=val ((ao y).take k)+B^k*e by rw[yM,←he]);exact⟨k+1,v1,o ++ [d+1000000000-br-e],1,by omega,au,(hle.trans (Heap.bC _ bo)).trans ha.le,ha.p8 rfl rfl,by omega,by simp[cT],eD.snoc (by rw[cn];omega),by omega,dS⟩
   have hb:0≤sv:=by simpa using hb
   refine aA (aj [0,1,5,6,8,13,14] rfl ?_);refine aC rfl (ab 2 rfl (dg ah rfl rfl rfl ⟨by omega,by omega⟩ (cR Tryz.underlying177 eG rfl rfl rfl rfl rfl rfl rfl ?_)));intro gb bo;refine dK Tryz.underlying177 eG rfl rfl (cE.ins _ bo) (rT (y:=if sv<0 then d+1000000000-br-e else d-br-e) (by split <;> omega)) (rfl) (oX _) (by omega) (by omega) ?_;intro v1 H2 ha
   (first|rw[if_pos hb]at ha|rw[if_neg (by omega)]at ha)
   refine ab 1 rfl (az (aj [0,1,5,6,13,14] rfl ?_));refine aC rfl (aH rfl rfl ⟨by omega,by omega⟩ (ab 1 rfl (az ?_)));have dS:=Gh (s:=d-br-e) (br':=0) (d:=d) (e:=e) cT hv (by omega) (kY hd) (show val ((ao y).take (k+1))=val ((ao y).take k)+B^k*e by rw[yM,←he]);exact⟨k+1,v1,o ++ [d-br-e],0,by omega,au,(hle.trans (Heap.bC _ bo)).trans ha.le,ha.p8 rfl rfl,by omega,by simp[cT],eD.snoc (by rw[cn];omega),by omega,dS⟩
 ·
  have hb:(ao x).length≤k:=by simpa using hb
  obtain rfl:k=(ao x).length:=by omega
  rw[List.take_length,List.take_of_length_le hl,cS,cS]at hv;have wy:=uY eD;rw[cT]at wy
  have tu:br=0:=by
   rcases Nat.eq_zero_or_pos br with h | h
   ·exact h
   ·
    obtain rfl:br=1:=by omega
    omega
  obtain⟨Ao',co',aes,lk,kK⟩:=cE.lim
  cases aes
  refine aW (aj [5] rfl ?_);refine ag (ab 1 rfl (aF rfl rfl (OT eD kK lk (by omega)) ?_));intro v1 H4 hp;refine ab 1 rfl (ae [4] ?_);refine aE ⟨.inr rfl,_,.tmp rfl (.nil),?_⟩;exact⟨hle.trans hp.le,by have:=hp.nat;rwa [show val o=x-y by rw[tu]at hv;omega]at this⟩
end Go.aw
namespace Go.aw
open Go.Proofs Num
theorem yQ(H:Heap)(g n:Nat):ins H g ⟨cD [.int .u32 0] (n*1),n*1,121,true⟩=ins H g (dH (List.replicate n 0) n):=aen (k:=n) rfl
theorem yR{l:List Nat}{k y:Nat}(h:k<l.length):(l.set k y).take (k+1)=l.take k ++ [y]:=aem h
theorem KK{q m r x:Nat}(h:q*m+r=x)(hr:r<m):x/m=q∧x%m=r:=by
 subst h
 refine⟨?_,?_⟩
 ·rw[Nat.mul_comm,Nat.mul_add_div (by omega),Nat.div_eq_of_lt hr,Nat.add_zero]
 ·rw[Nat.mul_comm,Nat.mul_add_mod,Nat.mod_eq_of_lt hr]
def aet(H:Heap)(n x:Nat)(v:Value)(H':Heap):Prop:=∃g l,H g=none∧v = .slice (some ⟨g,0,none⟩) n n∧H'=ins H g (dH l n)∧l.length=n∧Lt l∧val l=x
theorem KL{H:Heap}{v:Value}{l:List Nat}(h:jB H v l)(bL:Lt l)(hm:(l.length:Int)≤35184372088832):Fn Tryz.prog 207 #[v] H (nv H (val l)):=by
 obtain⟨A,c,rfl,hc,hr⟩:=h
 exact OT bL hr hc hm
theorem VM{H:Heap}{u:Value}{l:List Nat}{m:Nat}(hu:jB H u l)(hl:Lt l)(hm:m<1000000000)(hs:(l.length:Int)≤8796093022208):
 Fn Tryz.prog 224 #[u,.int .u64 (m:Int)] H (aet H (l.length+1) (val l*m)):=by
 obtain⟨A,c,rfl,hc,hr⟩:=hu;refine aZ (args:=[_,_]) Tryz.func224 rfl rfl Tryz.ntmps224 rfl rfl fun w0=> ?_;refine aj [0,1] rfl ?_;refine ag (ab 1 rfl (ae [0,1] ?_));refine ag (ab 2 rfl (aH rfl rfl ⟨by omega,by omega⟩ (gJ Tryz.underlying177 eG rfl rfl rfl (by omega) (by omega) (by omega) (by omega) ?_)));intro g hg;rw[show ((l.length:Int)+1).toNat=l.length+1 from by omega,yQ];have qJ:=fun e=>hr.le (Heap.bC (g:=g) e hg);refine ab 1 rfl (ae [0,1,5] ?_);refine ag (ab 1 rfl (ae [0,1,5,6] ?_));refine aq (ag (ab 3 rfl (ae [0,1,5,6,14,15] ?_)));refine aG (fG (fun(k:Nat)(o:List Nat)(cr:Nat)=>l.length-k) (fun(k:Nat)(o:List Nat)(cr:Nat)=>put (put (put (put (put (put (emp) 0 (.val (.slice A l.length c))) 1 (.val (.int .u64 (m:Int)))) 5 (.val (.slice (some ⟨g,0,none⟩) (l.length+1) (l.length+1)))) 6 (.val (.int .u64 (cr:Int)))) 14 (.val (.int .i64 (l.length:Int)))) 15 (.val (.int .i64 (k:Int)))) (fun(k:Nat)(o:List Nat)(cr:Nat) H'=>H'=ins H g (dH o (l.length+1))∧k≤l.length∧o.length=l.length+1∧Lt o∧cr<1000000000∧val (o.take k)+B^k*cr=val (l.take k)*m) 0 _ 0 (⟨rfl,by omega,by simp,Lt.replicate _,by omega,by simp[val]⟩) au ?_)
 rintro k o cr H1 ⟨rfl,hk,cT,eD,iM,hv⟩;refine ag (ab 1 rfl (ae [0,1,5,6,14,15,16] ?_));refine aq (aD rfl (fun hb=> ?_) (fun hb=> ?_))
 ·
  have hb:k<l.length:=by simpa using hb
  obtain⟨d,hd⟩:∃d,l[k]? = some d:=⟨_,List.getElem?_eq_getElem hb⟩;have l4:=hl.get hd;rw[cn]at l4;have VN:d*m≤999999999*999999999:=Nat.mul_le_mul (by omega) (by omega)
  have VO:(d:Int)*(m:Int)=((d*m:Nat):Int):=by simp
  obtain⟨dm,aml⟩:∃dm,dm=d*m:=⟨_,rfl⟩;refine aA (aj [0,1,5,6,14,15] rfl ?_);refine aq (aG (ag (ab 2 rfl (ae [0,1,5,6,7,14,15] ?_))));refine ag (ab 2 rfl (aS ah rfl rfl rfl rfl rfl (qJ _) (du hd) (by omega) (by omega) fun _=>(dg ah rfl rfl rfl ⟨by omega,by omega⟩ (ab 1 rfl (gW rfl rfl ⟨by omega,by omega⟩ (ab 1 rfl (aH rfl rfl ⟨by omega,by omega⟩ (ab 1 rfl (ae [0,1,5,7,8,14,15] ?_)))))))));refine ag (ab 3 rfl (nh rfl rfl (by omega) (by omega) (dg ah rfl rfl rfl ⟨by omega,by omega⟩ ?_)));obtain⟨ti,ak,al⟩:=oW;refine cV (.inl rfl) ah rfl rfl rfl (by omega) (by omega) (bF _ _ _) rfl (by rw[oY];omega) ak al (fun _=>rfl) rfl rfl rfl fun _=> ?_;refine ae [0,1,5,8,14,15] ?_;refine aC rfl (ab 1 rfl (l0 rfl rfl (by omega) (by omega) ⟨by omega,by omega⟩ (ab 1 rfl (az (aj [0,1,5,6,14,15] rfl ?_)))));refine aC rfl (aH rfl rfl ⟨by omega,by omega⟩ (ab 1 rfl (az ?_)));have dS:=Dp (s:=d*m+cr) (a:=cr) (b:=d*m) (u:=val (l.take (k+1))*m) (by simp;omega) hv (by omega) (by rw[kY hd,Nat.add_mul,Nat.mul_assoc])
  rw[←yR (by omega)]at dS;exact⟨k+1,o.set k ((d*m+cr)%B),(d*m+cr)/B,by omega,au,by rw[u6 (y:=(d*m+cr)%B) (by rw[cn];omega)];rfl,by omega,by simp[cT],eD.set (Nat.mod_lt _ nt),by rw[cn];omega,dS⟩
 ·
  have hb:l.length≤k:=by simpa using hb
  obtain rfl:k=l.length:=by omega
  rw[List.take_length]at hv;refine aW (aj [0,5,6] rfl ?_);refine ag (ab 4 rfl (dg ah rfl rfl rfl ⟨by omega,by omega⟩ ?_));obtain⟨ti,ak,al⟩:=oW;refine cV (.inl rfl) ah rfl rfl rfl (by omega) (by omega) (bF _ _ _) rfl (by rw[oY];omega) ak al (fun _=>rfl) rfl rfl rfl fun _=> ?_;refine ae [5] ?_;refine ag (ab 2 rfl (ae [4] ?_));refine aE ⟨.inr rfl,_,.tmp rfl (.nil),?_⟩;refine⟨g,o.set l.length cr,hg,rfl,?_,by simp[cT],eD.set (by rw[cn];omega),?_⟩
  ·rw[u6 (y:=cr) rfl];rfl
  ·rw[←List.take_length (l:=o.set l.length cr),List.length_set,cT,yR (by omega),rQ,List.length_take,Nat.min_eq_left (by omega)];exact hv
theorem VP{H:Heap}{u:Value}{l:List Nat}{m:Nat}(hu:jB H u l)(hl:Lt l)(hm:m<1000000000)(wA:0<m)(hs:(l.length:Int)≤8796093022208):
 Fn Tryz.prog 223 #[u,.int .u64 (m:Int)] H (fun v H'=>Heap.le H H'∧∃q,v = .tuple #[q,.int .u64 ((val l%m:Nat):Int)]∧dh H' q (val l/m)):=by
 obtain⟨A,c,rfl,hc,hr⟩:=hu;refine aZ (args:=[_,_]) Tryz.func223 rfl rfl Tryz.ntmps223 rfl rfl fun w0=> ?_;refine aj [0,1] rfl ?_;refine ag (ab 2 rfl (ae [0,1] ?_));refine ag (ab 2 rfl (gJ Tryz.underlying177 eG rfl rfl rfl (by omega) (by omega) (by omega) (by omega) ?_));intro g hg;rw[show ((l.length:Int)).toNat=l.length from by omega,yQ];have qJ:=fun e=>hr.le (Heap.bC (g:=g) e hg);refine ab 1 rfl (ae [0,1,6] ?_);refine ag (ab 1 rfl (ae [0,1,6,7] ?_));refine aq (ag (ab 2 rfl (cY rfl rfl ⟨by omega,by omega⟩ (ab 1 rfl (ae [0,1,6,7,8] ?_)))));refine aG (fG (fun(k:Nat)(o:List Nat)(rs:Nat)=>k) (fun(k:Nat)(o:List Nat)(rs:Nat)=>put (put (put (put (put (emp) 0 (.val (.slice A l.length c))) 1 (.val (.int .u64 (m:Int)))) 6 (.val (.slice (some ⟨g,0,none⟩) l.length l.length))) 7 (.val (.int .u64 (rs:Int)))) 8 (.val (.int .i64 ((k:Int)-1)))) (fun(k:Nat)(o:List Nat)(rs:Nat) H'=>H'=ins H g (dH o l.length)∧k≤l.length∧o.length=l.length∧Lt o∧rs<m∧val (o.drop k)*m+rs=val (l.drop k)) l.length _ 0 (⟨rfl,by omega,by simp,Lt.replicate _,by omega,by simp[val]⟩) au ?_);rintro k o rs H1 ⟨rfl,hk,cT,eD,yS,hv⟩;refine aq ?_
 refine ag (ab 2 rfl (ae [0,1,6,7,8,17] ?_));refine aD rfl (fun hb=> ?_) (fun hb=> ?_)
 ·
  have hb:1≤k:=by simp at hb;omega
  obtain⟨k,rfl⟩:∃j,k=j+1:=⟨k-1,by omega⟩;obtain⟨d,hd⟩:∃d,l[k]? = some d:=⟨_,List.getElem?_eq_getElem (by omega)⟩;have l4:=hl.get hd;rw[cn]at l4
  have hj:(((k+1:Nat):Int)-1).toNat=k:=by omega
  have jD:((rs:Int)*1000000000+(d:Int))/(m:Int)<1000000000:=Int.ediv_lt_of_lt_mul (by omega) (by omega);have cC:0≤((rs:Int)*1000000000+(d:Int))/(m:Int):=Int.ediv_nonneg (by omega) (by omega);refine aA (aj [0,1,6,7,8] rfl ?_);refine aq (aG (ag (ab 1 rfl (gW rfl rfl ⟨by omega,by omega⟩ (ab 2 rfl (aS ah rfl rfl rfl rfl rfl (qJ _) (by rw[hj];exact du hd) (by omega) (by omega) fun _=> ?_))))));refine dg ah rfl rfl rfl ⟨by omega,by omega⟩ (aH rfl rfl ⟨by omega,by omega⟩ (ab 1 rfl (ae [0,1,6,8,9] ?_)));refine ag (ab 4 rfl (l0 rfl rfl (by omega) (by omega) ⟨by omega,by omega⟩ (dg ah rfl rfl rfl ⟨by omega,by omega⟩ ?_)));obtain⟨ti,ak,al⟩:=oW;refine cV (.inl rfl) ah rfl rfl rfl (by omega) (by omega) (bF _ _ _) rfl (by rw[oY];omega) ak al (fun _=>rfl) rfl rfl rfl fun _=> ?_;refine ae [0,1,6,8,9] ?_;refine aC rfl (ab 2 rfl (nh rfl rfl (by omega) (by omega) (ab 1 rfl (az (aj [0,1,6,7,8] rfl ?_)))));refine aC rfl (ab 1 rfl (cY rfl rfl ⟨by omega,by omega⟩ (ab 1 rfl (az ?_))))
  have hq:(rs*1000000000+d)/m<1000000000:=by rw[Nat.div_lt_iff_lt_mul wA];omega
  refine⟨k,o.set k ((rs*1000000000+d)/m),(rs*1000000000+d)%m,by omega,au,by rw[u6 (y:=(rs*1000000000+d)/m) (by simp)];rw[hj],by omega,by simp[cT],eD.set (by rw[cn];omega),Nat.mod_lt _ wA,?_⟩;rw[set_drop (by omega),Dq hd,jA,jA,←hv];have:=Nat.div_add_mod (rs*1000000000+d) m
  simp only[cn,Nat.add_mul,Nat.mul_add,Nat.mul_assoc]
  rw[Nat.mul_comm m]at this
  omega
 ·
  have hb:k=0:=by simp at hb;omega
  subst hb
  simp only[List.drop_zero]at hv
  refine aW (aj [6,7] rfl ?_);refine ag (ab 1 rfl (aF rfl rfl (KL (AZ _ _ o _ _ cT.symm (Nat.le_refl _)) eD (by omega)) ?_));intro v1 H4 hp;refine ab 3 rfl (ae [4,5] ?_);refine aE ⟨.inr rfl,_,.tmp rfl (.tmp rfl (.nil)),?_⟩;refine⟨(Heap.bC _ hg).trans hp.le,v1,?_,?_⟩
  ·rw[(KK hv yS).2];rfl
  ·rw[(KK hv yS).1];exact hp.nat
end Go.aw
namespace Go.aw
open Go.Proofs Num
def rU(o:List Nat)(p:Nat):Prop:=∀t z,p≤t→o[t]? = some z→z=0
theorem rU.set{o:List Nat}{p t y:Nat}(h:rU o p)(ht:t<p):rU (o.set t y) p:=fun s z hs hz=>by
 rw[List.getElem?_set_ne (by omega)]at hz
 exact h s z hs hz
theorem rU.aeu{o:List Nat}{p y:Nat}(h:rU o p):rU (o.set p y) (p+1):=fun s z hs hz=>by
 rw[List.getElem?_set_ne (by omega)]at hz
 exact h s z (by omega) hz
theorem VQ(n p:Nat):rU (List.replicate n 0) p:=fun t z _ hz=>by
 rw[List.getElem?_replicate]at hz
 split at hz
 ·cases hz;rfl
 ·cases hz
theorem VR{o:List Nat}{i j e cr s X Y P d:Nat}(he:o[i+j]? = some e)(hv:val o+B^(i+j)*cr=X+B^i*d*Y)(hs:s=d*P+e+cr):
  val (o.set (i+j) (s%B))+B^(i+(j+1))*(s/B)=X+B^i*d*(Y+B^j*P):=by
 have h1:=VG (y:=s%B) he
 have h2:B^(i+j)*s=B^(i+j)*(s%B)+B^(i+j)*(B*(s/B)):=by rw[←Nat.mul_add,Nat.mod_add_div]
 have h3:B^(i+j)*s=B^(i+j)*(d*P)+B^(i+j)*e+B^(i+j)*cr:=by rw[hs,Nat.mul_add,Nat.mul_add]
 have h4:B^i*d*(B^j*P)=B^(i+j)*(d*P):=by rw[Nat.pow_add,Nat.mul_assoc,Nat.mul_assoc,Nat.mul_left_comm d]
 rw[Nat.mul_add,h4,←Nat.add_assoc i j 1,Nat.pow_succ,Nat.mul_assoc]
 omega
theorem Bb{H:Heap}{u v:Value}{x y:Nat}(hx:dh H u x)(hy:dh H v y)(hm:((ao x).length:Int)≤8796093022208)(bI:((ao y).length:Int)≤8796093022208):
 Fn Tryz.prog 197 #[u,v] H (nv H (x*y)):=by
 obtain⟨A,c,rfl,hc,hr⟩:=hx
 obtain⟨A',c',rfl,jO,dU⟩:=hy
 have jC:=(fQ x).lt
 have eF:=(fQ y).lt;refine aZ (args:=[_,_]) Tryz.func197 rfl rfl Tryz.ntmps197 rfl rfl fun w0=> ?_;refine aj [0,1] rfl ?_;refine ag (ab 1 rfl (ae [0,1] ?_));refine aq ?_
 by_cases jo:(ao x).length=0
 ·
  skip
  refine ag (ab 2 rfl (aJ true rfl rfl (jR (by omega)) (ab 5 rfl (ae [0,1,17] ?_))));refine dJ rfl (ag (ab 1 rfl (ae [4] ?_)));refine aE ⟨.inr rfl,_,.tmp rfl (.nil),?_⟩;exact⟨.refl _,by have:x=0:=(by rw[←cS x,List.eq_nil_of_length_eq_zero jo];rfl);rw[this,Nat.zero_mul];exact wu H⟩
 ·
  skip
  refine ag (ab 2 rfl (aJ false rfl rfl (lD (by omega)) (ab 5 rfl (ae [0,1,17] ?_))));refine aD rfl (fun hb=> ?_) (fun hb=> ?_)
  ·
   have hb:(ao y).length=0:=by simpa using hb
   refine ag (ab 1 rfl (ae [4] ?_));refine aE ⟨.inr rfl,_,.tmp rfl (.nil),?_⟩;exact⟨.refl _,by have:y=0:=(by rw[←cS y,List.eq_nil_of_length_eq_zero hb];rfl);rw[this,Nat.mul_zero];exact wu H⟩
  have jz:(ao y).length≠0:=by simpa using hb
  refine aA (aj [0,1] rfl ?_);refine ag (ab 4 rfl (aH rfl rfl ⟨by omega,by omega⟩ (gJ Tryz.underlying177 eG rfl rfl rfl (by omega) (by omega) (by omega) (by omega) ?_)));intro g hg;rw[show (((ao x).length:Int)+((ao y).length:Int)).toNat=((ao x).length+(ao y).length)from by omega,yQ];have qJ:=fun e=>hr.le (Heap.bC (g:=g) e hg);have Gk:=fun e=>dU.le (Heap.bC (g:=g) e hg);refine ab 1 rfl (ae [0,1,5] ?_);refine aq (ag (ab 3 rfl (ae [0,1,5,25,26] ?_)));refine aG (ij (fun(i:Nat)(o:List Nat)=>(ao x).length-i) (fun(i:Nat)(o:List Nat)=>put (put (put (put (put (emp) 0 (.val (.slice A (ao x).length c))) 1 (.val (.slice A' (ao y).length c'))) 5 (.val (.slice (some ⟨g,0,none⟩) ((ao x).length+(ao y).length) ((ao x).length+(ao y).length)))) 25 (.val (.int .i64 ((ao x).length:Int)))) 26 (.val (.int .i64 (i:Int)))) (fun(i:Nat)(o:List Nat) H'=>H'=ins H g (dH o ((ao x).length+(ao y).length))∧i≤(ao x).length∧o.length=((ao x).length+(ao y).length)∧Lt o∧rU o (i+(ao y).length)∧val o=val ((ao x).take i)*y) 0 _ (⟨rfl,by omega,by simp,Lt.replicate _,VQ _ _,by simp[val,VH]⟩) au ?_);rintro i o H1 ⟨rfl,hi,cT,eD,hz,hv⟩;refine ag ?_
  refine ab 1 rfl (ae [0,1,5,25,26,27] ?_);refine aq (aD rfl (fun hb=> ?_) (fun hb=> ?_))
  ·
   have hb:i<(ao x).length:=by simpa using hb
   obtain⟨d,hd⟩:∃d,(ao x)[i]? = some d:=⟨_,List.getElem?_eq_getElem hb⟩;have l4:=jC.get hd;rw[cn]at l4;refine aA (aj [0,1,5,25,26] rfl ?_);refine aq (aG (ag (ab 2 rfl (ae [0,1,5,6,25,26] ?_))));refine ag (ab 1 rfl (ae [0,1,5,6,7,25,26] ?_));refine aq (ag (ab 3 rfl (ae [0,1,5,6,7,25,26,30,31] ?_)));refine aG (fG (fun(j:Nat)(o2:List Nat)(cr:Nat)=>(ao y).length-j) (fun(j:Nat)(o2:List Nat)(cr:Nat)=>put (put (put (put (put (put (put (put (put (emp) 0 (.val (.slice A (ao x).length c))) 1 (.val (.slice A' (ao y).length c'))) 5 (.val (.slice (some ⟨g,0,none⟩) ((ao x).length+(ao y).length) ((ao x).length+(ao y).length)))) 6 (.val (.int .i64 (i:Int)))) 7 (.val (.int .u64 (cr:Int)))) 25 (.val (.int .i64 ((ao x).length:Int)))) 26 (.val (.int .i64 (i:Int)))) 30 (.val (.int .i64 ((ao y).length:Int)))) 31 (.val (.int .i64 (j:Int)))) (fun(j:Nat)(o2:List Nat)(cr:Nat) H'=>H'=ins H g (dH o2 ((ao x).length+(ao y).length))∧j≤(ao y).length∧o2.length=((ao x).length+(ao y).length)∧Lt o2∧cr<1000000000∧rU o2 (i+(ao y).length)∧val o2+B^(i+j)*cr=val ((ao x).take i)*y+B^i*d*val ((ao y).take j)) 0 o 0 (⟨rfl,by omega,cT,eD,by omega,hz,by simp[val,hv]⟩) au ?_)
   rintro j o2 cr H1 ⟨rfl,hj,Gl,Bc,iM,oZ,dI⟩;refine ag (ab 1 rfl (ae [0,1,5,6,7,25,26,30,31,32] ?_));refine aq (aD rfl (fun hb=> ?_) (fun hb=> ?_))
   ·
    have hb:j<(ao y).length:=by simpa using hb
    obtain⟨p,hp⟩:∃p,(ao y)[j]? = some p:=⟨_,List.getElem?_eq_getElem hb⟩;have yP:=eF.get hp;rw[cn]at yP;obtain⟨e,he⟩:∃e,o2[i+j]? = some e:=⟨_,List.getElem?_eq_getElem (by omega)⟩;have Ds:=Bc.get he;rw[cn]at Ds
    have Gm:((i:Int)+(j:Int)).toNat=i+j:=by omega
    have VN:d*p≤999999999*999999999:=Nat.mul_le_mul (by omega) (by omega)
    have VO:(d:Int)*(p:Int)=((d*p:Nat):Int):=by simp
    refine aA (aj [0,1,5,6,7,25,26,30,31] rfl ?_);refine aq (aG (ag (ab 2 rfl (ae [0,1,5,6,7,8,25,26,30,31] ?_))));refine bP .bJ [0,1,2,3,4,5,6,7,8,9,10,11,12,13,14,15,16,17,18,19,20,21] follows (by kernel_rfl) ?_;refine ab 2 rfl (aS ah rfl rfl rfl rfl rfl (qJ _) (du hd) (by omega) (by omega) fun _=>(dg ah rfl rfl rfl ⟨by omega,by omega⟩ (ab 2 rfl (aS ah rfl rfl rfl rfl rfl (Gk _) (du hp) (by omega) (by omega) fun _=>(dg ah rfl rfl rfl ⟨by omega,by omega⟩ (gW rfl rfl ⟨by omega,by omega⟩ (ab 3 rfl (aH rfl rfl ⟨by omega,by omega⟩ (aS ah rfl rfl rfl rfl rfl (KH _ _ _ _) (by rw[Gm];exact du he) (by omega) (by omega) fun _=> ?_)))))))));refine dg ah rfl rfl rfl ⟨by omega,by omega⟩ (aH rfl rfl ⟨by omega,by omega⟩ (ab 1 rfl (aH rfl rfl ⟨by omega,by omega⟩ (ab 1 rfl (ae [0,1,5,6,8,9,25,26,30,31] ?_)))));refine ag (ab 3 rfl (aH rfl rfl ⟨by omega,by omega⟩ (ab 1 rfl (nh rfl rfl (by omega) (by omega) (dg ah rfl rfl rfl ⟨by omega,by omega⟩ ?_)))));obtain⟨ti,ak,al⟩:=oW;refine cV (.inl rfl) ah rfl rfl rfl (by omega) (by omega) (bF _ _ _) rfl (by rw[oY];omega) ak al (fun _=>rfl) rfl rfl rfl fun _=> ?_
    refine ae [0,1,5,6,9,25,26,30,31] ?_;refine aC rfl (ab 1 rfl (l0 rfl rfl (by omega) (by omega) ⟨by omega,by omega⟩ (ab 1 rfl (az (aj [0,1,5,6,7,25,26,30,31] rfl ?_)))));refine aC rfl (aH rfl rfl ⟨by omega,by omega⟩ (ab 1 rfl (az ?_)));refine⟨j+1,o2.set (i+j) ((d*p+e+cr)%B),(d*p+e+cr)/B,by omega,au,by rw[u6 (y:=(d*p+e+cr)%B) (by rw[cn];simp),Gm],by omega,by simp[Gl],Bc.set (Nat.mod_lt _ nt),by rw[cn];omega,oZ.set (by omega),?_⟩;rw[kY hp];exact VR he dI rfl
   have hb:(ao y).length≤j:=by simpa using hb
   obtain rfl:j=(ao y).length:=by omega
   rw[List.take_length,cS]at dI;refine aW (aj [0,1,5,6,7,25,26] rfl ?_);refine aC rfl (ab 4 rfl (aH rfl rfl ⟨by omega,by omega⟩ (ab 1 rfl (dg ah rfl rfl rfl ⟨by omega,by omega⟩ ?_))));obtain⟨ti,ak,al⟩:=oW;refine cV (.inl rfl) ah rfl rfl rfl (by omega) (by omega) (bF _ _ _) rfl (by rw[oY];omega) ak al (fun _=>rfl) rfl rfl rfl fun _=> ?_;refine az (aj [0,1,5,25,26] rfl ?_);refine aC rfl (aH rfl rfl ⟨by omega,by omega⟩ (ab 1 rfl (az ?_)));obtain⟨e,he⟩:∃e,o2[i+(ao y).length]? = some e:=⟨_,List.getElem?_eq_getElem (by omega)⟩;have Dt:=oZ _ _ (Nat.le_refl _) he;subst Dt;refine⟨i+1,o2.set (i+(ao y).length) cr,by omega,au,by rw[u6 (y:=cr) rfl,show ((i:Int)+((ao y).length:Int)).toNat=i+(ao y).length by omega],by omega,by simp[Gl],Bc.set (by rw[cn];omega),by rw[Nat.add_right_comm];exact oZ.aeu,?_⟩;have h1:=VG (y:=cr) he;rw[kY hd,Nat.add_mul]
   omega
  have hb:(ao x).length≤i:=by simpa using hb
  obtain rfl:i=(ao x).length:=by omega
  rw[List.take_length,cS]at hv;refine aW (aj [5] rfl ?_);refine ag (ab 1 rfl (aF rfl rfl (KL (AZ _ _ o _ _ cT.symm (Nat.le_refl _)) eD (by omega)) ?_));intro v1 H4 hp;refine ab 1 rfl (ae [4] ?_);refine aE ⟨.inr rfl,_,.tmp rfl (.nil),?_⟩;exact⟨(Heap.bC _ hg).trans hp.le,by have:=hp.nat;rwa [hv]at this⟩
end Go.aw
namespace Num
theorem aev{T V W vl wl head u2 top next bH rest:Nat}(hV:V=vl+T*(next+B*top))(hW:W=wl+T*(u2+B*head))(p9:wl<T)(hg:bH*top+rest=head)(hc:rest*B+u2<bH*next):W<bH*V:=by
 have h1:u2+B*head+1≤bH*(next+B*top):=by
  rw[←hg,Nat.mul_add,Nat.mul_add,Nat.mul_left_comm bH B top,Nat.mul_comm B rest];omega
 have h2:T*(u2+B*head+1)≤T*(bH*(next+B*top)):=Nat.mul_le_mul_left _ h1
 rw[hV,hW,Nat.mul_add bH,Nat.mul_left_comm bH T]
 rw[Nat.mul_add T _ 1]at h2
 omega
theorem aew{T V W vl wl head u2 top next bH rest:Nat}(hV:V=vl+T*(next+B*top))(hW:W=wl+T*(u2+B*head))(ig:vl<T)(Du:1≤top)(hg:bH*top+rest=head)(hc:bH*next≤rest*B+u2)(KM:bH<B):bH*V<W+V:=by
 have h1:bH*(next+B*top)≤u2+B*head:=by
  rw[←hg,Nat.mul_add,Nat.mul_add,Nat.mul_left_comm bH B top,Nat.mul_comm B rest];omega
 have h2:T*(bH*(next+B*top))≤T*(u2+B*head):=Nat.mul_le_mul_left _ h1
 have h3:bH*vl≤bH*T:=Nat.mul_le_mul_left _ (by omega)
 have h4:bH*T<B*T:=Nat.mul_lt_mul_of_pos_right KM (by omega)
 have h5:T*(B*1)≤T*(B*top):=Nat.mul_le_mul_left _ (Nat.mul_le_mul_left _ Du)
 have h6:T*(B*1)=B*T:=by rw[Nat.mul_one,Nat.mul_comm]
 have h7:T*(next+B*top)=T*next+T*(B*top):=Nat.mul_add _ _ _
 have h8:bH*V=bH*vl+T*(bH*(next+B*top)):=by rw[hV,Nat.mul_add,Nat.mul_left_comm bH T]
 omega
theorem aex{T V W vl wl head u2 top next:Nat}(hV:V=vl+T*(next+B*top))(hW:W=wl+T*(u2+B*head))(ig:vl<T)(Gn:next<B)(h:W<B*V):head<(top+1)*B:=by
 have h1:V<T*(B*(top+1)):=by
  have h2:T*(next+B*top+1)≤T*(B*(top+1)):=Nat.mul_le_mul_left _ (by rw[Nat.mul_add B top 1];omega)
  rw[Nat.mul_add T _ 1]at h2
  omega
 have h2:B*V<B*(T*(B*(top+1))):=Nat.mul_lt_mul_of_pos_left h1 nt
 have h3:T*(B*head)≤W:=by rw[hW,Nat.mul_add T u2];omega
 have h4:T*(B*head)<T*(B*((top+1)*B)):=by
  have:B*(T*(B*(top+1)))=T*(B*((top+1)*B)):=by rw[Nat.mul_left_comm B T,Nat.mul_comm (top+1) B]
  omega
 exact Nat.lt_of_mul_lt_mul_left (Nat.lt_of_mul_lt_mul_left h4)
theorem aey{T V W vl wl head u2 top next bH rest:Nat}(hV:V=vl+T*(next+B*top))(hW:W=wl+T*(u2+B*head))(ig:vl<T)(Gn:next<B)(hh:head<(top+1)*B)(hg:bH*top+rest=head)(hr:B≤rest):bH<B∧bH*V≤W:=by
 have h0:bH<B:=by
  have h1:bH*top<B*top:=by rw[Nat.add_mul,Nat.one_mul,Nat.mul_comm top B]at hh;omega
  exact Nat.lt_of_mul_lt_mul_right h1
 refine⟨h0,?_⟩
 have h1:V≤T*(B*(top+1)):=by
  have h2:T*(next+B*top+1)≤T*(B*(top+1)):=Nat.mul_le_mul_left _ (by rw[Nat.mul_add B top 1];omega)
  rw[Nat.mul_add T _ 1]at h2
  omega
 have h2:bH*V≤bH*(T*(B*(top+1))):=Nat.mul_le_mul_left _ h1
 have h3:bH*(T*(B*(top+1)))=T*(B*(bH*(top+1))):=by rw[Nat.mul_left_comm bH T,Nat.mul_left_comm bH B]
 have h4:bH*(top+1)≤head:=by rw[Nat.mul_add,Nat.mul_one];omega
 have h5:T*(B*(bH*(top+1)))≤T*(B*head):=Nat.mul_le_mul_left _ (Nat.mul_le_mul_left _ h4)
 have h6:T*(B*head)≤W:=by rw[hW,Nat.mul_add T u2];omega
 omega
theorem VS{bH top rest head:Nat}(hg:bH*top+rest=head)(h:0<bH):(bH-1)*top+(rest+top)=head:=by
 obtain⟨j,rfl⟩:∃j,bH=j+1:=⟨bH-1,by omega⟩
 rw[Nat.add_mul,Nat.one_mul]at hg
 rw[Nat.add_sub_cancel];omega
theorem aez{V W bH q:Nat}(hq:q=W/V)(hV:0<V)(h:bH*V<W+V):bH≤q+1:=by
 subst hq
 have h1:=Nat.div_add_mod W V
 have h2:=Nat.mod_lt W hV
 have h3:bH*V<(W/V+2)*V:=by
  rw[Nat.add_mul]
  rw[Nat.mul_comm]at h1
  omega
 have:=Nat.lt_of_mul_lt_mul_right h3
 omega
theorem OU{V W bH q:Nat}(hq:q=W/V)(h:W<bH*V):q<bH:=by
 subst hq
 exact Nat.div_lt_of_lt_mul (by rwa [Nat.mul_comm]at h)
theorem aeA{w:List Nat}{k p a b:Nat}(hl:w.length=k+3)(h0:w[k]? = some p)(h1:w[k+1]? = some a)(h2:w[k+2]? = some b):val w=val (w.take k)+B^k*(p+B*(b*B+a)):=by
 rw[Kz h0,Dq h1,Dq h2,List.drop_eq_nil_of_le (by omega),jA,jA]
 simp only[val,Nat.mul_zero,Nat.add_zero]
 rw[Nat.mul_comm b B,Nat.add_comm a]
theorem aeB{w:List Nat}{k p a:Nat}(hl:w.length=k+2)(h0:w[k]? = some p)(h1:w[k+1]? = some a):val w=val (w.take k)+B^k*(p+B*a):=by
 rw[Kz h0,Dq h1,List.drop_eq_nil_of_le (by omega),jA]
 simp only[val,Nat.mul_zero,Nat.add_zero]
theorem Dv{w:List Nat}{k:Nat}(h:Lt w)(hk:k≤w.length):val (w.take k)<B^k:=by
 have:=uY (h.take k)
 rwa [List.length_take,Nat.min_eq_left hk]at this
theorem aeC{n V W X un br bH q:Nat}(hW:W=X+B^n*un){Y:Nat}(hX:X+B^n*br=Y+bH*V)(vc:br≤un)(hq:q=W/V)(Gp:q≤bH)(hV:0<V):bH=q∧Y+B^n*(un-br)=W%V:=by
 have h1:B^n*un=B^n*(un-br)+B^n*br:=by rw[←Nat.mul_add,Nat.sub_add_cancel vc]
 have h2:W=Y+B^n*(un-br)+bH*V:=by omega
 have h3:bH≤q:=by
  rw[hq,Nat.le_div_iff_mul_le hV];omega
 have h4:bH=q:=by omega
 refine⟨h4,?_⟩
 have h5:=Nat.div_add_mod W V
 rw[←hq,←h4,Nat.mul_comm]at h5
 omega
theorem aeD{n V W X un br bH q:Nat}(hW:W=X+B^n*un){Y Z cr:Nat}(hX:X+B^n*br=Y+bH*V)(vc:un<br)(hq:q=W/V)(eu:bH≤q+1)(hV:0<V)(hVn:V<B^n)(hY:Y<B^n)(hZ:Z<B^n)(hZY:Z+B^n*cr=Y+V):bH=q+1∧un+cr=br∧Z=W%V:=by
 have h0:B^n*br=B^n*un+B^n*(br-un):=by rw[←Nat.mul_add];congr 1;omega
 have h1:W+B^n*(br-un)=Y+bH*V:=by omega
 have FZ:B^n*1≤B^n*(br-un):=Nat.mul_le_mul_left _ (by omega)
 have h2:W<bH*V:=by omega
 have h3:=OU hq h2
 have h4:bH=q+1:=by omega
 have h5:=Nat.div_add_mod W V
 have h6:=Nat.mod_lt W hV
 rw[←hq,Nat.mul_comm]at h5
 have h7:bH*V=q*V+V:=by rw[h4,Nat.add_mul,Nat.one_mul]
 have h8:W%V+B^n*(br-un)=Z+B^n*cr:=by omega
 have h9:br-un=cr:=by
  have e1:(W%V+B^n*(br-un))/B^n=br-un:=by
   rw[Nat.add_mul_div_left _ _ (by omega),Nat.div_eq_of_lt (by omega),Nat.zero_add]
  have e2:(Z+B^n*cr)/B^n=cr:=by
   rw[Nat.add_mul_div_left _ _ (by omega),Nat.div_eq_of_lt (by omega),Nat.zero_add]
  rw[←e1,←e2,h8]
 subst h9
 exact⟨h4,by omega,by omega⟩
theorem OV(a b:List Nat):val (a++b)=val a+B^a.length*val b:=by
 induction a with
 | nil=>simp[val]
 | cons x a ih=>
  rw[List.cons_append,jA,jA,ih,List.length_cons,Nat.pow_succ,Nat.mul_add,Nat.mul_comm (B^a.length) B,Nat.mul_assoc];omega
theorem Gq(l:List Nat){k:Nat}(hk:k≤l.length):val l=val (l.take k)+B^k*val (l.drop k):=by
 have:=OV (l.take k) (l.drop k)
 rwa [List.take_append_drop,List.length_take,Nat.min_eq_left hk]at this
theorem VT{l:List Nat}{j n V:Nat}(vd:Lt l)(hlen:j+n+1≤l.length)(hd:val (l.drop (j+1))<V)(hV:V≤B^n):
  val (l.drop (j+n+1))=0∧val (l.drop j)=val ((l.drop j).take (n+1))∧val ((l.drop j).take (n+1))<B*V:=by
 have h1:=Gq (l.drop (j+1)) (k:=n) (by simp;omega)
 rw[List.drop_drop,show j+1+n=j+n+1 by omega]at h1
 have h0:val (l.drop (j+n+1))=0:=by
  rcases Nat.eq_zero_or_pos (val (l.drop (j+n+1)))with e | e
  ·exact e
  ·have:B^n*1≤B^n*val (l.drop (j+n+1)):=Nat.mul_le_mul_left _ e
   omega
 have h2:=Gq (l.drop j) (k:=n+1) (by simp;omega)
 rw[List.drop_drop,show j+(n+1)=j+n+1 by omega,h0,Nat.mul_zero,Nat.add_zero]at h2
 refine⟨h0,h2,?_⟩
 rw[←h2]
 have hj:l[j]? = some l[j]:=List.getElem?_eq_getElem (by omega)
 rw[Dq hj,jA]
 have h3:=vd.get hj
 have h4:B*(val (l.drop (j+1))+1)≤B*V:=Nat.mul_le_mul_left _ hd
 rw[Nat.mul_add]at h4
 omega
theorem aeE{l o w':List Nat}{j n V S q:Nat}(vd:Lt l)(hlen:j+n+1≤l.length)(hd:val (l.drop (j+1))<V)(hV:V≤B^n)(ho:j<o.length)
  (hinv:val (o.drop (j+1))*V*B^(j+1)+val l=S) (hq:q=val ((l.drop j).take (n+1))/V) (hw:val w'=val ((l.drop j).take (n+1))%V) (p9:w'.length=n+1):
  val ((o.set j q).drop j)*V*B^j+val (l.take j++w'++l.drop (j+n+1))=S∧val ((l.take j++w'++l.drop (j+n+1)).drop j)<V:=by
 obtain⟨h0,h1,h2⟩:=VT vd hlen hd hV
 have e1:=Gq l (k:=j) (by omega)
 have e2:val (w'++l.drop (j+n+1))=val w':=by rw[OV,h0,Nat.mul_zero,Nat.add_zero]
 have e3:val (l.take j++w'++l.drop (j+n+1))=val (l.take j)+B^j*val w':=by
  rw[List.append_assoc,OV,e2,List.length_take,Nat.min_eq_left (by omega)]
 have e4:=Nat.div_add_mod (val ((l.drop j).take (n+1))) V
 rw[←hq,←hw]at e4
 refine⟨?_,?_⟩
 ·rw[set_drop ho,jA,e3]
  rw[h1,←e4]at e1
  have e5:(q+B*val (o.drop (j+1)))*V*B^j=B^j*(V*q)+val (o.drop (j+1))*V*B^(j+1):=by
   rw[Nat.add_mul,Nat.add_mul,Nat.pow_succ,Nat.mul_comm q V,Nat.mul_comm (V*q),Nat.mul_assoc B,Nat.mul_comm (B^j) B,Nat.mul_left_comm _ B,Nat.mul_assoc B]
  rw[Nat.mul_add]at e1
  omega
 ·rw[List.append_assoc,List.drop_append_of_le_length (by simp;omega),List.drop_of_length_le (by rw[List.length_take];omega),List.nil_append,e2,hw]
  exact Nat.mod_lt _ (by omega)
theorem aeF{l:List Nat}{x sc n m y:Nat}(hm:m≤l.length)(hl:val l=x*sc)(hx:x<B^(m+(n-1)))(hy:B^(n-1)≤y)(hs:0<sc):val (l.drop m)<y*sc:=by
 have h1:=Gq l hm
 have h2:B^m*val (l.drop m)<B^m*(y*sc):=by
  have a1:x*sc<B^(m+(n-1))*sc:=Nat.mul_lt_mul_of_pos_right hx hs
  have a2:B^(m+(n-1))*sc≤B^m*(y*sc):=by
   rw[Nat.pow_add,Nat.mul_assoc]
   exact Nat.mul_le_mul_left _ (Nat.mul_le_mul_right _ hy)
  omega
 exact Nat.lt_of_mul_lt_mul_left h2
theorem aeG{Q R x y sc:Nat}(h:Q*(y*sc)+R=x*sc)(hR:R<y*sc)(hs:0<sc):Q=x/y∧R/sc=x%y:=by
 have h1:x*sc/(y*sc)=Q:=by
  rw[←h,Nat.mul_comm Q,Nat.mul_add_div (by omega),Nat.div_eq_of_lt hR,Nat.add_zero]
 have h2:x*sc%(y*sc)=R:=by
  rw[←h,Nat.mul_comm Q,Nat.mul_add_mod,Nat.mod_eq_of_lt hR]
 rw[Nat.mul_div_mul_right _ _ hs]at h1
 rw[Nat.mul_mod_mul_right]at h2
 exact⟨h1.symm,by rw[←h2,Nat.mul_div_cancel _ hs]⟩
end Num
