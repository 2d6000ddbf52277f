/- Part 2 of the proof: Ty, Num, Dat, Nat1, Nat2, Nat3, Nat4, Nat5, Nat6, Nat7, Nat8, Knu. -/
import Derived.Test.YtfjncmjbhfdnpaaGreatA01
import Derived.Test.YtfjncmjbhfdnpaaGreatProg
import Derived.KernelRfl
set_option linter.unusedVariables false
namespace Go.au
open Go.Proofs
def tb:Tb:=[
 .no,.no,.it .i64,.it .i64,.ce,.it .u8,.it .u8,.st 4 [(0,1),(1,1),(2,1),(3,1)],
 .no,.no,.no,.no,.it .u64,.st 2 [(0,1),(1,1)],.no,.ce,
 .ce,.ce,.st 1 [(0,1)],.no,.no,.it .i32,.sl 4 1,.sl 78 5,
 .st 2 [(0,1),(1,1)],.st 2 [(0,1),(1,1)],.sl 31 3,.no,.no,.sl 121 1,.st 3 [(0,1),(1,1),(2,1)],.st 3 [(0,1),(1,1),(2,1)],
 .st 7 [(0,1),(1,3),(4,1),(5,1),(6,1)],.st 7 [(0,1),(1,3),(4,1),(5,1),(6,1)],.it .i64,.no,.no,.no,.no,.no,
 .sl 26 1,.no,.st 5 [(0,1),(1,1),(2,1),(3,1),(4,1)],.st 5 [(0,1),(1,1),(2,1),(3,1),(4,1)],.no,.no,.no,.no,
 .no,.it .i8,.no,.no,.no,.no,.no,.no,
 .no,.no,.no,.no,.no,.no,.no,.sl 66 2,
 .sl 131 2,.st 2 [(0,1),(1,1)],.st 2 [(0,1),(1,1)],.no,.no,.no,.no,.no,
 .no,.no,.no,.no,.no,.st 5 [(0,1),(1,1),(2,3)],.st 5 [(0,1),(1,1),(2,3)],.no,
 .no,.no,.ce,.no,.no,.sl 90 3,.no,.no,
 .ce,.st 3 [(0,1),(1,1),(2,1)],.st 3 [(0,1),(1,1),(2,1)],.no,.no,.no,.sl 3 1,.sl 85 1,
 .st 9 [(0,1),(1,1),(2,1),(3,1),(4,1),(5,1),(6,1),(7,1),(8,1)],.st 9 [(0,1),(1,1),(2,1),(3,1),(4,1),(5,1),(6,1),(7,1),(8,1)],.no,.no,.no,.no,.st 2 [(0,1),(1,1)],.st 2 [(0,1),(1,1)],
 .no,.no,.no,.no,.no,.no,.no,.no,
 .no,.no,.no,.no,.no,.no,.no,.no,
 .it .u64,.it .u32,.no,.no,.no,.no,.no,.no,
 .no,.no,.st 2 [(0,1),(1,1)],.st 2 [(0,1),(1,1)],.no,.no,.no,.no,
 .no,.no,.no,.no,.no,.no,.no,.no,
 .no,.no,.sl 2 1,.no,.no,.no,.no,.no,
 .no,.no,.no,.no,.no,.ce,.sl 161 1,.st 3 [(0,1),(1,1),(2,1)],
 .st 3 [(0,1),(1,1),(2,1)],.sl 163 2,.st 2 [(0,1),(1,1)],.st 2 [(0,1),(1,1)],.no,.no,.no,.no,
 .no,.no,.no,.no,.no,.no,.no,.no,
 .no,.sl 121 1,.st 3 [(0,1),(1,1),(2,1)],.st 3 [(0,1),(1,1),(2,1)],.no,.no,.no,.no,
 .no,.no,.no,.no,.no,.no,.no,.no,
 .no,.no,.no,.no,.no,.no,.no,.no,
 .no,.no,.no,.no,.no,.no,.no,.no,
 .no,.no,.no,.no,.no,.it .u64,.no,.no,
 .no,.no,.no,.it .i64,.no,.no,.no,.no,
 .no,.no,.no,.no,.no,.no,.no,.no,
 .no,.no,.no,.it .u64,.no,.no,.no,.ce,
 .no,.ce,.no,.no,.no,.st 4 [(0,1),(1,1),(2,1),(3,1)]]
def FT(P:Program):Nat→Tb→Prop
 | _,[]=>True
 | k,x::r=>cA P k x∧FT P (k+1) r
theorem FT.out{P:Program}:∀(r:Tb)(k:Nat),FT P k r→∀(t:Nat)(x:Ti),r[t]? = some x→cA P (k+t) x:=by
 intro r
 induction r with
 | nil=>intro k _ t x h;simp at h
 | cons y r ih=>
  intro k h t x hx
  cases t with
  | zero=>simp only[List.getElem?_cons_zero,Option.some.injEq]at hx;subst hx;exact h.1
  | succ t=>have:=ih (k+1) h.2 t x (by simpa using hx);rwa [show k+(t+1)=k+1+t by omega]
theorem pL{P:Program}{t e sz:Nat}(hu:P.underlying t=some (.slice e))(h:(P.info? e).map (·.size)=some sz):cA P t (.sl e sz):=by
 refine⟨hu,?_⟩
 cases hi:P.info? e with
 | none=>rw[hi]at h;cases h
 | some i=>rw[hi]at h;exact⟨i,rfl,by simpa using h⟩
theorem qu{P:Program}{t:Nat}{k:IntKind}(hu:P.underlying t=some (.int k)):cA P t (.it k):=hu
theorem wj{P:Program}{t:Nat}{d:TypeDesc}(hu:P.underlying t=some d)(h:(match d with | .struct _ | .array .. =>false | _=>true)=true):cA P t .ce:=
 ⟨d,hu,(fun _ e=>by subst e;cases h),(fun _ _ e=>by subst e;cases h)⟩
def Kl(P:Program)(fs:List Field)(ps:List (Nat×Nat)):Bool:=
 match fs,ps with
 | [],[]=>true
 | f::fs,p::ps=>Nat.beq f.offset p.1&&(match P.info? f.type with | some j=>Nat.beq j.size p.2 | none=>false) && !Nat.beq p.2 0&&Kl P fs ps
 | _,_=>false
theorem ac9{P:Program}:∀(fs:List Field)(ps:List (Nat×Nat)),Kl P fs ps=true→fs.length=ps.length∧∀(f:Nat)(p:Nat×Nat),ps[f]? = some p→∃fd j,fs[f]? = some fd∧fd.offset=p.1∧P.info? fd.type=some j∧j.size=p.2∧p.2≠0:=by
 intro fs
 induction fs with
 | nil=>intro ps h;cases ps with
  | nil=>exact⟨rfl,fun f p hp=>by simp at hp⟩
  | cons p ps=>cases h
 | cons fd fs ih=>intro ps h;cases ps with
  | nil=>cases h
  | cons p ps=>
   simp only[Kl,Bool.and_eq_true]at h
   obtain⟨⟨⟨h1,h2⟩,h3⟩,h4⟩:=h
   obtain⟨h5,h6⟩:=ih ps h4
   refine⟨by simp[h5],fun f q hq=> ?_⟩
   cases f with
   | zero=>
    simp only[List.getElem?_cons_zero,Option.some.injEq]at hq
    subst hq
    cases hj:P.info? fd.type with
    | none=>rw[hj]at h2;cases h2
    | some j=>
     rw[hj]at h2
     exact⟨fd,j,rfl,Nat.eq_of_beq_eq_true h1,hj,Nat.eq_of_beq_eq_true h2,fun e=>by rw[e]at h3;cases h3⟩
   | succ f=>obtain⟨fd',j,h7⟩:=h6 f q (by simpa using hq);exact⟨fd',j,by simpa using h7⟩
theorem ij{P:Program}{t n:Nat}{fs:List Field}{ps:List (Nat×Nat)}(hu:P.underlying t=some (.struct fs.toArray))(h:(P.info? t).map (·.size)=some n)(hf:Kl P fs ps=true):cA P t (.st n ps):=by
 cases hi:P.info? t with
 | none=>rw[hi]at h;cases h
 | some i=>
  obtain⟨h1,h2⟩:=ac9 fs ps hf
  rw[hi]at h
  exact⟨fs.toArray,i,hu,hi,by simpa using h,by simpa using h1,fun f p hp=>by obtain⟨fd,j,h3⟩:=h2 f p hp;exact⟨fd,j,by simpa using h3⟩⟩
theorem jW{P:Program}{e sz bytes:Nat}{z:Value}(h:(P.info? e).map (fun i=>(i.zero,i.size,i.bytes))=some (some z,sz,bytes))(hz:z.cells.size=sz)(hp:0<sz):fU P e sz z bytes:=by
 cases hi:P.info? e with
 | none=>rw[hi]at h;cases h
 | some i=>
  rw[hi]at h
  simp only[Option.map_some,Option.some.injEq,Prod.mk.injEq]at h
  exact⟨i,hi,h.1,h.2.1,h.2.2,hz,hp⟩
theorem ti2:cA Tryz.prog 2 (.it .i64):=qu Tryz.underlying2
theorem ti3:cA Tryz.prog 3 (.it .i64):=qu Tryz.underlying3
theorem ti4:cA Tryz.prog 4 (.ce):=wj Tryz.underlying4 rfl
theorem ti5:cA Tryz.prog 5 (.it .u8):=qu Tryz.underlying5
theorem VA:cA Tryz.prog 6 (.it .u8):=qu Tryz.underlying6
theorem ti7:cA Tryz.prog 7 (.st 4 [(0,1),(1,1),(2,1),(3,1)]):=ij Tryz.underlying7 (by kernel_rfl) (by kernel_rfl)
theorem ada:cA Tryz.prog 12 (.it .u64):=qu Tryz.underlying12
theorem adb:cA Tryz.prog 13 (.st 2 [(0,1),(1,1)]):=ij Tryz.underlying13 (by kernel_rfl) (by kernel_rfl)
theorem ade:cA Tryz.prog 15 (.ce):=wj Tryz.underlying15 rfl
theorem adf:cA Tryz.prog 16 (.ce):=wj Tryz.underlying16 rfl
theorem adg:cA Tryz.prog 17 (.ce):=wj Tryz.underlying17 rfl
theorem adh:cA Tryz.prog 18 (.st 1 [(0,1)]):=ij Tryz.underlying18 (by kernel_rfl) (by kernel_rfl)
theorem OT:cA Tryz.prog 21 (.it .i32):=qu Tryz.underlying21
theorem adi:cA Tryz.prog 22 (.sl 4 1):=pL Tryz.underlying22 (by kernel_rfl)
theorem VB:cA Tryz.prog 23 (.sl 78 5):=pL Tryz.underlying23 (by kernel_rfl)
theorem adj:cA Tryz.prog 24 (.st 2 [(0,1),(1,1)]):=ij Tryz.underlying24 (by kernel_rfl) (by kernel_rfl)
theorem adk:cA Tryz.prog 25 (.st 2 [(0,1),(1,1)]):=ij Tryz.underlying25 (by kernel_rfl) (by kernel_rfl)
theorem adl:cA Tryz.prog 26 (.sl 31 3):=pL Tryz.underlying26 (by kernel_rfl)
theorem Km:cA Tryz.prog 29 (.sl 121 1):=pL Tryz.underlying29 (by kernel_rfl)
theorem adm:cA Tryz.prog 30 (.st 3 [(0,1),(1,1),(2,1)]):=ij Tryz.underlying30 (by kernel_rfl) (by kernel_rfl)
theorem adn:cA Tryz.prog 31 (.st 3 [(0,1),(1,1),(2,1)]):=ij Tryz.underlying31 (by kernel_rfl) (by kernel_rfl)
theorem ado:cA Tryz.prog 32 (.st 7 [(0,1),(1,3),(4,1),(5,1),(6,1)]):=ij Tryz.underlying32 (by kernel_rfl) (by kernel_rfl)
theorem adp:cA Tryz.prog 33 (.st 7 [(0,1),(1,3),(4,1),(5,1),(6,1)]):=ij Tryz.underlying33 (by kernel_rfl) (by kernel_rfl)
theorem VD:cA Tryz.prog 34 (.it .i64):=qu Tryz.underlying34
theorem adq:cA Tryz.prog 40 (.sl 26 1):=pL Tryz.underlying40 (by kernel_rfl)
theorem adr:cA Tryz.prog 42 (.st 5 [(0,1),(1,1),(2,1),(3,1),(4,1)]):=ij Tryz.underlying42 (by kernel_rfl) (by kernel_rfl)
theorem ads:cA Tryz.prog 43 (.st 5 [(0,1),(1,1),(2,1),(3,1),(4,1)]):=ij Tryz.underlying43 (by kernel_rfl) (by kernel_rfl)
theorem adt:cA Tryz.prog 49 (.it .i8):=qu Tryz.underlying49
theorem adu:cA Tryz.prog 63 (.sl 66 2):=pL Tryz.underlying63 (by kernel_rfl)
theorem adv:cA Tryz.prog 64 (.sl 131 2):=pL Tryz.underlying64 (by kernel_rfl)
theorem adw:cA Tryz.prog 65 (.st 2 [(0,1),(1,1)]):=ij Tryz.underlying65 (by kernel_rfl) (by kernel_rfl)
theorem adx:cA Tryz.prog 66 (.st 2 [(0,1),(1,1)]):=ij Tryz.underlying66 (by kernel_rfl) (by kernel_rfl)
theorem ady:cA Tryz.prog 77 (.st 5 [(0,1),(1,1),(2,3)]):=ij Tryz.underlying77 (by kernel_rfl) (by kernel_rfl)
theorem adz:cA Tryz.prog 78 (.st 5 [(0,1),(1,1),(2,3)]):=ij Tryz.underlying78 (by kernel_rfl) (by kernel_rfl)
theorem adA:cA Tryz.prog 82 (.ce):=wj Tryz.underlying82 rfl
theorem adB:cA Tryz.prog 85 (.sl 90 3):=pL Tryz.underlying85 (by kernel_rfl)
theorem adC:cA Tryz.prog 88 (.ce):=wj Tryz.underlying88 rfl
theorem adD:cA Tryz.prog 89 (.st 3 [(0,1),(1,1),(2,1)]):=ij Tryz.underlying89 (by kernel_rfl) (by kernel_rfl)
theorem adE:cA Tryz.prog 90 (.st 3 [(0,1),(1,1),(2,1)]):=ij Tryz.underlying90 (by kernel_rfl) (by kernel_rfl)
theorem adF:cA Tryz.prog 94 (.sl 3 1):=pL Tryz.underlying94 (by kernel_rfl)
theorem adG:cA Tryz.prog 95 (.sl 85 1):=pL Tryz.underlying95 (by kernel_rfl)
theorem adH:cA Tryz.prog 96 (.st 9 [(0,1),(1,1),(2,1),(3,1),(4,1),(5,1),(6,1),(7,1),(8,1)]):=ij Tryz.underlying96 (by kernel_rfl) (by kernel_rfl)
theorem adI:cA Tryz.prog 97 (.st 9 [(0,1),(1,1),(2,1),(3,1),(4,1),(5,1),(6,1),(7,1),(8,1)]):=ij Tryz.underlying97 (by kernel_rfl) (by kernel_rfl)
theorem adJ:cA Tryz.prog 102 (.st 2 [(0,1),(1,1)]):=ij Tryz.underlying102 (by kernel_rfl) (by kernel_rfl)
theorem adK:cA Tryz.prog 103 (.st 2 [(0,1),(1,1)]):=ij Tryz.underlying103 (by kernel_rfl) (by kernel_rfl)
theorem adL:cA Tryz.prog 120 (.it .u64):=qu Tryz.underlying120
theorem adM:cA Tryz.prog 121 (.it .u32):=qu Tryz.underlying121
theorem adN:cA Tryz.prog 130 (.st 2 [(0,1),(1,1)]):=ij Tryz.underlying130 (by kernel_rfl) (by kernel_rfl)
theorem adO:cA Tryz.prog 131 (.st 2 [(0,1),(1,1)]):=ij Tryz.underlying131 (by kernel_rfl) (by kernel_rfl)
theorem adP:cA Tryz.prog 146 (.sl 2 1):=pL Tryz.underlying146 (by kernel_rfl)
theorem adQ:cA Tryz.prog 157 (.ce):=wj Tryz.underlying157 rfl
theorem adR:cA Tryz.prog 158 (.sl 161 1):=pL Tryz.underlying158 (by kernel_rfl)
theorem adS:cA Tryz.prog 159 (.st 3 [(0,1),(1,1),(2,1)]):=ij Tryz.underlying159 (by kernel_rfl) (by kernel_rfl)
theorem adT:cA Tryz.prog 160 (.st 3 [(0,1),(1,1),(2,1)]):=ij Tryz.underlying160 (by kernel_rfl) (by kernel_rfl)
theorem adU:cA Tryz.prog 161 (.sl 163 2):=pL Tryz.underlying161 (by kernel_rfl)
theorem adV:cA Tryz.prog 162 (.st 2 [(0,1),(1,1)]):=ij Tryz.underlying162 (by kernel_rfl) (by kernel_rfl)
theorem adW:cA Tryz.prog 163 (.st 2 [(0,1),(1,1)]):=ij Tryz.underlying163 (by kernel_rfl) (by kernel_rfl)
theorem adX:cA Tryz.prog 177 (.sl 121 1):=pL Tryz.underlying177 (by kernel_rfl)
theorem adY:cA Tryz.prog 178 (.st 3 [(0,1),(1,1),(2,1)]):=ij Tryz.underlying178 (by kernel_rfl) (by kernel_rfl)
theorem adZ:cA Tryz.prog 179 (.st 3 [(0,1),(1,1),(2,1)]):=ij Tryz.underlying179 (by kernel_rfl) (by kernel_rfl)
theorem ad0:cA Tryz.prog 213 (.it .u64):=qu Tryz.underlying213
theorem ad1:cA Tryz.prog 219 (.it .i64):=qu Tryz.underlying219
theorem ad2:cA Tryz.prog 235 (.it .u64):=qu Tryz.underlying235
theorem ad3:cA Tryz.prog 239 (.ce):=wj Tryz.underlying239 rfl
theorem ad4:cA Tryz.prog 241 (.ce):=wj Tryz.underlying241 rfl
theorem ad5:cA Tryz.prog 245 (.st 4 [(0,1),(1,1),(2,1),(3,1)]):=ij Tryz.underlying245 (by kernel_rfl) (by kernel_rfl)
set_option maxRecDepth 10000 in
theorem ad6:FT Tryz.prog 0 tb:=⟨trivial,trivial,ti2,ti3,ti4,ti5,VA,ti7,trivial,trivial,trivial,trivial,ada,adb,trivial,ade,adf,adg,adh,trivial,trivial,OT,adi,VB,adj,adk,adl,trivial,trivial,Km,adm,adn,ado,adp,VD,trivial,trivial,trivial,trivial,trivial,adq,trivial,adr,ads,trivial,trivial,trivial,trivial,trivial,adt,trivial,trivial,trivial,trivial,trivial,trivial,trivial,trivial,trivial,trivial,trivial,trivial,trivial,adu,adv,adw,adx,trivial,trivial,trivial,trivial,trivial,trivial,trivial,trivial,trivial,trivial,ady,adz,trivial,trivial,trivial,adA,trivial,trivial,adB,trivial,trivial,adC,adD,adE,trivial,trivial,trivial,adF,adG,adH,adI,trivial,trivial,trivial,trivial,adJ,adK,trivial,trivial,trivial,trivial,trivial,trivial,trivial,trivial,trivial,trivial,trivial,trivial,trivial,trivial,trivial,trivial,adL,adM,trivial,trivial,trivial,trivial,trivial,trivial,trivial,trivial,adN,adO,trivial,trivial,trivial,trivial,trivial,trivial,trivial,trivial,trivial,trivial,trivial,trivial,trivial,trivial,adP,trivial,trivial,trivial,trivial,trivial,trivial,trivial,trivial,trivial,trivial,adQ,adR,adS,adT,adU,adV,adW,trivial,trivial,trivial,trivial,trivial,trivial,trivial,trivial,trivial,trivial,trivial,trivial,trivial,adX,adY,adZ,trivial,trivial,trivial,trivial,trivial,trivial,trivial,trivial,trivial,trivial,trivial,trivial,trivial,trivial,trivial,trivial,trivial,trivial,trivial,trivial,trivial,trivial,trivial,trivial,trivial,trivial,trivial,trivial,trivial,trivial,trivial,trivial,trivial,ad0,trivial,trivial,trivial,trivial,trivial,ad1,trivial,trivial,trivial,trivial,trivial,trivial,trivial,trivial,trivial,trivial,trivial,trivial,trivial,trivial,trivial,ad2,trivial,trivial,trivial,ad3,trivial,ad4,trivial,trivial,trivial,ad5,trivial⟩
theorem ah:jU Tryz.prog tb:=fun t x h=>by have:=FT.out tb 0 ad6 t x h;rwa [Nat.zero_add]at this
theorem follows:Tryz.prog.follows .mixedOrders=true:=by kernel_rfl
theorem el2:fU Tryz.prog 2 1 (.int .i64 0) 8:=jW (by kernel_rfl) rfl (by decide)
theorem oE:∃i,Tryz.prog.info? 2=some i∧i.size=1:=by obtain⟨i,h,_,h2,_⟩:=el2;exact⟨i,h,h2⟩
theorem jb:fU Tryz.prog 3 1 (.int .i64 0) 8:=jW (by kernel_rfl) rfl (by decide)
theorem pM:∃i,Tryz.prog.info? 3=some i∧i.size=1:=by obtain⟨i,h,_,h2,_⟩:=jb;exact⟨i,h,h2⟩
theorem Kn:fU Tryz.prog 4 1 (.bool false) 1:=jW (by kernel_rfl) rfl (by decide)
theorem FU:∃i,Tryz.prog.info? 4=some i∧i.size=1:=by obtain⟨i,h,_,h2,_⟩:=Kn;exact⟨i,h,h2⟩
theorem ad7:fU Tryz.prog 23 1 (.slice none 0 0) 24:=jW (by kernel_rfl) rfl (by decide)
theorem Ko:∃i,Tryz.prog.info? 23=some i∧i.size=1:=by obtain⟨i,h,_,h2,_⟩:=ad7;exact⟨i,h,h2⟩
theorem uL:fU Tryz.prog 25 2 (.agg #[.slice none 0 0,.slice none 0 0]) 48:=jW (by kernel_rfl) rfl (by decide)
theorem wk:∃i,Tryz.prog.info? 25=some i∧i.size=2:=by obtain⟨i,h,_,h2,_⟩:=uL;exact⟨i,h,h2⟩
theorem rE:fU Tryz.prog 26 1 (.slice none 0 0) 24:=jW (by kernel_rfl) rfl (by decide)
theorem FV:∃i,Tryz.prog.info? 26=some i∧i.size=1:=by obtain⟨i,h,_,h2,_⟩:=rE;exact⟨i,h,h2⟩
theorem bY:fU Tryz.prog 31 3 (.agg #[.bool false,.slice none 0 0,.slice none 0 0]) 56:=jW (by kernel_rfl) rfl (by decide)
theorem aY:∃i,Tryz.prog.info? 31=some i∧i.size=3:=by obtain⟨i,h,_,h2,_⟩:=bY;exact⟨i,h,h2⟩
theorem uM:fU Tryz.prog 33 7 (.agg #[.int .i64 0,.bool false,.slice none 0 0,.slice none 0 0,.slice none 0 0,.slice none 0 0,.slice none 0 0]) 136:=jW (by kernel_rfl) rfl (by decide)
theorem pN:∃i,Tryz.prog.info? 33=some i∧i.size=7:=by obtain⟨i,h,_,h2,_⟩:=uM;exact⟨i,h,h2⟩
theorem ad8:fU Tryz.prog 40 1 (.slice none 0 0) 24:=jW (by kernel_rfl) rfl (by decide)
theorem FW:∃i,Tryz.prog.info? 40=some i∧i.size=1:=by obtain⟨i,h,_,h2,_⟩:=ad8;exact⟨i,h,h2⟩
theorem wm:fU Tryz.prog 43 5 (.agg #[.int .i64 0,.slice none 0 0,.slice none 0 0,.slice none 0 0,.slice none 0 0]) 104:=jW (by kernel_rfl) rfl (by decide)
theorem oF:∃i,Tryz.prog.info? 43=some i∧i.size=5:=by obtain⟨i,h,_,h2,_⟩:=wm;exact⟨i,h,h2⟩
theorem gY:fU Tryz.prog 78 5 (.agg #[.slice none 0 0,.int .i64 0,.bool false,.slice none 0 0,.slice none 0 0]) 88:=jW (by kernel_rfl) rfl (by decide)
theorem nM:∃i,Tryz.prog.info? 78=some i∧i.size=5:=by obtain⟨i,h,_,h2,_⟩:=gY;exact⟨i,h,h2⟩
theorem VE:fU Tryz.prog 82 1 (.pointer none) 8:=jW (by kernel_rfl) rfl (by decide)
theorem aea:∃i,Tryz.prog.info? 82=some i∧i.size=1:=by obtain⟨i,h,_,h2,_⟩:=VE;exact⟨i,h,h2⟩
theorem OU:fU Tryz.prog 85 1 (.slice none 0 0) 24:=jW (by kernel_rfl) rfl (by decide)
theorem FX:∃i,Tryz.prog.info? 85=some i∧i.size=1:=by obtain⟨i,h,_,h2,_⟩:=OU;exact⟨i,h,h2⟩
theorem fg:fU Tryz.prog 90 3 (.agg #[.int .i64 0,.int .i64 0,.pointer none]) 24:=jW (by kernel_rfl) rfl (by decide)
theorem cI:∃i,Tryz.prog.info? 90=some i∧i.size=3:=by obtain⟨i,h,_,h2,_⟩:=fg;exact⟨i,h,h2⟩
theorem aeb:fU Tryz.prog 94 1 (.slice none 0 0) 24:=jW (by kernel_rfl) rfl (by decide)
theorem uN:∃i,Tryz.prog.info? 94=some i∧i.size=1:=by obtain⟨i,h,_,h2,_⟩:=aeb;exact⟨i,h,h2⟩
theorem aec:fU Tryz.prog 95 1 (.slice none 0 0) 24:=jW (by kernel_rfl) rfl (by decide)
theorem aed:∃i,Tryz.prog.info? 95=some i∧i.size=1:=by obtain⟨i,h,_,h2,_⟩:=aec;exact⟨i,h,h2⟩
theorem aee:fU Tryz.prog 97 9 (.agg #[.int .i64 0,.int .i64 0,.slice none 0 0,.slice none 0 0,.slice none 0 0,.slice none 0 0,.slice none 0 0,.slice none 0 0,.slice none 0 0]) 184:=jW (by kernel_rfl) rfl (by decide)
theorem Kp:fU Tryz.prog 103 2 (.agg #[.slice none 0 0,.slice none 0 0]) 48:=jW (by kernel_rfl) rfl (by decide)
theorem OV:∃i,Tryz.prog.info? 103=some i∧i.size=2:=by obtain⟨i,h,_,h2,_⟩:=Kp;exact⟨i,h,h2⟩
theorem eD:fU Tryz.prog 121 1 (.int .u32 0) 4:=jW (by kernel_rfl) rfl (by decide)
theorem oG:∃i,Tryz.prog.info? 121=some i∧i.size=1:=by obtain⟨i,h,_,h2,_⟩:=eD;exact⟨i,h,h2⟩
theorem aef:fU Tryz.prog 158 1 (.slice none 0 0) 24:=jW (by kernel_rfl) rfl (by decide)
theorem Kq:∃i,Tryz.prog.info? 158=some i∧i.size=1:=by obtain⟨i,h,_,h2,_⟩:=aef;exact⟨i,h,h2⟩
theorem aeg:fU Tryz.prog 160 3 (.agg #[.slice none 0 0,.slice none 0 0,.bool false]) 56:=jW (by kernel_rfl) rfl (by decide)
theorem De:fU Tryz.prog 161 1 (.slice none 0 0) 24:=jW (by kernel_rfl) rfl (by decide)
theorem fO:fU Tryz.prog 163 2 (.agg #[.int .i64 0,.int .i64 0]) 16:=jW (by kernel_rfl) rfl (by decide)
theorem eh:∃i,Tryz.prog.info? 163=some i∧i.size=2:=by obtain⟨i,h,_,h2,_⟩:=fO;exact⟨i,h,h2⟩
theorem kn:fU Tryz.prog 179 3 (.agg #[.bool false,.slice none 0 0,.slice none 0 0]) 56:=jW (by kernel_rfl) rfl (by decide)
theorem jc:∃i,Tryz.prog.info? 179=some i∧i.size=3:=by obtain⟨i,h,_,h2,_⟩:=kn;exact⟨i,h,h2⟩
end Go.au
namespace Num
def B:Nat:=1000000000
theorem nh:0<B:=by decide
theorem cj:B=1000000000:=rfl
def val:List Nat→Nat
 | []=>0
 | x::xs=>x+B*val xs
theorem jv(x:Nat)(xs:List Nat):val (x::xs)=x+B*val xs:=rfl
theorem VF(xs ys:List Nat):val (xs++ys)=val xs+B^xs.length*val ys:=by
 induction xs with
 | nil=>simp[val]
 | cons x xs ih=>rw[List.cons_append,jv,jv,ih,List.length_cons,Nat.pow_succ];grind
theorem rF(xs:List Nat)(y:Nat):val (xs ++ [y])=val xs+B^xs.length*y:=by
 rw[VF];simp[val]
def Lt(l:List Nat):Prop:=∀x,x∈l→x<B
theorem Lt.nil:Lt []:=fun x h=>by cases h
theorem Lt.append{a b:List Nat}(ha:Lt a)(hb:Lt b):Lt (a++b):=fun x h=>by
 rcases List.mem_append.1 h with h | h
 ·exact ha x h
 ·exact hb x h
theorem Lt.snoc{a:List Nat}{y:Nat}(ha:Lt a)(hy:y<B):Lt (a ++ [y]):=ha.append (fun x h=>by simp at h;omega)
theorem Lt.take{a:List Nat}(ha:Lt a)(k:Nat):Lt (a.take k):=fun x h=>ha x (List.mem_of_mem_take h)
theorem Lt.drop{a:List Nat}(ha:Lt a)(k:Nat):Lt (a.drop k):=fun x h=>ha x (List.mem_of_mem_drop h)
theorem Lt.get{a:List Nat}(ha:Lt a){i y:Nat}(h:a[i]? = some y):y<B:=ha y (List.mem_of_getElem? h)
theorem uO{l:List Nat}(h:Lt l):val l<B^l.length:=by
 induction l with
 | nil=>simp[val]
 | cons x l ih=>
  have h1:=h x (List.mem_cons_self ..)
  have h2:=ih (fun y hy=>h y (List.mem_cons_of_mem _ hy))
  rw[jv,List.length_cons,Nat.pow_succ]
  have h3:B*(val l+1)≤B*B^l.length:=Nat.mul_le_mul_left _ h2
  rw[Nat.mul_add,Nat.mul_one]at h3
  rw[Nat.mul_comm (B^l.length)];omega
theorem kP{l:List Nat}{i x:Nat}(h:l[i]? = some x):val (l.take (i+1))=val (l.take i)+B^i*x:=by
 have hi:i<l.length:=(List.getElem?_eq_some_iff.1 h).1
 have hx:l[i]=x:=(List.getElem?_eq_some_iff.1 h).2
 rw[List.take_succ_eq_append_getElem hi,hx,rF,List.length_take,Nat.min_eq_left (by omega)]
structure rG(l:List Nat):Prop where
 lt:Lt l
 last:∀x,l.getLast?=some x→x≠0
theorem rG.nil:rG []:=⟨Lt.nil,fun x h=>by simp at h⟩
def yE:Nat→Nat→List Nat
 | 0,_=>[]
 | f+1,n=>if n=0 then []else(n%B)::yE f (n/B)
def an(n:Nat):List Nat:=yE n n
theorem aeh(f:Nat):∀g n,n≤f→n≤g→yE f n=yE g n:=by
 induction f with
 | zero=>intro g n h _;obtain rfl:n=0:=by omega
         cases g <;> simp[yE]
 | succ f ih=>
  intro g n h hg
  cases g with
  | zero=>obtain rfl:n=0:=by omega
          simp[yE]
  | succ g=>
   simp only[yE]
   split
   ·rfl
   ·rename_i hn
    have:n/B<n:=Nat.div_lt_self (by omega) (by decide)
    rw[ih g (n/B) (by omega) (by omega)]
theorem qv:an 0 = []:=rfl
theorem yF{n:Nat}(h:0<n):an n=(n%B)::an (n/B):=by
 unfold an
 obtain⟨m,rfl⟩:∃m,n=m+1:=⟨n-1,by omega⟩
 rw[yE,if_neg (by omega)]
 have:(m+1)/B<m+1:=Nat.div_lt_self (by omega) (by decide)
 rw[aeh m ((m+1)/B) ((m+1)/B) (by omega) (Nat.le_refl _)]
theorem cR(n:Nat):val (an n)=n:=by
 induction n using Nat.strongRecOn with
 | _ n ih=>
  rcases Nat.eq_zero_or_pos n with h | h
  ·subst h;rfl
  ·rw[yF h,jv,ih (n/B) (Nat.div_lt_self h (by decide))]
   exact Nat.mod_add_div n B
theorem VG{n:Nat}(h:0<n):an n≠[]:=by rw[yF h];simp
theorem fP(n:Nat):rG (an n):=by
 induction n using Nat.strongRecOn with
 | _ n ih=>
  rcases Nat.eq_zero_or_pos n with h | h
  ·subst h;exact rG.nil
  ·have uP:=ih (n/B) (Nat.div_lt_self h (by decide))
   rw[yF h]
   refine⟨fun x hx=> ?_,fun x hx=> ?_⟩
   ·rcases List.mem_cons.1 hx with e | e
    ·rw[e];exact Nat.mod_lt _ nh
    ·exact uP.lt x e
   ·rcases Nat.eq_zero_or_pos (n/B)with h0 | h0
    ·rw[h0,qv]at hx
     simp at hx
     have:=Nat.mod_add_div n B
     rw[h0]at this
     omega
    ·cases hl:an (n/B)with
     | nil=>exact absurd hl (VG h0)
     | cons y ys=>
      rw[hl,List.getLast?_cons_cons,←hl]at hx
      exact uP.last x hx
theorem rG.pos{l:List Nat}(h:rG l)(hl:l≠[]):B^(l.length-1)≤val l:=by
 have e:l=l.dropLast ++ [l.getLast hl]:=(List.dropLast_concat_getLast hl).symm
 have hx:=h.last (l.getLast hl) (List.getLast?_eq_some_getLast hl)
 rw[e,rF]
 simp only[List.length_append,List.length_dropLast,List.length_singleton]
 have:B^(l.length-1)*1≤B^(l.length-1)*l.getLast hl:=Nat.mul_le_mul_left _ (by omega)
 rw[Nat.mul_one]at this
 have e2:l.length-1+1-1=l.length-1:=by omega
 rw[e2];omega
theorem aei{l:List Nat}(h:Lt l)(hp:l = []∨B^(l.length-1)≤val l):rG l:=by
 refine⟨h,fun x hx h0=> ?_⟩
 subst h0
 have hl:l≠[]:=fun e=>by subst e;simp at hx
 rcases hp with e | hp
 ·exact hl e
 ·have e:l=l.dropLast ++ [0]:=by
   have:=(List.dropLast_concat_getLast hl).symm
   rw[List.getLast?_eq_some_getLast hl]at hx
   simp only[Option.some.injEq]at hx
   rw[hx]at this
   exact this
  have hv:val l=val l.dropLast:=by
   have:=rF l.dropLast 0
   rw[←e,Nat.mul_zero]at this;omega
  have bI:=uO (l:=l.dropLast) (fun x hx=>h x ((List.dropLast_sublist l).subset hx))
  rw[List.length_dropLast]at bI
  omega
theorem VH{l:List Nat}(h:rG l):an (val l)=l:=by
 induction l with
 | nil=>rfl
 | cons x l ih=>
  have hx:x<B:=h.lt x (List.mem_cons_self ..)
  have hp:0<val (x::l):=by
   have:=h.pos (by simp)
   have h2:0<B^((x::l).length-1):=Nat.pow_pos nh
   omega
  rw[yF hp,jv]
  have h1:(x+B*val l)%B=x:=by rw[Nat.add_mul_mod_self_left];exact Nat.mod_eq_of_lt hx
  have h2:(x+B*val l)/B=val l:=by rw[Nat.add_mul_div_left _ _ nh,Nat.div_eq_of_lt hx,Nat.zero_add]
  rw[h1,h2]
  rw[ih ⟨fun y hy=>h.lt y (List.mem_cons_of_mem _ hy),fun y hy=>h.last y (by
   cases l with
   | nil=>simp at hy
   | cons z zs=>rw[List.getLast?_cons_cons];exact hy)⟩]
theorem aej{l:List Nat}{n:Nat}(h:rG l)(hv:val l=n):l=an n:=by rw[←hv,VH h]
theorem Df(n:Nat):n<B^(an n).length:=by
 have:=uO (fP n).lt
 rwa [cR]at this
theorem jd{n k:Nat}:(an n).length≤k↔n<B^k:=by
 constructor
 ·intro h
  exact Nat.lt_of_lt_of_le (Df n) (Nat.pow_le_pow_right nh h)
 ·intro h
  rcases Nat.eq_zero_or_pos n with h0 | h0
  ·subst h0;simp[qv]
  ·have hp:=(fP n).pos (VG h0)
   rw[cR]at hp
   have:(an n).length-1<k:=(Nat.pow_lt_pow_iff_right (by decide:1<B)).1 (Nat.lt_of_le_of_lt hp h)
   omega
theorem my{m n:Nat}(h:m≤n):(an m).length≤(an n).length:=jd.2 (Nat.lt_of_le_of_lt h (Df n))
theorem aek{n:Nat}:an n = []↔n=0:=by
 constructor
 ·intro h
  have:=cR n
  rw[h]at this;exact this.symm
 ·intro h;subst h;rfl
theorem jX{n:Nat}:(an n).length=0↔n=0:=by rw[List.length_eq_zero_iff,aek]
end Num
namespace Num
theorem Kr{a:List Nat}{i p:Nat}(h:a[i]? = some p):val a=val (a.take i)+B^i*(p+B*val (a.drop (i+1))):=by
 have hi:=(List.getElem?_eq_some_iff.1 h).1
 have hp:=(List.getElem?_eq_some_iff.1 h).2
 have e:a=a.take i++a.drop i:=(List.take_append_drop i a).symm
 have e2:a.drop i=p::a.drop (i+1):=by rw[List.drop_eq_getElem_cons hi,hp]
 conv=>lhs;rw[e,e2,VF,jv,List.length_take,Nat.min_eq_left (by omega)]
theorem Ks{a b:List Nat}{i p q:Nat}(ha:Lt a)(h1:a[i]? = some p)(h2:b[i]? = some q)(hd:a.drop (i+1)=b.drop (i+1))(ni:p<q):val a<val b:=by
 rw[Kr h1,Kr h2,hd]
 have hi:=(List.getElem?_eq_some_iff.1 h1).1
 have h3:=uO (ha.take i)
 rw[List.length_take,Nat.min_eq_left (by omega)]at h3
 have h4:B^i*(p+1+B*val (b.drop (i+1)))≤B^i*(q+B*val (b.drop (i+1))):=Nat.mul_le_mul_left _ (by omega)
 rw[show p+1+B*val (b.drop (i+1))=p+B*val (b.drop (i+1))+1 by omega,Nat.mul_add,Nat.mul_one]at h4
 omega
def kF(x y:Nat):Int:=if x<y then -1 else if x=y then 0 else 1
theorem Kt{x y:Nat}(h:x<y):kF x y = -1:=by simp[kF,h]
theorem Ku{x y:Nat}(h:y<x):kF x y=1:=by simp[kF];omega
theorem VI(x:Nat):kF x x=0:=by simp[kF]
theorem Kv{x y:Nat}(h:(an x).length<(an y).length):x<y:=by
 rcases Nat.lt_or_ge x y with h1 | h1
 ·exact h1
 ·have:=my h1;omega
theorem VJ{a b:List Nat}{k p:Nat}(hk:0<k)(h1:a[k-1]? = some p)(h2:b[k-1]? = some p)(hd:a.drop k=b.drop k):a.drop (k-1)=b.drop (k-1):=by
 have e1:=List.drop_eq_getElem_cons (List.getElem?_eq_some_iff.1 h1).1
 have e2:=List.drop_eq_getElem_cons (List.getElem?_eq_some_iff.1 h2).1
 rw[(List.getElem?_eq_some_iff.1 h1).2,show k-1+1=k by omega]at e1
 rw[(List.getElem?_eq_some_iff.1 h2).2,show k-1+1=k by omega]at e2
 rw[e1,e2,hd]
end Num
namespace Num
theorem yG(l:List Nat)(k:Nat):val (l.take (k+1))=val (l.take k)+B^k*(l[k]?.getD 0):=by
 cases h:l[k]? with
 | some x=>simpa using kP h
 | none=>
  have:l.length≤k:=by simpa using h
  rw[List.take_of_length_le (by omega),List.take_of_length_le this];simp
theorem Dg{o:List Nat}{k a b s t u:Nat}(ho:o.length=k)(h:val o+B^k*a=t)(hs:s=a+b)(hu:u=t+B^k*b):val (o ++ [s%B])+B^(k+1)*(s/B)=u:=by
 rw[rF,ho,Nat.pow_succ]
 have h1:B^k*s=B^k*(s%B)+B^k*(B*(s/B)):=by rw[←Nat.mul_add,Nat.mod_add_div]
 have h2:B^k*s=B^k*a+B^k*b:=by rw[hs,Nat.mul_add]
 rw[Nat.mul_assoc];omega
theorem last_pos{o:List Nat}{n:Nat}(h:Lt o)(ho:o.length=n)(hn:n=0∨B^(n-1)≤val o):rG o:=aei h (by
 rcases hn with e | e
 ·left;exact List.eq_nil_of_length_eq_zero (by omega)
 ·right;rw[ho];exact e)
end Num
namespace Num
theorem FY{o:List Nat}{k br br' s d e ta tb ta' tb':Nat}(ho:o.length=k)(h:ta+B^k*br=val o+tb)(hs:s+br+e=d+B*br')(ha:ta'=ta+B^k*d)(hb:tb'=tb+B^k*e):
  ta'+B^(k+1)*br'=val (o ++ [s])+tb':=by
 rw[rF,ho,ha,hb,Nat.pow_succ,Nat.mul_assoc]
 have h1:B^k*(s+br+e)=B^k*(d+B*br'):=by rw[hs]
 simp only[Nat.mul_add]at h1
 omega
theorem VK{l:List Nat}{t x y:Nat}(h:l[t]? = some x):val (l.set t y)+B^t*x=val l+B^t*y:=by
 induction l generalizing t with
 | nil=>simp at h
 | cons z l ih=>
  cases t with
  | zero=>simp at h;subst h;simp[val];omega
  | succ t=>
   simp only[List.getElem?_cons_succ]at h
   have:=ih h
   rw[List.set_cons_succ,jv,jv,Nat.pow_succ]
   have h2:B*(val (l.set t y)+B^t*x)=B*(val l+B^t*y):=by rw[this]
   simp only[Nat.mul_add]at h2
   have e1:B^t*B*x=B*(B^t*x):=by rw[Nat.mul_comm (B^t) B,Nat.mul_assoc]
   have e2:B^t*B*y=B*(B^t*y):=by rw[Nat.mul_comm (B^t) B,Nat.mul_assoc]
   omega
theorem Lt.set{l:List Nat}{t y:Nat}(h:Lt l)(hy:y<B):Lt (l.set t y):=fun x hx=>by
 rcases List.mem_or_eq_of_mem_set hx with h1 | h1
 ·exact h x h1
 ·omega
theorem Lt.replicate(n:Nat):Lt (List.replicate n 0):=fun x hx=>by
 have:=List.eq_of_mem_replicate hx
 rw[this];exact nh
theorem VL(n:Nat):val (List.replicate n 0)=0:=by
 induction n with
 | zero=>rfl
 | succ n ih=>rw[List.replicate_succ,jv,ih,Nat.mul_zero]
theorem ael{l:List Nat}{k y:Nat}(h:k<l.length):(l.set k y).take (k+1)=l.take k ++ [y]:=by
 rw[List.take_succ_eq_append_getElem (by simpa using h),List.getElem_set_self,List.take_set_of_le (Nat.le_refl _)]
theorem set_drop{l:List Nat}{k y:Nat}(h:k<l.length):(l.set k y).drop k=y::l.drop (k+1):=by
 rw[List.drop_eq_getElem_cons (by simpa using h),List.getElem_set_self,List.drop_set_of_lt (Nat.lt_succ_self _)]
theorem Dh{l:List Nat}{k d:Nat}(h:l[k]? = some d):l.drop k=d::l.drop (k+1):=by
 rw[List.drop_eq_getElem_cons (List.getElem?_eq_some_iff.1 h).1,(List.getElem?_eq_some_iff.1 h).2]
end Num
namespace Go.au
open Go.Proofs Num
theorem vr{n:Nat}{all:Array Oper}{s:St}{H:Heap}{md:Mode}{K:St→Heap→Prop}(k:Nat){l:List Oper}{s1:St}(hk:aP Tryz.prog n all md (l.drop k) s1 H K)(h:yw tb md all (l.take k) s=some s1:=by rfl):aP Tryz.prog n all md l s H K:=Vr ah k h hk
theorem ab{n:Nat}{all:Array Oper}{s:St}{H:Heap}{md:Mode}{K:St→Heap→Prop}(k:Nat){l:List Oper}{s1:St}(h:yw tb md all (l.take k) s=some s1)(hk:aP Tryz.prog n all md (l.drop k) s1 H K):aP Tryz.prog n all md l s H K:=Vr ah k h hk
theorem jY{a b:Int}(h:a=b):gw .eql a b=some true:=by subst h;simp[gw]
theorem ln{a b:Int}(h:a≠b):gw .eql a b=some false:=by simp[gw,h]
theorem uQ{a b:Int}(h:a≠b):gw .neq a b=some true:=by simp[gw,h]
theorem wo{a b:Int}(h:a=b):gw .neq a b=some false:=by subst h;simp[gw]
theorem jK{a b:Int}(h:a<b):gw .lss a b=some true:=by simp[gw,h]
theorem ik{a b:Int}(h:b≤a):gw .lss a b=some false:=by simp[gw,h]
theorem pO{a b:Int}(h:a≤b):gw .leq a b=some true:=by simp[gw,h]
theorem yH{a b:Int}(h:b<a):gw .leq a b=some false:=by simp[gw,h]
theorem nn{a b:Int}(h:b<a):gw .gtr a b=some true:=by simp[gw,h]
theorem jw{a b:Int}(h:a≤b):gw .gtr a b=some false:=by simp[gw,h]
theorem rH{a b:Int}(h:b≤a):gw .geq a b=some true:=by simp[gw,h]
theorem AK{a b:Int}(h:a<b):gw .geq a b=some false:=by simp[gw,h]
def U(l:List Nat):List Value:=l.map fun x=> .int .u32 (Int.ofNat x)
theorem dr{l:List Nat}{i:Nat}{x:Nat}(h:l[i]? = some x):(U l)[i]? = some (.int .u32 (x:Int)):=by simp[U,h]
theorem AL(l:List Nat):(U l).length=l.length:=by simp[U]
theorem Kw(a b:List Nat):U (a++b)=U a++U b:=by simp[U]
theorem FZ(l:List Nat)(k:Nat):U (l.take k)=(U l).take k:=by simp[U,List.map_take]
theorem oH(l:List Nat):∀u∈U l,u.oneCell'=true:=fun u hu=>by
 simp only[U,List.mem_map]at hu
 obtain⟨x,_,rfl⟩:=hu
 rfl
def jx(H:Heap)(v:Value)(l:List Nat):Prop:=∃A c,v = .slice A l.length c∧l.length≤c∧Rd H A (U l)
theorem jx.le{H H':Heap}{v:Value}{l:List Nat}(h:jx H v l)(hl:Heap.le H H'):jx H' v l:=by
 obtain⟨A,c,h1,h2,h3⟩:=h
 exact⟨A,c,h1,h2,h3.le hl⟩
def de(H:Heap)(v:Value)(x:Nat):Prop:=jx H v (an x)
theorem de.le{H H':Heap}{v:Value}{x:Nat}(h:de H v x)(hl:Heap.le H H'):de H' v x:=jx.le h hl
theorem Rd.take{H:Heap}{A:Option Addr}{xs:List Value}(h:Rd H A xs)(k:Nat):Rd H A (xs.take k):=fun i v hv=>by
 rw[List.getElem?_take]at hv
 split at hv
 ·exact h i v hv
 ·cases hv
def kQ(H:Heap)(v:Value)(l:List Nat):Prop:=bW H v 121 1 l.length (U l)
theorem kQ.lim{H:Heap}{v:Value}{l:List Nat}(h:kQ H v l):jx H v l:=by
 obtain⟨A,c,rfl⟩:=bW.form h
 refine⟨A,c,rfl,?_,bW.rd h⟩
 rcases h.2 with ⟨h1,h2⟩ | ⟨g,cap,h1,_,h3,_⟩
 ·omega
 ·cases h1;exact h3
theorem yI(H:Heap):kQ H (.slice none 0 0) []:=lk H 121 1
theorem App.pP{H H':Heap}{v v':Value}{a b:List Nat}{n m:Nat}(h:App H v 121 1 (n+m) (U a++U b) v' H')(ha:n=a.length)(hb:m=b.length):kQ H' v' (a++b):=by
 have:=h.own
 subst ha
 subst hb
 unfold kQ
 rw[Kw,List.length_append];exact this
structure nr(H:Heap)(x:Nat)(v:Value)(H':Heap):Prop where
 le:Heap.le H H'
 nat:de H' v x
theorem Di{H:Heap}{v:Value}{l:List Nat}{x:Nat}(h:jx H v l)(hn:rG l)(hv:val l=x):de H v x:=by
 unfold de
 rwa [←aej hn hv]
theorem wq(H:Heap):de H (.slice none 0 0) 0:=Di (l:=[]) (kQ.lim (yI H)) rG.nil rfl
theorem Kx{l:List Nat}{k:Nat}(bI:Lt l)(hk:k≤l.length)(hv:val (l.take k)=val l)(hx:k=0∨∃x,l[k-1]? = some x∧x≠0):an (val l)=l.take k:=by
 rw[←hv]
 refine VH ⟨bI.take k,fun y hy=> ?_⟩
 rcases hx with rfl | ⟨x,h1,h2⟩
 ·simp at hy
 ·have:(l.take k).getLast?=some x:=by
   rw[List.getLast?_eq_getElem?,List.length_take,Nat.min_eq_left hk,List.getElem?_take]
   rw[if_pos ?_]
   ·exact h1
   ·rcases Nat.eq_zero_or_pos k with e | e
    ·subst e;simp at hy
    ·omega
  rw[this]at hy
  cases hy
  exact h2
theorem AM(c:Nat)(A:Option Addr)(sz:Nat):(if c=0 then A else A.map (·.add (0*sz)))=A:=by
 split
 ·rfl
 ·cases A <;> simp[Addr.add]
theorem bW.ins{H:Heap}{v:Value}{e sz n:Nat}{xs:List Value}(h:bW H v e sz n xs){g:Nat}(ent:Ent)(hg:H g=none):bW (au.ins H g ent) v e sz n xs:=
 h.same fun k hk=>by
  obtain⟨en,he⟩:=h.block hk
  exact a6 _ _ (fun e=>by subst e;rw[hg]at he;cases he)
theorem kQ.ins{H:Heap}{v:Value}{l:List Nat}(h:kQ H v l){g:Nat}(ent:Ent)(hg:H g=none):kQ (au.ins H g ent) v l:=bW.ins h ent hg
theorem iN(g i:Nat):(⟨g,0,none⟩:Addr).add i=⟨g,i,none⟩:=by
 unfold Addr.add;split
 ·rename_i e0;rw[e0]
 ·simp
theorem dD(H:Heap)(g:Nat)(xs:List Value)(sz e:Nat)(b:Bool):Rd (ins H g ⟨xs,sz,e,b⟩) (some ⟨g,0,none⟩) xs:=fun i v hv=>⟨_,rfl,by simp[cell,iN,ins,hv]⟩
theorem rI{H:Heap}{g e:Nat}{a:Int}{y:Nat}(h:a=y):Rd (ins H g (whole [.int .u32 a] e)) (some ⟨g,0,none⟩) (U [y]):=by
 subst h;exact dD _ _ _ _ _ _
theorem Ky{H:Heap}{g e sz:Nat}{zs:List Value}{k:Int}{c:Nat}(hk:k.toNat=0)(hc:c≤maxLen):bW (ins H g ⟨cg zs (k.toNat*sz),c*sz,e,true⟩) (.slice (some ⟨g,0,none⟩) k.toNat c) e sz 0 []:=by
 refine⟨by simp,.inr ⟨g,c,by rw[hk],?_,by omega,hc⟩⟩
 rw[bD,hk,Nat.zero_mul];rfl
theorem VM(a b:Nat):(a:Int)%(b:Int)=((a%b:Nat):Int):=rfl
def dE(l:List Nat)(n:Nat):Ent:=⟨U l,n*1,121,true⟩
theorem qk(H:Heap)(g:Nat)(e e':Ent):ins (ins H g e) g e'=ins H g e':=by
 funext k;unfold ins;split <;> rfl
theorem OW(l:List Nat)(k y:Nat):(U l).set k (.int .u32 (y:Int))=U (l.set k y):=by simp[U,List.map_set]
theorem uR{H:Heap}{g n k:Nat}{l:List Nat}{a:Int}{y:Nat}(h:a=y):ins (ins H g (dE l n)) g {dE l n with xs:=aL (dE l n).xs (0+k*1) [.int .u32 a]}=ins H g (dE (l.set k y) n):=by
 subst h
 rw[qk]
 simp only[dE,aL,Nat.zero_add,Nat.mul_one,OW]
theorem Kz(H:Heap)(g:Nat)(l:List Nat)(n:Nat):Rd (ins H g (dE l n)) (some ⟨g,0,none⟩) (U l):=dD _ _ _ _ _ _
theorem aem{H:Heap}{g:Nat}{k:Int}{n:Nat}(hk:k.toNat=n):ins H g ⟨cg [.int .u32 0] (k.toNat*1),n*1,121,true⟩=ins H g (dE (List.replicate n 0) n):=by
 subst hk
 rw[Nat.mul_one,Vw]
 congr 1
 simp[dE,U]
theorem oI(l:List Nat)(n:Nat):(dE l n).xs.length=l.length:=by simp[dE,U]
theorem AN(H:Heap)(g:Nat)(l:List Nat)(n m:Nat)(hm:m=l.length)(hn:m≤n):jx (ins H g (dE l n)) (.slice (some ⟨g,0,none⟩) m n) l:=⟨_,n,by rw[hm],by omega,Kz H g l n⟩
end Go.au
namespace Go.au
open Go.Proofs Num
theorem OX{H:Heap}{A:Option Addr}{c:Nat}{l:List Nat}(bI:Lt l)(hr:Rd H A (U l))(hc:l.length≤c)(hm:(l.length:Int)≤35184372088832):
 Fn Tryz.prog 207 #[.slice A l.length c] H (nr H (val l)):=by
 refine a7 (args:=[_]) Tryz.func207 rfl rfl Tryz.ntmps207 rfl rfl fun w0=> ?_;refine aj [0] rfl ?_;refine ag (ab 1 rfl (ae [0] ?_));refine ag (ab 3 rfl (ae [0,3] ?_));refine ao (aF (gG (fun(k:Nat)=>k) (fun(k:Nat)=>put (put (emp) 0 (.val (.slice A l.length c))) 3 (.val (.int .i64 (k:Int)))) (fun(k:Nat) H'=>H'=H∧k≤l.length∧val (l.take k)=val l) l.length (⟨rfl,Nat.le_refl _,by simp⟩) (by repeat (first | exact iL _ | refine du rfl ?_ | refine du (ja (by omega)) ?_)) ?_));rintro k H1 ⟨rfl,hk,hv⟩
 rcases Nat.eq_zero_or_pos k with rfl | KA
 ·
  refine ao (ag (ab 1 rfl (aI false rfl rfl (by simp[gw]) ?_)));refine ab 8 rfl (ae [0,3,15] ?_);refine dU rfl (aV (ag (ab 2 rfl (tk (l:=0) (h:=0) ah rfl rfl (.inl ⟨rfl,rfl⟩) (.inr ⟨_,_,rfl,rfl⟩) (by omega) (by omega) ?_))));rw[AM];refine ab 1 rfl (ae [2] ?_);have e:=Kx bI hk hv (.inl rfl);refine aD ⟨.inr rfl,_,.tmp rfl (.nil),.refl _,A,c,?_,?_,?_⟩
  ·rw[e];simp;rfl
  ·rw[e];simp
  ·rw[e,FZ];exact hr.take _
 obtain⟨x,hx⟩:∃x,l[k-1]? = some x:=⟨_,List.getElem?_eq_getElem (by omega)⟩;refine ao (ag (ab 1 rfl (aI true rfl rfl (by simp[gw];omega) ?_)));refine ab 3 rfl (cV rfl rfl ⟨by omega,by omega⟩ (aQ ah rfl rfl rfl rfl rfl (hr) (dr (by rw[show ((k:Int)-1).toNat=k-1 by omega];exact hx)) (by omega) (by omega) fun _=> ?_));refine ab 2 rfl (ae [0,3,15] ?_);refine aC rfl (fun hb=> ?_) (fun hb=> ?_)
 ·
  simp at hb
  refine aA (aj [0,3] rfl ?_);refine aF (aB rfl (ab 1 rfl (cV rfl rfl ⟨by omega,by omega⟩ (ab 1 rfl (aw ?_)))));exact⟨k-1,by omega,(by repeat (first | exact iL _ | refine du rfl ?_ | refine du (ja (by omega)) ?_)),rfl,by omega,by have:=kP hx;rw[show k-1+1=k by omega,hb,Nat.mul_zero,Nat.add_zero]at this;rw[←this];exact hv⟩
 ·
  simp at hb
  refine aV (aj [0,3] rfl ?_);refine ag (ab 2 rfl (tk ah rfl rfl (.inl ⟨rfl,rfl⟩) (.inr ⟨_,_,rfl,rfl⟩) (by omega) (by omega) ?_));rw[AM];refine ab 1 rfl (ae [2] ?_);refine aD ⟨.inr rfl,_,.tmp rfl (.nil),?_⟩;have e:=Kx bI hk hv (.inr ⟨x,hx,hb⟩);refine⟨.refl _,A,c,?_,?_,?_⟩
  ·rw[e,List.length_take,Nat.min_eq_left hk];rfl
  ·rw[e,List.length_take,Nat.min_eq_left hk];omega
  ·rw[e,FZ];exact hr.take _
theorem aen{H:Heap}{A:Option Addr}{c x:Nat}(hr:Rd H A (U (an x))):
 Fn Tryz.prog 208 #[.slice A (an x).length c] H (fun v H'=>H'=H∧v = .bool (decide (x=1))):=by
 refine a7 (args:=[_]) Tryz.func208 rfl rfl Tryz.ntmps208 rfl rfl fun w0=> ?_;refine aj [0] rfl ?_;refine ag (ab 1 rfl (ae [0] ?_))
 by_cases hl:(an x).length=1
 ·
  obtain⟨y,hy⟩:=List.length_eq_one_iff.1 hl;refine ag (ab 2 rfl (aI true rfl rfl (by simp[gw,hl]) ?_));refine ab 2 rfl (aQ ah rfl rfl rfl rfl rfl (hr) (dr (show (an x)[0]? = some y by rw[hy];rfl)) (by omega) (by omega) fun _=> ?_);refine ab 3 rfl (ae [2] ?_);refine aD ⟨.inr rfl,_,.tmp rfl (.nil),?_⟩;refine⟨rfl,?_⟩;have hv:=cR x;rw[hy]at hv
  simp[val]at hv
  subst hv
  show Value.bool _=_
  congr 1
  rw[Bool.eq_iff_iff];simp;omega
 ·
  skip
  refine ag (ab 2 rfl (aI false rfl rfl (by simp[gw];omega) ?_));refine ab 7 rfl (ae [2] ?_);refine aD ⟨.inr rfl,_,.tmp rfl (.nil),?_⟩;refine⟨rfl,?_⟩;have:x≠1:=fun e=>hl (by subst e;rfl)
  simp[this];rfl
end Go.au
namespace Go.au
open Go.Proofs Num
theorem VN{H:Heap}{A A':Option Addr}{c c' x y:Nat}(hr:Rd H A (U (an x)))(dQ:Rd H A' (U (an y)))(hm:((an x).length:Int)≤35184372088832):
 Fn Tryz.prog 199 #[.slice A (an x).length c,.slice A' (an y).length c'] H (fun v H'=>H'=H∧v = .int .i64 (kF x y)):=by
 refine a7 (args:=[_,_]) Tryz.func199 rfl rfl Tryz.ntmps199 rfl rfl fun w0=> ?_;refine aj [0,1] rfl ?_;refine ag (ab 1 rfl (ae [0,1] ?_));refine ao (ag (ab 5 rfl (ae [0,1,10] ?_)));refine aC rfl (fun hb=> ?_) (fun hb=> ?_)
 ·
  have hl:(an x).length≠(an y).length:=by simp at hb;omega
  refine ao (ag (ab 5 rfl (ae [15] ?_)));refine aC rfl (fun hb=> ?_) (fun hb=> ?_)
  ·
   simp at hb
   refine ag (ab 1 rfl (ae [4] ?_));refine aD ⟨.inr rfl,_,.tmp rfl (.nil),?_⟩;exact⟨rfl,by rw[Kt (Kv hb)];rfl⟩
  ·
   simp at hb
   refine aA (aj [] rfl ?_);refine ag (ab 1 rfl (ae [4] ?_));refine aD ⟨.inr rfl,_,.tmp rfl (.nil),?_⟩;exact⟨rfl,by rw[Ku (Kv (by omega))];rfl⟩
 ·
  have hl:(an x).length=(an y).length:=by simp at hb;omega
  refine aA (aj [0,1] rfl ?_);refine ao (ag (ab 2 rfl (cV rfl rfl ⟨by omega,by omega⟩ (ab 1 rfl (ae [0,1,5] ?_)))));refine aF (gG (fun(k:Nat)=>k) (fun(k:Nat)=>put (put (put (emp) 0 (.val (.slice A (an x).length c))) 1 (.val (.slice A' (an y).length c'))) 5 (.val (.int .i64 ((k:Int)-1)))) (fun(k:Nat) H'=>H'=H∧k≤(an x).length∧(an x).drop k=(an y).drop k) (an x).length (⟨rfl,Nat.le_refl _,by rw[List.drop_of_length_le (Nat.le_refl _),List.drop_of_length_le (by omega)]⟩) (by repeat (first | exact iL _ | refine du rfl ?_ | refine du (ja (by omega)) ?_)) ?_);rintro k H1 ⟨rfl,hk,hd⟩;refine ao (ag (ab 2 rfl (ae [0,1,5,20] ?_)));refine aC rfl (fun hb=> ?_) (fun hb=> ?_)
  ·
   simp at hb
   obtain⟨p,hp⟩:∃p,(an x)[k-1]? = some p:=⟨_,List.getElem?_eq_getElem (by omega)⟩;obtain⟨q,hq⟩:∃q,(an y)[k-1]? = some q:=⟨_,List.getElem?_eq_getElem (by omega)⟩
   have hj:((k:Int)-1).toNat=k-1:=by omega
   have fa:(an x).drop (k-1+1)=(an y).drop (k-1+1):=by rw[show k-1+1=k by omega];exact hd
   refine aA (aj [0,1,5] rfl ?_);refine ao (aF (aF (bO .bL [0,1,2,3,4,5,6,7,8,9] follows (by kernel_rfl) ?_)));refine ab 2 rfl (aQ ah rfl rfl rfl rfl rfl (hr) (by rw[hj];exact dr hp) (by omega) (by omega) fun _=> ?_);refine ab 2 rfl (aQ ah rfl rfl rfl rfl rfl (dQ) (by rw[hj];exact dr hq) (by omega) (by omega) fun _=> ?_);refine ab 2 rfl (ae [0,1,5,23] ?_);refine aC rfl (fun hb=> ?_) (fun hb=> ?_)
   ·
    have ni:p<q:=by simpa using hb
    refine ag (ab 1 rfl (ae [4] ?_));refine aD ⟨.inr rfl,_,.tmp rfl (.nil),?_⟩;exact⟨rfl,by rw[Kt (by have:=Ks (fP x).lt hp hq fa ni;rwa [cR,cR]at this)];rfl⟩
   have ni:¬p<q:=by simpa using hb
   refine bO .bL [0,1,2,3,4,5,6,7,8,9] follows (by kernel_rfl) ?_;refine ab 2 rfl (aQ ah rfl rfl rfl rfl rfl (hr) (by rw[hj];exact dr hp) (by omega) (by omega) fun _=> ?_);refine ab 2 rfl (aQ ah rfl rfl rfl rfl rfl (dQ) (by rw[hj];exact dr hq) (by omega) (by omega) fun _=> ?_);refine ab 2 rfl (ae [0,1,5,33] ?_);refine aC rfl (fun hb=> ?_) (fun hb=> ?_)
   ·
    have F3:q<p:=by simpa using hb
    refine ag (ab 1 rfl (ae [4] ?_));refine aD ⟨.inr rfl,_,.tmp rfl (.nil),?_⟩;exact⟨rfl,by rw[Ku (by have:=Ks (fP y).lt hq hp fa.symm F3;rwa [cR,cR]at this)];rfl⟩
   have F3:¬q<p:=by simpa using hb
   refine aA (aj [0,1,5] rfl ?_);refine aB rfl (ab 1 rfl (cV rfl rfl ⟨by omega,by omega⟩ (ab 1 rfl (aw ?_))))
   obtain rfl:p=q:=by omega
   exact⟨k-1,by omega,(by repeat (first | exact iL _ | refine du rfl ?_ | refine du (ja (by omega)) ?_)),rfl,by omega,VJ (by omega) hp hq hd⟩
  simp at hb
  refine aV (aj [] rfl ?_);refine ag (ab 1 rfl (ae [4] ?_));refine aD ⟨.inr rfl,_,.tmp rfl (.nil),?_⟩
  obtain rfl:k=0:=by omega
  have:x=y:=by rw[←cR x,←cR y];simpa using congrArg val hd
  exact⟨rfl,by rw[this,VI];rfl⟩
end Go.au
namespace Go.au
open Go.Proofs Num
theorem VO{H:Heap}{A:Option Addr}{c x:Nat}(hr:Rd H A (U (an x)))(hm:(an x).length≤2):
 Fn Tryz.prog 222 #[.slice A (an x).length c] H (fun v H'=>H'=H∧v = .tuple #[.int .u64 (x:Int),.bool true]):=by
 refine a7 (args:=[_]) Tryz.func222 rfl rfl Tryz.ntmps222 rfl rfl fun w0=> ?_;refine aj [0] rfl ?_;refine ag (ab 2 rfl (ae [0] ?_));refine ag (ab 1 rfl (ae [0,4] ?_));refine ao (ag (ab 3 rfl (ae [0,4,8,9] ?_)));refine aF (gG (fun(k:Nat)=>(an x).length-k) (fun(k:Nat)=>put (put (put (put (emp) 0 (.val (.slice A (an x).length c))) 4 (.val (.int .u64 (val ((an x).drop ((an x).length-k)):Int)))) 8 (.val (.int .i64 ((an x).length:Int)))) 9 (.val (.int .i64 (k:Int)))) (fun(k:Nat) H'=>H'=H∧k≤(an x).length) 0 (⟨rfl,by omega⟩) (du rfl (du rfl (du (ja (by simp[val])) (du rfl (iL _))))) ?_);rintro k H1 ⟨rfl,hk⟩;refine ag (ab 1 rfl (ae [0,4,8,9,10] ?_));refine ao (aC rfl (fun hb=> ?_) (fun hb=> ?_))
 ·
  simp at hb
  obtain⟨p,hp⟩:∃p,(an x)[(an x).length-1-k]? = some p:=⟨_,List.getElem?_eq_getElem (by omega)⟩;have yJ:=(fP x).lt.get hp;rw[cj]at yJ
  have kR:(an x).drop ((an x).length-1-k)=p::(an x).drop ((an x).length-k):=by
   rw[List.drop_eq_getElem_cons (List.getElem?_eq_some_iff.1 hp).1,(List.getElem?_eq_some_iff.1 hp).2,show (an x).length-1-k+1=(an x).length-k by omega]
  have hw:val ((an x).drop ((an x).length-k))<B:=by
   have h1:=uO ((fP x).lt.drop ((an x).length-k));have h2:B^((an x).drop ((an x).length-k)).length≤B^1:=Nat.pow_le_pow_right nh (by simp;omega);rw[Nat.pow_one]at h2;omega
  rw[cj]at hw
  have hj:(((an x).length:Int)-1-(k:Int)).toNat=(an x).length-1-k:=by omega
  refine aA (aj [0,4,8,9] rfl ?_);refine ao (aF (ag (ab 2 rfl (ae [0,4,5,8,9] ?_))));refine ag (ab 3 rfl (cV rfl rfl ⟨by omega,by omega⟩ (ab 1 rfl (cV rfl rfl ⟨by omega,by omega⟩ (aQ ah rfl rfl rfl rfl rfl (hr) (by rw[hj];exact dr hp) (by omega) (by omega) fun _=> ?_)))));refine dd ah rfl rfl rfl ⟨by omega,by omega⟩ (ab 1 rfl (ae [0,4,6,8,9] ?_));refine ao (ag (ab 2 rfl (cV rfl rfl ⟨by omega,by omega⟩ (lP rfl rfl (by omega) (by omega) ⟨by omega,by omega⟩ (ab 1 rfl (ae [0,4,6,8,9,25] ?_))))));refine aC rfl (fun hb=> ?_) (fun hb=> ?_)
  ·
   exfalso;simp at hb;omega
  ·
   skip
   refine aA (aj [0,4,6,8,9] rfl ?_);refine aB rfl (ab 1 rfl (gM rfl rfl ⟨by omega,by omega⟩ (ab 1 rfl (aG rfl rfl ⟨by omega,by omega⟩ (ab 1 rfl (aw (aj [0,4,8,9] rfl ?_)))))));refine aB rfl (aG rfl rfl ⟨by omega,by omega⟩ (ab 1 rfl (aw ?_)))
   have dO:val ((an x).drop ((an x).length-(k+1)))=val ((an x).drop ((an x).length-k))*1000000000+p:=by
    rw[show (an x).length-(k+1)=(an x).length-1-k by omega,kR,jv,cj];omega
   exact⟨k+1,by omega,ar,rfl,by omega⟩
 ·
  simp at hb
  refine aV (aj [4] rfl ?_);refine ag (ab 3 rfl (ae [2,3] ?_));refine aD ⟨.inr rfl,_,.tmp rfl (.tmp rfl (.nil)),?_⟩
  obtain rfl:k=(an x).length:=by omega
  refine⟨rfl,?_⟩;rw[Nat.sub_self,List.drop_zero,cR];rfl
theorem KB{H:Heap}{x:Nat}(hx:x<18446744073709551616):
 Fn Tryz.prog 195 #[.int .u64 (x:Int)] H (nr H x):=by
 refine a7 (args:=[_]) Tryz.func195 rfl rfl Tryz.ntmps195 rfl rfl fun w0=> ?_;refine aj [0] rfl ?_;refine ag (ab 1 rfl (ae [0] ?_));refine ag (ab 1 rfl (ae [0,3] ?_));refine ao (aF (fZ (fun(y:Nat)(v:Value)(o:List Nat)=>y) (fun(y:Nat)(v:Value)(o:List Nat)=>put (put (emp) 0 (.val (.int .u64 (y:Int)))) 3 (.val (v))) (fun(y:Nat)(v:Value)(o:List Nat) H'=>Heap.le H H'∧kQ H' v o∧y≤x∧o++an y=an x) x (.slice none 0 0) [] (⟨.refl _,yI _,Nat.le_refl _,rfl⟩) ar ?_));rintro y v o H1 ⟨hle,cC,wu,ho⟩;obtain⟨A,c,rfl⟩:=bW.form cC
 have dA:o.length≤(an x).length:=by rw[←ho];simp
 have cP:(an x).length≤3:=jd.2 (by rw[cj];omega);refine ao (ag (ab 2 rfl (ae [0,3,5] ?_)));refine aC rfl (fun hb=> ?_) (fun hb=> ?_)
 ·
  have hb:0<y:=by simpa using hb
  refine aA (aj [0,3] rfl ?_);refine ao (aF (aB rfl (ab 2 rfl (m7 rfl rfl (by omega) (by omega) (dd ah rfl rfl rfl ⟨by omega,by omega⟩ (cW Tryz.underlying177 eD rfl rfl rfl rfl rfl rfl rfl ?_))))));intro gb bx;refine dR Tryz.underlying177 eD rfl rfl (cC.ins _ bx) (rI (VM y 1000000000)) (rfl) (oH _) (by omega) (by omega) ?_;intro v1 H2 ha;refine ab 1 rfl (aw (aj [0,3] rfl ?_));refine aB rfl (ab 1 rfl (lP rfl rfl (by omega) (by omega) ⟨by omega,by omega⟩ (ab 1 rfl (aw ?_))))
  have jt:0<y:=by omega
  rw[yF jt]at ho;exact⟨y/B,v1,o ++ [y%B],Nat.div_lt_self jt (by decide),ar,(hle.trans (Heap.bB _ bx)).trans ha.le,ha.pP rfl rfl,Nat.le_trans (Nat.div_le_self _ _) wu,by simpa using ho⟩
 ·
  have hb:y=0:=by simpa using hb
  refine aV (aj [3] rfl ?_);refine ag (ab 2 rfl (ae [2] ?_));refine aD ⟨.inr rfl,_,.tmp rfl (.nil),?_⟩;subst hb;exact⟨hle,Di (cC.lim) (by rw[show o=an x by simpa [qv]using ho];exact fP x) (by rw[show o=an x by simpa [qv]using ho];exact cR x)⟩
end Go.au
namespace Go.au
open Go.Proofs Num
theorem aeo{H:Heap}{A:Option Addr}{c:Nat}{l:List Nat}(AO:∀x,x∈l→x<4294967296)(hr:Rd H A (U l))(hm:(l.length:Int)≤8796093022208):
 Fn Tryz.prog 194 #[.slice A l.length c] H (nr H (val l)):=by
 refine a7 (args:=[_]) Tryz.func194 rfl rfl Tryz.ntmps194 rfl rfl fun w0=> ?_;refine aj [0] rfl ?_;refine ag (ab 1 rfl (ae [0] ?_));refine ag (ab 2 rfl (aG rfl rfl ⟨by omega,by omega⟩ (gF Tryz.underlying177 eD rfl rfl rfl (by omega) (by omega) (by omega) (by omega) ?_)));intro g hg;refine ab 1 rfl (ae [0,3] ?_);refine ag (ab 1 rfl (ae [0,3,4] ?_));refine ao (ag (ab 3 rfl (ae [0,3,4,12,13] ?_)));refine aF (oD (fun(k:Nat)(v:Value)(o:List Nat)(cr:Nat)=>l.length-k) (fun(k:Nat)(v:Value)(o:List Nat)(cr:Nat)=>put (put (put (put (put (emp) 0 (.val (.slice A l.length c))) 3 (.val (v))) 4 (.val (.int .u64 (cr:Int)))) 12 (.val (.int .i64 (l.length:Int)))) 13 (.val (.int .i64 (k:Int)))) (fun(k:Nat)(v:Value)(o:List Nat)(cr:Nat) H'=>Heap.le H H'∧kQ H' v o∧k≤l.length∧o.length=k∧Lt o∧cr≤4∧val o+B^k*cr=val (l.take k)) 0 _ [] 0 (⟨Heap.bB _ hg,Ky rfl (by simp only[maxLen];omega),by omega,rfl,Lt.nil,by omega,by simp[val]⟩) ar ?_);rintro k v o cr H1 ⟨hle,cC,hk,dA,ee,jL,hv⟩;obtain⟨Ao,co,rfl⟩:=bW.form cC;refine ag (ab 1 rfl (ae [0,3,4,12,13,14] ?_));refine ao (aC rfl (fun hb=> ?_) (fun hb=> ?_))
 ·
  have hb:k<l.length:=by simpa using hb
  obtain⟨p,hp⟩:∃p,l[k]? = some p:=⟨_,List.getElem?_eq_getElem hb⟩;have aep:=AO p (List.mem_of_getElem? hp);refine aA (aj [0,3,4,12,13] rfl ?_);refine ao (aF (ag (ab 2 rfl (ae [0,3,4,5,12,13] ?_))));refine ag (ab 2 rfl (aQ ah rfl rfl rfl rfl rfl (hr.le hle) (dr hp) (by omega) (by omega) fun _=>(dd ah rfl rfl rfl ⟨by omega,by omega⟩ (ab 1 rfl (aG rfl rfl ⟨by omega,by omega⟩ (ab 1 rfl (ae [0,3,6,12,13] ?_)))))));refine ag (ab 2 rfl (m7 rfl rfl (by omega) (by omega) (dd ah rfl rfl rfl ⟨by omega,by omega⟩ (cW Tryz.underlying177 eD rfl rfl rfl rfl rfl rfl rfl ?_))));intro gb bx;refine dR Tryz.underlying177 eD rfl rfl (cC.ins _ bx) (rI (y:=(p+cr)%1000000000) rfl) (rfl) (oH _) (by omega) (by omega) ?_;intro v1 H2 ha;refine ab 1 rfl (ae [0,3,6,12,13] ?_);refine aB rfl (ab 1 rfl (lP rfl rfl (by omega) (by omega) ⟨by omega,by omega⟩ (ab 1 rfl (aw (aj [0,3,4,12,13] rfl ?_)))));refine aB rfl (aG rfl rfl ⟨by omega,by omega⟩ (ab 1 rfl (aw ?_)));have dO:=Dg (s:=p+cr) (u:=val (l.take (k+1))) dA hv (Nat.add_comm _ _) (kP hp)
  have e1:(((p+cr)%B:Nat):Int)=((p:Int)+cr)%1000000000:=rfl;exact⟨k+1,v1,o ++ [(p+cr)%B],(p+cr)/B,by omega,ar,(hle.trans (Heap.bB _ bx)).trans ha.le,ha.pP rfl rfl,by omega,by simp[dA],ee.snoc (Nat.mod_lt _ nh),by rw[cj];omega,dO⟩
 ·
  have hb:l.length≤k:=by simpa using hb
  obtain rfl:k=l.length:=by omega
  rw[List.take_length]at hv;refine aV (aj [3,4] rfl ?_);refine AJ (fun(v:Value)(o:List Nat)=>put (emp) 3 (.val (v))) (fun(v:Value)(o:List Nat) H'=>Heap.le H H'∧kQ H' v o∧o.length≤l.length+1∧Lt o∧val o=val l) ?_ ?_
  ·
   refine ag (ab 2 rfl (ae [3,4,33] ?_));refine aC rfl (fun hb=> ?_) (fun hb=> ?_)
   ·
    have hb:0<cr:=by simpa using hb
    refine aB rfl (ab 2 rfl (dd ah rfl rfl rfl ⟨by omega,by omega⟩ (cW Tryz.underlying177 eD rfl rfl rfl rfl rfl rfl rfl ?_)));intro gb bx;refine dR Tryz.underlying177 eD rfl rfl (cC.ins _ bx) (rI (y:=cr) rfl) (rfl) (oH _) (by omega) (by omega) ?_;intro v1 H2 ha;refine ab 1 rfl (aw ?_);exact⟨v1,o ++ [cr],(by repeat (first | exact iL _ | refine du rfl ?_ | refine du (ja (by omega)) ?_)),(hle.trans (Heap.bB _ bx)).trans ha.le,ha.pP rfl rfl,by simp;omega,ee.snoc (by rw[cj];omega),by rw[rF,dA];exact hv⟩
   have hb:cr=0:=by simpa using hb
   refine aA ?_;exact⟨_,o,(by repeat (first | exact iL _ | refine du rfl ?_ | refine du (ja (by omega)) ?_)),hle,cC,by omega,ee,by rw[hb,Nat.mul_zero]at hv;omega⟩
  rintro v o H3 ⟨hle,cC,dA,ee,hv⟩;obtain⟨Ao,co,wv,oJ,qw⟩:=cC.lim;subst wv;refine ag (ab 1 rfl (aE rfl rfl (OX ee qw oJ (by omega)) ?_));intro v1 H4 hp;refine ab 1 rfl (ae [2] ?_);refine aD ⟨.inr rfl,_,.tmp rfl (.nil),?_⟩;exact⟨hle.trans hp.le,by have:=hp.nat;rwa [hv]at this⟩
end Go.au
namespace Go.au
open Go.Proofs Num
theorem aeq{H:Heap}{u v:Value}{x y:Nat}(hx:de H u x)(hy:de H v y)(hm:((an x).length:Int)≤8796093022208)(bH:((an y).length:Int)≤8796093022208):
 Fn Tryz.prog 205 #[u,v] H (nr H (x+y)):=by
 obtain⟨A,c,rfl,hc,hr⟩:=hx
 obtain⟨A',c',rfl,jH,dQ⟩:=hy;refine a7 (args:=[_,_]) Tryz.func205 rfl rfl Tryz.ntmps205 rfl rfl fun w0=> ?_;refine aj [0,1] rfl ?_;refine ag (ab 1 rfl (ae [0,1] ?_));refine acY (fun(u:Value)(w:Value)(p:Nat)(q:Nat)=>put (put (emp) 0 (.val (u))) 1 (.val (w))) (fun(u:Value)(w:Value)(p:Nat)(q:Nat) H'=>H'=H∧de H u p∧de H w q∧p+q=x+y∧(an q).length≤(an p).length∧((an p).length:Int)≤8796093022208) ?_ ?_
 ·
  refine ag (ab 5 rfl (ae [0,1,13] ?_));refine aC rfl (fun hb=> ?_) (fun hb=> ?_)
  ·
   simp at hb
   refine aB rfl (ab 4 rfl (aw ?_));exact⟨_,_,y,x,(by repeat (first | exact iL _ | refine du rfl ?_ | refine du (ja (by omega)) ?_)),rfl,⟨A',c',rfl,jH,dQ⟩,⟨A,c,rfl,hc,hr⟩,by omega,by omega,by omega⟩
  ·
   simp at hb
   refine aA ?_;exact⟨_,_,x,y,(by repeat (first | exact iL _ | refine du rfl ?_ | refine du (ja (by omega)) ?_)),rfl,⟨A,c,rfl,hc,hr⟩,⟨A',c',rfl,jH,dQ⟩,by omega,by omega,by omega⟩
 ·
  rintro u w p q H3 ⟨rfl,hp,hq,ni,hl,hm⟩;clear hr dQ hc jH;obtain⟨A,c,rfl,hc,hr⟩:=hp;obtain⟨A',c',rfl,jH,dQ⟩:=hq;have jy:=(fP p).lt;have eo:=(fP q).lt;refine ag (ab 2 rfl (aG rfl rfl ⟨by omega,by omega⟩ (gF Tryz.underlying177 eD rfl rfl rfl (by omega) (by omega) (by omega) (by omega) ?_)));intro g hg;refine ab 1 rfl (ae [0,1,5] ?_);refine ag (ab 1 rfl (ae [0,1,5,6] ?_));refine ao (ag (ab 3 rfl (ae [0,1,5,6,21,22] ?_)));refine aF (oD (fun(k:Nat)(v:Value)(o:List Nat)(cr:Nat)=>(an p).length-k) (fun(k:Nat)(v:Value)(o:List Nat)(cr:Nat)=>put (put (put (put (put (put (emp) 0 (.val (.slice A (an p).length c))) 1 (.val (.slice A' (an q).length c'))) 5 (.val (v))) 6 (.val (.int .u32 (cr:Int)))) 21 (.val (.int .i64 ((an p).length:Int)))) 22 (.val (.int .i64 (k:Int)))) (fun(k:Nat)(v:Value)(o:List Nat)(cr:Nat) H'=>Heap.le H3 H'∧kQ H' v o∧k≤(an p).length∧o.length=k∧Lt o∧cr≤1∧val o+B^k*cr=val ((an p).take k)+val ((an q).take k)) 0 _ [] 0 (⟨Heap.bB _ hg,Ky rfl (by simp only[maxLen];omega),by omega,rfl,Lt.nil,by omega,by simp[val]⟩) ar ?_);rintro k v o cr H1 ⟨hle,cC,hk,dA,ee,jL,hv⟩;obtain⟨Ao,co,rfl⟩:=bW.form cC
  refine ag (ab 1 rfl (ae [0,1,5,6,21,22,23] ?_));refine ao (aC rfl (fun hb=> ?_) (fun hb=> ?_))
  ·
   have hb:k<(an p).length:=by simpa using hb
   obtain⟨d,hd⟩:∃d,(an p)[k]? = some d:=⟨_,List.getElem?_eq_getElem hb⟩;have lQ:=jy.get hd;rw[cj]at lQ;obtain⟨e,he⟩:∃e,e=((an q)[k]?).getD 0:=⟨_,rfl⟩
   have Dj:e<1000000000:=by
    cases hq:(an q)[k]? with
    | none=>rw[hq]at he;simp at he;omega
    | some z=>rw[hq]at he;simp at he;have:=eo.get hq;rw[cj]at this;omega
   refine aA (aj [0,1,5,6,21,22] rfl ?_);refine ao (aF (ag (ab 2 rfl (ae [0,1,5,6,7,21,22] ?_))));refine ag (ab 2 rfl (aQ ah rfl rfl rfl rfl rfl (hr.le hle) (dr hd) (by omega) (by omega) fun _=>(ab 1 rfl (aG rfl rfl ⟨by omega,by omega⟩ (ab 1 rfl (ae [0,1,5,7,8,21,22] ?_))))));refine kE (fun(sv:Nat)=>put (put (put (put (put (put (emp) 0 (.val (.slice A (an p).length c))) 1 (.val (.slice A' (an q).length c'))) 5 (.val (.slice Ao o.length co))) 8 (.val (.int .u32 (sv:Int)))) 21 (.val (.int .i64 ((an p).length:Int)))) 22 (.val (.int .i64 (k:Int)))) (fun(sv:Nat) H'=>H'=H1∧sv=d+cr+e) ?_ ?_
   ·
    refine ag (ab 4 rfl (ae [0,1,5,7,8,21,22,34] ?_));refine aC rfl (fun hb=> ?_) (fun hb=> ?_)
    ·
     have hb:k<(an q).length:=by simpa using hb
     have hz:(an q)[k]? = some e:=by rw[List.getElem?_eq_getElem hb]at he⊢;simp at he;rw[he]
     refine aB rfl (ab 3 rfl (aQ ah rfl rfl rfl rfl rfl (dQ.le hle) (dr hz) (by omega) (by omega) fun _=>(aG rfl rfl ⟨by omega,by omega⟩ (ab 1 rfl (aw ?_)))));exact⟨d+cr+e,(by repeat (first | exact iL _ | refine du rfl ?_ | refine du (ja (by omega)) ?_)),rfl,rfl⟩
    have hb:(an q).length≤k:=by simpa using hb
    obtain rfl:e=0:=by rw[he,List.getElem?_eq_none hb];rfl
    refine aA ?_;exact⟨d+cr,(by repeat (first | exact iL _ | refine du rfl ?_ | refine du (ja (by omega)) ?_)),rfl,rfl⟩
   rintro sv H4 ⟨rfl,wy⟩;refine ag (ab 1 rfl (lP rfl rfl (by omega) (by omega) ⟨by omega,by omega⟩ (ab 1 rfl (ae [0,1,5,6,8,21,22] ?_))));refine aB rfl (ab 2 rfl (m7 rfl rfl (by omega) (by omega) (cW Tryz.underlying177 eD rfl rfl rfl rfl rfl rfl rfl ?_)));intro gb bx;refine dR Tryz.underlying177 eD rfl rfl (cC.ins _ bx) (rI (y:=sv%1000000000) rfl) (rfl) (oH _) (by omega) (by omega) ?_;intro v1 H2 ha;refine ab 1 rfl (aw (aj [0,1,5,6,21,22] rfl ?_));refine aB rfl (aG rfl rfl ⟨by omega,by omega⟩ (ab 1 rfl (aw ?_)));have dO:=Dg (s:=cr+(d+e)) (u:=val ((an p).take (k+1))+val ((an q).take (k+1))) dA hv rfl (by rw[kP hd,yG,←he,Nat.mul_add];omega)
   obtain rfl:sv=cr+(d+e):=by omega
   exact⟨k+1,v1,o ++ [(cr+(d+e))%B],(cr+(d+e))/B,by omega,ar,(hle.trans (Heap.bB _ bx)).trans ha.le,ha.pP rfl rfl,by omega,by simp[dA],ee.snoc (Nat.mod_lt _ nh),by rw[cj];omega,dO⟩
  have hb:(an p).length≤k:=by simpa using hb
  obtain rfl:k=(an p).length:=by omega
  rw[List.take_length,List.take_of_length_le hl,cR,cR]at hv;refine aV (aj [5,6] rfl ?_);refine ao (ag (ab 2 rfl (ae [5,6,50] ?_)));refine aC rfl (fun hb=> ?_) (fun hb=> ?_)
  ·
   have hb:0<cr:=by simpa using hb
   refine aB rfl (ab 2 rfl (cW Tryz.underlying177 eD rfl rfl rfl rfl rfl rfl rfl ?_));intro gb bx;refine dR Tryz.underlying177 eD rfl rfl (cC.ins _ bx) (rI (y:=cr) rfl) (rfl) (oH _) (by omega) (by omega) ?_;intro v1 H2 ha;refine ab 1 rfl (aw (aj [5] rfl ?_));refine ag (ab 2 rfl (ae [4] ?_));refine aD ⟨.inr rfl,_,.tmp rfl (.nil),?_⟩
   have wv:val (o ++ [cr])=x+y:=by rw[rF,dA,hv];exact ni
   exact⟨(hle.trans (Heap.bB _ bx)).trans ha.le,Di (ha.pP (a:=o) (b:=[cr]) rfl rfl).lim ⟨ee.snoc (by rw[cj];omega),fun z hz=>by simp at hz;omega⟩ wv⟩
  have hb:cr=0:=by simpa using hb
  refine aA (aj [5] rfl ?_);refine ag (ab 2 rfl (ae [4] ?_));refine aD ⟨.inr rfl,_,.tmp rfl (.nil),?_⟩;rw[hb,Nat.mul_zero,Nat.add_zero]at hv;refine⟨hle,Di cC.lim (last_pos ee dA ?_) (by rw[hv];exact ni)⟩
  rcases Nat.eq_zero_or_pos (an p).length with h0 | h0
  ·exact .inl h0
  have:=(fP p).pos (by intro e0;rw[e0]at h0;simp at h0);rw[cR]at this;exact .inr (by rw[hv];omega)
end Go.au
namespace Go.au
open Go.Proofs Num
theorem VP{H:Heap}{u v:Value}{x y:Nat}(hx:de H u x)(hy:de H v y)(wu:y≤x)(hm:((an x).length:Int)≤8796093022208):
 Fn Tryz.prog 206 #[u,v] H (nr H (x-y)):=by
 obtain⟨A,c,rfl,hc,hr⟩:=hx
 obtain⟨A',c',rfl,jH,dQ⟩:=hy
 have jy:=(fP x).lt
 have eo:=(fP y).lt
 have hl:=my wu;refine a7 (args:=[_,_]) Tryz.func206 rfl rfl Tryz.ntmps206 rfl rfl fun w0=> ?_;refine aj [0,1] rfl ?_;refine ag (ab 1 rfl (ae [0,1] ?_));refine ag (ab 2 rfl (gF Tryz.underlying177 eD rfl rfl rfl (by omega) (by omega) (by omega) (by omega) ?_));intro g hg;refine ab 1 rfl (ae [0,1,5] ?_);refine ag (ab 1 rfl (ae [0,1,5,6] ?_));refine ao (ag (ab 3 rfl (ae [0,1,5,6,13,14] ?_)));refine aF (oD (fun(k:Nat)(v:Value)(o:List Nat)(br:Nat)=>(an x).length-k) (fun(k:Nat)(v:Value)(o:List Nat)(br:Nat)=>put (put (put (put (put (put (emp) 0 (.val (.slice A (an x).length c))) 1 (.val (.slice A' (an y).length c'))) 5 (.val (v))) 6 (.val (.int .i64 (br:Int)))) 13 (.val (.int .i64 ((an x).length:Int)))) 14 (.val (.int .i64 (k:Int)))) (fun(k:Nat)(v:Value)(o:List Nat)(br:Nat) H'=>Heap.le H H'∧kQ H' v o∧k≤(an x).length∧o.length=k∧Lt o∧br≤1∧val ((an x).take k)+B^k*br=val o+val ((an y).take k)) 0 _ [] 0 (⟨Heap.bB _ hg,Ky rfl (by simp only[maxLen];omega),by omega,rfl,Lt.nil,by omega,by simp[val]⟩) ar ?_);rintro k v o br H1 ⟨hle,cC,hk,dA,ee,uS,hv⟩;obtain⟨Ao,co,rfl⟩:=bW.form cC;refine ag (vr 1 ?_)
 refine ae [0,1,5,6,13,14,15] ?_;refine ao (aC rfl (fun hb=> ?_) (fun hb=> ?_))
 ·
  have hb:k<(an x).length:=by simpa using hb
  obtain⟨d,hd⟩:∃d,(an x)[k]? = some d:=⟨_,List.getElem?_eq_getElem hb⟩;have lQ:=jy.get hd;rw[cj]at lQ;obtain⟨e,he⟩:∃e,e=((an y)[k]?).getD 0:=⟨_,rfl⟩
  have Dj:e<1000000000:=by
   cases hq:(an y)[k]? with
   | none=>rw[hq]at he;simp at he;omega
   | some z=>rw[hq]at he;simp at he;have:=eo.get hq;rw[cj]at this;omega
  refine aA (aj [0,1,5,6,13,14] rfl ?_);refine ao (aF (ag (ab 2 rfl (ae [0,1,5,6,7,13,14] ?_))));refine ag (ab 2 rfl (aQ ah rfl rfl rfl rfl rfl (hr.le hle) (dr hd) (by omega) (by omega) fun _=>(dd ah rfl rfl rfl ⟨by omega,by omega⟩ (ab 1 rfl (cV rfl rfl ⟨by omega,by omega⟩ (ab 1 rfl (ae [0,1,5,7,8,13,14] ?_)))))));refine kE (fun(sv:Int)=>put (put (put (put (put (put (emp) 0 (.val (.slice A (an x).length c))) 1 (.val (.slice A' (an y).length c'))) 5 (.val (.slice Ao o.length co))) 8 (.val (.int .i64 sv))) 13 (.val (.int .i64 ((an x).length:Int)))) 14 (.val (.int .i64 (k:Int)))) (fun(sv:Int) H'=>H'=H1∧sv=(d:Int)-br-e) ?_ ?_
  ·
   refine ag (ab 4 rfl (ae [0,1,5,7,8,13,14,27] ?_));refine aC rfl (fun hb=> ?_) (fun hb=> ?_)
   ·
    have hb:k<(an y).length:=by simpa using hb
    have hz:(an y)[k]? = some e:=by rw[List.getElem?_eq_getElem hb]at he⊢;simp at he;rw[he]
    refine aB rfl (ab 3 rfl (aQ ah rfl rfl rfl rfl rfl (dQ.le hle) (dr hz) (by omega) (by omega) fun _=>(dd ah rfl rfl rfl ⟨by omega,by omega⟩ (cV rfl rfl ⟨by omega,by omega⟩ (ab 1 rfl (aw ?_))))));exact⟨(d:Int)-br-e,(by repeat (first | exact iL _ | refine du rfl ?_ | refine du (ja (by omega)) ?_)),rfl,rfl⟩
   have hb:(an y).length≤k:=by simpa using hb
   have Dk:e=0:=by rw[he,List.getElem?_eq_none hb];rfl
   refine aA ?_;exact⟨(d:Int)-br,(by repeat (first | exact iL _ | refine du rfl ?_ | refine du (ja (by omega)) ?_)),rfl,by omega⟩
  ·
   rintro sv H4 ⟨rfl,wy⟩;refine ag (ab 1 rfl (ae [0,1,5,6,8,13,14] ?_));refine ao (ag (ab 2 rfl (ae [0,1,5,6,8,13,14,36] ?_)));refine aC rfl (fun hb=> ?_) (fun hb=> ?_)
   ·
    have hb:sv<0:=by simpa using hb
    refine ag (ab 1 rfl (aG rfl rfl ⟨by omega,by omega⟩ (ab 1 rfl (ae [0,1,5,8,13,14] ?_))));refine aB rfl (ab 1 rfl (aw (aj [0,1,5,6,8,13,14] rfl ?_)));refine aB rfl (ab 2 rfl (dd ah rfl rfl rfl ⟨by omega,by omega⟩ (cW Tryz.underlying177 eD rfl rfl rfl rfl rfl rfl rfl ?_)));intro gb bx;refine dR Tryz.underlying177 eD rfl rfl (cC.ins _ bx) (rI (y:=if sv<0 then d+1000000000-br-e else d-br-e) (by split <;> omega)) (rfl) (oH _) (by omega) (by omega) ?_;intro v1 H2 ha
    (first|rw[if_pos hb]at ha|rw[if_neg (by omega)]at ha)
    refine ab 1 rfl (aw (aj [0,1,5,6,13,14] rfl ?_));refine aB rfl (aG rfl rfl ⟨by omega,by omega⟩ (ab 1 rfl (aw ?_)));have dO:=FY (s:=d+1000000000-br-e) (br':=1) (d:=d) (e:=e) dA hv (by rw[cj];omega) (kP hd) (show val ((an y).take (k+1))=val ((an y).take k)+B^k*e by rw[yG,←he]);exact⟨k+1,v1,o ++ [d+1000000000-br-e],1,by omega,ar,(hle.trans (Heap.bB _ bx)).trans ha.le,ha.pP rfl rfl,by omega,by simp[dA],ee.snoc (by rw[cj];omega),by omega,dO⟩
   have hb:0≤sv:=by simpa using hb
   refine aA (aj [0,1,5,6,8,13,14] rfl ?_);refine aB rfl (ab 2 rfl (dd ah rfl rfl rfl ⟨by omega,by omega⟩ (cW Tryz.underlying177 eD rfl rfl rfl rfl rfl rfl rfl ?_)));intro gb bx;refine dR Tryz.underlying177 eD rfl rfl (cC.ins _ bx) (rI (y:=if sv<0 then d+1000000000-br-e else d-br-e) (by split <;> omega)) (rfl) (oH _) (by omega) (by omega) ?_;intro v1 H2 ha
   (first|rw[if_pos hb]at ha|rw[if_neg (by omega)]at ha)
   refine ab 1 rfl (aw (aj [0,1,5,6,13,14] rfl ?_));refine aB rfl (aG rfl rfl ⟨by omega,by omega⟩ (ab 1 rfl (aw ?_)));have dO:=FY (s:=d-br-e) (br':=0) (d:=d) (e:=e) dA hv (by omega) (kP hd) (show val ((an y).take (k+1))=val ((an y).take k)+B^k*e by rw[yG,←he]);exact⟨k+1,v1,o ++ [d-br-e],0,by omega,ar,(hle.trans (Heap.bB _ bx)).trans ha.le,ha.pP rfl rfl,by omega,by simp[dA],ee.snoc (by rw[cj];omega),by omega,dO⟩
 ·
  have hb:(an x).length≤k:=by simpa using hb
  obtain rfl:k=(an x).length:=by omega
  rw[List.take_length,List.take_of_length_le hl,cR,cR]at hv;have wv:=uO ee;rw[dA]at wv
  have tl:br=0:=by
   rcases Nat.eq_zero_or_pos br with h | h
   ·exact h
   ·
    obtain rfl:br=1:=by omega
    omega
  obtain⟨Ao',co',aer,oJ,qw⟩:=cC.lim
  cases aer
  refine aV (aj [5] rfl ?_);refine ag (ab 1 rfl (aE rfl rfl (OX ee qw oJ (by omega)) ?_));intro v1 H4 hp;refine ab 1 rfl (ae [4] ?_);refine aD ⟨.inr rfl,_,.tmp rfl (.nil),?_⟩;exact⟨hle.trans hp.le,by have:=hp.nat;rwa [show val o=x-y by rw[tl]at hv;omega]at this⟩
end Go.au
namespace Go.au
open Go.Proofs Num
theorem yK(H:Heap)(g n:Nat):ins H g ⟨cg [.int .u32 0] (n*1),n*1,121,true⟩=ins H g (dE (List.replicate n 0) n):=aem (k:=n) rfl
theorem yL{l:List Nat}{k y:Nat}(h:k<l.length):(l.set k y).take (k+1)=l.take k ++ [y]:=ael h
theorem KC{q m r x:Nat}(h:q*m+r=x)(hr:r<m):x/m=q∧x%m=r:=by
 subst h
 refine⟨?_,?_⟩
 ·rw[Nat.mul_comm,Nat.mul_add_div (by omega),Nat.div_eq_of_lt hr,Nat.add_zero]
 ·rw[Nat.mul_comm,Nat.mul_add_mod,Nat.mod_eq_of_lt hr]
def aes(H:Heap)(n x:Nat)(v:Value)(H':Heap):Prop:=∃g l,H g=none∧v = .slice (some ⟨g,0,none⟩) n n∧H'=ins H g (dE l n)∧l.length=n∧Lt l∧val l=x
theorem KD{H:Heap}{v:Value}{l:List Nat}(h:jx H v l)(bI:Lt l)(hm:(l.length:Int)≤35184372088832):Fn Tryz.prog 207 #[v] H (nr H (val l)):=by
 obtain⟨A,c,rfl,hc,hr⟩:=h
 exact OX bI hr hc hm
theorem VQ{H:Heap}{u:Value}{l:List Nat}{m:Nat}(hu:jx H u l)(hl:Lt l)(hm:m<1000000000)(hs:(l.length:Int)≤8796093022208):
 Fn Tryz.prog 224 #[u,.int .u64 (m:Int)] H (aes H (l.length+1) (val l*m)):=by
 obtain⟨A,c,rfl,hc,hr⟩:=hu;refine a7 (args:=[_,_]) Tryz.func224 rfl rfl Tryz.ntmps224 rfl rfl fun w0=> ?_;refine aj [0,1] rfl ?_;refine ag (ab 1 rfl (ae [0,1] ?_));refine ag (ab 2 rfl (aG rfl rfl ⟨by omega,by omega⟩ (gF Tryz.underlying177 eD rfl rfl rfl (by omega) (by omega) (by omega) (by omega) ?_)));intro g hg;rw[show ((l.length:Int)+1).toNat=l.length+1 from by omega,yK];have qx:=fun e=>hr.le (Heap.bB (g:=g) e hg);refine ab 1 rfl (ae [0,1,5] ?_);refine ag (ab 1 rfl (ae [0,1,5,6] ?_));refine ao (ag (ab 3 rfl (ae [0,1,5,6,14,15] ?_)));refine aF (fZ (fun(k:Nat)(o:List Nat)(cr:Nat)=>l.length-k) (fun(k:Nat)(o:List Nat)(cr:Nat)=>put (put (put (put (put (put (emp) 0 (.val (.slice A l.length c))) 1 (.val (.int .u64 (m:Int)))) 5 (.val (.slice (some ⟨g,0,none⟩) (l.length+1) (l.length+1)))) 6 (.val (.int .u64 (cr:Int)))) 14 (.val (.int .i64 (l.length:Int)))) 15 (.val (.int .i64 (k:Int)))) (fun(k:Nat)(o:List Nat)(cr:Nat) H'=>H'=ins H g (dE o (l.length+1))∧k≤l.length∧o.length=l.length+1∧Lt o∧cr<1000000000∧val (o.take k)+B^k*cr=val (l.take k)*m) 0 _ 0 (⟨rfl,by omega,by simp,Lt.replicate _,by omega,by simp[val]⟩) ar ?_)
 rintro k o cr H1 ⟨rfl,hk,dA,ee,jL,hv⟩;refine ag (ab 1 rfl (ae [0,1,5,6,14,15,16] ?_));refine ao (aC rfl (fun hb=> ?_) (fun hb=> ?_))
 ·
  have hb:k<l.length:=by simpa using hb
  obtain⟨d,hd⟩:∃d,l[k]? = some d:=⟨_,List.getElem?_eq_getElem hb⟩;have lQ:=hl.get hd;rw[cj]at lQ;have VR:d*m≤999999999*999999999:=Nat.mul_le_mul (by omega) (by omega)
  have VS:(d:Int)*(m:Int)=((d*m:Nat):Int):=by simp
  obtain⟨dm,amp⟩:∃dm,dm=d*m:=⟨_,rfl⟩;refine aA (aj [0,1,5,6,14,15] rfl ?_);refine ao (aF (ag (ab 2 rfl (ae [0,1,5,6,7,14,15] ?_))));refine ag (ab 2 rfl (aQ ah rfl rfl rfl rfl rfl (qx _) (dr hd) (by omega) (by omega) fun _=>(dd ah rfl rfl rfl ⟨by omega,by omega⟩ (ab 1 rfl (gM rfl rfl ⟨by omega,by omega⟩ (ab 1 rfl (aG rfl rfl ⟨by omega,by omega⟩ (ab 1 rfl (ae [0,1,5,7,8,14,15] ?_)))))))));refine ag (ab 3 rfl (m7 rfl rfl (by omega) (by omega) (dd ah rfl rfl rfl ⟨by omega,by omega⟩ ?_)));obtain⟨ti,ak,al⟩:=oG;refine cQ (.inl rfl) ah rfl rfl rfl (by omega) (by omega) (bD _ _ _) rfl (by rw[oI];omega) ak al (fun _=>rfl) rfl rfl rfl fun _=> ?_;refine ae [0,1,5,8,14,15] ?_;refine aB rfl (ab 1 rfl (lP rfl rfl (by omega) (by omega) ⟨by omega,by omega⟩ (ab 1 rfl (aw (aj [0,1,5,6,14,15] rfl ?_)))));refine aB rfl (aG rfl rfl ⟨by omega,by omega⟩ (ab 1 rfl (aw ?_)));have dO:=Dg (s:=d*m+cr) (a:=cr) (b:=d*m) (u:=val (l.take (k+1))*m) (by simp;omega) hv (by omega) (by rw[kP hd,Nat.add_mul,Nat.mul_assoc])
  rw[←yL (by omega)]at dO;exact⟨k+1,o.set k ((d*m+cr)%B),(d*m+cr)/B,by omega,ar,by rw[uR (y:=(d*m+cr)%B) (by rw[cj];omega)];rfl,by omega,by simp[dA],ee.set (Nat.mod_lt _ nh),by rw[cj];omega,dO⟩
 ·
  have hb:l.length≤k:=by simpa using hb
  obtain rfl:k=l.length:=by omega
  rw[List.take_length]at hv;refine aV (aj [0,5,6] rfl ?_);refine ag (ab 4 rfl (dd ah rfl rfl rfl ⟨by omega,by omega⟩ ?_));obtain⟨ti,ak,al⟩:=oG;refine cQ (.inl rfl) ah rfl rfl rfl (by omega) (by omega) (bD _ _ _) rfl (by rw[oI];omega) ak al (fun _=>rfl) rfl rfl rfl fun _=> ?_;refine ae [5] ?_;refine ag (ab 2 rfl (ae [4] ?_));refine aD ⟨.inr rfl,_,.tmp rfl (.nil),?_⟩;refine⟨g,o.set l.length cr,hg,rfl,?_,by simp[dA],ee.set (by rw[cj];omega),?_⟩
  ·rw[uR (y:=cr) rfl];rfl
  ·rw[←List.take_length (l:=o.set l.length cr),List.length_set,dA,yL (by omega),rF,List.length_take,Nat.min_eq_left (by omega)];exact hv
theorem VT{H:Heap}{u:Value}{l:List Nat}{m:Nat}(hu:jx H u l)(hl:Lt l)(hm:m<1000000000)(wz:0<m)(hs:(l.length:Int)≤8796093022208):
 Fn Tryz.prog 223 #[u,.int .u64 (m:Int)] H (fun v H'=>Heap.le H H'∧∃q,v = .tuple #[q,.int .u64 ((val l%m:Nat):Int)]∧de H' q (val l/m)):=by
 obtain⟨A,c,rfl,hc,hr⟩:=hu;refine a7 (args:=[_,_]) Tryz.func223 rfl rfl Tryz.ntmps223 rfl rfl fun w0=> ?_;refine aj [0,1] rfl ?_;refine ag (ab 2 rfl (ae [0,1] ?_));refine ag (ab 2 rfl (gF Tryz.underlying177 eD rfl rfl rfl (by omega) (by omega) (by omega) (by omega) ?_));intro g hg;rw[show ((l.length:Int)).toNat=l.length from by omega,yK];have qx:=fun e=>hr.le (Heap.bB (g:=g) e hg);refine ab 1 rfl (ae [0,1,6] ?_);refine ag (ab 1 rfl (ae [0,1,6,7] ?_));refine ao (ag (ab 2 rfl (cV rfl rfl ⟨by omega,by omega⟩ (ab 1 rfl (ae [0,1,6,7,8] ?_)))));refine aF (fZ (fun(k:Nat)(o:List Nat)(rs:Nat)=>k) (fun(k:Nat)(o:List Nat)(rs:Nat)=>put (put (put (put (put (emp) 0 (.val (.slice A l.length c))) 1 (.val (.int .u64 (m:Int)))) 6 (.val (.slice (some ⟨g,0,none⟩) l.length l.length))) 7 (.val (.int .u64 (rs:Int)))) 8 (.val (.int .i64 ((k:Int)-1)))) (fun(k:Nat)(o:List Nat)(rs:Nat) H'=>H'=ins H g (dE o l.length)∧k≤l.length∧o.length=l.length∧Lt o∧rs<m∧val (o.drop k)*m+rs=val (l.drop k)) l.length _ 0 (⟨rfl,by omega,by simp,Lt.replicate _,by omega,by simp[val]⟩) ar ?_);rintro k o rs H1 ⟨rfl,hk,dA,ee,yM,hv⟩;refine ao ?_
 refine ag (ab 2 rfl (ae [0,1,6,7,8,17] ?_));refine aC rfl (fun hb=> ?_) (fun hb=> ?_)
 ·
  have hb:1≤k:=by simp at hb;omega
  obtain⟨k,rfl⟩:∃j,k=j+1:=⟨k-1,by omega⟩;obtain⟨d,hd⟩:∃d,l[k]? = some d:=⟨_,List.getElem?_eq_getElem (by omega)⟩;have lQ:=hl.get hd;rw[cj]at lQ
  have hj:(((k+1:Nat):Int)-1).toNat=k:=by omega
  have jz:((rs:Int)*1000000000+(d:Int))/(m:Int)<1000000000:=Int.ediv_lt_of_lt_mul (by omega) (by omega);have cB:0≤((rs:Int)*1000000000+(d:Int))/(m:Int):=Int.ediv_nonneg (by omega) (by omega);refine aA (aj [0,1,6,7,8] rfl ?_);refine ao (aF (ag (ab 1 rfl (gM rfl rfl ⟨by omega,by omega⟩ (ab 2 rfl (aQ ah rfl rfl rfl rfl rfl (qx _) (by rw[hj];exact dr hd) (by omega) (by omega) fun _=> ?_))))));refine dd ah rfl rfl rfl ⟨by omega,by omega⟩ (aG rfl rfl ⟨by omega,by omega⟩ (ab 1 rfl (ae [0,1,6,8,9] ?_)));refine ag (ab 4 rfl (lP rfl rfl (by omega) (by omega) ⟨by omega,by omega⟩ (dd ah rfl rfl rfl ⟨by omega,by omega⟩ ?_)));obtain⟨ti,ak,al⟩:=oG;refine cQ (.inl rfl) ah rfl rfl rfl (by omega) (by omega) (bD _ _ _) rfl (by rw[oI];omega) ak al (fun _=>rfl) rfl rfl rfl fun _=> ?_;refine ae [0,1,6,8,9] ?_;refine aB rfl (ab 2 rfl (m7 rfl rfl (by omega) (by omega) (ab 1 rfl (aw (aj [0,1,6,7,8] rfl ?_)))));refine aB rfl (ab 1 rfl (cV rfl rfl ⟨by omega,by omega⟩ (ab 1 rfl (aw ?_))))
  have hq:(rs*1000000000+d)/m<1000000000:=by rw[Nat.div_lt_iff_lt_mul wz];omega
  refine⟨k,o.set k ((rs*1000000000+d)/m),(rs*1000000000+d)%m,by omega,ar,by rw[uR (y:=(rs*1000000000+d)/m) (by simp)];rw[hj],by omega,by simp[dA],ee.set (by rw[cj];omega),Nat.mod_lt _ wz,?_⟩;rw[set_drop (by omega),Dh hd,jv,jv,←hv];have:=Nat.div_add_mod (rs*1000000000+d) m
  simp only[cj,Nat.add_mul,Nat.mul_add,Nat.mul_assoc]
  rw[Nat.mul_comm m]at this
  omega
 ·
  have hb:k=0:=by simp at hb;omega
  subst hb
  simp only[List.drop_zero]at hv
  refine aV (aj [6,7] rfl ?_);refine ag (ab 1 rfl (aE rfl rfl (KD (AN _ _ o _ _ dA.symm (Nat.le_refl _)) ee (by omega)) ?_));intro v1 H4 hp;refine ab 3 rfl (ae [4,5] ?_);refine aD ⟨.inr rfl,_,.tmp rfl (.tmp rfl (.nil)),?_⟩;refine⟨(Heap.bB _ hg).trans hp.le,v1,?_,?_⟩
  ·rw[(KC hv yM).2];rfl
  ·rw[(KC hv yM).1];exact hp.nat
end Go.au
namespace Go.au
open Go.Proofs Num
def rJ(o:List Nat)(p:Nat):Prop:=∀t z,p≤t→o[t]? = some z→z=0
theorem rJ.set{o:List Nat}{p t y:Nat}(h:rJ o p)(ht:t<p):rJ (o.set t y) p:=fun s z hs hz=>by
 rw[List.getElem?_set_ne (by omega)]at hz
 exact h s z hs hz
theorem rJ.aet{o:List Nat}{p y:Nat}(h:rJ o p):rJ (o.set p y) (p+1):=fun s z hs hz=>by
 rw[List.getElem?_set_ne (by omega)]at hz
 exact h s z (by omega) hz
theorem VU(n p:Nat):rJ (List.replicate n 0) p:=fun t z _ hz=>by
 rw[List.getElem?_replicate]at hz
 split at hz
 ·cases hz;rfl
 ·cases hz
theorem VV{o:List Nat}{i j e cr s X Y P d:Nat}(he:o[i+j]? = some e)(hv:val o+B^(i+j)*cr=X+B^i*d*Y)(hs:s=d*P+e+cr):
  val (o.set (i+j) (s%B))+B^(i+(j+1))*(s/B)=X+B^i*d*(Y+B^j*P):=by
 have h1:=VK (y:=s%B) he
 have h2:B^(i+j)*s=B^(i+j)*(s%B)+B^(i+j)*(B*(s/B)):=by rw[←Nat.mul_add,Nat.mod_add_div]
 have h3:B^(i+j)*s=B^(i+j)*(d*P)+B^(i+j)*e+B^(i+j)*cr:=by rw[hs,Nat.mul_add,Nat.mul_add]
 have h4:B^i*d*(B^j*P)=B^(i+j)*(d*P):=by rw[Nat.pow_add,Nat.mul_assoc,Nat.mul_assoc,Nat.mul_left_comm d]
 rw[Nat.mul_add,h4,←Nat.add_assoc i j 1,Nat.pow_succ,Nat.mul_assoc]
 omega
theorem AP{H:Heap}{u v:Value}{x y:Nat}(hx:de H u x)(hy:de H v y)(hm:((an x).length:Int)≤8796093022208)(bH:((an y).length:Int)≤8796093022208):
 Fn Tryz.prog 197 #[u,v] H (nr H (x*y)):=by
 obtain⟨A,c,rfl,hc,hr⟩:=hx
 obtain⟨A',c',rfl,jH,dQ⟩:=hy
 have jy:=(fP x).lt
 have eo:=(fP y).lt;refine a7 (args:=[_,_]) Tryz.func197 rfl rfl Tryz.ntmps197 rfl rfl fun w0=> ?_;refine aj [0,1] rfl ?_;refine ag (ab 1 rfl (ae [0,1] ?_));refine ao ?_
 by_cases je:(an x).length=0
 ·
  skip
  refine ag (ab 2 rfl (aI true rfl rfl (jY (by omega)) (ab 5 rfl (ae [0,1,17] ?_))));refine dN rfl (ag (ab 1 rfl (ae [4] ?_)));refine aD ⟨.inr rfl,_,.tmp rfl (.nil),?_⟩;exact⟨.refl _,by have:x=0:=(by rw[←cR x,List.eq_nil_of_length_eq_zero je];rfl);rw[this,Nat.zero_mul];exact wq H⟩
 ·
  skip
  refine ag (ab 2 rfl (aI false rfl rfl (ln (by omega)) (ab 5 rfl (ae [0,1,17] ?_))));refine aC rfl (fun hb=> ?_) (fun hb=> ?_)
  ·
   have hb:(an y).length=0:=by simpa using hb
   refine ag (ab 1 rfl (ae [4] ?_));refine aD ⟨.inr rfl,_,.tmp rfl (.nil),?_⟩;exact⟨.refl _,by have:y=0:=(by rw[←cR y,List.eq_nil_of_length_eq_zero hb];rfl);rw[this,Nat.mul_zero];exact wq H⟩
  have jt:(an y).length≠0:=by simpa using hb
  refine aA (aj [0,1] rfl ?_);refine ag (ab 4 rfl (aG rfl rfl ⟨by omega,by omega⟩ (gF Tryz.underlying177 eD rfl rfl rfl (by omega) (by omega) (by omega) (by omega) ?_)));intro g hg;rw[show (((an x).length:Int)+((an y).length:Int)).toNat=((an x).length+(an y).length)from by omega,yK];have qx:=fun e=>hr.le (Heap.bB (g:=g) e hg);have F4:=fun e=>dQ.le (Heap.bB (g:=g) e hg);refine ab 1 rfl (ae [0,1,5] ?_);refine ao (ag (ab 3 rfl (ae [0,1,5,25,26] ?_)));refine aF (gX (fun(i:Nat)(o:List Nat)=>(an x).length-i) (fun(i:Nat)(o:List Nat)=>put (put (put (put (put (emp) 0 (.val (.slice A (an x).length c))) 1 (.val (.slice A' (an y).length c'))) 5 (.val (.slice (some ⟨g,0,none⟩) ((an x).length+(an y).length) ((an x).length+(an y).length)))) 25 (.val (.int .i64 ((an x).length:Int)))) 26 (.val (.int .i64 (i:Int)))) (fun(i:Nat)(o:List Nat) H'=>H'=ins H g (dE o ((an x).length+(an y).length))∧i≤(an x).length∧o.length=((an x).length+(an y).length)∧Lt o∧rJ o (i+(an y).length)∧val o=val ((an x).take i)*y) 0 _ (⟨rfl,by omega,by simp,Lt.replicate _,VU _ _,by simp[val,VL]⟩) ar ?_);rintro i o H1 ⟨rfl,hi,dA,ee,hz,hv⟩;refine ag ?_
  refine ab 1 rfl (ae [0,1,5,25,26,27] ?_);refine ao (aC rfl (fun hb=> ?_) (fun hb=> ?_))
  ·
   have hb:i<(an x).length:=by simpa using hb
   obtain⟨d,hd⟩:∃d,(an x)[i]? = some d:=⟨_,List.getElem?_eq_getElem hb⟩;have lQ:=jy.get hd;rw[cj]at lQ;refine aA (aj [0,1,5,25,26] rfl ?_);refine ao (aF (ag (ab 2 rfl (ae [0,1,5,6,25,26] ?_))));refine ag (ab 1 rfl (ae [0,1,5,6,7,25,26] ?_));refine ao (ag (ab 3 rfl (ae [0,1,5,6,7,25,26,30,31] ?_)));refine aF (fZ (fun(j:Nat)(o2:List Nat)(cr:Nat)=>(an y).length-j) (fun(j:Nat)(o2:List Nat)(cr:Nat)=>put (put (put (put (put (put (put (put (put (emp) 0 (.val (.slice A (an x).length c))) 1 (.val (.slice A' (an y).length c'))) 5 (.val (.slice (some ⟨g,0,none⟩) ((an x).length+(an y).length) ((an x).length+(an y).length)))) 6 (.val (.int .i64 (i:Int)))) 7 (.val (.int .u64 (cr:Int)))) 25 (.val (.int .i64 ((an x).length:Int)))) 26 (.val (.int .i64 (i:Int)))) 30 (.val (.int .i64 ((an y).length:Int)))) 31 (.val (.int .i64 (j:Int)))) (fun(j:Nat)(o2:List Nat)(cr:Nat) H'=>H'=ins H g (dE o2 ((an x).length+(an y).length))∧j≤(an y).length∧o2.length=((an x).length+(an y).length)∧Lt o2∧cr<1000000000∧rJ o2 (i+(an y).length)∧val o2+B^(i+j)*cr=val ((an x).take i)*y+B^i*d*val ((an y).take j)) 0 o 0 (⟨rfl,by omega,dA,ee,by omega,hz,by simp[val,hv]⟩) ar ?_)
   rintro j o2 cr H1 ⟨rfl,hj,F5,AQ,jL,oK,dF⟩;refine ag (ab 1 rfl (ae [0,1,5,6,7,25,26,30,31,32] ?_));refine ao (aC rfl (fun hb=> ?_) (fun hb=> ?_))
   ·
    have hb:j<(an y).length:=by simpa using hb
    obtain⟨p,hp⟩:∃p,(an y)[j]? = some p:=⟨_,List.getElem?_eq_getElem hb⟩;have yJ:=eo.get hp;rw[cj]at yJ;obtain⟨e,he⟩:∃e,o2[i+j]? = some e:=⟨_,List.getElem?_eq_getElem (by omega)⟩;have Dj:=AQ.get he;rw[cj]at Dj
    have F6:((i:Int)+(j:Int)).toNat=i+j:=by omega
    have VR:d*p≤999999999*999999999:=Nat.mul_le_mul (by omega) (by omega)
    have VS:(d:Int)*(p:Int)=((d*p:Nat):Int):=by simp
    refine aA (aj [0,1,5,6,7,25,26,30,31] rfl ?_);refine ao (aF (ag (ab 2 rfl (ae [0,1,5,6,7,8,25,26,30,31] ?_))));refine bO .bL [0,1,2,3,4,5,6,7,8,9,10,11,12,13,14,15,16,17,18,19,20,21] follows (by kernel_rfl) ?_;refine ab 2 rfl (aQ ah rfl rfl rfl rfl rfl (qx _) (dr hd) (by omega) (by omega) fun _=>(dd ah rfl rfl rfl ⟨by omega,by omega⟩ (ab 2 rfl (aQ ah rfl rfl rfl rfl rfl (F4 _) (dr hp) (by omega) (by omega) fun _=>(dd ah rfl rfl rfl ⟨by omega,by omega⟩ (gM rfl rfl ⟨by omega,by omega⟩ (ab 3 rfl (aG rfl rfl ⟨by omega,by omega⟩ (aQ ah rfl rfl rfl rfl rfl (Kz _ _ _ _) (by rw[F6];exact dr he) (by omega) (by omega) fun _=> ?_)))))))));refine dd ah rfl rfl rfl ⟨by omega,by omega⟩ (aG rfl rfl ⟨by omega,by omega⟩ (ab 1 rfl (aG rfl rfl ⟨by omega,by omega⟩ (ab 1 rfl (ae [0,1,5,6,8,9,25,26,30,31] ?_)))));refine ag (ab 3 rfl (aG rfl rfl ⟨by omega,by omega⟩ (ab 1 rfl (m7 rfl rfl (by omega) (by omega) (dd ah rfl rfl rfl ⟨by omega,by omega⟩ ?_)))));obtain⟨ti,ak,al⟩:=oG;refine cQ (.inl rfl) ah rfl rfl rfl (by omega) (by omega) (bD _ _ _) rfl (by rw[oI];omega) ak al (fun _=>rfl) rfl rfl rfl fun _=> ?_
    refine ae [0,1,5,6,9,25,26,30,31] ?_;refine aB rfl (ab 1 rfl (lP rfl rfl (by omega) (by omega) ⟨by omega,by omega⟩ (ab 1 rfl (aw (aj [0,1,5,6,7,25,26,30,31] rfl ?_)))));refine aB rfl (aG rfl rfl ⟨by omega,by omega⟩ (ab 1 rfl (aw ?_)));refine⟨j+1,o2.set (i+j) ((d*p+e+cr)%B),(d*p+e+cr)/B,by omega,ar,by rw[uR (y:=(d*p+e+cr)%B) (by rw[cj];simp),F6],by omega,by simp[F5],AQ.set (Nat.mod_lt _ nh),by rw[cj];omega,oK.set (by omega),?_⟩;rw[kP hp];exact VV he dF rfl
   have hb:(an y).length≤j:=by simpa using hb
   obtain rfl:j=(an y).length:=by omega
   rw[List.take_length,cR]at dF;refine aV (aj [0,1,5,6,7,25,26] rfl ?_);refine aB rfl (ab 4 rfl (aG rfl rfl ⟨by omega,by omega⟩ (ab 1 rfl (dd ah rfl rfl rfl ⟨by omega,by omega⟩ ?_))));obtain⟨ti,ak,al⟩:=oG;refine cQ (.inl rfl) ah rfl rfl rfl (by omega) (by omega) (bD _ _ _) rfl (by rw[oI];omega) ak al (fun _=>rfl) rfl rfl rfl fun _=> ?_;refine aw (aj [0,1,5,25,26] rfl ?_);refine aB rfl (aG rfl rfl ⟨by omega,by omega⟩ (ab 1 rfl (aw ?_)));obtain⟨e,he⟩:∃e,o2[i+(an y).length]? = some e:=⟨_,List.getElem?_eq_getElem (by omega)⟩;have Dk:=oK _ _ (Nat.le_refl _) he;subst Dk;refine⟨i+1,o2.set (i+(an y).length) cr,by omega,ar,by rw[uR (y:=cr) rfl,show ((i:Int)+((an y).length:Int)).toNat=i+(an y).length by omega],by omega,by simp[F5],AQ.set (by rw[cj];omega),by rw[Nat.add_right_comm];exact oK.aet,?_⟩;have h1:=VK (y:=cr) he;rw[kP hd,Nat.add_mul]
   omega
  have hb:(an x).length≤i:=by simpa using hb
  obtain rfl:i=(an x).length:=by omega
  rw[List.take_length,cR]at hv;refine aV (aj [5] rfl ?_);refine ag (ab 1 rfl (aE rfl rfl (KD (AN _ _ o _ _ dA.symm (Nat.le_refl _)) ee (by omega)) ?_));intro v1 H4 hp;refine ab 1 rfl (ae [4] ?_);refine aD ⟨.inr rfl,_,.tmp rfl (.nil),?_⟩;exact⟨(Heap.bB _ hg).trans hp.le,by have:=hp.nat;rwa [hv]at this⟩
end Go.au
namespace Num
theorem aeu{T V W vl wl head u2 top next bG rest:Nat}(hV:V=vl+T*(next+B*top))(hW:W=wl+T*(u2+B*head))(pQ:wl<T)(hg:bG*top+rest=head)(hc:rest*B+u2<bG*next):W<bG*V:=by
 have h1:u2+B*head+1≤bG*(next+B*top):=by
  rw[←hg,Nat.mul_add,Nat.mul_add,Nat.mul_left_comm bG B top,Nat.mul_comm B rest];omega
 have h2:T*(u2+B*head+1)≤T*(bG*(next+B*top)):=Nat.mul_le_mul_left _ h1
 rw[hV,hW,Nat.mul_add bG,Nat.mul_left_comm bG T]
 rw[Nat.mul_add T _ 1]at h2
 omega
theorem aev{T V W vl wl head u2 top next bG rest:Nat}(hV:V=vl+T*(next+B*top))(hW:W=wl+T*(u2+B*head))(iC:vl<T)(Dl:1≤top)(hg:bG*top+rest=head)(hc:bG*next≤rest*B+u2)(KE:bG<B):bG*V<W+V:=by
 have h1:bG*(next+B*top)≤u2+B*head:=by
  rw[←hg,Nat.mul_add,Nat.mul_add,Nat.mul_left_comm bG B top,Nat.mul_comm B rest];omega
 have h2:T*(bG*(next+B*top))≤T*(u2+B*head):=Nat.mul_le_mul_left _ h1
 have h3:bG*vl≤bG*T:=Nat.mul_le_mul_left _ (by omega)
 have h4:bG*T<B*T:=Nat.mul_lt_mul_of_pos_right KE (by omega)
 have h5:T*(B*1)≤T*(B*top):=Nat.mul_le_mul_left _ (Nat.mul_le_mul_left _ Dl)
 have h6:T*(B*1)=B*T:=by rw[Nat.mul_one,Nat.mul_comm]
 have h7:T*(next+B*top)=T*next+T*(B*top):=Nat.mul_add _ _ _
 have h8:bG*V=bG*vl+T*(bG*(next+B*top)):=by rw[hV,Nat.mul_add,Nat.mul_left_comm bG T]
 omega
theorem aew{T V W vl wl head u2 top next:Nat}(hV:V=vl+T*(next+B*top))(hW:W=wl+T*(u2+B*head))(iC:vl<T)(Ga:next<B)(h:W<B*V):head<(top+1)*B:=by
 have h1:V<T*(B*(top+1)):=by
  have h2:T*(next+B*top+1)≤T*(B*(top+1)):=Nat.mul_le_mul_left _ (by rw[Nat.mul_add B top 1];omega)
  rw[Nat.mul_add T _ 1]at h2
  omega
 have h2:B*V<B*(T*(B*(top+1))):=Nat.mul_lt_mul_of_pos_left h1 nh
 have h3:T*(B*head)≤W:=by rw[hW,Nat.mul_add T u2];omega
 have h4:T*(B*head)<T*(B*((top+1)*B)):=by
  have:B*(T*(B*(top+1)))=T*(B*((top+1)*B)):=by rw[Nat.mul_left_comm B T,Nat.mul_comm (top+1) B]
  omega
 exact Nat.lt_of_mul_lt_mul_left (Nat.lt_of_mul_lt_mul_left h4)
theorem aex{T V W vl wl head u2 top next bG rest:Nat}(hV:V=vl+T*(next+B*top))(hW:W=wl+T*(u2+B*head))(iC:vl<T)(Ga:next<B)(hh:head<(top+1)*B)(hg:bG*top+rest=head)(hr:B≤rest):bG<B∧bG*V≤W:=by
 have h0:bG<B:=by
  have h1:bG*top<B*top:=by rw[Nat.add_mul,Nat.one_mul,Nat.mul_comm top B]at hh;omega
  exact Nat.lt_of_mul_lt_mul_right h1
 refine⟨h0,?_⟩
 have h1:V≤T*(B*(top+1)):=by
  have h2:T*(next+B*top+1)≤T*(B*(top+1)):=Nat.mul_le_mul_left _ (by rw[Nat.mul_add B top 1];omega)
  rw[Nat.mul_add T _ 1]at h2
  omega
 have h2:bG*V≤bG*(T*(B*(top+1))):=Nat.mul_le_mul_left _ h1
 have h3:bG*(T*(B*(top+1)))=T*(B*(bG*(top+1))):=by rw[Nat.mul_left_comm bG T,Nat.mul_left_comm bG B]
 have h4:bG*(top+1)≤head:=by rw[Nat.mul_add,Nat.mul_one];omega
 have h5:T*(B*(bG*(top+1)))≤T*(B*head):=Nat.mul_le_mul_left _ (Nat.mul_le_mul_left _ h4)
 have h6:T*(B*head)≤W:=by rw[hW,Nat.mul_add T u2];omega
 omega
theorem VW{bG top rest head:Nat}(hg:bG*top+rest=head)(h:0<bG):(bG-1)*top+(rest+top)=head:=by
 obtain⟨j,rfl⟩:∃j,bG=j+1:=⟨bG-1,by omega⟩
 rw[Nat.add_mul,Nat.one_mul]at hg
 rw[Nat.add_sub_cancel];omega
theorem aey{V W bG q:Nat}(hq:q=W/V)(hV:0<V)(h:bG*V<W+V):bG≤q+1:=by
 subst hq
 have h1:=Nat.div_add_mod W V
 have h2:=Nat.mod_lt W hV
 have h3:bG*V<(W/V+2)*V:=by
  rw[Nat.add_mul]
  rw[Nat.mul_comm]at h1
  omega
 have:=Nat.lt_of_mul_lt_mul_right h3
 omega
theorem OY{V W bG q:Nat}(hq:q=W/V)(h:W<bG*V):q<bG:=by
 subst hq
 exact Nat.div_lt_of_lt_mul (by rwa [Nat.mul_comm]at h)
theorem aez{w:List Nat}{k p a b:Nat}(hl:w.length=k+3)(h0:w[k]? = some p)(h1:w[k+1]? = some a)(h2:w[k+2]? = some b):val w=val (w.take k)+B^k*(p+B*(b*B+a)):=by
 rw[Kr h0,Dh h1,Dh h2,List.drop_eq_nil_of_le (by omega),jv,jv]
 simp only[val,Nat.mul_zero,Nat.add_zero]
 rw[Nat.mul_comm b B,Nat.add_comm a]
theorem aeA{w:List Nat}{k p a:Nat}(hl:w.length=k+2)(h0:w[k]? = some p)(h1:w[k+1]? = some a):val w=val (w.take k)+B^k*(p+B*a):=by
 rw[Kr h0,Dh h1,List.drop_eq_nil_of_le (by omega),jv]
 simp only[val,Nat.mul_zero,Nat.add_zero]
theorem Dm{w:List Nat}{k:Nat}(h:Lt w)(hk:k≤w.length):val (w.take k)<B^k:=by
 have:=uO (h.take k)
 rwa [List.length_take,Nat.min_eq_left hk]at this
theorem aeB{n V W X un br bG q:Nat}(hW:W=X+B^n*un){Y:Nat}(hX:X+B^n*br=Y+bG*V)(uS:br≤un)(hq:q=W/V)(Gb:q≤bG)(hV:0<V):bG=q∧Y+B^n*(un-br)=W%V:=by
 have h1:B^n*un=B^n*(un-br)+B^n*br:=by rw[←Nat.mul_add,Nat.sub_add_cancel uS]
 have h2:W=Y+B^n*(un-br)+bG*V:=by omega
 have h3:bG≤q:=by
  rw[hq,Nat.le_div_iff_mul_le hV];omega
 have h4:bG=q:=by omega
 refine⟨h4,?_⟩
 have h5:=Nat.div_add_mod W V
 rw[←hq,←h4,Nat.mul_comm]at h5
 omega
theorem aeC{n V W X un br bG q:Nat}(hW:W=X+B^n*un){Y Z cr:Nat}(hX:X+B^n*br=Y+bG*V)(uS:un<br)(hq:q=W/V)(ed:bG≤q+1)(hV:0<V)(hVn:V<B^n)(hY:Y<B^n)(hZ:Z<B^n)(hZY:Z+B^n*cr=Y+V):bG=q+1∧un+cr=br∧Z=W%V:=by
 have h0:B^n*br=B^n*un+B^n*(br-un):=by rw[←Nat.mul_add];congr 1;omega
 have h1:W+B^n*(br-un)=Y+bG*V:=by omega
 have FN:B^n*1≤B^n*(br-un):=Nat.mul_le_mul_left _ (by omega)
 have h2:W<bG*V:=by omega
 have h3:=OY hq h2
 have h4:bG=q+1:=by omega
 have h5:=Nat.div_add_mod W V
 have h6:=Nat.mod_lt W hV
 rw[←hq,Nat.mul_comm]at h5
 have h7:bG*V=q*V+V:=by rw[h4,Nat.add_mul,Nat.one_mul]
 have h8:W%V+B^n*(br-un)=Z+B^n*cr:=by omega
 have h9:br-un=cr:=by
  have e1:(W%V+B^n*(br-un))/B^n=br-un:=by
   rw[Nat.add_mul_div_left _ _ (by omega),Nat.div_eq_of_lt (by omega),Nat.zero_add]
  have e2:(Z+B^n*cr)/B^n=cr:=by
   rw[Nat.add_mul_div_left _ _ (by omega),Nat.div_eq_of_lt (by omega),Nat.zero_add]
  rw[←e1,←e2,h8]
 subst h9
 exact⟨h4,by omega,by omega⟩
theorem OZ(a b:List Nat):val (a++b)=val a+B^a.length*val b:=by
 induction a with
 | nil=>simp[val]
 | cons x a ih=>
  rw[List.cons_append,jv,jv,ih,List.length_cons,Nat.pow_succ,Nat.mul_add,Nat.mul_comm (B^a.length) B,Nat.mul_assoc];omega
theorem Gc(l:List Nat){k:Nat}(hk:k≤l.length):val l=val (l.take k)+B^k*val (l.drop k):=by
 have:=OZ (l.take k) (l.drop k)
 rwa [List.take_append_drop,List.length_take,Nat.min_eq_left hk]at this
theorem VX{l:List Nat}{j n V:Nat}(uT:Lt l)(hlen:j+n+1≤l.length)(hd:val (l.drop (j+1))<V)(hV:V≤B^n):
  val (l.drop (j+n+1))=0∧val (l.drop j)=val ((l.drop j).take (n+1))∧val ((l.drop j).take (n+1))<B*V:=by
 have h1:=Gc (l.drop (j+1)) (k:=n) (by simp;omega)
 rw[List.drop_drop,show j+1+n=j+n+1 by omega]at h1
 have h0:val (l.drop (j+n+1))=0:=by
  rcases Nat.eq_zero_or_pos (val (l.drop (j+n+1)))with e | e
  ·exact e
  ·have:B^n*1≤B^n*val (l.drop (j+n+1)):=Nat.mul_le_mul_left _ e
   omega
 have h2:=Gc (l.drop j) (k:=n+1) (by simp;omega)
 rw[List.drop_drop,show j+(n+1)=j+n+1 by omega,h0,Nat.mul_zero,Nat.add_zero]at h2
 refine⟨h0,h2,?_⟩
 rw[←h2]
 have hj:l[j]? = some l[j]:=List.getElem?_eq_getElem (by omega)
 rw[Dh hj,jv]
 have h3:=uT.get hj
 have h4:B*(val (l.drop (j+1))+1)≤B*V:=Nat.mul_le_mul_left _ hd
 rw[Nat.mul_add]at h4
 omega
theorem aeD{l o w':List Nat}{j n V S q:Nat}(uT:Lt l)(hlen:j+n+1≤l.length)(hd:val (l.drop (j+1))<V)(hV:V≤B^n)(ho:j<o.length)
  (hinv:val (o.drop (j+1))*V*B^(j+1)+val l=S) (hq:q=val ((l.drop j).take (n+1))/V) (hw:val w'=val ((l.drop j).take (n+1))%V) (pQ:w'.length=n+1):
  val ((o.set j q).drop j)*V*B^j+val (l.take j++w'++l.drop (j+n+1))=S∧val ((l.take j++w'++l.drop (j+n+1)).drop j)<V:=by
 obtain⟨h0,h1,h2⟩:=VX uT hlen hd hV
 have e1:=Gc l (k:=j) (by omega)
 have e2:val (w'++l.drop (j+n+1))=val w':=by rw[OZ,h0,Nat.mul_zero,Nat.add_zero]
 have e3:val (l.take j++w'++l.drop (j+n+1))=val (l.take j)+B^j*val w':=by
  rw[List.append_assoc,OZ,e2,List.length_take,Nat.min_eq_left (by omega)]
 have e4:=Nat.div_add_mod (val ((l.drop j).take (n+1))) V
 rw[←hq,←hw]at e4
 refine⟨?_,?_⟩
 ·rw[set_drop ho,jv,e3]
  rw[h1,←e4]at e1
  have e5:(q+B*val (o.drop (j+1)))*V*B^j=B^j*(V*q)+val (o.drop (j+1))*V*B^(j+1):=by
   rw[Nat.add_mul,Nat.add_mul,Nat.pow_succ,Nat.mul_comm q V,Nat.mul_comm (V*q),Nat.mul_assoc B,Nat.mul_comm (B^j) B,Nat.mul_left_comm _ B,Nat.mul_assoc B]
  rw[Nat.mul_add]at e1
  omega
 ·rw[List.append_assoc,List.drop_append_of_le_length (by simp;omega),List.drop_of_length_le (by rw[List.length_take];omega),List.nil_append,e2,hw]
  exact Nat.mod_lt _ (by omega)
theorem aeE{l:List Nat}{x sc n m y:Nat}(hm:m≤l.length)(hl:val l=x*sc)(hx:x<B^(m+(n-1)))(hy:B^(n-1)≤y)(hs:0<sc):val (l.drop m)<y*sc:=by
 have h1:=Gc l hm
 have h2:B^m*val (l.drop m)<B^m*(y*sc):=by
  have a1:x*sc<B^(m+(n-1))*sc:=Nat.mul_lt_mul_of_pos_right hx hs
  have a2:B^(m+(n-1))*sc≤B^m*(y*sc):=by
   rw[Nat.pow_add,Nat.mul_assoc]
   exact Nat.mul_le_mul_left _ (Nat.mul_le_mul_right _ hy)
  omega
 exact Nat.lt_of_mul_lt_mul_left h2
theorem aeF{Q R x y sc:Nat}(h:Q*(y*sc)+R=x*sc)(hR:R<y*sc)(hs:0<sc):Q=x/y∧R/sc=x%y:=by
 have h1:x*sc/(y*sc)=Q:=by
  rw[←h,Nat.mul_comm Q,Nat.mul_add_div (by omega),Nat.div_eq_of_lt hR,Nat.add_zero]
 have h2:x*sc%(y*sc)=R:=by
  rw[←h,Nat.mul_comm Q,Nat.mul_add_mod,Nat.mod_eq_of_lt hR]
 rw[Nat.mul_div_mul_right _ _ hs]at h1
 rw[Nat.mul_mod_mul_right]at h2
 exact⟨h1.symm,by rw[←h2,Nat.mul_div_cancel _ hs]⟩
end Num
