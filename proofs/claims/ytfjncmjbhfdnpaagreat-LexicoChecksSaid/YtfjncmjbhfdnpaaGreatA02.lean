/- Part 2 of the proof: Ty, Num, Dat, Nat1, Nat2, Nat3, Nat4, Nat5, Nat6, Nat7, Nat8, Knu. -/
import Derived.Test.YtfjncmjbhfdnpaaGreatA01
import Derived.Test.YtfjncmjbhfdnpaaGreatProg
import Derived.KernelRfl
set_option linter.unusedVariables false
namespace Go.ay
open Go.Proofs
def tb:Tb:=[
 .no,.no,.it .i64,.it .i64,.ce,.it .u8,.it .u8,.st 4 [(0,1),(1,1),(2,1),(3,1)],
 .no,.no,.no,.no,.it .u64,.st 2 [(0,1),(1,1)],.no,.ce,
 .ce,.ce,.st 1 [(0,1)],.no,.no,.it .i32,.sl 4 1,.sl 78 5,
 .st 2 [(0,1),(1,1)],.st 2 [(0,1),(1,1)],.sl 31 3,.no,.no,.sl 121 1,.st 3 [(0,1),(1,1),(2,1)],.st 3 [(0,1),(1,1),(2,1)],
 .st 7 [(0,1),(1,3),(4,1),(5,1),(6,1)],.st 7 [(0,1),(1,3),(4,1),(5,1),(6,1)],.it .i64,.no,.no,.no,.no,.no,
 .sl 26 1,.no,.st 5 [(0,1),(1,1),(2,1),(3,1),(4,1)],.st 5 [(0,1),(1,1),(2,1),(3,1),(4,1)],.no,.no,.no,.no,
 .no,.it .i8,.no,.no,.no,.no,.no,.no,
 .no,.no,.no,.no,.no,.no,.no,.sl 66 2,
 .sl 131 2,.st 2 [(0,1),(1,1)],.st 2 [(0,1),(1,1)],.no,.no,.no,.no,.no,
 .no,.no,.no,.no,.no,.st 5 [(0,1),(1,1),(2,3)],.st 5 [(0,1),(1,1),(2,3)],.no,
 .no,.no,.ce,.no,.no,.sl 90 3,.no,.no,
 .ce,.st 3 [(0,1),(1,1),(2,1)],.st 3 [(0,1),(1,1),(2,1)],.no,.no,.no,.sl 3 1,.sl 85 1,
 .st 9 [(0,1),(1,1),(2,1),(3,1),(4,1),(5,1),(6,1),(7,1),(8,1)],.st 9 [(0,1),(1,1),(2,1),(3,1),(4,1),(5,1),(6,1),(7,1),(8,1)],.no,.no,.no,.no,.st 2 [(0,1),(1,1)],.st 2 [(0,1),(1,1)],
 .no,.no,.no,.no,.no,.no,.no,.no,
 .no,.no,.no,.no,.no,.no,.no,.no,
 .it .u64,.it .u32,.no,.no,.no,.no,.no,.no,
 .no,.no,.st 2 [(0,1),(1,1)],.st 2 [(0,1),(1,1)],.no,.no,.no,.no,
 .no,.no,.no,.no,.no,.no,.no,.no,
 .no,.no,.sl 2 1,.no,.no,.no,.no,.no,
 .no,.no,.no,.no,.no,.ce,.sl 161 1,.st 3 [(0,1),(1,1),(2,1)],
 .st 3 [(0,1),(1,1),(2,1)],.sl 163 2,.st 2 [(0,1),(1,1)],.st 2 [(0,1),(1,1)],.no,.no,.no,.no,
 .no,.no,.no,.no,.no,.no,.no,.no,
 .no,.sl 121 1,.st 3 [(0,1),(1,1),(2,1)],.st 3 [(0,1),(1,1),(2,1)],.no,.no,.no,.no,
 .no,.no,.no,.no,.no,.no,.no,.no,
 .no,.no,.no,.no,.no,.no,.no,.no,
 .no,.no,.no,.no,.no,.no,.no,.no,
 .no,.no,.no,.no,.no,.it .u64,.no,.no,
 .no,.no,.no,.it .i64,.no,.no,.no,.no,
 .no,.no,.no,.no,.no,.no,.no,.no,
 .no,.no,.no,.it .u64,.no,.no,.no,.ce,
 .no,.ce,.no,.no,.no,.st 4 [(0,1),(1,1),(2,1),(3,1)]]
def C0(P:Program):Nat→Tb→Prop
 | _,[]=>True
 | k,x::r=>ct P k x∧C0 P (k+1) r
theorem C0.out{P:Program}:∀(r:Tb)(k:Nat),C0 P k r→∀(t:Nat)(x:Ti),r[t]? = some x→ct P (k+t) x:=by
 intro r
 induction r with
 | nil=>intro k _ t x h;simp at h
 | cons y r ih=>
  intro k h t x hx
  cases t with
  | zero=>simp only[List.getElem?_cons_zero,Option.some.injEq]at hx;subst hx;exact h.1
  | succ t=>have:=ih (k+1) h.2 t x (by simpa using hx);rwa [show k+(t+1)=k+1+t by omega]
theorem nX{P:Program}{t e sz:Nat}(hu:P.underlying t=some (.slice e))(h:(P.info? e).map (·.size)=some sz):ct P t (.sl e sz):=by
 refine⟨hu,?_⟩
 cases hi:P.info? e with
 | none=>rw[hi]at h;cases h
 | some i=>rw[hi]at h;exact⟨i,rfl,by simpa using h⟩
theorem oZ{P:Program}{t:Nat}{k:IntKind}(hu:P.underlying t=some (.int k)):ct P t (.it k):=hu
theorem tw{P:Program}{t:Nat}{d:TypeDesc}(hu:P.underlying t=some d)(h:(match d with | .struct _ | .array .. =>false | _=>true)=true):ct P t .ce:=
 ⟨d,hu,(fun _ e=>by subst e;cases h),(fun _ _ e=>by subst e;cases h)⟩
def GF(P:Program)(fs:List Field)(ps:List (Nat×Nat)):Bool:=
 match fs,ps with
 | [],[]=>true
 | f::fs,p::ps=>Nat.beq f.offset p.1&&(match P.info? f.type with | some j=>Nat.beq j.size p.2 | none=>false) && !Nat.beq p.2 0&&GF P fs ps
 | _,_=>false
theorem XP{P:Program}:∀(fs:List Field)(ps:List (Nat×Nat)),GF P fs ps=true→fs.length=ps.length∧∀(f:Nat)(p:Nat×Nat),ps[f]? = some p→∃fd j,fs[f]? = some fd∧fd.offset=p.1∧P.info? fd.type=some j∧j.size=p.2∧p.2≠0:=by
 intro fs
 induction fs with
 | nil=>intro ps h;cases ps with
  | nil=>exact⟨rfl,fun f p hp=>by simp at hp⟩
  | cons p ps=>cases h
 | cons fd fs ih=>intro ps h;cases ps with
  | nil=>cases h
  | cons p ps=>
   simp only[GF,Bool.and_eq_true]at h
   obtain⟨⟨⟨h1,h2⟩,h3⟩,h4⟩:=h
   obtain⟨h5,h6⟩:=ih ps h4
   refine⟨by simp[h5],fun f q hq=> ?_⟩
   cases f with
   | zero=>
    simp only[List.getElem?_cons_zero,Option.some.injEq]at hq
    subst hq
    cases hj:P.info? fd.type with
    | none=>rw[hj]at h2;cases h2
    | some j=>
     rw[hj]at h2
     exact⟨fd,j,rfl,Nat.eq_of_beq_eq_true h1,hj,Nat.eq_of_beq_eq_true h2,fun e=>by rw[e]at h3;cases h3⟩
   | succ f=>obtain⟨XQ,j,h7⟩:=h6 f q (by simpa using hq);exact⟨XQ,j,by simpa using h7⟩
theorem gE{P:Program}{t n:Nat}{fs:List Field}{ps:List (Nat×Nat)}(hu:P.underlying t=some (.struct fs.toArray))(h:(P.info? t).map (·.size)=some n)(hf:GF P fs ps=true):ct P t (.st n ps):=by
 cases hi:P.info? t with
 | none=>rw[hi]at h;cases h
 | some i=>
  obtain⟨h1,h2⟩:=XP fs ps hf
  rw[hi]at h
  exact⟨fs.toArray,i,hu,hi,by simpa using h,by simpa using h1,fun f p hp=>by obtain⟨fd,j,h3⟩:=h2 f p hp;exact⟨fd,j,by simpa using h3⟩⟩
theorem kO{P:Program}{e sz bytes:Nat}{z:Value}(h:(P.info? e).map (fun i=>(i.zero,i.size,i.bytes))=some (some z,sz,bytes))(hz:z.cells.size=sz)(hp:0<sz):fT P e sz z bytes:=by
 cases hi:P.info? e with
 | none=>rw[hi]at h;cases h
 | some i=>
  rw[hi]at h
  simp only[Option.map_some,Option.some.injEq,Prod.mk.injEq]at h
  exact⟨i,hi,h.1,h.2.1,h.2.2,hz,hp⟩
theorem XR:ct Tryz.prog 2 (.it .i64):=oZ Tryz.underlying2
theorem XS:ct Tryz.prog 3 (.it .i64):=oZ Tryz.underlying3
theorem XT:ct Tryz.prog 4 (.ce):=tw Tryz.underlying4 rfl
theorem XU:ct Tryz.prog 5 (.it .u8):=oZ Tryz.underlying5
theorem Pt:ct Tryz.prog 6 (.it .u8):=oZ Tryz.underlying6
theorem XV:ct Tryz.prog 7 (.st 4 [(0,1),(1,1),(2,1),(3,1)]):=gE Tryz.underlying7 (by kernel_rfl) (by kernel_rfl)
theorem XW:ct Tryz.prog 12 (.it .u64):=oZ Tryz.underlying12
theorem XX:ct Tryz.prog 13 (.st 2 [(0,1),(1,1)]):=gE Tryz.underlying13 (by kernel_rfl) (by kernel_rfl)
theorem XY:ct Tryz.prog 15 (.ce):=tw Tryz.underlying15 rfl
theorem XZ:ct Tryz.prog 16 (.ce):=tw Tryz.underlying16 rfl
theorem X0:ct Tryz.prog 17 (.ce):=tw Tryz.underlying17 rfl
theorem X1:ct Tryz.prog 18 (.st 1 [(0,1)]):=gE Tryz.underlying18 (by kernel_rfl) (by kernel_rfl)
theorem Kk:ct Tryz.prog 21 (.it .i32):=oZ Tryz.underlying21
theorem X2:ct Tryz.prog 22 (.sl 4 1):=nX Tryz.underlying22 (by kernel_rfl)
theorem Pu:ct Tryz.prog 23 (.sl 78 5):=nX Tryz.underlying23 (by kernel_rfl)
theorem X3:ct Tryz.prog 24 (.st 2 [(0,1),(1,1)]):=gE Tryz.underlying24 (by kernel_rfl) (by kernel_rfl)
theorem X4:ct Tryz.prog 25 (.st 2 [(0,1),(1,1)]):=gE Tryz.underlying25 (by kernel_rfl) (by kernel_rfl)
theorem X5:ct Tryz.prog 26 (.sl 31 3):=nX Tryz.underlying26 (by kernel_rfl)
theorem GG:ct Tryz.prog 29 (.sl 121 1):=nX Tryz.underlying29 (by kernel_rfl)
theorem X6:ct Tryz.prog 30 (.st 3 [(0,1),(1,1),(2,1)]):=gE Tryz.underlying30 (by kernel_rfl) (by kernel_rfl)
theorem X7:ct Tryz.prog 31 (.st 3 [(0,1),(1,1),(2,1)]):=gE Tryz.underlying31 (by kernel_rfl) (by kernel_rfl)
theorem X8:ct Tryz.prog 32 (.st 7 [(0,1),(1,3),(4,1),(5,1),(6,1)]):=gE Tryz.underlying32 (by kernel_rfl) (by kernel_rfl)
theorem X9:ct Tryz.prog 33 (.st 7 [(0,1),(1,3),(4,1),(5,1),(6,1)]):=gE Tryz.underlying33 (by kernel_rfl) (by kernel_rfl)
theorem Pv:ct Tryz.prog 34 (.it .i64):=oZ Tryz.underlying34
theorem Ya:ct Tryz.prog 40 (.sl 26 1):=nX Tryz.underlying40 (by kernel_rfl)
theorem Yb:ct Tryz.prog 42 (.st 5 [(0,1),(1,1),(2,1),(3,1),(4,1)]):=gE Tryz.underlying42 (by kernel_rfl) (by kernel_rfl)
theorem Yc:ct Tryz.prog 43 (.st 5 [(0,1),(1,1),(2,1),(3,1),(4,1)]):=gE Tryz.underlying43 (by kernel_rfl) (by kernel_rfl)
theorem Yd:ct Tryz.prog 49 (.it .i8):=oZ Tryz.underlying49
theorem Ye:ct Tryz.prog 63 (.sl 66 2):=nX Tryz.underlying63 (by kernel_rfl)
theorem Yf:ct Tryz.prog 64 (.sl 131 2):=nX Tryz.underlying64 (by kernel_rfl)
theorem Yg:ct Tryz.prog 65 (.st 2 [(0,1),(1,1)]):=gE Tryz.underlying65 (by kernel_rfl) (by kernel_rfl)
theorem Yh:ct Tryz.prog 66 (.st 2 [(0,1),(1,1)]):=gE Tryz.underlying66 (by kernel_rfl) (by kernel_rfl)
theorem Yi:ct Tryz.prog 77 (.st 5 [(0,1),(1,1),(2,3)]):=gE Tryz.underlying77 (by kernel_rfl) (by kernel_rfl)
theorem Yj:ct Tryz.prog 78 (.st 5 [(0,1),(1,1),(2,3)]):=gE Tryz.underlying78 (by kernel_rfl) (by kernel_rfl)
theorem Yk:ct Tryz.prog 82 (.ce):=tw Tryz.underlying82 rfl
theorem Yl:ct Tryz.prog 85 (.sl 90 3):=nX Tryz.underlying85 (by kernel_rfl)
theorem Ym:ct Tryz.prog 88 (.ce):=tw Tryz.underlying88 rfl
theorem Yn:ct Tryz.prog 89 (.st 3 [(0,1),(1,1),(2,1)]):=gE Tryz.underlying89 (by kernel_rfl) (by kernel_rfl)
theorem Yo:ct Tryz.prog 90 (.st 3 [(0,1),(1,1),(2,1)]):=gE Tryz.underlying90 (by kernel_rfl) (by kernel_rfl)
theorem Yp:ct Tryz.prog 94 (.sl 3 1):=nX Tryz.underlying94 (by kernel_rfl)
theorem Yq:ct Tryz.prog 95 (.sl 85 1):=nX Tryz.underlying95 (by kernel_rfl)
theorem Yr:ct Tryz.prog 96 (.st 9 [(0,1),(1,1),(2,1),(3,1),(4,1),(5,1),(6,1),(7,1),(8,1)]):=gE Tryz.underlying96 (by kernel_rfl) (by kernel_rfl)
theorem Ys:ct Tryz.prog 97 (.st 9 [(0,1),(1,1),(2,1),(3,1),(4,1),(5,1),(6,1),(7,1),(8,1)]):=gE Tryz.underlying97 (by kernel_rfl) (by kernel_rfl)
theorem Yt:ct Tryz.prog 102 (.st 2 [(0,1),(1,1)]):=gE Tryz.underlying102 (by kernel_rfl) (by kernel_rfl)
theorem Yu:ct Tryz.prog 103 (.st 2 [(0,1),(1,1)]):=gE Tryz.underlying103 (by kernel_rfl) (by kernel_rfl)
theorem Yv:ct Tryz.prog 120 (.it .u64):=oZ Tryz.underlying120
theorem Yw:ct Tryz.prog 121 (.it .u32):=oZ Tryz.underlying121
theorem Yx:ct Tryz.prog 130 (.st 2 [(0,1),(1,1)]):=gE Tryz.underlying130 (by kernel_rfl) (by kernel_rfl)
theorem Yy:ct Tryz.prog 131 (.st 2 [(0,1),(1,1)]):=gE Tryz.underlying131 (by kernel_rfl) (by kernel_rfl)
theorem Yz:ct Tryz.prog 146 (.sl 2 1):=nX Tryz.underlying146 (by kernel_rfl)
theorem YA:ct Tryz.prog 157 (.ce):=tw Tryz.underlying157 rfl
theorem YB:ct Tryz.prog 158 (.sl 161 1):=nX Tryz.underlying158 (by kernel_rfl)
theorem YC:ct Tryz.prog 159 (.st 3 [(0,1),(1,1),(2,1)]):=gE Tryz.underlying159 (by kernel_rfl) (by kernel_rfl)
theorem YD:ct Tryz.prog 160 (.st 3 [(0,1),(1,1),(2,1)]):=gE Tryz.underlying160 (by kernel_rfl) (by kernel_rfl)
theorem YE:ct Tryz.prog 161 (.sl 163 2):=nX Tryz.underlying161 (by kernel_rfl)
theorem YF:ct Tryz.prog 162 (.st 2 [(0,1),(1,1)]):=gE Tryz.underlying162 (by kernel_rfl) (by kernel_rfl)
theorem YG:ct Tryz.prog 163 (.st 2 [(0,1),(1,1)]):=gE Tryz.underlying163 (by kernel_rfl) (by kernel_rfl)
theorem YH:ct Tryz.prog 177 (.sl 121 1):=nX Tryz.underlying177 (by kernel_rfl)
theorem YI:ct Tryz.prog 178 (.st 3 [(0,1),(1,1),(2,1)]):=gE Tryz.underlying178 (by kernel_rfl) (by kernel_rfl)
theorem YJ:ct Tryz.prog 179 (.st 3 [(0,1),(1,1),(2,1)]):=gE Tryz.underlying179 (by kernel_rfl) (by kernel_rfl)
theorem YK:ct Tryz.prog 213 (.it .u64):=oZ Tryz.underlying213
theorem YL:ct Tryz.prog 219 (.it .i64):=oZ Tryz.underlying219
theorem YM:ct Tryz.prog 235 (.it .u64):=oZ Tryz.underlying235
theorem YN:ct Tryz.prog 239 (.ce):=tw Tryz.underlying239 rfl
theorem YO:ct Tryz.prog 241 (.ce):=tw Tryz.underlying241 rfl
theorem YP:ct Tryz.prog 245 (.st 4 [(0,1),(1,1),(2,1),(3,1)]):=gE Tryz.underlying245 (by kernel_rfl) (by kernel_rfl)
set_option maxRecDepth 10000 in
theorem YQ:C0 Tryz.prog 0 tb:=⟨trivial,trivial,XR,XS,XT,XU,Pt,XV,trivial,trivial,trivial,trivial,XW,XX,trivial,XY,XZ,X0,X1,trivial,trivial,Kk,X2,Pu,X3,X4,X5,trivial,trivial,GG,X6,X7,X8,X9,Pv,trivial,trivial,trivial,trivial,trivial,Ya,trivial,Yb,Yc,trivial,trivial,trivial,trivial,trivial,Yd,trivial,trivial,trivial,trivial,trivial,trivial,trivial,trivial,trivial,trivial,trivial,trivial,trivial,Ye,Yf,Yg,Yh,trivial,trivial,trivial,trivial,trivial,trivial,trivial,trivial,trivial,trivial,Yi,Yj,trivial,trivial,trivial,Yk,trivial,trivial,Yl,trivial,trivial,Ym,Yn,Yo,trivial,trivial,trivial,Yp,Yq,Yr,Ys,trivial,trivial,trivial,trivial,Yt,Yu,trivial,trivial,trivial,trivial,trivial,trivial,trivial,trivial,trivial,trivial,trivial,trivial,trivial,trivial,trivial,trivial,Yv,Yw,trivial,trivial,trivial,trivial,trivial,trivial,trivial,trivial,Yx,Yy,trivial,trivial,trivial,trivial,trivial,trivial,trivial,trivial,trivial,trivial,trivial,trivial,trivial,trivial,Yz,trivial,trivial,trivial,trivial,trivial,trivial,trivial,trivial,trivial,trivial,YA,YB,YC,YD,YE,YF,YG,trivial,trivial,trivial,trivial,trivial,trivial,trivial,trivial,trivial,trivial,trivial,trivial,trivial,YH,YI,YJ,trivial,trivial,trivial,trivial,trivial,trivial,trivial,trivial,trivial,trivial,trivial,trivial,trivial,trivial,trivial,trivial,trivial,trivial,trivial,trivial,trivial,trivial,trivial,trivial,trivial,trivial,trivial,trivial,trivial,trivial,trivial,trivial,trivial,YK,trivial,trivial,trivial,trivial,trivial,YL,trivial,trivial,trivial,trivial,trivial,trivial,trivial,trivial,trivial,trivial,trivial,trivial,trivial,trivial,trivial,YM,trivial,trivial,trivial,YN,trivial,YO,trivial,trivial,trivial,YP,trivial⟩
theorem af:kN Tryz.prog tb:=fun t x h=>by have:=C0.out tb 0 YQ t x h;rwa [Nat.zero_add]at this
theorem follows:Tryz.prog.follows .mixedOrders=true:=by kernel_rfl
theorem YR:fT Tryz.prog 2 1 (.int .i64 0) 8:=kO (by kernel_rfl) rfl (by decide)
theorem qL:∃i,Tryz.prog.info? 2=some i∧i.size=1:=by obtain⟨i,h,_,h2,_⟩:=YR;exact⟨i,h,h2⟩
theorem km:fT Tryz.prog 3 1 (.int .i64 0) 8:=kO (by kernel_rfl) rfl (by decide)
theorem pR:∃i,Tryz.prog.info? 3=some i∧i.size=1:=by obtain⟨i,h,_,h2,_⟩:=km;exact⟨i,h,h2⟩
theorem C1:fT Tryz.prog 4 1 (.bool false) 1:=kO (by kernel_rfl) rfl (by decide)
theorem Pw:∃i,Tryz.prog.info? 4=some i∧i.size=1:=by obtain⟨i,h,_,h2,_⟩:=C1;exact⟨i,h,h2⟩
theorem YS:fT Tryz.prog 23 1 (.slice none 0 0) 24:=kO (by kernel_rfl) rfl (by decide)
theorem C2:∃i,Tryz.prog.info? 23=some i∧i.size=1:=by obtain⟨i,h,_,h2,_⟩:=YS;exact⟨i,h,h2⟩
theorem lA:fT Tryz.prog 25 2 (.agg #[.slice none 0 0,.slice none 0 0]) 48:=kO (by kernel_rfl) rfl (by decide)
theorem jU:∃i,Tryz.prog.info? 25=some i∧i.size=2:=by obtain⟨i,h,_,h2,_⟩:=lA;exact⟨i,h,h2⟩
theorem xR:fT Tryz.prog 26 1 (.slice none 0 0) 24:=kO (by kernel_rfl) rfl (by decide)
theorem xS:∃i,Tryz.prog.info? 26=some i∧i.size=1:=by obtain⟨i,h,_,h2,_⟩:=xR;exact⟨i,h,h2⟩
theorem cM:fT Tryz.prog 31 3 (.agg #[.bool false,.slice none 0 0,.slice none 0 0]) 56:=kO (by kernel_rfl) rfl (by decide)
theorem bM:∃i,Tryz.prog.info? 31=some i∧i.size=3:=by obtain⟨i,h,_,h2,_⟩:=cM;exact⟨i,h,h2⟩
theorem rT:fT Tryz.prog 33 7 (.agg #[.int .i64 0,.bool false,.slice none 0 0,.slice none 0 0,.slice none 0 0,.slice none 0 0,.slice none 0 0]) 136:=kO (by kernel_rfl) rfl (by decide)
theorem nY:∃i,Tryz.prog.info? 33=some i∧i.size=7:=by obtain⟨i,h,_,h2,_⟩:=rT;exact⟨i,h,h2⟩
theorem YT:fT Tryz.prog 40 1 (.slice none 0 0) 24:=kO (by kernel_rfl) rfl (by decide)
theorem Px:∃i,Tryz.prog.info? 40=some i∧i.size=1:=by obtain⟨i,h,_,h2,_⟩:=YT;exact⟨i,h,h2⟩
theorem pS:fT Tryz.prog 43 5 (.agg #[.int .i64 0,.slice none 0 0,.slice none 0 0,.slice none 0 0,.slice none 0 0]) 104:=kO (by kernel_rfl) rfl (by decide)
theorem kP:∃i,Tryz.prog.info? 43=some i∧i.size=5:=by obtain⟨i,h,_,h2,_⟩:=pS;exact⟨i,h,h2⟩
theorem gY:fT Tryz.prog 78 5 (.agg #[.slice none 0 0,.int .i64 0,.bool false,.slice none 0 0,.slice none 0 0]) 88:=kO (by kernel_rfl) rfl (by decide)
theorem rU:∃i,Tryz.prog.info? 78=some i∧i.size=5:=by obtain⟨i,h,_,h2,_⟩:=gY;exact⟨i,h,h2⟩
theorem Py:fT Tryz.prog 82 1 (.pointer none) 8:=kO (by kernel_rfl) rfl (by decide)
theorem YU:∃i,Tryz.prog.info? 82=some i∧i.size=1:=by obtain⟨i,h,_,h2,_⟩:=Py;exact⟨i,h,h2⟩
theorem Kl:fT Tryz.prog 85 1 (.slice none 0 0) 24:=kO (by kernel_rfl) rfl (by decide)
theorem C3:∃i,Tryz.prog.info? 85=some i∧i.size=1:=by obtain⟨i,h,_,h2,_⟩:=Kl;exact⟨i,h,h2⟩
theorem dT:fT Tryz.prog 90 3 (.agg #[.int .i64 0,.int .i64 0,.pointer none]) 24:=kO (by kernel_rfl) rfl (by decide)
theorem bV:∃i,Tryz.prog.info? 90=some i∧i.size=3:=by obtain⟨i,h,_,h2,_⟩:=dT;exact⟨i,h,h2⟩
theorem YV:fT Tryz.prog 94 1 (.slice none 0 0) 24:=kO (by kernel_rfl) rfl (by decide)
theorem tx:∃i,Tryz.prog.info? 94=some i∧i.size=1:=by obtain⟨i,h,_,h2,_⟩:=YV;exact⟨i,h,h2⟩
theorem YW:fT Tryz.prog 95 1 (.slice none 0 0) 24:=kO (by kernel_rfl) rfl (by decide)
theorem YX:∃i,Tryz.prog.info? 95=some i∧i.size=1:=by obtain⟨i,h,_,h2,_⟩:=YW;exact⟨i,h,h2⟩
theorem YY:fT Tryz.prog 97 9 (.agg #[.int .i64 0,.int .i64 0,.slice none 0 0,.slice none 0 0,.slice none 0 0,.slice none 0 0,.slice none 0 0,.slice none 0 0,.slice none 0 0]) 184:=kO (by kernel_rfl) rfl (by decide)
theorem dX:fT Tryz.prog 121 1 (.int .u32 0) 4:=kO (by kernel_rfl) rfl (by decide)
theorem nm:∃i,Tryz.prog.info? 121=some i∧i.size=1:=by obtain⟨i,h,_,h2,_⟩:=dX;exact⟨i,h,h2⟩
theorem iX:fT Tryz.prog 179 3 (.agg #[.bool false,.slice none 0 0,.slice none 0 0]) 56:=kO (by kernel_rfl) rfl (by decide)
theorem gP:∃i,Tryz.prog.info? 179=some i∧i.size=3:=by obtain⟨i,h,_,h2,_⟩:=iX;exact⟨i,h,h2⟩
end Go.ay
namespace Num
def B:Nat:=1000000000
theorem lN:0<B:=by decide
theorem cz:B=1000000000:=rfl
def val:List Nat→Nat
 | []=>0
 | x::xs=>x+B*val xs
theorem iF(x:Nat)(xs:List Nat):val (x::xs)=x+B*val xs:=rfl
theorem Pz(xs ys:List Nat):val (xs++ys)=val xs+B^xs.length*val ys:=by
 induction xs with
 | nil=>simp[val]
 | cons x xs ih=>rw[List.cons_append,iF,iF,ih,List.length_cons,Nat.pow_succ];grind
theorem pT(xs:List Nat)(y:Nat):val (xs ++ [y])=val xs+B^xs.length*y:=by
 rw[Pz];simp[val]
def Lt(l:List Nat):Prop:=∀x,x∈l→x<B
theorem Lt.nil:Lt []:=fun x h=>by cases h
theorem Lt.append{a b:List Nat}(ha:Lt a)(hb:Lt b):Lt (a++b):=fun x h=>by
 rcases List.mem_append.1 h with h | h
 ·exact ha x h
 ·exact hb x h
theorem Lt.snoc{a:List Nat}{y:Nat}(ha:Lt a)(hy:y<B):Lt (a ++ [y]):=ha.append (fun x h=>by simp at h;omega)
theorem Lt.take{a:List Nat}(ha:Lt a)(k:Nat):Lt (a.take k):=fun x h=>ha x (List.mem_of_mem_take h)
theorem Lt.drop{a:List Nat}(ha:Lt a)(k:Nat):Lt (a.drop k):=fun x h=>ha x (List.mem_of_mem_drop h)
theorem Lt.get{a:List Nat}(ha:Lt a){i y:Nat}(h:a[i]? = some y):y<B:=ha y (List.mem_of_getElem? h)
theorem rV{l:List Nat}(h:Lt l):val l<B^l.length:=by
 induction l with
 | nil=>simp[val]
 | cons x l ih=>
  have h1:=h x (List.mem_cons_self ..)
  have h2:=ih (fun y hy=>h y (List.mem_cons_of_mem _ hy))
  rw[iF,List.length_cons,Nat.pow_succ]
  have h3:B*(val l+1)≤B*B^l.length:=Nat.mul_le_mul_left _ h2
  rw[Nat.mul_add,Nat.mul_one]at h3
  rw[Nat.mul_comm (B^l.length)];omega
theorem jV{l:List Nat}{i x:Nat}(h:l[i]? = some x):val (l.take (i+1))=val (l.take i)+B^i*x:=by
 have hi:i<l.length:=(List.getElem?_eq_some_iff.1 h).1
 have hx:l[i]=x:=(List.getElem?_eq_some_iff.1 h).2
 rw[List.take_succ_eq_append_getElem hi,hx,pT,List.length_take,Nat.min_eq_left (by omega)]
structure pU(l:List Nat):Prop where
 lt:Lt l
 last:∀x,l.getLast?=some x→x≠0
theorem pU.nil:pU []:=⟨Lt.nil,fun x h=>by simp at h⟩
def vD:Nat→Nat→List Nat
 | 0,_=>[]
 | f+1,n=>if n=0 then []else(n%B)::vD f (n/B)
def ah(n:Nat):List Nat:=vD n n
theorem YZ(f:Nat):∀g n,n≤f→n≤g→vD f n=vD g n:=by
 induction f with
 | zero=>intro g n h _;obtain rfl:n=0:=by omega
         cases g <;> simp[vD]
 | succ f ih=>
  intro g n h hg
  cases g with
  | zero=>obtain rfl:n=0:=by omega
          simp[vD]
  | succ g=>
   simp only[vD]
   split
   ·rfl
   ·rename_i hn
    have:n/B<n:=Nat.div_lt_self (by omega) (by decide)
    rw[ih g (n/B) (by omega) (by omega)]
theorem qM:ah 0 = []:=rfl
theorem xT{n:Nat}(h:0<n):ah n=(n%B)::ah (n/B):=by
 unfold ah
 obtain⟨m,rfl⟩:∃m,n=m+1:=⟨n-1,by omega⟩
 rw[vD,if_neg (by omega)]
 have:(m+1)/B<m+1:=Nat.div_lt_self (by omega) (by decide)
 rw[YZ m ((m+1)/B) ((m+1)/B) (by omega) (Nat.le_refl _)]
theorem cU(n:Nat):val (ah n)=n:=by
 induction n using Nat.strongRecOn with
 | _ n ih=>
  rcases Nat.eq_zero_or_pos n with h | h
  ·subst h;rfl
  ·rw[xT h,iF,ih (n/B) (Nat.div_lt_self h (by decide))]
   exact Nat.mod_add_div n B
theorem PA{n:Nat}(h:0<n):ah n≠[]:=by rw[xT h];simp
theorem fj(n:Nat):pU (ah n):=by
 induction n using Nat.strongRecOn with
 | _ n ih=>
  rcases Nat.eq_zero_or_pos n with h | h
  ·subst h;exact pU.nil
  ·have rW:=ih (n/B) (Nat.div_lt_self h (by decide))
   rw[xT h]
   refine⟨fun x hx=> ?_,fun x hx=> ?_⟩
   ·rcases List.mem_cons.1 hx with e | e
    ·rw[e];exact Nat.mod_lt _ lN
    ·exact rW.lt x e
   ·rcases Nat.eq_zero_or_pos (n/B)with h0 | h0
    ·rw[h0,qM]at hx
     simp at hx
     have:=Nat.mod_add_div n B
     rw[h0]at this
     omega
    ·cases hl:ah (n/B)with
     | nil=>exact absurd hl (PA h0)
     | cons y ys=>
      rw[hl,List.getLast?_cons_cons,←hl]at hx
      exact rW.last x hx
theorem pU.pos{l:List Nat}(h:pU l)(hl:l≠[]):B^(l.length-1)≤val l:=by
 have e:l=l.dropLast ++ [l.getLast hl]:=(List.dropLast_concat_getLast hl).symm
 have hx:=h.last (l.getLast hl) (List.getLast?_eq_some_getLast hl)
 rw[e,pT]
 simp only[List.length_append,List.length_dropLast,List.length_singleton]
 have:B^(l.length-1)*1≤B^(l.length-1)*l.getLast hl:=Nat.mul_le_mul_left _ (by omega)
 rw[Nat.mul_one]at this
 have e2:l.length-1+1-1=l.length-1:=by omega
 rw[e2];omega
theorem Y0{l:List Nat}(h:Lt l)(hp:l = []∨B^(l.length-1)≤val l):pU l:=by
 refine⟨h,fun x hx h0=> ?_⟩
 subst h0
 have hl:l≠[]:=fun e=>by subst e;simp at hx
 rcases hp with e | hp
 ·exact hl e
 ·have e:l=l.dropLast ++ [0]:=by
   have:=(List.dropLast_concat_getLast hl).symm
   rw[List.getLast?_eq_some_getLast hl]at hx
   simp only[Option.some.injEq]at hx
   rw[hx]at this
   exact this
  have hv:val l=val l.dropLast:=by
   have:=pT l.dropLast 0
   rw[←e,Nat.mul_zero]at this;omega
  have bH:=rV (l:=l.dropLast) (fun x hx=>h x ((List.dropLast_sublist l).subset hx))
  rw[List.length_dropLast]at bH
  omega
theorem PB{l:List Nat}(h:pU l):ah (val l)=l:=by
 induction l with
 | nil=>rfl
 | cons x l ih=>
  have hx:x<B:=h.lt x (List.mem_cons_self ..)
  have hp:0<val (x::l):=by
   have:=h.pos (by simp)
   have h2:0<B^((x::l).length-1):=Nat.pow_pos lN
   omega
  rw[xT hp,iF]
  have h1:(x+B*val l)%B=x:=by rw[Nat.add_mul_mod_self_left];exact Nat.mod_eq_of_lt hx
  have h2:(x+B*val l)/B=val l:=by rw[Nat.add_mul_div_left _ _ lN,Nat.div_eq_of_lt hx,Nat.zero_add]
  rw[h1,h2]
  rw[ih ⟨fun y hy=>h.lt y (List.mem_cons_of_mem _ hy),fun y hy=>h.last y (by
   cases l with
   | nil=>simp at hy
   | cons z zs=>rw[List.getLast?_cons_cons];exact hy)⟩]
theorem Y1{l:List Nat}{n:Nat}(h:pU l)(hv:val l=n):l=ah n:=by rw[←hv,PB h]
theorem zY(n:Nat):n<B^(ah n).length:=by
 have:=rV (fj n).lt
 rwa [cU]at this
theorem ji{n k:Nat}:(ah n).length≤k↔n<B^k:=by
 constructor
 ·intro h
  exact Nat.lt_of_lt_of_le (zY n) (Nat.pow_le_pow_right lN h)
 ·intro h
  rcases Nat.eq_zero_or_pos n with h0 | h0
  ·subst h0;simp[qM]
  ·have hp:=(fj n).pos (PA h0)
   rw[cU]at hp
   have:(ah n).length-1<k:=(Nat.pow_lt_pow_iff_right (by decide:1<B)).1 (Nat.lt_of_le_of_lt hp h)
   omega
theorem lB{m n:Nat}(h:m≤n):(ah m).length≤(ah n).length:=ji.2 (Nat.lt_of_le_of_lt h (zY n))
theorem Y2{n:Nat}:ah n = []↔n=0:=by
 constructor
 ·intro h
  have:=cU n
  rw[h]at this;exact this.symm
 ·intro h;subst h;rfl
theorem jW{n:Nat}:(ah n).length=0↔n=0:=by rw[List.length_eq_zero_iff,Y2]
end Num
namespace Num
theorem GH{a:List Nat}{i p:Nat}(h:a[i]? = some p):val a=val (a.take i)+B^i*(p+B*val (a.drop (i+1))):=by
 have hi:=(List.getElem?_eq_some_iff.1 h).1
 have hp:=(List.getElem?_eq_some_iff.1 h).2
 have e:a=a.take i++a.drop i:=(List.take_append_drop i a).symm
 have e2:a.drop i=p::a.drop (i+1):=by rw[List.drop_eq_getElem_cons hi,hp]
 conv=>lhs;rw[e,e2,Pz,iF,List.length_take,Nat.min_eq_left (by omega)]
theorem GI{a b:List Nat}{i p q:Nat}(ha:Lt a)(h1:a[i]? = some p)(h2:b[i]? = some q)(hd:a.drop (i+1)=b.drop (i+1))(lO:p<q):val a<val b:=by
 rw[GH h1,GH h2,hd]
 have hi:=(List.getElem?_eq_some_iff.1 h1).1
 have h3:=rV (ha.take i)
 rw[List.length_take,Nat.min_eq_left (by omega)]at h3
 have h4:B^i*(p+1+B*val (b.drop (i+1)))≤B^i*(q+B*val (b.drop (i+1))):=Nat.mul_le_mul_left _ (by omega)
 rw[show p+1+B*val (b.drop (i+1))=p+B*val (b.drop (i+1))+1 by omega,Nat.mul_add,Nat.mul_one]at h4
 omega
def jk(x y:Nat):Int:=if x<y then -1 else if x=y then 0 else 1
theorem GJ{x y:Nat}(h:x<y):jk x y = -1:=by simp[jk,h]
theorem GK{x y:Nat}(h:y<x):jk x y=1:=by simp[jk];omega
theorem PC(x:Nat):jk x x=0:=by simp[jk]
theorem GL{x y:Nat}(h:(ah x).length<(ah y).length):x<y:=by
 rcases Nat.lt_or_ge x y with h1 | h1
 ·exact h1
 ·have:=lB h1;omega
theorem PD{a b:List Nat}{k p:Nat}(hk:0<k)(h1:a[k-1]? = some p)(h2:b[k-1]? = some p)(hd:a.drop k=b.drop k):a.drop (k-1)=b.drop (k-1):=by
 have e1:=List.drop_eq_getElem_cons (List.getElem?_eq_some_iff.1 h1).1
 have e2:=List.drop_eq_getElem_cons (List.getElem?_eq_some_iff.1 h2).1
 rw[(List.getElem?_eq_some_iff.1 h1).2,show k-1+1=k by omega]at e1
 rw[(List.getElem?_eq_some_iff.1 h2).2,show k-1+1=k by omega]at e2
 rw[e1,e2,hd]
end Num
namespace Num
theorem vE(l:List Nat)(k:Nat):val (l.take (k+1))=val (l.take k)+B^k*(l[k]?.getD 0):=by
 cases h:l[k]? with
 | some x=>simpa using jV h
 | none=>
  have:l.length≤k:=by simpa using h
  rw[List.take_of_length_le (by omega),List.take_of_length_le this];simp
theorem zZ{o:List Nat}{k a b s t u:Nat}(ho:o.length=k)(h:val o+B^k*a=t)(hs:s=a+b)(hu:u=t+B^k*b):val (o ++ [s%B])+B^(k+1)*(s/B)=u:=by
 rw[pT,ho,Nat.pow_succ]
 have h1:B^k*s=B^k*(s%B)+B^k*(B*(s/B)):=by rw[←Nat.mul_add,Nat.mod_add_div]
 have h2:B^k*s=B^k*a+B^k*b:=by rw[hs,Nat.mul_add]
 rw[Nat.mul_assoc];omega
theorem last_pos{o:List Nat}{n:Nat}(h:Lt o)(ho:o.length=n)(hn:n=0∨B^(n-1)≤val o):pU o:=Y0 h (by
 rcases hn with e | e
 ·left;exact List.eq_nil_of_length_eq_zero (by omega)
 ·right;rw[ho];exact e)
end Num
namespace Num
theorem C4{o:List Nat}{k br br' s d e ta tb ta' tb':Nat}(ho:o.length=k)(h:ta+B^k*br=val o+tb)(hs:s+br+e=d+B*br')(ha:ta'=ta+B^k*d)(hb:tb'=tb+B^k*e):
  ta'+B^(k+1)*br'=val (o ++ [s])+tb':=by
 rw[pT,ho,ha,hb,Nat.pow_succ,Nat.mul_assoc]
 have h1:B^k*(s+br+e)=B^k*(d+B*br'):=by rw[hs]
 simp only[Nat.mul_add]at h1
 omega
theorem PE{l:List Nat}{t x y:Nat}(h:l[t]? = some x):val (l.set t y)+B^t*x=val l+B^t*y:=by
 induction l generalizing t with
 | nil=>simp at h
 | cons z l ih=>
  cases t with
  | zero=>simp at h;subst h;simp[val];omega
  | succ t=>
   simp only[List.getElem?_cons_succ]at h
   have:=ih h
   rw[List.set_cons_succ,iF,iF,Nat.pow_succ]
   have h2:B*(val (l.set t y)+B^t*x)=B*(val l+B^t*y):=by rw[this]
   simp only[Nat.mul_add]at h2
   have e1:B^t*B*x=B*(B^t*x):=by rw[Nat.mul_comm (B^t) B,Nat.mul_assoc]
   have e2:B^t*B*y=B*(B^t*y):=by rw[Nat.mul_comm (B^t) B,Nat.mul_assoc]
   omega
theorem Lt.set{l:List Nat}{t y:Nat}(h:Lt l)(hy:y<B):Lt (l.set t y):=fun x hx=>by
 rcases List.mem_or_eq_of_mem_set hx with h1 | h1
 ·exact h x h1
 ·omega
theorem Lt.replicate(n:Nat):Lt (List.replicate n 0):=fun x hx=>by
 have:=List.eq_of_mem_replicate hx
 rw[this];exact lN
theorem PF(n:Nat):val (List.replicate n 0)=0:=by
 induction n with
 | zero=>rfl
 | succ n ih=>rw[List.replicate_succ,iF,ih,Nat.mul_zero]
theorem Y3{l:List Nat}{k y:Nat}(h:k<l.length):(l.set k y).take (k+1)=l.take k ++ [y]:=by
 rw[List.take_succ_eq_append_getElem (by simpa using h),List.getElem_set_self,List.take_set_of_le (Nat.le_refl _)]
theorem set_drop{l:List Nat}{k y:Nat}(h:k<l.length):(l.set k y).drop k=y::l.drop (k+1):=by
 rw[List.drop_eq_getElem_cons (by simpa using h),List.getElem_set_self,List.drop_set_of_lt (Nat.lt_succ_self _)]
theorem z6{l:List Nat}{k d:Nat}(h:l[k]? = some d):l.drop k=d::l.drop (k+1):=by
 rw[List.drop_eq_getElem_cons (List.getElem?_eq_some_iff.1 h).1,(List.getElem?_eq_some_iff.1 h).2]
end Num
namespace Go.ay
open Go.Proofs Num
theorem vr{n:Nat}{all:Array Oper}{s:St}{H:Heap}{md:Mode}{K:St→Heap→Prop}(k:Nat){l:List Oper}{s1:St}(hk:aO Tryz.prog n all md (l.drop k) s1 H K)(h:xI tb md all (l.take k) s=some s1:=by rfl):aO Tryz.prog n all md l s H K:=Xe af k h hk
theorem dz{a b:Int}(h:a=b):fL .eql a b=some true:=by subst h;simp[fL]
theorem eN{a b:Int}(h:a≠b):fL .eql a b=some false:=by simp[fL,h]
theorem kn{a b:Int}(h:a≠b):fL .neq a b=some true:=by simp[fL,h]
theorem ko{a b:Int}(h:a=b):fL .neq a b=some false:=by subst h;simp[fL]
theorem mA{a b:Int}(h:a<b):fL .lss a b=some true:=by simp[fL,h]
theorem jw{a b:Int}(h:b≤a):fL .lss a b=some false:=by simp[fL,h]
theorem rX{a b:Int}(h:a≤b):fL .leq a b=some true:=by simp[fL,h]
theorem z7{a b:Int}(h:b<a):fL .leq a b=some false:=by simp[fL,h]
theorem iG{a b:Int}(h:b<a):fL .gtr a b=some true:=by simp[fL,h]
theorem fN{a b:Int}(h:a≤b):fL .gtr a b=some false:=by simp[fL,h]
theorem Km{a b:Int}(h:b≤a):fL .geq a b=some true:=by simp[fL,h]
theorem Kn{a b:Int}(h:a<b):fL .geq a b=some false:=by simp[fL,h]
def U(l:List Nat):List Value:=l.map fun x=> .int .u32 (Int.ofNat x)
theorem dA{l:List Nat}{i:Nat}{x:Nat}(h:l[i]? = some x):(U l)[i]? = some (.int .u32 (x:Int)):=by simp[U,h]
theorem xU(l:List Nat):(U l).length=l.length:=by simp[U]
theorem GM(a b:List Nat):U (a++b)=U a++U b:=by simp[U]
theorem C5(l:List Nat)(k:Nat):U (l.take k)=(U l).take k:=by simp[U,List.map_take]
theorem nn(l:List Nat):∀u∈U l,u.oneCell'=true:=fun u hu=>by
 simp only[U,List.mem_map]at hu
 obtain⟨x,_,rfl⟩:=hu
 rfl
def iH(H:Heap)(v:Value)(l:List Nat):Prop:=∃A c,v = .slice A l.length c∧l.length≤c∧Rd H A (U l)
theorem iH.le{H H':Heap}{v:Value}{l:List Nat}(h:iH H v l)(hl:Heap.le H H'):iH H' v l:=by
 obtain⟨A,c,h1,h2,h3⟩:=h
 exact⟨A,c,h1,h2,h3.le hl⟩
def dh(H:Heap)(v:Value)(x:Nat):Prop:=iH H v (ah x)
theorem dh.le{H H':Heap}{v:Value}{x:Nat}(h:dh H v x)(hl:Heap.le H H'):dh H' v x:=iH.le h hl
theorem Rd.take{H:Heap}{A:Option Addr}{xs:List Value}(h:Rd H A xs)(k:Nat):Rd H A (xs.take k):=fun i v hv=>by
 rw[List.getElem?_take]at hv
 split at hv
 ·exact h i v hv
 ·cases hv
def jX(H:Heap)(v:Value)(l:List Nat):Prop:=bU H v 121 1 l.length (U l)
theorem jX.lim{H:Heap}{v:Value}{l:List Nat}(h:jX H v l):iH H v l:=by
 obtain⟨A,c,rfl⟩:=bU.form h
 refine⟨A,c,rfl,?_,bU.rd h⟩
 rcases h.2 with ⟨h1,h2⟩ | ⟨g,cap,h1,_,h3,_⟩
 ·omega
 ·cases h1;exact h3
theorem vF(H:Heap):jX H (.slice none 0 0) []:=oY H 121 1
theorem App.nZ{H H':Heap}{v v':Value}{a b:List Nat}{n m:Nat}(h:App H v 121 1 (n+m) (U a++U b) v' H')(ha:n=a.length)(hb:m=b.length):jX H' v' (a++b):=by
 have:=h.own
 subst ha
 subst hb
 unfold jX
 rw[GM,List.length_append];exact this
structure lP(H:Heap)(x:Nat)(v:Value)(H':Heap):Prop where
 le:Heap.le H H'
 nat:dh H' v x
theorem z8{H:Heap}{v:Value}{l:List Nat}{x:Nat}(h:iH H v l)(hn:pU l)(hv:val l=x):dh H v x:=by
 unfold dh
 rwa [←Y1 hn hv]
theorem tz(H:Heap):dh H (.slice none 0 0) 0:=z8 (l:=[]) (jX.lim (vF H)) pU.nil rfl
theorem GN{l:List Nat}{k:Nat}(bH:Lt l)(hk:k≤l.length)(hv:val (l.take k)=val l)(hx:k=0∨∃x,l[k-1]? = some x∧x≠0):ah (val l)=l.take k:=by
 rw[←hv]
 refine PB ⟨bH.take k,fun y hy=> ?_⟩
 rcases hx with rfl | ⟨x,h1,h2⟩
 ·simp at hy
 ·have:(l.take k).getLast?=some x:=by
   rw[List.getLast?_eq_getElem?,List.length_take,Nat.min_eq_left hk,List.getElem?_take]
   rw[if_pos ?_]
   ·exact h1
   ·rcases Nat.eq_zero_or_pos k with e | e
    ·subst e;simp at hy
    ·omega
  rw[this]at hy
  cases hy
  exact h2
theorem Aa(c:Nat)(A:Option Addr)(sz:Nat):(if c=0 then A else A.map (·.add (0*sz)))=A:=by
 split
 ·rfl
 ·cases A <;> simp[Addr.add]
theorem bU.ins{H:Heap}{v:Value}{e sz n:Nat}{xs:List Value}(h:bU H v e sz n xs){g:Nat}(ent:aQ)(hg:H g=none):bU (ay.ins H g ent) v e sz n xs:=
 h.same fun k hk=>by
  obtain⟨en,he⟩:=h.block hk
  exact bP _ _ (fun e=>by subst e;rw[hg]at he;cases he)
theorem jX.ins{H:Heap}{v:Value}{l:List Nat}(h:jX H v l){g:Nat}(ent:aQ)(hg:H g=none):jX (ay.ins H g ent) v l:=bU.ins h ent hg
theorem kQ(g i:Nat):(⟨g,0,none⟩:Addr).add i=⟨g,i,none⟩:=by
 unfold Addr.add;split
 ·rename_i e0;rw[e0]
 ·simp
theorem fu(H:Heap)(g:Nat)(xs:List Value)(sz e:Nat)(b:Bool):Rd (ins H g ⟨xs,sz,e,b⟩) (some ⟨g,0,none⟩) xs:=fun i v hv=>⟨_,rfl,by simp[cell,kQ,ins,hv]⟩
theorem pV{H:Heap}{g e:Nat}{a:Int}{y:Nat}(h:a=y):Rd (ins H g (whole [.int .u32 a] e)) (some ⟨g,0,none⟩) (U [y]):=by
 subst h;exact fu _ _ _ _ _ _
theorem GO{H:Heap}{g e sz:Nat}{zs:List Value}{k:Int}{c:Nat}(hk:k.toNat=0)(hc:c≤maxLen):bU (ins H g ⟨de zs (k.toNat*sz),c*sz,e,true⟩) (.slice (some ⟨g,0,none⟩) k.toNat c) e sz 0 []:=by
 refine⟨by simp,.inr ⟨g,c,by rw[hk],?_,by omega,hc⟩⟩
 rw[bT,hk,Nat.zero_mul];rfl
theorem PG(a b:Nat):(a:Int)%(b:Int)=((a%b:Nat):Int):=rfl
def dD(l:List Nat)(n:Nat):aQ:=⟨U l,n*1,121,true⟩
theorem vj(H:Heap)(g:Nat)(e e':aQ):ins (ins H g e) g e'=ins H g e':=by
 funext k;unfold ins;split <;> rfl
theorem Ko(l:List Nat)(k y:Nat):(U l).set k (.int .u32 (y:Int))=U (l.set k y):=by simp[U,List.map_set]
theorem rY{H:Heap}{g n k:Nat}{l:List Nat}{a:Int}{y:Nat}(h:a=y):ins (ins H g (dD l n)) g {dD l n with xs:=aF (dD l n).xs (0+k*1) [.int .u32 a]}=ins H g (dD (l.set k y) n):=by
 subst h
 rw[vj]
 simp only[dD,aF,Nat.zero_add,Nat.mul_one,Ko]
theorem GP(H:Heap)(g:Nat)(l:List Nat)(n:Nat):Rd (ins H g (dD l n)) (some ⟨g,0,none⟩) (U l):=fu _ _ _ _ _ _
theorem Y4{H:Heap}{g:Nat}{k:Int}{n:Nat}(hk:k.toNat=n):ins H g ⟨de [.int .u32 0] (k.toNat*1),n*1,121,true⟩=ins H g (dD (List.replicate n 0) n):=by
 subst hk
 rw[Nat.mul_one,Pp]
 congr 1
 simp[dD,U]
theorem nr(l:List Nat)(n:Nat):(dD l n).xs.length=l.length:=by simp[dD,U]
theorem xV(H:Heap)(g:Nat)(l:List Nat)(n m:Nat)(hm:m=l.length)(hn:m≤n):iH (ins H g (dD l n)) (.slice (some ⟨g,0,none⟩) m n) l:=⟨_,n,by rw[hm],by omega,GP H g l n⟩
end Go.ay
namespace Go.ay
open Go.Proofs Num
theorem Kp{H:Heap}{A:Option Addr}{c:Nat}{l:List Nat}(bH:Lt l)(hr:Rd H A (U l))(hc:l.length≤c)(hm:(l.length:Int)≤35184372088832):
 Fn Tryz.prog 207 #[.slice A l.length c] H (lP H (val l)):=by
 refine aU (args:=[_]) Tryz.func207 rfl rfl Tryz.ntmps207 rfl rfl fun w0=> ?_;refine ag [0] rfl ?_;refine ae ?_;refine vr 1 ?_;refine ab [0] ?_;refine ae ?_;refine vr 3 ?_;refine ab [0,3] ?_;refine al ?_;refine aD ?_;refine ft (fun(k:Nat)=>k) (fun(k:Nat)=>put (put (emp) 0 (.val (.slice A l.length c))) 3 (.val (.int .i64 (k:Int)))) (fun(k:Nat) H'=>H'=H∧k≤l.length∧val (l.take k)=val l) l.length (⟨rfl,Nat.le_refl _,by simp⟩) (by repeat (first | exact kL _ | refine eS rfl ?_ | refine eS (lz (by omega)) ?_)) ?_;rintro k H1 ⟨rfl,hk,hv⟩
 rcases Nat.eq_zero_or_pos k with rfl | Kq
 ·
  refine al ?_;refine ae ?_;refine vr 1 ?_;refine ax false rfl rfl (by simp[fL]) ?_;refine vr 8 ?_;refine ab [0,3,15] ?_;refine dg rfl ?_;refine bB ?_;refine ae ?_;refine vr 2 ?_;refine pP (l:=0) (h:=0) af rfl rfl (.inl ⟨rfl,rfl⟩) (.inr ⟨_,_,rfl,rfl⟩) (by omega) (by omega) ?_;rw[Aa];refine vr 1 ?_;refine ab [2] ?_;have e:=GN bH hk hv (.inl rfl);refine aq ⟨.inr rfl,_,.tmp rfl (.nil),.refl _,A,c,?_,?_,?_⟩
  ·rw[e];simp;rfl
  ·rw[e];simp
  ·rw[e,C5];exact hr.take _
 obtain⟨x,hx⟩:∃x,l[k-1]? = some x:=⟨_,List.getElem?_eq_getElem (by omega)⟩;refine al ?_;refine ae ?_;refine vr 1 ?_;refine ax true rfl rfl (by simp[fL];omega) ?_;refine vr 3 ?_;refine eo rfl rfl ⟨by omega,by omega⟩ ?_;refine a6 af rfl rfl rfl rfl rfl (hr) (dA (by rw[show ((k:Int)-1).toNat=k-1 by omega];exact hx)) (by omega) (by omega) fun _=> ?_;refine vr 2 ?_;refine ab [0,3,15] ?_;refine az rfl (fun hb=> ?_) (fun hb=> ?_)
 ·
  simp at hb
  refine aw ?_;refine ag [0,3] rfl ?_;refine aD ?_;refine aE rfl ?_;refine vr 1 ?_;refine eo rfl rfl ⟨by omega,by omega⟩ ?_;refine vr 1 ?_;refine aA ?_;exact⟨k-1,by omega,(by repeat (first | exact kL _ | refine eS rfl ?_ | refine eS (lz (by omega)) ?_)),rfl,by omega,by have:=jV hx;rw[show k-1+1=k by omega,hb,Nat.mul_zero,Nat.add_zero]at this;rw[←this];exact hv⟩
 ·
  simp at hb
  refine bB ?_;refine ag [0,3] rfl ?_;refine ae ?_;refine vr 2 ?_;refine pP af rfl rfl (.inl ⟨rfl,rfl⟩) (.inr ⟨_,_,rfl,rfl⟩) (by omega) (by omega) ?_;rw[Aa];refine vr 1 ?_;refine ab [2] ?_;refine aq ⟨.inr rfl,_,.tmp rfl (.nil),?_⟩;have e:=GN bH hk hv (.inr ⟨x,hx,hb⟩);refine⟨.refl _,A,c,?_,?_,?_⟩
  ·rw[e,List.length_take,Nat.min_eq_left hk];rfl
  ·rw[e,List.length_take,Nat.min_eq_left hk];omega
  ·rw[e,C5];exact hr.take _
theorem Y5{H:Heap}{A:Option Addr}{c x:Nat}(hr:Rd H A (U (ah x))):
 Fn Tryz.prog 208 #[.slice A (ah x).length c] H (fun v H'=>H'=H∧v = .bool (decide (x=1))):=by
 refine aU (args:=[_]) Tryz.func208 rfl rfl Tryz.ntmps208 rfl rfl fun w0=> ?_;refine ag [0] rfl ?_;refine ae ?_;refine vr 1 ?_;refine ab [0] ?_
 by_cases hl:(ah x).length=1
 ·
  obtain⟨y,hy⟩:=List.length_eq_one_iff.1 hl;refine ae ?_;refine vr 2 ?_;refine ax true rfl rfl (by simp[fL,hl]) ?_;refine vr 2 ?_;refine a6 af rfl rfl rfl rfl rfl (hr) (dA (show (ah x)[0]? = some y by rw[hy];rfl)) (by omega) (by omega) fun _=> ?_;refine vr 3 ?_;refine ab [2] ?_;refine aq ⟨.inr rfl,_,.tmp rfl (.nil),?_⟩;refine⟨rfl,?_⟩;have hv:=cU x;rw[hy]at hv
  simp[val]at hv
  subst hv
  show Value.bool _=_
  congr 1
  rw[Bool.eq_iff_iff];simp;omega
 ·
  skip
  refine ae ?_;refine vr 2 ?_;refine ax false rfl rfl (by simp[fL];omega) ?_;refine vr 7 ?_;refine ab [2] ?_;refine aq ⟨.inr rfl,_,.tmp rfl (.nil),?_⟩;refine⟨rfl,?_⟩;have:x≠1:=fun e=>hl (by subst e;rfl)
  simp[this];rfl
end Go.ay
namespace Go.ay
open Go.Proofs Num
theorem PH{H:Heap}{A A':Option Addr}{c c' x y:Nat}(hr:Rd H A (U (ah x)))(dd:Rd H A' (U (ah y)))(hm:((ah x).length:Int)≤35184372088832):
 Fn Tryz.prog 199 #[.slice A (ah x).length c,.slice A' (ah y).length c'] H (fun v H'=>H'=H∧v = .int .i64 (jk x y)):=by
 refine aU (args:=[_,_]) Tryz.func199 rfl rfl Tryz.ntmps199 rfl rfl fun w0=> ?_;refine ag [0,1] rfl ?_;refine ae ?_;refine vr 1 ?_;refine ab [0,1] ?_;refine al ?_;refine ae ?_;refine vr 5 ?_;refine ab [0,1,10] ?_;refine az rfl (fun hb=> ?_) (fun hb=> ?_)
 ·
  have hl:(ah x).length≠(ah y).length:=by simp at hb;omega
  refine al ?_;refine ae ?_;refine vr 5 ?_;refine ab [15] ?_;refine az rfl (fun hb=> ?_) (fun hb=> ?_)
  ·
   simp at hb
   refine ae ?_;refine vr 1 ?_;refine ab [4] ?_;refine aq ⟨.inr rfl,_,.tmp rfl (.nil),?_⟩;exact⟨rfl,by rw[GJ (GL hb)];rfl⟩
  ·
   simp at hb
   refine aw ?_;refine ag [] rfl ?_;refine ae ?_;refine vr 1 ?_;refine ab [4] ?_;refine aq ⟨.inr rfl,_,.tmp rfl (.nil),?_⟩;exact⟨rfl,by rw[GK (GL (by omega))];rfl⟩
 ·
  have hl:(ah x).length=(ah y).length:=by simp at hb;omega
  refine aw ?_;refine ag [0,1] rfl ?_;refine al ?_;refine ae ?_;refine vr 2 ?_;refine eo rfl rfl ⟨by omega,by omega⟩ ?_;refine vr 1 ?_;refine ab [0,1,5] ?_;refine aD ?_;refine ft (fun(k:Nat)=>k) (fun(k:Nat)=>put (put (put (emp) 0 (.val (.slice A (ah x).length c))) 1 (.val (.slice A' (ah y).length c'))) 5 (.val (.int .i64 ((k:Int)-1)))) (fun(k:Nat) H'=>H'=H∧k≤(ah x).length∧(ah x).drop k=(ah y).drop k) (ah x).length (⟨rfl,Nat.le_refl _,by rw[List.drop_of_length_le (Nat.le_refl _),List.drop_of_length_le (by omega)]⟩) (by repeat (first | exact kL _ | refine eS rfl ?_ | refine eS (lz (by omega)) ?_)) ?_;rintro k H1 ⟨rfl,hk,hd⟩;refine al ?_;refine ae ?_;refine vr 2 ?_;refine ab [0,1,5,20] ?_;refine az rfl (fun hb=> ?_) (fun hb=> ?_)
  ·
   simp at hb
   obtain⟨p,hp⟩:∃p,(ah x)[k-1]? = some p:=⟨_,List.getElem?_eq_getElem (by omega)⟩;obtain⟨q,hq⟩:∃q,(ah y)[k-1]? = some q:=⟨_,List.getElem?_eq_getElem (by omega)⟩
   have hj:((k:Int)-1).toNat=k-1:=by omega
   have eJ:(ah x).drop (k-1+1)=(ah y).drop (k-1+1):=by rw[show k-1+1=k by omega];exact hd
   refine aw ?_;refine ag [0,1,5] rfl ?_;refine al ?_;refine aD ?_;refine aD ?_;refine bL .bn [0,1,2,3,4,5,6,7,8,9] follows (by kernel_rfl) ?_;refine vr 2 ?_;refine a6 af rfl rfl rfl rfl rfl (hr) (by rw[hj];exact dA hp) (by omega) (by omega) fun _=> ?_;refine vr 2 ?_;refine a6 af rfl rfl rfl rfl rfl (dd) (by rw[hj];exact dA hq) (by omega) (by omega) fun _=> ?_;refine vr 2 ?_;refine ab [0,1,5,23] ?_;refine az rfl (fun hb=> ?_) (fun hb=> ?_)
   ·
    have lO:p<q:=by simpa using hb
    refine ae ?_;refine vr 1 ?_;refine ab [4] ?_;refine aq ⟨.inr rfl,_,.tmp rfl (.nil),?_⟩;exact⟨rfl,by rw[GJ (by have:=GI (fj x).lt hp hq eJ lO;rwa [cU,cU]at this)];rfl⟩
   ·
    have lO:¬p<q:=by simpa using hb
    refine bL .bn [0,1,2,3,4,5,6,7,8,9] follows (by kernel_rfl) ?_;refine vr 2 ?_;refine a6 af rfl rfl rfl rfl rfl (hr) (by rw[hj];exact dA hp) (by omega) (by omega) fun _=> ?_;refine vr 2 ?_;refine a6 af rfl rfl rfl rfl rfl (dd) (by rw[hj];exact dA hq) (by omega) (by omega) fun _=> ?_;refine vr 2 ?_;refine ab [0,1,5,33] ?_;refine az rfl (fun hb=> ?_) (fun hb=> ?_)
    ·
     have C6:q<p:=by simpa using hb
     refine ae ?_;refine vr 1 ?_;refine ab [4] ?_;refine aq ⟨.inr rfl,_,.tmp rfl (.nil),?_⟩;exact⟨rfl,by rw[GK (by have:=GI (fj y).lt hq hp eJ.symm C6;rwa [cU,cU]at this)];rfl⟩
    ·
     have C6:¬q<p:=by simpa using hb
     refine aw ?_;refine ag [0,1,5] rfl ?_;refine aE rfl ?_;refine vr 1 ?_;refine eo rfl rfl ⟨by omega,by omega⟩ ?_;refine vr 1 ?_;refine aA ?_
     obtain rfl:p=q:=by omega
     exact⟨k-1,by omega,(by repeat (first | exact kL _ | refine eS rfl ?_ | refine eS (lz (by omega)) ?_)),rfl,by omega,PD (by omega) hp hq hd⟩
  ·
   simp at hb
   refine bB ?_;refine ag [] rfl ?_;refine ae ?_;refine vr 1 ?_;refine ab [4] ?_;refine aq ⟨.inr rfl,_,.tmp rfl (.nil),?_⟩
   obtain rfl:k=0:=by omega
   have:x=y:=by rw[←cU x,←cU y];simpa using congrArg val hd
   exact⟨rfl,by rw[this,PC];rfl⟩
end Go.ay
namespace Go.ay
open Go.Proofs Num
theorem PI{H:Heap}{A:Option Addr}{c x:Nat}(hr:Rd H A (U (ah x)))(hm:(ah x).length≤2):
 Fn Tryz.prog 222 #[.slice A (ah x).length c] H (fun v H'=>H'=H∧v = .tuple #[.int .u64 (x:Int),.bool true]):=by
 refine aU (args:=[_]) Tryz.func222 rfl rfl Tryz.ntmps222 rfl rfl fun w0=> ?_;refine ag [0] rfl ?_;refine ae ?_;refine vr 2 ?_;refine ab [0] ?_;refine ae ?_;refine vr 1 ?_;refine ab [0,4] ?_;refine al ?_;refine ae ?_;refine vr 3 ?_;refine ab [0,4,8,9] ?_;refine aD ?_;refine ft (fun(k:Nat)=>(ah x).length-k) (fun(k:Nat)=>put (put (put (put (emp) 0 (.val (.slice A (ah x).length c))) 4 (.val (.int .u64 (val ((ah x).drop ((ah x).length-k)):Int)))) 8 (.val (.int .i64 ((ah x).length:Int)))) 9 (.val (.int .i64 (k:Int)))) (fun(k:Nat) H'=>H'=H∧k≤(ah x).length) 0 (⟨rfl,by omega⟩) (eS rfl (eS rfl (eS (lz (by simp[val])) (eS rfl (kL _))))) ?_;rintro k H1 ⟨rfl,hk⟩;refine ae ?_;refine vr 1 ?_;refine ab [0,4,8,9,10] ?_;refine al ?_;refine az rfl (fun hb=> ?_) (fun hb=> ?_)
 ·
  simp at hb
  obtain⟨p,hp⟩:∃p,(ah x)[(ah x).length-1-k]? = some p:=⟨_,List.getElem?_eq_getElem (by omega)⟩;have vG:=(fj x).lt.get hp;rw[cz]at vG
  have lC:(ah x).drop ((ah x).length-1-k)=p::(ah x).drop ((ah x).length-k):=by
   rw[List.drop_eq_getElem_cons (List.getElem?_eq_some_iff.1 hp).1,(List.getElem?_eq_some_iff.1 hp).2,show (ah x).length-1-k+1=(ah x).length-k by omega]
  have hw:val ((ah x).drop ((ah x).length-k))<B:=by
   have h1:=rV ((fj x).lt.drop ((ah x).length-k));have h2:B^((ah x).drop ((ah x).length-k)).length≤B^1:=Nat.pow_le_pow_right lN (by simp;omega);rw[Nat.pow_one]at h2;omega
  rw[cz]at hw
  have hj:(((ah x).length:Int)-1-(k:Int)).toNat=(ah x).length-1-k:=by omega
  refine aw ?_;refine ag [0,4,8,9] rfl ?_;refine al ?_;refine aD ?_;refine ae ?_;refine vr 2 ?_;refine ab [0,4,5,8,9] ?_;refine ae ?_;refine vr 3 ?_;refine eo rfl rfl ⟨by omega,by omega⟩ ?_;refine vr 1 ?_;refine eo rfl rfl ⟨by omega,by omega⟩ ?_;refine a6 af rfl rfl rfl rfl rfl (hr) (by rw[hj];exact dA hp) (by omega) (by omega) fun _=> ?_;refine dr af rfl rfl rfl ⟨by omega,by omega⟩ ?_;refine vr 1 ?_;refine ab [0,4,6,8,9] ?_;refine al ?_;refine ae ?_;refine vr 2 ?_;refine eo rfl rfl ⟨by omega,by omega⟩ ?_;refine lx rfl rfl (by omega) (by omega) ⟨by omega,by omega⟩ ?_;refine vr 1 ?_;refine ab [0,4,6,8,9,25] ?_;refine az rfl (fun hb=> ?_) (fun hb=> ?_)
  ·
   exfalso;simp at hb;omega
  ·
   skip
   refine aw ?_;refine ag [0,4,6,8,9] rfl ?_;refine aE rfl ?_;refine vr 1 ?_;refine jh rfl rfl ⟨by omega,by omega⟩ ?_;refine vr 1 ?_;refine aN rfl rfl ⟨by omega,by omega⟩ ?_;refine vr 1 ?_;refine aA ?_;refine ag [0,4,8,9] rfl ?_;refine aE rfl ?_;refine aN rfl rfl ⟨by omega,by omega⟩ ?_;refine vr 1 ?_;refine aA ?_
   have dH:val ((ah x).drop ((ah x).length-(k+1)))=val ((ah x).drop ((ah x).length-k))*1000000000+p:=by
    rw[show (ah x).length-(k+1)=(ah x).length-1-k by omega,lC,iF,cz];omega
   exact⟨k+1,by omega,au,rfl,by omega⟩
 ·
  simp at hb
  refine bB ?_;refine ag [4] rfl ?_;refine ae ?_;refine vr 3 ?_;refine ab [2,3] ?_;refine aq ⟨.inr rfl,_,.tmp rfl (.tmp rfl (.nil)),?_⟩
  obtain rfl:k=(ah x).length:=by omega
  refine⟨rfl,?_⟩;rw[Nat.sub_self,List.drop_zero,cU];rfl
theorem GQ{H:Heap}{x:Nat}(hx:x<18446744073709551616):
 Fn Tryz.prog 195 #[.int .u64 (x:Int)] H (lP H x):=by
 refine aU (args:=[_]) Tryz.func195 rfl rfl Tryz.ntmps195 rfl rfl fun w0=> ?_;refine ag [0] rfl ?_;refine ae ?_;refine vr 1 ?_;refine ab [0] ?_;refine ae ?_;refine vr 1 ?_;refine ab [0,3] ?_;refine al ?_;refine aD ?_;refine jv (fun(y:Nat)(v:Value)(o:List Nat)=>y) (fun(y:Nat)(v:Value)(o:List Nat)=>put (put (emp) 0 (.val (.int .u64 (y:Int)))) 3 (.val (v))) (fun(y:Nat)(v:Value)(o:List Nat) H'=>Heap.le H H'∧jX H' v o∧y≤x∧o++ah y=ah x) x (.slice none 0 0) [] (⟨.refl _,vF _,Nat.le_refl _,rfl⟩) au ?_;rintro y v o H1 ⟨hle,cR,tA,ho⟩;obtain⟨A,c,rfl⟩:=bU.form cR
 have cH:o.length≤(ah x).length:=by rw[←ho];simp
 have cj:(ah x).length≤3:=ji.2 (by rw[cz];omega);refine al ?_;refine ae ?_;refine vr 2 ?_;refine ab [0,3,5] ?_;refine az rfl (fun hb=> ?_) (fun hb=> ?_)
 ·
  have hb:0<y:=by simpa using hb
  refine aw ?_;refine ag [0,3] rfl ?_;refine al ?_;refine aD ?_;refine aE rfl ?_;refine vr 2 ?_;refine gj rfl rfl (by omega) (by omega) ?_;refine dr af rfl rfl rfl ⟨by omega,by omega⟩ ?_;refine dM Tryz.underlying177 dX rfl rfl rfl rfl rfl rfl rfl ?_;intro gb bW;refine eW Tryz.underlying177 dX rfl rfl (cR.ins _ bW) (pV (PG y 1000000000)) (rfl) (nn _) (by omega) (by omega) ?_;intro v1 H2 ha;refine vr 1 ?_;refine aA ?_;refine ag [0,3] rfl ?_;refine aE rfl ?_;refine vr 1 ?_;refine lx rfl rfl (by omega) (by omega) ⟨by omega,by omega⟩ ?_;refine vr 1 ?_;refine aA ?_
  have iE:0<y:=by omega
  rw[xT iE]at ho;exact⟨y/B,v1,o ++ [y%B],Nat.div_lt_self iE (by decide),au,(hle.trans (Heap.bC _ bW)).trans ha.le,ha.nZ rfl rfl,Nat.le_trans (Nat.div_le_self _ _) tA,by simpa using ho⟩
 ·
  have hb:y=0:=by simpa using hb
  refine bB ?_;refine ag [3] rfl ?_;refine ae ?_;refine vr 2 ?_;refine ab [2] ?_;refine aq ⟨.inr rfl,_,.tmp rfl (.nil),?_⟩;subst hb;exact⟨hle,z8 (cR.lim) (by rw[show o=ah x by simpa [qM]using ho];exact fj x) (by rw[show o=ah x by simpa [qM]using ho];exact cU x)⟩
end Go.ay
namespace Go.ay
open Go.Proofs Num
theorem Y6{H:Heap}{A:Option Addr}{c:Nat}{l:List Nat}(xW:∀x,x∈l→x<4294967296)(hr:Rd H A (U l))(hm:(l.length:Int)≤8796093022208):
 Fn Tryz.prog 194 #[.slice A l.length c] H (lP H (val l)):=by
 refine aU (args:=[_]) Tryz.func194 rfl rfl Tryz.ntmps194 rfl rfl fun w0=> ?_;refine ag [0] rfl ?_;refine ae ?_;refine vr 1 ?_;refine ab [0] ?_;refine ae ?_;refine vr 2 ?_;refine aN rfl rfl ⟨by omega,by omega⟩ ?_;refine jS Tryz.underlying177 dX rfl rfl rfl (by omega) (by omega) (by omega) (by omega) ?_;intro g hg;refine vr 1 ?_;refine ab [0,3] ?_;refine ae ?_;refine vr 1 ?_;refine ab [0,3,4] ?_;refine al ?_;refine ae ?_;refine vr 3 ?_;refine ab [0,3,4,12,13] ?_;refine aD ?_;refine pQ (fun(k:Nat)(v:Value)(o:List Nat)(cr:Nat)=>l.length-k) (fun(k:Nat)(v:Value)(o:List Nat)(cr:Nat)=>put (put (put (put (put (emp) 0 (.val (.slice A l.length c))) 3 (.val (v))) 4 (.val (.int .u64 (cr:Int)))) 12 (.val (.int .i64 (l.length:Int)))) 13 (.val (.int .i64 (k:Int)))) (fun(k:Nat)(v:Value)(o:List Nat)(cr:Nat) H'=>Heap.le H H'∧jX H' v o∧k≤l.length∧o.length=k∧Lt o∧cr≤4∧val o+B^k*cr=val (l.take k)) 0 _ [] 0 (⟨Heap.bC _ hg,GO rfl (by simp only[maxLen];omega),by omega,rfl,Lt.nil,by omega,by simp[val]⟩) au ?_;rintro k v o cr H1 ⟨hle,cR,hk,cH,dV,fO,hv⟩;obtain⟨Ao,co,rfl⟩:=bU.form cR;refine ae ?_;refine vr 1 ?_;refine ab [0,3,4,12,13,14] ?_;refine al ?_;refine az rfl (fun hb=> ?_) (fun hb=> ?_)
 ·
  have hb:k<l.length:=by simpa using hb
  obtain⟨p,hp⟩:∃p,l[k]? = some p:=⟨_,List.getElem?_eq_getElem hb⟩;have Y7:=xW p (List.mem_of_getElem? hp);refine aw ?_;refine ag [0,3,4,12,13] rfl ?_;refine al ?_;refine aD ?_;refine ae ?_;refine vr 2 ?_;refine ab [0,3,4,5,12,13] ?_;refine ae ?_;refine vr 2 ?_;refine a6 af rfl rfl rfl rfl rfl (hr.le hle) (dA hp) (by omega) (by omega) fun _=> ?_;refine dr af rfl rfl rfl ⟨by omega,by omega⟩ ?_;refine vr 1 ?_;refine aN rfl rfl ⟨by omega,by omega⟩ ?_;refine vr 1 ?_;refine ab [0,3,6,12,13] ?_;refine ae ?_;refine vr 2 ?_;refine gj rfl rfl (by omega) (by omega) ?_;refine dr af rfl rfl rfl ⟨by omega,by omega⟩ ?_;refine dM Tryz.underlying177 dX rfl rfl rfl rfl rfl rfl rfl ?_;intro gb bW;refine eW Tryz.underlying177 dX rfl rfl (cR.ins _ bW) (pV (y:=(p+cr)%1000000000) rfl) (rfl) (nn _) (by omega) (by omega) ?_;intro v1 H2 ha;refine vr 1 ?_;refine ab [0,3,6,12,13] ?_;refine aE rfl ?_;refine vr 1 ?_;refine lx rfl rfl (by omega) (by omega) ⟨by omega,by omega⟩ ?_;refine vr 1 ?_;refine aA ?_;refine ag [0,3,4,12,13] rfl ?_;refine aE rfl ?_;refine aN rfl rfl ⟨by omega,by omega⟩ ?_;refine vr 1 ?_;refine aA ?_;have dH:=zZ (s:=p+cr) (u:=val (l.take (k+1))) cH hv (Nat.add_comm _ _) (jV hp)
  have e1:(((p+cr)%B:Nat):Int)=((p:Int)+cr)%1000000000:=rfl;exact⟨k+1,v1,o ++ [(p+cr)%B],(p+cr)/B,by omega,au,(hle.trans (Heap.bC _ bW)).trans ha.le,ha.nZ rfl rfl,by omega,by simp[cH],dV.snoc (Nat.mod_lt _ lN),by rw[cz];omega,dH⟩
 ·
  have hb:l.length≤k:=by simpa using hb
  obtain rfl:k=l.length:=by omega
  rw[List.take_length]at hv;refine bB ?_;refine ag [3,4] rfl ?_;refine Kg (fun(v:Value)(o:List Nat)=>put (emp) 3 (.val (v))) (fun(v:Value)(o:List Nat) H'=>Heap.le H H'∧jX H' v o∧o.length≤l.length+1∧Lt o∧val o=val l) ?_ ?_
  ·
   refine ae ?_;refine vr 2 ?_;refine ab [3,4,33] ?_;refine az rfl (fun hb=> ?_) (fun hb=> ?_)
   ·
    have hb:0<cr:=by simpa using hb
    refine aE rfl ?_;refine vr 2 ?_;refine dr af rfl rfl rfl ⟨by omega,by omega⟩ ?_;refine dM Tryz.underlying177 dX rfl rfl rfl rfl rfl rfl rfl ?_;intro gb bW;refine eW Tryz.underlying177 dX rfl rfl (cR.ins _ bW) (pV (y:=cr) rfl) (rfl) (nn _) (by omega) (by omega) ?_;intro v1 H2 ha;refine vr 1 ?_;refine aA ?_;exact⟨v1,o ++ [cr],(by repeat (first | exact kL _ | refine eS rfl ?_ | refine eS (lz (by omega)) ?_)),(hle.trans (Heap.bC _ bW)).trans ha.le,ha.nZ rfl rfl,by simp;omega,dV.snoc (by rw[cz];omega),by rw[pT,cH];exact hv⟩
   ·
    have hb:cr=0:=by simpa using hb
    refine aw ?_;exact⟨_,o,(by repeat (first | exact kL _ | refine eS rfl ?_ | refine eS (lz (by omega)) ?_)),hle,cR,by omega,dV,by rw[hb,Nat.mul_zero]at hv;omega⟩
  ·
   rintro v o H3 ⟨hle,cR,cH,dV,hv⟩;obtain⟨Ao,co,tB,jl,fI⟩:=cR.lim;subst tB;refine ae ?_;refine vr 1 ?_;refine ar rfl rfl (Kp dV fI jl (by omega)) ?_;intro v1 H4 hp;refine vr 1 ?_;refine ab [2] ?_;refine aq ⟨.inr rfl,_,.tmp rfl (.nil),?_⟩;exact⟨hle.trans hp.le,by have:=hp.nat;rwa [hv]at this⟩
end Go.ay
namespace Go.ay
open Go.Proofs Num
theorem Y8{H:Heap}{u v:Value}{x y:Nat}(hx:dh H u x)(hy:dh H v y)(hm:((ah x).length:Int)≤8796093022208)(bm:((ah y).length:Int)≤8796093022208):
 Fn Tryz.prog 205 #[u,v] H (lP H (x+y)):=by
 obtain⟨A,c,rfl,hc,hr⟩:=hx
 obtain⟨A',c',rfl,jg,dd⟩:=hy;refine aU (args:=[_,_]) Tryz.func205 rfl rfl Tryz.ntmps205 rfl rfl fun w0=> ?_;refine ag [0,1] rfl ?_;refine ae ?_;refine vr 1 ?_;refine ab [0,1] ?_;refine XD (fun(u:Value)(w:Value)(p:Nat)(q:Nat)=>put (put (emp) 0 (.val (u))) 1 (.val (w))) (fun(u:Value)(w:Value)(p:Nat)(q:Nat) H'=>H'=H∧dh H u p∧dh H w q∧p+q=x+y∧(ah q).length≤(ah p).length∧((ah p).length:Int)≤8796093022208) ?_ ?_
 ·
  refine ae ?_;refine vr 5 ?_;refine ab [0,1,13] ?_;refine az rfl (fun hb=> ?_) (fun hb=> ?_)
  ·
   simp at hb
   refine aE rfl ?_;refine vr 4 ?_;refine aA ?_;exact⟨_,_,y,x,(by repeat (first | exact kL _ | refine eS rfl ?_ | refine eS (lz (by omega)) ?_)),rfl,⟨A',c',rfl,jg,dd⟩,⟨A,c,rfl,hc,hr⟩,by omega,by omega,by omega⟩
  ·
   simp at hb
   refine aw ?_;exact⟨_,_,x,y,(by repeat (first | exact kL _ | refine eS rfl ?_ | refine eS (lz (by omega)) ?_)),rfl,⟨A,c,rfl,hc,hr⟩,⟨A',c',rfl,jg,dd⟩,by omega,by omega,by omega⟩
 ·
  rintro u w p q H3 ⟨rfl,hp,hq,lO,hl,hm⟩;clear hr dd hc jg;obtain⟨A,c,rfl,hc,hr⟩:=hp;obtain⟨A',c',rfl,jg,dd⟩:=hq;have iI:=(fj p).lt;have fP:=(fj q).lt;refine ae ?_;refine vr 2 ?_;refine aN rfl rfl ⟨by omega,by omega⟩ ?_;refine jS Tryz.underlying177 dX rfl rfl rfl (by omega) (by omega) (by omega) (by omega) ?_;intro g hg;refine vr 1 ?_;refine ab [0,1,5] ?_;refine ae ?_;refine vr 1 ?_;refine ab [0,1,5,6] ?_;refine al ?_;refine ae ?_;refine vr 3 ?_;refine ab [0,1,5,6,21,22] ?_;refine aD ?_;refine pQ (fun(k:Nat)(v:Value)(o:List Nat)(cr:Nat)=>(ah p).length-k) (fun(k:Nat)(v:Value)(o:List Nat)(cr:Nat)=>put (put (put (put (put (put (emp) 0 (.val (.slice A (ah p).length c))) 1 (.val (.slice A' (ah q).length c'))) 5 (.val (v))) 6 (.val (.int .u32 (cr:Int)))) 21 (.val (.int .i64 ((ah p).length:Int)))) 22 (.val (.int .i64 (k:Int)))) (fun(k:Nat)(v:Value)(o:List Nat)(cr:Nat) H'=>Heap.le H3 H'∧jX H' v o∧k≤(ah p).length∧o.length=k∧Lt o∧cr≤1∧val o+B^k*cr=val ((ah p).take k)+val ((ah q).take k)) 0 _ [] 0 (⟨Heap.bC _ hg,GO rfl (by simp only[maxLen];omega),by omega,rfl,Lt.nil,by omega,by simp[val]⟩) au ?_;rintro k v o cr H1 ⟨hle,cR,hk,cH,dV,fO,hv⟩;obtain⟨Ao,co,rfl⟩:=bU.form cR
  refine ae ?_;refine vr 1 ?_;refine ab [0,1,5,6,21,22,23] ?_;refine al ?_;refine az rfl (fun hb=> ?_) (fun hb=> ?_)
  ·
   have hb:k<(ah p).length:=by simpa using hb
   obtain⟨d,hd⟩:∃d,(ah p)[k]? = some d:=⟨_,List.getElem?_eq_getElem hb⟩;have kR:=iI.get hd;rw[cz]at kR;obtain⟨e,he⟩:∃e,e=((ah q)[k]?).getD 0:=⟨_,rfl⟩
   have Ae:e<1000000000:=by
    cases hq:(ah q)[k]? with
    | none=>rw[hq]at he;simp at he;omega
    | some z=>rw[hq]at he;simp at he;have:=fP.get hq;rw[cz]at this;omega
   refine aw ?_;refine ag [0,1,5,6,21,22] rfl ?_;refine al ?_;refine aD ?_;refine ae ?_;refine vr 2 ?_;refine ab [0,1,5,6,7,21,22] ?_;refine ae ?_;refine vr 2 ?_;refine a6 af rfl rfl rfl rfl rfl (hr.le hle) (dA hd) (by omega) (by omega) fun _=> ?_;refine vr 1 ?_;refine aN rfl rfl ⟨by omega,by omega⟩ ?_;refine vr 1 ?_;refine ab [0,1,5,7,8,21,22] ?_;refine mz (fun(sv:Nat)=>put (put (put (put (put (put (emp) 0 (.val (.slice A (ah p).length c))) 1 (.val (.slice A' (ah q).length c'))) 5 (.val (.slice Ao o.length co))) 8 (.val (.int .u32 (sv:Int)))) 21 (.val (.int .i64 ((ah p).length:Int)))) 22 (.val (.int .i64 (k:Int)))) (fun(sv:Nat) H'=>H'=H1∧sv=d+cr+e) ?_ ?_
   ·
    refine ae ?_;refine vr 4 ?_;refine ab [0,1,5,7,8,21,22,34] ?_;refine az rfl (fun hb=> ?_) (fun hb=> ?_)
    ·
     have hb:k<(ah q).length:=by simpa using hb
     have hz:(ah q)[k]? = some e:=by rw[List.getElem?_eq_getElem hb]at he⊢;simp at he;rw[he]
     refine aE rfl ?_;refine vr 3 ?_;refine a6 af rfl rfl rfl rfl rfl (dd.le hle) (dA hz) (by omega) (by omega) fun _=> ?_;refine aN rfl rfl ⟨by omega,by omega⟩ ?_;refine vr 1 ?_;refine aA ?_;exact⟨d+cr+e,(by repeat (first | exact kL _ | refine eS rfl ?_ | refine eS (lz (by omega)) ?_)),rfl,rfl⟩
    ·
     have hb:(ah q).length≤k:=by simpa using hb
     obtain rfl:e=0:=by rw[he,List.getElem?_eq_none hb];rfl
     refine aw ?_;exact⟨d+cr,(by repeat (first | exact kL _ | refine eS rfl ?_ | refine eS (lz (by omega)) ?_)),rfl,rfl⟩
   ·
    rintro sv H4 ⟨rfl,o0⟩;refine ae ?_;refine vr 1 ?_;refine lx rfl rfl (by omega) (by omega) ⟨by omega,by omega⟩ ?_;refine vr 1 ?_;refine ab [0,1,5,6,8,21,22] ?_;refine aE rfl ?_;refine vr 2 ?_;refine gj rfl rfl (by omega) (by omega) ?_;refine dM Tryz.underlying177 dX rfl rfl rfl rfl rfl rfl rfl ?_;intro gb bW;refine eW Tryz.underlying177 dX rfl rfl (cR.ins _ bW) (pV (y:=sv%1000000000) rfl) (rfl) (nn _) (by omega) (by omega) ?_;intro v1 H2 ha;refine vr 1 ?_;refine aA ?_;refine ag [0,1,5,6,21,22] rfl ?_;refine aE rfl ?_;refine aN rfl rfl ⟨by omega,by omega⟩ ?_;refine vr 1 ?_;refine aA ?_;have dH:=zZ (s:=cr+(d+e)) (u:=val ((ah p).take (k+1))+val ((ah q).take (k+1))) cH hv rfl (by rw[jV hd,vE,←he,Nat.mul_add];omega)
    obtain rfl:sv=cr+(d+e):=by omega
    exact⟨k+1,v1,o ++ [(cr+(d+e))%B],(cr+(d+e))/B,by omega,au,(hle.trans (Heap.bC _ bW)).trans ha.le,ha.nZ rfl rfl,by omega,by simp[cH],dV.snoc (Nat.mod_lt _ lN),by rw[cz];omega,dH⟩
  ·
   have hb:(ah p).length≤k:=by simpa using hb
   obtain rfl:k=(ah p).length:=by omega
   rw[List.take_length,List.take_of_length_le hl,cU,cU]at hv;refine bB ?_;refine ag [5,6] rfl ?_;refine al ?_;refine ae ?_;refine vr 2 ?_;refine ab [5,6,50] ?_;refine az rfl (fun hb=> ?_) (fun hb=> ?_)
   ·
    have hb:0<cr:=by simpa using hb
    refine aE rfl ?_;refine vr 2 ?_;refine dM Tryz.underlying177 dX rfl rfl rfl rfl rfl rfl rfl ?_;intro gb bW;refine eW Tryz.underlying177 dX rfl rfl (cR.ins _ bW) (pV (y:=cr) rfl) (rfl) (nn _) (by omega) (by omega) ?_;intro v1 H2 ha;refine vr 1 ?_;refine aA ?_;refine ag [5] rfl ?_;refine ae ?_;refine vr 2 ?_;refine ab [4] ?_;refine aq ⟨.inr rfl,_,.tmp rfl (.nil),?_⟩
    have tB:val (o ++ [cr])=x+y:=by rw[pT,cH,hv];exact lO
    exact⟨(hle.trans (Heap.bC _ bW)).trans ha.le,z8 (ha.nZ (a:=o) (b:=[cr]) rfl rfl).lim ⟨dV.snoc (by rw[cz];omega),fun z hz=>by simp at hz;omega⟩ tB⟩
   ·
    have hb:cr=0:=by simpa using hb
    refine aw ?_;refine ag [5] rfl ?_;refine ae ?_;refine vr 2 ?_;refine ab [4] ?_;refine aq ⟨.inr rfl,_,.tmp rfl (.nil),?_⟩;rw[hb,Nat.mul_zero,Nat.add_zero]at hv;refine⟨hle,z8 cR.lim (last_pos dV cH ?_) (by rw[hv];exact lO)⟩
    rcases Nat.eq_zero_or_pos (ah p).length with h0 | h0
    ·exact .inl h0
    ·
     have:=(fj p).pos (by intro e0;rw[e0]at h0;simp at h0);rw[cU]at this;exact .inr (by rw[hv];omega)
end Go.ay
namespace Go.ay
open Go.Proofs Num
theorem PJ{H:Heap}{u v:Value}{x y:Nat}(hx:dh H u x)(hy:dh H v y)(tA:y≤x)(hm:((ah x).length:Int)≤8796093022208):
 Fn Tryz.prog 206 #[u,v] H (lP H (x-y)):=by
 obtain⟨A,c,rfl,hc,hr⟩:=hx
 obtain⟨A',c',rfl,jg,dd⟩:=hy
 have iI:=(fj x).lt
 have fP:=(fj y).lt
 have hl:=lB tA;refine aU (args:=[_,_]) Tryz.func206 rfl rfl Tryz.ntmps206 rfl rfl fun w0=> ?_;refine ag [0,1] rfl ?_;refine ae ?_;refine vr 1 ?_;refine ab [0,1] ?_;refine ae ?_;refine vr 2 ?_;refine jS Tryz.underlying177 dX rfl rfl rfl (by omega) (by omega) (by omega) (by omega) ?_;intro g hg;refine vr 1 ?_;refine ab [0,1,5] ?_;refine ae ?_;refine vr 1 ?_;refine ab [0,1,5,6] ?_;refine al ?_;refine ae ?_;refine vr 3 ?_;refine ab [0,1,5,6,13,14] ?_;refine aD ?_;refine pQ (fun(k:Nat)(v:Value)(o:List Nat)(br:Nat)=>(ah x).length-k) (fun(k:Nat)(v:Value)(o:List Nat)(br:Nat)=>put (put (put (put (put (put (emp) 0 (.val (.slice A (ah x).length c))) 1 (.val (.slice A' (ah y).length c'))) 5 (.val (v))) 6 (.val (.int .i64 (br:Int)))) 13 (.val (.int .i64 ((ah x).length:Int)))) 14 (.val (.int .i64 (k:Int)))) (fun(k:Nat)(v:Value)(o:List Nat)(br:Nat) H'=>Heap.le H H'∧jX H' v o∧k≤(ah x).length∧o.length=k∧Lt o∧br≤1∧val ((ah x).take k)+B^k*br=val o+val ((ah y).take k)) 0 _ [] 0 (⟨Heap.bC _ hg,GO rfl (by simp only[maxLen];omega),by omega,rfl,Lt.nil,by omega,by simp[val]⟩) au ?_;rintro k v o br H1 ⟨hle,cR,hk,cH,dV,rZ,hv⟩;obtain⟨Ao,co,rfl⟩:=bU.form cR;refine ae ?_;refine vr 1 ?_
 refine ab [0,1,5,6,13,14,15] ?_;refine al ?_;refine az rfl (fun hb=> ?_) (fun hb=> ?_)
 ·
  have hb:k<(ah x).length:=by simpa using hb
  obtain⟨d,hd⟩:∃d,(ah x)[k]? = some d:=⟨_,List.getElem?_eq_getElem hb⟩;have kR:=iI.get hd;rw[cz]at kR;obtain⟨e,he⟩:∃e,e=((ah y)[k]?).getD 0:=⟨_,rfl⟩
  have Ae:e<1000000000:=by
   cases hq:(ah y)[k]? with
   | none=>rw[hq]at he;simp at he;omega
   | some z=>rw[hq]at he;simp at he;have:=fP.get hq;rw[cz]at this;omega
  refine aw ?_;refine ag [0,1,5,6,13,14] rfl ?_;refine al ?_;refine aD ?_;refine ae ?_;refine vr 2 ?_;refine ab [0,1,5,6,7,13,14] ?_;refine ae ?_;refine vr 2 ?_;refine a6 af rfl rfl rfl rfl rfl (hr.le hle) (dA hd) (by omega) (by omega) fun _=> ?_;refine dr af rfl rfl rfl ⟨by omega,by omega⟩ ?_;refine vr 1 ?_;refine eo rfl rfl ⟨by omega,by omega⟩ ?_;refine vr 1 ?_;refine ab [0,1,5,7,8,13,14] ?_;refine mz (fun(sv:Int)=>put (put (put (put (put (put (emp) 0 (.val (.slice A (ah x).length c))) 1 (.val (.slice A' (ah y).length c'))) 5 (.val (.slice Ao o.length co))) 8 (.val (.int .i64 sv))) 13 (.val (.int .i64 ((ah x).length:Int)))) 14 (.val (.int .i64 (k:Int)))) (fun(sv:Int) H'=>H'=H1∧sv=(d:Int)-br-e) ?_ ?_
  ·
   refine ae ?_;refine vr 4 ?_;refine ab [0,1,5,7,8,13,14,27] ?_;refine az rfl (fun hb=> ?_) (fun hb=> ?_)
   ·
    have hb:k<(ah y).length:=by simpa using hb
    have hz:(ah y)[k]? = some e:=by rw[List.getElem?_eq_getElem hb]at he⊢;simp at he;rw[he]
    refine aE rfl ?_;refine vr 3 ?_;refine a6 af rfl rfl rfl rfl rfl (dd.le hle) (dA hz) (by omega) (by omega) fun _=> ?_;refine dr af rfl rfl rfl ⟨by omega,by omega⟩ ?_;refine eo rfl rfl ⟨by omega,by omega⟩ ?_;refine vr 1 ?_;refine aA ?_;exact⟨(d:Int)-br-e,(by repeat (first | exact kL _ | refine eS rfl ?_ | refine eS (lz (by omega)) ?_)),rfl,rfl⟩
   ·
    have hb:(ah y).length≤k:=by simpa using hb
    have Ag:e=0:=by rw[he,List.getElem?_eq_none hb];rfl
    refine aw ?_;exact⟨(d:Int)-br,(by repeat (first | exact kL _ | refine eS rfl ?_ | refine eS (lz (by omega)) ?_)),rfl,by omega⟩
  ·
   rintro sv H4 ⟨rfl,o0⟩;refine ae ?_;refine vr 1 ?_;refine ab [0,1,5,6,8,13,14] ?_;refine al ?_;refine ae ?_;refine vr 2 ?_;refine ab [0,1,5,6,8,13,14,36] ?_;refine az rfl (fun hb=> ?_) (fun hb=> ?_)
   ·
    have hb:sv<0:=by simpa using hb
    refine ae ?_;refine vr 1 ?_;refine aN rfl rfl ⟨by omega,by omega⟩ ?_;refine vr 1 ?_;refine ab [0,1,5,8,13,14] ?_;refine aE rfl ?_;refine vr 1 ?_;refine aA ?_;refine ag [0,1,5,6,8,13,14] rfl ?_;refine aE rfl ?_;refine vr 2 ?_;refine dr af rfl rfl rfl ⟨by omega,by omega⟩ ?_;refine dM Tryz.underlying177 dX rfl rfl rfl rfl rfl rfl rfl ?_;intro gb bW;refine eW Tryz.underlying177 dX rfl rfl (cR.ins _ bW) (pV (y:=if sv<0 then d+1000000000-br-e else d-br-e) (by split <;> omega)) (rfl) (nn _) (by omega) (by omega) ?_;intro v1 H2 ha
    (first|rw[if_pos hb]at ha|rw[if_neg (by omega)]at ha)
    refine vr 1 ?_;refine aA ?_;refine ag [0,1,5,6,13,14] rfl ?_;refine aE rfl ?_;refine aN rfl rfl ⟨by omega,by omega⟩ ?_;refine vr 1 ?_;refine aA ?_;have dH:=C4 (s:=d+1000000000-br-e) (br':=1) (d:=d) (e:=e) cH hv (by rw[cz];omega) (jV hd) (show val ((ah y).take (k+1))=val ((ah y).take k)+B^k*e by rw[vE,←he]);exact⟨k+1,v1,o ++ [d+1000000000-br-e],1,by omega,au,(hle.trans (Heap.bC _ bW)).trans ha.le,ha.nZ rfl rfl,by omega,by simp[cH],dV.snoc (by rw[cz];omega),by omega,dH⟩
   ·
    have hb:0≤sv:=by simpa using hb
    refine aw ?_;refine ag [0,1,5,6,8,13,14] rfl ?_;refine aE rfl ?_;refine vr 2 ?_;refine dr af rfl rfl rfl ⟨by omega,by omega⟩ ?_;refine dM Tryz.underlying177 dX rfl rfl rfl rfl rfl rfl rfl ?_;intro gb bW;refine eW Tryz.underlying177 dX rfl rfl (cR.ins _ bW) (pV (y:=if sv<0 then d+1000000000-br-e else d-br-e) (by split <;> omega)) (rfl) (nn _) (by omega) (by omega) ?_;intro v1 H2 ha
    (first|rw[if_pos hb]at ha|rw[if_neg (by omega)]at ha)
    refine vr 1 ?_;refine aA ?_;refine ag [0,1,5,6,13,14] rfl ?_;refine aE rfl ?_;refine aN rfl rfl ⟨by omega,by omega⟩ ?_;refine vr 1 ?_;refine aA ?_;have dH:=C4 (s:=d-br-e) (br':=0) (d:=d) (e:=e) cH hv (by omega) (jV hd) (show val ((ah y).take (k+1))=val ((ah y).take k)+B^k*e by rw[vE,←he]);exact⟨k+1,v1,o ++ [d-br-e],0,by omega,au,(hle.trans (Heap.bC _ bW)).trans ha.le,ha.nZ rfl rfl,by omega,by simp[cH],dV.snoc (by rw[cz];omega),by omega,dH⟩
 ·
  have hb:(ah x).length≤k:=by simpa using hb
  obtain rfl:k=(ah x).length:=by omega
  rw[List.take_length,List.take_of_length_le hl,cU,cU]at hv;have tB:=rV dV;rw[cH]at tB
  have Kr:br=0:=by
   rcases Nat.eq_zero_or_pos br with h | h
   ·exact h
   ·
    obtain rfl:br=1:=by omega
    omega
  obtain⟨Ao',co',Y9,jl,fI⟩:=cR.lim
  cases Y9
  refine bB ?_;refine ag [5] rfl ?_;refine ae ?_;refine vr 1 ?_;refine ar rfl rfl (Kp dV fI jl (by omega)) ?_;intro v1 H4 hp;refine vr 1 ?_;refine ab [4] ?_;refine aq ⟨.inr rfl,_,.tmp rfl (.nil),?_⟩;exact⟨hle.trans hp.le,by have:=hp.nat;rwa [show val o=x-y by rw[Kr]at hv;omega]at this⟩
end Go.ay
namespace Go.ay
open Go.Proofs Num
theorem vH(H:Heap)(g n:Nat):ins H g ⟨de [.int .u32 0] (n*1),n*1,121,true⟩=ins H g (dD (List.replicate n 0) n):=Y4 (k:=n) rfl
theorem vI{l:List Nat}{k y:Nat}(h:k<l.length):(l.set k y).take (k+1)=l.take k ++ [y]:=Y3 h
theorem GR{q m r x:Nat}(h:q*m+r=x)(hr:r<m):x/m=q∧x%m=r:=by
 subst h
 refine⟨?_,?_⟩
 ·rw[Nat.mul_comm,Nat.mul_add_div (by omega),Nat.div_eq_of_lt hr,Nat.add_zero]
 ·rw[Nat.mul_comm,Nat.mul_add_mod,Nat.mod_eq_of_lt hr]
def Za(H:Heap)(n x:Nat)(v:Value)(H':Heap):Prop:=∃g l,H g=none∧v = .slice (some ⟨g,0,none⟩) n n∧H'=ins H g (dD l n)∧l.length=n∧Lt l∧val l=x
theorem GS{H:Heap}{v:Value}{l:List Nat}(h:iH H v l)(bH:Lt l)(hm:(l.length:Int)≤35184372088832):Fn Tryz.prog 207 #[v] H (lP H (val l)):=by
 obtain⟨A,c,rfl,hc,hr⟩:=h
 exact Kp bH hr hc hm
theorem PK{H:Heap}{u:Value}{l:List Nat}{m:Nat}(hu:iH H u l)(hl:Lt l)(hm:m<1000000000)(hs:(l.length:Int)≤8796093022208):
 Fn Tryz.prog 224 #[u,.int .u64 (m:Int)] H (Za H (l.length+1) (val l*m)):=by
 obtain⟨A,c,rfl,hc,hr⟩:=hu;refine aU (args:=[_,_]) Tryz.func224 rfl rfl Tryz.ntmps224 rfl rfl fun w0=> ?_;refine ag [0,1] rfl ?_;refine ae ?_;refine vr 1 ?_;refine ab [0,1] ?_;refine ae ?_;refine vr 2 ?_;refine aN rfl rfl ⟨by omega,by omega⟩ ?_;refine jS Tryz.underlying177 dX rfl rfl rfl (by omega) (by omega) (by omega) (by omega) ?_;intro g hg;rw[show ((l.length:Int)+1).toNat=l.length+1 from by omega,vH];have o3:=fun e=>hr.le (Heap.bC (g:=g) e hg);refine vr 1 ?_;refine ab [0,1,5] ?_;refine ae ?_;refine vr 1 ?_;refine ab [0,1,5,6] ?_;refine al ?_;refine ae ?_;refine vr 3 ?_;refine ab [0,1,5,6,14,15] ?_;refine aD ?_;refine jv (fun(k:Nat)(o:List Nat)(cr:Nat)=>l.length-k) (fun(k:Nat)(o:List Nat)(cr:Nat)=>put (put (put (put (put (put (emp) 0 (.val (.slice A l.length c))) 1 (.val (.int .u64 (m:Int)))) 5 (.val (.slice (some ⟨g,0,none⟩) (l.length+1) (l.length+1)))) 6 (.val (.int .u64 (cr:Int)))) 14 (.val (.int .i64 (l.length:Int)))) 15 (.val (.int .i64 (k:Int)))) (fun(k:Nat)(o:List Nat)(cr:Nat) H'=>H'=ins H g (dD o (l.length+1))∧k≤l.length∧o.length=l.length+1∧Lt o∧cr<1000000000∧val (o.take k)+B^k*cr=val (l.take k)*m) 0 _ 0 (⟨rfl,by omega,by simp,Lt.replicate _,by omega,by simp[val]⟩) au ?_
 rintro k o cr H1 ⟨rfl,hk,cH,dV,fO,hv⟩;refine ae ?_;refine vr 1 ?_;refine ab [0,1,5,6,14,15,16] ?_;refine al ?_;refine az rfl (fun hb=> ?_) (fun hb=> ?_)
 ·
  have hb:k<l.length:=by simpa using hb
  obtain⟨d,hd⟩:∃d,l[k]? = some d:=⟨_,List.getElem?_eq_getElem hb⟩;have kR:=hl.get hd;rw[cz]at kR;have PL:d*m≤999999999*999999999:=Nat.mul_le_mul (by omega) (by omega)
  have PM:(d:Int)*(m:Int)=((d*m:Nat):Int):=by simp
  obtain⟨dm,afV⟩:∃dm,dm=d*m:=⟨_,rfl⟩;refine aw ?_;refine ag [0,1,5,6,14,15] rfl ?_;refine al ?_;refine aD ?_;refine ae ?_;refine vr 2 ?_;refine ab [0,1,5,6,7,14,15] ?_;refine ae ?_;refine vr 2 ?_;refine a6 af rfl rfl rfl rfl rfl (o3 _) (dA hd) (by omega) (by omega) fun _=> ?_;refine dr af rfl rfl rfl ⟨by omega,by omega⟩ ?_;refine vr 1 ?_;refine jh rfl rfl ⟨by omega,by omega⟩ ?_;refine vr 1 ?_;refine aN rfl rfl ⟨by omega,by omega⟩ ?_;refine vr 1 ?_;refine ab [0,1,5,7,8,14,15] ?_;refine ae ?_;refine vr 3 ?_;refine gj rfl rfl (by omega) (by omega) ?_;refine dr af rfl rfl rfl ⟨by omega,by omega⟩ ?_;obtain⟨ti,aj,ak⟩:=nm;refine eB (.inl rfl) af rfl rfl rfl (by omega) (by omega) (bT _ _ _) rfl (by rw[nr];omega) aj ak (fun _=>rfl) rfl rfl rfl fun _=> ?_;refine ab [0,1,5,8,14,15] ?_;refine aE rfl ?_;refine vr 1 ?_;refine lx rfl rfl (by omega) (by omega) ⟨by omega,by omega⟩ ?_;refine vr 1 ?_;refine aA ?_;refine ag [0,1,5,6,14,15] rfl ?_;refine aE rfl ?_;refine aN rfl rfl ⟨by omega,by omega⟩ ?_;refine vr 1 ?_;refine aA ?_;have dH:=zZ (s:=d*m+cr) (a:=cr) (b:=d*m) (u:=val (l.take (k+1))*m) (by simp;omega) hv (by omega) (by rw[jV hd,Nat.add_mul,Nat.mul_assoc])
  rw[←vI (by omega)]at dH;exact⟨k+1,o.set k ((d*m+cr)%B),(d*m+cr)/B,by omega,au,by rw[rY (y:=(d*m+cr)%B) (by rw[cz];omega)];rfl,by omega,by simp[cH],dV.set (Nat.mod_lt _ lN),by rw[cz];omega,dH⟩
 ·
  have hb:l.length≤k:=by simpa using hb
  obtain rfl:k=l.length:=by omega
  rw[List.take_length]at hv;refine bB ?_;refine ag [0,5,6] rfl ?_;refine ae ?_;refine vr 4 ?_;refine dr af rfl rfl rfl ⟨by omega,by omega⟩ ?_;obtain⟨ti,aj,ak⟩:=nm;refine eB (.inl rfl) af rfl rfl rfl (by omega) (by omega) (bT _ _ _) rfl (by rw[nr];omega) aj ak (fun _=>rfl) rfl rfl rfl fun _=> ?_;refine ab [5] ?_;refine ae ?_;refine vr 2 ?_;refine ab [4] ?_;refine aq ⟨.inr rfl,_,.tmp rfl (.nil),?_⟩;refine⟨g,o.set l.length cr,hg,rfl,?_,by simp[cH],dV.set (by rw[cz];omega),?_⟩
  ·rw[rY (y:=cr) rfl];rfl
  ·rw[←List.take_length (l:=o.set l.length cr),List.length_set,cH,vI (by omega),pT,List.length_take,Nat.min_eq_left (by omega)];exact hv
theorem PN{H:Heap}{u:Value}{l:List Nat}{m:Nat}(hu:iH H u l)(hl:Lt l)(hm:m<1000000000)(C7:0<m)(hs:(l.length:Int)≤8796093022208):
 Fn Tryz.prog 223 #[u,.int .u64 (m:Int)] H (fun v H'=>Heap.le H H'∧∃q,v = .tuple #[q,.int .u64 ((val l%m:Nat):Int)]∧dh H' q (val l/m)):=by
 obtain⟨A,c,rfl,hc,hr⟩:=hu;refine aU (args:=[_,_]) Tryz.func223 rfl rfl Tryz.ntmps223 rfl rfl fun w0=> ?_;refine ag [0,1] rfl ?_;refine ae ?_;refine vr 2 ?_;refine ab [0,1] ?_;refine ae ?_;refine vr 2 ?_;refine jS Tryz.underlying177 dX rfl rfl rfl (by omega) (by omega) (by omega) (by omega) ?_;intro g hg;rw[show ((l.length:Int)).toNat=l.length from by omega,vH];have o3:=fun e=>hr.le (Heap.bC (g:=g) e hg);refine vr 1 ?_;refine ab [0,1,6] ?_;refine ae ?_;refine vr 1 ?_;refine ab [0,1,6,7] ?_;refine al ?_;refine ae ?_;refine vr 2 ?_;refine eo rfl rfl ⟨by omega,by omega⟩ ?_;refine vr 1 ?_;refine ab [0,1,6,7,8] ?_;refine aD ?_;refine jv (fun(k:Nat)(o:List Nat)(rs:Nat)=>k) (fun(k:Nat)(o:List Nat)(rs:Nat)=>put (put (put (put (put (emp) 0 (.val (.slice A l.length c))) 1 (.val (.int .u64 (m:Int)))) 6 (.val (.slice (some ⟨g,0,none⟩) l.length l.length))) 7 (.val (.int .u64 (rs:Int)))) 8 (.val (.int .i64 ((k:Int)-1)))) (fun(k:Nat)(o:List Nat)(rs:Nat) H'=>H'=ins H g (dD o l.length)∧k≤l.length∧o.length=l.length∧Lt o∧rs<m∧val (o.drop k)*m+rs=val (l.drop k)) l.length _ 0 (⟨rfl,by omega,by simp,Lt.replicate _,by omega,by simp[val]⟩) au ?_;rintro k o rs H1 ⟨rfl,hk,cH,dV,pW,hv⟩;refine al ?_
 refine ae ?_;refine vr 2 ?_;refine ab [0,1,6,7,8,17] ?_;refine az rfl (fun hb=> ?_) (fun hb=> ?_)
 ·
  have hb:1≤k:=by simp at hb;omega
  obtain⟨k,rfl⟩:∃j,k=j+1:=⟨k-1,by omega⟩;obtain⟨d,hd⟩:∃d,l[k]? = some d:=⟨_,List.getElem?_eq_getElem (by omega)⟩;have kR:=hl.get hd;rw[cz]at kR
  have hj:(((k+1:Nat):Int)-1).toNat=k:=by omega
  have gF:((rs:Int)*1000000000+(d:Int))/(m:Int)<1000000000:=Int.ediv_lt_of_lt_mul (by omega) (by omega);have cn:0≤((rs:Int)*1000000000+(d:Int))/(m:Int):=Int.ediv_nonneg (by omega) (by omega);refine aw ?_;refine ag [0,1,6,7,8] rfl ?_;refine al ?_;refine aD ?_;refine ae ?_;refine vr 1 ?_;refine jh rfl rfl ⟨by omega,by omega⟩ ?_;refine vr 2 ?_;refine a6 af rfl rfl rfl rfl rfl (o3 _) (by rw[hj];exact dA hd) (by omega) (by omega) fun _=> ?_;refine dr af rfl rfl rfl ⟨by omega,by omega⟩ ?_;refine aN rfl rfl ⟨by omega,by omega⟩ ?_;refine vr 1 ?_;refine ab [0,1,6,8,9] ?_;refine ae ?_;refine vr 4 ?_;refine lx rfl rfl (by omega) (by omega) ⟨by omega,by omega⟩ ?_;refine dr af rfl rfl rfl ⟨by omega,by omega⟩ ?_;obtain⟨ti,aj,ak⟩:=nm;refine eB (.inl rfl) af rfl rfl rfl (by omega) (by omega) (bT _ _ _) rfl (by rw[nr];omega) aj ak (fun _=>rfl) rfl rfl rfl fun _=> ?_;refine ab [0,1,6,8,9] ?_;refine aE rfl ?_;refine vr 2 ?_;refine gj rfl rfl (by omega) (by omega) ?_;refine vr 1 ?_;refine aA ?_;refine ag [0,1,6,7,8] rfl ?_;refine aE rfl ?_;refine vr 1 ?_;refine eo rfl rfl ⟨by omega,by omega⟩ ?_;refine vr 1 ?_;refine aA ?_
  have hq:(rs*1000000000+d)/m<1000000000:=by rw[Nat.div_lt_iff_lt_mul C7];omega
  refine⟨k,o.set k ((rs*1000000000+d)/m),(rs*1000000000+d)%m,by omega,au,by rw[rY (y:=(rs*1000000000+d)/m) (by simp)];rw[hj],by omega,by simp[cH],dV.set (by rw[cz];omega),Nat.mod_lt _ C7,?_⟩;rw[set_drop (by omega),z6 hd,iF,iF,←hv];have:=Nat.div_add_mod (rs*1000000000+d) m
  simp only[cz,Nat.add_mul,Nat.mul_add,Nat.mul_assoc]
  rw[Nat.mul_comm m]at this
  omega
 ·
  have hb:k=0:=by simp at hb;omega
  subst hb
  simp only[List.drop_zero]at hv
  refine bB ?_;refine ag [6,7] rfl ?_;refine ae ?_;refine vr 1 ?_;refine ar rfl rfl (GS (xV _ _ o _ _ cH.symm (Nat.le_refl _)) dV (by omega)) ?_;intro v1 H4 hp;refine vr 3 ?_;refine ab [4,5] ?_;refine aq ⟨.inr rfl,_,.tmp rfl (.tmp rfl (.nil)),?_⟩;refine⟨(Heap.bC _ hg).trans hp.le,v1,?_,?_⟩
  ·rw[(GR hv pW).2];rfl
  ·rw[(GR hv pW).1];exact hp.nat
end Go.ay
namespace Go.ay
open Go.Proofs Num
def pX(o:List Nat)(p:Nat):Prop:=∀t z,p≤t→o[t]? = some z→z=0
theorem pX.set{o:List Nat}{p t y:Nat}(h:pX o p)(ht:t<p):pX (o.set t y) p:=fun s z hs hz=>by
 rw[List.getElem?_set_ne (by omega)]at hz
 exact h s z hs hz
theorem pX.Zb{o:List Nat}{p y:Nat}(h:pX o p):pX (o.set p y) (p+1):=fun s z hs hz=>by
 rw[List.getElem?_set_ne (by omega)]at hz
 exact h s z (by omega) hz
theorem PO(n p:Nat):pX (List.replicate n 0) p:=fun t z _ hz=>by
 rw[List.getElem?_replicate]at hz
 split at hz
 ·cases hz;rfl
 ·cases hz
theorem PQ{o:List Nat}{i j e cr s X Y P d:Nat}(he:o[i+j]? = some e)(hv:val o+B^(i+j)*cr=X+B^i*d*Y)(hs:s=d*P+e+cr):
  val (o.set (i+j) (s%B))+B^(i+(j+1))*(s/B)=X+B^i*d*(Y+B^j*P):=by
 have h1:=PE (y:=s%B) he
 have h2:B^(i+j)*s=B^(i+j)*(s%B)+B^(i+j)*(B*(s/B)):=by rw[←Nat.mul_add,Nat.mod_add_div]
 have h3:B^(i+j)*s=B^(i+j)*(d*P)+B^(i+j)*e+B^(i+j)*cr:=by rw[hs,Nat.mul_add,Nat.mul_add]
 have h4:B^i*d*(B^j*P)=B^(i+j)*(d*P):=by rw[Nat.pow_add,Nat.mul_assoc,Nat.mul_assoc,Nat.mul_left_comm d]
 rw[Nat.mul_add,h4,←Nat.add_assoc i j 1,Nat.pow_succ,Nat.mul_assoc]
 omega
theorem tC{H:Heap}{u v:Value}{x y:Nat}(hx:dh H u x)(hy:dh H v y)(hm:((ah x).length:Int)≤8796093022208)(bm:((ah y).length:Int)≤8796093022208):
 Fn Tryz.prog 197 #[u,v] H (lP H (x*y)):=by
 obtain⟨A,c,rfl,hc,hr⟩:=hx
 obtain⟨A',c',rfl,jg,dd⟩:=hy
 have iI:=(fj x).lt
 have fP:=(fj y).lt;refine aU (args:=[_,_]) Tryz.func197 rfl rfl Tryz.ntmps197 rfl rfl fun w0=> ?_;refine ag [0,1] rfl ?_;refine ae ?_;refine vr 1 ?_;refine ab [0,1] ?_;refine al ?_
 by_cases iJ:(ah x).length=0
 ·
  skip
  refine ae ?_;refine vr 2 ?_;refine ax true rfl rfl (dz (by omega)) ?_;refine vr 5 ?_;refine ab [0,1,17] ?_;refine cD rfl ?_;refine ae ?_;refine vr 1 ?_;refine ab [4] ?_;refine aq ⟨.inr rfl,_,.tmp rfl (.nil),?_⟩;exact⟨.refl _,by have:x=0:=(by rw[←cU x,List.eq_nil_of_length_eq_zero iJ];rfl);rw[this,Nat.zero_mul];exact tz H⟩
 ·
  skip
  refine ae ?_;refine vr 2 ?_;refine ax false rfl rfl (eN (by omega)) ?_;refine vr 5 ?_;refine ab [0,1,17] ?_;refine az rfl (fun hb=> ?_) (fun hb=> ?_)
  ·
   have hb:(ah y).length=0:=by simpa using hb
   refine ae ?_;refine vr 1 ?_;refine ab [4] ?_;refine aq ⟨.inr rfl,_,.tmp rfl (.nil),?_⟩;exact⟨.refl _,by have:y=0:=(by rw[←cU y,List.eq_nil_of_length_eq_zero hb];rfl);rw[this,Nat.mul_zero];exact tz H⟩
  ·
   have iE:(ah y).length≠0:=by simpa using hb
   refine aw ?_;refine ag [0,1] rfl ?_;refine ae ?_;refine vr 4 ?_;refine aN rfl rfl ⟨by omega,by omega⟩ ?_;refine jS Tryz.underlying177 dX rfl rfl rfl (by omega) (by omega) (by omega) (by omega) ?_;intro g hg;rw[show (((ah x).length:Int)+((ah y).length:Int)).toNat=((ah x).length+(ah y).length)from by omega,vH];have o3:=fun e=>hr.le (Heap.bC (g:=g) e hg);have C8:=fun e=>dd.le (Heap.bC (g:=g) e hg);refine vr 1 ?_;refine ab [0,1,5] ?_;refine al ?_;refine ae ?_;refine vr 3 ?_;refine ab [0,1,5,25,26] ?_;refine aD ?_;refine jT (fun(i:Nat)(o:List Nat)=>(ah x).length-i) (fun(i:Nat)(o:List Nat)=>put (put (put (put (put (emp) 0 (.val (.slice A (ah x).length c))) 1 (.val (.slice A' (ah y).length c'))) 5 (.val (.slice (some ⟨g,0,none⟩) ((ah x).length+(ah y).length) ((ah x).length+(ah y).length)))) 25 (.val (.int .i64 ((ah x).length:Int)))) 26 (.val (.int .i64 (i:Int)))) (fun(i:Nat)(o:List Nat) H'=>H'=ins H g (dD o ((ah x).length+(ah y).length))∧i≤(ah x).length∧o.length=((ah x).length+(ah y).length)∧Lt o∧pX o (i+(ah y).length)∧val o=val ((ah x).take i)*y) 0 _ (⟨rfl,by omega,by simp,Lt.replicate _,PO _ _,by simp[val,PF]⟩) au ?_;rintro i o H1 ⟨rfl,hi,cH,dV,hz,hv⟩;refine ae ?_
   refine vr 1 ?_;refine ab [0,1,5,25,26,27] ?_;refine al ?_;refine az rfl (fun hb=> ?_) (fun hb=> ?_)
   ·
    have hb:i<(ah x).length:=by simpa using hb
    obtain⟨d,hd⟩:∃d,(ah x)[i]? = some d:=⟨_,List.getElem?_eq_getElem hb⟩;have kR:=iI.get hd;rw[cz]at kR;refine aw ?_;refine ag [0,1,5,25,26] rfl ?_;refine al ?_;refine aD ?_;refine ae ?_;refine vr 2 ?_;refine ab [0,1,5,6,25,26] ?_;refine ae ?_;refine vr 1 ?_;refine ab [0,1,5,6,7,25,26] ?_;refine al ?_;refine ae ?_;refine vr 3 ?_;refine ab [0,1,5,6,7,25,26,30,31] ?_;refine aD ?_;refine jv (fun(j:Nat)(o2:List Nat)(cr:Nat)=>(ah y).length-j) (fun(j:Nat)(o2:List Nat)(cr:Nat)=>put (put (put (put (put (put (put (put (put (emp) 0 (.val (.slice A (ah x).length c))) 1 (.val (.slice A' (ah y).length c'))) 5 (.val (.slice (some ⟨g,0,none⟩) ((ah x).length+(ah y).length) ((ah x).length+(ah y).length)))) 6 (.val (.int .i64 (i:Int)))) 7 (.val (.int .u64 (cr:Int)))) 25 (.val (.int .i64 ((ah x).length:Int)))) 26 (.val (.int .i64 (i:Int)))) 30 (.val (.int .i64 ((ah y).length:Int)))) 31 (.val (.int .i64 (j:Int)))) (fun(j:Nat)(o2:List Nat)(cr:Nat) H'=>H'=ins H g (dD o2 ((ah x).length+(ah y).length))∧j≤(ah y).length∧o2.length=((ah x).length+(ah y).length)∧Lt o2∧cr<1000000000∧pX o2 (i+(ah y).length)∧val o2+B^(i+j)*cr=val ((ah x).take i)*y+B^i*d*val ((ah y).take j)) 0 o 0 (⟨rfl,by omega,cH,dV,by omega,hz,by simp[val,hv]⟩) au ?_
    rintro j o2 cr H1 ⟨rfl,hj,C9,xZ,fO,iK,dI⟩;refine ae ?_;refine vr 1 ?_;refine ab [0,1,5,6,7,25,26,30,31,32] ?_;refine al ?_;refine az rfl (fun hb=> ?_) (fun hb=> ?_)
    ·
     have hb:j<(ah y).length:=by simpa using hb
     obtain⟨p,hp⟩:∃p,(ah y)[j]? = some p:=⟨_,List.getElem?_eq_getElem hb⟩;have vG:=fP.get hp;rw[cz]at vG;obtain⟨e,he⟩:∃e,o2[i+j]? = some e:=⟨_,List.getElem?_eq_getElem (by omega)⟩;have Ae:=xZ.get he;rw[cz]at Ae
     have Da:((i:Int)+(j:Int)).toNat=i+j:=by omega
     have PL:d*p≤999999999*999999999:=Nat.mul_le_mul (by omega) (by omega)
     have PM:(d:Int)*(p:Int)=((d*p:Nat):Int):=by simp
     refine aw ?_;refine ag [0,1,5,6,7,25,26,30,31] rfl ?_;refine al ?_;refine aD ?_;refine ae ?_;refine vr 2 ?_;refine ab [0,1,5,6,7,8,25,26,30,31] ?_;refine bL .bn [0,1,2,3,4,5,6,7,8,9,10,11,12,13,14,15,16,17,18,19,20,21] follows (by kernel_rfl) ?_;refine vr 2 ?_;refine a6 af rfl rfl rfl rfl rfl (o3 _) (dA hd) (by omega) (by omega) fun _=> ?_;refine dr af rfl rfl rfl ⟨by omega,by omega⟩ ?_;refine vr 2 ?_;refine a6 af rfl rfl rfl rfl rfl (C8 _) (dA hp) (by omega) (by omega) fun _=> ?_;refine dr af rfl rfl rfl ⟨by omega,by omega⟩ ?_;refine jh rfl rfl ⟨by omega,by omega⟩ ?_;refine vr 3 ?_;refine aN rfl rfl ⟨by omega,by omega⟩ ?_;refine a6 af rfl rfl rfl rfl rfl (GP _ _ _ _) (by rw[Da];exact dA he) (by omega) (by omega) fun _=> ?_;refine dr af rfl rfl rfl ⟨by omega,by omega⟩ ?_;refine aN rfl rfl ⟨by omega,by omega⟩ ?_;refine vr 1 ?_;refine aN rfl rfl ⟨by omega,by omega⟩ ?_;refine vr 1 ?_;refine ab [0,1,5,6,8,9,25,26,30,31] ?_;refine ae ?_;refine vr 3 ?_;refine aN rfl rfl ⟨by omega,by omega⟩ ?_;refine vr 1 ?_;refine gj rfl rfl (by omega) (by omega) ?_;refine dr af rfl rfl rfl ⟨by omega,by omega⟩ ?_;obtain⟨ti,aj,ak⟩:=nm;refine eB (.inl rfl) af rfl rfl rfl (by omega) (by omega) (bT _ _ _) rfl (by rw[nr];omega) aj ak (fun _=>rfl) rfl rfl rfl fun _=> ?_
     refine ab [0,1,5,6,9,25,26,30,31] ?_;refine aE rfl ?_;refine vr 1 ?_;refine lx rfl rfl (by omega) (by omega) ⟨by omega,by omega⟩ ?_;refine vr 1 ?_;refine aA ?_;refine ag [0,1,5,6,7,25,26,30,31] rfl ?_;refine aE rfl ?_;refine aN rfl rfl ⟨by omega,by omega⟩ ?_;refine vr 1 ?_;refine aA ?_;refine⟨j+1,o2.set (i+j) ((d*p+e+cr)%B),(d*p+e+cr)/B,by omega,au,by rw[rY (y:=(d*p+e+cr)%B) (by rw[cz];simp),Da],by omega,by simp[C9],xZ.set (Nat.mod_lt _ lN),by rw[cz];omega,iK.set (by omega),?_⟩;rw[jV hp];exact PQ he dI rfl
    ·
     have hb:(ah y).length≤j:=by simpa using hb
     obtain rfl:j=(ah y).length:=by omega
     rw[List.take_length,cU]at dI;refine bB ?_;refine ag [0,1,5,6,7,25,26] rfl ?_;refine aE rfl ?_;refine vr 4 ?_;refine aN rfl rfl ⟨by omega,by omega⟩ ?_;refine vr 1 ?_;refine dr af rfl rfl rfl ⟨by omega,by omega⟩ ?_;obtain⟨ti,aj,ak⟩:=nm;refine eB (.inl rfl) af rfl rfl rfl (by omega) (by omega) (bT _ _ _) rfl (by rw[nr];omega) aj ak (fun _=>rfl) rfl rfl rfl fun _=> ?_;refine aA ?_;refine ag [0,1,5,25,26] rfl ?_;refine aE rfl ?_;refine aN rfl rfl ⟨by omega,by omega⟩ ?_;refine vr 1 ?_;refine aA ?_;obtain⟨e,he⟩:∃e,o2[i+(ah y).length]? = some e:=⟨_,List.getElem?_eq_getElem (by omega)⟩;have Ag:=iK _ _ (Nat.le_refl _) he;subst Ag;refine⟨i+1,o2.set (i+(ah y).length) cr,by omega,au,by rw[rY (y:=cr) rfl,show ((i:Int)+((ah y).length:Int)).toNat=i+(ah y).length by omega],by omega,by simp[C9],xZ.set (by rw[cz];omega),by rw[Nat.add_right_comm];exact iK.Zb,?_⟩;have h1:=PE (y:=cr) he;rw[jV hd,Nat.add_mul]
     omega
   ·
    have hb:(ah x).length≤i:=by simpa using hb
    obtain rfl:i=(ah x).length:=by omega
    rw[List.take_length,cU]at hv;refine bB ?_;refine ag [5] rfl ?_;refine ae ?_;refine vr 1 ?_;refine ar rfl rfl (GS (xV _ _ o _ _ cH.symm (Nat.le_refl _)) dV (by omega)) ?_;intro v1 H4 hp;refine vr 1 ?_;refine ab [4] ?_;refine aq ⟨.inr rfl,_,.tmp rfl (.nil),?_⟩;exact⟨(Heap.bC _ hg).trans hp.le,by have:=hp.nat;rwa [hv]at this⟩
end Go.ay
namespace Num
theorem Zc{T V W vl wl head u2 top next bg rest:Nat}(hV:V=vl+T*(next+B*top))(hW:W=wl+T*(u2+B*head))(x6:wl<T)(hg:bg*top+rest=head)(hc:rest*B+u2<bg*next):W<bg*V:=by
 have h1:u2+B*head+1≤bg*(next+B*top):=by
  rw[←hg,Nat.mul_add,Nat.mul_add,Nat.mul_left_comm bg B top,Nat.mul_comm B rest];omega
 have h2:T*(u2+B*head+1)≤T*(bg*(next+B*top)):=Nat.mul_le_mul_left _ h1
 rw[hV,hW,Nat.mul_add bg,Nat.mul_left_comm bg T]
 rw[Nat.mul_add T _ 1]at h2
 omega
theorem Zd{T V W vl wl head u2 top next bg rest:Nat}(hV:V=vl+T*(next+B*top))(hW:W=wl+T*(u2+B*head))(iu:vl<T)(Ah:1≤top)(hg:bg*top+rest=head)(hc:bg*next≤rest*B+u2)(GU:bg<B):bg*V<W+V:=by
 have h1:bg*(next+B*top)≤u2+B*head:=by
  rw[←hg,Nat.mul_add,Nat.mul_add,Nat.mul_left_comm bg B top,Nat.mul_comm B rest];omega
 have h2:T*(bg*(next+B*top))≤T*(u2+B*head):=Nat.mul_le_mul_left _ h1
 have h3:bg*vl≤bg*T:=Nat.mul_le_mul_left _ (by omega)
 have h4:bg*T<B*T:=Nat.mul_lt_mul_of_pos_right GU (by omega)
 have h5:T*(B*1)≤T*(B*top):=Nat.mul_le_mul_left _ (Nat.mul_le_mul_left _ Ah)
 have h6:T*(B*1)=B*T:=by rw[Nat.mul_one,Nat.mul_comm]
 have h7:T*(next+B*top)=T*next+T*(B*top):=Nat.mul_add _ _ _
 have h8:bg*V=bg*vl+T*(bg*(next+B*top)):=by rw[hV,Nat.mul_add,Nat.mul_left_comm bg T]
 omega
theorem Ze{T V W vl wl head u2 top next:Nat}(hV:V=vl+T*(next+B*top))(hW:W=wl+T*(u2+B*head))(iu:vl<T)(Db:next<B)(h:W<B*V):head<(top+1)*B:=by
 have h1:V<T*(B*(top+1)):=by
  have h2:T*(next+B*top+1)≤T*(B*(top+1)):=Nat.mul_le_mul_left _ (by rw[Nat.mul_add B top 1];omega)
  rw[Nat.mul_add T _ 1]at h2
  omega
 have h2:B*V<B*(T*(B*(top+1))):=Nat.mul_lt_mul_of_pos_left h1 lN
 have h3:T*(B*head)≤W:=by rw[hW,Nat.mul_add T u2];omega
 have h4:T*(B*head)<T*(B*((top+1)*B)):=by
  have:B*(T*(B*(top+1)))=T*(B*((top+1)*B)):=by rw[Nat.mul_left_comm B T,Nat.mul_comm (top+1) B]
  omega
 exact Nat.lt_of_mul_lt_mul_left (Nat.lt_of_mul_lt_mul_left h4)
theorem Zf{T V W vl wl head u2 top next bg rest:Nat}(hV:V=vl+T*(next+B*top))(hW:W=wl+T*(u2+B*head))(iu:vl<T)(Db:next<B)(hh:head<(top+1)*B)(hg:bg*top+rest=head)(hr:B≤rest):bg<B∧bg*V≤W:=by
 have h0:bg<B:=by
  have h1:bg*top<B*top:=by rw[Nat.add_mul,Nat.one_mul,Nat.mul_comm top B]at hh;omega
  exact Nat.lt_of_mul_lt_mul_right h1
 refine⟨h0,?_⟩
 have h1:V≤T*(B*(top+1)):=by
  have h2:T*(next+B*top+1)≤T*(B*(top+1)):=Nat.mul_le_mul_left _ (by rw[Nat.mul_add B top 1];omega)
  rw[Nat.mul_add T _ 1]at h2
  omega
 have h2:bg*V≤bg*(T*(B*(top+1))):=Nat.mul_le_mul_left _ h1
 have h3:bg*(T*(B*(top+1)))=T*(B*(bg*(top+1))):=by rw[Nat.mul_left_comm bg T,Nat.mul_left_comm bg B]
 have h4:bg*(top+1)≤head:=by rw[Nat.mul_add,Nat.mul_one];omega
 have h5:T*(B*(bg*(top+1)))≤T*(B*head):=Nat.mul_le_mul_left _ (Nat.mul_le_mul_left _ h4)
 have h6:T*(B*head)≤W:=by rw[hW,Nat.mul_add T u2];omega
 omega
theorem PR{bg top rest head:Nat}(hg:bg*top+rest=head)(h:0<bg):(bg-1)*top+(rest+top)=head:=by
 obtain⟨j,rfl⟩:∃j,bg=j+1:=⟨bg-1,by omega⟩
 rw[Nat.add_mul,Nat.one_mul]at hg
 rw[Nat.add_sub_cancel];omega
theorem Zg{V W bg q:Nat}(hq:q=W/V)(hV:0<V)(h:bg*V<W+V):bg≤q+1:=by
 subst hq
 have h1:=Nat.div_add_mod W V
 have h2:=Nat.mod_lt W hV
 have h3:bg*V<(W/V+2)*V:=by
  rw[Nat.add_mul]
  rw[Nat.mul_comm]at h1
  omega
 have:=Nat.lt_of_mul_lt_mul_right h3
 omega
theorem Ks{V W bg q:Nat}(hq:q=W/V)(h:W<bg*V):q<bg:=by
 subst hq
 exact Nat.div_lt_of_lt_mul (by rwa [Nat.mul_comm]at h)
theorem Zh{w:List Nat}{k p a b:Nat}(hl:w.length=k+3)(h0:w[k]? = some p)(h1:w[k+1]? = some a)(h2:w[k+2]? = some b):val w=val (w.take k)+B^k*(p+B*(b*B+a)):=by
 rw[GH h0,z6 h1,z6 h2,List.drop_eq_nil_of_le (by omega),iF,iF]
 simp only[val,Nat.mul_zero,Nat.add_zero]
 rw[Nat.mul_comm b B,Nat.add_comm a]
theorem Zi{w:List Nat}{k p a:Nat}(hl:w.length=k+2)(h0:w[k]? = some p)(h1:w[k+1]? = some a):val w=val (w.take k)+B^k*(p+B*a):=by
 rw[GH h0,z6 h1,List.drop_eq_nil_of_le (by omega),iF]
 simp only[val,Nat.mul_zero,Nat.add_zero]
theorem Ai{w:List Nat}{k:Nat}(h:Lt w)(hk:k≤w.length):val (w.take k)<B^k:=by
 have:=rV (h.take k)
 rwa [List.length_take,Nat.min_eq_left hk]at this
theorem Zj{n V W X un br bg q:Nat}(hW:W=X+B^n*un){Y:Nat}(hX:X+B^n*br=Y+bg*V)(rZ:br≤un)(hq:q=W/V)(Dc:q≤bg)(hV:0<V):bg=q∧Y+B^n*(un-br)=W%V:=by
 have h1:B^n*un=B^n*(un-br)+B^n*br:=by rw[←Nat.mul_add,Nat.sub_add_cancel rZ]
 have h2:W=Y+B^n*(un-br)+bg*V:=by omega
 have h3:bg≤q:=by
  rw[hq,Nat.le_div_iff_mul_le hV];omega
 have h4:bg=q:=by omega
 refine⟨h4,?_⟩
 have h5:=Nat.div_add_mod W V
 rw[←hq,←h4,Nat.mul_comm]at h5
 omega
theorem Zk{n V W X un br bg q:Nat}(hW:W=X+B^n*un){Y Z cr:Nat}(hX:X+B^n*br=Y+bg*V)(rZ:un<br)(hq:q=W/V)(eU:bg≤q+1)(hV:0<V)(hVn:V<B^n)(hY:Y<B^n)(hZ:Z<B^n)(hZY:Z+B^n*cr=Y+V):bg=q+1∧un+cr=br∧Z=W%V:=by
 have h0:B^n*br=B^n*un+B^n*(br-un):=by rw[←Nat.mul_add];congr 1;omega
 have h1:W+B^n*(br-un)=Y+bg*V:=by omega
 have CU:B^n*1≤B^n*(br-un):=Nat.mul_le_mul_left _ (by omega)
 have h2:W<bg*V:=by omega
 have h3:=Ks hq h2
 have h4:bg=q+1:=by omega
 have h5:=Nat.div_add_mod W V
 have h6:=Nat.mod_lt W hV
 rw[←hq,Nat.mul_comm]at h5
 have h7:bg*V=q*V+V:=by rw[h4,Nat.add_mul,Nat.one_mul]
 have h8:W%V+B^n*(br-un)=Z+B^n*cr:=by omega
 have h9:br-un=cr:=by
  have e1:(W%V+B^n*(br-un))/B^n=br-un:=by
   rw[Nat.add_mul_div_left _ _ (by omega),Nat.div_eq_of_lt (by omega),Nat.zero_add]
  have e2:(Z+B^n*cr)/B^n=cr:=by
   rw[Nat.add_mul_div_left _ _ (by omega),Nat.div_eq_of_lt (by omega),Nat.zero_add]
  rw[←e1,←e2,h8]
 subst h9
 exact⟨h4,by omega,by omega⟩
theorem Kt(a b:List Nat):val (a++b)=val a+B^a.length*val b:=by
 induction a with
 | nil=>simp[val]
 | cons x a ih=>
  rw[List.cons_append,iF,iF,ih,List.length_cons,Nat.pow_succ,Nat.mul_add,Nat.mul_comm (B^a.length) B,Nat.mul_assoc];omega
theorem Dd(l:List Nat){k:Nat}(hk:k≤l.length):val l=val (l.take k)+B^k*val (l.drop k):=by
 have:=Kt (l.take k) (l.drop k)
 rwa [List.take_append_drop,List.length_take,Nat.min_eq_left hk]at this
theorem PS{l:List Nat}{j n V:Nat}(tD:Lt l)(hlen:j+n+1≤l.length)(hd:val (l.drop (j+1))<V)(hV:V≤B^n):
  val (l.drop (j+n+1))=0∧val (l.drop j)=val ((l.drop j).take (n+1))∧val ((l.drop j).take (n+1))<B*V:=by
 have h1:=Dd (l.drop (j+1)) (k:=n) (by simp;omega)
 rw[List.drop_drop,show j+1+n=j+n+1 by omega]at h1
 have h0:val (l.drop (j+n+1))=0:=by
  rcases Nat.eq_zero_or_pos (val (l.drop (j+n+1)))with e | e
  ·exact e
  ·have:B^n*1≤B^n*val (l.drop (j+n+1)):=Nat.mul_le_mul_left _ e
   omega
 have h2:=Dd (l.drop j) (k:=n+1) (by simp;omega)
 rw[List.drop_drop,show j+(n+1)=j+n+1 by omega,h0,Nat.mul_zero,Nat.add_zero]at h2
 refine⟨h0,h2,?_⟩
 rw[←h2]
 have hj:l[j]? = some l[j]:=List.getElem?_eq_getElem (by omega)
 rw[z6 hj,iF]
 have h3:=tD.get hj
 have h4:B*(val (l.drop (j+1))+1)≤B*V:=Nat.mul_le_mul_left _ hd
 rw[Nat.mul_add]at h4
 omega
theorem Zl{l o w':List Nat}{j n V S q:Nat}(tD:Lt l)(hlen:j+n+1≤l.length)(hd:val (l.drop (j+1))<V)(hV:V≤B^n)(ho:j<o.length)
  (hinv:val (o.drop (j+1))*V*B^(j+1)+val l=S) (hq:q=val ((l.drop j).take (n+1))/V) (hw:val w'=val ((l.drop j).take (n+1))%V) (x6:w'.length=n+1):
  val ((o.set j q).drop j)*V*B^j+val (l.take j++w'++l.drop (j+n+1))=S∧val ((l.take j++w'++l.drop (j+n+1)).drop j)<V:=by
 obtain⟨h0,h1,h2⟩:=PS tD hlen hd hV
 have e1:=Dd l (k:=j) (by omega)
 have e2:val (w'++l.drop (j+n+1))=val w':=by rw[Kt,h0,Nat.mul_zero,Nat.add_zero]
 have e3:val (l.take j++w'++l.drop (j+n+1))=val (l.take j)+B^j*val w':=by
  rw[List.append_assoc,Kt,e2,List.length_take,Nat.min_eq_left (by omega)]
 have e4:=Nat.div_add_mod (val ((l.drop j).take (n+1))) V
 rw[←hq,←hw]at e4
 refine⟨?_,?_⟩
 ·rw[set_drop ho,iF,e3]
  rw[h1,←e4]at e1
  have e5:(q+B*val (o.drop (j+1)))*V*B^j=B^j*(V*q)+val (o.drop (j+1))*V*B^(j+1):=by
   rw[Nat.add_mul,Nat.add_mul,Nat.pow_succ,Nat.mul_comm q V,Nat.mul_comm (V*q),Nat.mul_assoc B,Nat.mul_comm (B^j) B,Nat.mul_left_comm _ B,Nat.mul_assoc B]
  rw[Nat.mul_add]at e1
  omega
 ·rw[List.append_assoc,List.drop_append_of_le_length (by simp;omega),List.drop_of_length_le (by rw[List.length_take];omega),List.nil_append,e2,hw]
  exact Nat.mod_lt _ (by omega)
theorem Zm{l:List Nat}{x sc n m y:Nat}(hm:m≤l.length)(hl:val l=x*sc)(hx:x<B^(m+(n-1)))(hy:B^(n-1)≤y)(hs:0<sc):val (l.drop m)<y*sc:=by
 have h1:=Dd l hm
 have h2:B^m*val (l.drop m)<B^m*(y*sc):=by
  have a1:x*sc<B^(m+(n-1))*sc:=Nat.mul_lt_mul_of_pos_right hx hs
  have a2:B^(m+(n-1))*sc≤B^m*(y*sc):=by
   rw[Nat.pow_add,Nat.mul_assoc]
   exact Nat.mul_le_mul_left _ (Nat.mul_le_mul_right _ hy)
  omega
 exact Nat.lt_of_mul_lt_mul_left h2
theorem Zn{Q R x y sc:Nat}(h:Q*(y*sc)+R=x*sc)(hR:R<y*sc)(hs:0<sc):Q=x/y∧R/sc=x%y:=by
 have h1:x*sc/(y*sc)=Q:=by
  rw[←h,Nat.mul_comm Q,Nat.mul_add_div (by omega),Nat.div_eq_of_lt hR,Nat.add_zero]
 have h2:x*sc%(y*sc)=R:=by
  rw[←h,Nat.mul_comm Q,Nat.mul_add_mod,Nat.mod_eq_of_lt hR]
 rw[Nat.mul_div_mul_right _ _ hs]at h1
 rw[Nat.mul_mod_mul_right]at h2
 exact⟨h1.symm,by rw[←h2,Nat.mul_div_cancel _ hs]⟩
end Num
