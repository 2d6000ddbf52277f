/- Part 2 of the proof: Ty, Num, Dat, Nat1, Nat2, Nat3, Nat4, Nat5, Nat6, Nat7, Nat8, Knu. -/
import Derived.Test.YtgjimcieaecdkaaGreatA01
import Derived.Test.YtgjimcieaecdkaaGreatProg
import Derived.KernelRfl
set_option linter.unusedVariables false
namespace Go.ar
open Go.Proofs
def tb:Tb:=[
 .no,.no,.it .i64,.it .i64,.ce,.it .u8,.it .u8,.st 4 [(0,1),(1,1),(2,1),(3,1)],
 .no,.no,.no,.no,.it .u64,.st 2 [(0,1),(1,1)],.no,.ce,
 .ce,.ce,.st 1 [(0,1)],.no,.no,.it .i32,.sl 4 1,.sl 31 5,
 .st 2 [(0,1),(1,1)],.st 2 [(0,1),(1,1)],.sl 29 3,.sl 92 1,.st 3 [(0,1),(1,1),(2,1)],.st 3 [(0,1),(1,1),(2,1)],.st 5 [(0,1),(1,1),(2,3)],.st 5 [(0,1),(1,1),(2,3)],
 .no,.no,.st 7 [(0,1),(1,3),(4,1),(5,1),(6,1)],.st 7 [(0,1),(1,3),(4,1),(5,1),(6,1)],.it .i64,.no,.no,.no,
 .no,.no,.no,.no,.no,.no,.no,.no,
 .no,.no,.no,.no,.no,.ce,.no,.no,
 .sl 61 3,.no,.no,.ce,.st 3 [(0,1),(1,1),(2,1)],.st 3 [(0,1),(1,1),(2,1)],.no,.no,
 .no,.sl 3 1,.sl 56 1,.st 9 [(0,1),(1,1),(2,1),(3,1),(4,1),(5,1),(6,1),(7,1),(8,1)],.st 9 [(0,1),(1,1),(2,1),(3,1),(4,1),(5,1),(6,1),(7,1),(8,1)],.no,.no,.no,
 .no,.no,.no,.sl 26 1,.st 5 [(0,1),(1,1),(2,1),(3,1),(4,1)],.st 5 [(0,1),(1,1),(2,1),(3,1),(4,1)],.no,.no,
 .no,.no,.no,.no,.no,.no,.no,.no,
 .sl 2 1,.no,.no,.it .u64,.it .u32,.no,.no,.no,
 .no,.no,.no,.no,.no,.no,.no,.no,
 .no,.no,.sl 92 1,.st 3 [(0,1),(1,1),(2,1)],.st 3 [(0,1),(1,1),(2,1)],.no,.no,.no,
 .no,.no,.no,.no,.no,.no,.no,.no,
 .no,.no,.no,.no,.no,.no,.no,.no,
 .no,.no,.no,.no,.no,.no,.no,.no,
 .no,.no,.no,.no,.no,.no,.no,.st 4 [(0,1),(1,1),(2,1),(3,1)],
 .no,.no,.no,.no,.it .u8,.it .u8,.no,.ce,
 .it .i32,.it .i32,.st 11 [(0,1),(1,1),(2,1),(3,1),(4,1),(5,1),(6,1),(7,1),(8,1),(9,1),(10,1)]]
def zp(P:Program):Nat→Tb→Prop
 | _,[]=>True
 | k,x::r=>bX P k x∧zp P (k+1) r
theorem zp.out{P:Program}:∀(r:Tb)(k:Nat),zp P k r→∀(t:Nat)(x:Ti),r[t]? = some x→bX P (k+t) x:=by
 intro r
 induction r with
 | nil=>intro k _ t x h;simp at h
 | cons y r ih=>
  intro k h t x hx
  cases t with
  | zero=>simp only[List.getElem?_cons_zero,Option.some.injEq]at hx;subst hx;exact h.1
  | succ t=>have:=ih (k+1) h.2 t x (by simpa using hx);rwa [show k+(t+1)=k+1+t by omega]
theorem pH{P:Program}{t e sz:Nat}(hu:P.underlying t=some (.slice e))(h:(P.info? e).map (·.size)=some sz):bX P t (.sl e sz):=by
 refine⟨hu,?_⟩
 cases hi:P.info? e with
 | none=>rw[hi]at h;cases h
 | some i=>rw[hi]at h;exact⟨i,rfl,by simpa using h⟩
theorem mx{P:Program}{t:Nat}{k:IntKind}(hu:P.underlying t=some (.int k)):bX P t (.it k):=hu
theorem ur{P:Program}{t:Nat}{d:TypeDesc}(hu:P.underlying t=some d)(h:(match d with | .struct _ | .array .. =>false | _=>true)=true):bX P t .ce:=
 ⟨d,hu,(fun _ e=>by subst e;cases h),(fun _ _ e=>by subst e;cases h)⟩
def C7(P:Program)(fs:List Field)(ps:List (Nat×Nat)):Bool:=
 match fs,ps with
 | [],[]=>true
 | f::fs,p::ps=>Nat.beq f.offset p.1&&(match P.info? f.type with | some j=>Nat.beq j.size p.2 | none=>false) && !Nat.beq p.2 0&&C7 P fs ps
 | _,_=>false
theorem Ub{P:Program}:∀(fs:List Field)(ps:List (Nat×Nat)),C7 P fs ps=true→fs.length=ps.length∧∀(f:Nat)(p:Nat×Nat),ps[f]? = some p→∃fd j,fs[f]? = some fd∧fd.offset=p.1∧P.info? fd.type=some j∧j.size=p.2∧p.2≠0:=by
 intro fs
 induction fs with
 | nil=>intro ps h;cases ps with
  | nil=>exact⟨rfl,fun f p hp=>by simp at hp⟩
  | cons p ps=>cases h
 | cons fd fs ih=>intro ps h;cases ps with
  | nil=>cases h
  | cons p ps=>
   simp only[C7,Bool.and_eq_true]at h
   obtain⟨⟨⟨h1,h2⟩,h3⟩,h4⟩:=h
   obtain⟨h5,h6⟩:=ih ps h4
   refine⟨by simp[h5],fun f q hq=> ?_⟩
   cases f with
   | zero=>
    simp only[List.getElem?_cons_zero,Option.some.injEq]at hq
    subst hq
    cases hj:P.info? fd.type with
    | none=>rw[hj]at h2;cases h2
    | some j=>
     rw[hj]at h2
     exact⟨fd,j,rfl,Nat.eq_of_beq_eq_true h1,hj,Nat.eq_of_beq_eq_true h2,fun e=>by rw[e]at h3;cases h3⟩
   | succ f=>obtain⟨Uc,j,h7⟩:=h6 f q (by simpa using hq);exact⟨Uc,j,by simpa using h7⟩
theorem ig{P:Program}{t n:Nat}{fs:List Field}{ps:List (Nat×Nat)}(hu:P.underlying t=some (.struct fs.toArray))(h:(P.info? t).map (·.size)=some n)(hf:C7 P fs ps=true):bX P t (.st n ps):=by
 cases hi:P.info? t with
 | none=>rw[hi]at h;cases h
 | some i=>
  obtain⟨h1,h2⟩:=Ub fs ps hf
  rw[hi]at h
  exact⟨fs.toArray,i,hu,hi,by simpa using h,by simpa using h1,fun f p hp=>by obtain⟨fd,j,h3⟩:=h2 f p hp;exact⟨fd,j,by simpa using h3⟩⟩
theorem jc{P:Program}{e sz bytes:Nat}{z:Value}(h:(P.info? e).map (fun i=>(i.zero,i.size,i.bytes))=some (some z,sz,bytes))(hz:z.cells.size=sz)(hp:0<sz):eR P e sz z bytes:=by
 cases hi:P.info? e with
 | none=>rw[hi]at h;cases h
 | some i=>
  rw[hi]at h
  simp only[Option.map_some,Option.some.injEq,Prod.mk.injEq]at h
  exact⟨i,hi,h.1,h.2.1,h.2.2,hz,hp⟩
theorem Ud:bX Tryz.prog 2 (.it .i64):=mx Tryz.underlying2
theorem Ue:bX Tryz.prog 3 (.it .i64):=mx Tryz.underlying3
theorem Uf:bX Tryz.prog 4 (.ce):=ur Tryz.underlying4 rfl
theorem Ug:bX Tryz.prog 5 (.it .u8):=mx Tryz.underlying5
theorem Mf:bX Tryz.prog 6 (.it .u8):=mx Tryz.underlying6
theorem Uh:bX Tryz.prog 7 (.st 4 [(0,1),(1,1),(2,1),(3,1)]):=ig Tryz.underlying7 (by kernel_rfl) (by kernel_rfl)
theorem Ui:bX Tryz.prog 12 (.it .u64):=mx Tryz.underlying12
theorem Uj:bX Tryz.prog 13 (.st 2 [(0,1),(1,1)]):=ig Tryz.underlying13 (by kernel_rfl) (by kernel_rfl)
theorem Uk:bX Tryz.prog 15 (.ce):=ur Tryz.underlying15 rfl
theorem Ul:bX Tryz.prog 16 (.ce):=ur Tryz.underlying16 rfl
theorem Um:bX Tryz.prog 17 (.ce):=ur Tryz.underlying17 rfl
theorem Un:bX Tryz.prog 18 (.st 1 [(0,1)]):=ig Tryz.underlying18 (by kernel_rfl) (by kernel_rfl)
theorem GZ:bX Tryz.prog 21 (.it .i32):=mx Tryz.underlying21
theorem Uo:bX Tryz.prog 22 (.sl 4 1):=pH Tryz.underlying22 (by kernel_rfl)
theorem Mg:bX Tryz.prog 23 (.sl 31 5):=pH Tryz.underlying23 (by kernel_rfl)
theorem Uq:bX Tryz.prog 24 (.st 2 [(0,1),(1,1)]):=ig Tryz.underlying24 (by kernel_rfl) (by kernel_rfl)
theorem Ur:bX Tryz.prog 25 (.st 2 [(0,1),(1,1)]):=ig Tryz.underlying25 (by kernel_rfl) (by kernel_rfl)
theorem Us:bX Tryz.prog 26 (.sl 29 3):=pH Tryz.underlying26 (by kernel_rfl)
theorem Ut:bX Tryz.prog 27 (.sl 92 1):=pH Tryz.underlying27 (by kernel_rfl)
theorem G0:bX Tryz.prog 28 (.st 3 [(0,1),(1,1),(2,1)]):=ig Tryz.underlying28 (by kernel_rfl) (by kernel_rfl)
theorem C8:bX Tryz.prog 29 (.st 3 [(0,1),(1,1),(2,1)]):=ig Tryz.underlying29 (by kernel_rfl) (by kernel_rfl)
theorem Uu:bX Tryz.prog 30 (.st 5 [(0,1),(1,1),(2,3)]):=ig Tryz.underlying30 (by kernel_rfl) (by kernel_rfl)
theorem Uv:bX Tryz.prog 31 (.st 5 [(0,1),(1,1),(2,3)]):=ig Tryz.underlying31 (by kernel_rfl) (by kernel_rfl)
theorem Mh:bX Tryz.prog 34 (.st 7 [(0,1),(1,3),(4,1),(5,1),(6,1)]):=ig Tryz.underlying34 (by kernel_rfl) (by kernel_rfl)
theorem Mi:bX Tryz.prog 35 (.st 7 [(0,1),(1,3),(4,1),(5,1),(6,1)]):=ig Tryz.underlying35 (by kernel_rfl) (by kernel_rfl)
theorem Uw:bX Tryz.prog 36 (.it .i64):=mx Tryz.underlying36
theorem Ux:bX Tryz.prog 53 (.ce):=ur Tryz.underlying53 rfl
theorem Uy:bX Tryz.prog 56 (.sl 61 3):=pH Tryz.underlying56 (by kernel_rfl)
theorem Uz:bX Tryz.prog 59 (.ce):=ur Tryz.underlying59 rfl
theorem UA:bX Tryz.prog 60 (.st 3 [(0,1),(1,1),(2,1)]):=ig Tryz.underlying60 (by kernel_rfl) (by kernel_rfl)
theorem UB:bX Tryz.prog 61 (.st 3 [(0,1),(1,1),(2,1)]):=ig Tryz.underlying61 (by kernel_rfl) (by kernel_rfl)
theorem UC:bX Tryz.prog 65 (.sl 3 1):=pH Tryz.underlying65 (by kernel_rfl)
theorem UD:bX Tryz.prog 66 (.sl 56 1):=pH Tryz.underlying66 (by kernel_rfl)
theorem UE:bX Tryz.prog 67 (.st 9 [(0,1),(1,1),(2,1),(3,1),(4,1),(5,1),(6,1),(7,1),(8,1)]):=ig Tryz.underlying67 (by kernel_rfl) (by kernel_rfl)
theorem UF:bX Tryz.prog 68 (.st 9 [(0,1),(1,1),(2,1),(3,1),(4,1),(5,1),(6,1),(7,1),(8,1)]):=ig Tryz.underlying68 (by kernel_rfl) (by kernel_rfl)
theorem UG:bX Tryz.prog 75 (.sl 26 1):=pH Tryz.underlying75 (by kernel_rfl)
theorem UH:bX Tryz.prog 76 (.st 5 [(0,1),(1,1),(2,1),(3,1),(4,1)]):=ig Tryz.underlying76 (by kernel_rfl) (by kernel_rfl)
theorem UI:bX Tryz.prog 77 (.st 5 [(0,1),(1,1),(2,1),(3,1),(4,1)]):=ig Tryz.underlying77 (by kernel_rfl) (by kernel_rfl)
theorem UJ:bX Tryz.prog 88 (.sl 2 1):=pH Tryz.underlying88 (by kernel_rfl)
theorem UK:bX Tryz.prog 91 (.it .u64):=mx Tryz.underlying91
theorem UL:bX Tryz.prog 92 (.it .u32):=mx Tryz.underlying92
theorem UM:bX Tryz.prog 106 (.sl 92 1):=pH Tryz.underlying106 (by kernel_rfl)
theorem UN:bX Tryz.prog 107 (.st 3 [(0,1),(1,1),(2,1)]):=ig Tryz.underlying107 (by kernel_rfl) (by kernel_rfl)
theorem UO:bX Tryz.prog 108 (.st 3 [(0,1),(1,1),(2,1)]):=ig Tryz.underlying108 (by kernel_rfl) (by kernel_rfl)
theorem UP:bX Tryz.prog 143 (.st 4 [(0,1),(1,1),(2,1),(3,1)]):=ig Tryz.underlying143 (by kernel_rfl) (by kernel_rfl)
theorem UQ:bX Tryz.prog 148 (.it .u8):=mx Tryz.underlying148
theorem UR:bX Tryz.prog 149 (.it .u8):=mx Tryz.underlying149
theorem US:bX Tryz.prog 151 (.ce):=ur Tryz.underlying151 rfl
theorem UT:bX Tryz.prog 152 (.it .i32):=mx Tryz.underlying152
theorem UU:bX Tryz.prog 153 (.it .i32):=mx Tryz.underlying153
theorem UW:bX Tryz.prog 154 (.st 11 [(0,1),(1,1),(2,1),(3,1),(4,1),(5,1),(6,1),(7,1),(8,1),(9,1),(10,1)]):=ig Tryz.underlying154 (by kernel_rfl) (by kernel_rfl)
set_option maxRecDepth 10000 in
theorem UX:zp Tryz.prog 0 tb:=⟨trivial,trivial,Ud,Ue,Uf,Ug,Mf,Uh,trivial,trivial,trivial,trivial,Ui,Uj,trivial,Uk,Ul,Um,Un,trivial,trivial,GZ,Uo,Mg,Uq,Ur,Us,Ut,G0,C8,Uu,Uv,trivial,trivial,Mh,Mi,Uw,trivial,trivial,trivial,trivial,trivial,trivial,trivial,trivial,trivial,trivial,trivial,trivial,trivial,trivial,trivial,trivial,Ux,trivial,trivial,Uy,trivial,trivial,Uz,UA,UB,trivial,trivial,trivial,UC,UD,UE,UF,trivial,trivial,trivial,trivial,trivial,trivial,UG,UH,UI,trivial,trivial,trivial,trivial,trivial,trivial,trivial,trivial,trivial,trivial,UJ,trivial,trivial,UK,UL,trivial,trivial,trivial,trivial,trivial,trivial,trivial,trivial,trivial,trivial,trivial,trivial,trivial,UM,UN,UO,trivial,trivial,trivial,trivial,trivial,trivial,trivial,trivial,trivial,trivial,trivial,trivial,trivial,trivial,trivial,trivial,trivial,trivial,trivial,trivial,trivial,trivial,trivial,trivial,trivial,trivial,trivial,trivial,trivial,trivial,trivial,trivial,trivial,trivial,UP,trivial,trivial,trivial,trivial,UQ,UR,trivial,US,UT,UU,UW,trivial⟩
theorem ag:ja Tryz.prog tb:=fun t x h=>by have:=zp.out tb 0 UX t x h;rwa [Nat.zero_add]at this
theorem follows:Tryz.prog.follows .mixedOrders=true:=by kernel_rfl
theorem UY:eR Tryz.prog 2 1 (.int .i64 0) 8:=jc (by kernel_rfl) rfl (by decide)
theorem oE:∃i,Tryz.prog.info? 2=some i∧i.size=1:=by obtain⟨i,h,_,h2,_⟩:=UY;exact⟨i,h,h2⟩
theorem iG:eR Tryz.prog 3 1 (.int .i64 0) 8:=jc (by kernel_rfl) rfl (by decide)
theorem oF:∃i,Tryz.prog.info? 3=some i∧i.size=1:=by obtain⟨i,h,_,h2,_⟩:=iG;exact⟨i,h,h2⟩
theorem C9:eR Tryz.prog 4 1 (.bool false) 1:=jc (by kernel_rfl) rfl (by decide)
theorem Mj:∃i,Tryz.prog.info? 4=some i∧i.size=1:=by obtain⟨i,h,_,h2,_⟩:=C9;exact⟨i,h,h2⟩
theorem UZ:eR Tryz.prog 23 1 (.slice none 0 0) 24:=jc (by kernel_rfl) rfl (by decide)
theorem G5:∃i,Tryz.prog.info? 23=some i∧i.size=1:=by obtain⟨i,h,_,h2,_⟩:=UZ;exact⟨i,h,h2⟩
theorem oG:eR Tryz.prog 25 2 (.agg #[.slice none 0 0,.slice none 0 0]) 48:=jc (by kernel_rfl) rfl (by decide)
theorem qM:∃i,Tryz.prog.info? 25=some i∧i.size=2:=by obtain⟨i,h,_,h2,_⟩:=oG;exact⟨i,h,h2⟩
theorem wL:eR Tryz.prog 26 1 (.slice none 0 0) 24:=jc (by kernel_rfl) rfl (by decide)
theorem Da:∃i,Tryz.prog.info? 26=some i∧i.size=1:=by obtain⟨i,h,_,h2,_⟩:=wL;exact⟨i,h,h2⟩
theorem cZ:eR Tryz.prog 29 3 (.agg #[.bool false,.slice none 0 0,.slice none 0 0]) 56:=jc (by kernel_rfl) rfl (by decide)
theorem bT:∃i,Tryz.prog.info? 29=some i∧i.size=3:=by obtain⟨i,h,_,h2,_⟩:=cZ;exact⟨i,h,h2⟩
theorem gU:eR Tryz.prog 31 5 (.agg #[.slice none 0 0,.int .i64 0,.bool false,.slice none 0 0,.slice none 0 0]) 88:=jc (by kernel_rfl) rfl (by decide)
theorem ux:∃i,Tryz.prog.info? 31=some i∧i.size=5:=by obtain⟨i,h,_,h2,_⟩:=gU;exact⟨i,h,h2⟩
theorem pI:eR Tryz.prog 35 7 (.agg #[.int .i64 0,.bool false,.slice none 0 0,.slice none 0 0,.slice none 0 0,.slice none 0 0,.slice none 0 0]) 136:=jc (by kernel_rfl) rfl (by decide)
theorem lL:∃i,Tryz.prog.info? 35=some i∧i.size=7:=by obtain⟨i,h,_,h2,_⟩:=pI;exact⟨i,h,h2⟩
theorem Mk:eR Tryz.prog 53 1 (.pointer none) 8:=jc (by kernel_rfl) rfl (by decide)
theorem U0:∃i,Tryz.prog.info? 53=some i∧i.size=1:=by obtain⟨i,h,_,h2,_⟩:=Mk;exact⟨i,h,h2⟩
theorem G6:eR Tryz.prog 56 1 (.slice none 0 0) 24:=jc (by kernel_rfl) rfl (by decide)
theorem zq:∃i,Tryz.prog.info? 56=some i∧i.size=1:=by obtain⟨i,h,_,h2,_⟩:=G6;exact⟨i,h,h2⟩
theorem dd:eR Tryz.prog 61 3 (.agg #[.int .i64 0,.int .i64 0,.pointer none]) 24:=jc (by kernel_rfl) rfl (by decide)
theorem bI:∃i,Tryz.prog.info? 61=some i∧i.size=3:=by obtain⟨i,h,_,h2,_⟩:=dd;exact⟨i,h,h2⟩
theorem U3:eR Tryz.prog 65 1 (.slice none 0 0) 24:=jc (by kernel_rfl) rfl (by decide)
theorem qN:∃i,Tryz.prog.info? 65=some i∧i.size=1:=by obtain⟨i,h,_,h2,_⟩:=U3;exact⟨i,h,h2⟩
theorem U4:eR Tryz.prog 66 1 (.slice none 0 0) 24:=jc (by kernel_rfl) rfl (by decide)
theorem U5:∃i,Tryz.prog.info? 66=some i∧i.size=1:=by obtain⟨i,h,_,h2,_⟩:=U4;exact⟨i,h,h2⟩
theorem U6:eR Tryz.prog 68 9 (.agg #[.int .i64 0,.int .i64 0,.slice none 0 0,.slice none 0 0,.slice none 0 0,.slice none 0 0,.slice none 0 0,.slice none 0 0,.slice none 0 0]) 184:=jc (by kernel_rfl) rfl (by decide)
theorem U7:eR Tryz.prog 75 1 (.slice none 0 0) 24:=jc (by kernel_rfl) rfl (by decide)
theorem U8:∃i,Tryz.prog.info? 75=some i∧i.size=1:=by obtain⟨i,h,_,h2,_⟩:=U7;exact⟨i,h,h2⟩
theorem qO:eR Tryz.prog 77 5 (.agg #[.int .i64 0,.slice none 0 0,.slice none 0 0,.slice none 0 0,.slice none 0 0]) 104:=jc (by kernel_rfl) rfl (by decide)
theorem kT:∃i,Tryz.prog.info? 77=some i∧i.size=5:=by obtain⟨i,h,_,h2,_⟩:=qO;exact⟨i,h,h2⟩
theorem cW:eR Tryz.prog 92 1 (.int .u32 0) 4:=jc (by kernel_rfl) rfl (by decide)
theorem kU:∃i,Tryz.prog.info? 92=some i∧i.size=1:=by obtain⟨i,h,_,h2,_⟩:=cW;exact⟨i,h,h2⟩
theorem gH:eR Tryz.prog 108 3 (.agg #[.bool false,.slice none 0 0,.slice none 0 0]) 56:=jc (by kernel_rfl) rfl (by decide)
theorem ft:∃i,Tryz.prog.info? 108=some i∧i.size=3:=by obtain⟨i,h,_,h2,_⟩:=gH;exact⟨i,h,h2⟩
end Go.ar
namespace Num
def B:Nat:=1000000000
theorem jT:0<B:=by decide
theorem bG:B=1000000000:=rfl
def val:List Nat→Nat
 | []=>0
 | x::xs=>x+B*val xs
theorem fH(x:Nat)(xs:List Nat):val (x::xs)=x+B*val xs:=rfl
theorem Ml(xs ys:List Nat):val (xs++ys)=val xs+B^xs.length*val ys:=by
 induction xs with
 | nil=>simp[val]
 | cons x xs ih=>rw[List.cons_append,fH,fH,ih,List.length_cons,Nat.pow_succ];grind
theorem nA(xs:List Nat)(y:Nat):val (xs ++ [y])=val xs+B^xs.length*y:=by
 rw[Ml];simp[val]
def Lt(l:List Nat):Prop:=∀x,x∈l→x<B
theorem Lt.nil:Lt []:=fun x h=>by cases h
theorem Lt.append{a b:List Nat}(ha:Lt a)(hb:Lt b):Lt (a++b):=fun x h=>by
 rcases List.mem_append.1 h with h | h
 ·exact ha x h
 ·exact hb x h
theorem Lt.snoc{a:List Nat}{y:Nat}(ha:Lt a)(hy:y<B):Lt (a ++ [y]):=ha.append (fun x h=>by simp at h;omega)
theorem Lt.take{a:List Nat}(ha:Lt a)(k:Nat):Lt (a.take k):=fun x h=>ha x (List.mem_of_mem_take h)
theorem Lt.drop{a:List Nat}(ha:Lt a)(k:Nat):Lt (a.drop k):=fun x h=>ha x (List.mem_of_mem_drop h)
theorem Lt.get{a:List Nat}(ha:Lt a){i y:Nat}(h:a[i]? = some y):y<B:=ha y (List.mem_of_getElem? h)
theorem pJ{l:List Nat}(h:Lt l):val l<B^l.length:=by
 induction l with
 | nil=>simp[val]
 | cons x l ih=>
  have h1:=h x (List.mem_cons_self ..)
  have h2:=ih (fun y hy=>h y (List.mem_cons_of_mem _ hy))
  rw[fH,List.length_cons,Nat.pow_succ]
  have h3:B*(val l+1)≤B*B^l.length:=Nat.mul_le_mul_left _ h2
  rw[Nat.mul_add,Nat.mul_one]at h3
  rw[Nat.mul_comm (B^l.length)];omega
theorem ij{l:List Nat}{i x:Nat}(h:l[i]? = some x):val (l.take (i+1))=val (l.take i)+B^i*x:=by
 have hi:i<l.length:=(List.getElem?_eq_some_iff.1 h).1
 have hx:l[i]=x:=(List.getElem?_eq_some_iff.1 h).2
 rw[List.take_succ_eq_append_getElem hi,hx,nA,List.length_take,Nat.min_eq_left (by omega)]
structure nB(l:List Nat):Prop where
 lt:Lt l
 last:∀x,l.getLast?=some x→x≠0
theorem nB.nil:nB []:=⟨Lt.nil,fun x h=>by simp at h⟩
def sx:Nat→Nat→List Nat
 | 0,_=>[]
 | f+1,n=>if n=0 then []else(n%B)::sx f (n/B)
def ah(n:Nat):List Nat:=sx n n
theorem U9(f:Nat):∀g n,n≤f→n≤g→sx f n=sx g n:=by
 induction f with
 | zero=>intro g n h _;obtain rfl:n=0:=by omega
         cases g <;> simp[sx]
 | succ f ih=>
  intro g n h hg
  cases g with
  | zero=>obtain rfl:n=0:=by omega
          simp[sx]
  | succ g=>
   simp only[sx]
   split
   ·rfl
   ·rename_i hn
    have:n/B<n:=Nat.div_lt_self (by omega) (by decide)
    rw[ih g (n/B) (by omega) (by omega)]
theorem oH:ah 0 = []:=rfl
theorem uy{n:Nat}(h:0<n):ah n=(n%B)::ah (n/B):=by
 unfold ah
 obtain⟨m,rfl⟩:∃m,n=m+1:=⟨n-1,by omega⟩
 rw[sx,if_neg (by omega)]
 have:(m+1)/B<m+1:=Nat.div_lt_self (by omega) (by decide)
 rw[U9 m ((m+1)/B) ((m+1)/B) (by omega) (Nat.le_refl _)]
theorem ck(n:Nat):val (ah n)=n:=by
 induction n using Nat.strongRecOn with
 | _ n ih=>
  rcases Nat.eq_zero_or_pos n with h | h
  ·subst h;rfl
  ·rw[uy h,fH,ih (n/B) (Nat.div_lt_self h (by decide))]
   exact Nat.mod_add_div n B
theorem Mm{n:Nat}(h:0<n):ah n≠[]:=by rw[uy h];simp
theorem dU(n:Nat):nB (ah n):=by
 induction n using Nat.strongRecOn with
 | _ n ih=>
  rcases Nat.eq_zero_or_pos n with h | h
  ·subst h;exact nB.nil
  ·have pK:=ih (n/B) (Nat.div_lt_self h (by decide))
   rw[uy h]
   refine⟨fun x hx=> ?_,fun x hx=> ?_⟩
   ·rcases List.mem_cons.1 hx with e | e
    ·rw[e];exact Nat.mod_lt _ jT
    ·exact pK.lt x e
   ·rcases Nat.eq_zero_or_pos (n/B)with h0 | h0
    ·rw[h0,oH]at hx
     simp at hx
     have:=Nat.mod_add_div n B
     rw[h0]at this
     omega
    ·cases hl:ah (n/B)with
     | nil=>exact absurd hl (Mm h0)
     | cons y ys=>
      rw[hl,List.getLast?_cons_cons,←hl]at hx
      exact pK.last x hx
theorem nB.pos{l:List Nat}(h:nB l)(hl:l≠[]):B^(l.length-1)≤val l:=by
 have e:l=l.dropLast ++ [l.getLast hl]:=(List.dropLast_concat_getLast hl).symm
 have hx:=h.last (l.getLast hl) (List.getLast?_eq_some_getLast hl)
 rw[e,nA]
 simp only[List.length_append,List.length_dropLast,List.length_singleton]
 have:B^(l.length-1)*1≤B^(l.length-1)*l.getLast hl:=Nat.mul_le_mul_left _ (by omega)
 rw[Nat.mul_one]at this
 have e2:l.length-1+1-1=l.length-1:=by omega
 rw[e2];omega
theorem Va{l:List Nat}(h:Lt l)(hp:l = []∨B^(l.length-1)≤val l):nB l:=by
 refine⟨h,fun x hx h0=> ?_⟩
 subst h0
 have hl:l≠[]:=fun e=>by subst e;simp at hx
 rcases hp with e | hp
 ·exact hl e
 ·have e:l=l.dropLast ++ [0]:=by
   have:=(List.dropLast_concat_getLast hl).symm
   rw[List.getLast?_eq_some_getLast hl]at hx
   simp only[Option.some.injEq]at hx
   rw[hx]at this
   exact this
  have hv:val l=val l.dropLast:=by
   have:=nA l.dropLast 0
   rw[←e,Nat.mul_zero]at this;omega
  have a7:=pJ (l:=l.dropLast) (fun x hx=>h x ((List.dropLast_sublist l).subset hx))
  rw[List.length_dropLast]at a7
  omega
theorem Mn{l:List Nat}(h:nB l):ah (val l)=l:=by
 induction l with
 | nil=>rfl
 | cons x l ih=>
  have hx:x<B:=h.lt x (List.mem_cons_self ..)
  have hp:0<val (x::l):=by
   have:=h.pos (by simp)
   have h2:0<B^((x::l).length-1):=Nat.pow_pos jT
   omega
  rw[uy hp,fH]
  have h1:(x+B*val l)%B=x:=by rw[Nat.add_mul_mod_self_left];exact Nat.mod_eq_of_lt hx
  have h2:(x+B*val l)/B=val l:=by rw[Nat.add_mul_div_left _ _ jT,Nat.div_eq_of_lt hx,Nat.zero_add]
  rw[h1,h2]
  rw[ih ⟨fun y hy=>h.lt y (List.mem_cons_of_mem _ hy),fun y hy=>h.last y (by
   cases l with
   | nil=>simp at hy
   | cons z zs=>rw[List.getLast?_cons_cons];exact hy)⟩]
theorem Vb{l:List Nat}{n:Nat}(h:nB l)(hv:val l=n):l=ah n:=by rw[←hv,Mn h]
theorem wM(n:Nat):n<B^(ah n).length:=by
 have:=pJ (dU n).lt
 rwa [ck]at this
theorem gm{n k:Nat}:(ah n).length≤k↔n<B^k:=by
 constructor
 ·intro h
  exact Nat.lt_of_lt_of_le (wM n) (Nat.pow_le_pow_right jT h)
 ·intro h
  rcases Nat.eq_zero_or_pos n with h0 | h0
  ·subst h0;simp[oH]
  ·have hp:=(dU n).pos (Mm h0)
   rw[ck]at hp
   have:(ah n).length-1<k:=(Nat.pow_lt_pow_iff_right (by decide:1<B)).1 (Nat.lt_of_le_of_lt hp h)
   omega
theorem jB{m n:Nat}(h:m≤n):(ah m).length≤(ah n).length:=gm.2 (Nat.lt_of_le_of_lt h (wM n))
theorem Vc{n:Nat}:ah n = []↔n=0:=by
 constructor
 ·intro h
  have:=ck n
  rw[h]at this;exact this.symm
 ·intro h;subst h;rfl
theorem ik{n:Nat}:(ah n).length=0↔n=0:=by rw[List.length_eq_zero_iff,Vc]
end Num
namespace Num
theorem Db{a:List Nat}{i p:Nat}(h:a[i]? = some p):val a=val (a.take i)+B^i*(p+B*val (a.drop (i+1))):=by
 have hi:=(List.getElem?_eq_some_iff.1 h).1
 have hp:=(List.getElem?_eq_some_iff.1 h).2
 have e:a=a.take i++a.drop i:=(List.take_append_drop i a).symm
 have e2:a.drop i=p::a.drop (i+1):=by rw[List.drop_eq_getElem_cons hi,hp]
 conv=>lhs;rw[e,e2,Ml,fH,List.length_take,Nat.min_eq_left (by omega)]
theorem Dc{a b:List Nat}{i p q:Nat}(ha:Lt a)(h1:a[i]? = some p)(h2:b[i]? = some q)(hd:a.drop (i+1)=b.drop (i+1))(jU:p<q):val a<val b:=by
 rw[Db h1,Db h2,hd]
 have hi:=(List.getElem?_eq_some_iff.1 h1).1
 have h3:=pJ (ha.take i)
 rw[List.length_take,Nat.min_eq_left (by omega)]at h3
 have h4:B^i*(p+1+B*val (b.drop (i+1)))≤B^i*(q+B*val (b.drop (i+1))):=Nat.mul_le_mul_left _ (by omega)
 rw[show p+1+B*val (b.drop (i+1))=p+B*val (b.drop (i+1))+1 by omega,Nat.mul_add,Nat.mul_one]at h4
 omega
def gV(x y:Nat):Int:=if x<y then -1 else if x=y then 0 else 1
theorem Dd{x y:Nat}(h:x<y):gV x y = -1:=by simp[gV,h]
theorem De{x y:Nat}(h:y<x):gV x y=1:=by simp[gV];omega
theorem Mo(x:Nat):gV x x=0:=by simp[gV]
theorem Df{x y:Nat}(h:(ah x).length<(ah y).length):x<y:=by
 rcases Nat.lt_or_ge x y with h1 | h1
 ·exact h1
 ·have:=jB h1;omega
theorem Mp{a b:List Nat}{k p:Nat}(hk:0<k)(h1:a[k-1]? = some p)(h2:b[k-1]? = some p)(hd:a.drop k=b.drop k):a.drop (k-1)=b.drop (k-1):=by
 have e1:=List.drop_eq_getElem_cons (List.getElem?_eq_some_iff.1 h1).1
 have e2:=List.drop_eq_getElem_cons (List.getElem?_eq_some_iff.1 h2).1
 rw[(List.getElem?_eq_some_iff.1 h1).2,show k-1+1=k by omega]at e1
 rw[(List.getElem?_eq_some_iff.1 h2).2,show k-1+1=k by omega]at e2
 rw[e1,e2,hd]
end Num
namespace Num
theorem sy(l:List Nat)(k:Nat):val (l.take (k+1))=val (l.take k)+B^k*(l[k]?.getD 0):=by
 cases h:l[k]? with
 | some x=>simpa using ij h
 | none=>
  have:l.length≤k:=by simpa using h
  rw[List.take_of_length_le (by omega),List.take_of_length_le this];simp
theorem wN{o:List Nat}{k a b s t u:Nat}(ho:o.length=k)(h:val o+B^k*a=t)(hs:s=a+b)(hu:u=t+B^k*b):val (o ++ [s%B])+B^(k+1)*(s/B)=u:=by
 rw[nA,ho,Nat.pow_succ]
 have h1:B^k*s=B^k*(s%B)+B^k*(B*(s/B)):=by rw[←Nat.mul_add,Nat.mod_add_div]
 have h2:B^k*s=B^k*a+B^k*b:=by rw[hs,Nat.mul_add]
 rw[Nat.mul_assoc];omega
theorem last_pos{o:List Nat}{n:Nat}(h:Lt o)(ho:o.length=n)(hn:n=0∨B^(n-1)≤val o):nB o:=Va h (by
 rcases hn with e | e
 ·left;exact List.eq_nil_of_length_eq_zero (by omega)
 ·right;rw[ho];exact e)
end Num
namespace Num
theorem zr{o:List Nat}{k br br' s d e ta tb ta' tb':Nat}(ho:o.length=k)(h:ta+B^k*br=val o+tb)(hs:s+br+e=d+B*br')(ha:ta'=ta+B^k*d)(hb:tb'=tb+B^k*e):
  ta'+B^(k+1)*br'=val (o ++ [s])+tb':=by
 rw[nA,ho,ha,hb,Nat.pow_succ,Nat.mul_assoc]
 have h1:B^k*(s+br+e)=B^k*(d+B*br'):=by rw[hs]
 simp only[Nat.mul_add]at h1
 omega
theorem Mq{l:List Nat}{t x y:Nat}(h:l[t]? = some x):val (l.set t y)+B^t*x=val l+B^t*y:=by
 induction l generalizing t with
 | nil=>simp at h
 | cons z l ih=>
  cases t with
  | zero=>simp at h;subst h;simp[val];omega
  | succ t=>
   simp only[List.getElem?_cons_succ]at h
   have:=ih h
   rw[List.set_cons_succ,fH,fH,Nat.pow_succ]
   have h2:B*(val (l.set t y)+B^t*x)=B*(val l+B^t*y):=by rw[this]
   simp only[Nat.mul_add]at h2
   have e1:B^t*B*x=B*(B^t*x):=by rw[Nat.mul_comm (B^t) B,Nat.mul_assoc]
   have e2:B^t*B*y=B*(B^t*y):=by rw[Nat.mul_comm (B^t) B,Nat.mul_assoc]
   omega
theorem Lt.set{l:List Nat}{t y:Nat}(h:Lt l)(hy:y<B):Lt (l.set t y):=fun x hx=>by
 rcases List.mem_or_eq_of_mem_set hx with h1 | h1
 ·exact h x h1
 ·omega
theorem Lt.replicate(n:Nat):Lt (List.replicate n 0):=fun x hx=>by
 have:=List.eq_of_mem_replicate hx
 rw[this];exact jT
theorem Mr(n:Nat):val (List.replicate n 0)=0:=by
 induction n with
 | zero=>rfl
 | succ n ih=>rw[List.replicate_succ,fH,ih,Nat.mul_zero]
theorem Vd{l:List Nat}{k y:Nat}(h:k<l.length):(l.set k y).take (k+1)=l.take k ++ [y]:=by
 rw[List.take_succ_eq_append_getElem (by simpa using h),List.getElem_set_self,List.take_set_of_le (Nat.le_refl _)]
theorem set_drop{l:List Nat}{k y:Nat}(h:k<l.length):(l.set k y).drop k=y::l.drop (k+1):=by
 rw[List.drop_eq_getElem_cons (by simpa using h),List.getElem_set_self,List.drop_set_of_lt (Nat.lt_succ_self _)]
theorem wO{l:List Nat}{k d:Nat}(h:l[k]? = some d):l.drop k=d::l.drop (k+1):=by
 rw[List.drop_eq_getElem_cons (List.getElem?_eq_some_iff.1 h).1,(List.getElem?_eq_some_iff.1 h).2]
end Num
namespace Go.ar
open Go.Proofs Num
theorem vr{n:Nat}{all:Array Oper}{s:St}{H:Heap}{md:Mode}{K:St→Heap→Prop}(k:Nat){l:List Oper}{s1:St}(hk:aE Tryz.prog n all md (l.drop k) s1 H K)(h:sh tb md all (l.take k) s=some s1:=by rfl):aE Tryz.prog n all md l s H K:=L4 ag k h hk
theorem ab{n:Nat}{all:Array Oper}{s:St}{H:Heap}{md:Mode}{K:St→Heap→Prop}(k:Nat){l:List Oper}{s1:St}(h:sh tb md all (l.take k) s=some s1)(hk:aE Tryz.prog n all md (l.drop k) s1 H K):aE Tryz.prog n all md l s H K:=L4 ag k h hk
theorem lM{a b:Int}(h:a=b):eC .eql a b=some true:=by subst h;simp[eC]
theorem lN{a b:Int}(h:a≠b):eC .eql a b=some false:=by simp[eC,h]
theorem pL{a b:Int}(h:a≠b):eC .neq a b=some true:=by simp[eC,h]
theorem wP{a b:Int}(h:a=b):eC .neq a b=some false:=by subst h;simp[eC]
theorem sA{a b:Int}(h:a<b):eC .lss a b=some true:=by simp[eC,h]
theorem pM{a b:Int}(h:b≤a):eC .lss a b=some false:=by simp[eC,h]
theorem pN{a b:Int}(h:a≤b):eC .leq a b=some true:=by simp[eC,h]
theorem wQ{a b:Int}(h:b<a):eC .leq a b=some false:=by simp[eC,h]
theorem pO{a b:Int}(h:b<a):eC .gtr a b=some true:=by simp[eC,h]
theorem lO{a b:Int}(h:a≤b):eC .gtr a b=some false:=by simp[eC,h]
theorem Ms{a b:Int}(h:b≤a):eC .geq a b=some true:=by simp[eC,h]
theorem Mt{a b:Int}(h:a<b):eC .geq a b=some false:=by simp[eC,h]
def U(l:List Nat):List Value:=l.map fun x=> .int .u32 (Int.ofNat x)
theorem cH{l:List Nat}{i:Nat}{x:Nat}(h:l[i]? = some x):(U l)[i]? = some (.int .u32 (x:Int)):=by simp[U,h]
theorem uz(l:List Nat):(U l).length=l.length:=by simp[U]
theorem Dg(a b:List Nat):U (a++b)=U a++U b:=by simp[U]
theorem zt(l:List Nat)(k:Nat):U (l.take k)=(U l).take k:=by simp[U,List.map_take]
theorem kV(l:List Nat):∀u∈U l,u.oneCell'=true:=fun u hu=>by
 simp only[U,List.mem_map]at hu
 obtain⟨x,_,rfl⟩:=hu
 rfl
def fI(H:Heap)(v:Value)(l:List Nat):Prop:=∃A c,v = .slice A l.length c∧l.length≤c∧Rd H A (U l)
theorem fI.le{H H':Heap}{v:Value}{l:List Nat}(h:fI H v l)(hl:Heap.le H H'):fI H' v l:=by
 obtain⟨A,c,h1,h2,h3⟩:=h
 exact⟨A,c,h1,h2,h3.le hl⟩
def cB(H:Heap)(v:Value)(x:Nat):Prop:=fI H v (ah x)
theorem cB.le{H H':Heap}{v:Value}{x:Nat}(h:cB H v x)(hl:Heap.le H H'):cB H' v x:=fI.le h hl
theorem Rd.take{H:Heap}{A:Option Addr}{xs:List Value}(h:Rd H A xs)(k:Nat):Rd H A (xs.take k):=fun i v hv=>by
 rw[List.getElem?_take]at hv
 split at hv
 ·exact h i v hv
 ·cases hv
def il(H:Heap)(v:Value)(l:List Nat):Prop:=bE H v 92 1 l.length (U l)
theorem il.my{H:Heap}{v:Value}{l:List Nat}(h:il H v l):fI H v l:=by
 obtain⟨A,c,rfl⟩:=bE.form h
 refine⟨A,c,rfl,?_,bE.rd h⟩
 rcases h.2 with ⟨h1,h2⟩ | ⟨g,cap,h1,_,h3,_⟩
 ·omega
 ·cases h1;exact h3
theorem sB(H:Heap):il H (.slice none 0 0) []:=mu H 92 1
theorem App.lP{H H':Heap}{v v':Value}{a b:List Nat}{n m:Nat}(h:App H v 92 1 (n+m) (U a++U b) v' H')(ha:n=a.length)(hb:m=b.length):il H' v' (a++b):=by
 have:=h.own
 subst ha
 subst hb
 unfold il
 rw[Dg,List.length_append];exact this
structure jV(H:Heap)(x:Nat)(v:Value)(H':Heap):Prop where
 le:Heap.le H H'
 nat:cB H' v x
theorem wR{H:Heap}{v:Value}{l:List Nat}{x:Nat}(h:fI H v l)(hn:nB l)(hv:val l=x):cB H v x:=by
 unfold cB
 rwa [←Vb hn hv]
theorem qP(H:Heap):cB H (.slice none 0 0) 0:=wR (l:=[]) (il.my (sB H)) nB.nil rfl
theorem Dh{l:List Nat}{k:Nat}(a7:Lt l)(hk:k≤l.length)(hv:val (l.take k)=val l)(hx:k=0∨∃x,l[k-1]? = some x∧x≠0):ah (val l)=l.take k:=by
 rw[←hv]
 refine Mn ⟨a7.take k,fun y hy=> ?_⟩
 rcases hx with rfl | ⟨x,h1,h2⟩
 ·simp at hy
 ·have:(l.take k).getLast?=some x:=by
   rw[List.getLast?_eq_getElem?,List.length_take,Nat.min_eq_left hk,List.getElem?_take]
   rw[if_pos ?_]
   ·exact h1
   ·rcases Nat.eq_zero_or_pos k with e | e
    ·subst e;simp at hy
    ·omega
  rw[this]at hy
  cases hy
  exact h2
theorem zu(c:Nat)(A:Option Addr)(sz:Nat):(if c=0 then A else A.map (·.add (0*sz)))=A:=by
 split
 ·rfl
 ·cases A <;> simp[Addr.add]
theorem bE.ins{H:Heap}{v:Value}{e sz n:Nat}{xs:List Value}(h:bE H v e sz n xs){g:Nat}(ent:aG)(hg:H g=none):bE (ar.ins H g ent) v e sz n xs:=
 h.same fun k hk=>by
  obtain⟨en,he⟩:=h.block hk
  exact bA _ _ (fun e=>by subst e;rw[hg]at he;cases he)
theorem il.ins{H:Heap}{v:Value}{l:List Nat}(h:il H v l){g:Nat}(ent:aG)(hg:H g=none):il (ar.ins H g ent) v l:=bE.ins h ent hg
theorem jd(g i:Nat):(⟨g,0,none⟩:Addr).add i=⟨g,i,none⟩:=by
 unfold Addr.add;split
 ·rename_i e0;rw[e0]
 ·simp
theorem eH(H:Heap)(g:Nat)(xs:List Value)(sz e:Nat)(b:Bool):Rd (ins H g ⟨xs,sz,e,b⟩) (some ⟨g,0,none⟩) xs:=fun i v hv=>⟨_,rfl,by simp[cell,jd,ins,hv]⟩
theorem nC{H:Heap}{g e:Nat}{a:Int}{y:Nat}(h:a=y):Rd (ins H g (whole [.int .u32 a] e)) (some ⟨g,0,none⟩) (U [y]):=by
 subst h;exact eH _ _ _ _ _ _
theorem G8{H:Heap}{g e sz:Nat}{zs:List Value}{k:Int}{c:Nat}(hk:k.toNat=0)(hc:c≤maxLen):bE (ins H g ⟨cA zs (k.toNat*sz),c*sz,e,true⟩) (.slice (some ⟨g,0,none⟩) k.toNat c) e sz 0 []:=by
 refine⟨by simp,.inr ⟨g,c,by rw[hk],?_,by omega,hc⟩⟩
 rw[bx,hk,Nat.zero_mul];rfl
theorem Mu(a b:Nat):(a:Int)%(b:Int)=((a%b:Nat):Int):=rfl
def cL(l:List Nat)(n:Nat):aG:=⟨U l,n*1,92,true⟩
theorem rX(H:Heap)(g:Nat)(e e':aG):ins (ins H g e) g e'=ins H g e':=by
 funext k;unfold ins;split <;> rfl
theorem G9(l:List Nat)(k y:Nat):(U l).set k (.int .u32 (y:Int))=U (l.set k y):=by simp[U,List.map_set]
theorem pP{H:Heap}{g n k:Nat}{l:List Nat}{a:Int}{y:Nat}(h:a=y):ins (ins H g (cL l n)) g {cL l n with xs:=aC (cL l n).xs (0+k*1) [.int .u32 a]}=ins H g (cL (l.set k y) n):=by
 subst h
 rw[rX]
 simp only[cL,aC,Nat.zero_add,Nat.mul_one,G9]
theorem Di(H:Heap)(g:Nat)(l:List Nat)(n:Nat):Rd (ins H g (cL l n)) (some ⟨g,0,none⟩) (U l):=eH _ _ _ _ _ _
theorem Ve{H:Heap}{g:Nat}{k:Int}{n:Nat}(hk:k.toNat=n):ins H g ⟨cA [.int .u32 0] (k.toNat*1),n*1,92,true⟩=ins H g (cL (List.replicate n 0) n):=by
 subst hk
 rw[Nat.mul_one,Ma]
 congr 1
 simp[cL,U]
theorem kW(l:List Nat)(n:Nat):(cL l n).xs.length=l.length:=by simp[cL,U]
theorem uA(H:Heap)(g:Nat)(l:List Nat)(n m:Nat)(hm:m=l.length)(hn:m≤n):fI (ins H g (cL l n)) (.slice (some ⟨g,0,none⟩) m n) l:=⟨_,n,by rw[hm],by omega,Di H g l n⟩
end Go.ar
namespace Go.ar
open Go.Proofs Num
theorem Hi{H:Heap}{A:Option Addr}{c:Nat}{l:List Nat}(a7:Lt l)(hr:Rd H A (U l))(hc:l.length≤c)(hm:(l.length:Int)≤35184372088832):
 Fn Tryz.prog 111 #[.slice A l.length c] H (jV H (val l)):=by
 refine aW (args:=[_]) Tryz.func111 rfl rfl Tryz.ntmps111 rfl rfl fun w0=> ?_;refine aj [0] rfl ?_;refine af (ab 1 rfl (ae [0] ?_));refine af (ab 3 rfl (ae [0,3] ?_));refine aq (aD (gj (fun(k:Nat)=>k) (fun(k:Nat)=>put (put (emp) 0 (.val (.slice A l.length c))) 3 (.val (.int .i64 (k:Int)))) (fun(k:Nat) H'=>H'=H∧k≤l.length∧val (l.take k)=val l) l.length (⟨rfl,Nat.le_refl _,by simp⟩) (by repeat (first | exact iZ _ | refine dM rfl ?_ | refine dM (jA (by omega)) ?_)) ?_));rintro k H1 ⟨rfl,hk,hv⟩
 rcases Nat.eq_zero_or_pos k with rfl | Dj
 ·
  refine aq (af (ab 1 rfl (aS false rfl rfl (by simp[eC]) ?_)));refine ab 8 rfl (ae [0,3,15] ?_);refine dG rfl (bC (af (ab 2 rfl (qL (l:=0) (h:=0) ag rfl rfl (.inl ⟨rfl,rfl⟩) (.inr ⟨_,_,rfl,rfl⟩) (by omega) (by omega) ?_))));rw[zu];refine ab 1 rfl (ae [2] ?_);have e:=Dh a7 hk hv (.inl rfl);refine aw ⟨.inr rfl,_,.tmp rfl (.nil),.refl _,A,c,?_,?_,?_⟩
  ·rw[e];simp;rfl
  ·rw[e];simp
  ·rw[e,zt];exact hr.take _
 obtain⟨x,hx⟩:∃x,l[k-1]? = some x:=⟨_,List.getElem?_eq_getElem (by omega)⟩;refine aq (af (ab 1 rfl (aS true rfl rfl (by simp[eC];omega) ?_)));refine ab 3 rfl (di rfl rfl ⟨by omega,by omega⟩ (a9 ag rfl rfl rfl rfl rfl (hr) (cH (by rw[show ((k:Int)-1).toNat=k-1 by omega];exact hx)) (by omega) (by omega) fun _=> ?_));refine ab 2 rfl (ae [0,3,15] ?_);refine az rfl (fun hb=> ?_) (fun hb=> ?_)
 ·
  simp at hb
  refine ax (aj [0,3] rfl ?_);refine aD (aF rfl (ab 1 rfl (di rfl rfl ⟨by omega,by omega⟩ (ab 1 rfl (aA ?_)))));exact⟨k-1,by omega,(by repeat (first | exact iZ _ | refine dM rfl ?_ | refine dM (jA (by omega)) ?_)),rfl,by omega,by have:=ij hx;rw[show k-1+1=k by omega,hb,Nat.mul_zero,Nat.add_zero]at this;rw[←this];exact hv⟩
 ·
  simp at hb
  refine bC (aj [0,3] rfl ?_);refine af (ab 2 rfl (qL ag rfl rfl (.inl ⟨rfl,rfl⟩) (.inr ⟨_,_,rfl,rfl⟩) (by omega) (by omega) ?_));rw[zu];refine ab 1 rfl (ae [2] ?_);refine aw ⟨.inr rfl,_,.tmp rfl (.nil),?_⟩;have e:=Dh a7 hk hv (.inr ⟨x,hx,hb⟩);refine⟨.refl _,A,c,?_,?_,?_⟩
  ·rw[e,List.length_take,Nat.min_eq_left hk];rfl
  ·rw[e,List.length_take,Nat.min_eq_left hk];omega
  ·rw[e,zt];exact hr.take _
theorem Vf{H:Heap}{A:Option Addr}{c x:Nat}(hr:Rd H A (U (ah x))):
 Fn Tryz.prog 112 #[.slice A (ah x).length c] H (fun v H'=>H'=H∧v = .bool (decide (x=1))):=by
 refine aW (args:=[_]) Tryz.func112 rfl rfl Tryz.ntmps112 rfl rfl fun w0=> ?_;refine aj [0] rfl ?_;refine af (ab 1 rfl (ae [0] ?_))
 by_cases hl:(ah x).length=1
 ·
  obtain⟨y,hy⟩:=List.length_eq_one_iff.1 hl;refine af (ab 2 rfl (aS true rfl rfl (by simp[eC,hl]) ?_));refine ab 2 rfl (a9 ag rfl rfl rfl rfl rfl (hr) (cH (show (ah x)[0]? = some y by rw[hy];rfl)) (by omega) (by omega) fun _=> ?_);refine ab 3 rfl (ae [2] ?_);refine aw ⟨.inr rfl,_,.tmp rfl (.nil),?_⟩;refine⟨rfl,?_⟩;have hv:=ck x;rw[hy]at hv
  simp[val]at hv
  subst hv
  show Value.bool _=_
  congr 1
  rw[Bool.eq_iff_iff];simp;omega
 ·
  skip
  refine af (ab 2 rfl (aS false rfl rfl (by simp[eC];omega) ?_));refine ab 7 rfl (ae [2] ?_);refine aw ⟨.inr rfl,_,.tmp rfl (.nil),?_⟩;refine⟨rfl,?_⟩;have:x≠1:=fun e=>hl (by subst e;rfl)
  simp[this];rfl
end Go.ar
namespace Go.ar
open Go.Proofs Num
theorem Mw{H:Heap}{A A':Option Addr}{c c' x y:Nat}(hr:Rd H A (U (ah x)))(cM:Rd H A' (U (ah y)))(hm:((ah x).length:Int)≤35184372088832):
 Fn Tryz.prog 116 #[.slice A (ah x).length c,.slice A' (ah y).length c'] H (fun v H'=>H'=H∧v = .int .i64 (gV x y)):=by
 refine aW (args:=[_,_]) Tryz.func116 rfl rfl Tryz.ntmps116 rfl rfl fun w0=> ?_;refine aj [0,1] rfl ?_;refine af (ab 1 rfl (ae [0,1] ?_));refine aq (af (ab 5 rfl (ae [0,1,10] ?_)));refine az rfl (fun hb=> ?_) (fun hb=> ?_)
 ·
  have hl:(ah x).length≠(ah y).length:=by simp at hb;omega
  refine aq (af (ab 5 rfl (ae [15] ?_)));refine az rfl (fun hb=> ?_) (fun hb=> ?_)
  ·
   simp at hb
   refine af (ab 1 rfl (ae [4] ?_));refine aw ⟨.inr rfl,_,.tmp rfl (.nil),?_⟩;exact⟨rfl,by rw[Dd (Df hb)];rfl⟩
  ·
   simp at hb
   refine ax (aj [] rfl ?_);refine af (ab 1 rfl (ae [4] ?_));refine aw ⟨.inr rfl,_,.tmp rfl (.nil),?_⟩;exact⟨rfl,by rw[De (Df (by omega))];rfl⟩
 ·
  have hl:(ah x).length=(ah y).length:=by simp at hb;omega
  refine ax (aj [0,1] rfl ?_);refine aq (af (ab 2 rfl (di rfl rfl ⟨by omega,by omega⟩ (ab 1 rfl (ae [0,1,5] ?_)))));refine aD (gj (fun(k:Nat)=>k) (fun(k:Nat)=>put (put (put (emp) 0 (.val (.slice A (ah x).length c))) 1 (.val (.slice A' (ah y).length c'))) 5 (.val (.int .i64 ((k:Int)-1)))) (fun(k:Nat) H'=>H'=H∧k≤(ah x).length∧(ah x).drop k=(ah y).drop k) (ah x).length (⟨rfl,Nat.le_refl _,by rw[List.drop_of_length_le (Nat.le_refl _),List.drop_of_length_le (by omega)]⟩) (by repeat (first | exact iZ _ | refine dM rfl ?_ | refine dM (jA (by omega)) ?_)) ?_);rintro k H1 ⟨rfl,hk,hd⟩;refine aq (af (ab 2 rfl (ae [0,1,5,20] ?_)));refine az rfl (fun hb=> ?_) (fun hb=> ?_)
  ·
   simp at hb
   obtain⟨p,hp⟩:∃p,(ah x)[k-1]? = some p:=⟨_,List.getElem?_eq_getElem (by omega)⟩;obtain⟨q,hq⟩:∃q,(ah y)[k-1]? = some q:=⟨_,List.getElem?_eq_getElem (by omega)⟩
   have hj:((k:Int)-1).toNat=k-1:=by omega
   have ej:(ah x).drop (k-1+1)=(ah y).drop (k-1+1):=by rw[show k-1+1=k by omega];exact hd
   refine ax (aj [0,1,5] rfl ?_);refine aq (aD (aD (cg .bR [0,1,2,3,4,5,6,7,8,9] follows (by kernel_rfl) ?_)));refine ab 2 rfl (a9 ag rfl rfl rfl rfl rfl (hr) (by rw[hj];exact cH hp) (by omega) (by omega) fun _=> ?_);refine ab 2 rfl (a9 ag rfl rfl rfl rfl rfl (cM) (by rw[hj];exact cH hq) (by omega) (by omega) fun _=> ?_);refine ab 2 rfl (ae [0,1,5,23] ?_);refine az rfl (fun hb=> ?_) (fun hb=> ?_)
   ·
    have jU:p<q:=by simpa using hb
    refine af (ab 1 rfl (ae [4] ?_));refine aw ⟨.inr rfl,_,.tmp rfl (.nil),?_⟩;exact⟨rfl,by rw[Dd (by have:=Dc (dU x).lt hp hq ej jU;rwa [ck,ck]at this)];rfl⟩
   have jU:¬p<q:=by simpa using hb
   refine cg .bR [0,1,2,3,4,5,6,7,8,9] follows (by kernel_rfl) ?_;refine ab 2 rfl (a9 ag rfl rfl rfl rfl rfl (hr) (by rw[hj];exact cH hp) (by omega) (by omega) fun _=> ?_);refine ab 2 rfl (a9 ag rfl rfl rfl rfl rfl (cM) (by rw[hj];exact cH hq) (by omega) (by omega) fun _=> ?_);refine ab 2 rfl (ae [0,1,5,33] ?_);refine az rfl (fun hb=> ?_) (fun hb=> ?_)
   ·
    have zv:q<p:=by simpa using hb
    refine af (ab 1 rfl (ae [4] ?_));refine aw ⟨.inr rfl,_,.tmp rfl (.nil),?_⟩;exact⟨rfl,by rw[De (by have:=Dc (dU y).lt hq hp ej.symm zv;rwa [ck,ck]at this)];rfl⟩
   have zv:¬q<p:=by simpa using hb
   refine ax (aj [0,1,5] rfl ?_);refine aF rfl (ab 1 rfl (di rfl rfl ⟨by omega,by omega⟩ (ab 1 rfl (aA ?_))))
   obtain rfl:p=q:=by omega
   exact⟨k-1,by omega,(by repeat (first | exact iZ _ | refine dM rfl ?_ | refine dM (jA (by omega)) ?_)),rfl,by omega,Mp (by omega) hp hq hd⟩
  simp at hb
  refine bC (aj [] rfl ?_);refine af (ab 1 rfl (ae [4] ?_));refine aw ⟨.inr rfl,_,.tmp rfl (.nil),?_⟩
  obtain rfl:k=0:=by omega
  have:x=y:=by rw[←ck x,←ck y];simpa using congrArg val hd
  exact⟨rfl,by rw[this,Mo];rfl⟩
end Go.ar
namespace Go.ar
open Go.Proofs Num
theorem Mx{H:Heap}{A:Option Addr}{c x:Nat}(hr:Rd H A (U (ah x)))(hm:(ah x).length≤2):
 Fn Tryz.prog 118 #[.slice A (ah x).length c] H (fun v H'=>H'=H∧v = .tuple #[.int .u64 (x:Int),.bool true]):=by
 refine aW (args:=[_]) Tryz.func118 rfl rfl Tryz.ntmps118 rfl rfl fun w0=> ?_;refine aj [0] rfl ?_;refine af (ab 2 rfl (ae [0] ?_));refine af (ab 1 rfl (ae [0,4] ?_));refine aq (af (ab 3 rfl (ae [0,4,8,9] ?_)));refine aD (gj (fun(k:Nat)=>(ah x).length-k) (fun(k:Nat)=>put (put (put (put (emp) 0 (.val (.slice A (ah x).length c))) 4 (.val (.int .u64 (val ((ah x).drop ((ah x).length-k)):Int)))) 8 (.val (.int .i64 ((ah x).length:Int)))) 9 (.val (.int .i64 (k:Int)))) (fun(k:Nat) H'=>H'=H∧k≤(ah x).length) 0 (⟨rfl,by omega⟩) (dM rfl (dM rfl (dM (jA (by simp[val])) (dM rfl (iZ _))))) ?_);rintro k H1 ⟨rfl,hk⟩;refine af (ab 1 rfl (ae [0,4,8,9,10] ?_));refine aq (az rfl (fun hb=> ?_) (fun hb=> ?_))
 ·
  simp at hb
  obtain⟨p,hp⟩:∃p,(ah x)[(ah x).length-1-k]? = some p:=⟨_,List.getElem?_eq_getElem (by omega)⟩;have sC:=(dU x).lt.get hp;rw[bG]at sC
  have jC:(ah x).drop ((ah x).length-1-k)=p::(ah x).drop ((ah x).length-k):=by
   rw[List.drop_eq_getElem_cons (List.getElem?_eq_some_iff.1 hp).1,(List.getElem?_eq_some_iff.1 hp).2,show (ah x).length-1-k+1=(ah x).length-k by omega]
  have hw:val ((ah x).drop ((ah x).length-k))<B:=by
   have h1:=pJ ((dU x).lt.drop ((ah x).length-k));have h2:B^((ah x).drop ((ah x).length-k)).length≤B^1:=Nat.pow_le_pow_right jT (by simp;omega);rw[Nat.pow_one]at h2;omega
  rw[bG]at hw
  have hj:(((ah x).length:Int)-1-(k:Int)).toNat=(ah x).length-1-k:=by omega
  refine ax (aj [0,4,8,9] rfl ?_);refine aq (aD (af (ab 2 rfl (ae [0,4,5,8,9] ?_))));refine af (ab 3 rfl (di rfl rfl ⟨by omega,by omega⟩ (ab 1 rfl (di rfl rfl ⟨by omega,by omega⟩ (a9 ag rfl rfl rfl rfl rfl (hr) (by rw[hj];exact cH hp) (by omega) (by omega) fun _=> ?_)))));refine cF ag rfl rfl rfl ⟨by omega,by omega⟩ (ab 1 rfl (ae [0,4,6,8,9] ?_));refine aq (af (ab 2 rfl (di rfl rfl ⟨by omega,by omega⟩ (jy rfl rfl (by omega) (by omega) ⟨by omega,by omega⟩ (ab 1 rfl (ae [0,4,6,8,9,25] ?_))))));refine az rfl (fun hb=> ?_) (fun hb=> ?_)
  ·
   exfalso;simp at hb;omega
  ·
   skip
   refine ax (aj [0,4,6,8,9] rfl ?_);refine aF rfl (ab 1 rfl (gG rfl rfl ⟨by omega,by omega⟩ (ab 1 rfl (aO rfl rfl ⟨by omega,by omega⟩ (ab 1 rfl (aA (aj [0,4,8,9] rfl ?_)))))));refine aF rfl (aO rfl rfl ⟨by omega,by omega⟩ (ab 1 rfl (aA ?_)))
   have dO:val ((ah x).drop ((ah x).length-(k+1)))=val ((ah x).drop ((ah x).length-k))*1000000000+p:=by
    rw[show (ah x).length-(k+1)=(ah x).length-1-k by omega,jC,fH,bG];omega
   exact⟨k+1,by omega,ay,rfl,by omega⟩
 ·
  simp at hb
  refine bC (aj [4] rfl ?_);refine af (ab 3 rfl (ae [2,3] ?_));refine aw ⟨.inr rfl,_,.tmp rfl (.tmp rfl (.nil)),?_⟩
  obtain rfl:k=(ah x).length:=by omega
  refine⟨rfl,?_⟩;rw[Nat.sub_self,List.drop_zero,ck];rfl
theorem Dk{H:Heap}{x:Nat}(hx:x<18446744073709551616):
 Fn Tryz.prog 103 #[.int .u64 (x:Int)] H (jV H x):=by
 refine aW (args:=[_]) Tryz.func103 rfl rfl Tryz.ntmps103 rfl rfl fun w0=> ?_;refine aj [0] rfl ?_;refine af (ab 1 rfl (ae [0] ?_));refine af (ab 1 rfl (ae [0,3] ?_));refine aq (aD (jb (fun(y:Nat)(v:Value)(o:List Nat)=>y) (fun(y:Nat)(v:Value)(o:List Nat)=>put (put (emp) 0 (.val (.int .u64 (y:Int)))) 3 (.val (v))) (fun(y:Nat)(v:Value)(o:List Nat) H'=>Heap.le H H'∧il H' v o∧y≤x∧o++ah y=ah x) x (.slice none 0 0) [] (⟨.refl _,sB _,Nat.le_refl _,rfl⟩) ay ?_));rintro y v o H1 ⟨hle,bW,qQ,ho⟩;obtain⟨A,c,rfl⟩:=bE.form bW
 have cI:o.length≤(ah x).length:=by rw[←ho];simp
 have cj:(ah x).length≤3:=gm.2 (by rw[bG];omega);refine aq (af (ab 2 rfl (ae [0,3,5] ?_)));refine az rfl (fun hb=> ?_) (fun hb=> ?_)
 ·
  have hb:0<y:=by simpa using hb
  refine ax (aj [0,3] rfl ?_);refine aq (aD (aF rfl (ab 2 rfl (kp rfl rfl (by omega) (by omega) (cF ag rfl rfl rfl ⟨by omega,by omega⟩ (cU Tryz.underlying106 cW rfl rfl rfl rfl rfl rfl rfl ?_))))));intro gb bH;refine dY Tryz.underlying106 cW rfl rfl (bW.ins _ bH) (nC (Mu y 1000000000)) (rfl) (kV _) (by omega) (by omega) ?_;intro v1 H2 ha;refine ab 1 rfl (aA (aj [0,3] rfl ?_));refine aF rfl (ab 1 rfl (jy rfl rfl (by omega) (by omega) ⟨by omega,by omega⟩ (ab 1 rfl (aA ?_))))
  have fE:0<y:=by omega
  rw[uy fE]at ho;exact⟨y/B,v1,o ++ [y%B],Nat.div_lt_self fE (by decide),ay,(hle.trans (Heap.a0 _ bH)).trans ha.le,ha.lP rfl rfl,Nat.le_trans (Nat.div_le_self _ _) qQ,by simpa using ho⟩
 ·
  have hb:y=0:=by simpa using hb
  refine bC (aj [3] rfl ?_);refine af (ab 2 rfl (ae [2] ?_));refine aw ⟨.inr rfl,_,.tmp rfl (.nil),?_⟩;subst hb;exact⟨hle,wR (bW.my) (by rw[show o=ah x by simpa [oH]using ho];exact dU x) (by rw[show o=ah x by simpa [oH]using ho];exact ck x)⟩
end Go.ar
namespace Go.ar
open Go.Proofs Num
theorem Vg{H:Heap}{A:Option Addr}{c:Nat}{l:List Nat}(uB:∀x,x∈l→x<4294967296)(hr:Rd H A (U l))(hm:(l.length:Int)≤8796093022208):
 Fn Tryz.prog 102 #[.slice A l.length c] H (jV H (val l)):=by
 refine aW (args:=[_]) Tryz.func102 rfl rfl Tryz.ntmps102 rfl rfl fun w0=> ?_;refine aj [0] rfl ?_;refine af (ab 1 rfl (ae [0] ?_));refine af (ab 2 rfl (aO rfl rfl ⟨by omega,by omega⟩ (iF Tryz.underlying106 cW rfl rfl rfl (by omega) (by omega) (by omega) (by omega) ?_)));intro g hg;refine ab 1 rfl (ae [0,3] ?_);refine af (ab 1 rfl (ae [0,3,4] ?_));refine aq (af (ab 3 rfl (ae [0,3,4,12,13] ?_)));refine aD (nz (fun(k:Nat)(v:Value)(o:List Nat)(cr:Nat)=>l.length-k) (fun(k:Nat)(v:Value)(o:List Nat)(cr:Nat)=>put (put (put (put (put (emp) 0 (.val (.slice A l.length c))) 3 (.val (v))) 4 (.val (.int .u64 (cr:Int)))) 12 (.val (.int .i64 (l.length:Int)))) 13 (.val (.int .i64 (k:Int)))) (fun(k:Nat)(v:Value)(o:List Nat)(cr:Nat) H'=>Heap.le H H'∧il H' v o∧k≤l.length∧o.length=k∧Lt o∧cr≤4∧val o+B^k*cr=val (l.take k)) 0 _ [] 0 (⟨Heap.a0 _ hg,G8 rfl (by simp only[maxLen];omega),by omega,rfl,Lt.nil,by omega,by simp[val]⟩) ay ?_);rintro k v o cr H1 ⟨hle,bW,hk,cI,cV,iH,hv⟩;obtain⟨Ao,co,rfl⟩:=bE.form bW;refine af (ab 1 rfl (ae [0,3,4,12,13,14] ?_));refine aq (az rfl (fun hb=> ?_) (fun hb=> ?_))
 ·
  have hb:k<l.length:=by simpa using hb
  obtain⟨p,hp⟩:∃p,l[k]? = some p:=⟨_,List.getElem?_eq_getElem hb⟩;have Vh:=uB p (List.mem_of_getElem? hp);refine ax (aj [0,3,4,12,13] rfl ?_);refine aq (aD (af (ab 2 rfl (ae [0,3,4,5,12,13] ?_))));refine af (ab 2 rfl (a9 ag rfl rfl rfl rfl rfl (hr.le hle) (cH hp) (by omega) (by omega) fun _=>(cF ag rfl rfl rfl ⟨by omega,by omega⟩ (ab 1 rfl (aO rfl rfl ⟨by omega,by omega⟩ (ab 1 rfl (ae [0,3,6,12,13] ?_)))))));refine af (ab 2 rfl (kp rfl rfl (by omega) (by omega) (cF ag rfl rfl rfl ⟨by omega,by omega⟩ (cU Tryz.underlying106 cW rfl rfl rfl rfl rfl rfl rfl ?_))));intro gb bH;refine dY Tryz.underlying106 cW rfl rfl (bW.ins _ bH) (nC (y:=(p+cr)%1000000000) rfl) (rfl) (kV _) (by omega) (by omega) ?_;intro v1 H2 ha;refine ab 1 rfl (ae [0,3,6,12,13] ?_);refine aF rfl (ab 1 rfl (jy rfl rfl (by omega) (by omega) ⟨by omega,by omega⟩ (ab 1 rfl (aA (aj [0,3,4,12,13] rfl ?_)))));refine aF rfl (aO rfl rfl ⟨by omega,by omega⟩ (ab 1 rfl (aA ?_)));have dO:=wN (s:=p+cr) (u:=val (l.take (k+1))) cI hv (Nat.add_comm _ _) (ij hp)
  have e1:(((p+cr)%B:Nat):Int)=((p:Int)+cr)%1000000000:=rfl;exact⟨k+1,v1,o ++ [(p+cr)%B],(p+cr)/B,by omega,ay,(hle.trans (Heap.a0 _ bH)).trans ha.le,ha.lP rfl rfl,by omega,by simp[cI],cV.snoc (Nat.mod_lt _ jT),by rw[bG];omega,dO⟩
 ·
  have hb:l.length≤k:=by simpa using hb
  obtain rfl:k=l.length:=by omega
  rw[List.take_length]at hv;refine bC (aj [3,4] rfl ?_);refine GV (fun(v:Value)(o:List Nat)=>put (emp) 3 (.val (v))) (fun(v:Value)(o:List Nat) H'=>Heap.le H H'∧il H' v o∧o.length≤l.length+1∧Lt o∧val o=val l) ?_ ?_
  ·
   refine af (ab 2 rfl (ae [3,4,33] ?_));refine az rfl (fun hb=> ?_) (fun hb=> ?_)
   ·
    have hb:0<cr:=by simpa using hb
    refine aF rfl (ab 2 rfl (cF ag rfl rfl rfl ⟨by omega,by omega⟩ (cU Tryz.underlying106 cW rfl rfl rfl rfl rfl rfl rfl ?_)));intro gb bH;refine dY Tryz.underlying106 cW rfl rfl (bW.ins _ bH) (nC (y:=cr) rfl) (rfl) (kV _) (by omega) (by omega) ?_;intro v1 H2 ha;refine ab 1 rfl (aA ?_);exact⟨v1,o ++ [cr],(by repeat (first | exact iZ _ | refine dM rfl ?_ | refine dM (jA (by omega)) ?_)),(hle.trans (Heap.a0 _ bH)).trans ha.le,ha.lP rfl rfl,by simp;omega,cV.snoc (by rw[bG];omega),by rw[nA,cI];exact hv⟩
   have hb:cr=0:=by simpa using hb
   refine ax ?_;exact⟨_,o,(by repeat (first | exact iZ _ | refine dM rfl ?_ | refine dM (jA (by omega)) ?_)),hle,bW,by omega,cV,by rw[hb,Nat.mul_zero]at hv;omega⟩
  rintro v o H3 ⟨hle,bW,cI,cV,hv⟩;obtain⟨Ao,co,uC,lQ,je⟩:=bW.my;subst uC;refine af (ab 1 rfl (au rfl rfl (Hi cV je lQ (by omega)) ?_));intro v1 H4 hp;refine ab 1 rfl (ae [2] ?_);refine aw ⟨.inr rfl,_,.tmp rfl (.nil),?_⟩;exact⟨hle.trans hp.le,by have:=hp.nat;rwa [hv]at this⟩
end Go.ar
namespace Go.ar
open Go.Proofs Num
theorem Vi{H:Heap}{u v:Value}{x y:Nat}(hx:cB H u x)(hy:cB H v y)(hm:((ah x).length:Int)≤8796093022208)(aV:((ah y).length:Int)≤8796093022208):
 Fn Tryz.prog 115 #[u,v] H (jV H (x+y)):=by
 obtain⟨A,c,rfl,hc,hr⟩:=hx
 obtain⟨A',c',rfl,gF,cM⟩:=hy;refine aW (args:=[_,_]) Tryz.func115 rfl rfl Tryz.ntmps115 rfl rfl fun w0=> ?_;refine aj [0,1] rfl ?_;refine af (ab 1 rfl (ae [0,1] ?_));refine TX (fun(u:Value)(w:Value)(p:Nat)(q:Nat)=>put (put (emp) 0 (.val (u))) 1 (.val (w))) (fun(u:Value)(w:Value)(p:Nat)(q:Nat) H'=>H'=H∧cB H u p∧cB H w q∧p+q=x+y∧(ah q).length≤(ah p).length∧((ah p).length:Int)≤8796093022208) ?_ ?_
 ·
  refine af (ab 5 rfl (ae [0,1,13] ?_));refine az rfl (fun hb=> ?_) (fun hb=> ?_)
  ·
   simp at hb
   refine aF rfl (ab 4 rfl (aA ?_));exact⟨_,_,y,x,(by repeat (first | exact iZ _ | refine dM rfl ?_ | refine dM (jA (by omega)) ?_)),rfl,⟨A',c',rfl,gF,cM⟩,⟨A,c,rfl,hc,hr⟩,by omega,by omega,by omega⟩
  ·
   simp at hb
   refine ax ?_;exact⟨_,_,x,y,(by repeat (first | exact iZ _ | refine dM rfl ?_ | refine dM (jA (by omega)) ?_)),rfl,⟨A,c,rfl,hc,hr⟩,⟨A',c',rfl,gF,cM⟩,by omega,by omega,by omega⟩
 ·
  rintro u w p q H3 ⟨rfl,hp,hq,jU,hl,hm⟩;clear hr cM hc gF;obtain⟨A,c,rfl,hc,hr⟩:=hp;obtain⟨A',c',rfl,gF,cM⟩:=hq;have fJ:=(dU p).lt;have eD:=(dU q).lt;refine af (ab 2 rfl (aO rfl rfl ⟨by omega,by omega⟩ (iF Tryz.underlying106 cW rfl rfl rfl (by omega) (by omega) (by omega) (by omega) ?_)));intro g hg;refine ab 1 rfl (ae [0,1,5] ?_);refine af (ab 1 rfl (ae [0,1,5,6] ?_));refine aq (af (ab 3 rfl (ae [0,1,5,6,21,22] ?_)));refine aD (nz (fun(k:Nat)(v:Value)(o:List Nat)(cr:Nat)=>(ah p).length-k) (fun(k:Nat)(v:Value)(o:List Nat)(cr:Nat)=>put (put (put (put (put (put (emp) 0 (.val (.slice A (ah p).length c))) 1 (.val (.slice A' (ah q).length c'))) 5 (.val (v))) 6 (.val (.int .u32 (cr:Int)))) 21 (.val (.int .i64 ((ah p).length:Int)))) 22 (.val (.int .i64 (k:Int)))) (fun(k:Nat)(v:Value)(o:List Nat)(cr:Nat) H'=>Heap.le H3 H'∧il H' v o∧k≤(ah p).length∧o.length=k∧Lt o∧cr≤1∧val o+B^k*cr=val ((ah p).take k)+val ((ah q).take k)) 0 _ [] 0 (⟨Heap.a0 _ hg,G8 rfl (by simp only[maxLen];omega),by omega,rfl,Lt.nil,by omega,by simp[val]⟩) ay ?_);rintro k v o cr H1 ⟨hle,bW,hk,cI,cV,iH,hv⟩;obtain⟨Ao,co,rfl⟩:=bE.form bW
  refine af (ab 1 rfl (ae [0,1,5,6,21,22,23] ?_));refine aq (az rfl (fun hb=> ?_) (fun hb=> ?_))
  ·
   have hb:k<(ah p).length:=by simpa using hb
   obtain⟨d,hd⟩:∃d,(ah p)[k]? = some d:=⟨_,List.getElem?_eq_getElem hb⟩;have jf:=fJ.get hd;rw[bG]at jf;obtain⟨e,he⟩:∃e,e=((ah q)[k]?).getD 0:=⟨_,rfl⟩
   have wS:e<1000000000:=by
    cases hq:(ah q)[k]? with
    | none=>rw[hq]at he;simp at he;omega
    | some z=>rw[hq]at he;simp at he;have:=eD.get hq;rw[bG]at this;omega
   refine ax (aj [0,1,5,6,21,22] rfl ?_);refine aq (aD (af (ab 2 rfl (ae [0,1,5,6,7,21,22] ?_))));refine af (ab 2 rfl (a9 ag rfl rfl rfl rfl rfl (hr.le hle) (cH hd) (by omega) (by omega) fun _=>(ab 1 rfl (aO rfl rfl ⟨by omega,by omega⟩ (ab 1 rfl (ae [0,1,5,7,8,21,22] ?_))))));refine oD (fun(sv:Nat)=>put (put (put (put (put (put (emp) 0 (.val (.slice A (ah p).length c))) 1 (.val (.slice A' (ah q).length c'))) 5 (.val (.slice Ao o.length co))) 8 (.val (.int .u32 (sv:Int)))) 21 (.val (.int .i64 ((ah p).length:Int)))) 22 (.val (.int .i64 (k:Int)))) (fun(sv:Nat) H'=>H'=H1∧sv=d+cr+e) ?_ ?_
   ·
    refine af (ab 4 rfl (ae [0,1,5,7,8,21,22,34] ?_));refine az rfl (fun hb=> ?_) (fun hb=> ?_)
    ·
     have hb:k<(ah q).length:=by simpa using hb
     have hz:(ah q)[k]? = some e:=by rw[List.getElem?_eq_getElem hb]at he⊢;simp at he;rw[he]
     refine aF rfl (ab 3 rfl (a9 ag rfl rfl rfl rfl rfl (cM.le hle) (cH hz) (by omega) (by omega) fun _=>(aO rfl rfl ⟨by omega,by omega⟩ (ab 1 rfl (aA ?_)))));exact⟨d+cr+e,(by repeat (first | exact iZ _ | refine dM rfl ?_ | refine dM (jA (by omega)) ?_)),rfl,rfl⟩
    have hb:(ah q).length≤k:=by simpa using hb
    obtain rfl:e=0:=by rw[he,List.getElem?_eq_none hb];rfl
    refine ax ?_;exact⟨d+cr,(by repeat (first | exact iZ _ | refine dM rfl ?_ | refine dM (jA (by omega)) ?_)),rfl,rfl⟩
   rintro sv H4 ⟨rfl,qR⟩;refine af (ab 1 rfl (jy rfl rfl (by omega) (by omega) ⟨by omega,by omega⟩ (ab 1 rfl (ae [0,1,5,6,8,21,22] ?_))));refine aF rfl (ab 2 rfl (kp rfl rfl (by omega) (by omega) (cU Tryz.underlying106 cW rfl rfl rfl rfl rfl rfl rfl ?_)));intro gb bH;refine dY Tryz.underlying106 cW rfl rfl (bW.ins _ bH) (nC (y:=sv%1000000000) rfl) (rfl) (kV _) (by omega) (by omega) ?_;intro v1 H2 ha;refine ab 1 rfl (aA (aj [0,1,5,6,21,22] rfl ?_));refine aF rfl (aO rfl rfl ⟨by omega,by omega⟩ (ab 1 rfl (aA ?_)));have dO:=wN (s:=cr+(d+e)) (u:=val ((ah p).take (k+1))+val ((ah q).take (k+1))) cI hv rfl (by rw[ij hd,sy,←he,Nat.mul_add];omega)
   obtain rfl:sv=cr+(d+e):=by omega
   exact⟨k+1,v1,o ++ [(cr+(d+e))%B],(cr+(d+e))/B,by omega,ay,(hle.trans (Heap.a0 _ bH)).trans ha.le,ha.lP rfl rfl,by omega,by simp[cI],cV.snoc (Nat.mod_lt _ jT),by rw[bG];omega,dO⟩
  have hb:(ah p).length≤k:=by simpa using hb
  obtain rfl:k=(ah p).length:=by omega
  rw[List.take_length,List.take_of_length_le hl,ck,ck]at hv;refine bC (aj [5,6] rfl ?_);refine aq (af (ab 2 rfl (ae [5,6,50] ?_)));refine az rfl (fun hb=> ?_) (fun hb=> ?_)
  ·
   have hb:0<cr:=by simpa using hb
   refine aF rfl (ab 2 rfl (cU Tryz.underlying106 cW rfl rfl rfl rfl rfl rfl rfl ?_));intro gb bH;refine dY Tryz.underlying106 cW rfl rfl (bW.ins _ bH) (nC (y:=cr) rfl) (rfl) (kV _) (by omega) (by omega) ?_;intro v1 H2 ha;refine ab 1 rfl (aA (aj [5] rfl ?_));refine af (ab 2 rfl (ae [4] ?_));refine aw ⟨.inr rfl,_,.tmp rfl (.nil),?_⟩
   have uC:val (o ++ [cr])=x+y:=by rw[nA,cI,hv];exact jU
   exact⟨(hle.trans (Heap.a0 _ bH)).trans ha.le,wR (ha.lP (a:=o) (b:=[cr]) rfl rfl).my ⟨cV.snoc (by rw[bG];omega),fun z hz=>by simp at hz;omega⟩ uC⟩
  have hb:cr=0:=by simpa using hb
  refine ax (aj [5] rfl ?_);refine af (ab 2 rfl (ae [4] ?_));refine aw ⟨.inr rfl,_,.tmp rfl (.nil),?_⟩;rw[hb,Nat.mul_zero,Nat.add_zero]at hv;refine⟨hle,wR bW.my (last_pos cV cI ?_) (by rw[hv];exact jU)⟩
  rcases Nat.eq_zero_or_pos (ah p).length with h0 | h0
  ·exact .inl h0
  have:=(dU p).pos (by intro e0;rw[e0]at h0;simp at h0);rw[ck]at this;exact .inr (by rw[hv];omega)
end Go.ar
namespace Go.ar
open Go.Proofs Num
theorem My{H:Heap}{u v:Value}{x y:Nat}(hx:cB H u x)(hy:cB H v y)(qQ:y≤x)(hm:((ah x).length:Int)≤8796093022208):
 Fn Tryz.prog 117 #[u,v] H (jV H (x-y)):=by
 obtain⟨A,c,rfl,hc,hr⟩:=hx
 obtain⟨A',c',rfl,gF,cM⟩:=hy
 have fJ:=(dU x).lt
 have eD:=(dU y).lt
 have hl:=jB qQ;refine aW (args:=[_,_]) Tryz.func117 rfl rfl Tryz.ntmps117 rfl rfl fun w0=> ?_;refine aj [0,1] rfl ?_;refine af (ab 1 rfl (ae [0,1] ?_));refine af (ab 2 rfl (iF Tryz.underlying106 cW rfl rfl rfl (by omega) (by omega) (by omega) (by omega) ?_));intro g hg;refine ab 1 rfl (ae [0,1,5] ?_);refine af (ab 1 rfl (ae [0,1,5,6] ?_));refine aq (af (ab 3 rfl (ae [0,1,5,6,13,14] ?_)));refine aD (nz (fun(k:Nat)(v:Value)(o:List Nat)(br:Nat)=>(ah x).length-k) (fun(k:Nat)(v:Value)(o:List Nat)(br:Nat)=>put (put (put (put (put (put (emp) 0 (.val (.slice A (ah x).length c))) 1 (.val (.slice A' (ah y).length c'))) 5 (.val (v))) 6 (.val (.int .i64 (br:Int)))) 13 (.val (.int .i64 ((ah x).length:Int)))) 14 (.val (.int .i64 (k:Int)))) (fun(k:Nat)(v:Value)(o:List Nat)(br:Nat) H'=>Heap.le H H'∧il H' v o∧k≤(ah x).length∧o.length=k∧Lt o∧br≤1∧val ((ah x).take k)+B^k*br=val o+val ((ah y).take k)) 0 _ [] 0 (⟨Heap.a0 _ hg,G8 rfl (by simp only[maxLen];omega),by omega,rfl,Lt.nil,by omega,by simp[val]⟩) ay ?_);rintro k v o br H1 ⟨hle,bW,hk,cI,cV,pQ,hv⟩;obtain⟨Ao,co,rfl⟩:=bE.form bW;refine af (vr 1 ?_)
 refine ae [0,1,5,6,13,14,15] ?_;refine aq (az rfl (fun hb=> ?_) (fun hb=> ?_))
 ·
  have hb:k<(ah x).length:=by simpa using hb
  obtain⟨d,hd⟩:∃d,(ah x)[k]? = some d:=⟨_,List.getElem?_eq_getElem hb⟩;have jf:=fJ.get hd;rw[bG]at jf;obtain⟨e,he⟩:∃e,e=((ah y)[k]?).getD 0:=⟨_,rfl⟩
  have wS:e<1000000000:=by
   cases hq:(ah y)[k]? with
   | none=>rw[hq]at he;simp at he;omega
   | some z=>rw[hq]at he;simp at he;have:=eD.get hq;rw[bG]at this;omega
  refine ax (aj [0,1,5,6,13,14] rfl ?_);refine aq (aD (af (ab 2 rfl (ae [0,1,5,6,7,13,14] ?_))));refine af (ab 2 rfl (a9 ag rfl rfl rfl rfl rfl (hr.le hle) (cH hd) (by omega) (by omega) fun _=>(cF ag rfl rfl rfl ⟨by omega,by omega⟩ (ab 1 rfl (di rfl rfl ⟨by omega,by omega⟩ (ab 1 rfl (ae [0,1,5,7,8,13,14] ?_)))))));refine oD (fun(sv:Int)=>put (put (put (put (put (put (emp) 0 (.val (.slice A (ah x).length c))) 1 (.val (.slice A' (ah y).length c'))) 5 (.val (.slice Ao o.length co))) 8 (.val (.int .i64 sv))) 13 (.val (.int .i64 ((ah x).length:Int)))) 14 (.val (.int .i64 (k:Int)))) (fun(sv:Int) H'=>H'=H1∧sv=(d:Int)-br-e) ?_ ?_
  ·
   refine af (ab 4 rfl (ae [0,1,5,7,8,13,14,27] ?_));refine az rfl (fun hb=> ?_) (fun hb=> ?_)
   ·
    have hb:k<(ah y).length:=by simpa using hb
    have hz:(ah y)[k]? = some e:=by rw[List.getElem?_eq_getElem hb]at he⊢;simp at he;rw[he]
    refine aF rfl (ab 3 rfl (a9 ag rfl rfl rfl rfl rfl (cM.le hle) (cH hz) (by omega) (by omega) fun _=>(cF ag rfl rfl rfl ⟨by omega,by omega⟩ (di rfl rfl ⟨by omega,by omega⟩ (ab 1 rfl (aA ?_))))));exact⟨(d:Int)-br-e,(by repeat (first | exact iZ _ | refine dM rfl ?_ | refine dM (jA (by omega)) ?_)),rfl,rfl⟩
   have hb:(ah y).length≤k:=by simpa using hb
   have Dl:e=0:=by rw[he,List.getElem?_eq_none hb];rfl
   refine ax ?_;exact⟨(d:Int)-br,(by repeat (first | exact iZ _ | refine dM rfl ?_ | refine dM (jA (by omega)) ?_)),rfl,by omega⟩
  ·
   rintro sv H4 ⟨rfl,qR⟩;refine af (ab 1 rfl (ae [0,1,5,6,8,13,14] ?_));refine aq (af (ab 2 rfl (ae [0,1,5,6,8,13,14,36] ?_)));refine az rfl (fun hb=> ?_) (fun hb=> ?_)
   ·
    have hb:sv<0:=by simpa using hb
    refine af (ab 1 rfl (aO rfl rfl ⟨by omega,by omega⟩ (ab 1 rfl (ae [0,1,5,8,13,14] ?_))));refine aF rfl (ab 1 rfl (aA (aj [0,1,5,6,8,13,14] rfl ?_)));refine aF rfl (ab 2 rfl (cF ag rfl rfl rfl ⟨by omega,by omega⟩ (cU Tryz.underlying106 cW rfl rfl rfl rfl rfl rfl rfl ?_)));intro gb bH;refine dY Tryz.underlying106 cW rfl rfl (bW.ins _ bH) (nC (y:=if sv<0 then d+1000000000-br-e else d-br-e) (by split <;> omega)) (rfl) (kV _) (by omega) (by omega) ?_;intro v1 H2 ha
    (first|rw[if_pos hb]at ha|rw[if_neg (by omega)]at ha)
    refine ab 1 rfl (aA (aj [0,1,5,6,13,14] rfl ?_));refine aF rfl (aO rfl rfl ⟨by omega,by omega⟩ (ab 1 rfl (aA ?_)));have dO:=zr (s:=d+1000000000-br-e) (br':=1) (d:=d) (e:=e) cI hv (by rw[bG];omega) (ij hd) (show val ((ah y).take (k+1))=val ((ah y).take k)+B^k*e by rw[sy,←he]);exact⟨k+1,v1,o ++ [d+1000000000-br-e],1,by omega,ay,(hle.trans (Heap.a0 _ bH)).trans ha.le,ha.lP rfl rfl,by omega,by simp[cI],cV.snoc (by rw[bG];omega),by omega,dO⟩
   have hb:0≤sv:=by simpa using hb
   refine ax (aj [0,1,5,6,8,13,14] rfl ?_);refine aF rfl (ab 2 rfl (cF ag rfl rfl rfl ⟨by omega,by omega⟩ (cU Tryz.underlying106 cW rfl rfl rfl rfl rfl rfl rfl ?_)));intro gb bH;refine dY Tryz.underlying106 cW rfl rfl (bW.ins _ bH) (nC (y:=if sv<0 then d+1000000000-br-e else d-br-e) (by split <;> omega)) (rfl) (kV _) (by omega) (by omega) ?_;intro v1 H2 ha
   (first|rw[if_pos hb]at ha|rw[if_neg (by omega)]at ha)
   refine ab 1 rfl (aA (aj [0,1,5,6,13,14] rfl ?_));refine aF rfl (aO rfl rfl ⟨by omega,by omega⟩ (ab 1 rfl (aA ?_)));have dO:=zr (s:=d-br-e) (br':=0) (d:=d) (e:=e) cI hv (by omega) (ij hd) (show val ((ah y).take (k+1))=val ((ah y).take k)+B^k*e by rw[sy,←he]);exact⟨k+1,v1,o ++ [d-br-e],0,by omega,ay,(hle.trans (Heap.a0 _ bH)).trans ha.le,ha.lP rfl rfl,by omega,by simp[cI],cV.snoc (by rw[bG];omega),by omega,dO⟩
 ·
  have hb:(ah x).length≤k:=by simpa using hb
  obtain rfl:k=(ah x).length:=by omega
  rw[List.take_length,List.take_of_length_le hl,ck,ck]at hv;have uC:=pJ cV;rw[cI]at uC
  have Hj:br=0:=by
   rcases Nat.eq_zero_or_pos br with h | h
   ·exact h
   ·
    obtain rfl:br=1:=by omega
    omega
  obtain⟨Ao',co',Vj,lQ,je⟩:=bW.my
  cases Vj
  refine bC (aj [5] rfl ?_);refine af (ab 1 rfl (au rfl rfl (Hi cV je lQ (by omega)) ?_));intro v1 H4 hp;refine ab 1 rfl (ae [4] ?_);refine aw ⟨.inr rfl,_,.tmp rfl (.nil),?_⟩;exact⟨hle.trans hp.le,by have:=hp.nat;rwa [show val o=x-y by rw[Hj]at hv;omega]at this⟩
end Go.ar
namespace Go.ar
open Go.Proofs Num
theorem sD(H:Heap)(g n:Nat):ins H g ⟨cA [.int .u32 0] (n*1),n*1,92,true⟩=ins H g (cL (List.replicate n 0) n):=Ve (k:=n) rfl
theorem sE{l:List Nat}{k y:Nat}(h:k<l.length):(l.set k y).take (k+1)=l.take k ++ [y]:=Vd h
theorem Dm{q m r x:Nat}(h:q*m+r=x)(hr:r<m):x/m=q∧x%m=r:=by
 subst h
 refine⟨?_,?_⟩
 ·rw[Nat.mul_comm,Nat.mul_add_div (by omega),Nat.div_eq_of_lt hr,Nat.add_zero]
 ·rw[Nat.mul_comm,Nat.mul_add_mod,Nat.mod_eq_of_lt hr]
def Vk(H:Heap)(n x:Nat)(v:Value)(H':Heap):Prop:=∃g l,H g=none∧v = .slice (some ⟨g,0,none⟩) n n∧H'=ins H g (cL l n)∧l.length=n∧Lt l∧val l=x
theorem Dn{H:Heap}{v:Value}{l:List Nat}(h:fI H v l)(a7:Lt l)(hm:(l.length:Int)≤35184372088832):Fn Tryz.prog 111 #[v] H (jV H (val l)):=by
 obtain⟨A,c,rfl,hc,hr⟩:=h
 exact Hi a7 hr hc hm
theorem MA{H:Heap}{u:Value}{l:List Nat}{m:Nat}(hu:fI H u l)(hl:Lt l)(hm:m<1000000000)(hs:(l.length:Int)≤8796093022208):
 Fn Tryz.prog 120 #[u,.int .u64 (m:Int)] H (Vk H (l.length+1) (val l*m)):=by
 obtain⟨A,c,rfl,hc,hr⟩:=hu;refine aW (args:=[_,_]) Tryz.func120 rfl rfl Tryz.ntmps120 rfl rfl fun w0=> ?_;refine aj [0,1] rfl ?_;refine af (ab 1 rfl (ae [0,1] ?_));refine af (ab 2 rfl (aO rfl rfl ⟨by omega,by omega⟩ (iF Tryz.underlying106 cW rfl rfl rfl (by omega) (by omega) (by omega) (by omega) ?_)));intro g hg;rw[show ((l.length:Int)+1).toNat=l.length+1 from by omega,sD];have mz:=fun e=>hr.le (Heap.a0 (g:=g) e hg);refine ab 1 rfl (ae [0,1,5] ?_);refine af (ab 1 rfl (ae [0,1,5,6] ?_));refine aq (af (ab 3 rfl (ae [0,1,5,6,14,15] ?_)));refine aD (jb (fun(k:Nat)(o:List Nat)(cr:Nat)=>l.length-k) (fun(k:Nat)(o:List Nat)(cr:Nat)=>put (put (put (put (put (put (emp) 0 (.val (.slice A l.length c))) 1 (.val (.int .u64 (m:Int)))) 5 (.val (.slice (some ⟨g,0,none⟩) (l.length+1) (l.length+1)))) 6 (.val (.int .u64 (cr:Int)))) 14 (.val (.int .i64 (l.length:Int)))) 15 (.val (.int .i64 (k:Int)))) (fun(k:Nat)(o:List Nat)(cr:Nat) H'=>H'=ins H g (cL o (l.length+1))∧k≤l.length∧o.length=l.length+1∧Lt o∧cr<1000000000∧val (o.take k)+B^k*cr=val (l.take k)*m) 0 _ 0 (⟨rfl,by omega,by simp,Lt.replicate _,by omega,by simp[val]⟩) ay ?_)
 rintro k o cr H1 ⟨rfl,hk,cI,cV,iH,hv⟩;refine af (ab 1 rfl (ae [0,1,5,6,14,15,16] ?_));refine aq (az rfl (fun hb=> ?_) (fun hb=> ?_))
 ·
  have hb:k<l.length:=by simpa using hb
  obtain⟨d,hd⟩:∃d,l[k]? = some d:=⟨_,List.getElem?_eq_getElem hb⟩;have jf:=hl.get hd;rw[bG]at jf;have MB:d*m≤999999999*999999999:=Nat.mul_le_mul (by omega) (by omega)
  have MC:(d:Int)*(m:Int)=((d*m:Nat):Int):=by simp
  obtain⟨dm,acN⟩:∃dm,dm=d*m:=⟨_,rfl⟩;refine ax (aj [0,1,5,6,14,15] rfl ?_);refine aq (aD (af (ab 2 rfl (ae [0,1,5,6,7,14,15] ?_))));refine af (ab 2 rfl (a9 ag rfl rfl rfl rfl rfl (mz _) (cH hd) (by omega) (by omega) fun _=>(cF ag rfl rfl rfl ⟨by omega,by omega⟩ (ab 1 rfl (gG rfl rfl ⟨by omega,by omega⟩ (ab 1 rfl (aO rfl rfl ⟨by omega,by omega⟩ (ab 1 rfl (ae [0,1,5,7,8,14,15] ?_)))))))));refine af (ab 3 rfl (kp rfl rfl (by omega) (by omega) (cF ag rfl rfl rfl ⟨by omega,by omega⟩ ?_)));obtain⟨ti,ak,al⟩:=kU;refine dP (.inl rfl) ag rfl rfl rfl (by omega) (by omega) (bx _ _ _) rfl (by rw[kW];omega) ak al (fun _=>rfl) rfl rfl rfl fun _=> ?_;refine ae [0,1,5,8,14,15] ?_;refine aF rfl (ab 1 rfl (jy rfl rfl (by omega) (by omega) ⟨by omega,by omega⟩ (ab 1 rfl (aA (aj [0,1,5,6,14,15] rfl ?_)))));refine aF rfl (aO rfl rfl ⟨by omega,by omega⟩ (ab 1 rfl (aA ?_)));have dO:=wN (s:=d*m+cr) (a:=cr) (b:=d*m) (u:=val (l.take (k+1))*m) (by simp;omega) hv (by omega) (by rw[ij hd,Nat.add_mul,Nat.mul_assoc])
  rw[←sE (by omega)]at dO;exact⟨k+1,o.set k ((d*m+cr)%B),(d*m+cr)/B,by omega,ay,by rw[pP (y:=(d*m+cr)%B) (by rw[bG];omega)];rfl,by omega,by simp[cI],cV.set (Nat.mod_lt _ jT),by rw[bG];omega,dO⟩
 ·
  have hb:l.length≤k:=by simpa using hb
  obtain rfl:k=l.length:=by omega
  rw[List.take_length]at hv;refine bC (aj [0,5,6] rfl ?_);refine af (ab 4 rfl (cF ag rfl rfl rfl ⟨by omega,by omega⟩ ?_));obtain⟨ti,ak,al⟩:=kU;refine dP (.inl rfl) ag rfl rfl rfl (by omega) (by omega) (bx _ _ _) rfl (by rw[kW];omega) ak al (fun _=>rfl) rfl rfl rfl fun _=> ?_;refine ae [5] ?_;refine af (ab 2 rfl (ae [4] ?_));refine aw ⟨.inr rfl,_,.tmp rfl (.nil),?_⟩;refine⟨g,o.set l.length cr,hg,rfl,?_,by simp[cI],cV.set (by rw[bG];omega),?_⟩
  ·rw[pP (y:=cr) rfl];rfl
  ·rw[←List.take_length (l:=o.set l.length cr),List.length_set,cI,sE (by omega),nA,List.length_take,Nat.min_eq_left (by omega)];exact hv
theorem MD{H:Heap}{u:Value}{l:List Nat}{m:Nat}(hu:fI H u l)(hl:Lt l)(hm:m<1000000000)(zw:0<m)(hs:(l.length:Int)≤8796093022208):
 Fn Tryz.prog 119 #[u,.int .u64 (m:Int)] H (fun v H'=>Heap.le H H'∧∃q,v = .tuple #[q,.int .u64 ((val l%m:Nat):Int)]∧cB H' q (val l/m)):=by
 obtain⟨A,c,rfl,hc,hr⟩:=hu;refine aW (args:=[_,_]) Tryz.func119 rfl rfl Tryz.ntmps119 rfl rfl fun w0=> ?_;refine aj [0,1] rfl ?_;refine af (ab 2 rfl (ae [0,1] ?_));refine af (ab 2 rfl (iF Tryz.underlying106 cW rfl rfl rfl (by omega) (by omega) (by omega) (by omega) ?_));intro g hg;rw[show ((l.length:Int)).toNat=l.length from by omega,sD];have mz:=fun e=>hr.le (Heap.a0 (g:=g) e hg);refine ab 1 rfl (ae [0,1,6] ?_);refine af (ab 1 rfl (ae [0,1,6,7] ?_));refine aq (af (ab 2 rfl (di rfl rfl ⟨by omega,by omega⟩ (ab 1 rfl (ae [0,1,6,7,8] ?_)))));refine aD (jb (fun(k:Nat)(o:List Nat)(rs:Nat)=>k) (fun(k:Nat)(o:List Nat)(rs:Nat)=>put (put (put (put (put (emp) 0 (.val (.slice A l.length c))) 1 (.val (.int .u64 (m:Int)))) 6 (.val (.slice (some ⟨g,0,none⟩) l.length l.length))) 7 (.val (.int .u64 (rs:Int)))) 8 (.val (.int .i64 ((k:Int)-1)))) (fun(k:Nat)(o:List Nat)(rs:Nat) H'=>H'=ins H g (cL o l.length)∧k≤l.length∧o.length=l.length∧Lt o∧rs<m∧val (o.drop k)*m+rs=val (l.drop k)) l.length _ 0 (⟨rfl,by omega,by simp,Lt.replicate _,by omega,by simp[val]⟩) ay ?_);rintro k o rs H1 ⟨rfl,hk,cI,cV,sG,hv⟩;refine aq ?_
 refine af (ab 2 rfl (ae [0,1,6,7,8,17] ?_));refine az rfl (fun hb=> ?_) (fun hb=> ?_)
 ·
  have hb:1≤k:=by simp at hb;omega
  obtain⟨k,rfl⟩:∃j,k=j+1:=⟨k-1,by omega⟩;obtain⟨d,hd⟩:∃d,l[k]? = some d:=⟨_,List.getElem?_eq_getElem (by omega)⟩;have jf:=hl.get hd;rw[bG]at jf
  have hj:(((k+1:Nat):Int)-1).toNat=k:=by omega
  have jg:((rs:Int)*1000000000+(d:Int))/(m:Int)<1000000000:=Int.ediv_lt_of_lt_mul (by omega) (by omega);have bQ:0≤((rs:Int)*1000000000+(d:Int))/(m:Int):=Int.ediv_nonneg (by omega) (by omega);refine ax (aj [0,1,6,7,8] rfl ?_);refine aq (aD (af (ab 1 rfl (gG rfl rfl ⟨by omega,by omega⟩ (ab 2 rfl (a9 ag rfl rfl rfl rfl rfl (mz _) (by rw[hj];exact cH hd) (by omega) (by omega) fun _=> ?_))))));refine cF ag rfl rfl rfl ⟨by omega,by omega⟩ (aO rfl rfl ⟨by omega,by omega⟩ (ab 1 rfl (ae [0,1,6,8,9] ?_)));refine af (ab 4 rfl (jy rfl rfl (by omega) (by omega) ⟨by omega,by omega⟩ (cF ag rfl rfl rfl ⟨by omega,by omega⟩ ?_)));obtain⟨ti,ak,al⟩:=kU;refine dP (.inl rfl) ag rfl rfl rfl (by omega) (by omega) (bx _ _ _) rfl (by rw[kW];omega) ak al (fun _=>rfl) rfl rfl rfl fun _=> ?_;refine ae [0,1,6,8,9] ?_;refine aF rfl (ab 2 rfl (kp rfl rfl (by omega) (by omega) (ab 1 rfl (aA (aj [0,1,6,7,8] rfl ?_)))));refine aF rfl (ab 1 rfl (di rfl rfl ⟨by omega,by omega⟩ (ab 1 rfl (aA ?_))))
  have hq:(rs*1000000000+d)/m<1000000000:=by rw[Nat.div_lt_iff_lt_mul zw];omega
  refine⟨k,o.set k ((rs*1000000000+d)/m),(rs*1000000000+d)%m,by omega,ay,by rw[pP (y:=(rs*1000000000+d)/m) (by simp)];rw[hj],by omega,by simp[cI],cV.set (by rw[bG];omega),Nat.mod_lt _ zw,?_⟩;rw[set_drop (by omega),wO hd,fH,fH,←hv];have:=Nat.div_add_mod (rs*1000000000+d) m
  simp only[bG,Nat.add_mul,Nat.mul_add,Nat.mul_assoc]
  rw[Nat.mul_comm m]at this
  omega
 ·
  have hb:k=0:=by simp at hb;omega
  subst hb
  simp only[List.drop_zero]at hv
  refine bC (aj [6,7] rfl ?_);refine af (ab 1 rfl (au rfl rfl (Dn (uA _ _ o _ _ cI.symm (Nat.le_refl _)) cV (by omega)) ?_));intro v1 H4 hp;refine ab 3 rfl (ae [4,5] ?_);refine aw ⟨.inr rfl,_,.tmp rfl (.tmp rfl (.nil)),?_⟩;refine⟨(Heap.a0 _ hg).trans hp.le,v1,?_,?_⟩
  ·rw[(Dm hv sG).2];rfl
  ·rw[(Dm hv sG).1];exact hp.nat
end Go.ar
namespace Go.ar
open Go.Proofs Num
def nD(o:List Nat)(p:Nat):Prop:=∀t z,p≤t→o[t]? = some z→z=0
theorem nD.set{o:List Nat}{p t y:Nat}(h:nD o p)(ht:t<p):nD (o.set t y) p:=fun s z hs hz=>by
 rw[List.getElem?_set_ne (by omega)]at hz
 exact h s z hs hz
theorem nD.Vl{o:List Nat}{p y:Nat}(h:nD o p):nD (o.set p y) (p+1):=fun s z hs hz=>by
 rw[List.getElem?_set_ne (by omega)]at hz
 exact h s z (by omega) hz
theorem ME(n p:Nat):nD (List.replicate n 0) p:=fun t z _ hz=>by
 rw[List.getElem?_replicate]at hz
 split at hz
 ·cases hz;rfl
 ·cases hz
theorem MF{o:List Nat}{i j e cr s X Y P d:Nat}(he:o[i+j]? = some e)(hv:val o+B^(i+j)*cr=X+B^i*d*Y)(hs:s=d*P+e+cr):
  val (o.set (i+j) (s%B))+B^(i+(j+1))*(s/B)=X+B^i*d*(Y+B^j*P):=by
 have h1:=Mq (y:=s%B) he
 have h2:B^(i+j)*s=B^(i+j)*(s%B)+B^(i+j)*(B*(s/B)):=by rw[←Nat.mul_add,Nat.mod_add_div]
 have h3:B^(i+j)*s=B^(i+j)*(d*P)+B^(i+j)*e+B^(i+j)*cr:=by rw[hs,Nat.mul_add,Nat.mul_add]
 have h4:B^i*d*(B^j*P)=B^(i+j)*(d*P):=by rw[Nat.pow_add,Nat.mul_assoc,Nat.mul_assoc,Nat.mul_left_comm d]
 rw[Nat.mul_add,h4,←Nat.add_assoc i j 1,Nat.pow_succ,Nat.mul_assoc]
 omega
theorem uD{H:Heap}{u v:Value}{x y:Nat}(hx:cB H u x)(hy:cB H v y)(hm:((ah x).length:Int)≤8796093022208)(aV:((ah y).length:Int)≤8796093022208):
 Fn Tryz.prog 106 #[u,v] H (jV H (x*y)):=by
 obtain⟨A,c,rfl,hc,hr⟩:=hx
 obtain⟨A',c',rfl,gF,cM⟩:=hy
 have fJ:=(dU x).lt
 have eD:=(dU y).lt;refine aW (args:=[_,_]) Tryz.func106 rfl rfl Tryz.ntmps106 rfl rfl fun w0=> ?_;refine aj [0,1] rfl ?_;refine af (ab 1 rfl (ae [0,1] ?_));refine aq ?_
 by_cases gn:(ah x).length=0
 ·
  skip
  refine af (ab 2 rfl (aS true rfl rfl (lM (by omega)) (ab 5 rfl (ae [0,1,17] ?_))));refine eL rfl (af (ab 1 rfl (ae [4] ?_)));refine aw ⟨.inr rfl,_,.tmp rfl (.nil),?_⟩;exact⟨.refl _,by have:x=0:=(by rw[←ck x,List.eq_nil_of_length_eq_zero gn];rfl);rw[this,Nat.zero_mul];exact qP H⟩
 ·
  skip
  refine af (ab 2 rfl (aS false rfl rfl (lN (by omega)) (ab 5 rfl (ae [0,1,17] ?_))));refine az rfl (fun hb=> ?_) (fun hb=> ?_)
  ·
   have hb:(ah y).length=0:=by simpa using hb
   refine af (ab 1 rfl (ae [4] ?_));refine aw ⟨.inr rfl,_,.tmp rfl (.nil),?_⟩;exact⟨.refl _,by have:y=0:=(by rw[←ck y,List.eq_nil_of_length_eq_zero hb];rfl);rw[this,Nat.mul_zero];exact qP H⟩
  have fE:(ah y).length≠0:=by simpa using hb
  refine ax (aj [0,1] rfl ?_);refine af (ab 4 rfl (aO rfl rfl ⟨by omega,by omega⟩ (iF Tryz.underlying106 cW rfl rfl rfl (by omega) (by omega) (by omega) (by omega) ?_)));intro g hg;rw[show (((ah x).length:Int)+((ah y).length:Int)).toNat=((ah x).length+(ah y).length)from by omega,sD];have mz:=fun e=>hr.le (Heap.a0 (g:=g) e hg);have zx:=fun e=>cM.le (Heap.a0 (g:=g) e hg);refine ab 1 rfl (ae [0,1,5] ?_);refine aq (af (ab 3 rfl (ae [0,1,5,25,26] ?_)));refine aD (jS (fun(i:Nat)(o:List Nat)=>(ah x).length-i) (fun(i:Nat)(o:List Nat)=>put (put (put (put (put (emp) 0 (.val (.slice A (ah x).length c))) 1 (.val (.slice A' (ah y).length c'))) 5 (.val (.slice (some ⟨g,0,none⟩) ((ah x).length+(ah y).length) ((ah x).length+(ah y).length)))) 25 (.val (.int .i64 ((ah x).length:Int)))) 26 (.val (.int .i64 (i:Int)))) (fun(i:Nat)(o:List Nat) H'=>H'=ins H g (cL o ((ah x).length+(ah y).length))∧i≤(ah x).length∧o.length=((ah x).length+(ah y).length)∧Lt o∧nD o (i+(ah y).length)∧val o=val ((ah x).take i)*y) 0 _ (⟨rfl,by omega,by simp,Lt.replicate _,ME _ _,by simp[val,Mr]⟩) ay ?_);rintro i o H1 ⟨rfl,hi,cI,cV,hz,hv⟩;refine af ?_
  refine ab 1 rfl (ae [0,1,5,25,26,27] ?_);refine aq (az rfl (fun hb=> ?_) (fun hb=> ?_))
  ·
   have hb:i<(ah x).length:=by simpa using hb
   obtain⟨d,hd⟩:∃d,(ah x)[i]? = some d:=⟨_,List.getElem?_eq_getElem hb⟩;have jf:=fJ.get hd;rw[bG]at jf;refine ax (aj [0,1,5,25,26] rfl ?_);refine aq (aD (af (ab 2 rfl (ae [0,1,5,6,25,26] ?_))));refine af (ab 1 rfl (ae [0,1,5,6,7,25,26] ?_));refine aq (af (ab 3 rfl (ae [0,1,5,6,7,25,26,30,31] ?_)));refine aD (jb (fun(j:Nat)(o2:List Nat)(cr:Nat)=>(ah y).length-j) (fun(j:Nat)(o2:List Nat)(cr:Nat)=>put (put (put (put (put (put (put (put (put (emp) 0 (.val (.slice A (ah x).length c))) 1 (.val (.slice A' (ah y).length c'))) 5 (.val (.slice (some ⟨g,0,none⟩) ((ah x).length+(ah y).length) ((ah x).length+(ah y).length)))) 6 (.val (.int .i64 (i:Int)))) 7 (.val (.int .u64 (cr:Int)))) 25 (.val (.int .i64 ((ah x).length:Int)))) 26 (.val (.int .i64 (i:Int)))) 30 (.val (.int .i64 ((ah y).length:Int)))) 31 (.val (.int .i64 (j:Int)))) (fun(j:Nat)(o2:List Nat)(cr:Nat) H'=>H'=ins H g (cL o2 ((ah x).length+(ah y).length))∧j≤(ah y).length∧o2.length=((ah x).length+(ah y).length)∧Lt o2∧cr<1000000000∧nD o2 (i+(ah y).length)∧val o2+B^(i+j)*cr=val ((ah x).take i)*y+B^i*d*val ((ah y).take j)) 0 o 0 (⟨rfl,by omega,cI,cV,by omega,hz,by simp[val,hv]⟩) ay ?_)
   rintro j o2 cr H1 ⟨rfl,hj,zy,uE,iH,kX,de⟩;refine af (ab 1 rfl (ae [0,1,5,6,7,25,26,30,31,32] ?_));refine aq (az rfl (fun hb=> ?_) (fun hb=> ?_))
   ·
    have hb:j<(ah y).length:=by simpa using hb
    obtain⟨p,hp⟩:∃p,(ah y)[j]? = some p:=⟨_,List.getElem?_eq_getElem hb⟩;have sC:=eD.get hp;rw[bG]at sC;obtain⟨e,he⟩:∃e,o2[i+j]? = some e:=⟨_,List.getElem?_eq_getElem (by omega)⟩;have wS:=uE.get he;rw[bG]at wS
    have zz:((i:Int)+(j:Int)).toNat=i+j:=by omega
    have MB:d*p≤999999999*999999999:=Nat.mul_le_mul (by omega) (by omega)
    have MC:(d:Int)*(p:Int)=((d*p:Nat):Int):=by simp
    refine ax (aj [0,1,5,6,7,25,26,30,31] rfl ?_);refine aq (aD (af (ab 2 rfl (ae [0,1,5,6,7,8,25,26,30,31] ?_))));refine cg .bR [0,1,2,3,4,5,6,7,8,9,10,11,12,13,14,15,16,17,18,19,20,21] follows (by kernel_rfl) ?_;refine ab 2 rfl (a9 ag rfl rfl rfl rfl rfl (mz _) (cH hd) (by omega) (by omega) fun _=>(cF ag rfl rfl rfl ⟨by omega,by omega⟩ (ab 2 rfl (a9 ag rfl rfl rfl rfl rfl (zx _) (cH hp) (by omega) (by omega) fun _=>(cF ag rfl rfl rfl ⟨by omega,by omega⟩ (gG rfl rfl ⟨by omega,by omega⟩ (ab 3 rfl (aO rfl rfl ⟨by omega,by omega⟩ (a9 ag rfl rfl rfl rfl rfl (Di _ _ _ _) (by rw[zz];exact cH he) (by omega) (by omega) fun _=> ?_)))))))));refine cF ag rfl rfl rfl ⟨by omega,by omega⟩ (aO rfl rfl ⟨by omega,by omega⟩ (ab 1 rfl (aO rfl rfl ⟨by omega,by omega⟩ (ab 1 rfl (ae [0,1,5,6,8,9,25,26,30,31] ?_)))));refine af (ab 3 rfl (aO rfl rfl ⟨by omega,by omega⟩ (ab 1 rfl (kp rfl rfl (by omega) (by omega) (cF ag rfl rfl rfl ⟨by omega,by omega⟩ ?_)))));obtain⟨ti,ak,al⟩:=kU;refine dP (.inl rfl) ag rfl rfl rfl (by omega) (by omega) (bx _ _ _) rfl (by rw[kW];omega) ak al (fun _=>rfl) rfl rfl rfl fun _=> ?_
    refine ae [0,1,5,6,9,25,26,30,31] ?_;refine aF rfl (ab 1 rfl (jy rfl rfl (by omega) (by omega) ⟨by omega,by omega⟩ (ab 1 rfl (aA (aj [0,1,5,6,7,25,26,30,31] rfl ?_)))));refine aF rfl (aO rfl rfl ⟨by omega,by omega⟩ (ab 1 rfl (aA ?_)));refine⟨j+1,o2.set (i+j) ((d*p+e+cr)%B),(d*p+e+cr)/B,by omega,ay,by rw[pP (y:=(d*p+e+cr)%B) (by rw[bG];simp),zz],by omega,by simp[zy],uE.set (Nat.mod_lt _ jT),by rw[bG];omega,kX.set (by omega),?_⟩;rw[ij hp];exact MF he de rfl
   have hb:(ah y).length≤j:=by simpa using hb
   obtain rfl:j=(ah y).length:=by omega
   rw[List.take_length,ck]at de;refine bC (aj [0,1,5,6,7,25,26] rfl ?_);refine aF rfl (ab 4 rfl (aO rfl rfl ⟨by omega,by omega⟩ (ab 1 rfl (cF ag rfl rfl rfl ⟨by omega,by omega⟩ ?_))));obtain⟨ti,ak,al⟩:=kU;refine dP (.inl rfl) ag rfl rfl rfl (by omega) (by omega) (bx _ _ _) rfl (by rw[kW];omega) ak al (fun _=>rfl) rfl rfl rfl fun _=> ?_;refine aA (aj [0,1,5,25,26] rfl ?_);refine aF rfl (aO rfl rfl ⟨by omega,by omega⟩ (ab 1 rfl (aA ?_)));obtain⟨e,he⟩:∃e,o2[i+(ah y).length]? = some e:=⟨_,List.getElem?_eq_getElem (by omega)⟩;have Dl:=kX _ _ (Nat.le_refl _) he;subst Dl;refine⟨i+1,o2.set (i+(ah y).length) cr,by omega,ay,by rw[pP (y:=cr) rfl,show ((i:Int)+((ah y).length:Int)).toNat=i+(ah y).length by omega],by omega,by simp[zy],uE.set (by rw[bG];omega),by rw[Nat.add_right_comm];exact kX.Vl,?_⟩;have h1:=Mq (y:=cr) he;rw[ij hd,Nat.add_mul]
   omega
  have hb:(ah x).length≤i:=by simpa using hb
  obtain rfl:i=(ah x).length:=by omega
  rw[List.take_length,ck]at hv;refine bC (aj [5] rfl ?_);refine af (ab 1 rfl (au rfl rfl (Dn (uA _ _ o _ _ cI.symm (Nat.le_refl _)) cV (by omega)) ?_));intro v1 H4 hp;refine ab 1 rfl (ae [4] ?_);refine aw ⟨.inr rfl,_,.tmp rfl (.nil),?_⟩;exact⟨(Heap.a0 _ hg).trans hp.le,by have:=hp.nat;rwa [hv]at this⟩
end Go.ar
namespace Num
theorem Vm{T V W vl wl head u2 top next aU rest:Nat}(hV:V=vl+T*(next+B*top))(hW:W=wl+T*(u2+B*head))(uG:wl<T)(hg:aU*top+rest=head)(hc:rest*B+u2<aU*next):W<aU*V:=by
 have h1:u2+B*head+1≤aU*(next+B*top):=by
  rw[←hg,Nat.mul_add,Nat.mul_add,Nat.mul_left_comm aU B top,Nat.mul_comm B rest];omega
 have h2:T*(u2+B*head+1)≤T*(aU*(next+B*top)):=Nat.mul_le_mul_left _ h1
 rw[hV,hW,Nat.mul_add aU,Nat.mul_left_comm aU T]
 rw[Nat.mul_add T _ 1]at h2
 omega
theorem Vn{T V W vl wl head u2 top next aU rest:Nat}(hV:V=vl+T*(next+B*top))(hW:W=wl+T*(u2+B*head))(fG:vl<T)(wT:1≤top)(hg:aU*top+rest=head)(hc:aU*next≤rest*B+u2)(Dp:aU<B):aU*V<W+V:=by
 have h1:aU*(next+B*top)≤u2+B*head:=by
  rw[←hg,Nat.mul_add,Nat.mul_add,Nat.mul_left_comm aU B top,Nat.mul_comm B rest];omega
 have h2:T*(aU*(next+B*top))≤T*(u2+B*head):=Nat.mul_le_mul_left _ h1
 have h3:aU*vl≤aU*T:=Nat.mul_le_mul_left _ (by omega)
 have h4:aU*T<B*T:=Nat.mul_lt_mul_of_pos_right Dp (by omega)
 have h5:T*(B*1)≤T*(B*top):=Nat.mul_le_mul_left _ (Nat.mul_le_mul_left _ wT)
 have h6:T*(B*1)=B*T:=by rw[Nat.mul_one,Nat.mul_comm]
 have h7:T*(next+B*top)=T*next+T*(B*top):=Nat.mul_add _ _ _
 have h8:aU*V=aU*vl+T*(aU*(next+B*top)):=by rw[hV,Nat.mul_add,Nat.mul_left_comm aU T]
 omega
theorem Vo{T V W vl wl head u2 top next:Nat}(hV:V=vl+T*(next+B*top))(hW:W=wl+T*(u2+B*head))(fG:vl<T)(zA:next<B)(h:W<B*V):head<(top+1)*B:=by
 have h1:V<T*(B*(top+1)):=by
  have h2:T*(next+B*top+1)≤T*(B*(top+1)):=Nat.mul_le_mul_left _ (by rw[Nat.mul_add B top 1];omega)
  rw[Nat.mul_add T _ 1]at h2
  omega
 have h2:B*V<B*(T*(B*(top+1))):=Nat.mul_lt_mul_of_pos_left h1 jT
 have h3:T*(B*head)≤W:=by rw[hW,Nat.mul_add T u2];omega
 have h4:T*(B*head)<T*(B*((top+1)*B)):=by
  have:B*(T*(B*(top+1)))=T*(B*((top+1)*B)):=by rw[Nat.mul_left_comm B T,Nat.mul_comm (top+1) B]
  omega
 exact Nat.lt_of_mul_lt_mul_left (Nat.lt_of_mul_lt_mul_left h4)
theorem Vp{T V W vl wl head u2 top next aU rest:Nat}(hV:V=vl+T*(next+B*top))(hW:W=wl+T*(u2+B*head))(fG:vl<T)(zA:next<B)(hh:head<(top+1)*B)(hg:aU*top+rest=head)(hr:B≤rest):aU<B∧aU*V≤W:=by
 have h0:aU<B:=by
  have h1:aU*top<B*top:=by rw[Nat.add_mul,Nat.one_mul,Nat.mul_comm top B]at hh;omega
  exact Nat.lt_of_mul_lt_mul_right h1
 refine⟨h0,?_⟩
 have h1:V≤T*(B*(top+1)):=by
  have h2:T*(next+B*top+1)≤T*(B*(top+1)):=Nat.mul_le_mul_left _ (by rw[Nat.mul_add B top 1];omega)
  rw[Nat.mul_add T _ 1]at h2
  omega
 have h2:aU*V≤aU*(T*(B*(top+1))):=Nat.mul_le_mul_left _ h1
 have h3:aU*(T*(B*(top+1)))=T*(B*(aU*(top+1))):=by rw[Nat.mul_left_comm aU T,Nat.mul_left_comm aU B]
 have h4:aU*(top+1)≤head:=by rw[Nat.mul_add,Nat.mul_one];omega
 have h5:T*(B*(aU*(top+1)))≤T*(B*head):=Nat.mul_le_mul_left _ (Nat.mul_le_mul_left _ h4)
 have h6:T*(B*head)≤W:=by rw[hW,Nat.mul_add T u2];omega
 omega
theorem MG{aU top rest head:Nat}(hg:aU*top+rest=head)(h:0<aU):(aU-1)*top+(rest+top)=head:=by
 obtain⟨j,rfl⟩:∃j,aU=j+1:=⟨aU-1,by omega⟩
 rw[Nat.add_mul,Nat.one_mul]at hg
 rw[Nat.add_sub_cancel];omega
theorem Vq{V W aU q:Nat}(hq:q=W/V)(hV:0<V)(h:aU*V<W+V):aU≤q+1:=by
 subst hq
 have h1:=Nat.div_add_mod W V
 have h2:=Nat.mod_lt W hV
 have h3:aU*V<(W/V+2)*V:=by
  rw[Nat.add_mul]
  rw[Nat.mul_comm]at h1
  omega
 have:=Nat.lt_of_mul_lt_mul_right h3
 omega
theorem Hk{V W aU q:Nat}(hq:q=W/V)(h:W<aU*V):q<aU:=by
 subst hq
 exact Nat.div_lt_of_lt_mul (by rwa [Nat.mul_comm]at h)
theorem Vr{w:List Nat}{k p a b:Nat}(hl:w.length=k+3)(h0:w[k]? = some p)(h1:w[k+1]? = some a)(h2:w[k+2]? = some b):val w=val (w.take k)+B^k*(p+B*(b*B+a)):=by
 rw[Db h0,wO h1,wO h2,List.drop_eq_nil_of_le (by omega),fH,fH]
 simp only[val,Nat.mul_zero,Nat.add_zero]
 rw[Nat.mul_comm b B,Nat.add_comm a]
theorem Vs{w:List Nat}{k p a:Nat}(hl:w.length=k+2)(h0:w[k]? = some p)(h1:w[k+1]? = some a):val w=val (w.take k)+B^k*(p+B*a):=by
 rw[Db h0,wO h1,List.drop_eq_nil_of_le (by omega),fH]
 simp only[val,Nat.mul_zero,Nat.add_zero]
theorem wU{w:List Nat}{k:Nat}(h:Lt w)(hk:k≤w.length):val (w.take k)<B^k:=by
 have:=pJ (h.take k)
 rwa [List.length_take,Nat.min_eq_left hk]at this
theorem Vt{n V W X un br aU q:Nat}(hW:W=X+B^n*un){Y:Nat}(hX:X+B^n*br=Y+aU*V)(pQ:br≤un)(hq:q=W/V)(zB:q≤aU)(hV:0<V):aU=q∧Y+B^n*(un-br)=W%V:=by
 have h1:B^n*un=B^n*(un-br)+B^n*br:=by rw[←Nat.mul_add,Nat.sub_add_cancel pQ]
 have h2:W=Y+B^n*(un-br)+aU*V:=by omega
 have h3:aU≤q:=by
  rw[hq,Nat.le_div_iff_mul_le hV];omega
 have h4:aU=q:=by omega
 refine⟨h4,?_⟩
 have h5:=Nat.div_add_mod W V
 rw[←hq,←h4,Nat.mul_comm]at h5
 omega
theorem Vu{n V W X un br aU q:Nat}(hW:W=X+B^n*un){Y Z cr:Nat}(hX:X+B^n*br=Y+aU*V)(pQ:un<br)(hq:q=W/V)(dN:aU≤q+1)(hV:0<V)(hVn:V<B^n)(hY:Y<B^n)(hZ:Z<B^n)(hZY:Z+B^n*cr=Y+V):aU=q+1∧un+cr=br∧Z=W%V:=by
 have h0:B^n*br=B^n*un+B^n*(br-un):=by rw[←Nat.mul_add];congr 1;omega
 have h1:W+B^n*(br-un)=Y+aU*V:=by omega
 have Md:B^n*1≤B^n*(br-un):=Nat.mul_le_mul_left _ (by omega)
 have h2:W<aU*V:=by omega
 have h3:=Hk hq h2
 have h4:aU=q+1:=by omega
 have h5:=Nat.div_add_mod W V
 have h6:=Nat.mod_lt W hV
 rw[←hq,Nat.mul_comm]at h5
 have h7:aU*V=q*V+V:=by rw[h4,Nat.add_mul,Nat.one_mul]
 have h8:W%V+B^n*(br-un)=Z+B^n*cr:=by omega
 have h9:br-un=cr:=by
  have e1:(W%V+B^n*(br-un))/B^n=br-un:=by
   rw[Nat.add_mul_div_left _ _ (by omega),Nat.div_eq_of_lt (by omega),Nat.zero_add]
  have e2:(Z+B^n*cr)/B^n=cr:=by
   rw[Nat.add_mul_div_left _ _ (by omega),Nat.div_eq_of_lt (by omega),Nat.zero_add]
  rw[←e1,←e2,h8]
 subst h9
 exact⟨h4,by omega,by omega⟩
theorem Hl(a b:List Nat):val (a++b)=val a+B^a.length*val b:=by
 induction a with
 | nil=>simp[val]
 | cons x a ih=>
  rw[List.cons_append,fH,fH,ih,List.length_cons,Nat.pow_succ,Nat.mul_add,Nat.mul_comm (B^a.length) B,Nat.mul_assoc];omega
theorem zC(l:List Nat){k:Nat}(hk:k≤l.length):val l=val (l.take k)+B^k*val (l.drop k):=by
 have:=Hl (l.take k) (l.drop k)
 rwa [List.take_append_drop,List.length_take,Nat.min_eq_left hk]at this
theorem MH{l:List Nat}{j n V:Nat}(qS:Lt l)(hlen:j+n+1≤l.length)(hd:val (l.drop (j+1))<V)(hV:V≤B^n):
  val (l.drop (j+n+1))=0∧val (l.drop j)=val ((l.drop j).take (n+1))∧val ((l.drop j).take (n+1))<B*V:=by
 have h1:=zC (l.drop (j+1)) (k:=n) (by simp;omega)
 rw[List.drop_drop,show j+1+n=j+n+1 by omega]at h1
 have h0:val (l.drop (j+n+1))=0:=by
  rcases Nat.eq_zero_or_pos (val (l.drop (j+n+1)))with e | e
  ·exact e
  ·have:B^n*1≤B^n*val (l.drop (j+n+1)):=Nat.mul_le_mul_left _ e
   omega
 have h2:=zC (l.drop j) (k:=n+1) (by simp;omega)
 rw[List.drop_drop,show j+(n+1)=j+n+1 by omega,h0,Nat.mul_zero,Nat.add_zero]at h2
 refine⟨h0,h2,?_⟩
 rw[←h2]
 have hj:l[j]? = some l[j]:=List.getElem?_eq_getElem (by omega)
 rw[wO hj,fH]
 have h3:=qS.get hj
 have h4:B*(val (l.drop (j+1))+1)≤B*V:=Nat.mul_le_mul_left _ hd
 rw[Nat.mul_add]at h4
 omega
theorem Vv{l o w':List Nat}{j n V S q:Nat}(qS:Lt l)(hlen:j+n+1≤l.length)(hd:val (l.drop (j+1))<V)(hV:V≤B^n)(ho:j<o.length)
  (hinv:val (o.drop (j+1))*V*B^(j+1)+val l=S) (hq:q=val ((l.drop j).take (n+1))/V) (hw:val w'=val ((l.drop j).take (n+1))%V) (uG:w'.length=n+1):
  val ((o.set j q).drop j)*V*B^j+val (l.take j++w'++l.drop (j+n+1))=S∧val ((l.take j++w'++l.drop (j+n+1)).drop j)<V:=by
 obtain⟨h0,h1,h2⟩:=MH qS hlen hd hV
 have e1:=zC l (k:=j) (by omega)
 have e2:val (w'++l.drop (j+n+1))=val w':=by rw[Hl,h0,Nat.mul_zero,Nat.add_zero]
 have e3:val (l.take j++w'++l.drop (j+n+1))=val (l.take j)+B^j*val w':=by
  rw[List.append_assoc,Hl,e2,List.length_take,Nat.min_eq_left (by omega)]
 have e4:=Nat.div_add_mod (val ((l.drop j).take (n+1))) V
 rw[←hq,←hw]at e4
 refine⟨?_,?_⟩
 ·rw[set_drop ho,fH,e3]
  rw[h1,←e4]at e1
  have e5:(q+B*val (o.drop (j+1)))*V*B^j=B^j*(V*q)+val (o.drop (j+1))*V*B^(j+1):=by
   rw[Nat.add_mul,Nat.add_mul,Nat.pow_succ,Nat.mul_comm q V,Nat.mul_comm (V*q),Nat.mul_assoc B,Nat.mul_comm (B^j) B,Nat.mul_left_comm _ B,Nat.mul_assoc B]
  rw[Nat.mul_add]at e1
  omega
 ·rw[List.append_assoc,List.drop_append_of_le_length (by simp;omega),List.drop_of_length_le (by rw[List.length_take];omega),List.nil_append,e2,hw]
  exact Nat.mod_lt _ (by omega)
theorem Vw{l:List Nat}{x sc n m y:Nat}(hm:m≤l.length)(hl:val l=x*sc)(hx:x<B^(m+(n-1)))(hy:B^(n-1)≤y)(hs:0<sc):val (l.drop m)<y*sc:=by
 have h1:=zC l hm
 have h2:B^m*val (l.drop m)<B^m*(y*sc):=by
  have a1:x*sc<B^(m+(n-1))*sc:=Nat.mul_lt_mul_of_pos_right hx hs
  have a2:B^(m+(n-1))*sc≤B^m*(y*sc):=by
   rw[Nat.pow_add,Nat.mul_assoc]
   exact Nat.mul_le_mul_left _ (Nat.mul_le_mul_right _ hy)
  omega
 exact Nat.lt_of_mul_lt_mul_left h2
theorem Vx{Q R x y sc:Nat}(h:Q*(y*sc)+R=x*sc)(hR:R<y*sc)(hs:0<sc):Q=x/y∧R/sc=x%y:=by
 have h1:x*sc/(y*sc)=Q:=by
  rw[←h,Nat.mul_comm Q,Nat.mul_add_div (by omega),Nat.div_eq_of_lt hR,Nat.add_zero]
 have h2:x*sc%(y*sc)=R:=by
  rw[←h,Nat.mul_comm Q,Nat.mul_add_mod,Nat.mod_eq_of_lt hR]
 rw[Nat.mul_div_mul_right _ _ hs]at h1
 rw[Nat.mul_mod_mul_right]at h2
 exact⟨h1.symm,by rw[←h2,Nat.mul_div_cancel _ hs]⟩
end Num
