/- Part 2 of the proof: Ty, Num, Dat, Nat1, Nat2, Nat3, Nat4, Nat5, Nat6, Nat7, Nat8, Knu. -/
import Derived.Test.YtgjimcieaecdkaaGreatA01
import Derived.Test.YtgjimcieaecdkaaGreatProg
import Derived.KernelRfl
set_option linter.unusedVariables false
namespace Go.au
open Go.Proofs
def tb:Tb:=[
 .no,.no,.it .i64,.it .i64,.ce,.it .u8,.it .u8,.st 4 [(0,1),(1,1),(2,1),(3,1)],
 .no,.no,.no,.no,.it .u64,.st 2 [(0,1),(1,1)],.no,.ce,
 .ce,.ce,.st 1 [(0,1)],.no,.no,.it .i32,.sl 4 1,.sl 31 5,
 .st 2 [(0,1),(1,1)],.st 2 [(0,1),(1,1)],.sl 29 3,.sl 92 1,.st 3 [(0,1),(1,1),(2,1)],.st 3 [(0,1),(1,1),(2,1)],.st 5 [(0,1),(1,1),(2,3)],.st 5 [(0,1),(1,1),(2,3)],
 .no,.no,.st 7 [(0,1),(1,3),(4,1),(5,1),(6,1)],.st 7 [(0,1),(1,3),(4,1),(5,1),(6,1)],.it .i64,.no,.no,.no,
 .no,.no,.no,.no,.no,.no,.no,.no,
 .no,.no,.no,.no,.no,.ce,.no,.no,
 .sl 61 3,.no,.no,.ce,.st 3 [(0,1),(1,1),(2,1)],.st 3 [(0,1),(1,1),(2,1)],.no,.no,
 .no,.sl 3 1,.sl 56 1,.st 9 [(0,1),(1,1),(2,1),(3,1),(4,1),(5,1),(6,1),(7,1),(8,1)],.st 9 [(0,1),(1,1),(2,1),(3,1),(4,1),(5,1),(6,1),(7,1),(8,1)],.no,.no,.no,
 .no,.no,.no,.sl 26 1,.st 5 [(0,1),(1,1),(2,1),(3,1),(4,1)],.st 5 [(0,1),(1,1),(2,1),(3,1),(4,1)],.no,.no,
 .no,.no,.no,.no,.no,.no,.no,.no,
 .sl 2 1,.no,.no,.it .u64,.it .u32,.no,.no,.no,
 .no,.no,.no,.no,.no,.no,.no,.no,
 .no,.no,.sl 92 1,.st 3 [(0,1),(1,1),(2,1)],.st 3 [(0,1),(1,1),(2,1)],.no,.no,.no,
 .no,.no,.no,.no,.no,.no,.no,.no,
 .no,.no,.no,.no,.no,.no,.no,.no,
 .no,.no,.no,.no,.no,.no,.no,.no,
 .no,.no,.no,.no,.no,.no,.no,.st 4 [(0,1),(1,1),(2,1),(3,1)],
 .no,.no,.no,.no,.it .u8,.it .u8,.no,.ce,
 .it .i32,.it .i32,.st 11 [(0,1),(1,1),(2,1),(3,1),(4,1),(5,1),(6,1),(7,1),(8,1),(9,1),(10,1)]]
def xO(P:Program):Nat→Tb→Prop
 | _,[]=>True
 | k,x::r=>bW P k x∧xO P (k+1) r
theorem xO.out{P:Program}:∀(r:Tb)(k:Nat),xO P k r→∀(t:Nat)(x:Ti),r[t]? = some x→bW P (k+t) x:=by
 intro r
 induction r with
 | nil=>intro k _ t x h;simp at h
 | cons y r ih=>
  intro k h t x hx
  cases t with
  | zero=>simp only[List.getElem?_cons_zero,Option.some.injEq]at hx;subst hx;exact h.1
  | succ t=>have:=ih (k+1) h.2 t x (by simpa using hx);rwa [show k+(t+1)=k+1+t by omega]
theorem oJ{P:Program}{t e sz:Nat}(hu:P.underlying t=some (.slice e))(h:(P.info? e).map (·.size)=some sz):bW P t (.sl e sz):=by
 refine⟨hu,?_⟩
 cases hi:P.info? e with
 | none=>rw[hi]at h;cases h
 | some i=>rw[hi]at h;exact⟨i,rfl,by simpa using h⟩
theorem lP{P:Program}{t:Nat}{k:IntKind}(hu:P.underlying t=some (.int k)):bW P t (.it k):=hu
theorem s3{P:Program}{t:Nat}{d:TypeDesc}(hu:P.underlying t=some d)(h:(match d with | .struct _ | .array .. =>false | _=>true)=true):bW P t .ce:=
 ⟨d,hu,(fun _ e=>by subst e;cases h),(fun _ _ e=>by subst e;cases h)⟩
def BF(P:Program)(fs:List Field)(ps:List (Nat×Nat)):Bool:=
 match fs,ps with
 | [],[]=>true
 | f::fs,p::ps=>Nat.beq f.offset p.1&&(match P.info? f.type with | some j=>Nat.beq j.size p.2 | none=>false) && !Nat.beq p.2 0&&BF P fs ps
 | _,_=>false
theorem Re{P:Program}:∀(fs:List Field)(ps:List (Nat×Nat)),BF P fs ps=true→fs.length=ps.length∧∀(f:Nat)(p:Nat×Nat),ps[f]? = some p→∃fd j,fs[f]? = some fd∧fd.offset=p.1∧P.info? fd.type=some j∧j.size=p.2∧p.2≠0:=by
 intro fs
 induction fs with
 | nil=>intro ps h;cases ps with
  | nil=>exact⟨rfl,fun f p hp=>by simp at hp⟩
  | cons p ps=>cases h
 | cons fd fs ih=>intro ps h;cases ps with
  | nil=>cases h
  | cons p ps=>
   simp only[BF,Bool.and_eq_true]at h
   obtain⟨⟨⟨h1,h2⟩,h3⟩,h4⟩:=h
   obtain⟨h5,h6⟩:=ih ps h4
   refine⟨by simp[h5],fun f q hq=> ?_⟩
   cases f with
   | zero=>
    simp only[List.getElem?_cons_zero,Option.some.injEq]at hq
    subst hq
    cases hj:P.info? fd.type with
    | none=>rw[hj]at h2;cases h2
    | some j=>
     rw[hj]at h2
     exact⟨fd,j,rfl,Nat.eq_of_beq_eq_true h1,hj,Nat.eq_of_beq_eq_true h2,fun e=>by rw[e]at h3;cases h3⟩
   | succ f=>obtain⟨Rf,j,h7⟩:=h6 f q (by simpa using hq);exact⟨Rf,j,by simpa using h7⟩
theorem gX{P:Program}{t n:Nat}{fs:List Field}{ps:List (Nat×Nat)}(hu:P.underlying t=some (.struct fs.toArray))(h:(P.info? t).map (·.size)=some n)(hf:BF P fs ps=true):bW P t (.st n ps):=by
 cases hi:P.info? t with
 | none=>rw[hi]at h;cases h
 | some i=>
  obtain⟨h1,h2⟩:=Re fs ps hf
  rw[hi]at h
  exact⟨fs.toArray,i,hu,hi,by simpa using h,by simpa using h1,fun f p hp=>by obtain⟨fd,j,h3⟩:=h2 f p hp;exact⟨fd,j,by simpa using h3⟩⟩
theorem jT{P:Program}{e sz bytes:Nat}{z:Value}(h:(P.info? e).map (fun i=>(i.zero,i.size,i.bytes))=some (some z,sz,bytes))(hz:z.cells.size=sz)(hp:0<sz):fm P e sz z bytes:=by
 cases hi:P.info? e with
 | none=>rw[hi]at h;cases h
 | some i=>
  rw[hi]at h
  simp only[Option.map_some,Option.some.injEq,Prod.mk.injEq]at h
  exact⟨i,hi,h.1,h.2.1,h.2.2,hz,hp⟩
theorem Rg:bW Tryz.prog 2 (.it .i64):=lP Tryz.underlying2
theorem Rh:bW Tryz.prog 3 (.it .i64):=lP Tryz.underlying3
theorem Ri:bW Tryz.prog 4 (.ce):=s3 Tryz.underlying4 rfl
theorem Rj:bW Tryz.prog 5 (.it .u8):=lP Tryz.underlying5
theorem JI:bW Tryz.prog 6 (.it .u8):=lP Tryz.underlying6
theorem Rk:bW Tryz.prog 7 (.st 4 [(0,1),(1,1),(2,1),(3,1)]):=gX Tryz.underlying7 (by kernel_rfl) (by kernel_rfl)
theorem Rm:bW Tryz.prog 12 (.it .u64):=lP Tryz.underlying12
theorem Rn:bW Tryz.prog 13 (.st 2 [(0,1),(1,1)]):=gX Tryz.underlying13 (by kernel_rfl) (by kernel_rfl)
theorem Ro:bW Tryz.prog 15 (.ce):=s3 Tryz.underlying15 rfl
theorem Rp:bW Tryz.prog 16 (.ce):=s3 Tryz.underlying16 rfl
theorem Rq:bW Tryz.prog 17 (.ce):=s3 Tryz.underlying17 rfl
theorem Rr:bW Tryz.prog 18 (.st 1 [(0,1)]):=gX Tryz.underlying18 (by kernel_rfl) (by kernel_rfl)
theorem E2:bW Tryz.prog 21 (.it .i32):=lP Tryz.underlying21
theorem Rs:bW Tryz.prog 22 (.sl 4 1):=oJ Tryz.underlying22 (by kernel_rfl)
theorem JJ:bW Tryz.prog 23 (.sl 31 5):=oJ Tryz.underlying23 (by kernel_rfl)
theorem Rt:bW Tryz.prog 24 (.st 2 [(0,1),(1,1)]):=gX Tryz.underlying24 (by kernel_rfl) (by kernel_rfl)
theorem Ru:bW Tryz.prog 25 (.st 2 [(0,1),(1,1)]):=gX Tryz.underlying25 (by kernel_rfl) (by kernel_rfl)
theorem Rv:bW Tryz.prog 26 (.sl 29 3):=oJ Tryz.underlying26 (by kernel_rfl)
theorem Rw:bW Tryz.prog 27 (.sl 92 1):=oJ Tryz.underlying27 (by kernel_rfl)
theorem E3:bW Tryz.prog 28 (.st 3 [(0,1),(1,1),(2,1)]):=gX Tryz.underlying28 (by kernel_rfl) (by kernel_rfl)
theorem BG:bW Tryz.prog 29 (.st 3 [(0,1),(1,1),(2,1)]):=gX Tryz.underlying29 (by kernel_rfl) (by kernel_rfl)
theorem Rx:bW Tryz.prog 30 (.st 5 [(0,1),(1,1),(2,3)]):=gX Tryz.underlying30 (by kernel_rfl) (by kernel_rfl)
theorem Ry:bW Tryz.prog 31 (.st 5 [(0,1),(1,1),(2,3)]):=gX Tryz.underlying31 (by kernel_rfl) (by kernel_rfl)
theorem JK:bW Tryz.prog 34 (.st 7 [(0,1),(1,3),(4,1),(5,1),(6,1)]):=gX Tryz.underlying34 (by kernel_rfl) (by kernel_rfl)
theorem JL:bW Tryz.prog 35 (.st 7 [(0,1),(1,3),(4,1),(5,1),(6,1)]):=gX Tryz.underlying35 (by kernel_rfl) (by kernel_rfl)
theorem Rz:bW Tryz.prog 36 (.it .i64):=lP Tryz.underlying36
theorem RA:bW Tryz.prog 53 (.ce):=s3 Tryz.underlying53 rfl
theorem RB:bW Tryz.prog 56 (.sl 61 3):=oJ Tryz.underlying56 (by kernel_rfl)
theorem RC:bW Tryz.prog 59 (.ce):=s3 Tryz.underlying59 rfl
theorem RD:bW Tryz.prog 60 (.st 3 [(0,1),(1,1),(2,1)]):=gX Tryz.underlying60 (by kernel_rfl) (by kernel_rfl)
theorem RE:bW Tryz.prog 61 (.st 3 [(0,1),(1,1),(2,1)]):=gX Tryz.underlying61 (by kernel_rfl) (by kernel_rfl)
theorem RF:bW Tryz.prog 65 (.sl 3 1):=oJ Tryz.underlying65 (by kernel_rfl)
theorem RG:bW Tryz.prog 66 (.sl 56 1):=oJ Tryz.underlying66 (by kernel_rfl)
theorem RH:bW Tryz.prog 67 (.st 9 [(0,1),(1,1),(2,1),(3,1),(4,1),(5,1),(6,1),(7,1),(8,1)]):=gX Tryz.underlying67 (by kernel_rfl) (by kernel_rfl)
theorem RI:bW Tryz.prog 68 (.st 9 [(0,1),(1,1),(2,1),(3,1),(4,1),(5,1),(6,1),(7,1),(8,1)]):=gX Tryz.underlying68 (by kernel_rfl) (by kernel_rfl)
theorem RJ:bW Tryz.prog 75 (.sl 26 1):=oJ Tryz.underlying75 (by kernel_rfl)
theorem RK:bW Tryz.prog 76 (.st 5 [(0,1),(1,1),(2,1),(3,1),(4,1)]):=gX Tryz.underlying76 (by kernel_rfl) (by kernel_rfl)
theorem RL:bW Tryz.prog 77 (.st 5 [(0,1),(1,1),(2,1),(3,1),(4,1)]):=gX Tryz.underlying77 (by kernel_rfl) (by kernel_rfl)
theorem RM:bW Tryz.prog 88 (.sl 2 1):=oJ Tryz.underlying88 (by kernel_rfl)
theorem RN:bW Tryz.prog 91 (.it .u64):=lP Tryz.underlying91
theorem RO:bW Tryz.prog 92 (.it .u32):=lP Tryz.underlying92
theorem RP:bW Tryz.prog 106 (.sl 92 1):=oJ Tryz.underlying106 (by kernel_rfl)
theorem RQ:bW Tryz.prog 107 (.st 3 [(0,1),(1,1),(2,1)]):=gX Tryz.underlying107 (by kernel_rfl) (by kernel_rfl)
theorem RR:bW Tryz.prog 108 (.st 3 [(0,1),(1,1),(2,1)]):=gX Tryz.underlying108 (by kernel_rfl) (by kernel_rfl)
theorem RS:bW Tryz.prog 143 (.st 4 [(0,1),(1,1),(2,1),(3,1)]):=gX Tryz.underlying143 (by kernel_rfl) (by kernel_rfl)
theorem RT:bW Tryz.prog 148 (.it .u8):=lP Tryz.underlying148
theorem RU:bW Tryz.prog 149 (.it .u8):=lP Tryz.underlying149
theorem RV:bW Tryz.prog 151 (.ce):=s3 Tryz.underlying151 rfl
theorem RW:bW Tryz.prog 152 (.it .i32):=lP Tryz.underlying152
theorem RX:bW Tryz.prog 153 (.it .i32):=lP Tryz.underlying153
theorem RY:bW Tryz.prog 154 (.st 11 [(0,1),(1,1),(2,1),(3,1),(4,1),(5,1),(6,1),(7,1),(8,1),(9,1),(10,1)]):=gX Tryz.underlying154 (by kernel_rfl) (by kernel_rfl)
set_option maxRecDepth 10000 in
theorem RZ:xO Tryz.prog 0 tb:=⟨trivial,trivial,Rg,Rh,Ri,Rj,JI,Rk,trivial,trivial,trivial,trivial,Rm,Rn,trivial,Ro,Rp,Rq,Rr,trivial,trivial,E2,Rs,JJ,Rt,Ru,Rv,Rw,E3,BG,Rx,Ry,trivial,trivial,JK,JL,Rz,trivial,trivial,trivial,trivial,trivial,trivial,trivial,trivial,trivial,trivial,trivial,trivial,trivial,trivial,trivial,trivial,RA,trivial,trivial,RB,trivial,trivial,RC,RD,RE,trivial,trivial,trivial,RF,RG,RH,RI,trivial,trivial,trivial,trivial,trivial,trivial,RJ,RK,RL,trivial,trivial,trivial,trivial,trivial,trivial,trivial,trivial,trivial,trivial,RM,trivial,trivial,RN,RO,trivial,trivial,trivial,trivial,trivial,trivial,trivial,trivial,trivial,trivial,trivial,trivial,trivial,RP,RQ,RR,trivial,trivial,trivial,trivial,trivial,trivial,trivial,trivial,trivial,trivial,trivial,trivial,trivial,trivial,trivial,trivial,trivial,trivial,trivial,trivial,trivial,trivial,trivial,trivial,trivial,trivial,trivial,trivial,trivial,trivial,trivial,trivial,trivial,trivial,RS,trivial,trivial,trivial,trivial,RT,RU,trivial,RV,RW,RX,RY,trivial⟩
theorem ag:iH Tryz.prog tb:=fun t x h=>by have:=xO.out tb 0 RZ t x h;rwa [Nat.zero_add]at this
theorem follows:Tryz.prog.follows .mixedOrders=true:=by kernel_rfl
theorem xP:fm Tryz.prog 2 1 (.int .i64 0) 8:=jT (by kernel_rfl) rfl (by decide)
theorem nI:∃i,Tryz.prog.info? 2=some i∧i.size=1:=by obtain⟨i,h,_,h2,_⟩:=xP;exact⟨i,h,h2⟩
theorem ij:fm Tryz.prog 3 1 (.int .i64 0) 8:=jT (by kernel_rfl) rfl (by decide)
theorem pT:∃i,Tryz.prog.info? 3=some i∧i.size=1:=by obtain⟨i,h,_,h2,_⟩:=ij;exact⟨i,h,h2⟩
theorem JM:fm Tryz.prog 4 1 (.bool false) 1:=jT (by kernel_rfl) rfl (by decide)
theorem R0:∃i,Tryz.prog.info? 4=some i∧i.size=1:=by obtain⟨i,h,_,h2,_⟩:=JM;exact⟨i,h,h2⟩
theorem xQ:fm Tryz.prog 25 2 (.agg #[.slice none 0 0,.slice none 0 0]) 48:=jT (by kernel_rfl) rfl (by decide)
theorem JN:∃i,Tryz.prog.info? 25=some i∧i.size=2:=by obtain⟨i,h,_,h2,_⟩:=xQ;exact⟨i,h,h2⟩
theorem R1:fm Tryz.prog 26 1 (.slice none 0 0) 24:=jT (by kernel_rfl) rfl (by decide)
theorem eD:fm Tryz.prog 29 3 (.agg #[.bool false,.slice none 0 0,.slice none 0 0]) 56:=jT (by kernel_rfl) rfl (by decide)
theorem bP:∃i,Tryz.prog.info? 29=some i∧i.size=3:=by obtain⟨i,h,_,h2,_⟩:=eD;exact⟨i,h,h2⟩
theorem ko:fm Tryz.prog 31 5 (.agg #[.slice none 0 0,.int .i64 0,.bool false,.slice none 0 0,.slice none 0 0]) 88:=jT (by kernel_rfl) rfl (by decide)
theorem q7:∃i,Tryz.prog.info? 31=some i∧i.size=5:=by obtain⟨i,h,_,h2,_⟩:=ko;exact⟨i,h,h2⟩
theorem oK:fm Tryz.prog 35 7 (.agg #[.int .i64 0,.bool false,.slice none 0 0,.slice none 0 0,.slice none 0 0,.slice none 0 0,.slice none 0 0]) 136:=jT (by kernel_rfl) rfl (by decide)
theorem lQ:∃i,Tryz.prog.info? 35=some i∧i.size=7:=by obtain⟨i,h,_,h2,_⟩:=oK;exact⟨i,h,h2⟩
theorem JO:fm Tryz.prog 53 1 (.pointer none) 8:=jT (by kernel_rfl) rfl (by decide)
theorem R2:∃i,Tryz.prog.info? 53=some i∧i.size=1:=by obtain⟨i,h,_,h2,_⟩:=JO;exact⟨i,h,h2⟩
theorem E4:fm Tryz.prog 56 1 (.slice none 0 0) 24:=jT (by kernel_rfl) rfl (by decide)
theorem xR:∃i,Tryz.prog.info? 56=some i∧i.size=1:=by obtain⟨i,h,_,h2,_⟩:=E4;exact⟨i,h,h2⟩
theorem cN:fm Tryz.prog 61 3 (.agg #[.int .i64 0,.int .i64 0,.pointer none]) 24:=jT (by kernel_rfl) rfl (by decide)
theorem a9:∃i,Tryz.prog.info? 61=some i∧i.size=3:=by obtain⟨i,h,_,h2,_⟩:=cN;exact⟨i,h,h2⟩
theorem R3:fm Tryz.prog 65 1 (.slice none 0 0) 24:=jT (by kernel_rfl) rfl (by decide)
theorem pU:∃i,Tryz.prog.info? 65=some i∧i.size=1:=by obtain⟨i,h,_,h2,_⟩:=R3;exact⟨i,h,h2⟩
theorem R4:fm Tryz.prog 66 1 (.slice none 0 0) 24:=jT (by kernel_rfl) rfl (by decide)
theorem R5:∃i,Tryz.prog.info? 66=some i∧i.size=1:=by obtain⟨i,h,_,h2,_⟩:=R4;exact⟨i,h,h2⟩
theorem R6:fm Tryz.prog 68 9 (.agg #[.int .i64 0,.int .i64 0,.slice none 0 0,.slice none 0 0,.slice none 0 0,.slice none 0 0,.slice none 0 0,.slice none 0 0,.slice none 0 0]) 184:=jT (by kernel_rfl) rfl (by decide)
theorem cR:fm Tryz.prog 92 1 (.int .u32 0) 4:=jT (by kernel_rfl) rfl (by decide)
theorem kp:∃i,Tryz.prog.info? 92=some i∧i.size=1:=by obtain⟨i,h,_,h2,_⟩:=cR;exact⟨i,h,h2⟩
theorem gM:fm Tryz.prog 108 3 (.agg #[.bool false,.slice none 0 0,.slice none 0 0]) 56:=jT (by kernel_rfl) rfl (by decide)
theorem fH:∃i,Tryz.prog.info? 108=some i∧i.size=3:=by obtain⟨i,h,_,h2,_⟩:=gM;exact⟨i,h,h2⟩
end Go.au
namespace Num
def B:Nat:=1000000000
theorem jv:0<B:=by decide
theorem bt:B=1000000000:=rfl
def val:List Nat→Nat
 | []=>0
 | x::xs=>x+B*val xs
theorem fV(x:Nat)(xs:List Nat):val (x::xs)=x+B*val xs:=rfl
theorem JP(xs ys:List Nat):val (xs++ys)=val xs+B^xs.length*val ys:=by
 induction xs with
 | nil=>simp[val]
 | cons x xs ih=>rw[List.cons_append,fV,fV,ih,List.length_cons,Nat.pow_succ];grind
theorem mN(xs:List Nat)(y:Nat):val (xs ++ [y])=val xs+B^xs.length*y:=by
 rw[JP];simp[val]
def Lt(l:List Nat):Prop:=∀x,x∈l→x<B
theorem Lt.nil:Lt []:=fun x h=>by cases h
theorem Lt.append{a b:List Nat}(ha:Lt a)(hb:Lt b):Lt (a++b):=fun x h=>by
 rcases List.mem_append.1 h with h | h
 ·exact ha x h
 ·exact hb x h
theorem Lt.snoc{a:List Nat}{y:Nat}(ha:Lt a)(hy:y<B):Lt (a ++ [y]):=ha.append (fun x h=>by simp at h;omega)
theorem Lt.take{a:List Nat}(ha:Lt a)(k:Nat):Lt (a.take k):=fun x h=>ha x (List.mem_of_mem_take h)
theorem Lt.drop{a:List Nat}(ha:Lt a)(k:Nat):Lt (a.drop k):=fun x h=>ha x (List.mem_of_mem_drop h)
theorem Lt.get{a:List Nat}(ha:Lt a){i y:Nat}(h:a[i]? = some y):y<B:=ha y (List.mem_of_getElem? h)
theorem oL{l:List Nat}(h:Lt l):val l<B^l.length:=by
 induction l with
 | nil=>simp[val]
 | cons x l ih=>
  have h1:=h x (List.mem_cons_self ..)
  have h2:=ih (fun y hy=>h y (List.mem_cons_of_mem _ hy))
  rw[fV,List.length_cons,Nat.pow_succ]
  have h3:B*(val l+1)≤B*B^l.length:=Nat.mul_le_mul_left _ h2
  rw[Nat.mul_add,Nat.mul_one]at h3
  rw[Nat.mul_comm (B^l.length)];omega
theorem gY{l:List Nat}{i x:Nat}(h:l[i]? = some x):val (l.take (i+1))=val (l.take i)+B^i*x:=by
 have hi:i<l.length:=(List.getElem?_eq_some_iff.1 h).1
 have hx:l[i]=x:=(List.getElem?_eq_some_iff.1 h).2
 rw[List.take_succ_eq_append_getElem hi,hx,mN,List.length_take,Nat.min_eq_left (by omega)]
structure mO(l:List Nat):Prop where
 lt:Lt l
 last:∀x,l.getLast?=some x→x≠0
theorem mO.nil:mO []:=⟨Lt.nil,fun x h=>by simp at h⟩
def q8:Nat→Nat→List Nat
 | 0,_=>[]
 | f+1,n=>if n=0 then []else(n%B)::q8 f (n/B)
def af(n:Nat):List Nat:=q8 n n
theorem R7(f:Nat):∀g n,n≤f→n≤g→q8 f n=q8 g n:=by
 induction f with
 | zero=>intro g n h _;obtain rfl:n=0:=by omega
         cases g <;> simp[q8]
 | succ f ih=>
  intro g n h hg
  cases g with
  | zero=>obtain rfl:n=0:=by omega
          simp[q8]
  | succ g=>
   simp only[q8]
   split
   ·rfl
   ·rename_i hn
    have:n/B<n:=Nat.div_lt_self (by omega) (by decide)
    rw[ih g (n/B) (by omega) (by omega)]
theorem nJ:af 0 = []:=rfl
theorem s4{n:Nat}(h:0<n):af n=(n%B)::af (n/B):=by
 unfold af
 obtain⟨m,rfl⟩:∃m,n=m+1:=⟨n-1,by omega⟩
 rw[q8,if_neg (by omega)]
 have:(m+1)/B<m+1:=Nat.div_lt_self (by omega) (by decide)
 rw[R7 m ((m+1)/B) ((m+1)/B) (by omega) (Nat.le_refl _)]
theorem bX(n:Nat):val (af n)=n:=by
 induction n using Nat.strongRecOn with
 | _ n ih=>
  rcases Nat.eq_zero_or_pos n with h | h
  ·subst h;rfl
  ·rw[s4 h,fV,ih (n/B) (Nat.div_lt_self h (by decide))]
   exact Nat.mod_add_div n B
theorem JQ{n:Nat}(h:0<n):af n≠[]:=by rw[s4 h];simp
theorem dO(n:Nat):mO (af n):=by
 induction n using Nat.strongRecOn with
 | _ n ih=>
  rcases Nat.eq_zero_or_pos n with h | h
  ·subst h;exact mO.nil
  ·have oM:=ih (n/B) (Nat.div_lt_self h (by decide))
   rw[s4 h]
   refine⟨fun x hx=> ?_,fun x hx=> ?_⟩
   ·rcases List.mem_cons.1 hx with e | e
    ·rw[e];exact Nat.mod_lt _ jv
    ·exact oM.lt x e
   ·rcases Nat.eq_zero_or_pos (n/B)with h0 | h0
    ·rw[h0,nJ]at hx
     simp at hx
     have:=Nat.mod_add_div n B
     rw[h0]at this
     omega
    ·cases hl:af (n/B)with
     | nil=>exact absurd hl (JQ h0)
     | cons y ys=>
      rw[hl,List.getLast?_cons_cons,←hl]at hx
      exact oM.last x hx
theorem mO.pos{l:List Nat}(h:mO l)(hl:l≠[]):B^(l.length-1)≤val l:=by
 have e:l=l.dropLast ++ [l.getLast hl]:=(List.dropLast_concat_getLast hl).symm
 have hx:=h.last (l.getLast hl) (List.getLast?_eq_some_getLast hl)
 rw[e,mN]
 simp only[List.length_append,List.length_dropLast,List.length_singleton]
 have:B^(l.length-1)*1≤B^(l.length-1)*l.getLast hl:=Nat.mul_le_mul_left _ (by omega)
 rw[Nat.mul_one]at this
 have e2:l.length-1+1-1=l.length-1:=by omega
 rw[e2];omega
theorem R8{l:List Nat}(h:Lt l)(hp:l = []∨B^(l.length-1)≤val l):mO l:=by
 refine⟨h,fun x hx h0=> ?_⟩
 subst h0
 have hl:l≠[]:=fun e=>by subst e;simp at hx
 rcases hp with e | hp
 ·exact hl e
 ·have e:l=l.dropLast ++ [0]:=by
   have:=(List.dropLast_concat_getLast hl).symm
   rw[List.getLast?_eq_some_getLast hl]at hx
   simp only[Option.some.injEq]at hx
   rw[hx]at this
   exact this
  have hv:val l=val l.dropLast:=by
   have:=mN l.dropLast 0
   rw[←e,Nat.mul_zero]at this;omega
  have a8:=oL (l:=l.dropLast) (fun x hx=>h x ((List.dropLast_sublist l).subset hx))
  rw[List.length_dropLast]at a8
  omega
theorem JR{l:List Nat}(h:mO l):af (val l)=l:=by
 induction l with
 | nil=>rfl
 | cons x l ih=>
  have hx:x<B:=h.lt x (List.mem_cons_self ..)
  have hp:0<val (x::l):=by
   have:=h.pos (by simp)
   have h2:0<B^((x::l).length-1):=Nat.pow_pos jv
   omega
  rw[s4 hp,fV]
  have h1:(x+B*val l)%B=x:=by rw[Nat.add_mul_mod_self_left];exact Nat.mod_eq_of_lt hx
  have h2:(x+B*val l)/B=val l:=by rw[Nat.add_mul_div_left _ _ jv,Nat.div_eq_of_lt hx,Nat.zero_add]
  rw[h1,h2]
  rw[ih ⟨fun y hy=>h.lt y (List.mem_cons_of_mem _ hy),fun y hy=>h.last y (by
   cases l with
   | nil=>simp at hy
   | cons z zs=>rw[List.getLast?_cons_cons];exact hy)⟩]
theorem R9{l:List Nat}{n:Nat}(h:mO l)(hv:val l=n):l=af n:=by rw[←hv,JR h]
theorem vx(n:Nat):n<B^(af n).length:=by
 have:=oL (dO n).lt
 rwa [bX]at this
theorem fW{n k:Nat}:(af n).length≤k↔n<B^k:=by
 constructor
 ·intro h
  exact Nat.lt_of_lt_of_le (vx n) (Nat.pow_le_pow_right jv h)
 ·intro h
  rcases Nat.eq_zero_or_pos n with h0 | h0
  ·subst h0;simp[nJ]
  ·have hp:=(dO n).pos (JQ h0)
   rw[bX]at hp
   have:(af n).length-1<k:=(Nat.pow_lt_pow_iff_right (by decide:1<B)).1 (Nat.lt_of_le_of_lt hp h)
   omega
theorem jd{m n:Nat}(h:m≤n):(af m).length≤(af n).length:=fW.2 (Nat.lt_of_le_of_lt h (vx n))
theorem Sa{n:Nat}:af n = []↔n=0:=by
 constructor
 ·intro h
  have:=bX n
  rw[h]at this;exact this.symm
 ·intro h;subst h;rfl
theorem gC{n:Nat}:(af n).length=0↔n=0:=by rw[List.length_eq_zero_iff,Sa]
end Num
namespace Num
theorem BH{a:List Nat}{i p:Nat}(h:a[i]? = some p):val a=val (a.take i)+B^i*(p+B*val (a.drop (i+1))):=by
 have hi:=(List.getElem?_eq_some_iff.1 h).1
 have hp:=(List.getElem?_eq_some_iff.1 h).2
 have e:a=a.take i++a.drop i:=(List.take_append_drop i a).symm
 have e2:a.drop i=p::a.drop (i+1):=by rw[List.drop_eq_getElem_cons hi,hp]
 conv=>lhs;rw[e,e2,JP,fV,List.length_take,Nat.min_eq_left (by omega)]
theorem BI{a b:List Nat}{i p q:Nat}(ha:Lt a)(h1:a[i]? = some p)(h2:b[i]? = some q)(hd:a.drop (i+1)=b.drop (i+1))(jw:p<q):val a<val b:=by
 rw[BH h1,BH h2,hd]
 have hi:=(List.getElem?_eq_some_iff.1 h1).1
 have h3:=oL (ha.take i)
 rw[List.length_take,Nat.min_eq_left (by omega)]at h3
 have h4:B^i*(p+1+B*val (b.drop (i+1)))≤B^i*(q+B*val (b.drop (i+1))):=Nat.mul_le_mul_left _ (by omega)
 rw[show p+1+B*val (b.drop (i+1))=p+B*val (b.drop (i+1))+1 by omega,Nat.mul_add,Nat.mul_one]at h4
 omega
def gN(x y:Nat):Int:=if x<y then -1 else if x=y then 0 else 1
theorem BJ{x y:Nat}(h:x<y):gN x y = -1:=by simp[gN,h]
theorem BK{x y:Nat}(h:y<x):gN x y=1:=by simp[gN];omega
theorem JS(x:Nat):gN x x=0:=by simp[gN]
theorem BL{x y:Nat}(h:(af x).length<(af y).length):x<y:=by
 rcases Nat.lt_or_ge x y with h1 | h1
 ·exact h1
 ·have:=jd h1;omega
theorem JT{a b:List Nat}{k p:Nat}(hk:0<k)(h1:a[k-1]? = some p)(h2:b[k-1]? = some p)(hd:a.drop k=b.drop k):a.drop (k-1)=b.drop (k-1):=by
 have e1:=List.drop_eq_getElem_cons (List.getElem?_eq_some_iff.1 h1).1
 have e2:=List.drop_eq_getElem_cons (List.getElem?_eq_some_iff.1 h2).1
 rw[(List.getElem?_eq_some_iff.1 h1).2,show k-1+1=k by omega]at e1
 rw[(List.getElem?_eq_some_iff.1 h2).2,show k-1+1=k by omega]at e2
 rw[e1,e2,hd]
end Num
namespace Num
theorem ra(l:List Nat)(k:Nat):val (l.take (k+1))=val (l.take k)+B^k*(l[k]?.getD 0):=by
 cases h:l[k]? with
 | some x=>simpa using gY h
 | none=>
  have:l.length≤k:=by simpa using h
  rw[List.take_of_length_le (by omega),List.take_of_length_le this];simp
theorem vy{o:List Nat}{k a b s t u:Nat}(ho:o.length=k)(h:val o+B^k*a=t)(hs:s=a+b)(hu:u=t+B^k*b):val (o ++ [s%B])+B^(k+1)*(s/B)=u:=by
 rw[mN,ho,Nat.pow_succ]
 have h1:B^k*s=B^k*(s%B)+B^k*(B*(s/B)):=by rw[←Nat.mul_add,Nat.mod_add_div]
 have h2:B^k*s=B^k*a+B^k*b:=by rw[hs,Nat.mul_add]
 rw[Nat.mul_assoc];omega
theorem last_pos{o:List Nat}{n:Nat}(h:Lt o)(ho:o.length=n)(hn:n=0∨B^(n-1)≤val o):mO o:=R8 h (by
 rcases hn with e | e
 ·left;exact List.eq_nil_of_length_eq_zero (by omega)
 ·right;rw[ho];exact e)
end Num
namespace Num
theorem xS{o:List Nat}{k br br' s d e ta tb ta' tb':Nat}(ho:o.length=k)(h:ta+B^k*br=val o+tb)(hs:s+br+e=d+B*br')(ha:ta'=ta+B^k*d)(hb:tb'=tb+B^k*e):
  ta'+B^(k+1)*br'=val (o ++ [s])+tb':=by
 rw[mN,ho,ha,hb,Nat.pow_succ,Nat.mul_assoc]
 have h1:B^k*(s+br+e)=B^k*(d+B*br'):=by rw[hs]
 simp only[Nat.mul_add]at h1
 omega
theorem JU{l:List Nat}{t x y:Nat}(h:l[t]? = some x):val (l.set t y)+B^t*x=val l+B^t*y:=by
 induction l generalizing t with
 | nil=>simp at h
 | cons z l ih=>
  cases t with
  | zero=>simp at h;subst h;simp[val];omega
  | succ t=>
   simp only[List.getElem?_cons_succ]at h
   have:=ih h
   rw[List.set_cons_succ,fV,fV,Nat.pow_succ]
   have h2:B*(val (l.set t y)+B^t*x)=B*(val l+B^t*y):=by rw[this]
   simp only[Nat.mul_add]at h2
   have e1:B^t*B*x=B*(B^t*x):=by rw[Nat.mul_comm (B^t) B,Nat.mul_assoc]
   have e2:B^t*B*y=B*(B^t*y):=by rw[Nat.mul_comm (B^t) B,Nat.mul_assoc]
   omega
theorem Lt.set{l:List Nat}{t y:Nat}(h:Lt l)(hy:y<B):Lt (l.set t y):=fun x hx=>by
 rcases List.mem_or_eq_of_mem_set hx with h1 | h1
 ·exact h x h1
 ·omega
theorem Lt.replicate(n:Nat):Lt (List.replicate n 0):=fun x hx=>by
 have:=List.eq_of_mem_replicate hx
 rw[this];exact jv
theorem JV(n:Nat):val (List.replicate n 0)=0:=by
 induction n with
 | zero=>rfl
 | succ n ih=>rw[List.replicate_succ,fV,ih,Nat.mul_zero]
theorem Sb{l:List Nat}{k y:Nat}(h:k<l.length):(l.set k y).take (k+1)=l.take k ++ [y]:=by
 rw[List.take_succ_eq_append_getElem (by simpa using h),List.getElem_set_self,List.take_set_of_le (Nat.le_refl _)]
theorem set_drop{l:List Nat}{k y:Nat}(h:k<l.length):(l.set k y).drop k=y::l.drop (k+1):=by
 rw[List.drop_eq_getElem_cons (by simpa using h),List.getElem_set_self,List.drop_set_of_lt (Nat.lt_succ_self _)]
theorem vz{l:List Nat}{k d:Nat}(h:l[k]? = some d):l.drop k=d::l.drop (k+1):=by
 rw[List.drop_eq_getElem_cons (List.getElem?_eq_some_iff.1 h).1,(List.getElem?_eq_some_iff.1 h).2]
end Num
namespace Go.au
open Go.Proofs Num
theorem vr{n:Nat}{all:Array Oper}{s:St}{H:Heap}{md:Mode}{K:St→Heap→Prop}(k:Nat){l:List Oper}{s1:St}(hk:aE Tryz.prog n all md (l.drop k) s1 H K)(h:qV tb md all (l.take k) s=some s1:=by rfl):aE Tryz.prog n all md l s H K:=Jv ag k h hk
theorem aa{n:Nat}{all:Array Oper}{s:St}{H:Heap}{md:Mode}{K:St→Heap→Prop}(k:Nat){l:List Oper}{s1:St}(h:qV tb md all (l.take k) s=some s1)(hk:aE Tryz.prog n all md (l.drop k) s1 H K):aE Tryz.prog n all md l s H K:=Jv ag k h hk
theorem eQ{a b:Int}(h:a=b):ef .eql a b=some true:=by subst h;simp[ef]
theorem fX{a b:Int}(h:a≠b):ef .eql a b=some false:=by simp[ef,h]
theorem kq{a b:Int}(h:a≠b):ef .neq a b=some true:=by simp[ef,h]
theorem la{a b:Int}(h:a=b):ef .neq a b=some false:=by subst h;simp[ef]
theorem mP{a b:Int}(h:a<b):ef .lss a b=some true:=by simp[ef,h]
theorem jx{a b:Int}(h:b≤a):ef .lss a b=some false:=by simp[ef,h]
theorem oN{a b:Int}(h:a≤b):ef .leq a b=some true:=by simp[ef,h]
theorem vA{a b:Int}(h:b<a):ef .leq a b=some false:=by simp[ef,h]
theorem jU{a b:Int}(h:b<a):ef .gtr a b=some true:=by simp[ef,h]
theorem gD{a b:Int}(h:a≤b):ef .gtr a b=some false:=by simp[ef,h]
theorem E5{a b:Int}(h:b≤a):ef .geq a b=some true:=by simp[ef,h]
theorem JW{a b:Int}(h:a<b):ef .geq a b=some false:=by simp[ef,h]
def U(l:List Nat):List Value:=l.map fun x=> .int .u32 (Int.ofNat x)
theorem cA{l:List Nat}{i:Nat}{x:Nat}(h:l[i]? = some x):(U l)[i]? = some (.int .u32 (x:Int)):=by simp[U,h]
theorem s5(l:List Nat):(U l).length=l.length:=by simp[U]
theorem BM(a b:List Nat):U (a++b)=U a++U b:=by simp[U]
theorem xT(l:List Nat)(k:Nat):U (l.take k)=(U l).take k:=by simp[U,List.map_take]
theorem ks(l:List Nat):∀u∈U l,u.oneCell'=true:=fun u hu=>by
 simp only[U,List.mem_map]at hu
 obtain⟨x,_,rfl⟩:=hu
 rfl
def fI(H:Heap)(v:Value)(l:List Nat):Prop:=∃A c,v = .slice A l.length c∧l.length≤c∧Rd H A (U l)
theorem fI.le{H H':Heap}{v:Value}{l:List Nat}(h:fI H v l)(hl:Heap.le H H'):fI H' v l:=by
 obtain⟨A,c,h1,h2,h3⟩:=h
 exact⟨A,c,h1,h2,h3.le hl⟩
def cn(H:Heap)(v:Value)(x:Nat):Prop:=fI H v (af x)
theorem cn.le{H H':Heap}{v:Value}{x:Nat}(h:cn H v x)(hl:Heap.le H H'):cn H' v x:=fI.le h hl
theorem Rd.take{H:Heap}{A:Option Addr}{xs:List Value}(h:Rd H A xs)(k:Nat):Rd H A (xs.take k):=fun i v hv=>by
 rw[List.getElem?_take]at hv
 split at hv
 ·exact h i v hv
 ·cases hv
def gZ(H:Heap)(v:Value)(l:List Nat):Prop:=bm H v 92 1 l.length (U l)
theorem gZ.lR{H:Heap}{v:Value}{l:List Nat}(h:gZ H v l):fI H v l:=by
 obtain⟨A,c,rfl⟩:=bm.form h
 refine⟨A,c,rfl,?_,bm.rd h⟩
 rcases h.2 with ⟨h1,h2⟩ | ⟨g,cap,h1,_,h3,_⟩
 ·omega
 ·cases h1;exact h3
theorem rb(H:Heap):gZ H (.slice none 0 0) []:=oG H 92 1
theorem App.lb{H H':Heap}{v v':Value}{a b:List Nat}{n m:Nat}(h:App H v 92 1 (n+m) (U a++U b) v' H')(ha:n=a.length)(hb:m=b.length):gZ H' v' (a++b):=by
 have:=h.own
 subst ha
 subst hb
 unfold gZ
 rw[BM,List.length_append];exact this
structure jy(H:Heap)(x:Nat)(v:Value)(H':Heap):Prop where
 le:Heap.le H H'
 nat:cn H' v x
theorem vB{H:Heap}{v:Value}{l:List Nat}{x:Nat}(h:fI H v l)(hn:mO l)(hv:val l=x):cn H v x:=by
 unfold cn
 rwa [←R9 hn hv]
theorem pV(H:Heap):cn H (.slice none 0 0) 0:=vB (l:=[]) (gZ.lR (rb H)) mO.nil rfl
theorem BN{l:List Nat}{k:Nat}(a8:Lt l)(hk:k≤l.length)(hv:val (l.take k)=val l)(hx:k=0∨∃x,l[k-1]? = some x∧x≠0):af (val l)=l.take k:=by
 rw[←hv]
 refine JR ⟨a8.take k,fun y hy=> ?_⟩
 rcases hx with rfl | ⟨x,h1,h2⟩
 ·simp at hy
 ·have:(l.take k).getLast?=some x:=by
   rw[List.getLast?_eq_getElem?,List.length_take,Nat.min_eq_left hk,List.getElem?_take]
   rw[if_pos ?_]
   ·exact h1
   ·rcases Nat.eq_zero_or_pos k with e | e
    ·subst e;simp at hy
    ·omega
  rw[this]at hy
  cases hy
  exact h2
theorem xU(c:Nat)(A:Option Addr)(sz:Nat):(if c=0 then A else A.map (·.add (0*sz)))=A:=by
 split
 ·rfl
 ·cases A <;> simp[Addr.add]
theorem bm.ins{H:Heap}{v:Value}{e sz n:Nat}{xs:List Value}(h:bm H v e sz n xs){g:Nat}(ent:aG)(hg:H g=none):bm (au.ins H g ent) v e sz n xs:=
 h.same fun k hk=>by
  obtain⟨en,he⟩:=h.block hk
  exact bD _ _ (fun e=>by subst e;rw[hg]at he;cases he)
theorem gZ.ins{H:Heap}{v:Value}{l:List Nat}(h:gZ H v l){g:Nat}(ent:aG)(hg:H g=none):gZ (au.ins H g ent) v l:=bm.ins h ent hg
theorem iJ(g i:Nat):(⟨g,0,none⟩:Addr).add i=⟨g,i,none⟩:=by
 unfold Addr.add;split
 ·rename_i e0;rw[e0]
 ·simp
theorem g5(H:Heap)(g:Nat)(xs:List Value)(sz e:Nat)(b:Bool):Rd (ins H g ⟨xs,sz,e,b⟩) (some ⟨g,0,none⟩) xs:=fun i v hv=>⟨_,rfl,by simp[cell,iJ,ins,hv]⟩
theorem mQ{H:Heap}{g e:Nat}{a:Int}{y:Nat}(h:a=y):Rd (ins H g (whole [.int .u32 a] e)) (some ⟨g,0,none⟩) (U [y]):=by
 subst h;exact g5 _ _ _ _ _ _
theorem E6{H:Heap}{g e sz:Nat}{zs:List Value}{k:Int}{c:Nat}(hk:k.toNat=0)(hc:c≤maxLen):bm (ins H g ⟨dg zs (k.toNat*sz),c*sz,e,true⟩) (.slice (some ⟨g,0,none⟩) k.toNat c) e sz 0 []:=by
 refine⟨by simp,.inr ⟨g,c,by rw[hk],?_,by omega,hc⟩⟩
 rw[bn,hk,Nat.zero_mul];rfl
theorem JX(a b:Nat):(a:Int)%(b:Int)=((a%b:Nat):Int):=rfl
def cC(l:List Nat)(n:Nat):aG:=⟨U l,n*1,92,true⟩
theorem qP(H:Heap)(g:Nat)(e e':aG):ins (ins H g e) g e'=ins H g e':=by
 funext k;unfold ins;split <;> rfl
theorem E7(l:List Nat)(k y:Nat):(U l).set k (.int .u32 (y:Int))=U (l.set k y):=by simp[U,List.map_set]
theorem oO{H:Heap}{g n k:Nat}{l:List Nat}{a:Int}{y:Nat}(h:a=y):ins (ins H g (cC l n)) g {cC l n with xs:=aA (cC l n).xs (0+k*1) [.int .u32 a]}=ins H g (cC (l.set k y) n):=by
 subst h
 rw[qP]
 simp only[cC,aA,Nat.zero_add,Nat.mul_one,E7]
theorem BO(H:Heap)(g:Nat)(l:List Nat)(n:Nat):Rd (ins H g (cC l n)) (some ⟨g,0,none⟩) (U l):=g5 _ _ _ _ _ _
theorem Sc{H:Heap}{g:Nat}{k:Int}{n:Nat}(hk:k.toNat=n):ins H g ⟨dg [.int .u32 0] (k.toNat*1),n*1,92,true⟩=ins H g (cC (List.replicate n 0) n):=by
 subst hk
 rw[Nat.mul_one,JE]
 congr 1
 simp[cC,U]
theorem kt(l:List Nat)(n:Nat):(cC l n).xs.length=l.length:=by simp[cC,U]
theorem s6(H:Heap)(g:Nat)(l:List Nat)(n m:Nat)(hm:m=l.length)(hn:m≤n):fI (ins H g (cC l n)) (.slice (some ⟨g,0,none⟩) m n) l:=⟨_,n,by rw[hm],by omega,BO H g l n⟩
end Go.au
namespace Go.au
open Go.Proofs Num
theorem E8{H:Heap}{A:Option Addr}{c:Nat}{l:List Nat}(a8:Lt l)(hr:Rd H A (U l))(hc:l.length≤c)(hm:(l.length:Int)≤35184372088832):
 Fn Tryz.prog 111 #[.slice A l.length c] H (jy H (val l)):=by
 refine aU (args:=[_]) Tryz.func111 rfl rfl Tryz.ntmps111 rfl rfl fun w0=> ?_;refine ah [0] rfl ?_;refine ae (aa 1 rfl (ab [0] ?_));refine ae (aa 3 rfl (ab [0,3] ?_));refine ao (aD (gm (fun(k:Nat)=>k) (fun(k:Nat)=>put (put (emp) 0 (.val (.slice A l.length c))) 3 (.val (.int .i64 (k:Int)))) (fun(k:Nat) H'=>H'=H∧k≤l.length∧val (l.take k)=val l) l.length (⟨rfl,Nat.le_refl _,by simp⟩) (by repeat (first | exact iG _ | refine dB rfl ?_ | refine dB (jc (by omega)) ?_)) ?_));rintro k H1 ⟨rfl,hk,hv⟩
 rcases Nat.eq_zero_or_pos k with rfl | BP
 ·
  refine ao (ae (aa 1 rfl (ax false rfl rfl (by simp[ef]) ?_)));refine aa 8 rfl (ab [0,3,15] ?_);refine cP rfl (bA (ae (aa 2 rfl (vw (l:=0) (h:=0) ag rfl rfl (.inl ⟨rfl,rfl⟩) (.inr ⟨_,_,rfl,rfl⟩) (by omega) (by omega) ?_))));rw[xU];refine aa 1 rfl (ab [2] ?_);have e:=BN a8 hk hv (.inl rfl);refine ar ⟨.inr rfl,_,.tmp rfl (.nil),.refl _,A,c,?_,?_,?_⟩
  ·rw[e];simp;rfl
  ·rw[e];simp
  ·rw[e,xT];exact hr.take _
 obtain⟨x,hx⟩:∃x,l[k-1]? = some x:=⟨_,List.getElem?_eq_getElem (by omega)⟩;refine ao (ae (aa 1 rfl (ax true rfl rfl (by simp[ef];omega) ?_)));refine aa 3 rfl (cY rfl rfl ⟨by omega,by omega⟩ (a5 ag rfl rfl rfl rfl rfl (hr) (cA (by rw[show ((k:Int)-1).toNat=k-1 by omega];exact hx)) (by omega) (by omega) fun _=> ?_));refine aa 2 rfl (ab [0,3,15] ?_);refine az rfl (fun hb=> ?_) (fun hb=> ?_)
 ·
  simp at hb
  refine aw (ah [0,3] rfl ?_);refine aD (aB rfl (aa 1 rfl (cY rfl rfl ⟨by omega,by omega⟩ (aa 1 rfl (ay ?_)))));exact⟨k-1,by omega,(by repeat (first | exact iG _ | refine dB rfl ?_ | refine dB (jc (by omega)) ?_)),rfl,by omega,by have:=gY hx;rw[show k-1+1=k by omega,hb,Nat.mul_zero,Nat.add_zero]at this;rw[←this];exact hv⟩
 ·
  simp at hb
  refine bA (ah [0,3] rfl ?_);refine ae (aa 2 rfl (vw ag rfl rfl (.inl ⟨rfl,rfl⟩) (.inr ⟨_,_,rfl,rfl⟩) (by omega) (by omega) ?_));rw[xU];refine aa 1 rfl (ab [2] ?_);refine ar ⟨.inr rfl,_,.tmp rfl (.nil),?_⟩;have e:=BN a8 hk hv (.inr ⟨x,hx,hb⟩);refine⟨.refl _,A,c,?_,?_,?_⟩
  ·rw[e,List.length_take,Nat.min_eq_left hk];rfl
  ·rw[e,List.length_take,Nat.min_eq_left hk];omega
  ·rw[e,xT];exact hr.take _
theorem Sd{H:Heap}{A:Option Addr}{c x:Nat}(hr:Rd H A (U (af x))):
 Fn Tryz.prog 112 #[.slice A (af x).length c] H (fun v H'=>H'=H∧v = .bool (decide (x=1))):=by
 refine aU (args:=[_]) Tryz.func112 rfl rfl Tryz.ntmps112 rfl rfl fun w0=> ?_;refine ah [0] rfl ?_;refine ae (aa 1 rfl (ab [0] ?_))
 by_cases hl:(af x).length=1
 ·
  obtain⟨y,hy⟩:=List.length_eq_one_iff.1 hl;refine ae (aa 2 rfl (ax true rfl rfl (by simp[ef,hl]) ?_));refine aa 2 rfl (a5 ag rfl rfl rfl rfl rfl (hr) (cA (show (af x)[0]? = some y by rw[hy];rfl)) (by omega) (by omega) fun _=> ?_);refine aa 3 rfl (ab [2] ?_);refine ar ⟨.inr rfl,_,.tmp rfl (.nil),?_⟩;refine⟨rfl,?_⟩;have hv:=bX x;rw[hy]at hv
  simp[val]at hv
  subst hv
  show Value.bool _=_
  congr 1
  rw[Bool.eq_iff_iff];simp;omega
 ·
  skip
  refine ae (aa 2 rfl (ax false rfl rfl (by simp[ef];omega) ?_));refine aa 7 rfl (ab [2] ?_);refine ar ⟨.inr rfl,_,.tmp rfl (.nil),?_⟩;refine⟨rfl,?_⟩;have:x≠1:=fun e=>hl (by subst e;rfl)
  simp[this];rfl
end Go.au
namespace Go.au
open Go.Proofs Num
theorem JY{H:Heap}{A A':Option Addr}{c c' x y:Nat}(hr:Rd H A (U (af x)))(cF:Rd H A' (U (af y)))(hm:((af x).length:Int)≤35184372088832):
 Fn Tryz.prog 116 #[.slice A (af x).length c,.slice A' (af y).length c'] H (fun v H'=>H'=H∧v = .int .i64 (gN x y)):=by
 refine aU (args:=[_,_]) Tryz.func116 rfl rfl Tryz.ntmps116 rfl rfl fun w0=> ?_;refine ah [0,1] rfl ?_;refine ae (aa 1 rfl (ab [0,1] ?_));refine ao (ae (aa 5 rfl (ab [0,1,10] ?_)));refine az rfl (fun hb=> ?_) (fun hb=> ?_)
 ·
  have hl:(af x).length≠(af y).length:=by simp at hb;omega
  refine ao (ae (aa 5 rfl (ab [15] ?_)));refine az rfl (fun hb=> ?_) (fun hb=> ?_)
  ·
   simp at hb
   refine ae (aa 1 rfl (ab [4] ?_));refine ar ⟨.inr rfl,_,.tmp rfl (.nil),?_⟩;exact⟨rfl,by rw[BJ (BL hb)];rfl⟩
  ·
   simp at hb
   refine aw (ah [] rfl ?_);refine ae (aa 1 rfl (ab [4] ?_));refine ar ⟨.inr rfl,_,.tmp rfl (.nil),?_⟩;exact⟨rfl,by rw[BK (BL (by omega))];rfl⟩
 ·
  have hl:(af x).length=(af y).length:=by simp at hb;omega
  refine aw (ah [0,1] rfl ?_);refine ao (ae (aa 2 rfl (cY rfl rfl ⟨by omega,by omega⟩ (aa 1 rfl (ab [0,1,5] ?_)))));refine aD (gm (fun(k:Nat)=>k) (fun(k:Nat)=>put (put (put (emp) 0 (.val (.slice A (af x).length c))) 1 (.val (.slice A' (af y).length c'))) 5 (.val (.int .i64 ((k:Int)-1)))) (fun(k:Nat) H'=>H'=H∧k≤(af x).length∧(af x).drop k=(af y).drop k) (af x).length (⟨rfl,Nat.le_refl _,by rw[List.drop_of_length_le (Nat.le_refl _),List.drop_of_length_le (by omega)]⟩) (by repeat (first | exact iG _ | refine dB rfl ?_ | refine dB (jc (by omega)) ?_)) ?_);rintro k H1 ⟨rfl,hk,hd⟩;refine ao (ae (aa 2 rfl (ab [0,1,5,20] ?_)));refine az rfl (fun hb=> ?_) (fun hb=> ?_)
  ·
   simp at hb
   obtain⟨p,hp⟩:∃p,(af x)[k-1]? = some p:=⟨_,List.getElem?_eq_getElem (by omega)⟩;obtain⟨q,hq⟩:∃q,(af y)[k-1]? = some q:=⟨_,List.getElem?_eq_getElem (by omega)⟩
   have hj:((k:Int)-1).toNat=k-1:=by omega
   have dX:(af x).drop (k-1+1)=(af y).drop (k-1+1):=by rw[show k-1+1=k by omega];exact hd
   refine aw (ah [0,1,5] rfl ?_);refine ao (aD (aD (bT .bN [0,1,2,3,4,5,6,7,8,9] follows (by kernel_rfl) ?_)));refine aa 2 rfl (a5 ag rfl rfl rfl rfl rfl (hr) (by rw[hj];exact cA hp) (by omega) (by omega) fun _=> ?_);refine aa 2 rfl (a5 ag rfl rfl rfl rfl rfl (cF) (by rw[hj];exact cA hq) (by omega) (by omega) fun _=> ?_);refine aa 2 rfl (ab [0,1,5,23] ?_);refine az rfl (fun hb=> ?_) (fun hb=> ?_)
   ·
    have jw:p<q:=by simpa using hb
    refine ae (aa 1 rfl (ab [4] ?_));refine ar ⟨.inr rfl,_,.tmp rfl (.nil),?_⟩;exact⟨rfl,by rw[BJ (by have:=BI (dO x).lt hp hq dX jw;rwa [bX,bX]at this)];rfl⟩
   have jw:¬p<q:=by simpa using hb
   refine bT .bN [0,1,2,3,4,5,6,7,8,9] follows (by kernel_rfl) ?_;refine aa 2 rfl (a5 ag rfl rfl rfl rfl rfl (hr) (by rw[hj];exact cA hp) (by omega) (by omega) fun _=> ?_);refine aa 2 rfl (a5 ag rfl rfl rfl rfl rfl (cF) (by rw[hj];exact cA hq) (by omega) (by omega) fun _=> ?_);refine aa 2 rfl (ab [0,1,5,33] ?_);refine az rfl (fun hb=> ?_) (fun hb=> ?_)
   ·
    have xV:q<p:=by simpa using hb
    refine ae (aa 1 rfl (ab [4] ?_));refine ar ⟨.inr rfl,_,.tmp rfl (.nil),?_⟩;exact⟨rfl,by rw[BK (by have:=BI (dO y).lt hq hp dX.symm xV;rwa [bX,bX]at this)];rfl⟩
   have xV:¬q<p:=by simpa using hb
   refine aw (ah [0,1,5] rfl ?_);refine aB rfl (aa 1 rfl (cY rfl rfl ⟨by omega,by omega⟩ (aa 1 rfl (ay ?_))))
   obtain rfl:p=q:=by omega
   exact⟨k-1,by omega,(by repeat (first | exact iG _ | refine dB rfl ?_ | refine dB (jc (by omega)) ?_)),rfl,by omega,JT (by omega) hp hq hd⟩
  simp at hb
  refine bA (ah [] rfl ?_);refine ae (aa 1 rfl (ab [4] ?_));refine ar ⟨.inr rfl,_,.tmp rfl (.nil),?_⟩
  obtain rfl:k=0:=by omega
  have:x=y:=by rw[←bX x,←bX y];simpa using congrArg val hd
  exact⟨rfl,by rw[this,JS];rfl⟩
end Go.au
namespace Go.au
open Go.Proofs Num
theorem JZ{H:Heap}{A:Option Addr}{c x:Nat}(hr:Rd H A (U (af x)))(hm:(af x).length≤2):
 Fn Tryz.prog 118 #[.slice A (af x).length c] H (fun v H'=>H'=H∧v = .tuple #[.int .u64 (x:Int),.bool true]):=by
 refine aU (args:=[_]) Tryz.func118 rfl rfl Tryz.ntmps118 rfl rfl fun w0=> ?_;refine ah [0] rfl ?_;refine ae (aa 2 rfl (ab [0] ?_));refine ae (aa 1 rfl (ab [0,4] ?_));refine ao (ae (aa 3 rfl (ab [0,4,8,9] ?_)));refine aD (gm (fun(k:Nat)=>(af x).length-k) (fun(k:Nat)=>put (put (put (put (emp) 0 (.val (.slice A (af x).length c))) 4 (.val (.int .u64 (val ((af x).drop ((af x).length-k)):Int)))) 8 (.val (.int .i64 ((af x).length:Int)))) 9 (.val (.int .i64 (k:Int)))) (fun(k:Nat) H'=>H'=H∧k≤(af x).length) 0 (⟨rfl,by omega⟩) (dB rfl (dB rfl (dB (jc (by simp[val])) (dB rfl (iG _))))) ?_);rintro k H1 ⟨rfl,hk⟩;refine ae (aa 1 rfl (ab [0,4,8,9,10] ?_));refine ao (az rfl (fun hb=> ?_) (fun hb=> ?_))
 ·
  simp at hb
  obtain⟨p,hp⟩:∃p,(af x)[(af x).length-1-k]? = some p:=⟨_,List.getElem?_eq_getElem (by omega)⟩;have re:=(dO x).lt.get hp;rw[bt]at re
  have je:(af x).drop ((af x).length-1-k)=p::(af x).drop ((af x).length-k):=by
   rw[List.drop_eq_getElem_cons (List.getElem?_eq_some_iff.1 hp).1,(List.getElem?_eq_some_iff.1 hp).2,show (af x).length-1-k+1=(af x).length-k by omega]
  have hw:val ((af x).drop ((af x).length-k))<B:=by
   have h1:=oL ((dO x).lt.drop ((af x).length-k));have h2:B^((af x).drop ((af x).length-k)).length≤B^1:=Nat.pow_le_pow_right jv (by simp;omega);rw[Nat.pow_one]at h2;omega
  rw[bt]at hw
  have hj:(((af x).length:Int)-1-(k:Int)).toNat=(af x).length-1-k:=by omega
  refine aw (ah [0,4,8,9] rfl ?_);refine ao (aD (ae (aa 2 rfl (ab [0,4,5,8,9] ?_))));refine ae (aa 3 rfl (cY rfl rfl ⟨by omega,by omega⟩ (aa 1 rfl (cY rfl rfl ⟨by omega,by omega⟩ (a5 ag rfl rfl rfl rfl rfl (hr) (by rw[hj];exact cA hp) (by omega) (by omega) fun _=> ?_)))));refine ct ag rfl rfl rfl ⟨by omega,by omega⟩ (aa 1 rfl (ab [0,4,6,8,9] ?_));refine ao (ae (aa 2 rfl (cY rfl rfl ⟨by omega,by omega⟩ (iY rfl rfl (by omega) (by omega) ⟨by omega,by omega⟩ (aa 1 rfl (ab [0,4,6,8,9,25] ?_))))));refine az rfl (fun hb=> ?_) (fun hb=> ?_)
  ·
   exfalso;simp at hb;omega
  ·
   skip
   refine aw (ah [0,4,6,8,9] rfl ?_);refine aB rfl (aa 1 rfl (gB rfl rfl ⟨by omega,by omega⟩ (aa 1 rfl (aJ rfl rfl ⟨by omega,by omega⟩ (aa 1 rfl (ay (ah [0,4,8,9] rfl ?_)))))));refine aB rfl (aJ rfl rfl ⟨by omega,by omega⟩ (aa 1 rfl (ay ?_)))
   have cJ:val ((af x).drop ((af x).length-(k+1)))=val ((af x).drop ((af x).length-k))*1000000000+p:=by
    rw[show (af x).length-(k+1)=(af x).length-1-k by omega,je,fV,bt];omega
   exact⟨k+1,by omega,av,rfl,by omega⟩
 ·
  simp at hb
  refine bA (ah [4] rfl ?_);refine ae (aa 3 rfl (ab [2,3] ?_));refine ar ⟨.inr rfl,_,.tmp rfl (.tmp rfl (.nil)),?_⟩
  obtain rfl:k=(af x).length:=by omega
  refine⟨rfl,?_⟩;rw[Nat.sub_self,List.drop_zero,bX];rfl
theorem BQ{H:Heap}{x:Nat}(hx:x<18446744073709551616):
 Fn Tryz.prog 103 #[.int .u64 (x:Int)] H (jy H x):=by
 refine aU (args:=[_]) Tryz.func103 rfl rfl Tryz.ntmps103 rfl rfl fun w0=> ?_;refine ah [0] rfl ?_;refine ae (aa 1 rfl (ab [0] ?_));refine ae (aa 1 rfl (ab [0,3] ?_));refine ao (aD (ju (fun(y:Nat)(v:Value)(o:List Nat)=>y) (fun(y:Nat)(v:Value)(o:List Nat)=>put (put (emp) 0 (.val (.int .u64 (y:Int)))) 3 (.val (v))) (fun(y:Nat)(v:Value)(o:List Nat) H'=>Heap.le H H'∧gZ H' v o∧y≤x∧o++af y=af x) x (.slice none 0 0) [] (⟨.refl _,rb _,Nat.le_refl _,rfl⟩) av ?_));rintro y v o H1 ⟨hle,bS,pW,ho⟩;obtain⟨A,c,rfl⟩:=bm.form bS
 have cK:o.length≤(af x).length:=by rw[←ho];simp
 have ck:(af x).length≤3:=fW.2 (by rw[bt];omega);refine ao (ae (aa 2 rfl (ab [0,3,5] ?_)));refine az rfl (fun hb=> ?_) (fun hb=> ?_)
 ·
  have hb:0<y:=by simpa using hb
  refine aw (ah [0,3] rfl ?_);refine ao (aD (aB rfl (aa 2 rfl (jR rfl rfl (by omega) (by omega) (ct ag rfl rfl rfl ⟨by omega,by omega⟩ (dD Tryz.underlying106 cR rfl rfl rfl rfl rfl rfl rfl ?_))))));intro gb bO;refine eX Tryz.underlying106 cR rfl rfl (bS.ins _ bO) (mQ (JX y 1000000000)) (rfl) (ks _) (by omega) (by omega) ?_;intro v1 H2 ha;refine aa 1 rfl (ay (ah [0,3] rfl ?_));refine aB rfl (aa 1 rfl (iY rfl rfl (by omega) (by omega) ⟨by omega,by omega⟩ (aa 1 rfl (ay ?_))))
  have fE:0<y:=by omega
  rw[s4 fE]at ho;exact⟨y/B,v1,o ++ [y%B],Nat.div_lt_self fE (by decide),av,(hle.trans (Heap.bh _ bO)).trans ha.le,ha.lb rfl rfl,Nat.le_trans (Nat.div_le_self _ _) pW,by simpa using ho⟩
 ·
  have hb:y=0:=by simpa using hb
  refine bA (ah [3] rfl ?_);refine ae (aa 2 rfl (ab [2] ?_));refine ar ⟨.inr rfl,_,.tmp rfl (.nil),?_⟩;subst hb;exact⟨hle,vB (bS.lR) (by rw[show o=af x by simpa [nJ]using ho];exact dO x) (by rw[show o=af x by simpa [nJ]using ho];exact bX x)⟩
end Go.au
namespace Go.au
open Go.Proofs Num
theorem Se{H:Heap}{A:Option Addr}{c:Nat}{l:List Nat}(s7:∀x,x∈l→x<4294967296)(hr:Rd H A (U l))(hm:(l.length:Int)≤8796093022208):
 Fn Tryz.prog 102 #[.slice A l.length c] H (jy H (val l)):=by
 refine aU (args:=[_]) Tryz.func102 rfl rfl Tryz.ntmps102 rfl rfl fun w0=> ?_;refine ah [0] rfl ?_;refine ae (aa 1 rfl (ab [0] ?_));refine ae (aa 2 rfl (aJ rfl rfl ⟨by omega,by omega⟩ (ja Tryz.underlying106 cR rfl rfl rfl (by omega) (by omega) (by omega) (by omega) ?_)));intro g hg;refine aa 1 rfl (ab [0,3] ?_);refine ae (aa 1 rfl (ab [0,3,4] ?_));refine ao (ae (aa 3 rfl (ab [0,3,4,12,13] ?_)));refine aD (oI (fun(k:Nat)(v:Value)(o:List Nat)(cr:Nat)=>l.length-k) (fun(k:Nat)(v:Value)(o:List Nat)(cr:Nat)=>put (put (put (put (put (emp) 0 (.val (.slice A l.length c))) 3 (.val (v))) 4 (.val (.int .u64 (cr:Int)))) 12 (.val (.int .i64 (l.length:Int)))) 13 (.val (.int .i64 (k:Int)))) (fun(k:Nat)(v:Value)(o:List Nat)(cr:Nat) H'=>Heap.le H H'∧gZ H' v o∧k≤l.length∧o.length=k∧Lt o∧cr≤4∧val o+B^k*cr=val (l.take k)) 0 _ [] 0 (⟨Heap.bh _ hg,E6 rfl (by simp only[maxLen];omega),by omega,rfl,Lt.nil,by omega,by simp[val]⟩) av ?_);rintro k v o cr H1 ⟨hle,bS,hk,cK,cO,nK,hv⟩;obtain⟨Ao,co,rfl⟩:=bm.form bS;refine ae (aa 1 rfl (ab [0,3,4,12,13,14] ?_));refine ao (az rfl (fun hb=> ?_) (fun hb=> ?_))
 ·
  have hb:k<l.length:=by simpa using hb
  obtain⟨p,hp⟩:∃p,l[k]? = some p:=⟨_,List.getElem?_eq_getElem hb⟩;have Sf:=s7 p (List.mem_of_getElem? hp);refine aw (ah [0,3,4,12,13] rfl ?_);refine ao (aD (ae (aa 2 rfl (ab [0,3,4,5,12,13] ?_))));refine ae (aa 2 rfl (a5 ag rfl rfl rfl rfl rfl (hr.le hle) (cA hp) (by omega) (by omega) fun _=>(ct ag rfl rfl rfl ⟨by omega,by omega⟩ (aa 1 rfl (aJ rfl rfl ⟨by omega,by omega⟩ (aa 1 rfl (ab [0,3,6,12,13] ?_)))))));refine ae (aa 2 rfl (jR rfl rfl (by omega) (by omega) (ct ag rfl rfl rfl ⟨by omega,by omega⟩ (dD Tryz.underlying106 cR rfl rfl rfl rfl rfl rfl rfl ?_))));intro gb bO;refine eX Tryz.underlying106 cR rfl rfl (bS.ins _ bO) (mQ (y:=(p+cr)%1000000000) rfl) (rfl) (ks _) (by omega) (by omega) ?_;intro v1 H2 ha;refine aa 1 rfl (ab [0,3,6,12,13] ?_);refine aB rfl (aa 1 rfl (iY rfl rfl (by omega) (by omega) ⟨by omega,by omega⟩ (aa 1 rfl (ay (ah [0,3,4,12,13] rfl ?_)))));refine aB rfl (aJ rfl rfl ⟨by omega,by omega⟩ (aa 1 rfl (ay ?_)));have cJ:=vy (s:=p+cr) (u:=val (l.take (k+1))) cK hv (Nat.add_comm _ _) (gY hp)
  have e1:(((p+cr)%B:Nat):Int)=((p:Int)+cr)%1000000000:=rfl;exact⟨k+1,v1,o ++ [(p+cr)%B],(p+cr)/B,by omega,av,(hle.trans (Heap.bh _ bO)).trans ha.le,ha.lb rfl rfl,by omega,by simp[cK],cO.snoc (Nat.mod_lt _ jv),by rw[bt];omega,cJ⟩
 ·
  have hb:l.length≤k:=by simpa using hb
  obtain rfl:k=l.length:=by omega
  rw[List.take_length]at hv;refine bA (ah [3,4] rfl ?_);refine EY (fun(v:Value)(o:List Nat)=>put (emp) 3 (.val (v))) (fun(v:Value)(o:List Nat) H'=>Heap.le H H'∧gZ H' v o∧o.length≤l.length+1∧Lt o∧val o=val l) ?_ ?_
  ·
   refine ae (aa 2 rfl (ab [3,4,33] ?_));refine az rfl (fun hb=> ?_) (fun hb=> ?_)
   ·
    have hb:0<cr:=by simpa using hb
    refine aB rfl (aa 2 rfl (ct ag rfl rfl rfl ⟨by omega,by omega⟩ (dD Tryz.underlying106 cR rfl rfl rfl rfl rfl rfl rfl ?_)));intro gb bO;refine eX Tryz.underlying106 cR rfl rfl (bS.ins _ bO) (mQ (y:=cr) rfl) (rfl) (ks _) (by omega) (by omega) ?_;intro v1 H2 ha;refine aa 1 rfl (ay ?_);exact⟨v1,o ++ [cr],(by repeat (first | exact iG _ | refine dB rfl ?_ | refine dB (jc (by omega)) ?_)),(hle.trans (Heap.bh _ bO)).trans ha.le,ha.lb rfl rfl,by simp;omega,cO.snoc (by rw[bt];omega),by rw[mN,cK];exact hv⟩
   have hb:cr=0:=by simpa using hb
   refine aw ?_;exact⟨_,o,(by repeat (first | exact iG _ | refine dB rfl ?_ | refine dB (jc (by omega)) ?_)),hle,bS,by omega,cO,by rw[hb,Nat.mul_zero]at hv;omega⟩
  rintro v o H3 ⟨hle,bS,cK,cO,hv⟩;obtain⟨Ao,co,s8,oP,pX⟩:=bS.lR;subst s8;refine ae (aa 1 rfl (aq rfl rfl (E8 cO pX oP (by omega)) ?_));intro v1 H4 hp;refine aa 1 rfl (ab [2] ?_);refine ar ⟨.inr rfl,_,.tmp rfl (.nil),?_⟩;exact⟨hle.trans hp.le,by have:=hp.nat;rwa [hv]at this⟩
end Go.au
namespace Go.au
open Go.Proofs Num
theorem Sg{H:Heap}{u v:Value}{x y:Nat}(hx:cn H u x)(hy:cn H v y)(hm:((af x).length:Int)≤8796093022208)(aS:((af y).length:Int)≤8796093022208):
 Fn Tryz.prog 115 #[u,v] H (jy H (x+y)):=by
 obtain⟨A,c,rfl,hc,hr⟩:=hx
 obtain⟨A',c',rfl,gA,cF⟩:=hy;refine aU (args:=[_,_]) Tryz.func115 rfl rfl Tryz.ntmps115 rfl rfl fun w0=> ?_;refine ah [0,1] rfl ?_;refine ae (aa 1 rfl (ab [0,1] ?_));refine Q0 (fun(u:Value)(w:Value)(p:Nat)(q:Nat)=>put (put (emp) 0 (.val (u))) 1 (.val (w))) (fun(u:Value)(w:Value)(p:Nat)(q:Nat) H'=>H'=H∧cn H u p∧cn H w q∧p+q=x+y∧(af q).length≤(af p).length∧((af p).length:Int)≤8796093022208) ?_ ?_
 ·
  refine ae (aa 5 rfl (ab [0,1,13] ?_));refine az rfl (fun hb=> ?_) (fun hb=> ?_)
  ·
   simp at hb
   refine aB rfl (aa 4 rfl (ay ?_));exact⟨_,_,y,x,(by repeat (first | exact iG _ | refine dB rfl ?_ | refine dB (jc (by omega)) ?_)),rfl,⟨A',c',rfl,gA,cF⟩,⟨A,c,rfl,hc,hr⟩,by omega,by omega,by omega⟩
  ·
   simp at hb
   refine aw ?_;exact⟨_,_,x,y,(by repeat (first | exact iG _ | refine dB rfl ?_ | refine dB (jc (by omega)) ?_)),rfl,⟨A,c,rfl,hc,hr⟩,⟨A',c',rfl,gA,cF⟩,by omega,by omega,by omega⟩
 ·
  rintro u w p q H3 ⟨rfl,hp,hq,jw,hl,hm⟩;clear hr cF hc gA;obtain⟨A,c,rfl,hc,hr⟩:=hp;obtain⟨A',c',rfl,gA,cF⟩:=hq;have fJ:=(dO p).lt;have eh:=(dO q).lt;refine ae (aa 2 rfl (aJ rfl rfl ⟨by omega,by omega⟩ (ja Tryz.underlying106 cR rfl rfl rfl (by omega) (by omega) (by omega) (by omega) ?_)));intro g hg;refine aa 1 rfl (ab [0,1,5] ?_);refine ae (aa 1 rfl (ab [0,1,5,6] ?_));refine ao (ae (aa 3 rfl (ab [0,1,5,6,21,22] ?_)));refine aD (oI (fun(k:Nat)(v:Value)(o:List Nat)(cr:Nat)=>(af p).length-k) (fun(k:Nat)(v:Value)(o:List Nat)(cr:Nat)=>put (put (put (put (put (put (emp) 0 (.val (.slice A (af p).length c))) 1 (.val (.slice A' (af q).length c'))) 5 (.val (v))) 6 (.val (.int .u32 (cr:Int)))) 21 (.val (.int .i64 ((af p).length:Int)))) 22 (.val (.int .i64 (k:Int)))) (fun(k:Nat)(v:Value)(o:List Nat)(cr:Nat) H'=>Heap.le H3 H'∧gZ H' v o∧k≤(af p).length∧o.length=k∧Lt o∧cr≤1∧val o+B^k*cr=val ((af p).take k)+val ((af q).take k)) 0 _ [] 0 (⟨Heap.bh _ hg,E6 rfl (by simp only[maxLen];omega),by omega,rfl,Lt.nil,by omega,by simp[val]⟩) av ?_);rintro k v o cr H1 ⟨hle,bS,hk,cK,cO,nK,hv⟩;obtain⟨Ao,co,rfl⟩:=bm.form bS
  refine ae (aa 1 rfl (ab [0,1,5,6,21,22,23] ?_));refine ao (az rfl (fun hb=> ?_) (fun hb=> ?_))
  ·
   have hb:k<(af p).length:=by simpa using hb
   obtain⟨d,hd⟩:∃d,(af p)[k]? = some d:=⟨_,List.getElem?_eq_getElem hb⟩;have iK:=fJ.get hd;rw[bt]at iK;obtain⟨e,he⟩:∃e,e=((af q)[k]?).getD 0:=⟨_,rfl⟩
   have vC:e<1000000000:=by
    cases hq:(af q)[k]? with
    | none=>rw[hq]at he;simp at he;omega
    | some z=>rw[hq]at he;simp at he;have:=eh.get hq;rw[bt]at this;omega
   refine aw (ah [0,1,5,6,21,22] rfl ?_);refine ao (aD (ae (aa 2 rfl (ab [0,1,5,6,7,21,22] ?_))));refine ae (aa 2 rfl (a5 ag rfl rfl rfl rfl rfl (hr.le hle) (cA hd) (by omega) (by omega) fun _=>(aa 1 rfl (aJ rfl rfl ⟨by omega,by omega⟩ (aa 1 rfl (ab [0,1,5,7,8,21,22] ?_))))));refine nH (fun(sv:Nat)=>put (put (put (put (put (put (emp) 0 (.val (.slice A (af p).length c))) 1 (.val (.slice A' (af q).length c'))) 5 (.val (.slice Ao o.length co))) 8 (.val (.int .u32 (sv:Int)))) 21 (.val (.int .i64 ((af p).length:Int)))) 22 (.val (.int .i64 (k:Int)))) (fun(sv:Nat) H'=>H'=H1∧sv=d+cr+e) ?_ ?_
   ·
    refine ae (aa 4 rfl (ab [0,1,5,7,8,21,22,34] ?_));refine az rfl (fun hb=> ?_) (fun hb=> ?_)
    ·
     have hb:k<(af q).length:=by simpa using hb
     have hz:(af q)[k]? = some e:=by rw[List.getElem?_eq_getElem hb]at he⊢;simp at he;rw[he]
     refine aB rfl (aa 3 rfl (a5 ag rfl rfl rfl rfl rfl (cF.le hle) (cA hz) (by omega) (by omega) fun _=>(aJ rfl rfl ⟨by omega,by omega⟩ (aa 1 rfl (ay ?_)))));exact⟨d+cr+e,(by repeat (first | exact iG _ | refine dB rfl ?_ | refine dB (jc (by omega)) ?_)),rfl,rfl⟩
    have hb:(af q).length≤k:=by simpa using hb
    obtain rfl:e=0:=by rw[he,List.getElem?_eq_none hb];rfl
    refine aw ?_;exact⟨d+cr,(by repeat (first | exact iG _ | refine dB rfl ?_ | refine dB (jc (by omega)) ?_)),rfl,rfl⟩
   rintro sv H4 ⟨rfl,lS⟩;refine ae (aa 1 rfl (iY rfl rfl (by omega) (by omega) ⟨by omega,by omega⟩ (aa 1 rfl (ab [0,1,5,6,8,21,22] ?_))));refine aB rfl (aa 2 rfl (jR rfl rfl (by omega) (by omega) (dD Tryz.underlying106 cR rfl rfl rfl rfl rfl rfl rfl ?_)));intro gb bO;refine eX Tryz.underlying106 cR rfl rfl (bS.ins _ bO) (mQ (y:=sv%1000000000) rfl) (rfl) (ks _) (by omega) (by omega) ?_;intro v1 H2 ha;refine aa 1 rfl (ay (ah [0,1,5,6,21,22] rfl ?_));refine aB rfl (aJ rfl rfl ⟨by omega,by omega⟩ (aa 1 rfl (ay ?_)));have cJ:=vy (s:=cr+(d+e)) (u:=val ((af p).take (k+1))+val ((af q).take (k+1))) cK hv rfl (by rw[gY hd,ra,←he,Nat.mul_add];omega)
   obtain rfl:sv=cr+(d+e):=by omega
   exact⟨k+1,v1,o ++ [(cr+(d+e))%B],(cr+(d+e))/B,by omega,av,(hle.trans (Heap.bh _ bO)).trans ha.le,ha.lb rfl rfl,by omega,by simp[cK],cO.snoc (Nat.mod_lt _ jv),by rw[bt];omega,cJ⟩
  have hb:(af p).length≤k:=by simpa using hb
  obtain rfl:k=(af p).length:=by omega
  rw[List.take_length,List.take_of_length_le hl,bX,bX]at hv;refine bA (ah [5,6] rfl ?_);refine ao (ae (aa 2 rfl (ab [5,6,50] ?_)));refine az rfl (fun hb=> ?_) (fun hb=> ?_)
  ·
   have hb:0<cr:=by simpa using hb
   refine aB rfl (aa 2 rfl (dD Tryz.underlying106 cR rfl rfl rfl rfl rfl rfl rfl ?_));intro gb bO;refine eX Tryz.underlying106 cR rfl rfl (bS.ins _ bO) (mQ (y:=cr) rfl) (rfl) (ks _) (by omega) (by omega) ?_;intro v1 H2 ha;refine aa 1 rfl (ay (ah [5] rfl ?_));refine ae (aa 2 rfl (ab [4] ?_));refine ar ⟨.inr rfl,_,.tmp rfl (.nil),?_⟩
   have s8:val (o ++ [cr])=x+y:=by rw[mN,cK,hv];exact jw
   exact⟨(hle.trans (Heap.bh _ bO)).trans ha.le,vB (ha.lb (a:=o) (b:=[cr]) rfl rfl).lR ⟨cO.snoc (by rw[bt];omega),fun z hz=>by simp at hz;omega⟩ s8⟩
  have hb:cr=0:=by simpa using hb
  refine aw (ah [5] rfl ?_);refine ae (aa 2 rfl (ab [4] ?_));refine ar ⟨.inr rfl,_,.tmp rfl (.nil),?_⟩;rw[hb,Nat.mul_zero,Nat.add_zero]at hv;refine⟨hle,vB bS.lR (last_pos cO cK ?_) (by rw[hv];exact jw)⟩
  rcases Nat.eq_zero_or_pos (af p).length with h0 | h0
  ·exact .inl h0
  have:=(dO p).pos (by intro e0;rw[e0]at h0;simp at h0);rw[bX]at this;exact .inr (by rw[hv];omega)
end Go.au
namespace Go.au
open Go.Proofs Num
theorem J0{H:Heap}{u v:Value}{x y:Nat}(hx:cn H u x)(hy:cn H v y)(pW:y≤x)(hm:((af x).length:Int)≤8796093022208):
 Fn Tryz.prog 117 #[u,v] H (jy H (x-y)):=by
 obtain⟨A,c,rfl,hc,hr⟩:=hx
 obtain⟨A',c',rfl,gA,cF⟩:=hy
 have fJ:=(dO x).lt
 have eh:=(dO y).lt
 have hl:=jd pW;refine aU (args:=[_,_]) Tryz.func117 rfl rfl Tryz.ntmps117 rfl rfl fun w0=> ?_;refine ah [0,1] rfl ?_;refine ae (aa 1 rfl (ab [0,1] ?_));refine ae (aa 2 rfl (ja Tryz.underlying106 cR rfl rfl rfl (by omega) (by omega) (by omega) (by omega) ?_));intro g hg;refine aa 1 rfl (ab [0,1,5] ?_);refine ae (aa 1 rfl (ab [0,1,5,6] ?_));refine ao (ae (aa 3 rfl (ab [0,1,5,6,13,14] ?_)));refine aD (oI (fun(k:Nat)(v:Value)(o:List Nat)(br:Nat)=>(af x).length-k) (fun(k:Nat)(v:Value)(o:List Nat)(br:Nat)=>put (put (put (put (put (put (emp) 0 (.val (.slice A (af x).length c))) 1 (.val (.slice A' (af y).length c'))) 5 (.val (v))) 6 (.val (.int .i64 (br:Int)))) 13 (.val (.int .i64 ((af x).length:Int)))) 14 (.val (.int .i64 (k:Int)))) (fun(k:Nat)(v:Value)(o:List Nat)(br:Nat) H'=>Heap.le H H'∧gZ H' v o∧k≤(af x).length∧o.length=k∧Lt o∧br≤1∧val ((af x).take k)+B^k*br=val o+val ((af y).take k)) 0 _ [] 0 (⟨Heap.bh _ hg,E6 rfl (by simp only[maxLen];omega),by omega,rfl,Lt.nil,by omega,by simp[val]⟩) av ?_);rintro k v o br H1 ⟨hle,bS,hk,cK,cO,oQ,hv⟩;obtain⟨Ao,co,rfl⟩:=bm.form bS;refine ae (vr 1 ?_)
 refine ab [0,1,5,6,13,14,15] ?_;refine ao (az rfl (fun hb=> ?_) (fun hb=> ?_))
 ·
  have hb:k<(af x).length:=by simpa using hb
  obtain⟨d,hd⟩:∃d,(af x)[k]? = some d:=⟨_,List.getElem?_eq_getElem hb⟩;have iK:=fJ.get hd;rw[bt]at iK;obtain⟨e,he⟩:∃e,e=((af y)[k]?).getD 0:=⟨_,rfl⟩
  have vC:e<1000000000:=by
   cases hq:(af y)[k]? with
   | none=>rw[hq]at he;simp at he;omega
   | some z=>rw[hq]at he;simp at he;have:=eh.get hq;rw[bt]at this;omega
  refine aw (ah [0,1,5,6,13,14] rfl ?_);refine ao (aD (ae (aa 2 rfl (ab [0,1,5,6,7,13,14] ?_))));refine ae (aa 2 rfl (a5 ag rfl rfl rfl rfl rfl (hr.le hle) (cA hd) (by omega) (by omega) fun _=>(ct ag rfl rfl rfl ⟨by omega,by omega⟩ (aa 1 rfl (cY rfl rfl ⟨by omega,by omega⟩ (aa 1 rfl (ab [0,1,5,7,8,13,14] ?_)))))));refine nH (fun(sv:Int)=>put (put (put (put (put (put (emp) 0 (.val (.slice A (af x).length c))) 1 (.val (.slice A' (af y).length c'))) 5 (.val (.slice Ao o.length co))) 8 (.val (.int .i64 sv))) 13 (.val (.int .i64 ((af x).length:Int)))) 14 (.val (.int .i64 (k:Int)))) (fun(sv:Int) H'=>H'=H1∧sv=(d:Int)-br-e) ?_ ?_
  ·
   refine ae (aa 4 rfl (ab [0,1,5,7,8,13,14,27] ?_));refine az rfl (fun hb=> ?_) (fun hb=> ?_)
   ·
    have hb:k<(af y).length:=by simpa using hb
    have hz:(af y)[k]? = some e:=by rw[List.getElem?_eq_getElem hb]at he⊢;simp at he;rw[he]
    refine aB rfl (aa 3 rfl (a5 ag rfl rfl rfl rfl rfl (cF.le hle) (cA hz) (by omega) (by omega) fun _=>(ct ag rfl rfl rfl ⟨by omega,by omega⟩ (cY rfl rfl ⟨by omega,by omega⟩ (aa 1 rfl (ay ?_))))));exact⟨(d:Int)-br-e,(by repeat (first | exact iG _ | refine dB rfl ?_ | refine dB (jc (by omega)) ?_)),rfl,rfl⟩
   have hb:(af y).length≤k:=by simpa using hb
   have J1:e=0:=by rw[he,List.getElem?_eq_none hb];rfl
   refine aw ?_;exact⟨(d:Int)-br,(by repeat (first | exact iG _ | refine dB rfl ?_ | refine dB (jc (by omega)) ?_)),rfl,by omega⟩
  ·
   rintro sv H4 ⟨rfl,lS⟩;refine ae (aa 1 rfl (ab [0,1,5,6,8,13,14] ?_));refine ao (ae (aa 2 rfl (ab [0,1,5,6,8,13,14,36] ?_)));refine az rfl (fun hb=> ?_) (fun hb=> ?_)
   ·
    have hb:sv<0:=by simpa using hb
    refine ae (aa 1 rfl (aJ rfl rfl ⟨by omega,by omega⟩ (aa 1 rfl (ab [0,1,5,8,13,14] ?_))));refine aB rfl (aa 1 rfl (ay (ah [0,1,5,6,8,13,14] rfl ?_)));refine aB rfl (aa 2 rfl (ct ag rfl rfl rfl ⟨by omega,by omega⟩ (dD Tryz.underlying106 cR rfl rfl rfl rfl rfl rfl rfl ?_)));intro gb bO;refine eX Tryz.underlying106 cR rfl rfl (bS.ins _ bO) (mQ (y:=if sv<0 then d+1000000000-br-e else d-br-e) (by split <;> omega)) (rfl) (ks _) (by omega) (by omega) ?_;intro v1 H2 ha
    (first|rw[if_pos hb]at ha|rw[if_neg (by omega)]at ha)
    refine aa 1 rfl (ay (ah [0,1,5,6,13,14] rfl ?_));refine aB rfl (aJ rfl rfl ⟨by omega,by omega⟩ (aa 1 rfl (ay ?_)));have cJ:=xS (s:=d+1000000000-br-e) (br':=1) (d:=d) (e:=e) cK hv (by rw[bt];omega) (gY hd) (show val ((af y).take (k+1))=val ((af y).take k)+B^k*e by rw[ra,←he]);exact⟨k+1,v1,o ++ [d+1000000000-br-e],1,by omega,av,(hle.trans (Heap.bh _ bO)).trans ha.le,ha.lb rfl rfl,by omega,by simp[cK],cO.snoc (by rw[bt];omega),by omega,cJ⟩
   have hb:0≤sv:=by simpa using hb
   refine aw (ah [0,1,5,6,8,13,14] rfl ?_);refine aB rfl (aa 2 rfl (ct ag rfl rfl rfl ⟨by omega,by omega⟩ (dD Tryz.underlying106 cR rfl rfl rfl rfl rfl rfl rfl ?_)));intro gb bO;refine eX Tryz.underlying106 cR rfl rfl (bS.ins _ bO) (mQ (y:=if sv<0 then d+1000000000-br-e else d-br-e) (by split <;> omega)) (rfl) (ks _) (by omega) (by omega) ?_;intro v1 H2 ha
   (first|rw[if_pos hb]at ha|rw[if_neg (by omega)]at ha)
   refine aa 1 rfl (ay (ah [0,1,5,6,13,14] rfl ?_));refine aB rfl (aJ rfl rfl ⟨by omega,by omega⟩ (aa 1 rfl (ay ?_)));have cJ:=xS (s:=d-br-e) (br':=0) (d:=d) (e:=e) cK hv (by omega) (gY hd) (show val ((af y).take (k+1))=val ((af y).take k)+B^k*e by rw[ra,←he]);exact⟨k+1,v1,o ++ [d-br-e],0,by omega,av,(hle.trans (Heap.bh _ bO)).trans ha.le,ha.lb rfl rfl,by omega,by simp[cK],cO.snoc (by rw[bt];omega),by omega,cJ⟩
 ·
  have hb:(af x).length≤k:=by simpa using hb
  obtain rfl:k=(af x).length:=by omega
  rw[List.take_length,List.take_of_length_le hl,bX,bX]at hv;have s8:=oL cO;rw[cK]at s8
  have E9:br=0:=by
   rcases Nat.eq_zero_or_pos br with h | h
   ·exact h
   ·
    obtain rfl:br=1:=by omega
    omega
  obtain⟨Ao',co',Sh,oP,pX⟩:=bS.lR
  cases Sh
  refine bA (ah [5] rfl ?_);refine ae (aa 1 rfl (aq rfl rfl (E8 cO pX oP (by omega)) ?_));intro v1 H4 hp;refine aa 1 rfl (ab [4] ?_);refine ar ⟨.inr rfl,_,.tmp rfl (.nil),?_⟩;exact⟨hle.trans hp.le,by have:=hp.nat;rwa [show val o=x-y by rw[E9]at hv;omega]at this⟩
end Go.au
namespace Go.au
open Go.Proofs Num
theorem rf(H:Heap)(g n:Nat):ins H g ⟨dg [.int .u32 0] (n*1),n*1,92,true⟩=ins H g (cC (List.replicate n 0) n):=Sc (k:=n) rfl
theorem rh{l:List Nat}{k y:Nat}(h:k<l.length):(l.set k y).take (k+1)=l.take k ++ [y]:=Sb h
theorem BR{q m r x:Nat}(h:q*m+r=x)(hr:r<m):x/m=q∧x%m=r:=by
 subst h
 refine⟨?_,?_⟩
 ·rw[Nat.mul_comm,Nat.mul_add_div (by omega),Nat.div_eq_of_lt hr,Nat.add_zero]
 ·rw[Nat.mul_comm,Nat.mul_add_mod,Nat.mod_eq_of_lt hr]
def Si(H:Heap)(n x:Nat)(v:Value)(H':Heap):Prop:=∃g l,H g=none∧v = .slice (some ⟨g,0,none⟩) n n∧H'=ins H g (cC l n)∧l.length=n∧Lt l∧val l=x
theorem BS{H:Heap}{v:Value}{l:List Nat}(h:fI H v l)(a8:Lt l)(hm:(l.length:Int)≤35184372088832):Fn Tryz.prog 111 #[v] H (jy H (val l)):=by
 obtain⟨A,c,rfl,hc,hr⟩:=h
 exact E8 a8 hr hc hm
theorem J2{H:Heap}{u:Value}{l:List Nat}{m:Nat}(hu:fI H u l)(hl:Lt l)(hm:m<1000000000)(hs:(l.length:Int)≤8796093022208):
 Fn Tryz.prog 120 #[u,.int .u64 (m:Int)] H (Si H (l.length+1) (val l*m)):=by
 obtain⟨A,c,rfl,hc,hr⟩:=hu;refine aU (args:=[_,_]) Tryz.func120 rfl rfl Tryz.ntmps120 rfl rfl fun w0=> ?_;refine ah [0,1] rfl ?_;refine ae (aa 1 rfl (ab [0,1] ?_));refine ae (aa 2 rfl (aJ rfl rfl ⟨by omega,by omega⟩ (ja Tryz.underlying106 cR rfl rfl rfl (by omega) (by omega) (by omega) (by omega) ?_)));intro g hg;rw[show ((l.length:Int)+1).toNat=l.length+1 from by omega,rf];have lT:=fun e=>hr.le (Heap.bh (g:=g) e hg);refine aa 1 rfl (ab [0,1,5] ?_);refine ae (aa 1 rfl (ab [0,1,5,6] ?_));refine ao (ae (aa 3 rfl (ab [0,1,5,6,14,15] ?_)));refine aD (ju (fun(k:Nat)(o:List Nat)(cr:Nat)=>l.length-k) (fun(k:Nat)(o:List Nat)(cr:Nat)=>put (put (put (put (put (put (emp) 0 (.val (.slice A l.length c))) 1 (.val (.int .u64 (m:Int)))) 5 (.val (.slice (some ⟨g,0,none⟩) (l.length+1) (l.length+1)))) 6 (.val (.int .u64 (cr:Int)))) 14 (.val (.int .i64 (l.length:Int)))) 15 (.val (.int .i64 (k:Int)))) (fun(k:Nat)(o:List Nat)(cr:Nat) H'=>H'=ins H g (cC o (l.length+1))∧k≤l.length∧o.length=l.length+1∧Lt o∧cr<1000000000∧val (o.take k)+B^k*cr=val (l.take k)*m) 0 _ 0 (⟨rfl,by omega,by simp,Lt.replicate _,by omega,by simp[val]⟩) av ?_)
 rintro k o cr H1 ⟨rfl,hk,cK,cO,nK,hv⟩;refine ae (aa 1 rfl (ab [0,1,5,6,14,15,16] ?_));refine ao (az rfl (fun hb=> ?_) (fun hb=> ?_))
 ·
  have hb:k<l.length:=by simpa using hb
  obtain⟨d,hd⟩:∃d,l[k]? = some d:=⟨_,List.getElem?_eq_getElem hb⟩;have iK:=hl.get hd;rw[bt]at iK;have J3:d*m≤999999999*999999999:=Nat.mul_le_mul (by omega) (by omega)
  have J4:(d:Int)*(m:Int)=((d*m:Nat):Int):=by simp
  obtain⟨dm,aad⟩:∃dm,dm=d*m:=⟨_,rfl⟩;refine aw (ah [0,1,5,6,14,15] rfl ?_);refine ao (aD (ae (aa 2 rfl (ab [0,1,5,6,7,14,15] ?_))));refine ae (aa 2 rfl (a5 ag rfl rfl rfl rfl rfl (lT _) (cA hd) (by omega) (by omega) fun _=>(ct ag rfl rfl rfl ⟨by omega,by omega⟩ (aa 1 rfl (gB rfl rfl ⟨by omega,by omega⟩ (aa 1 rfl (aJ rfl rfl ⟨by omega,by omega⟩ (aa 1 rfl (ab [0,1,5,7,8,14,15] ?_)))))))));refine ae (aa 3 rfl (jR rfl rfl (by omega) (by omega) (ct ag rfl rfl rfl ⟨by omega,by omega⟩ ?_)));obtain⟨ti,aj,ak⟩:=kp;refine dE (.inl rfl) ag rfl rfl rfl (by omega) (by omega) (bn _ _ _) rfl (by rw[kt];omega) aj ak (fun _=>rfl) rfl rfl rfl fun _=> ?_;refine ab [0,1,5,8,14,15] ?_;refine aB rfl (aa 1 rfl (iY rfl rfl (by omega) (by omega) ⟨by omega,by omega⟩ (aa 1 rfl (ay (ah [0,1,5,6,14,15] rfl ?_)))));refine aB rfl (aJ rfl rfl ⟨by omega,by omega⟩ (aa 1 rfl (ay ?_)));have cJ:=vy (s:=d*m+cr) (a:=cr) (b:=d*m) (u:=val (l.take (k+1))*m) (by simp;omega) hv (by omega) (by rw[gY hd,Nat.add_mul,Nat.mul_assoc])
  rw[←rh (by omega)]at cJ;exact⟨k+1,o.set k ((d*m+cr)%B),(d*m+cr)/B,by omega,av,by rw[oO (y:=(d*m+cr)%B) (by rw[bt];omega)];rfl,by omega,by simp[cK],cO.set (Nat.mod_lt _ jv),by rw[bt];omega,cJ⟩
 ·
  have hb:l.length≤k:=by simpa using hb
  obtain rfl:k=l.length:=by omega
  rw[List.take_length]at hv;refine bA (ah [0,5,6] rfl ?_);refine ae (aa 4 rfl (ct ag rfl rfl rfl ⟨by omega,by omega⟩ ?_));obtain⟨ti,aj,ak⟩:=kp;refine dE (.inl rfl) ag rfl rfl rfl (by omega) (by omega) (bn _ _ _) rfl (by rw[kt];omega) aj ak (fun _=>rfl) rfl rfl rfl fun _=> ?_;refine ab [5] ?_;refine ae (aa 2 rfl (ab [4] ?_));refine ar ⟨.inr rfl,_,.tmp rfl (.nil),?_⟩;refine⟨g,o.set l.length cr,hg,rfl,?_,by simp[cK],cO.set (by rw[bt];omega),?_⟩
  ·rw[oO (y:=cr) rfl];rfl
  ·rw[←List.take_length (l:=o.set l.length cr),List.length_set,cK,rh (by omega),mN,List.length_take,Nat.min_eq_left (by omega)];exact hv
theorem J5{H:Heap}{u:Value}{l:List Nat}{m:Nat}(hu:fI H u l)(hl:Lt l)(hm:m<1000000000)(xW:0<m)(hs:(l.length:Int)≤8796093022208):
 Fn Tryz.prog 119 #[u,.int .u64 (m:Int)] H (fun v H'=>Heap.le H H'∧∃q,v = .tuple #[q,.int .u64 ((val l%m:Nat):Int)]∧cn H' q (val l/m)):=by
 obtain⟨A,c,rfl,hc,hr⟩:=hu;refine aU (args:=[_,_]) Tryz.func119 rfl rfl Tryz.ntmps119 rfl rfl fun w0=> ?_;refine ah [0,1] rfl ?_;refine ae (aa 2 rfl (ab [0,1] ?_));refine ae (aa 2 rfl (ja Tryz.underlying106 cR rfl rfl rfl (by omega) (by omega) (by omega) (by omega) ?_));intro g hg;rw[show ((l.length:Int)).toNat=l.length from by omega,rf];have lT:=fun e=>hr.le (Heap.bh (g:=g) e hg);refine aa 1 rfl (ab [0,1,6] ?_);refine ae (aa 1 rfl (ab [0,1,6,7] ?_));refine ao (ae (aa 2 rfl (cY rfl rfl ⟨by omega,by omega⟩ (aa 1 rfl (ab [0,1,6,7,8] ?_)))));refine aD (ju (fun(k:Nat)(o:List Nat)(rs:Nat)=>k) (fun(k:Nat)(o:List Nat)(rs:Nat)=>put (put (put (put (put (emp) 0 (.val (.slice A l.length c))) 1 (.val (.int .u64 (m:Int)))) 6 (.val (.slice (some ⟨g,0,none⟩) l.length l.length))) 7 (.val (.int .u64 (rs:Int)))) 8 (.val (.int .i64 ((k:Int)-1)))) (fun(k:Nat)(o:List Nat)(rs:Nat) H'=>H'=ins H g (cC o l.length)∧k≤l.length∧o.length=l.length∧Lt o∧rs<m∧val (o.drop k)*m+rs=val (l.drop k)) l.length _ 0 (⟨rfl,by omega,by simp,Lt.replicate _,by omega,by simp[val]⟩) av ?_);rintro k o rs H1 ⟨rfl,hk,cK,cO,mR,hv⟩;refine ao ?_
 refine ae (aa 2 rfl (ab [0,1,6,7,8,17] ?_));refine az rfl (fun hb=> ?_) (fun hb=> ?_)
 ·
  have hb:1≤k:=by simp at hb;omega
  obtain⟨k,rfl⟩:∃j,k=j+1:=⟨k-1,by omega⟩;obtain⟨d,hd⟩:∃d,l[k]? = some d:=⟨_,List.getElem?_eq_getElem (by omega)⟩;have iK:=hl.get hd;rw[bt]at iK
  have hj:(((k+1:Nat):Int)-1).toNat=k:=by omega
  have jV:((rs:Int)*1000000000+(d:Int))/(m:Int)<1000000000:=Int.ediv_lt_of_lt_mul (by omega) (by omega);have bJ:0≤((rs:Int)*1000000000+(d:Int))/(m:Int):=Int.ediv_nonneg (by omega) (by omega);refine aw (ah [0,1,6,7,8] rfl ?_);refine ao (aD (ae (aa 1 rfl (gB rfl rfl ⟨by omega,by omega⟩ (aa 2 rfl (a5 ag rfl rfl rfl rfl rfl (lT _) (by rw[hj];exact cA hd) (by omega) (by omega) fun _=> ?_))))));refine ct ag rfl rfl rfl ⟨by omega,by omega⟩ (aJ rfl rfl ⟨by omega,by omega⟩ (aa 1 rfl (ab [0,1,6,8,9] ?_)));refine ae (aa 4 rfl (iY rfl rfl (by omega) (by omega) ⟨by omega,by omega⟩ (ct ag rfl rfl rfl ⟨by omega,by omega⟩ ?_)));obtain⟨ti,aj,ak⟩:=kp;refine dE (.inl rfl) ag rfl rfl rfl (by omega) (by omega) (bn _ _ _) rfl (by rw[kt];omega) aj ak (fun _=>rfl) rfl rfl rfl fun _=> ?_;refine ab [0,1,6,8,9] ?_;refine aB rfl (aa 2 rfl (jR rfl rfl (by omega) (by omega) (aa 1 rfl (ay (ah [0,1,6,7,8] rfl ?_)))));refine aB rfl (aa 1 rfl (cY rfl rfl ⟨by omega,by omega⟩ (aa 1 rfl (ay ?_))))
  have hq:(rs*1000000000+d)/m<1000000000:=by rw[Nat.div_lt_iff_lt_mul xW];omega
  refine⟨k,o.set k ((rs*1000000000+d)/m),(rs*1000000000+d)%m,by omega,av,by rw[oO (y:=(rs*1000000000+d)/m) (by simp)];rw[hj],by omega,by simp[cK],cO.set (by rw[bt];omega),Nat.mod_lt _ xW,?_⟩;rw[set_drop (by omega),vz hd,fV,fV,←hv];have:=Nat.div_add_mod (rs*1000000000+d) m
  simp only[bt,Nat.add_mul,Nat.mul_add,Nat.mul_assoc]
  rw[Nat.mul_comm m]at this
  omega
 ·
  have hb:k=0:=by simp at hb;omega
  subst hb
  simp only[List.drop_zero]at hv
  refine bA (ah [6,7] rfl ?_);refine ae (aa 1 rfl (aq rfl rfl (BS (s6 _ _ o _ _ cK.symm (Nat.le_refl _)) cO (by omega)) ?_));intro v1 H4 hp;refine aa 3 rfl (ab [4,5] ?_);refine ar ⟨.inr rfl,_,.tmp rfl (.tmp rfl (.nil)),?_⟩;refine⟨(Heap.bh _ hg).trans hp.le,v1,?_,?_⟩
  ·rw[(BR hv mR).2];rfl
  ·rw[(BR hv mR).1];exact hp.nat
end Go.au
namespace Go.au
open Go.Proofs Num
def mS(o:List Nat)(p:Nat):Prop:=∀t z,p≤t→o[t]? = some z→z=0
theorem mS.set{o:List Nat}{p t y:Nat}(h:mS o p)(ht:t<p):mS (o.set t y) p:=fun s z hs hz=>by
 rw[List.getElem?_set_ne (by omega)]at hz
 exact h s z hs hz
theorem mS.Sj{o:List Nat}{p y:Nat}(h:mS o p):mS (o.set p y) (p+1):=fun s z hs hz=>by
 rw[List.getElem?_set_ne (by omega)]at hz
 exact h s z (by omega) hz
theorem J6(n p:Nat):mS (List.replicate n 0) p:=fun t z _ hz=>by
 rw[List.getElem?_replicate]at hz
 split at hz
 ·cases hz;rfl
 ·cases hz
theorem J7{o:List Nat}{i j e cr s X Y P d:Nat}(he:o[i+j]? = some e)(hv:val o+B^(i+j)*cr=X+B^i*d*Y)(hs:s=d*P+e+cr):
  val (o.set (i+j) (s%B))+B^(i+(j+1))*(s/B)=X+B^i*d*(Y+B^j*P):=by
 have h1:=JU (y:=s%B) he
 have h2:B^(i+j)*s=B^(i+j)*(s%B)+B^(i+j)*(B*(s/B)):=by rw[←Nat.mul_add,Nat.mod_add_div]
 have h3:B^(i+j)*s=B^(i+j)*(d*P)+B^(i+j)*e+B^(i+j)*cr:=by rw[hs,Nat.mul_add,Nat.mul_add]
 have h4:B^i*d*(B^j*P)=B^(i+j)*(d*P):=by rw[Nat.pow_add,Nat.mul_assoc,Nat.mul_assoc,Nat.mul_left_comm d]
 rw[Nat.mul_add,h4,←Nat.add_assoc i j 1,Nat.pow_succ,Nat.mul_assoc]
 omega
theorem s9{H:Heap}{u v:Value}{x y:Nat}(hx:cn H u x)(hy:cn H v y)(hm:((af x).length:Int)≤8796093022208)(aS:((af y).length:Int)≤8796093022208):
 Fn Tryz.prog 106 #[u,v] H (jy H (x*y)):=by
 obtain⟨A,c,rfl,hc,hr⟩:=hx
 obtain⟨A',c',rfl,gA,cF⟩:=hy
 have fJ:=(dO x).lt
 have eh:=(dO y).lt;refine aU (args:=[_,_]) Tryz.func106 rfl rfl Tryz.ntmps106 rfl rfl fun w0=> ?_;refine ah [0,1] rfl ?_;refine ae (aa 1 rfl (ab [0,1] ?_));refine ao ?_
 by_cases g6:(af x).length=0
 ·
  skip
  refine ae (aa 2 rfl (ax true rfl rfl (eQ (by omega)) (aa 5 rfl (ab [0,1,17] ?_))));refine cI rfl (ae (aa 1 rfl (ab [4] ?_)));refine ar ⟨.inr rfl,_,.tmp rfl (.nil),?_⟩;exact⟨.refl _,by have:x=0:=(by rw[←bX x,List.eq_nil_of_length_eq_zero g6];rfl);rw[this,Nat.zero_mul];exact pV H⟩
 ·
  skip
  refine ae (aa 2 rfl (ax false rfl rfl (fX (by omega)) (aa 5 rfl (ab [0,1,17] ?_))));refine az rfl (fun hb=> ?_) (fun hb=> ?_)
  ·
   have hb:(af y).length=0:=by simpa using hb
   refine ae (aa 1 rfl (ab [4] ?_));refine ar ⟨.inr rfl,_,.tmp rfl (.nil),?_⟩;exact⟨.refl _,by have:y=0:=(by rw[←bX y,List.eq_nil_of_length_eq_zero hb];rfl);rw[this,Nat.mul_zero];exact pV H⟩
  have fE:(af y).length≠0:=by simpa using hb
  refine aw (ah [0,1] rfl ?_);refine ae (aa 4 rfl (aJ rfl rfl ⟨by omega,by omega⟩ (ja Tryz.underlying106 cR rfl rfl rfl (by omega) (by omega) (by omega) (by omega) ?_)));intro g hg;rw[show (((af x).length:Int)+((af y).length:Int)).toNat=((af x).length+(af y).length)from by omega,rf];have lT:=fun e=>hr.le (Heap.bh (g:=g) e hg);have xX:=fun e=>cF.le (Heap.bh (g:=g) e hg);refine aa 1 rfl (ab [0,1,5] ?_);refine ao (ae (aa 3 rfl (ab [0,1,5,25,26] ?_)));refine aD (jb (fun(i:Nat)(o:List Nat)=>(af x).length-i) (fun(i:Nat)(o:List Nat)=>put (put (put (put (put (emp) 0 (.val (.slice A (af x).length c))) 1 (.val (.slice A' (af y).length c'))) 5 (.val (.slice (some ⟨g,0,none⟩) ((af x).length+(af y).length) ((af x).length+(af y).length)))) 25 (.val (.int .i64 ((af x).length:Int)))) 26 (.val (.int .i64 (i:Int)))) (fun(i:Nat)(o:List Nat) H'=>H'=ins H g (cC o ((af x).length+(af y).length))∧i≤(af x).length∧o.length=((af x).length+(af y).length)∧Lt o∧mS o (i+(af y).length)∧val o=val ((af x).take i)*y) 0 _ (⟨rfl,by omega,by simp,Lt.replicate _,J6 _ _,by simp[val,JV]⟩) av ?_);rintro i o H1 ⟨rfl,hi,cK,cO,hz,hv⟩;refine ae ?_
  refine aa 1 rfl (ab [0,1,5,25,26,27] ?_);refine ao (az rfl (fun hb=> ?_) (fun hb=> ?_))
  ·
   have hb:i<(af x).length:=by simpa using hb
   obtain⟨d,hd⟩:∃d,(af x)[i]? = some d:=⟨_,List.getElem?_eq_getElem hb⟩;have iK:=fJ.get hd;rw[bt]at iK;refine aw (ah [0,1,5,25,26] rfl ?_);refine ao (aD (ae (aa 2 rfl (ab [0,1,5,6,25,26] ?_))));refine ae (aa 1 rfl (ab [0,1,5,6,7,25,26] ?_));refine ao (ae (aa 3 rfl (ab [0,1,5,6,7,25,26,30,31] ?_)));refine aD (ju (fun(j:Nat)(o2:List Nat)(cr:Nat)=>(af y).length-j) (fun(j:Nat)(o2:List Nat)(cr:Nat)=>put (put (put (put (put (put (put (put (put (emp) 0 (.val (.slice A (af x).length c))) 1 (.val (.slice A' (af y).length c'))) 5 (.val (.slice (some ⟨g,0,none⟩) ((af x).length+(af y).length) ((af x).length+(af y).length)))) 6 (.val (.int .i64 (i:Int)))) 7 (.val (.int .u64 (cr:Int)))) 25 (.val (.int .i64 ((af x).length:Int)))) 26 (.val (.int .i64 (i:Int)))) 30 (.val (.int .i64 ((af y).length:Int)))) 31 (.val (.int .i64 (j:Int)))) (fun(j:Nat)(o2:List Nat)(cr:Nat) H'=>H'=ins H g (cC o2 ((af x).length+(af y).length))∧j≤(af y).length∧o2.length=((af x).length+(af y).length)∧Lt o2∧cr<1000000000∧mS o2 (i+(af y).length)∧val o2+B^(i+j)*cr=val ((af x).take i)*y+B^i*d*val ((af y).take j)) 0 o 0 (⟨rfl,by omega,cK,cO,by omega,hz,by simp[val,hv]⟩) av ?_)
   rintro j o2 cr H1 ⟨rfl,hj,xY,tc,nK,g8,cZ⟩;refine ae (aa 1 rfl (ab [0,1,5,6,7,25,26,30,31,32] ?_));refine ao (az rfl (fun hb=> ?_) (fun hb=> ?_))
   ·
    have hb:j<(af y).length:=by simpa using hb
    obtain⟨p,hp⟩:∃p,(af y)[j]? = some p:=⟨_,List.getElem?_eq_getElem hb⟩;have re:=eh.get hp;rw[bt]at re;obtain⟨e,he⟩:∃e,o2[i+j]? = some e:=⟨_,List.getElem?_eq_getElem (by omega)⟩;have vC:=tc.get he;rw[bt]at vC
    have xZ:((i:Int)+(j:Int)).toNat=i+j:=by omega
    have J3:d*p≤999999999*999999999:=Nat.mul_le_mul (by omega) (by omega)
    have J4:(d:Int)*(p:Int)=((d*p:Nat):Int):=by simp
    refine aw (ah [0,1,5,6,7,25,26,30,31] rfl ?_);refine ao (aD (ae (aa 2 rfl (ab [0,1,5,6,7,8,25,26,30,31] ?_))));refine bT .bN [0,1,2,3,4,5,6,7,8,9,10,11,12,13,14,15,16,17,18,19,20,21] follows (by kernel_rfl) ?_;refine aa 2 rfl (a5 ag rfl rfl rfl rfl rfl (lT _) (cA hd) (by omega) (by omega) fun _=>(ct ag rfl rfl rfl ⟨by omega,by omega⟩ (aa 2 rfl (a5 ag rfl rfl rfl rfl rfl (xX _) (cA hp) (by omega) (by omega) fun _=>(ct ag rfl rfl rfl ⟨by omega,by omega⟩ (gB rfl rfl ⟨by omega,by omega⟩ (aa 3 rfl (aJ rfl rfl ⟨by omega,by omega⟩ (a5 ag rfl rfl rfl rfl rfl (BO _ _ _ _) (by rw[xZ];exact cA he) (by omega) (by omega) fun _=> ?_)))))))));refine ct ag rfl rfl rfl ⟨by omega,by omega⟩ (aJ rfl rfl ⟨by omega,by omega⟩ (aa 1 rfl (aJ rfl rfl ⟨by omega,by omega⟩ (aa 1 rfl (ab [0,1,5,6,8,9,25,26,30,31] ?_)))));refine ae (aa 3 rfl (aJ rfl rfl ⟨by omega,by omega⟩ (aa 1 rfl (jR rfl rfl (by omega) (by omega) (ct ag rfl rfl rfl ⟨by omega,by omega⟩ ?_)))));obtain⟨ti,aj,ak⟩:=kp;refine dE (.inl rfl) ag rfl rfl rfl (by omega) (by omega) (bn _ _ _) rfl (by rw[kt];omega) aj ak (fun _=>rfl) rfl rfl rfl fun _=> ?_
    refine ab [0,1,5,6,9,25,26,30,31] ?_;refine aB rfl (aa 1 rfl (iY rfl rfl (by omega) (by omega) ⟨by omega,by omega⟩ (aa 1 rfl (ay (ah [0,1,5,6,7,25,26,30,31] rfl ?_)))));refine aB rfl (aJ rfl rfl ⟨by omega,by omega⟩ (aa 1 rfl (ay ?_)));refine⟨j+1,o2.set (i+j) ((d*p+e+cr)%B),(d*p+e+cr)/B,by omega,av,by rw[oO (y:=(d*p+e+cr)%B) (by rw[bt];simp),xZ],by omega,by simp[xY],tc.set (Nat.mod_lt _ jv),by rw[bt];omega,g8.set (by omega),?_⟩;rw[gY hp];exact J7 he cZ rfl
   have hb:(af y).length≤j:=by simpa using hb
   obtain rfl:j=(af y).length:=by omega
   rw[List.take_length,bX]at cZ;refine bA (ah [0,1,5,6,7,25,26] rfl ?_);refine aB rfl (aa 4 rfl (aJ rfl rfl ⟨by omega,by omega⟩ (aa 1 rfl (ct ag rfl rfl rfl ⟨by omega,by omega⟩ ?_))));obtain⟨ti,aj,ak⟩:=kp;refine dE (.inl rfl) ag rfl rfl rfl (by omega) (by omega) (bn _ _ _) rfl (by rw[kt];omega) aj ak (fun _=>rfl) rfl rfl rfl fun _=> ?_;refine ay (ah [0,1,5,25,26] rfl ?_);refine aB rfl (aJ rfl rfl ⟨by omega,by omega⟩ (aa 1 rfl (ay ?_)));obtain⟨e,he⟩:∃e,o2[i+(af y).length]? = some e:=⟨_,List.getElem?_eq_getElem (by omega)⟩;have J1:=g8 _ _ (Nat.le_refl _) he;subst J1;refine⟨i+1,o2.set (i+(af y).length) cr,by omega,av,by rw[oO (y:=cr) rfl,show ((i:Int)+((af y).length:Int)).toNat=i+(af y).length by omega],by omega,by simp[xY],tc.set (by rw[bt];omega),by rw[Nat.add_right_comm];exact g8.Sj,?_⟩;have h1:=JU (y:=cr) he;rw[gY hd,Nat.add_mul]
   omega
  have hb:(af x).length≤i:=by simpa using hb
  obtain rfl:i=(af x).length:=by omega
  rw[List.take_length,bX]at hv;refine bA (ah [5] rfl ?_);refine ae (aa 1 rfl (aq rfl rfl (BS (s6 _ _ o _ _ cK.symm (Nat.le_refl _)) cO (by omega)) ?_));intro v1 H4 hp;refine aa 1 rfl (ab [4] ?_);refine ar ⟨.inr rfl,_,.tmp rfl (.nil),?_⟩;exact⟨(Heap.bh _ hg).trans hp.le,by have:=hp.nat;rwa [hv]at this⟩
end Go.au
namespace Num
theorem Sk{T V W vl wl head u2 top next aR rest:Nat}(hV:V=vl+T*(next+B*top))(hW:W=wl+T*(u2+B*head))(te:wl<T)(hg:aR*top+rest=head)(hc:rest*B+u2<aR*next):W<aR*V:=by
 have h1:u2+B*head+1≤aR*(next+B*top):=by
  rw[←hg,Nat.mul_add,Nat.mul_add,Nat.mul_left_comm aR B top,Nat.mul_comm B rest];omega
 have h2:T*(u2+B*head+1)≤T*(aR*(next+B*top)):=Nat.mul_le_mul_left _ h1
 rw[hV,hW,Nat.mul_add aR,Nat.mul_left_comm aR T]
 rw[Nat.mul_add T _ 1]at h2
 omega
theorem Sl{T V W vl wl head u2 top next aR rest:Nat}(hV:V=vl+T*(next+B*top))(hW:W=wl+T*(u2+B*head))(ig:vl<T)(vD:1≤top)(hg:aR*top+rest=head)(hc:aR*next≤rest*B+u2)(BT:aR<B):aR*V<W+V:=by
 have h1:aR*(next+B*top)≤u2+B*head:=by
  rw[←hg,Nat.mul_add,Nat.mul_add,Nat.mul_left_comm aR B top,Nat.mul_comm B rest];omega
 have h2:T*(aR*(next+B*top))≤T*(u2+B*head):=Nat.mul_le_mul_left _ h1
 have h3:aR*vl≤aR*T:=Nat.mul_le_mul_left _ (by omega)
 have h4:aR*T<B*T:=Nat.mul_lt_mul_of_pos_right BT (by omega)
 have h5:T*(B*1)≤T*(B*top):=Nat.mul_le_mul_left _ (Nat.mul_le_mul_left _ vD)
 have h6:T*(B*1)=B*T:=by rw[Nat.mul_one,Nat.mul_comm]
 have h7:T*(next+B*top)=T*next+T*(B*top):=Nat.mul_add _ _ _
 have h8:aR*V=aR*vl+T*(aR*(next+B*top)):=by rw[hV,Nat.mul_add,Nat.mul_left_comm aR T]
 omega
theorem Sm{T V W vl wl head u2 top next:Nat}(hV:V=vl+T*(next+B*top))(hW:W=wl+T*(u2+B*head))(ig:vl<T)(x6:next<B)(h:W<B*V):head<(top+1)*B:=by
 have h1:V<T*(B*(top+1)):=by
  have h2:T*(next+B*top+1)≤T*(B*(top+1)):=Nat.mul_le_mul_left _ (by rw[Nat.mul_add B top 1];omega)
  rw[Nat.mul_add T _ 1]at h2
  omega
 have h2:B*V<B*(T*(B*(top+1))):=Nat.mul_lt_mul_of_pos_left h1 jv
 have h3:T*(B*head)≤W:=by rw[hW,Nat.mul_add T u2];omega
 have h4:T*(B*head)<T*(B*((top+1)*B)):=by
  have:B*(T*(B*(top+1)))=T*(B*((top+1)*B)):=by rw[Nat.mul_left_comm B T,Nat.mul_comm (top+1) B]
  omega
 exact Nat.lt_of_mul_lt_mul_left (Nat.lt_of_mul_lt_mul_left h4)
theorem Sn{T V W vl wl head u2 top next aR rest:Nat}(hV:V=vl+T*(next+B*top))(hW:W=wl+T*(u2+B*head))(ig:vl<T)(x6:next<B)(hh:head<(top+1)*B)(hg:aR*top+rest=head)(hr:B≤rest):aR<B∧aR*V≤W:=by
 have h0:aR<B:=by
  have h1:aR*top<B*top:=by rw[Nat.add_mul,Nat.one_mul,Nat.mul_comm top B]at hh;omega
  exact Nat.lt_of_mul_lt_mul_right h1
 refine⟨h0,?_⟩
 have h1:V≤T*(B*(top+1)):=by
  have h2:T*(next+B*top+1)≤T*(B*(top+1)):=Nat.mul_le_mul_left _ (by rw[Nat.mul_add B top 1];omega)
  rw[Nat.mul_add T _ 1]at h2
  omega
 have h2:aR*V≤aR*(T*(B*(top+1))):=Nat.mul_le_mul_left _ h1
 have h3:aR*(T*(B*(top+1)))=T*(B*(aR*(top+1))):=by rw[Nat.mul_left_comm aR T,Nat.mul_left_comm aR B]
 have h4:aR*(top+1)≤head:=by rw[Nat.mul_add,Nat.mul_one];omega
 have h5:T*(B*(aR*(top+1)))≤T*(B*head):=Nat.mul_le_mul_left _ (Nat.mul_le_mul_left _ h4)
 have h6:T*(B*head)≤W:=by rw[hW,Nat.mul_add T u2];omega
 omega
theorem J8{aR top rest head:Nat}(hg:aR*top+rest=head)(h:0<aR):(aR-1)*top+(rest+top)=head:=by
 obtain⟨j,rfl⟩:∃j,aR=j+1:=⟨aR-1,by omega⟩
 rw[Nat.add_mul,Nat.one_mul]at hg
 rw[Nat.add_sub_cancel];omega
theorem So{V W aR q:Nat}(hq:q=W/V)(hV:0<V)(h:aR*V<W+V):aR≤q+1:=by
 subst hq
 have h1:=Nat.div_add_mod W V
 have h2:=Nat.mod_lt W hV
 have h3:aR*V<(W/V+2)*V:=by
  rw[Nat.add_mul]
  rw[Nat.mul_comm]at h1
  omega
 have:=Nat.lt_of_mul_lt_mul_right h3
 omega
theorem Fa{V W aR q:Nat}(hq:q=W/V)(h:W<aR*V):q<aR:=by
 subst hq
 exact Nat.div_lt_of_lt_mul (by rwa [Nat.mul_comm]at h)
theorem Sp{w:List Nat}{k p a b:Nat}(hl:w.length=k+3)(h0:w[k]? = some p)(h1:w[k+1]? = some a)(h2:w[k+2]? = some b):val w=val (w.take k)+B^k*(p+B*(b*B+a)):=by
 rw[BH h0,vz h1,vz h2,List.drop_eq_nil_of_le (by omega),fV,fV]
 simp only[val,Nat.mul_zero,Nat.add_zero]
 rw[Nat.mul_comm b B,Nat.add_comm a]
theorem Sq{w:List Nat}{k p a:Nat}(hl:w.length=k+2)(h0:w[k]? = some p)(h1:w[k+1]? = some a):val w=val (w.take k)+B^k*(p+B*a):=by
 rw[BH h0,vz h1,List.drop_eq_nil_of_le (by omega),fV]
 simp only[val,Nat.mul_zero,Nat.add_zero]
theorem vE{w:List Nat}{k:Nat}(h:Lt w)(hk:k≤w.length):val (w.take k)<B^k:=by
 have:=oL (h.take k)
 rwa [List.length_take,Nat.min_eq_left hk]at this
theorem Sr{n V W X un br aR q:Nat}(hW:W=X+B^n*un){Y:Nat}(hX:X+B^n*br=Y+aR*V)(oQ:br≤un)(hq:q=W/V)(x8:q≤aR)(hV:0<V):aR=q∧Y+B^n*(un-br)=W%V:=by
 have h1:B^n*un=B^n*(un-br)+B^n*br:=by rw[←Nat.mul_add,Nat.sub_add_cancel oQ]
 have h2:W=Y+B^n*(un-br)+aR*V:=by omega
 have h3:aR≤q:=by
  rw[hq,Nat.le_div_iff_mul_le hV];omega
 have h4:aR=q:=by omega
 refine⟨h4,?_⟩
 have h5:=Nat.div_add_mod W V
 rw[←hq,←h4,Nat.mul_comm]at h5
 omega
theorem Ss{n V W X un br aR q:Nat}(hW:W=X+B^n*un){Y Z cr:Nat}(hX:X+B^n*br=Y+aR*V)(oQ:un<br)(hq:q=W/V)(dC:aR≤q+1)(hV:0<V)(hVn:V<B^n)(hY:Y<B^n)(hZ:Z<B^n)(hZY:Z+B^n*cr=Y+V):aR=q+1∧un+cr=br∧Z=W%V:=by
 have h0:B^n*br=B^n*un+B^n*(br-un):=by rw[←Nat.mul_add];congr 1;omega
 have h1:W+B^n*(br-un)=Y+aR*V:=by omega
 have JH:B^n*1≤B^n*(br-un):=Nat.mul_le_mul_left _ (by omega)
 have h2:W<aR*V:=by omega
 have h3:=Fa hq h2
 have h4:aR=q+1:=by omega
 have h5:=Nat.div_add_mod W V
 have h6:=Nat.mod_lt W hV
 rw[←hq,Nat.mul_comm]at h5
 have h7:aR*V=q*V+V:=by rw[h4,Nat.add_mul,Nat.one_mul]
 have h8:W%V+B^n*(br-un)=Z+B^n*cr:=by omega
 have h9:br-un=cr:=by
  have e1:(W%V+B^n*(br-un))/B^n=br-un:=by
   rw[Nat.add_mul_div_left _ _ (by omega),Nat.div_eq_of_lt (by omega),Nat.zero_add]
  have e2:(Z+B^n*cr)/B^n=cr:=by
   rw[Nat.add_mul_div_left _ _ (by omega),Nat.div_eq_of_lt (by omega),Nat.zero_add]
  rw[←e1,←e2,h8]
 subst h9
 exact⟨h4,by omega,by omega⟩
theorem Fb(a b:List Nat):val (a++b)=val a+B^a.length*val b:=by
 induction a with
 | nil=>simp[val]
 | cons x a ih=>
  rw[List.cons_append,fV,fV,ih,List.length_cons,Nat.pow_succ,Nat.mul_add,Nat.mul_comm (B^a.length) B,Nat.mul_assoc];omega
theorem ya(l:List Nat){k:Nat}(hk:k≤l.length):val l=val (l.take k)+B^k*val (l.drop k):=by
 have:=Fb (l.take k) (l.drop k)
 rwa [List.take_append_drop,List.length_take,Nat.min_eq_left hk]at this
theorem J9{l:List Nat}{j n V:Nat}(pY:Lt l)(hlen:j+n+1≤l.length)(hd:val (l.drop (j+1))<V)(hV:V≤B^n):
  val (l.drop (j+n+1))=0∧val (l.drop j)=val ((l.drop j).take (n+1))∧val ((l.drop j).take (n+1))<B*V:=by
 have h1:=ya (l.drop (j+1)) (k:=n) (by simp;omega)
 rw[List.drop_drop,show j+1+n=j+n+1 by omega]at h1
 have h0:val (l.drop (j+n+1))=0:=by
  rcases Nat.eq_zero_or_pos (val (l.drop (j+n+1)))with e | e
  ·exact e
  ·have:B^n*1≤B^n*val (l.drop (j+n+1)):=Nat.mul_le_mul_left _ e
   omega
 have h2:=ya (l.drop j) (k:=n+1) (by simp;omega)
 rw[List.drop_drop,show j+(n+1)=j+n+1 by omega,h0,Nat.mul_zero,Nat.add_zero]at h2
 refine⟨h0,h2,?_⟩
 rw[←h2]
 have hj:l[j]? = some l[j]:=List.getElem?_eq_getElem (by omega)
 rw[vz hj,fV]
 have h3:=pY.get hj
 have h4:B*(val (l.drop (j+1))+1)≤B*V:=Nat.mul_le_mul_left _ hd
 rw[Nat.mul_add]at h4
 omega
theorem Su{l o w':List Nat}{j n V S q:Nat}(pY:Lt l)(hlen:j+n+1≤l.length)(hd:val (l.drop (j+1))<V)(hV:V≤B^n)(ho:j<o.length)
  (hinv:val (o.drop (j+1))*V*B^(j+1)+val l=S) (hq:q=val ((l.drop j).take (n+1))/V) (hw:val w'=val ((l.drop j).take (n+1))%V) (te:w'.length=n+1):
  val ((o.set j q).drop j)*V*B^j+val (l.take j++w'++l.drop (j+n+1))=S∧val ((l.take j++w'++l.drop (j+n+1)).drop j)<V:=by
 obtain⟨h0,h1,h2⟩:=J9 pY hlen hd hV
 have e1:=ya l (k:=j) (by omega)
 have e2:val (w'++l.drop (j+n+1))=val w':=by rw[Fb,h0,Nat.mul_zero,Nat.add_zero]
 have e3:val (l.take j++w'++l.drop (j+n+1))=val (l.take j)+B^j*val w':=by
  rw[List.append_assoc,Fb,e2,List.length_take,Nat.min_eq_left (by omega)]
 have e4:=Nat.div_add_mod (val ((l.drop j).take (n+1))) V
 rw[←hq,←hw]at e4
 refine⟨?_,?_⟩
 ·rw[set_drop ho,fV,e3]
  rw[h1,←e4]at e1
  have e5:(q+B*val (o.drop (j+1)))*V*B^j=B^j*(V*q)+val (o.drop (j+1))*V*B^(j+1):=by
   rw[Nat.add_mul,Nat.add_mul,Nat.pow_succ,Nat.mul_comm q V,Nat.mul_comm (V*q),Nat.mul_assoc B,Nat.mul_comm (B^j) B,Nat.mul_left_comm _ B,Nat.mul_assoc B]
  rw[Nat.mul_add]at e1
  omega
 ·rw[List.append_assoc,List.drop_append_of_le_length (by simp;omega),List.drop_of_length_le (by rw[List.length_take];omega),List.nil_append,e2,hw]
  exact Nat.mod_lt _ (by omega)
theorem Sv{l:List Nat}{x sc n m y:Nat}(hm:m≤l.length)(hl:val l=x*sc)(hx:x<B^(m+(n-1)))(hy:B^(n-1)≤y)(hs:0<sc):val (l.drop m)<y*sc:=by
 have h1:=ya l hm
 have h2:B^m*val (l.drop m)<B^m*(y*sc):=by
  have a1:x*sc<B^(m+(n-1))*sc:=Nat.mul_lt_mul_of_pos_right hx hs
  have a2:B^(m+(n-1))*sc≤B^m*(y*sc):=by
   rw[Nat.pow_add,Nat.mul_assoc]
   exact Nat.mul_le_mul_left _ (Nat.mul_le_mul_right _ hy)
  omega
 exact Nat.lt_of_mul_lt_mul_left h2
theorem SA{Q R x y sc:Nat}(h:Q*(y*sc)+R=x*sc)(hR:R<y*sc)(hs:0<sc):Q=x/y∧R/sc=x%y:=by
 have h1:x*sc/(y*sc)=Q:=by
  rw[←h,Nat.mul_comm Q,Nat.mul_add_div (by omega),Nat.div_eq_of_lt hR,Nat.add_zero]
 have h2:x*sc%(y*sc)=R:=by
  rw[←h,Nat.mul_comm Q,Nat.mul_add_mod,Nat.mod_eq_of_lt hR]
 rw[Nat.mul_div_mul_right _ _ hs]at h1
 rw[Nat.mul_mod_mul_right]at h2
 exact⟨h1.symm,by rw[←h2,Nat.mul_div_cancel _ hs]⟩
end Num
