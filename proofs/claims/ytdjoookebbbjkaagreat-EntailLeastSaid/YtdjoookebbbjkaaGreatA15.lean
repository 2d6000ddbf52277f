/- Part 15 of the proof: En1, En2, Rat4, En3, Lex, Lx1, Lx2, Lxz, Lx3, Cmb, En4, Csz, En5. -/
import Derived.Test.YtdjoookebbbjkaaGreatA14
set_option linter.unusedVariables false
namespace Go.aq
open Go.Proofs Num Lp
structure An(l:List (Int×Int))(n:Nat):Prop where
 term:∀(i:Nat)(t:Int×Int),i<n→l[i]? = some t→t.2≠0∧-1048576≤t.2∧t.2≤1048576∧-1≤t.1∧t.1<3000
 Iw:∀(i:Nat)(a b:Int×Int),i+1<n→l[i]? = some a→l[i+1]? = some b→a.1<b.1
theorem abp(l:List (Int×Int)):An l 0:=⟨fun i t h=>by omega,fun i a b h=>by omega⟩
theorem An.next{l:List (Int×Int)}{i:Nat}(h:An l i){t:Int×Int}(ht:l[i]? = some t)(h1: -1≤t.1∧t.1<3000)(h2:t.2≠0)(h3: -1048576≤t.2∧t.2≤1048576)(h4:∀(j:Nat)(a:Int×Int),j+1=i→l[j]? = some a→a.1<t.1):An l (i+1):=by
 refine⟨fun j u hj hu=> ?_,fun j a b hj ha hb=> ?_⟩
 ·by_cases e:j<i
  ·exact h.term j u e hu
  ·obtain rfl:j=i:=by omega
   rw[ht]at hu;cases hu
   exact⟨h2,h3.1,h3.2,h1.1,h1.2⟩
 ·by_cases e:j+1<i
  ·exact h.Iw j a b e ha hb
  ·have e:j+1=i:=by omega
   rw[e,ht]at hb;cases hb
   exact h4 j a e ha
theorem An.lin{f:aO}(h:An f.ts f.ts.length)(h1: -1048576≤f.c∧f.c≤1048576)(h2:f.ts.length≤16):eK f:=
 ⟨h1,h2,fun i t ht=>h.term i t (List.getElem?_eq_some_iff.1 ht).1 ht,fun i a b ha hb=>h.Iw i a b (List.getElem?_eq_some_iff.1 hb).1 ha hb⟩
theorem Jj{H:Heap}{n:Int}:
 Fn Tryz.prog 46 #[.int .i64 n] H (j5 H (.bool (decide (-1048576≤n∧n≤1048576)))):=by
 refine aZ (args:=[_]) Tryz.func46 rfl rfl Tryz.ntmps46 rfl rfl fun w0=> ?_;refine ah [0] rfl ?_;refine ae (aa 1 rfl (ab [0] ?_))
 by_cases h1: -1048576≤n
 ·
  skip
  refine ae (aa 1 rfl (aG true rfl rfl (rN h1) (aa 5 rfl (ab [2] ?_))));refine aB ⟨.inr rfl,_,.tmp rfl (.nil),?_⟩;exact⟨rfl,congrArg Value.bool (by simp[h1])⟩
 ·
  skip
  refine ae (aa 1 rfl (aG false rfl rfl (AY (by omega)) (aa 5 rfl (ab [2] ?_))));refine aB ⟨.inr rfl,_,.tmp rfl (.nil),?_⟩;exact⟨rfl,congrArg Value.bool (by simp[h1])⟩
theorem abq{H:Heap}{n:Int}:
 Fn Tryz.prog 47 #[.int .i64 n] H (j5 H (.bool (decide (-1≤n∧n<3000)))):=by
 refine aZ (args:=[_]) Tryz.func47 rfl rfl Tryz.ntmps47 rfl rfl fun w0=> ?_;refine ah [0] rfl ?_;refine ae (aa 1 rfl (ab [0] ?_))
 by_cases h1: -1≤n
 ·
  skip
  refine ae (aa 1 rfl (aG true rfl rfl (me h1) (aa 5 rfl (ab [2] ?_))));refine aB ⟨.inr rfl,_,.tmp rfl (.nil),?_⟩;exact⟨rfl,congrArg Value.bool (by simp[h1])⟩
 ·
  skip
  refine ae (aa 1 rfl (aG false rfl rfl (ql (by omega)) (aa 5 rfl (ab [2] ?_))));refine aB ⟨.inr rfl,_,.tmp rfl (.nil),?_⟩;exact⟨rfl,congrArg Value.bool (by simp[h1])⟩
theorem Nw{H:Heap}{f:aO}{A:Option Addr}{c:Nat}(hf:aQ gy 2 H (.slice A f.ts.length c) f.ts):
 Fn Tryz.prog 20 #[.agg #[.int .i64 f.c,.slice A f.ts.length c]] H (fun v' H'=>H'=H∧∃b,v' = .bool b∧(b=true↔eK f)):=by
 obtain⟨A',c',xs,e,hc,hr,hx⟩:=id hf
 cases e
 refine aZ (args:=[_]) Tryz.func20 rfl rfl Tryz.ntmps20 rfl rfl fun w0=> ?_;refine ah [0] rfl ?_;refine ae (bY rfl rfl (aa 1 rfl (ab [1] ?_)));refine ao ?_
 by_cases h1: -1048576≤f.c∧f.c≤1048576
 ·
  skip
  by_cases h2:(16:Int)<(f.ts.length:Int)
  ·
   skip
   refine ae (aa 2 rfl (aC rfl rfl (Jj.bt (decide_eq_true h1)) ?_));rintro _ H2 ⟨e2,rfl⟩;rw[e2];refine aa 5 rfl (aG true rfl rfl (ov h2) (aa 1 rfl (ab [1,14] ?_)));refine cK rfl (ae (aa 1 rfl (ab [2] ?_)));refine aB ⟨.inr rfl,_,.tmp rfl (.nil),?_⟩;exact⟨rfl,false,rfl,⟨(fun h=>by cases h),fun h=>absurd h.len (by omega)⟩⟩
  ·
   skip
   refine ae (aa 2 rfl (aC rfl rfl (Jj.bt (decide_eq_true h1)) ?_));rintro _ H2 ⟨e2,rfl⟩;rw[e2];refine aa 5 rfl (aG false rfl rfl (kt (by omega)) (aa 1 rfl (ab [1,14] ?_)));refine dh rfl (az (ah [1] rfl ?_));refine ao (ae (aa 4 rfl (ab [1,16,17,18] ?_)));refine aE (fY (fun(i:Nat)=>f.ts.length-i) (fun(i:Nat)=>put (put (put (put (emp) 1 (.box [.int .i64 f.c,.slice A f.ts.length c])) 16 (.val (.slice A f.ts.length c))) 17 (.val (.int .i64 (f.ts.length:Int)))) 18 (.val (.int .i64 (i:Int)))) (fun(i:Nat) H'=>H'=H∧i≤f.ts.length∧An f.ts i) 0 (⟨rfl,Nat.zero_le _,abp _⟩) ar ?_);rintro i H1 ⟨e1,hi,hk⟩;rw[e1];refine ae (aa 1 rfl (ab [1,16,17,18,19] ?_));refine ao (aD rfl (fun hb=> ?_) (fun hb=> ?_))
   ·
    have aP:i<f.ts.length:=by simpa using hb
    obtain⟨t,ht⟩:∃t,f.ts[i]? = some t:=⟨_,List.getElem?_eq_getElem aP⟩;refine az (ah [1,16,17,18] rfl ?_);refine ao (aE (ae (aa 1 rfl (cj ag rfl rfl rfl rfl (hr) rfl (by decide) (xV hx ht) (by omega) (by omega) fun _=>(bh rK rfl (vr 1 ?_))))));obtain⟨ti,aj,ak⟩:=J6;refine aH (.inl ⟨rfl,rfl⟩) rfl rfl rfl aj ak rfl rfl rfl (ab [1,3,4,16,17,18] ?_);refine bM .bJ [0,1,2,3,4,5,6,7,8,9,10,11,12,13,14,15,16,17,18,19,20,21,22,23,24,25,26,27,28,29,30] follows (gL [0,1,3,7,15,31,63,127,255,511,1023,2047,4095,8191,16383,32767,65535,131071,262143,524287,1048575,524287,2621439,8388607,16777215,33554431,524287,67633151,268435455,536870911,1073741823] (by kernel_rfl)) ?_;refine vr 2 ?_
    by_cases v1: -1≤t.1∧t.1<3000
    ·
     skip
     refine aY rfl rfl (abq.bt (decide_eq_true v1)) (fun _ _ h=>by first | exact h.le | exact h.1) ?_;rintro _ H2 ⟨e2,rfl⟩;rw[e2];refine vr 4 ?_
     by_cases v2:t.2=0
     ·
      skip
      refine aG true rfl rfl (iL v2) (aa 23 rfl (ab [1,16,17,18,53] ?_));refine cK rfl (ae (aa 1 rfl (ab [2] ?_)));refine aB ⟨.inr rfl,_,.tmp rfl (.nil),?_⟩;exact⟨rfl,false,rfl,⟨(fun h=>by cases h),fun h=>absurd v2 (h.term i t ht).1⟩⟩
     skip
     refine aG false rfl rfl (ks v2) (vr 4 ?_)
     by_cases v3: -1048576≤t.2∧t.2≤1048576
     ·
      skip
      refine aY rfl rfl (Jj.bt (decide_eq_true v3)) (fun _ _ h=>by first | exact h.le | exact h.1) ?_;rintro _ H2 ⟨e2,rfl⟩;rw[e2];refine vr 4 ?_
      by_cases v4:i=0
      ·
       skip
       refine aG false rfl rfl (kt (by omega)) (aa 13 rfl (ab [1,16,17,18,53] ?_));refine dh rfl (az (ah [1,16,17,18] rfl ?_));refine aA rfl (aF rfl rfl ⟨by omega,by omega⟩ (aa 1 rfl (au ?_)));exact⟨i+1,by omega,ar,rfl,by omega,hk.next ht v1 v2 v3 fun j a hj ha=>by omega⟩
      obtain⟨a,ha⟩:∃a,f.ts[i-1]? = some a:=⟨_,List.getElem?_eq_getElem (by omega)⟩;have TF:=xV hx ha;refine aG true rfl rfl (ov (by omega)) (aa 4 rfl (cQ rfl rfl ⟨by omega,by omega⟩ (ki ag rfl rfl rfl rfl rfl rfl rfl (hr) (by rw[ZV (by omega)];exact TF 0 _ rfl) (by omega) (by omega) fun _ _=> ?_)));refine vr 2 ?_
      by_cases v5:a.1<t.1
      ·
       skip
       refine aG false rfl rfl (ql v5) (aa 2 rfl (ab [1,16,17,18,53] ?_));refine dh rfl (az (ah [1,16,17,18] rfl ?_));refine aA rfl (aF rfl rfl ⟨by omega,by omega⟩ (aa 1 rfl (au ?_)));exact⟨i+1,by omega,ar,rfl,by omega,hk.next ht v1 v2 v3 fun j b hj Jk=>by(obtain rfl:j=i-1:=by omega);rw[ha]at Jk;cases Jk;exact v5⟩
      skip
      refine aG true rfl rfl (me (by omega)) (aa 2 rfl (ab [1,16,17,18,53] ?_));refine cK rfl (ae (aa 1 rfl (ab [2] ?_)));refine aB ⟨.inr rfl,_,.tmp rfl (.nil),?_⟩;exact⟨rfl,false,rfl,⟨(fun h=>by cases h),fun h=>absurd (h.Iw (i-1) a t ha (by rw[show i-1+1=i by omega];exact ht)) v5⟩⟩
     skip
     refine aY rfl rfl (Jj.bf (decide_eq_false v3)) (fun _ _ h=>by first | exact h.le | exact h.1) ?_;rintro _ H2 ⟨e2,rfl⟩;rw[e2];refine aa 18 rfl (ab [1,16,17,18,53] ?_);refine cK rfl (ae (aa 1 rfl (ab [2] ?_)));refine aB ⟨.inr rfl,_,.tmp rfl (.nil),?_⟩;exact⟨rfl,false,rfl,⟨(fun h=>by cases h),fun h=>absurd ⟨(h.term i t ht).2.1,(h.term i t ht).2.2.1⟩ v3⟩⟩
    skip
    refine aY rfl rfl (abq.bf (decide_eq_false v1)) (fun _ _ h=>by first | exact h.le | exact h.1) ?_;rintro _ H2 ⟨e2,rfl⟩;rw[e2];refine aa 28 rfl (ab [1,16,17,18,53] ?_);refine cK rfl (ae (aa 1 rfl (ab [2] ?_)));refine aB ⟨.inr rfl,_,.tmp rfl (.nil),?_⟩;exact⟨rfl,false,rfl,⟨(fun h=>by cases h),fun h=>absurd ⟨(h.term i t ht).2.2.2.1,(h.term i t ht).2.2.2.2⟩ v1⟩⟩
   have hb:f.ts.length≤i:=by simpa using hb
   refine aX (ah [] rfl ?_);refine ae (aa 1 rfl (ab [2] ?_));refine aB ⟨.inr rfl,_,.tmp rfl (.nil),?_⟩
   obtain rfl:i=f.ts.length:=by omega
   exact⟨rfl,true,rfl,⟨fun _=>hk.lin h1 (by omega),fun _=>rfl⟩⟩
 ·
  skip
  refine ae (aa 2 rfl (aC rfl rfl (Jj.bf (decide_eq_false h1)) ?_));rintro _ H2 ⟨e2,rfl⟩;rw[e2];refine aa 7 rfl (ab [1,14] ?_);refine cK rfl (ae (aa 1 rfl (ab [2] ?_)));refine aB ⟨.inr rfl,_,.tmp rfl (.nil),?_⟩;exact⟨rfl,false,rfl,⟨(fun h=>by cases h),fun h=>absurd h.const h1⟩⟩
theorem abr{H:Heap}{v:Value}{fs:List aO}{m n:Nat}(hv:jV H v fs)(hm:m≤1000):
 Fn Tryz.prog 18 #[v,.int .i64 (m:Int),.int .i64 (n:Int)] H (fun v' H'=>H'=H∧∃b,v' = .bool b∧(b=true↔fs.length≤m∧∀f,f∈fs→f.ts.length≤n)):=by
 obtain⟨A,c,xs,rfl,hc,hr,hx⟩:=id hv;refine aZ (args:=[_,_,_]) Tryz.func18 rfl rfl Tryz.ntmps18 rfl rfl fun w0=> ?_;refine ah [0,1,2] rfl ?_;refine ae (aa 1 rfl (ab [0,1,2] ?_));refine ao (ae (aa 4 rfl (ab [0,2,11] ?_)));refine aD rfl (fun hb=> ?_) (fun hb=> ?_)
 ·
  have h1:¬fs.length≤m:=by simpa using hb
  refine ae (aa 1 rfl (ab [6] ?_));refine aB ⟨.inr rfl,_,.tmp rfl (.nil),?_⟩;exact⟨rfl,false,rfl,⟨(fun h=>by cases h),fun h=>absurd h.1 h1⟩⟩
 ·
  have h1:fs.length≤m:=by simpa using hb
  refine az (ah [0,2] rfl ?_);refine ao (ae (aa 3 rfl (ab [0,2,13,14] ?_)));refine aE (fY (fun(i:Nat)=>fs.length-i) (fun(i:Nat)=>put (put (put (put (emp) 0 (.val (.slice A fs.length c))) 2 (.val (.int .i64 (n:Int)))) 13 (.val (.int .i64 (fs.length:Int)))) 14 (.val (.int .i64 (i:Int)))) (fun(i:Nat) H'=>H'=H∧i≤fs.length∧∀(k:Nat)(f:aO),k<i→fs[k]? = some f→f.ts.length≤n) 0 (⟨rfl,Nat.zero_le _,fun k f h=>by omega⟩) ar ?_);rintro i H1 ⟨e1,hi,hk⟩;rw[e1];refine ae (aa 1 rfl (ab [0,2,13,14,15] ?_));refine ao (aD rfl (fun hb=> ?_) (fun hb=> ?_))
  ·
   have aP:i<fs.length:=by simpa using hb
   obtain⟨f,hf⟩:∃f,fs[i]? = some f:=⟨_,List.getElem?_eq_getElem aP⟩;obtain⟨B,cb,nX,lb⟩:=vX hx hf;refine az (ah [0,2,13,14] rfl ?_);refine ao (aE (ae (aa 2 rfl (ab [0,2,7,13,14] ?_))));refine ae (aa 2 rfl (ki ag rfl rfl rfl rfl rfl rfl rfl (hr) (lb 1 _ rfl) (by omega) (by omega) fun _ _=>(aa 3 rfl (ab [0,2,13,14,24] ?_))));refine aD rfl (fun hb=> ?_) (fun hb=> ?_)
   ·
    have h2:¬f.ts.length≤n:=by simpa using hb
    refine ae (aa 1 rfl (ab [6] ?_));refine aB ⟨.inr rfl,_,.tmp rfl (.nil),?_⟩;exact⟨rfl,false,rfl,⟨(fun h=>by cases h),fun h=>absurd (h.2 f (List.mem_of_getElem? hf)) h2⟩⟩
   have h2:f.ts.length≤n:=by simpa using hb
   refine az (ah [0,2,13,14] rfl ?_);refine aA rfl (aF rfl rfl ⟨by omega,by omega⟩ (aa 1 rfl (au ?_)));exact⟨i+1,by omega,ar,rfl,by omega,fun k f9 h9 q6=>by by_cases e:k<i;exact hk k f9 e q6;(obtain rfl:k=i:=by omega);rw[hf]at q6;cases q6;exact h2⟩
  have hb:fs.length≤i:=by simpa using hb
  refine aX (ah [] rfl ?_);refine ae (aa 1 rfl (ab [6] ?_));refine aB ⟨.inr rfl,_,.tmp rfl (.nil),?_⟩;exact⟨rfl,true,rfl,⟨fun _=>⟨h1,fun f hf=>by obtain⟨k,h9⟩:=List.getElem?_of_mem hf;exact hk k f (by have:=(List.getElem?_eq_some_iff.1 h9).1;omega) h9⟩,fun _=>rfl⟩⟩
theorem Jl{H:Heap}{f:aO}{A:Option Addr}{c:Nat}{v:Int}(hf:aQ gy 2 H (.slice A f.ts.length c) f.ts)(hl:f.ts.length≤1000000):
 Fn Tryz.prog 49 #[.agg #[.int .i64 f.c,.slice A f.ts.length c],.int .i64 v] H (j5 H (.int .i64 (f.bN v))):=by
 obtain⟨A',c',xs,e,hc,hr,hx⟩:=id hf
 cases e
 refine aZ (args:=[_,_]) Tryz.func49 rfl rfl Tryz.ntmps49 rfl rfl fun w0=> ?_;refine ah [0,1] rfl ?_;refine ae (bY rfl rfl (aa 1 rfl (ab [1,2] ?_)));refine ao (ae (aa 4 rfl (ab [1,8,9,10] ?_)));refine aE (fY (fun(i:Nat)=>f.ts.length-i) (fun(i:Nat)=>put (put (put (put (emp) 1 (.val (.int .i64 v))) 8 (.val (.slice A f.ts.length c))) 9 (.val (.int .i64 (f.ts.length:Int)))) 10 (.val (.int .i64 (i:Int)))) (fun(i:Nat) H'=>H'=H∧i≤f.ts.length∧f.bN v=qV (f.ts.drop i) v) 0 (⟨rfl,Nat.zero_le _,rfl⟩) ar ?_);rintro i H1 ⟨e1,hi,hk⟩;rw[e1];refine ae (aa 1 rfl (ab [1,8,9,10,11] ?_));refine ao (aD rfl (fun hb=> ?_) (fun hb=> ?_))
 ·
  have aP:i<f.ts.length:=by simpa using hb
  obtain⟨t,ht⟩:∃t,f.ts[i]? = some t:=⟨_,List.getElem?_eq_getElem aP⟩
  have hd:f.ts.drop i=t::f.ts.drop (i+1):=by rw[List.drop_eq_getElem_cons aP,(List.getElem?_eq_some_iff.1 ht).2]
  refine az (ah [1,8,9,10] rfl ?_);refine ao (aE (ae (cj ag rfl rfl rfl rfl (hr) rfl (by decide) (xV hx ht) (by omega) (by omega) fun _=>(bh rK rfl ?_))));obtain⟨ti,aj,ak⟩:=J6;refine aH (.inl ⟨rfl,rfl⟩) rfl rfl rfl aj ak rfl rfl rfl (ab [1,6,8,9,10] ?_);refine ae (aa 4 rfl (ab [1,6,8,9,10,17] ?_));refine aD rfl (fun hb=> ?_) (fun hb=> ?_)
  ·
   have h2:t.1=v:=by simpa using hb
   refine ae (aa 3 rfl (ab [4] ?_));refine aB ⟨.inr rfl,_,.tmp rfl (.nil),?_⟩;exact⟨rfl,by rw[hk,hd,qV,if_pos h2];rfl⟩
  ·
   have h2:¬t.1=v:=by simpa using hb
   refine az (ah [1,8,9,10] rfl ?_);refine aA rfl (aF rfl rfl ⟨by omega,by omega⟩ (aa 1 rfl (au ?_)));exact⟨i+1,by omega,ar,rfl,by omega,by rw[hk,hd,qV,if_neg h2]⟩
 ·
  have hb:f.ts.length≤i:=by simpa using hb
  refine aX (ah [] rfl ?_);refine ae (aa 1 rfl (ab [4] ?_));refine aB ⟨.inr rfl,_,.tmp rfl (.nil),?_⟩;exact⟨rfl,by rw[hk,List.drop_eq_nil_of_le hb];rfl⟩
end Go.aq
namespace Go.aq
open Go.Proofs Num Lp
theorem TH{H:Heap}{v:Value}{fs:List aO}(h:jV H v fs)(hl:fs.length≤1000000):
 Fn Tryz.prog 31 #[v] H (Mr fs H):=by
 obtain⟨A,c,xs,rfl,hc,hr,hx⟩:=id h;refine aZ (args:=[_]) Tryz.func31 rfl rfl Tryz.ntmps31 rfl rfl fun w0=> ?_;refine ah [0] rfl ?_;refine ae (aa 1 rfl (ab [0] ?_));refine ao (ae (aa 1 rfl (ajc Tryz.underlying22 rfl rfl (ab [0,4] ?_))));refine aD rfl (fun hb=> ?_) (fun hb=> ?_)
 ·
  have hA:A=none:=by simpa using hb
  have tX:fs = []:=by
   cases bx:fs with
   | nil=>rfl
   | cons a k=>
    rw[bx]at hx;obtain⟨B,d,_,lb⟩:=vX hx (i:=0) (f:=a) rfl;obtain⟨ad,h9,_⟩:=hr _ _ (lb 0 _ rfl);rw[hA]at h9;cases h9
  refine ae (aa 1 rfl (ab [2] ?_));refine aB ⟨.inr rfl,_,.tmp rfl (.nil),?_⟩;exact⟨[],by rw[tX];exact xR H⟩
 ·
  skip
  refine az (ah [0] rfl ?_);refine ae (ajd Tryz.underlying22 il ?_);intro g hg;have hG:=aje (P:=o0) (e:=25) (sz:=2) hg;refine aa 1 rfl (EK iz EL (by decide) Tryz.underlying22 il rfl rfl hG (h.le iz hG.base) (by rw[List.length_nil];omega) (by rw[List.length_nil];omega) ?_);intro v2 H2 y2 nU _;rw[List.nil_append]at nU;refine aa 1 rfl (ab [2] ?_);refine aB ⟨.inr rfl,_,.tmp rfl (.nil),?_⟩;exact⟨_,nU⟩
theorem Nx{H:Heap}{v:Value}{fs:List aO}(hv:jV H v fs)(h1:fs.length≤1000)(h2:∀f,f∈fs→f.ts.length≤1000):
 Fn Tryz.prog 33 #[v] H (Iz (dg fs) H):=by
 obtain⟨A,c,xs,rfl,hc,hr,hx⟩:=id hv
 have hmul:fs.length*1000≤1000*1000:=Nat.mul_le_mul_right _ h1;refine aZ (args:=[_]) Tryz.func33 rfl rfl Tryz.ntmps33 rfl rfl fun w0=> ?_;refine ah [0] rfl ?_;refine ae (aa 1 rfl (ab [0] ?_));refine ae (aa 1 rfl (ab [0,3] ?_));refine ao (ae (aa 3 rfl (ab [3,8,9,10] ?_)));refine aE (fB (fun(i:Nat)(w:Value)(ys:List Value)=>fs.length-i) (fun(i:Nat)(w:Value)(ys:List Value)=>put (put (put (put (emp) 3 (.val (w))) 8 (.val (.slice A fs.length c))) 9 (.val (.int .i64 (fs.length:Int)))) 10 (.val (.int .i64 (i:Int)))) (fun(i:Nat)(w:Value)(ys:List Value) H'=>dU j8 3 1 H H' w (gM (fs.take i)) ys∧i≤fs.length) 0 (.slice none 0 0) [] (⟨xR H,Nat.zero_le _⟩) ar ?_);rintro i w ys H1 ⟨hG,hi⟩;obtain⟨W,cw,rfl⟩:=hG.form;have hlv:=ZW h2 i;refine ae (aa 1 rfl (ab [3,8,9,10,11] ?_));refine ao (aD rfl (fun hb=> ?_) (fun hb=> ?_))
 ·
  have aP:i<fs.length:=by simpa using hb
  obtain⟨f,hf⟩:∃f,fs[i]? = some f:=⟨_,List.getElem?_eq_getElem aP⟩;have jF:=h2 f (List.mem_of_getElem? hf);obtain⟨B,cb,nX,lb⟩:=vX hx hf;obtain⟨B',ES,xb,e,D3,fG,wy⟩:=id nX
  cases e
  refine az (ah [3,8,9,10] rfl ?_);refine ao (aE (ae (cj ag rfl rfl rfl rfl (hr.le hG.le) rfl (by decide) (lb) (by omega) (by omega) fun _=>(bh il rfl ?_))));obtain⟨ti,aj,ak⟩:=yL;refine aH (.inl ⟨rfl,rfl⟩) rfl rfl rfl aj ak rfl rfl rfl (ab [3,5,8,9,10] ?_);refine ae (aa 4 rfl (ab [3,8,9,10,15,16,17] ?_));refine aE (fB (fun(k:Nat)(w:Value)(ys:List Value)=>f.ts.length-k) (fun(k:Nat)(w:Value)(ys:List Value)=>put (put (put (put (put (put (put (emp) 3 (.val (w))) 8 (.val (.slice A fs.length c))) 9 (.val (.int .i64 (fs.length:Int)))) 10 (.val (.int .i64 (i:Int)))) 15 (.val (.slice B f.ts.length cb))) 16 (.val (.int .i64 (f.ts.length:Int)))) 17 (.val (.int .i64 (k:Int)))) (fun(k:Nat)(w:Value)(ys:List Value) H'=>dU j8 3 1 H H' w (gM (fs.take i)++(f.ts.take k).map (·.1)) ys∧k≤f.ts.length) 0 (.slice W (gM (fs.take i)).length cw) ys (⟨by rw[show (f.ts.take 0).map (·.1) = []from rfl,List.append_nil];exact hG,Nat.zero_le _⟩) ar ?_);rintro k w ys H2 ⟨nU,hk⟩;obtain⟨W2,rp,rfl⟩:=nU.form
  have wK:((f.ts.take k).map (·.1)).length=k:=by rw[List.length_map,List.length_take];omega
  have iD:(gM (fs.take i)++(f.ts.take k).map (·.1)).length=(gM (fs.take i)).length+k:=by rw[List.length_append,wK]
  refine ae (aa 1 rfl (ab [3,8,9,10,15,16,17,18] ?_));refine ao (aD rfl (fun hb=> ?_) (fun hb=> ?_))
  ·
   have iQ:k<f.ts.length:=by simpa using hb
   obtain⟨t,ht⟩:∃t,f.ts[k]? = some t:=⟨_,List.getElem?_eq_getElem iQ⟩;refine az (ah [3,8,9,10,15,16,17] rfl ?_);refine ao (aE (ae (cj ag rfl rfl rfl rfl (fG.le nU.le) rfl (by decide) (xV wy ht) (by omega) (by omega) fun _=>(bh rK rfl ?_))));obtain⟨ti,aj,ak⟩:=J6;refine aH (.inl ⟨rfl,rfl⟩) rfl rfl rfl aj ak rfl rfl rfl (ab [3,7,8,9,10,15,16,17] ?_);refine aA rfl (aa 3 rfl (cI Tryz.underlying49 fC rfl rfl rfl rfl rfl rfl rfl ?_));intro gb aV;refine zP kS Cl Tryz.underlying49 fC rfl rfl nU aV (show j8 _ [_] t.1 from rfl) rfl (by rw[iD];omega) (by rw[iD];omega) ?_;intro v4 H4 y4 uG _;refine aa 1 rfl (au (ah [3,8,9,10,15,16,17] rfl ?_));refine aA rfl (aF rfl rfl ⟨by omega,by omega⟩ (aa 1 rfl (au ?_)));exact⟨k+1,_,_,by omega,ar,by rw[oZ ht,←List.append_assoc];exact uG,by omega⟩
  ·
   have hb:f.ts.length≤k:=by simpa using hb
   obtain rfl:k=f.ts.length:=by omega
   have nU:=nU.cast (show gM (fs.take i)++(f.ts.take f.ts.length).map (·.1)=gM (fs.take i)++f.vars by rw[List.take_length];rfl);refine aX (ah [3,8,9,10] rfl ?_);refine aA rfl (aF rfl rfl ⟨by omega,by omega⟩ (aa 1 rfl (au ?_)));exact⟨i+1,_,_,by omega,ar,by rw[ZU hf];exact nU,by omega⟩
 ·
  have hb:fs.length≤i:=by simpa using hb
  obtain rfl:i=fs.length:=by omega
  have hG:=hG.cast (show gM (fs.take fs.length)=gM fs by rw[List.take_length]);rw[List.take_length]at hlv
  have hO:bR H1 (.slice W (gM (fs.take fs.length)).length cw) 3 1 (gM fs).length (iv (gM fs)):=by rw[←ajj hG.jD];exact hG.own
  refine aX (ah [3] rfl ?_);refine ae (aa 1 rfl (aC rfl rfl (ajg hO (by omega)) ?_));rintro _ H5 ⟨rfl,hI5⟩;refine ab [3] ?_;refine ae (aa 1 rfl (aC rfl rfl (ajl hI5.cut (by rw[Iy];omega)) ?_));rintro v6 H6 ⟨iy,B8⟩;rw[ajp]at B8;rw[hI5.rem]at iy;obtain⟨A6,c6,DY,rfl,h6⟩:=id B8;refine aa 1 rfl (ab [2] ?_);refine aB ⟨.inr rfl,_,.tmp rfl (.nil),?_⟩;exact⟨hG.base.trans iy,A6,c6,rfl,B8⟩
theorem Ny{H:Heap}{v:Value}{fs:List aO}(hv:jV H v fs):
 Fn Tryz.prog 19 #[v] H (fun v' H'=>Heap.le H H'∧∃b,v' = .bool b∧(b=true↔lA fs)):=by
 obtain⟨A,c,xs,rfl,hc,hr,hx⟩:=id hv;refine aZ (args:=[_]) Tryz.func19 rfl rfl Tryz.ntmps19 rfl rfl fun w0=> ?_;refine ah [0] rfl ?_;refine ae (aa 1 rfl (ab [0] ?_));refine ao (ae (aa 3 rfl (ab [0,7] ?_)));refine aD rfl (fun hb=> ?_) (fun hb=> ?_)
 ·
  have h1:¬fs.length≤200:=by have h9:(200:Int)<fs.length:=(by simpa using hb);omega
  refine ae (aa 1 rfl (ab [2] ?_));refine aB ⟨.inr rfl,_,.tmp rfl (.nil),?_⟩;exact⟨.refl _,false,rfl,⟨(fun h=>by cases h),fun h=>absurd h.len h1⟩⟩
 ·
  have h1:fs.length≤200:=by have h9:(fs.length:Int)≤200:=(by simpa using hb);omega
  refine az (ah [0] rfl ?_);refine ao (ae (aa 3 rfl (ab [0,8,9,10] ?_)));refine aE (fY (fun(i:Nat)=>fs.length-i) (fun(i:Nat)=>put (put (put (put (emp) 0 (.val (.slice A fs.length c))) 8 (.val (.slice A fs.length c))) 9 (.val (.int .i64 (fs.length:Int)))) 10 (.val (.int .i64 (i:Int)))) (fun(i:Nat) H'=>H'=H∧i≤fs.length∧∀(k:Nat)(f:aO),k<i→fs[k]? = some f→eK f) 0 (⟨rfl,Nat.zero_le _,fun k f h=>by omega⟩) ar ?_);rintro i H1 ⟨e1,hi,hk⟩;rw[e1];refine ae (aa 1 rfl (ab [0,8,9,10,11] ?_));refine ao (aD rfl (fun hb=> ?_) (fun hb=> ?_))
  ·
   have aP:i<fs.length:=by simpa using hb
   obtain⟨f,hf⟩:∃f,fs[i]? = some f:=⟨_,List.getElem?_eq_getElem aP⟩;obtain⟨B,cb,nX,lb⟩:=vX hx hf;refine az (ah [0,8,9,10] rfl ?_);refine ao (aE (ae (cj ag rfl rfl rfl rfl (hr) rfl (by decide) (lb) (by omega) (by omega) fun _=>(bh il rfl ?_))));obtain⟨ti,aj,ak⟩:=yL;refine aH (.inl ⟨rfl,rfl⟩) rfl rfl rfl aj ak rfl rfl rfl (ab [0,4,8,9,10] ?_);refine ae (aa 1 rfl (aC rfl rfl (Nw nX) ?_));rintro _ H3 ⟨e3,b3,rfl,gG⟩;rw[e3];refine aa 1 rfl (ab [0,8,9,10,16] ?_);refine aD rfl (fun hb=> ?_) (fun hb=> ?_)
   ·
    have rW:¬b3=true:=by simpa using hb
    refine ae (aa 1 rfl (ab [2] ?_));refine aB ⟨.inr rfl,_,.tmp rfl (.nil),?_⟩;exact⟨.refl _,false,rfl,⟨(fun h=>by cases h),fun h=>absurd (gG.2 (h.ok i f hf)) rW⟩⟩
   have rW:b3=true:=by simpa using hb
   refine az (ah [0,8,9,10] rfl ?_);refine aA rfl (aF rfl rfl ⟨by omega,by omega⟩ (aa 1 rfl (au ?_)));exact⟨i+1,by omega,ar,rfl,by omega,fun k f9 h9 q6=>by by_cases e:k<i;exact hk k f9 e q6;(obtain rfl:k=i:=by omega);rw[hf]at q6;cases q6;exact gG.1 rW⟩
  have hb:fs.length≤i:=by simpa using hb
  have fT:∀(k:Nat)(f:aO),fs[k]? = some f→eK f:=fun k f h=>hk k f (by have:=(List.getElem?_eq_some_iff.1 h).1;omega) h;refine aX (ah [0] rfl ?_);refine ae (aa 1 rfl (aC rfl rfl (Nx hv (by omega) (fun f hf=>by obtain⟨k,h9⟩:=List.getElem?_of_mem hf;have:=(fT k f h9).len;omega)) ?_));rintro _ H4 ⟨cM,A4,c4,rfl,zq⟩;refine aa 3 rfl (ab [2] ?_);refine aB ⟨.inr rfl,_,.tmp rfl (.nil),?_⟩;exact⟨cM,_,rfl,⟨fun h=>⟨h1,fT,by have h9:((dg fs).length:Int)≤100:=(by simpa using h);omega⟩,fun h=>by have h9:=h.vars;simp;omega⟩⟩
theorem alg{H:Heap}{f:aO}{A:Option Addr}{c g:Nat}{v:Int}(hc:cell H ⟨g,0,none⟩=some (.int .i64 v))(hf:aQ gy 2 H (.slice A f.ts.length c) f.ts)(hl:f.ts.length≤1000000):
 Fn Tryz.prog 77 #[.agg #[.int .i64 f.c,.slice A f.ts.length c],.pointer (some ⟨g,0,none⟩)] H (j5 H (.int .i64 (f.bN v))):=by
 refine aZ (args:=[_,_]) Tryz.func77 rfl rfl Tryz.ntmps77 rfl rfl fun w0=> ?_;refine ah [0,1] rfl ?_;refine ae (bY rfl rfl (aa 1 rfl (ab [1,2] ?_)));refine ae (aa 1 rfl (aR ag rfl rfl rfl (hc) (aC rfl rfl (Jl hf hl) ?_)));rintro _ _ ⟨e2,rfl⟩;rw[e2];refine aa 1 rfl (ab [3] ?_);refine aB ⟨.inr rfl,_,.tmp rfl (.nil),?_⟩;exact⟨rfl,rfl⟩
theorem alh{H:Heap}{f:aO}{A:Option Addr}{c:Nat}:
 Fn Tryz.prog 79 #[.agg #[.int .i64 f.c,.slice A f.ts.length c]] H (j5 H (.int .i64 f.c)):=by
 refine aZ (args:=[_]) Tryz.func79 rfl rfl Tryz.ntmps79 rfl rfl fun w0=> ?_;refine ah [0] rfl ?_;refine ae (bY rfl rfl (aa 1 rfl (ab [1] ?_)));refine ae (aa 3 rfl (ab [2] ?_));refine aB ⟨.inr rfl,_,.tmp rfl (.nil),?_⟩;exact⟨rfl,rfl⟩
end Go.aq
namespace Go.aq
open Go.Proofs Num
theorem ali{H:Heap}{v v2:Value}{q q2:Rat}{N:Nat}(hv:cT H v q N)(dT:cT H v2 q2 N)(hN:(N:Int)≤1099511627776):
 Fn Tryz.prog 118 #[v,v2] H (j0 H (q-q2)):=by
 obtain⟨bf,bu,bw,nG,nH,rfl,_⟩:=id hv
 obtain⟨cf,cu,cw,yY,yZ,rfl,_⟩:=id dT;refine aZ (args:=[_,_]) Tryz.func118 rfl rfl Tryz.ntmps118 rfl rfl fun w0=> ?_;refine ah [0,1] rfl ?_;refine ae (bY rfl rfl (bY rfl rfl (bh bQ rfl (ab [2,3,4] ?_))));refine ae (aa 1 rfl (aC rfl rfl (tE dT (by omega)) ?_));rintro v2 H2 ⟨fU,f2,n2,d2,y7,jZ,rfl,cD,jo⟩;obtain⟨Dy,Dz,rfl,lK,lk⟩:=id y7;obtain⟨Bk,Bl,rfl,DA,DB⟩:=id lK;obtain⟨Bm,Bn,rfl,DC,DD⟩:=id lk;have alj:rQ H2 (.agg #[.bool (!f2),.slice Bk (al n2).length Bl,.slice Bm (al d2).length Bn]) (!f2) n2 d2:=⟨_,_,rfl,lK,lk⟩;refine bh jY rfl ?_;obtain⟨ti,aj,ak⟩:=iY;refine aH (.inl ⟨rfl,rfl⟩) rfl rfl rfl aj ak rfl rfl rfl (ab [2,4,5] ?_);refine ae (vr 4 ?_);obtain⟨ti,aj,ak⟩:=Dd;refine aH (.inr rfl) rfl rfl rfl aj ak rfl rfl rfl (ab [2,4,5] ?_);refine bM .bJ [0,2,1,3,4,5] follows (by kernel_rfl) ?_;refine aa 2 rfl (aY rfl rfl (tE (hv.le fU) (by omega)) (fun _ _ h=>h.le) ?_);rintro v1 H1 ⟨fD,f1,n1,d1,mV,fc,rfl,bx,rT⟩;obtain⟨wO,wP,rfl,gF,gS⟩:=id mV;obtain⟨wQ,wR,rfl,wS,wT⟩:=id gF;obtain⟨wU,wV,rfl,wW,wX⟩:=id gS;refine aY rfl rfl (Vw (K:=N+1) mV (alj.le fD) fc jZ bx rT cD jo (by omega)) (fun _ _ h=>h.le) ?_
 rintro v3 H3 ⟨gH,f3,n3,d3,Gd,KE,KF,eF,OO⟩;obtain⟨un3,ud3,rfl,ae3,ae4⟩:=id Gd;rw[←OL,←Rat.sub_eq_add_neg]at KF;refine aY rfl rfl (yX Gd KE (by omega) (by omega)) (fun _ _ h=>h.le) ?_;rintro w4 G4 ⟨kR,ct⟩;rw[KF]at ct;obtain⟨u4,x4,rfl,wY,lL⟩:=id ct;obtain⟨KG,KH,rfl,KI,KJ⟩:=id wY;obtain⟨DE,DF,rfl,DG,DH⟩:=id lL;obtain⟨ti,aj,ak⟩:=aU;refine aH (.inl ⟨rfl,rfl⟩) rfl rfl rfl aj ak rfl rfl rfl (ab [4] ?_);obtain⟨bP,aL,aM⟩:=aU;refine aB ⟨.inr rfl,_,.agg rfl Tryz.underlying38 aL aM (.nil),?_⟩;exact⟨((fU.trans fD).trans gH).trans kR,ct⟩
end Go.aq
namespace Go.aq
open Go.Proofs Num Lp
theorem abt{H:Heap}{v pv part:Value}{fs:List aO}{ys:List Rat}{goal:aO}{A0:Option Addr}{c0 N:Nat}{g:aO→Int}(hv:jV H v fs)(eG:aQ gy 2 H (.slice A0 goal.ts.length c0) goal.ts)(hp:aQ (dI N) 3 H pv ys)(TI:Z3 H part g)(hlen:ys.length=fs.length)(hn:fs.length≤1000)(hN:N≤400000000)(bO:∀(i:Nat)(f:aO),fs[i]? = some f→eK f)(dF:eK goal)(hg:∀f,eK f→-1048576≤g f∧g f≤1048576):
 Fn Tryz.prog 78 #[v,.agg #[.int .i64 goal.c,.slice A0 goal.ts.length c0],pv,part] H (Iv H (((g goal:Int):Rat)-ajb fs (fn ys) (fun f=>((g f:Int):Rat)))):=by
 obtain⟨A,c,xs,rfl,hc,hr,hx⟩:=id hv
 have N9:=hp.EH
 obtain⟨Ap,cp,xp,rfl,yj,jr,oS⟩:=id hp
 obtain⟨iK,cap,rfl,Nz⟩:=TI
 have hG:=hg goal dF
 have hgi:∀i,i<fs.length→-1048576≤g (nth fs i)∧g (nth fs i)≤1048576:=fun i hi=>hg _ (bO i _ (RR hi))
 have an2:=dF.len
 have cP:∀k,k≤fs.length→aN (((g goal:Int):Rat)-a7 k (fun i=>fn ys i*((g (nth fs i):Int):Rat)))≤1000000000000:=fun k hk=>RW (uH hG) (RV N9 hlen hn hN hgi hk);refine aZ (args:=[_,_,_,_]) Tryz.func78 rfl rfl Tryz.ntmps78 rfl rfl fun w0=> ?_;refine ah [0,1,2,3] rfl ?_;refine ae (bY rfl rfl (bh bQ rfl (ab [0,2,3,5,8] ?_)));refine ae (aa 2 rfl (C7 (cap:=cap) (args:=[.agg #[.int .i64 goal.c,.slice A0 goal.ts.length c0]]) rfl rfl (Nz H (.refl _) goal A0 c0 eG (by omega)) (.inl rfl) ?_));rintro _ _ ⟨e1,rfl⟩;rw[e1];refine aC rfl rfl ((vu (n:=g goal) (by omega) (by omega)).rc) ?_;rintro _ H1 ⟨bx,t1,rfl,b8⟩;refine bh bQ rfl ?_;obtain⟨ti,aj,ak⟩:=aU;refine aH (.inl ⟨rfl,rfl⟩) rfl rfl rfl aj ak rfl rfl rfl (ab [0,2,3,8,9] ?_);refine ao (ae (aa 3 rfl (ab [2,3,8,9,17,18,19] ?_)));refine aE (gn (fun(i:Nat)(t:RC)=>fs.length-i) (fun(i:Nat)(t:RC)=>put (put (put (put (put (put (put (emp) 2 (.val (.slice Ap ys.length cp))) 3 (.val (.func (.func iK) #[] cap.toArray))) 8 (.box [.bool false,.slice none 0 0,.slice none 0 0])) 9 (.box [.bool t.f,.slice t.A1 t.m1 t.c1,.slice t.A2 t.m2 t.c2])) 17 (.val (.slice A fs.length c))) 18 (.val (.int .i64 (fs.length:Int)))) 19 (.val (.int .i64 (i:Int)))) (fun(i:Nat)(t:RC) H'=>Heap.le H H'∧bH H' t.v (((g goal:Int):Rat)-a7 i (fun i=>fn ys i*((g (nth fs i):Int):Rat)))∧i≤fs.length) 0 t1 (⟨bx,by rw[DL,show ∀q:Rat,q-0=q from fun q=>by grind];exact b8,Nat.zero_le _⟩) ar ?_)
 rintro i t H2 ⟨cD,bU,hi⟩;refine ae (aa 1 rfl (ab [2,3,8,9,17,18,19,20] ?_));refine ao (aD rfl (fun hb=> ?_) (fun hb=> ?_))
 ·
  have aP:i<fs.length:=by simpa using hb
  obtain⟨f,hf⟩:∃f,fs[i]? = some f:=⟨_,List.getElem?_eq_getElem aP⟩;obtain⟨B,cb,nX,lb⟩:=vX hx hf;have dy:=bO i f hf;have TJ:=dy.len;have NA:=hg f dy;have hnf:=aiZ hf;obtain⟨q,ie⟩:∃q,ys[i]? = some q:=⟨_,List.getElem?_eq_getElem (by omega)⟩;obtain⟨g5,B1,k1,e1,B2,k2,e2,SO,CH,I1⟩:=aQ.Cj oS ie;have kC:=oN ie;have nF:=cP i hi;have sq:=vx q ((g f:Int):Rat);have I3:=CH.size;have uc:=uH NA;refine az (ah [2,3,8,9,17,18,19] rfl ?_);refine ao (aE (ae (aa 1 rfl (cj ag rfl rfl rfl rfl (hr.le cD) rfl (by decide) (lb) (by omega) (by omega) fun _=>(bh il rfl (vr 1 ?_))))));obtain⟨ti,aj,ak⟩:=yL;refine aH (.inl ⟨rfl,rfl⟩) rfl rfl rfl aj ak rfl rfl rfl (ab [2,3,8,9,10,11,17,18,19] ?_);refine ae (aa 2 rfl (C7 (cap:=cap) (args:=[.agg #[.int .i64 f.c,.slice B f.ts.length cb]]) rfl rfl (Nz H2 cD f B cb (nX.le eZ cD) (by omega)) (.inl rfl) ?_));rintro _ _ ⟨e3,rfl⟩;rw[e3];refine aa 1 rfl (ab [2,3,8,9,10,12,17,18,19] ?_);refine ae (aa 2 rfl (ab [2,3,8,9,10,12,17,18,19,28] ?_));refine aD rfl (fun hb=> ?_) (fun hb=> ?_)
  ·
   skip
   refine eo .bJ [0,1,2,3,4,5,6,7,8,9] follows (by kernel_rfl) ?_;refine aa 3 rfl (cj (vs:=[.bool g5,.slice B1 k1 e1,.slice B2 k2 e2]) ag rfl rfl rfl rfl (jr.le cD) rfl (by decide) I1 (by omega) (by omega) fun _=>(aa 1 rfl (aY rfl rfl ((vu (n:=g f) (by omega) (by omega)).rc) (fun _ _ h=>by first | exact h.le | exact h.1) ?_)));rintro _ H3 ⟨eF,t3,rfl,iw⟩;refine aY rfl rfl ((OY (N:=N+20) ((((CH.le cD).le eF)).mono (by omega)) ((bH.raw iw).mono (by omega)) (by omega)).rc) (fun _ _ h=>by first | exact h.le | exact h.1) ?_;rintro _ H4 ⟨cM,t4,rfl,ct⟩;refine aY rfl rfl ((ali (N:=1000000000000) ((((bH.raw bU).mono nF).le eF).le cM) ((bH.raw ct).mono (by omega)) (by decide)).rc) (fun _ _ h=>by first | exact h.le | exact h.1) ?_;rintro _ H5 ⟨eI,t5,rfl,dZ⟩;rw[←kC,←hnf,show ∀a b c:Rat,a-b-c=a-(b+c)from fun a b c=>by grind,←gq i (fun i=>fn ys i*((g (nth fs i):Int):Rat))]at dZ;obtain⟨ti,aj,ak⟩:=aU;refine aH (.inl ⟨rfl,rfl⟩) rfl rfl rfl aj ak rfl rfl rfl (au (ah [2,3,8,9,17,18,19] rfl ?_));refine aA rfl (aF rfl rfl ⟨by omega,by omega⟩ (aa 1 rfl (au ?_)));exact⟨i+1,t5,by omega,ar,cD.trans (eF.trans (cM.trans eI)),dZ,by omega⟩
  ·
   have h0:g (nth fs i)=0:=by rw[hnf];simpa using hb
   refine az (ah [2,3,8,9,17,18,19] rfl ?_);refine aA rfl (aF rfl rfl ⟨by omega,by omega⟩ (aa 1 rfl (au ?_)));exact⟨i+1,t,by omega,ar,cD,by rw[gq,h0,show ((0:Int):Rat)=0 from rfl,Rat.mul_zero,show ∀q:Rat,q+0=q from fun q=>by grind];exact bU,by omega⟩
 ·
  have hb:fs.length≤i:=by simpa using hb
  obtain rfl:i=fs.length:=by omega
  refine aX (ah [8,9] rfl ?_);refine ae (vr 1 ?_);obtain⟨ti,aj,ak⟩:=aU;refine aH (.inl ⟨rfl,rfl⟩) rfl rfl rfl aj ak rfl rfl rfl (ab [8] ?_);obtain⟨bP,aL,aM⟩:=aU;refine aB ⟨.inr rfl,_,.agg rfl Tryz.underlying38 aL aM (.nil),?_⟩;exact⟨cD,t,rfl,bU⟩
theorem alk{a b:Int}(h:(a != b)=false):a=b:=by simpa using h
theorem alm{a b:Int}(h:(a != b)=true):¬a=b:=by simpa using h
structure Aq(N:Nat)(H:Heap)(v pv:Value)(fs:List aO)(ys:List Rat):Prop where
 fv:jV H v fs
 py:aQ (dI N) 3 H pv ys
 TK:N≤400000000
theorem Aq.le{N:Nat}{H H':Heap}{v pv:Value}{fs:List aO}{ys:List Rat}(h:Aq N H v pv fs ys)(hl:Heap.le H H'):Aq N H' v pv fs ys:=⟨h.fv.le iz hl,h.py.le (r8 N) hl,h.TK⟩
theorem abu{a b:Rat}:fI (a-b)=0↔b=a:=by
 rw[xA];constructor <;> intro <;> grind
theorem aln{fs:List aO}{g:aO}{y:Nat→Rat}(h:∀(k:Nat)(x:Int),(dg (fs ++ [g]))[k]? = some x→comb fs y x=((g.bN x:Int):Rat))(x:Int):comb fs y x=((g.bN x:Int):Rat):=by
 by_cases hm:x∈dg (fs ++ [g])
 ·obtain⟨k,hk⟩:=List.getElem?_of_mem hm
  exact h k x hk
 ·rw[RQ fun h=>hm ?_,RL fun h=>hm (xT.2 ⟨g,by simp,h⟩)]
  ·rfl
  ·obtain⟨f,h4,h5⟩:=xT.1 h
   exact xT.2 ⟨f,by simp[h4],h5⟩
theorem alo{fs:List aO}{g:aO}(h:lA fs)(hg:eK g):(dg (fs ++ [g])).length≤4000:=by
 have h1:=ZR (fs ++ [g])
 have h2:=Ix (k:=16) (fs:=fs ++ [g]) fun f hf=>by
  rcases List.mem_append.1 hf with hf | hf
  ·obtain⟨i,hi⟩:=List.getElem?_of_mem hf;exact(h.ok i f hi).len
  ·rw[List.mem_singleton.1 hf];exact hg.len
 have h3:=h.len
 have h4:(fs ++ [g]).length*16≤201*16:=Nat.mul_le_mul_right _ (by rw[List.length_append,List.length_singleton];omega)
 omega
theorem TM{fs:List aO}{g:aO}(h:lA fs)(hg:eK g):∀f,f∈fs ++ [g]→f.ts.length≤1000:=fun f hf=>by
 rcases List.mem_append.1 hf with hf | hf
 ·obtain⟨i,hi⟩:=List.getElem?_of_mem hf;have:=(h.ok i f hi).len;omega
 ·rw[List.mem_singleton.1 hf];have:=hg.len;omega
def alp(fs:List aO)(g:aO)(y:Nat→Rat)(H:Heap)(v:Value)(H':Heap):Prop:=Heap.le H H'∧∃(t:RC)(b:Bool),v = .tuple #[t.v,.bool b]∧(b=true↔∀x,comb fs y x=((g.bN x:Int):Rat))∧∃q,cT H' t.v q 1000000000000∧(b=true→q=((g.c:Int):Rat)-qW fs y)
theorem abv{H:Heap}{v pv:Value}{fs:List aO}{ys:List Rat}{goal:aO}{A0:Option Addr}{c0 N:Nat}(ha:Aq N H v pv fs ys)(eG:aQ gy 2 H (.slice A0 goal.ts.length c0) goal.ts)(hlen:ys.length=fs.length)(dy:lA fs)(dF:eK goal):
 Fn Tryz.prog 43 #[v,.agg #[.int .i64 goal.c,.slice A0 goal.ts.length c0],pv] H (alp fs goal (fn ys) H):=by
 have hv:=ha.fv
 have hp:=ha.py
 have hN:=ha.TK
 have hn:=dy.len
 have jl:=alo dy dF
 obtain⟨A,c,xs,rfl,hc,hr,hx⟩:=id hv
 obtain⟨Ap,cp,xp,rfl,yj,jr,oS⟩:=id hp;refine aZ (args:=[_,_,_]) Tryz.func43 rfl rfl Tryz.ntmps43 rfl rfl fun w0=> ?_;refine ah [0,1,2] rfl ?_;refine ae (bY rfl rfl (bh bQ rfl (aa 1 rfl (ab [0,2,4,6] ?_))));refine bM .bJ [0,2,1,3,4,5] follows (by kernel_rfl) ?_;refine aa 2 rfl (aY rfl rfl (TH hv (by omega)) (fun _ _ h=>by first | exact h.le | exact h.1) ?_);rintro v1 H1 ⟨y1,CR⟩;obtain⟨W,cw,rfl⟩:=CR.form;refine cI Tryz.underlying22 il rfl rfl rfl rfl rfl rfl rfl ?_;intro gb aV;refine zP iz EL Tryz.underlying22 il rfl rfl CR aV (show o0 _ [_,_] goal from⟨A0,c0,rfl,eG.le eZ CR.base⟩) rfl (by omega) (by omega) ?_;intro v4 H4 y4 kZ _;obtain⟨W4,cw4,rfl⟩:=kZ.form;have zq:=kZ.sl iz;have cM:=kZ.le;refine aa 1 rfl (ab [0,2,4,6,8] ?_);refine ao (ae (aa 1 rfl (aC rfl rfl (Nx zq (by rw[List.length_append,List.length_singleton];omega) (TM dy dF)) ?_)));rintro _ H5 ⟨eI,A5,c5,rfl,CS⟩;obtain⟨_,_,x5,e5,lS,nD,m0⟩:=id CS
 cases e5
 have te:=cM.trans eI;refine aa 2 rfl (ab [0,2,4,6,18,19,20] ?_);refine aE (fY (fun(i:Nat)=>(dg (fs ++ [goal])).length-i) (fun(i:Nat)=>put (put (put (put (put (put (put (emp) 0 (.val (.slice A fs.length c))) 2 (.val (.slice Ap ys.length cp))) 4 (.box [.int .i64 goal.c,.slice A0 goal.ts.length c0])) 6 (.box [.bool false,.slice none 0 0,.slice none 0 0])) 18 (.val (.slice A5 (dg (fs ++ [goal])).length c5))) 19 (.val (.int .i64 ((dg (fs ++ [goal])).length:Int)))) 20 (.val (.int .i64 (i:Int)))) (fun(i:Nat) H'=>Heap.le H5 H'∧i≤(dg (fs ++ [goal])).length∧∀(k:Nat)(x:Int),k<i→(dg (fs ++ [goal]))[k]? = some x→comb fs (fn ys) x=((goal.bN x:Int):Rat)) 0 (⟨.refl _,Nat.zero_le _,fun k x h=>by omega⟩) ar ?_);rintro i H6 ⟨iy,hi,hk⟩;refine ae (aa 1 rfl (ab [0,2,4,6,18,19,20,21] ?_));refine ao (aD rfl (fun hb=> ?_) (fun hb=> ?_))
 ·
  have aP:i<(dg (fs ++ [goal])).length:=by simpa using hb
  obtain⟨x,tf⟩:∃x,(dg (fs ++ [goal]))[i]? = some x:=⟨_,List.getElem?_eq_getElem aP⟩;refine az (ah [0,2,4,6,18,19,20] rfl ?_);refine ao (aE (ae (aS ag rfl rfl rfl rfl rfl (nD.le iy) (by rw[Int.toNat_natCast];exact zO m0 tf) (by omega) (by omega) fun _=> ?_)));refine JY fC rfl ?_;intro gx lO;obtain⟨ti,aj,ak⟩:=u6;refine j6 (g:=gx) (o:=0) (.inl rfl) rfl (bn _ _ _) rfl (by decide) aj ak rfl rfl rfl rfl ?_;obtain⟨kT,p9⟩:=ajq (e:=3) 0 x lO;refine ab [0,2,4,6,10,18,19,20] ?_
  generalize ins (ins H6 gx (whole [.int .i64 0] 3)) gx {whole [.int .i64 0] 3 with xs:=aJ (whole [.int .i64 0] 3).xs 0 [.int .i64 x]}=H7 at kT p9⊢
  have NB:=te.trans (iy.trans kT);refine ae (Ll (cap:=[.pointer (some ⟨gx,0,none⟩)]) rfl (aa 1 rfl (ab [0,2,4,6,11,18,19,20] ?_)));refine ae (aa 4 rfl (aC rfl rfl (abt (g:=fun f=>f.bN x) (hv.le iz NB) (eG.le eZ NB) (hp.le (r8 N) NB) ⟨77,[.pointer (some ⟨gx,0,none⟩)],rfl,fun H9 eT f A c hf jF=>alg (cB eT p9) hf jF⟩ hlen (by omega) hN dy.ok dF (fun f h=>h.kY x)) ?_));rintro _ H8 ⟨jQ,t8,rfl,eQ⟩;have cP:∀k,k≤fs.length→aN (((goal.bN x:Int):Rat)-a7 k (fun i=>fn ys i*(((nth fs i).bN x:Int):Rat)))≤1000000000000:=fun k hk=>RW (uH (dF.kY x)) (RV (g:=fun f=>f.bN x) hp.EH hlen (by omega) hN (fun i hi=>(dy.ok i _ (RR hi)).kY x) hk);refine aC rfl rfl (Gc (N:=1000000000000) ((bH.raw eQ).mono (cP _ (Nat.le_refl _))) (by decide)) ?_;rintro _ H9 ⟨eT,rfl⟩;refine aa 1 rfl (ab [0,2,4,6,18,19,20,31] ?_);refine aD rfl (fun hb=> ?_) (fun hb=> ?_)
  ·
   have h0:¬fI (((goal.bN x:Int):Rat)-comb fs (fn ys) x)=0:=alm hb;refine ae (cL ag rfl bQ rfl rfl ?_);obtain⟨ti,aj,ak⟩:=aU;refine aH (.inl ⟨rfl,rfl⟩) rfl rfl rfl aj ak rfl rfl rfl (aa 1 rfl (ab [6,7] ?_));obtain⟨bP,aL,aM⟩:=aU;refine aB ⟨.inr rfl,_,.agg rfl Tryz.underlying38 aL aM (.tmp rfl (.nil)),?_⟩;exact⟨NB.trans (jQ.trans eT),⟨false,none,0,0,none,0,0⟩,false,rfl,⟨(fun h=>by cases h),fun h=>absurd (abu.2 (h x)) h0⟩,0,Ck,fun h=>by cases h⟩
  ·
   have h0:fI (((goal.bN x:Int):Rat)-comb fs (fn ys) x)=0:=alk hb;refine az (ah [0,2,4,6,18,19,20] rfl ?_);refine aA rfl (aF rfl rfl ⟨by omega,by omega⟩ (aa 1 rfl (au ?_)));exact⟨i+1,by omega,ar,iy.trans (kT.trans (jQ.trans eT)),by omega,fun k z h9 we=>by by_cases e:k<i;exact hk k z e we;(obtain rfl:k=i:=by omega);rw[tf]at we;cases we;exact abu.1 h0⟩
 ·
  have hb:(dg (fs ++ [goal])).length≤i:=by simpa using hb
  have fT:=aln fun k x hkx=>hk k x (by have:=(List.getElem?_eq_some_iff.1 hkx).1;omega) hkx;have Fb:=te.trans iy;have cP:∀k,k≤fs.length→aN (((goal.c:Int):Rat)-a7 k (fun i=>fn ys i*(((nth fs i).c:Int):Rat)))≤1000000000000:=fun k hk=>RW (uH dF.const) (RV (g:=fun f=>f.c) hp.EH hlen (by omega) hN (fun i hi=>(dy.ok i _ (RR hi)).const) hk);refine aX (ah [0,2,4,6] rfl ?_);refine ae (aa 3 rfl (aC rfl rfl (abt (g:=fun f=>f.c) (hv.le iz Fb) (eG.le eZ Fb) (hp.le (r8 N) Fb) ⟨79,[],rfl,fun H9 eT f A c hf jF=>alh⟩ hlen (by omega) hN dy.ok dF (fun f h=>h.const)) ?_));rintro _ H8 ⟨jQ,t8,rfl,eQ⟩;obtain⟨ti,aj,ak⟩:=aU;refine aH (.inl ⟨rfl,rfl⟩) rfl rfl rfl aj ak rfl rfl rfl (aa 1 rfl (ab [6,7] ?_));obtain⟨bP,aL,aM⟩:=aU;refine aB ⟨.inr rfl,_,.agg rfl Tryz.underlying38 aL aM (.tmp rfl (.nil)),?_⟩;exact⟨Fb.trans jQ,t8,true,rfl,⟨fun _=>fT,fun _=>rfl⟩,_,(bH.raw eQ).mono (cP _ (Nat.le_refl _)),fun _=>rfl⟩
theorem abw{H:Heap}{v pv:Value}{fs:List aO}{ys:List Rat}{N:Nat}(ha:Aq N H v pv fs ys)(hn:fs.length≤1000):
 Fn Tryz.prog 42 #[v,pv] H (fun v' H'=>Heap.le H H'∧∃b,v' = .bool b∧(b=true↔ys.length=fs.length∧xU fs.length (fn ys))):=by
 have hN:=ha.TK
 obtain⟨A,c,xs,rfl,hc,hr,hx⟩:=id ha.fv
 obtain⟨Ap,cp,xp,rfl,yj,jr,oS⟩:=id ha.py;refine aZ (args:=[_,_]) Tryz.func42 rfl rfl Tryz.ntmps42 rfl rfl fun w0=> ?_;refine ah [0,1] rfl ?_;refine ae (aa 1 rfl (ab [0,1] ?_));refine ao (ae (aa 5 rfl (ab [1,11] ?_)));refine aD rfl (fun hb=> ?_) (fun hb=> ?_)
 ·
  have h1:¬fs.length=ys.length:=by simpa [Int.natCast_inj]using hb
  refine ae (aa 1 rfl (ab [4] ?_));refine aB ⟨.inr rfl,_,.tmp rfl (.nil),?_⟩;exact⟨.refl _,false,rfl,⟨(fun h=>by cases h),fun h=>absurd h.1.symm h1⟩⟩
 ·
  have h1:fs.length=ys.length:=by simpa [Int.natCast_inj]using hb
  refine az (ah [1] rfl ?_);refine ao (ae (aa 3 rfl (ab [12,13,14] ?_)));refine aE (fY (fun(i:Nat)=>ys.length-i) (fun(i:Nat)=>put (put (put (emp) 12 (.val (.slice Ap ys.length cp))) 13 (.val (.int .i64 (ys.length:Int)))) 14 (.val (.int .i64 (i:Int)))) (fun(i:Nat) H'=>Heap.le H H'∧i≤ys.length∧∀k,k<i→0≤fn ys k) 0 (⟨.refl _,Nat.zero_le _,fun k h=>by omega⟩) ar ?_);rintro i H1 ⟨bx,hi,hk⟩;refine ae (aa 1 rfl (ab [12,13,14,15] ?_));refine ao (aD rfl (fun hb=> ?_) (fun hb=> ?_))
  ·
   have aP:i<ys.length:=by simpa using hb
   obtain⟨q,ie⟩:∃q,ys[i]? = some q:=⟨_,List.getElem?_eq_getElem aP⟩;obtain⟨g5,B1,k1,e1,B2,k2,e2,SO,CH,I1⟩:=aQ.Cj oS ie;have kC:=oN ie;refine az (ah [12,13,14] rfl ?_);refine ao (aE (ae (cj (vs:=[.bool g5,.slice B1 k1 e1,.slice B2 k2 e2]) ag rfl rfl rfl rfl (jr.le bx) rfl (by decide) I1 (by omega) (by omega) fun _=>(bh bQ rfl ?_))));obtain⟨ti,aj,ak⟩:=aU;refine aH (.inl ⟨rfl,rfl⟩) rfl rfl rfl aj ak rfl rfl rfl (ab [6,12,13,14] ?_);refine ae (aa 1 rfl (aC rfl rfl (Gc (N:=N) (CH.le bx) (by omega)) ?_));rintro _ H2 ⟨cD,rfl⟩;refine aa 1 rfl (ab [12,13,14,20] ?_);refine aD rfl (fun hb=> ?_) (fun hb=> ?_)
   ·
    have h2:fI q<0:=by simpa using hb
    refine ae (aa 1 rfl (ab [4] ?_));refine aB ⟨.inr rfl,_,.tmp rfl (.nil),?_⟩;exact⟨bx.trans cD,false,rfl,⟨(fun h=>by cases h),fun h=>absurd (xz.2 (kC▸h.2 i (by omega))) (by omega)⟩⟩
   have h2:0≤fI q:=by simpa using hb
   refine az (ah [12,13,14] rfl ?_);refine aA rfl (aF rfl rfl ⟨by omega,by omega⟩ (aa 1 rfl (au ?_)));exact⟨i+1,by omega,ar,bx.trans cD,by omega,fun k h9=>by by_cases e:k<i;exact hk k e;(obtain rfl:k=i:=by omega);rw[kC];exact xz.1 (by omega)⟩
  have hb:ys.length≤i:=by simpa using hb
  refine aX (ah [] rfl ?_);refine ae (aa 1 rfl (ab [4] ?_));refine aB ⟨.inr rfl,_,.tmp rfl (.nil),?_⟩;exact⟨bx,true,rfl,⟨fun _=>⟨h1.symm,fun k h=>hk k (by omega)⟩,fun _=>rfl⟩⟩
theorem alq{q:Rat}:0<fI q↔0<q:=by unfold fI;split;(constructor <;> intro <;> grind);split;(constructor <;> intro <;> grind);(constructor <;> intro <;> grind)
theorem alr{fs:List aO}{ys:List Rat}{q:Rat}(hp:xU fs.length (fn ys))(hc:∀x,comb fs (fn ys) x=((nu.bN x:Int):Rat))(hq:q=((nu.c:Int):Rat)-qW fs (fn ys)):0<fI q↔Ref fs (fn ys):=by
 have h0:((nu.c:Int):Rat)=0:=rfl
 rw[alq,hq,h0]
 exact⟨fun h=>⟨hp,fun v=>hc v,by grind⟩,fun h=>by have:=h.const;grind⟩
def abx(fs:List aO)(g:aO)(ys:List Rat):Prop:=lA fs∧eK g∧(ys.length=fs.length∧xU fs.length (fn ys))∧(Lp.Ent fs g (fn ys)∨Ref fs (fn ys))
def aby(fs:List aO)(ys:List Rat):Prop:=lA fs∧(ys.length=fs.length∧xU fs.length (fn ys))∧Ref fs (fn ys)
theorem TN{H:Heap}{v pv:Value}{fs:List aO}{ys:List Rat}{N:Nat}(ha:Aq N H v pv fs ys)(hlen:ys.length=fs.length)(mr:xU fs.length (fn ys))(dy:lA fs):
 Fn Tryz.prog 45 #[v,pv] H (fun v' H'=>Heap.le H H'∧∃b,v' = .bool b∧(b=true↔Ref fs (fn ys))):=by
 obtain⟨A,c,xs,rfl,hc,hr,hx⟩:=id ha.fv
 obtain⟨Ap,cp,xp,rfl,yj,jr,oS⟩:=id ha.py;refine aZ (args:=[_,_]) Tryz.func45 rfl rfl Tryz.ntmps45 rfl rfl fun w0=> ?_;refine ah [0,1] rfl ?_;refine ae (aa 1 rfl (ab [0,1] ?_));refine ae (aa 1 rfl (cL ag rfl il rfl rfl (aa 1 rfl (aC rfl rfl (abv (goal:=nu) (A0:=none) (c0:=0) ha aQ.nil hlen dy ZM) ?_))));rintro _ H1 ⟨bx,t1,b1,rfl,dY,q1,als,b8⟩;refine aa 3 rfl (bh bQ rfl ?_);obtain⟨ti,aj,ak⟩:=aU;refine aH (.inl ⟨rfl,rfl⟩) rfl rfl rfl aj ak rfl rfl rfl (aa 1 rfl (ab [5,6] ?_))
 cases b1
 ·
  skip
  refine ae (aa 7 rfl (ab [4] ?_));refine aB ⟨.inr rfl,_,.tmp rfl (.nil),?_⟩;exact⟨bx,false,rfl,⟨(fun h=>by cases h),fun h=>(by have h9:=dY.2 (fun x=>(h.bN x).trans rfl);cases h9)⟩⟩
 ·
  skip
  refine ae (aa 3 rfl (aC rfl rfl (Gc (N:=1000000000000) als (by decide)) ?_));rintro _ H2 ⟨cD,rfl⟩;refine aa 3 rfl (ab [4] ?_);refine aB ⟨.inr rfl,_,.tmp rfl (.nil),?_⟩;exact⟨bx.trans cD,_,rfl,by rw[decide_eq_true_iff];exact alr mr (dY.1 rfl) (b8 rfl)⟩
theorem alu{H:Heap}{v pv:Value}{fs:List aO}{ys:List Rat}{goal:aO}{A0:Option Addr}{c0 N:Nat}(ha:Aq N H v pv fs ys)(eG:aQ gy 2 H (.slice A0 goal.ts.length c0) goal.ts):
 Fn Tryz.prog 16 #[v,.agg #[.int .i64 goal.c,.slice A0 goal.ts.length c0],pv] H (fun v' H'=>Heap.le H H'∧∃b,v' = .bool b∧(b=true↔abx fs goal ys)):=by
 obtain⟨A,c,xs,rfl,hc,hr,hx⟩:=id ha.fv
 obtain⟨Ap,cp,xp,rfl,yj,jr,oS⟩:=id ha.py;refine aZ (args:=[_,_,_]) Tryz.func16 rfl rfl Tryz.ntmps16 rfl rfl fun w0=> ?_;refine ah [0,1,2] rfl ?_;refine ae (bY rfl rfl (aa 1 rfl (ab [0,2,4] ?_)));refine ao (ae (aa 1 rfl (aC rfl rfl (Ny ha.fv) ?_)));rintro _ H1 ⟨bx,b1,rfl,dY⟩
 cases b1
 ·
  skip
  refine aa 12 rfl (ab [0,2,4,22] ?_);refine cK rfl (ae (aa 1 rfl (ab [6] ?_)));refine aB ⟨.inr rfl,_,.tmp rfl (.nil),?_⟩;exact⟨bx,false,rfl,⟨(fun h=>by cases h),fun h=>(by have h9:=dY.2 h.1;cases h9)⟩⟩
 ·
  skip
  refine aa 3 rfl (aC rfl rfl (Nw (eG.le eZ bx)) ?_);rintro _ H2 ⟨e2,b2,rfl,de⟩;rw[e2]
  cases b2
  ·
   skip
   refine aa 8 rfl (ab [0,2,4,22] ?_);refine cK rfl (ae (aa 1 rfl (ab [6] ?_)));refine aB ⟨.inr rfl,_,.tmp rfl (.nil),?_⟩;exact⟨bx,false,rfl,⟨(fun h=>by cases h),fun h=>(by have h9:=de.2 h.2.1;cases h9)⟩⟩
  skip
  refine aa 5 rfl (aC rfl rfl (abw (ha.le bx) (by have:=(dY.1 rfl).len;omega)) ?_);rintro _ H3 ⟨eF,b3,rfl,gG⟩
  cases b3
  ·
   skip
   refine aa 2 rfl (ab [0,2,4,22] ?_);refine cK rfl (ae (aa 1 rfl (ab [6] ?_)));refine aB ⟨.inr rfl,_,.tmp rfl (.nil),?_⟩;exact⟨bx.trans eF,false,rfl,⟨(fun h=>by cases h),fun h=>(by have h9:=gG.2 h.2.2.1;cases h9)⟩⟩
  have dy:=dY.1 rfl;have dF:=de.1 rfl;obtain⟨hlen,mr⟩:=gG.1 rfl;have uP:=bx.trans eF;refine aa 2 rfl (ab [0,2,4,22] ?_);refine dh rfl (az (ah [0,2,4] rfl ?_));refine ae (aa 3 rfl (aC rfl rfl (abv (ha.le uP) (eG.le eZ uP) hlen dy dF) ?_));rintro _ H4 ⟨cM,t4,b4,rfl,xJ,q4,alv,ct⟩;have l6:=uP.trans cM;refine aa 3 rfl (bh bQ rfl ?_);obtain⟨ti,aj,ak⟩:=aU;refine aH (.inl ⟨rfl,rfl⟩) rfl rfl rfl aj ak rfl rfl rfl (aa 1 rfl (ab [0,2,7,8] ?_))
  cases b4
  ·
   skip
   refine ae (aa 9 rfl (aC rfl rfl (TN (ha.le l6) hlen mr dy) ?_));rintro _ H6 ⟨iy,b6,rfl,pR⟩;refine aa 2 rfl (ab [6] ?_);refine aB ⟨.inr rfl,_,.tmp rfl (.nil),?_⟩;exact⟨l6.trans iy,_,rfl,pR.trans ⟨fun h=>⟨dy,dF,⟨hlen,mr⟩,.inr h⟩,fun h=>h.2.2.2.elim (fun h=>(by have h9:=xJ.2 h.bN;cases h9)) id⟩⟩
  skip
  refine ae (aa 3 rfl (aC rfl rfl (Gc (N:=1000000000000) alv (by decide)) ?_));rintro _ H5 ⟨eI,rfl⟩;have te:=l6.trans eI
  by_cases hs:0≤fI q4
  ·
   skip
   refine aG true rfl rfl (me hs) (aa 7 rfl (ab [6] ?_));refine aB ⟨.inr rfl,_,.tmp rfl (.nil),?_⟩;exact⟨te,true,rfl,⟨fun _=>⟨dy,dF,⟨hlen,mr⟩,.inl ⟨mr,xJ.1 rfl,by have h9:=xz.1 hs;rw[ct rfl]at h9;grind⟩⟩,fun _=>rfl⟩⟩
  skip
  refine aG false rfl rfl (ql (by omega)) (aa 4 rfl (aC rfl rfl (TN (ha.le te) hlen mr dy) ?_));rintro _ H6 ⟨iy,b6,rfl,pR⟩;refine aa 2 rfl (ab [6] ?_);refine aB ⟨.inr rfl,_,.tmp rfl (.nil),?_⟩;exact⟨te.trans iy,_,rfl,pR.trans ⟨fun h=>⟨dy,dF,⟨hlen,mr⟩,.inr h⟩,fun h=>h.2.2.2.elim (fun h=>absurd (xz.2 (by rw[ct rfl];have h9:=h.const;grind)) hs) id⟩⟩
theorem alw{H:Heap}{v pv:Value}{fs:List aO}{ys:List Rat}{N:Nat}(ha:Aq N H v pv fs ys):
 Fn Tryz.prog 17 #[v,pv] H (fun v' H'=>Heap.le H H'∧∃b,v' = .bool b∧(b=true↔aby fs ys)):=by
 obtain⟨A,c,xs,rfl,hc,hr,hx⟩:=id ha.fv
 obtain⟨Ap,cp,xp,rfl,yj,jr,oS⟩:=id ha.py;refine aZ (args:=[_,_]) Tryz.func17 rfl rfl Tryz.ntmps17 rfl rfl fun w0=> ?_;refine ah [0,1] rfl ?_;refine ae (aa 1 rfl (ab [0,1] ?_));refine ae (aa 1 rfl (aC rfl rfl (Ny ha.fv) ?_));rintro _ H1 ⟨bx,b1,rfl,dY⟩
 cases b1
 ·
  skip
  refine aa 11 rfl (ab [4] ?_);refine aB ⟨.inr rfl,_,.tmp rfl (.nil),?_⟩;exact⟨bx,false,rfl,⟨(fun h=>by cases h),fun h=>(by have h9:=dY.2 h.1;cases h9)⟩⟩
 ·
  skip
  refine aa 3 rfl (aC rfl rfl (abw (ha.le bx) (by have:=(dY.1 rfl).len;omega)) ?_);rintro _ H3 ⟨eF,b3,rfl,gG⟩
  cases b3
  ·
   skip
   refine aa 7 rfl (ab [4] ?_);refine aB ⟨.inr rfl,_,.tmp rfl (.nil),?_⟩;exact⟨bx.trans eF,false,rfl,⟨(fun h=>by cases h),fun h=>(by have h9:=gG.2 h.2.1;cases h9)⟩⟩
  skip
  refine aa 4 rfl (aC rfl rfl (TN (ha.le (bx.trans eF)) (gG.1 rfl).1 (gG.1 rfl).2 (dY.1 rfl)) ?_);rintro _ H6 ⟨iy,b6,rfl,pR⟩;refine aa 2 rfl (ab [4] ?_);refine aB ⟨.inr rfl,_,.tmp rfl (.nil),?_⟩;exact⟨(bx.trans eF).trans iy,_,rfl,pR.trans ⟨fun h=>⟨dY.1 rfl,gG.1 rfl,h⟩,fun h=>h.2.2⟩⟩
end Go.aq
namespace Lp
end Lp
namespace Go.aq
open Go.Proofs Num Lp
end Go.aq
namespace Go.aq
open Go.Proofs Num Lp
end Go.aq
namespace Go.aq
open Go.Proofs Num Lp
end Go.aq
namespace Go.aq
open Go.Proofs Num Lp
abbrev KX:Nat:=200000000
def alx(K:Nat)(H:Heap)(s:Value)(S:vC):Prop:=∃f A1 m1 c1 A2 m2 c2 Ax cx Ad cd Ar cr,s = .agg #[.int .i64 S.status,.bool f,.slice A1 m1 c1,.slice A2 m2 c2,.slice Ax S.x.length cx,.slice Ad S.r7.length cd,.slice Ar S.oM.length cr]∧cT H (.agg #[.bool f,.slice A1 m1 c1,.slice A2 m2 c2]) S.value K∧aQ (dI K) 3 H (.slice Ax S.x.length cx) S.x∧aQ (dI K) 3 H (.slice Ad S.r7.length cd) S.r7∧aQ (dI K) 3 H (.slice Ar S.oM.length cr) S.oM
theorem Rp.k{K:Nat}{H:Heap}{s:Value}{S:vC}(h:Rp H s S)(hz:Y7 K S):alx K H s S:=by
 obtain⟨f,u,w,xv,dv,rv,rfl,h4,h5,h6,h7⟩:=h
 obtain⟨Ax,cx,_,rfl,_⟩:=id h5
 obtain⟨Ad,cd,_,rfl,_⟩:=id h6
 obtain⟨Ar,cr,_,rfl,_⟩:=id h7
 have hx:=h5.zL fun q hq=>hz q (.inl hq)
 have hd:=h6.zL fun q hq=>hz q (.inr (.inl hq))
 have hr:=h7.zL fun q hq=>hz q (.inr (.inr (.inl hq)))
 rcases h4 with h4 | ⟨h4,rfl,rfl,rfl⟩
 ·obtain⟨u',w',e,hu,hw⟩:=id h4
  have e':=DS (vs:=[.bool f,u,w]) e
  simp only[List.cons.injEq,and_true]at e'
  obtain⟨_,rfl,rfl⟩:=e'
  obtain⟨A1,c1,rfl,_⟩:=id hu
  obtain⟨A2,c2,rfl,_⟩:=id hw
  exact⟨_,_,_,_,_,_,_,_,_,_,_,_,_,rfl,(bH.raw h4).mono (hz _ (.inr (.inr (.inr rfl)))),hx,hd,hr⟩
 ·exact⟨_,_,_,_,_,_,_,_,_,_,_,_,_,rfl,by rw[h4];exact Ck,hx,hd,hr⟩
def NC(p:Prg)(c:List Rat)(H:Heap)(v:Value)(H':Heap):Prop:=Heap.le H H'∧∃S f A1 m1 c1 A2 m2 c2 Ax cx Ad cd Ar cr,v = .tuple #[.agg #[.int .i64 S.status,.bool f,.slice A1 m1 c1,.slice A2 m2 c2,.slice Ax S.x.length cx,.slice Ad S.r7.length cd,.slice Ar S.oM.length cr],.int .i64 0]∧zh p c S∧Y9 p c S∧cT H' (.agg #[.bool f,.slice A1 m1 c1,.slice A2 m2 c2]) S.value KX∧aQ (dI KX) 3 H' (.slice Ax S.x.length cx) S.x∧aQ (dI KX) 3 H' (.slice Ad S.r7.length cd) S.r7∧aQ (dI KX) 3 H' (.slice Ar S.oM.length cr) S.oM
theorem abz{N M:Nat}{H:Heap}{v cv:Value}{p:Prg}{c:List Rat}(hp:m7 N H v p)(hc:aQ (dI N) 3 H cv c)(hN:N≤400000000)(bO:p.Ok)(hlen:c.length=p.free.length)(hf:Fits p c M)(hM:M≤99999998):Fn Tryz.prog 52 #[v,cv] H (NC p c H):=by
 have hn:=bO.pM
 refine(aih hp hc hf (by omega) (by omega) (by omega)).mono ?_
 rintro v' H' ⟨hl,s,e,rfl,h3⟩
 rcases h3 with h3 | h3 | ⟨_,_,rfl,S,k4,k5,k6,k7⟩
 ·exact absurd bO h3.1
 ·exact absurd hlen h3.2.1
 ·obtain⟨f,A1,m1,c1,A2,m2,c2,Ax,cx,Ad,cd,Ar,cr,rfl,g1,g2,g3,g4⟩:=k4.k (K:=KX) (fun q hq=>Nat.le_trans (k6 q hq) (by show _≤200000000;omega))
  exact⟨hl,S,f,A1,m1,c1,A2,m2,c2,Ax,cx,Ad,cd,Ar,cr,rfl,k5,k7,g1,g2,g3,g4⟩
theorem NC.le{p:Prg}{c:List Rat}{H:Heap}{v:Value}{H':Heap}(h:NC p c H v H'):Heap.le H H':=h.1
theorem aly{N:Nat}{H:Heap}{g k:Nat}:aQ (dI N) 3 (ins H g ⟨dd [.bool false,.slice none 0 0,.slice none 0 0] ((k:Int).toNat*3),(k:Int).toNat*3,38,true⟩) (.slice (some ⟨g,0,none⟩) (k:Int).toNat (k:Int).toNat) (List.replicate k 0):=by
 rw[Int.toNat_natCast]
 exact⟨_,k,_,by rw[List.length_replicate],by rw[List.length_replicate];exact Nat.le_refl _,ea _ _ _ _ _ _,KK (P:=dI N _) rfl Ck k⟩
theorem alz(k j:Nat):fn (List.replicate k 0) j=0:=by
 unfold fn
 rw[List.getD,List.getElem?_replicate]
 split <;> rfl
end Go.aq
namespace Go.aq
open Go.Proofs Num Lp
structure fX(gp:Nat)(H:Heap)(fv rv:Value)(rows:List (List Rat×Int×Rat))(xs:List Value):Prop where
 pb:H gp=some ⟨[fv,rv],2,55,true⟩
 own:bR H rv 80 5 rows.length xs
 jD:bA (fK 1 (rem H (gp::aw rv))) 5 xs rows
 apart:¬gp∈aw rv
theorem TO(H:Heap)(a b:List Nat):rem (rem H b) a=rem H (a++b):=by
 funext g
 by_cases h1:g∈a
 ·rw[rem_in h1,rem_in (List.mem_append_left _ h1)]
 ·rw[bL h1]
  by_cases h2:g∈b
  ·rw[rem_in h2,rem_in (List.mem_append_right _ h2)]
  ·rw[bL h2,bL (by rw[List.mem_append];exact fun h=>h.elim h1 h2)]
section
variable {gp:Nat} {H H':Heap} {fv rv:Value} {rows:List (List Rat×Int×Rat)} {xs:List Value}
theorem fX.gx(h:fX gp H fv rv rows xs):fE [gp] (rem H (aw rv)) (fK 1) 80 5 H rv rows xs:=by
 refine⟨h.own,h.jD,?_,fun q hq=> ?_,fun q hq=> ?_,fun q hq=> ?_⟩
 ·rw[TO];exact .refl _
 ·rw[List.mem_singleton.1 hq,bL h.apart]
 ·rw[List.mem_singleton.1 hq,bL h.apart,h.pb];simp
 ·rw[List.mem_singleton.1 hq];exact h.apart
theorem fX.live(h:fX gp H fv rv rows xs):∀q,q∈gp::aw rv→H q≠none:=fun q hq=>by
 rcases List.mem_cons.1 hq with rfl | hq
 ·rw[h.pb];simp
 ·obtain⟨en,he⟩:=h.own.block (cF.1 hq);rw[he];simp
theorem fX.step(h:fX gp H fv rv rows xs)(hs:∀q,q∈gp::aw rv→H' q=H q)(hl:Heap.le (rem H (gp::aw rv)) (rem H' (gp::aw rv))):fX gp H' fv rv rows xs:=
 ⟨(hs gp (List.mem_cons_self ..)).trans h.pb,h.own.same fun q hq=>hs q (List.mem_cons_of_mem _ (cF.2 hq)),h.jD.mono fun vs a=>jC 1 _ _ vs a hl,h.apart⟩
theorem fX.call(h:fX gp H fv rv rows xs){R:Program}{f:FuncId}{args:Array Value}{bF:Value→Heap→Prop}(hc:Fn R f args (rem H (gp::aw rv)) bF):Fn R f args H (qw (gp::aw rv) bF H):=Fn.frame h.live hc
theorem fX.kX(h:fX gp H fv rv rows xs){bF:Value→Heap→Prop}{r:Value}(hf:qw (gp::aw rv) bF H r H')(hl:∀v' K,bF v' K→Heap.le (rem H (gp::aw rv)) K):fX gp H' fv rv rows xs:=h.step hf.same (hl _ _ hf.post)
theorem fX.ins(h:fX gp H fv rv rows xs){g:Nat}(en:Ent)(hg:H g=none):fX gp (ins H g en) fv rv rows xs:=by
 have hn:¬g∈gp::aw rv:=fun hm=>h.live g hm hg
 refine h.step (fun q hq=>bg _ _ fun e=>hn (e▸hq)) ?_
 rw[vw _ hn]
 exact Heap.bG _ (by rw[bL hn];exact hg)
theorem fX.push(h:fX gp H fv rv rows xs){gb:Nat}(aV:H gb=none){us:List Value}{r:List Rat×Int×Rat}(hr:fK 1 (rem H (gp::aw rv)) us r)(hl:us.length=5){v':Value}{H6:Heap}(ha:App (aq.ins H gb (whole us 80)) rv 80 5 (rows.length+1) (xs++us) v' H6):
  H6 gp=some ⟨[fv,rv],2,55,true⟩∧fX gp (aq.ins H6 gp ⟨[fv,v'],2,55,true⟩) fv v' (rows ++ [r]) (xs++us)∧Heap.le (rem H (gp::aw rv)) (rem (aq.ins H6 gp ⟨[fv,v'],2,55,true⟩) (gp::aw v')):=by
 have g2:=h.gx.ins (jC 1) (whole us 80) aV
 have hle:Heap.le (rem H (gp::aw rv)) (rem (aq.ins H gb (whole us 80)) ([gp]++aw rv)):=pK _ (Heap.bG _ aV)
 have g3:=g2.append (jC 1) (j:=[r]) rfl ha (iE (jC 1 _ _ _ _ hle hr) hl)
 have hb:=g3.base
 rw[TO]at hb
 have h6:H6 gp=some ⟨[fv,rv],2,55,true⟩:=by
  rw[g3.same gp (List.mem_singleton.2 rfl),bL h.apart];exact h.pb
 have vM:¬gp∈aw v':=g3.apart gp (List.mem_singleton.2 rfl)
 have hr6:rem (aq.ins H6 gp ⟨[fv,v'],2,55,true⟩) (gp::aw v')=rem H6 (gp::aw v'):=cE _ (List.mem_cons_self ..)
 refine⟨h6,⟨bn _ _ _,g3.own.same fun q hq=>bg _ _ fun e=>vM (e▸cF.2 hq),?_,vM⟩,?_⟩
 ·rw[hr6];exact g3.jD
 ·rw[hr6];exact hb
theorem fX.alA(h:fX gp H fv rv rows xs):aQ (fK 1) 5 H rv rows:=DI.sl ⟨xs,h.own,h.jD.mono fun vs a=>jC 1 _ _ vs a (bD _ _)⟩
theorem fX.form(h:fX gp H fv rv rows xs):∃A c,rv = .slice A rows.length c:=h.own.form
theorem fX.c0(h:fX gp H fv rv rows xs):cell H ⟨gp,0,none⟩=some fv:=by simp[cell,h.pb]
theorem fX.c1(h:fX gp H fv rv rows xs):cell H ⟨gp,1,none⟩=some rv:=by simp[cell,h.pb]
end
theorem fX.cells{gp:Nat}{H:Heap}{fv rv:Value}{rows:List (List Rat×Int×Rat)}{xs:List Value}(h:fX gp H fv rv rows xs)(i:Nat)(v:Value)(hi: [fv,rv][i]? = some v):cell H ((⟨gp,0,none⟩:Addr).add i)=some v:=by
 rw[im]
 match i,hi with
 | 0,hi=>cases hi;exact h.c0
 | 1,hi=>cases hi;exact h.c1
theorem alB{H:Heap}{gp:Nat}{fv:Value}:fX gp (ins H gp ⟨[fv,.slice none 0 0],2,55,true⟩) fv (.slice none 0 0) [] []:=
 ⟨bn _ _ _,kL _ _ _,qx,fun h=>by cases h⟩
def alC(gp:Nat)(H:Heap)(fv rv:Value)(rows:List (List Rat×Int×Rat))(r:List Rat×Int×Rat)(v:Value)(H':Heap):Prop:=v = .tuple #[]∧∃Hv oc,fX gp H' fv Hv (rows ++ [r]) oc∧Heap.le (rem H (gp::aw rv)) (rem H' (gp::aw Hv))
end Go.aq
namespace Go.aq
open Go.Proofs Num Lp
theorem alD{gp:Nat}{H H':Heap}{v:Value}{fs:List aO}(hg:H gp≠none)(h:qw [gp] (Mr fs (rem H [gp])) H v H'):∃ys,fE [gp] H o0 25 2 H' v fs ys:=by
 obtain⟨⟨ys,hG⟩,hs⟩:=h
 have hle:Heap.le (rem (rem H' [gp]) (aw v)) (rem H' ([gp]++aw v)):=by
  rw[TO];exact vV fun q hq=>by
   rcases List.mem_append.1 hq with h | h
   ·exact List.mem_append_right _ h
   ·exact List.mem_append_left _ h
 have vM:∀q,q∈[gp]→¬q∈aw v:=fun q hq hm=>hG.nT q hm (rem_in hq)
 refine⟨ys,hG.own.same fun q hq=> ?_,hG.jD.mono fun vs a=>iz _ _ vs a hle,hG.base.trans hle,hs,fun q hq=> ?_,vM⟩
 ·rw[bL fun hm=>vM q hm (cF.2 hq)]
 ·rw[List.mem_singleton.1 hq];exact hg
theorem alE{gp g e:Nat}{H:Heap}{fv rv:Value}{rows:List (List Rat×Int×Rat)}{xs:List Value}(z0 z:Int)(hg:H g=none)(hp:fX gp H fv rv rows xs):
  fX gp (ins (ins H g (whole [.int .i64 z0] e)) g {whole [.int .i64 z0] e with xs:=aJ (whole [.int .i64 z0] e).xs 0 [.int .i64 z]}) fv rv rows xs∧Heap.le (rem H (gp::aw rv)) (rem (ins (ins H g (whole [.int .i64 z0] e)) g {whole [.int .i64 z0] e with xs:=aJ (whole [.int .i64 z0] e).xs 0 [.int .i64 z]}) (gp::aw rv))∧
  cell (rem (ins (ins H g (whole [.int .i64 z0] e)) g {whole [.int .i64 z0] e with xs:=aJ (whole [.int .i64 z0] e).xs 0 [.int .i64 z]}) (gp::aw rv)) ⟨g,0,none⟩=some (.int .i64 z):=by
 have hn:¬g∈gp::aw rv:=fun hm=>hp.live g hm hg
 rw[mO]
 refine⟨hp.ins _ hg,pK _ (Heap.bG _ hg),?_⟩
 unfold cell
 rw[bL hn,bn]
 simp[whole,aJ]
end Go.aq
namespace Go.aq
open Go.Proofs Num Lp
theorem TP{n:Int}(h: -1048576≤n∧n≤1048576){H:Heap}{v:Value}(hv:bH H v (n:Rat)):cT H v (n:Rat) 1:=(bH.raw hv).mono (uH h)
theorem alF{H:Heap}{f:aO}{A:Option Addr}{c g:Nat}{v:Int}(hc:cell H ⟨g,0,none⟩=some (.int .i64 v))(hf:aQ gy 2 H (.slice A f.ts.length c) f.ts)(hl:f.ts.length≤1000000):
 Fn Tryz.prog 50 #[.agg #[.int .i64 f.c,.slice A f.ts.length c],.pointer (some ⟨g,0,none⟩)] H (j5 H (.int .i64 (f.bN v))):=by
 refine aZ (args:=[_,_]) Tryz.func50 rfl rfl Tryz.ntmps50 rfl rfl fun w0=> ?_;refine ah [0,1] rfl ?_;refine ae (bY rfl rfl (aa 1 rfl (ab [1,2] ?_)));refine ae (aa 1 rfl (aR ag rfl rfl rfl (hc) (aC rfl rfl (Jl hf hl) ?_)));rintro _ _ ⟨e2,rfl⟩;rw[e2];refine aa 1 rfl (ab [3] ?_);refine aB ⟨.inr rfl,_,.tmp rfl (.nil),?_⟩;exact⟨rfl,rfl⟩
theorem alG{H:Heap}{f:aO}{A:Option Addr}{c:Nat}:
 Fn Tryz.prog 51 #[.agg #[.int .i64 f.c,.slice A f.ts.length c]] H (j5 H (.int .i64 f.c)):=by
 refine aZ (args:=[_]) Tryz.func51 rfl rfl Tryz.ntmps51 rfl rfl fun w0=> ?_;refine ah [0] rfl ?_;refine ae (bY rfl rfl (aa 1 rfl (ab [1] ?_)));refine ae (aa 3 rfl (ab [2] ?_));refine aB ⟨.inr rfl,_,.tmp rfl (.nil),?_⟩;exact⟨rfl,rfl⟩
theorem abA{H:Heap}{gf gp:Nat}{fs:List aO}{A:Option Addr}{c:Nat}{fv rv part:Value}{rows:List (List Rat×Int×Rat)}{xs:List Value}{rel bound:Int}{g:aO→Int}(CC:cell (rem H (gp::aw rv)) ⟨gf,0,none⟩=some (.slice A fs.length c))(hv:jV (rem H (gp::aw rv)) (.slice A fs.length c) fs)(TI:Z3 (rem H (gp::aw rv)) part g)(hp:fX gp H fv rv rows xs)(hn:fs.length≤1000)(bO:∀(i:Nat)(f:aO),fs[i]? = some f→eK f)(hg:∀f,eK f→-1048576≤g f∧g f≤1048576)(gD: -1048576≤bound∧bound≤1048576)(MZ:rows.length≤5000):
 Fn Tryz.prog 48 #[.int .i64 rel,.int .i64 bound,part,.pointer (some ⟨gf,0,none⟩),.pointer (some ⟨gp,0,none⟩)] H (alC gp H fv rv rows (fs.map (fun f=>((g f:Int):Rat)),rel,(bound:Rat))):=by
 obtain⟨A',c',ys0,e,hc,hr,hx⟩:=id hv
 cases e
 obtain⟨iK,cap,rfl,Nz⟩:=id TI;refine aZ (args:=[_,_,_,_,_]) Tryz.func48 rfl rfl Tryz.ntmps48 rfl rfl fun w0=> ?_;refine ah [0,1,2,3,4] rfl ?_;refine ae (aa 2 rfl (aC rfl rfl (hp.call (vu (n:=bound) (by omega) (by omega)).rc) ?_));rintro _ H1 CQ;have fg:=hp.kX CQ fun _ _ h=>h.1;have an3:=CQ.same;obtain⟨⟨bx,t1,rfl,b8⟩,_⟩:=CQ;have CD:=cB (bD _ _) (cB bx CC);refine cL ag rfl jx rfl rfl (bh jx rfl ?_);obtain⟨ti,aj,ak⟩:=nB;refine aH (.inl ⟨rfl,rfl⟩) rfl rfl rfl aj ak rfl rfl rfl (ab [2,3,4,8] ?_);refine ao (ae (aR ag rfl rfl rfl (CD) (aa 2 rfl (ab [2,4,8,15,16,17] ?_))));refine aE (fB (fun(i:Nat)(cv:Value)(zs:List Value)=>fs.length-i) (fun(i:Nat)(cv:Value)(zs:List Value)=>put (put (put (put (put (put (emp) 2 (.val (.func (.func iK) #[] cap.toArray))) 4 (.val (.pointer (some ⟨gp,0,none⟩)))) 8 (.box [cv,.int .i64 rel,.bool t1.f,.slice t1.A1 t1.m1 t1.c1,.slice t1.A2 t1.m2 t1.c2])) 15 (.val (.slice A fs.length c))) 16 (.val (.int .i64 (fs.length:Int)))) 17 (.val (.int .i64 (i:Int)))) (fun(i:Nat)(cv:Value)(zs:List Value) H'=>fE (gp::aw rv) H1 bV 38 3 H' cv ((fs.take i).map (fun f=>((g f:Int):Rat))) zs∧i≤fs.length) 0 (.slice none 0 0) [] (⟨Mo fg.live,Nat.zero_le _⟩) ar ?_)
 rintro i cv zs H2 ⟨hG,hi⟩;obtain⟨W,cw,rfl⟩:=hG.form
 have EA:((fs.take i).map (fun f=>((g f:Int):Rat))).length=i:=by rw[List.length_map,List.length_take];omega
 have nY:Heap.le (rem H (gp::aw rv)) (rem H2 ((gp::aw rv)++aw (.slice W ((fs.take i).map (fun f=>((g f:Int):Rat))).length cw))):=bx.trans hG.base;have TQ:=nY.trans (bD _ _);refine ae (aa 1 rfl (ab [2,4,8,15,16,17,18] ?_));refine ao (aD rfl (fun hb=> ?_) (fun hb=> ?_))
 ·
  have aP:i<fs.length:=by simpa using hb
  obtain⟨f,hf⟩:∃f,fs[i]? = some f:=⟨_,List.getElem?_eq_getElem aP⟩;obtain⟨B,cb,nX,lb⟩:=vX hx hf;have dy:=bO i f hf;have TJ:=dy.len;have NA:=hg f dy;refine az (ah [2,4,8,15,16,17] rfl ?_);refine ao (aE (ae (cj ag rfl rfl rfl rfl (hr.le TQ) rfl (by decide) (lb) (by omega) (by omega) fun _=>(bh il rfl ?_))));obtain⟨ti,aj,ak⟩:=yL;refine aH (.inl ⟨rfl,rfl⟩) rfl rfl rfl aj ak rfl rfl rfl (ab [2,4,8,10,15,16,17] ?_);refine eo .bJ [0,1,2,3,4,5,6,7,8,9] follows (by kernel_rfl) ?_;refine aa 4 rfl (C7 (cap:=cap) (args:=[.agg #[.int .i64 f.c,.slice B f.ts.length cb]]) rfl rfl (Nz H2 TQ f B cb (nX.le eZ TQ) (by omega)) (.inr fun _ _ h=>h.le) ?_);rintro _ _ ⟨e3,rfl⟩;rw[e3];refine aY rfl rfl (hG.call (vu (n:=g f) (by omega) (by omega)).rc) (fun _ _ h=>h.le fun _ _ k=>k.1) ?_;rintro _ H3 hF3;have uG:=hG.kX cX hF3 fun _ _ h=>h.1;obtain⟨⟨_,t3,rfl,iw⟩,_⟩:=hF3;refine cI Tryz.underlying28 bQ rfl rfl rfl rfl rfl rfl rfl ?_;intro gb aV;have kZ:=uG.ins cX (whole (dS [t3.v]) 38) aV;refine dW Tryz.underlying28 bQ rfl rfl kZ.own (ea _ _ _ _ _ _) rfl (zK _ _ _ _ _ _ _) (by rw[EA];omega) (by rw[EA];omega) ?_;intro v5 H5 ha5;have tg:=kZ.append cX (j:=[((g f:Int):Rat)]) (by simp) ha5 (iE (cX _ _ _ _ (pK _ (Heap.bG _ aV)) (show bV _ [_,_,_] _ from iw)) rfl)
  obtain⟨W5,cw5,rfl⟩:∃A c,v5 = .slice A (((fs.take i).map (fun f=>((g f:Int):Rat))) ++ [((g f:Int):Rat)]).length c:=tg.form;refine vr 1 ?_;obtain⟨ti,aj,ak⟩:=J5;refine aH (.inr rfl) rfl rfl rfl aj ak rfl rfl rfl (au (ah [2,4,8,15,16,17] rfl ?_));refine aA rfl (aF rfl rfl ⟨by omega,by omega⟩ (aa 1 rfl (au ?_)));exact⟨i+1,_,_,by omega,ar,by rw[oZ hf];exact tg,by omega⟩
 ·
  have hb:fs.length≤i:=by simpa using hb
  obtain rfl:i=fs.length:=by omega
  have Jm:(fs.take fs.length).map (fun f=>((g f:Int):Rat))=fs.map (fun f=>((g f:Int):Rat)):=by rw[List.take_length]
  have dK:=fg.step hG.same (hG.base.trans (vV fun q hq=>List.mem_append_left _ hq));obtain⟨Ar,cr,rfl⟩:=dK.form
  have oy:=(hG.sl cX).zL (N:=1) fun q hq=>by
   obtain⟨f9,_,rfl⟩:=List.mem_map.1 hq
   rename_i h9
   obtain⟨k9,gw⟩:=List.getElem?_of_mem (List.mem_of_mem_take h9);exact uH (hg f9 (bO k9 f9 gw))
  have xo:fK 1 (rem H2 (gp::aw (.slice Ar rows.length cr))) [.slice W ((fs.take fs.length).map (fun f=>((g f:Int):Rat))).length cw,.int .i64 rel,.bool t1.f,.slice t1.A1 t1.m1 t1.c1,.slice t1.A2 t1.m2 t1.c2] ((fs.take fs.length).map (fun f=>((g f:Int):Rat)),rel,(bound:Rat)):=⟨_,_,_,_,rfl,oy,TP gD (bH.le b8 (hG.base.trans (vV fun q hq=>List.mem_append_left _ hq)))⟩;refine aX (ah [4,8] rfl ?_);refine aA rfl (aW ag rfl rfl rfl (aR ag rfl rfl rfl (dK.c1) (aa 1 rfl (cI Tryz.underlying53 jx rfl rfl rfl rfl rfl rfl rfl ?_))));intro gb aV;refine dW Tryz.underlying53 jx rfl rfl (dK.ins _ aV).own (ea _ _ _ _ _ _) rfl (Zv _ _ _ _ _ _ _ _ _ _ _) (by omega) (by omega) ?_;intro v7 H7 re;obtain⟨h7,Jn,jQ⟩:=dK.push aV xo rfl re;rw[Jm]at Jn;obtain⟨A7,c7,rfl⟩:=Jn.form;refine aW ag rfl rfl rfl ?_;obtain⟨ti9,QN,QO⟩:=Og;refine j6 (g:=gp) (o:=1) (.inl rfl) rfl h7 rfl (Nat.le_refl 2) QN QO rfl rfl rfl rfl (au ?_);refine⟨.inl rfl,_,.nil,?_⟩;exact⟨rfl,_,_,Jn,((bx.trans hG.base).trans (vV fun q hq=>List.mem_append_left _ hq)).trans jQ⟩
end Go.aq
namespace Go.aq
open Go.Proofs Num Lp
theorem alH{x:Nat}(h:x≤1048576):x.log2≤20:=by
 by_cases h0:x=0
 ·subst h0;decide
 ·have:=(Nat.log2_lt (n:=x) (k:=21) h0).2 (by omega);omega
theorem TR{n:Int}(h: -1048576≤n∧n≤1048576):av.wt (n:Rat)≤22:=by
 unfold av.wt
 rw[Rat.num_intCast,Rat.den_intCast]
 have h1:=alH (x:=n.natAbs) (by omega)
 have h2:Nat.log2 1=0:=by decide
 omega
theorem abB{fr:Nat→Bool}:∀{k:Nat},(∀j,j<k→fr j=false)→a6 fr k=k
 | 0,_=>rfl
 | k+1,h=>by
  unfold a6
  rw[abB fun j hj=>h j (by omega),h k (by omega)];simp
theorem abC{rel:Nat→Int}{c:Nat}:∀{k:Nat},(∀i,i<k→rel i=2)→bC rel c k=c
 | 0,_=>rfl
 | k+1,h=>by
  unfold bC
  rw[abC fun i hi=>h i (by omega),if_pos (h k (by omega))];rfl
structure Ints(p:Prg)(c:List Rat):Prop where
 row:∀r,r∈p.rows→(∀q,q∈r.1→∃n:Int,q=(n:Rat)∧-1048576≤n∧n≤1048576)∧∃n:Int,r.2.2=(n:Rat)∧-1048576≤n∧n≤1048576
 vec:∀q,q∈c→∃n:Int,q=(n:Rat)∧-1048576≤n∧n≤1048576
theorem abD{p:Prg}{c:List Rat}(h:Ints p c){k a m:Nat}(hk:HG p k)(qF:k≤7)(hm:p.rows.length≤m)(ha:∀r,r∈p.rows→r.1.length≤a)(hc:c.length≤a)(hma:m*(a+1)+a≤1000):∃M,Fits p c M∧M≤99999998:=by
 have h1:∀q,q∈nums p c→av.wt q≤22:=fun q hq=>by
  rcases List.mem_cons.1 hq with rfl | hq
  ·decide
  ·rcases List.mem_append.1 hq with hq | hq
   ·obtain⟨r,hr,hq⟩:=List.mem_flatMap.1 hq
    obtain⟨k1,n,k2,k3⟩:=h.row r hr
    rcases List.mem_cons.1 hq with rfl | hq
    ·rw[k2];exact TR k3
    ·obtain⟨n,k2,k3⟩:=k1 q hq
     rw[k2];exact TR k3
   ·obtain⟨n,k2,k3⟩:=h.vec q hq
    rw[k2];exact TR k3
 have h2:=Zr h1
 have h3:=Zu ha
 have UK:p.rows.length*(a+1)≤m*(a+1):=Nat.mul_le_mul_right _ hm
 have h4:(nums p c).length≤1001:=by
  simp only[nums,List.length_cons,List.length_append];omega
 have h5:av.ig (nums p c)≤1001*22:=Nat.le_trans h2 (Nat.mul_le_mul_right _ h4)
 have h6:p.lp.m≤1000:=by
  have e:p.lp.m=p.rows.length:=rfl
  have h9:m*1≤m*(a+1):=Nat.mul_le_mul_left _ (by omega)
  omega
 refine⟨_,ahq (D0:=av.iN (nums p c)) (f:=2*av.ig (nums p c)) (aiJ p c) (aiK p c) ⟨av.K3 _,Nat.le_trans (av.DV _) (Nat.pow_le_pow_right (by decide) (by omega)),fun i hi=>av.Pz (Zt hi).2⟩ hk,?_⟩
 unfold bits uj
 have h7:=Nat.mul_le_mul (Nat.pow_le_pow_right (n:=2) (by decide) qF) (show 4*av.ig (nums p c)+p.lp.m+1≤4*(1001*22)+1000+1 by omega)
 have h8:2^7*(4*(1001*22)+1000+1)=11403392:=by decide
 omega
section
variable {fs:List aO} {vs:List Int} {g:aO} {b:Int}
theorem abE{r:List Rat×Int×Rat}(h:r∈(cN fs vs g b).rows):(∃v,r=(fs.map (fun f=>((f.bN v:Int):Rat)),(2:Int),((g.bN v:Int):Rat)))∨r=(fs.map (fun f=>((f.c:Int):Rat)),(1:Int),(b:Rat)):=by
 simp only[cN,List.mem_append,List.mem_map,List.mem_singleton]at h
 rcases h with ⟨v,_,rfl⟩ | rfl
 ·exact .inl ⟨v,rfl⟩
 ·exact .inr rfl
theorem alI(bO:∀(i:Nat)(f:aO),fs[i]? = some f→eK f)(hg:eK g)(hb: -1048576≤b∧b≤1048576)(k:Nat):Ints (cN fs vs g b) (List.replicate k 0):=by
 refine⟨fun r hr=> ?_,fun q hq=>⟨0,(List.mem_replicate.1 hq).2,by omega,by omega⟩⟩
 have hm:∀f,f∈fs→eK f:=fun f hf=>by obtain⟨i,hi⟩:=List.getElem?_of_mem hf;exact bO i f hi
 rcases abE hr with ⟨v,rfl⟩ | rfl
 ·refine⟨fun q hq=> ?_,_,rfl,hg.kY v⟩
  obtain⟨f,hf,rfl⟩:=List.mem_map.1 hq
  exact⟨_,rfl,(hm f hf).kY v⟩
 ·refine⟨fun q hq=> ?_,_,rfl,hb⟩
  obtain⟨f,hf,rfl⟩:=List.mem_map.1 hq
  exact⟨_,rfl,(hm f hf).const⟩
theorem alJ(hf:fs.length≤6):HG (cN fs vs g b) 7:=by
 refine .inr ?_
 have hm:(cN fs vs g b).lp.m=vs.length+1:=by simp[Prg.lp,cN]
 have hn:(cN fs vs g b).lp.n=fs.length:=by simp[Prg.lp,cN]
 have uV:∀j,(cN fs vs g b).lp.free j=false:=fun j=>by
  simp only[Prg.lp,cN,List.getD,List.getElem?_replicate]
  split <;> rfl
 have kG:∀i,i<vs.length→(cN fs vs g b).lp.rel i=2:=fun i hi=>by
  show ((cN fs vs g b).row i).2.1=2
  rw[ZS (List.getElem?_eq_getElem hi)]
 have h1:(cN fs vs g b).c1=fs.length:=by
  show a6 _ (cN fs vs g b).lp.n=_
  rw[abB fun j _=>uV j,hn]
 have h2:(cN fs vs g b).u≤fs.length+1:=by
  show bC _ (cN fs vs g b).c1 (cN fs vs g b).lp.m≤_
  rw[hm,h1]
  unfold bC
  rw[abC kG]
  split <;> omega
 have h3:=(sL (cN fs vs g b).lp.rel (cN fs vs g b).aI (cN fs vs g b).u (cN fs vs g b).lp.m).1
 have e:(cN fs vs g b).w=a8 (cN fs vs g b).lp.rel (cN fs vs g b).aI (cN fs vs g b).u (cN fs vs g b).lp.m:=rfl
 omega
theorem alK(bO:∀(i:Nat)(f:aO),fs[i]? = some f→eK f)(hg:eK g)(hb: -1048576≤b∧b≤1048576)(hf:fs.length≤6)(hv:vs.length≤100):∃M,Fits (cN fs vs g b) (List.replicate fs.length 0) M∧M≤99999998:=
 abD (k:=7) (a:=6) (m:=101) (alI bO hg hb _) (alJ hf) (Nat.le_refl _) (by simp[cN];exact hv) (fun r hr=>by
  rcases abE hr with ⟨v,rfl⟩ | rfl
  ·rw[List.length_map];exact hf
  ·rw[List.length_map];exact hf) (by rw[List.length_replicate];exact hf) (by decide)
theorem abF(bO:∀(i:Nat)(f:aO),fs[i]? = some f→eK f)(hg:eK g)(hf:fs.length≤6)(hv:vs.length≤100):∃M,Fits (mG fs vs) (vW g vs) M∧M≤99999998:=by
 have hm:∀f,f∈fs→eK f:=fun f hf=>by obtain⟨i,hi⟩:=List.getElem?_of_mem hf;exact bO i f hi
 have xo:∀r,r∈(mG fs vs).rows→∃f,f∈fs∧r=(vs.map (fun v=>((f.bN v:Int):Rat)),(3:Int),((-f.c:Int):Rat)):=fun r hr=>by
  obtain⟨f,h1,h2⟩:=List.mem_map.1 hr
  exact⟨f,h1,h2.symm⟩
 refine abD (k:=6) (a:=100) (m:=6) ⟨fun r hr=> ?_,fun q hq=> ?_⟩ (.inl ?_) (by omega) (by simp[mG];exact hf) (fun r hr=> ?_) (by simp[vW];exact hv) (by decide)
 ·obtain⟨f,h1,rfl⟩:=xo r hr
  refine⟨fun q hq=> ?_,_,rfl,by have:=(hm f h1).const;omega⟩
  obtain⟨v,_,rfl⟩:=List.mem_map.1 hq
  exact⟨_,rfl,(hm f h1).kY v⟩
 ·obtain⟨v,_,rfl⟩:=List.mem_map.1 hq
  exact⟨_,rfl,hg.kY v⟩
 ·show (mG fs vs).rows.length≤6
  simp[mG];exact hf
 ·obtain⟨f,h1,rfl⟩:=xo r hr
  rw[List.length_map];exact hv
theorem TS{p:Prg}{k:Nat}{S:vC}(h:zh p (List.replicate k 0) S):(S.status=1∧p.lp.ib 1 (fn S.x)∧S.x.length=p.free.length)∨(S.status=2∧p.lp.pN):=by
 rcases h.KZ with ⟨h1,_⟩ | ⟨h1,h2,_⟩ | ⟨h1,h2,_⟩
 ·obtain⟨_,h2,_⟩:=h.at1 h1
  exact .inl ⟨h1,h2.fm.meets,h2.fm.len⟩
 ·exact .inr ⟨h1,h2⟩
 ·obtain⟨x,_,bX⟩:=h2.2 0
  have h9:cJ p.lp.n (fn (List.replicate k 0)) x=0:=lM fun j _=>by rw[alz];exact Rat.zero_mul _
  rw[h9]at bX
  exact absurd bX (by decide)
end
end Go.aq
namespace Go.aq
open Go.Proofs Num Lp
def alL(P:Prg)(k:Nat)(H:Heap)(v:Value)(H':Heap):Prop:=Heap.le H H'∧∃A n c b,v = .tuple #[.slice A n c,.bool b]∧((b=true∧∃x:List Rat,n=x.length∧x.length=k∧aQ (dI KX) 3 H' (.slice A n c) x∧P.lp.ib 1 (fn x))∨(b=false∧A=none∧n=0∧c=0∧¬∃x,P.lp.ib 1 x))
def alM(fs:List aO)(g:aO)(v:Int):List Rat×Int×Rat:=(fs.map (fun f=>((f.bN v:Int):Rat)),(2:Int),((g.bN v:Int):Rat))
theorem abG{H:Heap}{v:Value}{fs:List aO}{goal:aO}{A0:Option Addr}{c0:Nat}{bound:Int}(hv:jV H v fs)(eG:aQ gy 2 H (.slice A0 goal.ts.length c0) goal.ts)(bO:∀(i:Nat)(f:aO),fs[i]? = some f→eK f)(dF:eK goal)(gD: -1048576≤bound∧bound≤1048576)(lN:fs.length≤6)(jl:(dg (fs ++ [goal])).length≤100):
 Fn Tryz.prog 21 #[v,.agg #[.int .i64 goal.c,.slice A0 goal.ts.length c0],.int .i64 bound] H (alL (cN fs (dg (fs ++ [goal])) goal bound) fs.length H):=by
 obtain⟨A,c,xs,rfl,hc,hr,hx⟩:=id hv
 have TC:∀f,f∈fs ++ [goal]→f.ts.length≤1000:=fun f hf=>by
  rcases List.mem_append.1 hf with hf | hf
  ·obtain⟨i,hi⟩:=List.getElem?_of_mem hf;have:=(bO i f hi).len;omega
  ·rw[List.mem_singleton.1 hf];have:=dF.len;omega
 refine aZ (args:=[_,_,_]) Tryz.func21 rfl rfl Tryz.ntmps21 rfl rfl fun w0=> ?_;refine ah [0,1,2] rfl ?_;refine ae (JX rfl rfl ?_);intro gf NA;have bx:=Heap.bG (whole [.slice A fs.length c] 22) NA
 have CD:cell (ins H gf (whole [.slice A fs.length c] 22)) ⟨gf,0,none⟩=some (.slice A fs.length c):=by simp[cell,ins,whole]
 refine bY rfl rfl (aa 2 rfl (ab [2,3,4] ?_))
 generalize ins H gf (whole [.slice A fs.length c] 22)=H1 at bx CD⊢
 refine ae (aR ag rfl rfl rfl (CD) (aa 1 rfl (gP Tryz.underlying52 FQ rfl rfl rfl (by omega) (by omega) (by omega) (by omega) ?_)));intro gm qG;rw[Int.toNat_natCast];have cD:=Heap.bG ⟨dd [.bool false] (fs.length*1),fs.length*1,4,true⟩ qG;have lJ:aQ pV 1 (ins H1 gm ⟨dd [.bool false] (fs.length*1),fs.length*1,4,true⟩) (.slice (some ⟨gm,0,none⟩) fs.length fs.length) (List.replicate fs.length false):=⟨_,fs.length,_,by rw[List.length_replicate],by rw[List.length_replicate];exact Nat.le_refl _,ea _ _ _ _ _ _,KK (P:=pV _) rfl rfl fs.length⟩
 generalize ins H1 gm ⟨dd [.bool false] (fs.length*1),fs.length*1,4,true⟩=H2 at cD lJ⊢
 refine cL ag rfl wF rfl rfl (JY wF rfl ?_);intro gp Vi;obtain⟨ti,aj,ak⟩:=De;refine j6 (g:=gp) (o:=0) (.inl rfl) rfl (bn _ _ _) rfl (Nat.le_refl 2) aj ak rfl rfl rfl rfl ?_;rw[mO];have hP:fX gp (ins H2 gp ⟨[.slice (some ⟨gm,0,none⟩) fs.length fs.length,.slice none 0 0],2,55,true⟩) (.slice (some ⟨gm,0,none⟩) fs.length fs.length) (.slice none 0 0) [] []:=alB
 have rS:rem (ins H2 gp ⟨[.slice (some ⟨gm,0,none⟩) fs.length fs.length,.slice none 0 0],2,55,true⟩) [gp]=H2:=by rw[tF _ Vi,qv]
 have nY:=bx.trans cD;refine ab [2,3,4,8] ?_
 show VC _ _ _ _ _ _ _ (ins H2 gp ⟨[.slice (some ⟨gm,0,none⟩) fs.length fs.length,.slice none 0 0],2,55,true⟩)
 generalize ins H2 gp ⟨[.slice (some ⟨gm,0,none⟩) fs.length fs.length,.slice none 0 0],2,55,true⟩=H4 at hP rS⊢
 have E4:cell (rem H4 [gp]) ⟨gf,0,none⟩=some (.slice A fs.length c):=by rw[rS];exact cB cD CD
 have l6:Heap.le H (rem H4 [gp]):=by rw[rS];exact nY
 rw[←rS]at lJ;refine ae (Ll (cap:=[.pointer (some ⟨gf,0,none⟩),.pointer (some ⟨gp,0,none⟩)]) rfl (aa 1 rfl (ab [2,3,4,8,9] ?_)));refine bM .bJ [0,2,1,3,4,5] follows (by kernel_rfl) ?_;refine aR ag rfl rfl rfl (cB (bD _ _) E4) (aa 1 rfl (aY rfl rfl (hP.call (TH (hv.le iz l6) (by omega))) (fun _ _ h=>h.le fun _ _ k=>k.le) ?_));rintro v5 H5 yn;obtain⟨y5,tg⟩:=alD (by rw[hP.pb];simp) yn;obtain⟨W,cw,rfl⟩:=tg.form;refine cI Tryz.underlying22 il rfl rfl rfl rfl rfl rfl rfl ?_;intro gb aV;have gU:=tg.ins iz (whole (dS [.agg #[.int .i64 goal.c,.slice A0 goal.ts.length c0]]) 25) aV;refine dW Tryz.underlying22 il rfl rfl gU.own (ea _ _ _ _ _ _) rfl (EL (ins H5 gb (whole (dS [.agg #[.int .i64 goal.c,.slice A0 goal.ts.length c0]]) 25)) _ goal ⟨A0,c0,rfl,eG.le eZ (((l6.trans (bD _ _)).trans tg.le).trans (Heap.bG _ aV))⟩) (by omega) (by omega) ?_;intro v7 H7 re;have l0:=gU.append iz (j:=[goal]) rfl re (iE ⟨A0,c0,rfl,eG.le eZ (l6.trans gU.base)⟩ rfl);obtain⟨W7,cw7,rfl⟩:=l0.form;have hP7:fX gp H7 (.slice (some ⟨gm,0,none⟩) fs.length fs.length) (.slice none 0 0) [] []:=⟨(l0.same gp (List.mem_singleton.2 rfl)).trans hP.pb,kL _ _ _,qx,fun h=>by cases h⟩;have h47:Heap.le (rem H4 [gp]) (rem H7 [gp]):=l0.out
 refine aa 1 rfl (ab [2,3,4,8,9,10] ?_);refine ao (ae (aa 1 rfl (aC rfl rfl (hP7.call (Nx (l0.sl iz) (by rw[List.length_append,List.length_singleton];omega) TC)) ?_)));rintro _ H8 uO;have hP8:=hP7.kX uO fun _ _ h=>h.1;obtain⟨⟨jQ,A5,c5,rfl,CS⟩,_⟩:=uO;have jQ:Heap.le (rem H7 [gp]) (rem H8 [gp]):=jQ;have CS:aQ j8 1 (rem H8 [gp]) (.slice A5 (dg (fs ++ [goal])).length c5) (dg (fs ++ [goal])):=CS;obtain⟨_,_,x5,e5,lS,nD,m0⟩:=id CS
 cases e5
 have ND:=h47.trans jQ;refine aa 2 rfl (ab [2,3,4,8,9,26,27,28] ?_);refine aE (fB (fun(i:Nat)(rv:Value)(xs:List Value)=>(dg (fs ++ [goal])).length-i) (fun(i:Nat)(rv:Value)(xs:List Value)=>put (put (put (put (put (put (put (put (emp) 2 (.val (.int .i64 bound))) 3 (.val (.pointer (some ⟨gf,0,none⟩)))) 4 (.box [.int .i64 goal.c,.slice A0 goal.ts.length c0])) 8 (.val (.pointer (some ⟨gp,0,none⟩)))) 9 (.val (.func (.func 48) #[] #[.pointer (some ⟨gf,0,none⟩),.pointer (some ⟨gp,0,none⟩)]))) 26 (.val (.slice A5 (dg (fs ++ [goal])).length c5))) 27 (.val (.int .i64 ((dg (fs ++ [goal])).length:Int)))) 28 (.val (.int .i64 (i:Int)))) (fun(i:Nat)(rv:Value)(xs:List Value) H'=>fX gp H' (.slice (some ⟨gm,0,none⟩) fs.length fs.length) rv (((dg (fs ++ [goal])).take i).map (alM fs goal)) xs∧Heap.le (rem H8 [gp]) (rem H' (gp::aw rv))∧i≤(dg (fs ++ [goal])).length) 0 (.slice none 0 0) [] (⟨hP8,.refl _,Nat.zero_le _⟩) ar ?_);rintro i rv xs H9 ⟨TT,eT,hi⟩;refine ae (aa 1 rfl (ab [2,3,4,8,9,26,27,28,29] ?_));refine ao (aD rfl (fun hb=> ?_) (fun hb=> ?_))
 ·
  have aP:i<(dg (fs ++ [goal])).length:=by simpa using hb
  obtain⟨x,tf⟩:∃x,(dg (fs ++ [goal]))[i]? = some x:=⟨_,List.getElem?_eq_getElem aP⟩;refine az (ah [2,3,4,8,9,26,27,28] rfl ?_);refine ao (aE (ae (aS ag rfl rfl rfl rfl rfl (nD.le (eT.trans (bD _ _))) (by rw[Int.toNat_natCast];exact zO m0 tf) (by omega) (by omega) fun _=> ?_)));refine JY fC rfl ?_;intro gx lO;obtain⟨ti,aj,ak⟩:=u6;refine j6 (g:=gx) (o:=0) (.inl rfl) rfl (bn _ _ _) rfl (by decide) aj ak rfl rfl rfl rfl ?_;obtain⟨abH,qO,p9⟩:=alE (e:=3) 0 x lO TT;refine ab [2,3,4,8,9,12,26,27,28] ?_
  generalize ins (ins H9 gx (whole [.int .i64 0] 3)) gx {whole [.int .i64 0] 3 with xs:=aJ (whole [.int .i64 0] 3).xs 0 [.int .i64 x]}=lW at abH qO p9⊢
  have gE:=ND.trans (eT.trans qO);refine aA rfl (aa 2 rfl (aR ag rfl rfl rfl (cB (bD _ _) p9) (aC rfl rfl (Jl (v:=x) (eG.le eZ ((l6.trans gE).trans (bD _ _))) (by have:=dF.len;omega)) ?_)));rintro _ _ ⟨CG,rfl⟩;rw[CG];refine Ll (cap:=[.pointer (some ⟨gx,0,none⟩)]) rfl (C7 (cap:=[.pointer (some ⟨gf,0,none⟩),.pointer (some ⟨gp,0,none⟩)]) (args:=[.int .i64 2,.int .i64 (goal.bN x),.func (.func 50) #[] #[.pointer (some ⟨gx,0,none⟩)]]) rfl rfl (abA (g:=fun f=>f.bN x) (cB gE E4) (hv.le iz (l6.trans gE)) ⟨50,[.pointer (some ⟨gx,0,none⟩)],rfl,fun H9 eT f A c hf jF=>alF (cB eT p9) hf jF⟩ abH (by omega) bO (fun f h=>h.kY x) (dF.kY x) (by rw[List.length_map,List.length_take];omega)) (.inl rfl) ?_);rintro _ je ⟨rfl,alN,aae,Jo,vS⟩;refine au (ah [2,3,4,8,9,26,27,28] rfl ?_);refine aA rfl (aF rfl rfl ⟨by omega,by omega⟩ (aa 1 rfl (au ?_)));exact⟨i+1,_,_,by omega,ar,by rw[oZ tf];exact Jo,eT.trans (qO.trans vS),by omega⟩
 ·
  have hb:(dg (fs ++ [goal])).length≤i:=by simpa using hb
  obtain rfl:i=(dg (fs ++ [goal])).length:=by omega
  rw[List.take_length]at TT;have gE:=ND.trans eT;refine aX (ah [2,3,8,9] rfl ?_);refine ae (aa 2 rfl (C7 (cap:=[.pointer (some ⟨gf,0,none⟩),.pointer (some ⟨gp,0,none⟩)]) (args:=[.int .i64 1,.int .i64 bound,.func (.func 51) #[] #[]]) rfl rfl (abA (g:=fun f=>f.c) (cB gE E4) (hv.le iz (l6.trans gE)) ⟨51,[],rfl,fun H9 eT f A c hf jF=>alG⟩ TT (by omega) bO (fun f h=>h.const) gD (by rw[List.length_map];omega)) (.inl rfl) ?_));rintro _ je ⟨rfl,alN,aae,Jo,vS⟩;have gZ:=gE.trans vS;obtain⟨M,AT,hM⟩:=alK (vs:=(dg (fs ++ [goal]))) (b:=bound) bO dF gD lN jl;obtain⟨Ar,cr,rfl⟩:=Jo.form;refine ab [3,8] ?_;refine bM .bJ [0,1,2,3,4,5,6,7,8,9,10] follows (by kernel_rfl) ?_;refine yG (vs:=[_,_]) ag rfl rfl rfl Jo.cells (aR ag rfl rfl rfl (cB (bD _ _) (cB gZ E4)) (aa 1 rfl (gP Tryz.underlying28 bQ rfl rfl rfl (by omega) (by omega) (by omega) (by omega) ?_)));intro g13 sS;have mB:=Heap.bG ⟨dd [.bool false,.slice none 0 0,.slice none 0 0] ((fs.length:Int).toNat*3),(fs.length:Int).toNat*3,38,true⟩ sS;refine aY rfl rfl (abz (N:=1) (p:=cN fs (dg (fs ++ [goal])) goal bound) ⟨_,_,rfl,(lJ.le ug ((gZ.trans (bD _ _)).trans mB)),Jo.alA.le (jC 1) mB⟩ aly (by decide) (ai4 goal bound (by omega) (by omega)) (by simp[cN]) AT hM) (fun _ _ h=>by first | exact h.le | exact h.1) ?_
  rintro _ zB ⟨Al,S,f20,B1,m1,e1,B2,m2,e2,Bx,ex,Bd,ed,Br,er,rfl,Aw,TU,rX,NF,TV,Gz⟩;have Jp:Heap.le H zB:=(((l6.trans gZ).trans (bD _ _)).trans mB).trans Al;refine aa 3 rfl (bh vd rfl ?_);obtain⟨ti,aj,ak⟩:=pD;refine aH (.inl ⟨rfl,rfl⟩) rfl rfl rfl aj ak rfl rfl rfl (aa 1 rfl (ab [13,14] ?_));refine ao ?_
  by_cases dG:S.status=1
  ·
   skip
   refine ae (aa 1 rfl (aG false rfl rfl (vi rfl) (aa 3 rfl (aG false rfl rfl (vi dG) (aa 1 rfl (ab [13,56] ?_))))));refine dh rfl (az (ah [13] rfl ?_));refine ae (aa 4 rfl (ab [6,7] ?_));refine aB ⟨.inr rfl,_,.tmp rfl (.tmp rfl (.nil)),?_⟩;refine⟨Jp,_,_,_,_,rfl,.inl ⟨rfl,S.x,rfl,?_,NF,?_⟩⟩
   ·
    rcases TS Aw with ⟨_,_,h9⟩ | ⟨h9,_⟩
    ·rw[h9];simp[cN]
    ·omega
   rcases TS Aw with ⟨_,h9,_⟩ | ⟨h9,_⟩
   ·exact h9
   ·omega
  skip
  refine ae (aa 1 rfl (aG false rfl rfl (vi rfl) (aa 3 rfl (aG true rfl rfl (vh dG) (aa 1 rfl (ab [13,56] ?_))))));refine cK rfl (ae (aa 2 rfl (ab [6,7] ?_)));refine aB ⟨.inr rfl,_,.tmp rfl (.tmp rfl (.nil)),?_⟩;refine⟨Jp,_,_,_,_,rfl,.inr ⟨rfl,rfl,rfl,rfl,fun⟨x,hx⟩=> ?_⟩⟩
  rcases TS Aw with ⟨h9,_⟩ | ⟨_,h9⟩
  ·exact dG h9
  ·exact h9 x hx
def Jq(fs:List aO)(g:aO):Prop:=lA fs→eK g→fs.length≤6∧(dg (fs ++ [g])).length≤100
def alO(fs:List aO)(g:aO)(H:Heap)(v:Value)(H':Heap):Prop:=Heap.le H H'∧∃A k c b e,v = .tuple #[.slice A k c,.bool b,.int .i64 e]∧
 ((¬(lA fs∧eK g)∧e=1∧b=false∧A=none∧k=0∧c=0)∨
  (lA fs∧eK g∧e=0∧((b=true∧∃x:List Rat,k=x.length∧x.length=fs.length∧aQ (dI KX) 3 H' (.slice A k c) x∧(Lp.Ent fs g (fn x)∨Ref fs (fn x)))∨(b=false∧A=none∧k=0∧c=0∧¬RP fs g))))
theorem alP(fs:List aO):dg (fs ++ [nu])=dg fs:=by
 unfold dg gM;rw[List.flatMap_append];simp[aO.vars,nu]
theorem alQ{fs:List aO}(h:lA fs):(dg (fs ++ [nu])).length≤100:=by rw[alP];exact h.vars
theorem alR{H:Heap}{v:Value}{fs:List aO}{goal:aO}{A0:Option Addr}{c0:Nat}(hv:jV H v fs)(eG:aQ gy 2 H (.slice A0 goal.ts.length c0) goal.ts)(wk:Jq fs goal):
 Fn Tryz.prog 7 #[v,.agg #[.int .i64 goal.c,.slice A0 goal.ts.length c0]] H (alO fs goal H):=by
 obtain⟨A,c,xs,rfl,hc,hr,hx⟩:=id hv;refine aZ (args:=[_,_]) Tryz.func7 rfl rfl Tryz.ntmps7 rfl rfl fun w0=> ?_;refine ah [0,1] rfl ?_;refine ae (bY rfl rfl (aa 3 rfl (ab [0,3] ?_)));refine ao (ae (aa 1 rfl (aC rfl rfl (Ny hv) ?_)));rintro _ H1 ⟨bx,b1,rfl,dY⟩
 cases b1
 ·
  skip
  refine aa 6 rfl (ab [0,3,16] ?_);refine cK rfl (ae (aa 3 rfl (ab [4,5,6] ?_)));refine aB ⟨.inr rfl,_,.tmp rfl (.tmp rfl (.tmp rfl (.nil))),?_⟩;exact⟨bx,_,_,_,_,_,rfl,.inl ⟨fun h=>(by have h9:=dY.2 h.1;cases h9),rfl,rfl,rfl,rfl,rfl⟩⟩
 ·
  skip
  refine aa 3 rfl (aC rfl rfl (Nw (eG.le eZ bx)) ?_);rintro _ H2 ⟨e2,b2,rfl,de⟩;rw[e2]
  cases b2
  ·
   skip
   refine aa 2 rfl (ab [0,3,16] ?_);refine cK rfl (ae (aa 3 rfl (ab [4,5,6] ?_)));refine aB ⟨.inr rfl,_,.tmp rfl (.tmp rfl (.tmp rfl (.nil))),?_⟩;exact⟨bx,_,_,_,_,_,rfl,.inl ⟨fun h=>(by have h9:=de.2 h.2;cases h9),rfl,rfl,rfl,rfl,rfl⟩⟩
  have dy:=dY.1 rfl;have dF:=de.1 rfl;obtain⟨lh,wm⟩:=wk dy dF;refine aa 2 rfl (ab [0,3,16] ?_);refine dh rfl (az (ah [0,3] rfl ?_));refine ae (aa 4 rfl (aC rfl rfl (abG (hv.le iz bx) (eG.le eZ bx) dy.ok dF dF.const lh wm) ?_));rintro _ H3 ⟨eF,A3,n3,c3,b3,rfl,gG⟩;have uP:=bx.trans eF;refine aa 5 rfl (ab [0,7,8] ?_);refine ao ?_
  rcases gG with ⟨rfl,x,rfl,cZ,yJ,xC⟩ | ⟨rfl,rfl,rfl,rfl,I6⟩
  ·
   skip
   refine ae (aa 2 rfl (ab [0,7,8,26] ?_));refine dh rfl (az (ah [7,8] rfl ?_));refine ae (aa 5 rfl (ab [4,5,6] ?_));refine aB ⟨.inr rfl,_,.tmp rfl (.tmp rfl (.tmp rfl (.nil))),?_⟩;exact⟨uP,_,_,_,_,_,rfl,.inr ⟨dy,dF,rfl,.inl ⟨rfl,x,rfl,cZ,yJ,.inl (ai6 xC)⟩⟩⟩
  skip
  refine ae (aa 2 rfl (ab [0,7,8,26] ?_));refine cK rfl (aA rfl (aa 1 rfl (cL ag rfl il rfl rfl (aC rfl rfl (abG (goal:=nu) (A0:=none) (c0:=0) (hv.le iz uP) aQ.nil dy.ok ZM (by omega) lh (alQ dy)) ?_))));rintro _ H4 ⟨cM,A4,n4,c4,b4,rfl,xJ⟩;have l6:=uP.trans cM;refine aa 5 rfl (au (ah [7,8] rfl ?_));refine ae (aa 5 rfl (ab [4,5,6] ?_));refine aB ⟨.inr rfl,_,.tmp rfl (.tmp rfl (.tmp rfl (.nil))),?_⟩
  rcases xJ with ⟨rfl,x,rfl,cZ,yJ,xC⟩ | ⟨rfl,rfl,rfl,rfl,alS⟩
  ·exact⟨l6,_,_,_,_,_,rfl,.inr ⟨dy,dF,rfl,.inl ⟨rfl,x,rfl,cZ,yJ,.inr (ai8 xC)⟩⟩⟩
  refine⟨l6,_,_,_,_,_,rfl,.inr ⟨dy,dF,rfl,.inr ⟨rfl,rfl,rfl,rfl,fun h=> ?_⟩⟩⟩
  rcases h with ⟨x,h⟩ | ⟨x,h⟩
  ·exact I6 ⟨x,h.RS _⟩
  ·exact alS (h.RS _)
end Go.aq
