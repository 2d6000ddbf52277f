/- Walks over package lexico, part 1: slices.Clone, slices.Index, slices.Contains at bool; canonical, vectors, extend, refusal. -/
import Derived.Test.YtgjimcieaecdkaaGreatA10
import Derived.Test.YtgjimcieaecdkaaGreatCat
import Derived.Test.YtgjimcieaecdkaaGreatLex
import Derived.Test.YtgjimcieaecdkaaGreatEng15
set_option linter.unusedVariables false
namespace Go.ar
open Go.Proofs Num Lp
def m9(N:Nat)(H:Heap)(vs:List Value)(l:List Rat):Prop:=∃A c,vs = [.slice A l.length c]∧aH (bJ N) 3 H (.slice A l.length c) l
theorem ng(N:Nat):Up (m9 N):=fun _ _ _ _ hl ⟨A,c,h1,h2⟩=>⟨A,c,h1,h2.le (cD N) hl⟩
theorem abY(N:Nat):One (m9 N):=fun _ vs l ⟨A,c,h1,_⟩ u hu=>by
 subst h1
 rw[List.mem_singleton]at hu;rw[hu];rfl
abbrev mg(N:Nat)(H:Heap)(v:Value)(ls:List (List Rat)):Prop:=aH (m9 N) 1 H v ls
theorem F5{N:Nat}{H:Heap}{xs:List Value}{ls:List (List Rat)}(h:bg (m9 N H) 1 xs ls){i:Nat}{l:List Rat}(hi:ls[i]? = some l):∃A c,xs[i]? = some (.slice A l.length c)∧aH (bJ N) 3 H (.slice A l.length c) l:=by
 obtain⟨v,h1,A,c,h2,h3⟩:=h.one hi
 simp only[List.cons.injEq,and_true]at h2
 subst h2
 exact⟨A,c,h1,h3⟩
theorem abZ{α:Type}{P:Heap→List Value→α→Prop}{e sz:Nat}{H:Heap}{g:Nat}(hg:H g=none):dL P e sz H (ins H g (whole [] e)) (.slice (some ⟨g,0,none⟩) 0 0) [] []:=by
 refine⟨⟨by simp,.inr ⟨g,0,rfl,by rw[bx];simp[whole],Nat.le_refl _,Nat.zero_le _⟩⟩,sR,?_⟩
 show Heap.le H (rem _ [g])
 rw[q3 _ hg,pS];exact .refl _
theorem RH{H:Heap}{v:Value}{l:List Bool}(h:aH mW 1 H v l)(hl:l.length≤1000000):
 Fn Tryz.prog 81 #[v] H (fun v' H'=>Heap.le H H'∧aH mW 1 H' v' l):=by
 obtain⟨A,c,xs,rfl,hc,hr,hx⟩:=id h;refine aW (args:=[_]) Tryz.func81 rfl rfl Tryz.ntmps81 rfl rfl fun w0=> ?_;refine aj [0] rfl ?_;refine af (ab 1 rfl (ae [0] ?_));refine aq (af (ab 1 rfl (abo Tryz.underlying22 rfl rfl (ae [0,4] ?_))));refine az rfl (fun hb=> ?_) (fun hb=> ?_)
 ·
  have hA:A=none:=by simpa using hb
  have ET:l = []:=by
   cases cn:l with
   | nil=>rfl
   | cons a k=>
    rw[cn]at hx;obtain⟨u,hu,_⟩:=hx.one (i:=0) (a:=a) rfl;obtain⟨ad,h9,_⟩:=hr 0 u hu;rw[hA]at h9;cases h9
  refine af (ab 1 rfl (ae [2] ?_));refine aw ⟨.inr rfl,_,.tmp rfl (.nil),?_⟩;exact⟨.refl _,by rw[ET];exact jL⟩
 ·
  skip
  refine ax (aj [0] rfl ?_);refine af (abp Tryz.underlying22 C9 ?_);intro g hg;have hG:=abZ (P:=mW) (e:=4) (sz:=1) hg;refine ab 1 rfl (abl qm abj (by decide) Tryz.underlying22 C9 rfl rfl hG (h.le qm hG.base) (by rw[List.length_nil];omega) (by rw[List.length_nil];omega) ?_);intro v2 H2 y2 tJ _;rw[List.nil_append]at tJ;refine ab 1 rfl (ae [2] ?_);refine aw ⟨.inr rfl,_,.tmp rfl (.nil),?_⟩;exact⟨tJ.le,tJ.sl qm⟩
theorem ab0{H:Heap}{v:Value}{l:List Bool}(h:aH mW 1 H v l)(hl:l.length≤1000000):
 Fn Tryz.prog 76 #[v,.bool true] H (fun v' H'=>H'=H∧∃z:Int,v' = .int .i64 z∧(0≤z↔∃j:Nat,l[j]? = some true)):=by
 obtain⟨A,c,xs,rfl,hc,hr,hx⟩:=id h;refine aW (args:=[_,_]) Tryz.func76 rfl rfl Tryz.ntmps76 rfl rfl fun w0=> ?_;refine aj [0,1] rfl ?_;refine af (ab 1 rfl (ae [0,1] ?_));refine aq (af (ab 3 rfl (ae [0,1,7,8] ?_)));refine aD (gj (fun(i:Nat)=>l.length-i) (fun(i:Nat)=>put (put (put (put (emp) 0 (.val (.slice A l.length c))) 1 (.val (.bool true))) 7 (.val (.int .i64 (l.length:Int)))) 8 (.val (.int .i64 (i:Int)))) (fun(i:Nat) H'=>H'=H∧i≤l.length∧∀j,j<i→l[j]?≠some true) 0 (⟨rfl,Nat.zero_le _,fun j h=>by omega⟩) ay ?_);rintro i H1 ⟨e1,hi,hn⟩;rw[e1];refine af (ab 1 rfl (ae [0,1,7,8,9] ?_));refine aq (az rfl (fun hb=> ?_) (fun hb=> ?_))
 ·
  have dX:i<l.length:=by simpa using hb
  obtain⟨b,bU⟩:∃b,l[i]? = some b:=⟨_,List.getElem?_eq_getElem dX⟩;obtain⟨u,hu,Ge⟩:=hx.one bU;have Ge: [u] = [.bool b]:=Ge
  simp only[List.cons.injEq,and_true]at Ge
  subst Ge;refine ax (aj [0,1,7,8] rfl ?_);refine aq (aD (af (ab 2 rfl (ae [0,1,5,7,8] ?_))));refine af (ab 3 rfl (a9 ag rfl rfl rfl rfl rfl (hr) (by rw[Int.toNat_natCast];exact hu) (by omega) (by omega) fun _=> ?_));refine GK Tryz.underlying4 rfl rfl (ae [0,1,5,7,8,16] ?_);refine az rfl (fun hb=> ?_) (fun hb=> ?_)
  ·
   have sW:b=true:=by simpa using hb
   refine af (ab 2 rfl (ae [4] ?_));refine aw ⟨.inr rfl,_,.tmp rfl (.nil),?_⟩;exact⟨rfl,_,rfl,⟨fun _=>⟨i,by rw[bU,sW]⟩,fun _=>by omega⟩⟩
  ·
   have wc:b=false:=by simpa using hb
   refine ax (aj [0,1,7,8] rfl ?_);refine aF rfl (aO rfl rfl ⟨by omega,by omega⟩ (ab 1 rfl (aA ?_)));exact⟨i+1,by omega,ay,rfl,by omega,fun j hj=>by by_cases h9:j<i;exact hn j h9;(obtain rfl:j=i:=by omega);rw[bU,wc];simp⟩
 ·
  have hb:l.length≤i:=by simpa using hb
  refine bC (aj [] rfl ?_);refine af (ab 1 rfl (ae [4] ?_));refine aw ⟨.inr rfl,_,.tmp rfl (.nil),?_⟩;exact⟨rfl,_,rfl,⟨fun h=>by omega,fun⟨j,hj⟩=>absurd hj (hn j (by have:=(List.getElem?_eq_some_iff.1 hj).1;omega))⟩⟩
theorem ab1{H:Heap}{v:Value}{l:List Bool}(h:aH mW 1 H v l)(hl:l.length≤1000000):
 Fn Tryz.prog 43 #[v,.bool true] H (fun v' H'=>H'=H∧∃b,v' = .bool b∧(b=true↔∃j:Nat,l[j]? = some true)):=by
 obtain⟨A,c,xs,rfl,hc,hr,hx⟩:=id h;refine aW (args:=[_,_]) Tryz.func43 rfl rfl Tryz.ntmps43 rfl rfl fun w0=> ?_;refine aj [0,1] rfl ?_;refine af (ab 1 rfl (ae [0,1] ?_));refine af (ab 2 rfl (au rfl rfl (ab0 h hl) ?_));rintro _ H1 ⟨e1,z,rfl,hz⟩;rw[e1];refine ab 2 rfl (ae [4] ?_);refine aw ⟨.inr rfl,_,.tmp rfl (.nil),?_⟩;exact⟨rfl,_,rfl,by rw[←hz];simp⟩
theorem RI{H:Heap}{v:Value}{l:List Rat}{N:Nat}(h:aH (bJ N) 3 H v l)(hl:l.length≤1000)(hN:(N:Int)≤1099511627776):
 Fn Tryz.prog 101 #[v] H (fun v' H'=>Heap.le H H'∧∃A c,v' = .slice A l.length c∧aH (bJ (N+2)) 3 H' v' l):=by
 have hz:=h.Q7
 obtain⟨A,c,xs,rfl,hc,hr,hx⟩:=id h;refine aW (args:=[_]) Tryz.func101 rfl rfl Tryz.ntmps101 rfl rfl fun w0=> ?_;refine aj [0] rfl ?_;refine af (ab 1 rfl (ae [0] ?_));refine af (ab 1 rfl (ae [0,3] ?_));refine aq (af (ab 3 rfl (ae [3,6,7,8] ?_)));refine aD (jb (fun(i:Nat)(w:Value)(ys:List Value)=>l.length-i) (fun(i:Nat)(w:Value)(ys:List Value)=>put (put (put (put (emp) 3 (.val (w))) 6 (.val (.slice A l.length c))) 7 (.val (.int .i64 (l.length:Int)))) 8 (.val (.int .i64 (i:Int)))) (fun(i:Nat)(w:Value)(ys:List Value) H'=>dL fy 29 3 H H' w (l.take i) ys∧i≤l.length) 0 (.slice none 0 0) [] (⟨Ck H,Nat.zero_le _⟩) ay ?_);rintro i w ys H1 ⟨hG,hi⟩;obtain⟨W,cw,rfl⟩:=hG.form
 have pf:(l.take i).length=i:=by rw[List.length_take];omega
 refine af (ab 1 rfl (ae [3,6,7,8,9] ?_));refine aq (az rfl (fun hb=> ?_) (fun hb=> ?_))
 ·
  have lJ:i<l.length:=by simpa using hb
  obtain⟨q,hq⟩:∃q,l[i]? = some q:=⟨_,List.getElem?_eq_getElem lJ⟩;obtain⟨f1,A1,k1,c1,A2,k2,c2,im,Cl,dD⟩:=aH.qq hx hq;refine ax (aj [3,6,7,8] rfl ?_);refine aq (aD (af (cS (vs:=[.bool f1,.slice A1 k1 c1,.slice A2 k2 c2]) ag rfl rfl rfl rfl (hr.le hG.le) rfl (by decide) dD (by omega) (by omega) fun _=>(bD cZ rfl ?_))));obtain⟨ti,ak,al⟩:=bT;refine aM (.inl ⟨rfl,rfl⟩) rfl rfl rfl ak al rfl rfl rfl (ae [3,5,6,7,8] ?_);refine aF rfl (ab 2 rfl (au rfl rfl (hG.call (xd (Cl.le hG.base) hN)) ?_));rintro _ H2 RJ;have tJ:=hG.od gZ RJ fun _ _ h=>h.1;obtain⟨⟨_,bF⟩,_⟩:=RJ;obtain⟨f2,lz,RK,lA,A22,RL,c22,rfl⟩:=bF.form;refine cU Tryz.underlying26 cZ rfl rfl rfl rfl rfl rfl rfl ?_;intro gb bH;have qv:=tJ.ins gZ (whole (cz [.agg #[.bool f2,.slice lz RK lA,.slice A22 RL c22]]) 29) bH;refine dY Tryz.underlying26 cZ rfl rfl qv.own (eH _ _ _ _ _ _) rfl (KF _ _ _ _ _ _ _) (by rw[pf];omega) (by rw[pf];omega) ?_;intro v4 H4 K1;have lF:=qv.append gZ (k:=[q]) (by simp) K1 (iq (gZ _ _ _ _ (uY _ (Heap.a0 _ bH)) (show fy _ [_,_,_] _ from bF)) rfl);refine ab 1 rfl (aA (aj [3,6,7,8] rfl ?_));refine aF rfl (aO rfl rfl ⟨by omega,by omega⟩ ?_)
  refine ab 1 rfl (aA ?_);exact⟨i+1,_,_,by omega,ay,by rw[KJ hq];exact lF,by omega⟩
 ·
  have hb:l.length≤i:=by simpa using hb
  obtain rfl:i=l.length:=by omega
  rw[List.take_length]at hG;rw[List.take_length];refine bC (aj [3] rfl ?_);refine af (ab 2 rfl (ae [2] ?_));refine aw ⟨.inr rfl,_,.tmp rfl (.nil),?_⟩;exact⟨hG.le,_,_,rfl,(hG.sl gZ).Cj hz⟩
theorem ab2{H:Heap}{v ov:Value}{p:Prg}{os:List (List Rat)}{N:Nat}(hp:dE N H v p)(ho:mg N H ov os)(cI:os.length≤9223372036854775807):
 Fn Tryz.prog 100 #[v,ov] H (fun v' H'=>H'=H∧∃b,v' = .bool b∧(b=true↔∀o,o∈os→o.length=p.free.length)):=by
 obtain⟨fv,l7,rfl,eA,fa⟩:=id hp
 obtain⟨Af,cf,xf,rfl,kF,kG⟩:=eA.one
 obtain⟨Ar,cr,xr,rfl,iH,fQ,fA⟩:=id fa
 obtain⟨Ao,co,xo,rfl,lQ,je,tI⟩:=id ho;refine aW (args:=[_,_]) Tryz.func100 rfl rfl Tryz.ntmps100 rfl rfl fun w0=> ?_;refine aj [0,1] rfl ?_;refine af (bY rfl rfl (ab 1 rfl (ae [1,2] ?_)));refine aq (af (ab 3 rfl (ae [2,7,8,9] ?_)));refine aD (gj (fun(i:Nat)=>os.length-i) (fun(i:Nat)=>put (put (put (put (emp) 2 (.box [.slice Af p.free.length cf,.slice Ar p.rows.length cr])) 7 (.val (.slice Ao os.length co))) 8 (.val (.int .i64 (os.length:Int)))) 9 (.val (.int .i64 (i:Int)))) (fun(i:Nat) H'=>H'=H∧i≤os.length∧∀(j:Nat)(o:List Rat),j<i→os[j]? = some o→o.length=p.free.length) 0 (⟨rfl,Nat.zero_le _,fun j o h=>by omega⟩) ay ?_);rintro i H1 ⟨e1,hi,hn⟩;rw[e1];refine af (ab 1 rfl (ae [2,7,8,9,10] ?_));refine aq (az rfl (fun hb=> ?_) (fun hb=> ?_))
 ·
  have dX:i<os.length:=by simpa using hb
  obtain⟨o,pg⟩:∃o,os[i]? = some o:=⟨_,List.getElem?_eq_getElem dX⟩;obtain⟨B,cb,kK,wo⟩:=F5 tI pg;refine ax (aj [2,7,8,9] rfl ?_);refine aq (aD (af (a9 ag rfl rfl rfl rfl rfl (je) (by rw[Int.toNat_natCast];exact kK) (by omega) (by omega) fun _=> ?_)));refine ab 1 rfl (ae [2,6,7,8,9] ?_);refine af (ab 6 rfl (ae [2,7,8,9,18] ?_));refine az rfl (fun hb=> ?_) (fun hb=> ?_)
  ·
   have h2:¬o.length=p.free.length:=by simpa [Int.natCast_inj]using hb
   refine af (ab 1 rfl (ae [4] ?_));refine aw ⟨.inr rfl,_,.tmp rfl (.nil),?_⟩;exact⟨rfl,false,rfl,⟨(fun h=>by cases h),fun h=>absurd (h o (List.mem_of_getElem? pg)) h2⟩⟩
  ·
   have h2:o.length=p.free.length:=by simpa [Int.natCast_inj]using hb
   refine ax (aj [2,7,8,9] rfl ?_);refine aF rfl (aO rfl rfl ⟨by omega,by omega⟩ (ab 1 rfl (aA ?_)));exact⟨i+1,by omega,ay,rfl,by omega,fun j o9 hj K8=>by by_cases h9:j<i;exact hn j o9 h9 K8;(obtain rfl:j=i:=by omega);rw[pg]at K8;cases K8;exact h2⟩
 ·
  have hb:os.length≤i:=by simpa using hb
  refine bC (aj [] rfl ?_);refine af (ab 1 rfl (ae [4] ?_));refine aw ⟨.inr rfl,_,.tmp rfl (.nil),?_⟩;exact⟨rfl,true,rfl,⟨fun _ o h=>by obtain⟨j,hj⟩:=List.getElem?_of_mem h;exact hn j o (by have:=(List.getElem?_eq_some_iff.1 hj).1;omega) hj,fun _=>rfl⟩⟩
end Go.ar
