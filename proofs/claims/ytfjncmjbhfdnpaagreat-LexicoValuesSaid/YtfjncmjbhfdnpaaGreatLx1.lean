/- Walks over package lexico, part 1: slices.Clone, slices.Index, slices.Contains at bool; canonical, vectors, extend, refusal. -/
import Derived.Test.YtfjncmjbhfdnpaaGreatA14
import Derived.Test.YtfjncmjbhfdnpaaGreatLex
set_option linter.unusedVariables false
namespace Go.aw
open Go.Proofs Num Lp
def rF(N:Nat)(H:Heap)(vs:List Value)(l:List Rat):Prop:=∃A c,vs = [.slice A l.length c]∧aR (bR N) 3 H (.slice A l.length c) l
theorem nV(N:Nat):Up (rF N):=fun _ _ _ _ hl ⟨A,c,h1,h2⟩=>⟨A,c,h1,h2.le (dz N) hl⟩
theorem alJ(N:Nat):One (rF N):=fun _ vs l ⟨A,c,h1,_⟩ u hu=>by
 subst h1
 rw[List.mem_singleton]at hu;rw[hu];rfl
abbrev jw(N:Nat)(H:Heap)(v:Value)(ls:List (List Rat)):Prop:=aR (rF N) 1 H v ls
theorem Ak{N:Nat}{H:Heap}{xs:List Value}{ls:List (List Rat)}(h:bE (rF N H) 1 xs ls){i:Nat}{l:List Rat}(hi:ls[i]? = some l):∃A c,xs[i]? = some (.slice A l.length c)∧aR (bR N) 3 H (.slice A l.length c) l:=by
 obtain⟨v,h1,A,c,h2,h3⟩:=h.one hi
 simp only[List.cons.injEq,and_true]at h2
 subst h2
 exact⟨A,c,h1,h3⟩
theorem alK{α:Type}{P:Heap→List Value→α→Prop}{e sz:Nat}{H:Heap}{g:Nat}(hg:H g=none):ed P e sz H (ins H g (whole [] e)) (.slice (some ⟨g,0,none⟩) 0 0) [] []:=by
 refine⟨⟨by simp,.inr ⟨g,0,rfl,by rw[bF];simp[whole],Nat.le_refl _,Nat.zero_le _⟩⟩,vo,?_⟩
 show Heap.le H (rem _ [g])
 rw[tA _ hg,tz];exact .refl _
theorem abP{H:Heap}{v:Value}{l:List Bool}(h:aR ql 1 H v l)(hl:l.length≤1000000):
 Fn Tryz.prog 145 #[v] H (fun v' H'=>Heap.le H H'∧aR ql 1 H' v' l):=by
 obtain⟨A,c,xs,rfl,hc,hr,hx⟩:=id h;refine aZ (args:=[_]) Tryz.func145 rfl rfl Tryz.ntmps145 rfl rfl fun w0=> ?_;refine aj [0] rfl ?_;refine ag (ab 1 rfl (ae [0] ?_));refine aq (ag (ab 1 rfl (ai5 Tryz.underlying22 rfl rfl (ae [0,4] ?_))));refine aD rfl (fun hb=> ?_) (fun hb=> ?_)
 ·
  have hA:A=none:=by simpa using hb
  have BZ:l = []:=by
   cases cH:l with
   | nil=>rfl
   | cons a k=>
    rw[cH]at hx;obtain⟨u,hu,_⟩:=hx.one (i:=0) (a:=a) rfl;obtain⟨ad,h9,_⟩:=hr 0 u hu;rw[hA]at h9;cases h9
  refine ag (ab 1 rfl (ae [2] ?_));refine aE ⟨.inr rfl,_,.tmp rfl (.nil),?_⟩;exact⟨.refl _,by rw[BZ];exact nQ⟩
 ·
  skip
  refine aA (aj [0] rfl ?_);refine ag (ai6 Tryz.underlying22 Gb ?_);intro g hg;have hG:=alK (P:=ql) (e:=4) (sz:=1) hg;refine ab 1 rfl (ai4 sK aac (by decide) Tryz.underlying22 Gb rfl rfl hG (h.le sK hG.base) (by rw[List.length_nil];omega) (by rw[List.length_nil];omega) ?_);intro v2 H2 y2 wb _;rw[List.nil_append]at wb;refine ab 1 rfl (ae [2] ?_);refine aE ⟨.inr rfl,_,.tmp rfl (.nil),?_⟩;exact⟨wb.le,wb.sl sK⟩
theorem alL{H:Heap}{v:Value}{l:List Bool}(h:aR ql 1 H v l)(hl:l.length≤1000000):
 Fn Tryz.prog 152 #[v,.bool true] H (fun v' H'=>H'=H∧∃z:Int,v' = .int .i64 z∧(0≤z↔∃j:Nat,l[j]? = some true)):=by
 obtain⟨A,c,xs,rfl,hc,hr,hx⟩:=id h;refine aZ (args:=[_,_]) Tryz.func152 rfl rfl Tryz.ntmps152 rfl rfl fun w0=> ?_;refine aj [0,1] rfl ?_;refine ag (ab 1 rfl (ae [0,1] ?_));refine aq (ag (ab 3 rfl (ae [0,1,7,8] ?_)));refine aG (gK (fun(i:Nat)=>l.length-i) (fun(i:Nat)=>put (put (put (put (emp) 0 (.val (.slice A l.length c))) 1 (.val (.bool true))) 7 (.val (.int .i64 (l.length:Int)))) 8 (.val (.int .i64 (i:Int)))) (fun(i:Nat) H'=>H'=H∧i≤l.length∧∀j,j<i→l[j]?≠some true) 0 (⟨rfl,Nat.zero_le _,fun j h=>by omega⟩) au ?_);rintro i H1 ⟨e1,hi,hn⟩;rw[e1];refine ag (ab 1 rfl (ae [0,1,7,8,9] ?_));refine aq (aD rfl (fun hb=> ?_) (fun hb=> ?_))
 ·
  have aU:i<l.length:=by simpa using hb
  obtain⟨b,bU⟩:∃b,l[i]? = some b:=⟨_,List.getElem?_eq_getElem aU⟩;obtain⟨u,hu,N6⟩:=hx.one bU;have N6: [u] = [.bool b]:=N6
  simp only[List.cons.injEq,and_true]at N6
  subst N6;refine aA (aj [0,1,7,8] rfl ?_);refine aq (aG (ag (ab 2 rfl (ae [0,1,5,7,8] ?_))));refine ag (ab 3 rfl (aS ah rfl rfl rfl rfl rfl (hr) (by rw[Int.toNat_natCast];exact hu) (by omega) (by omega) fun _=> ?_));refine OC Tryz.underlying4 rfl rfl (ae [0,1,5,7,8,16] ?_);refine aD rfl (fun hb=> ?_) (fun hb=> ?_)
  ·
   have qd:b=true:=by simpa using hb
   refine ag (ab 2 rfl (ae [4] ?_));refine aE ⟨.inr rfl,_,.tmp rfl (.nil),?_⟩;exact⟨rfl,_,rfl,⟨fun _=>⟨i,by rw[bU,qd]⟩,fun _=>by omega⟩⟩
  ·
   have pO:b=false:=by simpa using hb
   refine aA (aj [0,1,7,8] rfl ?_);refine aC rfl (aH rfl rfl ⟨by omega,by omega⟩ (ab 1 rfl (az ?_)));exact⟨i+1,by omega,au,rfl,by omega,fun j hj=>by by_cases h9:j<i;exact hn j h9;(obtain rfl:j=i:=by omega);rw[bU,pO];simp⟩
 ·
  have hb:l.length≤i:=by simpa using hb
  refine aW (aj [] rfl ?_);refine ag (ab 1 rfl (ae [4] ?_));refine aE ⟨.inr rfl,_,.tmp rfl (.nil),?_⟩;exact⟨rfl,_,rfl,⟨fun h=>by omega,fun⟨j,hj⟩=>absurd hj (hn j (by have:=(List.getElem?_eq_some_iff.1 hj).1;omega))⟩⟩
theorem alM{H:Heap}{v:Value}{l:List Bool}(h:aR ql 1 H v l)(hl:l.length≤1000000):
 Fn Tryz.prog 83 #[v,.bool true] H (fun v' H'=>H'=H∧∃b,v' = .bool b∧(b=true↔∃j:Nat,l[j]? = some true)):=by
 obtain⟨A,c,xs,rfl,hc,hr,hx⟩:=id h;refine aZ (args:=[_,_]) Tryz.func83 rfl rfl Tryz.ntmps83 rfl rfl fun w0=> ?_;refine aj [0,1] rfl ?_;refine ag (ab 1 rfl (ae [0,1] ?_));refine ag (ab 2 rfl (aF rfl rfl (alL h hl) ?_));rintro _ H1 ⟨e1,z,rfl,hz⟩;rw[e1];refine ab 2 rfl (ae [4] ?_);refine aE ⟨.inr rfl,_,.tmp rfl (.nil),?_⟩;exact⟨rfl,_,rfl,by rw[←hz];simp⟩
theorem abQ{H:Heap}{v:Value}{l:List Rat}{N:Nat}(h:aR (bR N) 3 H v l)(hl:l.length≤1000)(hN:(N:Int)≤1099511627776):
 Fn Tryz.prog 146 #[v] H (fun v' H'=>Heap.le H H'∧∃A c,v' = .slice A l.length c∧aR (bR (N+2)) 3 H' v' l):=by
 have hz:=h.I1
 obtain⟨A,c,xs,rfl,hc,hr,hx⟩:=id h;refine aZ (args:=[_]) Tryz.func146 rfl rfl Tryz.ntmps146 rfl rfl fun w0=> ?_;refine aj [0] rfl ?_;refine ag (ab 1 rfl (ae [0] ?_));refine ag (ab 1 rfl (ae [0,3] ?_));refine aq (ag (ab 3 rfl (ae [3,6,7,8] ?_)));refine aG (fG (fun(i:Nat)(w:Value)(ys:List Value)=>l.length-i) (fun(i:Nat)(w:Value)(ys:List Value)=>put (put (put (put (emp) 3 (.val (w))) 6 (.val (.slice A l.length c))) 7 (.val (.int .i64 (l.length:Int)))) 8 (.val (.int .i64 (i:Int)))) (fun(i:Nat)(w:Value)(ys:List Value) H'=>ed bX 31 3 H H' w (l.take i) ys∧i≤l.length) 0 (.slice none 0 0) [] (⟨EX H,Nat.zero_le _⟩) au ?_);rintro i w ys H1 ⟨hG,hi⟩;obtain⟨W,cw,rfl⟩:=hG.form
 have gm:(l.take i).length=i:=by rw[List.length_take];omega
 refine ag (ab 1 rfl (ae [3,6,7,8,9] ?_));refine aq (aD rfl (fun hb=> ?_) (fun hb=> ?_))
 ·
  have lZ:i<l.length:=by simpa using hb
  obtain⟨q,hq⟩:∃q,l[i]? = some q:=⟨_,List.getElem?_eq_getElem lZ⟩;obtain⟨f1,A1,k1,c1,A2,k2,c2,lE,J3,eP⟩:=aR.pI hx hq;refine aA (aj [3,6,7,8] rfl ?_);refine aq (aG (ag (ck (vs:=[.bool f1,.slice A1 k1 c1,.slice A2 k2 c2]) ah rfl rfl rfl rfl (hr.le hG.le) rfl (by decide) eP (by omega) (by omega) fun _=>(bn bZ rfl ?_))));obtain⟨ti,ak,al⟩:=a6;refine aI (.inl ⟨rfl,rfl⟩) rfl rfl rfl ak al rfl rfl rfl (ae [3,5,6,7,8] ?_);refine aC rfl (ab 2 rfl (aF rfl rfl (hG.call (DG (J3.le hG.base) hN)) ?_));rintro _ H2 uB;have wb:=hG.jK dL uB fun _ _ h=>h.1;obtain⟨⟨_,bO⟩,_⟩:=uB;obtain⟨f2,nM,N4,nN,UB,N5,UC,rfl⟩:=bO.form;refine cR Tryz.underlying26 bZ rfl rfl rfl rfl rfl rfl rfl ?_;intro gb bo;have qy:=wb.ins dL (whole (cF [.agg #[.bool f2,.slice nM N4 nN,.slice UB N5 UC]]) 31) bo;refine dK Tryz.underlying26 bZ rfl rfl qy.own (dE _ _ _ _ _ _) rfl (zM _ _ _ _ _ _ _) (by rw[gm];omega) (by rw[gm];omega) ?_;intro v4 H4 UD;have rG:=qy.append dL (k:=[q]) (by simp) UD (iE (dL _ _ _ _ (og _ (Heap.bC _ bo)) (show bX _ [_,_,_] _ from bO)) rfl);refine ab 1 rfl (az (aj [3,6,7,8] rfl ?_));refine aC rfl (aH rfl rfl ⟨by omega,by omega⟩ ?_)
  refine ab 1 rfl (az ?_);exact⟨i+1,_,_,by omega,au,by rw[EZ hq];exact rG,by omega⟩
 ·
  have hb:l.length≤i:=by simpa using hb
  obtain rfl:i=l.length:=by omega
  rw[List.take_length]at hG;rw[List.take_length];refine aW (aj [3] rfl ?_);refine ag (ab 2 rfl (ae [2] ?_));refine aE ⟨.inr rfl,_,.tmp rfl (.nil),?_⟩;exact⟨hG.le,_,_,rfl,(hG.sl dL).xL hz⟩
theorem alN{H:Heap}{v ov:Value}{p:Prg}{os:List (List Rat)}{N:Nat}(hp:ea N H v p)(ho:jw N H ov os)(cT:os.length≤9223372036854775807):
 Fn Tryz.prog 144 #[v,ov] H (fun v' H'=>H'=H∧∃b,v' = .bool b∧(b=true↔∀o,o∈os→o.length=p.free.length)):=by
 obtain⟨fv,fL,rfl,dO,eo⟩:=id hp
 obtain⟨Af,cf,xf,rfl,iv,gS⟩:=dO.one
 obtain⟨Ar,cr,xr,rfl,iM,eJ,gE⟩:=id eo
 obtain⟨Ao,co,xo,rfl,lk,kK,nU⟩:=id ho;refine aZ (args:=[_,_]) Tryz.func144 rfl rfl Tryz.ntmps144 rfl rfl fun w0=> ?_;refine aj [0,1] rfl ?_;refine ag (bW rfl rfl (ab 1 rfl (ae [1,2] ?_)));refine aq (ag (ab 3 rfl (ae [2,7,8,9] ?_)));refine aG (gK (fun(i:Nat)=>os.length-i) (fun(i:Nat)=>put (put (put (put (emp) 2 (.box [.slice Af p.free.length cf,.slice Ar p.rows.length cr])) 7 (.val (.slice Ao os.length co))) 8 (.val (.int .i64 (os.length:Int)))) 9 (.val (.int .i64 (i:Int)))) (fun(i:Nat) H'=>H'=H∧i≤os.length∧∀(j:Nat)(o:List Rat),j<i→os[j]? = some o→o.length=p.free.length) 0 (⟨rfl,Nat.zero_le _,fun j o h=>by omega⟩) au ?_);rintro i H1 ⟨e1,hi,hn⟩;rw[e1];refine ag (ab 1 rfl (ae [2,7,8,9,10] ?_));refine aq (aD rfl (fun hb=> ?_) (fun hb=> ?_))
 ·
  have aU:i<os.length:=by simpa using hb
  obtain⟨o,jx⟩:∃o,os[i]? = some o:=⟨_,List.getElem?_eq_getElem aU⟩;obtain⟨B,cb,kT,Az⟩:=Ak nU jx;refine aA (aj [2,7,8,9] rfl ?_);refine aq (aG (ag (aS ah rfl rfl rfl rfl rfl (kK) (by rw[Int.toNat_natCast];exact kT) (by omega) (by omega) fun _=> ?_)));refine ab 1 rfl (ae [2,6,7,8,9] ?_);refine ag (ab 6 rfl (ae [2,7,8,9,18] ?_));refine aD rfl (fun hb=> ?_) (fun hb=> ?_)
  ·
   have h2:¬o.length=p.free.length:=by simpa [Int.natCast_inj]using hb
   refine ag (ab 1 rfl (ae [4] ?_));refine aE ⟨.inr rfl,_,.tmp rfl (.nil),?_⟩;exact⟨rfl,false,rfl,⟨(fun h=>by cases h),fun h=>absurd (h o (List.mem_of_getElem? jx)) h2⟩⟩
  ·
   have h2:o.length=p.free.length:=by simpa [Int.natCast_inj]using hb
   refine aA (aj [2,7,8,9] rfl ?_);refine aC rfl (aH rfl rfl ⟨by omega,by omega⟩ (ab 1 rfl (az ?_)));exact⟨i+1,by omega,au,rfl,by omega,fun j o9 hj C1=>by by_cases h9:j<i;exact hn j o9 h9 C1;(obtain rfl:j=i:=by omega);rw[jx]at C1;cases C1;exact h2⟩
 ·
  have hb:os.length≤i:=by simpa using hb
  refine aW (aj [] rfl ?_);refine ag (ab 1 rfl (ae [4] ?_));refine aE ⟨.inr rfl,_,.tmp rfl (.nil),?_⟩;exact⟨rfl,true,rfl,⟨fun _ o h=>by obtain⟨j,hj⟩:=List.getElem?_of_mem h;exact hn j o (by have:=(List.getElem?_eq_some_iff.1 hj).1;omega) hj,fun _=>rfl⟩⟩
end Go.aw
