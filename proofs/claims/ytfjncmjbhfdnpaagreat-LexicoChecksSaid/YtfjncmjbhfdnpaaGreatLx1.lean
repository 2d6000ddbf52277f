/- Walks over package lexico, part 1: slices.Clone, slices.Index, slices.Contains at bool; canonical, vectors, extend, refusal. -/
import Derived.Test.YtfjncmjbhfdnpaaGreatA10
import Derived.Test.YtfjncmjbhfdnpaaGreatCat
import Derived.Test.YtfjncmjbhfdnpaaGreatLex
import Derived.Test.YtfjncmjbhfdnpaaGreatEng15
set_option linter.unusedVariables false
namespace Go.ay
open Go.Proofs Num Lp
def jC(N:Nat)(H:Heap)(vs:List Value)(l:List Rat):Prop:=∃A c,vs = [.slice A l.length c]∧aC (aS N) 3 H (.slice A l.length c) l
theorem fX(N:Nat):Up (jC N):=fun _ _ _ _ hl ⟨A,c,h1,h2⟩=>⟨A,c,h1,h2.le (a8 N) hl⟩
theorem UO(N:Nat):One (jC N):=fun _ vs l ⟨A,c,h1,_⟩ u hu=>by
 subst h1
 rw[List.mem_singleton]at hu;rw[hu];rfl
abbrev gB(N:Nat)(H:Heap)(v:Value)(ls:List (List Rat)):Prop:=aC (jC N) 1 H v ls
theorem nP{N:Nat}{H:Heap}{xs:List Value}{ls:List (List Rat)}(h:bI (jC N H) 1 xs ls){i:Nat}{l:List Rat}(hi:ls[i]? = some l):∃A c,xs[i]? = some (.slice A l.length c)∧aC (aS N) 3 H (.slice A l.length c) l:=by
 obtain⟨v,h1,A,c,h2,h3⟩:=h.one hi
 simp only[List.cons.injEq,and_true]at h2
 subst h2
 exact⟨A,c,h1,h3⟩
theorem ae7{α:Type}{P:Heap→List Value→α→Prop}{e sz:Nat}{H:Heap}{g:Nat}(hg:H g=none):eA P e sz H (ins H g (whole [] e)) (.slice (some ⟨g,0,none⟩) 0 0) [] []:=by
 refine⟨⟨by simp,.inr ⟨g,0,rfl,by rw[bT];simp[whole],Nat.le_refl _,Nat.zero_le _⟩⟩,tS,?_⟩
 show Heap.le H (rem _ [g])
 rw[se _ hg,gn];exact .refl _
theorem Vo{H:Heap}{v:Value}{l:List Bool}(h:aC pz 1 H v l)(hl:l.length≤1000000):
 Fn Tryz.prog 145 #[v] H (fun v' H'=>Heap.le H H'∧aC pz 1 H' v' l):=by
 obtain⟨A,c,xs,rfl,hc,hr,hx⟩:=id h;refine aU (args:=[_]) Tryz.func145 rfl rfl Tryz.ntmps145 rfl rfl fun w0=> ?_;refine ag [0] rfl ?_;refine ae ?_;refine vr 1 ?_;refine ab [0] ?_;refine al ?_;refine ae ?_;refine vr 1 ?_;refine aeo Tryz.underlying22 rfl rfl ?_;refine ab [0,4] ?_;refine az rfl (fun hb=> ?_) (fun hb=> ?_)
 ·
  have hA:A=none:=by simpa using hb
  have Io:l = []:=by
   cases aI:l with
   | nil=>rfl
   | cons a k=>
    rw[aI]at hx;obtain⟨u,hu,_⟩:=hx.one (i:=0) (a:=a) rfl;obtain⟨ad,h9,_⟩:=hr 0 u hu;rw[hA]at h9;cases h9
  refine ae ?_;refine vr 1 ?_;refine ab [2] ?_;refine aq ⟨.inr rfl,_,.tmp rfl (.nil),?_⟩;exact⟨.refl _,by rw[Io];exact jB⟩
 ·
  skip
  refine aw ?_;refine ag [0] rfl ?_;refine ae ?_;refine aep Tryz.underlying22 C1 ?_;intro g hg;have hG:=ae7 (P:=pz) (e:=4) (sz:=1) hg;refine vr 1 ?_;refine Uj qt Uh (by decide) Tryz.underlying22 C1 rfl rfl hG (h.le qt hG.base) (by rw[List.length_nil];omega) (by rw[List.length_nil];omega) ?_;intro v2 H2 y2 zv _;rw[List.nil_append]at zv;refine vr 1 ?_;refine ab [2] ?_;refine aq ⟨.inr rfl,_,.tmp rfl (.nil),?_⟩;exact⟨zv.le,zv.sl qt⟩
theorem ae8{H:Heap}{v:Value}{l:List Bool}(h:aC pz 1 H v l)(hl:l.length≤1000000):
 Fn Tryz.prog 152 #[v,.bool true] H (fun v' H'=>H'=H∧∃z:Int,v' = .int .i64 z∧(0≤z↔∃j:Nat,l[j]? = some true)):=by
 obtain⟨A,c,xs,rfl,hc,hr,hx⟩:=id h;refine aU (args:=[_,_]) Tryz.func152 rfl rfl Tryz.ntmps152 rfl rfl fun w0=> ?_;refine ag [0,1] rfl ?_;refine ae ?_;refine vr 1 ?_;refine ab [0,1] ?_;refine al ?_;refine ae ?_;refine vr 3 ?_;refine ab [0,1,7,8] ?_;refine aD ?_;refine ft (fun(i:Nat)=>l.length-i) (fun(i:Nat)=>put (put (put (put (emp) 0 (.val (.slice A l.length c))) 1 (.val (.bool true))) 7 (.val (.int .i64 (l.length:Int)))) 8 (.val (.int .i64 (i:Int)))) (fun(i:Nat) H'=>H'=H∧i≤l.length∧∀j,j<i→l[j]?≠some true) 0 (⟨rfl,Nat.zero_le _,fun j h=>by omega⟩) au ?_;rintro i H1 ⟨e1,hi,hn⟩;rw[e1];refine ae ?_;refine vr 1 ?_;refine ab [0,1,7,8,9] ?_;refine al ?_;refine az rfl (fun hb=> ?_) (fun hb=> ?_)
 ·
  have cQ:i<l.length:=by simpa using hb
  obtain⟨b,aW⟩:∃b,l[i]? = some b:=⟨_,List.getElem?_eq_getElem cQ⟩;obtain⟨u,hu,s8⟩:=hx.one aW;have s8: [u] = [.bool b]:=s8
  simp only[List.cons.injEq,and_true]at s8
  subst s8;refine aw ?_;refine ag [0,1,7,8] rfl ?_;refine al ?_;refine aD ?_;refine ae ?_;refine vr 2 ?_;refine ab [0,1,5,7,8] ?_;refine ae ?_;refine vr 3 ?_;refine a6 af rfl rfl rfl rfl rfl (hr) (by rw[Int.toNat_natCast];exact hu) (by omega) (by omega) fun _=> ?_;refine CN Tryz.underlying4 rfl rfl ?_;refine ab [0,1,5,7,8,16] ?_;refine az rfl (fun hb=> ?_) (fun hb=> ?_)
  ·
   have jK:b=true:=by simpa using hb
   refine ae ?_;refine vr 2 ?_;refine ab [4] ?_;refine aq ⟨.inr rfl,_,.tmp rfl (.nil),?_⟩;exact⟨rfl,_,rfl,⟨fun _=>⟨i,by rw[aW,jK]⟩,fun _=>by omega⟩⟩
  ·
   have gV:b=false:=by simpa using hb
   refine aw ?_;refine ag [0,1,7,8] rfl ?_;refine aE rfl ?_;refine aN rfl rfl ⟨by omega,by omega⟩ ?_;refine vr 1 ?_;refine aA ?_;exact⟨i+1,by omega,au,rfl,by omega,fun j hj=>by by_cases h9:j<i;exact hn j h9;(obtain rfl:j=i:=by omega);rw[aW,gV];simp⟩
 ·
  have hb:l.length≤i:=by simpa using hb
  refine bB ?_;refine ag [] rfl ?_;refine ae ?_;refine vr 1 ?_;refine ab [4] ?_;refine aq ⟨.inr rfl,_,.tmp rfl (.nil),?_⟩;exact⟨rfl,_,rfl,⟨fun h=>by omega,fun⟨j,hj⟩=>absurd hj (hn j (by have:=(List.getElem?_eq_some_iff.1 hj).1;omega))⟩⟩
theorem ae9{H:Heap}{v:Value}{l:List Bool}(h:aC pz 1 H v l)(hl:l.length≤1000000):
 Fn Tryz.prog 83 #[v,.bool true] H (fun v' H'=>H'=H∧∃b,v' = .bool b∧(b=true↔∃j:Nat,l[j]? = some true)):=by
 obtain⟨A,c,xs,rfl,hc,hr,hx⟩:=id h;refine aU (args:=[_,_]) Tryz.func83 rfl rfl Tryz.ntmps83 rfl rfl fun w0=> ?_;refine ag [0,1] rfl ?_;refine ae ?_;refine vr 1 ?_;refine ab [0,1] ?_;refine ae ?_;refine vr 2 ?_;refine ar rfl rfl (ae8 h hl) ?_;rintro _ H1 ⟨e1,z,rfl,hz⟩;rw[e1];refine vr 2 ?_;refine ab [4] ?_;refine aq ⟨.inr rfl,_,.tmp rfl (.nil),?_⟩;exact⟨rfl,_,rfl,by rw[←hz];simp⟩
theorem Vp{H:Heap}{v:Value}{l:List Rat}{N:Nat}(h:aC (aS N) 3 H v l)(hl:l.length≤1000)(hN:(N:Int)≤1099511627776):
 Fn Tryz.prog 146 #[v] H (fun v' H'=>Heap.le H H'∧∃A c,v' = .slice A l.length c∧aC (aS (N+2)) 3 H' v' l):=by
 have hz:=h.ec
 obtain⟨A,c,xs,rfl,hc,hr,hx⟩:=id h;refine aU (args:=[_]) Tryz.func146 rfl rfl Tryz.ntmps146 rfl rfl fun w0=> ?_;refine ag [0] rfl ?_;refine ae ?_;refine vr 1 ?_;refine ab [0] ?_;refine ae ?_;refine vr 1 ?_;refine ab [0,3] ?_;refine al ?_;refine ae ?_;refine vr 3 ?_;refine ab [3,6,7,8] ?_;refine aD ?_;refine jv (fun(i:Nat)(w:Value)(ys:List Value)=>l.length-i) (fun(i:Nat)(w:Value)(ys:List Value)=>put (put (put (put (emp) 3 (.val (w))) 6 (.val (.slice A l.length c))) 7 (.val (.int .i64 (l.length:Int)))) 8 (.val (.int .i64 (i:Int)))) (fun(i:Nat)(w:Value)(ys:List Value) H'=>eA gI 31 3 H H' w (l.take i) ys∧i≤l.length) 0 (.slice none 0 0) [] (⟨Cb H,Nat.zero_le _⟩) au ?_;rintro i w ys H1 ⟨hG,hi⟩;obtain⟨W,cw,rfl⟩:=hG.form
 have kH:(l.take i).length=i:=by rw[List.length_take];omega
 refine ae ?_;refine vr 1 ?_;refine ab [3,6,7,8,9] ?_;refine al ?_;refine az rfl (fun hb=> ?_) (fun hb=> ?_)
 ·
  have mx:i<l.length:=by simpa using hb
  obtain⟨q,hq⟩:∃q,l[i]? = some q:=⟨_,List.getElem?_eq_getElem mx⟩;obtain⟨f1,A1,k1,c1,A2,k2,c2,fw,FY,ee⟩:=aC.jP hx hq;refine aw ?_;refine ag [3,6,7,8] rfl ?_;refine al ?_;refine aD ?_;refine ae ?_;refine cI (vs:=[.bool f1,.slice A1 k1 c1,.slice A2 k2 c2]) af rfl rfl rfl rfl (hr.le hG.le) rfl (by decide) ee (by omega) (by omega) fun _=> ?_;refine bh cM rfl ?_;obtain⟨ti,aj,ak⟩:=bM;refine aG (.inl ⟨rfl,rfl⟩) rfl rfl rfl aj ak rfl rfl rfl ?_;refine ab [3,5,6,7,8] ?_;refine aE rfl ?_;refine vr 2 ?_;refine ar rfl rfl (hG.call (AE (FY.le hG.base) hN)) ?_;rintro _ H2 FZ;have zv:=hG.mm ix FZ fun _ _ h=>h.1;obtain⟨⟨_,bK⟩,_⟩:=FZ;obtain⟨f2,mf,JC,mg,Od,JD,Oe,rfl⟩:=bK.form;refine dM Tryz.underlying26 cM rfl rfl rfl rfl rfl rfl rfl ?_;intro gb bW;have uS:=zv.ins ix (whole (cT [.agg #[.bool f2,.slice mf JC mg,.slice Od JD Oe]]) 31) bW;refine eW Tryz.underlying26 cM rfl rfl uS.own (fu _ _ _ _ _ _) rfl (B7 _ _ _ _ _ _ _) (by rw[kH];omega) (by rw[kH];omega) ?_;intro v4 H4 Of;have tg:=uS.append ix (k:=[q]) (by simp) Of (jn (ix _ _ _ _ (r8 _ (Heap.bC _ bW)) (show gI _ [_,_,_] _ from bK)) rfl);refine vr 1 ?_;refine aA ?_;refine ag [3,6,7,8] rfl ?_;refine aE rfl ?_;refine aN rfl rfl ⟨by omega,by omega⟩ ?_
  refine vr 1 ?_;refine aA ?_;exact⟨i+1,_,_,by omega,au,by rw[Cc hq];exact tg,by omega⟩
 ·
  have hb:l.length≤i:=by simpa using hb
  obtain rfl:i=l.length:=by omega
  rw[List.take_length]at hG;rw[List.take_length];refine bB ?_;refine ag [3] rfl ?_;refine ae ?_;refine vr 2 ?_;refine ab [2] ?_;refine aq ⟨.inr rfl,_,.tmp rfl (.nil),?_⟩;exact⟨hG.le,_,_,rfl,(hG.sl ix).B8 hz⟩
theorem afa{H:Heap}{v ov:Value}{p:Prg}{os:List (List Rat)}{N:Nat}(hp:cN N H v p)(ho:gB N H ov os)(cH:os.length≤9223372036854775807):
 Fn Tryz.prog 144 #[v,ov] H (fun v' H'=>H'=H∧∃b,v' = .bool b∧(b=true↔∀o,o∈os→o.length=p.free.length)):=by
 obtain⟨fv,fG,rfl,cB,cF⟩:=id hp
 obtain⟨Af,cf,xf,rfl,ea,eH⟩:=cB.one
 obtain⟨Ar,cr,xr,rfl,fO,cL,du⟩:=id cF
 obtain⟨Ao,co,xo,rfl,jl,fI,jQ⟩:=id ho;refine aU (args:=[_,_]) Tryz.func144 rfl rfl Tryz.ntmps144 rfl rfl fun w0=> ?_;refine ag [0,1] rfl ?_;refine ae ?_;refine bF rfl rfl ?_;refine vr 1 ?_;refine ab [1,2] ?_;refine al ?_;refine ae ?_;refine vr 3 ?_;refine ab [2,7,8,9] ?_;refine aD ?_;refine ft (fun(i:Nat)=>os.length-i) (fun(i:Nat)=>put (put (put (put (emp) 2 (.box [.slice Af p.free.length cf,.slice Ar p.rows.length cr])) 7 (.val (.slice Ao os.length co))) 8 (.val (.int .i64 (os.length:Int)))) 9 (.val (.int .i64 (i:Int)))) (fun(i:Nat) H'=>H'=H∧i≤os.length∧∀(j:Nat)(o:List Rat),j<i→os[j]? = some o→o.length=p.free.length) 0 (⟨rfl,Nat.zero_le _,fun j o h=>by omega⟩) au ?_;rintro i H1 ⟨e1,hi,hn⟩;rw[e1];refine ae ?_;refine vr 1 ?_;refine ab [2,7,8,9,10] ?_;refine al ?_;refine az rfl (fun hb=> ?_) (fun hb=> ?_)
 ·
  have cQ:i<os.length:=by simpa using hb
  obtain⟨o,eR⟩:∃o,os[i]? = some o:=⟨_,List.getElem?_eq_getElem cQ⟩;obtain⟨B,cb,gN,tm⟩:=nP jQ eR;refine aw ?_;refine ag [2,7,8,9] rfl ?_;refine al ?_;refine aD ?_;refine ae ?_;refine a6 af rfl rfl rfl rfl rfl (fI) (by rw[Int.toNat_natCast];exact gN) (by omega) (by omega) fun _=> ?_;refine vr 1 ?_;refine ab [2,6,7,8,9] ?_;refine ae ?_;refine vr 6 ?_;refine ab [2,7,8,9,18] ?_;refine az rfl (fun hb=> ?_) (fun hb=> ?_)
  ·
   have h2:¬o.length=p.free.length:=by simpa [Int.natCast_inj]using hb
   refine ae ?_;refine vr 1 ?_;refine ab [4] ?_;refine aq ⟨.inr rfl,_,.tmp rfl (.nil),?_⟩;exact⟨rfl,false,rfl,⟨(fun h=>by cases h),fun h=>absurd (h o (List.mem_of_getElem? eR)) h2⟩⟩
  ·
   have h2:o.length=p.free.length:=by simpa [Int.natCast_inj]using hb
   refine aw ?_;refine ag [2,7,8,9] rfl ?_;refine aE rfl ?_;refine aN rfl rfl ⟨by omega,by omega⟩ ?_;refine vr 1 ?_;refine aA ?_;exact⟨i+1,by omega,au,rfl,by omega,fun j o9 hj zt=>by by_cases h9:j<i;exact hn j o9 h9 zt;(obtain rfl:j=i:=by omega);rw[eR]at zt;cases zt;exact h2⟩
 ·
  have hb:os.length≤i:=by simpa using hb
  refine bB ?_;refine ag [] rfl ?_;refine ae ?_;refine vr 1 ?_;refine ab [4] ?_;refine aq ⟨.inr rfl,_,.tmp rfl (.nil),?_⟩;exact⟨rfl,true,rfl,⟨fun _ o h=>by obtain⟨j,hj⟩:=List.getElem?_of_mem h;exact hn j o (by have:=(List.getElem?_eq_some_iff.1 hj).1;omega) hj,fun _=>rfl⟩⟩
end Go.ay
