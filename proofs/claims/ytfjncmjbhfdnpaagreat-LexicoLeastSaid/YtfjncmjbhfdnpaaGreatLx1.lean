/- Walks over package lexico, part 1: slices.Clone, slices.Index, slices.Contains at bool; canonical, vectors, extend, refusal. -/
import Derived.Test.YtfjncmjbhfdnpaaGreatA14
import Derived.Test.YtfjncmjbhfdnpaaGreatLex
set_option linter.unusedVariables false
namespace Go.au
open Go.Proofs Num Lp
def sV(N:Nat)(H:Heap)(vs:List Value)(l:List Rat):Prop:=∃A c,vs = [.slice A l.length c]∧aR (bN N) 3 H (.slice A l.length c) l
theorem rj(N:Nat):Up (sV N):=fun _ _ _ _ hl ⟨A,c,h1,h2⟩=>⟨A,c,h1,h2.le (dI N) hl⟩
theorem alM(N:Nat):One (sV N):=fun _ vs l ⟨A,c,h1,_⟩ u hu=>by
 subst h1
 rw[List.mem_singleton]at hu;rw[hu];rfl
abbrev qh(N:Nat)(H:Heap)(v:Value)(ls:List (List Rat)):Prop:=aR (sV N) 1 H v ls
theorem N7{N:Nat}{H:Heap}{xs:List Value}{ls:List (List Rat)}(h:bC (sV N H) 1 xs ls){i:Nat}{l:List Rat}(hi:ls[i]? = some l):∃A c,xs[i]? = some (.slice A l.length c)∧aR (bN N) 3 H (.slice A l.length c) l:=by
 obtain⟨v,h1,A,c,h2,h3⟩:=h.one hi
 simp only[List.cons.injEq,and_true]at h2
 subst h2
 exact⟨A,c,h1,h3⟩
theorem alN{α:Type}{P:Heap→List Value→α→Prop}{e sz:Nat}{H:Heap}{g:Nat}(hg:H g=none):ea P e sz H (ins H g (whole [] e)) (.slice (some ⟨g,0,none⟩) 0 0) [] []:=by
 refine⟨⟨by simp,.inr ⟨g,0,rfl,by rw[bD];simp[whole],Nat.le_refl _,Nat.zero_le _⟩⟩,u6,?_⟩
 show Heap.le H (rem _ [g])
 rw[rN _ hg,tt];exact .refl _
theorem abQ{H:Heap}{v:Value}{l:List Bool}(h:aR qO 1 H v l)(hl:l.length≤1000000):
 Fn Tryz.prog 145 #[v] H (fun v' H'=>Heap.le H H'∧aR qO 1 H' v' l):=by
 obtain⟨A,c,xs,rfl,hc,hr,hx⟩:=id h;refine a7 (args:=[_]) Tryz.func145 rfl rfl Tryz.ntmps145 rfl rfl fun w0=> ?_;refine aj [0] rfl ?_;refine ag (ab 1 rfl (ae [0] ?_));refine ao (ag (ab 1 rfl (ai8 Tryz.underlying22 rfl rfl (ae [0,4] ?_))));refine aC rfl (fun hb=> ?_) (fun hb=> ?_)
 ·
  have hA:A=none:=by simpa using hb
  have BQ:l = []:=by
   cases cH:l with
   | nil=>rfl
   | cons a k=>
    rw[cH]at hx;obtain⟨u,hu,_⟩:=hx.one (i:=0) (a:=a) rfl;obtain⟨ad,h9,_⟩:=hr 0 u hu;rw[hA]at h9;cases h9
  refine ag (ab 1 rfl (ae [2] ?_));refine aD ⟨.inr rfl,_,.tmp rfl (.nil),?_⟩;exact⟨.refl _,by rw[BQ];exact ki⟩
 ·
  skip
  refine aA (aj [0] rfl ?_);refine ag (ai9 Tryz.underlying22 Kn ?_);intro g hg;have hG:=alN (P:=qO) (e:=4) (sz:=1) hg;refine ab 1 rfl (ai7 qP ai5 (by decide) Tryz.underlying22 Kn rfl rfl hG (h.le qP hG.base) (by rw[List.length_nil];omega) (by rw[List.length_nil];omega) ?_);intro v2 H2 y2 JR _;rw[List.nil_append]at JR;refine ab 1 rfl (ae [2] ?_);refine aD ⟨.inr rfl,_,.tmp rfl (.nil),?_⟩;exact⟨JR.le,JR.sl qP⟩
theorem alO{H:Heap}{v:Value}{l:List Bool}(h:aR qO 1 H v l)(hl:l.length≤1000000):
 Fn Tryz.prog 152 #[v,.bool true] H (fun v' H'=>H'=H∧∃z:Int,v' = .int .i64 z∧(0≤z↔∃j:Nat,l[j]? = some true)):=by
 obtain⟨A,c,xs,rfl,hc,hr,hx⟩:=id h;refine a7 (args:=[_,_]) Tryz.func152 rfl rfl Tryz.ntmps152 rfl rfl fun w0=> ?_;refine aj [0,1] rfl ?_;refine ag (ab 1 rfl (ae [0,1] ?_));refine ao (ag (ab 3 rfl (ae [0,1,7,8] ?_)));refine aF (gG (fun(i:Nat)=>l.length-i) (fun(i:Nat)=>put (put (put (put (emp) 0 (.val (.slice A l.length c))) 1 (.val (.bool true))) 7 (.val (.int .i64 (l.length:Int)))) 8 (.val (.int .i64 (i:Int)))) (fun(i:Nat) H'=>H'=H∧i≤l.length∧∀j,j<i→l[j]?≠some true) 0 (⟨rfl,Nat.zero_le _,fun j h=>by omega⟩) ar ?_);rintro i H1 ⟨e1,hi,hn⟩;rw[e1];refine ag (ab 1 rfl (ae [0,1,7,8,9] ?_));refine ao (aC rfl (fun hb=> ?_) (fun hb=> ?_))
 ·
  have aT:i<l.length:=by simpa using hb
  obtain⟨b,cD⟩:∃b,l[i]? = some b:=⟨_,List.getElem?_eq_getElem aT⟩;obtain⟨u,hu,Ob⟩:=hx.one cD;have Ob: [u] = [.bool b]:=Ob
  simp only[List.cons.injEq,and_true]at Ob
  subst Ob;refine aA (aj [0,1,7,8] rfl ?_);refine ao (aF (ag (ab 2 rfl (ae [0,1,5,7,8] ?_))));refine ag (ab 3 rfl (aQ ah rfl rfl rfl rfl rfl (hr) (by rw[Int.toNat_natCast];exact hu) (by omega) (by omega) fun _=> ?_));refine OG Tryz.underlying4 rfl rfl (ae [0,1,5,7,8,16] ?_);refine aC rfl (fun hb=> ?_) (fun hb=> ?_)
  ·
   have pV:b=true:=by simpa using hb
   refine ag (ab 2 rfl (ae [4] ?_));refine aD ⟨.inr rfl,_,.tmp rfl (.nil),?_⟩;exact⟨rfl,_,rfl,⟨fun _=>⟨i,by rw[cD,pV]⟩,fun _=>by omega⟩⟩
  ·
   have re:b=false:=by simpa using hb
   refine aA (aj [0,1,7,8] rfl ?_);refine aB rfl (aG rfl rfl ⟨by omega,by omega⟩ (ab 1 rfl (aw ?_)));exact⟨i+1,by omega,ar,rfl,by omega,fun j hj=>by by_cases h9:j<i;exact hn j h9;(obtain rfl:j=i:=by omega);rw[cD,re];simp⟩
 ·
  have hb:l.length≤i:=by simpa using hb
  refine aV (aj [] rfl ?_);refine ag (ab 1 rfl (ae [4] ?_));refine aD ⟨.inr rfl,_,.tmp rfl (.nil),?_⟩;exact⟨rfl,_,rfl,⟨fun h=>by omega,fun⟨j,hj⟩=>absurd hj (hn j (by have:=(List.getElem?_eq_some_iff.1 hj).1;omega))⟩⟩
theorem alP{H:Heap}{v:Value}{l:List Bool}(h:aR qO 1 H v l)(hl:l.length≤1000000):
 Fn Tryz.prog 83 #[v,.bool true] H (fun v' H'=>H'=H∧∃b,v' = .bool b∧(b=true↔∃j:Nat,l[j]? = some true)):=by
 obtain⟨A,c,xs,rfl,hc,hr,hx⟩:=id h;refine a7 (args:=[_,_]) Tryz.func83 rfl rfl Tryz.ntmps83 rfl rfl fun w0=> ?_;refine aj [0,1] rfl ?_;refine ag (ab 1 rfl (ae [0,1] ?_));refine ag (ab 2 rfl (aE rfl rfl (alO h hl) ?_));rintro _ H1 ⟨e1,z,rfl,hz⟩;rw[e1];refine ab 2 rfl (ae [4] ?_);refine aD ⟨.inr rfl,_,.tmp rfl (.nil),?_⟩;exact⟨rfl,_,rfl,by rw[←hz];simp⟩
theorem abR{H:Heap}{v:Value}{l:List Rat}{N:Nat}(h:aR (bN N) 3 H v l)(hl:l.length≤1000)(hN:(N:Int)≤1099511627776):
 Fn Tryz.prog 146 #[v] H (fun v' H'=>Heap.le H H'∧∃A c,v' = .slice A l.length c∧aR (bN (N+2)) 3 H' v' l):=by
 have hz:=h.MG
 obtain⟨A,c,xs,rfl,hc,hr,hx⟩:=id h;refine a7 (args:=[_]) Tryz.func146 rfl rfl Tryz.ntmps146 rfl rfl fun w0=> ?_;refine aj [0] rfl ?_;refine ag (ab 1 rfl (ae [0] ?_));refine ag (ab 1 rfl (ae [0,3] ?_));refine ao (ag (ab 3 rfl (ae [3,6,7,8] ?_)));refine aF (fZ (fun(i:Nat)(w:Value)(ys:List Value)=>l.length-i) (fun(i:Nat)(w:Value)(ys:List Value)=>put (put (put (put (emp) 3 (.val (w))) 6 (.val (.slice A l.length c))) 7 (.val (.int .i64 (l.length:Int)))) 8 (.val (.int .i64 (i:Int)))) (fun(i:Nat)(w:Value)(ys:List Value) H'=>ea bZ 31 3 H H' w (l.take i) ys∧i≤l.length) 0 (.slice none 0 0) [] (⟨IK H,Nat.zero_le _⟩) ar ?_);rintro i w ys H1 ⟨hG,hi⟩;obtain⟨W,cw,rfl⟩:=hG.form
 have jq:(l.take i).length=i:=by rw[List.length_take];omega
 refine ag (ab 1 rfl (ae [3,6,7,8,9] ?_));refine ao (aC rfl (fun hb=> ?_) (fun hb=> ?_))
 ·
  have m6:i<l.length:=by simpa using hb
  obtain⟨q,hq⟩:∃q,l[i]? = some q:=⟨_,List.getElem?_eq_getElem m6⟩;obtain⟨f1,A1,k1,c1,A2,k2,c2,lR,UE,eV⟩:=aR.qW hx hq;refine aA (aj [3,6,7,8] rfl ?_);refine ao (aF (ag (ck (vs:=[.bool f1,.slice A1 k1 c1,.slice A2 k2 c2]) ah rfl rfl rfl rfl (hr.le hG.le) rfl (by decide) eV (by omega) (by omega) fun _=>(bt bY rfl ?_))));obtain⟨ti,ak,al⟩:=aY;refine aH (.inl ⟨rfl,rfl⟩) rfl rfl rfl ak al rfl rfl rfl (ae [3,5,6,7,8] ?_);refine aB rfl (ab 2 rfl (aE rfl rfl (hG.call (Dx (UE.le hG.base) hN)) ?_));rintro _ H2 zX;have JR:=hG.kV dY zX fun _ _ h=>h.1;obtain⟨⟨_,bU⟩,_⟩:=zX;obtain⟨f2,pg,m21,ph,A22,m22,c22,rfl⟩:=bU.form;refine cW Tryz.underlying26 bY rfl rfl rfl rfl rfl rfl rfl ?_;intro gb bx;have yg:=JR.ins dY (whole (cG [.agg #[.bool f2,.slice pg m21 ph,.slice A22 m22 c22]]) 31) bx;refine dR Tryz.underlying26 bY rfl rfl yg.own (dD _ _ _ _ _ _) rfl (Cl _ _ _ _ _ _ _) (by rw[jq];omega) (by rw[jq];omega) ?_;intro v4 H4 ha4;have uo:=yg.append dY (k:=[q]) (by simp) ha4 (iP (dY _ _ _ _ (qB _ (Heap.bB _ bx)) (show bZ _ [_,_,_] _ from bU)) rfl);refine ab 1 rfl (aw (aj [3,6,7,8] rfl ?_));refine aB rfl (aG rfl rfl ⟨by omega,by omega⟩ ?_)
  refine ab 1 rfl (aw ?_);exact⟨i+1,_,_,by omega,ar,by rw[SA hq];exact uo,by omega⟩
 ·
  have hb:l.length≤i:=by simpa using hb
  obtain rfl:i=l.length:=by omega
  rw[List.take_length]at hG;rw[List.take_length];refine aV (aj [3] rfl ?_);refine ag (ab 2 rfl (ae [2] ?_));refine aD ⟨.inr rfl,_,.tmp rfl (.nil),?_⟩;exact⟨hG.le,_,_,rfl,(hG.sl dY).zE hz⟩
theorem alQ{H:Heap}{v ov:Value}{p:Prg}{os:List (List Rat)}{N:Nat}(hp:eH N H v p)(ho:qh N H ov os)(dA:os.length≤9223372036854775807):
 Fn Tryz.prog 144 #[v,ov] H (fun v' H'=>H'=H∧∃b,v' = .bool b∧(b=true↔∀o,o∈os→o.length=p.free.length)):=by
 obtain⟨fv,gB,rfl,eI,fk⟩:=id hp
 obtain⟨Af,cf,xf,rfl,jk,jl⟩:=eI.one
 obtain⟨Ar,cr,xr,rfl,jL,fy,iE⟩:=id fk
 obtain⟨Ao,co,xo,rfl,oJ,qw,z7⟩:=id ho;refine a7 (args:=[_,_]) Tryz.func144 rfl rfl Tryz.ntmps144 rfl rfl fun w0=> ?_;refine aj [0,1] rfl ?_;refine ag (bX rfl rfl (ab 1 rfl (ae [1,2] ?_)));refine ao (ag (ab 3 rfl (ae [2,7,8,9] ?_)));refine aF (gG (fun(i:Nat)=>os.length-i) (fun(i:Nat)=>put (put (put (put (emp) 2 (.box [.slice Af p.free.length cf,.slice Ar p.rows.length cr])) 7 (.val (.slice Ao os.length co))) 8 (.val (.int .i64 (os.length:Int)))) 9 (.val (.int .i64 (i:Int)))) (fun(i:Nat) H'=>H'=H∧i≤os.length∧∀(j:Nat)(o:List Rat),j<i→os[j]? = some o→o.length=p.free.length) 0 (⟨rfl,Nat.zero_le _,fun j o h=>by omega⟩) ar ?_);rintro i H1 ⟨e1,hi,hn⟩;rw[e1];refine ag (ab 1 rfl (ae [2,7,8,9,10] ?_));refine ao (aC rfl (fun hb=> ?_) (fun hb=> ?_))
 ·
  have aT:i<os.length:=by simpa using hb
  obtain⟨o,om⟩:∃o,os[i]? = some o:=⟨_,List.getElem?_eq_getElem aT⟩;obtain⟨B,cb,oo,CX⟩:=N7 z7 om;refine aA (aj [2,7,8,9] rfl ?_);refine ao (aF (ag (aQ ah rfl rfl rfl rfl rfl (qw) (by rw[Int.toNat_natCast];exact oo) (by omega) (by omega) fun _=> ?_)));refine ab 1 rfl (ae [2,6,7,8,9] ?_);refine ag (ab 6 rfl (ae [2,7,8,9,18] ?_));refine aC rfl (fun hb=> ?_) (fun hb=> ?_)
  ·
   have h2:¬o.length=p.free.length:=by simpa [Int.natCast_inj]using hb
   refine ag (ab 1 rfl (ae [4] ?_));refine aD ⟨.inr rfl,_,.tmp rfl (.nil),?_⟩;exact⟨rfl,false,rfl,⟨(fun h=>by cases h),fun h=>absurd (h o (List.mem_of_getElem? om)) h2⟩⟩
  ·
   have h2:o.length=p.free.length:=by simpa [Int.natCast_inj]using hb
   refine aA (aj [2,7,8,9] rfl ?_);refine aB rfl (aG rfl rfl ⟨by omega,by omega⟩ (ab 1 rfl (aw ?_)));exact⟨i+1,by omega,ar,rfl,by omega,fun j o9 hj UF=>by by_cases h9:j<i;exact hn j o9 h9 UF;(obtain rfl:j=i:=by omega);rw[om]at UF;cases UF;exact h2⟩
 ·
  have hb:os.length≤i:=by simpa using hb
  refine aV (aj [] rfl ?_);refine ag (ab 1 rfl (ae [4] ?_));refine aD ⟨.inr rfl,_,.tmp rfl (.nil),?_⟩;exact⟨rfl,true,rfl,⟨fun _ o h=>by obtain⟨j,hj⟩:=List.getElem?_of_mem h;exact hn j o (by have:=(List.getElem?_eq_some_iff.1 hj).1;omega) hj,fun _=>rfl⟩⟩
end Go.au
