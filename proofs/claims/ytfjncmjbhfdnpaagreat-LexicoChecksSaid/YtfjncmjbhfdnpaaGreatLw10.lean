/- law23.spoilt: a result that is changed in one place is some result again. -/
import Derived.Test.YtfjncmjbhfdnpaaGreatA10
import Derived.Test.YtfjncmjbhfdnpaaGreatLw9
import Derived.Test.YtfjncmjbhfdnpaaGreatSpo
import Derived.Test.YtfjncmjbhfdnpaaGreatPlc
import Derived.Test.YtfjncmjbhfdnpaaGreatEng16
set_option linter.unusedVariables false
namespace Go.ay
open Go.Proofs Num Lp
def aeI(N:Nat)(H:Heap)(v:Value)(H':Heap):Prop:=Heap.le H H'∧∃S',nM N H' v S'∧S'.x.length≤1000
structure Jq where
 st:Int
 A1:Option Addr
 n1:Nat
 c1:Nat
 A2:Option Addr
 n2:Nat
 c2:Nat
 A3:Option Addr
 n3:Nat
 c3:Nat
def UM(N:Nat)(H H':Heap)(z:Jq):Prop:=Heap.le H H'∧∃l k j,aC (aS N) 3 H' (.slice z.A1 z.n1 z.c1) l∧aC (aS N) 3 H' (.slice z.A2 z.n2 z.c2) k∧gB N H' (.slice z.A3 z.n3 z.c3) j∧k.length≤1000
theorem ig.out{N e1 e2:Nat}{H0 H:Heap}{V:Value}{l:List Rat}{xs:List Value}{X:Value}{k:List Rat}{ys:List Value}{D:Value}{j:List (List Rat)}{zs:List Value}(h:ig N e1 e2 H0 H V l xs X k ys D j zs){st:Int}{z:Jq}(hV:V = .slice z.A1 z.n1 z.c1)(hX:X = .slice z.A2 z.n2 z.c2)(hD:D = .slice z.A3 z.n3 z.c3)(hk:k.length≤1000):UM N H0 H z:=by
 subst hV;subst hX;subst hD
 exact⟨h.le,l,k,j,h.sv,h.sx,h.sd,hk⟩
theorem bU.slot{H:Heap}{v:Value}{e sz n:Nat}{xs:List Value}(h:bU H v e sz n xs)(hn:0<n):∃g c,v = .slice (some ⟨g,0,none⟩) n c∧H g=some ⟨xs,c*sz,e,true⟩∧n≤c∧c≤maxLen:=by
 rcases h.2 with ⟨_,h1⟩ | h1
 ·omega
 ·exact h1
theorem Jr{P:Program}{n:Nat}{all:Array Oper}{md:Mode}{r:List Oper}{s:St}{H:Heap}{K:St→Heap→Prop}{dst:Option Nat}{ty:TypeId}{pos:String}{after:Array _}{gd:Option (Nat×Bool)}
  {α:Type} {Q:Heap→List Value→α→Prop} {t e sz bytes:Nat} {x y:Operand} {z w:Value} {k:List α} (gs:List Nat) (up:Up Q) (one:One Q) (hz:0<sz) (ht:P.underlying t=some (.slice e)) (he:fT P e sz z bytes) (hx:ev s x=some (.slice none 0 0)) (hy:ev s y=some w)
  (hl:∀q,q∈gs→H q≠none) (hs:aC Q sz (rem H gs) w k) (hb:k.length*bytes≤140737488355328) (nW:k.length≤9223372036854775807)
  (hk:∀v' H' ys,fW gs H Q e sz H' v' k ys→aO P n all md r (aY s dst (.val v')) H' K) (hg:cE all s gd=some true:=by rfl) (nb:md.nb s dst=true:=by rfl):aO P n all md (⟨dst,.call ⟨.builtin .append,#[x,y],#[t,t]⟩,ty,pos,after,gd⟩::r) s H K:=by
 obtain⟨A,c,news,rfl,h1,h2,h3⟩:=hs
 refine eW (m:=0) (xs:=[]) ht he hx hy (oY H e sz) (h2.le (bG _ _)) h3.len (h3.Ui one hz) (by rw[Nat.zero_add];exact hb) (by rw[Nat.zero_add];exact nW) (fun v' H' ha=> ?_) hg nb
 have h0:fW gs H Q e sz H (.slice none 0 0) [] []:=NQ hl
 exact hk v' H' _ (h0.append up (by rw[List.length_nil]) ha (by rw[rC,List.append_nil];exact h3))
theorem bN.UN{H:Heap}{v:Value}{q:Rat}{N:Nat}(h:bN H v q N):∃t:RC,v=t.v:=by
 obtain⟨bf,_,_,lW,lX,rfl,⟨bA,bc,rfl,_⟩,⟨bA2,bc2,rfl,_⟩,_⟩:=h
 exact⟨⟨bf,bA,lW.length,bc,bA2,lX.length,bc2⟩,rfl⟩
theorem aeJ{H:Heap}{sv bv:Value}{S:nN}{N:Nat}{q:Rat}{w a:Int}(hS:nM N H sv S)(ni:bN H bv q 2)(NZ:2≤N)(wq:0≤w)(fi:w≤255)(AN:0≤a)(oF:a≤255)(dH:0≤S.status∧S.status≤3)(h1:S.values.length≤1000)(h2:S.x.length≤1000)(h3:S.cW.length≤1000)(h4:∀d,d∈S.cW→d.length≤1000)(hN:N≤200000000):
 Fn Tryz.prog 32 #[sv,.int .u8 w,.int .u8 a,bv] H (aeI (N+20) H):=by
 obtain⟨A1,c1,A2,c2,A3,c3,A4,c4,rfl,fw,eL,jN,oE⟩:=id hS
 obtain⟨t,rfl⟩:∃t:RC,bv=t.v:=ni.UN
 have kK:0≤w%6∧w%6<6:=⟨Int.emod_nonneg _ (by decide),Int.emod_lt_of_pos _ (by decide)⟩;refine aU (args:=[_,_,_,_]) Tryz.func32 rfl rfl Tryz.ntmps32 rfl rfl fun w0=> ?_;refine ag [0,1,2,3] rfl ?_;refine ae ?_;refine bF rfl rfl ?_;refine bF rfl rfl ?_;refine bh pS rfl ?_;refine ab [1,2,4,7,8] ?_;refine bL .bn [0,1,3,4,2,5,6,7] follows (by kernel_rfl) ?_;refine vr 4 ?_;refine Jr [] (a8 N) (NH N) (by decide) Tryz.underlying26 cM rfl rfl (fun _ h=>by cases h) (by rw[gn];exact fw) (by omega) (by omega) ?_;intro V H1 xs hV
 have di:Heap.le H (rem H1 (aB V)):=by have:=hV.base;rwa [gn,List.nil_append]at this
 refine Jr (aB V) (a8 N) (NH N) (by decide) Tryz.underlying26 cM rfl rfl (fun q hq=>hV.mQ q hq) (eL.le (a8 N) di) (by omega) (by omega) ?_;intro X H2 ys hX;have aW:=di.trans hX.base;refine vr 2 ?_;refine ab [1,2,4,7,8,9,10] ?_;refine ae ?_;refine vr 2 ?_;refine Jr (aB V++aB X) (fX N) (UO N) (by decide) Tryz.underlying40 xR rfl rfl (fun q hq=>hX.mQ q hq) (jN.le (fX N) aW) (by omega) (by omega) ?_;intro D H3 zs hD;have hT:=aeK hV hX hD;clear hV hX hD di aW;obtain⟨VA,vc,rfl⟩:=hT.ov.form;obtain⟨XA,xc,rfl⟩:=hT.ox.form;obtain⟨DA,dc,rfl⟩:=hT.od.form;have ui:=hT.mono (show N≤N+20 by omega);refine vr 1 ?_;refine ab [1,2,4,7,8,9,10,11] ?_;refine mz (fun(z:Jq)=>put (put (put (put (put (emp) 4 (.box [.int .i64 z.st,.slice A1 S.values.length c1,.slice A2 S.x.length c2,.slice A3 S.cW.length c3,.slice A4 S.ray.length c4])) 8 (.box [.int .i64 0,.slice none 0 0,.slice none 0 0,.slice none 0 0,.slice none 0 0])) 9 (.val (.slice z.A1 z.n1 z.c1))) 10 (.val (.slice z.A2 z.n2 z.c2))) 11 (.val (.slice z.A3 z.n3 z.c3))) (fun(z:Jq) H'=>UM (N+20) H H' z) ?_ ?_
 ·
  refine aD ?_;refine mz (fun(b0:Bool)=>put (put (put (put (put (put (put (put (put (emp) 1 (.val (.int .u8 w))) 2 (.val (.int .u8 a))) 4 (.box [.int .i64 S.status,.slice A1 S.values.length c1,.slice A2 S.x.length c2,.slice A3 S.cW.length c3,.slice A4 S.ray.length c4])) 7 (.box [.bool t.f,.slice t.A1 t.m1 t.c1,.slice t.A2 t.m2 t.c2])) 8 (.box [.int .i64 0,.slice none 0 0,.slice none 0 0,.slice none 0 0,.slice none 0 0])) 9 (.val (.slice VA S.values.length vc))) 10 (.val (.slice XA S.x.length xc))) 11 (.val (.slice DA S.cW.length dc))) 24 (.val (.bool b0))) (fun(b0:Bool) H'=>H'=H3∧(b0=true↔w%6=0∧0<S.values.length)) ?_ ?_
  ·
   by_cases g9:w%6=0
   ·
    skip
    by_cases h9:0<S.values.length
    ·
     skip
     refine aE rfl ?_;refine vr 1 ?_;refine gj rfl rfl (by omega) (by omega) ?_;refine ax true rfl rfl (dz (by omega)) ?_;refine vr 3 ?_;refine ax true rfl rfl (iG (by omega)) ?_;refine vr 2 ?_;refine aA ?_;exact⟨_,au,rfl,by simp[g9,h9]⟩
    ·
     skip
     refine aE rfl ?_;refine vr 1 ?_;refine gj rfl rfl (by omega) (by omega) ?_;refine ax true rfl rfl (dz (by omega)) ?_;refine vr 3 ?_;refine ax false rfl rfl (fN (by omega)) ?_;refine vr 2 ?_;refine aA ?_;exact⟨_,au,rfl,by simp[g9,h9]⟩
   ·
    skip
    refine aE rfl ?_;refine vr 1 ?_;refine gj rfl rfl (by omega) (by omega) ?_;refine ax false rfl rfl (eN (by omega)) ?_;refine vr 6 ?_;refine aA ?_;exact⟨_,au,rfl,by simp[g9]⟩
  ·
   rintro b0 H0 ⟨e0,gF⟩;rw[e0];clear e0 H0;refine az rfl (fun hb=> ?_) (fun hb=> ?_)
   ·
    obtain⟨g0,h0⟩:=gF.1 (by simpa using hb);refine ae ?_;refine vr 3 ?_;refine ar rfl rfl (N0 AN oF (by omega)) ?_;rintro _ H4 ⟨bE,e4,i,rfl,LF,ng⟩;rw[e4];clear e4 bE H4;have hi:=ng h0;refine vr 1 ?_;refine ab [4,7,8,9,10,11,12] ?_;obtain⟨gv,cv,eV,gy,Ci,Cj⟩:=hT.ov.slot h0
    cases eV
    obtain⟨q0,gF⟩:∃q0,S.values[i]? = some q0:=⟨_,List.getElem?_eq_getElem hi⟩;obtain⟨f1,B1,k1,d1,B2,k2,d2,eC,eI,gA⟩:=aC.jP hT.ev gF;have q8:gv∈ke (.slice (some ⟨gv,0,none⟩) S.values.length vc) (.slice XA S.x.length xc) (.slice DA S.cW.length dc):=List.mem_append_left _ (List.mem_append_left _ (cV.2 rfl));have cj:=hT.ev.len;have jI:=Du q0 q;have iK:=eI.size;have q6:=ni.size;refine eT .gO [0,1,2,3,4,5,6,7,8,9] follows (by kernel_rfl) ?_;refine vr 4 ?_;refine cI (vs:=[.bool f1,.slice B1 k1 d1,.slice B2 k2 d2]) af rfl rfl rfl rfl (hT.ov.rd) rfl (by decide) gA (by omega) (by omega) fun _=> ?_;refine vr 1 ?_;refine aH rfl rfl (Fn.frame hT.live (BA (N:=N) eI ((ni.mono NZ).le hT.base) (by omega))) (fun _ _ h=>h.le fun _ _ h=>h.1) ?_;rintro _ H5 iD;have N1:=(hT.step iD.same iD.post.1).mono (show N≤(N+20) by omega);have FR:=(iD.same gv q8).trans gy;obtain⟨⟨cA,ja⟩,_⟩:=iD;obtain⟨f5,UP,UQ,UR,US,UT,UU,rfl⟩:=ja.form;have wC:=N1.aeL rfl FR ⟨Ci,Cj⟩ hi (show aS (N+20) _ [_,_,_] _ from(cJ.raw ja).mono (by omega)) rfl;obtain⟨ti,aj,ak⟩:=bM;refine eB (.inr rfl) af rfl rfl rfl (by omega) (by omega) (FR) rfl (by show 0+S.values.length*3≤_;rw[cj];omega) aj ak (fun _=>rfl) rfl rfl rfl fun _=> ?_;refine aA ?_;rw[Nat.zero_add,Int.toNat_natCast]
    exact⟨⟨S.status,some ⟨gv,0,none⟩,S.values.length,vc,XA,S.x.length,xc,DA,S.cW.length,dc⟩,au,wC.out (st:=0) rfl rfl rfl h2⟩
   ·
    skip
    refine mz (fun(b0:Bool)=>put (put (put (put (put (put (put (put (put (emp) 1 (.val (.int .u8 w))) 2 (.val (.int .u8 a))) 4 (.box [.int .i64 S.status,.slice A1 S.values.length c1,.slice A2 S.x.length c2,.slice A3 S.cW.length c3,.slice A4 S.ray.length c4])) 7 (.box [.bool t.f,.slice t.A1 t.m1 t.c1,.slice t.A2 t.m2 t.c2])) 8 (.box [.int .i64 0,.slice none 0 0,.slice none 0 0,.slice none 0 0,.slice none 0 0])) 9 (.val (.slice VA S.values.length vc))) 10 (.val (.slice XA S.x.length xc))) 11 (.val (.slice DA S.cW.length dc))) 46 (.val (.bool b0))) (fun(b0:Bool) H'=>H'=H3∧(b0=true↔w%6=1∧0<S.x.length)) ?_ ?_
    ·
     by_cases g9:w%6=1
     ·
      skip
      by_cases h9:0<S.x.length
      ·
       skip
       refine aE rfl ?_;refine vr 1 ?_;refine gj rfl rfl (by omega) (by omega) ?_;refine ax true rfl rfl (dz (by omega)) ?_;refine vr 3 ?_;refine ax true rfl rfl (iG (by omega)) ?_;refine vr 2 ?_;refine aA ?_;exact⟨_,au,rfl,by simp[g9,h9]⟩
      ·
       skip
       refine aE rfl ?_;refine vr 1 ?_;refine gj rfl rfl (by omega) (by omega) ?_;refine ax true rfl rfl (dz (by omega)) ?_;refine vr 3 ?_;refine ax false rfl rfl (fN (by omega)) ?_;refine vr 2 ?_;refine aA ?_;exact⟨_,au,rfl,by simp[g9,h9]⟩
     ·
      skip
      refine aE rfl ?_;refine vr 1 ?_;refine gj rfl rfl (by omega) (by omega) ?_;refine ax false rfl rfl (eN (by omega)) ?_;refine vr 6 ?_;refine aA ?_;exact⟨_,au,rfl,by simp[g9]⟩
    ·
     rintro b0 H0 ⟨e0,cn⟩;rw[e0];clear e0 H0;refine az rfl (fun hb=> ?_) (fun hb=> ?_)
     ·
      obtain⟨g1,h0⟩:=cn.1 (by simpa using hb);refine ae ?_;refine vr 3 ?_;refine ar rfl rfl (N0 AN oF (by omega)) ?_;rintro _ H4 ⟨bE,e4,i,rfl,LF,ng⟩;rw[e4];clear e4 bE H4;have hi:=ng h0;refine vr 1 ?_;refine ab [4,7,8,9,10,11,13] ?_;obtain⟨gv,cv,eV,gy,Ci,Cj⟩:=hT.ox.slot h0
      cases eV
      obtain⟨q0,gF⟩:∃q0,S.x[i]? = some q0:=⟨_,List.getElem?_eq_getElem hi⟩;obtain⟨f1,B1,k1,d1,B2,k2,d2,eC,eI,gA⟩:=aC.jP hT.ex gF;have q8:gv∈ke (.slice VA S.values.length vc) (.slice (some ⟨gv,0,none⟩) S.x.length xc) (.slice DA S.cW.length dc):=List.mem_append_left _ (List.mem_append_right _ (cV.2 rfl));have cj:=hT.ex.len;have jI:=Du q0 q;have iK:=eI.size;have q6:=ni.size;refine eT .gO [0,1,2,3,4,5,6,7,8,9] follows (by kernel_rfl) ?_;refine vr 4 ?_;refine cI (vs:=[.bool f1,.slice B1 k1 d1,.slice B2 k2 d2]) af rfl rfl rfl rfl (hT.ox.rd) rfl (by decide) gA (by omega) (by omega) fun _=> ?_;refine vr 1 ?_;refine aH rfl rfl (Fn.frame hT.live (BA (N:=N) eI ((ni.mono NZ).le hT.base) (by omega))) (fun _ _ h=>h.le fun _ _ h=>h.1) ?_;rintro _ H5 iD;have N1:=(hT.step iD.same iD.post.1).mono (show N≤(N+20) by omega);have FR:=(iD.same gv q8).trans gy;obtain⟨⟨cA,ja⟩,_⟩:=iD;obtain⟨f5,UP,UQ,UR,US,UT,UU,rfl⟩:=ja.form;have wC:=N1.aeM rfl FR ⟨Ci,Cj⟩ hi (show aS (N+20) _ [_,_,_] _ from(cJ.raw ja).mono (by omega)) rfl;obtain⟨ti,aj,ak⟩:=bM;refine eB (.inr rfl) af rfl rfl rfl (by omega) (by omega) (FR) rfl (by show 0+S.x.length*3≤_;rw[cj];omega) aj ak (fun _=>rfl) rfl rfl rfl fun _=> ?_;refine aA ?_;rw[Nat.zero_add,Int.toNat_natCast]
      exact⟨⟨S.status,VA,S.values.length,vc,some ⟨gv,0,none⟩,S.x.length,xc,DA,S.cW.length,dc⟩,au,wC.out (st:=0) rfl rfl rfl (by rw[List.length_set];exact h2)⟩
     ·
      skip
      refine mz (fun(b0:Bool)=>put (put (put (put (put (put (put (put (put (emp) 1 (.val (.int .u8 w))) 2 (.val (.int .u8 a))) 4 (.box [.int .i64 S.status,.slice A1 S.values.length c1,.slice A2 S.x.length c2,.slice A3 S.cW.length c3,.slice A4 S.ray.length c4])) 7 (.box [.bool t.f,.slice t.A1 t.m1 t.c1,.slice t.A2 t.m2 t.c2])) 8 (.box [.int .i64 0,.slice none 0 0,.slice none 0 0,.slice none 0 0,.slice none 0 0])) 9 (.val (.slice VA S.values.length vc))) 10 (.val (.slice XA S.x.length xc))) 11 (.val (.slice DA S.cW.length dc))) 68 (.val (.bool b0))) (fun(b0:Bool) H'=>H'=H3∧(b0=true↔w%6=2∧0<S.cW.length)) ?_ ?_
      ·
       by_cases g9:w%6=2
       ·
        skip
        by_cases h9:0<S.cW.length
        ·
         skip
         refine aE rfl ?_;refine vr 1 ?_;refine gj rfl rfl (by omega) (by omega) ?_;refine ax true rfl rfl (dz (by omega)) ?_;refine vr 3 ?_;refine ax true rfl rfl (iG (by omega)) ?_;refine vr 2 ?_;refine aA ?_;exact⟨_,au,rfl,by simp[g9,h9]⟩
        ·
         skip
         refine aE rfl ?_;refine vr 1 ?_;refine gj rfl rfl (by omega) (by omega) ?_;refine ax true rfl rfl (dz (by omega)) ?_;refine vr 3 ?_;refine ax false rfl rfl (fN (by omega)) ?_;refine vr 2 ?_;refine aA ?_;exact⟨_,au,rfl,by simp[g9,h9]⟩
       ·
        skip
        refine aE rfl ?_;refine vr 1 ?_;refine gj rfl rfl (by omega) (by omega) ?_;refine ax false rfl rfl (eN (by omega)) ?_;refine vr 6 ?_;refine aA ?_;exact⟨_,au,rfl,by simp[g9]⟩
      ·
       rintro b0 H0 ⟨e0,bK⟩;rw[e0];clear e0 H0;refine az rfl (fun hb=> ?_) (fun hb=> ?_)
       ·
        obtain⟨g2,h0⟩:=bK.1 (by simpa using hb);refine ae ?_;refine vr 3 ?_;refine ar rfl rfl (N0 AN oF (by omega)) ?_;rintro _ H4 ⟨bE,e4,i,rfl,LF,ng⟩;rw[e4];clear e4 bE H4;have hi:=ng h0;refine vr 1 ?_;refine ab [4,7,8,9,10,11,14] ?_;obtain⟨gv,cv,eV,gy,Ci,Cj⟩:=hT.od.slot h0
        cases eV
        obtain⟨d0,qp⟩:∃d0,S.cW[i]? = some d0:=⟨_,List.getElem?_eq_getElem hi⟩;obtain⟨u0,N2,⟨Ad,cd,hue,mq⟩⟩:=hT.ed.one qp
        cases hue
        have eJ:=h4 d0 (List.mem_of_getElem? qp);have q8:gv∈ke (.slice VA S.values.length vc) (.slice XA S.x.length xc) (.slice (some ⟨gv,0,none⟩) S.cW.length dc):=List.mem_append_right _ (cV.2 rfl);have cj:=hT.ed.len;refine eT .gO [0,1,2,3,4,5,7,6,8,9,10,11] follows (by kernel_rfl) ?_;refine vr 4 ?_;refine a6 af rfl rfl rfl rfl rfl (hT.od.rd) (by rw[Int.toNat_natCast];exact N2) (by omega) (by omega) fun _=> ?_;refine vr 1 ?_;refine Jr (ke _ _ _) (a8 N) (NH N) (by decide) Tryz.underlying26 cM rfl rfl hT.live mq (by omega) (by omega) ?_;intro W H5 ws hW;refine dM Tryz.underlying26 cM rfl rfl rfl rfl rfl rfl rfl ?_;intro gb bW;have N4:=hW.ins (a8 N) (whole (cT [.agg #[.bool t.f,.slice t.A1 t.m1 t.c1,.slice t.A2 t.m2 t.c2]]) 31) bW;refine eW Tryz.underlying26 cM rfl rfl N4.own (fu _ _ _ _ _ _) rfl (B7 _ _ _ _ _ _ _) (by omega) (by omega) ?_;intro W7 H7 FT;have gW:=N4.append (a8 N) (j:=[q]) (by simp) FT (jn (show aS N _ [_,_,_] _ from((ni.mono NZ).le (hT.base.trans N4.base))) rfl);have hT7:=hT.step gW.same gW.out;have UW:=(gW.same gv q8).trans gy;obtain⟨W8,w8,rfl⟩:=gW.form;have wC:=(hT7.aeN rfl UW ⟨Ci,Cj⟩ hi (show jC N _ [_] _ from⟨_,_,rfl,gW.sl (a8 N)⟩) rfl).mono (show N≤N+20 by omega);obtain⟨ti,aj,ak⟩:=xS;refine eB (.inr rfl) af rfl rfl rfl (by omega) (by omega) (UW) rfl (by show 0+S.cW.length*1≤_;rw[cj];omega) aj ak (fun _=>rfl) rfl rfl rfl fun _=> ?_
        refine aA ?_;rw[Nat.zero_add,Int.toNat_natCast];exact⟨⟨S.status,VA,S.values.length,vc,XA,S.x.length,xc,some ⟨gv,0,none⟩,S.cW.length,dc⟩,au,wC.out (st:=0) rfl rfl rfl h2⟩
       ·
        skip
        refine mz (fun(b0:Bool)=>put (put (put (put (put (put (put (emp) 1 (.val (.int .u8 w))) 4 (.box [.int .i64 S.status,.slice A1 S.values.length c1,.slice A2 S.x.length c2,.slice A3 S.cW.length c3,.slice A4 S.ray.length c4])) 8 (.box [.int .i64 0,.slice none 0 0,.slice none 0 0,.slice none 0 0,.slice none 0 0])) 9 (.val (.slice VA S.values.length vc))) 10 (.val (.slice XA S.x.length xc))) 11 (.val (.slice DA S.cW.length dc))) 92 (.val (.bool b0))) (fun(b0:Bool) H'=>H'=H3∧(b0=true↔w%6=3∧0<S.cW.length)) ?_ ?_
        ·
         by_cases g9:w%6=3
         ·
          skip
          by_cases h9:0<S.cW.length
          ·
           skip
           refine aE rfl ?_;refine vr 1 ?_;refine gj rfl rfl (by omega) (by omega) ?_;refine ax true rfl rfl (dz (by omega)) ?_;refine vr 3 ?_;refine ax true rfl rfl (iG (by omega)) ?_;refine vr 2 ?_;refine aA ?_;exact⟨_,au,rfl,by simp[g9,h9]⟩
          ·
           skip
           refine aE rfl ?_;refine vr 1 ?_;refine gj rfl rfl (by omega) (by omega) ?_;refine ax true rfl rfl (dz (by omega)) ?_;refine vr 3 ?_;refine ax false rfl rfl (fN (by omega)) ?_;refine vr 2 ?_;refine aA ?_;exact⟨_,au,rfl,by simp[g9,h9]⟩
         ·
          skip
          refine aE rfl ?_;refine vr 1 ?_;refine gj rfl rfl (by omega) (by omega) ?_;refine ax false rfl rfl (eN (by omega)) ?_;refine vr 6 ?_;refine aA ?_;exact⟨_,au,rfl,by simp[g9]⟩
        ·
         rintro b0 H0 ⟨e0,fe⟩;rw[e0];clear e0 H0;refine az rfl (fun hb=> ?_) (fun hb=> ?_)
         ·
          obtain⟨g3,h0⟩:=fe.1 (by simpa using hb);obtain⟨gv,cv,eV,gy,Ci,Cj⟩:=hT.od.slot h0
          cases eV
          refine aE rfl ?_;refine vr 3 ?_;refine eo rfl rfl ⟨by omega,by omega⟩ ?_;rw[show ((S.cW.length:Nat):Int)-1=((S.cW.length-1:Nat):Int) by omega];refine pP af rfl rfl (.inl ⟨rfl,rfl⟩) (.inr ⟨_,_,rfl,rfl⟩) (by omega) (by omega) ?_;refine vr 1 ?_;refine aA ?_;exact⟨⟨S.status,VA,S.values.length,vc,XA,S.x.length,xc,_,_,_⟩,au,ui.le,_,_,_,ui.sv,ui.sx,ui.sd.upto (show S.cW.length-1≤S.cW.length by omega),h2⟩
         ·
          skip
          refine ae ?_;refine vr 1 ?_;refine gj rfl rfl (by omega) (by omega) ?_;refine vr 2 ?_;refine ab [4,8,9,10,11,106] ?_;refine az rfl (fun hb=> ?_) (fun hb=> ?_)
          ·
           skip
           refine aE rfl ?_;refine vr 2 ?_;refine gj rfl rfl (by omega) (by omega) ?_;refine aN rfl rfl ⟨by omega,by omega⟩ ?_;refine vr 1 ?_;obtain⟨ti,aj,ak⟩:=pR;refine aG (.inr rfl) rfl rfl rfl aj ak rfl rfl rfl ?_;refine aA ?_;exact⟨⟨1+S.status%3,VA,S.values.length,vc,XA,S.x.length,xc,DA,S.cW.length,dc⟩,au,ui.out (st:=0) rfl rfl rfl h2⟩
          ·
           skip
           refine aw ?_;exact⟨⟨S.status,VA,S.values.length,vc,XA,S.x.length,xc,DA,S.cW.length,dc⟩,au,ui.out (st:=0) rfl rfl rfl h2⟩
 ·
  rintro z H6 ⟨fh,l,k,j,i1,i2,i3,i4⟩;refine ae ?_;refine vr 4 ?_;obtain⟨ti,aj,ak⟩:=xS;refine aG (.inr rfl) rfl rfl rfl aj ak rfl rfl rfl ?_;refine vr 1 ?_;obtain⟨ti,aj,ak⟩:=xS;refine aG (.inr rfl) rfl rfl rfl aj ak rfl rfl rfl ?_;refine vr 1 ?_;obtain⟨ti,aj,ak⟩:=Px;refine aG (.inr rfl) rfl rfl rfl aj ak rfl rfl rfl ?_;refine ab [4,8] ?_;refine ae ?_;refine vr 1 ?_;obtain⟨ti,aj,ak⟩:=kP;refine aG (.inl ⟨rfl,rfl⟩) rfl rfl rfl aj ak rfl rfl rfl ?_;refine ab [8] ?_;obtain⟨bX,aK,aL⟩:=kP;refine aq ⟨.inr rfl,_,.agg rfl Tryz.underlying43 aK aL (.nil),?_⟩
  skip
  obtain⟨_,_,_,E1,_⟩:=id i1;obtain⟨_,_,_,E2,_⟩:=id i2;obtain⟨_,_,_,E3,_⟩:=id i3;obtain⟨st,B1,n1,d1,B2,n2,d2,B3,n3,d3⟩:=z
  simp only[Value.slice.injEq]at E1 E2 E3
  obtain⟨_,rfl,_⟩:=E1;obtain⟨_,rfl,_⟩:=E2;obtain⟨_,rfl,_⟩:=E3;exact⟨fh,⟨st,l,k,j,S.ray⟩,⟨_,_,_,_,_,_,_,_,rfl,i1,i2,i3,(oE.le (a8 N) fh).mono fun _ _ h=>aS.mono h (by omega)⟩,i4⟩
end Go.ay
