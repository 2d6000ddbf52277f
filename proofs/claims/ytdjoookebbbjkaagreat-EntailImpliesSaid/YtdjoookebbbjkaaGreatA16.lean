/- Part 16 of the proof: En5, En6, En7, Ef1, Ef2, Eh2, Law1, Sane1, Smp2, Smp3, Smp4, Smp5, Smp6, Smp7, Smp8, Sane2, Law2, Law3, Vl, Tr, Lw1, Lst, Lsz, Lx4, Lx5, Sn3, Same, Lw2, Lw7, Lw3, Chk2, Lw8, Smp9, Lw9, Spo, Plc, Lw10, Cmx, Lw12, Tr2. -/
import Derived.Test.YtdjoookebbbjkaaGreatA15
set_option linter.unusedVariables false
namespace Go.aq
open Go.Proofs Num Lp
def alU(P:Prg)(k:Nat)(H:Heap)(v:Value)(H':Heap):Prop:=Heap.le H H'∧∃A n c b,v = .tuple #[.slice A n c,.bool b]∧((b=true∧∃x:List Rat,n=x.length∧x.length=k∧aN (dA KX) 3 H' (.slice A n c) x∧P.lp.gq 1 (fn x))∨(b=false∧A=none∧n=0∧c=0∧¬∃x,P.lp.gq 1 x))
def alV(fs:List aJ)(g:aJ)(v:Int):List Rat×Int×Rat:=(fs.map (fun f=>((f.bU v:Int):Rat)),(2:Int),((g.bU v:Int):Rat))
theorem abO{H:Heap}{v:Value}{fs:List aJ}{goal:aJ}{A0:Option Addr}{c0:Nat}{bound:Int}(hv:kn H v fs)(eH:aN gX 2 H (.slice A0 goal.ts.length c0) goal.ts)(bO:∀(i:Nat)(f:aJ),fs[i]? = some f→eV f)(dV:eV goal)(gM: -1048576≤bound∧bound≤1048576)(kF:fs.length≤6)(il:(ct (fs ++ [goal])).length≤100):
 Fn Tryz.prog 21 #[v,.agg #[.int .i64 goal.c,.slice A0 goal.ts.length c0],.int .i64 bound] H (alU (cN fs (ct (fs ++ [goal])) goal bound) fs.length H):=by
 obtain⟨A,c,xs,rfl,hc,hr,hx⟩:=id hv
 have Tv:∀f,f∈fs ++ [goal]→f.ts.length≤1000:=fun f hf=>by
  rcases List.mem_append.1 hf with hf | hf
  ·obtain⟨i,hi⟩:=List.getElem?_of_mem hf;have:=(bO i f hi).len;omega
  ·rw[List.mem_singleton.1 hf];have:=dV.len;omega
 refine aY (args:=[_,_,_]) Tryz.func21 rfl rfl Tryz.ntmps21 rfl rfl fun w0=> ?_;refine ah [0,1,2] rfl ?_;refine ae (JX rfl rfl ?_);intro gf Ns;have bg:=Heap.bI (whole [.slice A fs.length c] 22) Ns
 have Cu:cell (ins H gf (whole [.slice A fs.length c] 22)) ⟨gf,0,none⟩=some (.slice A fs.length c):=by simp[cell,ins,whole]
 refine bZ rfl rfl (aa 2 rfl (ab [2,3,4] ?_))
 generalize ins H gf (whole [.slice A fs.length c] 22)=H1 at bg Cu⊢
 refine ae (aR ag rfl rfl rfl (Cu) (aa 1 rfl (gO Tryz.underlying52 Ob rfl rfl rfl (by omega) (by omega) (by omega) (by omega) ?_)));intro gm qL;rw[Int.toNat_natCast];have cA:=Heap.bI ⟨cR [.bool false] (fs.length*1),fs.length*1,4,true⟩ qL;have lW:aN Eg 1 (ins H1 gm ⟨cR [.bool false] (fs.length*1),fs.length*1,4,true⟩) (.slice (some ⟨gm,0,none⟩) fs.length fs.length) (List.replicate fs.length false):=⟨_,fs.length,_,by rw[List.length_replicate],by rw[List.length_replicate];exact Nat.le_refl _,eN _ _ _ _ _ _,Gd (P:=Eg _) rfl rfl fs.length⟩
 generalize ins H1 gm ⟨cR [.bool false] (fs.length*1),fs.length*1,4,true⟩=H2 at cA lW⊢
 refine di ag rfl yB rfl rfl (JY yB rfl ?_);intro gp Vt;obtain⟨ti,aj,ak⟩:=C4;refine j9 (g:=gp) (o:=0) (.inl rfl) rfl (bC _ _ _) rfl (Nat.le_refl 2) aj ak rfl rfl rfl rfl ?_;rw[nF];have hP:gh gp (ins H2 gp ⟨[.slice (some ⟨gm,0,none⟩) fs.length fs.length,.slice none 0 0],2,55,true⟩) (.slice (some ⟨gm,0,none⟩) fs.length fs.length) (.slice none 0 0) [] []:=alK
 have r7:rem (ins H2 gp ⟨[.slice (some ⟨gm,0,none⟩) fs.length fs.length,.slice none 0 0],2,55,true⟩) [gp]=H2:=by rw[sh _ Vt,oO]
 have jZ:=bg.trans cA;refine ab [2,3,4,8] ?_
 show VC _ _ _ _ _ _ _ (ins H2 gp ⟨[.slice (some ⟨gm,0,none⟩) fs.length fs.length,.slice none 0 0],2,55,true⟩)
 generalize ins H2 gp ⟨[.slice (some ⟨gm,0,none⟩) fs.length fs.length,.slice none 0 0],2,55,true⟩=H4 at hP r7⊢
 have EY:cell (rem H4 [gp]) ⟨gf,0,none⟩=some (.slice A fs.length c):=by rw[r7];exact cF cA Cu
 have jx:Heap.le H (rem H4 [gp]):=by rw[r7];exact jZ
 rw[←r7]at lW;refine ae (Li (cap:=[.pointer (some ⟨gf,0,none⟩),.pointer (some ⟨gp,0,none⟩)]) rfl (aa 1 rfl (ab [2,3,4,8,9] ?_)));refine bN .bK [0,2,1,3,4,5] follows (by kernel_rfl) ?_;refine aR ag rfl rfl rfl (cF (bF _ _) EY) (aa 1 rfl (aW rfl rfl (hP.call (abD (hv.le gJ jx) (by omega))) (fun _ _ h=>h.le fun _ _ k=>k.le) ?_));rintro v5 H5 EZ;obtain⟨y5,qg⟩:=alM (by rw[hP.pb];simp) EZ;obtain⟨W,cw,rfl⟩:=qg.form;refine cS Tryz.underlying22 im rfl rfl rfl rfl rfl rfl rfl ?_;intro gb a6;have iJ:=qg.ins gJ (whole (ee [.agg #[.int .i64 goal.c,.slice A0 goal.ts.length c0]]) 25) a6;refine eD Tryz.underlying22 im rfl rfl iJ.own (eN _ _ _ _ _ _) rfl (Ca (ins H5 gb (whole (ee [.agg #[.int .i64 goal.c,.slice A0 goal.ts.length c0]]) 25)) _ goal ⟨A0,c0,rfl,eH.le fc (((jx.trans (bF _ _)).trans qg.le).trans (Heap.bI _ a6))⟩) (by omega) (by omega) ?_;intro v7 H7 uW;have oa:=iJ.append gJ (j:=[goal]) rfl uW (jq ⟨A0,c0,rfl,eH.le fc (jx.trans iJ.base)⟩ rfl);obtain⟨W7,cw7,rfl⟩:=oa.form;have hP7:gh gp H7 (.slice (some ⟨gm,0,none⟩) fs.length fs.length) (.slice none 0 0) [] []:=⟨(oa.same gp (List.mem_singleton.2 rfl)).trans hP.pb,lv _ _ _,sj,fun h=>by cases h⟩;have h47:Heap.le (rem H4 [gp]) (rem H7 [gp]):=oa.out
 refine aa 1 rfl (ab [2,3,4,8,9,10] ?_);refine ao (ae (aa 1 rfl (aB rfl rfl (hP7.call (TD (oa.sl gJ) (by rw[List.length_append,List.length_singleton];omega) Tv)) ?_)));rintro _ H8 qd;have hP8:=hP7.km qd fun _ _ h=>h.1;obtain⟨⟨gA,A5,c5,rfl,Jo⟩,_⟩:=qd;have gA:Heap.le (rem H7 [gp]) (rem H8 [gp]):=gA;have Jo:aN ke 1 (rem H8 [gp]) (.slice A5 (ct (fs ++ [goal])).length c5) (ct (fs ++ [goal])):=Jo;obtain⟨_,_,x5,e5,l4,pM,nn⟩:=id Jo
 cases e5
 have Nv:=h47.trans gA;refine aa 2 rfl (ab [2,3,4,8,9,26,27,28] ?_);refine aE (fD (fun(i:Nat)(rv:Value)(xs:List Value)=>(ct (fs ++ [goal])).length-i) (fun(i:Nat)(rv:Value)(xs:List Value)=>put (put (put (put (put (put (put (put (emp) 2 (.val (.int .i64 bound))) 3 (.val (.pointer (some ⟨gf,0,none⟩)))) 4 (.box [.int .i64 goal.c,.slice A0 goal.ts.length c0])) 8 (.val (.pointer (some ⟨gp,0,none⟩)))) 9 (.val (.func (.func 48) #[] #[.pointer (some ⟨gf,0,none⟩),.pointer (some ⟨gp,0,none⟩)]))) 26 (.val (.slice A5 (ct (fs ++ [goal])).length c5))) 27 (.val (.int .i64 ((ct (fs ++ [goal])).length:Int)))) 28 (.val (.int .i64 (i:Int)))) (fun(i:Nat)(rv:Value)(xs:List Value) H'=>gh gp H' (.slice (some ⟨gm,0,none⟩) fs.length fs.length) rv (((ct (fs ++ [goal])).take i).map (alV fs goal)) xs∧Heap.le (rem H8 [gp]) (rem H' (gp::aC rv))∧i≤(ct (fs ++ [goal])).length) 0 (.slice none 0 0) [] (⟨hP8,.refl _,Nat.zero_le _⟩) ar ?_);rintro i rv xs H9 ⟨TY,ea,hi⟩;refine ae (aa 1 rfl (ab [2,3,4,8,9,26,27,28,29] ?_));refine ao (aD rfl (fun hb=> ?_) (fun hb=> ?_))
 ·
  have aO:i<(ct (fs ++ [goal])).length:=by simpa using hb
  obtain⟨x,zZ⟩:∃x,(ct (fs ++ [goal]))[i]? = some x:=⟨_,List.getElem?_eq_getElem aO⟩;refine aw (ah [2,3,4,8,9,26,27,28] rfl ?_);refine ao (aE (ae (aS ag rfl rfl rfl rfl rfl (pM.le (ea.trans (bF _ _))) (by rw[Int.toNat_natCast];exact Cc nn zZ) (by omega) (by omega) fun _=> ?_)));refine JY fE rfl ?_;intro gx lB;obtain⟨ti,aj,ak⟩:=vq;refine j9 (g:=gx) (o:=0) (.inl rfl) rfl (bC _ _ _) rfl (by decide) aj ak rfl rfl rfl rfl ?_;obtain⟨abP,mJ,mP⟩:=alN (e:=3) 0 x lB TY;refine ab [2,3,4,8,9,12,26,27,28] ?_
  generalize ins (ins H9 gx (whole [.int .i64 0] 3)) gx {whole [.int .i64 0] 3 with xs:=aL (whole [.int .i64 0] 3).xs 0 [.int .i64 x]}=nh at abP mJ mP⊢
  have gN:=Nv.trans (ea.trans mJ);refine aA rfl (aa 2 rfl (aR ag rfl rfl rfl (cF (bF _ _) mP) (aB rfl rfl (TC (v:=x) (eH.le fc ((jx.trans gN).trans (bF _ _))) (by have:=dV.len;omega)) ?_)));rintro _ _ ⟨Cx,rfl⟩;rw[Cx];refine Li (cap:=[.pointer (some ⟨gx,0,none⟩)]) rfl (CX (cap:=[.pointer (some ⟨gf,0,none⟩),.pointer (some ⟨gp,0,none⟩)]) (args:=[.int .i64 2,.int .i64 (goal.bU x),.func (.func 50) #[] #[.pointer (some ⟨gx,0,none⟩)]]) rfl rfl (abL (g:=fun f=>f.bU x) (cF gN EY) (hv.le gJ (jx.trans gN)) ⟨50,[.pointer (some ⟨gx,0,none⟩)],rfl,fun H9 ea f A c hf jI=>alO (cF ea mP) hf jI⟩ abP (by omega) bO (fun f h=>h.o0 x) (dV.o0 x) (by rw[List.length_map,List.length_take];omega)) (.inl rfl) ?_);rintro _ ju ⟨rfl,alW,aao,Jr,vX⟩;refine au (ah [2,3,4,8,9,26,27,28] rfl ?_);refine aA rfl (aF rfl rfl ⟨by omega,by omega⟩ (aa 1 rfl (au ?_)));exact⟨i+1,_,_,by omega,ar,by rw[uL zZ];exact Jr,ea.trans (mJ.trans vX),by omega⟩
 ·
  have hb:(ct (fs ++ [goal])).length≤i:=by simpa using hb
  obtain rfl:i=(ct (fs ++ [goal])).length:=by omega
  rw[List.take_length]at TY;have gN:=Nv.trans ea;refine aU (ah [2,3,8,9] rfl ?_);refine ae (aa 2 rfl (CX (cap:=[.pointer (some ⟨gf,0,none⟩),.pointer (some ⟨gp,0,none⟩)]) (args:=[.int .i64 1,.int .i64 bound,.func (.func 51) #[] #[]]) rfl rfl (abL (g:=fun f=>f.c) (cF gN EY) (hv.le gJ (jx.trans gN)) ⟨51,[],rfl,fun H9 ea f A c hf jI=>alP⟩ TY (by omega) bO (fun f h=>h.const) gM (by rw[List.length_map];omega)) (.inl rfl) ?_));rintro _ ju ⟨rfl,alW,aao,Jr,vX⟩;have ik:=gN.trans vX;obtain⟨M,AF,hM⟩:=alT (vs:=(ct (fs ++ [goal]))) (b:=bound) bO dV gM kF il;obtain⟨Ar,cr,rfl⟩:=Jr.form;refine ab [3,8] ?_;refine bN .bK [0,1,2,3,4,5,6,7,8,9,10] follows (by kernel_rfl) ?_;refine yw (vs:=[_,_]) ag rfl rfl rfl Jr.cells (aR ag rfl rfl rfl (cF (bF _ _) (cF ik EY)) (aa 1 rfl (gO Tryz.underlying28 cj rfl rfl rfl (by omega) (by omega) (by omega) (by omega) ?_)));intro g13 s0;have mH:=Heap.bI ⟨cR [.bool false,.slice none 0 0,.slice none 0 0] ((fs.length:Int).toNat*3),(fs.length:Int).toNat*3,38,true⟩ s0;refine aW rfl rfl (alG (N:=1) (p:=cN fs (ct (fs ++ [goal])) goal bound) ⟨_,_,rfl,(lW.le P7 ((ik.trans (bF _ _)).trans mH)),Jr.alJ.le (lF 1) mH⟩ alH (by decide) (ajj goal bound (by omega) (by omega)) (by simp[cN]) AF hM) (fun _ _ h=>by first | exact h.le | exact h.1) ?_
  rintro _ Et ⟨Nq,S,f20,B1,m1,e1,B2,m2,e2,Bx,ex,Bd,ed,Br,er,rfl,TZ,aof,Bg,hsx,hsd,W8⟩;have h20:Heap.le H Et:=(((jx.trans ik).trans (bF _ _)).trans mH).trans Nq;refine aa 3 rfl (bm yC rfl ?_);obtain⟨ti,aj,ak⟩:=tG;refine aI (.inl ⟨rfl,rfl⟩) rfl rfl rfl aj ak rfl rfl rfl (aa 1 rfl (ab [13,14] ?_));refine ao ?_
  by_cases dZ:S.status=1
  ·
   skip
   refine ae (aa 1 rfl (aG false rfl rfl (wE rfl) (aa 3 rfl (aG false rfl rfl (wE dZ) (aa 1 rfl (ab [13,56] ?_))))));refine dd rfl (aw (ah [13] rfl ?_));refine ae (aa 4 rfl (ab [6,7] ?_));refine az ⟨.inr rfl,_,.tmp rfl (.tmp rfl (.nil)),?_⟩;refine⟨h20,_,_,_,_,rfl,.inl ⟨rfl,S.x,rfl,?_,hsx,?_⟩⟩
   ·
    rcases TX TZ with ⟨_,_,h9⟩ | ⟨h9,_⟩
    ·rw[h9];simp[cN]
    ·omega
   rcases TX TZ with ⟨_,h9,_⟩ | ⟨h9,_⟩
   ·exact h9
   ·omega
  skip
  refine ae (aa 1 rfl (aG false rfl rfl (wE rfl) (aa 3 rfl (aG true rfl rfl (vx dZ) (aa 1 rfl (ab [13,56] ?_))))));refine cI rfl (ae (aa 2 rfl (ab [6,7] ?_)));refine az ⟨.inr rfl,_,.tmp rfl (.tmp rfl (.nil)),?_⟩;refine⟨h20,_,_,_,_,rfl,.inr ⟨rfl,rfl,rfl,rfl,fun⟨x,hx⟩=> ?_⟩⟩
  rcases TX TZ with ⟨h9,_⟩ | ⟨_,h9⟩
  ·exact dZ h9
  ·exact h9 x hx
def Nw(fs:List aJ)(g:aJ):Prop:=lj fs→eV g→fs.length≤6∧(ct (fs ++ [g])).length≤100
def alX(fs:List aJ)(g:aJ)(H:Heap)(v:Value)(H':Heap):Prop:=Heap.le H H'∧∃A k c b e,v = .tuple #[.slice A k c,.bool b,.int .i64 e]∧
 ((¬(lj fs∧eV g)∧e=1∧b=false∧A=none∧k=0∧c=0)∨
  (lj fs∧eV g∧e=0∧((b=true∧∃x:List Rat,k=x.length∧x.length=fs.length∧aN (dA KX) 3 H' (.slice A k c) x∧(Lp.Ent fs g (fn x)∨Ref fs (fn x)))∨(b=false∧A=none∧k=0∧c=0∧¬zE fs g))))
theorem alY(fs:List aJ):ct (fs ++ [jX])=ct fs:=by
 unfold ct gW;rw[List.flatMap_append];simp[aJ.vars,jX]
theorem abQ{fs:List aJ}(h:lj fs):(ct (fs ++ [jX])).length≤100:=by rw[alY];exact h.vars
theorem abR{H:Heap}{v:Value}{fs:List aJ}{goal:aJ}{A0:Option Addr}{c0:Nat}(hv:kn H v fs)(eH:aN gX 2 H (.slice A0 goal.ts.length c0) goal.ts)(yj:Nw fs goal):
 Fn Tryz.prog 7 #[v,.agg #[.int .i64 goal.c,.slice A0 goal.ts.length c0]] H (alX fs goal H):=by
 obtain⟨A,c,xs,rfl,hc,hr,hx⟩:=id hv;refine aY (args:=[_,_]) Tryz.func7 rfl rfl Tryz.ntmps7 rfl rfl fun w0=> ?_;refine ah [0,1] rfl ?_;refine ae (bZ rfl rfl (aa 3 rfl (ab [0,3] ?_)));refine ao (ae (aa 1 rfl (aB rfl rfl (TE hv) ?_)));rintro _ H1 ⟨bg,b1,rfl,dU⟩
 cases b1
 ·
  skip
  refine aa 6 rfl (ab [0,3,16] ?_);refine cI rfl (ae (aa 3 rfl (ab [4,5,6] ?_)));refine az ⟨.inr rfl,_,.tmp rfl (.tmp rfl (.tmp rfl (.nil))),?_⟩;exact⟨bg,_,_,_,_,_,rfl,.inl ⟨fun h=>(by have h9:=dU.2 h.1;cases h9),rfl,rfl,rfl,rfl,rfl⟩⟩
 ·
  skip
  refine aa 3 rfl (aB rfl rfl (TA (eH.le fc bg)) ?_);rintro _ H2 ⟨e2,b2,rfl,dg⟩;rw[e2]
  cases b2
  ·
   skip
   refine aa 2 rfl (ab [0,3,16] ?_);refine cI rfl (ae (aa 3 rfl (ab [4,5,6] ?_)));refine az ⟨.inr rfl,_,.tmp rfl (.tmp rfl (.tmp rfl (.nil))),?_⟩;exact⟨bg,_,_,_,_,_,rfl,.inl ⟨fun h=>(by have h9:=dg.2 h.2;cases h9),rfl,rfl,rfl,rfl,rfl⟩⟩
  have cE:=dU.1 rfl;have dV:=dg.1 rfl;obtain⟨kS,CG⟩:=yj cE dV;refine aa 2 rfl (ab [0,3,16] ?_);refine dd rfl (aw (ah [0,3] rfl ?_));refine ae (aa 4 rfl (aB rfl rfl (abO (hv.le gJ bg) (eH.le fc bg) cE.ok dV dV.const kS CG) ?_));rintro _ H3 ⟨dK,A3,n3,c3,b3,rfl,fZ⟩;have kP:=bg.trans dK;refine aa 5 rfl (ab [0,7,8] ?_);refine ao ?_
  rcases fZ with ⟨rfl,x,rfl,cY,vo,xx⟩ | ⟨rfl,rfl,rfl,rfl,I9⟩
  ·
   skip
   refine ae (aa 2 rfl (ab [0,7,8,26] ?_));refine dd rfl (aw (ah [7,8] rfl ?_));refine ae (aa 5 rfl (ab [4,5,6] ?_));refine az ⟨.inr rfl,_,.tmp rfl (.tmp rfl (.tmp rfl (.nil))),?_⟩;exact⟨kP,_,_,_,_,_,rfl,.inr ⟨cE,dV,rfl,.inl ⟨rfl,x,rfl,cY,vo,.inl (Z2 xx)⟩⟩⟩
  skip
  refine ae (aa 2 rfl (ab [0,7,8,26] ?_));refine cI rfl (aA rfl (aa 1 rfl (di ag rfl im rfl rfl (aB rfl rfl (abO (goal:=jX) (A0:=none) (c0:=0) (hv.le gJ kP) aN.nil cE.ok Mj (by omega) kS (abQ cE)) ?_))));rintro _ H4 ⟨cM,A4,n4,c4,b4,rfl,xF⟩;have jx:=kP.trans cM;refine aa 5 rfl (au (ah [7,8] rfl ?_));refine ae (aa 5 rfl (ab [4,5,6] ?_));refine az ⟨.inr rfl,_,.tmp rfl (.tmp rfl (.tmp rfl (.nil))),?_⟩
  rcases xF with ⟨rfl,x,rfl,cY,vo,xx⟩ | ⟨rfl,rfl,rfl,rfl,alZ⟩
  ·exact⟨jx,_,_,_,_,_,rfl,.inr ⟨cE,dV,rfl,.inl ⟨rfl,x,rfl,cY,vo,.inr (ajl xx)⟩⟩⟩
  refine⟨jx,_,_,_,_,_,rfl,.inr ⟨cE,dV,rfl,.inr ⟨rfl,rfl,rfl,rfl,fun h=> ?_⟩⟩⟩
  rcases h with ⟨x,h⟩ | ⟨x,h⟩
  ·exact I9 ⟨x,h.RI _⟩
  ·exact alZ (h.RI _)
end Go.aq
namespace Go.aq
open Go.Proofs Num Lp
theorem abS{α:Type}{H:Heap}{v:Value}{l:List α}{g:α→Int}(h:aN cg 3 H v (l.map (fun a=>((g a:Int):Rat))))(hg:∀a,a∈l→-1048576≤g a∧g a≤1048576):aN (dA 1) 3 H v (l.map (fun a=>((g a:Int):Rat))):=h.zC fun q hq=>by
 obtain⟨a,h1,rfl⟩:=List.mem_map.1 hq
 exact rb (hg a h1)
end Go.aq
namespace Go.aq
open Go.Proofs Num Lp
theorem T1{x:Int}:∀{l:List Int}{i:Nat},i≤l.length→(∀(j:Nat)(y:Int),j<i→l[j]? = some y→y<x)→jH l x=l.take i++jH (l.drop i) x
 | l,0,_,_=>rfl
 | [],i+1,h,_=>by simp at h
 | y::l,i+1,h,hl=>by
  have h1:y<x:=hl 0 y (by omega) rfl
  have ih:=T1 (x:=x) (l:=l) (i:=i) (by simpa using h) fun j z hj hz=>hl (j+1) z (by omega) (by simpa using hz)
  rw[jH,if_pos h1,ih];rfl
theorem abT{x:Int}{l:List Int}{i:Nat}(h:i≤l.length)(hl:∀(j:Nat)(y:Int),j<i→l[j]? = some y→y<x)(h2:∀y,l[i]? = some y→x<y):jH l x=(l.take i ++ [x])++l.drop i:=by
 rw[T1 h hl,List.append_assoc]
 congr 1
 by_cases e:i<l.length
 ·rw[List.drop_eq_getElem_cons e]
  have:=h2 _ (List.getElem?_eq_getElem e)
  rw[jH,if_neg (by omega),if_neg (by omega)];rfl
 ·rw[List.drop_eq_nil_of_le (by omega)];rfl
theorem al0{x:Int}{l:List Int}{i:Nat}(hl:∀(j:Nat)(y:Int),j<i→l[j]? = some y→y<x)(h2:l[i]? = some x):jH l x=l:=by
 have e:=(List.getElem?_eq_some_iff.1 h2).1
 have h3:jH (l.drop i) x=l.drop i:=by
  rw[List.drop_eq_getElem_cons e,(List.getElem?_eq_some_iff.1 h2).2,jH,if_neg (Int.lt_irrefl _),if_pos rfl]
 rw[T1 (by omega) hl,h3,List.take_append_drop]
theorem Js{H:Heap}{n:Int}:
 Fn Tryz.prog 23 #[.int .i64 n] H (j8 H (.bool (decide (-1048576≤n∧n≤1048576)))):=by
 refine aY (args:=[_]) Tryz.func23 rfl rfl Tryz.ntmps23 rfl rfl fun w0=> ?_;refine ah [0] rfl ?_;refine ae (aa 1 rfl (ab [0] ?_))
 by_cases h1: -1048576≤n
 ·
  skip
  refine ae (aa 1 rfl (aG true rfl rfl (lT h1) (aa 5 rfl (ab [2] ?_))));refine az ⟨.inr rfl,_,.tmp rfl (.nil),?_⟩;exact⟨rfl,congrArg Value.bool (by simp[h1])⟩
 ·
  skip
  refine ae (aa 1 rfl (aG false rfl rfl (pE (by omega)) (aa 5 rfl (ab [2] ?_))));refine az ⟨.inr rfl,_,.tmp rfl (.nil),?_⟩;exact⟨rfl,congrArg Value.bool (by simp[h1])⟩
theorem Nx{H:Heap}{f:aJ}{A:Option Addr}{c:Nat}(hf:aN gX 2 H (.slice A f.ts.length c) f.ts):
 Fn Tryz.prog 9 #[.agg #[.int .i64 f.c,.slice A f.ts.length c]] H (fun v' H'=>H'=H∧∃b,v' = .bool b∧(b=true↔eV f)):=by
 obtain⟨A',c',xs,e,hc,hr,hx⟩:=id hf
 cases e
 refine aY (args:=[_]) Tryz.func9 rfl rfl Tryz.ntmps9 rfl rfl fun w0=> ?_;refine ah [0] rfl ?_;refine ae (bZ rfl rfl (aa 1 rfl (ab [1] ?_)));refine ao ?_
 by_cases h1: -1048576≤f.c∧f.c≤1048576
 ·
  skip
  by_cases h2:(16:Int)<(f.ts.length:Int)
  ·
   skip
   refine ae (aa 2 rfl (aB rfl rfl (Js.bt (decide_eq_true h1)) ?_));rintro _ H2 ⟨e2,rfl⟩;rw[e2];refine aa 5 rfl (aG true rfl rfl (oB h2) (aa 1 rfl (ab [1,14] ?_)));refine cI rfl (ae (aa 1 rfl (ab [2] ?_)));refine az ⟨.inr rfl,_,.tmp rfl (.nil),?_⟩;exact⟨rfl,false,rfl,⟨(fun h=>by cases h),fun h=>absurd h.len (by omega)⟩⟩
  ·
   skip
   refine ae (aa 2 rfl (aB rfl rfl (Js.bt (decide_eq_true h1)) ?_));rintro _ H2 ⟨e2,rfl⟩;rw[e2];refine aa 5 rfl (aG false rfl rfl (kA (by omega)) (aa 1 rfl (ab [1,14] ?_)));refine dd rfl (aw (ah [1] rfl ?_));refine ao (ae (aa 4 rfl (ab [1,17,18] ?_)));refine aE (fI (fun(i:Nat)=>f.ts.length-i) (fun(i:Nat)=>put (put (put (emp) 1 (.box [.int .i64 f.c,.slice A f.ts.length c])) 17 (.val (.int .i64 (f.ts.length:Int)))) 18 (.val (.int .i64 (i:Int)))) (fun(i:Nat) H'=>H'=H∧i≤f.ts.length∧zY f.ts i) 0 (⟨rfl,Nat.zero_le _,abA _⟩) ar ?_);rintro i H1 ⟨e1,hi,hk⟩;rw[e1];refine ae (aa 1 rfl (ab [1,17,18,19] ?_));refine ao (aD rfl (fun hb=> ?_) (fun hb=> ?_))
   ·
    have aO:i<f.ts.length:=by simpa using hb
    obtain⟨t,ht⟩:∃t,f.ts[i]? = some t:=⟨_,List.getElem?_eq_getElem aO⟩;refine aw (ah [1,17,18] rfl ?_);refine ao (aE (ae (aa 2 rfl (ab [1,3,17,18] ?_))));refine ae (aa 3 rfl (bY ag rfl rfl rfl rfl (hr) rfl (by decide) (xO hx ht) (by omega) (by omega) fun _=>(bm rT rfl ?_)));obtain⟨ti,aj,ak⟩:=J4;refine aI (.inl ⟨rfl,rfl⟩) rfl rfl rfl aj ak rfl rfl rfl (ab [1,3,4,17,18] ?_);refine bN .bK [0,1,2,3,4,5,6,7,8,9,10,11,12,13,14,15,16,17,18,19,20,21,22,23,24,25,26,27,28,29,30,31,32,33,34] follows (gV [0,1,3,7,15,31,63,127,255,511,1023,2047,4095,8191,16383,32767,65535,131071,262143,524287,1048575,2097151,4194303,8388607,16777215,8388607,41943039,134217727,268435455,536870911,8388607,1082130431,4294967295,8589934591,17179869183] (by kernel_rfl)) ?_;refine vr 2 ?_
    by_cases v2:t.2=0
    ·
     skip
     refine aG true rfl rfl (gi v2) (aa 32 rfl (ab [1,17,18,60] ?_));refine cI rfl (ae (aa 1 rfl (ab [2] ?_)));refine az ⟨.inr rfl,_,.tmp rfl (.nil),?_⟩;exact⟨rfl,false,rfl,⟨(fun h=>by cases h),fun h=>absurd v2 (h.term i t ht).1⟩⟩
    skip
    refine aG false rfl rfl (jn v2) (vr 3 ?_)
    by_cases v3: -1048576≤t.2∧t.2≤1048576
    ·
     skip
     refine aW rfl rfl (Js.bt (decide_eq_true v3)) (fun _ _ h=>by first | exact h.le | exact h.1) ?_;rintro _ H2 ⟨e2,rfl⟩;rw[e2];refine vr 5 ?_
     by_cases v1a:t.1 < -1
     ·
      skip
      refine aG true rfl rfl (je v1a) (aa 22 rfl (ab [1,17,18,60] ?_));refine cI rfl (ae (aa 1 rfl (ab [2] ?_)));refine az ⟨.inr rfl,_,.tmp rfl (.nil),?_⟩;exact⟨rfl,false,rfl,⟨(fun h=>by cases h),fun h=>absurd (h.term i t ht).2.2.2.1 (by omega)⟩⟩
     skip
     refine aG false rfl rfl (iq (by omega)) (vr 4 ?_)
     by_cases v1b:3000≤t.1
     ·
      skip
      refine aG true rfl rfl (lT v1b) (aa 17 rfl (ab [1,17,18,60] ?_));refine cI rfl (ae (aa 1 rfl (ab [2] ?_)));refine az ⟨.inr rfl,_,.tmp rfl (.nil),?_⟩;exact⟨rfl,false,rfl,⟨(fun h=>by cases h),fun h=>absurd (h.term i t ht).2.2.2.2 (by omega)⟩⟩
     skip
     refine aG false rfl rfl (pE (by omega)) (vr 3 ?_)
     by_cases v4:i=0
     ·
      skip
      refine aG false rfl rfl (kA (by omega)) (aa 13 rfl (ab [1,17,18,60] ?_));refine dd rfl (aw (ah [1,17,18] rfl ?_));refine aA rfl (aF rfl rfl ⟨by omega,by omega⟩ (aa 1 rfl (au ?_)));exact⟨i+1,by omega,ar,rfl,by omega,hk.next ht ⟨by omega,by omega⟩ v2 v3 fun j a hj ha=>by omega⟩
     obtain⟨a,ha⟩:∃a,f.ts[i-1]? = some a:=⟨_,List.getElem?_eq_getElem (by omega)⟩;have TB:=xO hx ha;refine aG true rfl rfl (oB (by omega)) (aa 4 rfl (cQ rfl rfl ⟨by omega,by omega⟩ (jW ag rfl rfl rfl rfl rfl rfl rfl (hr) (by rw[Z7 (by omega)];exact TB 0 _ rfl) (by omega) (by omega) fun _ _=> ?_)));refine vr 2 ?_
     by_cases v5:a.1<t.1
     ·
      skip
      refine aG false rfl rfl (pE v5) (aa 2 rfl (ab [1,17,18,60] ?_));refine dd rfl (aw (ah [1,17,18] rfl ?_));refine aA rfl (aF rfl rfl ⟨by omega,by omega⟩ (aa 1 rfl (au ?_)));exact⟨i+1,by omega,ar,rfl,by omega,hk.next ht ⟨by omega,by omega⟩ v2 v3 fun j b hj Jm=>by(obtain rfl:j=i-1:=by omega);rw[ha]at Jm;cases Jm;exact v5⟩
     skip
     refine aG true rfl rfl (lT (by omega)) (aa 2 rfl (ab [1,17,18,60] ?_));refine cI rfl (ae (aa 1 rfl (ab [2] ?_)));refine az ⟨.inr rfl,_,.tmp rfl (.nil),?_⟩;exact⟨rfl,false,rfl,⟨(fun h=>by cases h),fun h=>absurd (h.Ix (i-1) a t ha (by rw[show i-1+1=i by omega];exact ht)) v5⟩⟩
    skip
    refine aW rfl rfl (Js.bf (decide_eq_false v3)) (fun _ _ h=>by first | exact h.le | exact h.1) ?_;rintro _ H2 ⟨e2,rfl⟩;rw[e2];refine aa 28 rfl (ab [1,17,18,60] ?_);refine cI rfl (ae (aa 1 rfl (ab [2] ?_)));refine az ⟨.inr rfl,_,.tmp rfl (.nil),?_⟩;exact⟨rfl,false,rfl,⟨(fun h=>by cases h),fun h=>absurd ⟨(h.term i t ht).2.1,(h.term i t ht).2.2.1⟩ v3⟩⟩
   have hb:f.ts.length≤i:=by simpa using hb
   refine aU (ah [] rfl ?_);refine ae (aa 1 rfl (ab [2] ?_));refine az ⟨.inr rfl,_,.tmp rfl (.nil),?_⟩
   obtain rfl:i=f.ts.length:=by omega
   exact⟨rfl,true,rfl,⟨fun _=>hk.lin h1 (by omega),fun _=>rfl⟩⟩
 ·
  skip
  refine ae (aa 2 rfl (aB rfl rfl (Js.bf (decide_eq_false h1)) ?_));rintro _ H2 ⟨e2,rfl⟩;rw[e2];refine aa 7 rfl (ab [1,14] ?_);refine cI rfl (ae (aa 1 rfl (ab [2] ?_)));refine az ⟨.inr rfl,_,.tmp rfl (.nil),?_⟩;exact⟨rfl,false,rfl,⟨(fun h=>by cases h),fun h=>absurd h.const h1⟩⟩
theorem Ny{H:Heap}{f:aJ}{A:Option Addr}{c:Nat}{v:Int}(hf:aN gX 2 H (.slice A f.ts.length c) f.ts)(hl:f.ts.length≤1000000):
 Fn Tryz.prog 30 #[.agg #[.int .i64 f.c,.slice A f.ts.length c],.int .i64 v] H (j8 H (.int .i64 (f.bU v))):=by
 obtain⟨A',c',xs,e,hc,hr,hx⟩:=id hf
 cases e
 refine aY (args:=[_,_]) Tryz.func30 rfl rfl Tryz.ntmps30 rfl rfl fun w0=> ?_;refine ah [0,1] rfl ?_;refine ae (bZ rfl rfl (aa 1 rfl (ab [1,2] ?_)));refine ao (ae (aa 4 rfl (ab [1,2,8,9] ?_)));refine aE (fI (fun(i:Nat)=>f.ts.length-i) (fun(i:Nat)=>put (put (put (put (emp) 1 (.val (.int .i64 v))) 2 (.box [.int .i64 f.c,.slice A f.ts.length c])) 8 (.val (.int .i64 (f.ts.length:Int)))) 9 (.val (.int .i64 (i:Int)))) (fun(i:Nat) H'=>H'=H∧i≤f.ts.length∧f.bU v=q6 (f.ts.drop i) v) 0 (⟨rfl,Nat.zero_le _,rfl⟩) ar ?_);rintro i H1 ⟨e1,hi,hk⟩;rw[e1];refine ae (aa 1 rfl (ab [1,2,8,9,10] ?_));refine ao (aD rfl (fun hb=> ?_) (fun hb=> ?_))
 ·
  have aO:i<f.ts.length:=by simpa using hb
  obtain⟨t,ht⟩:∃t,f.ts[i]? = some t:=⟨_,List.getElem?_eq_getElem aO⟩
  have hd:f.ts.drop i=t::f.ts.drop (i+1):=by rw[List.drop_eq_getElem_cons aO,(List.getElem?_eq_some_iff.1 ht).2]
  refine aw (ah [1,2,8,9] rfl ?_);refine ao (aE (ae (aa 2 rfl (ab [1,2,5,8,9] ?_))));refine ae (aa 3 rfl (jW ag rfl rfl rfl rfl rfl rfl rfl (hr) (xO hx ht 0 _ rfl) (by omega) (by omega) fun _ _=>(aa 2 rfl (ab [1,2,5,8,9,19] ?_))));refine aD rfl (fun hb=> ?_) (fun hb=> ?_)
  ·
   have h2:t.1=v:=by simpa using hb
   refine ae (aa 3 rfl (jW ag rfl rfl rfl rfl rfl rfl rfl (hr) (xO hx ht 1 _ rfl) (by omega) (by omega) fun _ _=>(aa 1 rfl (ab [4] ?_))));refine az ⟨.inr rfl,_,.tmp rfl (.nil),?_⟩;exact⟨rfl,by rw[hk,hd,q6,if_pos h2];rfl⟩
  ·
   have h2:¬t.1=v:=by simpa using hb
   refine aw (ah [1,2,8,9] rfl ?_);refine aA rfl (aF rfl rfl ⟨by omega,by omega⟩ (aa 1 rfl (au ?_)));exact⟨i+1,by omega,ar,rfl,by omega,by rw[hk,hd,q6,if_neg h2]⟩
 ·
  have hb:f.ts.length≤i:=by simpa using hb
  refine aU (ah [] rfl ?_);refine ae (aa 1 rfl (ab [4] ?_));refine az ⟨.inr rfl,_,.tmp rfl (.nil),?_⟩;exact⟨rfl,by rw[hk,List.drop_eq_nil_of_le hb];rfl⟩
theorem al1{H:Heap}{l:List Int}{A:Option Addr}{c:Nat}{x:Int}(hv:aN ke 1 H (.slice A l.length c) l)(hl:l.length≤2000000):
 Fn Tryz.prog 53 #[.slice A l.length c,.int .i64 x] H (IC (jH l x) H):=by
 obtain⟨A',c',xs,e,hc,hr,hx⟩:=id hv
 cases e
 refine aY (args:=[_,_]) Tryz.func53 rfl rfl Tryz.ntmps53 rfl rfl fun w0=> ?_;refine ah [0,1] rfl ?_;refine ae (aa 1 rfl (ab [0,1] ?_));refine ae (aa 1 rfl (ab [0,1,5] ?_));refine ao (aE (fI (fun(i:Nat)=>l.length-i) (fun(i:Nat)=>put (put (put (emp) 0 (.val (.slice A l.length c))) 1 (.val (.int .i64 x))) 5 (.val (.int .i64 (i:Int)))) (fun(i:Nat) H'=>H'=H∧i≤l.length∧∀(j:Nat)(y:Int),j<i→l[j]? = some y→y<x) 0 (⟨rfl,Nat.zero_le _,fun j y h=>by omega⟩) ar ?_));rintro i H1 ⟨e1,hi,hk⟩;rw[e1];refine ao ?_
 by_cases aO:i<l.length
 ·
  obtain⟨y,hy⟩:∃y,l[i]? = some y:=⟨_,List.getElem?_eq_getElem aO⟩;refine ae (aa 3 rfl (aG true rfl rfl (je (by omega)) (aa 3 rfl (aS ag rfl rfl rfl rfl rfl (hr) (by rw[Int.toNat_natCast];exact Cc hx hy) (by omega) (by omega) fun _=> ?_))));refine aa 3 rfl (ab [0,1,5,17] ?_);refine aD rfl (fun hb=> ?_) (fun hb=> ?_)
  ·
   have h2:y<x:=by simpa using hb
   refine aw (ah [0,1,5] rfl ?_);refine aE (aA rfl (aa 1 rfl (aF rfl rfl ⟨by omega,by omega⟩ (aa 1 rfl (au ?_)))));exact⟨i+1,by omega,ar,rfl,by omega,fun j y9 hj T4=>by by_cases e:j<i;exact hk j y9 e T4;(obtain rfl:j=i:=by omega);rw[hy]at T4;cases T4;exact h2⟩
  ·
   have h2:¬y<x:=by simpa using hb
   refine aU (ah [0,1,5] rfl ?_);refine ao (ae (aa 3 rfl (aG true rfl rfl (je (by omega)) (aa 3 rfl (aS ag rfl rfl rfl rfl rfl (hr) (by rw[Int.toNat_natCast];exact Cc hx hy) (by omega) (by omega) fun _=> ?_)))));refine aa 3 rfl (ab [0,1,5,31] ?_);refine aD rfl (fun hb=> ?_) (fun hb=> ?_)
   ·
    have h3:y=x:=by simpa using hb
    refine ae (aa 2 rfl (ab [4] ?_));refine az ⟨.inr rfl,_,.tmp rfl (.nil),?_⟩;subst h3;exact⟨.refl _,by rw[al0 hk hy];exact⟨A,c,rfl,hv⟩⟩
   have h3:¬y=x:=by simpa using hb
   refine aw (ah [0,1,5] rfl ?_);refine bN .bK [0,1,2,4,7,8,9,3,5,6,10,11] follows (by kernel_rfl) ?_;refine aa 2 rfl (rR ag rfl rfl (.inl ⟨rfl,rfl⟩) (.inr ⟨_,_,rfl,rfl⟩) (by omega) (by omega) (aa 3 rfl (rR ag rfl rfl (.inr ⟨_,_,rfl,rfl⟩) (.inl ⟨rfl,rfl⟩) (by omega) (by omega) (B9 lb Cb (by decide) Tryz.underlying49 fE rfl rfl (zD H) (by rw[B8,oO];exact hv.upto hi) (by rw[List.length_nil,List.length_take];omega) (by rw[List.length_nil,List.length_take];omega) ?_))));intro v3 H3 y3 uQ _;rw[List.nil_append]at uQ;refine cS Tryz.underlying49 fE rfl rfl rfl rfl rfl rfl rfl ?_;intro gb a6;refine Cd lb Cb Tryz.underlying49 fE rfl rfl uQ a6 (show ke _ [_] x from rfl) rfl (by rw[List.length_take];omega) (by rw[List.length_take];omega) ?_;intro v6 H6 y6 iJ _;refine B9 lb Cb (by decide) Tryz.underlying49 fE rfl rfl iJ ((hv.le lb iJ.base).from hi) (by rw[List.length_append,List.length_take,List.length_drop,List.length_singleton];omega) (by rw[List.length_append,List.length_take,List.length_drop,List.length_singleton];omega) ?_;intro v10 nh y10 nD _;have nD:=nD.cast (abT hi hk fun z hz=>by rw[hy]at hz;cases hz;omega).symm;obtain⟨T6,T7,qO⟩:=nD.form;refine aa 1 rfl (ab [4] ?_);refine az ⟨.inr rfl,_,.tmp rfl (.nil),?_⟩
   exact⟨nD.le,T6,T7,qO,by rw[←qO];exact nD.sl lb⟩
 ·
  skip
  refine ae (aa 3 rfl (aG false rfl rfl (iq (by omega)) (aa 8 rfl (ab [0,1,5,17] ?_))));refine dd rfl (aU (ah [0,1,5] rfl ?_));refine ao (ae (aa 3 rfl (aG false rfl rfl (iq (by omega)) (aa 8 rfl (ab [0,1,5,31] ?_)))));refine dd rfl (aw (ah [0,1,5] rfl ?_));refine bN .bK [0,1,2,4,7,8,9,3,5,6,10,11] follows (by kernel_rfl) ?_;refine aa 2 rfl (rR ag rfl rfl (.inl ⟨rfl,rfl⟩) (.inr ⟨_,_,rfl,rfl⟩) (by omega) (by omega) (aa 3 rfl (rR ag rfl rfl (.inr ⟨_,_,rfl,rfl⟩) (.inl ⟨rfl,rfl⟩) (by omega) (by omega) (B9 lb Cb (by decide) Tryz.underlying49 fE rfl rfl (zD H) (by rw[B8,oO];exact hv.upto hi) (by rw[List.length_nil,List.length_take];omega) (by rw[List.length_nil,List.length_take];omega) ?_))));intro v3 H3 y3 uQ _;rw[List.nil_append]at uQ;refine cS Tryz.underlying49 fE rfl rfl rfl rfl rfl rfl rfl ?_;intro gb a6;refine Cd lb Cb Tryz.underlying49 fE rfl rfl uQ a6 (show ke _ [_] x from rfl) rfl (by rw[List.length_take];omega) (by rw[List.length_take];omega) ?_;intro v6 H6 y6 iJ _;refine B9 lb Cb (by decide) Tryz.underlying49 fE rfl rfl iJ ((hv.le lb iJ.base).from hi) (by rw[List.length_append,List.length_take,List.length_drop,List.length_singleton];omega) (by rw[List.length_append,List.length_take,List.length_drop,List.length_singleton];omega) ?_
  intro v10 nh y10 nD _;have nD:=nD.cast (abT hi hk fun z hz=>by have:=(List.getElem?_eq_some_iff.1 hz).1;omega).symm;obtain⟨T6,T7,qO⟩:=nD.form;refine aa 1 rfl (ab [4] ?_);refine az ⟨.inr rfl,_,.tmp rfl (.nil),?_⟩;exact⟨nD.le,T6,T7,qO,by rw[←qO];exact nD.sl lb⟩
theorem Nz{H:Heap}{v:Value}{fs:List aJ}(hv:kn H v fs)(h1:fs.length≤1000)(h2:∀f,f∈fs→f.ts.length≤1000):
 Fn Tryz.prog 22 #[v] H (IC (ct fs) H):=by
 obtain⟨A,c,xs,rfl,hc,hr,hx⟩:=id hv
 have hmul:fs.length*1000≤1000*1000:=Nat.mul_le_mul_right _ h1;refine aY (args:=[_]) Tryz.func22 rfl rfl Tryz.ntmps22 rfl rfl fun w0=> ?_;refine ah [0] rfl ?_;refine ae (aa 1 rfl (ab [0] ?_));refine ae (aa 1 rfl (ab [0,3] ?_));refine ao (ae (aa 3 rfl (ab [0,3,7,8] ?_)));refine aE (fX (fun(i:Nat)(w:Option Addr×Nat×List Int)=>fs.length-i) (fun(i:Nat)(w:Option Addr×Nat×List Int)=>put (put (put (put (emp) 0 (.val (.slice A fs.length c))) 3 (.val (.slice w.1 w.2.2.length w.2.1))) 7 (.val (.int .i64 (fs.length:Int)))) 8 (.val (.int .i64 (i:Int)))) (fun(i:Nat)(w:Option Addr×Nat×List Int) H'=>Heap.le H H'∧w.2.2=ct (fs.take i)∧aN ke 1 H' (.slice w.1 w.2.2.length w.2.1) w.2.2∧i≤fs.length) 0 (none,0,[]) (⟨.refl _,rfl,aN.nil,Nat.zero_le _⟩) ar ?_);rintro i w H1 ⟨bg,hw,hs,hi⟩;obtain⟨W,cw,l⟩:=w
 simp only at hw hs
 refine ae (aa 1 rfl (ab [0,3,7,8,9] ?_));refine ao (aD rfl (fun hb=> ?_) (fun hb=> ?_))
 ·
  have aO:i<fs.length:=by simpa using hb
  obtain⟨f,hf⟩:∃f,fs[i]? = some f:=⟨_,List.getElem?_eq_getElem aO⟩;have jI:=h2 f (List.mem_of_getElem? hf);obtain⟨B,cb,nE,kt⟩:=uO hx hf;obtain⟨B',EL,xb,e,DS,fJ,wx⟩:=id nE
  cases e
  have hlv:=Z8 h2 i
  have aog:(f.ts.map (·.1)).length=f.ts.length:=by rw[List.length_map]
  refine aw (ah [0,3,7,8] rfl ?_);refine ao (aE (ae (aa 2 rfl (ab [0,3,4,7,8] ?_))));refine ae (aa 2 rfl (jW ag rfl rfl rfl rfl rfl rfl rfl (hr.le bg) (kt 1 _ rfl) (by omega) (by omega) fun _ _=>(aa 2 rfl (ab [0,3,4,7,8,16,17] ?_))));refine aE (fX (fun(k:Nat)(w:Option Addr×Nat×List Int)=>f.ts.length-k) (fun(k:Nat)(w:Option Addr×Nat×List Int)=>put (put (put (put (put (put (put (emp) 0 (.val (.slice A fs.length c))) 3 (.val (.slice w.1 w.2.2.length w.2.1))) 4 (.val (.int .i64 (i:Int)))) 7 (.val (.int .i64 (fs.length:Int)))) 8 (.val (.int .i64 (i:Int)))) 16 (.val (.int .i64 (f.ts.length:Int)))) 17 (.val (.int .i64 (k:Int)))) (fun(k:Nat)(w:Option Addr×Nat×List Int) H'=>Heap.le H H'∧w.2.2=(gW (fs.take i)++(f.ts.take k).map (·.1)).foldl jH []∧aN ke 1 H' (.slice w.1 w.2.2.length w.2.1) w.2.2∧k≤f.ts.length) 0 (W,cw,l) (⟨bg,by rw[hw,show (f.ts.take 0).map (·.1) = []from rfl,List.append_nil];rfl,hs,Nat.zero_le _⟩) ar ?_);rintro k w H2 ⟨cA,jE,lW,hk⟩;obtain⟨W2,CF,l2⟩:=w
  simp only at jE lW
  have tI:l2.length≤1002000:=by
   have h9:=RG (gW (fs.take i)++(f.ts.take k).map (·.1)) [];rw[←jE,List.length_append,List.length_map,List.length_take]at h9
   simp at h9;omega
  refine ae (aa 1 rfl (ab [0,3,4,7,8,16,17,18] ?_));refine ao (aD rfl (fun hb=> ?_) (fun hb=> ?_))
  ·
   have fV:k<f.ts.length:=by simpa using hb
   obtain⟨t,ht⟩:∃t,f.ts[k]? = some t:=⟨_,List.getElem?_eq_getElem fV⟩;refine aw (ah [0,3,4,7,8,16,17] rfl ?_);refine ao (aE (ae (aa 2 rfl (ab [0,3,4,5,7,8,16,17] ?_))));refine aA rfl (aa 3 rfl (jW ag rfl rfl rfl rfl rfl rfl rfl (hr.le cA) (kt 1 _ rfl) (by omega) (by omega) fun _ _=>(aa 1 rfl (jW ag rfl rfl rfl rfl rfl rfl rfl (fJ.le cA) (xO wx ht 0 _ rfl) (by omega) (by omega) fun _ _=>(aB rfl rfl (al1 (l:=l2) (x:=t.1) lW (by omega)) ?_)))));rintro _ H3 ⟨dK,W3,cw3,rfl,BC⟩;refine aa 1 rfl (au (ah [0,3,4,7,8,16,17] rfl ?_));refine aA rfl (aF rfl rfl ⟨by omega,by omega⟩ (aa 1 rfl (au ?_)));exact⟨k+1,(_,_,_),by omega,ar,cA.trans dK,by rw[uL ht,←List.append_assoc,List.foldl_append,←jE];rfl,BC,by omega⟩
  ·
   have hb:f.ts.length≤k:=by simpa using hb
   obtain rfl:k=f.ts.length:=by omega
   rw[List.take_length,show f.ts.map (·.1)=f.vars from rfl,←Z6 hf]at jE;refine aU (ah [0,3,7,8] rfl ?_);refine aA rfl (aF rfl rfl ⟨by omega,by omega⟩ (aa 1 rfl (au ?_)));exact⟨i+1,(_,_,_),by omega,ar,cA,by rw[jE];rfl,lW,by omega⟩
 ·
  have hb:fs.length≤i:=by simpa using hb
  obtain rfl:i=fs.length:=by omega
  rw[List.take_length]at hw;subst hw;refine aU (ah [3] rfl ?_);refine ae (aa 2 rfl (ab [2] ?_));refine az ⟨.inr rfl,_,.tmp rfl (.nil),?_⟩;exact⟨bg,W,cw,rfl,hs⟩
theorem NA{H:Heap}{v:Value}{fs:List aJ}(hv:kn H v fs):
 Fn Tryz.prog 8 #[v] H (fun v' H'=>Heap.le H H'∧∃b,v' = .bool b∧(b=true↔lj fs)):=by
 obtain⟨A,c,xs,rfl,hc,hr,hx⟩:=id hv;refine aY (args:=[_]) Tryz.func8 rfl rfl Tryz.ntmps8 rfl rfl fun w0=> ?_;refine ah [0] rfl ?_;refine ae (aa 1 rfl (ab [0] ?_));refine ao (ae (aa 3 rfl (ab [0,6] ?_)));refine aD rfl (fun hb=> ?_) (fun hb=> ?_)
 ·
  have h1:¬fs.length≤200:=by have h9:(200:Int)<fs.length:=(by simpa using hb);omega
  refine ae (aa 1 rfl (ab [2] ?_));refine az ⟨.inr rfl,_,.tmp rfl (.nil),?_⟩;exact⟨.refl _,false,rfl,⟨(fun h=>by cases h),fun h=>absurd h.len h1⟩⟩
 ·
  have h1:fs.length≤200:=by have h9:(fs.length:Int)≤200:=(by simpa using hb);omega
  refine aw (ah [0] rfl ?_);refine ao (ae (aa 3 rfl (ab [0,8,9] ?_)));refine aE (fI (fun(i:Nat)=>fs.length-i) (fun(i:Nat)=>put (put (put (emp) 0 (.val (.slice A fs.length c))) 8 (.val (.int .i64 (fs.length:Int)))) 9 (.val (.int .i64 (i:Int)))) (fun(i:Nat) H'=>H'=H∧i≤fs.length∧∀(k:Nat)(f:aJ),k<i→fs[k]? = some f→eV f) 0 (⟨rfl,Nat.zero_le _,fun k f h=>by omega⟩) ar ?_);rintro i H1 ⟨e1,hi,hk⟩;rw[e1];refine ae (aa 1 rfl (ab [0,8,9,10] ?_));refine ao (aD rfl (fun hb=> ?_) (fun hb=> ?_))
  ·
   have aO:i<fs.length:=by simpa using hb
   obtain⟨f,hf⟩:∃f,fs[i]? = some f:=⟨_,List.getElem?_eq_getElem aO⟩;obtain⟨B,cb,nE,kt⟩:=uO hx hf;refine aw (ah [0,8,9] rfl ?_);refine ao (aE (ae (aa 2 rfl (ab [0,3,8,9] ?_))));refine ae (aa 2 rfl (bY ag rfl rfl rfl rfl (hr) rfl (by decide) (kt) (by omega) (by omega) fun _=>(aB rfl rfl (Nx nE) ?_)));rintro _ H3 ⟨e3,b3,rfl,fZ⟩;rw[e3];refine aa 1 rfl (ab [0,8,9,17] ?_);refine aD rfl (fun hb=> ?_) (fun hb=> ?_)
   ·
    have sw:¬b3=true:=by simpa using hb
    refine ae (aa 1 rfl (ab [2] ?_));refine az ⟨.inr rfl,_,.tmp rfl (.nil),?_⟩;exact⟨.refl _,false,rfl,⟨(fun h=>by cases h),fun h=>absurd (fZ.2 (h.ok i f hf)) sw⟩⟩
   have sw:b3=true:=by simpa using hb
   refine aw (ah [0,8,9] rfl ?_);refine aA rfl (aF rfl rfl ⟨by omega,by omega⟩ (aa 1 rfl (au ?_)));exact⟨i+1,by omega,ar,rfl,by omega,fun k f9 h9 rp=>by by_cases e:k<i;exact hk k f9 e rp;(obtain rfl:k=i:=by omega);rw[hf]at rp;cases rp;exact fZ.1 sw⟩
  have hb:fs.length≤i:=by simpa using hb
  have fm:∀(k:Nat)(f:aJ),fs[k]? = some f→eV f:=fun k f h=>hk k f (by have:=(List.getElem?_eq_some_iff.1 h).1;omega) h;refine aU (ah [0] rfl ?_);refine ae (aa 1 rfl (aB rfl rfl (Nz hv (by omega) (fun f hf=>by obtain⟨k,h9⟩:=List.getElem?_of_mem hf;have:=(fm k f h9).len;omega)) ?_));rintro _ H4 ⟨cM,A4,c4,rfl,zf⟩;refine aa 3 rfl (ab [2] ?_);refine az ⟨.inr rfl,_,.tmp rfl (.nil),?_⟩;exact⟨cM,_,rfl,⟨fun h=>⟨h1,fm,by have h9:((ct fs).length:Int)≤100:=(by simpa using h);omega⟩,fun h=>by have h9:=h.vars;simp;omega⟩⟩
end Go.aq
namespace Go.aq
open Go.Proofs Num Lp
def T9(m n:Nat)(fs:List aJ):Prop:=fs.length≤m∧∀f,f∈fs→f.ts.length≤n
theorem al2{fs:List aJ}{g:aJ}(h:T9 6 4 fs)(hg:eV g):fs.length≤6∧(ct (fs ++ [g])).length≤100:=by
 refine⟨h.1,?_⟩
 have h1:=ZZ (fs ++ [g])
 have h2:(gW (fs ++ [g])).length=(gW fs).length+(gW [g]).length:=by unfold gW;rw[List.flatMap_append,List.length_append]
 have h3:=Iy h.2
 have h4:=Iy (fs:=[g]) (k:=16) fun f hf=>by rw[List.mem_singleton.1 hf];exact hg.len
 have h5:=h.1
 simp only[List.length_singleton]at h4
 omega
theorem abU{H:Heap}{gb:Nat}(a6:H gb=none){a:aJ}{A:Option Addr}{ca:Nat}(ha:aN gX 2 H (.slice A a.ts.length ca) a.ts):Heap.le H (ins H gb (whole (ee [.agg #[.int .i64 a.c,.slice A a.ts.length ca]]) 25))∧kn (ins H gb (whole (ee [.agg #[.int .i64 a.c,.slice A a.ts.length ca]]) 25)) (.slice (some ⟨gb,0,none⟩) 1 1) [a]:=by
 have bg:=Heap.bI (whole (ee [.agg #[.int .i64 a.c,.slice A a.ts.length ca]]) 25) a6
 exact⟨bg,EE rfl (jq (show o6 _ [_,_] a from⟨A,ca,rfl,ha.le fc bg⟩) rfl)⟩
theorem abV{H:Heap}{gb:Nat}(a6:H gb=none){a b:aJ}{A B:Option Addr}{ca cb:Nat}(ha:aN gX 2 H (.slice A a.ts.length ca) a.ts)(hb:aN gX 2 H (.slice B b.ts.length cb) b.ts):Heap.le H (ins H gb (whole (ee [.agg #[.int .i64 a.c,.slice A a.ts.length ca],.agg #[.int .i64 b.c,.slice B b.ts.length cb]]) 25))∧kn (ins H gb (whole (ee [.agg #[.int .i64 a.c,.slice A a.ts.length ca],.agg #[.int .i64 b.c,.slice B b.ts.length cb]]) 25)) (.slice (some ⟨gb,0,none⟩) 2 2) [a,b]:=by
 have bg:=Heap.bI (whole (ee [.agg #[.int .i64 a.c,.slice A a.ts.length ca],.agg #[.int .i64 b.c,.slice B b.ts.length cb]]) 25) a6
 exact⟨bg,EE rfl (Rw (show o6 _ [_,_] a from⟨A,ca,rfl,ha.le fc bg⟩) rfl (jq (show o6 _ [_,_] b from⟨B,cb,rfl,hb.le fc bg⟩) rfl))⟩
theorem al3{H:Heap}{v gv:Value}{fs gs:List aJ}(hv:kn H v fs)(hg:kn H gv gs):
 Fn Tryz.prog 6 #[v,gv] H (fun v' H'=>H'=H∧∃b,v' = .bool b∧(b=true↔T9 6 4 fs∧T9 4 4 gs)):=by
 obtain⟨A,c,xs,rfl,hc,hr,hx⟩:=id hv
 obtain⟨B,d,ys,rfl,hd,hs,hy⟩:=id hg;refine aY (args:=[_,_]) Tryz.func6 rfl rfl Tryz.ntmps6 rfl rfl fun w0=> ?_;refine ah [0,1] rfl ?_;refine ae (aa 1 rfl (ab [0,1] ?_));refine ae (aa 1 rfl (aB rfl rfl (abC (m:=6) (n:=4) hv (by omega)) ?_));rintro _ H2 ⟨e2,b2,rfl,dg⟩;rw[e2]
 cases b2
 ·
  skip
  refine aa 5 rfl (ab [4] ?_);refine az ⟨.inr rfl,_,.tmp rfl (.nil),?_⟩;exact⟨rfl,false,rfl,⟨(fun h=>by cases h),fun h=>(by have h9:=dg.2 h.1;cases h9)⟩⟩
 ·
  skip
  refine aa 2 rfl (aB rfl rfl (abC (m:=4) (n:=4) hg (by omega)) ?_);rintro _ H3 ⟨e3,b3,rfl,fZ⟩;rw[e3];refine aa 2 rfl (ab [4] ?_);refine az ⟨.inr rfl,_,.tmp rfl (.nil),?_⟩;exact⟨rfl,b3,rfl,fZ.trans ⟨fun h=>⟨dg.1 rfl,h⟩,fun h=>h.2⟩⟩
end Go.aq
namespace Go.aq
open Go.Proofs Num Lp
def u6:aJ:=⟨0,[(0,1)]⟩
def CH:aJ:=⟨-1,[(1,1)]⟩
def rE:aJ:=⟨-2,[(0,-1),(1,1)]⟩
def CI:aJ:=⟨-1,[]⟩
theorem abW{c v a:Int}(hc: -1048576≤c∧c≤1048576)(h:a≠0∧-1048576≤a∧a≤1048576∧-1≤v∧v<3000):eV ⟨c,[(v,a)]⟩:=
 ⟨hc,by show 1≤16;decide,fun i t ht=>by
  match i,ht with
  | 0,ht=>cases ht;exact h
  | i+1,ht=>simp at ht,fun i x y _ hy=>by simp at hy⟩
theorem al4:eV u6:=abW (by decide) (by decide)
theorem abX:eV CH:=abW (by decide) (by decide)
theorem al5:eV CI:=⟨by decide,by decide,fun i t h=>by simp[CI]at h,fun i a b h=>by simp[CI]at h⟩
theorem al6:eV rE:=by
 refine⟨by decide,by decide,fun i t ht=> ?_,fun i a b ha hb=> ?_⟩
 ·match i,ht with
  | 0,ht=>cases ht;decide
  | 1,ht=>cases ht;decide
  | i+2,ht=>simp[rE]at ht
 ·match i,ha,hb with
  | 0,ha,hb=>cases ha;cases hb;decide
  | i+1,ha,hb=>simp[rE]at hb
theorem abY:lj [u6,rE]:=by
 refine⟨by decide,fun i f hf=> ?_,by decide⟩
 match i,hf with
 | 0,hf=>cases hf;exact al4
 | 1,hf=>cases hf;exact al6
 | i+2,hf=>simp at hf
theorem al7:lj [CI]:=by
 refine⟨by decide,fun i f hf=> ?_,by decide⟩
 match i,hf with
 | 0,hf=>cases hf;exact al5
 | i+1,hf=>simp at hf
theorem Ua{x:Nat→Rat}(h0:x 0=1)(h1:x 1=1):Lp.Ent [u6,rE] CH x:=by
 refine⟨fun i hi=> ?_,fun v=> ?_,?_⟩
 ·match i,hi with
  | 0,_=>rw[h0];decide
  | 1,_=>rw[h1];decide
 ·show 0+x 0*(((nth [u6,rE] 0).bU v:Int):Rat)+x 1*(((nth [u6,rE] 1).bU v:Int):Rat)=_
  have e0:(nth [u6,rE] 0).bU v=if (0:Int)=v then 1 else 0:=rfl
  have e1:(nth [u6,rE] 1).bU v=if (0:Int)=v then -1 else if (1:Int)=v then 1 else 0:=rfl
  have e2:CH.bU v=if (1:Int)=v then 1 else 0:=rfl
  rw[h0,h1,e0,e1,e2]
  by_cases k0:(0:Int)=v
  ·subst k0;decide +kernel
  ·by_cases k1:(1:Int)=v
   ·subst k1;decide +kernel
   ·rw[if_neg k0,if_neg k0,if_neg k1];decide +kernel
 ·show 0+x 0*((0:Int):Rat)+x 1*((-2:Int):Rat)≤((-1:Int):Rat)
  rw[h0,h1];decide +kernel
theorem al8:zE [u6,rE] CH:= .inl ⟨fun _=>1,Ua rfl rfl⟩
theorem al9:TN [u6,rE] CH [1,1]:=⟨abY,abX,⟨rfl,(Ua (x:=fn [1,1]) rfl rfl).pos⟩,.inl (Ua rfl rfl)⟩
theorem ama:TO [CI] [1]:=by
 have hp:uN 1 (fn [1]):=fun i hi=>by
  obtain rfl:i=0:=by omega
  decide +kernel
 refine⟨al7,⟨rfl,hp⟩,hp,fun v=> ?_,?_⟩
 ·show 0+(1:Rat)*((0:Int):Rat)=0
  decide +kernel
 ·show 0+(1:Rat)*((-1:Int):Rat)<0
  decide +kernel
theorem abZ{H:Heap}{g:Nat}(hg:H g=none)(v a:Int):Heap.le H (ins H g (whole (ee [.agg #[.int .i64 v,.int .i64 a]]) 43))∧aN gX 2 (ins H g (whole (ee [.agg #[.int .i64 v,.int .i64 a]]) 43)) (.slice (some ⟨g,0,none⟩) 1 1) [(v,a)]:=
 ⟨Heap.bI _ hg,EE rfl (jq (show gX _ [_,_] (v,a)from rfl) rfl)⟩
theorem amb{H:Heap}{g:Nat}(hg:H g=none)(v a w b:Int):Heap.le H (ins H g (whole (ee [.agg #[.int .i64 v,.int .i64 a],.agg #[.int .i64 w,.int .i64 b]]) 43))∧aN gX 2 (ins H g (whole (ee [.agg #[.int .i64 v,.int .i64 a],.agg #[.int .i64 w,.int .i64 b]]) 43)) (.slice (some ⟨g,0,none⟩) 2 2) [(v,a),(w,b)]:=
 ⟨Heap.bI _ hg,EE rfl (Rw (show gX _ [_,_] (v,a)from rfl) rfl (jq (show gX _ [_,_] (w,b)from rfl) rfl))⟩
theorem amc{H:Heap}{g N:Nat}{t:RC}{q:Rat}(hg:H g=none)(h:cW H t.v q N):Heap.le H (ins H g (whole (ee [t.v]) 38))∧aN (dA N) 3 (ins H g (whole (ee [t.v]) 38)) (.slice (some ⟨g,0,none⟩) 1 1) [q]:=
 ⟨Heap.bI _ hg,EE rfl (jq (show dA N _ [_,_,_] q from h.le (Heap.bI _ hg)) rfl)⟩
theorem amd{H:Heap}{g N:Nat}{t:RC}{q:Rat}(hg:H g=none)(h:cW H t.v q N):Heap.le H (ins H g (whole (ee [t.v,t.v]) 38))∧aN (dA N) 3 (ins H g (whole (ee [t.v,t.v]) 38)) (.slice (some ⟨g,0,none⟩) 2 2) [q,q]:=
 ⟨Heap.bI _ hg,EE rfl (Rw (show dA N _ [_,_,_] q from h.le (Heap.bI _ hg)) rfl (jq (show dA N _ [_,_,_] q from h.le (Heap.bI _ hg)) rfl))⟩
def ame(fs:List aJ)(g:aJ)(H:Heap)(v:Value)(H':Heap):Prop:=Heap.le H H'∧∃A k c b,v = .tuple #[.slice A k c,.bool b,.int .i64 0]∧(b=true↔zE fs g)
theorem amf{H:Heap}{v:Value}{fs:List aJ}{goal:aJ}{A0:Option Addr}{c0:Nat}(hv:kn H v fs)(eH:aN gX 2 H (.slice A0 goal.ts.length c0) goal.ts)(cE:lj fs)(dV:eV goal)(yj:Nw fs goal):Fn Tryz.prog 7 #[v,.agg #[.int .i64 goal.c,.slice A0 goal.ts.length c0]] H (ame fs goal H):=by
 refine(abR hv eH yj).mono ?_
 rintro v' H' ⟨hl,A,k,c,b,e,rfl,h⟩
 rcases h with ⟨h1,_⟩ | ⟨_,_,rfl,⟨rfl,x,_,_,_,h⟩ | ⟨rfl,_,_,_,h⟩⟩
 ·exact absurd ⟨cE,dV⟩ h1
 ·exact⟨hl,A,k,c,true,rfl,⟨fun _=>h.elim (fun h=> .inl ⟨_,h⟩) (fun h=> .inr ⟨_,h⟩),fun _=>rfl⟩⟩
 ·exact⟨hl,A,k,c,false,rfl,⟨(fun h=>by cases h),fun h9=>absurd h9 h⟩⟩
theorem amg{H:Heap}:
 Fn Tryz.prog 5 #[] H (fun v H'=>Heap.le H H'∧v = .bool true):=by
 refine aY (args:=[]) Tryz.func5 rfl rfl Tryz.ntmps5 rfl rfl fun w0=> ?_;refine ah [] rfl ?_;refine ae (aa 1 rfl (ab [] ?_));refine ae (di ag rfl rT rfl rfl (cS Tryz.underlying23 rT rfl rfl rfl rfl rfl rfl rfl ?_));intro g1 mX;obtain⟨bg,hX1⟩:=abZ mX 0 1;refine di ag rfl im rfl rfl (di ag rfl rT rfl rfl (cS Tryz.underlying23 rT rfl rfl rfl rfl rfl rfl rfl ?_));intro g2 eu;obtain⟨cA,hY2⟩:=abZ eu 1 1;have hX2:=hX1.le fc cA;have jZ:=bg.trans cA;refine di ag rfl im rfl rfl (bm im rfl (bm im rfl ?_));obtain⟨ti,aj,ak⟩:=AJ;refine aI (.inl ⟨rfl,rfl⟩) rfl rfl rfl aj ak rfl rfl rfl ?_;obtain⟨ti,aj,ak⟩:=AJ;refine aI (.inl ⟨rfl,rfl⟩) rfl rfl rfl aj ak rfl rfl rfl (ab [1,2] ?_);refine ae (di ag rfl rT rfl rfl (di ag rfl rT rfl rfl (cS Tryz.underlying23 rT rfl rfl rfl rfl rfl rfl rfl ?_)));intro g3 lV;obtain⟨dK,hZ3⟩:=amb lV 0 (-1) 1 1;have hX3:=hX2.le fc dK;have hY3:=hY2.le fc dK;have kP:=jZ.trans dK;refine di ag rfl im rfl rfl (bm im rfl ?_);obtain⟨ti,aj,ak⟩:=AJ;refine aI (.inl ⟨rfl,rfl⟩) rfl rfl rfl aj ak rfl rfl rfl (ab [1,2,3] ?_);refine ae (aB rfl rfl ((lG (n:=1) (by decide) (by decide)).rc) ?_)
 rintro _ H4 ⟨cM,t4,rfl,cn⟩;have hX4:=hX3.le fc cM;have hY4:=hY3.le fc cM;have hZ4:=hZ3.le fc cM;have jx:=kP.trans cM;have r7:cW H4 t4.v 1 1:=(bH.raw (show bH H4 t4.v 1 from cn)).mono (by decide);refine bm cj rfl ?_;obtain⟨ti,aj,ak⟩:=aX;refine aI (.inl ⟨rfl,rfl⟩) rfl rfl rfl aj ak rfl rfl rfl (ab [1,2,3,4] ?_);refine ae (aa 2 rfl (cS Tryz.underlying22 im rfl rfl rfl rfl rfl rfl rfl ?_));intro g5 sM;obtain⟨dR,hm5⟩:=abV (a:=u6) (b:=rE) sM hX4 hZ4;refine aa 1 rfl (aB rfl rfl (amf (goal:=CH) hm5 (hY4.le fc dR) abY abX (fun _ _=>⟨by decide,by decide⟩)) ?_);rintro _ H6 ⟨fM,A6,k6,c6,b6,rfl,ni⟩;obtain rfl:=ni.2 al8;have E6:=dR.trans fM;have wj:=hX4.le fc E6;have hY6:=hY4.le fc E6;have Nl:=hZ4.le fc E6;have pg:=jx.trans E6;refine aa 7 rfl (ab [1,2,3,4,6,7] ?_);refine ae (aa 1 rfl (aG true rfl rfl (gi rfl) (aa 6 rfl (cS Tryz.underlying22 im rfl rfl rfl rfl rfl rfl rfl ?_))));intro g7 L3;obtain⟨jt,hm7⟩:=abV (a:=u6) (b:=rE) L3 wj Nl;refine aa 3 rfl (cS Tryz.underlying28 cj rfl rfl rfl rfl rfl rfl rfl ?_);intro g8 ng;obtain⟨gA,Jq⟩:=amd ng ((r7.le E6).le jt);have Nv:=(E6.trans jt).trans gA
 refine aB rfl rfl ((alD (goal:=CH) ⟨hm7.le gJ gA,Jq,by decide⟩ ((hY6.le fc jt).le fc gA)).yes al9) ?_;rintro _ H9 ⟨ea,rfl⟩;refine aa 2 rfl (di ag rfl im rfl rfl (cS Tryz.underlying22 im rfl rfl rfl rfl rfl rfl rfl ?_));intro g10 qN;obtain⟨mJ,amh⟩:=abU (a:=CI) (A:=none) (ca:=0) qN aN.nil;refine aa 1 rfl (cS Tryz.underlying28 cj rfl rfl rfl rfl rfl rfl rfl ?_);intro g11 zm;obtain⟨vX,Hg⟩:=amc zm (r7.le ((Nv.trans ea).trans mJ));refine aB rfl rfl ((alE (fs:=[CI]) ⟨amh.le gJ vX,Hg,by decide⟩).yes ama) ?_;rintro _ dG ⟨lh,rfl⟩;refine aa 2 rfl (ab [0] ?_);refine az ⟨.inr rfl,_,.tmp rfl (.nil),?_⟩;exact⟨((((((pg.trans jt).trans gA).trans ea).trans mJ).trans vX).trans lh),rfl⟩
end Go.aq
namespace Go.aq
open Go.Proofs Num Lp
def rF(fs:List aJ)(y:Nat→Rat)(i:Nat)(v:Int):Rat:=aZ i (fun m=>y m*(((nth fs m).bU v:Int):Rat))
theorem ami(fs:List aJ)(y:Nat→Rat)(i:Nat)(v:Int):rF fs y (i+1) v=rF fs y i v+y i*(((nth fs i).bU v:Int):Rat):=rfl
theorem ab0{H:Heap}{v pv:Value}{fs:List aJ}{ys:List Rat}{N:Nat}(ha:tl N H v pv fs ys)(hn:ys.length≤1000):
 Fn Tryz.prog 27 #[v,pv] H (fun v' H'=>Heap.le H H'∧∃b,v' = .bool b∧(b=true↔ys.length=fs.length∧uN fs.length (fn ys))):=by
 have hN:=ha.Jn
 obtain⟨A,c,xs,rfl,hc,hr,hx⟩:=id ha.fv
 obtain⟨Ap,cp,xp,rfl,rB,gT,ld⟩:=id ha.py;refine aY (args:=[_,_]) Tryz.func27 rfl rfl Tryz.ntmps27 rfl rfl fun w0=> ?_;refine ah [0,1] rfl ?_;refine ae (aa 1 rfl (ab [0,1] ?_));refine ao (ae (aa 3 rfl (ab [0,1,7,8] ?_)));refine aE (fI (fun(i:Nat)=>ys.length-i) (fun(i:Nat)=>put (put (put (put (emp) 0 (.val (.slice A fs.length c))) 1 (.val (.slice Ap ys.length cp))) 7 (.val (.int .i64 (ys.length:Int)))) 8 (.val (.int .i64 (i:Int)))) (fun(i:Nat) H'=>Heap.le H H'∧i≤ys.length∧∀k,k<i→0≤fn ys k) 0 (⟨.refl _,Nat.zero_le _,fun k h=>by omega⟩) ar ?_);rintro i H1 ⟨bg,hi,hk⟩;refine ae (aa 1 rfl (ab [0,1,7,8,9] ?_));refine ao (aD rfl (fun hb=> ?_) (fun hb=> ?_))
 ·
  have aO:i<ys.length:=by simpa using hb
  obtain⟨q,fT⟩:∃q,ys[i]? = some q:=⟨_,List.getElem?_eq_getElem aO⟩;obtain⟨g5,B1,k1,e1,B2,k2,e2,I5,rz,wh⟩:=aN.s7 ld fT;have iU:=m8 fT;refine aw (ah [0,1,7,8] rfl ?_);refine ao (aE (ae (aa 2 rfl (ab [0,1,5,7,8] ?_))));refine ae (aa 2 rfl (bY (vs:=[.bool g5,.slice B1 k1 e1,.slice B2 k2 e2]) ag rfl rfl rfl rfl (gT.le bg) rfl (by decide) wh (by omega) (by omega) fun _=>(aB rfl rfl (sO (N:=N) (rz.le bg) (by omega)) ?_)));rintro _ H2 ⟨cA,rfl⟩;refine aa 1 rfl (ab [0,1,7,8,16] ?_);refine aD rfl (fun hb=> ?_) (fun hb=> ?_)
  ·
   have h2:eY q<0:=by simpa using hb
   refine ae (aa 1 rfl (ab [4] ?_));refine az ⟨.inr rfl,_,.tmp rfl (.nil),?_⟩;exact⟨bg.trans cA,false,rfl,⟨(fun h=>by cases h),fun h=>absurd (ue.2 (iU▸h.2 i (by omega))) (by omega)⟩⟩
  ·
   have h2:0≤eY q:=by simpa using hb
   refine aw (ah [0,1,7,8] rfl ?_);refine aA rfl (aF rfl rfl ⟨by omega,by omega⟩ (aa 1 rfl (au ?_)));exact⟨i+1,by omega,ar,bg.trans cA,by omega,fun k h9=>by by_cases e:k<i;exact hk k e;(obtain rfl:k=i:=by omega);rw[iU];exact ue.1 (by omega)⟩
 ·
  have hb:ys.length≤i:=by simpa using hb
  refine aU (ah [0,1] rfl ?_);refine ae (aa 6 rfl (ab [4] ?_));refine az ⟨.inr rfl,_,.tmp rfl (.nil),?_⟩;exact⟨bg,_,rfl,by rw[beq_iff_eq,Int.natCast_inj];exact⟨fun h=>⟨h,fun k h9=>hk k (by omega)⟩,fun h=>h.1⟩⟩
def amj(fs:List aJ)(vs:List Int)(y:Nat→Rat)(H:Heap)(v:Value)(H':Heap):Prop:=Heap.le H H'∧∃(A:Option Addr)(c:Nat)(t:RC),v = .tuple #[.slice A vs.length c,t.v]∧aN (dA MB) 3 H' (.slice A vs.length c) (aK (fun j=>comb fs y (vs.getD j 0)) vs.length)∧cW H' t.v (gI fs y) MB
theorem ab1{H:Heap}{v pv vv:Value}{fs:List aJ}{ys:List Rat}{vs:List Int}{N:Nat}(ha:tl N H v pv fs ys)(mh:aN ke 1 H vv vs)(hlen:ys.length=fs.length)(cE:lj fs)(il:vs.length≤100000):
 Fn Tryz.prog 29 #[v,pv,vv] H (amj fs vs (fn ys) H):=by
 have hN:=ha.Jn
 have C0:=ha.py.B7
 have kF:=cE.len
 obtain⟨A,c,xs,rfl,hc,hr,hx⟩:=id ha.fv
 obtain⟨Ap,cp,xp,rfl,rB,gT,ld⟩:=id ha.py
 obtain⟨Av,cv,xv,rfl,bo,lg,po⟩:=id mh
 have ab2:∀k,k≤fs.length→aM (aZ k (fun m=>fn ys m*(((nth fs m).c:Int):Rat)))≤900000000000:=fun k hk=>ID (g:=fun f=>f.c) C0 hlen (by omega) hN (fun i hi=>(cE.ok i _ (Iz hi)).const) hk
 have ab3:∀(x:Int) k,k≤fs.length→aM (rF fs (fn ys) k x)≤900000000000:=fun x k hk=>ID (g:=fun f=>f.bU x) C0 hlen (by omega) hN (fun i hi=>(cE.ok i _ (Iz hi)).o0 x) hk;refine aY (args:=[_,_,_]) Tryz.func29 rfl rfl Tryz.ntmps29 rfl rfl fun w0=> ?_;refine ah [0,1,2] rfl ?_;refine ae (aa 1 rfl (bm cj rfl (ab [0,1,2,7] ?_)));refine ae (aB rfl rfl ((lG (n:=0) (by decide) (by decide)).rc) ?_);rintro _ H1 ⟨bg,t1,rfl,bX⟩;have bX:bH H1 t1.v 0:=bX;refine bm cj rfl ?_;obtain⟨ti,aj,ak⟩:=aX;refine aI (.inl ⟨rfl,rfl⟩) rfl rfl rfl aj ak rfl rfl rfl (ab [0,1,2,7,8] ?_);refine ae (aa 2 rfl (gO Tryz.underlying28 cj rfl rfl rfl (by omega) (by omega) (by omega) (by omega) ?_));intro gm qL;have Ub:=ajD (n:=vs.length) qL;refine aa 1 rfl (ab [0,1,2,7,8,9] ?_);rw[show ((vs.length:Nat):Int).toNat=vs.length from Int.toNat_natCast _];rw[show ((vs.length:Nat):Int).toNat=vs.length from Int.toNat_natCast _]at Ub
 generalize ins H1 gm ⟨cR [.bool false,.slice none 0 0,.slice none 0 0] (vs.length*3),vs.length*3,38,true⟩=H2 at Ub⊢
 refine ao (ae (aa 3 rfl (ab [0,1,2,7,8,9,18,19] ?_)));refine aE (fX (fun(k:Nat)(zs:List Value)=>vs.length-k) (fun(k:Nat)(zs:List Value)=>put (put (put (put (put (put (put (put (emp) 0 (.val (.slice A fs.length c))) 1 (.val (.slice Ap ys.length cp))) 2 (.val (.slice Av vs.length cv))) 7 (.box [.bool false,.slice none 0 0,.slice none 0 0])) 8 (.box [.bool t1.f,.slice t1.A1 t1.m1 t1.c1,.slice t1.A2 t1.m2 t1.c2])) 9 (.val (.slice (some ⟨gm,0,none⟩) vs.length vs.length))) 18 (.val (.int .i64 (vs.length:Int)))) 19 (.val (.int .i64 (k:Int)))) (fun(k:Nat)(zs:List Value) H'=>ko gm H1 H' (fun _=>0) vs.length zs∧k≤vs.length) 0 _ (⟨Ub,Nat.zero_le _⟩) ar ?_);rintro k zs H3 ⟨hM,hk⟩;refine ae (aa 1 rfl (ab [0,1,2,7,8,9,18,19,20] ?_));refine ao (aD rfl (fun hb=> ?_) (fun hb=> ?_))
 ·
  have fV:k<vs.length:=by simpa using hb
  refine aw (ah [0,1,2,7,8,9,18,19] rfl ?_);refine ao (aE (ae (aa 2 rfl (ab [0,1,2,7,8,9,10,18,19] ?_))));refine aA rfl (vr 3 ?_);obtain⟨ti,aj,ak⟩:=aX;refine cT (.inl rfl) ag rfl rfl rfl (by omega) (by omega) (hM.ent) rfl (hM.room) aj ak (fun _=>rfl) rfl rfl rfl fun _=>(au ?_);have SH:=(hM.set fV (q:=0) (us:=[.bool t1.f,.slice t1.A1 t1.m1 t1.c1,.slice t1.A2 t1.m2 t1.c2]) (show cW _ _ _ _ from((bH.raw bX).mono (by decide)).le hM.base) rfl).cast (f':=fun _=>0) (fun j _=>by unfold bT;split <;> rfl);refine ah [0,1,2,7,8,9,18,19] rfl ?_;refine aA rfl (aF rfl rfl ⟨by omega,by omega⟩ (aa 1 rfl (au ?_)));exact⟨k+1,_,by omega,ar,SH,by omega⟩
 ·
  have kP:=bg.trans hM.base;refine aU (ah [0,1,2,7,8,9] rfl ?_);refine ao (ae (aa 3 rfl (ab [0,1,2,7,8,9,28,29] ?_)));refine aE (fD (fun(i:Nat)(t:RC)(zs:List Value)=>fs.length-i) (fun(i:Nat)(t:RC)(zs:List Value)=>put (put (put (put (put (put (put (put (emp) 0 (.val (.slice A fs.length c))) 1 (.val (.slice Ap ys.length cp))) 2 (.val (.slice Av vs.length cv))) 7 (.box [.bool false,.slice none 0 0,.slice none 0 0])) 8 (.box [.bool t.f,.slice t.A1 t.m1 t.c1,.slice t.A2 t.m2 t.c2])) 9 (.val (.slice (some ⟨gm,0,none⟩) vs.length vs.length))) 28 (.val (.int .i64 (fs.length:Int)))) 29 (.val (.int .i64 (i:Int)))) (fun(i:Nat)(t:RC)(zs:List Value) H'=>ko gm (rem H3 [gm]) H' (fun j=>rF fs (fn ys) i (vs.getD j 0)) vs.length zs∧bH (rem H' [gm]) t.v (aZ i (fun m=>fn ys m*(((nth fs m).c:Int):Rat)))∧i≤fs.length) 0 t1 zs (⟨⟨hM.ent,hM.jG,.refl _⟩,bX.le hM.base,Nat.zero_le _⟩) ar ?_);rintro i t zs H5 ⟨wk,eI,hi⟩;have ln:=kP.trans wk.base;have Uc:=ln.trans (bF _ _);refine ae (aa 1 rfl (ab [0,1,2,7,8,9,28,29,30] ?_));refine ao (aD rfl (fun hb=> ?_) (fun hb=> ?_))
  ·
   have aO:i<fs.length:=by simpa using hb
   obtain⟨f,hf⟩:∃f,fs[i]? = some f:=⟨_,List.getElem?_eq_getElem aO⟩;obtain⟨B,cb,nE,kt⟩:=uO hx hf;have E7:=cE.ok i f hf;have TH:=E7.len;have Ud:=E7.const;have yi:=ZS hf;obtain⟨q,fT⟩:∃q,ys[i]? = some q:=⟨_,List.getElem?_eq_getElem (by omega)⟩;obtain⟨g5,B1,k1,e1,B2,k2,e2,I5,rz,wh⟩:=aN.s7 ld fT;have iU:=m8 fT;have mY:=ab2 i hi;have qK:=sk q ((f.c:Int):Rat);have EU:=rz.size;have sQ:=rb Ud;refine aw (ah [0,1,2,7,8,9,28,29] rfl ?_);refine ao (aE (ae (aa 2 rfl (ab [0,1,2,7,8,9,11,28,29] ?_))));refine bN .bK [0,1,2,3,4,5,6,7,8,9,10,11,12,13] follows (by kernel_rfl) ?_;refine aa 3 rfl (bY (vs:=[.bool g5,.slice B1 k1 e1,.slice B2 k2 e2]) ag rfl rfl rfl rfl (gT.le Uc) rfl (by decide) wh (by omega) (by omega) fun _=>(aa 2 rfl (jW ag rfl rfl rfl rfl rfl rfl rfl (hr.le Uc) (kt 0 _ rfl) (by omega) (by omega) fun _ _=>(aW rfl rfl (wk.call (lG (n:=f.c) (by omega) (by omega)).rc) (fun _ _ h=>h.le fun _ _ k=>k.1) ?_))));rintro _ Ha Jt;have Ju:=wk.km Jt fun _ _ h=>h.1;obtain⟨⟨fY,ta,rfl,Ue⟩,_⟩:=Jt;refine aW rfl rfl (Ju.call (Ee (N:=N+20) (((rz.le ln).le fY).mono (by omega)) ((bH.raw Ue).mono (by omega)) (by omega)).rc) (fun _ _ h=>h.le fun _ _ k=>k.1) ?_
   rintro _ Hb Jv;have Jw:=Ju.km Jv fun _ _ h=>h.1;obtain⟨⟨dO,tb2,rfl,Uf⟩,_⟩:=Jv;refine aW rfl rfl (Jw.call (Ls (N:=MB) (((bH.raw eI).mono (by show _≤1000000000000;omega)).le (fY.trans dO)) ((bH.raw Uf).mono (by show _≤1000000000000;omega)) (by decide)).rc) (fun _ _ h=>h.le fun _ _ k=>k.1) ?_;rintro _ H6 lO;have hM6:=Jw.km lO fun _ _ h=>h.1;obtain⟨⟨fM,t6,rfl,nT⟩,_⟩:=lO;rw[←iU,←yi,←gn i (fun m=>fn ys m*(((nth fs m).c:Int):Rat))]at nT;obtain⟨ti,aj,ak⟩:=aX;refine aI (.inl ⟨rfl,rfl⟩) rfl rfl rfl aj ak rfl rfl rfl (ab [0,1,2,7,8,9,11,28,29] ?_);refine ae (aa 3 rfl (ab [0,1,2,7,8,9,11,28,29,46,47] ?_));refine aE (fX (fun(k:Nat)(zs:List Value)=>vs.length-k) (fun(k:Nat)(zs:List Value)=>put (put (put (put (put (put (put (put (put (put (put (emp) 0 (.val (.slice A fs.length c))) 1 (.val (.slice Ap ys.length cp))) 2 (.val (.slice Av vs.length cv))) 7 (.box [.bool false,.slice none 0 0,.slice none 0 0])) 8 (.box [.bool t6.f,.slice t6.A1 t6.m1 t6.c1,.slice t6.A2 t6.m2 t6.c2])) 9 (.val (.slice (some ⟨gm,0,none⟩) vs.length vs.length))) 11 (.val (.int .i64 (i:Int)))) 28 (.val (.int .i64 (fs.length:Int)))) 29 (.val (.int .i64 (i:Int)))) 46 (.val (.int .i64 (vs.length:Int)))) 47 (.val (.int .i64 (k:Int)))) (fun(k:Nat)(zs:List Value) H'=>ko gm (rem H3 [gm]) H' (fun j=>if j<k then rF fs (fn ys) (i+1) (vs.getD j 0)else rF fs (fn ys) i (vs.getD j 0)) vs.length zs∧bH (rem H' [gm]) t6.v (aZ (i+1) (fun m=>fn ys m*(((nth fs m).c:Int):Rat)))∧k≤vs.length) 0 zs (⟨hM6.cast fun j _=>by rw[if_neg (by omega)],nT,Nat.zero_le _⟩) ar ?_)
   rintro k zs H7 ⟨z6,iT,pU⟩;have qf:=kP.trans z6.base;have NB:=qf.trans (bF _ _);refine ae (aa 1 rfl (ab [0,1,2,7,8,9,11,28,29,46,47,48] ?_));refine ao (aD rfl (fun hb=> ?_) (fun hb=> ?_))
   ·
    have fV:k<vs.length:=by simpa using hb
    obtain⟨x,ub⟩:∃x,vs[k]? = some x:=⟨_,List.getElem?_eq_getElem fV⟩
    have Jy:vs.getD k 0=x:=by simp[List.getD,ub]
    have bO:(aK (fun j=>if j<k then rF fs (fn ys) (i+1) (vs.getD j 0)else rF fs (fn ys) i (vs.getD j 0)) vs.length)[k]? = some (rF fs (fn ys) i x):=by rw[dD fV,if_neg (by omega),Jy]
    obtain⟨g9,D1,m1,d1,D2,m2,d2,ab4,Jz,JA⟩:=aN.s7 z6.jG bO;have mP:=E7.o0 x;have rZ:=ab3 x i hi;have Eb:=sk q ((f.bU x:Int):Rat);have zi:=rb mP;refine aw (ah [0,1,2,7,8,9,11,28,29,46,47] rfl ?_);refine ao (aE (ae (aa 2 rfl (ab [0,1,2,7,8,9,11,12,28,29,46,47] ?_))));refine eK .gD [0,1,2,3,4,5,6,7,8,9,10,11,12,13,14,15,16,17,18,19,20,21,22,23] follows (gV [0,0,0,0,12,28,0,0,192,448,0,0,3072,7168,0,0,49152,114688,261120,523264,1048512,2097148,4194303,8388607] (by kernel_rfl)) ?_;refine aa 4 rfl (bY (vs:=[.bool g9,.slice D1 m1 d1,.slice D2 m2 d2]) ag rfl rfl rfl rfl z6.rd rfl (by decide) JA (by omega) (by omega) fun _=>(aa 2 rfl (bY (vs:=[.bool g5,.slice B1 k1 e1,.slice B2 k2 e2]) ag rfl rfl rfl rfl (gT.le NB) rfl (by decide) wh (by omega) (by omega) fun _=>(aa 2 rfl (bY ag rfl rfl rfl rfl (hr.le NB) rfl (by decide) (kt) (by omega) (by omega) fun _=>(aa 2 rfl (aS ag rfl rfl rfl rfl rfl (lg.le NB) (by rw[Int.toNat_natCast];exact Cc po ub) (by omega) (by omega) fun _=> ?_)))))));refine aW rfl rfl (Ny (v:=x) (nE.le fc NB) (by omega)) (fun _ _ h=>by first | exact h.le | exact h.1) ?_
    rintro _ _ ⟨e8,rfl⟩;rw[e8];refine aW rfl rfl (z6.call (lG (n:=f.bU x) (by omega) (by omega)).rc) (fun _ _ h=>h.le fun _ _ k=>k.1) ?_;rintro _ Ha Jt;have Ju:=z6.km Jt fun _ _ h=>h.1;obtain⟨⟨fY,ta,rfl,Ue⟩,_⟩:=Jt;refine aW rfl rfl (Ju.call (Ee (N:=N+20) (((rz.le qf).le fY).mono (by omega)) ((bH.raw Ue).mono (by omega)) (by omega)).rc) (fun _ _ h=>h.le fun _ _ k=>k.1) ?_;rintro _ Hb Jv;have Jw:=Ju.km Jv fun _ _ h=>h.1;obtain⟨⟨dO,tb2,rfl,Uf⟩,_⟩:=Jv;refine aW rfl rfl (Jw.call (Ls (N:=MB) ((Jz.le (fY.trans dO))) ((bH.raw Uf).mono (by show _≤1000000000000;omega)) (by decide)).rc) (fun _ _ h=>h.le fun _ _ k=>k.1) ?_;rintro _ H8 qd;have Ug:=Jw.km qd fun _ _ h=>h.1;obtain⟨⟨gA,t8,rfl,eJ⟩,_⟩:=qd;rw[←iU,←yi,←ami]at eJ;obtain⟨ti,aj,ak⟩:=aX;refine cT (.inr rfl) ag rfl rfl rfl (by omega) (by omega) (Ug.ent) rfl (Ug.room) aj ak (fun _=>rfl) rfl rfl rfl fun _=>(au ?_)
    have uX:=(Ug.set fV (q:=rF fs (fn ys) (i+1) x) (us:=[.bool t8.f,.slice t8.A1 t8.m1 t8.c1,.slice t8.A2 t8.m2 t8.c2]) (show cW _ _ _ _ from(bH.raw eJ).mono (Nat.le_trans (ab3 x (i+1) aO) (by decide))) rfl).cast (f':=fun j=>if j<k+1 then rF fs (fn ys) (i+1) (vs.getD j 0)else rF fs (fn ys) i (vs.getD j 0)) (fun j _=>by
     unfold bT
     by_cases e:j=k
     ·rw[if_pos e,if_pos (by omega),e,Jy]
     ·
      by_cases e2:j<k
      ·rw[if_neg e,if_pos (show j<k+1 by omega)];exact if_pos e2
      ·rw[if_neg e,if_neg (show ¬j<k+1 by omega)];exact if_neg e2)
    have fu:=iT.le ((fY.trans dO).trans gA);rw[←cJ (H:=H8) (gs:=[gm]) (g:=gm) _ (List.mem_singleton.2 rfl)]at fu;refine ah [0,1,2,7,8,9,11,28,29,46,47] rfl ?_;refine aA rfl (aF rfl rfl ⟨by omega,by omega⟩ (aa 1 rfl (au ?_)));exact⟨k+1,_,by omega,ar,uX,fu,by omega⟩
   have hb:vs.length≤k:=by simpa using hb
   obtain rfl:k=vs.length:=by omega
   have z6:=z6.cast (f':=fun j=>rF fs (fn ys) (i+1) (vs.getD j 0)) fun j hj=>by rw[if_pos hj]
   refine aU (ah [0,1,2,7,8,9,28,29] rfl ?_);refine aA rfl (aF rfl rfl ⟨by omega,by omega⟩ (aa 1 rfl (au ?_)));exact⟨i+1,t6,_,by omega,ar,z6,iT,by omega⟩
  have hb:fs.length≤i:=by simpa using hb
  obtain rfl:i=fs.length:=by omega
  refine aU (ah [7,8,9] rfl ?_);refine bN .bK [0,1,2,3] follows (by kernel_rfl) ?_;refine vr 3 ?_;obtain⟨ti,aj,ak⟩:=aX;refine aI (.inl ⟨rfl,rfl⟩) rfl rfl rfl aj ak rfl rfl rfl (ab [6,7] ?_);obtain⟨Jj,uZ,u0⟩:=aX;refine az ⟨.inr rfl,_,.tmp rfl (.agg rfl Tryz.underlying38 uZ u0 (.nil)),?_⟩;exact⟨Uc,_,_,t,rfl,wk.sl,((bH.raw eI).mono (Nat.le_trans (ab2 _ (Nat.le_refl _)) (by decide))).le (bF _ _)⟩
theorem amk{H:Heap}{v pv:Value}{fs:List aJ}{ys:List Rat}{N:Nat}(ha:tl N H v pv fs ys)(hn:ys.length≤1000):
 Fn Tryz.prog 28 #[v,pv] H (fun v' H'=>Heap.le H H'∧∃b,v' = .bool b∧(b=true↔TO fs ys)):=by
 obtain⟨A,c,xs,rfl,hc,hr,hx⟩:=id ha.fv
 obtain⟨Ap,cp,xp,rfl,rB,gT,ld⟩:=id ha.py;refine aY (args:=[_,_]) Tryz.func28 rfl rfl Tryz.ntmps28 rfl rfl fun w0=> ?_;refine ah [0,1] rfl ?_;refine ae (aa 1 rfl (ab [0,1] ?_));refine ao (ae (aa 1 rfl (aB rfl rfl (NA ha.fv) ?_)));rintro _ H1 ⟨bg,b1,rfl,dU⟩
 cases b1
 ·
  skip
  refine aa 7 rfl (ab [0,1,16] ?_);refine cI rfl (ae (aa 1 rfl (ab [4] ?_)));refine az ⟨.inr rfl,_,.tmp rfl (.nil),?_⟩;exact⟨bg,false,rfl,⟨(fun h=>by cases h),fun h=>by have h9:=dU.2 h.1;cases h9⟩⟩
 ·
  skip
  refine aa 4 rfl (aB rfl rfl (ab0 (ha.le bg) hn) ?_);rintro _ H2 ⟨cA,b2,rfl,dg⟩;have jZ:=bg.trans cA
  cases b2
  ·
   skip
   refine aa 2 rfl (ab [0,1,16] ?_);refine cI rfl (ae (aa 1 rfl (ab [4] ?_)));refine az ⟨.inr rfl,_,.tmp rfl (.nil),?_⟩;exact⟨jZ,false,rfl,⟨(fun h=>by cases h),fun h=>by have h9:=dg.2 h.2.1;cases h9⟩⟩
  have cE:=dU.1 rfl;obtain⟨hlen,jr⟩:=dg.1 rfl;have kF:=cE.len;have CG:=cE.vars;refine aa 2 rfl (ab [0,1,16] ?_);refine dd rfl (aw (ah [0,1] rfl ?_));refine ae (aa 3 rfl (aB rfl rfl (Nz (ha.fv.le gJ jZ) (by omega) (fun f hf=>by obtain⟨k,h9⟩:=List.getElem?_of_mem hf;have:=(cE.ok k f h9).len;omega)) ?_));rintro _ H3 ⟨dK,A3,c3,rfl,BC⟩;have kP:=jZ.trans dK;refine aB rfl rfl (ab1 (ha.le kP) BC hlen cE (by omega)) ?_;rintro _ H4 ⟨cM,A4,c4,t4,rfl,zf,TQ⟩;have jx:=kP.trans cM;obtain⟨_,_,x4,e4,mq,r7,k8⟩:=id zf
  simp only[bh,Value.slice.injEq,true_and]at e4
  obtain⟨rfl,rfl⟩:=e4;refine aa 3 rfl (bm cj rfl (vr 1 ?_));obtain⟨ti,aj,ak⟩:=aX;refine aI (.inl ⟨rfl,rfl⟩) rfl rfl rfl aj ak rfl rfl rfl (ab [5,6] ?_);refine ao (ae (aa 3 rfl (ab [5,6,26,27] ?_)));refine aE (fI (fun(k:Nat)=>(ct fs).length-k) (fun(k:Nat)=>put (put (put (put (emp) 5 (.val (.slice A4 (ct fs).length c4))) 6 (.box [.bool t4.f,.slice t4.A1 t4.m1 t4.c1,.slice t4.A2 t4.m2 t4.c2])) 26 (.val (.int .i64 ((ct fs).length:Int)))) 27 (.val (.int .i64 (k:Int)))) (fun(k:Nat) H'=>Heap.le H4 H'∧k≤(ct fs).length∧∀j,j<k→comb fs (fn ys) ((ct fs).getD j 0)=0) 0 (⟨.refl _,Nat.zero_le _,fun j h=>by omega⟩) ar ?_);rintro k H5 ⟨dR,hk,hz⟩;have ln:=jx.trans dR;refine ae (aa 1 rfl (ab [5,6,26,27,28] ?_));refine ao (aD rfl (fun hb=> ?_) (fun hb=> ?_))
  ·
   have fV:k<(ct fs).length:=by simpa using hb
   obtain⟨g9,D1,m1,d1,D2,m2,d2,ab4,Jz,JA⟩:=aN.s7 k8 (dD fV);refine aw (ah [5,6,26,27] rfl ?_);refine ao (aE (ae (aa 2 rfl (ab [5,6,7,26,27] ?_))));refine ae (aa 2 rfl (bY (vs:=[.bool g9,.slice D1 m1 d1,.slice D2 m2 d2]) ag rfl rfl rfl rfl (r7.le dR) rfl (by decide) JA (by omega) (by omega) fun _=>(aB rfl rfl (sO (N:=MB) (Jz.le dR) (by decide)) ?_)));rintro _ H6 ⟨fM,rfl⟩;refine aa 1 rfl (ab [5,6,26,27,35] ?_);refine aD rfl (fun hb=> ?_) (fun hb=> ?_)
   ·
    have h0:¬eY (comb fs (fn ys) ((ct fs).getD k 0))=0:=TJ hb;refine ae (aa 1 rfl (ab [4] ?_));refine az ⟨.inr rfl,_,.tmp rfl (.nil),?_⟩;exact⟨ln.trans fM,false,rfl,⟨(fun h=>by cases h),fun h=>absurd (ug.2 (h.2.2.bU _)) h0⟩⟩
   have h0:eY (comb fs (fn ys) ((ct fs).getD k 0))=0:=TI hb;refine aw (ah [5,6,26,27] rfl ?_);refine aA rfl (aF rfl rfl ⟨by omega,by omega⟩ (aa 1 rfl (au ?_)));exact⟨k+1,by omega,ar,dR.trans fM,by omega,fun j h9=>by by_cases e:j<k;exact hz j e;(obtain rfl:j=k:=by omega);exact ug.1 h0⟩
  have hb:(ct fs).length≤k:=by simpa using hb
  have fm:∀x,comb fs (fn ys) x=0:=fun x=>by
   by_cases hm:x∈ct fs
   ·
    obtain⟨j,hj,e⟩:=ajm hm;rw[←e];exact hz j (by omega)
   ·exact Mk hm
  refine aU (ah [6] rfl ?_);refine ae (aa 1 rfl (aB rfl rfl (sO (N:=MB) (TQ.le dR) (by decide)) ?_));rintro _ H6 ⟨fM,rfl⟩;refine aa 2 rfl (ab [4] ?_);refine az ⟨.inr rfl,_,.tmp rfl (.nil),?_⟩;exact⟨ln.trans fM,_,rfl,by rw[decide_eq_true_iff,Gz];exact⟨fun h=>⟨cE,⟨hlen,jr⟩,jr,fm,h⟩,fun h=>h.2.2.const⟩⟩
theorem aml{H:Heap}{v pv:Value}{fs:List aJ}{ys:List Rat}{goal:aJ}{A0:Option Addr}{c0 N:Nat}(ha:tl N H v pv fs ys)(eH:aN gX 2 H (.slice A0 goal.ts.length c0) goal.ts)(hn:ys.length≤1000):
 Fn Tryz.prog 11 #[v,.agg #[.int .i64 goal.c,.slice A0 goal.ts.length c0],pv] H (fun v' H'=>Heap.le H H'∧∃b,v' = .bool b∧(b=true↔TN fs goal ys)):=by
 obtain⟨A,c,xs,rfl,hc,hr,hx⟩:=id ha.fv
 obtain⟨Ap,cp,xp,rfl,rB,gT,ld⟩:=id ha.py;refine aY (args:=[_,_,_]) Tryz.func11 rfl rfl Tryz.ntmps11 rfl rfl fun w0=> ?_;refine ah [0,1,2] rfl ?_;refine ae (bZ rfl rfl (aa 1 rfl (ab [0,2,4] ?_)));refine ao (ae (aa 1 rfl (aB rfl rfl (NA ha.fv) ?_)));rintro _ H1 ⟨bg,b1,rfl,dU⟩
 cases b1
 ·
  skip
  refine aa 12 rfl (ab [0,2,4,24] ?_);refine cI rfl (ae (aa 1 rfl (ab [6] ?_)));refine az ⟨.inr rfl,_,.tmp rfl (.nil),?_⟩;exact⟨bg,false,rfl,⟨(fun h=>by cases h),fun h=>by have h9:=dU.2 h.1;cases h9⟩⟩
 ·
  skip
  refine aa 3 rfl (aB rfl rfl (Nx (eH.le fc bg)) ?_);rintro _ Hx ⟨ex,bx,rfl,rH⟩;rw[ex]
  cases bx
  ·
   skip
   refine aa 8 rfl (ab [0,2,4,24] ?_);refine cI rfl (ae (aa 1 rfl (ab [6] ?_)));refine az ⟨.inr rfl,_,.tmp rfl (.nil),?_⟩;exact⟨bg,false,rfl,⟨(fun h=>by cases h),fun h=>by have h9:=rH.2 h.2.1;cases h9⟩⟩
  skip
  refine aa 5 rfl (aB rfl rfl (ab0 (ha.le bg) hn) ?_);rintro _ H2 ⟨cA,b2,rfl,dg⟩;have jZ:=bg.trans cA
  cases b2
  ·
   skip
   refine aa 2 rfl (ab [0,2,4,24] ?_);refine cI rfl (ae (aa 1 rfl (ab [6] ?_)));refine az ⟨.inr rfl,_,.tmp rfl (.nil),?_⟩;exact⟨jZ,false,rfl,⟨(fun h=>by cases h),fun h=>by have h9:=dg.2 h.2.2.1;cases h9⟩⟩
  have cE:=dU.1 rfl;have dV:=rH.1 rfl;obtain⟨hlen,jr⟩:=dg.1 rfl;have kF:=cE.len;have il:=abH cE dV;have Nk:=dV.len;have kI:=dV.const;refine aa 2 rfl (ab [0,2,4,24] ?_);refine dd rfl (aw (ah [0,2,4] rfl ?_));refine ao (ae (aa 2 rfl (aB rfl rfl (amk (ha.le jZ) hn) ?_)));rintro _ H3 ⟨dK,b3,rfl,fZ⟩;have kP:=jZ.trans dK;refine ab [0,2,4,27] ?_;refine aD rfl (fun hb=> ?_) (fun hb=> ?_)
  ·
   have I8:=fZ.1 hb;refine ae (aa 1 rfl (ab [6] ?_));refine az ⟨.inr rfl,_,.tmp rfl (.nil),?_⟩;exact⟨kP,true,rfl,⟨fun _=>⟨cE,dV,⟨hlen,jr⟩,.inr I8.2.2⟩,fun _=>rfl⟩⟩
  have hnr:¬Ref fs (fn ys):=fun h=>(by have h9:=fZ.2 ⟨cE,⟨hlen,jr⟩,h⟩;rw[hb]at h9;cases h9);refine aw (ah [0,2,4] rfl ?_);refine bN .bK [0,2,1,3,4,5,6] follows (by kernel_rfl) ?_;refine aa 2 rfl (B9 gJ Ca (by decide) Tryz.underlying22 im rfl rfl (zD H3) (by rw[B8,oO];exact ha.fv.le gJ kP) (by rw[List.length_nil];omega) (by rw[List.length_nil];omega) ?_);intro v4 H4 y4 nZ _;rw[List.nil_append]at nZ;refine cS Tryz.underlying22 im rfl rfl rfl rfl rfl rfl rfl ?_;intro gb a6;refine Cd gJ Ca Tryz.underlying22 im rfl rfl nZ a6 (show o6 _ [_,_] goal from⟨A0,c0,rfl,eH.le fc (kP.trans nZ.base)⟩) rfl (by omega) (by omega) ?_;intro v5 H5 y5 qg _;obtain⟨W5,cw5,rfl⟩:=qg.form;have ln:=kP.trans qg.le;refine aW rfl rfl (Nz (qg.sl gJ) (by rw[List.length_append,List.length_singleton];omega) (TK cE dV)) (fun _ _ h=>by first | exact h.le | exact h.1) ?_;rintro _ H6 ⟨fM,A6,c6,rfl,vU⟩;have pg:=ln.trans fM;obtain⟨_,_,x6,e6,pT,Nu,pX⟩:=id vU
  cases e6
  refine aa 1 rfl (ab [0,2,4,7] ?_);refine ae (aa 3 rfl (aB rfl rfl (ab1 (ha.le pg) vU hlen cE (by omega)) ?_));rintro _ H7 ⟨jt,A7,c7,t7,rfl,hs7,amm⟩;have qf:=pg.trans jt;obtain⟨_,_,x7,e7,qY,BI,ur⟩:=id hs7
  simp only[bh,Value.slice.injEq,true_and]at e7
  obtain⟨rfl,rfl⟩:=e7;refine aa 3 rfl (bm cj rfl (vr 1 ?_));obtain⟨ti,aj,ak⟩:=aX;refine aI (.inl ⟨rfl,rfl⟩) rfl rfl rfl aj ak rfl rfl rfl (ab [4,7,8,9] ?_);refine ao (ae (aa 3 rfl (ab [4,7,8,9,42,43] ?_)));refine aE (fI (fun(k:Nat)=>(ct (fs ++ [goal])).length-k) (fun(k:Nat)=>put (put (put (put (put (put (emp) 4 (.box [.int .i64 goal.c,.slice A0 goal.ts.length c0])) 7 (.val (.slice A6 (ct (fs ++ [goal])).length c6))) 8 (.val (.slice A7 (ct (fs ++ [goal])).length c7))) 9 (.box [.bool t7.f,.slice t7.A1 t7.m1 t7.c1,.slice t7.A2 t7.m2 t7.c2])) 42 (.val (.int .i64 ((ct (fs ++ [goal])).length:Int)))) 43 (.val (.int .i64 (k:Int)))) (fun(k:Nat) H'=>Heap.le H7 H'∧k≤(ct (fs ++ [goal])).length∧∀(j:Nat)(x:Int),j<k→(ct (fs ++ [goal]))[j]? = some x→comb fs (fn ys) x=((goal.bU x:Int):Rat)) 0 (⟨.refl _,Nat.zero_le _,fun j x h=>by omega⟩) ar ?_);rintro k H8 ⟨gA,hk,hz⟩;have E8:=qf.trans gA;have h68:=jt.trans gA;refine ae (aa 1 rfl (ab [4,7,8,9,42,43,44] ?_));refine ao (aD rfl (fun hb=> ?_) (fun hb=> ?_))
  ·
   have fV:k<(ct (fs ++ [goal])).length:=by simpa using hb
   obtain⟨x,ub⟩:∃x,(ct (fs ++ [goal]))[k]? = some x:=⟨_,List.getElem?_eq_getElem fV⟩
   have Jy:(ct (fs ++ [goal])).getD k 0=x:=by simp[List.getD,ub]
   obtain⟨g9,D1,m1,d1,D2,m2,d2,ab4,Jz,JA⟩:=aN.s7 ur (dD fV);have mP:=dV.o0 x;have hzx:=rb mP;refine aw (ah [4,7,8,9,42,43] rfl ?_);refine ao (aE (ae (aa 2 rfl (ab [4,7,8,9,10,42,43] ?_))));refine bN .bK [0,1,2,3,4,5,6,7,8,9,10,11,12] follows (by kernel_rfl) ?_;refine aa 2 rfl (bY (vs:=[.bool g9,.slice D1 m1 d1,.slice D2 m2 d2]) ag rfl rfl rfl rfl (BI.le gA) rfl (by decide) JA (by omega) (by omega) fun _=>(aa 3 rfl (aS ag rfl rfl rfl rfl rfl (Nu.le h68) (by rw[Int.toNat_natCast];exact Cc pX ub) (by omega) (by omega) fun _=> ?_)));refine aW rfl rfl (Ny (v:=x) (eH.le fc E8) (by omega)) (fun _ _ h=>by first | exact h.le | exact h.1) ?_;rintro _ _ ⟨e8,rfl⟩;rw[e8];refine aW rfl rfl ((lG (n:=goal.bU x) (by omega) (by omega)).rc) (fun _ _ h=>by first | exact h.le | exact h.1) ?_;rintro _ H9 ⟨ea,t9,rfl,fu⟩;refine aW rfl rfl (Lv (N:=MB) ((Jz.le gA).le ea) ((bH.raw fu).mono (by show _≤1000000000000;omega)) (by decide)) (fun _ _ h=>by first | exact h.le | exact h.1) ?_;rintro _ nh ⟨mJ,rfl⟩;refine aa 1 rfl (ab [4,7,8,9,42,43,58] ?_);refine aD rfl (fun hb=> ?_) (fun hb=> ?_)
   ·
    have h0:¬nJ (comb fs (fn ys) ((ct (fs ++ [goal])).getD k 0)) ((goal.bU x:Int):Rat)=0:=TJ hb;refine ae (aa 1 rfl (ab [6] ?_));refine az ⟨.inr rfl,_,.tmp rfl (.nil),?_⟩;exact⟨(E8.trans ea).trans mJ,false,rfl,⟨(fun h=>by cases h),fun h=>absurd (ZE.2 (by rw[Jy];exact(h.2.2.2.elim (fun h=>h) (fun h=>absurd h hnr)).bU x)) h0⟩⟩
   have h0:comb fs (fn ys) x=((goal.bU x:Int):Rat):=by have h9:nJ (comb fs (fn ys) ((ct (fs ++ [goal])).getD k 0)) ((goal.bU x:Int):Rat)=0:=TI hb;rw[Jy]at h9;exact ZE.1 h9
   refine aw (ah [4,7,8,9,42,43] rfl ?_);refine aA rfl (aF rfl rfl ⟨by omega,by omega⟩ (aa 1 rfl (au ?_)));exact⟨k+1,by omega,ar,gA.trans (ea.trans mJ),by omega,fun j z h9 qe=>by by_cases e:j<k;exact hz j z e qe;(obtain rfl:j=k:=by omega);rw[ub]at qe;cases qe;exact h0⟩
  have hb:(ct (fs ++ [goal])).length≤k:=by simpa using hb
  have fm:=abG fun j x hj=>hz j x (by have:=(List.getElem?_eq_some_iff.1 hj).1;omega) hj;have FG:=rb kI;refine aU (ah [4,9] rfl ?_);refine bN .bK [0,1,3,2,4,5,6] follows (by kernel_rfl) ?_;refine aa 3 rfl (aW rfl rfl ((lG (n:=goal.c) (by omega) (by omega)).rc) (fun _ _ h=>by first | exact h.le | exact h.1) ?_);rintro _ H9 ⟨ea,t9,rfl,fu⟩;refine aW rfl rfl (Lv (N:=MB) ((bH.raw fu).mono (by show _≤1000000000000;omega)) ((amm.le gA).le ea) (by decide)) (fun _ _ h=>by first | exact h.le | exact h.1) ?_;rintro _ nh ⟨mJ,rfl⟩;refine aa 2 rfl (ab [6] ?_);refine az ⟨.inr rfl,_,.tmp rfl (.nil),?_⟩;exact⟨(E8.trans ea).trans mJ,_,rfl,by rw[decide_eq_true_iff,ge_iff_le,ZD];exact⟨fun h=>⟨cE,dV,⟨hlen,jr⟩,.inl ⟨jr,fm,h⟩⟩,fun h=>(h.2.2.2.elim (fun h=>h) (fun h=>absurd h hnr)).const⟩⟩
end Go.aq
namespace Go.aq
open Go.Proofs Num Lp
end Go.aq
namespace Go.aq
open Go.Proofs Num Lp
end Go.aq
namespace Go.aq
open Go.Proofs Num Lp
end Go.aq
namespace Go.aq
open Go.Proofs Num Lp
end Go.aq
namespace Go.aq
open Go.Proofs Num Lp
end Go.aq
namespace Go.aq
open Go.Proofs Num Lp
end Go.aq
namespace Go.aq
open Go.Proofs Num Lp
end Go.aq
namespace Go.aq
open Go.Proofs Num Lp
end Go.aq
namespace Go.aq
open Go.Proofs Num Lp
end Go.aq
namespace Go.aq
open Go.Proofs Num Lp
end Go.aq
namespace Go.aq
open Go.Proofs Num Lp
end Go.aq
namespace Go.aq
open Go.Proofs Num Lp
end Go.aq
namespace Go.aq
open Go.Proofs Num Lp
theorem od.KV{p:Prg}{c:List Rat}{st:Int}{v:Rat}(h:od p c st v):(st=1∧p.lp.Gm (fn c) v)∨(st=2∧p.lp.yZ∧v=0)∨(st=3∧p.lp.KU (fn c)∧v=0):=by
 rcases h with ⟨h1,h2,_⟩ | h | h
 ·exact .inl ⟨h1,h2⟩
 ·exact .inr (.inl h)
 ·exact .inr (.inr h)
end Go.aq
namespace Lp
def tm(fs:List aJ)(g:aJ)(v:Int):List Rat×Int×Rat:=(fs.map (fun f=>((f.bU v:Int):Rat)),(2:Int),((g.bU v:Int):Rat))
def ep(fs:List aJ)(vs:List Int)(g:aJ):Prg:=⟨List.replicate fs.length false,vs.map (tm fs g)⟩
def wq(fs:List aJ):List Rat:=fs.map (fun f=>((f.c:Int):Rat))
section
variable {fs:List aJ} {vs:List Int} {g:aJ} {x:Nat→Rat}
theorem JB:(ep fs vs g).lp.n=fs.length:=by simp[Prg.lp,ep]
theorem Uh:(ep fs vs g).lp.m=vs.length:=by simp[Prg.lp,ep]
theorem ab5(j:Nat):(ep fs vs g).lp.free j=false:=by
 simp only[Prg.lp,ep,List.getD,List.getElem?_replicate]
 split <;> rfl
theorem ab6{i:Nat}{v:Int}(h:vs[i]? = some v):(ep fs vs g).row i=tm fs g v:=Prg.qF (by simp only[ep];rw[List.getElem?_map,h];rfl)
theorem ab7(h1:fs.length≤400)(h2:vs.length≤800):(ep fs vs g).Ok:=by
 refine⟨by simp[ep];exact h1,by simp[ep];omega,fun i r hr=> ?_⟩
 simp only[ep]at hr
 obtain⟨v,_,rfl⟩:=List.mem_map.1 (List.mem_of_getElem? hr)
 exact⟨by simp[ep,tm],.inr (.inl rfl)⟩
theorem ab8(h:aJ→Rat):cH fs.length (fn (fs.map h)) x=aZ fs.length (fun i=>x i*h (nth fs i)):=
 eG fun j hj=>by rw[Z0 (d:=jX) h hj];exact Rat.mul_comm _ _
theorem E9:(ep fs vs g).lp.gq 1 x↔uN fs.length x∧∀v,v∈vs→comb fs x v=((g.bU v:Int):Rat):=by
 have hr:∀i v,vs[i]? = some v→(qE ((ep fs vs g).lp.rel i) (cH (ep fs vs g).lp.n ((ep fs vs g).lp.a i) x-(ep fs vs g).lp.b i*1)↔comb fs x v=((g.bU v:Int):Rat)):=fun i v hv=>by
  rw[JB]
  show qE ((ep fs vs g).row i).2.1 (cH fs.length (fn ((ep fs vs g).row i).1) x-((ep fs vs g).row i).2.2*1)↔_
  rw[ab6 hv]
  show qE 2 (cH fs.length (fn (fs.map _)) x-((g.bU v:Int):Rat)*1)↔_
  rw[ab8]
  constructor
  ·intro h
   have:=h.2.1 rfl
   show aZ _ _=_
   grind
  ·intro h
   refine⟨fun e=>absurd e (by decide),fun _=> ?_,fun e=>absurd e (by decide)⟩
   have h':aZ fs.length (fun i=>x i*(((nth fs i).bU v:Int):Rat))=((g.bU v:Int):Rat):=h
   grind
 constructor
 ·intro h
  refine⟨fun i hi=>h.1 i (by rw[JB];exact hi) (ab5 i),fun v hv=> ?_⟩
  obtain⟨i,hi⟩:=List.getElem?_of_mem hv
  exact(hr i v hi).1 (h.2 i (by rw[Uh];exact(List.getElem?_eq_some_iff.1 hi).1))
 ·rintro⟨h1,h2⟩
  refine⟨fun j hj _=>h1 j (by rw[JB]at hj;exact hj),fun i hi=> ?_⟩
  rw[Uh]at hi
  exact(hr i _ (List.getElem?_eq_getElem hi)).2 (h2 _ (List.getElem_mem hi))
theorem JC:cH (ep fs vs g).lp.n (fn (wq fs)) x=gI fs x:=by rw[JB];exact ab8 _
theorem Ui(hx:(ep fs (ct (fs ++ [g])) g).lp.gq 1 x)(hc:gI fs x≤((g.c:Int):Rat)):Ent fs g x:=
 Z2 (IA.2 ⟨(E9.1 hx).1,(E9.1 hx).2,hc⟩)
theorem Ent.tr(h:Ent fs g x)(vs:List Int):(ep fs vs g).lp.gq 1 x:=E9.2 ⟨h.pos,fun v _=>h.bU v⟩
theorem amn(vs:List Int):(ep fs vs jX).lp.gq 1 (fun _=>0):=E9.2 ⟨fun _ _=>Rat.le_refl,fun v _=>(lA fun i _=>by grind)⟩
theorem amo(fs:List aJ)(x y:Nat→Rat)(k:Rat)(v:Int):comb fs (fun i=>x i+k*y i) v=comb fs x v+k*comb fs y v:=by
 have h:=Z4 fs y k v
 rw[←h];unfold comb;rw[←Gg];exact eG fun i _=>by grind
theorem amp(fs:List aJ)(x y:Nat→Rat)(k:Rat):gI fs (fun i=>x i+k*y i)=gI fs x+k*gI fs y:=by
 have h:=Z5 fs y k
 rw[←h];unfold gI;rw[←Gg];exact eG fun i _=>by grind
theorem Ref.ab9{y:Nat→Rat}(hr:Ref fs y){q:Rat}:¬(ep fs vs g).lp.Gm (fn (wq fs)) q:=by
 rintro⟨⟨x,hx,_⟩,amq⟩
 obtain⟨h1,h2⟩:=E9.1 hx
 have hc:=hr.const
 obtain⟨k,Db,hk⟩:∃k:Rat,0≤k∧gI fs x+k*gI fs y<q:=by
  by_cases h:gI fs x<q
  ·exact⟨0,Rat.le_refl,by grind⟩
  ·have h5:0<(-gI fs y)⁻¹:=Rat.inv_pos.2 (by grind)
   have h6:(-gI fs y)⁻¹*(-gI fs y)=1:=Rat.inv_mul_cancel _ (by grind)
   refine⟨(gI fs x-q+1)*(-gI fs y)⁻¹,Rat.mul_nonneg (by grind) (by grind),?_⟩
   have h7:(gI fs x-q+1)*(-gI fs y)⁻¹*gI fs y = -((gI fs x-q+1)*((-gI fs y)⁻¹*(-gI fs y))):=by grind
   rw[h7,h6];grind
 have h3:=amq (fun i=>x i+k*y i) (E9.2 ⟨fun i hi=>Rat.add_nonneg (h1 i hi) (Rat.mul_nonneg Db (hr.pos i hi)),fun v hv=>by
  rw[amo,h2 v hv,hr.bU];grind⟩)
 rw[JC,amp]at h3
 grind
end
end Lp
namespace Go.aq
open Go.Proofs Num Lp
section
variable {fs:List aJ} {vs:List Int} {g:aJ}
theorem od.st{p:Prg}{c:List Rat}{st:Int}{v:Rat}(h:od p c st v):st=1∨st=2∨st=3:=by
 rcases h with ⟨h,_⟩ | ⟨h,_⟩ | ⟨h,_⟩
 ·exact .inl h
 ·exact .inr (.inl h)
 ·exact .inr (.inr h)
theorem sat_iff{st:Int}{q:Rat}(h:od (ep fs (ct (fs ++ [jX])) jX) (wq fs) st q):st=1↔¬∃y,Ref fs y:=by
 rcases h.KV with ⟨h1,h2⟩ | ⟨h1,h2,_⟩ | ⟨h1,h2,_⟩
 ·exact⟨fun _ ⟨y,hy⟩=>hy.ab9 h2,fun _=>h1⟩
 ·exact absurd (amn _) (h2 _)
 ·refine⟨fun e=>by omega,fun hn=>absurd ?_ hn⟩
  obtain⟨x,hx,bP⟩:=h2.2 0
  rw[JC]at bP
  have h3:=Ui (g:=jX) hx (by show _≤((0:Int):Rat);rw[show ((0:Int):Rat)=0 from rfl];grind)
  exact⟨x,h3.pos,fun v=>by rw[h3.bU,Z3];rfl,bP⟩
theorem amr{st:Int}{q:Rat}(h:od (ep fs (ct (fs ++ [g])) g) (wq fs) st q):zE fs g↔((st=1∧q≤((g.c:Int):Rat))∨st=3∨(st=2∧∃y,Ref fs y)):=by
 rcases h.KV with ⟨h1,h2⟩ | ⟨h1,h2,_⟩ | ⟨h1,h2,_⟩
 ·constructor
  ·rintro(⟨x,hx⟩ | ⟨y,hy⟩)
   ·have h3:=h2.2 x (hx.tr _)
    rw[JC]at h3
    exact .inl ⟨h1,Rat.le_trans h3 hx.const⟩
   ·exact absurd h2 hy.ab9
  ·rintro(⟨_,h3⟩ | h3 | ⟨h3,_⟩)
   ·obtain⟨⟨x,hx,e⟩,_⟩:=h2
    rw[JC]at e
    exact .inl ⟨x,Ui hx (by rw[e];exact h3)⟩
   ·omega
   ·omega
 ·constructor
  ·rintro(⟨x,hx⟩ | hr)
   ·exact absurd (hx.tr _) (h2 x)
   ·exact .inr (.inr ⟨h1,hr⟩)
  ·rintro(⟨h3,_⟩ | h3 | ⟨_,h3⟩)
   ·omega
   ·omega
   ·exact .inr h3
 ·constructor
  ·exact fun _=> .inr (.inl h1)
  ·intro _
   obtain⟨x,hx,bP⟩:=h2.2 ((g.c:Int):Rat)
   rw[JC]at bP
   exact .inl ⟨x,Ui hx (by grind)⟩
theorem ams(hf:fs.length≤6):Eo (ep fs vs g) 7:=by
 refine .inr ?_
 have h1:(ep fs vs g).c1=fs.length:=by
  show a7 _ (ep fs vs g).lp.n=_
  rw[TV fun j _=>ab5 j,JB]
 have h2:(ep fs vs g).u=fs.length:=by
  show bB _ (ep fs vs g).c1 (ep fs vs g).lp.m=_
  rw[h1]
  refine TW fun i hi=> ?_
  rw[Uh]at hi
  show ((ep fs vs g).row i).2.1=2
  rw[ab6 (List.getElem?_eq_getElem hi)];rfl
 have h3:=(qQ (ep fs vs g).lp.rel (ep fs vs g).aH (ep fs vs g).u (ep fs vs g).lp.m).1
 have e:(ep fs vs g).w=a8 (ep fs vs g).lp.rel (ep fs vs g).aH (ep fs vs g).u (ep fs vs g).lp.m:=rfl
 omega
theorem aca(bO:∀(i:Nat)(f:aJ),fs[i]? = some f→eV f)(hg:eV g)(hf:fs.length≤6)(hv:vs.length≤100):∃M,Fits (ep fs vs g) (wq fs) M∧M≤99999998:=by
 have hm:∀f,f∈fs→eV f:=fun f hf=>by obtain⟨i,hi⟩:=List.getElem?_of_mem hf;exact bO i f hi
 refine abM (k:=7) (a:=6) (m:=101) ⟨fun r hr=> ?_,fun q hq=> ?_⟩ (ams hf) (Nat.le_refl _) (by simp[ep];omega) (fun r hr=> ?_) (by simp[wq];exact hf) (by decide)
 ·obtain⟨v,_,rfl⟩:=List.mem_map.1 hr
  refine⟨fun q hq=> ?_,_,rfl,hg.o0 v⟩
  obtain⟨f,h1,rfl⟩:=List.mem_map.1 hq
  exact⟨_,rfl,(hm f h1).o0 v⟩
 ·obtain⟨f,h1,rfl⟩:=List.mem_map.1 hq
  exact⟨_,rfl,(hm f h1).const⟩
 ·obtain⟨v,_,rfl⟩:=List.mem_map.1 hr
  show (fs.map _).length≤6
  rw[List.length_map];exact hf
end
end Go.aq
namespace Go.aq
open Go.Proofs Num Lp
end Go.aq
namespace Lp
end Lp
namespace Go.aq
open Go.Proofs Num Lp
end Go.aq
namespace Go.aq
open Go.Proofs Num Lp
end Go.aq
namespace Go.aq
open Go.Proofs Num Lp
end Go.aq
namespace Go.aq
open Go.Proofs Num Lp
end Go.aq
namespace Go.aq
open Go.Proofs Num Lp
end Go.aq
namespace Go.aq
open Go.Proofs Num Lp
end Go.aq
namespace Go.aq
open Go.Proofs Num Lp
end Go.aq
namespace Go.aq
open Go.Proofs Num Lp
end Go.aq
namespace Go.aq
open Go.Proofs Num Lp
theorem amt{p q:Rat}:nJ p q<0↔p<q:=by unfold nJ;split;(constructor <;> intro <;> grind);split;(constructor <;> intro <;> grind);(constructor <;> intro <;> grind)
end Go.aq
namespace Go.aq
open Go.Proofs Num Lp
end Go.aq
namespace Go.aq
open Go.Proofs Num Lp
end Go.aq
namespace Go.aq
open Go.Proofs Num Lp
end Go.aq
namespace Go.aq
open Go.Proofs Num Lp
end Go.aq
namespace Go.aq
open Go.Proofs Num Lp
end Go.aq
namespace Go.aq
open Go.Proofs Num Lp
end Go.aq
namespace Go.aq
open Go.Proofs Num Lp
end Go.aq
namespace Go.aq
open Go.Proofs Num Lp
end Go.aq
namespace Go.aq
open Go.Proofs Num Lp
def TrQ(fs:List aJ)(g:aJ)(vs:List Int)(H:Heap)(v:Value)(H':Heap):Prop:=Heap.le H H'∧∃A1 k1 c1 A2 k2 c2 A3 k3 c3,v = .tuple #[.agg #[.slice A1 k1 c1,.slice A2 k2 c2],.slice A3 k3 c3]∧nt 1 H' (.agg #[.slice A1 k1 c1,.slice A2 k2 c2]) (ep fs vs g)∧aN (dA 1) 3 H' (.slice A3 k3 c3) (wq fs)
theorem acb{H:Heap}{v:Value}{fs:List aJ}{goal:aJ}{A0:Option Addr}{c0:Nat}(hv:kn H v fs)(eH:aN gX 2 H (.slice A0 goal.ts.length c0) goal.ts)(cE:lj fs)(dV:eV goal)(kS:fs.length≤6)(CG:(ct (fs ++ [goal])).length≤100):
 Fn Tryz.prog 24 #[v,.agg #[.int .i64 goal.c,.slice A0 goal.ts.length c0]] H (TrQ fs goal (ct (fs ++ [goal])) H):=by
 obtain⟨A,c,xs,rfl,hc,hr,hx⟩:=id hv
 have Nk:=dV.len;refine aY (args:=[_,_]) Tryz.func24 rfl rfl Tryz.ntmps24 rfl rfl fun w0=> ?_;refine ah [0,1] rfl ?_;refine ae (bZ rfl rfl (bm yB rfl (aa 1 rfl (ab [0,3,4] ?_))));refine ae (aa 2 rfl (gO Tryz.underlying52 Ob rfl rfl rfl (by omega) (by omega) (by omega) (by omega) ?_));intro gm qL;rw[Int.toNat_natCast];refine di ag rfl yB rfl rfl (bm yB rfl ?_);obtain⟨ti,aj,ak⟩:=C4;refine aI (.inl ⟨rfl,rfl⟩) rfl rfl rfl aj ak rfl rfl rfl (ab [0,3,4,6] ?_);refine ae (aa 2 rfl (gO Tryz.underlying28 cj rfl rfl rfl (by omega) (by omega) (by omega) (by omega) ?_));intro gx lB;have h01:Heap.le H (ins H gm ⟨cR [.bool false] (fs.length*1),fs.length*1,4,true⟩):=Heap.bI _ qL;have acd:aN Eg 1 (ins H gm ⟨cR [.bool false] (fs.length*1),fs.length*1,4,true⟩) (.slice (some ⟨gm,0,none⟩) fs.length fs.length) (List.replicate fs.length false):=⟨some ⟨gm,0,none⟩,fs.length,_,by rw[List.length_replicate],by rw[List.length_replicate];exact Nat.le_refl _,dQ (bC _ _ _),Gd (P:=Eg _) rfl rfl fs.length⟩
 generalize ins H gm ⟨cR [.bool false] (fs.length*1),fs.length*1,4,true⟩=H1 at h01 acd lB⊢
 have sW:=Iw (P:=cg) (e:=38) (sz:=3) (zs:=[.bool false,.slice none 0 0,.slice none 0 0]) (z:=0) (k:=(fs.length:Int)) (c:=fs.length) lB rfl (Int.toNat_natCast _) (by unfold maxLen;omega);rw[Int.toNat_natCast]at sW⊢;refine aa 1 rfl (ab [0,3,4,6,7] ?_);refine ao (ae (aa 3 rfl (ab [0,3,4,6,7,21,22] ?_)));refine aE (fD (fun(i:Nat)(w:Value)(ys:List Value)=>fs.length-i) (fun(i:Nat)(w:Value)(ys:List Value)=>put (put (put (put (put (put (put (emp) 0 (.val (.slice A fs.length c))) 3 (.box [.int .i64 goal.c,.slice A0 goal.ts.length c0])) 4 (.box [.slice none 0 0,.slice none 0 0])) 6 (.box [.slice (some ⟨gm,0,none⟩) fs.length fs.length,.slice none 0 0])) 7 (.val (w))) 21 (.val (.int .i64 (fs.length:Int)))) 22 (.val (.int .i64 (i:Int)))) (fun(i:Nat)(w:Value)(ys:List Value) H'=>eo cg 38 3 H1 H' w ((fs.take i).map (fun f:aJ=>((f.c:Int):Rat))) ys∧i≤fs.length) 0 _ _ (⟨sW,Nat.zero_le _⟩) ar ?_);rintro i w ys H2 ⟨hX,hi⟩;obtain⟨U,cu,rfl⟩:=hX.form
 have hlu:((fs.take i).map (fun f:aJ=>((f.c:Int):Rat))).length=i:=by rw[List.length_map,List.length_take];omega
 have jZ:=h01.trans hX.le;refine ae (aa 1 rfl (ab [0,3,4,6,7,21,22,23] ?_));refine ao (aD rfl (fun hb=> ?_) (fun hb=> ?_))
 ·
  have aO:i<fs.length:=by simpa using hb
  obtain⟨f,hf⟩:∃f,fs[i]? = some f:=⟨_,List.getElem?_eq_getElem aO⟩;obtain⟨B,cb,nE,kt⟩:=uO hx hf;have Ud:=(cE.ok i f hf).const;refine aw (ah [0,3,4,6,7,21,22] rfl ?_);refine ao (aE (ae (aa 2 rfl (ab [0,3,4,6,7,8,21,22] ?_))));refine aA rfl (aa 3 rfl (jW ag rfl rfl rfl rfl rfl rfl rfl (hr.le jZ) (kt 0 _ rfl) (by omega) (by omega) fun _ _=>(aB rfl rfl (hX.call (lG (n:=f.c) (by omega) (by omega)).rc) ?_)));rintro _ H5 EZ;have hX5:=hX.km ef EZ fun _ _ h=>h.1;obtain⟨⟨_,t5,rfl,eI⟩,_⟩:=EZ;refine cS Tryz.underlying28 cj rfl rfl rfl rfl rfl rfl rfl ?_;intro gb2 zj;have wj:=hX5.ins ef (whole (ee [t5.v]) 38) zj;refine eD Tryz.underlying28 cj rfl rfl wj.own (eN _ _ _ _ _ _) rfl (ED _ _ _ _ _ _ _) (by rw[hlu];omega) (by rw[hlu];omega) ?_;intro v7 H7 uW;have zR:=wj.append ef (k:=[((f.c:Int):Rat)]) (by simp) uW (jq (ef _ _ _ _ (se _ (Heap.bI _ zj)) (show cg _ [_,_,_] _ from eI)) rfl);obtain⟨U7,cu7,rfl⟩:=zR.form;refine aa 1 rfl (au (ah [0,3,4,6,7,21,22] rfl ?_));refine aA rfl (aF rfl rfl ⟨by omega,by omega⟩ (aa 1 rfl (au ?_)));exact⟨i+1,_,_,by omega,ar,by rw[uL hf];exact zR,by omega⟩
 ·
  have hb:fs.length≤i:=by simpa using hb
  obtain rfl:i=fs.length:=by omega
  have EO:aN (dA 1) 3 H2 (.slice U ((fs.take fs.length).map (fun f:aJ=>((f.c:Int):Rat))).length cu) (wq fs):=by have h9:=abS (l:=fs.take fs.length) (g:=fun f:aJ=>f.c) (hX.sl ef) (fun f hf=>by obtain⟨k,h9⟩:=List.getElem?_of_mem (List.mem_of_mem_take hf);exact(cE.ok k f h9).const);rw[List.take_length]at h9⊢;exact h9
  have lh:=hX.le;clear hX;refine aU (ah [0,3,4,6,7] rfl ?_);refine ao (bN .bK [0,2,7,1,3,4,5,6] follows (by kernel_rfl) ?_);refine aa 3 rfl (B9 gJ Ca (by decide) Tryz.underlying22 im rfl rfl (zD H2) (by rw[B8,oO];exact hv.le gJ jZ) (by rw[List.length_nil];omega) (by rw[List.length_nil];omega) ?_);intro v4 H4 y4 nZ _;rw[List.nil_append]at nZ;refine cS Tryz.underlying22 im rfl rfl rfl rfl rfl rfl rfl ?_;intro gb a6;refine Cd gJ Ca Tryz.underlying22 im rfl rfl nZ a6 (show o6 _ [_,_] goal from⟨A0,c0,rfl,eH.le fc (jZ.trans nZ.base)⟩) rfl (by omega) (by omega) ?_;intro v5 H5 y5 qg _;obtain⟨W5,cw5,rfl⟩:=qg.form;refine aW rfl rfl (Nz (qg.sl gJ) (by rw[List.length_append,List.length_singleton];omega) (TK cE dV)) (fun _ _ h=>by first | exact h.le | exact h.1) ?_;rintro _ H6 ⟨fM,Av,cv,rfl,mh⟩;have h26:=qg.le.trans fM;have pg:=jZ.trans h26;obtain⟨vs,amu⟩:∃vs,vs=ct (fs ++ [goal]):=⟨_,rfl⟩;rw[←amu]at mh CG⊢;obtain⟨_,_,xv,e6,bo,lg,po⟩:=id mh
  cases e6
  refine aa 1 rfl (ab [0,3,4,6,7,40,41,42] ?_);refine aE (fD (fun(i:Nat)(rv:Value)(zs:List Value)=>vs.length-i) (fun(i:Nat)(rv:Value)(zs:List Value)=>put (put (put (put (put (put (put (put (emp) 0 (.val (.slice A fs.length c))) 3 (.box [.int .i64 goal.c,.slice A0 goal.ts.length c0])) 4 (.box [.slice none 0 0,.slice none 0 0])) 6 (.box [.slice (some ⟨gm,0,none⟩) fs.length fs.length,rv])) 7 (.val (.slice U ((fs.take fs.length).map (fun f:aJ=>((f.c:Int):Rat))).length cu))) 40 (.val (.slice Av vs.length cv))) 41 (.val (.int .i64 (vs.length:Int)))) 42 (.val (.int .i64 (i:Int)))) (fun(i:Nat)(rv:Value)(zs:List Value) H'=>eo (gB 1) 80 5 H6 H' rv ((vs.take i).map (tm fs goal)) zs∧i≤vs.length) 0 (.slice none 0 0) [] (⟨zD H6,Nat.zero_le _⟩) ar ?_);rintro i rv zs H8 ⟨hR,hi⟩;obtain⟨Ar,cr,rfl⟩:=hR.form
  have ua:((vs.take i).map (tm fs goal)).length=i:=by rw[List.length_map,List.length_take];omega
  have E8:=pg.trans hR.le;refine ae (aa 1 rfl (ab [0,3,4,6,7,40,41,42,43] ?_));refine ao (aD rfl (fun hb=> ?_) (fun hb=> ?_))
  ·
   have aO:i<vs.length:=by simpa using hb
   obtain⟨x,zZ⟩:∃x,vs[i]? = some x:=⟨_,List.getElem?_eq_getElem aO⟩;have hcg:=dV.o0 x;refine aw (ah [0,3,4,6,7,40,41,42] rfl ?_);refine ao (aE (ae (aS ag rfl rfl rfl rfl rfl (lg.le hR.le) (by rw[Int.toNat_natCast];exact Cc po zZ) (by omega) (by omega) fun _=> ?_)));refine aa 1 rfl (ab [0,3,4,6,7,10,40,41,42] ?_);refine ae (aa 2 rfl (aB rfl rfl (Ny (v:=x) (eH.le fc E8) (by omega)) ?_));rintro _ _ ⟨e5,rfl⟩;rw[e5];refine aB rfl rfl (hR.call (lG (n:=goal.bU x) (by omega) (by omega)).rc) ?_;rintro _ H9 hF9;have Uj:=hR.km (lF 1) hF9 fun _ _ h=>h.1;obtain⟨⟨ea,t9,rfl,fu⟩,_⟩:=hF9;have h09:=pg.trans Uj.base;refine di ag rfl kU rfl rfl (bm kU rfl ?_);obtain⟨ti,aj,ak⟩:=oA;refine aI (.inl ⟨rfl,rfl⟩) rfl rfl rfl aj ak rfl rfl rfl (ab [0,3,4,6,7,10,11,40,41,42] ?_);refine ao (ae (aa 3 rfl (ab [0,3,4,6,7,10,11,40,41,42,52,53] ?_)));refine aE (fD (fun(k:Nat)(CF:Value)(ys:List Value)=>fs.length-k) (fun(k:Nat)(CF:Value)(ys:List Value)=>put (put (put (put (put (put (put (put (put (put (put (put (emp) 0 (.val (.slice A fs.length c))) 3 (.box [.int .i64 goal.c,.slice A0 goal.ts.length c0])) 4 (.box [.slice none 0 0,.slice none 0 0])) 6 (.box [.slice (some ⟨gm,0,none⟩) fs.length fs.length,.slice Ar ((vs.take i).map (tm fs goal)).length cr])) 7 (.val (.slice U ((fs.take fs.length).map (fun f:aJ=>((f.c:Int):Rat))).length cu))) 10 (.val (.int .i64 x))) 11 (.box [CF,.int .i64 2,.bool t9.f,.slice t9.A1 t9.m1 t9.c1,.slice t9.A2 t9.m2 t9.c2])) 40 (.val (.slice Av vs.length cv))) 41 (.val (.int .i64 (vs.length:Int)))) 42 (.val (.int .i64 (i:Int)))) 52 (.val (.int .i64 (fs.length:Int)))) 53 (.val (.int .i64 (k:Int)))) (fun(k:Nat)(CF:Value)(ys:List Value) H'=>gH (aC (.slice Ar ((vs.take i).map (tm fs goal)).length cr)) H9 cg 38 3 H' CF ((fs.take k).map (fun f:aJ=>((f.bU x:Int):Rat))) ys∧k≤fs.length) 0 (.slice none 0 0) [] (⟨RD Uj.uK,Nat.zero_le _⟩) ar ?_)
   rintro k CF ys nh ⟨hX,hk⟩;obtain⟨V,cvv,rfl⟩:=hX.form
   have Di:((fs.take k).map (fun f:aJ=>((f.bU x:Int):Rat))).length=k:=by rw[List.length_map,List.length_take];omega
   have h0x:=h09.trans hX.base;refine ae (aa 1 rfl (ab [0,3,4,6,7,10,11,40,41,42,52,53,54] ?_));refine ao (aD rfl (fun hb=> ?_) (fun hb=> ?_))
   ·
    have fV:k<fs.length:=by simpa using hb
    obtain⟨f,hf⟩:∃f,fs[k]? = some f:=⟨_,List.getElem?_eq_getElem fV⟩;obtain⟨B,cb,nE,kt⟩:=uO hx hf;have E7:=cE.ok k f hf;have TH:=E7.len;have Ud:=E7.o0 x;refine aw (ah [0,3,4,6,7,10,11,40,41,42,52,53] rfl ?_);refine ao (aE (ae (aa 2 rfl (ab [0,3,4,6,7,10,11,12,40,41,42,52,53] ?_))));refine eK .bK [0,1,2,3,4,5,6,7,8,9,10,11,12] follows (by kernel_rfl) ?_;refine aa 4 rfl (bY ag rfl rfl rfl rfl (hr.le (h0x.trans (bF _ _))) rfl (by decide) (kt) (by omega) (by omega) fun _=>(aa 1 rfl (aW rfl rfl (Ny (v:=x) (nE.le fc (h0x.trans (bF _ _))) (by omega)) (fun _ _ h=>by first | exact h.le | exact h.1) ?_)));rintro _ _ ⟨e5,rfl⟩;rw[e5];refine aW rfl rfl (hX.call (lG (n:=f.bU x) (by omega) (by omega)).rc) (fun _ _ h=>h.le fun _ _ k=>k.1) ?_;rintro _ ju ace;have amv:=hX.km ef ace fun _ _ h=>h.1;obtain⟨⟨_,t11,rfl,xU⟩,_⟩:=ace;refine cS Tryz.underlying28 cj rfl rfl rfl rfl rfl rfl rfl ?_;intro gb a6;have hXb:=amv.ins ef (whole (ee [t11.v]) 38) a6;refine eD Tryz.underlying28 cj rfl rfl hXb.own (eN _ _ _ _ _ _) rfl (ED _ _ _ _ _ _ _) (by rw[Di];omega) (by rw[Di];omega) ?_;intro v12 dG amw;have acf:=hXb.append ef (j:=[((f.bU x:Int):Rat)]) (by simp) amw (jq (ef _ _ _ _ (se _ (Heap.bI _ a6)) (show cg _ [_,_,_] _ from xU)) rfl)
    obtain⟨V12,aoh,rfl⟩:=acf.form;refine vr 1 ?_;obtain⟨ti,aj,ak⟩:=Oc;refine aI (.inr rfl) rfl rfl rfl aj ak rfl rfl rfl (au (ah [0,3,4,6,7,10,11,40,41,42,52,53] rfl ?_));refine aA rfl (aF rfl rfl ⟨by omega,by omega⟩ (aa 1 rfl (au ?_)));exact⟨k+1,_,_,by omega,ar,by rw[uL hf];exact acf,by omega⟩
   have hb:fs.length≤k:=by simpa using hb
   obtain rfl:k=fs.length:=by omega
   have Jp:(fs.take fs.length).map (fun f:aJ=>((f.bU x:Int):Rat))=fs.map (fun f:aJ=>((f.bU x:Int):Rat)):=by rw[List.take_length]
   have amx:=Uj.step (lF 1) hX.same hX.out
   have pH:aN (dA 1) 3 (rem nh (aC (.slice Ar ((vs.take i).map (tm fs goal)).length cr))) (.slice V ((fs.take fs.length).map (fun f:aJ=>((f.bU x:Int):Rat))).length cvv) (fs.map (fun f:aJ=>((f.bU x:Int):Rat))):=by have h9:=abS (l:=fs.take fs.length) (g:=fun f:aJ=>f.bU x) (hX.sl ef) (fun f hf=>by obtain⟨k,h9⟩:=List.getElem?_of_mem (List.mem_of_mem_take hf);exact(cE.ok k f h9).o0 x);rw[Jp]at h9⊢;exact h9
   have K2:gB 1 (rem nh (aC (.slice Ar ((vs.take i).map (tm fs goal)).length cr))) [.slice V ((fs.take fs.length).map (fun f:aJ=>((f.bU x:Int):Rat))).length cvv,.int .i64 2,.bool t9.f,.slice t9.A1 t9.m1 t9.c1,.slice t9.A2 t9.m2 t9.c2] (tm fs goal x):=⟨_,_,_,_,by rw[Jp];rfl,by rw[Jp]at pH;exact pH,abK hcg (bH.le fu hX.out)⟩;refine aU (ah [0,3,4,6,7,11,40,41,42] rfl ?_);refine aA rfl (aa 3 rfl (cS Tryz.underlying53 kU rfl rfl rfl rfl rfl rfl rfl ?_));intro gb a6;refine Cd (lF 1) (aje 1) Tryz.underlying53 kU rfl rfl amx a6 K2 rfl (by rw[ua];omega) (by rw[ua];omega) ?_;intro Yd lH y13 acg _;obtain⟨A13,c13,rfl⟩:=acg.form;refine vr 1 ?_;obtain⟨ti,aj,ak⟩:=U3;refine aI (.inr rfl) rfl rfl rfl aj ak rfl rfl rfl (au (ah [0,3,4,6,7,40,41,42] rfl ?_));refine aA rfl (aF rfl rfl ⟨by omega,by omega⟩ (aa 1 rfl (au ?_)));exact⟨i+1,_,_,by omega,ar,by rw[uL zZ];exact acg,by omega⟩
  have hb:vs.length≤i:=by simpa using hb
  obtain rfl:i=vs.length:=by omega
  have amy:aN (gB 1) 5 H8 (.slice Ar ((vs.take vs.length).map (tm fs goal)).length cr) (vs.map (tm fs goal)):=by have h9:=hR.sl (lF 1);rw[List.take_length]at h9⊢;exact h9
  have ach:=h26.trans hR.le;refine aU (ah [4,6,7] rfl ?_);refine ae (vr 2 ?_);obtain⟨ti,aj,ak⟩:=C4;refine aI (.inl ⟨rfl,rfl⟩) rfl rfl rfl aj ak rfl rfl rfl (aa 1 rfl (ab [4,5] ?_));obtain⟨b8,aP,aQ⟩:=C4;refine az ⟨.inr rfl,_,.agg rfl Tryz.underlying55 aP aQ (.tmp rfl (.nil)),?_⟩;exact⟨E8,_,_,_,_,_,_,_,_,_,rfl,⟨_,_,rfl,acd.le P7 (lh.trans ach),amy⟩,EO.le (pS 1) ach⟩
end Go.aq
