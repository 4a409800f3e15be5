/-
  Joined.
-/
import Derived.Test.YtkofjhglgoojiaaGreatDoorP16
set_option linter.unusedSimpArgs false
set_option linter.unusedVariables false
namespace Go.Proofs.YtkofjhglgoojiaaGreatDoor.Dv
set_option maxRecDepth 100000
set_option maxHeartbeats 20000000
open Go.Tk Go.Sv Go.Drv
attribute [local irreducible] KV SV OV Step Code.wp wpList Exit.then Exit.inBlock Blk OS Big Bun
theorem splitSeq0_fn (s:Bs) {w:World}:Fx Tryz.prog 175 [.string (bs s),.string (bs [10]),.int .i64 0] w [] no (fun v L=> ∃b1 b2 b3:Nat,v= .func (.func 190) #[] #[.pointer (some ⟨b1,0,none⟩),.pointer (some ⟨b2,0,none⟩),.pointer (some ⟨b3,0,none⟩)]∧L=[Blk b1 (.cells #[.string (bs [10])] 9 (0,0)),Blk b2 (.cells #[.string (bs s)] 9 (0,0)),Blk b3 (.cells #[.int .i64 0] 3 (0,0))]):=by
 refine Fb ?_
 intro I hro hI
 refine J2 ?_
 refine RV.op (Yb #[_] rfl rfl (fun b2=>?_))
 refine RV.op (Yb #[_] rfl rfl (fun b1=>?_))
 refine RV.op (Yb #[_] rfl rfl (fun b3=>?_))
 refine J5 ?_
 refine Jr (Step.makeFunc rfl) ?_
 refine J4 ?_
 refine K3 [1,0,0] rfl ?_
 exact Rb rfl rfl ⟨b1,b2,b3,rfl,rfl⟩
theorem splitSeq_fn (s:Bs) {w:World}:Fx Tryz.prog 165 [.string (bs s),.string (bs [10])] w [] no (fun v L=> ∃b1 b2 b3:Nat,v= .func (.func 190) #[] #[.pointer (some ⟨b1,0,none⟩),.pointer (some ⟨b2,0,none⟩),.pointer (some ⟨b3,0,none⟩)]∧L=[Blk b1 (.cells #[.string (bs [10])] 9 (0,0)),Blk b2 (.cells #[.string (bs s)] 9 (0,0)),Blk b3 (.cells #[.int .i64 0] 3 (0,0))]):=by
 refine Fb ?_
 intro I hro hI
 refine J9 ?_
 refine RV.op (Yc [] (F:=[]) rfl rfl (fun w h=>splitSeq0_fn s) (fun v L' hp=>?_))
 obtain⟨b1,b2,b3,rfl,rfl⟩:=hp
 refine J4 ?_
 refine E3 ?_
 exact Rb rfl rfl ⟨b1,b2,b3,rfl,rfl⟩
theorem parse_open {I:Ids} {w0 w:World} {p d e b1 b2 b3 D l:Nat} {s:Bs} {rc:Loop} (h:Hp I w0 [Blk d (.cells #[.string (bs []),.slice none 0 0,.slice none 0 0] 66 (0,0)),Blk e (.cells #[.int .i64 0] 47 (0,0)),Blk p (.cells #[.string (bs []),.slice none 0 0,.slice none 0 0,.bool false,.slice none 0 0] 352 (0,0)),Blk b1 (.cells #[.string (bs [10])] 9 (0,0)),Blk b2 (.cells #[.string (bs s)] 9 (0,0)),Blk b3 (.cells #[.int .i64 0] 3 (0,0)),OS 9 strK none 0 [],OS 191 thK none 0 [],OS 9 strK none 0 [],Big opA [],Blk D (.deferred (some [])),Blk l (.loop rc)] w):Hp I w0 [Blk b1 (.cells #[.string (bs [10])] 9 (0,0)),Blk b2 (.cells #[.string (bs s)] 9 (0,0)),Blk b3 (.cells #[.int .i64 0] 3 (0,0)),Bun [Blk p (.cells #[.string (bs ph0.name),.slice ph0.sA ph0.ss.length ph0.sc,.slice ph0.tA ph0.hs.length ph0.tc,.bool ph0.named,.slice ph0.gA ph0.tg.length ph0.gc] 352 (0,0)),OS 9 strK ph0.sA ph0.sc ph0.ss,OS 191 thK ph0.tA ph0.tc ph0.hs,Big opA ph0.hs,OS 9 strK ph0.gA ph0.gc ph0.tg,Blk d (.cells #[.string (bs []),.slice none 0 0,.slice none 0 0] 66 (0,0)),Blk e (.cells #[.int .i64 0] 47 (0,0)),Blk l (.loop rc)],Blk D (.deferred (some []))] w:=by
 have h1:Hp I w0 [Blk p (.cells #[.string (bs []),.slice none 0 0,.slice none 0 0,.bool false,.slice none 0 0] 352 (0,0)),OS 9 strK none 0 [],OS 191 thK none 0 [],Big opA [],OS 9 strK none 0 [],Blk d (.cells #[.string (bs []),.slice none 0 0,.slice none 0 0] 66 (0,0)),Blk e (.cells #[.int .i64 0] 47 (0,0)),Blk l (.loop rc),Blk b1 (.cells #[.string (bs [10])] 9 (0,0)),Blk b2 (.cells #[.string (bs s)] 9 (0,0)),Blk b3 (.cells #[.int .i64 0] 3 (0,0)),Blk D (.deferred (some []))] w:=h.sel [2,5,5,6,5,0,0,4,0,0,0,0] rfl
 have h2:Hp I w0 [Bun [Blk p (.cells #[.string (bs ph0.name),.slice ph0.sA ph0.ss.length ph0.sc,.slice ph0.tA ph0.hs.length ph0.tc,.bool ph0.named,.slice ph0.gA ph0.tg.length ph0.gc] 352 (0,0)),OS 9 strK ph0.sA ph0.sc ph0.ss,OS 191 thK ph0.tA ph0.tc ph0.hs,Big opA ph0.hs,OS 9 strK ph0.gA ph0.gc ph0.tg,Blk d (.cells #[.string (bs []),.slice none 0 0,.slice none 0 0] 66 (0,0)),Blk e (.cells #[.int .i64 0] 47 (0,0)),Blk l (.loop rc)],Blk b1 (.cells #[.string (bs [10])] 9 (0,0)),Blk b2 (.cells #[.string (bs s)] 9 (0,0)),Blk b3 (.cells #[.int .i64 0] 3 (0,0)),Blk D (.deferred (some []))] w:=Hp.bun (M:=[Blk p (.cells #[.string (bs ph0.name),.slice ph0.sA ph0.ss.length ph0.sc,.slice ph0.tA ph0.hs.length ph0.tc,.bool ph0.named,.slice ph0.gA ph0.tg.length ph0.gc] 352 (0,0)),OS 9 strK ph0.sA ph0.sc ph0.ss,OS 191 thK ph0.tA ph0.tc ph0.hs,Big opA ph0.hs,OS 9 strK ph0.gA ph0.gc ph0.tg,Blk d (.cells #[.string (bs []),.slice none 0 0,.slice none 0 0] 66 (0,0)),Blk e (.cells #[.int .i64 0] 47 (0,0)),Blk l (.loop rc)]) h1
 exact h2.sel [1,1,1,0,0] rfl
theorem parse_n {I:Ids} {w0 w:World} {p d e D l:Nat} {P:PH} {rc:Loop} (h:Hp I w0 [Blk D (.deferred (some [])),Bun [Blk p (.cells #[.string (bs P.name),.slice P.sA P.ss.length P.sc,.slice P.tA P.hs.length P.tc,.bool P.named,.slice P.gA P.tg.length P.gc] 352 (0,0)),OS 9 strK P.sA P.sc P.ss,OS 191 thK P.tA P.tc P.hs,Big opA P.hs,OS 9 strK P.gA P.gc P.tg,Blk d (.cells #[.string (bs []),.slice none 0 0,.slice none 0 0] 66 (0,0)),Blk e (.cells #[.int .i64 0] 47 (0,0)),Blk l (.loop rc)]] w):Hp I w0 [Blk p (.cells #[.string (bs P.name),.slice P.sA P.ss.length P.sc,.slice P.tA P.hs.length P.tc,.bool P.named,.slice P.gA P.tg.length P.gc] 352 (0,0)),OS 9 strK P.sA P.sc P.ss,OS 191 thK P.tA P.tc P.hs,Big opA P.hs,OS 9 strK P.gA P.gc P.tg,Blk d (.cells #[.string (bs []),.slice none 0 0,.slice none 0 0] 66 (0,0)),Blk e (.cells #[.int .i64 0] 47 (0,0)),Blk l (.loop rc),Blk D (.deferred (some []))] w:=by
 have h1:Hp I w0 [Bun [Blk p (.cells #[.string (bs P.name),.slice P.sA P.ss.length P.sc,.slice P.tA P.hs.length P.tc,.bool P.named,.slice P.gA P.tg.length P.gc] 352 (0,0)),OS 9 strK P.sA P.sc P.ss,OS 191 thK P.tA P.tc P.hs,Big opA P.hs,OS 9 strK P.gA P.gc P.tg,Blk d (.cells #[.string (bs []),.slice none 0 0,.slice none 0 0] 66 (0,0)),Blk e (.cells #[.int .i64 0] 47 (0,0)),Blk l (.loop rc)],Blk D (.deferred (some []))] w:=h.sel [1,0] rfl
 exact Hp.unbun h1
theorem parse_r {I:Ids} {w0 w:World} {d e D l:Nat} {rc:Loop} (h:Hp I w0 [Blk D (.deferred (some [])),Bun [Blk d (.cells #[.string (bs []),.slice none 0 0,.slice none 0 0] 66 (0,0)),Blk e (.cells #[.int .i64 2] 47 (0,0)),Blk l (.loop {rc with state:= .done,pending:=some .ret})]] w):Hp I w0 [Blk d (.cells #[.string (bs []),.slice none 0 0,.slice none 0 0] 66 (0,0)),Blk e (.cells #[.int .i64 2] 47 (0,0)),Blk l (.loop {rc with state:= .done,pending:=some .ret}),Blk D (.deferred (some []))] w:=by
 have h1:Hp I w0 [Bun [Blk d (.cells #[.string (bs []),.slice none 0 0,.slice none 0 0] 66 (0,0)),Blk e (.cells #[.int .i64 2] 47 (0,0)),Blk l (.loop {rc with state:= .done,pending:=some .ret})],Blk D (.deferred (some []))] w:=h.sel [1,0] rfl
 exact Hp.unbun h1
theorem DR.ofHp {I:Ids} {w0 w:World} {L:List Assn} {k1 k2 k3:Nat} {nm:Bs} {sA tA:Option Addr} {sc tc_:Nat} {ss:List Bs} {H Hs:List TH} (h:Hp I w0 L w) (h1:L[k1]?=some (OS 9 strK sA sc ss)) (h2:L[k2]?=some (OS 191 thK tA tc_ H)) (h3:L[k3]?=some (Big opA Hs)) (e:H.map opA=Hs.map opA):DR w ⟨nm,sA,sc,ss,tA,tc_,H⟩:=by
 rw[←Big_congr e] at h3
 exact⟨h.os k1 h1,h.os k2 h2,fun i hi=>h.bigOS thD h3 hi (G:=fun b w=>RS w roK b.A b.t.ops) fun i b k=>OS.rs (show(OS 193 roK b.A b.c b.t.ops).sat w i from k)⟩
theorem parse_fn (s:Bs) (hs:s.length≤900000) {w:World} (hE:EvR w):Fx Tryz.prog 143 [.string (bs s)] w [] at4 (fun v L=> ∃d:DH,v= .tuple #[.agg #[.string (bs d.name),.slice d.sA d.ss.length d.sc,.slice d.tA d.hs.length d.tc],.int .i64 (parseM s).1]∧d.d=(parseM s).2∧L=dL d):=by
 refine Sv.Fx.bodyM Tryz.func143 rfl T143 rfl ?_
 intro I hro hI
 refine J2 ?_
 refine RV.op (OV.alloc #[.string (Sv.bs []),.slice none 0 0,.slice none 0 0] I66.h rfl gno rfl (fun d=>?_))
 refine RV.op (Ya (fun e=>?_))
 refine J4 ?_
 refine RV.op (OV.alloc #[.string (Sv.bs []),.slice none 0 0,.slice none 0 0,.bool false,.slice none 0 0] I352.h rfl gno rfl (fun p=>?_))
 refine J6 ?_
 refine RV.op (Yc [] (F:=[_,_,_]) rfl rfl (fun w h=>splitSeq_fn s) (fun v L' hp=>?_))
 obtain⟨b1,b2,b3,rfl,rfl⟩:=hp
 refine J3 ?_
 refine KV.heap (fun w h=>(((h.nilOS (e:=9) (K:=strK)).nilOS (e:=191) (K:=thK)).nilOS (e:=9) (K:=strK)).newBig (F:=opA) 0 thD fun w=>OS.emp w) ?_
 refine CV.rangeFuncB at4 (caps:=[_,_,_]) rfl C190.f C190.b C190.n ?_
 intro fn D l tm_ rc hrc hfit
 have hround: ∀(x:PH) (ln:Bs) (w:World),EvR w→ln.length≤900000→x.le 900000→RoundFx Tryz.prog l [.string (bs ln)] w [Blk p (.cells #[.string (bs x.name),.slice x.sA x.ss.length x.sc,.slice x.tA x.hs.length x.tc,.bool x.named,.slice x.gA x.tg.length x.gc] 352 (0,0)),OS 9 strK x.sA x.sc x.ss,OS 191 thK x.tA x.tc x.hs,Big opA x.hs,OS 9 strK x.gA x.gc x.tg,Blk d (.cells #[.string (bs []),.slice none 0 0,.slice none 0 0] 66 (0,0)),Blk e (.cells #[.int .i64 0] 47 (0,0)),Blk l (.loop rc)] at4 (fun v L=>(∃y:PH,lnM x.ps ln=some y.ps∧Grow x y∧v= .bool true∧L=[Blk p (.cells #[.string (bs y.name),.slice y.sA y.ss.length y.sc,.slice y.tA y.hs.length y.tc,.bool y.named,.slice y.gA y.tg.length y.gc] 352 (0,0)),OS 9 strK y.sA y.sc y.ss,OS 191 thK y.tA y.tc y.hs,Big opA y.hs,OS 9 strK y.gA y.gc y.tg,Blk d (.cells #[.string (bs []),.slice none 0 0,.slice none 0 0] 66 (0,0)),Blk e (.cells #[.int .i64 0] 47 (0,0)),Blk l (.loop rc)])∨(lnM x.ps ln=none∧v= .bool false∧L=[Blk d (.cells #[.string (bs []),.slice none 0 0,.slice none 0 0] 66 (0,0)),Blk e (.cells #[.int .i64 2] 47 (0,0)),Blk l (.loop {rc with state:= .done,pending:=some .ret})])):=by
  intro x ln w hE hln hx
  subst hrc
  have hx1:=hx.1
  have hx2:=hx.2.1
  have hx3:=hx.2.2
  refine RoundFx.ofWalkN (k:=7) (E:=set _ 18 (.string (bs ln))) hfit.size rfl rfl rfl ?_ (Fits.one (.string (bs ln)) hfit rfl)
  intro I hro
  refine CI.region ?_
  refine LI.op (fun _ h=>by cases h) (OV.step gno (Ta rfl) rfl ?_)
  refine LI.nil ?_
  refine J1 ?_
  refine KV.begin (k:=7) rfl rfl ?_
  refine CI.block ?_
  refine CI.seq ?_
  refine CI.region ?_
  refine LI.op (fun _ h=>by cases h) (OV.step gno (Tm rfl) rfl ?_)
  refine LI.op (fun _ h=>by cases h) (Yc [] (F:=[_,_,_,_,_,_,_,_]) rfl rfl (fun w h=>tokenize_fn ln (by omega) (EvR.keep h hE (hro 4 rfl))) (fun v L' hp=>?_))
  rcases hp with ⟨ts,A,c,htk,htl,rfl,rfl⟩|⟨htk,rfl,rfl⟩
  refine LI.op (fun _ h=>by cases h) (OV.step gno (Tm rfl) rfl ?_)
  refine LI.op (fun _ h=>by cases h) (OV.step gno (Tx rfl rfl) rfl ?_)
  refine LI.op (fun _ h=>by cases h) (OV.step gno (Tx rfl rfl) rfl ?_)
  refine LI.op (fun _ h=>by cases h) (OV.step gno (Ta rfl) rfl ?_)
  refine LI.op (fun _ h=>by cases h) (OV.step gno (Ta rfl) rfl ?_)
  refine LI.nil ?_
  refine J1 ?_
  refine CI.seq ?_
  refine CI.region ?_
  refine LI.op (fun _ h=>by cases h) (OV.step gno (Tm rfl) rfl ?_)
  refine LI.op (fun _ h=>by cases h) (OV.step gno (Tn rfl) rfl ?_)
  refine LI.op (fun _ h=>by cases h) (OV.step gno (Tm rfl) rfl ?_)
  refine LI.op (fun _ h=>by cases h) (OV.step (gyes rfl) (Tm rfl) rfl ?_)
  refine LI.op (fun _ h=>by cases h) (Yc [0,0,0,0,0,3] (F:=[_,_,_]) rfl rfl (fun w h=>line_fn x (tk_ok htk) (by omega) (by omega) (by omega) (by omega)) (fun v L' hp=>?_))
  rcases hp with ⟨y,hly,hgr,rfl,rfl⟩|⟨hly,rfl,rfl⟩
  refine LI.op (fun _ h=>by cases h) (OV.step (gyes rfl) (Tn rfl) rfl ?_)
  refine LI.op (fun _ h=>by cases h) (OV.step gno (Tu rfl rfl) rfl ?_)
  refine LI.nil ?_
  refine J1 ?_
  refine CI.cond_f rfl ?_
  refine CI.skip ?_
  refine J1 ?_
  refine K8 [3,3,3,3,3,0,0,0] rfl ?_
  exact KV.round_n (k:=7) rfl _ (fun _ h=>h) (.inl ⟨y,by unfold lnM;rw[htk];exact hly,hgr,rfl,rfl⟩)
  refine LI.op (fun _ h=>by cases h) (OV.step (gyes rfl) (Tn rfl) rfl ?_)
  refine LI.op (fun _ h=>by cases h) (OV.step gno (Tu rfl rfl) rfl ?_)
  refine LI.nil ?_
  refine J1 ?_
  refine CI.cond_t rfl ?_
  refine CI.seq ?_
  refine CI.region ?_
  refine LI.op (fun _ h=>by cases h) (OV.step gno (Step.build rfl (Bd66_)) rfl ?_)
  refine LI.op (fun _ h=>by cases h) (Yw 0 [_,_,_] #[_,_,_] rfl rfl rfl rfl rfl ?_)
  refine LI.op (fun _ h=>by cases h) (Yw 1 [_] #[_] rfl rfl rfl rfl rfl ?_)
  refine LI.nil ?_
  refine J1 ?_
  refine CI.ret ?_
  refine J1 ?_
  refine E3 ?_
  exact KV.round_ret (k:=2) rfl _ (fun _ h=>h) (.inr ⟨by unfold lnM;rw[htk];exact hly,rfl,rfl⟩)
  simp only[List.append_nil]
  refine LI.op (fun _ h=>by cases h) (OV.step gno (Tm rfl) rfl ?_)
  refine LI.op (fun _ h=>by cases h) (OV.step gno (Tx rfl rfl) rfl ?_)
  refine LI.op (fun _ h=>by cases h) (OV.step gno (Tx rfl rfl) rfl ?_)
  refine LI.op (fun _ h=>by cases h) (OV.step gno (Ta rfl) rfl ?_)
  refine LI.op (fun _ h=>by cases h) (OV.step gno (Ta rfl) rfl ?_)
  refine LI.nil ?_
  refine J1 ?_
  refine CI.seq ?_
  refine CI.region ?_
  refine LI.op (fun _ h=>by cases h) (OV.step gno (Tm rfl) rfl ?_)
  refine LI.op (fun _ h=>by cases h) (OV.step gno (Tn rfl) rfl ?_)
  refine LI.op (fun _ h=>by cases h) (OV.step gno (Tm rfl) rfl ?_)
  refine LI.op (fun _ h=>by cases h) (OV.skip rfl rfl ?_)
  refine LI.op (fun _ h=>by cases h) (OV.skip rfl rfl ?_)
  refine LI.op (fun _ h=>by cases h) (OV.skip rfl rfl ?_)
  refine LI.op (fun _ h=>by cases h) (OV.step gno (Tt rfl rfl) rfl ?_)
  refine LI.nil ?_
  refine J1 ?_
  refine CI.cond_t rfl ?_
  refine CI.seq ?_
  refine CI.region ?_
  refine LI.op (fun _ h=>by cases h) (OV.step gno (Step.build rfl (Bd66_)) rfl ?_)
  refine LI.op (fun _ h=>by cases h) (Yw 5 [_,_,_] #[_,_,_] rfl rfl rfl rfl rfl ?_)
  refine LI.op (fun _ h=>by cases h) (Yw 6 [_] #[_] rfl rfl rfl rfl rfl ?_)
  refine LI.nil ?_
  refine J1 ?_
  refine CI.ret ?_
  refine J1 ?_
  refine K3 [5,5,5] rfl ?_
  exact KV.round_ret (k:=2) rfl _ (fun _ h=>h) (.inr ⟨by unfold lnM;rw[htk];rfl,rfl,rfl⟩)
 refine⟨[Blk b1 (.cells #[.string (bs [10])] 9 (0,0)),Blk b2 (.cells #[.string (bs s)] 9 (0,0)),Blk b3 (.cells #[.int .i64 0] 3 (0,0)),Bun [Blk p (.cells #[.string (bs ph0.name),.slice ph0.sA ph0.ss.length ph0.sc,.slice ph0.tA ph0.hs.length ph0.tc,.bool ph0.named,.slice ph0.gA ph0.tg.length ph0.gc] 352 (0,0)),OS 9 strK ph0.sA ph0.sc ph0.ss,OS 191 thK ph0.tA ph0.tc ph0.hs,Big opA ph0.hs,OS 9 strK ph0.gA ph0.gc ph0.tg,Blk d (.cells #[.string (bs []),.slice none 0 0,.slice none 0 0] 66 (0,0)),Blk e (.cells #[.int .i64 0] 47 (0,0)),Blk l (.loop rc)]],[Blk D (.deferred (some []))],_,fun w h=>parse_open h,fun b hb=>roAt4 hE hro b hb,fun w h=>splitter_fn s hs (fun x=>Bun [Blk p (.cells #[.string (bs x.name),.slice x.sA x.ss.length x.sc,.slice x.tA x.hs.length x.tc,.bool x.named,.slice x.gA x.tg.length x.gc] 352 (0,0)),OS 9 strK x.sA x.sc x.ss,OS 191 thK x.tA x.tc x.hs,Big opA x.hs,OS 9 strK x.gA x.gc x.tg,Blk d (.cells #[.string (bs []),.slice none 0 0,.slice none 0 0] 66 (0,0)),Blk e (.cells #[.int .i64 0] 47 (0,0)),Blk l (.loop rc)]) (Bun [Blk d (.cells #[.string (bs []),.slice none 0 0,.slice none 0 0] 66 (0,0)),Blk e (.cells #[.int .i64 2] 47 (0,0)),Blk l (.loop {rc with state:= .done,pending:=some .ret})]) (EvR.keep h hE (hro 4 rfl)) (fun x ln w h1 h2 h3=>RoundFx.bun (hround x ln w h1 h2 h3) fun v L h=>?_),?_⟩
 rcases h with ⟨y,a1,a2,rfl,rfl⟩|⟨a1,rfl,rfl⟩
 exact .inl ⟨y,a1,a2,rfl,rfl⟩
 exact .inr ⟨a1,rfl,rfl⟩
 intro v L' hp
 rcases hp with ⟨P,hrun,hle,rfl⟩|⟨hrun,rfl⟩
 refine⟨rc,_,7,fun w h=>parse_n h,rfl,by rw[hrc];exact(fun h=>by cases h),.inl ⟨by rw[hrc];rfl,?_⟩⟩
 have hpar:=parse_some hrun
 have htg:P.tg.length=P.hs.length:=by have:=run_tg _ hrun rfl;simpa[PH.ps] using this.symm
 have hl1:=hle.1
 have hl2:=hle.2.1
 have hl3:=hle.2.2
 refine J10 ?_
 refine KV.cases 34 rfl (fun cc1=>?_) (fun cc1=>?_)
 have hnd:=neg_t cc1
 refine J3 ?_
 refine Jr (Step.build rfl (Bd66_)) ?_
 refine Zw 5 [_,_,_] #[_,_,_] ?_
 refine Zw 6 [_] #[_] ?_
 refine J4 ?_
 have hpm:=hpar.trans (fin_un hnd)
 exact KV.retM2 [_,_,_] 8 rfl rfl rfl Tryz.underlying66 rfl I66.h rfl Tryz.underlying47 rfl rfl (fun w h=>h.cells 5 rfl) (fun w h=>h.cell 6 rfl rfl) _ (fun _ h=>Hp.dL0 (h.sel [] rfl)) ⟨dh0,by rw[hpm];rfl,by rw[hpm];rfl,rfl⟩
 have hnd:=neg_f cc1
 refine J9 ?_
 refine RV.op (Yc [] (F:=[_,_,_,_,_,_,_,_,_]) rfl rfl (fun w h=>repeats_fn (h.os 1 rfl) rfl (by omega)) (fun v L' hp=>?_))
 obtain⟨rfl,rfl⟩:=hp
 by_cases hdup: ¬P.ss.Nodup
 rw[decide_eq_true hdup]
 refine J5 ?_
 refine Jr (Step.build rfl (Bd66_)) ?_
 refine Zw 5 [_,_,_] #[_,_,_] ?_
 refine Zw 6 [_] #[_] ?_
 refine J4 ?_
 have hpm:=hpar.trans (fin_dup hnd hdup)
 exact KV.retM2 [_,_,_] 8 rfl rfl rfl Tryz.underlying66 rfl I66.h rfl Tryz.underlying47 rfl rfl (fun w h=>h.cells 5 rfl) (fun w h=>h.cell 6 rfl rfl) _ (fun _ h=>Hp.dL0 (h.sel [] rfl)) ⟨dh0,by rw[hpm];rfl,by rw[hpm];rfl,rfl⟩
 rw[decide_eq_false hdup]
 refine J11 ?_
 refine RV.op (OV.makeMap (κ:=Bs) (ν:=Int) strV (Value.int .i64) Tryz.underlying360 rfl gno rfl (fun mb=>?_))
 refine J14 ?_
 refine K9 [0,0,0,0,0,0,0,1,1] rfl ?_
 refine CV.loopI (fun(j:Nat)=>j≤P.ss.length) (fun(j:Nat)=>P.ss.length-j) (fun(j:Nat)=>[(2,.pointer (some ⟨d,0,none⟩)),(3,.pointer (some ⟨e,0,none⟩)),(4,.pointer (some ⟨p,0,none⟩)),(8,.map (some mb)),(48,.slice P.sA P.ss.length P.sc),(49,.int .i64 P.ss.length),(50,.int .i64 j)]) (fun(j:Nat)=>Hp I w [Blk p (.cells #[.string (bs P.name),.slice P.sA P.ss.length P.sc,.slice P.tA P.hs.length P.tc,.bool P.named,.slice P.gA P.tg.length P.gc] 352 (0,0)),OS 9 strK P.sA P.sc P.ss,OS 191 thK P.tA P.tc P.hs,Big opA P.hs,OS 9 strK P.gA P.gc P.tg,Blk d (.cells #[.string (bs []),.slice none 0 0,.slice none 0 0] 66 (0,0)),Blk e (.cells #[.int .i64 0] 47 (0,0)),Blk D (.deferred (some [])),OM mb strV (Value.int .i64) (ents P.ss j)]) (0) (Nat.zero_le _) (sb rfl) (fun _ h=>h) ?_
 intro j hinv
 refine J2 ?_
 refine Jlt rfl rfl (fun hj=>?_) (fun hj=>?_)
 refine J15 ?_
 refine J6 ?_
 refine RV.op (OV.mapInsert 8 (P.ss.getD j strK.d) (j:Int) Tryz.underlying360 (KeyT.string Tryz.underlying9) rfl rfl rfl rfl (mget_new fun i hi=>nodup_iff.1 (Decidable.not_not.1 hdup) i j hi (by omega)) gno ?_)
 refine J8 ?_
 refine E9 ?_
 exact KV.loopI (z:=j) (j+1) (by omega) (by omega) (sb rfl) (fun _ h=>by rw[ents_succ];exact h)
 refine J11 ?_
 have hjl:j=P.ss.length:=by omega
 subst hjl
 refine J8 ?_
 refine E9 ?_
 refine CV.loop2 (fun(j:Nat) (H:List TH)=>j≤P.tg.length∧LkI P H j) (fun(j:Nat) (H:List TH)=>P.tg.length-j) (fun(j:Nat) (H:List TH)=>[(2,.pointer (some ⟨d,0,none⟩)),(3,.pointer (some ⟨e,0,none⟩)),(4,.pointer (some ⟨p,0,none⟩)),(8,.map (some mb)),(60,.slice P.gA P.tg.length P.gc),(61,.int .i64 P.tg.length),(62,.int .i64 j)]) (fun(j:Nat) (H:List TH)=>Hp I w [Blk p (.cells #[.string (bs P.name),.slice P.sA P.ss.length P.sc,.slice P.tA P.hs.length P.tc,.bool P.named,.slice P.gA P.tg.length P.gc] 352 (0,0)),OS 9 strK P.sA P.sc P.ss,OS 191 thK P.tA P.tc H,Big opA P.hs,OS 9 strK P.gA P.gc P.tg,Blk d (.cells #[.string (bs []),.slice none 0 0,.slice none 0 0] 66 (0,0)),Blk e (.cells #[.int .i64 0] 47 (0,0)),Blk D (.deferred (some [])),OM mb strV (Value.int .i64) (ents P.ss P.ss.length)]) (0) (P.hs) ⟨Nat.zero_le _,LkI.start P⟩ (sb rfl) (fun _ h=>h) ?_
 intro j H hinv
 refine J2 ?_
 refine Jlt rfl rfl (fun hj=>?_) (fun hj=>?_)
 refine J15 ?_
 refine J6 ?_
 refine Jr (Step.lookupOk 8 (vf:=Value.int .i64) (zv:=0) (P.tg.getD j strK.d) Tryz.underlying360 (KeyT.string Tryz.underlying9) I3.h rfl rfl rfl) ?_
 rw[mget_ents]
 rcases hix:idxOf P.ss (P.tg.getD j strK.d) with _|ix
 refine J15 ?_
 refine J2 ?_
 refine Jr (Step.build rfl (Bd66_)) ?_
 refine Zw 5 [_,_,_] #[_,_,_] ?_
 refine Zw 6 [_] #[_] ?_
 refine J9 ?_
 have hpm:=hpar.trans (fin_nf hnd (Decidable.not_not.1 hdup) (hinv.2.bad (by omega) htg hix))
 exact KV.retM2 [_,_,_] 7 rfl rfl rfl Tryz.underlying66 rfl I66.h rfl Tryz.underlying47 rfl rfl (fun w h=>h.cells 5 rfl) (fun w h=>h.cell 6 rfl rfl) _ (fun _ h=>Hp.dL0 (h.sel [] rfl)) ⟨dh0,by rw[hpm];rfl,by rw[hpm];rfl,rfl⟩
 refine J15 ?_
 refine J2 ?_
 have hHl:=hinv.2.len
 rw[←hinv.2.len]
 refine J8 ?_
 refine RV.op (Yx 2 (j) (linkT (H.getD j thK.d) ix) (j:=7) [_] rfl rfl rfl rfl rfl (by first|omega|(rw[hinv.2.len];omega)) rfl ?_)
 refine J8 ?_
 refine E9 ?_
 exact KV.loop2 (x:=j) (y:=H) (j+1) (H.set j (linkT (H.getD j thK.d) ix)) ⟨by omega,hinv.2.next (by omega) htg hix⟩ (by omega) (sb rfl) (fun _ h=>h)
 refine J11 ?_
 rw[←hinv.2.len]
 refine J2 ?_
 refine Jr (Tw rfl (fun w h=>cells_off 0 (us:=[.string (bs P.name),.slice P.sA P.ss.length P.sc,.slice P.tA H.length P.tc]) (h.cells 0 rfl) rfl)) ?_
 refine RV.op (Yc [] (F:=[_,_,_,_,_,_,_,_,_]) rfl rfl (fun w h=>check_fn (⟨P.name,P.sA,P.sc,P.ss,P.tA,P.tc,H⟩:DH) (DR.ofHp (k1:=1) (k2:=2) (k3:=3) h rfl rfl rfl hinv.2.own)) (fun v L' hp=>?_))
 obtain⟨rfl,rfl⟩:=hp
 refine J6 ?_
 refine Jne rfl rfl (fun hck=>?_) (fun hck=>?_)
 refine J5 ?_
 refine Jr (Step.build rfl (Bd66_)) ?_
 refine J1 ?_
 refine Zw 5 [_,_,_] #[_,_,_] ?_
 refine Zw 6 [_] #[_] ?_
 refine J4 ?_
 have hpm:=hpar.trans (fin_ck hnd (Decidable.not_not.1 hdup) (hinv.2.fin (by omega) htg) hck)
 exact KV.retM2 [_,_,_] 7 rfl rfl rfl Tryz.underlying66 rfl I66.h rfl Tryz.underlying47 rfl rfl (fun w h=>h.cells 5 rfl) (fun w h=>h.cell 6 rfl rfl) _ (fun _ h=>Hp.dL0 (h.sel [] rfl)) ⟨dh0,by rw[hpm];rfl,by rw[hpm];rfl,rfl⟩
 refine J8 ?_
 refine Jr (Tw rfl (fun w h=>cells_off 0 (us:=[.string (bs P.name),.slice P.sA P.ss.length P.sc,.slice P.tA H.length P.tc]) (h.cells 0 rfl) rfl)) ?_
 refine Zw 5 [_,_,_] #[_,_,_] ?_
 refine Zw 6 [_] #[_] ?_
 refine J3 ?_
 refine E8 ?_
 have hpm:=hpar.trans (fin_ok hnd (Decidable.not_not.1 hdup) (hinv.2.fin (by omega) htg) (Decidable.not_not.1 hck))
 exact KV.retM2 [_,_,_] 7 rfl rfl rfl Tryz.underlying66 rfl I66.h rfl Tryz.underlying47 rfl rfl (fun w h=>h.cells 5 rfl) (fun w h=>h.cell 6 rfl rfl) _ (fun _ h=>by show Hp I w [OS 9 strK P.sA P.sc P.ss,OS 191 thK P.tA P.tc H,Big opA H] _;rw[Big_congr hinv.2.own];exact h.sel [1,1,1] rfl) ⟨⟨P.name,P.sA,P.sc,P.ss,P.tA,P.tc,H⟩,by rw[hpm],by rw[hpm];rfl,rfl⟩
 refine⟨_,_,2,fun w h=>parse_r h,rfl,(fun h=>by cases h),.inr ⟨rfl,?_⟩⟩
 refine J2 ?_
 have hpm:=parse_none hrun
 exact KV.retM2 [_,_,_] 3 rfl rfl rfl Tryz.underlying66 rfl I66.h rfl Tryz.underlying47 rfl rfl (fun w h=>h.cells 0 rfl) (fun w h=>h.cell 1 rfl rfl) _ (fun _ h=>Hp.dL0 (h.sel [] rfl)) ⟨dh0,by rw[hpm];rfl,by rw[hpm];rfl,rfl⟩
end Go.Proofs.YtkofjhglgoojiaaGreatDoor.Dv
