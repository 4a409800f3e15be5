/-
  Joined.
-/
import Derived.Test.YtkofjhglgoojiaaGreatDoorP15
set_option linter.unusedSimpArgs false
set_option linter.unusedVariables false
namespace Go.Proofs.YtkofjhglgoojiaaGreatDoor.Dv
set_option maxRecDepth 100000
set_option maxHeartbeats 20000000
open Go.Tk Go.Sv Go.Drv
attribute [local irreducible] KV SV OV Step Code.wp wpList Exit.then Exit.inBlock Blk OS Big Bun
theorem drop_left1 (p r:Bs) (c:UInt8):(p++c::r).drop (p.length+1)=r:=by
 rw[←List.drop_drop,List.drop_left];rfl
theorem run_next {q:PS} {y:PS} {p r:Bs} (hp: ∀c∈p,c≠10) (h:lnM q p=some y):runM q (splitNL (p++10::r))=runM y (splitNL r):=by
 rw[splitNL_app p r hp,runM,h];rfl
theorem run_bad {q:PS} {p r:Bs} (hp: ∀c∈p,c≠10) (h:lnM q p=none):runM q (splitNL (p++10::r))=none:=by
 rw[splitNL_app p r hp,runM,h];rfl
theorem run_last {q:PS} {p:Bs} (hp: ∀c∈p,c≠10):runM q (splitNL p)=lnM q p:=by
 rw[splitNL_one p hp,runM]
 cases lnM q p<;>rfl
def at4:Ids:=fun b=>b=4
theorem EvR.lt {w:World} (h:EvR w):4<w.heap.size:=by
 obtain⟨t,p,hk⟩:=h
 unfold World.cell? at hk
 cases hb:w.heap[4]? with
 |none=>simp[hb] at hk
 |some o=>exact lt_of_some hb
theorem roAt4 {I:Ids} {w:World} {F:List Assn} (hE:EvR w) (hro: ∀b,at4 b→ ¬I b) (b:Nat) (hb:at4 b):RoOk I w F b:= .inl ⟨hro b hb,by have:b=4:=hb;rw[this];exact hE.lt⟩
def _root_.Go.Drv.PH.le (x:PH) (n:Nat):Prop:=x.ss.length≤n∧x.hs.length≤n∧x.tg.length≤n
theorem splitter_fn (s:Bs) (hs:s.length≤900000) (J:PH→Assn) (JB:Assn) {l b1 b2 b3:Nat} {w:World} (hE:EvR w) (rd: ∀(x:PH) (ln:Bs) (w:World),EvR w→ln.length≤900000→x.le 900000→RoundFx Tryz.prog l [.string (bs ln)] w [J x] at4 (fun v L=>(∃y:PH,lnM x.ps ln=some y.ps∧Grow x y∧v= .bool true∧L=[J y])∨(lnM x.ps ln=none∧v= .bool false∧L=[JB]))):Fx Tryz.prog 190 [.func (.yield l) #[] #[],.pointer (some ⟨b1,0,none⟩),.pointer (some ⟨b2,0,none⟩),.pointer (some ⟨b3,0,none⟩)] w [Blk b1 (.cells #[.string (bs [10])] 9 (0,0)),Blk b2 (.cells #[.string (bs s)] 9 (0,0)),Blk b3 (.cells #[.int .i64 0] 3 (0,0)),J ph0] at4 (fun v L=>(∃y:PH,runM ps0 (splitNL s)=some y.ps∧y.le 1000000∧L=[J y])∨(runM ps0 (splitNL s)=none∧L=[JB])):=by
 refine Fb ?_
 intro I hro hI
 refine J5 ?_
 refine Jeq rfl rfl (fun h0=>?_) (fun h0=>?_)
 exact absurd h0 (by decide)
 refine J7 ?_
 refine E4 ?_
 refine CV.loop2 (fun(r:Bs) (x:PH)=>runM ps0 (splitNL s)=runM x.ps (splitNL r)∧x.ss.length+r.length≤s.length∧x.hs.length+r.length≤s.length∧x.tg.length+r.length≤s.length) (fun(r:Bs) (x:PH)=>r.length) (fun(r:Bs) (x:PH)=>[(0,.func (.yield l) #[] #[]),(1,.pointer (some ⟨b1,0,none⟩)),(2,.pointer (some ⟨b2,0,none⟩)),(3,.pointer (some ⟨b3,0,none⟩))]) (fun(r:Bs) (x:PH)=>Hp I w [Blk b1 (.cells #[.string (bs [10])] 9 (0,0)),Blk b2 (.cells #[.string (bs r)] 9 (0,0)),Blk b3 (.cells #[.int .i64 0] 3 (0,0)),J x]) (s) (ph0) ⟨rfl,by show 0+s.length≤_;omega,by show 0+s.length≤_;omega,by show 0+s.length≤_;omega⟩ (sb rfl) (fun _ h=>h) ?_
 intro r x hinv
 refine J5 ?_
 refine RV.op (Yp rfl (sindex_fn r 10) ?_)
 refine J7 ?_
 refine Jlt rfl rfl (fun hm=>?_) (fun hm=>?_)
 obtain⟨hx1,hx2⟩:=(idx_spec 10 r).resolve_right (fun⟨p,r2,_,hix,_⟩=>by rw[hix] at hm;omega)
 refine J9 ?_
 refine CV.ofCI (CI.region ?_)
 refine LI.op (fun _ h=>by cases h) (OV.step gno (Tm rfl) rfl ?_)
 refine LI.op (fun _ h=>by cases h) (OV.step gno (Tl 1 rfl rfl rfl) rfl ?_)
 refine LI.yield [3] (F:=[_,_,_]) rfl rfl rfl (fun w h=>rd x (r) w (EvR.keep h hE (hro 4 rfl)) (by omega) (by unfold PH.le;omega)) (fun b hb=>roAt4 hE hro b hb) gno rfl (fun v L' hp=>?_)
 rcases hp with ⟨y,hy,hgr,rfl,rfl⟩|⟨hy,rfl,rfl⟩
 have hg1:=hgr.s
 have hg2:=hgr.t
 have hg3:=hgr.g
 refine LI.nil ?_
 refine K1 [3] rfl ?_
 exact KV.ret0 rfl _ (fun _ h=>h) (.inl ⟨y,hinv.1.trans ((run_last hx2).trans hy),by unfold PH.le;omega,rfl⟩)
 refine LI.nil ?_
 refine K1 [3] rfl ?_
 exact KV.ret0 rfl _ (fun _ h=>h) (.inr ⟨hinv.1.trans ((run_last hx2).trans hy),rfl⟩)
 rcases idx_spec 10 r with ⟨hx1,_⟩|⟨p,r2,rfl,hix,hp10⟩
 exfalso;rw[hx1] at hm;exact hm (by decide)
 rw[hix]
 have hlen:(p++10::r2).length=p.length+1+r2.length:=by simp;omega
 refine J11 ?_
 refine Jr (Step.slStrHi Tryz.underlying9 rfl rfl (p.length) ((Int.add_zero _)) (by omega)) ?_
 rw[List.take_left]
 refine J5 ?_
 refine CV.ofCI (CI.region ?_)
 refine LI.op (fun _ h=>by cases h) (OV.step gno (Tm rfl) rfl ?_)
 refine LI.op (fun _ h=>by cases h) (OV.step gno (Tm rfl) rfl ?_)
 refine LI.yield [3] (F:=[_,_,_]) rfl rfl rfl (fun w h=>rd x (p) w (EvR.keep h hE (hro 4 rfl)) (by omega) (by unfold PH.le;omega)) (fun b hb=>roAt4 hE hro b hb) gno rfl (fun v L' hp=>?_)
 rcases hp with ⟨y,hy,hgr,rfl,rfl⟩|⟨hy,rfl,rfl⟩
 have hg1:=hgr.s
 have hg2:=hgr.t
 have hg3:=hgr.g
 refine LI.op (fun _ h=>by cases h) (OV.step gno (Tn rfl) rfl ?_)
 refine LI.nil ?_
 refine J9 ?_
 rw[show(([10]:Bs).length:Int)=1 from rfl]
 refine J1 ?_
 refine Jr (Step.slStrLo Tryz.underlying9 rfl rfl (p.length+1) (rfl) (by omega)) ?_
 rw[drop_left1]
 refine Zw 1 [_] #[_] ?_
 refine J3 ?_
 refine E4 ?_
 exact KV.loop2 (x:=p++10::r2) (y:=x) (r2) (y) ⟨hinv.1.trans (run_next hp10 hy),by omega,by omega,by omega⟩ ((by omega)) (sb rfl) (fun _ h=>h)
 refine LI.op (fun _ h=>by cases h) (OV.step gno (Tn rfl) rfl ?_)
 refine LI.nil ?_
 refine J8 ?_
 refine K1 [3] rfl ?_
 exact Ra (.inr ⟨hinv.1.trans (run_bad hp10 hy),rfl⟩)
end Go.Proofs.YtkofjhglgoojiaaGreatDoor.Dv
