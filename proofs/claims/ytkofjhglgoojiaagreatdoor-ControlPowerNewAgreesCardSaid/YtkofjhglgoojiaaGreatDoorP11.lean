/-
  Joined.
-/
import Derived.Test.YtkofjhglgoojiaaGreatDoorP10
set_option linter.unusedSimpArgs false
set_option linter.unusedVariables false
namespace Go.Proofs.YtkofjhglgoojiaaGreatDoor.Dv
set_option maxRecDepth 100000
set_option maxHeartbeats 20000000
open Go.Tk Go.Sv Go.Drv
attribute [local irreducible] KV SV OV Step Code.wp wpList Exit.then Exit.inBlock Blk OS Big Bun
theorem ext99 (s:Bs) (c:UInt8) (w:World):(callFunc 220 #[.string (bs s),.int .u8 (c.toNat:Int)]).run Tryz.prog w= .ok (.value (.int .i64 (Lib.indexByte s c))) w:=by
 rw[run_callFunc_extern Tryz.func220 X99a X99b X99c X99d]
 have h:=Lib.run_indexByteString (P:=Tryz.prog) (bs s) (c.toNat:Int) w
 rw[u8_back] at h
 rw[h];rfl
theorem indexByte_fn (s:Bs) (c:UInt8):FxP Tryz.prog 210 [.string (bs s),.int .u8 (c.toNat:Int)] (.int .i64 (Lib.indexByte s c)):=by
 refine Fp ?_
 intro wp
 refine J9 ?_
 refine Jr (Step.callX (vs:=[.string (bs s),.int .u8 (c.toNat:Int)]) rfl (fun w _=>ext99 s c w)) ?_
 refine J4 ?_
 exact KV.retP1 rfl rfl rfl
theorem index_fn (s:Bs) (c:UInt8):FxP Tryz.prog 205 [.string (bs s),.string (bs [c])] (.int .i64 (Lib.indexByte s c)):=by
 refine Fp ?_
 intro wp
 refine J15 ?_
 refine J2 ?_
 refine Jeq rfl rfl (fun h0=>?_) (fun h0=>?_)
 exact absurd h0 (by simp)
 refine J3 ?_
 refine RV.op (OV.split (gyes rfl) (Step.eqlStr rfl rfl) rfl (fun h1=>?_) (fun h1=>?_))
 refine J13 ?_
 exact KV.retP1 rfl rfl (by rw[←h1];simp[Lib.indexByte])
 refine J8 ?_
 refine Jeq rfl rfl (fun h2=>?_) (fun h2=>?_)
 refine J8 ?_
 refine Jr (Step.idxStr Tryz.underlying9 rfl rfl 0 rfl (by simp)) ?_
 refine RV.op (Yp rfl (indexByte_fn s c) ?_)
 refine J6 ?_
 exact KV.retP1 rfl rfl rfl
 exact absurd (by simp) h2
theorem sindex_fn (s:Bs) (c:UInt8):FxP Tryz.prog 192 [.string (bs s),.string (bs [c])] (.int .i64 (Lib.indexByte s c)):=by
 refine Fp ?_
 intro wp
 refine J9 ?_
 refine RV.op (Yp rfl (index_fn s c) ?_)
 refine J4 ?_
 exact KV.retP1 rfl rfl rfl
theorem tw_all {p:UInt8→Bool}: ∀ {l:Bs},(∀x∈l,p x=true)→l.takeWhile p=l
 |[],_=>rfl
 |a::l,h=>by rw[List.takeWhile_cons,if_pos (h a (List.mem_cons_self ..)),tw_all fun x hx=>h x (List.mem_cons_of_mem _ hx)]
theorem cutH_spec (l:Bs):(Lib.indexByte l 35= -1∧cutH l=l)∨ ∃p:Nat,p<l.length∧Lib.indexByte l 35=(p:Int)∧cutH l=l.take p:=by
 rcases idx_spec 35 l with ⟨h1,h2⟩|⟨p,r,rfl,h1,h2⟩
 ·refine .inl ⟨h1,?_⟩
  unfold cutH
  exact tw_all fun x hx=>decide_eq_true (h2 x hx)
 ·refine .inr ⟨p.length,by simp,h1,?_⟩
  unfold cutH
  rw[List.takeWhile_append_of_pos (fun x hx=>decide_eq_true (h2 x hx))]
  simp
theorem cutY {s:Bs} (h:0≤Lib.indexByte s 35): ∃p:Nat,p<s.length∧Lib.indexByte s 35=(p:Int)∧cutH s=s.take p:=by
 rcases cutH_spec s with ⟨h1,_⟩|h1
 ·omega
 ·exact h1
theorem cutM1 {s:Bs} (h: ¬0≤Lib.indexByte s 35):cutH s=s:=by
 rcases cutH_spec s with ⟨_,h2⟩|⟨p,_,h1,_⟩
 ·exact h2
 ·omega
def cutR (s:Bs):Bs:=if 0≤Lib.indexByte s 35 then s.drop ((Lib.indexByte s 35).toNat+1) else []
theorem cut_fn (s:Bs) (hl:s.length≤1000000) {w:World}:Fx Tryz.prog 193 [.string (bs s),.string (bs [35])] w [] no (fun v L=>v= .tuple #[.string (bs (cutH s)),.string (bs (cutR s)),.bool (decide (0≤Lib.indexByte s 35))]∧L=[]):=by
 refine Fb ?_
 intro I hro hI
 refine J2 ?_
 refine Jr (Step.assign (v:= .string (Sv.bs [])) rfl) ?_
 refine Jr (Step.assign (v:= .string (Sv.bs [])) rfl) ?_
 refine J8 ?_
 refine RV.op (Yp rfl (index_fn s 35) ?_)
 refine J6 ?_
 refine Jge rfl rfl (fun h0=>?_) (fun h0=>?_)
 obtain⟨p,hp1,hp2,hp3⟩:=cutY h0
 have hR:cutR s=s.drop (p+1):=by rw[cutR,if_pos h0,hp2];rfl
 refine J4 ?_
 refine Zs ?_
 refine J2 ?_
 refine Sr (Step.slStrHi Tryz.underlying9 rfl rfl (p) (hp2) (by omega)) ?_
 refine J4 ?_
 refine Sr (Step.add rfl rfl (wI64 (by simp;omega) (by simp;omega))) ?_
 refine Sr (Step.slStrLo Tryz.underlying9 rfl rfl (p+1) ((by simp;omega)) (by omega)) ?_
 refine J3 ?_
 refine SV.nil ?_
 refine J3 ?_
 refine E0 ?_
 exact KV.ret3 rfl rfl rfl rfl _ (fun _ h=>h) ⟨by rw[hp3,hR,decide_eq_true h0],rfl⟩
 refine J9 ?_
 refine Jr (Step.assign (v:= .string (Sv.bs [])) rfl) ?_
 refine J4 ?_
 refine E0 ?_
 exact KV.ret3 rfl rfl rfl rfl _ (fun _ h=>h) ⟨by rw[cutM1 h0,cutR,if_neg h0,decide_eq_false h0],rfl⟩
theorem scut_fn (s:Bs) (hl:s.length≤1000000) {w:World}:Fx Tryz.prog 176 [.string (bs s),.string (bs [35])] w [] no (fun v L=>v= .tuple #[.string (bs (cutH s)),.string (bs (cutR s)),.bool (decide (0≤Lib.indexByte s 35))]∧L=[]):=by
 refine Fb ?_
 intro I hro hI
 refine J2 ?_
 refine Jr (Step.assign (v:= .string (Sv.bs [])) rfl) ?_
 refine Jr (Step.assign (v:= .string (Sv.bs [])) rfl) ?_
 refine J7 ?_
 refine RV.op (Yc [] (F:=[]) rfl rfl (fun w h=>cut_fn s hl) (fun v L' hp=>?_))
 obtain⟨rfl,rfl⟩:=hp
 refine J9 ?_
 refine E0 ?_
 exact KV.ret3 rfl rfl rfl rfl _ (fun _ h=>h) ⟨rfl,rfl⟩
theorem pfx_fn (s p:Bs):FxP Tryz.prog 194 [.string (bs s),.string (bs p)] (.bool (decide (p.length≤s.length∧s.take p.length=p))):=by
 refine Fp ?_
 intro wp
 refine J11 ?_
 refine Jge rfl rfl (fun h0=>?_) (fun h0=>?_)
 refine J4 ?_
 refine Jr (Step.slStrHi Tryz.underlying9 rfl rfl (p.length) (rfl) (by omega)) ?_
 refine J1 ?_
 refine RV.op (OV.split (gyes rfl) (Step.eqlStr rfl rfl) rfl (fun h1=>?_) (fun h1=>?_))
 refine J5 ?_
 exact KV.retP1 rfl rfl (by first|rw[decide_eq_true (show p.length≤s.length∧s.take p.length=p from⟨by omega,h1⟩)]|rw[decide_eq_false (show ¬(p.length≤s.length∧s.take p.length=p) from fun k=>by first|exact h1 k.2|omega)])
 refine J5 ?_
 exact KV.retP1 rfl rfl (by first|rw[decide_eq_true (show p.length≤s.length∧s.take p.length=p from⟨by omega,h1⟩)]|rw[decide_eq_false (show ¬(p.length≤s.length∧s.take p.length=p) from fun k=>by first|exact h1 k.2|omega)])
 refine J12 ?_
 exact KV.retP1 rfl rfl (by first|rw[decide_eq_true (show p.length≤s.length∧s.take p.length=p from⟨by omega,h1⟩)]|rw[decide_eq_false (show ¬(p.length≤s.length∧s.take p.length=p) from fun k=>by first|exact h1 k.2|omega)])
theorem spfx_fn (s p:Bs):FxP Tryz.prog 177 [.string (bs s),.string (bs p)] (.bool (decide (p.length≤s.length∧s.take p.length=p))):=by
 refine Fp ?_
 intro wp
 refine J9 ?_
 refine RV.op (Yp rfl (pfx_fn s p) ?_)
 refine J4 ?_
 exact KV.retP1 rfl rfl rfl
end Go.Proofs.YtkofjhglgoojiaaGreatDoor.Dv
