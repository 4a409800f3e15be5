/-
  Joined.
-/
import Derived.Test.YtfmcioghekppjaaGreatDoorP11
set_option linter.unusedSimpArgs false
set_option linter.unusedVariables false
namespace Go.Proofs.YtfmcioghekppjaaGreatDoor.Pw
open Go Go.Sv Go.Rails Go.Drv Go.Pw Go.ChangeShapes Go.WideShapes Go.Deep Go.RowKit Go.Proofs.Tryz
section
variable {H:Type} {enc:TypeId×Value→H} {w:World} {base:Nat} {spare:Nat→Bool} {held:Bool} {cs:List Value}
theorem cz5:prog.cellsOf 5=1:=by kernel_rfl
theorem kSu {n:Int} (h:(Lit.int .u8 n).wf=true):0≤n∧n≤255:=by
 simp only[Lit.wf,qg,qj] at h;have h1:(0:Int)≤n:=h.1;have h2:n≤255:=h.2;exact⟨h1,h2⟩
theorem kRT {n:Int} (h:(Lit.int .i64 n).wf=true): -9223372036854775808≤n∧n≤9223372036854775807:=by
 simp only[Lit.wf,qg,qj] at h;have h1:(-9223372036854775808:Int)≤n:=h.1;have h2:n≤9223372036854775807:=h.2;exact⟨h1,h2⟩
theorem kSv (h:Td enc w base spare held 5 cs): ∃a:Int,cs=(Rails.intK .u8).f a∧0≤a∧a≤255:=by
 obtain⟨b,e,g⟩:=kAP underlying5 h;exact⟨b,e,kSu g⟩
theorem kM2 (h:Td enc w base spare held 181 cs): ∃a:Rail,cs=railK.f a∧Rails.kHJ a:=by
 obtain⟨c0,c1,c2,rfl⟩:=kLI ((kDF underlying181 h).trans kRM);obtain⟨b0,e0,g0⟩:=kAP underlying3 (cs:=[c0]) (kAG (o:=0) (c:=1) underlying181 h 0 rfl cz3);obtain⟨b1,e1,g1⟩:=kAP underlying41 (cs:=[c1]) (kAG (o:=1) (c:=1) underlying181 h 1 rfl cz41);obtain⟨b2,e2,g2⟩:=kAP underlying41 (cs:=[c2]) (kAG (o:=2) (c:=1) underlying181 h 2 rfl cz41);cases e0;cases e1;cases e2;have h1:=kDG g1;have h2:=kDG g2;unfold u64 at h1 h2;exact⟨⟨b0,b1,b2⟩,rfl,kRT g0,by show 0≤b1∧b1≤_;omega,by show 0≤b2∧b2≤_;omega⟩
end
end Go.Proofs.YtfmcioghekppjaaGreatDoor.Pw
