/-
  Joined.
-/
import Derived.Test.YtdoihieboknmnaaGreatDoorP10
set_option linter.unusedSimpArgs false
set_option linter.unusedVariables false
namespace Go.Proofs.YtdoihieboknmnaaGreatDoor.Pw
open Go Go.Sv Go.Rails Go.Drv Go.Pw Go.ChangeShapes Go.WideShapes Go.Deep Go.RowKit Go.Proofs.Tryz
section
variable {H:Type} {enc:TypeId×Value→H} {w:World} {base:Nat} {spare:Nat→Bool} {held:Bool} {cs:List Value}
theorem kRT {n:Int} (h:(Lit.int .i64 n).wf=true): -9223372036854775808≤n∧n≤9223372036854775807:=by
 simp only[Lit.wf,qg,qj] at h;have a:(-9223372036854775808:Int)≤n:=h.1;have b:n≤9223372036854775807:=h.2;exact⟨a,b⟩
theorem kM2 (h:Td enc w base spare held 210 cs): ∃a:Rail,cs=railK.f a∧Rails.kHJ a:=by
 obtain⟨e,g,i,rfl⟩:=kLI ((kDF underlying210 h).trans kVz);obtain⟨j,k,l⟩:=kAP underlying3 (cs:=[e]) (kAG (o:=0) (c:=1) underlying210 h 0 rfl cz3);obtain⟨b,m,n⟩:=kAP underlying44 (cs:=[g]) (kAG (o:=1) (c:=1) underlying210 h 1 rfl cz44);obtain⟨d,p,q⟩:=kAP underlying44 (cs:=[i]) (kAG (o:=2) (c:=1) underlying210 h 2 rfl cz44);cases k;cases m;cases p;have r:=kDG n;have s:=kDG q;unfold u64 at r s;exact⟨⟨j,b,d⟩,rfl,kRT l,by show 0≤b∧b≤_;omega,by show 0≤d∧d≤_;omega⟩
end
end Go.Proofs.YtdoihieboknmnaaGreatDoor.Pw
