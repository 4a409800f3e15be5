/-
  Joined.
-/
import Derived.Test.YtdoihieboknmnaaGreatDoorP11
set_option linter.unusedSimpArgs false
set_option linter.unusedVariables false
namespace Go.Proofs.YtdoihieboknmnaaGreatDoor.Pw
open Go Go.Sv Go.Rails Go.Drv Go.Pw Go.ChangeShapes Go.WideShapes Go.Deep Go.RowKit Go.Proofs.Tryz
section
variable {H:Type} {enc:TypeId×Value→H} {w:World} {base:Nat} {spare:Nat→Bool} {held:Bool} {cs:List Value}
theorem kWA {α:Type} {l:List α} (h:l.length=6): ∃a b c d e f,l=[a,b,c,d,e,f]:=by
 match l,h with
 |[a,b,c,d,e,f],_=>exact⟨a,b,c,d,e,f,rfl⟩
theorem cz64:prog.cellsOf 64=6:=by kernel_rfl
theorem kVY (h:Td enc w base spare held 64 cs): ∃a:CaV,cs=caK.f a∧True:=by
 obtain⟨b,d,e,g,i,j,rfl⟩:=kWA ((kDF underlying64 h).trans cz64);obtain⟨k,l,_⟩:=kAP underlying3 (cs:=[b]) (kAG (o:=0) (c:=1) underlying64 h 0 rfl cz3);obtain⟨m,n,_⟩:=kAP underlying3 (cs:=[d]) (kAG (o:=1) (c:=1) underlying64 h 1 rfl cz3);obtain⟨p,q,_⟩:=kAP underlying3 (cs:=[e]) (kAG (o:=2) (c:=1) underlying64 h 2 rfl cz3);obtain⟨r,s,_⟩:=kAP underlying44 (cs:=[g]) (kAG (o:=3) (c:=1) underlying64 h 3 rfl cz44);obtain⟨t,u⟩:=kKP underlying4 (cs:=[i]) (kAG (o:=4) (c:=1) underlying64 h 4 rfl cz4);obtain⟨v,x⟩:=kKP underlying4 (cs:=[j]) (kAG (o:=5) (c:=1) underlying64 h 5 rfl cz4);cases l;cases n;cases q;cases s;cases u;cases x;exact⟨⟨k,m,p,r,t,v⟩,rfl,trivial⟩
end
end Go.Proofs.YtdoihieboknmnaaGreatDoor.Pw
