/-
  Joined.
-/
import Derived.Test.YtepmocimmmjinaaGreatDoorP11
set_option linter.unusedSimpArgs false
set_option linter.unusedVariables false
namespace Go.Proofs.YtepmocimmmjinaaGreatDoor.Pw
open Go Go.Sv Go.Rails Go.Drv Go.Pw Go.ChangeShapes Go.WideShapes Go.Deep Go.RowKit Go.Proofs.Tryz
section
variable {H:Type} {enc:TypeId×Value->H} {w:World} {base:Nat} {spare:Nat->Bool} {held:Bool} {cs:List Value}
theorem kYl {α:Type} {l:List α} (h:l.length=6): ∃a b c d e f,l=[a,b,c,d,e,f]:=by
 match l,h with
 |[a,b,c,d,e,f],_=>exact⟨a,b,c,d,e,f,rfl⟩
theorem vb:prog.cellsOf 48=6:=zk
theorem Qy (h:Td enc w base spare held 48 cs): ∃a:pf,cs=fP.f a/\True:=by
 obtain⟨b,d,e,g,i,j,rfl⟩:=kYl ((px underlying48 h).trans vb);obtain⟨k,l,_⟩:=gG underlying3 (cs:=[b]) (dx (o:=0) (c:=1) underlying48 h 0 rfl mJ);obtain⟨m,n,_⟩:=gG underlying3 (cs:=[d]) (dx (o:=1) (c:=1) underlying48 h 1 rfl mJ);obtain⟨p,q,_⟩:=gG underlying3 (cs:=[e]) (dx (o:=2) (c:=1) underlying48 h 2 rfl mJ);obtain⟨r,s,_⟩:=gG underlying43 (cs:=[g]) (dx (o:=3) (c:=1) underlying48 h 3 rfl jV);obtain⟨t,u⟩:=Ad underlying4 (cs:=[i]) (dx (o:=4) (c:=1) underlying48 h 4 rfl Ag);obtain⟨v,x⟩:=Ad underlying4 (cs:=[j]) (dx (o:=5) (c:=1) underlying48 h 5 rfl Ag);cases l;cases n;cases q;cases s;cases u;cases x;exact⟨⟨k,m,p,r,t,v⟩,rfl,trivial⟩
end
end Go.Proofs.YtepmocimmmjinaaGreatDoor.Pw
