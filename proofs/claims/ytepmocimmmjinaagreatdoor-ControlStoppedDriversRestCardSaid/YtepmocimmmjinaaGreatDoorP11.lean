/-
  Joined.
-/
import Derived.Test.YtepmocimmmjinaaGreatDoorP10
set_option linter.unusedSimpArgs false
set_option linter.unusedVariables false
namespace Go.Proofs.YtepmocimmmjinaaGreatDoor.Pw
open Go Go.Sv Go.Rails Go.Drv Go.Pw Go.ChangeShapes Go.WideShapes Go.Deep Go.RowKit Go.Proofs.Tryz
section
variable {H:Type} {enc:TypeId×Value->H} {w:World} {base:Nat} {spare:Nat->Bool} {held:Bool} {cs:List Value}
theorem kRT {n:Int} (h:(Lit.int .i64 n).wf=true): -9223372036854775808<=n/\n<=9223372036854775807:=by
 simp only[Lit.wf,qg,qj] at h;have a:(-9223372036854775808:Int)<=n:=h.1;have b:n<=9223372036854775807:=h.2;exact⟨a,b⟩
theorem Qx (h:Td enc w base spare held 190 cs): ∃a:ag,cs=aE.f a/\Rails.xy a:=by
 obtain⟨e,g,i,rfl⟩:=yD ((px underlying190 h).trans GP);obtain⟨j,k,l⟩:=gG underlying3 (cs:=[e]) (dx (o:=0) (c:=1) underlying190 h 0 rfl mJ);obtain⟨b,m,n⟩:=gG underlying43 (cs:=[g]) (dx (o:=1) (c:=1) underlying190 h 1 rfl jV);obtain⟨d,p,q⟩:=gG underlying43 (cs:=[i]) (dx (o:=2) (c:=1) underlying190 h 2 rfl jV);cases k;cases m;cases p;have r:=rq n;have s:=rq q;unfold u64 at r s;exact⟨⟨j,b,d⟩,rfl,kRT l,by show 0<=b/\b<=_;omega,by show 0<=d/\d<=_;omega⟩
end
end Go.Proofs.YtepmocimmmjinaaGreatDoor.Pw
