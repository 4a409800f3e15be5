/-
  Joined.
-/
import Derived.Test.YtfmcioghekppjaaGreatDoorP06
import Derived.Test.YtfmcioghekppjaaGreatDoorP10
import Derived.OpenShut
import Derived.WideShapes
import Derived.ChangeShapes
import Derived.LaidLaws
import Derived.Lib.LaidU8
import Derived.Lib.LaidTab
set_option linter.unusedSimpArgs false
set_option linter.unusedVariables false
set_option maxRecDepth 100000
namespace Go.Proofs.YtfmcioghekppjaaGreatDoor.Pw
open Go Go.Sv Go.Rails Go.Drv Go.Pw Go.ChangeShapes Go.WideShapes Go.Deep Go.RowKit Go.Proofs.Tryz
section
variable {H:Type} {enc:TypeId×Value→H} {w:World} {base:Nat} {spare:Nat→Bool} {held:Bool}
def Td (enc:TypeId×Value→H) (w:World) (base:Nat) (spare:Nat→Bool) (held:Bool) (t:TypeId) (cs:List Value):Prop:= ∃n y,DataW.trod enc prog w base spare held n t cs=some y
section
variable {t:TypeId} {cs:List Value}
theorem kDF {fs:Array Field} (ht:prog.underlying t=some (.struct fs)) (h:Td enc w base spare held t cs):cs.length=prog.cellsOf t:=by
 obtain⟨n,y,h⟩:=h;obtain⟨_,_,_,_,hl,_⟩:=DataW.trod_struct ht h;exact hl
theorem kAG {fs:Array Field} (ht:prog.underlying t=some (.struct fs)) (h:Td enc w base spare held t cs) (i:Nat) {u o c:Nat} (hi:fs[i]?.map (fun f=>(f.type,f.offset))=some (u,o)) (hc:prog.cellsOf u=c):Td enc w base spare held u ((cs.drop o).take c):=by
 obtain⟨n,y,h⟩:=h;obtain⟨xs,m,_,_,_,hx,hf⟩:=DataW.trod_struct ht h;obtain⟨f,h1,h2⟩:=Option.map_eq_some_iff.1 hi;obtain⟨rfl,rfl⟩:=Prod.mk.inj h2;have h3:=hf i f h1;have hlt:i<xs.length:=by rw[hx];exact(Array.getElem?_eq_some_iff.1 h1).1
 rw[hc,qJ hlt] at h3;exact⟨_,_,h3⟩
theorem kNQ {n e c:Nat} (ht:prog.underlying t=some (.array n e)) (h:Td enc w base spare held t cs) (hc:prog.cellsOf e=c): ∀i,i<n→Td enc w base spare held e ((cs.drop (i* c)).take c):=by
 obtain⟨k,y,h⟩:=h;obtain⟨xs,m,_,_,_,hx,hf⟩:=DataW.trod_array ht h;intro i hi;have h3:=hf i hi;rw[hc,qJ (by omega)] at h3;exact⟨_,_,h3⟩
theorem kAP {k:IntKind} (ht:prog.underlying t=some (.int k)) (h:Td enc w base spare held t cs): ∃n,cs=[.int k n]∧(Lit.int k n).wf=true:=by
 obtain⟨_,_,h⟩:=h;obtain⟨b,e,_,g⟩:=DataW.trod_int ht h;exact⟨b,e,g⟩
theorem kKP (ht:prog.underlying t=some .bool) (h:Td enc w base spare held t cs): ∃b,cs=[.bool b]:=by
 obtain⟨_,_,h⟩:=h;obtain⟨b,e,_⟩:=DataW.trod_bool ht h;exact⟨b,e⟩
theorem kCl (ht:prog.underlying t=some .string) (h:Td enc w base spare held t cs): ∃s:Bs,cs=[.string (bs s)]:=by
 obtain⟨_,_,h⟩:=h;obtain⟨b,e,_⟩:=DataW.trod_string ht h;exact⟨b.data.toList,e⟩
theorem kM1 {α:Type} (K:Enc α) {G:α→Prop} {e:TypeId} (ht:prog.underlying t=some (.slice e)) (hsz:prog.cellsOf e=K.sz) (hel: ∀ {cs'},Td enc w base spare held e cs'→ ∃a:α,cs'=K.f a∧G a) (h:Td enc w base spare held t cs): ∃A c ys,cs=[.slice A ys.length c]∧RS w K A ys∧ ∀i,i<ys.length→G (ys.getD i K.d):=by
 obtain⟨_,_,h⟩:=h;obtain⟨A,n,c,ys,e1,rfl,h2,h3⟩:=kJ7 K G ht hsz (fun _ _ _ h=>hel ⟨_,_,h⟩) h;exact⟨A,c,ys,e1,h2,h3⟩
end
theorem kRI {α:Type} {l:List α} (h:l.length=13): ∃a b c d e f g i j k m n o,l=[a,b,c,d,e,f,g,i,j,k,m,n,o]:=by
 match l,h with
 |[a,b,c,d,e,f,g,i,j,k,m,n,o],_=>exact⟨a,b,c,d,e,f,g,i,j,k,m,n,o,rfl⟩
theorem kRJ {α:Type} {l:List α} (h:l.length=18): ∃a b c d e f g i j k m n o p q r s t,l=[a,b,c,d,e,f,g,i,j,k,m,n,o,p,q,r,s,t]:=by
 match l,h with
 |[a,b,c,d,e,f,g,i,j,k,m,n,o,p,q,r,s,t],_=>exact⟨a,b,c,d,e,f,g,i,j,k,m,n,o,p,q,r,s,t,rfl⟩
theorem kRK {α:Type} {l:List α} (h:l.length=4): ∃a b c d,l=[a,b,c,d]:=by
 match l,h with
 |[a,b,c,d],_=>exact⟨a,b,c,d,rfl⟩
theorem kRL {α:Type} {l:List α} (h:l.length=8): ∃a b c d e f g i,l=[a,b,c,d,e,f,g,i]:=by
 match l,h with
 |[a,b,c,d,e,f,g,i],_=>exact⟨a,b,c,d,e,f,g,i,rfl⟩
theorem cz3:prog.cellsOf 3=1:=by kernel_rfl
theorem cz4:prog.cellsOf 4=1:=by kernel_rfl
theorem cz41:prog.cellsOf 41=1:=by kernel_rfl
theorem cz9:prog.cellsOf 9=1:=by kernel_rfl
theorem cz53:prog.cellsOf 53=1:=by kernel_rfl
theorem cz63:prog.cellsOf 63=1:=by kernel_rfl
theorem cz64:prog.cellsOf 64=1:=by kernel_rfl
theorem kSm:prog.cellsOf 188=1:=by kernel_rfl
theorem cz54:prog.cellsOf 54=4:=by kernel_rfl
theorem cz55:prog.cellsOf 55=6:=by kernel_rfl
theorem cz57:prog.cellsOf 57=13:=by kernel_rfl
theorem cz59:prog.cellsOf 59=3:=by kernel_rfl
theorem cz61:prog.cellsOf 61=18:=by kernel_rfl
theorem kRM:prog.cellsOf 181=3:=by kernel_rfl
theorem kRN:prog.cellsOf 192=3:=by kernel_rfl
theorem kRO:prog.cellsOf 187=4:=by kernel_rfl
theorem kRP:prog.cellsOf 190=8:=by kernel_rfl
theorem cz66:prog.cellsOf 66=3:=by kernel_rfl
theorem kDG {n:Int} (h:(Lit.int .u64 n).wf=true):u64 n:=by
 simp only[Lit.wf,qg,qj] at h;have h1:(0:Int)≤n:=h.1;have h2:n≤18446744073709551615:=h.2;exact⟨h1,by omega⟩
section
variable {cs:List Value}
theorem kRQ (h:Td enc w base spare held 3 cs): ∃a:Int,cs=(Rails.intK .i64).f a∧True:=by
 obtain⟨b,e,_⟩:=kAP underlying3 h;exact⟨b,e,trivial⟩
theorem kRR (h:Td enc w base spare held 9 cs): ∃a:Bs,cs=strK.f a∧True:=by
 obtain⟨s,e⟩:=kCl underlying9 h;exact⟨s,e,trivial⟩
theorem kKQ (h:Td enc w base spare held 53 cs): ∃a:Hd,cs=[.slice a.A a.ys.length a.c]∧RS w (Rails.intK .i64) a.A a.ys:=by
 obtain⟨A,c,ys,e,r,_⟩:=kM1 (Rails.intK .i64) underlying53 cz3 (fun h=>kRQ h) h;exact⟨⟨A,c,ys⟩,e,r⟩
theorem kSn (h:Td enc w base spare held 57 cs): ∃a:PDv,cs=pdC a∧a.rs w:=by
 obtain⟨c0,c1,c2,c3,c4,c5,c6,c7,c8,c9,c10,c11,c12,rfl⟩:=kRI ((kDF underlying57 h).trans cz57);obtain⟨b0,e0,_⟩:=kAP underlying3 (cs:=[c0]) (kAG (o:=0) (c:=1) underlying57 h 0 rfl cz3);have f1:Td enc w base spare held 54 [c1,c2,c3,c4]:=kAG (o:=1) (c:=4) underlying57 h 1 rfl cz54;have f2:Td enc w base spare held 55 [c5,c6,c7,c8,c9,c10]:=kAG (o:=5) (c:=6) underlying57 h 2 rfl cz55;obtain⟨bd,ed,_⟩:=kAP underlying3 (cs:=[c11]) (kAG (o:=11) (c:=1) underlying57 h 3 rfl cz3);obtain⟨bw,ew,_⟩:=kAP underlying3 (cs:=[c12]) (kAG (o:=12) (c:=1) underlying57 h 4 rfl cz3);have g1:=kNQ underlying54 f1 cz53;have g2:=kNQ underlying55 f2 cz3;obtain⟨r0,e1,h1⟩:=kKQ (cs:=[c1]) (g1 0 (by decide));obtain⟨r1,e2,h2⟩:=kKQ (cs:=[c2]) (g1 1 (by decide));obtain⟨r2,e3,h3⟩:=kKQ (cs:=[c3]) (g1 2 (by decide));obtain⟨r3,e4,h4⟩:=kKQ (cs:=[c4]) (g1 3 (by decide));obtain⟨d0,e5,_⟩:=kAP underlying3 (cs:=[c5]) (g2 0 (by decide));obtain⟨d1,e6,_⟩:=kAP underlying3 (cs:=[c6]) (g2 1 (by decide));obtain⟨d2,e7,_⟩:=kAP underlying3 (cs:=[c7]) (g2 2 (by decide));obtain⟨d3,e8,_⟩:=kAP underlying3 (cs:=[c8]) (g2 3 (by decide));obtain⟨d4,e9,_⟩:=kAP underlying3 (cs:=[c9]) (g2 4 (by decide));obtain⟨d5,e10,_⟩:=kAP underlying3 (cs:=[c10]) (g2 5 (by decide));cases e0;cases e1;cases e2;cases e3;cases e4;cases e5;cases e6;cases e7;cases e8;cases e9;cases e10;cases ed;cases ew;refine⟨⟨b0,r0,r1,r2,r3,d0,d1,d2,d3,d4,d5,bd,bw⟩,rfl,fun k hk=>?_⟩;obtain rfl|rfl|rfl|rfl:k=0∨k=1∨k=2∨k=3:=by omega
 ·exact h1
 ·exact h2
 ·exact h3
 ·exact h4
theorem kSo (h:Td enc w base spare held 59 cs): ∃a:IDv,cs=idK.f a∧RS w (Rails.intK .i64) a.sup.A a.sup.ys∧0≤a.dly:=by
 obtain⟨c0,c1,c2,rfl⟩:=kLI ((kDF underlying59 h).trans cz59);obtain⟨b0,e0,_⟩:=kAP underlying3 (cs:=[c0]) (kAG (o:=0) (c:=1) underlying59 h 0 rfl cz3);obtain⟨b1,e1,h1⟩:=kKQ (cs:=[c1]) (kAG (o:=1) (c:=1) underlying59 h 1 rfl cz53);obtain⟨b2,e2,g⟩:=kAP underlying41 (cs:=[c2]) (kAG (o:=2) (c:=1) underlying59 h 2 rfl cz41);cases e0;cases e1;cases e2;exact⟨⟨b0,b1,b2⟩,rfl,h1,(kDG g).1⟩
theorem kSp (h:Td enc w base spare held 61 cs): ∃a:BDv,cs=bdK.f a∧a.pw.rs w∧RS w (Rails.intK .i64) a.il.sup.A a.il.sup.ys∧0≤a.il.dly:=by
 obtain⟨c0,c1,c2,c3,c4,c5,c6,c7,c8,c9,c10,c11,c12,c13,c14,c15,c16,c17,rfl⟩:=kRJ ((kDF underlying61 h).trans cz61);obtain⟨b0,e0,_⟩:=kAP underlying3 (cs:=[c0]) (kAG (o:=0) (c:=1) underlying61 h 0 rfl cz3);obtain⟨b1,e1,h1⟩:=kSn (cs:=[c1,c2,c3,c4,c5,c6,c7,c8,c9,c10,c11,c12,c13]) (kAG (o:=1) (c:=13) underlying61 h 1 rfl cz57);obtain⟨b2,e2,h2⟩:=kSo (cs:=[c14,c15,c16]) (kAG (o:=14) (c:=3) underlying61 h 2 rfl cz59);obtain⟨b3,e3⟩:=kCl underlying9 (cs:=[c17]) (kAG (o:=17) (c:=1) underlying61 h 3 rfl cz9);cases e0;cases e1;cases e2;cases e3;exact⟨⟨b0,b1,b2,b3⟩,rfl,h1,h2⟩
theorem kSq (h:Td enc w base spare held 192 cs): ∃a:Ro,cs=roK.f a∧rgO a:=by
 obtain⟨c0,c1,c2,rfl⟩:=kLI ((kDF underlying192 h).trans kRN);obtain⟨b0,e0⟩:=kKP underlying4 (cs:=[c0]) (kAG (o:=0) (c:=1) underlying192 h 0 rfl cz4);obtain⟨b1,e1,g1⟩:=kAP underlying41 (cs:=[c1]) (kAG (o:=1) (c:=1) underlying192 h 1 rfl cz41);obtain⟨b2,e2,g2⟩:=kAP underlying41 (cs:=[c2]) (kAG (o:=2) (c:=1) underlying192 h 2 rfl cz41);cases e0;cases e1;cases e2;exact⟨⟨b0,b1,b2⟩,rfl,kDG g1,kDG g2⟩
theorem kSr (h:Td enc w base spare held 187 cs): ∃g:Gd,cs=[.bool g.used,.int .u64 g.reg,.int .u64 g.mask,.int .u64 g.val]∧rgG g:=by
 obtain⟨c0,c1,c2,c3,rfl⟩:=kRK ((kDF underlying187 h).trans kRO);obtain⟨b0,e0⟩:=kKP underlying4 (cs:=[c0]) (kAG (o:=0) (c:=1) underlying187 h 0 rfl cz4);obtain⟨b1,e1,g1⟩:=kAP underlying41 (cs:=[c1]) (kAG (o:=1) (c:=1) underlying187 h 1 rfl cz41);obtain⟨b2,e2,g2⟩:=kAP underlying41 (cs:=[c2]) (kAG (o:=2) (c:=1) underlying187 h 2 rfl cz41);obtain⟨b3,e3,g3⟩:=kAP underlying41 (cs:=[c3]) (kAG (o:=3) (c:=1) underlying187 h 3 rfl cz41);cases e0;cases e1;cases e2;cases e3;exact⟨⟨b0,b1,b2,b3⟩,rfl,kDG g1,kDG g2,kDG g3⟩
theorem kSs (h:Td enc w base spare held 190 cs): ∃a:TH,cs=thK.f a∧RS w roK a.A a.t.ops∧rgT a.t:=by
 obtain⟨c0,c1,c2,c3,c4,c5,c6,c7,rfl⟩:=kRL ((kDF underlying190 h).trans kRP);obtain⟨b0,e0,_⟩:=kAP underlying3 (cs:=[c0]) (kAG (o:=0) (c:=1) underlying190 h 0 rfl cz3);obtain⟨b1,e1⟩:=kCl underlying9 (cs:=[c1]) (kAG (o:=1) (c:=1) underlying190 h 1 rfl cz9);obtain⟨g,e2,hg⟩:=kSr (cs:=[c2,c3,c4,c5]) (kAG (o:=2) (c:=4) underlying190 h 2 rfl kRO);obtain⟨A,c,ys,e3,hr,hro⟩:=kM1 roK (cs:=[c6]) underlying188 kRN (fun h=>kSq h) (kAG (o:=6) (c:=1) underlying190 h 3 rfl kSm);obtain⟨b4,e4,_⟩:=kAP underlying3 (cs:=[c7]) (kAG (o:=7) (c:=1) underlying190 h 4 rfl cz3);cases e0;cases e1;cases e2;cases e3;cases e4;exact⟨⟨⟨b0,b1,g,ys,b4⟩,A,c⟩,rfl,hr,hg,fun o ho=>by
  obtain⟨i,hi,rfl⟩:=List.getElem_of_mem ho;have:=hro i hi;simpa[List.getD,hi] using this⟩
theorem kSt (h:Td enc w base spare held 66 cs): ∃a:DH,cs=dhK.f a∧DR w a∧rgD a.d:=by
 obtain⟨c0,c1,c2,rfl⟩:=kLI ((kDF underlying66 h).trans cz66);obtain⟨b0,e0⟩:=kCl underlying9 (cs:=[c0]) (kAG (o:=0) (c:=1) underlying66 h 0 rfl cz9);obtain⟨A1,n1,ss,e1,h1,_⟩:=kM1 strK (cs:=[c1]) underlying63 cz9 (fun h=>kRR h) (kAG (o:=1) (c:=1) underlying66 h 1 rfl cz63);obtain⟨A2,n2,hs,e2,h2,hG⟩:=kM1 thK (cs:=[c2]) underlying64 kRP (fun h=>kSs h) (kAG (o:=2) (c:=1) underlying66 h 2 rfl cz64);cases e0;cases e1;cases e2;exact⟨⟨b0,A1,n1,ss,A2,n2,hs⟩,rfl,⟨h1,h2,fun i hi=>(hG i hi).1⟩,fun t ht=>by
  obtain⟨x,hx,rfl⟩:=List.mem_map.1 ht;obtain⟨i,hi,rfl⟩:=List.getElem_of_mem hx;have:=(hG i hi).2;simpa[List.getD,hi] using this⟩
end
theorem el1 {t:TypeId} {cs:List Value} {n:Nat} {y:DataW H×List MemPlace} {Q:Prop} (f:Td enc w base spare held t cs→Q) (h:DataW.trod enc prog w base spare held n t cs=some y):Q:=f ⟨_,_,h⟩
theorem kFK {α:Type} (K:Enc α) (G:α→Prop) {t e:TypeId} {r:Reach} {b0:Nat} {v:Value} {d:DataW H} {ps:List MemPlace} (ht:prog.underlying t=some (.slice e)) (hsz:prog.cellsOf e=K.sz)
 (hel: ∀n cs' y,DataW.trod enc prog w base spare held n e cs'=some y→ ∃a:α,cs'=K.f a∧G a) (hval:Value.okWide prog w r b0 t v) (hd:DataW.Trod enc prog w base spare held t v d ps):
 ∃(A:Option Addr) (c:Nat) (ys:List α),v= .slice A ys.length c∧RS w K A ys∧ys.length≤9223372036854775807∧ ∀i,i<ys.length→G (ys.getD i K.d):=by
 obtain⟨A,n,c,rfl⟩:=okWide_slice ht hval;obtain⟨fuel,hf⟩:=hd;obtain⟨A1,n1,c1,ys,e1,hl1,hr1,hG⟩:=kJ7 K G ht hsz hel hf;simp[Value.cells] at e1;obtain⟨rfl,rfl,rfl⟩:=e1;subst hl1;refine⟨_,_,ys,rfl,hr1,?_,hG⟩;rcases open_slice ht hf with ⟨h0,_⟩|⟨a,len,cap,m,n,D,Pl,hcs,hb,hl,hm,hmm,hx,hi⟩
 ·simp[Value.cells] at h0;have:=h0.2.1;simp[this]
 ·simp[Value.cells] at hcs;have h1:=hcs.2.1;have h2:maxLen=9223372036854775807:=rfl;omega
end
theorem kRS {l:List (String×DataW Unit)} {n:String} {d:DataW Unit} {W:World} (h:laidMet prog l W) (hm:("strconv.ErrRange",DataW.iface n d)∈l):Dv.EvR W:=by
 obtain⟨g,t,cs,fuel,p,h1,h2,h3,h4⟩:=Lib.laidMet.reads h hm;obtain rfl:g=4:=qY (h1.symm.trans (show prog.globalNamed "strconv.ErrRange"=some 4 by kernel_rfl));have ht:(prog.globals[4]?).map (·.type)=some 410:=by kernel_rfl
 obtain rfl:=qY (h2.symm.trans ht);obtain⟨f2,u,v,e,_⟩:=iface_of_trod underlying410 h4;have h5:=World.var?_cell h1 h3 0;refine⟨u,v,h5.trans ?_⟩;rw[←Array.getElem?_toList,e];rfl
end Go.Proofs.YtfmcioghekppjaaGreatDoor.Pw
