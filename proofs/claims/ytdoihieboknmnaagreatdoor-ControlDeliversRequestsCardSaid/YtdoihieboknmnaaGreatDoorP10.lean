/-
  Joined.
-/
import Derived.Test.YtdoihieboknmnaaGreatDoorP06
import Derived.Test.YtdoihieboknmnaaGreatDoorP09
import Derived.OpenShut
import Derived.WideShapes
import Derived.ChangeShapes
import Derived.LaidLaws
import Derived.Lib.LaidU8
import Derived.Lib.LaidTab
set_option linter.unusedSimpArgs false
set_option linter.unusedVariables false
set_option maxRecDepth 100000
namespace Go.Proofs.YtdoihieboknmnaaGreatDoor.Pw
open Go Go.Sv Go.Rails Go.Drv Go.Pw Go.ChangeShapes Go.WideShapes Go.Deep Go.RowKit Go.Proofs.Tryz
section
variable {H:Type} {enc:TypeId×Value→H} {w:World} {base:Nat} {spare:Nat→Bool} {held:Bool}
def Td (enc:TypeId×Value→H) (w:World) (base:Nat) (spare:Nat→Bool) (held:Bool) (t:TypeId) (cs:List Value):Prop:= ∃n y,DataW.trod enc prog w base spare held n t cs=some y
section
variable {t:TypeId} {cs:List Value}
theorem kDF {fs:Array Field} (a:prog.underlying t=some (.struct fs)) (h:Td enc w base spare held t cs):cs.length=prog.cellsOf t:=by
 obtain⟨n,y,h⟩:=h;obtain⟨_,_,_,_,b,_⟩:=DataW.trod_struct a h;exact b
theorem kAG {fs:Array Field} (e:prog.underlying t=some (.struct fs)) (h:Td enc w base spare held t cs) (i:Nat) {u o c:Nat} (g:fs[i]?.map (fun f=>(f.type,f.offset))=some (u,o)) (j:prog.cellsOf u=c):Td enc w base spare held u ((cs.drop o).take c):=by
 obtain⟨n,y,h⟩:=h;obtain⟨xs,m,_,_,_,k,l⟩:=DataW.trod_struct e h;obtain⟨f,b,p⟩:=Option.map_eq_some_iff.1 g;obtain⟨rfl,rfl⟩:=Prod.mk.inj p;have d:=l i f b;have a:i<xs.length:=by rw[k];exact(Array.getElem?_eq_some_iff.1 b).1
 rw[j,qJ a] at d;exact⟨_,_,d⟩
theorem kNQ {n e c:Nat} (b:prog.underlying t=some (.array n e)) (h:Td enc w base spare held t cs) (d:prog.cellsOf e=c): ∀i,i<n→Td enc w base spare held e ((cs.drop (i* c)).take c):=by
 obtain⟨k,y,h⟩:=h;obtain⟨xs,m,_,_,_,j,f⟩:=DataW.trod_array b h;intro i g;have a:=f i g;rw[d,qJ (by omega)] at a;exact⟨_,_,a⟩
theorem kAP {k:IntKind} (a:prog.underlying t=some (.int k)) (h:Td enc w base spare held t cs): ∃n,cs=[.int k n]∧(Lit.int k n).wf=true:=by
 obtain⟨_,_,h⟩:=h;obtain⟨b,e,_,g⟩:=DataW.trod_int a h;exact⟨b,e,g⟩
theorem kKP (a:prog.underlying t=some .bool) (h:Td enc w base spare held t cs): ∃b,cs=[.bool b]:=by
 obtain⟨_,_,h⟩:=h;obtain⟨b,e,_⟩:=DataW.trod_bool a h;exact⟨b,e⟩
theorem kCl (a:prog.underlying t=some .string) (h:Td enc w base spare held t cs): ∃s:Bs,cs=[.string (bs s)]:=by
 obtain⟨_,_,h⟩:=h;obtain⟨b,e,_⟩:=DataW.trod_string a h;exact⟨b.data.toList,e⟩
theorem kM1 {α:Type} (K:Enc α) {G:α→Prop} {e:TypeId} (j:prog.underlying t=some (.slice e)) (b:prog.cellsOf e=K.sz) (g: ∀ {cs'},Td enc w base spare held e cs'→ ∃a:α,cs'=K.f a∧G a) (h:Td enc w base spare held t cs): ∃A c ys,cs=[.slice A ys.length c]∧RS w K A ys∧ ∀i,i<ys.length→G (ys.getD i K.d):=by
 obtain⟨_,_,h⟩:=h;obtain⟨A,n,c,ys,k,rfl,l,m⟩:=kJ7 K G j b (fun _ _ _ h=>g ⟨_,_,h⟩) h;exact⟨A,c,ys,k,l,m⟩
end
theorem kRI {α:Type} {l:List α} (h:l.length=13): ∃a b c d e f g i j k m n o,l=[a,b,c,d,e,f,g,i,j,k,m,n,o]:=by
 match l,h with
 |[a,b,c,d,e,f,g,i,j,k,m,n,o],_=>exact⟨a,b,c,d,e,f,g,i,j,k,m,n,o,rfl⟩
theorem kRJ {α:Type} {l:List α} (h:l.length=18): ∃a b c d e f g i j k m n o p q r s t,l=[a,b,c,d,e,f,g,i,j,k,m,n,o,p,q,r,s,t]:=by
 match l,h with
 |[a,b,c,d,e,f,g,i,j,k,m,n,o,p,q,r,s,t],_=>exact⟨a,b,c,d,e,f,g,i,j,k,m,n,o,p,q,r,s,t,rfl⟩
theorem kRK {α:Type} {l:List α} (h:l.length=4): ∃a b c d,l=[a,b,c,d]:=by
 match l,h with
 |[a,b,c,d],_=>exact⟨a,b,c,d,rfl⟩
theorem kRL {α:Type} {l:List α} (h:l.length=8): ∃a b c d e f g i,l=[a,b,c,d,e,f,g,i]:=by
 match l,h with
 |[a,b,c,d,e,f,g,i],_=>exact⟨a,b,c,d,e,f,g,i,rfl⟩
theorem cz3:prog.cellsOf 3=1:=by kernel_rfl
theorem cz4:prog.cellsOf 4=1:=by kernel_rfl
theorem cz44:prog.cellsOf 44=1:=by kernel_rfl
theorem cz9:prog.cellsOf 9=1:=by kernel_rfl
theorem cz51:prog.cellsOf 51=1:=by kernel_rfl
theorem cz45:prog.cellsOf 45=1:=by kernel_rfl
theorem cz46:prog.cellsOf 46=1:=by kernel_rfl
theorem kWL:prog.cellsOf 148=1:=by kernel_rfl
theorem cz52:prog.cellsOf 52=4:=by kernel_rfl
theorem cz53:prog.cellsOf 53=6:=by kernel_rfl
theorem cz55:prog.cellsOf 55=13:=by kernel_rfl
theorem cz57:prog.cellsOf 57=3:=by kernel_rfl
theorem cz59:prog.cellsOf 59=18:=by kernel_rfl
theorem kVz:prog.cellsOf 210=3:=by kernel_rfl
theorem kW0:prog.cellsOf 162=3:=by kernel_rfl
theorem kW1:prog.cellsOf 147=4:=by kernel_rfl
theorem kW2:prog.cellsOf 150=8:=by kernel_rfl
theorem cz48:prog.cellsOf 48=3:=by kernel_rfl
theorem kDG {n:Int} (h:(Lit.int .u64 n).wf=true):u64 n:=by
 simp only[Lit.wf,qg,qj] at h;have a:(0:Int)≤n:=h.1;have b:n≤18446744073709551615:=h.2;exact⟨a,by omega⟩
section
variable {cs:List Value}
theorem kRQ (h:Td enc w base spare held 3 cs): ∃a:Int,cs=(Rails.intK .i64).f a∧True:=by
 obtain⟨b,e,_⟩:=kAP underlying3 h;exact⟨b,e,trivial⟩
theorem kRR (h:Td enc w base spare held 9 cs): ∃a:Bs,cs=strK.f a∧True:=by
 obtain⟨s,e⟩:=kCl underlying9 h;exact⟨s,e,trivial⟩
theorem kKQ (h:Td enc w base spare held 51 cs): ∃a:Hd,cs=[.slice a.A a.ys.length a.c]∧RS w (Rails.intK .i64) a.A a.ys:=by
 obtain⟨A,c,ys,e,r,_⟩:=kM1 (Rails.intK .i64) underlying51 cz3 (fun h=>kRQ h) h;exact⟨⟨A,c,ys⟩,e,r⟩
theorem kSn (h:Td enc w base spare held 55 cs): ∃a:PDv,cs=pdC a∧a.rs w:=by
 obtain⟨u,j,l,m,n,p,q,r,s,t,d,f,g,rfl⟩:=kRI ((kDF underlying55 h).trans cz55);obtain⟨v,x,_⟩:=kAP underlying3 (cs:=[u]) (kAG (o:=0) (c:=1) underlying55 h 0 rfl cz3);have y:Td enc w base spare held 52 [j,l,m,n]:=kAG (o:=1) (c:=4) underlying55 h 1 rfl cz52;have z:Td enc w base spare held 53 [p,q,r,s,t,d]:=kAG (o:=5) (c:=6) underlying55 h 2 rfl cz53;obtain⟨A,B,_⟩:=kAP underlying3 (cs:=[f]) (kAG (o:=11) (c:=1) underlying55 h 3 rfl cz3);obtain⟨C,D,_⟩:=kAP underlying3 (cs:=[g]) (kAG (o:=12) (c:=1) underlying55 h 4 rfl cz3);have e:=kNQ underlying52 y cz51;have b:=kNQ underlying53 z cz3;obtain⟨r0,E,F⟩:=kKQ (cs:=[j]) (e 0 (by decide));obtain⟨G,H,I⟩:=kKQ (cs:=[l]) (e 1 (by decide));obtain⟨J,K,L⟩:=kKQ (cs:=[m]) (e 2 (by decide));obtain⟨M,N,O⟩:=kKQ (cs:=[n]) (e 3 (by decide));obtain⟨P,Q,_⟩:=kAP underlying3 (cs:=[p]) (b 0 (by decide));obtain⟨R,S,_⟩:=kAP underlying3 (cs:=[q]) (b 1 (by decide));obtain⟨T,U,_⟩:=kAP underlying3 (cs:=[r]) (b 2 (by decide));obtain⟨V,W,_⟩:=kAP underlying3 (cs:=[s]) (b 3 (by decide));obtain⟨X,Y,_⟩:=kAP underlying3 (cs:=[t]) (b 4 (by decide));obtain⟨Z,i,_⟩:=kAP underlying3 (cs:=[d]) (b 5 (by decide));cases x;cases E;cases H;cases K;cases N;cases Q;cases S;cases U;cases W;cases Y;cases i;cases B;cases D;refine⟨⟨v,r0,G,J,M,P,R,T,V,X,Z,A,C⟩,rfl,fun k hk=>?_⟩;obtain rfl|rfl|rfl|rfl:k=0∨k=1∨k=2∨k=3:=by omega
 ·exact F
 ·exact I
 ·exact L
 ·exact O
theorem kSo (h:Td enc w base spare held 57 cs): ∃a:IDv,cs=idK.f a∧RS w (Rails.intK .i64) a.sup.A a.sup.ys∧0≤a.dly:=by
 obtain⟨b,d,e,rfl⟩:=kLI ((kDF underlying57 h).trans cz57);obtain⟨i,j,_⟩:=kAP underlying3 (cs:=[b]) (kAG (o:=0) (c:=1) underlying57 h 0 rfl cz3);obtain⟨k,l,m⟩:=kKQ (cs:=[d]) (kAG (o:=1) (c:=1) underlying57 h 1 rfl cz51);obtain⟨n,p,g⟩:=kAP underlying44 (cs:=[e]) (kAG (o:=2) (c:=1) underlying57 h 2 rfl cz44);cases j;cases l;cases p;exact⟨⟨i,k,n⟩,rfl,m,(kDG g).1⟩
theorem kSp (h:Td enc w base spare held 59 cs): ∃a:BDv,cs=bdK.f a∧a.pw.rs w∧RS w (Rails.intK .i64) a.il.sup.A a.il.sup.ys∧0≤a.il.dly:=by
 obtain⟨m,n,p,q,r,s,t,u,v,x,b,d,e,g,i,j,k,l,rfl⟩:=kRJ ((kDF underlying59 h).trans cz59);obtain⟨y,z,_⟩:=kAP underlying3 (cs:=[m]) (kAG (o:=0) (c:=1) underlying59 h 0 rfl cz3);obtain⟨B,C,D⟩:=kSn (cs:=[n,p,q,r,s,t,u,v,x,b,d,e,g]) (kAG (o:=1) (c:=13) underlying59 h 1 rfl cz55);obtain⟨E,F,G⟩:=kSo (cs:=[i,j,k]) (kAG (o:=14) (c:=3) underlying59 h 2 rfl cz57);obtain⟨H,I⟩:=kCl underlying9 (cs:=[l]) (kAG (o:=17) (c:=1) underlying59 h 3 rfl cz9);cases z;cases C;cases F;cases I;exact⟨⟨y,B,E,H⟩,rfl,D,G⟩
theorem kSq (h:Td enc w base spare held 162 cs): ∃a:Ro,cs=roK.f a∧rgO a:=by
 obtain⟨b,d,e,rfl⟩:=kLI ((kDF underlying162 h).trans kW0);obtain⟨g,i⟩:=kKP underlying4 (cs:=[b]) (kAG (o:=0) (c:=1) underlying162 h 0 rfl cz4);obtain⟨j,k,l⟩:=kAP underlying44 (cs:=[d]) (kAG (o:=1) (c:=1) underlying162 h 1 rfl cz44);obtain⟨m,n,p⟩:=kAP underlying44 (cs:=[e]) (kAG (o:=2) (c:=1) underlying162 h 2 rfl cz44);cases i;cases k;cases n;exact⟨⟨g,j,m⟩,rfl,kDG l,kDG p⟩
theorem kSr (h:Td enc w base spare held 147 cs): ∃g:Gd,cs=[.bool g.used,.int .u64 g.reg,.int .u64 g.mask,.int .u64 g.val]∧rgG g:=by
 obtain⟨a,b,d,e,rfl⟩:=kRK ((kDF underlying147 h).trans kW1);obtain⟨f,i⟩:=kKP underlying4 (cs:=[a]) (kAG (o:=0) (c:=1) underlying147 h 0 rfl cz4);obtain⟨j,k,l⟩:=kAP underlying44 (cs:=[b]) (kAG (o:=1) (c:=1) underlying147 h 1 rfl cz44);obtain⟨m,n,p⟩:=kAP underlying44 (cs:=[d]) (kAG (o:=2) (c:=1) underlying147 h 2 rfl cz44);obtain⟨q,r,s⟩:=kAP underlying44 (cs:=[e]) (kAG (o:=3) (c:=1) underlying147 h 3 rfl cz44);cases i;cases k;cases n;cases r;exact⟨⟨f,j,m,q⟩,rfl,kDG l,kDG p,kDG s⟩
theorem kSs (h:Td enc w base spare held 150 cs): ∃a:TH,cs=thK.f a∧RS w roK a.A a.t.ops∧rgT a.t:=by
 obtain⟨e,j,k,l,m,n,p,q,rfl⟩:=kRL ((kDF underlying150 h).trans kW2);obtain⟨r,s,_⟩:=kAP underlying3 (cs:=[e]) (kAG (o:=0) (c:=1) underlying150 h 0 rfl cz3);obtain⟨u,v⟩:=kCl underlying9 (cs:=[j]) (kAG (o:=1) (c:=1) underlying150 h 1 rfl cz9);obtain⟨g,x,y⟩:=kSr (cs:=[k,l,m,n]) (kAG (o:=2) (c:=4) underlying150 h 2 rfl kW1);obtain⟨A,c,z,B,C,b⟩:=kM1 roK (cs:=[p]) underlying148 kW0 (fun h=>kSq h) (kAG (o:=6) (c:=1) underlying150 h 3 rfl kWL);obtain⟨D,E,_⟩:=kAP underlying3 (cs:=[q]) (kAG (o:=7) (c:=1) underlying150 h 4 rfl cz3);cases s;cases v;cases x;cases B;cases E;exact⟨⟨⟨r,u,g,z,D⟩,A,c⟩,rfl,C,y,fun o F=>by
  obtain⟨i,d,rfl⟩:=List.getElem_of_mem F;have:=b i d;simpa[List.getD,d] using this⟩
theorem kSt (h:Td enc w base spare held 48 cs): ∃a:DH,cs=dhK.f a∧DR w a∧rgD a.d:=by
 obtain⟨g,j,k,rfl⟩:=kLI ((kDF underlying48 h).trans cz48);obtain⟨l,m⟩:=kCl underlying9 (cs:=[g]) (kAG (o:=0) (c:=1) underlying48 h 0 rfl cz9);obtain⟨n,p,ss,q,r,_⟩:=kM1 strK (cs:=[j]) underlying45 cz9 (fun h=>kRR h) (kAG (o:=1) (c:=1) underlying48 h 1 rfl cz45);obtain⟨s,u,v,y,z,e⟩:=kM1 thK (cs:=[k]) underlying46 kW2 (fun h=>kSs h) (kAG (o:=2) (c:=1) underlying48 h 2 rfl cz46);cases m;cases q;cases y;exact⟨⟨l,n,p,ss,s,u,v⟩,rfl,⟨r,z,fun i b=>(e i b).1⟩,fun t A=>by
  obtain⟨x,B,rfl⟩:=List.mem_map.1 A;obtain⟨i,b,rfl⟩:=List.getElem_of_mem B;have:=(e i b).2;simpa[List.getD,b] using this⟩
end
theorem el1 {t:TypeId} {cs:List Value} {n:Nat} {y:DataW H×List MemPlace} {Q:Prop} (f:Td enc w base spare held t cs→Q) (h:DataW.trod enc prog w base spare held n t cs=some y):Q:=f ⟨_,_,h⟩
theorem kFK {α:Type} (K:Enc α) (G:α→Prop) {t e:TypeId} {r:Reach} {x:Nat} {v:Value} {d:DataW H} {ps:List MemPlace} (h:prog.underlying t=some (.slice e)) (j:prog.cellsOf e=K.sz)
 (k: ∀n cs' y,DataW.trod enc prog w base spare held n e cs'=some y→ ∃a:α,cs'=K.f a∧G a) (b:Value.okWide prog w r x t v) (z:DataW.Trod enc prog w base spare held t v d ps):
 ∃(A:Option Addr) (c:Nat) (ys:List α),v= .slice A ys.length c∧RS w K A ys∧ys.length≤9223372036854775807∧ ∀i,i<ys.length→G (ys.getD i K.d):=by
 obtain⟨A,n,c,rfl⟩:=okWide_slice h b;obtain⟨p,q⟩:=z;obtain⟨E,F,I,ys,s,l,o,B⟩:=kJ7 K G h j k q;simp[Value.cells] at s;obtain⟨rfl,rfl,rfl⟩:=s;subst l;refine⟨_,_,ys,rfl,o,?_,B⟩;rcases open_slice h q with ⟨u,_⟩|⟨a,len,cap,m,n,D,J,g,L,M,N,C,O,P⟩
 ·simp[Value.cells] at u;have:=u.2.1;simp[this]
 ·simp[Value.cells] at g;have Q:=g.2.1;have R:maxLen=9223372036854775807:=rfl;omega
end
theorem kRS {l:List (String×DataW Unit)} {n:String} {d:DataW Unit} {W:World} (h:laidMet prog l W) (c:("strconv.ErrRange",DataW.iface n d)∈l):Dv.EvR W:=by
 obtain⟨g,t,cs,a,p,b,f,i,j⟩:=Lib.laidMet.reads h c;obtain rfl:g=4:=qY (b.symm.trans (show prog.globalNamed "strconv.ErrRange"=some 4 by kernel_rfl));have k:(prog.globals[4]?).map (·.type)=some 448:=by kernel_rfl
 obtain rfl:=qY (f.symm.trans k);obtain⟨o,u,v,e,_⟩:=iface_of_trod underlying448 j;have m:=World.var?_cell b i 0;refine⟨u,v,m.trans ?_⟩;rw[←Array.getElem?_toList,e];rfl
end Go.Proofs.YtdoihieboknmnaaGreatDoor.Pw
