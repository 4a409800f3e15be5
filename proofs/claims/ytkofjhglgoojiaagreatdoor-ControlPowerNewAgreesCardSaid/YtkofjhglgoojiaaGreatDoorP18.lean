/-
  Joined.
-/
import Derived.Test.YtkofjhglgoojiaaGreatDoorP06
import Derived.Test.YtkofjhglgoojiaaGreatDoorP17
import Derived.OpenShut
import Derived.WideShapes
import Derived.ChangeShapes
import Derived.LaidLaws
import Derived.Lib.LaidU8
import Derived.Lib.LaidTab
set_option linter.unusedSimpArgs false
set_option linter.unusedVariables false
set_option maxRecDepth 100000
namespace Go.Proofs.YtkofjhglgoojiaaGreatDoor.Pw
open Go Go.Sv Go.Rails Go.Drv Go.Pw Go.ChangeShapes Go.WideShapes Go.Deep Go.RowKit
section
variable {H:Type} {enc:TypeId×Value→H} {w:World} {base:Nat} {spare:Nat→Bool} {held:Bool}
def Td (enc:TypeId×Value→H) (w:World) (base:Nat) (spare:Nat→Bool) (held:Bool) (t:TypeId) (cs:List Value):Prop:= ∃n y,DataW.trod enc Tryz.prog w base spare held n t cs=some y
section
variable {t:TypeId} {cs:List Value}
theorem td_len {fs:Array Field} (ht:Tryz.prog.underlying t=some (.struct fs)) (h:Td enc w base spare held t cs):cs.length=Tryz.prog.cellsOf t:=by
 obtain⟨n,y,h⟩:=h
 obtain⟨_,_,_,_,hl,_⟩:=DataW.trod_struct ht h
 exact hl
theorem td_fld {fs:Array Field} (ht:Tryz.prog.underlying t=some (.struct fs)) (h:Td enc w base spare held t cs) (i:Nat) {u o c:Nat} (hi:fs[i]?.map (fun f=>(f.type,f.offset))=some (u,o)) (hc:Tryz.prog.cellsOf u=c):Td enc w base spare held u ((cs.drop o).take c):=by
 obtain⟨n,y,h⟩:=h
 obtain⟨xs,m,_,_,_,hx,hf⟩:=DataW.trod_struct ht h
 obtain⟨f,h1,h2⟩:=Option.map_eq_some_iff.1 hi
 obtain⟨rfl,rfl⟩:=Prod.mk.inj h2
 have h3:=hf i f h1
 have hlt:i<xs.length:=by rw[hx];exact(Array.getElem?_eq_some_iff.1 h1).1
 rw[hc,List.getElem?_eq_getElem hlt] at h3
 exact⟨_,_,h3⟩
theorem td_arr {n e c:Nat} (ht:Tryz.prog.underlying t=some (.array n e)) (h:Td enc w base spare held t cs) (hc:Tryz.prog.cellsOf e=c): ∀i,i<n→Td enc w base spare held e ((cs.drop (i* c)).take c):=by
 obtain⟨k,y,h⟩:=h
 obtain⟨xs,m,_,_,_,hx,hf⟩:=DataW.trod_array ht h
 intro i hi
 have h3:=hf i hi
 rw[hc,List.getElem?_eq_getElem (by omega)] at h3
 exact⟨_,_,h3⟩
theorem td_int {k:IntKind} (ht:Tryz.prog.underlying t=some (.int k)) (h:Td enc w base spare held t cs): ∃n,cs=[.int k n]∧(Lit.int k n).wf=true:=by
 obtain⟨_,_,h⟩:=h
 obtain⟨b,e,_,g⟩:=DataW.trod_int ht h
 exact⟨b,e,g⟩
theorem td_bool (ht:Tryz.prog.underlying t=some .bool) (h:Td enc w base spare held t cs): ∃b,cs=[.bool b]:=by
 obtain⟨_,_,h⟩:=h
 obtain⟨b,e,_⟩:=DataW.trod_bool ht h
 exact⟨b,e⟩
theorem td_string (ht:Tryz.prog.underlying t=some .string) (h:Td enc w base spare held t cs): ∃s:Bs,cs=[.string (bs s)]:=by
 obtain⟨_,_,h⟩:=h
 obtain⟨b,e,_⟩:=DataW.trod_string ht h
 exact⟨b.data.toList,e⟩
theorem td_sl {α:Type} (K:Enc α) {G:α→Prop} {e:TypeId} (ht:Tryz.prog.underlying t=some (.slice e)) (hsz:Tryz.prog.cellsOf e=K.sz) (hel: ∀ {cs'},Td enc w base spare held e cs'→ ∃a:α,cs'=K.f a∧G a) (h:Td enc w base spare held t cs): ∃A c ys,cs=[.slice A ys.length c]∧RS w K A ys∧ ∀i,i<ys.length→G (ys.getD i K.d):=by
 obtain⟨_,_,h⟩:=h
 obtain⟨A,n,c,ys,e1,rfl,h2,h3⟩:=open_rs K G ht hsz (fun _ _ _ h=>hel ⟨_,_,h⟩) h
 exact⟨A,c,ys,e1,h2,h3⟩
end
theorem list13 {α:Type} {l:List α} (h:l.length=13): ∃a b c d e f g i j k m n o,l=[a,b,c,d,e,f,g,i,j,k,m,n,o]:=by
 match l,h with
 |[a,b,c,d,e,f,g,i,j,k,m,n,o],_=>exact⟨a,b,c,d,e,f,g,i,j,k,m,n,o,rfl⟩
theorem list18 {α:Type} {l:List α} (h:l.length=18): ∃a b c d e f g i j k m n o p q r s t,l=[a,b,c,d,e,f,g,i,j,k,m,n,o,p,q,r,s,t]:=by
 match l,h with
 |[a,b,c,d,e,f,g,i,j,k,m,n,o,p,q,r,s,t],_=>exact⟨a,b,c,d,e,f,g,i,j,k,m,n,o,p,q,r,s,t,rfl⟩
theorem list4' {α:Type} {l:List α} (h:l.length=4): ∃a b c d,l=[a,b,c,d]:=by
 match l,h with
 |[a,b,c,d],_=>exact⟨a,b,c,d,rfl⟩
theorem list8' {α:Type} {l:List α} (h:l.length=8): ∃a b c d e f g i,l=[a,b,c,d,e,f,g,i]:=by
 match l,h with
 |[a,b,c,d,e,f,g,i],_=>exact⟨a,b,c,d,e,f,g,i,rfl⟩
theorem cz3:Tryz.prog.cellsOf 3=1:=by kernel_rfl
theorem cz4:Tryz.prog.cellsOf 4=1:=by kernel_rfl
theorem cz37:Tryz.prog.cellsOf 37=1:=by kernel_rfl
theorem cz9:Tryz.prog.cellsOf 9=1:=by kernel_rfl
theorem cz32:Tryz.prog.cellsOf 32=1:=by kernel_rfl
theorem cz63:Tryz.prog.cellsOf 63=1:=by kernel_rfl
theorem cz64:Tryz.prog.cellsOf 64=1:=by kernel_rfl
theorem cz189:Tryz.prog.cellsOf 189=1:=by kernel_rfl
theorem cz33:Tryz.prog.cellsOf 33=4:=by kernel_rfl
theorem cz34:Tryz.prog.cellsOf 34=6:=by kernel_rfl
theorem cz36:Tryz.prog.cellsOf 36=13:=by kernel_rfl
theorem cz39:Tryz.prog.cellsOf 39=3:=by kernel_rfl
theorem cz41:Tryz.prog.cellsOf 41=18:=by kernel_rfl
theorem cz183:Tryz.prog.cellsOf 183=3:=by kernel_rfl
theorem cz193:Tryz.prog.cellsOf 193=3:=by kernel_rfl
theorem cz188:Tryz.prog.cellsOf 188=4:=by kernel_rfl
theorem cz191:Tryz.prog.cellsOf 191=8:=by kernel_rfl
theorem cz66:Tryz.prog.cellsOf 66=3:=by kernel_rfl
theorem wf_u64 {n:Int} (h:(Lit.int .u64 n).wf=true):u64 n:=by
 simp only[Lit.wf,Bool.and_eq_true,decide_eq_true_eq] at h
 have h1:(0:Int)≤n:=h.1
 have h2:n≤18446744073709551615:=h.2
 exact⟨h1,by omega⟩
section
variable {cs:List Value}
theorem el_i64 (h:Td enc w base spare held 3 cs): ∃a:Int,cs=(Rails.intK .i64).f a∧True:=by
 obtain⟨b,e,_⟩:=td_int Tryz.underlying3 h
 exact⟨b,e,trivial⟩
theorem el_u64 (h:Td enc w base spare held 37 cs): ∃a:Int,cs=(Rails.intK .u64).f a∧Ios.isU a:=by
 obtain⟨b,e,g⟩:=td_int Tryz.underlying37 h
 exact⟨b,e,by have:=wf_u64 g;unfold Ios.isU;unfold u64 at this;omega⟩
theorem el_str (h:Td enc w base spare held 9 cs): ∃a:Bs,cs=strK.f a∧True:=by
 obtain⟨s,e⟩:=td_string Tryz.underlying9 h
 exact⟨s,e,trivial⟩
theorem el_hd (h:Td enc w base spare held 32 cs): ∃a:Hd,cs=[.slice a.A a.ys.length a.c]∧RS w (Rails.intK .i64) a.A a.ys:=by
 obtain⟨A,c,ys,e,r,_⟩:=td_sl (Rails.intK .i64) Tryz.underlying32 cz3 (fun h=>el_i64 h) h
 exact⟨⟨A,c,ys⟩,e,r⟩
theorem el_rail (h:Td enc w base spare held 183 cs): ∃a:Rail,cs=railK.f a∧True:=by
 obtain⟨c0,c1,c2,rfl⟩:=list3 ((td_len Tryz.underlying183 h).trans cz183)
 obtain⟨b0,e0,_⟩:=td_int Tryz.underlying3 (cs:=[c0]) (td_fld (o:=0) (c:=1) Tryz.underlying183 h 0 rfl cz3)
 obtain⟨b1,e1,_⟩:=td_int Tryz.underlying37 (cs:=[c1]) (td_fld (o:=1) (c:=1) Tryz.underlying183 h 1 rfl cz37)
 obtain⟨b2,e2,_⟩:=td_int Tryz.underlying37 (cs:=[c2]) (td_fld (o:=2) (c:=1) Tryz.underlying183 h 2 rfl cz37)
 cases e0;cases e1;cases e2
 exact⟨⟨b0,b1,b2⟩,rfl,trivial⟩
theorem el_pd (h:Td enc w base spare held 36 cs): ∃a:PDv,cs=pdC a∧a.rs w:=by
 obtain⟨c0,c1,c2,c3,c4,c5,c6,c7,c8,c9,c10,c11,c12,rfl⟩:=list13 ((td_len Tryz.underlying36 h).trans cz36)
 obtain⟨b0,e0,_⟩:=td_int Tryz.underlying3 (cs:=[c0]) (td_fld (o:=0) (c:=1) Tryz.underlying36 h 0 rfl cz3)
 have f1:Td enc w base spare held 33 [c1,c2,c3,c4]:=td_fld (o:=1) (c:=4) Tryz.underlying36 h 1 rfl cz33
 have f2:Td enc w base spare held 34 [c5,c6,c7,c8,c9,c10]:=td_fld (o:=5) (c:=6) Tryz.underlying36 h 2 rfl cz34
 obtain⟨bd,ed,_⟩:=td_int Tryz.underlying3 (cs:=[c11]) (td_fld (o:=11) (c:=1) Tryz.underlying36 h 3 rfl cz3)
 obtain⟨bw,ew,_⟩:=td_int Tryz.underlying3 (cs:=[c12]) (td_fld (o:=12) (c:=1) Tryz.underlying36 h 4 rfl cz3)
 have g1:=td_arr Tryz.underlying33 f1 cz32
 have g2:=td_arr Tryz.underlying34 f2 cz3
 obtain⟨r0,e1,h1⟩:=el_hd (cs:=[c1]) (g1 0 (by decide))
 obtain⟨r1,e2,h2⟩:=el_hd (cs:=[c2]) (g1 1 (by decide))
 obtain⟨r2,e3,h3⟩:=el_hd (cs:=[c3]) (g1 2 (by decide))
 obtain⟨r3,e4,h4⟩:=el_hd (cs:=[c4]) (g1 3 (by decide))
 obtain⟨d0,e5,_⟩:=td_int Tryz.underlying3 (cs:=[c5]) (g2 0 (by decide))
 obtain⟨d1,e6,_⟩:=td_int Tryz.underlying3 (cs:=[c6]) (g2 1 (by decide))
 obtain⟨d2,e7,_⟩:=td_int Tryz.underlying3 (cs:=[c7]) (g2 2 (by decide))
 obtain⟨d3,e8,_⟩:=td_int Tryz.underlying3 (cs:=[c8]) (g2 3 (by decide))
 obtain⟨d4,e9,_⟩:=td_int Tryz.underlying3 (cs:=[c9]) (g2 4 (by decide))
 obtain⟨d5,e10,_⟩:=td_int Tryz.underlying3 (cs:=[c10]) (g2 5 (by decide))
 cases e0;cases e1;cases e2;cases e3;cases e4;cases e5;cases e6;cases e7;cases e8;cases e9;cases e10;cases ed;cases ew
 refine⟨⟨b0,r0,r1,r2,r3,d0,d1,d2,d3,d4,d5,bd,bw⟩,rfl,fun k hk=>?_⟩
 obtain rfl|rfl|rfl|rfl:k=0∨k=1∨k=2∨k=3:=by omega
 ·exact h1
 ·exact h2
 ·exact h3
 ·exact h4
theorem el_id (h:Td enc w base spare held 39 cs): ∃a:IDv,cs=idK.f a∧RS w (Rails.intK .i64) a.sup.A a.sup.ys∧0≤a.dly:=by
 obtain⟨c0,c1,c2,rfl⟩:=list3 ((td_len Tryz.underlying39 h).trans cz39)
 obtain⟨b0,e0,_⟩:=td_int Tryz.underlying3 (cs:=[c0]) (td_fld (o:=0) (c:=1) Tryz.underlying39 h 0 rfl cz3)
 obtain⟨b1,e1,h1⟩:=el_hd (cs:=[c1]) (td_fld (o:=1) (c:=1) Tryz.underlying39 h 1 rfl cz32)
 obtain⟨b2,e2,g⟩:=td_int Tryz.underlying37 (cs:=[c2]) (td_fld (o:=2) (c:=1) Tryz.underlying39 h 2 rfl cz37)
 cases e0;cases e1;cases e2
 exact⟨⟨b0,b1,b2⟩,rfl,h1,(wf_u64 g).1⟩
theorem el_bd (h:Td enc w base spare held 41 cs): ∃a:BDv,cs=bdK.f a∧a.pw.rs w∧RS w (Rails.intK .i64) a.il.sup.A a.il.sup.ys∧0≤a.il.dly:=by
 obtain⟨c0,c1,c2,c3,c4,c5,c6,c7,c8,c9,c10,c11,c12,c13,c14,c15,c16,c17,rfl⟩:=list18 ((td_len Tryz.underlying41 h).trans cz41)
 obtain⟨b0,e0,_⟩:=td_int Tryz.underlying3 (cs:=[c0]) (td_fld (o:=0) (c:=1) Tryz.underlying41 h 0 rfl cz3)
 obtain⟨b1,e1,h1⟩:=el_pd (cs:=[c1,c2,c3,c4,c5,c6,c7,c8,c9,c10,c11,c12,c13]) (td_fld (o:=1) (c:=13) Tryz.underlying41 h 1 rfl cz36)
 obtain⟨b2,e2,h2⟩:=el_id (cs:=[c14,c15,c16]) (td_fld (o:=14) (c:=3) Tryz.underlying41 h 2 rfl cz39)
 obtain⟨b3,e3⟩:=td_string Tryz.underlying9 (cs:=[c17]) (td_fld (o:=17) (c:=1) Tryz.underlying41 h 3 rfl cz9)
 cases e0;cases e1;cases e2;cases e3
 exact⟨⟨b0,b1,b2,b3⟩,rfl,h1,h2⟩
theorem el_ro (h:Td enc w base spare held 193 cs): ∃a:Ro,cs=roK.f a∧rgO a:=by
 obtain⟨c0,c1,c2,rfl⟩:=list3 ((td_len Tryz.underlying193 h).trans cz193)
 obtain⟨b0,e0⟩:=td_bool Tryz.underlying4 (cs:=[c0]) (td_fld (o:=0) (c:=1) Tryz.underlying193 h 0 rfl cz4)
 obtain⟨b1,e1,g1⟩:=td_int Tryz.underlying37 (cs:=[c1]) (td_fld (o:=1) (c:=1) Tryz.underlying193 h 1 rfl cz37)
 obtain⟨b2,e2,g2⟩:=td_int Tryz.underlying37 (cs:=[c2]) (td_fld (o:=2) (c:=1) Tryz.underlying193 h 2 rfl cz37)
 cases e0;cases e1;cases e2
 exact⟨⟨b0,b1,b2⟩,rfl,wf_u64 g1,wf_u64 g2⟩
theorem el_gd (h:Td enc w base spare held 188 cs): ∃g:Gd,cs=[.bool g.used,.int .u64 g.reg,.int .u64 g.mask,.int .u64 g.val]∧rgG g:=by
 obtain⟨c0,c1,c2,c3,rfl⟩:=list4' ((td_len Tryz.underlying188 h).trans cz188)
 obtain⟨b0,e0⟩:=td_bool Tryz.underlying4 (cs:=[c0]) (td_fld (o:=0) (c:=1) Tryz.underlying188 h 0 rfl cz4)
 obtain⟨b1,e1,g1⟩:=td_int Tryz.underlying37 (cs:=[c1]) (td_fld (o:=1) (c:=1) Tryz.underlying188 h 1 rfl cz37)
 obtain⟨b2,e2,g2⟩:=td_int Tryz.underlying37 (cs:=[c2]) (td_fld (o:=2) (c:=1) Tryz.underlying188 h 2 rfl cz37)
 obtain⟨b3,e3,g3⟩:=td_int Tryz.underlying37 (cs:=[c3]) (td_fld (o:=3) (c:=1) Tryz.underlying188 h 3 rfl cz37)
 cases e0;cases e1;cases e2;cases e3
 exact⟨⟨b0,b1,b2,b3⟩,rfl,wf_u64 g1,wf_u64 g2,wf_u64 g3⟩
theorem el_tr (h:Td enc w base spare held 191 cs): ∃a:TH,cs=thK.f a∧RS w roK a.A a.t.ops∧rgT a.t:=by
 obtain⟨c0,c1,c2,c3,c4,c5,c6,c7,rfl⟩:=list8' ((td_len Tryz.underlying191 h).trans cz191)
 obtain⟨b0,e0,_⟩:=td_int Tryz.underlying3 (cs:=[c0]) (td_fld (o:=0) (c:=1) Tryz.underlying191 h 0 rfl cz3)
 obtain⟨b1,e1⟩:=td_string Tryz.underlying9 (cs:=[c1]) (td_fld (o:=1) (c:=1) Tryz.underlying191 h 1 rfl cz9)
 obtain⟨g,e2,hg⟩:=el_gd (cs:=[c2,c3,c4,c5]) (td_fld (o:=2) (c:=4) Tryz.underlying191 h 2 rfl cz188)
 obtain⟨A,c,ys,e3,hr,hro⟩:=td_sl roK (cs:=[c6]) Tryz.underlying189 cz193 (fun h=>el_ro h) (td_fld (o:=6) (c:=1) Tryz.underlying191 h 3 rfl cz189)
 obtain⟨b4,e4,_⟩:=td_int Tryz.underlying3 (cs:=[c7]) (td_fld (o:=7) (c:=1) Tryz.underlying191 h 4 rfl cz3)
 cases e0;cases e1;cases e2;cases e3;cases e4
 exact⟨⟨⟨b0,b1,g,ys,b4⟩,A,c⟩,rfl,hr,hg,fun o ho=>by
  obtain⟨i,hi,rfl⟩:=List.getElem_of_mem ho
  have:=hro i hi
  simpa[List.getD,hi] using this⟩
theorem el_dr (h:Td enc w base spare held 66 cs): ∃a:DH,cs=dhK.f a∧DR w a∧rgD a.d:=by
 obtain⟨c0,c1,c2,rfl⟩:=list3 ((td_len Tryz.underlying66 h).trans cz66)
 obtain⟨b0,e0⟩:=td_string Tryz.underlying9 (cs:=[c0]) (td_fld (o:=0) (c:=1) Tryz.underlying66 h 0 rfl cz9)
 obtain⟨A1,n1,ss,e1,h1,_⟩:=td_sl strK (cs:=[c1]) Tryz.underlying63 cz9 (fun h=>el_str h) (td_fld (o:=1) (c:=1) Tryz.underlying66 h 1 rfl cz63)
 obtain⟨A2,n2,hs,e2,h2,hG⟩:=td_sl thK (cs:=[c2]) Tryz.underlying64 cz191 (fun h=>el_tr h) (td_fld (o:=2) (c:=1) Tryz.underlying66 h 2 rfl cz64)
 cases e0;cases e1;cases e2
 exact⟨⟨b0,A1,n1,ss,A2,n2,hs⟩,rfl,⟨h1,h2,fun i hi=>(hG i hi).1⟩,fun t ht=>by
  obtain⟨x,hx,rfl⟩:=List.mem_map.1 ht
  obtain⟨i,hi,rfl⟩:=List.getElem_of_mem hx
  have:=(hG i hi).2
  simpa[List.getD,hi] using this⟩
end
theorem el1 {t:TypeId} {cs:List Value} {n:Nat} {y:DataW H×List MemPlace} {Q:Prop} (f:Td enc w base spare held t cs→Q) (h:DataW.trod enc Tryz.prog w base spare held n t cs=some y):Q:=f ⟨_,_,h⟩
theorem open_sl {α:Type} (K:Enc α) (G:α→Prop) {t e:TypeId} {r:Reach} {b0:Nat} {v:Value} {d:DataW H} {ps:List MemPlace} (ht:Tryz.prog.underlying t=some (.slice e)) (hsz:Tryz.prog.cellsOf e=K.sz)
 (hel: ∀n cs' y,DataW.trod enc Tryz.prog w base spare held n e cs'=some y→ ∃a:α,cs'=K.f a∧G a) (hval:Value.okWide Tryz.prog w r b0 t v) (hd:DataW.Trod enc Tryz.prog w base spare held t v d ps):
 ∃(A:Option Addr) (c:Nat) (ys:List α),v= .slice A ys.length c∧RS w K A ys∧ys.length≤9223372036854775807∧ ∀i,i<ys.length→G (ys.getD i K.d):=by
 obtain⟨A,n,c,rfl⟩:=okWide_slice ht hval
 obtain⟨fuel,hf⟩:=hd
 obtain⟨A1,n1,c1,ys,e1,hl1,hr1,hG⟩:=open_rs K G ht hsz hel hf
 simp[Value.cells] at e1
 obtain⟨rfl,rfl,rfl⟩:=e1
 subst hl1
 refine⟨_,_,ys,rfl,hr1,?_,hG⟩
 rcases open_slice ht hf with ⟨h0,_⟩|⟨a,len,cap,m,n,D,Pl,hcs,hb,hl,hm,hmm,hx,hi⟩
 ·simp[Value.cells] at h0
  have:=h0.2.1
  simp[this]
 ·simp[Value.cells] at hcs
  have h1:=hcs.2.1
  have h2:maxLen=9223372036854775807:=rfl
  omega
end
theorem evR_of {l:List (String×DataW Unit)} {n:String} {d:DataW Unit} {W:World} (h:laidMet Tryz.prog l W) (hm:("strconv.ErrRange",DataW.iface n d)∈l):Dv.EvR W:=by
 obtain⟨g,t,cs,fuel,p,h1,h2,h3,h4⟩:=Lib.laidMet.reads h hm
 obtain rfl:g=4:=Option.some.inj (h1.symm.trans (show Tryz.prog.globalNamed "strconv.ErrRange"=some 4 by kernel_rfl))
 have ht:(Tryz.prog.globals[4]?).map (·.type)=some 390:=by kernel_rfl
 obtain rfl:=Option.some.inj (h2.symm.trans ht)
 obtain⟨f2,u,v,e,_⟩:=iface_of_trod Tryz.underlying390 h4
 have h5:=World.var?_cell h1 h3 0
 refine⟨u,v,h5.trans ?_⟩
 rw[←Array.getElem?_toList,e];rfl
end Go.Proofs.YtkofjhglgoojiaaGreatDoor.Pw
