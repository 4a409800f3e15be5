/-
  Joined.
-/
import Derived.WalkKit
import Derived.OrdersHeld
import Derived.StillTail
import Derived.Deep.LoopGhost
import Derived.IntWalk
import Derived.LaidEql
import Derived.Maps.AppendAt
import Derived.Laws.CopyRow
import Derived.Laws.MakeOwn
import Derived.Lib.SliceRun
import Derived.Deep.Slices
import Derived.Deep.Fields
import Derived.ChangeSame
import Derived.Below
import Derived.Lib.AppendZerosOnto
import Derived.Laws.ResultCell
import Derived.ChangeSlices
import Derived.Lib.Overlaps
import Derived.Laws.Externs
import Derived.Lib.Strings
import Derived.RangeFuncIn
import Derived.RangeFuncLeaves
import Derived.RangeFuncCalls
import Derived.RangeFuncRecord
import Derived.TacticsIn
import Derived.Lib.Bytealg
import Derived.Lib.AppendStr
import Derived.Lib.Builder
import Derived.LaidEqlPtr
set_option linter.unusedSimpArgs false
set_option linter.unusedVariables false
namespace Go.Sv
structure NN where
 n:Nat
 D:List Deferred
abbrev Env:=List (Nat×Value)
def get:Env→Nat→Option Value
 |[],_=>none
 |(k,v)::r,t=>bif Nat.beq k t then some v else get r t
@[reducible] def set (E:Env) (t:Nat) (v:Value):Env:=(t,v)::E
theorem get_set_same (E:Env) (t:Nat) (v:Value):get (set E t v) t=some v:=by simp[get,set]
theorem get_set_ne (E:Env) {t s:Nat} (v:Value) (h:s≠t):get (set E t v) s=get E s:=by
 have hb:Nat.beq t s=false:=by rw[←Bool.not_eq_true,Nat.beq_eq];exact fun e=>h e.symm
 simp[get,set,hb]
structure Fits (N:NN) (a:Act) (E:Env):Prop where
 defers:a.defers=N.D
 size:a.tmps.size=N.n
 slot: ∀t v,get E t=some v→a.tmps[t]?=some v
def ev (E:Env):Operand→Option Value
 | .tmp t=>get E t
 | .const v=>some v
 | .global g=>some (.pointer (some ⟨g,0,none⟩))
 | .func f=>some (.func (.func f) #[] #[])
theorem Fits.ev {N:NN} {a:Act} {E:Env} (h:Fits N a E) {x:Operand} {v:Value} (hx:ev E x=some v):a.eval x=v:=by
 cases x with
 |tmp t=>
  have:=h.slot t v hx
  simp[Act.eval,this]
 |const u=>simpa[Sv.ev,Act.eval] using hx
 |global g=>simpa[Sv.ev,Act.eval] using hx
 |func f=>simpa[Sv.ev,Act.eval] using hx
theorem Fits.put {N:NN} {a:Act} {E:Env} (h:Fits N a E) {d:Nat} (v:Value) (hd:Nat.blt d N.n=true):Fits N (a.put (some d) v) (set E d v):=by
 have hd':d<N.n:=by simpa[Nat.blt_eq] using hd
 refine⟨h.defers,by simp[Act.put,h.size],fun t u hu=>?_⟩
 by_cases e:t=d
 ·subst e
  rw[get_set_same] at hu
  simp[Act.put,h.size,hd',←Option.some.inj hu]
 ·rw[get_set_ne E v e] at hu
  simp[Act.put,Array.getElem?_setIfInBounds_ne (fun x=>e x.symm),h.slot t u hu]
theorem Fits.put_none {N:NN} {a:Act} {E:Env} (h:Fits N a E) (v:Value):Fits N (a.put none v) E:=h
def Sub:Env→Env→Prop
 |[],_=>True
 |(k,v)::r,E=>get E k=some v∧Sub r E
theorem Sub.get {E' E:Env} (h:Sub E' E) {t:Nat} {v:Value} (hv:get E' t=some v):get E t=some v:=by
 induction E' with
 |nil=>simp[Sv.get] at hv
 |cons p r ih=>
  obtain⟨k,u⟩:=p
  by_cases hk:k=t
  ·subst hk
   simp[Sv.get] at hv
   rw[←hv];exact h.1
  ·have hb:Nat.beq k t=false:=by rw[←Bool.not_eq_true,Nat.beq_eq];exact hk
   simp only[Sv.get,hb,cond_false] at hv
   exact ih h.2 hv
theorem Fits.sub {N:NN} {a:Act} {E E':Env} (h:Fits N a E) (hs:Sub E' E):Fits N a E':=
 ⟨h.defers,h.size,fun t v hv=>h.slot t v (hs.get hv)⟩
def evs (E:Env):List Operand→Option (List Value)
 |[]=>some []
 |x::r=>match ev E x,evs E r with
  |some v,some vs=>some (v::vs)
  |_,_=>none
theorem Fits.evs {N:NN} {a:Act} {E:Env} (h:Fits N a E): ∀ {xs:List Operand} {vs:List Value},evs E xs=some vs→xs.map a.eval=vs
 |[],vs,hx=>by simp[Sv.evs] at hx;simp[←hx]
 |x::r,vs,hx=>by
  simp only[Sv.evs] at hx
  cases h1:Sv.ev E x with
  |none=>simp[h1] at hx
  |some v=>
   cases h2:Sv.evs E r with
   |none=>simp[h1,h2] at hx
   |some us=>
    simp[h1,h2] at hx
    rw[←hx,List.map_cons,h.ev h1,h.evs h2]
abbrev Ids:=Nat→Prop
structure Assn where
 sat:World→Ids→Prop
 lt: ∀ {w:World} {I:Ids},sat w I→ ∀x,I x→x<w.heap.size
 keep: ∀ {w w':World} {I:Ids},sat w I→(∀x,I x→w'.heap[x]?=w.heap[x]?)→sat w' I
def Sep:List Assn→Ids→World→Prop
 |[],I,_=> ∀x,¬I x
 |A::L,I,w=> ∃i j:Ids,(∀x,I x↔i x∨j x)∧(∀x,i x→ ¬j x)∧A.sat w i∧Sep L j w
theorem lt_of_some {w:World} {b:Nat} {o:Obj} (h:w.heap[b]?=some o):b<w.heap.size:=by
 rcases Nat.lt_or_ge b w.heap.size with h'|h'
 ·exact h'
 ·rw[Array.getElem?_eq_none h'] at h;cases h
def Blk (b:Nat) (o:Obj):Assn where
 sat w I:=(∀x,I x↔x=b)∧w.heap[b]?=some o
 lt h x hx:=by rw[(h.1 x).1 hx];exact lt_of_some h.2
 keep h hk:=⟨h.1,by rw[hk _ ((h.1 _).2 rfl)];exact h.2⟩
theorem Sep.lt: ∀ {L:List Assn} {I:Ids} {w:World},Sep L I w→ ∀x,I x→x<w.heap.size
 |[],_,_,h,x,hx=>absurd hx (h x)
 |A::L,I,w,⟨i,j,hI,_,hA,hL⟩,x,hx=>by
  rcases(hI x).1 hx with h|h
  ·exact A.lt hA x h
  ·exact hL.lt x h
theorem Sep.keep: ∀ {L:List Assn} {I:Ids} {w w':World},Sep L I w→(∀x,I x→w'.heap[x]?=w.heap[x]?)→Sep L I w'
 |[],_,_,_,h,_=>h
 |A::_,_,_,_,⟨i,j,hI,hd,hA,hL⟩,hk=>
  ⟨i,j,hI,hd,A.keep hA (fun x hx=>hk x ((hI x).2 (.inl hx))),hL.keep (fun x hx=>hk x ((hI x).2 (.inr hx)))⟩
theorem Sep.ext: ∀ {L:List Assn} {I J:Ids} {w:World},Sep L I w→(∀x,I x↔J x)→Sep L J w
 |[],_,_,_,h,e=>fun x hx=>h x ((e x).2 hx)
 |_::_,_,_,_,⟨i,j,hI,hd,hA,hL⟩,e=>⟨i,j,fun x=>(e x).symm.trans (hI x),hd,hA,hL⟩
theorem Sep.swap {A B:Assn} {L:List Assn} {I:Ids} {w:World} (h:Sep (A::B::L) I w):Sep (B::A::L) I w:=by
 obtain⟨i,j,hI,hd,hA,i2,j2,hJ,hd2,hB,hL⟩:=h
 refine⟨i2,fun x=>i x∨j2 x,fun x=>?_,fun x hx hy=>?_,hB,i,j2,fun _=>Iff.rfl,fun x hx hy=>hd x hx ((hJ x).2 (.inr hy)),hA,hL⟩
 ·rw[hI x,hJ x];constructor<;>(rintro(h|h|h)<;>simp[h])
 ·rcases hy with hy|hy
  ·exact hd x hy ((hJ x).2 (.inl hx))
  ·exact hd2 x hx hy
theorem Sep.perm {L L':List Assn} (hp:L.Perm L'): ∀ {I:Ids} {w:World},Sep L I w→Sep L' I w:=by
 induction hp with
 |nil=>exact fun h=>h
 |cons A _ ih=>exact fun⟨i,j,hI,hd,hA,hL⟩=>⟨i,j,hI,hd,hA,ih hL⟩
 |swap A B L=>exact fun h=>h.swap
 |trans _ _ ih1 ih2=>exact fun h=>ih2 (ih1 h)
theorem Sep.append: ∀ {L M:List Assn} {I:Ids} {w:World},Sep (L++M) I w↔ ∃i j:Ids,(∀x,I x↔i x∨j x)∧(∀x,i x→ ¬j x)∧Sep L i w∧Sep M j w
 |[],M,I,w=>by
  constructor
  ·intro h;exact⟨fun _=>False,I,fun x=>by simp,fun _ h=>h.elim,fun _ h=>h,h⟩
  ·rintro⟨i,j,hI,_,hi,hM⟩
   refine hM.ext fun x=>?_
   rw[hI x];constructor
   ·exact .inr
   ·rintro(h|h)
    ·exact absurd h (hi x)
    ·exact h
 |A::L,M,I,w=>by
  constructor
  ·rintro⟨i,j,hI,hd,hA,h⟩
   obtain⟨i2,j2,hJ,hd2,hL,hM⟩:=Sep.append.1 h
   refine⟨fun x=>i x∨i2 x,j2,fun x=>?_,?_,⟨i,i2,fun _=>Iff.rfl,fun x hx hy=>hd x hx ((hJ x).2 (.inl hy)),hA,hL⟩,hM⟩
   ·rw[hI x,hJ x];constructor<;>(intro h;simp only[or_assoc] at *;exact h)
   ·rintro x (hx|hx) hy
    ·exact hd x hx ((hJ x).2 (.inr hy))
    ·exact hd2 x hx hy
  ·rintro⟨i,j,hI,hd,⟨i1,i2,hi,hd1,hA,hL⟩,hM⟩
   refine⟨i1,fun x=>i2 x∨j x,fun x=>?_,?_,hA,Sep.append.2 ⟨i2,j,fun _=>Iff.rfl,fun x hx hy=>hd x ((hi x).2 (.inr hx)) hy,hL,hM⟩⟩
   ·rw[hI x,hi x];simp only[or_assoc]
   ·rintro x hx (hy|hy)
    ·exact hd1 x hx hy
    ·exact hd x ((hi x).2 (.inl hx)) hy
structure Ext (I:Ids) (w w':World):Prop where
 os:w'.os=w.os
 tape:w'.tape=w.tape
 output:w'.output=w.output
 size:w.heap.size≤w'.heap.size
 block: ∀x,x<w.heap.size→ ¬I x→w'.heap[x]?=w.heap[x]?
theorem Ext.refl (I:Ids) (w:World):Ext I w w:=⟨rfl,rfl,rfl,Nat.le_refl _,fun _ _ _=>rfl⟩
theorem Ext.trans {I J:Ids} {a b c:World} (h:Ext I a b) (k:Ext J b c) (hJ: ∀x,J x→I x∨a.heap.size≤x):Ext I a c:=
 ⟨k.os.trans h.os,k.tape.trans h.tape,k.output.trans h.output,Nat.le_trans h.size k.size,fun x hx hn=>by
  rw[k.block x (Nat.lt_of_lt_of_le hx h.size) (fun hj=>(hJ x hj).elim hn (fun h'=>by omega)),h.block x hx hn]⟩
theorem Ext.drew {I:Ids} {w w':World} (h:Ext I w w'):Ext I w w'.drew:=⟨h.os,h.tape,h.output,h.size,h.block⟩
def Hp (I0:Ids) (w0:World) (L:List Assn) (w:World):Prop:=
 ∃I:Ids,Sep L I w∧Ext I0 w0 w∧ ∀x,I x→I0 x∨w0.heap.size≤x
theorem Hp.start {I:Ids} {w:World} {L:List Assn} (h:Sep L I w):Hp I w L w:=⟨I,h,Ext.refl I w,fun _ h=> .inl h⟩
theorem Hp.perm {I0:Ids} {w0 w:World} {L L':List Assn} (h:Hp I0 w0 L w) (hp:L.Perm L'):Hp I0 w0 L' w:=
 let ⟨I,hs,he,hi⟩:=h;⟨I,hs.perm hp,he,hi⟩
theorem Hp.sub {I0:Ids} {w0 w:World} {L M:List Assn} (h:Hp I0 w0 (L++M) w):Hp I0 w0 L w:=by
 obtain⟨I,hs,he,hi⟩:=h
 obtain⟨i,j,hI,_,hL,_⟩:=Sep.append.1 hs
 exact⟨i,hL,he,fun x hx=>hi x ((hI x).2 (.inl hx))⟩
theorem Sep.drew {L:List Assn} {I:Ids} {w:World} (h:Sep L I w):Sep L I w.drew:=h.keep fun _ _=>rfl
theorem Hp.drew {I0:Ids} {w0 w:World} {L:List Assn} (h:Hp I0 w0 L w):Hp I0 w0 L w.drew:=
 let ⟨I,hs,he,hi⟩:=h;⟨I,hs.drew,he.drew,hi⟩
theorem perm_erase {α:Type}: ∀ {L:List α} {k:Nat} {A:α},L[k]?=some A→L.Perm (A::L.eraseIdx k)
 |[],_,_,h=>by simp at h
 |B::L,0,A,h=>by simp at h;subst h;simp
 |B::L,k+1,A,h=>by
  simp only[List.getElem?_cons_succ] at h
  simp only[List.eraseIdx_cons_succ]
  exact(List.Perm.cons B (perm_erase h)).trans (List.Perm.swap A B _)
theorem perm_set {α:Type}: ∀ {L:List α} {k:Nat} {A:α} (B:α),L[k]?=some A→(B::L.eraseIdx k).Perm (L.set k B)
 |[],_,_,_,h=>by simp at h
 |C::L,0,A,B,_=>by simp
 |C::L,k+1,A,B,h=>by
  simp only[List.getElem?_cons_succ] at h
  simp only[List.eraseIdx_cons_succ,List.set_cons_succ]
  exact(List.Perm.swap C B _).trans (List.Perm.cons C (perm_set B h))
theorem Hp.at {I0:Ids} {w0 w:World} {L:List Assn} (h:Hp I0 w0 L w) {k:Nat} {A:Assn} (hk:L[k]?=some A):
 ∃i j:Ids,A.sat w i∧Sep (L.eraseIdx k) j w∧(∀x,i x→ ¬j x)∧Ext I0 w0 w∧(∀x,i x→I0 x∨w0.heap.size≤x)∧(∀x,j x→I0 x∨w0.heap.size≤x):=by
 obtain⟨I,hs,he,hi⟩:=h.perm (perm_erase hk)
 obtain⟨i,j,hI,hd,hA,hL⟩:=hs
 exact⟨i,j,hA,hL,hd,he,fun x hx=>hi x ((hI x).2 (.inl hx)),fun x hx=>hi x ((hI x).2 (.inr hx))⟩
theorem Hp.blk {I0:Ids} {w0 w:World} {L:List Assn} (h:Hp I0 w0 L w) (k:Nat) {b:Nat} {o:Obj} (hk:L[k]?=some (Blk b o)):w.heap[b]?=some o:=by
 obtain⟨i,j,hA,_⟩:=h.at hk
 exact hA.2
theorem cell_of {w:World} {b:Nat} {cs:Array Value} {t:TypeId} {fz:Nat×Nat} (h:w.heap[b]?=some (.cells cs t fz)) (o:Nat):w.cell? ⟨b,o,none⟩=cs[o]?:=by
 simp[World.cell?,h]
theorem Hp.cell {I0:Ids} {w0 w:World} {L:List Assn} (h:Hp I0 w0 L w) (k:Nat) {b o:Nat} {cs:Array Value} {t:TypeId} {fz:Nat×Nat} {v:Value}
 (hk:L[k]?=some (Blk b (.cells cs t fz))) (hv:cs.toList[o]?=some v):w.cell? ⟨b,o,none⟩=some v:=by
 rw[cell_of (h.blk k hk),←hv,Array.getElem?_toList]
theorem Hp.ro {I0:Ids} {w0 w:World} {L:List Assn} (h:Hp I0 w0 L w) {b:Nat} {o:Obj} (hb:w0.heap[b]?=some o) (hn: ¬I0 b):w.heap[b]?=some o:=by
 obtain⟨_,_,he,_⟩:=h
 rw[he.block b (lt_of_some hb) hn,hb]
theorem Hp.alloc {I0:Ids} {w0 w w':World} {L:List Assn} {o:Obj} (h:Hp I0 w0 L w) (hw:w'.heap=w.heap.push o) (h1:w'.os=w.os) (h2:w'.tape=w.tape) (h3:w'.output=w.output):
 Hp I0 w0 (L++[Blk w.heap.size o]) w':=by
 obtain⟨I,hs,he,hi⟩:=h
 have hkeep: ∀x,x<w.heap.size→w'.heap[x]?=w.heap[x]?:=fun x hx=>by rw[hw,Array.getElem?_push_lt hx,Array.getElem?_eq_getElem hx]
 refine⟨fun x=>I x∨x=w.heap.size,Sep.append.2 ⟨I,fun x=>x=w.heap.size,fun _=>Iff.rfl,fun x hx e=>?_,hs.keep (fun x hx=>hkeep x (hs.lt x hx)),?_⟩,⟨h1.trans he.os,h2.trans he.tape,h3.trans he.output,?_,?_⟩,?_⟩
 ·have:=hs.lt x hx;omega
 ·exact⟨fun x=>x=w.heap.size,fun _=>False,fun x=>by simp,fun _ _ h=>h,⟨fun _=>Iff.rfl,by rw[hw];simp⟩,fun _ h=>h⟩
 ·rw[hw,Array.size_push];have:=he.size;omega
 ·intro x hx hn
  rw[hkeep x (Nat.lt_of_lt_of_le hx he.size),he.block x hx hn]
 ·rintro x (hx|rfl)
  ·exact hi x hx
  ·exact .inr he.size
theorem Hp.modify {I0:Ids} {w0 w w':World} {L:List Assn} (h:Hp I0 w0 L w) {k b:Nat} {o o':Obj} (hk:L[k]?=some (Blk b o)) (hb:w'.heap[b]?=some o') (hs:w'.heap.size=w.heap.size)
 (hx: ∀x,x≠b→w'.heap[x]?=w.heap[x]?) (h1:w'.os=w.os) (h2:w'.tape=w.tape) (h3:w'.output=w.output):Hp I0 w0 (L.set k (Blk b o')) w':=by
 obtain⟨i,j,hA,hL,hd,he,hi,hj⟩:=h.at hk
 refine Hp.perm ?_ (perm_set _ hk)
 refine⟨fun x=>x=b∨j x,⟨fun x=>x=b,j,fun _=>Iff.rfl,fun x e hxj=>?_,⟨fun _=>Iff.rfl,hb⟩,hL.keep fun x hx'=>hx x ?_⟩,⟨h1.trans he.os,h2.trans he.tape,h3.trans he.output,by rw[hs];exact he.size,fun x hlt hn=>?_⟩,?_⟩
 ·subst e;exact hd x ((hA.1 x).2 rfl) hxj
 ·rintro rfl;exact hd x ((hA.1 x).2 rfl) hx'
 ·have hne:x≠b:=by
   rintro rfl
   rcases hi x ((hA.1 x).2 rfl) with h'|h'
   ·exact hn h'
   ·omega
  rw[hx x hne,he.block x hlt hn]
 ·rintro x (rfl|hx)
  ·exact hi x ((hA.1 x).2 rfl)
  ·exact hj x hx
def KV (N:NN) (K:Act→World→Prop) (E:Env) (S:World→Prop):Prop:= ∀a w,Fits N a E→S w→K a w
abbrev CV (P:Program) (N:NN) (c:Code) (Q:Exit→Act→World→Prop) (E:Env) (S:World→Prop):Prop:=KV N (c.wp P Q) E S
abbrev RV (P:Program) (N:NN) (ops:Array Oper) (Q:Exit→Act→World→Prop) (rest:List Oper) (E:Env) (S:World→Prop):Prop:=KV N (wpList P ops Q rest) E S
section
variable {P:Program} {N:NN} {Q:Exit→Act→World→Prop} {E E':Env} {S S':World→Prop} {ops:Array Oper} {rest:List Oper}
theorem CV.seq {x y:Code} (h:CV P N x (Exit.then (y.wp P Q) Q) E S):CV P N (.seq x y) Q E S:=fun a w hf hs=>wp_seq (h a w hf hs)
theorem CV.skip (h:KV N (Q .normal) E S):CV P N .skip Q E S:=fun a w hf hs=>wp_skip (h a w hf hs)
theorem CV.exit {id:Nat} (h:KV N (Q (.exit id)) E S):CV P N (.exit id) Q E S:=fun a w hf hs=>wp_exit (h a w hf hs)
theorem CV.ret (h:KV N (Q .ret) E S):CV P N .ret Q E S:=fun a w hf hs=>wp_ret (h a w hf hs)
theorem CV.block {id:Nat} {c:Code} (h:CV P N c (Exit.inBlock id Q) E S):CV P N (.block id c) Q E S:=fun a w hf hs=>wp_block (h a w hf hs)
theorem CV.cond_t {c:Operand} {x y:Code} (hc:ev E c=some (.bool true)) (h:CV P N x Q E S):CV P N (.cond c x y) Q E S:=fun a w hf hs=>wp_cond_true (hf.ev hc) (h a w hf hs)
theorem CV.cond_f {c:Operand} {x y:Code} (hc:ev E c=some (.bool false)) (h:CV P N y Q E S):CV P N (.cond c x y) Q E S:=fun a w hf hs=>wp_cond_false (hf.ev hc) (h a w hf hs)
theorem CV.region {id:Nat} {l:List Oper} (h:RV P N l.toArray Q l E S):CV P N (.region id l.toArray false) Q E S:=fun a w hf hs=>wp_region_lit (h a w hf hs)
theorem KV.env {K:Act→World→Prop} (E':Env) (hE:Sub E' E) (h:KV N K E' S):KV N K E S:=fun a w hf hs=>h a w (hf.sub hE) hs
theorem RV.nil (h:KV N (Q .normal) E S):RV P N ops Q [] E S:=fun a w hf hs=>wpList_nil (h a w hf hs)
theorem KV.block_hit {id:Nat} (h:KV N (Q .normal) E S):KV N (Exit.inBlock id Q (.exit id)) E S:=fun a w hf hs=>by simp only[Exit.inBlock,if_true];exact h a w hf hs
theorem KV.block_miss {id id':Nat} (hne:Nat.beq id' id=false) (h:KV N (Q (.exit id')) E S):KV N (Exit.inBlock id Q (.exit id')) E S:=fun a w hf hs=>by
 have:id'≠id:=fun e=>by rw[e] at hne;simp at hne
 simp only[Exit.inBlock,this,if_false];exact h a w hf hs
theorem CV.join {α:Type} {x y:Code} (G:α→Env) (T:α→World→Prop)
 (h1:CV P N x (Exit.then (fun a w=> ∃z,Fits N a (G z)∧T z w) Q) E S) (h2: ∀z,CV P N y Q (G z) (T z)):CV P N (.seq x y) Q E S:=
 fun a w hf hs=>wp_seq (wp_mono (h1 a w hf hs) fun e a' w' hq=>by
  cases e<;>first|exact hq|(obtain⟨z,hz,ht⟩:=hq;exact h2 z a' w' hz ht))
theorem KV.join {α:Type} {G:α→Env} {T:α→World→Prop} (z:α) (hE:Sub (G z) E) (hT: ∀w,S w→T z w):KV N (fun a w=> ∃z,Fits N a (G z)∧T z w) E S:=
 fun _ w hf hs=>⟨z,hf.sub hE,hT w hs⟩
theorem CV.loop {α:Type} {c:Code} (m:α→Nat) (G:α→Env) (T:α→World→Prop) (z0:α) (hE:Sub (G z0) E) (hT: ∀w,S w→T z0 w)
 (round: ∀z,CV P N c (Exit.then (fun a w=> ∃z',m z'<m z∧Fits N a (G z')∧T z' w) Q) (G z) (T z)):CV P N (.loop c) Q E S:=by
 intro a w hf hs
 refine wp_loop_ghost (fun n a w=> ∃z,m z=n∧Fits N a (G z)∧T z w) (m z0) ⟨z0,rfl,hf.sub hE,hT w hs⟩ ?_
 rintro n a w ⟨z,rfl,hf,ht⟩
 refine wp_mono (round z a w hf ht) fun e a' w' hq=>?_
 cases e<;>first|exact hq|(obtain⟨z',hlt,hf',ht'⟩:=hq;exact⟨m z',hlt,z',rfl,hf',ht'⟩)
end
def Step (P:Program) (N:NN) (E:Env) (S:World→Prop) (o:Oper) (v:Value):Prop:= ∀a w,Fits N a E→S w→(execOp a.eval o).run P w= .ok (.value v) w
def TI (P:Program) (t:TypeId) (z:Value) (sz by_:Nat):Prop:=(P.info? t).map (fun i=>(i.zero,i.size,i.bytes))=some (some z,sz,by_)
theorem TI.get {P:Program} {t:TypeId} {z:Value} {sz by_:Nat} (h:TI P t z sz by_): ∃i,P.info? t=some i∧i.zero=some z∧i.size=sz∧i.bytes=by_:=by
 unfold TI at h
 cases hi:P.info? t with
 |none=>rw[hi] at h;simp at h
 |some i=>rw[hi] at h;simp at h;exact⟨i,rfl,h.1,h.2.1,h.2.2⟩
theorem TI.sizeOf {P:Program} {t:TypeId} {z:Value} {sz by_:Nat} (h:TI P t z sz by_) (w:World):(sizeOf t).run P w= .ok sz w:=by
 obtain⟨i,hi,_,hs,_⟩:=h.get
 simp[Go.sizeOf,typeInfo,hi,hs]
theorem TI.zeroValue {P:Program} {t:TypeId} {z:Value} {sz by_:Nat} (h:TI P t z sz by_) (w:World):(zeroValue t).run P w= .ok z w:=by
 obtain⟨i,hi,hz,_,_⟩:=h.get
 simp[Go.zeroValue,typeInfo,hi,hz]
def wantsE (ops:Array Oper) (E:Env) (j:Nat):Option Bool:=
 match (ops[j]?).bind (·.dst) with
 |some d=>match get E d with
  |some (.bool b)=>some b
  |_=>none
 |none=>none
theorem wanted_of {N:NN} {a:Act} {E:Env} {ops:Array Oper} (h:Fits N a E) {o:Oper} {j:Nat} {want b:Bool} (hg:o.guard=some (j,want)) (hw:wantsE ops E j=some b):
 Region.wanted o (yielded ops a.tmps)=(b==want):=by
 unfold wantsE at hw
 simp only[Region.wanted,hg]
 cases hd:(ops[j]?).bind (·.dst) with
 |none=>rw[hd] at hw;simp at hw
 |some d=>
  rw[hd] at hw
  simp only[] at hw
  cases hv:get E d with
  |none=>rw[hv] at hw;simp at hw
  |some v=>
   rw[hv] at hw
   cases v<;>simp at hw
   subst hw
   have:yielded ops a.tmps j=some (by assumption):=by
    simp only[yielded,hd,Option.bind_some,h.slot d _ hv]
   rw[this]
   rename_i b'
   cases b'<;>cases want<;>rfl
section
variable {P:Program} {N:NN} {Q:Exit→Act→World→Prop} {E:Env} {S:World→Prop} {ops:Array Oper} {rest:List Oper} {o:Oper}
def OV (P:Program) (N:NN) (ops:Array Oper) (Q:Exit→Act→World→Prop) (o:Oper) (E:Env) (S:World→Prop) (K:Act→World→Prop):Prop:=
 ∀a w,Fits N a E→S w→if Region.wanted o (yielded ops a.tmps)=true then Oper.wp P o a w K Q else K (a.put o.dst undef) w
theorem RV.op (h:OV P N ops Q o E S (wpList P ops Q rest)):RV P N ops Q (o::rest) E S:=fun a w hf hs=>by
 have:=h a w hf hs
 unfold wpList
 split
 ·rename_i hw;rw[if_pos hw] at this;exact .inl this
 ·rename_i hw;rw[if_neg hw] at this;exact this
variable {K:Act→World→Prop}
def Yes (N:NN) (ops:Array Oper) (o:Oper) (E:Env):Prop:= ∀a,Fits N a E→Region.wanted o (yielded ops a.tmps)=true
theorem gno {d:Option Nat} {op:Op} {ty:TypeId} {pos:String} {af:Array Edge}:Yes N ops ⟨d,op,ty,pos,af,none⟩ E:=fun _ _=>rfl
theorem gyes {d:Option Nat} {op:Op} {ty:TypeId} {pos:String} {af:Array Edge} {j:Nat} {b:Bool} (hg:wantsE ops E j=some b):Yes N ops ⟨d,op,ty,pos,af,some (j,b)⟩ E:=
 fun _ hf=>by rw[wanted_of hf rfl hg];simp
theorem OV.run {v:Value} {w':World} {a:Act} {w:World} (hw:Region.wanted o (yielded ops a.tmps)=true) (h:(execOp a.eval o).run P w= .ok (.value v) w') (k:K (a.put o.dst v) w'):
 if Region.wanted o (yielded ops a.tmps)=true then Oper.wp P o a w K Q else K (a.put o.dst undef) w:=by
 rw[if_pos hw];unfold Oper.wp;rw[h];exact k
theorem OV.step {d:Nat} {v:Value} {op:Op} {ty:TypeId} {pos:String} {af:Array Edge} {g:Option (Nat×Bool)} (hg:Yes N ops ⟨some d,op,ty,pos,af,g⟩ E) (h:Step P N E S ⟨some d,op,ty,pos,af,g⟩ v) (hN:Nat.blt d N.n=true)
 (k:KV N K (set E d v) S):OV P N ops Q ⟨some d,op,ty,pos,af,g⟩ E S K:=
 fun a w hf hs=>OV.run (hg a hf) (h a w hf hs) (k _ w (hf.put v hN) hs)
theorem OV.skip {d j:Nat} {b:Bool} {op:Op} {ty:TypeId} {pos:String} {af:Array Edge} (hg:wantsE ops E j=some (!b)) (hN:Nat.blt d N.n=true)
 (k:KV N K (set E d undef) S):OV P N ops Q ⟨some d,op,ty,pos,af,some (j,b)⟩ E S K:=fun a w hf hs=>by
 rw[if_neg (by rw[wanted_of hf rfl hg];cases b<;>decide)]
 exact k _ w (hf.put undef hN) hs
theorem OV.split {d:Nat} {c:Prop} [Decidable c] {op:Op} {ty:TypeId} {pos:String} {af:Array Edge} {g:Option (Nat×Bool)} (hg:Yes N ops ⟨some d,op,ty,pos,af,g⟩ E) (h:Step P N E S ⟨some d,op,ty,pos,af,g⟩ (.bool (decide c)))
 (hN:Nat.blt d N.n=true) (k1:c→KV N K (set E d (.bool true)) S) (k2: ¬c→KV N K (set E d (.bool false)) S):OV P N ops Q ⟨some d,op,ty,pos,af,g⟩ E S K:=fun a w hf hs=>by
 have h':=h a w hf hs
 by_cases hc:c
 ·rw[decide_eq_true hc] at h'
  exact OV.run (hg a hf) h' (k1 hc _ w (hf.put _ hN) hs)
 ·rw[decide_eq_false hc] at h'
  exact OV.run (hg a hf) h' (k2 hc _ w (hf.put _ hN) hs)
theorem OV.new {I0:Ids} {w0:World} {L:List Assn} {d:Nat} {op:Op} {ty:TypeId} {pos:String} {af:Array Edge} {g:Option (Nat×Bool)} {val:Nat→Value} {ob:Obj} (hg:Yes N ops ⟨some d,op,ty,pos,af,g⟩ E)
 (h: ∀a w,Fits N a E→Hp I0 w0 L w→(execOp a.eval ⟨some d,op,ty,pos,af,g⟩).run P w= .ok (.value (val w.heap.size)) (w.alloc ob)) (hN:Nat.blt d N.n=true)
 (k: ∀nb,KV N K (set E d (val nb)) (Hp I0 w0 (L++[Blk nb ob]))):OV P N ops Q ⟨some d,op,ty,pos,af,g⟩ E (Hp I0 w0 L) K:=
 fun a w hf hs=>OV.run (hg a hf) (h a w hf hs) (k w.heap.size _ _ (hf.put _ hN) (hs.alloc rfl rfl rfl rfl))
variable {d:Option Nat} {ty:TypeId} {pos:String} {af:Array Edge} {g:Option (Nat×Bool)} {x y z:Operand} {u v u':Value}
theorem Step.move (hx:ev E x=some v):Step P N E S ⟨d,.move x,ty,pos,af,g⟩ v:=fun a w hf _=>by simp[execOp,hf.ev hx]
theorem Step.assign (hx:ev E x=some v):Step P N E S ⟨d,.assign x,ty,pos,af,g⟩ v:=fun a w hf _=>by simp[execOp,hf.ev hx]
theorem Step.pick_t (hx:ev E x=some (.bool true)) (hy:ev E y=some v):Step P N E S ⟨d,.pick x y z,ty,pos,af,g⟩ v:=fun a w hf _=>by
 simp[execOp,hf.ev hx,hf.ev hy,asBool]
theorem Step.pick_f (hx:ev E x=some (.bool false)) (hz:ev E z=some v):Step P N E S ⟨d,.pick x y z,ty,pos,af,g⟩ v:=fun a w hf _=>by
 simp[execOp,hf.ev hx,hf.ev hz,asBool]
theorem Step.nilCheck {p:Addr} (hx:ev E x=some (.pointer (some p))):Step P N E S ⟨d,.nilCheck x,ty,pos,af,g⟩ (.pointer (some p)):=fun a w hf _=>by simp[execOp,hf.ev hx]
theorem Step.fieldAddr {t:TypeId} {j:Nat} (hx:ev E x=some u) (h: ∀w,(Instr.fieldAt t u j).run P w= .ok v w):Step P N E S ⟨d,.fieldAddr t x j,ty,pos,af,g⟩ v:=fun a w hf _=>by
 simp only[execOp,hf.ev hx,Sem.run_bind,h,Result.andThen_ok,Sem.run_pure]
theorem Step.extract {j:Nat} (hx:ev E x=some u) (h: ∀w,(Instr.extract u j).run P w= .ok v w):Step P N E S ⟨d,.extract x j,ty,pos,af,g⟩ v:=fun a w hf _=>by
 simp only[execOp,hf.ev hx,Sem.run_bind,h,Result.andThen_ok,Sem.run_pure]
theorem Step.extract0 {vs:List Value} {j:Nat} (hx:ev E x=some (.tuple vs.toArray)) (hj:vs[j]?=some v):Step P N E S ⟨d,.extract x j,ty,pos,af,g⟩ v:=
 Step.extract hx fun w=>by simp[Instr.extract,hj]
theorem Step.indexAddr {t:TypeId} (hx:ev E x=some u) (hy:ev E y=some u') (h: ∀w,(Instr.indexAt t u u').run P w= .ok v w):Step P N E S ⟨d,.indexAddr t x y,ty,pos,af,g⟩ v:=fun a w hf _=>by
 simp only[execOp,hf.ev hx,hf.ev hy,Sem.run_bind,h,Result.andThen_ok,Sem.run_pure]
theorem Step.index {t:TypeId} (hx:ev E x=some u) (hy:ev E y=some u') (h: ∀w,(Instr.index t u u').run P w= .ok v w):Step P N E S ⟨d,.index t x y,ty,pos,af,g⟩ v:=fun a w hf _=>by
 simp only[execOp,hf.ev hx,hf.ev hy,Sem.run_bind,h,Result.andThen_ok,Sem.run_pure]
theorem run_index_slice {t e:TypeId} {ze:Value} {sz by_:Nat} (hu:P.underlying t=some (.slice e)) (hi:TI P e ze sz by_) (b o n c:Nat) {k:IntKind} {i:Int} (m:Nat) (hm:i=(m:Int)) (hlt:m<n) (w:World):
 (Instr.indexAt t (.slice (some ⟨b,o,none⟩) n c) (.int k i)).run P w= .ok (.pointer (some ⟨b,o+m* sz,none⟩)) w:=by
 subst hm
 have h0:0≤(m:Int)∧(m:Int)<(n:Int):=by omega
 simp only[Instr.indexAt,asIntOf,Sem.run_bind,Sem.run_pure,Result.andThen_ok,run_underlying hu,h0,and_self,if_true,hi.sizeOf,Int.toNat_natCast]
 by_cases hz:m* sz=0
 ·simp[hz,Addr.add]
 ·simp[Addr.add,hz]
theorem Step.indexSl {t e:TypeId} {ze:Value} {sz by_ b o n c:Nat} {A:Option Addr} {k:IntKind} {i:Int} (hu:P.underlying t=some (.slice e)) (hi:TI P e ze sz by_)
 (hx:ev E x=some (.slice A n c)) (hy:ev E y=some (.int k i)) (hA:A=some ⟨b,o,none⟩) (m:Nat) (hm:i=(m:Int)) (hlt:m<n):Step P N E S ⟨d,.indexAddr t x y,ty,pos,af,g⟩ (.pointer (some ⟨b,o+m* sz,none⟩)):=by
 subst hA
 exact Step.indexAddr hx hy (run_index_slice hu hi b o n c m hm hlt)
def aggD:TypeDesc→Bool
 | .struct _| .array _ _=>true
 |_=>false
theorem Step.load {t:TypeId} {D:TypeDesc} {p:Addr} (hu:P.underlying t=some D) (hD:aggD D=false) (hx:ev E x=some (.pointer (some p))) (hc: ∀w,S w→w.cell? p=some v):
 Step P N E S ⟨d,.load t x,ty,pos,af,g⟩ v:=fun a w hf hs=>by
 have hag:(isAgg t).run P w= .ok false w:=by
  simp only[isAgg,Sem.run_bind,run_underlying hu,Result.andThen_ok]
  cases D<;>first|rfl|(simp[aggD] at hD)
 have hl:(Go.load p).run P w= .ok v w:=by simp[Go.load,Sem.run,hc w hs]
 simp only[execOp,hf.ev hx,Instr.loadAt,Instr.sureAddr,loadVar,Sem.run_bind,Sem.run_pure,Result.andThen_ok,hag,Bool.false_eq_true,if_false,hl]
theorem Step.loadN {t:TypeId} {D:TypeDesc} {b o:Nat} {ze:Value} {sz by_:Nat} (vs:List Value) (hu:P.underlying t=some D) (hD:aggD D=true) (hi:TI P t ze sz by_) (hsz:vs.length=sz)
 (hx:ev E x=some (.pointer (some ⟨b,o,none⟩))) (hc: ∀w,S w→ ∀j v,vs[j]?=some v→w.cell? ⟨b,o+j,none⟩=some v):
 Step P N E S ⟨d,.load t x,ty,pos,af,g⟩ (.agg vs.toArray):=fun a w hf hs=>by
 have hag:(isAgg t).run P w= .ok true w:=by
  simp only[isAgg,Sem.run_bind,run_underlying hu,Result.andThen_ok]
  cases D<;>first|rfl|(simp[aggD] at hD)
 have hl:=run_loadCells_list (P:=P) w ⟨b,o,none⟩ vs (fun j v hv=>by
  have:=hc w hs j v hv
  by_cases hj:j=0
  ·subst hj;simpa[Addr.add] using this
  ·simpa[Addr.add,hj] using this)
 rw[hsz] at hl
 simp only[execOp,hf.ev hx,Instr.loadAt,Instr.sureAddr,loadVar,Sem.run_bind,Sem.run_pure,Result.andThen_ok,hag,if_true,hi.sizeOf,hl]
section
variable {k:IntKind} {m n r:Int} {t t2:TypeId}
theorem step_bin {op:BinOp} (hx:ev E x=some u) (hy:ev E y=some u') (hgd:eqGuard op t x y u u'=pure ()) (h: ∀w,(binOp op t u u').run P w= .ok v w):Step P N E S ⟨d,.binOp op t x y t2,ty,pos,af,g⟩ v:=fun a w hf _=>by
 simp only[execOp,hf.ev hx,hf.ev hy,hgd,Sem.run_bind,Sem.run_pure,Result.andThen_ok,h]
theorem Step.add (hx:ev E x=some (.int k m)) (hy:ev E y=some (.int k n)) (hr:k.wrap (m+n)=r):Step P N E S ⟨d,.binOp .add t x y t2,ty,pos,af,g⟩ (.int k r):=
 step_bin hx hy rfl fun w=>by simp[binOp,Op.intArith,hr]
theorem Step.sub (hx:ev E x=some (.int k m)) (hy:ev E y=some (.int k n)) (hr:k.wrap (m-n)=r):Step P N E S ⟨d,.binOp .sub t x y t2,ty,pos,af,g⟩ (.int k r):=
 step_bin hx hy rfl fun w=>by simp[binOp,Op.intArith,hr]
theorem Step.mul (hx:ev E x=some (.int k m)) (hy:ev E y=some (.int k n)) (hr:k.wrap (m* n)=r):Step P N E S ⟨d,.binOp .mul t x y t2,ty,pos,af,g⟩ (.int k r):=
 step_bin hx hy rfl fun w=>by simp[binOp,Op.intArith,hr]
theorem Step.rem (hx:ev E x=some (.int k m)) (hy:ev E y=some (.int k n)) (hn:n≠0) (hr:m.tmod n=r):Step P N E S ⟨d,.binOp .rem t x y t2,ty,pos,af,g⟩ (.int k r):=
 step_bin hx hy rfl fun w=>by simp[binOp,Op.intDiv,hn,hr]
theorem Step.quo (hx:ev E x=some (.int k m)) (hy:ev E y=some (.int k n)) (hn:n≠0) (hr:k.wrap (m.tdiv n)=r):Step P N E S ⟨d,.binOp .quo t x y t2,ty,pos,af,g⟩ (.int k r):=
 step_bin hx hy rfl fun w=>by simp[binOp,Op.intDiv,hn,hr]
theorem Step.eql (hx:ev E x=some (.int k m)) (hy:ev E y=some (.int k n)):Step P N E S ⟨d,.binOp .eql t x y t2,ty,pos,af,g⟩ (.bool (decide (m=n))):=
 step_bin hx hy rfl fun w=>by simp[binOp,Op.intCmp];rfl
theorem Step.neq (hx:ev E x=some (.int k m)) (hy:ev E y=some (.int k n)):Step P N E S ⟨d,.binOp .neq t x y t2,ty,pos,af,g⟩ (.bool (decide (¬m=n))):=
 step_bin hx hy rfl fun w=>by simp[binOp,Op.intCmp,bne];rfl
theorem Step.lss (hx:ev E x=some (.int k m)) (hy:ev E y=some (.int k n)):Step P N E S ⟨d,.binOp .lss t x y t2,ty,pos,af,g⟩ (.bool (decide (m<n))):=
 step_bin hx hy rfl fun w=>by simp[binOp,Op.intCmp]
theorem Step.leq (hx:ev E x=some (.int k m)) (hy:ev E y=some (.int k n)):Step P N E S ⟨d,.binOp .leq t x y t2,ty,pos,af,g⟩ (.bool (decide (m≤n))):=
 step_bin hx hy rfl fun w=>by simp[binOp,Op.intCmp]
theorem Step.gtr (hx:ev E x=some (.int k m)) (hy:ev E y=some (.int k n)):Step P N E S ⟨d,.binOp .gtr t x y t2,ty,pos,af,g⟩ (.bool (decide (n<m))):=
 step_bin hx hy rfl fun w=>by simp[binOp,Op.intCmp]
theorem Step.geq (hx:ev E x=some (.int k m)) (hy:ev E y=some (.int k n)):Step P N E S ⟨d,.binOp .geq t x y t2,ty,pos,af,g⟩ (.bool (decide (n≤m))):=
 step_bin hx hy rfl fun w=>by simp[binOp,Op.intCmp]
theorem Step.not {b:Bool} (hx:ev E x=some (.bool b)):Step P N E S ⟨d,.unOp .not t x,ty,pos,af,g⟩ (.bool (!b)):=fun a w hf _=>by
 simp[execOp,hf.ev hx,Op.unary]
theorem Step.convI {src dst:TypeId} {k':IntKind} {D:TypeDesc} (hs:P.underlying src=some D) (hd:P.underlying dst=some (.int k')) (hx:ev E x=some (.int k m)) (hr:k'.wrap m=r):
 Step P N E S ⟨d,.convert src dst x,ty,pos,af,g⟩ (.int k' r):=fun a w hf _=>by
 simp only[execOp,hf.ev hx,Sem.run_bind,convert,run_underlying hs,run_underlying hd,Result.andThen_ok,Conv.intToInt,Sem.run_pure,hr]
end
theorem Step.lenSl {t e:TypeId} {A:Option Addr} {n c:Nat} (hu:P.underlying t=some (.slice e)) (hx:ev E x=some (.slice A n c)):
 Step P N E S ⟨d,.call ⟨.builtin .len,#[x],#[t]⟩,ty,pos,af,g⟩ (.int .i64 n):=fun a w hf _=>by
 simp[execOp,resolve,invoke,builtin,hf.ev hx,Builtin.len_,Builtin.lenOf,run_underlying hu,goInt]
theorem Step.max2 {k:IntKind} {m n:Int} {ts:Array TypeId} (hx:ev E x=some (.int k m)) (hy:ev E y=some (.int k n)):
 Step P N E S ⟨d,.call ⟨.builtin .max,#[x,y],ts⟩,ty,pos,af,g⟩ (.int k (max m n)):=fun a w hf _=>by
 have e:(if n>m then n else m)=max m n:=by rw[Int.max_def];split<;>split<;>omega
 simp[execOp,resolve,invoke,builtin,hf.ev hx,hf.ev hy,Builtin.max_,Builtin.max2,e]
theorem Step.min2 {k:IntKind} {m n:Int} {ts:Array TypeId} (hx:ev E x=some (.int k m)) (hy:ev E y=some (.int k n)):
 Step P N E S ⟨d,.call ⟨.builtin .min,#[x,y],ts⟩,ty,pos,af,g⟩ (.int k (min m n)):=fun a w hf _=>by
 have e:(if n<m then n else m)=min m n:=by rw[Int.min_def];split<;>split<;>omega
 simp[execOp,resolve,invoke,builtin,hf.ev hx,hf.ev hy,Builtin.min_,Builtin.min2,e]
def evp (E:Env):List (Nat×Operand)→Option (List (Nat×Value))
 |[]=>some []
 |(i,x)::r=>match ev E x,evp E r with
  |some v,some vs=>some ((i,v)::vs)
  |_,_=>none
theorem Fits.evp {a:Act} (h:Fits N a E): ∀ {xs:List (Nat×Operand)} {vs:List (Nat×Value)},evp E xs=some vs→xs.map (fun(i,x)=>(i,a.eval x))=vs
 |[],vs,hx=>by simp[Sv.evp] at hx;simp[←hx]
 |(i,x)::r,vs,hx=>by
  simp only[Sv.evp] at hx
  cases h1:Sv.ev E x with
  |none=>simp[h1] at hx
  |some v=>
   cases h2:Sv.evp E r with
   |none=>simp[h1,h2] at hx
   |some us=>
    simp[h1,h2] at hx
    rw[←hx,List.map_cons,h.evp h2];simp only[h.ev h1]
theorem Step.build {t:TypeId} {ps:List (Nat×Operand)} {vs:List (Nat×Value)} (hx:evp E ps=some vs) (h: ∀w,(Instr.build t vs.toArray).run P w= .ok v w):Step P N E S ⟨d,.build t ps.toArray,ty,pos,af,g⟩ v:=fun a w hf _=>by
 have e:ps.toArray.map (fun(i,x)=>(i,a.eval x))=vs.toArray:=by rw[←hf.evp hx];simp
 simp only[execOp,e,Sem.run_bind,h,Result.andThen_ok,Sem.run_pure]
end
theorem Hp.cells {I0:Ids} {w0 w:World} {L:List Assn} (h:Hp I0 w0 L w) (k:Nat) {b:Nat} {cs:Array Value} {t:TypeId} {fz:Nat×Nat} (hk:L[k]?=some (Blk b (.cells cs t fz))):
 ∀j v,cs.toList[j]?=some v→w.cell? ⟨b,0+j,none⟩=some v:=fun j v hv=>by
 rw[Nat.zero_add,cell_of (h.blk k hk)]
 simpa using hv
structure Enc (α:Type) where
 f:α→List Value
 sz:Nat
 d:α
 len: ∀x,(f x).length=sz
 pos:0<sz
 one: ∀x,∀v∈f x,v.oneCell'=true
section
variable {α:Type} (K:Enc α)
def flat (ys:List α):List Value:=ys.flatMap K.f
theorem flat_length (ys:List α):(flat K ys).length=ys.length* K.sz:=by
 induction ys with
 |nil=>simp[flat]
 |cons y r ih=>
  have:flat K (y::r)=K.f y++flat K r:=by simp[flat]
  rw[this,List.length_append,K.len,ih,List.length_cons,Nat.add_mul];omega
theorem flat_append (ys zs:List α):flat K (ys++zs)=flat K ys++flat K zs:=by simp[flat]
theorem flat_get {ys:List α} {m j:Nat} {y:α} {v:Value} (hm:ys[m]?=some y) (hj:(K.f y)[j]?=some v):(flat K ys)[m* K.sz+j]?=some v:=by
 have hj':j<K.sz:=by
  have h:=(List.getElem?_eq_some_iff.1 hj).1
  rw[K.len] at h
  exact h
 induction ys generalizing m with
 |nil=>simp at hm
 |cons z r ih=>
  have e:flat K (z::r)=K.f z++flat K r:=by simp[flat]
  rw[e]
  cases m with
  |zero=>
   simp at hm
   subst hm
   rw[Nat.zero_mul,Nat.zero_add,List.getElem?_append_left (by rw[K.len];exact hj')]
   exact hj
  |succ m=>
   simp only[List.getElem?_cons_succ] at hm
   rw[List.getElem?_append_right (by rw[K.len,Nat.add_mul];omega),K.len,show(m+1)* K.sz+j-K.sz=m* K.sz+j from by rw[Nat.add_mul];omega]
   exact ih hm
theorem getD_get {ys:List α} {m:Nat} (h:m<ys.length) (d:α):ys[m]?=some (ys.getD m d):=by
 simp[List.getD,List.getElem?_eq_getElem h]
theorem getD_set_self (ys:List α) (m:Nat) (y d:α) (h:m<ys.length):(ys.set m y).getD m d=y:=by simp[List.getD,h]
theorem getD_set_other (ys:List α) {m k:Nat} (y d:α) (h:m≠k):(ys.set m y).getD k d=ys.getD k d:=by simp[List.getD,List.getElem?_set_ne h]
theorem flat_set {ys:List α} {m:Nat} (h:m<ys.length) (y:α):flat K (ys.set m y)=(flat K ys).take (m* K.sz)++K.f y++(flat K ys).drop (m* K.sz+K.sz):=by
 induction ys generalizing m with
 |nil=>simp at h
 |cons z r ih=>
  have e:flat K (z::r)=K.f z++flat K r:=by simp[flat]
  cases m with
  |zero=>
   have e':flat K ((z::r).set 0 y)=K.f y++flat K r:=by simp[flat]
   rw[e',e,Nat.zero_mul,List.take_zero,List.nil_append,Nat.zero_add,List.drop_append_of_le_length (by rw[K.len];exact Nat.le_refl _),List.drop_of_length_le (by rw[K.len];exact Nat.le_refl _),List.nil_append]
  |succ m=>
   have e':flat K ((z::r).set (m+1) y)=K.f z++flat K (r.set m y):=by simp[flat]
   have h1:(m+1)* K.sz=K.sz+m* K.sz:=by rw[Nat.add_mul];omega
   rw[e',e,ih (by simpa using h),h1]
   have hl:=K.len z
   have t1:List.take (K.sz+m* K.sz) (K.f z)=K.f z:=List.take_of_length_le (by omega)
   have t2:List.drop (K.sz+m* K.sz+K.sz) (K.f z)=[]:=List.drop_of_length_le (by omega)
   rw[List.take_append,List.drop_append,hl,t1,t2,List.nil_append]
   rw[show K.sz+m* K.sz-K.sz=m* K.sz from by omega,show K.sz+m* K.sz+K.sz-K.sz=m* K.sz+K.sz from by omega]
   simp only[List.append_assoc]
theorem flat_one (ys:List α): ∀v∈flat K ys,v.oneCell'=true:=by
 intro v hv
 simp only[flat,List.mem_flatMap] at hv
 obtain⟨y,_,hy⟩:=hv
 exact K.one y v hy
end
def bk:Option Addr→Nat
 |some a=>a.block
 |none=>0
def of:Option Addr→Nat
 |some a=>a.off
 |none=>0
def RS {α:Type} (w:World) (K:Enc α) (A:Option Addr) (ys:List α):Prop:=
 ys=[]∨ ∃cur t fz,A=some ⟨bk A,of A,none⟩∧w.heap[bk A]?=some (.cells cur t fz)∧ ∀j v,(flat K ys)[j]?=some v→cur[of A+j]?=some v
section
variable {α:Type} {K:Enc α} {w w':World} {A:Option Addr} {ys:List α}
theorem RS.form (h:RS w K A ys) {m:Nat} (hm:m<ys.length):A=some ⟨bk A,of A,none⟩:=by
 rcases h with rfl|⟨_,_,_,h,_⟩
 ·simp at hm
 ·exact h
theorem RS.cell (h:RS w K A ys) {m j:Nat} {v:Value} (hm:m<ys.length) (hv:(K.f (ys.getD m K.d))[j]?=some v):w.cell? ⟨bk A,of A+m* K.sz+j,none⟩=some v:=by
 rcases h with rfl|⟨cur,t,fz,_,hb,hc⟩
 ·simp at hm
 ·rw[cell_of hb,Nat.add_assoc]
  exact hc _ _ (flat_get K (getD_get hm K.d) hv)
theorem RS.keep (h:RS w K A ys) (hk: ∀o,w.heap[bk A]?=some o→w'.heap[bk A]?=some o):RS w' K A ys:=by
 rcases h with h|⟨cur,t,fz,hA,hb,hc⟩
 ·exact .inl h
 ·exact .inr ⟨cur,t,fz,hA,hk _ hb,hc⟩
theorem RS.ext {I:Ids} (h:RS w K A ys) (he:Ext I w w') (hn: ¬I (bk A)):RS w' K A ys:=h.keep fun o ho=>by rw[he.block _ (lt_of_some ho) hn];exact ho
theorem RS.take (h:RS w K A ys) (n:Nat):RS w K A (ys.take n):=by
 rcases h with rfl|⟨cur,t,fz,hA,hb,hc⟩
 ·exact .inl (by simp)
 ·refine .inr ⟨cur,t,fz,hA,hb,fun j v hv=>hc j v ?_⟩
  have e:flat K ys=flat K (ys.take n)++flat K (ys.drop n):=by rw[←flat_append,List.take_append_drop]
  rw[e,List.getElem?_append_left (List.getElem?_eq_some_iff.1 hv).1]
  exact hv
theorem Hp.rs {I0:Ids} {w0:World} {L:List Assn} (h:Hp I0 w0 L w) (hr:RS w0 K A ys) (hn:ys≠[]→ ¬I0 (bk A)):RS w K A ys:=by
 obtain⟨_,_,he,_⟩:=h
 by_cases hy:ys=[]
 ·exact .inl hy
 ·exact hr.ext he (hn hy)
end
def OS {α:Type} (e:TypeId) (K:Enc α) (A:Option Addr) (c:Nat) (ys:List α):Assn where
 sat w I:=(A=none∧ys=[]∧c=0∧ ∀x,¬I x)∨ ∃g cur,A=some ⟨g,0,none⟩∧(∀x,I x↔x=g)∧w.heap[g]?=some (.cells cur e (0,0))∧ys.length≤c∧c≤maxLen∧cur.size=c* K.sz∧cur.toList.take (ys.length* K.sz)=flat K ys
 lt h x hx:=by
  rcases h with ⟨_,_,_,h⟩|⟨g,cur,_,hI,hb,_⟩
  ·exact absurd hx (h x)
  ·rw[(hI x).1 hx];exact lt_of_some hb
 keep h hk:=by
  rcases h with h|⟨g,cur,hA,hI,hb,h⟩
  ·exact .inl h
  ·exact .inr ⟨g,cur,hA,hI,by rw[hk g ((hI g).2 rfl)];exact hb,h⟩
section
variable {α:Type} {K:Enc α} {w w' w0:World} {A:Option Addr} {ys:List α} {e:TypeId} {c:Nat} {I0:Ids} {L:List Assn}
theorem OS.rs {I:Ids} (h:(OS e K A c ys).sat w I):RS w K A ys:=by
 rcases h with ⟨_,h,_⟩|⟨g,cur,rfl,_,hb,_,_,_,ht⟩
 ·exact .inl h
 ·refine .inr ⟨cur,e,(0,0),rfl,hb,fun j v hv=>?_⟩
  rw[←ht,List.getElem?_take] at hv
  split at hv
  ·simpa[of] using hv
  ·cases hv
theorem Hp.os (h:Hp I0 w0 L w) (k:Nat) (hk:L[k]?=some (OS e K A c ys)):RS w K A ys:=by
 obtain⟨i,j,hA,_⟩:=h.at hk
 exact OS.rs hA
theorem Hp.osCap (h:Hp I0 w0 L w) (k:Nat) (hk:L[k]?=some (OS e K A c ys)):ys.length≤c∧c≤maxLen:=by
 obtain⟨i,j,hA,_⟩:=h.at hk
 rcases hA with ⟨_,h,h2,_⟩|⟨g,cur,rfl,_,hb,h1,h2,_,ht⟩
 ·subst h;subst h2;exact⟨Nat.le_refl _,Nat.zero_le _⟩
 ·exact⟨h1,h2⟩
end
section
variable {P:Program} {N:NN} {Q:Exit→Act→World→Prop} {E:Env} {S:World→Prop} {ops:Array Oper} {rest:List Oper}
variable {d:Option Nat} {ty:TypeId} {pos:String} {af:Array Edge} {g:Option (Nat×Bool)} {x y z:Operand} {u v:Value} {KK:Act→World→Prop}
variable {I0:Ids} {w0:World} {L:List Assn} {α:Type} {K:Enc α} {A:Option Addr} {ys:List α} {e:TypeId} {c:Nat}
theorem Step.idx {t e:TypeId} {ze:Value} {by_ n:Nat} {k:IntKind} {i:Int} (hu:P.underlying t=some (.slice e)) (hi:TI P e ze K.sz by_) (hs: ∀w,S w→RS w K A ys)
 (hx:ev E x=some (.slice A n c)) (hy:ev E y=some (.int k i)) (hn:n=ys.length) (m:Nat) (hm:i=(m:Int)) (hlt:m<ys.length):
 Step P N E S ⟨d,.indexAddr t x y,ty,pos,af,g⟩ (.pointer (some ⟨bk A,of A+m* K.sz,none⟩)):=fun a w hf h=>by
 subst hn
 exact Step.indexSl hu hi hx hy ((hs w h).form hlt) m hm hlt a w hf h
theorem run_storeVar_at {t:TypeId} {te:TypeId} {ze:Value} {sz by_ b o:Nat} {w:World} {cur:Array Value} (vs:List Value) (hi:TI P t ze sz by_) (hv:v.cells=vs.toArray) (hl:vs.length=sz)
 (hb:w.heap[b]?=some (.cells cur te (0,0))) (ho:o+vs.length≤cur.size) (h1: ∀v∈vs,v.oneCell'=true):
 (storeVar t ⟨b,o,none⟩ v).run P w= .ok () (w.setRow b (cur.toList.take o++vs++cur.toList.drop (o+vs.length)).toArray):=by
 have h:=run_storeCells_at (P:=P) b o te vs 0 cur w hb (by simpa using ho) h1
 simp only[Nat.add_zero] at h
 have hsz:v.cells.size=sz:=by rw[hv];simpa using hl
 have hvl:v.cells.toList=vs:=by rw[hv]
 simp only[storeVar,Sem.run_bind,hi.sizeOf,Result.andThen_ok,hsz,ne_eq,not_true_eq_false,if_false,Sem.run_pure,hvl,h]
theorem Hp.setRow {w:World} (h:Hp I0 w0 L w) {k b:Nat} {o:Obj} {cur cs:Array Value} {t:TypeId} (hk:L[k]?=some (Blk b o)) (ho:o= .cells cur t (0,0)):Hp I0 w0 (L.set k (Blk b (.cells cs t (0,0)))) (w.setRow b cs):=by
 subst ho
 have hb:=h.blk k hk
 exact h.modify hk (setRow_heap w b cur cs t (0,0) hb) (by simp[World.setRow]) (fun x hx=>setRow_other w b x cs hx) rfl rfl rfl
theorem OV.store (k:Nat) {t te:TypeId} {ze:Value} {sz by_ b o:Nat} {cur:Array Value} (vs:List Value) (cs:Array Value) (hi:TI P t ze sz by_)
 (hx:ev E x=some (.pointer (some ⟨b,o,none⟩))) (hy:ev E y=some v) (hk:L[k]?=some (Blk b (.cells cur te (0,0)))) (hv:v.cells=vs.toArray) (hl:vs.length=sz)
 (ho:o+vs.length≤cur.size) (h1: ∀v∈vs,v.oneCell'=true) (hcs:(cur.toList.take o++vs++cur.toList.drop (o+vs.length)).toArray=cs)
 (hg:Yes N ops ⟨none,.store t x y,ty,pos,af,g⟩ E)
 (kk:KV N KK E (Hp I0 w0 (L.set k (Blk b (.cells cs te (0,0)))))):OV P N ops Q ⟨none,.store t x y,ty,pos,af,g⟩ E (Hp I0 w0 L) KK:=fun a w hf hs=>by
 subst hcs
 rw[if_pos (hg a hf)]
 have hb:=hs.blk k hk
 unfold Oper.wp
 have hrun:=run_storeVar_at (P:=P) (v:=v) vs hi hv hl hb ho h1
 simp only[execOp,hf.ev hx,hf.ev hy,Instr.storeAt,Instr.sureAddr,Sem.run_bind,Sem.run_pure,Result.andThen_ok,hrun]
 exact kk _ _ (hf.put_none _) (hs.setRow hk rfl)
theorem OV.storeE (k m:Nat) (y':α) {t:TypeId} {ze:Value} {by_ sz o j:Nat} (vs:List Value) (hi:TI P t ze sz by_)
 (hx:ev E x=some (.pointer (some ⟨bk A,o,none⟩))) (hy:ev E y=some v) (hk:L[k]?=some (OS e K A c ys)) (ho:o=of A+m* K.sz+j) (hv:v.cells=vs.toArray) (hl:vs.length=sz)
 (hlt:m<ys.length) (hf':K.f y'=(K.f (ys.getD m K.d)).take j++vs++(K.f (ys.getD m K.d)).drop (j+vs.length)) (hj:j+vs.length≤K.sz)
 (hg:Yes N ops ⟨none,.store t x y,ty,pos,af,g⟩ E)
 (kk:KV N KK E (Hp I0 w0 (L.set k (OS e K A c (ys.set m y'))))):OV P N ops Q ⟨none,.store t x y,ty,pos,af,g⟩ E (Hp I0 w0 L) KK:=fun a w hf hs=>by
 rw[if_pos (hg a hf)]
 obtain⟨i,jj,hA,hL,hd,he,hi1,hj1⟩:=hs.at hk
 rcases hA with ⟨_,rfl,_⟩|⟨gb,cur,rfl,hI,hb,hle,hc,hsz,ht⟩
 ·simp at hlt
 ·have hlen:m* K.sz+K.sz≤ys.length* K.sz:=by
   have:(m+1)* K.sz≤ys.length* K.sz:=Nat.mul_le_mul_right _ hlt
   rw[Nat.add_mul] at this;omega
  have hcap:ys.length* K.sz≤c* K.sz:=Nat.mul_le_mul_right _ hle
  have ho':o=m* K.sz+j:=by rw[ho];simp[of]
  have h1: ∀v∈vs,v.oneCell'=true:=fun u hu=>K.one y' u (by rw[hf'];simp[hu])
  have hrun:=run_storeVar_at (P:=P) (v:=v) vs hi hv hl hb (o:=o) (by omega) h1
  unfold Oper.wp
  have hx':=hf.ev hx
  simp only[bk] at hx'
  simp only[execOp,hx',hf.ev hy,Instr.storeAt,Instr.sureAddr,Sem.run_bind,Sem.run_pure,Result.andThen_ok,hrun]
  refine kk _ _ (hf.put_none _) ?_
  refine Hp.perm ?_ (perm_set _ hk)
  refine⟨fun x=>x=gb∨jj x,⟨fun x=>x=gb,jj,fun _=>Iff.rfl,fun x ex hxj=>?_,.inr ⟨gb,_,rfl,fun _=>Iff.rfl,setRow_heap w gb cur _ e (0,0) hb,by simpa using hle,hc,?_,?_⟩,hL.keep fun x hxq=>setRow_other w gb x _ ?_⟩,⟨he.os,he.tape,he.output,by simpa using he.size,fun x hlt hn=>?_⟩,?_⟩
  ·subst ex;exact hd x ((hI x).2 rfl) hxj
  ·simp only[List.size_toArray,List.length_append,List.length_take,List.length_drop,Array.length_toList];omega
  ·rw[List.length_set,flat_set K hlt,←ht,hf',ho']
   apply List.ext_getElem?
   intro p
   have htl:cur.toList.length=c* K.sz:=by simpa using hsz
   have hkl:(K.f (ys.getD m K.d)).length=K.sz:=K.len _
   have hmid: ∀q,q<K.sz→(K.f (ys.getD m K.d))[q]?=cur.toList[m* K.sz+q]?:=fun q hq=>by
    have hq':(K.f (ys.getD m K.d))[q]?=some ((K.f (ys.getD m K.d))[q]'(by omega)):=List.getElem?_eq_getElem (by omega)
    have:=flat_get K (getD_get hlt K.d) hq'
    rw[←ht,List.getElem?_take,if_pos (by omega)] at this
    rw[hq',this]
   simp only[List.getElem?_take,List.getElem?_append,List.length_append,List.length_take,List.length_drop,htl,hkl,List.getElem?_drop]
   have e1:min (m* K.sz) (min (ys.length* K.sz) (c* K.sz))=m* K.sz:=by omega
   have e2:min (m* K.sz+j) (c* K.sz)=m* K.sz+j:=by omega
   have e3:min j K.sz=j:=by omega
   simp only[e1,e2,e3]
   by_cases p1:p<m* K.sz
   ·simp[p1,show p<ys.length* K.sz from by omega,show p<m* K.sz+j from by omega,show p<m* K.sz+j+vs.length from by omega,show p<m* K.sz+(j+vs.length+(K.sz-(j+vs.length))) from by omega]
   ·by_cases p2:p<m* K.sz+K.sz
    ·have q1:p<ys.length* K.sz:=by omega
     have q2:p<m* K.sz+(j+vs.length+(K.sz-(j+vs.length))):=by omega
     simp only[q1,q2,p1,if_true,if_false]
     by_cases p3:p<m* K.sz+j
     ·have r1:p-m* K.sz<j:=by omega
      have r2:p-m* K.sz<j+vs.length:=by omega
      simp only[p3,show p<m* K.sz+j+vs.length from by omega,r1,r2,if_true]
      rw[hmid _ (by omega)]
      congr 1;omega
     ·by_cases p4:p<m* K.sz+j+vs.length
      ·have r1: ¬p-m* K.sz<j:=by omega
       have r2:p-m* K.sz<j+vs.length:=by omega
       simp only[p3,p4,r1,r2,if_true,if_false]
       congr 1;omega
      ·have r2: ¬p-m* K.sz<j+vs.length:=by omega
       simp only[p4,r2,if_false]
       rw[hmid _ (by omega)]
       congr 1;omega
    ·have q2: ¬p<m* K.sz+(j+vs.length+(K.sz-(j+vs.length))):=by omega
     have q4: ¬p<m* K.sz+j+vs.length:=by omega
     by_cases q1:p<ys.length* K.sz
     ·simp only[q1,q2,q4,if_true,if_false]
      rw[if_pos (by omega)]
      congr 1;omega
     ·simp only[q1,q2,if_false]
      rw[if_neg (by omega)]
  ·rintro rfl;exact hd x ((hI x).2 rfl) hxq
  ·have hne:x≠gb:=by
    rintro rfl
    rcases hi1 x ((hI x).2 rfl) with h'|h'
    ·exact hn h'
    ·omega
   rw[setRow_other w gb x _ hne,he.block x hlt hn]
  ·rintro x (rfl|hx)
   ·exact hi1 x ((hI x).2 rfl)
   ·exact hj1 x hx
end
section
variable {P:Program} {N:NN} {Q:Exit→Act→World→Prop} {E:Env} {S:World→Prop} {ops:Array Oper} {rest:List Oper}
variable {d:Nat} {ty:TypeId} {pos:String} {af:Array Edge} {g:Option (Nat×Bool)} {x y z:Operand} {u v:Value} {KK:Act→World→Prop}
variable {I0:Ids} {w0:World} {L:List Assn} {α:Type} {K:Enc α} {A B:Option Addr} {ys zs:List α} {e:TypeId} {c:Nat}
theorem OV.alloc {t:TypeId} {ze:Value} {sz by_:Nat} (cs:Array Value) (hi:TI P t ze sz by_) (hcs:ze.cells=cs) (hg:Yes N ops ⟨some d,.alloc t,ty,pos,af,g⟩ E) (hN:Nat.blt d N.n=true)
 (k: ∀nb,KV N KK (set E d (.pointer (some ⟨nb,0,none⟩))) (Hp I0 w0 (L++[Blk nb (.cells cs t (0,0))]))):OV P N ops Q ⟨some d,.alloc t,ty,pos,af,g⟩ E (Hp I0 w0 L) KK:=
 OV.new (val:=fun nb=> .pointer (some ⟨nb,0,none⟩)) hg (fun a w hf _=>by
  subst hcs
  simp only[execOp,Instr.alloc,Sem.run_bind,hi.zeroValue,Result.andThen_ok,newVar,newRow,Sem.run_pure,run_newObj_alloc]) hN k
theorem OV.box {t:TypeId} (cs:Array Value) (hx:ev E x=some v) (hcs:v.cells=cs) (hg:Yes N ops ⟨some d,.box t x,ty,pos,af,g⟩ E) (hN:Nat.blt d N.n=true)
 (k: ∀nb,KV N KK (set E d (.pointer (some ⟨nb,0,none⟩))) (Hp I0 w0 (L++[Blk nb (.cells cs t (0,0))]))):OV P N ops Q ⟨some d,.box t x,ty,pos,af,g⟩ E (Hp I0 w0 L) KK:=
 OV.new (val:=fun nb=> .pointer (some ⟨nb,0,none⟩)) hg (fun a w hf _=>by
  subst hcs
  simp only[execOp,Instr.box,Sem.run_bind,Result.andThen_ok,newVar,newRow,Sem.run_pure,run_newObj_alloc,hf.ev hx]) hN k
theorem OS.ofBlk {w:World} {I:Ids} {nb:Nat} {cs:Array Value} (h:(Blk nb (.cells cs e (0,0))).sat w I) (hl:ys.length≤c) (hc:c≤maxLen) (hs:cs.size=c* K.sz) (ht:cs.toList.take (ys.length* K.sz)=flat K ys):
 (OS e K (some ⟨nb,0,none⟩) c ys).sat w I:= .inr ⟨nb,cs,rfl,h.1,h.2,hl,hc,hs,ht⟩
theorem Sep.last {w:World} {I:Ids} {A B:Assn} (h:Sep (L++[A]) I w) (hab: ∀J,A.sat w J→B.sat w J):Sep (L++[B]) I w:=by
 obtain⟨i,j,hI,hd,hL,hA⟩:=Sep.append.1 h
 obtain⟨i2,j2,hJ,hd2,hA2,hn⟩:=hA
 exact Sep.append.2 ⟨i,j,hI,hd,hL,⟨i2,j2,hJ,hd2,hab _ hA2,hn⟩⟩
theorem Hp.last {w:World} {A B:Assn} (h:Hp I0 w0 (L++[A]) w) (hab: ∀J,A.sat w J→B.sat w J):Hp I0 w0 (L++[B]) w:=
 let ⟨I,hs,he,hi⟩:=h;⟨I,hs.last hab,he,hi⟩
theorem OV.buildSliceN {t:TypeId} {n:Nat} {ps:List (Nat×Operand)} {vs:List (Nat×Value)} (ys:List α) {cs:Array Value} (hx:evp E ps=some vs)
 (h: ∀w,(Instr.buildSlice t n vs.toArray).run P w= .ok (.slice (some ⟨w.heap.size,0,none⟩) n n) (w.alloc (.cells cs e))) (hn:n=ys.length) (hcs:cs.toList=flat K ys) (hm:n≤1000000)
 (hg:Yes N ops ⟨some d,.buildSlice t n ps.toArray,ty,pos,af,g⟩ E) (hN:Nat.blt d N.n=true)
 (k: ∀nb,KV N KK (set E d (.slice (some ⟨nb,0,none⟩) ys.length ys.length)) (Hp I0 w0 (L++[OS e K (some ⟨nb,0,none⟩) ys.length ys]))):OV P N ops Q ⟨some d,.buildSlice t n ps.toArray,ty,pos,af,g⟩ E (Hp I0 w0 L) KK:=by
 subst hn
 refine OV.new (val:=fun nb=> .slice (some ⟨nb,0,none⟩) ys.length ys.length) (ob:= .cells cs e) hg (fun a w hf _=>?_) hN fun nb a w hf hs=>k nb a w hf (hs.last fun J hJ=>?_)
 ·have e':ps.toArray.map (fun(i,x)=>(i,a.eval x))=vs.toArray:=by rw[←hf.evp hx];simp
  simp only[execOp,e',Sem.run_bind,h,Result.andThen_ok,Sem.run_pure]
 ·refine OS.ofBlk hJ (Nat.le_refl _) (by unfold maxLen;omega) ?_ (by rw[hcs,List.take_of_length_le (by rw[flat_length];exact Nat.le_refl _)])
  rw[←Array.length_toList,hcs,flat_length]
theorem OV.buildSlice {t:TypeId} {n:Nat} {ps:List (Nat×Operand)} {vs:List (Nat×Value)} (ys:List α) {cs:Array Value} (hx:evp E ps=some vs)
 (h: ∀w,(Instr.buildSlice t n vs.toArray).run P w= .ok (.slice (some ⟨w.heap.size,0,none⟩) n n) (w.alloc (.cells cs e))) (hn:n=ys.length) (hcs:cs.toList=flat K ys) (hm:n≤1000000)
 (hg:Yes N ops ⟨some d,.buildSlice t n ps.toArray,ty,pos,af,g⟩ E) (hN:Nat.blt d N.n=true)
 (k: ∀A,KV N KK (set E d (.slice A ys.length ys.length)) (Hp I0 w0 (L++[OS e K A ys.length ys]))):OV P N ops Q ⟨some d,.buildSlice t n ps.toArray,ty,pos,af,g⟩ E (Hp I0 w0 L) KK:=OV.buildSliceN ys hx h hn hcs hm hg hN fun nb=>k _
theorem flat_replicate_get (n:Nat) (y:α): ∀j,j<n* K.sz→(flat K (List.replicate n y))[j]?=(K.f y)[j%K.sz]?:=by
 intro j hj
 have hp:=K.pos
 have hm:j/K.sz<n:=by rw[Nat.div_lt_iff_lt_mul hp];exact hj
 have hl:j%K.sz<(K.f y).length:=by rw[K.len];exact Nat.mod_lt _ hp
 have h:=flat_get K (ys:=List.replicate n y) (m:=j/K.sz) (j:=j%K.sz) (y:=y) (v:=(K.f y)[j%K.sz]) (by simp[hm]) (List.getElem?_eq_getElem hl)
 rw[show j/K.sz* K.sz+j%K.sz=j from by rw[Nat.mul_comm];exact Nat.div_add_mod j K.sz] at h
 rw[h,List.getElem?_eq_getElem hl]
theorem made_take {zc:Array Value} {n c:Nat} {y:α} (hz:zc.toList=K.f y) (hnc:n≤c):(madeCells zc (c* K.sz)).toList.take (n* K.sz)=flat K (List.replicate n y):=by
 have hle:n* K.sz≤c* K.sz:=Nat.mul_le_mul_right _ hnc
 have hs:zc.size=K.sz:=by rw[←Array.length_toList,hz,K.len]
 have hp:=K.pos
 apply List.ext_getElem?
 intro j
 rw[List.getElem?_take]
 by_cases hj:j<n* K.sz
 ·rw[if_pos hj,flat_replicate_get n y j hj]
  have hjc:j<c* K.sz:=by omega
  have hlt:j%K.sz<zc.size:=by rw[hs];exact Nat.mod_lt _ hp
  have:(madeCells zc (c* K.sz)).toList[j]?=some (zc[j%K.sz]!):=by
   simp[madeCells,hs,hjc]
  rw[this,←hz,Array.getElem?_toList]
  simp[hlt]
 ·rw[if_neg hj,List.getElem?_eq_none (by rw[flat_length];simp;omega)]
theorem OV.makeN {t:TypeId} {ze:Value} {by_:Nat} {kn kc:IntKind} {i j:Int} (n c:Nat) (y0:α) (hu:P.underlying t=some (.slice e)) (hi:TI P e ze K.sz by_) (hz:ze.cells.toList=K.f y0)
 (hx:ev E x=some (.int kn i)) (hy:ev E y=some (.int kc j)) (hin:i=(n:Int)) (hjc:j=(c:Int)) (hnc:n≤c) (hb:by_* c≤281474976710656) (hm:c≤9223372036854775807)
 (hg:Yes N ops ⟨some d,.makeSlice t x y,ty,pos,af,g⟩ E) (hN:Nat.blt d N.n=true)
 (k: ∀nb,KV N KK (set E d (.slice (some ⟨nb,0,none⟩) n c)) (Hp I0 w0 (L++[OS e K (some ⟨nb,0,none⟩) c (List.replicate n y0)]))):OV P N ops Q ⟨some d,.makeSlice t x y,ty,pos,af,g⟩ E (Hp I0 w0 L) KK:=by
 subst hin;subst hjc
 obtain⟨inf,h1,h2,h3,h4⟩:=hi.get
 refine OV.new (val:=fun nb=> .slice (some ⟨nb,0,none⟩) n c) (ob:= .cells (madeCells ze.cells (c* K.sz)) e) hg (fun a w hf _=>?_) hN fun nb a w hf hs=>k nb a w hf (hs.last fun J hJ=>?_)
 ·have hb':(inf.bytes:Int)* (c:Int)≤281474976710656:=by rw[h4];omega
  have hr:=run_make (P:=P) w t e inf ze hu h1 h2 kn kc n c (by omega) (by omega) hb' (by omega)
  rw[h3] at hr
  simp only[Int.toNat_natCast] at hr
  simp only[execOp,hf.ev hx,hf.ev hy,Sem.run_bind,hr,Result.andThen_ok,Sem.run_pure]
 ·exact OS.ofBlk hJ (by simpa using hnc) (by unfold maxLen;omega) (size_madeCells _ _) (by simpa using made_take hz hnc)
theorem OV.make {t:TypeId} {ze:Value} {by_:Nat} {kn kc:IntKind} {i j:Int} (n c:Nat) (y0:α) (hu:P.underlying t=some (.slice e)) (hi:TI P e ze K.sz by_) (hz:ze.cells.toList=K.f y0)
 (hx:ev E x=some (.int kn i)) (hy:ev E y=some (.int kc j)) (hin:i=(n:Int)) (hjc:j=(c:Int)) (hnc:n≤c) (hb:by_* c≤281474976710656) (hm:c≤9223372036854775807)
 (hg:Yes N ops ⟨some d,.makeSlice t x y,ty,pos,af,g⟩ E) (hN:Nat.blt d N.n=true)
 (k: ∀A,KV N KK (set E d (.slice A n c)) (Hp I0 w0 (L++[OS e K A c (List.replicate n y0)]))):OV P N ops Q ⟨some d,.makeSlice t x y,ty,pos,af,g⟩ E (Hp I0 w0 L) KK:=OV.makeN n c y0 hu hi hz hx hy hin hjc hnc hb hm hg hN fun nb=>k _
theorem Hp.update {w w':World} {k:Nat} {A A':Assn} (h:Hp I0 w0 L w) (hk:L[k]?=some A)
 (hw: ∀i,A.sat w i→ ∃i':Ids,A'.sat w' i'∧(∀x,i' x→i x∨w.heap.size≤x)∧Ext i w w'):Hp I0 w0 (L.set k A') w':=by
 obtain⟨i,j,hA,hL,hd,he,hi,hj⟩:=h.at hk
 obtain⟨i',hA',hsub,hx⟩:=hw i hA
 refine Hp.perm ?_ (perm_set _ hk)
 refine⟨fun x=>i' x∨j x,⟨i',j,fun _=>Iff.rfl,fun x h1 h2=>?_,hA',hL.keep fun x hxj=>hx.block x (hL.lt x hxj) fun h=>hd x h hxj⟩,?_,?_⟩
 ·rcases hsub x h1 with h3|h3
  ·exact hd x h3 h2
  ·have:=hL.lt x h2;omega
 ·exact he.trans hx hi
 ·rintro x (h1|h1)
  ·rcases hsub x h1 with h2|h2
   ·exact hi x h2
   ·exact .inr (Nat.le_trans he.size h2)
  ·exact hj x h1
theorem run_append_nil (base:Nat) (w:World) (t ty e:TypeId) (i:TypeInfo) (size:Nat) (ht:P.underlying t=some (.slice e)) (hi:P.info? e=some i)
 (v:Value) (n:Nat) (xs:List Value) (hown:w.ownsRow base e size v n xs) (c:Nat):(Builtin.append_ #[t,t] ty #[v,.slice none 0 c]).run P w= .ok v w:=by
 rcases hown.2 with ⟨rfl,rfl⟩|⟨g,cap,cur,rfl,_,_,hnc,_⟩
 ·simp[Builtin.append_,run_underlying ht,sizeOf,typeInfo,hi,Builtin.lenOf,Builtin.firstCells]
 ·simp[Builtin.append_,run_underlying ht,sizeOf,typeInfo,hi,Builtin.lenOf,Builtin.firstCells,hnc,storeCells]
theorem append_run {w:World} {i:Ids} {t:TypeId} {ze:Value} {by_ cB:Nat} (hu:P.underlying t=some (.slice e)) (hi:TI P e ze K.sz by_) (hze:ze.cells.size=K.sz)
 (h:(OS e K A c ys).sat w i) (hr:RS w K B zs) (hnil:zs=[]→B=none∨ ∃a,B=some a) (hb:(ys.length+zs.length)* by_≤140737488355328) (hm:ys.length+zs.length≤9223372036854775807):
 ∃A' c' w',(Builtin.append_ #[t,t] ty #[.slice A ys.length c,.slice B zs.length cB]).run P w= .ok (.slice A' (ys++zs).length c') w'∧
  ∃i':Ids,(OS e K A' c' (ys++zs)).sat w' i'∧(∀x,i' x→i x∨w.heap.size≤x)∧Ext i w w':=by
 obtain⟨inf,h1,h2,h3,h4⟩:=hi.get
 have hown:w.ownsRow 0 e K.sz (.slice A ys.length c) ys.length (flat K ys):=by
  refine⟨flat_length K ys,?_⟩
  rcases h with ⟨rfl,rfl,rfl,_⟩|⟨gb,cur,rfl,hI,hb,hle,hc,hsz,ht⟩
  ·exact .inl ⟨rfl,rfl⟩
  ·exact .inr ⟨gb,c,cur,rfl,Nat.zero_le _,hb,hle,hc,hsz,ht⟩
 have key: ∃v' w',(Builtin.append_ #[t,t] ty #[.slice A ys.length c,.slice B zs.length cB]).run P w= .ok v' w'∧w'.ownsRow 0 e K.sz v' (ys.length+zs.length) (flat K ys++flat K zs)∧w.grownBy w' (Value.slice A ys.length c).ownBlock∧
  (v'.ownBlock=(Value.slice A ys.length c).ownBlock∨v'.ownBlock=some w.heap.size):=by
  cases hB:B with
  |none=>
   have hz:zs=[]:=by
    rcases hr with h|⟨_,_,_,h,_⟩
    ·exact h
    ·rw[hB] at h;cases h
   subst hz
   exact⟨_,w,run_append_nil 0 w t ty e inf K.sz hu h1 _ _ _ hown cB,by simpa[flat] using hown,World.grownBy.refl w _,.inl rfl⟩
  |some a=>
   have hnews: ∀j u,(flat K zs)[j]?=some u→w.cell? (a.add j)=some u:=fun j u hj=>by
    rcases hr with rfl|⟨cur,tt,fz,hBA,hbb,hc⟩
    ·simp[flat] at hj
    ·rw[hB] at hBA
     have ha:a=⟨a.block,a.off,none⟩:=by simpa[bk,of] using hBA
     rw[hB] at hbb hc
     simp only[bk] at hbb
     have hcell:=hc j u hj
     rw[ha]
     by_cases j0:j=0
     ·subst j0;simp only[Addr.add,if_true];rw[cell_of hbb];simpa[of] using hcell
     ·simp only[Addr.add,j0,if_false];rw[cell_of hbb];simpa[of] using hcell
   obtain⟨v',w',hrun,ho,hgr,_,hbl⟩:=run_append_own_at (P:=P) w 0 t ty e inf ze K.sz by_ hu h1 h2 h3 h4 hze K.pos _ ys.length (flat K ys) hown a zs.length cB (flat K zs) (flat_length K zs) hnews (flat_one K zs)
    (by unfold maxLen;omega) hb (Nat.zero_le _)
   exact⟨v',w',hrun,ho,hgr,hbl⟩
 obtain⟨v',w',hrun,ho,hgr,hbl⟩:=key
 have hext:Ext i w w':=⟨hgr.os,hgr.tape,hgr.output,hgr.size,fun x hx hn=>hgr.block x hx fun hh=>hn ?_⟩
 ·rcases ho.2 with ⟨rfl,h0⟩|⟨gb,cap,cur,rfl,_,hb',hle,hc,hsz,ht⟩
  ·have hy:ys=[]:=List.eq_nil_of_length_eq_zero (by omega)
   have hz:zs=[]:=List.eq_nil_of_length_eq_zero (by omega)
   subst hy;subst hz
   exact⟨none,0,w',hrun,fun _=>False,.inl ⟨rfl,rfl,rfl,fun _ h=>h⟩,fun _ h=>h.elim,hext⟩
  ·refine⟨some ⟨gb,0,none⟩,cap,w',by rw[List.length_append];exact hrun,fun x=>x=gb,.inr ⟨gb,cur,rfl,fun _=>Iff.rfl,hb',by rw[List.length_append];exact hle,hc,hsz,by rw[List.length_append,flat_append];exact ht⟩,?_,hext⟩
   rintro x rfl
   rcases hbl with hbl|hbl
   ·rcases h with ⟨rfl,_⟩|⟨g2,cur2,rfl,hI,_⟩
    ·simp[Value.ownBlock] at hbl
    ·simp[Value.ownBlock] at hbl;exact .inl ((hI x).2 hbl)
   ·simp[Value.ownBlock] at hbl;exact .inr (by omega)
 ·rcases h with ⟨rfl,_⟩|⟨g2,cur2,rfl,hI,_⟩
  ·simp[Value.ownBlock] at hh
  ·simp[Value.ownBlock] at hh;exact(hI x).2 hh
theorem OV.append (k:Nat) {t:TypeId} {ze:Value} {by_ n m cB:Nat} (hu:P.underlying t=some (.slice e)) (hi:TI P e ze K.sz by_) (hze:ze.cells.size=K.sz)
 (hx:ev E x=some (.slice A n c)) (hy:ev E y=some (.slice B m cB)) (hn:n=ys.length) (hmz:m=zs.length) (hk:L[k]?=some (OS e K A c ys)) (hr: ∀w,Hp I0 w0 L w→RS w K B zs)
 (hb:(ys.length+zs.length)* by_≤140737488355328) (hm:ys.length+zs.length≤9223372036854775807) (hg:Yes N ops ⟨some d,.call ⟨.builtin .append,#[x,y],#[t,t]⟩,ty,pos,af,g⟩ E) (hN:Nat.blt d N.n=true)
 (kk: ∀A' c',KV N KK (set E d (.slice A' (ys++zs).length c')) (Hp I0 w0 (L.set k (OS e K A' c' (ys++zs))))):OV P N ops Q ⟨some d,.call ⟨.builtin .append,#[x,y],#[t,t]⟩,ty,pos,af,g⟩ E (Hp I0 w0 L) KK:=fun a w hf hs=>by
 subst hn;subst hmz
 obtain⟨i,j,hA,_⟩:=hs.at hk
 obtain⟨A',c',w',hrun,_⟩:=append_run (P:=P) (ty:=ty) (cB:=cB) hu hi hze hA (hr w hs) (fun _=>by cases B<;>simp) hb hm
 refine OV.run (v:= .slice A' (ys++zs).length c') (w':=w') (hg a hf) ?_ (kk A' c' _ _ (hf.put _ hN) (hs.update hk fun i2 hA2=>?_))
 ·simp only[execOp,resolve,invoke,builtin,Sem.run_bind,Sem.run_pure,Result.andThen_ok,List.map_toArray,List.map_cons,List.map_nil,hf.ev hx,hf.ev hy,hrun]
 ·obtain⟨A2,c2,w2,hrun2,hi2⟩:=append_run (P:=P) (ty:=ty) (cB:=cB) hu hi hze hA2 (hr w hs) (fun _=>by cases B<;>simp) hb hm
  rw[hrun] at hrun2
  injection hrun2 with h1 h2
  injection h1 with h3 h4 h5
  subst h2;subst h3;subst h5
  exact hi2
end
def Fx (P:Program) (f:FuncId) (vs:List Value) (w:World) (Own:List Assn) (ro:Ids) (post:Value→List Assn→Prop):Prop:=
 ∀I:Ids,Sep Own I w→(∀b,ro b→ ¬I b)→Calls P f vs.toArray w (fun e w'=> ∃v L',e= .returned v∧post v L'∧Hp I w L' w')
def no:Ids:=fun _=>False
def params:Nat→List Value→Env
 |_,[]=>[]
 |k,v::r=>(k,v)::params (k+1) r
theorem get_params: ∀(vs:List Value) (k t:Nat) (v:Value),get (params k vs) t=some v→k≤t∧vs[t-k]?=some v
 |[],_,_,_,h=>by simp[params,get] at h
 |u::r,k,t,v,h=>by
  by_cases hk:k=t
  ·subst hk;simp[params,get] at h;simp[h]
  ·have hb:Nat.beq k t=false:=by rw[←Bool.not_eq_true,Nat.beq_eq];exact hk
   simp only[params,get,hb,cond_false] at h
   obtain⟨h1,h2⟩:=get_params r (k+1) t v h
   refine⟨by omega,?_⟩
   rw[show t-k=(t-(k+1))+1 from by omega]
   simpa using h2
section
variable {P:Program} {f:FuncId} {vs:List Value} {w:World} {Own:List Assn} {ro:Ids} {post:Value→List Assn→Prop}
theorem Fx.body {fn:Func} {c:Code} {N:Nat} (hf:P.funcs[f]?=some fn) (hb:fn.body=some c) (hN:fn.ntmps=N) (hl:Nat.ble vs.length N=true)
 (h: ∀I:Ids,(∀b,ro b→ ¬I b)→Sep Own I w→CV P ⟨N,[]⟩ c (bodyPost P fn (fun e w'=> ∃v L',e= .returned v∧post v L'∧Hp I w L' w')) (params 0 vs) (Hp I w Own)):Fx P f vs w Own ro post:=by
 intro I hI hro
 refine calls_of_wp hf hb (h I hro hI _ _ ⟨rfl,?_,fun t v ht=>?_⟩ (Hp.start hI))
 ·have hl':vs.length≤N:=by simpa using hl
  simp[hN];omega
 ·obtain⟨_,h2⟩:=get_params vs 0 t v ht
  simp only[Nat.sub_zero] at h2
  have hlt:=(List.getElem?_eq_some_iff.1 h2).1
  rw[Array.getElem?_append_left (by simpa using hlt)]
  simpa using h2
theorem Fx.mono {post':Value→List Assn→Prop} (h:Fx P f vs w Own ro post) (hp: ∀v L,post v L→post' v L):Fx P f vs w Own ro post':=
 fun I hI hr=>(h I hI hr).mono fun _ _ ⟨v,L',h1,h2,h3⟩=>⟨v,L',h1,hp v L' h2,h3⟩
section
variable {N:Nat} {fn:Func} {I:Ids} {L L':List Assn} {E:Env} {v v1 v2 v3:Value} {t t1 t2 t3:Tmp}
theorem KV.ret0 (hr:fn.results= #[]) (L') (hent: ∀w',Hp I w L w'→Hp I w L' w') (hp:post (.tuple #[]) L'):
 KV ⟨N,[]⟩ (bodyPost P fn (fun e w'=> ∃v L',e= .returned v∧post v L'∧Hp I w L' w') .ret) E (Hp I w L):=fun a w' hf hs=>
 ⟨hf.defers,_,results_none hr _ _ _,_,L',rfl,hp,hent w' hs⟩
theorem KV.ret1 (hr:fn.results= #[.tmp t]) (hv:get E t=some v) (L') (hent: ∀w',Hp I w L w'→Hp I w L' w') (hp:post v L'):
 KV ⟨N,[]⟩ (bodyPost P fn (fun e w'=> ∃v L',e= .returned v∧post v L'∧Hp I w L' w') .ret) E (Hp I w L):=fun a w' hf hs=>
 ⟨hf.defers,v,by rw[results_tmp hr];simp[hf.slot t v hv],v,L',rfl,hp,hent w' hs⟩
theorem KV.ret2 (hr:fn.results= #[.tmp t1,.tmp t2]) (h1:get E t1=some v1) (h2:get E t2=some v2) (L') (hent: ∀w',Hp I w L w'→Hp I w L' w') (hp:post (.tuple #[v1,v2]) L'):
 KV ⟨N,[]⟩ (bodyPost P fn (fun e w'=> ∃v L',e= .returned v∧post v L'∧Hp I w L' w') .ret) E (Hp I w L):=fun a w' hf hs=>
 ⟨hf.defers,.tuple #[v1,v2],by rw[results_tmp2 hr];simp[hf.slot t1 v1 h1,hf.slot t2 v2 h2],_,L',rfl,hp,hent w' hs⟩
end
end
def picks:List Nat→List Assn→Option (List Assn×List Assn)
 |[],L=>some ([],L)
 |k::ks,L=>match L[k]? with
  |none=>none
  |some A=>match picks ks (L.eraseIdx k) with
   |none=>none
   |some (S,R)=>some (A::S,R)
theorem picks_perm: ∀ {ks:List Nat} {L S R:List Assn},picks ks L=some (S,R)→L.Perm (S++R)
 |[],L,S,R,h=>by simp[picks] at h;obtain⟨rfl,rfl⟩:=h;simp
 |k::ks,L,S,R,h=>by
  simp only[picks] at h
  cases hA:L[k]? with
  |none=>simp[hA] at h
  |some A=>
   cases hp:picks ks (L.eraseIdx k) with
   |none=>simp[hA,hp] at h
   |some q=>
    obtain⟨S',R'⟩:=q
    simp[hA,hp] at h
    obtain⟨rfl,rfl⟩:=h
    exact(perm_erase hA).trans (List.Perm.cons A (picks_perm hp))
section
variable {P:Program} {N:NN} {Q:Exit→Act→World→Prop} {E:Env} {ops:Array Oper} {KK:Act→World→Prop} {I0:Ids} {w0:World} {L Own F:List Assn}
def RoOk (I0:Ids) (w0:World) (F:List Assn) (b:Nat):Prop:=(¬I0 b∧b<w0.heap.size)∨ ∃(j:Nat) (A:Assn),F[j]?=some A∧ ∀(w:World) (I:Ids),A.sat w I→I b
theorem Calls.frame {f:FuncId} {vs:List Value} {w:World} {ks:List Nat} {ro:Ids} {post:Value→List Assn→Prop} (hp:picks ks L=some (Own,F)) (hs:Hp I0 w0 L w) (hro: ∀b,ro b→RoOk I0 w0 F b)
 (h:Fx P f vs w Own ro post):Calls P f vs.toArray w (fun e w'=> ∃v L',e= .returned v∧post v L'∧Hp I0 w0 (F++L') w'):=by
 obtain⟨I,hsep,he,hi⟩:=hs.perm (picks_perm hp)
 obtain⟨iO,iF,hI,hd,hO,hF⟩:=Sep.append.1 hsep
 refine(h iO hO fun b hb hbO=>?_).mono ?_
 ·rcases hro b hb with ⟨h1,h2⟩|⟨j,A,hj,hA⟩
  ·rcases hi b ((hI b).2 (.inl hbO)) with h3|h3
   ·exact h1 h3
   ·omega
  ·obtain⟨i,j',hI2,_,hA2,_⟩:=hF.perm (perm_erase hj)
   exact hd b hbO ((hI2 b).2 (.inl (hA w i hA2)))
 ·rintro e w' ⟨v,L',rfl,hpost,I',hL',hx,hI'⟩
  refine⟨v,L',rfl,hpost,fun x=>iF x∨I' x,Sep.append.2 ⟨iF,I',fun _=>Iff.rfl,fun x h1 h2=>?_,hF.keep fun x hxF=>hx.block x (hF.lt x hxF) fun hxO=>hd x hxO hxF,hL'⟩,he.trans hx fun x hxO=>hi x ((hI x).2 (.inl hxO)),?_⟩
  ·rcases hI' x h2 with h3|h3
   ·exact hd x h3 h1
   ·have:=hF.lt x h1;omega
  ·rintro x (h1|h1)
   ·exact hi x ((hI x).2 (.inr h1))
   ·rcases hI' x h1 with h3|h3
    ·exact hi x ((hI x).2 (.inl h3))
    ·exact .inr (Nat.le_trans he.size h3)
theorem OV.call (ks:List Nat) {d:Nat} {f:FuncId} {fn:Func} {vs:List Value} {args:List Operand} {ts:Array TypeId} {ty:TypeId} {pos:String} {af:Array Edge} {g:Option (Nat×Bool)} {ro:Ids} {post:Value→List Assn→Prop}
 (hfn:P.funcs[f]?=some fn) (hbody:fn.body.isSome=true) (hname:(fn.name== "runtime.NumGoroutine")=false) (ha:evs E args=some vs) (hp:picks ks L=some (Own,F)) (spec: ∀w,Hp I0 w0 L w→Fx P f vs w Own ro post) (hro: ∀b,ro b→RoOk I0 w0 F b)
 (hg:Yes N ops ⟨some d,.call ⟨.value (.func f),args.toArray,ts⟩,ty,pos,af,g⟩ E) (hN:Nat.blt d N.n=true)
 (k: ∀v L',post v L'→KV N KK (set E d v) (Hp I0 w0 (F++L'))):OV P N ops Q ⟨some d,.call ⟨.value (.func f),args.toArray,ts⟩,ty,pos,af,g⟩ E (Hp I0 w0 L) KK:=fun a w hf hs=>by
 rw[if_pos (hg a hf)]
 unfold Oper.wp
 have hbn:fn.body.isNone=false:=by cases h:fn.body<;>simp_all
 have hrun:(execOp a.eval ⟨some d,.call ⟨.value (.func f),args.toArray,ts⟩,ty,pos,af,g⟩).run P w= .ok (.enter f vs.toArray) w:=by
  have hv:a.eval (.func f)= .func (.func f) #[] #[]:=rfl
  have hm:args.toArray.map a.eval=vs.toArray:=by rw[←hf.evs ha];simp
  have hn1: ¬fn.name= "runtime.NumGoroutine":=by simpa using hname
  have hn2: ¬fn.body=none:=by intro h;rw[h] at hbn;simp at hbn
  simp[execOp,resolve,invoke,callFunc,hv,hfn,hn1,hn2,hm,Deferred.ofValue]
 rw[hrun]
 simp only[Oper.upon]
 refine(Calls.frame hp hs hro (spec w hs)).mono ?_
 rintro e w' ⟨v,L',rfl,hpost,hhp⟩
 exact k v L' hpost _ _ (hf.put v hN) hhp
end
section
variable {P:Program} {N:NN} {Q:Exit→Act→World→Prop} {E:Env} {S S0:World→Prop} {ops:Array Oper} {rest:List Oper} {T:Act→World→Prop}
def SV (P:Program) (N:NN) (ops:Array Oper) (T:Act→World→Prop) (rest:List Oper) (E:Env) (S:World→Prop):Prop:= ∀a w,Fits N a E→S w→wpStill P ops w (fun a'=>T a' w) rest a
theorem SV.nil (h:KV N T E S):SV P N ops T [] E S:=fun a w hf hs=>h a w hf hs
theorem still_val {a:Act} {w:World} {v:Value} {o:Oper} {R:Act→Prop} (hw:Region.wanted o (yielded ops a.tmps)=true) (h:(execOp a.eval o).run P w= .ok (.value v) w) (k:wpStill P ops w R rest (a.put o.dst v)):
 wpStill P ops w R (o::rest) a:=by
 unfold wpStill
 rw[if_pos hw]
 unfold Oper.still
 rw[h]
 exact⟨rfl,k⟩
section
variable {d:Nat} {v:Value} {op:Op} {ty:TypeId} {pos:String} {af:Array Edge} {g:Option (Nat×Bool)}
theorem SV.step (hg:Yes N ops ⟨some d,op,ty,pos,af,g⟩ E) (h:Step P N E S ⟨some d,op,ty,pos,af,g⟩ v) (hN:Nat.blt d N.n=true) (k:SV P N ops T rest (set E d v) S):SV P N ops T (⟨some d,op,ty,pos,af,g⟩::rest) E S:=
 fun a w hf hs=>still_val (hg a hf) (h a w hf hs) (k _ w (hf.put v hN) hs)
theorem SV.skip {j:Nat} {b:Bool} (hg:wantsE ops E j=some (!b)) (hN:Nat.blt d N.n=true) (k:SV P N ops T rest (set E d undef) S):SV P N ops T (⟨some d,op,ty,pos,af,some (j,b)⟩::rest) E S:=fun a w hf hs=>by
 unfold wpStill
 rw[if_neg (by rw[wanted_of hf rfl hg];cases b<;>decide)]
 exact k _ w (hf.put undef hN) hs
theorem SV.split {c:Prop} [Decidable c] (hg:Yes N ops ⟨some d,op,ty,pos,af,g⟩ E) (h:Step P N E S ⟨some d,op,ty,pos,af,g⟩ (.bool (decide c))) (hN:Nat.blt d N.n=true)
 (k1:c→SV P N ops T rest (set E d (.bool true)) S) (k2: ¬c→SV P N ops T rest (set E d (.bool false)) S):SV P N ops T (⟨some d,op,ty,pos,af,g⟩::rest) E S:=fun a w hf hs=>by
 have h':=h a w hf hs
 by_cases hc:c
 ·rw[decide_eq_true hc] at h'
  exact still_val (hg a hf) h' (k1 hc _ w (hf.put _ hN) hs)
 ·rw[decide_eq_false hc] at h'
  exact still_val (hg a hf) h' (k2 hc _ w (hf.put _ hN) hs)
end
def FxP (P:Program) (f:FuncId) (vs:List Value) (v:Value):Prop:= ∀w,Calls P f vs.toArray w (fun e w'=>e= .returned v∧w'=w)
theorem SV.call {d:Nat} {f:FuncId} {fn:Func} {vs:List Value} {v:Value} {args:List Operand} {ts:Array TypeId} {ty:TypeId} {pos:String} {af:Array Edge} {g:Option (Nat×Bool)}
 (hfn:P.funcs[f]?=some fn) (hbody:fn.body.isSome=true) (hname:(fn.name== "runtime.NumGoroutine")=false) (ha:evs E args=some vs) (spec:FxP P f vs v) (hg:Yes N ops ⟨some d,.call ⟨.value (.func f),args.toArray,ts⟩,ty,pos,af,g⟩ E) (hN:Nat.blt d N.n=true)
 (k:SV P N ops T rest (set E d v) S):SV P N ops T (⟨some d,.call ⟨.value (.func f),args.toArray,ts⟩,ty,pos,af,g⟩::rest) E S:=fun a w hf hs=>by
 have hbn:fn.body.isNone=false:=by cases h:fn.body<;>simp_all
 have hrun:(execOp a.eval ⟨some d,.call ⟨.value (.func f),args.toArray,ts⟩,ty,pos,af,g⟩).run P w= .ok (.enter f vs.toArray) w:=by
  have hv:a.eval (.func f)= .func (.func f) #[] #[]:=rfl
  have hm:args.toArray.map a.eval=vs.toArray:=by rw[←hf.evs ha];simp
  have hn1: ¬fn.name= "runtime.NumGoroutine":=by simpa using hname
  have hn2: ¬fn.body=none:=by intro h;rw[h] at hbn;simp at hbn
  simp[execOp,resolve,invoke,callFunc,hv,hfn,hn1,hn2,hm,Deferred.ofValue]
 unfold wpStill
 rw[if_pos (hg a hf)]
 unfold Oper.still
 rw[hrun]
 exact⟨rfl,v,(spec w).mono fun e w' h=>h,k _ w (hf.put v hN) hs⟩
theorem CV.still {id:Nat} {l:List Oper} (hm:P.follows .mixedOrders=true) (hB:Region.lexB .any l.toArray=true) (hd: ∀w,S w→S w.drew) (h:SV P N l.toArray (Q .normal) l E S):CV P N (.region id l.toArray true) Q E S:=
 fun a w hf hs=>wp_region_still_lit hm hB (h a w.drew hf (hd w hs))
theorem CV.stillTail (n:Nat) {id:Nat} {l:List Oper} (hm:P.follows .mixedOrders=true) (hB:Region.lexTailB .any l.toArray n=true) (hd: ∀w,S w→S w.drew)
 (h:SV P N l.toArray (wpList P l.toArray Q (l.drop n)) (l.take n) E S):CV P N (.region id l.toArray true) Q E S:=
 fun a w hf hs=>wp_region_still_tail n hm hB (h a w.drew hf (hd w hs))
def AV (P:Program) (N:NN) (ops:Array Oper) (Q:Exit→Act→World→Prop) (S0:World→Prop) (fuel:Nat) (listed:Array Bool) (E:Env) (S:World→Prop):Prop:=KV N (wpAnyH P .any ops Q S0 fuel listed) E S
theorem CV.any {id:Nat} {l:List Oper} (S0:World→Prop) (hm:P.follows .mixedOrders=true) (hd: ∀w,S w→S w.drew) (n:Nat) (hn:l.length=n) (h:AV P N l.toArray Q S0 n (Array.replicate n false) E S):CV P N (.region id l.toArray true) Q E S:=
 fun a w hf hs=>wp_region_held (S:=S0) hm (by subst hn;have:=h a w.drew hf (hd w hs);simpa using this)
theorem AV.take (i:Nat) {d:Nat} {v:Value} {op:Op} {ty:TypeId} {pos:String} {af:Array Edge} {g:Option (Nat×Bool)} {fuel:Nat} {listed:Array Bool} (listed':Array Bool) (hi:ops[i]?=some ⟨some d,op,ty,pos,af,g⟩)
 (hs:Region.noSelect ops=true) (hfr:Region.free .any ops listed i=true) (hr:(Region.ready .any ops listed).contains i=true)
 (hQ: ∀c a w,Q (.panic c) (a.put (some d) v) w→Q (.panic c) a w) (hg:Yes N ops ⟨some d,op,ty,pos,af,g⟩ E) (h:Step P N E S0 ⟨some d,op,ty,pos,af,g⟩ v) (hN:Nat.blt d N.n=true) (hS: ∀w,S w→S0 w)
 (hl:listed.setIfInBounds i true=listed') (k:AV P N ops Q S0 fuel listed' (set E d v) S):AV P N ops Q S0 (fuel+1) listed E S:=fun a w hf hs'=>by
 subst hl
 exact wpAnyH_take hi hs hfr hr hQ (.inl ⟨hg a hf,fun w' hw'=>h a w' hf hw'⟩) (hS w hs') (k _ w (hf.put v hN) hs')
theorem AV.takeSkip (i:Nat) {d j:Nat} {b:Bool} {op:Op} {ty:TypeId} {pos:String} {af:Array Edge} {fuel:Nat} {listed:Array Bool} (listed':Array Bool) (hi:ops[i]?=some ⟨some d,op,ty,pos,af,some (j,b)⟩)
 (hs:Region.noSelect ops=true) (hfr:Region.free .any ops listed i=true) (hr:(Region.ready .any ops listed).contains i=true)
 (hQ: ∀c a w,Q (.panic c) (a.put (some d) undef) w→Q (.panic c) a w) (hg:wantsE ops E j=some (!b)) (hN:Nat.blt d N.n=true) (hS: ∀w,S w→S0 w)
 (hl:listed.setIfInBounds i true=listed') (k:AV P N ops Q S0 fuel listed' (set E d undef) S):AV P N ops Q S0 (fuel+1) listed E S:=fun a w hf hs'=>by
 subst hl
 exact wpAnyH_take hi hs hfr hr hQ (.inr ⟨by rw[wanted_of hf rfl hg];cases b<;>rfl,rfl⟩) (hS w hs') (k _ w (hf.put undef hN) hs')
def AllA (P:Program) (N:NN) (ops:Array Oper) (Q:Exit→Act→World→Prop) (S0:World→Prop) (fuel:Nat) (listed:Array Bool) (E:Env) (S:World→Prop):List Nat→Prop
 |[]=>True
 |i::r=>(∃o,ops[i]?=some o∧OV P N ops Q o E S (fun a' w'=>S0 w'∧wpAnyH P .any ops Q S0 fuel (listed.setIfInBounds i true) a' w'))∧AllA P N ops Q S0 fuel listed E S r
theorem AllA.mem {fuel:Nat} {listed:Array Bool}: ∀ {rs:List Nat},AllA P N ops Q S0 fuel listed E S rs→ ∀i∈rs,∃o,ops[i]?=some o∧OV P N ops Q o E S (fun a' w'=>S0 w'∧wpAnyH P .any ops Q S0 fuel (listed.setIfInBounds i true) a' w')
 |[],_,_,h=>by cases h
 |j::r,⟨h1,h2⟩,i,h=>by
  rcases List.mem_cons.1 h with rfl|h
  ·exact h1
  ·exact h2.mem i h
theorem AV.all {fuel:Nat} {listed:Array Bool} (rs:List Nat) (hr:Region.ready .any ops listed=rs) (hne:rs≠[]) (h:AllA P N ops Q S0 fuel listed E S rs):AV P N ops Q S0 (fuel+1) listed E S:=fun a w hf hs=>by
 refine wpAnyH_all hr hne fun i hi=>?_
 obtain⟨o,ho,hov⟩:=h.mem i hi
 have:=hov a w hf hs
 unfold wpOp
 simp only[ho]
 split
 ·rename_i hw;rw[if_pos hw] at this;exact .inl this
 ·rename_i hw;rw[if_neg hw] at this;exact this
theorem AV.next {fuel:Nat} {listed:Array Bool} {i:Nat} (listed':Array Bool) (hl:listed.setIfInBounds i true=listed') (hS: ∀w,S w→S0 w) (k:AV P N ops Q S0 fuel listed' E S):
 KV N (fun a' w'=>S0 w'∧wpAnyH P .any ops Q S0 fuel (listed.setIfInBounds i true) a' w') E S:=fun a w hf hs=>by
 subst hl
 exact⟨hS w hs,k a w hf hs⟩
theorem AV.done {fuel:Nat} {listed:Array Bool} (hr:Region.ready .any ops listed=[]) (h:KV N (Q .normal) E S):AV P N ops Q S0 fuel listed E S:=fun a w hf hs=>wpAnyH_done hr (h a w hf hs) _
theorem KV.cases {K:Act→World→Prop} (t:Nat) {b:Bool} (hb:get E t=some (.bool b)) (h1:b=true→KV N K (set E t (.bool true)) S) (h2:b=false→KV N K (set E t (.bool false)) S):KV N K E S:=fun a w hf hs=>by
 have key: ∀c,b=c→Fits N a (set E t (.bool c)):=fun c hc=>⟨hf.defers,hf.size,fun s v hv=>by
  by_cases e:s=t
  ·subst e;rw[get_set_same] at hv;rw[hf.slot s _ hb,←Option.some.inj hv,hc]
  ·rw[get_set_ne E _ e] at hv;exact hf.slot s v hv⟩
 cases hc:b with
 |true=>exact h1 hc a w (key true hc) hs
 |false=>exact h2 hc a w (key false hc) hs
theorem KV.sel {I0:Ids} {w0:World} {L R:List Assn} {K:Act→World→Prop} (ks:List Nat) (L':List Assn) (hp:picks ks L=some (L',R)) (k:KV N K E (Hp I0 w0 L')):KV N K E (Hp I0 w0 L):=fun a w hf hs=>k a w hf (hs.perm (picks_perm hp)).sub
theorem KV.have {p:Prop} {K:Act→World→Prop} (hp: ∀w,S w→p) (h:p→KV N K E S):KV N K E S:=fun a w hf hs=>h (hp w hs) a w hf hs
theorem CV.loopI {α:Type} {c:Code} (inv:α→Prop) (m:α→Nat) (G:α→Env) (T:α→World→Prop) (z0:α) (h0:inv z0) (hE:Sub (G z0) E) (hT: ∀w,S w→T z0 w)
 (round: ∀z,inv z→CV P N c (Exit.then (fun a w=> ∃z',(inv z'∧m z'<m z)∧Fits N a (G z')∧T z' w) Q) (G z) (T z)):CV P N (.loop c) Q E S:=
 CV.loop (α:={z:α//inv z}) (fun z=>m z.1) (fun z=>G z.1) (fun z=>T z.1) ⟨z0,h0⟩ hE hT fun z a w hf ht=>wp_mono (round z.1 z.2 a w hf ht) fun e a' w' hq=>by
  cases e<;>first|exact hq|(obtain⟨z',⟨h1,h2⟩,h3⟩:=hq;exact⟨⟨z',h1⟩,h2,h3⟩)
theorem KV.loopI {α:Type} {inv:α→Prop} {m:α→Nat} {G:α→Env} {T:α→World→Prop} {z:α} (z':α) (hi:inv z') (hlt:m z'<m z) (hE:Sub (G z') E) (hT: ∀w,S w→T z' w):
 KV N (fun a w=> ∃z',(inv z'∧m z'<m z)∧Fits N a (G z')∧T z' w) E S:=fun _ w hf hs=>⟨z',⟨hi,hlt⟩,hf.sub hE,hT w hs⟩
theorem KV.heap {K:Act→World→Prop} {S':World→Prop} (hS: ∀w,S w→S' w) (h:KV N K E S'):KV N K E S:=fun a w hf hs=>h a w hf (hS w hs)
theorem Hp.nilOS {I0:Ids} {w0 w:World} {L:List Assn} {α:Type} {K:Enc α} {e:TypeId} (h:Hp I0 w0 L w):Hp I0 w0 (L++[OS e K none 0 []]) w:=by
 obtain⟨I,hs,he,hi⟩:=h
 exact⟨I,Sep.append.2 ⟨I,fun _=>False,fun x=>by simp,fun _ _ h=>h,hs,⟨fun _=>False,fun _=>False,fun x=>by simp,fun _ h=>h.elim,.inl ⟨rfl,rfl,rfl,fun _ h=>h⟩,fun _ h=>h⟩⟩,he,hi⟩
theorem FxP.fn {f:FuncId} {vs:List Value} {v:Value} (h:FxP P f vs v) (w:World):Fx P f vs w [] no (fun u L=>u=v∧L=[]):=fun I hI _=>
 (h w).mono fun _ _ ⟨h1,h2⟩=>by subst h2;exact⟨v,[],h1,⟨rfl,rfl⟩,Hp.start hI⟩
theorem FxP.body {N:Nat} {f:FuncId} {vs:List Value} {v:Value} {fn:Func} {c:Code} (hf:P.funcs[f]?=some fn) (hb:fn.body=some c) (hN:fn.ntmps=N) (hl:Nat.ble vs.length N=true)
 (h: ∀w,CV P ⟨N,[]⟩ c (bodyPost P fn (fun e w'=>e= .returned v∧w'=w)) (params 0 vs) (fun w'=>w'=w)):FxP P f vs v:=by
 intro w
 refine calls_of_wp hf hb (h w _ _ ⟨rfl,?_,fun t v ht=>?_⟩ rfl)
 ·have hl':vs.length≤N:=by simpa using hl
  simp[hN];omega
 ·obtain⟨_,h2⟩:=get_params vs 0 t v ht
  simp only[Nat.sub_zero] at h2
  have hlt:=(List.getElem?_eq_some_iff.1 h2).1
  rw[Array.getElem?_append_left (by simpa using hlt)]
  simpa using h2
theorem KV.retP1 {N:Nat} {fn:Func} {t:Tmp} {v u:Value} {w:World} (hr:fn.results= #[.tmp t]) (hv:get E t=some u) (hu:u=v):
 KV ⟨N,[]⟩ (bodyPost P fn (fun e w'=>e= .returned v∧w'=w) .ret) E (fun w'=>w'=w):=fun a w' hf hs=>
 ⟨hf.defers,u,by rw[results_tmp hr];simp[hf.slot t u hv],by rw[hu],hs⟩
theorem wI64 {x:Int} (h1: -9223372036854775808≤x) (h2:x≤9223372036854775807):IntKind.i64.wrap x=x:=by rw[IntKind.wrap_i64];omega
theorem wU64 {x:Int} (h1:0≤x) (h2:x≤18446744073709551615):IntKind.u64.wrap x=x:=by rw[IntKind.wrap_u64];omega
end
section
variable {α:Type} {K:Enc α} {w:World} {A:Option Addr} {ys:List α}
theorem RS.cell0 (h:RS w K A ys) {m:Nat} {v:Value} (hm:m<ys.length) (hv:(K.f (ys.getD m K.d))[0]?=some v):w.cell? ⟨bk A,of A+m* K.sz,none⟩=some v:=h.cell (j:=0) hm hv
theorem RS.cells (h:RS w K A ys) {m:Nat} (hm:m<ys.length): ∀j v,(K.f (ys.getD m K.d))[j]?=some v→w.cell? ⟨bk A,of A+m* K.sz+j,none⟩=some v:=fun _ _ hv=>h.cell hm hv
end
section
variable {P:Program} {N:NN} {Q:Exit→Act→World→Prop} {E:Env} {S:World→Prop} {ops:Array Oper} {K:Act→World→Prop} {I0:Ids} {w0:World} {L:List Assn}
variable {d:Option Nat} {ty:TypeId} {pos:String} {af:Array Edge} {g:Option (Nat×Bool)} {x y z:Operand} {u v u':Value} {t t2:TypeId}
theorem Step.binR {op:BinOp} (hx:ev E x=some u) (hy:ev E y=some u') (hgd: ∀w,(eqGuard op t x y u u').run P w= .ok () w) (h: ∀w,(binOp op t u u').run P w= .ok v w):Step P N E S ⟨d,.binOp op t x y t2,ty,pos,af,g⟩ v:=fun a w hf _=>by
 simp only[execOp,hf.ev hx,hf.ev hy,Sem.run_bind,hgd,Result.andThen_ok,h,Sem.run_pure]
theorem run_neq_of {p:Prop} [Decidable p] (ha: ∀k m,u≠ .int k m) (hs: ∀s,u≠ .string s) (hf: ∀k m,u≠ .float k m) (hc: ∀k m n,u≠ .complex k m n) (h: ∀w,(Op.equal t u u').run P w= .ok (decide p) w) (w:World):(binOp .neq t u u').run P w= .ok (.bool (decide (¬p))) w:=by
 cases u<;>first|exact absurd rfl (ha _ _)|exact absurd rfl (hs _)|exact absurd rfl (hf _ _)|exact absurd rfl (hc _ _ _)|(simp[binOp,h])
theorem run_eql_of {p:Prop} [Decidable p] (ha: ∀k m,u≠ .int k m) (hs: ∀s,u≠ .string s) (hf: ∀k m,u≠ .float k m) (hc: ∀k m n,u≠ .complex k m n) (h: ∀w,(Op.equal t u u').run P w= .ok (decide p) w) (w:World):(binOp .eql t u u').run P w= .ok (.bool (decide p)) w:=by
 cases u<;>first|exact absurd rfl (ha _ _)|exact absurd rfl (hs _)|exact absurd rfl (hf _ _)|exact absurd rfl (hc _ _ _)|(simp[binOp,h])
theorem equalIn_int (dp:Nat) {k k':IntKind} (h:P.underlying t=some (.int k')) (a b:Int) (w:World):(Op.equalIn (dp+1) t (.int k a) (.int k b)).run P w= .ok (decide (a=b)) w:=by
 simp[Op.equalIn,run_underlying h];rfl
theorem equalIn_bool (dp:Nat) (h:P.underlying t=some .bool) (a b:Bool) (w:World):(Op.equalIn (dp+1) t (.bool a) (.bool b)).run P w= .ok (decide (a=b)) w:=by
 simp[Op.equalIn,run_underlying h];cases a<;>cases b<;>rfl
theorem equalIn_ptr (dp:Nat) {e:TypeId} (h:P.underlying t=some (.pointer e)) (p:Option Addr) (w:World):(Op.equalIn (dp+1) t (.pointer p) (.pointer none)).run P w= .ok (decide (p=none)) w:=by
 cases p<;>simp[Op.equalIn,run_underlying h]
theorem Step.nilSl {e:TypeId} {A:Option Addr} {n c:Nat} (hu:P.underlying t=some (.slice e)) (hx:ev E x=some (.slice A n c)) (hy:ev E y=some (.slice none 0 0)):
 Step P N E S ⟨d,.binOp .eql t x y t2,ty,pos,af,g⟩ (.bool (decide (A=none))):=step_bin hx hy rfl fun w=>by
 rw[Lib.run_eql_slice_nil w t e A n c 0 0 hu];cases A<;>simp
theorem Step.nnilSl {e:TypeId} {A:Option Addr} {n c:Nat} (hu:P.underlying t=some (.slice e)) (hx:ev E x=some (.slice A n c)) (hy:ev E y=some (.slice none 0 0)):
 Step P N E S ⟨d,.binOp .neq t x y t2,ty,pos,af,g⟩ (.bool (decide (¬A=none))):=step_bin hx hy rfl fun w=>by
 simp only[binOp,Op.equal,Op.maxDepth,Sem.run_bind,Lib.run_equalIn_slice_nil w 9999 t e A n c 0 0 hu,Result.andThen_ok,Sem.run_pure];cases A<;>simp
theorem Step.eqlP {p:Option Addr} {e:TypeId} (hu:P.underlying t=some (.pointer e)) (hx:ev E x=some (.pointer p)) (hy:ev E y=some (.pointer none)):Step P N E S ⟨d,.binOp .eql t x y t2,ty,pos,af,g⟩ (.bool (decide (p=none))):=
 step_bin hx hy rfl fun w=>by
  simp only[binOp,Op.equal,Op.maxDepth,Sem.run_bind,equalIn_ptr 9999 hu,Result.andThen_ok,Sem.run_pure]
theorem Step.neqP {p:Option Addr} {e:TypeId} (hu:P.underlying t=some (.pointer e)) (hx:ev E x=some (.pointer p)) (hy:ev E y=some (.pointer none)):Step P N E S ⟨d,.binOp .neq t x y t2,ty,pos,af,g⟩ (.bool (decide (¬p=none))):=
 step_bin hx hy rfl fun w=>by
  simp only[binOp,Op.equal,Op.maxDepth,Sem.run_bind,equalIn_ptr 9999 hu,Result.andThen_ok,Sem.run_pure,decide_not]
theorem Step.neqBool {a b:Bool} (hu:P.underlying t=some .bool) (hx:ev E x=some (.bool a)) (hy:ev E y=some (.bool b)):Step P N E S ⟨d,.binOp .neq t x y t2,ty,pos,af,g⟩ (.bool (decide (¬a=b))):=
 step_bin hx hy rfl fun w=>by
  simp only[binOp,Op.equal,Op.maxDepth,Sem.run_bind,equalIn_bool 9999 hu,Result.andThen_ok,Sem.run_pure,decide_not]
end
theorem RS.nil_of {α:Type} {K:Enc α} {w:World} {ys:List α} (h:RS w K none ys):ys=[]:=by
 rcases h with h|⟨_,_,_,h,_⟩
 ·exact h
 ·cases h
def Big {β:Type} (F:β→Assn) (hs:List β):Assn where
 sat w I:=Sep (hs.map F) I w
 lt h x hx:=h.lt x hx
 keep h hk:=h.keep hk
section
variable {I0:Ids} {w0 w:World} {L:List Assn} {β:Type} {F:β→Assn} {hs:List β} {k m:Nat}
theorem Hp.splice {A:Assn} {M:List Assn} (h:Hp I0 w0 L w) (hk:L[k]?=some A) (hA: ∀i,A.sat w i→Sep M i w):Hp I0 w0 (M++L.eraseIdx k) w:=by
 obtain⟨i,j,h1,h2,hd,he,hi,hj⟩:=h.at hk
 exact⟨fun x=>i x∨j x,Sep.append.2 ⟨i,j,fun _=>Iff.rfl,hd,hA i h1,h2⟩,he,fun x hx=>hx.elim (hi x) (hj x)⟩
theorem Hp.bundle {A:Assn} {M R:List Assn} (h:Hp I0 w0 (M++R) w) (hA: ∀i,Sep M i w→A.sat w i):Hp I0 w0 (A::R) w:=by
 obtain⟨I,hs,he,hi⟩:=h
 obtain⟨i,j,hI,hd,hM,hR⟩:=Sep.append.1 hs
 exact⟨I,⟨i,j,hI,hd,hA i hM,hR⟩,he,hi⟩
theorem Hp.focus (h:Hp I0 w0 L w) (d:β) (hk:L[k]?=some (Big F hs)) (hm:m<hs.length):Hp I0 w0 (L.set k (F (hs.getD m d))++[Big F (hs.eraseIdx m)]) w:=by
 have h1:=h.splice (M:=[F (hs.getD m d),Big F (hs.eraseIdx m)]) hk fun i hi=>by
  have hp:(hs.map F).Perm ((F (hs.getD m d)::(hs.eraseIdx m).map F)):=by
   have:=(perm_erase (getD_get hm d)).map F
   simpa using this
  obtain⟨a,b,h1,h2,h3,h4⟩:=Sep.perm hp hi
  exact⟨a,b,h1,h2,h3,b,fun _=>False,fun x=>by simp,fun _ _ h=>h,h4,fun _ h=>h⟩
 refine h1.perm ?_
 have hp:=perm_set (F (hs.getD m d)) hk
 simp only[List.cons_append,List.nil_append]
 exact((List.Perm.swap _ _ _).trans (List.Perm.cons _ hp)).trans (List.perm_append_singleton _ _).symm
theorem Hp.unfocus {h':β} (h:Hp I0 w0 (L++[Big F (hs.eraseIdx m)]) w) (hk:L[k]?=some (F h')) (hm:m<hs.length):Hp I0 w0 (L.set k (Big F (hs.set m h'))) w:=by
 have hp1:(L++[Big F (hs.eraseIdx m)]).Perm ([F h',Big F (hs.eraseIdx m)]++L.eraseIdx k):=by
  refine(List.perm_append_singleton _ _).trans ?_
  exact(List.Perm.cons _ (perm_erase hk)).trans (List.Perm.swap _ _ _)
 have h1:=(h.perm hp1).bundle (A:=Big F (hs.set m h')) fun i hi=>by
  obtain⟨a,b,e1,e2,e3,c,d,e4,e5,e6,e7⟩:=hi
  have hp:(F h'::(hs.eraseIdx m).map F).Perm ((hs.set m h').map F):=by
   have hd:hs[m]?=some (hs[m]'hm):=List.getElem?_eq_getElem hm
   have:=(perm_set h' hd).map F
   simpa using this
  refine Sep.perm hp ⟨a,b,e1,e2,e3,?_⟩
  exact Sep.ext e6 fun x=>by rw[e4 x];exact⟨.inl,fun h=>h.elim id fun h=>absurd h (e7 x)⟩
 exact h1.perm (perm_set _ hk)
theorem Hp.newBig (h:Hp I0 w0 L w) (n:Nat) (h0:β) (he: ∀w,(F h0).sat w (fun _=>False)):Hp I0 w0 (L++[Big F (List.replicate n h0)]) w:=by
 obtain⟨I,hs,hx,hi⟩:=h
 have hb: ∀n,Sep ((List.replicate n h0).map F) (fun _=>False) w:=by
  intro n
  induction n with
  |zero=>exact fun _ h=>h
  |succ n ih=>exact⟨fun _=>False,fun _=>False,fun x=>by simp,fun _ h=>h.elim,he w,ih⟩
 exact⟨I,Sep.append.2 ⟨I,fun _=>False,fun x=>by simp,fun _ _ h=>h,hs,⟨fun _=>False,fun _=>False,fun x=>by simp,fun _ h=>h.elim,hb n,fun _ h=>h⟩⟩,hx,hi⟩
theorem OS.emp {α:Type} {e:TypeId} {K:Enc α} (w:World):(OS e K none 0 []).sat w (fun _=>False):= .inl ⟨rfl,rfl,rfl,fun _ h=>h⟩
theorem Hp.bigOS {G:β→World→Prop} (h:Hp I0 w0 L w) (d:β) (hk:L[k]?=some (Big F hs)) (hm:m<hs.length) (hG: ∀i b,(F b).sat w i→G b w):G (hs.getD m d) w:=by
 have h1:=h.focus d hk hm
 have h2:(L.set k (F (hs.getD m d))++[Big F (hs.eraseIdx m)])[k]?=some (F (hs.getD m d)):=by
  have hlt:=(List.getElem?_eq_some_iff.1 hk).1
  rw[List.getElem?_append_left (by simpa using hlt)]
  simp[hlt]
 obtain⟨i,j,hA,_⟩:=h1.at h2
 exact hG i _ hA
theorem Hp.sel {R L':List Assn} (h:Hp I0 w0 L w) (ks:List Nat) (hp:picks ks L=some (L',R)):Hp I0 w0 L' w:=(h.perm (picks_perm hp)).sub
section
variable {P:Program} {N:NN} {Q:Exit→Act→World→Prop} {E:Env} {S:World→Prop} {ops:Array Oper} {K:Act→World→Prop}
theorem OV.heap {S':World→Prop} {o:Oper} (hS: ∀w,S w→S' w) (h:OV P N ops Q o E S' K):OV P N ops Q o E S K:=fun a w hf hs=>h a w hf (hS w hs)
theorem CV.loop2 {α β:Type} {c:Code} (inv:α→β→Prop) (m:α→β→Nat) (G:α→β→Env) (T:α→β→World→Prop) (x0:α) (y0:β) (h0:inv x0 y0) (hE:Sub (G x0 y0) E) (hT: ∀w,S w→T x0 y0 w)
 (round: ∀x y,inv x y→CV P N c (Exit.then (fun a w=> ∃x' y',(inv x' y'∧m x' y'<m x y)∧Fits N a (G x' y')∧T x' y' w) Q) (G x y) (T x y)):CV P N (.loop c) Q E S:=
 CV.loopI (α:=α×β) (fun z=>inv z.1 z.2) (fun z=>m z.1 z.2) (fun z=>G z.1 z.2) (fun z=>T z.1 z.2) (x0,y0) h0 hE hT fun z hz a w hf ht=>wp_mono (round z.1 z.2 hz a w hf ht) fun e a' w' hq=>by
  cases e<;>first|exact hq|(obtain⟨x',y',h⟩:=hq;exact⟨(x',y'),h⟩)
theorem KV.loop2 {α β:Type} {inv:α→β→Prop} {m:α→β→Nat} {G:α→β→Env} {T:α→β→World→Prop} {x:α} {y:β} (x':α) (y':β) (hi:inv x' y') (hlt:m x' y'<m x y) (hE:Sub (G x' y') E) (hT: ∀w,S w→T x' y' w):
 KV N (fun a w=> ∃x' y',(inv x' y'∧m x' y'<m x y)∧Fits N a (G x' y')∧T x' y' w) E S:=fun _ w hf hs=>⟨x',y',⟨hi,hlt⟩,hf.sub hE,hT w hs⟩
theorem CV.loop3 {α β γ:Type} {c:Code} (inv:α→β→γ→Prop) (m:α→β→γ→Nat) (G:α→β→γ→Env) (T:α→β→γ→World→Prop) (x0:α) (y0:β) (z0:γ) (h0:inv x0 y0 z0) (hE:Sub (G x0 y0 z0) E) (hT: ∀w,S w→T x0 y0 z0 w)
 (round: ∀x y z,inv x y z→CV P N c (Exit.then (fun a w=> ∃x' y' z',(inv x' y' z'∧m x' y' z'<m x y z)∧Fits N a (G x' y' z')∧T x' y' z' w) Q) (G x y z) (T x y z)):CV P N (.loop c) Q E S:=
 CV.loopI (α:=α×β×γ) (fun z=>inv z.1 z.2.1 z.2.2) (fun z=>m z.1 z.2.1 z.2.2) (fun z=>G z.1 z.2.1 z.2.2) (fun z=>T z.1 z.2.1 z.2.2) (x0,y0,z0) h0 hE hT fun z hz a w hf ht=>wp_mono (round z.1 z.2.1 z.2.2 hz a w hf ht) fun e a' w' hq=>by
  cases e<;>first|exact hq|(obtain⟨x',y',z',h⟩:=hq;exact⟨(x',y',z'),h⟩)
theorem KV.loop3 {α β γ:Type} {inv:α→β→γ→Prop} {m:α→β→γ→Nat} {G:α→β→γ→Env} {T:α→β→γ→World→Prop} {x:α} {y:β} {z:γ} (x':α) (y':β) (z':γ) (hi:inv x' y' z') (hlt:m x' y' z'<m x y z) (hE:Sub (G x' y' z') E) (hT: ∀w,S w→T x' y' z' w):
 KV N (fun a w=> ∃x' y' z',(inv x' y' z'∧m x' y' z'<m x y z)∧Fits N a (G x' y' z')∧T x' y' z' w) E S:=fun _ w hf hs=>⟨x',y',z',⟨hi,hlt⟩,hf.sub hE,hT w hs⟩
end
end
def OM {κ ν:Type} (b:Nat) (kf:κ→Value) (vf:ν→Value) (m:List (κ×ν)):Assn where
 sat w I:=(∀x,I x↔x=b)∧ ∃es clock,w.heap[b]?=some (.map es clock)∧es.toList.map (fun e=>(e.key,e.val))=m.map (fun p=>(kf p.1,vf p.2))
 lt h x hx:=by obtain⟨h1,es,c,h2,_⟩:=h;rw[(h1 x).1 hx];exact lt_of_some h2
 keep h hk:=by obtain⟨h1,es,c,h2,h3⟩:=h;exact⟨h1,es,c,by rw[hk _ ((h1 _).2 rfl)];exact h2,h3⟩
section
variable {P:Program} {κ ν:Type} {kt:TypeId} {N:NN} {Q:Exit→Act→World→Prop} {E:Env} {ops:Array Oper} {K:Act→World→Prop} {I0:Ids} {w0:World} {L:List Assn}
variable {d:Nat} {ty:TypeId} {pos:String} {af:Array Edge} {g:Option (Nat×Bool)} {x:Operand} {t:TypeId}
theorem OV.makeMap (kf:κ→Value) (vf:ν→Value) {vt:TypeId} (hu:P.underlying t=some (.map kt vt)) {k:IntKind} {n:Int} (hx:ev E x=some (.int k n)) (hg:Yes N ops ⟨some d,.makeMap t (some x),ty,pos,af,g⟩ E) (hN:Nat.blt d N.n=true)
 (kk: ∀nb,KV N K (set E d (.map (some nb))) (Hp I0 w0 (L++[OM nb kf vf []]))):OV P N ops Q ⟨some d,.makeMap t (some x),ty,pos,af,g⟩ E (Hp I0 w0 L) K:=by
 refine OV.new (val:=fun nb=> .map (some nb)) (ob:= .map #[] 0) hg (fun a w hf _=>?_) hN fun nb a w hf hs=>kk nb a w hf (hs.last fun J hJ=>?_)
 ·have hr:(Instr.makeMap t (some (.int k n))).run P w= .ok (.map (some w.heap.size)) (w.alloc (.map #[] 0)):=by simp[Instr.makeMap,run_underlying hu];rfl
  simp only[execOp,Option.map_some,hf.ev hx,Sem.run_bind,hr,Result.andThen_ok,Sem.run_pure]
 ·exact⟨hJ.1,#[],0,hJ.2,rfl⟩
theorem OV.makeMap0 (kf:κ→Value) (vf:ν→Value) (hg:Yes N ops ⟨some d,.makeMap t none,ty,pos,af,g⟩ E) (hN:Nat.blt d N.n=true)
 (kk: ∀nb,KV N K (set E d (.map (some nb))) (Hp I0 w0 (L++[OM nb kf vf []]))):OV P N ops Q ⟨some d,.makeMap t none,ty,pos,af,g⟩ E (Hp I0 w0 L) K:=by
 refine OV.new (val:=fun nb=> .map (some nb)) (ob:= .map #[] 0) hg (fun a w hf _=>?_) hN fun nb a w hf hs=>kk nb a w hf (hs.last fun J hJ=>?_)
 ·have hr:(Instr.makeMap t none).run P w= .ok (.map (some w.heap.size)) (w.alloc (.map #[] 0)):=by rfl
  simp only[execOp,Option.map_none,Sem.run_bind,hr,Result.andThen_ok,Sem.run_pure]
 ·exact⟨hJ.1,#[],0,hJ.2,rfl⟩
end
def mget {κ ν:Type} [DecidableEq κ]:List (κ×ν)→κ→Option ν
 |[],_=>none
 |p::r,x=>if x=p.1 then some p.2 else mget r x
structure KeyT (P:Program) {κ:Type} [DecidableEq κ] (kt:TypeId) (kf:κ→Value):Prop where
 check: ∀em x w,(Instr.checkKey em 10000 kt (kf x)).run P w= .ok () w
 find: ∀(x:κ) (es:List MapEntry) (m:List κ),es.map (·.key)=m.map kf→ ∀w,(Instr.findKey kt (kf x) es).run P w= .ok ((m.findIdx? (fun y=>decide (x=y))).bind fun i=>(es[i]?).map fun e=>(i,e.val)) w
section
variable {P:Program} {κ ν:Type} [DecidableEq κ] {kt:TypeId} {kf:κ→Value} {vf:ν→Value} {m:List (κ×ν)} {b:Nat}
theorem findAsking_of {x:κ} (heq: ∀x y w,(Op.equal kt (kf x) (kf y)).run P w= .ok (decide (x=y)) w): ∀(es:List MapEntry) (m:List κ) (i:Nat),es.map (·.key)=m.map kf→ ∀w,
 (Instr.findAsking kt (kf x) es i).run P w= .ok ((m.findIdx? (fun y=>decide (x=y))).bind fun j=>(es[j]?).map fun e=>(i+j,e.val)) w
 |[],[],i,_,w=>by simp[Instr.findAsking]
 |e::es,y::m,i,h,w=>by
  simp only[List.map_cons,List.cons.injEq] at h
  simp only[Instr.findAsking,Sem.run_bind,h.1,heq,Result.andThen_ok,List.findIdx?_cons]
  by_cases hxy:x=y
  ·simp[hxy]
  ·simp only[hxy,decide_false,Bool.false_eq_true,if_false]
   rw[findAsking_of heq es m (i+1) h.2 w]
   cases hf:m.findIdx? (fun y=>decide (x=y)) with
   |none=>simp
   |some j=>simp[Nat.add_assoc,Nat.add_comm 1 j]
 |[],_::_,_,h,_=>by simp at h
 |_::_,[],_,h,_=>by simp at h
theorem KeyT.struct {fs:Array Field} (hu:P.underlying kt=some (.struct fs)) (hc: ∀em x w,(Instr.checkKey em 10000 kt (kf x)).run P w= .ok () w) (heq: ∀x y w,(Op.equal kt (kf x) (kf y)).run P w= .ok (decide (x=y)) w):KeyT P kt kf where
 check:=hc
 find x es m h w:=by
  simp only[Instr.findKey,Sem.run_bind,run_underlying hu,Result.andThen_ok]
  cases es with
  |nil=>
   cases m with
   |nil=>simp[Instr.findNow]
   |cons y m=>simp at h
  |cons e es=>
   have hs:Instr.sameNow (.struct fs) (kf x) e.key=none:=by simp[Instr.sameNow]
   simp only[Instr.findNow,hs]
   rw[findAsking_of heq (e::es) m 0 h w]
   simp
theorem mget_find (x:κ): ∀(m:List (κ×ν)) (es:List MapEntry),es.map (fun e=>(e.key,e.val))=m.map (fun p=>(kf p.1,vf p.2))→
 (((m.map (·.1)).findIdx? (fun y=>decide (x=y))).bind fun i=>(es[i]?).map fun e=>e.val)=(mget m x).map vf
 |[],[],_=>by simp[mget]
 |p::m,e::es,h=>by
  simp only[List.map_cons,List.cons.injEq,Prod.mk.injEq] at h
  simp only[List.map_cons,List.findIdx?_cons,mget]
  by_cases hx:x=p.1
  ·simp[hx,h.1.2]
  ·simp only[hx,decide_false,Bool.false_eq_true,if_false]
   rw[←mget_find x m es h.2]
   cases hf:(m.map (·.1)).findIdx? (fun y=>decide (x=y)) with
   |none=>simp
   |some j=>simp
 |[],_::_,h=>by simp at h
 |_::_,[],h=>by simp at h
variable {N:NN} {Q:Exit→Act→World→Prop} {E:Env} {ops:Array Oper} {K:Act→World→Prop} {I0:Ids} {w0:World} {L:List Assn}
variable {d:Nat} {ty:TypeId} {pos:String} {af:Array Edge} {g:Option (Nat×Bool)} {x y z:Operand} {u v u':Value} {t:TypeId}
theorem lookup_run {w:World} {I:Ids} {vt:TypeId} {zv:ν} {sz by_:Nat} (hu:P.underlying t=some (.map kt vt)) (hk:KeyT P kt kf) (hz:TI P vt (vf zv) sz by_) (h:(OM b kf vf m).sat w I) (q:κ) (ok:Bool):
 (Instr.lookup t (.map (some b)) (kf q) ok).run P w= .ok (if ok then .tuple #[vf ((mget m q).getD zv),.bool (mget m q).isSome] else vf ((mget m q).getD zv)) w:=by
 obtain⟨_,es,clock,hb,hm⟩:=h
 have hkeys:es.toList.map (·.key)=(m.map (·.1)).map kf:=by
  have:=congrArg (List.map (·.1)) hm
  simpa[List.map_map,Function.comp_def] using this
 have hg:(getObj b).run P w= .ok (.map es clock) w:=by simp[getObj,Sem.run,hb]
 have hf:=hk.find q es.toList (m.map (·.1)) hkeys w
 have hval:=mget_find (kf:=kf) (vf:=vf) q m es.toList hm
 simp only[Instr.lookup,Sem.run_bind,run_underlying hu,Result.andThen_ok,hg,Sem.run_pure,hk.check,hf]
 cases hi:(m.map (·.1)).findIdx? (fun y=>decide (q=y)) with
 |none=>
  rw[hi] at hval
  have:mget m q=none:=by cases hg':mget m q with|none=>rfl|some _=>rw[hg'] at hval;simp at hval
  simp only[Option.bind_none,Sem.run_bind,hz.zeroValue,Result.andThen_ok,Sem.run_pure,this,Option.getD_none,Option.isSome_none]
 |some i=>
  rw[hi] at hval
  simp only[Option.bind_some] at hval ⊢
  cases he:es.toList[i]? with
  |none=>
   exfalso
   have h1:=(List.findIdx?_eq_some_iff_getElem.1 hi).1
   have h2:es.toList.length=m.length:=by have:=congrArg List.length hm;simpa using this
   rw[List.getElem?_eq_none_iff] at he
   simp at h1;omega
  |some en=>
   rw[he] at hval
   simp only[Option.map_some] at hval ⊢
   cases hg':mget m q with
   |none=>rw[hg'] at hval;simp at hval
   |some vv=>
    rw[hg'] at hval
    simp only[Option.map_some,Option.some.injEq] at hval
    simp only[Sem.run_bind,Sem.run_pure,Result.andThen_ok,hval,Option.getD_some,Option.isSome_some]
theorem Step.lookup (k:Nat) {vt:TypeId} {zv:ν} {sz by_:Nat} {dd:Option Nat} (q:κ) (hu:P.underlying t=some (.map kt vt)) (hkt:KeyT P kt kf) (hz:TI P vt (vf zv) sz by_) (hk:L[k]?=some (OM b kf vf m)) (hx:ev E x=some (.map (some b))) (hy:ev E y=some (kf q)):
 Step P N E (Hp I0 w0 L) ⟨dd,.lookup t x y false,ty,pos,af,g⟩ (vf ((mget m q).getD zv)):=fun a w hf hs=>by
 obtain⟨i,j,hA,_⟩:=hs.at hk
 have:=lookup_run hu hkt hz hA q false
 simp only[execOp,hf.ev hx,hf.ev hy,Sem.run_bind,this,Result.andThen_ok,Sem.run_pure,Bool.false_eq_true,if_false]
theorem Step.lookupOk (k:Nat) {vt:TypeId} {zv:ν} {sz by_:Nat} {dd:Option Nat} (q:κ) (hu:P.underlying t=some (.map kt vt)) (hkt:KeyT P kt kf) (hz:TI P vt (vf zv) sz by_) (hk:L[k]?=some (OM b kf vf m)) (hx:ev E x=some (.map (some b))) (hy:ev E y=some (kf q)):
 Step P N E (Hp I0 w0 L) ⟨dd,.lookup t x y true,ty,pos,af,g⟩ (.tuple #[vf ((mget m q).getD zv),.bool (mget m q).isSome]):=fun a w hf hs=>by
 obtain⟨i,j,hA,_⟩:=hs.at hk
 have:=lookup_run hu hkt hz hA q true
 simp only[execOp,hf.ev hx,hf.ev hy,Sem.run_bind,this,Result.andThen_ok,Sem.run_pure,if_true]
theorem OV.mapInsert (k:Nat) {vt:TypeId} (q:κ) (r:ν) (hu:P.underlying t=some (.map kt vt)) (hkt:KeyT P kt kf) (hk:L[k]?=some (OM b kf vf m)) (hx:ev E x=some (.map (some b))) (hy:ev E y=some (kf q)) (hz:ev E z=some (vf r)) (hn:mget m q=none)
 (hg:Yes N ops ⟨none,.mapUpdate t x y z,ty,pos,af,g⟩ E) (kk:KV N K E (Hp I0 w0 (L.set k (OM b kf vf (m++[(q,r)]))))):OV P N ops Q ⟨none,.mapUpdate t x y z,ty,pos,af,g⟩ E (Hp I0 w0 L) K:=fun a w hf hs=>by
 rw[if_pos (hg a hf)]
 obtain⟨i,j,hA,_⟩:=hs.at hk
 obtain⟨_,es,clock,hb,hm⟩:=hA
 have hkeys:es.toList.map (·.key)=(m.map (·.1)).map kf:=by
  have:=congrArg (List.map (·.1)) hm
  simpa[List.map_map,Function.comp_def] using this
 have hgo:(getObj b).run P w= .ok (.map es clock) w:=by simp[getObj,Sem.run,hb]
 have hf':=hkt.find q es.toList (m.map (·.1)) hkeys w
 have hval:=mget_find (kf:=kf) (vf:=vf) q m es.toList hm
 rw[hn] at hval
 have hnone:((m.map (·.1)).findIdx? (fun y=>decide (q=y))).bind (fun i=>(es.toList[i]?).map fun e=>(i,e.val))=none:=by
  cases hi:(m.map (·.1)).findIdx? (fun y=>decide (q=y)) with
  |none=>rfl
  |some i=>
   rw[hi] at hval
   simp only[Option.bind_some,Option.map_none,Option.map_eq_none_iff] at hval ⊢
   exact hval
 have hlt:b<w.heap.size:=lt_of_some hb
 have hset: ∀o,(setObj b o).run P w= .ok () {w with heap:=w.heap.setIfInBounds b o}:=fun o=>by simp[setObj,Sem.run,hb]
 have hrun:(Instr.mapUpdate t (.map (some b)) (kf q) (vf r)).run P w= .ok () {w with heap:=w.heap.setIfInBounds b (.map (es.push {key:=kf q,val:=vf r,born:=clock}) (clock+1))}:=by
  simp only[Instr.mapUpdate,Sem.run_bind,run_underlying hu,Result.andThen_ok,hgo,hkt.check,hf',hnone,hset]
 unfold Oper.wp
 simp only[execOp,hf.ev hx,hf.ev hy,hf.ev hz,Sem.run_bind,hrun,Result.andThen_ok,Sem.run_pure]
 refine kk _ _ (hf.put_none _) (hs.update hk fun i2 hA2=>⟨i2,⟨hA2.1,es.push {key:=kf q,val:=vf r,born:=clock},clock+1,by simp[hlt],by simp[hm]⟩,fun _ h=> .inl h,?_⟩)
 exact⟨rfl,rfl,rfl,by simp,fun x hxl hni=>by
  have hne:x≠b:=fun e=>hni ((hA2.1 x).2 e)
  simp[Array.getElem?_setIfInBounds_ne (fun e=>hne e.symm)]⟩
end
end Go.Sv
namespace Go.Sv
open Go.ChangeShapes Go.WideShapes Go.Deep Go.RowKit
section
variable {H:Type} {enc:TypeId×Value→H} {P:Program} {w:World} {base:Nat} {spare:Nat→Bool} {held:Bool}
end
theorem RS.ofCells {α:Type} (K:Enc α) (ok:α→Prop) {w:World} {a:Addr} {len:Nat} (h: ∀i,i<len→ ∃y:α,ok y∧ ∀j v,(K.f y)[j]?=some v→w.cell? (a.add (i* K.sz+j))=some v):
 ∃ys:List α,ys.length=len∧RS w K (some a) ys∧ ∀i,i<len→ok (ys.getD i K.d):=by
 by_cases hl:len=0
 ·subst hl;exact⟨[],rfl,.inl rfl,fun i hi=>by omega⟩
 have hc: ∀i,∃y:α,i<len→ok y∧ ∀j v,(K.f y)[j]?=some v→w.cell? (a.add (i* K.sz+j))=some v:=fun i=>by
  by_cases hi:i<len
  ·obtain⟨y,hy⟩:=h i hi;exact⟨y,fun _=>hy⟩
  ·exact⟨K.d,fun x=>absurd x hi⟩
 let g:Nat→α:=fun i=>Classical.choose (hc i)
 have hg: ∀i,i<len→ok (g i)∧ ∀j v,(K.f (g i))[j]?=some v→w.cell? (a.add (i* K.sz+j))=some v:=fun i hi=>Classical.choose_spec (hc i) hi
 have hget: ∀i,i<len→((List.range len).map g).getD i K.d=g i:=fun i hi=>by simp[List.getD,hi]
 refine⟨(List.range len).map g,by simp,?_,fun i hi=>by rw[hget i hi];exact(hg i hi).1⟩
 have h00:=(hg 0 (by omega)).2 0 ((K.f (g 0))[0]'(by rw[K.len];exact K.pos)) (List.getElem?_eq_getElem _)
 have hspot:a.spot=none:=by
  have:=World.cell?_spot h00
  simpa[Addr.add] using this
 obtain⟨b,o,s⟩:=a
 simp only[] at hspot
 subst hspot
 have hadd: ∀n,(⟨b,o,none⟩:Addr).add n=⟨b,o+n,none⟩:=fun n=>by
  by_cases hn:n=0
  ·subst hn;rfl
  ·simp[Addr.add,hn]
 have hblk: ∃cur t fz,w.heap[b]?=some (.cells cur t fz):=by
  rw[hadd] at h00
  unfold World.cell? at h00
  cases hb:w.heap[b]? with
  |none=>simp[hb] at h00
  |some ob=>cases ob<;>simp[hb] at h00;exact⟨_,_,_,rfl⟩
 obtain⟨cur,t,fz,hb⟩:=hblk
 refine .inr ⟨cur,t,fz,rfl,hb,fun j v hv=>?_⟩
 have hjl:=(List.getElem?_eq_some_iff.1 hv).1
 rw[flat_length] at hjl
 simp only[List.length_map,List.length_range] at hjl
 have hp:=K.pos
 have hm:j/K.sz<len:=by rw[Nat.div_lt_iff_lt_mul hp];exact hjl
 have hmod:j%K.sz<(K.f (g (j/K.sz))).length:=by rw[K.len];exact Nat.mod_lt _ hp
 have hf:=flat_get K (ys:=(List.range len).map g) (m:=j/K.sz) (j:=j%K.sz) (y:=g (j/K.sz)) (v:=(K.f (g (j/K.sz)))[j%K.sz]) (by simp[hm]) (List.getElem?_eq_getElem hmod)
 have hdm:j/K.sz* K.sz+j%K.sz=j:=by rw[Nat.mul_comm];exact Nat.div_add_mod j K.sz
 rw[hdm,hv] at hf
 have hcell:=(hg _ hm).2 (j%K.sz) v (by rw[List.getElem?_eq_getElem hmod];exact hf.symm)
 rw[hdm,hadd,cell_of hb] at hcell
 exact hcell
end Go.Sv
namespace Go.Sv
section
variable {P:Program} {N:NN} {Q:Exit→Act→World→Prop} {E:Env} {S S0:World→Prop} {ops:Array Oper} {rest:List Oper} {T:Act→World→Prop} {K:Act→World→Prop} {d:Nat} {op:Op} {ty:TypeId} {pos:String} {af:Array Edge}
def noneE (ops:Array Oper) (E:Env) (j:Nat):Bool:=
 match (ops[j]?).bind (·.dst) with
 |some d=>match get E d with
  |some (.tuple _)=>true
  |_=>false
 |none=>false
theorem wanted_none_of {a:Act} (h:Fits N a E) {o:Oper} {j:Nat} {want:Bool} (hg:o.guard=some (j,want)) (hw:noneE ops E j=true):Region.wanted o (yielded ops a.tmps)=false:=by
 unfold noneE at hw
 simp only[Region.wanted,hg]
 cases hd:(ops[j]?).bind (·.dst) with
 |none=>rw[hd] at hw;simp at hw
 |some d=>
  rw[hd] at hw
  simp only[] at hw
  cases hv:get E d with
  |none=>rw[hv] at hw;simp at hw
  |some v=>
   rw[hv] at hw
   cases v<;>simp at hw
   have:yielded ops a.tmps j=none:=by
    simp only[yielded,hd,Option.bind_some,h.slot d _ hv]
   rw[this]
   cases want<;>rfl
theorem OV.skipU {j:Nat} {b:Bool} (hg:noneE ops E j=true) (hN:Nat.blt d N.n=true)
 (k:KV N K (set E d undef) S):OV P N ops Q ⟨some d,op,ty,pos,af,some (j,b)⟩ E S K:=fun a w hf hs=>by
 rw[if_neg (by rw[wanted_none_of hf rfl hg];decide)]
 exact k _ w (hf.put undef hN) hs
theorem SV.skipU {j:Nat} {b:Bool} (hg:noneE ops E j=true) (hN:Nat.blt d N.n=true) (k:SV P N ops T rest (set E d undef) S):SV P N ops T (⟨some d,op,ty,pos,af,some (j,b)⟩::rest) E S:=fun a w hf hs=>by
 unfold wpStill
 rw[if_neg (by rw[wanted_none_of hf rfl hg];decide)]
 exact k _ w (hf.put undef hN) hs
theorem AV.takeSkipU (i:Nat) {j:Nat} {b:Bool} {fuel:Nat} {listed:Array Bool} (listed':Array Bool) (hi:ops[i]?=some ⟨some d,op,ty,pos,af,some (j,b)⟩)
 (hs:Region.noSelect ops=true) (hfr:Region.free .any ops listed i=true) (hr:(Region.ready .any ops listed).contains i=true)
 (hQ: ∀c a w,Q (.panic c) (a.put (some d) undef) w→Q (.panic c) a w) (hg:noneE ops E j=true) (hN:Nat.blt d N.n=true) (hS: ∀w,S w→S0 w)
 (hl:listed.setIfInBounds i true=listed') (k:AV P N ops Q S0 fuel listed' (set E d undef) S):AV P N ops Q S0 (fuel+1) listed E S:=fun a w hf hs'=>by
 subst hl
 exact wpAnyH_take hi hs hfr hr hQ (.inr ⟨wanted_none_of hf rfl hg,rfl⟩) (hS w hs') (k _ w (hf.put undef hN) hs')
end
section
variable {P:Program} {N:NN} {Q:Exit→Act→World→Prop} {E:Env} {S:World→Prop} {ops:Array Oper}
variable {dd:Option Nat} {ty:TypeId} {pos:String} {af:Array Edge} {g:Option (Nat×Bool)} {x y z:Operand} {KK:Act→World→Prop}
variable {I0:Ids} {w0:World} {L:List Assn} {α:Type} {K:Enc α} {A B:Option Addr} {ys zs:List α} {e t:TypeId} {c:Nat}
theorem Step.capSl {n:Nat} (hu:P.underlying t=some (.slice e)) (hx:ev E x=some (.slice A n c)):
 Step P N E S ⟨dd,.call ⟨.builtin .cap,#[x],#[t]⟩,ty,pos,af,g⟩ (.int .i64 c):=fun a w hf _=>by
 simp[execOp,resolve,invoke,builtin,hf.ev hx,Builtin.cap_,run_underlying hu,goInt]
theorem Step.makeFunc {f:FuncId} {caps:List Operand} {vs:List Value} (hx:evs E caps=some vs):
 Step P N E S ⟨dd,.makeFunc (.func f) #[] caps.toArray,ty,pos,af,g⟩ (.func (.func f) #[] vs.toArray):=fun a w hf _=>by
 have hm:caps.toArray.map a.eval=vs.toArray:=by rw[←hf.evs hx];simp
 simp[execOp,Instr.makeFunc,hm]
def shA (A:Option Addr) (l sz c:Nat):Option Addr:=if c=l then A else A.map (·.add (l* sz))
theorem Step.sliceLo {ze:Value} {sz by_ n:Nat} {k:IntKind} {i:Int} (hu:P.underlying t=some (.slice e)) (hi:TI P e ze sz by_) (hx:ev E x=some (.slice A n c)) (hy:ev E y=some (.int k i)) (l:Nat) (hl:i=(l:Int)) (hle:l≤n):
 Step P N E S ⟨dd,.slice t x (some y) none none,ty,pos,af,g⟩ (.slice (shA A l sz c) (n-l) (c-l)):=fun a w hf _=>by
 subst hl
 simp[execOp,Instr.sliceAt,Instr.slice,hf.ev hx,hf.ev hy,run_underlying hu,Instr.sliceBounds,Instr.sliceBound,asIntOf,hle,hi.sizeOf,shA]
theorem Step.sliceHi {ze:Value} {sz by_ n:Nat} {k:IntKind} {i:Int} (hu:P.underlying t=some (.slice e)) (hi:TI P e ze sz by_) (hx:ev E x=some (.slice A n c)) (hy:ev E y=some (.int k i)) (l:Nat) (hl:i=(l:Int)) (hle:l≤c):
 Step P N E S ⟨dd,.slice t x none (some y) none,ty,pos,af,g⟩ (.slice A l c):=fun a w hf _=>by
 subst hl
 have e1:(if c=0 then A else A.map fun b=>b.add 0)=A:=by
  split
  ·rfl
  ·cases A<;>simp[Addr.add]
 simp[execOp,Instr.sliceAt,Instr.slice,hf.ev hx,hf.ev hy,run_underlying hu,Instr.sliceBounds,Instr.sliceBound,asIntOf,hle,hi.sizeOf,e1]
theorem RS.drop {w:World} (h:RS w K A ys) (l:Nat) (hc:ys.length≤c):RS w K (shA A l K.sz c) (ys.drop l):=by
 by_cases hl:l<ys.length
 ·have hne: ¬c=l:=by omega
  rcases h with rfl|⟨cur,t,fz,hA,hb,hcu⟩
  ·simp at hl
  ·have e1:shA A l K.sz c=some ⟨bk A,of A+l* K.sz,none⟩:=by
    rw[shA,if_neg hne,hA]
    by_cases h0:l* K.sz=0
    ·simp[Addr.add,h0,bk,of]
    ·simp[Addr.add,h0,bk,of]
   refine .inr ⟨cur,t,fz,by rw[e1];rfl,by rw[e1];exact hb,fun j v hv=>?_⟩
   rw[e1]
   show cur[of A+l* K.sz+j]?=some v
   rw[Nat.add_assoc]
   refine hcu _ _ ?_
   have e2:flat K ys=flat K (ys.take l)++flat K (ys.drop l):=by rw[←flat_append,List.take_append_drop]
   have e3:(flat K (ys.take l)).length=l* K.sz:=by rw[flat_length,List.length_take,Nat.min_eq_left (Nat.le_of_lt hl)]
   rw[e2,List.getElem?_append_right (by rw[e3];omega),e3,Nat.add_sub_cancel_left]
   exact hv
 ·exact .inl (List.drop_of_length_le (by omega))
theorem firstCells_run {w:World} (h:RS w K A ys) (n:Nat) (hn:n≤ys.length) (m c:Nat):(Builtin.firstCells K.sz n (.slice A m c)).run P w= .ok (flat K (ys.take n)).toArray w:=by
 have hl:(flat K (ys.take n)).length=n* K.sz:=by rw[flat_length,List.length_take,Nat.min_eq_left hn]
 cases hA:A with
 |none=>
  have hz:ys=[]:=by
   rcases h with h|⟨_,_,_,h,_⟩
   ·exact h
   ·rw[hA] at h;cases h
  subst hz
  simp[Builtin.firstCells,flat]
 |some a=>
  have hc: ∀j v,(flat K (ys.take n))[j]?=some v→w.cell? (a.add j)=some v:=fun j u hj=>by
   rcases h.take n with h0|⟨cur,tt,fz,hBA,hbb,hc⟩
   ·rw[h0] at hj;simp[flat] at hj
   ·rw[hA] at hBA
    have ha:a=⟨a.block,a.off,none⟩:=by simpa[bk,of] using hBA
    rw[hA] at hbb hc
    simp only[bk] at hbb
    have hcell:=hc j u hj
    rw[ha]
    by_cases j0:j=0
    ·subst j0;simp only[Addr.add,if_true];rw[cell_of hbb];simpa[of] using hcell
    ·simp only[Addr.add,j0,if_false];rw[cell_of hbb];simpa[of] using hcell
  have:=run_loadCells_list (P:=P) w a _ hc
  rw[hl] at this
  simp only[Builtin.firstCells,this]
theorem zeroCells_made (zc:Array Value) (n:Nat):Builtin.zeroCells zc n=madeCells zc (n* zc.size):=rfl
theorem OV.appendZ (zy:α) {d:Nat} {tn:TypeId} {ze:Value} {by_ n cB:Nat} {q:Int} {kq kn:IntKind} (m:Nat) (hu:P.underlying t=some (.slice e)) (htn:P.underlying tn=some (.int kn)) (hi:TI P e ze K.sz by_) (hze:ze.cells.toList=K.f zy)
 (hx:ev E x=some (.slice B n cB)) (hy:ev E y=some (.int kq q)) (hm:q=(m:Int)) (hn:n=zs.length) (hr: ∀w,Hp I0 w0 L w→RS w K B zs) (hpos:0<m) (hgrow:cB<n+m)
 (h63:n+m≤1000000) (h48:m* by_≤281474976710656) (hfit:Builtin.nextslicecap (n+m) cB* by_≤281474976710656)
 (hg:Yes N ops ⟨some d,.call ⟨.builtin .append,#[x,y],#[t,tn]⟩,ty,pos,af,g⟩ E) (hN:Nat.blt d N.n=true)
 (kk: ∀A' c',n+m≤c'→KV N KK (set E d (.slice A' (n+m) c')) (Hp I0 w0 (L++[OS e K A' c' (zs++List.replicate m zy)]))):
 OV P N ops Q ⟨some d,.call ⟨.builtin .append,#[x,y],#[t,tn]⟩,ty,pos,af,g⟩ E (Hp I0 w0 L) KK:=fun a w hf hs=>by
 subst hm;subst hn
 obtain⟨inf,h1,h2,h3,h4⟩:=hi.get
 have hrs:=hr w hs
 have hzs:ze.cells.size=K.sz:=by rw[←Array.length_toList,hze,K.len]
 have hold:=firstCells_run (P:=P) (w:=w.drew) (hrs.keep fun o h=>h) zs.length (Nat.le_refl _) zs.length cB
 rw[←h3,List.take_length] at hold
 have hrun:=Lib.run_append_grow_zeros (P:=P) w t tn ty e inf ze kq kn hu htn h1 h2 B zs.length cB (flat K zs) hold m hpos (by rw[h3];exact K.pos) hgrow (by omega) (by rw[h4];exact h48) (by rw[h4];exact hfit)
 have hge:=grownCap_ge w (zs.length+m) cB e
 have hle:=grownCap_le_maxLen w (zs.length+m) cB e (by unfold maxLen;omega)
 refine OV.run (hg a hf) (v:= .slice (some ⟨w.heap.size,0,none⟩) (zs.length+m) (grownCap w (zs.length+m) cB e)) ?_ (kk _ _ hge _ _ (hf.put _ hN) ((hs.drew.alloc (w':=w.drew.alloc (.cells ((flat K zs).toArray++Builtin.zeroCells ze.cells m++Builtin.zeroCells ze.cells (grownCap w (zs.length+m) cB e-(zs.length+m))) e)) rfl rfl rfl rfl).last fun J hJ=>?_))
 ·simp only[execOp,resolve,invoke,builtin,Sem.run_bind,Sem.run_pure,Result.andThen_ok,List.map_toArray,List.map_cons,List.map_nil,hf.ev hx,hf.ev hy,hrun]
 ·have hlen:(zs++List.replicate m zy).length=zs.length+m:=by simp
  have hmm:=made_take (K:=K) (zc:=ze.cells) (n:=m) (c:=m) hze (Nat.le_refl _)
  have hmf:(Builtin.zeroCells ze.cells m).toList=flat K (List.replicate m zy):=by
   rw[←hmm,zeroCells_made,hzs,List.take_of_length_le (by rw[Array.length_toList,size_madeCells];exact Nat.le_refl _)]
  have hfl:(flat K zs).length=zs.length* K.sz:=flat_length K zs
  have hfl2:(flat K (List.replicate m zy)).length=m* K.sz:=by rw[flat_length,List.length_replicate]
  have hsum:(zs.length+m)* K.sz=zs.length* K.sz+m* K.sz:=Nat.add_mul _ _ _
  have hcm:(zs.length+m)* K.sz≤grownCap w (zs.length+m) cB e* K.sz:=Nat.mul_le_mul_right _ hge
  have hs2:(Builtin.zeroCells ze.cells (grownCap w (zs.length+m) cB e-(zs.length+m))).size=grownCap w (zs.length+m) cB e* K.sz-(zs.length+m)* K.sz:=by
   rw[zeroCells_made,size_madeCells,hzs,Nat.sub_mul]
  refine OS.ofBlk hJ (by rw[hlen];exact hge) hle ?_ ?_
  ·have hs1:(Builtin.zeroCells ze.cells m).size=m* K.sz:=by rw[zeroCells_made,size_madeCells,hzs]
   simp only[Array.size_append,List.size_toArray,hfl,hs1,hs2]
   omega
  ·rw[hlen,flat_append]
   simp only[Array.toList_append,hmf]
   rw[List.take_append_of_le_length (by rw[List.length_append,hfl,hfl2];omega),List.take_of_length_le (by rw[List.length_append,hfl,hfl2];omega)]
theorem OV.callv (ks:List Nat) {Own F:List Assn} {d:Nat} {f:FuncId} {fn:Func} {fv:Operand} {caps vs:List Value} {args:List Operand} {ts:Array TypeId} {ro:Ids} {post:Value→List Assn→Prop}
 (hv:ev E fv=some (.func (.func f) #[] caps.toArray)) (hfn:P.funcs[f]?=some fn) (hbody:fn.body.isSome=true) (hname:(fn.name== "runtime.NumGoroutine")=false) (ha:evs E args=some vs) (hp:picks ks L=some (Own,F)) (spec: ∀w,Hp I0 w0 L w→Fx P f (vs++caps) w Own ro post) (hro: ∀b,ro b→RoOk I0 w0 F b)
 (hg:Yes N ops ⟨some d,.call ⟨.value fv,args.toArray,ts⟩,ty,pos,af,g⟩ E) (hN:Nat.blt d N.n=true)
 (k: ∀v L',post v L'→KV N KK (set E d v) (Hp I0 w0 (F++L'))):OV P N ops Q ⟨some d,.call ⟨.value fv,args.toArray,ts⟩,ty,pos,af,g⟩ E (Hp I0 w0 L) KK:=fun a w hf hs=>by
 rw[if_pos (hg a hf)]
 unfold Oper.wp
 have hbn:fn.body.isNone=false:=by cases h:fn.body<;>simp_all
 have hrun:(execOp a.eval ⟨some d,.call ⟨.value fv,args.toArray,ts⟩,ty,pos,af,g⟩).run P w= .ok (.enter f (vs++caps).toArray) w:=by
  have hv:=hf.ev hv
  have hm:args.toArray.map a.eval=vs.toArray:=by rw[←hf.evs ha];simp
  have hn1: ¬fn.name= "runtime.NumGoroutine":=by simpa using hname
  have hn2: ¬fn.body=none:=by intro h;rw[h] at hbn;simp at hbn
  simp[execOp,resolve,invoke,callFunc,hv,hfn,hn1,hn2,hm,Deferred.ofValue]
 rw[hrun]
 simp only[Oper.upon]
 refine(Calls.frame hp hs hro (spec w hs)).mono ?_
 rintro e w' ⟨v,L',rfl,hpost,hhp⟩
 exact k v L' hpost _ _ (hf.put v hN) hhp
end
theorem loadVar_run {P:Program} {t:TypeId} {D:TypeDesc} {b o:Nat} {ze:Value} {sz by_:Nat} {w:World} (vs:List Value) (hu:P.underlying t=some D) (hD:aggD D=true) (hi:TI P t ze sz by_) (hsz:vs.length=sz)
 (hc: ∀j v,vs[j]?=some v→w.cell? ⟨b,o+j,none⟩=some v):(loadVar t ⟨b,o,none⟩).run P w= .ok (.agg vs.toArray) w:=by
 have hag:(isAgg t).run P w= .ok true w:=by
  simp only[isAgg,Sem.run_bind,run_underlying hu,Result.andThen_ok]
  cases D<;>first|rfl|(simp[aggD] at hD)
 have hl:=run_loadCells_list (P:=P) w ⟨b,o,none⟩ vs (fun j v hv=>by
  have:=hc j v hv
  by_cases hj:j=0
  ·subst hj;simpa[Addr.add] using this
  ·simpa[Addr.add,hj] using this)
 rw[hsz] at hl
 simp only[loadVar,Sem.run_bind,Sem.run_pure,Result.andThen_ok,hag,if_true,hi.sizeOf,hl]
theorem results_cell1 {fn:Func} {p:Tmp} {ty:TypeId} (h:fn.results= #[.cell p ty]) (tmps:Array Value) (P:Program) (w:World):
 (results fn tmps).run P w=((asAddr (tmps.getD p undef)).run P w).andThen fun a w₁=>((loadVar ty a).run P w₁).andThen fun v w₂=> .ok v w₂:=by
 simp only[results,h]
 simp[Sem.run_bind,Result.andThen]
 cases (asAddr (tmps[p]?.getD undef)).run P w with
 |ok a w1=>simp only[];cases (loadVar ty a).run P w1<;>rfl
 |halt _ _=>rfl
section
variable {P:Program} {N:Nat} {fn:Func} {I:Ids} {L L':List Assn} {E:Env} {v v1 v2:Value} {t t1 t2:Tmp} {w:World} {post:Value→List Assn→Prop}
theorem KV.retC1 {ty:TypeId} {D:TypeDesc} {b o:Nat} {ze:Value} {sz by_:Nat} (vs:List Value) (hr:fn.results= #[.cell t ty]) (hv:get E t=some (.pointer (some ⟨b,o,none⟩))) (hu:P.underlying ty=some D) (hD:aggD D=true) (hi:TI P ty ze sz by_) (hsz:vs.length=sz)
 (hc: ∀w',Hp I w L w'→ ∀j v,vs[j]?=some v→w'.cell? ⟨b,o+j,none⟩=some v) (L') (hent: ∀w',Hp I w L w'→Hp I w L' w') (hp:post (.agg vs.toArray) L'):
 KV ⟨N,[]⟩ (bodyPost P fn (fun e w'=> ∃v L',e= .returned v∧post v L'∧Hp I w L' w') .ret) E (Hp I w L):=fun a w' hf hs=>
 ⟨hf.defers,_,by
  rw[results_cell1 hr]
  have h1:a.tmps.getD t undef= .pointer (some ⟨b,o,none⟩):=by simp[hf.slot t _ hv]
  have h2:(asAddr (.pointer (some ⟨b,o,none⟩))).run P w'= .ok ⟨b,o,none⟩ w':=by simp[asAddr]
  rw[h1,h2,Result.andThen_ok,loadVar_run vs hu hD hi hsz (hc w' hs),Result.andThen_ok],_,L',rfl,hp,hent w' hs⟩
theorem KV.retC2 {ty:TypeId} {D:TypeDesc} {b o:Nat} {ze:Value} {sz by_:Nat} (vs:List Value) (hr:fn.results= #[.cell t ty,.tmp t2]) (hv:get E t=some (.pointer (some ⟨b,o,none⟩))) (hv2:get E t2=some v2) (hu:P.underlying ty=some D) (hD:aggD D=true) (hi:TI P ty ze sz by_) (hsz:vs.length=sz)
 (hc: ∀w',Hp I w L w'→ ∀j v,vs[j]?=some v→w'.cell? ⟨b,o+j,none⟩=some v) (L') (hent: ∀w',Hp I w L w'→Hp I w L' w') (hp:post (.tuple #[.agg vs.toArray,v2]) L'):
 KV ⟨N,[]⟩ (bodyPost P fn (fun e w'=> ∃v L',e= .returned v∧post v L'∧Hp I w L' w') .ret) E (Hp I w L):=fun a w' hf hs=>
 ⟨hf.defers,_,by
  rw[results_cell_tmp hr]
  have h1:a.tmps.getD t undef= .pointer (some ⟨b,o,none⟩):=by simp[hf.slot t _ hv]
  have h3:a.tmps.getD t2 undef=v2:=by simp[hf.slot t2 _ hv2]
  have h2:(asAddr (.pointer (some ⟨b,o,none⟩))).run P w'= .ok ⟨b,o,none⟩ w':=by simp[asAddr]
  rw[h1,h2,h3,Result.andThen_ok,loadVar_run vs hu hD hi hsz (hc w' hs),Result.andThen_ok],_,L',rfl,hp,hent w' hs⟩
end
end Go.Sv
namespace Go.Sv
open Go.ChangeShapes Go.WideShapes Go.Deep Go.RowKit
section
variable {H:Type} {enc:TypeId×Value→H} {P:Program} {w:World} {base:Nat} {spare:Nat→Bool} {held:Bool}
theorem list3 {α:Type} {l:List α} (h:l.length=3): ∃a b c,l=[a,b,c]:=by
 match l,h with
 |[a,b,c],_=>exact⟨a,b,c,rfl⟩
end
end Go.Sv
namespace Go.Sv
section
variable {P:Program} {N:NN} {Q:Exit→Act→World→Prop} {E:Env} {S:World→Prop}
theorem CV.join3 {α β γ:Type} {x y:Code} (G:α→β→γ→Env) (T:α→β→γ→World→Prop)
 (h1:CV P N x (Exit.then (fun a w=> ∃p q r,Fits N a (G p q r)∧T p q r w) Q) E S) (h2: ∀p q r,CV P N y Q (G p q r) (T p q r)):CV P N (.seq x y) Q E S:=
 fun a w hf hs=>wp_seq (wp_mono (h1 a w hf hs) fun e a' w' hq=>by
  cases e<;>first|exact hq|(obtain⟨p,q,r,hz,ht⟩:=hq;exact h2 p q r a' w' hz ht))
theorem KV.join3 {α β γ:Type} {G:α→β→γ→Env} {T:α→β→γ→World→Prop} (p:α) (q:β) (r:γ) (hE:Sub (G p q r) E) (hT: ∀w,S w→T p q r w):KV N (fun a w=> ∃p q r,Fits N a (G p q r)∧T p q r w) E S:=
 fun _ w hf hs=>⟨p,q,r,hf.sub hE,hT w hs⟩
theorem CV.join4 {α β γ δ:Type} {x y:Code} (G:α→β→γ→δ→Env) (T:α→β→γ→δ→World→Prop)
 (h1:CV P N x (Exit.then (fun a w=> ∃p q r s,Fits N a (G p q r s)∧T p q r s w) Q) E S) (h2: ∀p q r s,CV P N y Q (G p q r s) (T p q r s)):CV P N (.seq x y) Q E S:=
 fun a w hf hs=>wp_seq (wp_mono (h1 a w hf hs) fun e a' w' hq=>by
  cases e<;>first|exact hq|(obtain⟨p,q,r,s,hz,ht⟩:=hq;exact h2 p q r s a' w' hz ht))
theorem KV.join4 {α β γ δ:Type} {G:α→β→γ→δ→Env} {T:α→β→γ→δ→World→Prop} (p:α) (q:β) (r:γ) (s:δ) (hE:Sub (G p q r s) E) (hT: ∀w,S w→T p q r s w):KV N (fun a w=> ∃p q r s,Fits N a (G p q r s)∧T p q r s w) E S:=
 fun _ w hf hs=>⟨p,q,r,s,hf.sub hE,hT w hs⟩
end
section
variable {P:Program} {N:NN} {Q:Exit→Act→World→Prop} {E:Env} {S:World→Prop} {ops:Array Oper}
variable {dd:Option Nat} {ty:TypeId} {pos:String} {af:Array Edge} {g:Option (Nat×Bool)} {x y z:Operand} {KK:Act→World→Prop}
variable {I0:Ids} {w0:World} {L:List Assn} {α:Type} {K:Enc α} {A B:Option Addr} {ys zs:List α} {e t:TypeId} {c:Nat}
theorem flat_take_eq {cur:List Value} (ht:cur.take (ys.length* K.sz)=flat K ys) {l:Nat} (hl:l≤ys.length):flat K (ys.take l)=cur.take (l* K.sz):=by
 have e2:flat K ys=flat K (ys.take l)++flat K (ys.drop l):=by rw[←flat_append,List.take_append_drop]
 have e3:(flat K (ys.take l)).length=l* K.sz:=by rw[flat_length,List.length_take,Nat.min_eq_left hl]
 have e4:(flat K ys).take (l* K.sz)=flat K (ys.take l):=by rw[e2,List.take_append_of_le_length (by omega),List.take_of_length_le (by omega)]
 have e5:l* K.sz≤ys.length* K.sz:=Nat.mul_le_mul_right _ hl
 rw[←e4,←ht,List.take_take,Nat.min_eq_left e5]
theorem flat_drop_eq {cur:List Value} (ht:cur.take (ys.length* K.sz)=flat K ys) (l:Nat):flat K (ys.drop l)=(cur.drop (l* K.sz)).take (ys.length* K.sz-l* K.sz):=by
 by_cases hl:l≤ys.length
 ·have e2:flat K ys=flat K (ys.take l)++flat K (ys.drop l):=by rw[←flat_append,List.take_append_drop]
  have e3:(flat K (ys.take l)).length=l* K.sz:=by rw[flat_length,List.length_take,Nat.min_eq_left hl]
  have e4:(flat K ys).drop (l* K.sz)=flat K (ys.drop l):=by rw[e2,List.drop_append_of_le_length (by omega),List.drop_of_length_le (by omega),List.nil_append]
  rw[←e4,←ht,List.drop_take]
 ·have:ys.length* K.sz≤l* K.sz:=Nat.mul_le_mul_right _ (by omega)
  rw[List.drop_of_length_le (by omega),Nat.sub_eq_zero_of_le this];simp[flat]
theorem OS.over {w:World} {gb:Nat} {cur:Array Value} {l q:Nat} (hle:ys.length≤c) (hc:c≤maxLen) (hsz:cur.size=c* K.sz) (ht:cur.toList.take (ys.length* K.sz)=flat K ys)
 (hb:w.heap[gb]?=some (.cells cur e (0,0))) (hl:l≤ys.length) (hq:q=zs.length) (hlq:l+q≤c):
 (OS e K (some ⟨gb,0,none⟩) c (ys.take l++zs++ys.drop (l+q))).sat (w.setRow gb (cur.toList.take (l* K.sz)++flat K zs++cur.toList.drop (l* K.sz+(flat K zs).length)).toArray) (fun x=>x=gb):=by
 have hfl:(flat K zs).length=q* K.sz:=by rw[flat_length,hq]
 have hadd:(l+q)* K.sz=l* K.sz+q* K.sz:=Nat.add_mul _ _ _
 have hmul:(l+q)* K.sz≤c* K.sz:=Nat.mul_le_mul_right _ hlq
 have htl:cur.toList.length=c* K.sz:=by simpa using hsz
 have hyl:(ys.take l++zs++ys.drop (l+q)).length=l+q+(ys.length-(l+q)):=by
  simp only[List.length_append,List.length_take,List.length_drop,←hq];omega
 refine .inr ⟨gb,_,rfl,fun _=>Iff.rfl,setRow_heap w gb cur _ e (0,0) hb,by rw[hyl];omega,hc,?_,?_⟩
 ·simp only[List.size_toArray,List.length_append,List.length_take,List.length_drop,Array.length_toList,hfl,hsz];omega
 ·have f1:=flat_take_eq (K:=K) ht hl
  have f2:=flat_drop_eq (K:=K) ht (l+q)
  have g1:(cur.toList.take (l* K.sz)).length=l* K.sz:=by rw[List.length_take,htl];omega
  have hN:(l+q+(ys.length-(l+q)))* K.sz=l* K.sz+q* K.sz+(ys.length* K.sz-(l+q)* K.sz):=by
   rw[Nat.add_mul,Nat.add_mul,Nat.sub_mul,Nat.add_mul]
  rw[hyl,flat_append,flat_append,f1,f2,hfl,hN]
  simp only[List.take_append,List.length_append,g1,hfl]
  rw[List.take_of_length_le (l:=cur.toList.take (l* K.sz)) (by rw[g1];omega),List.take_of_length_le (l:=flat K zs) (by rw[hfl];omega),hadd]
  congr 2
  omega
theorem shA_some {gb l:Nat} (h: ¬c=l):shA (some ⟨gb,0,none⟩) l K.sz c=some ⟨gb,l* K.sz,none⟩:=by
 rw[shA,if_neg h]
 by_cases h0:l* K.sz=0
 ·simp[Addr.add,h0]
 ·simp[Addr.add,h0]
theorem over_ext {w:World} {gb:Nat} {cs:Array Value} {i:Ids} (h:(OS e K (some ⟨gb,0,none⟩) c ys).sat w i):(∀x,x=gb→i x∨w.heap.size≤x)∧Ext i w (w.setRow gb cs):=by
 have hig:i gb:=by
  rcases h with ⟨h0,_⟩|⟨g2,cur2,h0,hI2,_⟩
  ·cases h0
  ·injection h0 with h0;injection h0 with h0
   subst h0;exact(hI2 _).2 rfl
 refine⟨fun x hx=> .inl (hx▸hig),rfl,rfl,rfl,by simp[World.setRow],fun x hx hn=>setRow_other w gb x _ ?_⟩
 rintro rfl;exact hn hig
theorem OV.copyX (k l:Nat) {d:Nat} {ze:Value} {by_ n m cA cB:Nat} {t2:TypeId} (hu:P.underlying t=some (.slice e)) (hi:TI P e ze K.sz by_) (hk:L[k]?=some (OS e K A c ys))
 (hx:ev E x=some (.slice (shA A l K.sz c) n cA)) (hy:ev E y=some (.slice B m cB)) (hl:l≤ys.length) (hn:l+n≤c) (hm:min m n≤zs.length) (hr: ∀w,Hp I0 w0 L w→RS w K B zs)
 (hg:Yes N ops ⟨some d,.call ⟨.builtin .copy,#[x,y],#[t,t2]⟩,ty,pos,af,g⟩ E) (hN:Nat.blt d N.n=true)
 (kk:KV N KK (set E d (.int .i64 (min m n:Nat))) (Hp I0 w0 (L.set k (OS e K A c (ys.take l++zs.take (min m n)++ys.drop (l+min m n)))))):
 OV P N ops Q ⟨some d,.call ⟨.builtin .copy,#[x,y],#[t,t2]⟩,ty,pos,af,g⟩ E (Hp I0 w0 L) KK:=fun a w hf hs=>by
 obtain⟨q,hq⟩: ∃q,q=min m n:=⟨_,rfl⟩
 rw[←hq] at kk hm
 have hcells:=firstCells_run (P:=P) (hr w hs) q hm m cB
 have hql:(zs.take q).length=q:=by rw[List.length_take];omega
 have hqe:Nat.min m n=q:=hq.symm
 obtain⟨i,jj,hA,_⟩:=hs.at hk
 have key: ∃w',(Builtin.copy_ #[t,t2] ty #[.slice (shA A l K.sz c) n cA,.slice B m cB]).run P w= .ok (goInt q) w'∧
  ∀i,(OS e K A c ys).sat w i→ ∃i':Ids,(OS e K A c (ys.take l++zs.take q++ys.drop (l+q))).sat w' i'∧(∀x,i' x→i x∨w.heap.size≤x)∧Ext i w w':=by
  by_cases hq0:q=0
  ·refine⟨w,?_,fun i hi=>⟨i,?_,fun _ h=> .inl h,Ext.refl _ _⟩⟩
   ·subst hq0
    have e0:(flat K (zs.take 0)).toArray= #[]:=by simp[flat]
    rw[e0] at hcells
    cases hsh:shA A l K.sz c<;>simp[Builtin.copy_,run_underlying hu,hi.sizeOf,Builtin.lenOf,hqe,hcells,storeCells]
   ·rw[hq0];simpa using hi
  ·rcases hA with ⟨_,_,rfl,_⟩|⟨gb,cur,rfl,hI,hb,hle,hc,hsz,ht⟩
   ·exfalso;omega
   ·have hmul:(l+q)* K.sz≤c* K.sz:=Nat.mul_le_mul_right _ (by omega)
    have hadd:(l+q)* K.sz=l* K.sz+q* K.sz:=Nat.add_mul _ _ _
    have hfl:(flat K (zs.take q)).length=q* K.sz:=by rw[flat_length,hql]
    have hst:=run_storeCells_at P gb (l* K.sz) e (flat K (zs.take q)) 0 cur w hb (by rw[hfl,hsz];omega) (flat_one K _)
    simp only[Nat.add_zero] at hst
    refine⟨_,?_,fun i hi2=>⟨_,OS.over hle hc hsz ht hb hl hql.symm (by omega),(over_ext (cs:= #[]) hi2).1,(over_ext hi2).2⟩⟩
    rw[shA_some (K:=K) (show ¬c=l by omega)]
    simp[Builtin.copy_,run_underlying hu,hi.sizeOf,Builtin.lenOf,hqe,hcells,hst]
 obtain⟨w',hrun,hup⟩:=key
 refine OV.run (hg a hf) (v:=goInt q) (w':=w') ?_ (kk _ _ (hf.put _ hN) (hs.update hk hup))
 simp only[execOp,resolve,invoke,builtin,Sem.run_bind,Sem.run_pure,Result.andThen_ok,List.map_toArray,List.map_cons,List.map_nil,hf.ev hx,hf.ev hy,hrun]
theorem Step.callX {f:FuncId} {vs:List Value} {v:Value} {args:List Operand} {ts:Array TypeId} (ha:evs E args=some vs) (h: ∀w,S w→(callFunc f vs.toArray).run P w= .ok (.value v) w):
 Step P N E S ⟨dd,.call ⟨.value (.func f),args.toArray,ts⟩,ty,pos,af,g⟩ v:=fun a w hf hs=>by
 have hv:a.eval (.func f)= .func (.func f) #[] #[]:=rfl
 have hm:args.toArray.map a.eval=vs.toArray:=by rw[←hf.evs ha];simp
 have:=h w hs
 simp[execOp,resolve,invoke,hv,hm,Deferred.ofValue,this]
end
section
variable {P:Program} {N:NN} {E:Env} {S:World→Prop}
variable {dd:Option Nat} {ty:TypeId} {pos:String} {af:Array Edge} {g:Option (Nat×Bool)} {x y:Operand} {e t t2:TypeId} {k k':IntKind} {m n r:Int}
theorem Step.idxArr {ze:Value} {sz by_ b o q:Nat} {i:Int} (hu:P.underlying t=some (.array q e)) (hi:TI P e ze sz by_) (hx:ev E x=some (.pointer (some ⟨b,o,none⟩))) (hy:ev E y=some (.int k i)) (l:Nat) (hl:i=(l:Int)) (hlt:l<q):
 Step P N E S ⟨dd,.indexAddr t x y,ty,pos,af,g⟩ (.pointer (some ⟨b,o+l* sz,none⟩)):=by
 subst hl
 refine Step.indexAddr hx hy fun w=>?_
 have h0:0≤(l:Int)∧(l:Int)<(q:Int):=by omega
 simp only[Instr.indexAt,asIntOf,Sem.run_bind,Sem.run_pure,Result.andThen_ok,run_underlying hu,h0,and_self,if_true,hi.sizeOf,Int.toNat_natCast,Instr.sureAddr]
 by_cases hz:l* sz=0
 ·simp[hz,Addr.add]
 ·simp[Addr.add,hz]
theorem Step.shr (hx:ev E x=some (.int k m)) (hy:ev E y=some (.int k' n)) (hn:0≤n) (hr:m.fdiv (2^min n.toNat k.bits)=r):Step P N E S ⟨dd,.binOp .shr t x y t2,ty,pos,af,g⟩ (.int k r):=
 step_bin hx hy rfl fun w=>by simp[binOp,Op.shift,show ¬n<0 by omega,hr]
end
end Go.Sv
namespace Go.Sv
open Go.ChangeShapes Go.WideShapes Go.Deep Go.RowKit
section
variable {H:Type} {enc:TypeId×Value→H} {P:Program} {w:World} {base:Nat} {spare:Nat→Bool} {held:Bool}
end
end Go.Sv
namespace Go.Sv
abbrev Bs:=List UInt8
@[reducible] def bs (l:Bs):ByteArray:=⟨l.toArray⟩
@[reducible] def by8 (l:Bs) (m:Nat):Int:=((l.getD m 0).toNat:Int)
theorem bs_size (l:Bs):(bs l).size=l.length:=by simp[bs,ByteArray.size]
theorem bs_get (l:Bs) (m:Nat):(bs l)[m]?=l[m]?:=by
 by_cases h:m<l.length
 ·have h2:m<(bs l).size:=by rw[bs_size];exact h
  rw[getElem?_pos (bs l) m h2,List.getElem?_eq_getElem h]
  rfl
 ·have h2: ¬m<(bs l).size:=by rw[bs_size];exact h
  rw[getElem?_neg (bs l) m h2,List.getElem?_eq_none (by omega)]
theorem bs_ext (l:Bs) (i j:Nat):(bs l).extract i j=bs ((l.take j).drop i):=by
 apply ByteArray.ext
 rw[ByteArray.data_extract]
 simp[bs,List.extract_toArray,List.extract_eq_take_drop,List.drop_take]
theorem bs_append (a b:Bs):bs a++bs b=bs (a++b):=by
 apply ByteArray.ext
 rw[ByteArray.data_append]
 simp[bs]
theorem list_beq (a b:Bs):(a==b)=decide (a=b):=by
 by_cases h:a=b
 ·subst h;simp
 ·rw[decide_eq_false h];exact beq_eq_false_iff_ne.2 h
theorem bs_beq (a b:Bs):(bs a==bs b)=decide (a=b):=by
 show(a.toArray==b.toArray)=_
 rw[←list_beq];simp
theorem bs_toList (a:Bs):(bs a).toList=a:=by rw[ByteArray.toList_eq]
def strK:Enc Bs where
 f l:=[.string (bs l)]
 sz:=1
 d:=[]
 len _:=rfl
 pos:=by decide
 one r v hv:=by simp at hv;subst hv;rfl
section
variable {P:Program} {N:NN} {E:Env} {S:World→Prop}
variable {dd:Option Nat} {ty:TypeId} {pos:String} {af:Array Edge} {g:Option (Nat×Bool)} {x y z:Operand} {t t2:TypeId} {k k':IntKind} {l l2:Bs} {i j:Int}
theorem Step.lenStr (hu:P.underlying t=some .string) (hx:ev E x=some (.string (bs l))):
 Step P N E S ⟨dd,.call ⟨.builtin .len,#[x],#[t]⟩,ty,pos,af,g⟩ (.int .i64 l.length):=fun a w hf _=>by
 simp[execOp,resolve,invoke,builtin,hf.ev hx,Builtin.len_,Builtin.lenOf,run_underlying hu,goInt,bs_size]
theorem Step.idxStr (hu:P.underlying t=some .string) (hx:ev E x=some (.string (bs l))) (hy:ev E y=some (.int k i)) (m:Nat) (hm:i=(m:Int)) (hlt:m<l.length):
 Step P N E S ⟨dd,.index t x y,ty,pos,af,g⟩ (.int .u8 ((l.getD m 0).toNat:Int)):=by
 subst hm
 refine Step.index hx hy fun w=>?_
 have h0:(0:Int)≤(m:Int):=by omega
 have hg:l[m]?=some (l.getD m 0):=by simp[List.getD,List.getElem?_eq_getElem hlt]
 simp only[Instr.index,asIntOf,Sem.run_bind,Sem.run_pure,Result.andThen_ok,run_underlying hu,h0,if_true,Int.toNat_natCast,bs_get,hg]
theorem Step.slStrLH (hu:P.underlying t=some .string) (hx:ev E x=some (.string (bs l))) (hy:ev E y=some (.int k i)) (hz:ev E z=some (.int k' j)) (a b:Nat) (hi:i=(a:Int)) (hj:j=(b:Int)) (h1:a≤b) (h2:b≤l.length):
 Step P N E S ⟨dd,.slice t x (some y) (some z) none,ty,pos,af,g⟩ (.string (bs ((l.take b).drop a))):=fun ac w hf _=>by
 subst hi;subst hj
 simp[execOp,Instr.sliceAt,Instr.slice,hf.ev hx,hf.ev hy,hf.ev hz,run_underlying hu,Instr.sliceBounds,Instr.sliceBound,asIntOf,bs_size,bs_ext,h1,h2]
theorem Step.slStrLo (hu:P.underlying t=some .string) (hx:ev E x=some (.string (bs l))) (hy:ev E y=some (.int k i)) (a:Nat) (hi:i=(a:Int)) (h1:a≤l.length):
 Step P N E S ⟨dd,.slice t x (some y) none none,ty,pos,af,g⟩ (.string (bs (l.drop a))):=fun ac w hf _=>by
 subst hi
 simp[execOp,Instr.sliceAt,Instr.slice,hf.ev hx,hf.ev hy,run_underlying hu,Instr.sliceBounds,Instr.sliceBound,asIntOf,bs_size,bs_ext,h1]
theorem Step.slStrHi (hu:P.underlying t=some .string) (hx:ev E x=some (.string (bs l))) (hz:ev E z=some (.int k' j)) (b:Nat) (hj:j=(b:Int)) (h2:b≤l.length):
 Step P N E S ⟨dd,.slice t x none (some z) none,ty,pos,af,g⟩ (.string (bs (l.take b))):=fun ac w hf _=>by
 subst hj
 simp[execOp,Instr.sliceAt,Instr.slice,hf.ev hx,hf.ev hz,run_underlying hu,Instr.sliceBounds,Instr.sliceBound,asIntOf,bs_size,bs_ext,h2]
theorem Step.addStr (hx:ev E x=some (.string (bs l))) (hy:ev E y=some (.string (bs l2))) (h:l.length+l2.length≤9223372036854775807):
 Step P N E S ⟨dd,.binOp .add t x y t2,ty,pos,af,g⟩ (.string (bs (l++l2))):=
 step_bin hx hy rfl fun w=>by
  have h1: ¬(((bs l).size+(bs l2).size:Nat):Int)>IntKind.i64.max:=by
   rw[bs_size,bs_size]
   have:IntKind.i64.max=9223372036854775807:=rfl
   omega
  simp only[binOp,Op.stringOp,h1,if_false,bs_append,Sem.run_pure]
theorem Step.eqlStr (hx:ev E x=some (.string (bs l))) (hy:ev E y=some (.string (bs l2))):Step P N E S ⟨dd,.binOp .eql t x y t2,ty,pos,af,g⟩ (.bool (decide (l=l2))):=
 step_bin hx hy rfl fun w=>by
  have e:((bs l).toList==(bs l2).toList)=decide (l=l2):=by rw[bs_toList,bs_toList,list_beq]
  simp only[binOp,Op.stringOp,e,Sem.run_pure]
theorem Step.neqStr (hx:ev E x=some (.string (bs l))) (hy:ev E y=some (.string (bs l2))):Step P N E S ⟨dd,.binOp .neq t x y t2,ty,pos,af,g⟩ (.bool (decide (¬l=l2))):=
 step_bin hx hy rfl fun w=>by
  have e:((bs l).toList==(bs l2).toList)=decide (l=l2):=by rw[bs_toList,bs_toList,list_beq]
  simp only[binOp,Op.stringOp,e,Sem.run_pure]
  by_cases h:l=l2<;>simp[h]
end
theorem findNow_str (x:Bs): ∀(es:List MapEntry) (m:List Bs) (i:Nat),es.map (·.key)=m.map (fun l:Bs=>Value.string (bs l))→
 Instr.findNow .string (.string (bs x)) es i=some ((m.findIdx? (fun y=>decide (x=y))).bind fun j=>(es[j]?).map fun e=>(i+j,e.val))
 |[],[],i,_=>by simp[Instr.findNow]
 |e::es,y::m,i,h=>by
  simp only[List.map_cons,List.cons.injEq] at h
  have hs:Instr.sameNow .string (.string (bs x)) e.key=some (decide (x=y)):=by rw[h.1];simp only[Instr.sameNow,bs_beq]
  simp only[Instr.findNow,hs,List.findIdx?_cons]
  by_cases hxy:x=y
  ·simp[hxy]
  ·simp only[hxy,decide_false,Bool.false_eq_true,if_false]
   rw[findNow_str x es m (i+1) h.2]
   cases hf:m.findIdx? (fun y=>decide (x=y)) with
   |none=>simp
   |some j=>simp[Nat.add_assoc,Nat.add_comm 1 j]
 |[],_::_,_,h=>by simp at h
 |_::_,[],_,h=>by simp at h
theorem KeyT.string {P:Program} {kt:TypeId} (hu:P.underlying kt=some .string):KeyT P kt (fun l:Bs=>Value.string (bs l)) where
 check em x w:=by
  show(Instr.checkKey em (9999+1) kt _).run P w=_
  rw[Instr.checkKey]
  simp only[Sem.run_bind,run_underlying hu,Result.andThen_ok,Sem.run_pure]
 find x es ms h w:=by
  simp only[Instr.findKey,Sem.run_bind,run_underlying hu,Result.andThen_ok,findNow_str x es ms 0 h,Nat.zero_add,Sem.run_pure]
section
variable {P:Program} {N:NN} {Q:Exit→Act→World→Prop} {E:Env} {S:World→Prop} {ops:Array Oper} {KK:Act→World→Prop}
theorem OV.callP {d:Nat} {f:FuncId} {fn:Func} {vs:List Value} {v:Value} {args:List Operand} {ts:Array TypeId} {ty:TypeId} {pos:String} {af:Array Edge} {g:Option (Nat×Bool)}
 (hfn:P.funcs[f]?=some fn) (hbody:fn.body.isSome=true) (hname:(fn.name== "runtime.NumGoroutine")=false) (ha:evs E args=some vs) (spec:FxP P f vs v) (hg:Yes N ops ⟨some d,.call ⟨.value (.func f),args.toArray,ts⟩,ty,pos,af,g⟩ E) (hN:Nat.blt d N.n=true)
 (k:KV N KK (set E d v) S):OV P N ops Q ⟨some d,.call ⟨.value (.func f),args.toArray,ts⟩,ty,pos,af,g⟩ E S KK:=fun a w hf hs=>by
 rw[if_pos (hg a hf)]
 unfold Oper.wp
 have hbn:fn.body.isNone=false:=by cases h:fn.body<;>simp_all
 have hrun:(execOp a.eval ⟨some d,.call ⟨.value (.func f),args.toArray,ts⟩,ty,pos,af,g⟩).run P w= .ok (.enter f vs.toArray) w:=by
  have hv:a.eval (.func f)= .func (.func f) #[] #[]:=rfl
  have hm:args.toArray.map a.eval=vs.toArray:=by rw[←hf.evs ha];simp
  have hn1: ¬fn.name= "runtime.NumGoroutine":=by simpa using hname
  have hn2: ¬fn.body=none:=by intro h;rw[h] at hbn;simp at hbn
  simp[execOp,resolve,invoke,callFunc,hv,hfn,hn1,hn2,hm,Deferred.ofValue]
 rw[hrun]
 simp only[Oper.upon]
 refine(spec w).mono ?_
 rintro e w' ⟨rfl,rfl⟩
 exact k _ _ (hf.put v hN) hs
end
@[reducible] def fen (ro:Option Nat):Fence:={Fence.wide with round:=ro}
section
variable {P:Program} {N:NN} {Q:Exit→Act→World→Prop} {E:Env} {S:World→Prop} {ops:Array Oper} {rest:List Oper} {ro:Option Nat} {K:Act→World→Prop}
theorem wpIn_of_wp_op {o:Oper} {a:Act} {w:World} (hnd: ∀c,o.op≠ .defer c) (h:Oper.wp P o a w K Q):Oper.wpIn (fen ro) 0 P o a w K Q:=by
 refine⟨fun _ _=>trivial,?_⟩
 rw[show(fen ro).round=ro from rfl,Oper.semAt_eq _ _ _ hnd]
 unfold Oper.wp at h
 cases hr:(execOp a.eval o).run P w with
 |ok nx w'=>
  rw[hr] at h
  cases nx with
  |value v=>exact h
  |skip=>exact h
  |defer d=>exact h
  |enter f args=>
   refine⟨fun hh=>(by cases hh),?_⟩
   have h2:CallsIn Fence.wide 0 P f args w' _:=callsIn_wide.2 h
   exact CallsIn.mono (F:=fen ro) h2 fun e w'' he=>by cases e<;>exact he
  |row row args=>
   refine⟨fun hh=>(by cases hh),fun c cs _=>?_⟩
   obtain⟨v,w3,r,s⟩:=h c cs
   exact⟨v,w3,r,stepsIn_wide.2 s⟩
  |_=>exact h.elim
 |halt hh w'=>
  rw[hr] at h
  cases hh with
  |panic v=>exact h
  |_=>exact h.elim
abbrev LI (ro:Option Nat) (P:Program) (N:NN) (ops:Array Oper) (Q:Exit→Act→World→Prop) (rest:List Oper) (E:Env) (S:World→Prop):Prop:=KV N (wpListIn (fen ro) 0 P ops Q rest) E S
abbrev CI (ro:Option Nat) (P:Program) (N:NN) (c:Code) (Q:Exit→Act→World→Prop) (E:Env) (S:World→Prop):Prop:=KV N (c.wpIn (fen ro) 0 P Q) E S
theorem LI.op {o:Oper} (hnd: ∀c,o.op≠ .defer c) (h:OV P N ops Q o E S (wpListIn (fen ro) 0 P ops Q rest)):LI ro P N ops Q (o::rest) E S:=fun a w hf hs=>by
 have h1:=h a w hf hs
 unfold wpListIn
 by_cases hw:Region.wanted o (yielded ops a.tmps)=true
 ·rw[if_pos hw] at h1 ⊢;exact wpIn_of_wp_op hnd h1
 ·rw[if_neg hw] at h1 ⊢;exact⟨fun _ _=>trivial,h1⟩
theorem LI.nil (h:KV N (Q .normal) E S):LI ro P N ops Q [] E S:=fun a w hf hs=>wpListIn_nil (h a w hf hs)
theorem CI.region {id:Nat} {l:List Oper} (h:LI ro P N l.toArray Q l E S):CI ro P N (.region id l.toArray false) Q E S:=fun a w hf hs=>wpIn_region_lit (h a w hf hs)
theorem CI.seq {x y:Code} (h:CI ro P N x (Exit.then (y.wpIn (fen ro) 0 P Q) Q) E S):CI ro P N (.seq x y) Q E S:=fun a w hf hs=>wpIn_seq (h a w hf hs)
theorem CI.skip (h:KV N (Q .normal) E S):CI ro P N .skip Q E S:=fun a w hf hs=>wpIn_skip (h a w hf hs)
theorem CI.ret (h:KV N (Q .ret) E S):CI ro P N .ret Q E S:=fun a w hf hs=>wpIn_ret (h a w hf hs)
theorem CI.block {id:Nat} {c:Code} (h:CI ro P N c (Exit.inBlock id Q) E S):CI ro P N (.block id c) Q E S:=fun a w hf hs=>wpIn_block (h a w hf hs)
theorem CI.cond_t {c:Operand} {x y:Code} (hc:ev E c=some (.bool true)) (h:CI ro P N x Q E S):CI ro P N (.cond c x y) Q E S:=fun a w hf hs=>wpIn_cond_true (hf.ev hc) (h a w hf hs)
theorem CI.cond_f {c:Operand} {x y:Code} (hc:ev E c=some (.bool false)) (h:CI ro P N y Q E S):CI ro P N (.cond c x y) Q E S:=fun a w hf hs=>wpIn_cond_false (hf.ev hc) (h a w hf hs)
theorem CV.ofCI {c:Code} (h:CI none P N c Q E S):CV P N c Q E S:=fun a w hf hs=>wpIn_wide.1 (h a w hf hs)
end
section
variable {P:Program} {N:NN} {Q:Exit→Act→World→Prop} {E:Env} {ops:Array Oper} {rest:List Oper} {I0:Ids} {w0:World} {L Own F:List Assn}
theorem Hp.own {w:World} {ks:List Nat} (hp:picks ks L=some (Own,F)) (hs:Hp I0 w0 L w): ∃iO:Ids,Sep Own iO w∧(∀b,RoOk I0 w0 F b→ ¬iO b)∧ ∀w' L',Hp iO w L' w'→Hp I0 w0 (F++L') w':=by
 obtain⟨I,hsep,he,hi⟩:=hs.perm (picks_perm hp)
 obtain⟨iO,iF,hI,hd,hO,hF⟩:=Sep.append.1 hsep
 refine⟨iO,hO,fun b hb hbO=>?_,?_⟩
 ·rcases hb with ⟨h1,h2⟩|⟨j,A,hj,hA⟩
  ·rcases hi b ((hI b).2 (.inl hbO)) with h3|h3
   ·exact h1 h3
   ·omega
  ·obtain⟨i,j',hI2,_,hA2,_⟩:=hF.perm (perm_erase hj)
   exact hd b hbO ((hI2 b).2 (.inl (hA w i hA2)))
 rintro w' L' ⟨I',hL',hx,hI'⟩
 refine⟨fun x=>iF x∨I' x,Sep.append.2 ⟨iF,I',fun _=>Iff.rfl,fun x h1 h2=>?_,hF.keep fun x hxF=>hx.block x (hF.lt x hxF) fun hxO=>hd x hxO hxF,hL'⟩,he.trans hx fun x hxO=>hi x ((hI x).2 (.inl hxO)),?_⟩
 ·rcases hI' x h2 with h3|h3
  ·exact hd x h3 h1
  ·have:=hF.lt x h1;omega
 ·rintro x (h1|h1)
  ·exact hi x ((hI x).2 (.inr h1))
  ·rcases hI' x h1 with h3|h3
   ·exact hi x ((hI x).2 (.inl h3))
   ·exact .inr (Nat.le_trans he.size h3)
def RoundFx (P:Program) (l:Nat) (vs:List Value) (w:World) (Own:List Assn) (ro:Ids) (post:Value→List Assn→Prop):Prop:=
 ∀I:Ids,Sep Own I w→(∀b,ro b→ ¬I b)→ ∃fn tmps assign body,(Instr.yield l vs.toArray).run P w= .ok (.round l fn tmps assign body) w∧
  RoundIn Fence.wide 0 P l fn tmps assign body w (fun e w'=> ∃v L',e= .returned v∧post v L'∧Hp I w L' w')
theorem LI.yield (ks:List Nat) {d l:Nat} {x:Operand} {vs:List Value} {args:List Operand} {ts:Array TypeId} {ty:TypeId} {pos:String} {af:Array Edge} {g:Option (Nat×Bool)} {ro:Ids} {post:Value→List Assn→Prop}
 (hx:ev E x=some (.func (.yield l) #[] #[])) (ha:evs E args=some vs) (hp:picks ks L=some (Own,F)) (spec: ∀w,Hp I0 w0 L w→RoundFx P l vs w Own ro post) (hro: ∀b,ro b→RoOk I0 w0 F b)
 (hg:Yes N ops ⟨some d,.call ⟨.value x,args.toArray,ts⟩,ty,pos,af,g⟩ E) (hN:Nat.blt d N.n=true)
 (k: ∀v L',post v L'→LI none P N ops Q rest (set E d v) (Hp I0 w0 (F++L'))):LI none P N ops Q (⟨some d,.call ⟨.value x,args.toArray,ts⟩,ty,pos,af,g⟩::rest) E (Hp I0 w0 L):=fun a w hf hs=>by
 unfold wpListIn
 rw[if_pos (hg a hf)]
 refine⟨fun _ _=>trivial,?_⟩
 obtain⟨iO,hO,hnot,hback⟩:=hs.own hp
 obtain⟨fn,tmps,assign,body,hy,hR⟩:=spec w hs iO hO fun b hb=>hnot b (hro b hb)
 have hrun:(Oper.semAt none a.eval ⟨some d,.call ⟨.value x,args.toArray,ts⟩,ty,pos,af,g⟩).run P w= .ok (.round l fn tmps assign body) w:=by
  have hv:=hf.ev hx
  have hm:args.toArray.map a.eval=vs.toArray:=by rw[←hf.evs ha];simp
  rw[Oper.semAt_none]
  simp[execOp,resolve,invoke,hv,hm,Deferred.ofValue,hy]
 show Oper.uponIn (fen none) 0 P _ a _ Q ((Oper.semAt none a.eval _).run P w)
 rw[hrun]
 refine⟨fun hh=>(by cases hh),?_⟩
 refine RoundIn.mono (F:=Fence.wide) hR ?_
 rintro e w' ⟨v,L',rfl,hpost,hhp⟩
 exact k v L' hpost _ _ (hf.put v hN) (hback w' L' hhp)
def mk (D:Nat):Deferred:={target:= .collected D,args:= #[]}
theorem Hp.put {w:World} (h:Hp I0 w0 L w) {k b:Nat} {o:Obj} (o':Obj) (hk:L[k]?=some (Blk b o)):Hp I0 w0 (L.set k (Blk b o')) (w.putObj b o'):=by
 have hb:=h.blk k hk
 have hlt:=lt_of_some hb
 exact h.modify hk (World.putObj_heap_same hlt) World.putObj_size (fun x hx=>World.putObj_heap_other hx) rfl rfl rfl
def recL (fn:FuncId) (tm:Array Value) (ps:Array Tmp) (assign body:Code) (D:Nat):Loop:={state:= .ready,pending:=none,fn:=fn,tmps:=tm,params:=ps,assign:=assign,body:=body,defers:=D}
theorem RoundFx.ofWalk {l:Nat} {vs:List Value} {w:World} {ro:Ids} {post:Value→List Assn→Prop} {k:Nat} {r:Loop} (hk:Own[k]?=some (Blk l (.loop r))) (hst:r.state= .ready) (hsz:vs.length=r.params.size)
 (h: ∀I,(∀b,ro b→ ¬I b)→CI (some l) P ⟨r.tmps.size,[]⟩ r.assign (Exit.then (fun a w1=> ∃w2,(Instr.beginRound l).run P w1= .ok () w2∧r.body.wpIn (fen (some l)) 0 P (roundPost P l (fun e w'=> ∃v L',e= .returned v∧post v L'∧Hp I w L' w')) a w2) (fun _ _ _=>False)) E (Hp I w Own))
 (hE:Fits ⟨r.tmps.size,[]⟩ {tmps:=((r.params.zip vs.toArray).foldl (fun tmps (t,a)=>tmps.setIfInBounds t a) r.tmps),defers:=[]} E):RoundFx P l vs w Own ro post:=fun I hI hro=>by
 have hb:w.heap[l]?=some (.loop r):=(Hp.start hI).blk k hk
 exact⟨_,_,_,_,run_yield hb (by simpa using hsz),roundIn_of_wpIn (F:=Fence.wide) trivial (h I hro _ w hE (Hp.start hI))⟩
theorem KV.begin {I:Ids} {w:World} {l k:Nat} {r:Loop} {body:Code} {R:Ending→World→Prop} (hk:L[k]?=some (Blk l (.loop r))) (hst:r.state= .ready) (h:CI (some l) P N body (roundPost P l R) E (Hp I w (L.set k (Blk l (.loop {r with state:= .busy}))))):
 KV N (fun a w1=> ∃w2,(Instr.beginRound l).run P w1= .ok () w2∧body.wpIn (fen (some l)) 0 P (roundPost P l R) a w2) E (Hp I w L):=fun a w1 hf hs=>
 ⟨_,run_beginRound (hs.blk k hk) hst,h a _ hf (hs.put _ hk)⟩
theorem KV.round_n {I:Ids} {w:World} {l k:Nat} {r:Loop} {post:Value→List Assn→Prop} (hk:L[k]?=some (Blk l (.loop r))) (L':List Assn) (hent: ∀w',Hp I w (L.set k (Blk l (.loop {r with state:= .ready,pending:=none}))) w'→Hp I w L' w') (hp:post (.bool true) L'):
 KV N (roundPost P l (fun e w'=> ∃v L',e= .returned v∧post v L'∧Hp I w L' w') .normal) E (Hp I w L):=fun a w1 hf hs=>
 ⟨_,_,run_endRound none (hs.blk k hk),_,L',rfl,hp,hent _ (hs.put _ hk)⟩
theorem KV.round_ret {I:Ids} {w:World} {l k:Nat} {r:Loop} {post:Value→List Assn→Prop} (hk:L[k]?=some (Blk l (.loop r))) (L':List Assn) (hent: ∀w',Hp I w (L.set k (Blk l (.loop {r with state:= .done,pending:=some .ret}))) w'→Hp I w L' w') (hp:post (.bool false) L'):
 KV N (roundPost P l (fun e w'=> ∃v L',e= .returned v∧post v L'∧Hp I w L' w') .ret) E (Hp I w L):=fun a w1 hf hs=>
 ⟨_,_,run_endRound (some .ret) (hs.blk k hk),_,L',rfl,hp,hent _ (hs.put _ hk)⟩
end
section
variable {P:Program} {f:FuncId} {vs:List Value} {w:World} {Own:List Assn} {ro:Ids} {post:Value→List Assn→Prop}
theorem Fx.bodyM {fn:Func} {c:Code} {N:Nat} (hf:P.funcs[f]?=some fn) (hb:fn.body=some c) (hN:fn.ntmps=N) (hl:Nat.ble vs.length N=true)
 (h: ∀I:Ids,(∀b,ro b→ ¬I b)→Sep Own I w→CV P ⟨N,[]⟩ c (bodyPostM Fence.wide 0 P fn (fun e w'=> ∃v L',e= .returned v∧post v L'∧Hp I w L' w')) (params 0 vs) (Hp I w Own)):Fx P f vs w Own ro post:=by
 intro I hI hro
 refine(callsIn_wide (n:=0)).1 (callsIn_of_wp_marks hf hb trivial ((wpIn_wide (n:=0)).2 (h I hro hI _ _ ⟨rfl,?_,fun t v ht=>?_⟩ (Hp.start hI))))
 ·have hl':vs.length≤N:=by simpa using hl
  simp[hN];omega
 ·obtain⟨_,h2⟩:=get_params vs 0 t v ht
  simp only[Nat.sub_zero] at h2
  have hlt:=(List.getElem?_eq_some_iff.1 h2).1
  rw[Array.getElem?_append_left (by simpa using hlt)]
  simpa using h2
end
theorem results_tmp3' {fn:Func} {t1 t2 t3:Tmp} (h:fn.results= #[.tmp t1,.tmp t2,.tmp t3]) (tmps:Array Value) (P:Program) (w:World):
 (results fn tmps).run P w= .ok (.tuple #[tmps.getD t1 undef,tmps.getD t2 undef,tmps.getD t3 undef]) w:=by
 simp only[results,h]
 simp[Sem.run_bind,Result.andThen]
section
variable {P:Program} {N:Nat} {fn:Func} {I:Ids} {L L':List Assn} {E:Env} {v u v1 v2 v3:Value} {t t1 t2 t3:Tmp} {w:World} {post:Value→List Assn→Prop}
theorem KV.ret3 (hr:fn.results= #[.tmp t1,.tmp t2,.tmp t3]) (h1:get E t1=some v1) (h2:get E t2=some v2) (h3:get E t3=some v3) (L') (hent: ∀w',Hp I w L w'→Hp I w L' w') (hp:post (.tuple #[v1,v2,v3]) L'):
 KV ⟨N,[]⟩ (bodyPost P fn (fun e w'=> ∃v L',e= .returned v∧post v L'∧Hp I w L' w') .ret) E (Hp I w L):=fun a w' hf hs=>
 ⟨hf.defers,.tuple #[v1,v2,v3],by rw[results_tmp3' hr];simp[hf.slot t1 v1 h1,hf.slot t2 v2 h2,hf.slot t3 v3 h3],_,L',rfl,hp,hent w' hs⟩
end
theorem idx_spec (c:UInt8): ∀l:Bs,(Lib.indexByte l c= -1∧ ∀x∈l,x≠c)∨ ∃p r:Bs,l=p++c::r∧Lib.indexByte l c=(p.length:Int)∧ ∀x∈p,x≠c
 |[]=> .inl ⟨rfl,fun x hx=>by cases hx⟩
 |b::l=>by
  rw[Lib.indexByte]
  by_cases hb:b=c
  ·subst hb
   exact .inr ⟨[],l,rfl,by simp,fun x hx=>by cases hx⟩
  ·have hb2:(b==c)=false:=beq_eq_false_iff_ne.2 hb
   rcases idx_spec c l with ⟨h1,h2⟩|⟨p,r,rfl,h1,h2⟩
   ·left
    rw[hb2,h1]
    refine⟨rfl,fun x hx=>?_⟩
    rcases List.mem_cons.1 hx with rfl|hx
    ·exact hb
    ·exact h2 x hx
   ·right
    refine⟨b::p,r,rfl,?_,fun x hx=>?_⟩
    ·rw[hb2,h1]
     have:((p.length:Int)== -1)=false:=beq_eq_false_iff_ne.2 (by omega)
     simp only[Bool.false_eq_true,if_false,this,List.length_cons]
     omega
    ·rcases List.mem_cons.1 hx with rfl|hx
     ·exact hb
     ·exact h2 x hx
theorem u8_back (c:UInt8):((c.toNat:Int)).toNat.toUInt8=c:=by simp
theorem results_cell_tmp2 {fn:Func} {p:Tmp} {ty:TypeId} {t2 t3:Tmp} (h:fn.results= #[.cell p ty,.tmp t2,.tmp t3]) (tmps:Array Value) (P:Program) (w:World):
 (results fn tmps).run P w=((asAddr (tmps.getD p undef)).run P w).andThen fun a w1=>((loadVar ty a).run P w1).andThen fun v w2=> .ok (.tuple #[v,tmps.getD t2 undef,tmps.getD t3 undef]) w2:=by
 simp only[results,h]
 simp[Sem.run_bind,Result.andThen]
section
variable {P:Program} {N:Nat} {fn:Func} {I:Ids} {L L':List Assn} {E:Env} {v v1 v2 v3:Value} {t t1 t2 t3:Tmp} {w:World} {post:Value→List Assn→Prop}
theorem KV.retC3 {ty:TypeId} {D:TypeDesc} {b o:Nat} {ze:Value} {sz by_:Nat} (vs:List Value) (hr:fn.results= #[.cell t ty,.tmp t2,.tmp t3]) (hv:get E t=some (.pointer (some ⟨b,o,none⟩))) (hv2:get E t2=some v2) (hv3:get E t3=some v3) (hu:P.underlying ty=some D) (hD:aggD D=true) (hi:TI P ty ze sz by_) (hsz:vs.length=sz)
 (hc: ∀w',Hp I w L w'→ ∀j v,vs[j]?=some v→w'.cell? ⟨b,o+j,none⟩=some v) (L') (hent: ∀w',Hp I w L w'→Hp I w L' w') (hp:post (.tuple #[.agg vs.toArray,v2,v3]) L'):
 KV ⟨N,[]⟩ (bodyPost P fn (fun e w'=> ∃v L',e= .returned v∧post v L'∧Hp I w L' w') .ret) E (Hp I w L):=fun a w' hf hs=>
 ⟨hf.defers,_,by
  rw[results_cell_tmp2 hr]
  have h1:a.tmps.getD t undef= .pointer (some ⟨b,o,none⟩):=by simp[hf.slot t _ hv]
  have h3:a.tmps.getD t2 undef=v2:=by simp[hf.slot t2 _ hv2]
  have h4:a.tmps.getD t3 undef=v3:=by simp[hf.slot t3 _ hv3]
  have h2:(asAddr (.pointer (some ⟨b,o,none⟩))).run P w'= .ok ⟨b,o,none⟩ w':=by simp[asAddr]
  rw[h1,h2,h3,h4,Result.andThen_ok,loadVar_run vs hu hD hi hsz (hc w' hs),Result.andThen_ok],_,L',rfl,hp,hent w' hs⟩
end
theorem loadVar_run1 {P:Program} {t:TypeId} {D:TypeDesc} {p:Addr} {v:Value} {w:World} (hu:P.underlying t=some D) (hD:aggD D=false) (hc:w.cell? p=some v):(loadVar t p).run P w= .ok v w:=by
 have hag:(isAgg t).run P w= .ok false w:=by
  simp only[isAgg,Sem.run_bind,run_underlying hu,Result.andThen_ok]
  cases D<;>first|rfl|(simp[aggD] at hD)
 have hl:(Go.load p).run P w= .ok v w:=by simp[Go.load,Sem.run,hc]
 simp only[loadVar,Sem.run_bind,Sem.run_pure,Result.andThen_ok,hag,Bool.false_eq_true,if_false,hl]
theorem results_cell2 {fn:Func} {p p2:Tmp} {ty ty2:TypeId} (h:fn.results= #[.cell p ty,.cell p2 ty2]) {tmps:Array Value} {P:Program} {w:World} {a a2:Addr} {v v2:Value}
 (h1:tmps.getD p undef= .pointer (some a)) (h2:tmps.getD p2 undef= .pointer (some a2)) (h3:(loadVar ty a).run P w= .ok v w) (h4:(loadVar ty2 a2).run P w= .ok v2 w):(results fn tmps).run P w= .ok (.tuple #[v,v2]) w:=by
 have ha:(asAddr (.pointer (some a))).run P w= .ok a w:=by simp[asAddr]
 have ha2:(asAddr (.pointer (some a2))).run P w= .ok a2 w:=by simp[asAddr]
 have h1':tmps[p]?.getD undef= .pointer (some a):=by simpa using h1
 have h2':tmps[p2]?.getD undef= .pointer (some a2):=by simpa using h2
 simp only[results,h]
 simp[Sem.run_bind,h1',h2',ha,ha2,h3,h4,Result.andThen]
section
variable {P:Program} {N:Nat} {fn:Func} {I:Ids} {L L':List Assn} {E:Env} {v v1 v2:Value} {t t1 t2:Tmp} {w:World} {post:Value→List Assn→Prop}
theorem KV.retM2 {D:Nat} {ty ty2:TypeId} {T T2:TypeDesc} {b o b2 o2:Nat} {ze:Value} {sz by_:Nat} (vs:List Value) (k:Nat) (hr:fn.results= #[.cell t ty,.cell t2 ty2]) (hv:get E t=some (.pointer (some ⟨b,o,none⟩))) (hv2:get E t2=some (.pointer (some ⟨b2,o2,none⟩))) (hu:P.underlying ty=some T) (hD:aggD T=true) (hi:TI P ty ze sz by_) (hsz:vs.length=sz)
 (hu2:P.underlying ty2=some T2) (hD2:aggD T2=false) (hk:L[k]?=some (Blk D (.deferred (some []))))
 (hc: ∀w',Hp I w (L.set k (Blk D (.deferred none))) w'→ ∀j v,vs[j]?=some v→w'.cell? ⟨b,o+j,none⟩=some v) (hc2: ∀w',Hp I w (L.set k (Blk D (.deferred none))) w'→w'.cell? ⟨b2,o2,none⟩=some v2)
 (L') (hent: ∀w',Hp I w (L.set k (Blk D (.deferred none))) w'→Hp I w L' w') (hp:post (.tuple #[.agg vs.toArray,v2]) L'):
 KV ⟨N,[mk D]⟩ (bodyPostM Fence.wide 0 P fn (fun e w'=> ∃v L',e= .returned v∧post v L'∧Hp I w L' w') .ret) E (Hp I w L):=fun a w' hf hs=>by
 have hput:=hs.put (.deferred none) hk
 show LeavesInM Fence.wide 0 P fn a.tmps _ a.defers .returning w'
 rw[hf.defers]
 refine⟨(fun h=>by cases h),.inl ⟨D,_,rfl,run_takeDeferred (hs.blk k hk),?_⟩⟩
 refine⟨.tuple #[.agg vs.toArray,v2],?_,_,L',rfl,hp,hent _ hput⟩
 exact results_cell2 hr (by simp[hf.slot t _ hv]) (by simp[hf.slot t2 _ hv2]) (loadVar_run vs hu hD hi hsz (hc _ hput)) (loadVar_run1 hu2 hD2 (hc2 _ hput))
end
def Bun (M:List Assn):Assn where
 sat w I:=Sep M I w
 lt h x hx:=h.lt x hx
 keep h hk:=h.keep hk
section
variable {I0:Ids} {w0 w:World} {L M R:List Assn} {k:Nat}
theorem Hp.bun (h:Hp I0 w0 (M++R) w):Hp I0 w0 (Bun M::R) w:=h.bundle (A:=Bun M) fun _ hi=>hi
theorem Hp.unbun (h:Hp I0 w0 (Bun M::R) w):Hp I0 w0 (M++R) w:=h.splice (k:=0) (M:=M) rfl fun _ hi=>hi
theorem picks_all: ∀(O F:List Assn),picks (List.replicate O.length 0) (O++F)=some (O,F)
 |[],F=>rfl
 |A::O,F=>by
  show picks (0::List.replicate O.length 0) (A::(O++F))=_
  simp[picks,picks_all O F]
end
section
variable {P:Program} {l:Nat} {vs:List Value} {w:World} {ro:Ids} {post post':Value→List Assn→Prop} {M:List Assn}
theorem Sep.ofBun {I:Ids} (h:Sep [Bun M] I w):Sep M I w:=by
 obtain⟨i,j,h1,h2,h3,h4⟩:=h
 exact Sep.ext h3 fun x=>⟨fun hx=>(h1 x).2 (.inl hx),fun hx=>((h1 x).1 hx).elim id fun hj=>absurd hj (h4 x)⟩
theorem RoundFx.bun (h:RoundFx P l vs w M ro post') (hp: ∀v L',post' v L'→post v [Bun L']):RoundFx P l vs w [Bun M] ro post:=fun I hI hro=>by
 obtain⟨fn,tmps,assign,body,h1,h2⟩:=h I (Sep.ofBun hI) hro
 refine⟨fn,tmps,assign,body,h1,RoundIn.mono (F:=Fence.wide) h2 ?_⟩
 rintro e w' ⟨v,L',rfl,h3,h4⟩
 exact⟨v,_,rfl,hp v L' h3,(show Hp I w (L'++[]) w' by rw[List.append_nil];exact h4).bun⟩
theorem RoundFx.ofWalkN {E:Env} {Own:List Assn} {k n:Nat} {r:Loop} (hn:r.tmps.size=n) (hk:Own[k]?=some (Blk l (.loop r))) (hst:r.state= .ready) (hsz:vs.length=r.params.size)
 (h: ∀I,(∀b,ro b→ ¬I b)→CI (some l) P ⟨n,[]⟩ r.assign (Exit.then (fun a w1=> ∃w2,(Instr.beginRound l).run P w1= .ok () w2∧r.body.wpIn (fen (some l)) 0 P (roundPost P l (fun e w'=> ∃v L',e= .returned v∧post v L'∧Hp I w L' w')) a w2) (fun _ _ _=>False)) E (Hp I w Own))
 (hE:Fits ⟨n,[]⟩ {tmps:=((r.params.zip vs.toArray).foldl (fun tmps (t,a)=>tmps.setIfInBounds t a) r.tmps),defers:=[]} E):RoundFx P l vs w Own ro post:=by
 subst hn
 exact RoundFx.ofWalk hk hst hsz h hE
end
section
variable {P:Program} {N:NN} {Q:Exit→Act→World→Prop} {E:Env} {I0:Ids} {w0:World} {L:List Assn}
theorem CV.rangeFuncB (ro:Ids) {gt:Nat} {ps:Array Tmp} {assign body:Code} {f:FuncId} {fn':Func} {caps:List Value} (hx:get E gt=some (.func (.func f) #[] caps.toArray))
 (hfn:P.funcs[f]?=some fn') (hbody:fn'.body.isSome=true) (hname:(fn'.name== "runtime.NumGoroutine")=false)
 (spec: ∀(fn D l:Nat) (tm:Array Value) (rc:Loop),rc=recL fn tm ps assign body D→Fits ⟨N.n,[]⟩ {tmps:=tm,defers:=[]} E→ ∃Own F post,
  (∀w,Hp I0 w0 (L++[Blk D (.deferred (some [])),Blk l (.loop rc)]) w→Hp I0 w0 (Own++F) w)∧
  (∀b,ro b→RoOk I0 w0 F b)∧(∀w,Hp I0 w0 (Own++F) w→Fx P f (.func (.yield l) #[] #[]::caps) w Own ro post)∧
  ∀v L',post v L'→ ∃r L2 k,(∀w,Hp I0 w0 (F++L') w→Hp I0 w0 L2 w)∧L2[k]?=some (Blk l (.loop r))∧r.state≠ .busy∧
   ((r.pending=none∧KV ⟨N.n,mk D::N.D⟩ (Q .normal) E (Hp I0 w0 (L2.set k (Blk l (.loop {r with state:= .exhausted})))))∨
    (r.pending=some .ret∧KV ⟨N.n,mk D::N.D⟩ (Q .ret) E (Hp I0 w0 (L2.set k (Blk l (.loop {r with state:= .exhausted}))))))):
 CV P N (.rangeFunc (.tmp gt) ps assign body) Q E (Hp I0 w0 L):=fun a w hf hs=>by
 refine(wpIn_wide (n:=0)).1 (wpIn_rangeFunc fun fn _=>?_)
 have hfit:Fits ⟨N.n,[]⟩ {tmps:=a.tmps,defers:=[]} E:=⟨rfl,hf.size,hf.slot⟩
 have hbn:fn'.body.isNone=false:=by cases h:fn'.body<;>simp_all
 have hn1: ¬fn'.name= "runtime.NumGoroutine":=by simpa using hname
 have hn2: ¬fn'.body=none:=by intro h;rw[h] at hbn;simp at hbn
 obtain⟨Own,F,post,hent,hro,hspec,hend⟩:=spec fn w.heap.size (w.heap.size+1) a.tmps _ rfl hfit
 have hs1:Hp I0 w0 (L++[Blk w.heap.size (.deferred (some []))]) (w.alloc (.deferred (some []))):=hs.alloc rfl rfl rfl rfl
 have hs2:Hp I0 w0 (L++[Blk w.heap.size (.deferred (some [])),Blk (w.heap.size+1) (.loop (recL fn a.tmps ps assign body w.heap.size))]) ((w.alloc (.deferred (some []))).alloc (.loop (recL fn a.tmps ps assign body w.heap.size))):=by
  have:=hs1.alloc (w':=(w.alloc (.deferred (some []))).alloc (.loop (recL fn a.tmps ps assign body w.heap.size))) rfl rfl rfl rfl
  rw[List.append_assoc,World.size_alloc] at this
  exact this
 have hs3:=hent _ hs2
 have hgv:a.eval (.tmp gt)= .func (.func f) #[] caps.toArray:=hf.ev (x:= .tmp gt) hx
 refine⟨w.heap.size+1,[mk w.heap.size],((w.alloc (.deferred (some []))).alloc (.loop (recL fn a.tmps ps assign body w.heap.size))),⟨.fn (.func f) caps.toArray,#[.func (.yield (w.heap.size+1)) #[] #[]]⟩,((w.alloc (.deferred (some []))).alloc (.loop (recL fn a.tmps ps assign body w.heap.size))),f,(.func (.yield (w.heap.size+1)) #[] #[]::caps).toArray,((w.alloc (.deferred (some []))).alloc (.loop (recL fn a.tmps ps assign body w.heap.size))),run_enterLoop_outer fn a.tmps ps assign body,?_,fun _ _=>trivial,?_,fun hh=>(by cases hh),callsIn_wide.2 ?_⟩
 ·have hc:a.eval (.const (.func (.yield (w.heap.size+1)) #[] #[]))= .func (.yield (w.heap.size+1)) #[] #[]:=rfl
  simp[resolve,Deferred.ofValue,hgv,hc]
 ·simp[invoke,callFunc,hfn,hn1,hn2]
 ·refine(Calls.frame (picks_all Own F) hs3 hro (hspec _ hs3)).mono ?_
  rintro e w3 ⟨v,L',rfl,hpost,hhp⟩
  obtain⟨r,L2,k,hent2,hk,hst,hcase⟩:=hend v L' hpost
  have hhp2:=hent2 _ hhp
  have hb:=hhp2.blk k hk
  have hput:=hhp2.put (Obj.loop {r with state:= .exhausted}) hk
  have hf2:Fits ⟨N.n,mk w.heap.size::N.D⟩ {a with defers:=[mk w.heap.size]++a.defers} E:=⟨by show[mk w.heap.size]++a.defers=_;rw[hf.defers];rfl,hf.size,hf.slot⟩
  rcases hcase with ⟨h1,h2⟩|⟨h1,h2⟩
  ·exact⟨none,w3.putObj (w.heap.size+1) (Obj.loop {r with state:= .exhausted}),(run_endLoop hb hst).trans (congrArg (fun j=>Result.ok j (w3.putObj (w.heap.size+1) (Obj.loop {r with state:= .exhausted}))) h1),h2 _ _ hf2 hput⟩
  ·exact⟨some .ret,w3.putObj (w.heap.size+1) (Obj.loop {r with state:= .exhausted}),(run_endLoop hb hst).trans (congrArg (fun j=>Result.ok j (w3.putObj (w.heap.size+1) (Obj.loop {r with state:= .exhausted}))) h1),wpIn_ret (h2 _ _ hf2 hput)⟩
end
theorem Fits.one {n d:Nat} {tm:Array Value} {E:Env} (v:Value) (h:Fits ⟨n,[]⟩ {tmps:=tm,defers:=[]} E) (hN:Nat.blt d n=true):Fits ⟨n,[]⟩ {tmps:=((#[d].zip [v].toArray).foldl (fun tmps (t,a)=>tmps.setIfInBounds t a) tm),defers:=[]} (set E d v):=by
 have:=h.put v hN
 simpa[Act.put] using this
end Go.Sv
namespace Go.Sv
open Go.ChangeShapes Go.WideShapes Go.Deep Go.RowKit
theorem Fx.topR {P:Program} {f:FuncId} {vs:List Value} {w:World} {L:List Assn} {ro:Ids} (h:Fx P f vs w [] ro (fun v L'=>v= .bool true∧L'=L)):
 Calls P f vs.toArray w (fun e w'=>e= .returned (.bool true)∧Below w.heap.size w w'):=by
 refine(h (fun _=>False) (fun _ h=>h) (fun _ _ h=>h)).mono ?_
 rintro e w' ⟨v,L',rfl,⟨rfl,_⟩,_,_,hx,_⟩
 exact⟨rfl,hx.os,hx.tape,hx.output,hx.size,fun x hx'=>hx.block x hx' (fun h=>h)⟩
section
variable {H:Type} {enc:TypeId×Value→H} {P:Program} {w:World} {base:Nat} {spare:Nat→Bool} {held:Bool}
theorem open_rs {α:Type} (K:Enc α) (G:α→Prop) {t e:TypeId} {fuel:Nat} {cs:List Value} {x:DataW H×List MemPlace} (ht:P.underlying t=some (.slice e)) (hsz:P.cellsOf e=K.sz)
 (hel: ∀n cs' y,DataW.trod enc P w base spare held n e cs'=some y→ ∃a:α,cs'=K.f a∧G a) (h:DataW.trod enc P w base spare held fuel t cs=some x):
 ∃(A:Option Addr) (n c:Nat) (ys:List α),cs=[.slice A n c]∧ys.length=n∧RS w K A ys∧ ∀i,i<n→G (ys.getD i K.d):=by
 rcases open_slice ht h with ⟨h0,_⟩|⟨a,len,cap,m,n,D,Pl,hcs,hb,hl,hm,hmm,hx,hi⟩
 ·exact⟨none,0,0,[],h0,rfl,.inl rfl,fun _ h=>absurd h (Nat.not_lt_zero _)⟩
 ·have hlm:len≤m:=by rw[hmm];split<;>omega
  obtain⟨ys,h1,h2,h3⟩:=RS.ofCells K G (w:=w) (a:=a) (len:=len) fun i hil=>by
   obtain⟨cs',hc,ht'⟩:=hi i (by omega)
   obtain⟨y,hy,hG⟩:=hel _ _ _ ht'
   obtain⟨_,hcl,hat⟩:=World.cells?_some hc
   refine⟨y,hG,fun j v hv=>?_⟩
   have hj:j<P.cellsOf e:=by
    rw[hsz,←K.len y]
    exact(List.getElem?_eq_some_iff.1 hv).1
   have:=hat j hj
   rw[hy,hv] at this
   rw[←Go.Deep.add_add,←hsz];exact this
  exact⟨some a,len,cap,ys,hcs,h1,h2,h3⟩
end
end Go.Sv
namespace Go.Sv
open Go
def bl (n m:Nat):Array Bool:=((List.range n).map fun i=>m.testBit i).toArray
section
variable {P:Program} {N:NN} {E:Env} {S S0:World→Prop} {ops:Array Oper} {Q:Exit→Act→World→Prop} {rest:List Oper} {KK:Act→World→Prop} {T:Act→World→Prop}
variable {d:Nat} {ty:TypeId} {pos:String} {af:Array Edge} {g:Option (Nat×Bool)} {x:Operand} {v:Value} {op:Op}
end
end Go.Sv
namespace Go.Sv
section
variable {N:NN} {K:Act→World→Prop} {E:Env} {S:World→Prop}
end
end Go.Sv
namespace Go.Sv
open Go
section
variable {P:Program} {N:NN} {E:Env} {I0:Ids} {w0:World} {L:List Assn} {ops:Array Oper} {Q:Exit→Act→World→Prop} {KK:Act→World→Prop}
variable {e:TypeId} {A:Option Addr} {c:Nat} {l l2:Bs} {x y:Operand} {d:Nat} {ty:TypeId} {pos:String} {af:Array Edge} {g:Option (Nat×Bool)}
end
end Go.Sv
namespace Go.Sv
section
variable {P:Program} {ops:Array Oper} {Q:Exit→Act→World→Prop} {md:Region.Mode} {S:World→Prop} {c:Nat}
def wpAnyC (P:Program) (md:Region.Mode) (ops:Array Oper) (Q:Exit→Act→World→Prop) (S:World→Prop) (c:Nat):Nat→Array Bool→Act→World→Prop
 |0,listed,a,w=>Region.ready md ops listed=[]∧Q .normal a w
 |fuel+1,listed,a,w=>(Region.ready md ops listed=[]→Q .normal a w)∧
  ∀i∈Region.ready md ops listed,wpOp P ops Q i (fun a' w'=>((listed.setIfInBounds i true).getD c false=true∨S w')∧wpAnyC P md ops Q S c fuel (listed.setIfInBounds i true) a' w') a w
theorem wpAny_of_C: ∀(fuel:Nat) (listed:Array Bool) (a:Act) (w:World),wpAnyC P md ops Q S c fuel listed a w→wpAny P md ops Q fuel listed a w
 |0,_,_,_,h=>h
 |fuel+1,_,_,_,h=>⟨h.1,fun i hi=>wpOp_mono (fun a' w' h'=>wpAny_of_C fuel _ a' w' h'.2) (h.2 i hi)⟩
def Down (ops:Array Oper) (md:Region.Mode) (listed:Array Bool):Prop:= ∀k o,ops[k]?=some o→listed.getD k false=true→ ∀e∈o.after,Region.binds md e=true→listed.getD e.on false=true
theorem Down.next {listed:Array Bool} {j:Nat} (h:Down ops md listed) (hj:j∈Region.ready md ops listed):Down ops md (listed.setIfInBounds j true):=fun k o ho hk e he hb=>by
 obtain⟨hjun,oj,hoj,hall⟩:=mem_ready.1 hj
 by_cases e1:j=k
 ·subst e1
  obtain rfl:=Option.some.inj (ho.symm.trans hoj)
  exact getD_set_true (hall e he hb)
 ·rw[getD_set_ne false e1] at hk
  exact getD_set_true (h k o ho hk e he hb)
inductive Waits (ops:Array Oper) (md:Region.Mode) (i:Nat):Nat→Prop
 |one {x:Nat} {o:Oper} {e:Edge}:ops[x]?=some o→e∈o.after→Region.binds md e=true→e.on=i→Waits ops md i x
 |more {x:Nat} {o:Oper} {e:Edge}:ops[x]?=some o→e∈o.after→Region.binds md e=true→Waits ops md i e.on→Waits ops md i x
theorem Waits.listed {listed:Array Bool} {i x:Nat} (h:Waits ops md i x) (hd:Down ops md listed) (hx:listed.getD x false=true):listed.getD i false=true:=by
 induction h with
 |one ho he hb hi=>rw[←hi];exact hd _ _ ho hx _ he hb
 |more ho he hb _ ih=>exact ih (hd _ _ ho hx _ he hb)
theorem Waits.not_ready {listed:Array Bool} {i x:Nat} (h:Waits ops md i x) (hd:Down ops md listed) (hr:x∈Region.ready md ops listed):listed.getD i false=true:=by
 obtain⟨_,o2,ho2,hall⟩:=mem_ready.1 hr
 cases h with
 |one ho he hb hi=>
  obtain rfl:=Option.some.inj (ho.symm.trans ho2)
  rw[←hi];exact hall _ he hb
 |more ho he hb hw=>
  obtain rfl:=Option.some.inj (ho.symm.trans ho2)
  exact hw.listed hd (hall _ he hb)
theorem wpAnyC_free {i:Nat} {oi:Oper} {v:Value} (hi:ops[i]?=some oi) (hne:c≠i) (hsel: ∀(j:Nat) (o:Oper) cs b,ops[j]?=some o→o.op≠ .select cs b)
 (hQ: ∀c a w,Q (.panic c) (a.put oi.dst v) w→Q (.panic c) a w):
 ∀(fuel:Nat) (listed:Array Bool) (a:Act) (w:World),
  (∀j oj,ops[j]?=some oj→j≠i→listed.getD j true=false→(∀e∈oj.after,Region.binds md e=true→e.on≠i)→oi.apart ops oj=true)→
  i∈Region.ready md ops listed→YieldsIf P ops (fun _=>True) oi v a→(listed.getD c false=true∨S w)→
  wpAnyC P md ops Q S c fuel (listed.setIfInBounds i true) (a.put oi.dst v) w→wpAnyC P md ops Q S c (fuel+1) listed a w:=by
 intro fuel
 induction fuel with
 |zero=>
  intro listed a w _ hr hy hS H
  refine⟨fun h=>(by rw[h] at hr;cases hr),fun j hj=>?_⟩
  by_cases hji:j=i
  ·subst hji;exact hy.wpOp hi trivial ⟨by rw[getD_set_ne false (Ne.symm hne)];exact hS,H⟩
  ·have:=ready_mono hj hji
   rw[H.1] at this
   cases this
 |succ fuel ih=>
  intro listed a w hfree hr hy hS H
  refine⟨fun h=>(by rw[h] at hr;cases hr),fun j hj=>?_⟩
  by_cases hji:j=i
  ·subst hji;exact hy.wpOp hi trivial ⟨by rw[getD_set_ne false (Ne.symm hne)];exact hS,H⟩
  ·have h1:=H.2 j (ready_mono hj hji)
   obtain⟨hjun,oj,hoj,hall⟩:=mem_ready.1 hj
   have hnot: ∀e∈oj.after,Region.binds md e=true→e.on≠i:=fun e he hb heq=>by
    have h1:=hall e he hb
    have h0:=(mem_ready.1 hr).1
    rw[heq] at h1
    rcases Nat.lt_or_ge i listed.size with h'|h'
    ·simp[h'] at h0 h1;rw[h0] at h1;cases h1
    ·simp[Array.getElem?_eq_none h'] at h1
   have h2:=wpOp_putIf hoj (hfree j oj hoj hji hjun hnot) (fun cs b=>hsel i oi cs b hi) (fun cs b=>hsel j oj cs b hoj) hQ hy h1
   have hfree': ∀k ok,ops[k]?=some ok→k≠i→(listed.setIfInBounds j true).getD k true=false→
    (∀e∈ok.after,Region.binds md e=true→e.on≠i)→oi.apart ops ok=true:=fun k ok hk hki hun hno=>by
    refine hfree k ok hk hki ?_ hno
    by_cases hjk:j=k
    ·subst hjk;exact hjun
    ·rw[getD_set_ne true hjk] at hun;exact hun
   have hl2:((listed.setIfInBounds i true).setIfInBounds j true).getD c false=(listed.setIfInBounds j true).getD c false:=by
    rw[Array.setIfInBounds_comm _ _ (Ne.symm hji),getD_set_ne false (Ne.symm hne)]
   refine wpOp_mono (fun a' w' h3=>?_) h2
   have hS':(listed.setIfInBounds j true).getD c false=true∨S w':=by rw[←hl2];exact h3.2.1
   refine⟨hS',ih (listed.setIfInBounds j true) a' w' hfree' (ready_mono hr (Ne.symm hji)) h3.1 hS' ?_⟩
   rw[Array.setIfInBounds_comm _ _ hji]
   exact h3.2.2
theorem wpAnyC_first {i:Nat} {oi:Oper} {v:Value} (hi:ops[i]?=some oi) (hci:Waits ops md i c) (hne:c≠i) (hsel: ∀(j:Nat) (o:Oper) cs b,ops[j]?=some o→o.op≠ .select cs b)
 (hQ: ∀c a w,Q (.panic c) (a.put oi.dst v) w→Q (.panic c) a w):
 ∀(fuel:Nat) (listed:Array Bool) (a:Act) (w:World),
  (∀j oj,ops[j]?=some oj→j≠i→listed.getD j true=false→(∀e∈oj.after,Region.binds md e=true→e.on≠i)→oi.apart ops oj=true)→
  i∈Region.ready md ops listed→Down ops md listed→listed.getD c false=false→YieldsIf P ops S oi v a→S w→
  wpAnyC P md ops Q S c fuel (listed.setIfInBounds i true) (a.put oi.dst v) w→wpAnyC P md ops Q S c (fuel+1) listed a w:=by
 intro fuel
 induction fuel with
 |zero=>
  intro listed a w _ hr hd hlc hy hS H
  refine⟨fun h=>(by rw[h] at hr;cases hr),fun j hj=>?_⟩
  by_cases hji:j=i
  ·subst hji;exact hy.wpOp hi hS ⟨.inr hS,H⟩
  ·have:=ready_mono hj hji
   rw[H.1] at this
   cases this
 |succ fuel ih=>
  intro listed a w hfree hr hd hlc hy hS H
  refine⟨fun h=>(by rw[h] at hr;cases hr),fun j hj=>?_⟩
  by_cases hji:j=i
  ·subst hji;exact hy.wpOp hi hS ⟨.inr hS,H⟩
  ·have h1:=H.2 j (ready_mono hj hji)
   obtain⟨hjun,oj,hoj,hall⟩:=mem_ready.1 hj
   have hnot: ∀e∈oj.after,Region.binds md e=true→e.on≠i:=fun e he hb heq=>by
    have h1:=hall e he hb
    have h0:=(mem_ready.1 hr).1
    rw[heq] at h1
    rcases Nat.lt_or_ge i listed.size with h'|h'
    ·simp[h'] at h0 h1;rw[h0] at h1;cases h1
    ·simp[Array.getElem?_eq_none h'] at h1
   have hjc:j≠c:=fun e=>by
    subst e
    have h4:=hci.not_ready hd hj
    have h0:=(mem_ready.1 hr).1
    rcases Nat.lt_or_ge i listed.size with h'|h'
    ·simp[h'] at h0 h4;rw[h0] at h4;cases h4
    ·simp[Array.getElem?_eq_none h'] at h4
   have h2:=wpOp_putIf hoj (hfree j oj hoj hji hjun hnot) (fun cs b=>hsel i oi cs b hi) (fun cs b=>hsel j oj cs b hoj) hQ hy h1
   have hfree': ∀k ok,ops[k]?=some ok→k≠i→(listed.setIfInBounds j true).getD k true=false→
    (∀e∈ok.after,Region.binds md e=true→e.on≠i)→oi.apart ops ok=true:=fun k ok hk hki hun hno=>by
    refine hfree k ok hk hki ?_ hno
    by_cases hjk:j=k
    ·subst hjk;exact hjun
    ·rw[getD_set_ne true hjk] at hun;exact hun
   have hl2:((listed.setIfInBounds i true).setIfInBounds j true).getD c false=false:=by
    rw[getD_set_ne false hjc,getD_set_ne false (Ne.symm hne)];exact hlc
   have hl3:(listed.setIfInBounds j true).getD c false=false:=by rw[getD_set_ne false hjc];exact hlc
   refine wpOp_mono (fun a' w' h3=>?_) h2
   have hS':S w':=by
    rcases h3.2.1 with h4|h4
    ·rw[hl2] at h4;cases h4
    ·exact h4
   refine⟨.inr hS',ih (listed.setIfInBounds j true) a' w' hfree' (ready_mono hr (Ne.symm hji)) (hd.next hj) hl3 h3.1 hS' ?_⟩
   rw[Array.setIfInBounds_comm _ _ hji]
   exact h3.2.2
def reachB (ops:Array Oper) (md:Region.Mode) (i:Nat):Nat→Nat→Bool
 |0,_=>false
 |n+1,x=>match ops[x]? with
  |some o=>o.after.any (fun e=>Region.binds md e&&(e.on==i||reachB ops md i n e.on))
  |none=>false
theorem reachB_spec {i:Nat}: ∀(n x:Nat),reachB ops md i n x=true→Waits ops md i x
 |0,_,h=>by cases h
 |n+1,x,h=>by
  unfold reachB at h
  split at h
  ·rename_i o ho
   obtain⟨e,he,h3⟩:=Array.any_eq_true'.1 h
   rw[Bool.and_eq_true,Bool.or_eq_true] at h3
   rcases h3.2 with h4|h4
   ·exact .one ho he h3.1 (by simpa using h4)
   ·exact .more ho he h3.1 (reachB_spec n _ h4)
  ·cases h
def downB (ops:Array Oper) (md:Region.Mode) (listed:Array Bool):Bool:=(List.range ops.size).all fun k=>!listed.getD k false||(match ops[k]? with
 |some o=>o.after.all (fun e=>!Region.binds md e||listed.getD e.on false)
 |none=>true)
theorem downB_spec {listed:Array Bool} (h:downB ops md listed=true):Down ops md listed:=fun k o ho hk e he hb=>by
 unfold downB at h
 have h1:=List.all_eq_true.1 h k (by have:=(Array.getElem?_eq_some_iff.1 ho).1;simpa using this)
 rw[hk,ho] at h1
 simp only[Bool.not_true,Bool.false_or] at h1
 have h2:=Array.all_eq_true_iff_forall_mem.1 h1 e he
 rw[hb] at h2
 simpa using h2
end
section
variable {P:Program} {N:NN} {ops:Array Oper} {Q:Exit→Act→World→Prop} {E:Env} {S S0:World→Prop} {c:Nat}
def AC (P:Program) (N:NN) (ops:Array Oper) (Q:Exit→Act→World→Prop) (S0:World→Prop) (c:Nat) (fuel:Nat) (listed:Array Bool) (E:Env) (S:World→Prop):Prop:=KV N (wpAnyC P .any ops Q S0 c fuel listed) E S
theorem CV.anyC {id:Nat} {l:List Oper} (S0:World→Prop) (c:Nat) (hm:P.follows .mixedOrders=true) (hd: ∀w,S w→S w.drew) (n:Nat) (hn:l.length=n) (h:AC P N l.toArray Q S0 c n (Array.replicate n false) E S):CV P N (.region id l.toArray true) Q E S:=
 fun a w hf hs=>wp_region_any hm (wpAny_of_C _ _ _ _ (by subst hn;have:=h a w.drew hf (hd w hs);simpa using this))
theorem AC.take (i:Nat) {d:Nat} {v:Value} {op:Op} {ty:TypeId} {pos:String} {af:Array Edge} {g:Option (Nat×Bool)} {fuel:Nat} {listed:Array Bool} (listed':Array Bool) (hi:ops[i]?=some ⟨some d,op,ty,pos,af,g⟩)
 (hs:Region.noSelect ops=true) (hfr:Region.free .any ops listed i=true) (hr:(Region.ready .any ops listed).contains i=true) (hw:reachB ops .any i 8 c=true) (hd:downB ops .any listed=true) (hne:(c !=i)=true) (hlc:listed.getD c false=false)
 (hQ: ∀c a w,Q (.panic c) (a.put (some d) v) w→Q (.panic c) a w) (hg:Yes N ops ⟨some d,op,ty,pos,af,g⟩ E) (h:Step P N E S0 ⟨some d,op,ty,pos,af,g⟩ v) (hN:Nat.blt d N.n=true) (hS: ∀w,S w→S0 w)
 (hl:listed.setIfInBounds i true=listed') (k:AC P N ops Q S0 c fuel listed' (set E d v) S):AC P N ops Q S0 c (fuel+1) listed E S:=fun a w hf hs'=>by
 subst hl
 exact wpAnyC_first hi (reachB_spec _ _ hw) (by simpa using hne) (Region.noSelect_spec hs) hQ fuel listed a w (Region.free_spec hi hfr) (by simpa using hr) (downB_spec hd) hlc (.inl ⟨hg a hf,fun w' hw'=>h a w' hf hw'⟩) (hS w hs') (k _ w (hf.put v hN) hs')
theorem AC.takeT (i:Nat) {d:Nat} {v:Value} {op:Op} {ty:TypeId} {pos:String} {af:Array Edge} {g:Option (Nat×Bool)} {fuel:Nat} {listed:Array Bool} (listed':Array Bool) (hi:ops[i]?=some ⟨some d,op,ty,pos,af,g⟩)
 (hs:Region.noSelect ops=true) (hfr:Region.free .any ops listed i=true) (hr:(Region.ready .any ops listed).contains i=true) (hne:(c !=i)=true)
 (hQ: ∀c a w,Q (.panic c) (a.put (some d) v) w→Q (.panic c) a w) (hg:Yes N ops ⟨some d,op,ty,pos,af,g⟩ E) (h:Step P N E (fun _=>True) ⟨some d,op,ty,pos,af,g⟩ v) (hN:Nat.blt d N.n=true) (hS: ∀w,S w→S0 w)
 (hl:listed.setIfInBounds i true=listed') (k:AC P N ops Q S0 c fuel listed' (set E d v) S):AC P N ops Q S0 c (fuel+1) listed E S:=fun a w hf hs'=>by
 subst hl
 exact wpAnyC_free hi (by simpa using hne) (Region.noSelect_spec hs) hQ fuel listed a w (Region.free_spec hi hfr) (by simpa using hr) (.inl ⟨hg a hf,fun w' hw'=>h a w' hf hw'⟩) (.inr (hS w hs')) (k _ w (hf.put v hN) hs')
def AllC (P:Program) (N:NN) (ops:Array Oper) (Q:Exit→Act→World→Prop) (S0:World→Prop) (c:Nat) (fuel:Nat) (listed:Array Bool) (E:Env) (S:World→Prop):List Nat→Prop
 |[]=>True
 |i::r=>(∃o,ops[i]?=some o∧OV P N ops Q o E S (fun a' w'=>((listed.setIfInBounds i true).getD c false=true∨S0 w')∧wpAnyC P .any ops Q S0 c fuel (listed.setIfInBounds i true) a' w'))∧AllC P N ops Q S0 c fuel listed E S r
theorem AllC.mem {fuel:Nat} {listed:Array Bool}: ∀ {rs:List Nat},AllC P N ops Q S0 c fuel listed E S rs→ ∀i∈rs,∃o,ops[i]?=some o∧OV P N ops Q o E S (fun a' w'=>((listed.setIfInBounds i true).getD c false=true∨S0 w')∧wpAnyC P .any ops Q S0 c fuel (listed.setIfInBounds i true) a' w')
 |[],_,i,hi=>by cases hi
 |j::r,h,i,hi=>by
  rcases List.mem_cons.1 hi with rfl|hi
  ·exact h.1
  ·exact AllC.mem h.2 i hi
theorem AC.all {fuel:Nat} {listed:Array Bool} (rs:List Nat) (hr:Region.ready .any ops listed=rs) (hne:rs≠[]) (h:AllC P N ops Q S0 c fuel listed E S rs):AC P N ops Q S0 c (fuel+1) listed E S:=fun a w hf hs=>by
 refine⟨fun h0=>absurd (hr▸h0) hne,fun i hi=>?_⟩
 rw[hr] at hi
 obtain⟨o,ho,hov⟩:=h.mem i hi
 have:=hov a w hf hs
 unfold wpOp
 simp only[ho]
 split
 ·rename_i hw;rw[if_pos hw] at this;exact .inl this
 ·rename_i hw;rw[if_neg hw] at this;exact this
theorem AC.next {fuel:Nat} {listed:Array Bool} {i:Nat} (listed':Array Bool) (hl:listed.setIfInBounds i true=listed') (hS:listed'.getD c false=true∨ ∀w,S w→S0 w) (k:AC P N ops Q S0 c fuel listed' E S):
 KV N (fun a' w'=>((listed.setIfInBounds i true).getD c false=true∨S0 w')∧wpAnyC P .any ops Q S0 c fuel (listed.setIfInBounds i true) a' w') E S:=fun a w hf hs=>by
 subst hl
 exact⟨hS.imp id fun h=>h w hs,k a w hf hs⟩
theorem AC.done {fuel:Nat} {listed:Array Bool} (hr:Region.ready .any ops listed=[]) (h:KV N (Q .normal) E S):AC P N ops Q S0 c fuel listed E S:=fun a w hf hs=>by
 cases fuel with
 |zero=>exact⟨hr,h a w hf hs⟩
 |succ n=>exact⟨fun _=>h a w hf hs,by rw[hr];simp⟩
end
section
variable {P:Program} {N:NN} {ops:Array Oper} {Q:Exit→Act→World→Prop} {E:Env} {S S0:World→Prop} {c:Nat}
end
section
variable {P:Program} {N:NN} {ops:Array Oper} {Q:Exit→Act→World→Prop} {E E0:Env} {S S0 S1:World→Prop} {c:Nat}
variable {d:Nat} {v:Value} {op:Op} {ty:TypeId} {pos:String} {af:Array Edge} {g:Option (Nat×Bool)}
end
section
variable {P:Program} {N:NN} {ops:Array Oper} {Q:Exit→Act→World→Prop} {E E0:Env} {S S0 S1:World→Prop}
theorem AV.cutAt {α:Type} {fuel:Nat} {listed:Array Bool} (lt:Array Bool) (ft:Nat) (G:α→Env) (T:α→World→Prop) (ht: ∀z,AV P N ops Q S0 ft lt (G z) (T z)) (hm:(∀z,AV P N ops Q S0 ft lt (G z) (T z))→AV P N ops Q S0 fuel listed E S):AV P N ops Q S0 fuel listed E S:=hm ht
theorem AV.to {fuel:Nat} {listed:Array Bool} (h:AV P N ops Q S0 fuel listed E0 S1) (hE:Sub E0 E) (hS: ∀w,S w→S1 w):AV P N ops Q S0 fuel listed E S:=KV.env _ hE (KV.heap hS h)
structure G5 where
 a:Option Addr
 b:Option Addr
 c:Option Addr
 d:Option Addr
 e:Option Addr
 n:Nat
end
end Go.Sv
namespace Go.Sv
open Go
def naggB:Option TypeDesc→Bool
 |some D=>!aggD D
 |none=>false
def aggB:Option TypeDesc→Bool
 |some D=>aggD D
 |none=>false
class UN (P:Program) (t:TypeId):Prop where
 b:naggB (P.underlying t)=true:=by kernel_rfl
theorem UN.h {P:Program} {t:TypeId} (c:UN P t): ∃D,P.underlying t=some D∧aggD D=false:=by
 have h:=c.b
 cases e:P.underlying t with
 |none=>rw[e] at h;cases h
 |some D=>rw[e] at h;exact⟨D,rfl,by simpa[naggB] using h⟩
class UA (P:Program) (t:TypeId):Prop where
 b:aggB (P.underlying t)=true:=by kernel_rfl
theorem UA.h {P:Program} {t:TypeId} (c:UA P t): ∃D,P.underlying t=some D∧aggD D=true:=by
 have h:=c.b
 cases e:P.underlying t with
 |none=>rw[e] at h;cases h
 |some D=>rw[e] at h;exact⟨D,rfl,by simpa[aggB] using h⟩
class US (P:Program) (t:TypeId) (e:outParam TypeId):Prop where
 h:P.underlying t=some (.slice e):=by kernel_rfl
class UStr (P:Program) (t:TypeId):Prop where
 h:P.underlying t=some .string:=by kernel_rfl
class Inf (P:Program) (t:TypeId) (z:outParam Value) (sz by_:outParam Nat):Prop where
 h:TI P t z sz by_:=by unfold Go.Sv.TI;kernel_rfl
class Fld (P:Program) (t j:Nat) (off:outParam Nat):Prop where
 h: ∀(b o:Nat) (w:World),(Instr.fieldAt t (.pointer (some ⟨b,o,none⟩)) j).run P w= .ok (.pointer (some ⟨b,o+off,none⟩)) w:=by intro b o w;kernel_rfl
class Fnc (P:Program) (f:FuncId) (fn:outParam Func) (nt:outParam Nat):Prop where
 f:P.funcs[f]?=some fn:=by kernel_rfl
 b:fn.body.isSome=true:=by kernel_rfl
 n:(fn.name== "runtime.NumGoroutine")=false:=by kernel_rfl
 t:fn.ntmps=nt:=by kernel_rfl
end Go.Sv
namespace Go.Tk
open Go Go.Sv
section
variable {P:Program} {N:NN} {E:Env} {S S0:World→Prop} {ops:Array Oper} {Q:Exit→Act→World→Prop} {rest:List Oper} {KK:Act→World→Prop} {T:Act→World→Prop}
variable {d:Nat} {ty:TypeId} {pos:String} {af:Array Edge} {g:Option (Nat×Bool)} {x y z:Operand} {v u:Value} {op:Op} {t:TypeId} {D:TypeDesc}
variable {I0:Ids} {w0:World} {L:List Assn} {α:Type} {K:Enc α} {A B:Option Addr} {ys zs:List α} {e:TypeId} {c:Nat}
variable {dd:Option Nat}
theorem Tm (hx:ev E x=some v):Step P N E S ⟨dd,.move x,ty,pos,af,g⟩ v:=Step.move hx
theorem Ta (hx:ev E x=some v):Step P N E S ⟨dd,.assign x,ty,pos,af,g⟩ v:=Step.assign hx
theorem Tq {p:Addr} (hx:ev E x=some (.pointer (some p))):Step P N E S ⟨dd,.nilCheck x,ty,pos,af,g⟩ (.pointer (some p)):=Step.nilCheck hx
theorem Tf {j off b o:Nat} [c:Fld P t j off] (hx:ev E x=some (.pointer (some ⟨b,o,none⟩))):Step P N E S ⟨dd,.fieldAddr t x j,ty,pos,af,g⟩ (.pointer (some ⟨b,o+off,none⟩)):=Step.fieldAddr hx (c.h b o)
theorem Tl (k:Nat) {b o:Nat} {cs:Array Value} {te:TypeId} {fz:Nat×Nat} [c:UN P t] (hx:ev E x=some (.pointer (some ⟨b,o,none⟩))) (hk:L[k]?=some (Blk b (.cells cs te fz))) (hv:cs.toList[o]?=some v):
 Step P N E (Hp I0 w0 L) ⟨dd,.load t x,ty,pos,af,g⟩ v:=let ⟨_,h1,h2⟩:=c.h;Step.load h1 h2 hx fun w h=>h.cell k hk hv
theorem Tc {p:Addr} [c:UN P t] (hx:ev E x=some (.pointer (some p))) (hc: ∀w,S w→w.cell? p=some v):Step P N E S ⟨dd,.load t x,ty,pos,af,g⟩ v:=let ⟨_,h1,h2⟩:=c.h;Step.load h1 h2 hx hc
theorem Tw {b o:Nat} {ze:Value} {sz by_:Nat} {vs:List Value} [c:UA P t] [i:Inf P t ze sz by_] (hx:ev E x=some (.pointer (some ⟨b,o,none⟩))) (hc: ∀w,S w→ ∀j v,vs[j]?=some v→w.cell? ⟨b,o+j,none⟩=some v)
 (hsz:vs.length=sz:=by exact rfl):Step P N E S ⟨dd,.load t x,ty,pos,af,g⟩ (.agg vs.toArray):=let ⟨_,h1,h2⟩:=c.h;Step.loadN vs h1 h2 i.h hsz hx hc
theorem Ti {e:TypeId} {ze:Value} {sz by_ n:Nat} {k:IntKind} {i:Int} [cu:US P t e] [ci:Inf P e ze sz by_] (hs: ∀w,S w→RS w K A ys)
 (hx:ev E x=some (.slice A n c)) (hy:ev E y=some (.int k i)) (hn:n=ys.length) (m:Nat) (hm:i=(m:Int)) (hlt:m<ys.length) (hz:sz=K.sz:=by exact rfl):
 Step P N E S ⟨dd,.indexAddr t x y,ty,pos,af,g⟩ (.pointer (some ⟨bk A,of A+m* K.sz,none⟩)):=Step.idx cu.h (hz▸ci.h) hs hx hy hn m hm hlt
theorem Tn {b:Bool} (hx:ev E x=some (.bool b)):Step P N E S ⟨dd,.unOp .not t x,ty,pos,af,g⟩ (.bool (!b)):=Step.not hx
theorem Tx {vs:List Value} {j:Nat} (hx:ev E x=some (.tuple vs.toArray)) (hj:vs[j]?=some v):Step P N E S ⟨dd,.extract x j,ty,pos,af,g⟩ v:=Step.extract0 hx hj
theorem Tg {e:TypeId} {n:Nat} [cu:US P t e] (hx:ev E x=some (.slice A n c)):Step P N E S ⟨dd,.call ⟨.builtin .len,#[x],#[t]⟩,ty,pos,af,g⟩ (.int .i64 n):=Step.lenSl cu.h hx
theorem Tk [cu:UStr P t] {l:Bs} (hx:ev E x=some (.string (bs l))):Step P N E S ⟨dd,.call ⟨.builtin .len,#[x],#[t]⟩,ty,pos,af,g⟩ (.int .i64 l.length):=Step.lenStr cu.h hx
theorem Tt (hx:ev E x=some (.bool true)) (hy:ev E y=some v):Step P N E S ⟨dd,.pick x y z,ty,pos,af,g⟩ v:=Step.pick_t hx hy
theorem Tu (hx:ev E x=some (.bool false)) (hz:ev E z=some v):Step P N E S ⟨dd,.pick x y z,ty,pos,af,g⟩ v:=Step.pick_f hx hz
section
variable {k:IntKind} {m n r:Int} {t2:TypeId}
theorem Tadd (hx:ev E x=some (.int k m)) (hy:ev E y=some (.int k n)) (hr:k.wrap (m+n)=r:=by first|exact wI64 (by omega) (by omega)|exact wU64 (by omega) (by omega)|exact rfl):Step P N E S ⟨dd,.binOp .add t x y t2,ty,pos,af,g⟩ (.int k r):=Step.add hx hy hr
theorem Tsub (hx:ev E x=some (.int k m)) (hy:ev E y=some (.int k n)) (hr:k.wrap (m-n)=r:=by first|exact wI64 (by omega) (by omega)|exact wU64 (by omega) (by omega)|exact rfl):Step P N E S ⟨dd,.binOp .sub t x y t2,ty,pos,af,g⟩ (.int k r):=Step.sub hx hy hr
theorem Tmul (hx:ev E x=some (.int k m)) (hy:ev E y=some (.int k n)) (hr:k.wrap (m* n)=r:=by first|exact wI64 (by omega) (by omega)|exact wU64 (by omega) (by omega)|exact rfl):Step P N E S ⟨dd,.binOp .mul t x y t2,ty,pos,af,g⟩ (.int k r):=Step.mul hx hy hr
end
theorem Jr (h:Step P N E S ⟨some d,op,ty,pos,af,g⟩ v) (k:RV P N ops Q rest (set E d v) S) (hg:Yes N ops ⟨some d,op,ty,pos,af,g⟩ E:=by first|exact gno|exact gyes rfl) (hN:Nat.blt d N.n=true:=by exact rfl):
 RV P N ops Q (⟨some d,op,ty,pos,af,g⟩::rest) E S:=RV.op (OV.step hg h hN k)
theorem Jp {p:Addr} (hx:ev E x=some (.pointer (some p))) (k:RV P N ops Q rest (set E d (.pointer (some p))) S) (hg:Yes N ops ⟨some d,.nilCheck x,ty,pos,af,g⟩ E:=by first|exact gno|exact gyes rfl) (hN:Nat.blt d N.n=true:=by exact rfl):
 RV P N ops Q (⟨some d,.nilCheck x,ty,pos,af,g⟩::rest) E S:=Jr (Tq hx) k hg hN
theorem Jl (k:Nat) {b o:Nat} {cs:Array Value} {te:TypeId} {fz:Nat×Nat} [c:UN P t] (hx:ev E x=some (.pointer (some ⟨b,o,none⟩))) (hk:L[k]?=some (Blk b (.cells cs te fz))) (hv:cs.toList[o]?=some v)
 (kk:RV P N ops Q rest (set E d v) (Hp I0 w0 L)) (hg:Yes N ops ⟨some d,.load t x,ty,pos,af,g⟩ E:=by first|exact gno|exact gyes rfl) (hN:Nat.blt d N.n=true:=by exact rfl):
 RV P N ops Q (⟨some d,.load t x,ty,pos,af,g⟩::rest) E (Hp I0 w0 L):=Jr (Tl k hx hk hv) kk hg hN
theorem Jk {j:Nat} {b:Bool} (k:RV P N ops Q rest (set E d undef) S) (hg:wantsE ops E j=some (!b):=by exact rfl) (hN:Nat.blt d N.n=true:=by exact rfl):RV P N ops Q (⟨some d,op,ty,pos,af,some (j,b)⟩::rest) E S:=RV.op (OV.skip hg hN k)
section
variable {k:IntKind} {m n:Int} {t2:TypeId}
theorem Jlt (hx:ev E x=some (.int k m)) (hy:ev E y=some (.int k n)) (k1:m<n→RV P N ops Q rest (set E d (.bool true)) S) (k2: ¬m<n→RV P N ops Q rest (set E d (.bool false)) S)
 (hg:Yes N ops ⟨some d,.binOp .lss t x y t2,ty,pos,af,g⟩ E:=by first|exact gno|exact gyes rfl) (hN:Nat.blt d N.n=true:=by exact rfl):RV P N ops Q (⟨some d,.binOp .lss t x y t2,ty,pos,af,g⟩::rest) E S:=RV.op (OV.split hg (Step.lss hx hy) hN k1 k2)
theorem Jle (hx:ev E x=some (.int k m)) (hy:ev E y=some (.int k n)) (k1:m≤n→RV P N ops Q rest (set E d (.bool true)) S) (k2: ¬m≤n→RV P N ops Q rest (set E d (.bool false)) S)
 (hg:Yes N ops ⟨some d,.binOp .leq t x y t2,ty,pos,af,g⟩ E:=by first|exact gno|exact gyes rfl) (hN:Nat.blt d N.n=true:=by exact rfl):RV P N ops Q (⟨some d,.binOp .leq t x y t2,ty,pos,af,g⟩::rest) E S:=RV.op (OV.split hg (Step.leq hx hy) hN k1 k2)
theorem Jgt (hx:ev E x=some (.int k m)) (hy:ev E y=some (.int k n)) (k1:n<m→RV P N ops Q rest (set E d (.bool true)) S) (k2: ¬n<m→RV P N ops Q rest (set E d (.bool false)) S)
 (hg:Yes N ops ⟨some d,.binOp .gtr t x y t2,ty,pos,af,g⟩ E:=by first|exact gno|exact gyes rfl) (hN:Nat.blt d N.n=true:=by exact rfl):RV P N ops Q (⟨some d,.binOp .gtr t x y t2,ty,pos,af,g⟩::rest) E S:=RV.op (OV.split hg (Step.gtr hx hy) hN k1 k2)
theorem Jge (hx:ev E x=some (.int k m)) (hy:ev E y=some (.int k n)) (k1:n≤m→RV P N ops Q rest (set E d (.bool true)) S) (k2: ¬n≤m→RV P N ops Q rest (set E d (.bool false)) S)
 (hg:Yes N ops ⟨some d,.binOp .geq t x y t2,ty,pos,af,g⟩ E:=by first|exact gno|exact gyes rfl) (hN:Nat.blt d N.n=true:=by exact rfl):RV P N ops Q (⟨some d,.binOp .geq t x y t2,ty,pos,af,g⟩::rest) E S:=RV.op (OV.split hg (Step.geq hx hy) hN k1 k2)
theorem Jeq (hx:ev E x=some (.int k m)) (hy:ev E y=some (.int k n)) (k1:m=n→RV P N ops Q rest (set E d (.bool true)) S) (k2: ¬m=n→RV P N ops Q rest (set E d (.bool false)) S)
 (hg:Yes N ops ⟨some d,.binOp .eql t x y t2,ty,pos,af,g⟩ E:=by first|exact gno|exact gyes rfl) (hN:Nat.blt d N.n=true:=by exact rfl):RV P N ops Q (⟨some d,.binOp .eql t x y t2,ty,pos,af,g⟩::rest) E S:=RV.op (OV.split hg (Step.eql hx hy) hN k1 k2)
theorem Jne (hx:ev E x=some (.int k m)) (hy:ev E y=some (.int k n)) (k1: ¬m=n→RV P N ops Q rest (set E d (.bool true)) S) (k2: ¬ ¬m=n→RV P N ops Q rest (set E d (.bool false)) S)
 (hg:Yes N ops ⟨some d,.binOp .neq t x y t2,ty,pos,af,g⟩ E:=by first|exact gno|exact gyes rfl) (hN:Nat.blt d N.n=true:=by exact rfl):RV P N ops Q (⟨some d,.binOp .neq t x y t2,ty,pos,af,g⟩::rest) E S:=RV.op (OV.split hg (Step.neq hx hy) hN k1 k2)
end
theorem Kq {x y:Code} (h:CV P N x (Exit.then (y.wp P Q) Q) E S):CV P N (.seq x y) Q E S:=CV.seq h
theorem Kr {id:Nat} {l:List Oper} (h:RV P N l.toArray Q l E S):CV P N (.region id l.toArray false) Q E S:=CV.region h
theorem Kz (h:KV N (Q .normal) E S):RV P N ops Q [] E S:=RV.nil h
theorem Kn {next:Act→World→Prop} (h:KV N next E S):KV N (Exit.then next Q .normal) E S:=h
theorem Kx {next:Act→World→Prop} {id:Nat} (h:KV N (Q (.exit id)) E S):KV N (Exit.then next Q (.exit id)) E S:=h
theorem Ky {next:Act→World→Prop} (h:KV N (Q .ret) E S):KV N (Exit.then next Q .ret) E S:=h
theorem Kb {id:Nat} {c:Code} (h:CV P N c (Exit.inBlock id Q) E S):CV P N (.block id c) Q E S:=CV.block h
theorem Kc {id:Nat} (h:KV N (Q .normal) E S):KV N (Exit.inBlock id Q .normal) E S:=h
theorem Kd {id:Nat} (h:KV N (Q .ret) E S):KV N (Exit.inBlock id Q .ret) E S:=h
theorem Kh {id:Nat} (h:KV N (Q .normal) E S):KV N (Exit.inBlock id Q (.exit id)) E S:=KV.block_hit h
theorem Km {id id':Nat} (h:KV N (Q (.exit id')) E S) (hne:Nat.beq id' id=false:=by exact rfl):KV N (Exit.inBlock id Q (.exit id')) E S:=KV.block_miss hne h
theorem Ks (h:KV N (Q .normal) E S):CV P N .skip Q E S:=CV.skip h
theorem Ke {id:Nat} (h:KV N (Q (.exit id)) E S):CV P N (.exit id) Q E S:=CV.exit h
theorem Kv (h:KV N (Q .ret) E S):CV P N .ret Q E S:=CV.ret h
theorem Kt {c:Operand} {x y:Code} (h:CV P N x Q E S) (hc:ev E c=some (.bool true):=by exact rfl):CV P N (.cond c x y) Q E S:=CV.cond_t hc h
theorem Kf {c:Operand} {x y:Code} (h:CV P N y Q E S) (hc:ev E c=some (.bool false):=by exact rfl):CV P N (.cond c x y) Q E S:=CV.cond_f hc h
theorem Ya {ze:Value} {sz by_:Nat} [i:Inf P t ze sz by_] (k: ∀nb,KV N KK (set E d (.pointer (some ⟨nb,0,none⟩))) (Hp I0 w0 (L++[Blk nb (.cells ze.cells t (0,0))]))) (hg:Yes N ops ⟨some d,.alloc t,ty,pos,af,g⟩ E:=by first|exact gno|exact gyes rfl) (hN:Nat.blt d N.n=true:=by exact rfl):OV P N ops Q ⟨some d,.alloc t,ty,pos,af,g⟩ E (Hp I0 w0 L) KK:=OV.alloc _ i.h rfl hg hN k
theorem Yb (cs:Array Value) (hx:ev E x=some v) (hcs:v.cells=cs) (k: ∀nb,KV N KK (set E d (.pointer (some ⟨nb,0,none⟩))) (Hp I0 w0 (L++[Blk nb (.cells cs t (0,0))]))) (hg:Yes N ops ⟨some d,.box t x,ty,pos,af,g⟩ E:=by first|exact gno|exact gyes rfl) (hN:Nat.blt d N.n=true:=by exact rfl):OV P N ops Q ⟨some d,.box t x,ty,pos,af,g⟩ E (Hp I0 w0 L) KK:=OV.box cs hx hcs hg hN k
theorem Yw (k:Nat) {te:TypeId} {ze:Value} {sz by_ b o:Nat} {cur:Array Value} (vs:List Value) (cs:Array Value) [i:Inf P t ze sz by_] (hx:ev E x=some (.pointer (some ⟨b,o,none⟩))) (hy:ev E y=some v) (hk:L[k]?=some (Blk b (.cells cur te (0,0)))) (hv:v.cells=vs.toArray)
 (hcs:(cur.toList.take o++vs++cur.toList.drop (o+vs.length)).toArray=cs) (kk:KV N KK E (Hp I0 w0 (L.set k (Blk b (.cells cs te (0,0)))))) (hl:vs.length=sz:=by exact rfl) (ho:o+vs.length≤cur.size:=by exact Nat.le_of_ble_eq_true rfl) (h1: ∀v∈vs,v.oneCell'=true:=by simp[Value.oneCell'])
 (hg:Yes N ops ⟨none,.store t x y,ty,pos,af,g⟩ E:=by first|exact gno|exact gyes rfl):OV P N ops Q ⟨none,.store t x y,ty,pos,af,g⟩ E (Hp I0 w0 L) KK:=OV.store k vs cs i.h hx hy hk hv hl ho h1 hcs hg kk
theorem Yc (ks:List Nat) {F Own:List Assn} {f:FuncId} {fn:Func} {nt:Nat} {vs:List Value} {args:List Operand} {ts:Array TypeId} {ro:Ids} {post:Value→List Assn→Prop} [c:Fnc P f fn nt] (ha:evs E args=some vs) (hp:picks ks L=some (Own,F)) (spec: ∀w,Hp I0 w0 L w→Fx P f vs w Own ro post)
 (k: ∀v L',post v L'→KV N KK (set E d v) (Hp I0 w0 (F++L'))) (hro: ∀b,ro b→RoOk I0 w0 F b:=by exact fun _ hb=>hb.elim) (hg:Yes N ops ⟨some d,.call ⟨.value (.func f),args.toArray,ts⟩,ty,pos,af,g⟩ E:=by first|exact gno|exact gyes rfl) (hN:Nat.blt d N.n=true:=by exact rfl):OV P N ops Q ⟨some d,.call ⟨.value (.func f),args.toArray,ts⟩,ty,pos,af,g⟩ E (Hp I0 w0 L) KK:=OV.call ks c.f c.b c.n ha hp spec hro hg hN k
theorem Yp {f:FuncId} {fn:Func} {nt:Nat} {vs:List Value} {args:List Operand} {ts:Array TypeId} [c:Fnc P f fn nt] (ha:evs E args=some vs) (spec:FxP P f vs v) (k:KV N KK (set E d v) S) (hg:Yes N ops ⟨some d,.call ⟨.value (.func f),args.toArray,ts⟩,ty,pos,af,g⟩ E:=by first|exact gno|exact gyes rfl) (hN:Nat.blt d N.n=true:=by exact rfl):OV P N ops Q ⟨some d,.call ⟨.value (.func f),args.toArray,ts⟩,ty,pos,af,g⟩ E S KK:=OV.callP c.f c.b c.n ha spec hg hN k
theorem Ym {e:TypeId} {ze:Value} {sz by_:Nat} {kn kc:IntKind} {i j:Int} [cu:US P t e] [ci:Inf P e ze sz by_] (n c:Nat) (y0:α) (hx:ev E x=some (.int kn i)) (hy:ev E y=some (.int kc j)) (hin:i=(n:Int)) (hjc:j=(c:Int))
 (k: ∀A,KV N KK (set E d (.slice A n c)) (Hp I0 w0 (L++[OS e K A c (List.replicate n y0)]))) (hz:ze.cells.toList=K.f y0:=by exact rfl) (hs:sz=K.sz:=by exact rfl) (hnc:n≤c:=by omega) (hb:by_* c≤281474976710656:=by omega) (hm:c≤9223372036854775807:=by omega)
 (hg:Yes N ops ⟨some d,.makeSlice t x y,ty,pos,af,g⟩ E:=by first|exact gno|exact gyes rfl) (hN:Nat.blt d N.n=true:=by exact rfl):OV P N ops Q ⟨some d,.makeSlice t x y,ty,pos,af,g⟩ E (Hp I0 w0 L) KK:=OV.make n c y0 cu.h (hs▸ci.h) hz hx hy hin hjc hnc hb hm hg hN k
theorem Ye (k:Nat) {e:TypeId} {ze:Value} {sz by_ n m cB:Nat} [cu:US P t e] [ci:Inf P e ze sz by_] (hx:ev E x=some (.slice A n c)) (hy:ev E y=some (.slice B m cB)) (hn:n=ys.length) (hmz:m=zs.length) (hk:L[k]?=some (OS e K A c ys)) (hr: ∀w,Hp I0 w0 L w→RS w K B zs)
 (hb:(ys.length+zs.length)* by_≤140737488355328) (kk: ∀A' c',KV N KK (set E d (.slice A' (ys++zs).length c')) (Hp I0 w0 (L.set k (OS e K A' c' (ys++zs))))) (hs:sz=K.sz:=by exact rfl) (hze:ze.cells.size=K.sz:=by exact rfl) (h1:0<by_:=by decide)
 (hg:Yes N ops ⟨some d,.call ⟨.builtin .append,#[x,y],#[t,t]⟩,ty,pos,af,g⟩ E:=by first|exact gno|exact gyes rfl) (hN:Nat.blt d N.n=true:=by exact rfl):OV P N ops Q ⟨some d,.call ⟨.builtin .append,#[x,y],#[t,t]⟩,ty,pos,af,g⟩ E (Hp I0 w0 L) KK:=
 OV.append k cu.h (hs▸ci.h) hze hx hy hn hmz hk hr hb (by have:=Nat.le_mul_of_pos_right (ys.length+zs.length) h1;omega) hg hN kk
theorem Yx (k m:Nat) (y':α) {ze:Value} {by_ sz o j:Nat} (vs:List Value) [ci:Inf P t ze sz by_] (hx:ev E x=some (.pointer (some ⟨bk A,o,none⟩))) (hy:ev E y=some v) (hk:L[k]?=some (OS e K A c ys)) (ho:o=of A+m* K.sz+j) (hv:v.cells=vs.toArray)
 (hlt:m<ys.length) (hf':K.f y'=(K.f (ys.getD m K.d)).take j++vs++(K.f (ys.getD m K.d)).drop (j+vs.length)) (kk:KV N KK E (Hp I0 w0 (L.set k (OS e K A c (ys.set m y'))))) (hl:vs.length=sz:=by exact rfl) (hj:j+vs.length≤K.sz:=by exact Nat.le_of_ble_eq_true rfl)
 (hg:Yes N ops ⟨none,.store t x y,ty,pos,af,g⟩ E:=by first|exact gno|exact gyes rfl):OV P N ops Q ⟨none,.store t x y,ty,pos,af,g⟩ E (Hp I0 w0 L) KK:=OV.storeE k m y' vs ci.h hx hy hk ho hv hl hlt hf' hj hg kk
theorem Sr (h:Step P N E S ⟨some d,op,ty,pos,af,g⟩ v) (k:SV P N ops T rest (set E d v) S) (hg:Yes N ops ⟨some d,op,ty,pos,af,g⟩ E:=by first|exact gno|exact gyes rfl) (hN:Nat.blt d N.n=true:=by exact rfl):SV P N ops T (⟨some d,op,ty,pos,af,g⟩::rest) E S:=SV.step hg h hN k
theorem Sk {j:Nat} {b:Bool} (k:SV P N ops T rest (set E d undef) S) (hg:wantsE ops E j=some (!b):=by exact rfl) (hN:Nat.blt d N.n=true:=by exact rfl):SV P N ops T (⟨some d,op,ty,pos,af,some (j,b)⟩::rest) E S:=SV.skip hg hN k
theorem Vt (i:Nat) {fuel:Nat} {listed:Array Bool} (hi:ops[i]?=some ⟨some d,op,ty,pos,af,g⟩) (h:Step P N E S0 ⟨some d,op,ty,pos,af,g⟩ v) (hS: ∀w,S w→S0 w) (k:AV P N ops Q S0 fuel (listed.setIfInBounds i true) (set E d v) S)
 (hg:Yes N ops ⟨some d,op,ty,pos,af,g⟩ E:=by first|exact gno|exact gyes rfl) (hN:Nat.blt d N.n=true:=by exact rfl) (hs:Region.noSelect ops=true:=by kernel_rfl) (hfr:Region.free .any ops listed i=true:=by kernel_rfl) (hr:(Region.ready .any ops listed).contains i=true:=by kernel_rfl)
 (hQ: ∀c a w,Q (.panic c) (a.put (some d) v) w→Q (.panic c) a w:=by with_unfolding_all exact fun _ _ _ h=>h):AV P N ops Q S0 (fuel+1) listed E S:=AV.take i _ hi hs hfr hr hQ hg h hN hS rfl k
theorem Vd {fuel:Nat} {listed:Array Bool} (h:KV N (Q .normal) E S) (hr:Region.ready .any ops listed=[]:=by kernel_rfl):AV P N ops Q S0 fuel listed E S:=AV.done hr h
theorem Vo {fuel:Nat} {listed lt:Array Bool} {E0:Env} {S1:World→Prop} (h:AV P N ops Q S0 fuel lt E0 S1) (hE:Sub E0 E) (hS: ∀w,S w→S1 w) (hl:listed=lt:=by kernel_rfl):AV P N ops Q S0 fuel listed E S:=by subst hl;exact AV.to h hE hS
theorem Ct (i:Nat) {c fuel:Nat} {listed:Array Bool} (hi:ops[i]?=some ⟨some d,op,ty,pos,af,g⟩) (h:Step P N E S0 ⟨some d,op,ty,pos,af,g⟩ v) (hS: ∀w,S w→S0 w) (k:AC P N ops Q S0 c fuel (listed.setIfInBounds i true) (set E d v) S)
 (hg:Yes N ops ⟨some d,op,ty,pos,af,g⟩ E:=by first|exact gno|exact gyes rfl) (hN:Nat.blt d N.n=true:=by exact rfl) (hs:Region.noSelect ops=true:=by kernel_rfl) (hfr:Region.free .any ops listed i=true:=by kernel_rfl) (hr:(Region.ready .any ops listed).contains i=true:=by kernel_rfl)
 (hw:reachB ops .any i 8 c=true:=by kernel_rfl) (hd:downB ops .any listed=true:=by kernel_rfl) (hne:(c !=i)=true:=by kernel_rfl) (hlc:listed.getD c false=false:=by kernel_rfl)
 (hQ: ∀c a w,Q (.panic c) (a.put (some d) v) w→Q (.panic c) a w:=by with_unfolding_all exact fun _ _ _ h=>h):AC P N ops Q S0 c (fuel+1) listed E S:=AC.take i _ hi hs hfr hr hw hd hne hlc hQ hg h hN hS rfl k
theorem Cm {c fuel:Nat} {listed:Array Bool} {i:Nat} (k:AC P N ops Q S0 c fuel (listed.setIfInBounds i true) E S) (hl:(listed.setIfInBounds i true).getD c false=true:=by kernel_rfl):KV N (fun a' w'=>((listed.setIfInBounds i true).getD c false=true∨S0 w')∧wpAnyC P .any ops Q S0 c fuel (listed.setIfInBounds i true) a' w') E S:=AC.next _ rfl (.inl hl) k
theorem Cd {c fuel:Nat} {listed:Array Bool} (h:KV N (Q .normal) E S) (hr:Region.ready .any ops listed=[]:=by kernel_rfl):AC P N ops Q S0 c fuel listed E S:=AC.done hr h
end
theorem Fb {P:Program} {f:FuncId} {fn:Func} {cd:Code} {n:Nat} {vs:List Value} {w:World} {Own:List Assn} {ro:Ids} {post:Value→List Assn→Prop} [c:Fnc P f fn n]
 (h: ∀I:Ids,(∀b,ro b→ ¬I b)→Sep Own I w→CV P ⟨n,[]⟩ cd (bodyPost P fn (fun e w'=> ∃v L',e= .returned v∧post v L'∧Hp I w L' w')) (params 0 vs) (Hp I w Own)) (hb:fn.body=some cd:=by exact rfl) (hl:Nat.ble vs.length n=true:=by exact rfl):Fx P f vs w Own ro post:=Fx.body c.f hb c.t hl h
theorem Fp {P:Program} {f:FuncId} {fn:Func} {cd:Code} {n:Nat} {vs:List Value} {v:Value} [c:Fnc P f fn n]
 (h: ∀w,CV P ⟨n,[]⟩ cd (bodyPost P fn (fun e w'=>e= .returned v∧w'=w)) (params 0 vs) (fun w'=>w'=w)) (hb:fn.body=some cd:=by exact rfl) (hl:Nat.ble vs.length n=true:=by exact rfl):FxP P f vs v:=FxP.body c.f hb c.t hl h
section
variable {P:Program} {N:Nat} {fn:Func} {w:World} {I:Ids} {L:List Assn} {E:Env} {v v1 v2:Value} {t t1 t2:Tmp} {post:Value→List Assn→Prop}
theorem Ra (hp:post (.tuple #[]) L) (hr:fn.results= #[]:=by exact rfl):KV ⟨N,[]⟩ (bodyPost P fn (fun e w'=> ∃v L',e= .returned v∧post v L'∧Hp I w L' w') .ret) E (Hp I w L):=KV.ret0 hr _ (fun _ h=>h) hp
theorem Rb (hr:fn.results= #[.tmp t]) (hv:get E t=some v) (hp:post v L):KV ⟨N,[]⟩ (bodyPost P fn (fun e w'=> ∃v L',e= .returned v∧post v L'∧Hp I w L' w') .ret) E (Hp I w L):=KV.ret1 hr hv _ (fun _ h=>h) hp
theorem Rc (hr:fn.results= #[.tmp t1,.tmp t2]) (h1:get E t1=some v1) (h2:get E t2=some v2) (hp:post (.tuple #[v1,v2]) L):KV ⟨N,[]⟩ (bodyPost P fn (fun e w'=> ∃v L',e= .returned v∧post v L'∧Hp I w L' w') .ret) E (Hp I w L):=KV.ret2 hr h1 h2 _ (fun _ h=>h) hp
end
end Go.Tk
namespace Go.Sv
open Go
def Sel (L M:List Assn):Prop:= ∃ks R,picks ks L=some (M,R)
theorem Sel.to {L M:List Assn} {I0:Ids} {w0:World} (h:Sel L M): ∀w,Hp I0 w0 L w→Hp I0 w0 M w:=fun w h1=>by
 obtain⟨ks,R,hp⟩:=h
 exact h1.sel ks hp
theorem sl0 {L:List Assn}:Sel L []:=⟨[],L,rfl⟩
theorem sl (k:Nat) {A:Assn} {L M:List Assn} (hk:L[k]?=some A) (h:Sel (L.eraseIdx k) M):Sel L (A::M):=by
 obtain⟨ks,R,hp⟩:=h
 exact⟨k::ks,R,by simp[picks,hk,hp]⟩
def vals (E:Env):List Nat→Option (List Value)
 |[]=>some []
 |t::r=>match get E t,vals E r with
  |some v,some vs=>some (v::vs)
  |_,_=>none
theorem sb {E:Env}: ∀ {G:Env},vals E (G.map Prod.fst)=some (G.map Prod.snd)→Sub G E
 |[],_=>trivial
 |(t,v)::r,h=>by
  simp only[List.map_cons,vals] at h
  split at h
  ·rename_i a b h1 h2
   simp only[Option.some.injEq,List.cons.injEq] at h
   exact⟨by rw[h1,h.1],sb (by rw[h2,h.2])⟩
  ·cases h
class HB (L:List Assn) (b:Nat) (o:outParam Obj):Prop where
 h: ∃k:Nat,L[k]?=some (Blk b o)
instance HB.z {L:List Assn} {b:Nat} {o:Obj}:HB (Blk b o::L) b o:=⟨0,rfl⟩
instance(priority:=100) HB.s {A:Assn} {L:List Assn} {b:Nat} {o:Obj} [c:HB L b o]:HB (A::L) b o:=⟨let ⟨k,h⟩:=c.h;⟨k+1,h⟩⟩
class HO {α:outParam Type} (L:List Assn) (A:Option Addr) (e:outParam TypeId) (K:outParam (Enc α)) (c:outParam Nat) (ys:outParam (List α)):Prop where
 h: ∃k:Nat,L[k]?=some (OS e K A c ys)
instance HO.z {α:Type} {L:List Assn} {A:Option Addr} {e:TypeId} {K:Enc α} {c:Nat} {ys:List α}:HO (OS e K A c ys::L) A e K c ys:=⟨0,rfl⟩
instance(priority:=100) HO.s {α:Type} {B:Assn} {L:List Assn} {A:Option Addr} {e:TypeId} {K:Enc α} {c:Nat} {ys:List α} [i:HO L A e K c ys]:HO (B::L) A e K c ys:=⟨let ⟨k,h⟩:=i.h;⟨k+1,h⟩⟩
end Go.Sv
namespace Go.Tk
open Go Go.Sv
section
variable {P:Program} {N:NN} {E:Env} {S S0:World→Prop} {ops:Array Oper} {Q:Exit→Act→World→Prop} {rest:List Oper} {KK:Act→World→Prop} {T:Act→World→Prop}
variable {d:Nat} {ty:TypeId} {pos:String} {af:Array Edge} {g:Option (Nat×Bool)} {x y z:Operand} {v u:Value} {op:Op} {t:TypeId} {D:TypeDesc}
variable {I0:Ids} {w0:World} {L R:List Assn} {dd:Option Nat}
theorem Xl {b o:Nat} {cs:Array Value} {te:TypeId} {fz:Nat×Nat} [c:UN P t] (hx:ev E x=some (.pointer (some ⟨b,o,none⟩))) [i:HB L b (.cells cs te fz)] (hv:cs.toList[o]?=some v:=by exact rfl):Step P N E (Hp I0 w0 L) ⟨dd,.load t x,ty,pos,af,g⟩ v:=let ⟨k,hk⟩:=i.h;Tl k hx hk hv
theorem Xk (k:Nat) {b:Nat} {cs:Array Value} {te:TypeId} {fz:Nat×Nat} {ze:Value} {sz by_:Nat} [c:UA P t] [i:Inf P t ze sz by_] (hx:ev E x=some (.pointer (some ⟨b,0,none⟩))) (hk:L[k]?=some (Blk b (.cells cs te fz))) (hsz:cs.toList.length=sz:=by exact rfl):Step P N E (Hp I0 w0 L) ⟨dd,.load t x,ty,pos,af,g⟩ (.agg cs.toList.toArray):=Tw hx (fun _ h=>h.cells k hk) hsz
theorem Xw {b:Nat} {cs:Array Value} {te:TypeId} {fz:Nat×Nat} {ze:Value} {sz by_:Nat} [c:UA P t] [i:Inf P t ze sz by_] (hx:ev E x=some (.pointer (some ⟨b,0,none⟩))) [j:HB L b (.cells cs te fz)] (hsz:cs.toList.length=sz:=by exact rfl):Step P N E (Hp I0 w0 L) ⟨dd,.load t x,ty,pos,af,g⟩ (.agg cs.toList.toArray):=let ⟨k,hk⟩:=j.h;Tw hx (fun _ h=>h.cells k hk) hsz
section
variable {α:Type} {K:Enc α} {A:Option Addr} {ys:List α} {c:Nat} {e:TypeId} {m n:Nat}
theorem os1 [i:HO L A e K c ys]: ∀w,Hp I0 w0 L w→RS w K A ys:=fun _ h=>let ⟨k,hk⟩:=i.h;h.os k hk
theorem Rd (h: ∀w,S w→RS w K A ys:=by first|exact os1|exact fun w h=>h.rs (by assumption) (fun _=>hI _)|exact fun w h=>h.os 0 rfl|exact fun w h=>h.os 1 rfl|exact fun w h=>h.os 2 rfl|exact fun w h=>h.os 3 rfl|exact fun w h=>h.os 4 rfl|exact fun w h=>h.os 5 rfl|exact fun w h=>h.os 6 rfl|exact fun w h=>h.os 7 rfl|exact fun w h=>h.os 8 rfl|exact fun w h=>h.os 9 rfl|exact fun w h=>h.os 10 rfl|exact fun w h=>h.os 11 rfl|exact fun w h=>h.os 12 rfl|exact fun w h=>h.os 13 rfl|exact fun w h=>h.os 14 rfl|exact fun w h=>h.os 15 rfl|exact fun w h=>h.os 16 rfl|exact fun w h=>h.os 17 rfl|exact fun w h=>h.os 18 rfl|exact fun w h=>h.os 19 rfl): ∀w,S w→RS w K A ys:=h
theorem Xi {ze:Value} {sz by_:Nat} {k:IntKind} {i:Int} [cu:US P t e] [ci:Inf P e ze sz by_] (hx:ev E x=some (.slice A n c)) (hy:ev E y=some (.int k i)) (m:Nat) (hm:i=(m:Int)) (hs: ∀w,S w→RS w K A ys:=by exact Rd) (hn:n=ys.length:=by first|rfl|omega) (hlt:m<ys.length:=by omega) (hz:sz=K.sz:=by exact rfl):
 Step P N E S ⟨dd,.indexAddr t x y,ty,pos,af,g⟩ (.pointer (some ⟨bk A,of A+m* K.sz,none⟩)):=Ti hs hx hy hn m hm hlt hz
theorem Xs [c:UN P t] (hx:ev E x=some (.pointer (some ⟨bk A,of A+m* K.sz,none⟩))) (hs: ∀w,S w→RS w K A ys:=by exact Rd) (hv:(K.f (ys.getD m K.d))[0]?=some v:=by exact rfl) (hm:m<ys.length:=by omega):Step P N E S ⟨dd,.load t x,ty,pos,af,g⟩ v:=Tc hx fun w h=>(hs w h).cell0 hm hv
theorem Xt {j:Nat} [c:UN P t] (hx:ev E x=some (.pointer (some ⟨bk A,of A+m* K.sz+j,none⟩))) (hs: ∀w,S w→RS w K A ys:=by exact Rd) (hv:(K.f (ys.getD m K.d))[j]?=some v:=by exact rfl) (hm:m<ys.length:=by omega):Step P N E S ⟨dd,.load t x,ty,pos,af,g⟩ v:=Tc hx fun w h=>(hs w h).cell hm hv
theorem Xu {ze:Value} {sz by_:Nat} [c:UA P t] [i:Inf P t ze sz by_] (hx:ev E x=some (.pointer (some ⟨bk A,of A+m* K.sz,none⟩))) (hs: ∀w,S w→RS w K A ys:=by exact Rd) (hm:m<ys.length:=by omega) (hsz:(K.f (ys.getD m K.d)).length=sz:=by exact rfl):Step P N E S ⟨dd,.load t x,ty,pos,af,g⟩ (.agg (K.f (ys.getD m K.d)).toArray):=Tw hx (fun w h=>(hs w h).cells hm) hsz
end
theorem At {o:Oper} (h:Step P N E S o v:=by first
 |exact Tm rfl
 |exact Tf rfl
 |exact Ta rfl
 |exact Tq rfl
 |exact Xl rfl
 |exact Tx rfl rfl
 |exact Tg rfl
 |exact Tt rfl rfl
 |exact Tu rfl rfl
 |exact Tn rfl
 |exact Xi rfl rfl _ rfl
 |exact Xs rfl
 |exact Xt rfl
 |exact Xw rfl
 |exact Xu rfl
 |exact Tk rfl
 |exact Tadd rfl rfl
 |exact Tsub rfl rfl
 |exact Tmul rfl rfl
 |exact Step.lss rfl rfl
 |exact Step.leq rfl rfl
 |exact Step.gtr rfl rfl
 |exact Step.geq rfl rfl
 |exact Step.eql rfl rfl
 |exact Step.neq rfl rfl
 |exact Tl 0 rfl rfl rfl
 |exact Tl 1 rfl rfl rfl
 |exact Tl 2 rfl rfl rfl
 |exact Tl 3 rfl rfl rfl
 |exact Tl 4 rfl rfl rfl
 |exact Tl 5 rfl rfl rfl
 |exact Tl 6 rfl rfl rfl
 |exact Tl 7 rfl rfl rfl
 |exact Tl 8 rfl rfl rfl
 |exact Tl 9 rfl rfl rfl
 |exact Tl 10 rfl rfl rfl
 |exact Tl 11 rfl rfl rfl
 |exact Tl 12 rfl rfl rfl
 |exact Tl 13 rfl rfl rfl
 |exact Tl 14 rfl rfl rfl
 |exact Tl 15 rfl rfl rfl
 |exact Tl 16 rfl rfl rfl
 |exact Tl 17 rfl rfl rfl
 |exact Tl 18 rfl rfl rfl
 |exact Tl 19 rfl rfl rfl
 |exact Xk 0 rfl rfl
 |exact Xk 1 rfl rfl
 |exact Xk 2 rfl rfl
 |exact Xk 3 rfl rfl
 |exact Xk 4 rfl rfl
 |exact Xk 5 rfl rfl
 |exact Xk 6 rfl rfl
 |exact Xk 7 rfl rfl
 |exact Xk 8 rfl rfl
 |exact Xk 9 rfl rfl
 |exact Xk 10 rfl rfl
 |exact Xk 11 rfl rfl
 |exact Xk 12 rfl rfl
 |exact Xk 13 rfl rfl
 |exact Xk 14 rfl rfl
 |exact Xk 15 rfl rfl
 |exact Xk 16 rfl rfl
 |exact Xk 17 rfl rfl
 |exact Xk 18 rfl rfl
 |exact Xk 19 rfl rfl):Step P N E S o v:=h
theorem Jg (k:RV P N ops Q rest (set E d v) S) (h:Step P N E S ⟨some d,op,ty,pos,af,g⟩ v:=by exact At) (hg:Yes N ops ⟨some d,op,ty,pos,af,g⟩ E:=by first|exact gno|exact gyes rfl) (hN:Nat.blt d N.n=true:=by exact rfl):RV P N ops Q (⟨some d,op,ty,pos,af,g⟩::rest) E S:=Jr h k hg hN
theorem Sg (k:SV P N ops T rest (set E d v) S) (h:Step P N E S ⟨some d,op,ty,pos,af,g⟩ v:=by exact At) (hg:Yes N ops ⟨some d,op,ty,pos,af,g⟩ E:=by first|exact gno|exact gyes rfl) (hN:Nat.blt d N.n=true:=by exact rfl):SV P N ops T (⟨some d,op,ty,pos,af,g⟩::rest) E S:=Sr h k hg hN
theorem J1 {A B:Prop} (k:B) (s:B→A:=by first|exact Kq|exact Kr|exact Kn|exact Kz|exact Kb|exact Kc|exact Ks|exact Kx|exact Ky|exact Kd|exact Kh|exact fun k=>Km k|exact Ke|exact Kv|exact fun k=>Kt k|exact fun k=>Kf k|exact fun k=>Jk k|exact fun k=>Sk k|exact fun k=>Jg k|exact fun k=>Sg k):A:=s k
theorem Gs {A B:Prop} (s:B→A:=by first|exact Kq|exact Kr|exact Kn|exact Kz|exact Kb|exact Kc|exact Ks|exact Kx|exact Ky|exact Kd|exact Kh|exact fun k=>Km k|exact Ke|exact Kv|exact fun k=>Kt k|exact fun k=>Kf k|exact fun k=>Jk k|exact fun k=>Sk k|exact fun k=>Jg k|exact fun k=>Sg k):B→A:=s
theorem J2 {A B0 B1:Prop} (k:B1) (s0:B0→A:=by exact Gs) (s1:B1→B0:=by exact Gs):A:=s0 (s1 k)
theorem J3 {A B0 B1 B2:Prop} (k:B2) (s0:B0→A:=by exact Gs) (s1:B1→B0:=by exact Gs) (s2:B2→B1:=by exact Gs):A:=s0 (s1 (s2 k))
theorem J4 {A B0 B1 B2 B3:Prop} (k:B3) (s0:B0→A:=by exact Gs) (s1:B1→B0:=by exact Gs) (s2:B2→B1:=by exact Gs) (s3:B3→B2:=by exact Gs):A:=s0 (s1 (s2 (s3 k)))
theorem J5 {A B0 B1 B2 B3 B4:Prop} (k:B4) (s0:B0→A:=by exact Gs) (s1:B1→B0:=by exact Gs) (s2:B2→B1:=by exact Gs) (s3:B3→B2:=by exact Gs) (s4:B4→B3:=by exact Gs):A:=s0 (s1 (s2 (s3 (s4 k))))
theorem J6 {A B0 B1 B2 B3 B4 B5:Prop} (k:B5) (s0:B0→A:=by exact Gs) (s1:B1→B0:=by exact Gs) (s2:B2→B1:=by exact Gs) (s3:B3→B2:=by exact Gs) (s4:B4→B3:=by exact Gs) (s5:B5→B4:=by exact Gs):A:=s0 (s1 (s2 (s3 (s4 (s5 k)))))
theorem J7 {A B0 B1 B2 B3 B4 B5 B6:Prop} (k:B6) (s0:B0→A:=by exact Gs) (s1:B1→B0:=by exact Gs) (s2:B2→B1:=by exact Gs) (s3:B3→B2:=by exact Gs) (s4:B4→B3:=by exact Gs) (s5:B5→B4:=by exact Gs) (s6:B6→B5:=by exact Gs):A:=s0 (s1 (s2 (s3 (s4 (s5 (s6 k))))))
theorem J8 {A B0 B1 B2 B3 B4 B5 B6 B7:Prop} (k:B7) (s0:B0→A:=by exact Gs) (s1:B1→B0:=by exact Gs) (s2:B2→B1:=by exact Gs) (s3:B3→B2:=by exact Gs) (s4:B4→B3:=by exact Gs) (s5:B5→B4:=by exact Gs) (s6:B6→B5:=by exact Gs) (s7:B7→B6:=by exact Gs):A:=s0 (s1 (s2 (s3 (s4 (s5 (s6 (s7 k)))))))
theorem J9 {A B0 B1 B2 B3 B4 B5 B6 B7 B8:Prop} (k:B8) (s0:B0→A:=by exact Gs) (s1:B1→B0:=by exact Gs) (s2:B2→B1:=by exact Gs) (s3:B3→B2:=by exact Gs) (s4:B4→B3:=by exact Gs) (s5:B5→B4:=by exact Gs) (s6:B6→B5:=by exact Gs) (s7:B7→B6:=by exact Gs) (s8:B8→B7:=by exact Gs):A:=s0 (s1 (s2 (s3 (s4 (s5 (s6 (s7 (s8 k))))))))
theorem J10 {A B0 B1 B2 B3 B4 B5 B6 B7 B8 B9:Prop} (k:B9) (s0:B0→A:=by exact Gs) (s1:B1→B0:=by exact Gs) (s2:B2→B1:=by exact Gs) (s3:B3→B2:=by exact Gs) (s4:B4→B3:=by exact Gs) (s5:B5→B4:=by exact Gs) (s6:B6→B5:=by exact Gs) (s7:B7→B6:=by exact Gs) (s8:B8→B7:=by exact Gs) (s9:B9→B8:=by exact Gs):A:=s0 (s1 (s2 (s3 (s4 (s5 (s6 (s7 (s8 (s9 k)))))))))
theorem J11 {A B0 B1 B2 B3 B4 B5 B6 B7 B8 B9 B10:Prop} (k:B10) (s0:B0→A:=by exact Gs) (s1:B1→B0:=by exact Gs) (s2:B2→B1:=by exact Gs) (s3:B3→B2:=by exact Gs) (s4:B4→B3:=by exact Gs) (s5:B5→B4:=by exact Gs) (s6:B6→B5:=by exact Gs) (s7:B7→B6:=by exact Gs) (s8:B8→B7:=by exact Gs) (s9:B9→B8:=by exact Gs) (s10:B10→B9:=by exact Gs):A:=s0 (s1 (s2 (s3 (s4 (s5 (s6 (s7 (s8 (s9 (s10 k))))))))))
theorem J12 {A B0 B1 B2 B3 B4 B5 B6 B7 B8 B9 B10 B11:Prop} (k:B11) (s0:B0→A:=by exact Gs) (s1:B1→B0:=by exact Gs) (s2:B2→B1:=by exact Gs) (s3:B3→B2:=by exact Gs) (s4:B4→B3:=by exact Gs) (s5:B5→B4:=by exact Gs) (s6:B6→B5:=by exact Gs) (s7:B7→B6:=by exact Gs) (s8:B8→B7:=by exact Gs) (s9:B9→B8:=by exact Gs) (s10:B10→B9:=by exact Gs) (s11:B11→B10:=by exact Gs):A:=s0 (s1 (s2 (s3 (s4 (s5 (s6 (s7 (s8 (s9 (s10 (s11 k)))))))))))
theorem J13 {A B0 B1 B2 B3 B4 B5 B6 B7 B8 B9 B10 B11 B12:Prop} (k:B12) (s0:B0→A:=by exact Gs) (s1:B1→B0:=by exact Gs) (s2:B2→B1:=by exact Gs) (s3:B3→B2:=by exact Gs) (s4:B4→B3:=by exact Gs) (s5:B5→B4:=by exact Gs) (s6:B6→B5:=by exact Gs) (s7:B7→B6:=by exact Gs) (s8:B8→B7:=by exact Gs) (s9:B9→B8:=by exact Gs) (s10:B10→B9:=by exact Gs) (s11:B11→B10:=by exact Gs) (s12:B12→B11:=by exact Gs):A:=s0 (s1 (s2 (s3 (s4 (s5 (s6 (s7 (s8 (s9 (s10 (s11 (s12 k))))))))))))
theorem J14 {A B0 B1 B2 B3 B4 B5 B6 B7 B8 B9 B10 B11 B12 B13:Prop} (k:B13) (s0:B0→A:=by exact Gs) (s1:B1→B0:=by exact Gs) (s2:B2→B1:=by exact Gs) (s3:B3→B2:=by exact Gs) (s4:B4→B3:=by exact Gs) (s5:B5→B4:=by exact Gs) (s6:B6→B5:=by exact Gs) (s7:B7→B6:=by exact Gs) (s8:B8→B7:=by exact Gs) (s9:B9→B8:=by exact Gs) (s10:B10→B9:=by exact Gs) (s11:B11→B10:=by exact Gs) (s12:B12→B11:=by exact Gs) (s13:B13→B12:=by exact Gs):A:=s0 (s1 (s2 (s3 (s4 (s5 (s6 (s7 (s8 (s9 (s10 (s11 (s12 (s13 k)))))))))))))
theorem J15 {A B0 B1 B2 B3 B4 B5 B6 B7 B8 B9 B10 B11 B12 B13 B14:Prop} (k:B14) (s0:B0→A:=by exact Gs) (s1:B1→B0:=by exact Gs) (s2:B2→B1:=by exact Gs) (s3:B3→B2:=by exact Gs) (s4:B4→B3:=by exact Gs) (s5:B5→B4:=by exact Gs) (s6:B6→B5:=by exact Gs) (s7:B7→B6:=by exact Gs) (s8:B8→B7:=by exact Gs) (s9:B9→B8:=by exact Gs) (s10:B10→B9:=by exact Gs) (s11:B11→B10:=by exact Gs) (s12:B12→B11:=by exact Gs) (s13:B13→B12:=by exact Gs) (s14:B14→B13:=by exact Gs):A:=s0 (s1 (s2 (s3 (s4 (s5 (s6 (s7 (s8 (s9 (s10 (s11 (s12 (s13 (s14 k))))))))))))))
theorem Ho {S S0:World→Prop} (h: ∀w,S w→S0 w:=by first|exact fun _ h=>h|(refine Sel.to ?_;repeat (first|exact sl0|refine sl 0 rfl ?_|refine sl 1 rfl ?_|refine sl 2 rfl ?_|refine sl 3 rfl ?_|refine sl 4 rfl ?_|refine sl 5 rfl ?_|refine sl 6 rfl ?_|refine sl 7 rfl ?_|refine sl 8 rfl ?_|refine sl 9 rfl ?_|refine sl 10 rfl ?_|refine sl 11 rfl ?_|refine sl 12 rfl ?_|refine sl 13 rfl ?_|refine sl 14 rfl ?_|refine sl 15 rfl ?_|refine sl 16 rfl ?_|refine sl 17 rfl ?_|refine sl 18 rfl ?_|refine sl 19 rfl ?_))): ∀w,S w→S0 w:=h
theorem W (i:Nat) {fuel:Nat} {listed:Array Bool} (k:AV P N ops Q S0 fuel (listed.setIfInBounds i true) (set E d v) S) (hi:ops[i]?=some ⟨some d,op,ty,pos,af,g⟩:=by exact rfl) (h:Step P N E S0 ⟨some d,op,ty,pos,af,g⟩ v:=by exact At) (hS: ∀w,S w→S0 w:=by exact Ho) (hg:Yes N ops ⟨some d,op,ty,pos,af,g⟩ E:=by first|exact gno|exact gyes rfl) (hN:Nat.blt d N.n=true:=by exact rfl) (hs:Region.noSelect ops=true:=by kernel_rfl) (hfr:Region.free .any ops listed i=true:=by kernel_rfl) (hr:(Region.ready .any ops listed).contains i=true:=by kernel_rfl) (hQ: ∀c a w,Q (.panic c) (a.put (some d) v) w→Q (.panic c) a w:=by with_unfolding_all exact fun _ _ _ h=>h):AV P N ops Q S0 (fuel+1) listed E S:=AV.take i _ hi hs hfr hr hQ hg h hN hS rfl k
theorem Wt (i:Nat) {fuel:Nat} {listed:Array Bool} (hi:ops[i]?=some ⟨some d,op,ty,pos,af,g⟩) (h:Step P N E S0 ⟨some d,op,ty,pos,af,g⟩ v) (k:AV P N ops Q S0 fuel (listed.setIfInBounds i true) (set E d v) S) (hS: ∀w,S w→S0 w:=by exact Ho) (hg:Yes N ops ⟨some d,op,ty,pos,af,g⟩ E:=by first|exact gno|exact gyes rfl) (hN:Nat.blt d N.n=true:=by exact rfl) (hs:Region.noSelect ops=true:=by kernel_rfl) (hfr:Region.free .any ops listed i=true:=by kernel_rfl) (hr:(Region.ready .any ops listed).contains i=true:=by kernel_rfl) (hQ: ∀c a w,Q (.panic c) (a.put (some d) v) w→Q (.panic c) a w:=by with_unfolding_all exact fun _ _ _ h=>h):AV P N ops Q S0 (fuel+1) listed E S:=AV.take i _ hi hs hfr hr hQ hg h hN hS rfl k
theorem Wk (i:Nat) {fuel j:Nat} {b:Bool} {listed:Array Bool} (k:AV P N ops Q S0 fuel (listed.setIfInBounds i true) (set E d undef) S) (hi:ops[i]?=some ⟨some d,op,ty,pos,af,some (j,b)⟩:=by exact rfl) (hS: ∀w,S w→S0 w:=by exact Ho) (hg:wantsE ops E j=some (!b):=by exact rfl) (hN:Nat.blt d N.n=true:=by exact rfl) (hs:Region.noSelect ops=true:=by kernel_rfl) (hfr:Region.free .any ops listed i=true:=by kernel_rfl) (hr:(Region.ready .any ops listed).contains i=true:=by kernel_rfl) (hQ: ∀c a w,Q (.panic c) (a.put (some d) undef) w→Q (.panic c) a w:=by with_unfolding_all exact fun _ _ _ h=>h):AV P N ops Q S0 (fuel+1) listed E S:=AV.takeSkip i _ hi hs hfr hr hQ hg hN hS rfl k
theorem Wu (i:Nat) {fuel j:Nat} {b:Bool} {listed:Array Bool} (k:AV P N ops Q S0 fuel (listed.setIfInBounds i true) (set E d undef) S) (hi:ops[i]?=some ⟨some d,op,ty,pos,af,some (j,b)⟩:=by exact rfl) (hS: ∀w,S w→S0 w:=by exact Ho) (hg:noneE ops E j=true:=by exact rfl) (hN:Nat.blt d N.n=true:=by exact rfl) (hs:Region.noSelect ops=true:=by kernel_rfl) (hfr:Region.free .any ops listed i=true:=by kernel_rfl) (hr:(Region.ready .any ops listed).contains i=true:=by kernel_rfl) (hQ: ∀c a w,Q (.panic c) (a.put (some d) undef) w→Q (.panic c) a w:=by with_unfolding_all exact fun _ _ _ h=>h):AV P N ops Q S0 (fuel+1) listed E S:=AV.takeSkipU i _ hi hs hfr hr hQ hg hN hS rfl k
theorem Wn {fuel:Nat} {listed:Array Bool} {i:Nat} (k:AV P N ops Q S0 fuel (listed.setIfInBounds i true) E S) (hS: ∀w,S w→S0 w:=by exact Ho):KV N (fun a' w'=>S0 w'∧wpAnyH P .any ops Q S0 fuel (listed.setIfInBounds i true) a' w') E S:=AV.next _ rfl hS k
theorem Cw (i:Nat) {c fuel:Nat} {listed:Array Bool} (k:AC P N ops Q S0 c fuel (listed.setIfInBounds i true) (set E d v) S) (hi:ops[i]?=some ⟨some d,op,ty,pos,af,g⟩:=by exact rfl) (h:Step P N E S0 ⟨some d,op,ty,pos,af,g⟩ v:=by exact At) (hS: ∀w,S w→S0 w:=by exact Ho) (hg:Yes N ops ⟨some d,op,ty,pos,af,g⟩ E:=by first|exact gno|exact gyes rfl) (hN:Nat.blt d N.n=true:=by exact rfl) (hs:Region.noSelect ops=true:=by kernel_rfl) (hfr:Region.free .any ops listed i=true:=by kernel_rfl) (hr:(Region.ready .any ops listed).contains i=true:=by kernel_rfl) (hw:reachB ops .any i 8 c=true:=by kernel_rfl) (hd:downB ops .any listed=true:=by kernel_rfl) (hne:(c !=i)=true:=by kernel_rfl) (hlc:listed.getD c false=false:=by kernel_rfl) (hQ: ∀c a w,Q (.panic c) (a.put (some d) v) w→Q (.panic c) a w:=by with_unfolding_all exact fun _ _ _ h=>h):AC P N ops Q S0 c (fuel+1) listed E S:=AC.take i _ hi hs hfr hr hw hd hne hlc hQ hg h hN hS rfl k
theorem Cv (i:Nat) {c fuel:Nat} {listed:Array Bool} (hi:ops[i]?=some ⟨some d,op,ty,pos,af,g⟩) (h:Step P N E S0 ⟨some d,op,ty,pos,af,g⟩ v) (k:AC P N ops Q S0 c fuel (listed.setIfInBounds i true) (set E d v) S) (hS: ∀w,S w→S0 w:=by exact Ho) (hg:Yes N ops ⟨some d,op,ty,pos,af,g⟩ E:=by first|exact gno|exact gyes rfl) (hN:Nat.blt d N.n=true:=by exact rfl) (hs:Region.noSelect ops=true:=by kernel_rfl) (hfr:Region.free .any ops listed i=true:=by kernel_rfl) (hr:(Region.ready .any ops listed).contains i=true:=by kernel_rfl) (hw:reachB ops .any i 8 c=true:=by kernel_rfl) (hd:downB ops .any listed=true:=by kernel_rfl) (hne:(c !=i)=true:=by kernel_rfl) (hlc:listed.getD c false=false:=by kernel_rfl) (hQ: ∀c a w,Q (.panic c) (a.put (some d) v) w→Q (.panic c) a w:=by with_unfolding_all exact fun _ _ _ h=>h):AC P N ops Q S0 c (fuel+1) listed E S:=AC.take i _ hi hs hfr hr hw hd hne hlc hQ hg h hN hS rfl k
theorem Uw (i:Nat) {c fuel:Nat} {listed:Array Bool} (k:AC P N ops Q S0 c fuel (listed.setIfInBounds i true) (set E d v) S) (hi:ops[i]?=some ⟨some d,op,ty,pos,af,g⟩:=by exact rfl) (h:Step P N E (fun _=>True) ⟨some d,op,ty,pos,af,g⟩ v:=by exact At) (hS: ∀w,S w→S0 w:=by exact Ho) (hg:Yes N ops ⟨some d,op,ty,pos,af,g⟩ E:=by first|exact gno|exact gyes rfl) (hN:Nat.blt d N.n=true:=by exact rfl) (hs:Region.noSelect ops=true:=by kernel_rfl) (hfr:Region.free .any ops listed i=true:=by kernel_rfl) (hr:(Region.ready .any ops listed).contains i=true:=by kernel_rfl) (hne:(c !=i)=true:=by kernel_rfl) (hQ: ∀c a w,Q (.panic c) (a.put (some d) v) w→Q (.panic c) a w:=by with_unfolding_all exact fun _ _ _ h=>h):AC P N ops Q S0 c (fuel+1) listed E S:=AC.takeT i _ hi hs hfr hr hne hQ hg h hN hS rfl k
theorem Cj {c fuel:Nat} {listed:Array Bool} {i:Nat} (k:AC P N ops Q S0 c fuel (listed.setIfInBounds i true) E S) (hS: ∀w,S w→S0 w:=by exact Ho):KV N (fun a' w'=>((listed.setIfInBounds i true).getD c false=true∨S0 w')∧wpAnyC P .any ops Q S0 c fuel (listed.setIfInBounds i true) a' w') E S:=AC.next _ rfl (.inr hS) k
theorem V1 (i0:Nat) {fuel:Nat} {listed:Array Bool} {o0:Oper} (h0:OV P N ops Q o0 E S (fun a' w'=>S0 w'∧wpAnyH P .any ops Q S0 fuel (listed.setIfInBounds i0 true) a' w')) (q0:ops[i0]?=some o0:=by exact rfl) (hr:Region.ready .any ops listed=[i0]:=by kernel_rfl):AV P N ops Q S0 (fuel+1) listed E S:=AV.all _ hr (by simp) ⟨⟨_,q0,h0⟩,trivial⟩
theorem V2 (i0 i1:Nat) {fuel:Nat} {listed:Array Bool} {o0 o1:Oper} (h0:OV P N ops Q o0 E S (fun a' w'=>S0 w'∧wpAnyH P .any ops Q S0 fuel (listed.setIfInBounds i0 true) a' w')) (h1:OV P N ops Q o1 E S (fun a' w'=>S0 w'∧wpAnyH P .any ops Q S0 fuel (listed.setIfInBounds i1 true) a' w')) (q0:ops[i0]?=some o0:=by exact rfl) (q1:ops[i1]?=some o1:=by exact rfl) (hr:Region.ready .any ops listed=[i0,i1]:=by kernel_rfl):AV P N ops Q S0 (fuel+1) listed E S:=AV.all _ hr (by simp) ⟨⟨_,q0,h0⟩,⟨⟨_,q1,h1⟩,trivial⟩⟩
theorem V3 (i0 i1 i2:Nat) {fuel:Nat} {listed:Array Bool} {o0 o1 o2:Oper} (h0:OV P N ops Q o0 E S (fun a' w'=>S0 w'∧wpAnyH P .any ops Q S0 fuel (listed.setIfInBounds i0 true) a' w')) (h1:OV P N ops Q o1 E S (fun a' w'=>S0 w'∧wpAnyH P .any ops Q S0 fuel (listed.setIfInBounds i1 true) a' w')) (h2:OV P N ops Q o2 E S (fun a' w'=>S0 w'∧wpAnyH P .any ops Q S0 fuel (listed.setIfInBounds i2 true) a' w')) (q0:ops[i0]?=some o0:=by exact rfl) (q1:ops[i1]?=some o1:=by exact rfl) (q2:ops[i2]?=some o2:=by exact rfl) (hr:Region.ready .any ops listed=[i0,i1,i2]:=by kernel_rfl):AV P N ops Q S0 (fuel+1) listed E S:=AV.all _ hr (by simp) ⟨⟨_,q0,h0⟩,⟨⟨_,q1,h1⟩,⟨⟨_,q2,h2⟩,trivial⟩⟩⟩
theorem V4 (i0 i1 i2 i3:Nat) {fuel:Nat} {listed:Array Bool} {o0 o1 o2 o3:Oper} (h0:OV P N ops Q o0 E S (fun a' w'=>S0 w'∧wpAnyH P .any ops Q S0 fuel (listed.setIfInBounds i0 true) a' w')) (h1:OV P N ops Q o1 E S (fun a' w'=>S0 w'∧wpAnyH P .any ops Q S0 fuel (listed.setIfInBounds i1 true) a' w')) (h2:OV P N ops Q o2 E S (fun a' w'=>S0 w'∧wpAnyH P .any ops Q S0 fuel (listed.setIfInBounds i2 true) a' w')) (h3:OV P N ops Q o3 E S (fun a' w'=>S0 w'∧wpAnyH P .any ops Q S0 fuel (listed.setIfInBounds i3 true) a' w')) (q0:ops[i0]?=some o0:=by exact rfl) (q1:ops[i1]?=some o1:=by exact rfl) (q2:ops[i2]?=some o2:=by exact rfl) (q3:ops[i3]?=some o3:=by exact rfl) (hr:Region.ready .any ops listed=[i0,i1,i2,i3]:=by kernel_rfl):AV P N ops Q S0 (fuel+1) listed E S:=AV.all _ hr (by simp) ⟨⟨_,q0,h0⟩,⟨⟨_,q1,h1⟩,⟨⟨_,q2,h2⟩,⟨⟨_,q3,h3⟩,trivial⟩⟩⟩⟩
theorem V5 (i0 i1 i2 i3 i4:Nat) {fuel:Nat} {listed:Array Bool} {o0 o1 o2 o3 o4:Oper} (h0:OV P N ops Q o0 E S (fun a' w'=>S0 w'∧wpAnyH P .any ops Q S0 fuel (listed.setIfInBounds i0 true) a' w')) (h1:OV P N ops Q o1 E S (fun a' w'=>S0 w'∧wpAnyH P .any ops Q S0 fuel (listed.setIfInBounds i1 true) a' w')) (h2:OV P N ops Q o2 E S (fun a' w'=>S0 w'∧wpAnyH P .any ops Q S0 fuel (listed.setIfInBounds i2 true) a' w')) (h3:OV P N ops Q o3 E S (fun a' w'=>S0 w'∧wpAnyH P .any ops Q S0 fuel (listed.setIfInBounds i3 true) a' w')) (h4:OV P N ops Q o4 E S (fun a' w'=>S0 w'∧wpAnyH P .any ops Q S0 fuel (listed.setIfInBounds i4 true) a' w')) (q0:ops[i0]?=some o0:=by exact rfl) (q1:ops[i1]?=some o1:=by exact rfl) (q2:ops[i2]?=some o2:=by exact rfl) (q3:ops[i3]?=some o3:=by exact rfl) (q4:ops[i4]?=some o4:=by exact rfl) (hr:Region.ready .any ops listed=[i0,i1,i2,i3,i4]:=by kernel_rfl):AV P N ops Q S0 (fuel+1) listed E S:=AV.all _ hr (by simp) ⟨⟨_,q0,h0⟩,⟨⟨_,q1,h1⟩,⟨⟨_,q2,h2⟩,⟨⟨_,q3,h3⟩,⟨⟨_,q4,h4⟩,trivial⟩⟩⟩⟩⟩
theorem Q1 (i0:Nat) {c fuel:Nat} {listed:Array Bool} {o0:Oper} (h0:OV P N ops Q o0 E S (fun a' w'=>((listed.setIfInBounds i0 true).getD c false=true∨S0 w')∧wpAnyC P .any ops Q S0 c fuel (listed.setIfInBounds i0 true) a' w')) (q0:ops[i0]?=some o0:=by exact rfl) (hr:Region.ready .any ops listed=[i0]:=by kernel_rfl):AC P N ops Q S0 c (fuel+1) listed E S:=AC.all _ hr (by simp) ⟨⟨_,q0,h0⟩,trivial⟩
theorem ex {M:List Assn} (k:KV N KK E (Hp I0 w0 M)):KV N KK E (Hp I0 w0 (M++R)):=KV.heap (fun _ h=>Hp.sub h) k
theorem E0 (k:KV N KK E (Hp I0 w0 [])):KV N KK E (Hp I0 w0 (R)):=ex (M:=[]) k
theorem E1 {a0:Assn} (k:KV N KK E (Hp I0 w0 [a0])):KV N KK E (Hp I0 w0 (a0::R)):=ex (M:=[a0]) k
theorem K1 {a0:Assn} (ks:List Nat) (h:picks ks L=some ([a0],R)) (k:KV N KK E (Hp I0 w0 [a0])):KV N KK E (Hp I0 w0 L):=KV.sel ks _ h k
theorem E2 {a0 a1:Assn} (k:KV N KK E (Hp I0 w0 [a0,a1])):KV N KK E (Hp I0 w0 (a0::a1::R)):=ex (M:=[a0,a1]) k
theorem K2 {a0 a1:Assn} (ks:List Nat) (h:picks ks L=some ([a0,a1],R)) (k:KV N KK E (Hp I0 w0 [a0,a1])):KV N KK E (Hp I0 w0 L):=KV.sel ks _ h k
theorem E3 {a0 a1 a2:Assn} (k:KV N KK E (Hp I0 w0 [a0,a1,a2])):KV N KK E (Hp I0 w0 (a0::a1::a2::R)):=ex (M:=[a0,a1,a2]) k
theorem K3 {a0 a1 a2:Assn} (ks:List Nat) (h:picks ks L=some ([a0,a1,a2],R)) (k:KV N KK E (Hp I0 w0 [a0,a1,a2])):KV N KK E (Hp I0 w0 L):=KV.sel ks _ h k
theorem E4 {a0 a1 a2 a3:Assn} (k:KV N KK E (Hp I0 w0 [a0,a1,a2,a3])):KV N KK E (Hp I0 w0 (a0::a1::a2::a3::R)):=ex (M:=[a0,a1,a2,a3]) k
theorem K4 {a0 a1 a2 a3:Assn} (ks:List Nat) (h:picks ks L=some ([a0,a1,a2,a3],R)) (k:KV N KK E (Hp I0 w0 [a0,a1,a2,a3])):KV N KK E (Hp I0 w0 L):=KV.sel ks _ h k
theorem E5 {a0 a1 a2 a3 a4:Assn} (k:KV N KK E (Hp I0 w0 [a0,a1,a2,a3,a4])):KV N KK E (Hp I0 w0 (a0::a1::a2::a3::a4::R)):=ex (M:=[a0,a1,a2,a3,a4]) k
theorem K5 {a0 a1 a2 a3 a4:Assn} (ks:List Nat) (h:picks ks L=some ([a0,a1,a2,a3,a4],R)) (k:KV N KK E (Hp I0 w0 [a0,a1,a2,a3,a4])):KV N KK E (Hp I0 w0 L):=KV.sel ks _ h k
theorem E6 {a0 a1 a2 a3 a4 a5:Assn} (k:KV N KK E (Hp I0 w0 [a0,a1,a2,a3,a4,a5])):KV N KK E (Hp I0 w0 (a0::a1::a2::a3::a4::a5::R)):=ex (M:=[a0,a1,a2,a3,a4,a5]) k
theorem K6 {a0 a1 a2 a3 a4 a5:Assn} (ks:List Nat) (h:picks ks L=some ([a0,a1,a2,a3,a4,a5],R)) (k:KV N KK E (Hp I0 w0 [a0,a1,a2,a3,a4,a5])):KV N KK E (Hp I0 w0 L):=KV.sel ks _ h k
theorem E7 {a0 a1 a2 a3 a4 a5 a6:Assn} (k:KV N KK E (Hp I0 w0 [a0,a1,a2,a3,a4,a5,a6])):KV N KK E (Hp I0 w0 (a0::a1::a2::a3::a4::a5::a6::R)):=ex (M:=[a0,a1,a2,a3,a4,a5,a6]) k
theorem K7 {a0 a1 a2 a3 a4 a5 a6:Assn} (ks:List Nat) (h:picks ks L=some ([a0,a1,a2,a3,a4,a5,a6],R)) (k:KV N KK E (Hp I0 w0 [a0,a1,a2,a3,a4,a5,a6])):KV N KK E (Hp I0 w0 L):=KV.sel ks _ h k
theorem E8 {a0 a1 a2 a3 a4 a5 a6 a7:Assn} (k:KV N KK E (Hp I0 w0 [a0,a1,a2,a3,a4,a5,a6,a7])):KV N KK E (Hp I0 w0 (a0::a1::a2::a3::a4::a5::a6::a7::R)):=ex (M:=[a0,a1,a2,a3,a4,a5,a6,a7]) k
theorem K8 {a0 a1 a2 a3 a4 a5 a6 a7:Assn} (ks:List Nat) (h:picks ks L=some ([a0,a1,a2,a3,a4,a5,a6,a7],R)) (k:KV N KK E (Hp I0 w0 [a0,a1,a2,a3,a4,a5,a6,a7])):KV N KK E (Hp I0 w0 L):=KV.sel ks _ h k
theorem E9 {a0 a1 a2 a3 a4 a5 a6 a7 a8:Assn} (k:KV N KK E (Hp I0 w0 [a0,a1,a2,a3,a4,a5,a6,a7,a8])):KV N KK E (Hp I0 w0 (a0::a1::a2::a3::a4::a5::a6::a7::a8::R)):=ex (M:=[a0,a1,a2,a3,a4,a5,a6,a7,a8]) k
theorem K9 {a0 a1 a2 a3 a4 a5 a6 a7 a8:Assn} (ks:List Nat) (h:picks ks L=some ([a0,a1,a2,a3,a4,a5,a6,a7,a8],R)) (k:KV N KK E (Hp I0 w0 [a0,a1,a2,a3,a4,a5,a6,a7,a8])):KV N KK E (Hp I0 w0 L):=KV.sel ks _ h k
theorem E10 {a0 a1 a2 a3 a4 a5 a6 a7 a8 a9:Assn} (k:KV N KK E (Hp I0 w0 [a0,a1,a2,a3,a4,a5,a6,a7,a8,a9])):KV N KK E (Hp I0 w0 (a0::a1::a2::a3::a4::a5::a6::a7::a8::a9::R)):=ex (M:=[a0,a1,a2,a3,a4,a5,a6,a7,a8,a9]) k
theorem K10 {a0 a1 a2 a3 a4 a5 a6 a7 a8 a9:Assn} (ks:List Nat) (h:picks ks L=some ([a0,a1,a2,a3,a4,a5,a6,a7,a8,a9],R)) (k:KV N KK E (Hp I0 w0 [a0,a1,a2,a3,a4,a5,a6,a7,a8,a9])):KV N KK E (Hp I0 w0 L):=KV.sel ks _ h k
theorem E11 {a0 a1 a2 a3 a4 a5 a6 a7 a8 a9 a10:Assn} (k:KV N KK E (Hp I0 w0 [a0,a1,a2,a3,a4,a5,a6,a7,a8,a9,a10])):KV N KK E (Hp I0 w0 (a0::a1::a2::a3::a4::a5::a6::a7::a8::a9::a10::R)):=ex (M:=[a0,a1,a2,a3,a4,a5,a6,a7,a8,a9,a10]) k
theorem E12 {a0 a1 a2 a3 a4 a5 a6 a7 a8 a9 a10 a11:Assn} (k:KV N KK E (Hp I0 w0 [a0,a1,a2,a3,a4,a5,a6,a7,a8,a9,a10,a11])):KV N KK E (Hp I0 w0 (a0::a1::a2::a3::a4::a5::a6::a7::a8::a9::a10::a11::R)):=ex (M:=[a0,a1,a2,a3,a4,a5,a6,a7,a8,a9,a10,a11]) k
theorem K12 {a0 a1 a2 a3 a4 a5 a6 a7 a8 a9 a10 a11:Assn} (ks:List Nat) (h:picks ks L=some ([a0,a1,a2,a3,a4,a5,a6,a7,a8,a9,a10,a11],R)) (k:KV N KK E (Hp I0 w0 [a0,a1,a2,a3,a4,a5,a6,a7,a8,a9,a10,a11])):KV N KK E (Hp I0 w0 L):=KV.sel ks _ h k
theorem E13 {a0 a1 a2 a3 a4 a5 a6 a7 a8 a9 a10 a11 a12:Assn} (k:KV N KK E (Hp I0 w0 [a0,a1,a2,a3,a4,a5,a6,a7,a8,a9,a10,a11,a12])):KV N KK E (Hp I0 w0 (a0::a1::a2::a3::a4::a5::a6::a7::a8::a9::a10::a11::a12::R)):=ex (M:=[a0,a1,a2,a3,a4,a5,a6,a7,a8,a9,a10,a11,a12]) k
theorem K13 {a0 a1 a2 a3 a4 a5 a6 a7 a8 a9 a10 a11 a12:Assn} (ks:List Nat) (h:picks ks L=some ([a0,a1,a2,a3,a4,a5,a6,a7,a8,a9,a10,a11,a12],R)) (k:KV N KK E (Hp I0 w0 [a0,a1,a2,a3,a4,a5,a6,a7,a8,a9,a10,a11,a12])):KV N KK E (Hp I0 w0 L):=KV.sel ks _ h k
theorem E14 {a0 a1 a2 a3 a4 a5 a6 a7 a8 a9 a10 a11 a12 a13:Assn} (k:KV N KK E (Hp I0 w0 [a0,a1,a2,a3,a4,a5,a6,a7,a8,a9,a10,a11,a12,a13])):KV N KK E (Hp I0 w0 (a0::a1::a2::a3::a4::a5::a6::a7::a8::a9::a10::a11::a12::a13::R)):=ex (M:=[a0,a1,a2,a3,a4,a5,a6,a7,a8,a9,a10,a11,a12,a13]) k
theorem K14 {a0 a1 a2 a3 a4 a5 a6 a7 a8 a9 a10 a11 a12 a13:Assn} (ks:List Nat) (h:picks ks L=some ([a0,a1,a2,a3,a4,a5,a6,a7,a8,a9,a10,a11,a12,a13],R)) (k:KV N KK E (Hp I0 w0 [a0,a1,a2,a3,a4,a5,a6,a7,a8,a9,a10,a11,a12,a13])):KV N KK E (Hp I0 w0 L):=KV.sel ks _ h k
theorem E15 {a0 a1 a2 a3 a4 a5 a6 a7 a8 a9 a10 a11 a12 a13 a14:Assn} (k:KV N KK E (Hp I0 w0 [a0,a1,a2,a3,a4,a5,a6,a7,a8,a9,a10,a11,a12,a13,a14])):KV N KK E (Hp I0 w0 (a0::a1::a2::a3::a4::a5::a6::a7::a8::a9::a10::a11::a12::a13::a14::R)):=ex (M:=[a0,a1,a2,a3,a4,a5,a6,a7,a8,a9,a10,a11,a12,a13,a14]) k
theorem E16 {a0 a1 a2 a3 a4 a5 a6 a7 a8 a9 a10 a11 a12 a13 a14 a15:Assn} (k:KV N KK E (Hp I0 w0 [a0,a1,a2,a3,a4,a5,a6,a7,a8,a9,a10,a11,a12,a13,a14,a15])):KV N KK E (Hp I0 w0 (a0::a1::a2::a3::a4::a5::a6::a7::a8::a9::a10::a11::a12::a13::a14::a15::R)):=ex (M:=[a0,a1,a2,a3,a4,a5,a6,a7,a8,a9,a10,a11,a12,a13,a14,a15]) k
theorem K16 {a0 a1 a2 a3 a4 a5 a6 a7 a8 a9 a10 a11 a12 a13 a14 a15:Assn} (ks:List Nat) (h:picks ks L=some ([a0,a1,a2,a3,a4,a5,a6,a7,a8,a9,a10,a11,a12,a13,a14,a15],R)) (k:KV N KK E (Hp I0 w0 [a0,a1,a2,a3,a4,a5,a6,a7,a8,a9,a10,a11,a12,a13,a14,a15])):KV N KK E (Hp I0 w0 L):=KV.sel ks _ h k
theorem E17 {a0 a1 a2 a3 a4 a5 a6 a7 a8 a9 a10 a11 a12 a13 a14 a15 a16:Assn} (k:KV N KK E (Hp I0 w0 [a0,a1,a2,a3,a4,a5,a6,a7,a8,a9,a10,a11,a12,a13,a14,a15,a16])):KV N KK E (Hp I0 w0 (a0::a1::a2::a3::a4::a5::a6::a7::a8::a9::a10::a11::a12::a13::a14::a15::a16::R)):=ex (M:=[a0,a1,a2,a3,a4,a5,a6,a7,a8,a9,a10,a11,a12,a13,a14,a15,a16]) k
theorem K17 {a0 a1 a2 a3 a4 a5 a6 a7 a8 a9 a10 a11 a12 a13 a14 a15 a16:Assn} (ks:List Nat) (h:picks ks L=some ([a0,a1,a2,a3,a4,a5,a6,a7,a8,a9,a10,a11,a12,a13,a14,a15,a16],R)) (k:KV N KK E (Hp I0 w0 [a0,a1,a2,a3,a4,a5,a6,a7,a8,a9,a10,a11,a12,a13,a14,a15,a16])):KV N KK E (Hp I0 w0 L):=KV.sel ks _ h k
theorem E18 {a0 a1 a2 a3 a4 a5 a6 a7 a8 a9 a10 a11 a12 a13 a14 a15 a16 a17:Assn} (k:KV N KK E (Hp I0 w0 [a0,a1,a2,a3,a4,a5,a6,a7,a8,a9,a10,a11,a12,a13,a14,a15,a16,a17])):KV N KK E (Hp I0 w0 (a0::a1::a2::a3::a4::a5::a6::a7::a8::a9::a10::a11::a12::a13::a14::a15::a16::a17::R)):=ex (M:=[a0,a1,a2,a3,a4,a5,a6,a7,a8,a9,a10,a11,a12,a13,a14,a15,a16,a17]) k
theorem E19 {a0 a1 a2 a3 a4 a5 a6 a7 a8 a9 a10 a11 a12 a13 a14 a15 a16 a17 a18:Assn} (k:KV N KK E (Hp I0 w0 [a0,a1,a2,a3,a4,a5,a6,a7,a8,a9,a10,a11,a12,a13,a14,a15,a16,a17,a18])):KV N KK E (Hp I0 w0 (a0::a1::a2::a3::a4::a5::a6::a7::a8::a9::a10::a11::a12::a13::a14::a15::a16::a17::a18::R)):=ex (M:=[a0,a1,a2,a3,a4,a5,a6,a7,a8,a9,a10,a11,a12,a13,a14,a15,a16,a17,a18]) k
theorem Zw (k:Nat) {te:TypeId} {ze:Value} {sz by_ b o:Nat} {cur:Array Value} (vs:List Value) (cs:Array Value) [i:Inf P t ze sz by_] (kk:RV P N ops Q rest E (Hp I0 w0 (L.set k (Blk b (.cells cs te (0,0)))))) (hx:ev E x=some (.pointer (some ⟨b,o,none⟩)):=by exact rfl) (hy:ev E y=some v:=by exact rfl) (hk:L[k]?=some (Blk b (.cells cur te (0,0))):=by exact rfl) (hv:v.cells=vs.toArray:=by exact rfl) (hcs:(cur.toList.take o++vs++cur.toList.drop (o+vs.length)).toArray=cs:=by exact rfl) (hl:vs.length=sz:=by exact rfl) (ho:o+vs.length≤cur.size:=by exact Nat.le_of_ble_eq_true rfl) (h1: ∀v∈vs,v.oneCell'=true:=by simp[Value.oneCell']) (hg:Yes N ops ⟨none,.store t x y,ty,pos,af,g⟩ E:=by first|exact gno|exact gyes rfl):RV P N ops Q (⟨none,.store t x y,ty,pos,af,g⟩::rest) E (Hp I0 w0 L):=RV.op (Yw k vs cs hx hy hk hv hcs kk hl ho h1 hg)
theorem An (S0:World→Prop) (n:Nat) {id:Nat} {l:List Oper} (h:AV P N l.toArray Q S0 n (Array.replicate n false) E S) (hm:P.follows .mixedOrders=true:=by kernel_rfl) (hd: ∀w,S w→S w.drew:=by exact fun _ h=>h.drew) (hn:l.length=n:=by exact rfl):CV P N (.region id l.toArray true) Q E S:=CV.any S0 hm hd n hn h
theorem Ac (S0:World→Prop) (c n:Nat) {id:Nat} {l:List Oper} (h:AC P N l.toArray Q S0 c n (Array.replicate n false) E S) (hm:P.follows .mixedOrders=true:=by kernel_rfl) (hd: ∀w,S w→S w.drew:=by exact fun _ h=>h.drew) (hn:l.length=n:=by exact rfl):CV P N (.region id l.toArray true) Q E S:=CV.anyC S0 c hm hd n hn h
theorem Zs {id:Nat} {l:List Oper} (h:SV P N l.toArray (Q .normal) l E S) (hm:P.follows .mixedOrders=true:=by kernel_rfl) (hd: ∀w,S w→S w.drew:=by exact fun _ h=>h.drew) (hB:Region.lexB .any l.toArray=true:=by kernel_rfl):CV P N (.region id l.toArray true) Q E S:=CV.still hm hB hd h
theorem Zt (n:Nat) {id:Nat} {l:List Oper} (h:SV P N l.toArray (wpList P l.toArray Q (l.drop n)) (l.take n) E S) (hm:P.follows .mixedOrders=true:=by kernel_rfl) (hd: ∀w,S w→S w.drew:=by exact fun _ h=>h.drew) (hB:Region.lexTailB .any l.toArray n=true:=by kernel_rfl):CV P N (.region id l.toArray true) Q E S:=CV.stillTail n hm hB hd h
end
end Go.Tk
