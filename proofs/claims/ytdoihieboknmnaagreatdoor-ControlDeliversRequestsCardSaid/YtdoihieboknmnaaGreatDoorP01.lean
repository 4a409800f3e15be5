/-
  Joined.
-/
import Derived.WalkKit
import Derived.OrdersHeld
import Derived.StillTail
import Derived.Deep.LoopGhost
import Derived.IntWalk
import Derived.LaidEql
import Derived.Maps.AppendAt
import Derived.Laws.CopyRow
import Derived.Laws.MakeOwn
import Derived.Lib.SliceRun
import Derived.Deep.Slices
import Derived.Deep.Fields
import Derived.ChangeSame
import Derived.Below
import Derived.Lib.AppendZerosOnto
import Derived.Laws.ResultCell
import Derived.ChangeSlices
import Derived.Lib.Overlaps
import Derived.Laws.Externs
import Derived.Lib.Strings
import Derived.RangeFuncIn
import Derived.RangeFuncLeaves
import Derived.RangeFuncCalls
import Derived.RangeFuncRecord
import Derived.TacticsIn
import Derived.Lib.Bytealg
import Derived.Lib.AppendStr
import Derived.Lib.Builder
import Derived.LaidEqlPtr
import Derived.Defers
set_option linter.unusedSimpArgs false
set_option linter.unusedVariables false
theorem qB:∀{α:Type}{a:α}{b:List α},(a::b).length=b.length+1:=@List.length_cons
theorem qC:∀{α:Type},([]:List α).length=0:=@List.length_nil
theorem qD:∀{α:Type}{a bs:List α},(a++bs).length=a.length+bs.length:=@List.length_append
theorem qE:∀{α β:Type}{a:List α} (f:α→β),(List.map f a).length=a.length:=@List.length_map
theorem qF:∀{α:Type}{i:Nat}{l:List α},(List.take i l).length=min i l.length:=@List.length_take
theorem qG:∀{α:Type}{i:Nat}{l:List α},(List.drop i l).length=l.length-i:=@List.length_drop
theorem qH:∀{α:Type}{n:Nat}{a:α},(List.replicate n a).length=n:=@List.length_replicate
theorem qI:∀{α:Type}{b:List α}{i:Nat}{a:α},(b.set i a).length=b.length:=@List.length_set
theorem qJ:∀{α:Type}{l:List α}{i:Nat} (h:i<l.length),l[i]?=some l[i]:=@List.getElem?_eq_getElem
theorem qK:∀{α:Type} (a:List α),a++[]=a:=@List.append_nil
theorem qL:∀{α:Type} (a bs cs:List α),a++bs++cs=a++(bs++cs):=@List.append_assoc
theorem qM:∀{α:Type}{a:α}{b bs:List α},a::b++bs=a::(b++bs):=@List.cons_append
theorem qN:∀{α β:Type}{f:α→β}{l₁ l₂:List α},List.map f (l₁++l₂)=List.map f l₁++List.map f l₂:=@List.map_append
theorem qO:∀{α:Type}{l:List α},l.length=0→l=[]:=@List.eq_nil_of_length_eq_zero
theorem qP:∀{α:Type}{l₁ l₂:List α}{i:Nat},i<l₁.length→(l₁++l₂)[i]?=l₁[i]?:=@List.getElem?_append_left
theorem qQ:∀{p:Prop} [a:Decidable p], ¬p→decide p=false:=@decide_eq_false
theorem qR:∀{p:Prop} [a:Decidable p],p→decide p=true:=@decide_eq_true
theorem qS:∀{p:Prop} [Decidable p], ¬¬p↔p:=@Decidable.not_not
theorem qT:∀ (n:Nat),0≤n:=@Nat.zero_le
theorem qU:∀ (n:Nat),n≤n:=@Nat.le_refl
theorem qV:∀{n m:Nat},n.ble m=true→n≤m:=@Nat.le_of_ble_eq_true
theorem qW:∀{a b:Int},0≤a→a.tmod b=a%b:=@Int.tmod_eq_emod_of_nonneg
theorem qX:(false=true)=False:=@Bool.false_eq_true
theorem qY:∀{α:Type}{val a:α},some val=some a→val=a:=@Option.some.inj
theorem qZ:∀{α:Type} (val a:α),(some val=some a)=(val=a):=@Option.some.injEq
theorem qa:∀{a:Int},0≤a→ ∃n:Nat,a=(n:Int):=@Int.eq_ofNat_of_zero_le
theorem qe:∀{α:Type}{b:α}{l:List α}{a:α},a∈b::l↔a=b∨a∈l:=@List.mem_cons
theorem qf:∀{α:Type}{l₁ l₂:List α},(l₁++l₂).Perm (l₂++l₁):=@List.perm_append_comm
theorem qg:∀ (a b:Bool),((a&&b)=true)=(a=true∧b=true):=@Bool.and_eq_true
theorem qh:∀ (n:Nat),((n:Int)).toNat=n:=@Int.toNat_natCast
theorem qi:∀{α:Type} (a:α) (l:List α),(l++[a]).Perm (a::l):=@List.perm_append_singleton
theorem qj:∀{p:Prop} [a:Decidable p],(decide p=true)=p:=@decide_eq_true_eq
theorem qk:∀{n m k:Nat},n≤m→m≤k→n≤k:=@Nat.le_trans
theorem ql:∀{α:Type}{l:List α},0<l.length↔l≠[]:=@List.length_pos_iff
theorem qm:∀{α:Type}{a b:α},a∈[b]↔a=b:=@List.mem_singleton
namespace Go.Sv
structure NN where
 n:Nat
 D:List Deferred
abbrev Env:=List (Nat×Value)
def get:Env→Nat→Option Value
 |[],_=>none
 |(k,v)::r,t=>bif Nat.beq k t then some v else get r t
@[reducible] def set (E:Env) (t:Nat) (v:Value):Env:=(t,v)::E
theorem kBh (E:Env) (t:Nat) (v:Value):get (set E t v) t=some v:=by simp[get,set]
theorem kCy (E:Env) {t s:Nat} (v:Value) (h:s≠t):get (set E t v) s=get E s:=by
 grind [Nat.beq_eq,get]
structure Fits (N:NN) (a:Act) (E:Env):Prop where
 defers:a.defers=N.D
 size:a.tmps.size=N.n
 slot: ∀t v,get E t=some v→a.tmps[t]?=some v
def ev (E:Env):Operand→Option Value
 | .tmp t=>get E t
 | .const v=>some v
 | .global g=>some (.pointer (some ⟨g,0,none⟩))
 | .func f=>some (.func (.func f) #[] #[])
theorem Fits.ev {N:NN} {a:Act} {E:Env} (h:Fits N a E) {x:Operand} {v:Value} (b:ev E x=some v):a.eval x=v:=by
 cases x with
 |tmp t=>
  have:=h.slot t v b;simp_all[Act.eval]
 |const u=>grind [Sv.ev,Act.eval]
 |global g=>grind [Sv.ev,Act.eval]
 |func f=>grind [Sv.ev,Act.eval]
theorem Fits.put {N:NN} {a:Act} {E:Env} (h:Fits N a E) {d:Nat} (v:Value) (f:Nat.blt d N.n=true):Fits N (a.put (some d) v) (set E d v):=by
 have c:d<N.n:=by simp_all
 refine⟨h.defers,by simp[Act.put,h.size],fun t u b=>?_⟩;by_cases e:t=d
 ·subst e;rw[kBh] at b;simp[Act.put,h.size,c,←qY b]
 ·rw[kCy E v e] at b;simp[Act.put,Array.getElem?_setIfInBounds_ne (fun x=>e x.symm),h.slot t u b]
theorem Fits.put_none {N:NN} {a:Act} {E:Env} (h:Fits N a E) (v:Value):Fits N (a.put none v) E:=h
def Sub:Env→Env→Prop
 |[],_=>True
 |(k,v)::r,E=>get E k=some v∧Sub r E
theorem Sub.get {E' E:Env} (h:Sub E' E) {t:Nat} {v:Value} (a:get E' t=some v):get E t=some v:=by
 induction E' with
 |nil=>grind [Sv.get]
 |cons p r b=>
  obtain⟨k,u⟩:=p;by_cases c:k=t
  ·subst c;simp[Sv.get] at a;rw[←a];exact h.1
  ·have d:Nat.beq k t=false:=by grind [Nat.beq_eq]
   simp only[Sv.get,d,cond_false] at a;exact b h.2 a
theorem Fits.sub {N:NN} {a:Act} {E E':Env} (h:Fits N a E) (hs:Sub E' E):Fits N a E':=
 ⟨h.defers,h.size,fun t v b=>h.slot t v (hs.get b)⟩
def evs (E:Env):List Operand→Option (List Value)
 |[]=>some []
 |x::r=>match ev E x,evs E r with
  |some v,some vs=>some (v::vs)
  |_,_=>none
theorem Fits.evs {N:NN} {a:Act} {E:Env} (h:Fits N a E): ∀ {xs:List Operand} {vs:List Value},evs E xs=some vs→xs.map a.eval=vs
 |[],vs,b=>by grind [Sv.evs]
 |x::r,vs,b=>by
  simp only[Sv.evs] at b;cases c:Sv.ev E x with
  |none=>grind
  |some v=>
   cases d:Sv.evs E r with
   |none=>grind
   |some us=>
    simp[c,d] at b;rw[←b,List.map_cons,h.ev c,h.evs d]
abbrev Ids:=Nat→Prop
structure Assn where
 sat:World→Ids→Prop
 lt: ∀ {w:World} {I:Ids},sat w I→ ∀x,I x→x<w.heap.size
 keep: ∀ {w w':World} {I:Ids},sat w I→(∀x,I x→w'.heap[x]?=w.heap[x]?)→sat w' I
def Sep:List Assn→Ids→World→Prop
 |[],I,_=> ∀x,¬I x
 |A::L,I,w=> ∃i j:Ids,(∀x,I x↔i x∨j x)∧(∀x,i x→ ¬j x)∧A.sat w i∧Sep L j w
theorem kAW {w:World} {b:Nat} {o:Obj} (h:w.heap[b]?=some o):b<w.heap.size:=by
 grind
def Blk (b:Nat) (o:Obj):Assn where
 sat w I:=(∀x,I x↔x=b)∧w.heap[b]?=some o
 lt h x hx:=by grind
 keep h hk:=⟨h.1,by grind⟩
theorem Sep.lt: ∀ {L:List Assn} {I:Ids} {w:World},Sep L I w→ ∀x,I x→x<w.heap.size
 |[],_,_,h,x,a=>absurd a (h x)
 |A::L,I,w,⟨i,j,hI,_,b,c⟩,x,a=>by
  rcases(hI x).1 a with h|h
  ·exact A.lt b x h
  ·exact c.lt x h
theorem Sep.keep: ∀ {L:List Assn} {I:Ids} {w w':World},Sep L I w→(∀x,I x→w'.heap[x]?=w.heap[x]?)→Sep L I w'
 |[],_,_,_,h,_=>h
 |A::_,_,_,_,⟨i,j,hI,c,d,e⟩,b=>
  ⟨i,j,hI,c,A.keep d (fun x a=>b x ((hI x).2 (.inl a))),e.keep (fun x a=>b x ((hI x).2 (.inr a)))⟩
theorem Sep.ext: ∀ {L:List Assn} {I J:Ids} {w:World},Sep L I w→(∀x,I x↔J x)→Sep L J w
 |[],_,_,_,h,e=>fun x a=>h x ((e x).2 a)
 |_::_,_,_,_,⟨i,j,hI,b,c,d⟩,e=>⟨i,j,fun x=>(e x).symm.trans (hI x),b,c,d⟩
theorem Sep.swap {A B:Assn} {L:List Assn} {I:Ids} {w:World} (h:Sep (A::B::L) I w):Sep (B::A::L) I w:=by
 obtain⟨i,j,hI,e,f,g,a,b,k,l,m⟩:=h;refine⟨g,fun x=>i x∨a x,fun x=>?_,fun x c d=>?_,l,i,a,fun _=>Iff.rfl,fun x c d=>e x c ((b x).2 (.inr d)),f,m⟩
 ·rw[hI x,b x];constructor<;>(rintro(h|h|h)<;>simp[h])
 grind
theorem Sep.perm {L a:List Assn} (b:L.Perm a): ∀ {I:Ids} {w:World},Sep L I w→Sep a I w:=by
 induction b with
 |nil=>grind
 |cons A _ c=>exact fun⟨i,j,hI,d,e,f⟩=>⟨i,j,hI,d,e,c f⟩
 |swap A B L=>exact fun h=>h.swap
 |trans _ _ g k=>grind
theorem Sep.append: ∀ {L M:List Assn} {I:Ids} {w:World},Sep (L++M) I w↔ ∃i j:Ids,(∀x,I x↔i x∨j x)∧(∀x,i x→ ¬j x)∧Sep L i w∧Sep M j w
 |[],M,I,w=>by
  constructor
  ·intro h;exact⟨fun _=>False,I,fun x=>by simp,fun _ h=>h.elim,fun _ h=>h,h⟩
  ·rintro⟨i,j,hI,_,hi,c⟩;refine c.ext fun x=>?_;rw[hI x];constructor
   ·grind
   ·rintro(h|h)
    ·exact absurd h (hi x)
    grind
 |A::L,M,I,w=>by
  constructor
  ·rintro⟨i,j,hI,hd,hA,h⟩;obtain⟨d,k,e,f,g,c⟩:=Sep.append.1 h;refine⟨fun x=>i x∨d x,k,fun x=>?_,?_,⟨i,d,fun _=>Iff.rfl,fun x a b=>hd x a ((e x).2 (.inl b)),hA,g⟩,c⟩
   ·rw[hI x,e x];constructor<;>(intro h;simp only[or_assoc] at *;exact h)
   ·rintro x (a|a) b
    ·exact hd x a ((e x).2 (.inr b))
    ·exact f x a b
  ·rintro⟨i,j,hI,hd,⟨i1,d,hi,hd1,hA,g⟩,c⟩;refine⟨i1,fun x=>d x∨j x,fun x=>?_,?_,hA,Sep.append.2 ⟨d,j,fun _=>Iff.rfl,fun x a b=>hd x ((hi x).2 (.inr a)) b,g,c⟩⟩
   ·rw[hI x,hi x];simp only[or_assoc]
   ·rintro x a (b|b)
    ·exact hd1 x a b
    ·exact hd x ((hi x).2 (.inl a)) b
structure Ext (I:Ids) (w w':World):Prop where
 os:w'.os=w.os
 tape:w'.tape=w.tape
 output:w'.output=w.output
 size:w.heap.size≤w'.heap.size
 block: ∀x,x<w.heap.size→ ¬I x→w'.heap[x]?=w.heap[x]?
theorem Ext.refl (I:Ids) (w:World):Ext I w w:=⟨rfl,rfl,rfl,qU _,fun _ _ _=>rfl⟩
theorem Ext.trans {I J:Ids} {a b c:World} (h:Ext I a b) (k:Ext J b c) (f: ∀x,J x→I x∨a.heap.size≤x):Ext I a c:=
 ⟨k.os.trans h.os,k.tape.trans h.tape,k.output.trans h.output,qk h.size k.size,fun x d e=>by
  rw[k.block x (Nat.lt_of_lt_of_le d h.size) (fun g=>(f x g).elim e (fun h'=>by omega)),h.block x d e]⟩
theorem Ext.drew {I:Ids} {w w':World} (h:Ext I w w'):Ext I w w'.drew:=⟨h.os,h.tape,h.output,h.size,h.block⟩
def Hp (I0:Ids) (w0:World) (L:List Assn) (w:World):Prop:=
 ∃I:Ids,Sep L I w∧Ext I0 w0 w∧ ∀x,I x→I0 x∨w0.heap.size≤x
theorem Hp.start {I:Ids} {w:World} {L:List Assn} (h:Sep L I w):Hp I w L w:=⟨I,h,Ext.refl I w,fun _ h=> .inl h⟩
theorem Hp.perm {I0:Ids} {w0 w:World} {L a:List Assn} (h:Hp I0 w0 L w) (b:L.Perm a):Hp I0 w0 a w:=
 let ⟨I,hs,he,hi⟩:=h;⟨I,hs.perm b,he,hi⟩
theorem Hp.sub {I0:Ids} {w0 w:World} {L M:List Assn} (h:Hp I0 w0 (L++M) w):Hp I0 w0 L w:=by
 obtain⟨I,a,b,c⟩:=h;obtain⟨i,j,hI,_,d,_⟩:=Sep.append.1 a;exact⟨i,d,b,fun x e=>c x ((hI x).2 (.inl e))⟩
theorem Sep.drew {L:List Assn} {I:Ids} {w:World} (h:Sep L I w):Sep L I w.drew:=h.keep fun _ _=>rfl
theorem Hp.drew {I0:Ids} {w0 w:World} {L:List Assn} (h:Hp I0 w0 L w):Hp I0 w0 L w.drew:=
 let ⟨I,hs,he,hi⟩:=h;⟨I,hs.drew,he.drew,hi⟩
theorem kAN {α:Type}: ∀ {L:List α} {k:Nat} {A:α},L[k]?=some A→L.Perm (A::L.eraseIdx k)
 |[],_,_,h=>by simp at h
 |B::L,0,A,h=>by simp_all
 |B::L,k+1,A,h=>by
  simp only[List.getElem?_cons_succ] at h;simp only[List.eraseIdx_cons_succ];exact(List.Perm.cons B (kAN h)).trans (List.Perm.swap A B _)
theorem kAt {α:Type}: ∀ {L:List α} {k:Nat} {A:α} (B:α),L[k]?=some A→(B::L.eraseIdx k).Perm (L.set k B)
 |[],_,_,_,h=>by simp at h
 |C::L,0,A,B,_=>by simp
 |C::L,k+1,A,B,h=>by
  simp only[List.getElem?_cons_succ] at h;simp only[List.eraseIdx_cons_succ,List.set_cons_succ];exact(List.Perm.swap C B _).trans (List.Perm.cons C (kAt B h))
theorem Hp.at {I0:Ids} {w0 w:World} {L:List Assn} (h:Hp I0 w0 L w) {k:Nat} {A:Assn} (a:L[k]?=some A):
 ∃i j:Ids,A.sat w i∧Sep (L.eraseIdx k) j w∧(∀x,i x→ ¬j x)∧Ext I0 w0 w∧(∀x,i x→I0 x∨w0.heap.size≤x)∧(∀x,j x→I0 x∨w0.heap.size≤x):=by
 obtain⟨I,b,c,d⟩:=h.perm (kAN a);obtain⟨i,j,hI,e,f,g⟩:=b
 grind
theorem Hp.blk {I0:Ids} {w0 w:World} {L:List Assn} (h:Hp I0 w0 L w) (k:Nat) {b:Nat} {o:Obj} (a:L[k]?=some (Blk b o)):w.heap[b]?=some o:=by
 obtain⟨i,j,c,_⟩:=h.at a;exact c.2
theorem kAA {w:World} {b:Nat} {cs:Array Value} {t:TypeId} {a:Nat×Nat} (h:w.heap[b]?=some (.cells cs t a)) (o:Nat):w.cell? ⟨b,o,none⟩=cs[o]?:=by
 grind [World.cell?]
theorem Hp.cell {I0:Ids} {w0 w:World} {L:List Assn} (h:Hp I0 w0 L w) (k:Nat) {b o:Nat} {cs:Array Value} {t:TypeId} {a:Nat×Nat} {v:Value}
 (c:L[k]?=some (Blk b (.cells cs t a))) (d:cs.toList[o]?=some v):w.cell? ⟨b,o,none⟩=some v:=by
 rw[kAA (h.blk k c),←d,Array.getElem?_toList]
theorem Hp.ro {I0:Ids} {w0 w:World} {L:List Assn} (h:Hp I0 w0 L w) {b:Nat} {o:Obj} (a:w0.heap[b]?=some o) (c: ¬I0 b):w.heap[b]?=some o:=by
 obtain⟨_,_,d,_⟩:=h;rw[d.block b (kAW a) c,a]
theorem Hp.alloc {I0:Ids} {w0 w w':World} {L:List Assn} {o:Obj} (h:Hp I0 w0 L w) (f:w'.heap=w.heap.push o) (g:w'.os=w.os) (i:w'.tape=w.tape) (j:w'.output=w.output):
 Hp I0 w0 (L++[Blk w.heap.size o]) w':=by
 obtain⟨I,d,c,l⟩:=h;have a: ∀x,x<w.heap.size→w'.heap[x]?=w.heap[x]?:=fun x b=>by grind
 refine⟨fun x=>I x∨x=w.heap.size,Sep.append.2 ⟨I,fun x=>x=w.heap.size,fun _=>Iff.rfl,fun x b e=>?_,d.keep (fun x b=>a x (d.lt x b)),?_⟩,⟨g.trans c.os,i.trans c.tape,j.trans c.output,?_,?_⟩,?_⟩
 ·have:=d.lt x b;omega
 ·exact⟨fun x=>x=w.heap.size,fun _=>False,fun x=>by simp,fun _ _ h=>h,⟨fun _=>Iff.rfl,by grind⟩,fun _ h=>h⟩
 ·rw[f,Array.size_push];have:=c.size;omega
 ·intro x b k;rw[a x (Nat.lt_of_lt_of_le b c.size),c.block x b k]
 ·rintro x (b|rfl)
  ·grind
  ·exact .inr c.size
theorem Hp.modify {I0:Ids} {w0 w w':World} {L:List Assn} (h:Hp I0 w0 L w) {k b:Nat} {o n:Obj} (p:L[k]?=some (Blk b o)) (s:w'.heap[b]?=some n) (hs:w'.heap.size=w.heap.size)
 (d: ∀x,x≠b→w'.heap[x]?=w.heap[x]?) (t:w'.os=w.os) (u:w'.tape=w.tape) (v:w'.output=w.output):Hp I0 w0 (L.set k (Blk b n)) w':=by
 obtain⟨i,j,c,y,q,a,r,A⟩:=h.at p;refine Hp.perm ?_ (kAt _ p);refine⟨fun x=>x=b∨j x,⟨fun x=>x=b,j,fun _=>Iff.rfl,fun x e f=>?_,⟨fun _=>Iff.rfl,s⟩,y.keep fun x g=>d x ?_⟩,⟨t.trans a.os,u.trans a.tape,v.trans a.output,by rw[hs];exact a.size,fun x l z=>?_⟩,?_⟩
 ·subst e;exact q x ((c.1 x).2 rfl) f
 ·rintro rfl;exact q x ((c.1 x).2 rfl) g
 ·have m:x≠b:=by
   rintro rfl;rcases r x ((c.1 x).2 rfl) with h'|h'
   ·grind
   ·omega
  rw[d x m,a.block x l z]
 ·rintro x (rfl|d)
  ·exact r x ((c.1 x).2 rfl)
  grind
def KV (N:NN) (K:Act→World→Prop) (E:Env) (S:World→Prop):Prop:= ∀a w,Fits N a E→S w→K a w
abbrev CV (P:Program) (N:NN) (c:Code) (Q:Exit→Act→World→Prop) (E:Env) (S:World→Prop):Prop:=KV N (c.wp P Q) E S
abbrev RV (P:Program) (N:NN) (ops:Array Oper) (Q:Exit→Act→World→Prop) (rest:List Oper) (E:Env) (S:World→Prop):Prop:=KV N (wpList P ops Q rest) E S
section
variable {P:Program} {N:NN} {Q:Exit→Act→World→Prop} {E E':Env} {S S':World→Prop} {ops:Array Oper} {rest:List Oper}
theorem CV.seq {x y:Code} (h:CV P N x (Exit.then (y.wp P Q) Q) E S):CV P N (.seq x y) Q E S:=fun a w b c=>wp_seq (h a w b c)
theorem CV.skip (h:KV N (Q .normal) E S):CV P N .skip Q E S:=fun a w b c=>wp_skip (h a w b c)
theorem CV.exit {id:Nat} (h:KV N (Q (.exit id)) E S):CV P N (.exit id) Q E S:=fun a w b c=>wp_exit (h a w b c)
theorem CV.ret (h:KV N (Q .ret) E S):CV P N .ret Q E S:=fun a w b c=>wp_ret (h a w b c)
theorem CV.block {id:Nat} {c:Code} (h:CV P N c (Exit.inBlock id Q) E S):CV P N (.block id c) Q E S:=fun a w b d=>wp_block (h a w b d)
theorem CV.cond_t {c:Operand} {x y:Code} (d:ev E c=some (.bool true)) (h:CV P N x Q E S):CV P N (.cond c x y) Q E S:=fun a w b e=>wp_cond_true (b.ev d) (h a w b e)
theorem CV.cond_f {c:Operand} {x y:Code} (d:ev E c=some (.bool false)) (h:CV P N y Q E S):CV P N (.cond c x y) Q E S:=fun a w b e=>wp_cond_false (b.ev d) (h a w b e)
theorem CV.region {id:Nat} {l:List Oper} (h:RV P N l.toArray Q l E S):CV P N (.region id l.toArray false) Q E S:=fun a w b c=>wp_region_lit (h a w b c)
theorem KV.env {K:Act→World→Prop} (E':Env) (b:Sub E' E) (h:KV N K E' S):KV N K E S:=fun a w c d=>h a w (c.sub b) d
theorem RV.nil (h:KV N (Q .normal) E S):RV P N ops Q [] E S:=fun a w b c=>wpList_nil (h a w b c)
theorem KV.block_hit {id:Nat} (h:KV N (Q .normal) E S):KV N (Exit.inBlock id Q (.exit id)) E S:=fun a w b c=>by simp only[Exit.inBlock,if_true];exact h a w b c
theorem KV.block_miss {id b:Nat} (c:Nat.beq b id=false) (h:KV N (Q (.exit b)) E S):KV N (Exit.inBlock id Q (.exit b)) E S:=fun a w d f=>by
 have:b≠id:=fun e=>by simp_all
 simp only[Exit.inBlock,this,if_false];exact h a w d f
theorem CV.join {α:Type} {x y:Code} (G:α→Env) (T:α→World→Prop)
 (c:CV P N x (Exit.then (fun a w=> ∃z,Fits N a (G z)∧T z w) Q) E S) (d: ∀z,CV P N y Q (G z) (T z)):CV P N (.seq x y) Q E S:=
 fun a w f g=>wp_seq (wp_mono (c a w f g) fun e h i b=>by
  cases e<;>first|exact b|(obtain⟨z,j,k⟩:=b;exact d z h i j k))
theorem KV.join {α:Type} {G:α→Env} {T:α→World→Prop} (z:α) (b:Sub (G z) E) (c: ∀w,S w→T z w):KV N (fun a w=> ∃z,Fits N a (G z)∧T z w) E S:=
 fun _ w d e=>⟨z,d.sub b,c w e⟩
theorem CV.loop {α:Type} {c:Code} (m:α→Nat) (G:α→Env) (T:α→World→Prop) (d:α) (k:Sub (G d) E) (l: ∀w,S w→T d w)
 (round: ∀z,CV P N c (Exit.then (fun a w=> ∃b,m b<m z∧Fits N a (G b)∧T b w) Q) (G z) (T z)):CV P N (.loop c) Q E S:=by
 intro a w f o;refine wp_loop_ghost (fun n a w=> ∃z,m z=n∧Fits N a (G z)∧T z w) (m d) ⟨d,rfl,f.sub k,l w o⟩ ?_;rintro n a w ⟨z,rfl,f,p⟩;refine wp_mono (round z a w f p) fun e q r j=>?_;cases e<;>first|exact j|(obtain⟨b,g,h,i⟩:=j;exact⟨m b,g,b,rfl,h,i⟩)
end
def Step (P:Program) (N:NN) (E:Env) (S:World→Prop) (o:Oper) (v:Value):Prop:= ∀a w,Fits N a E→S w→(execOp a.eval o).run P w= .ok (.value v) w
def TI (P:Program) (t:TypeId) (z:Value) (sz by_:Nat):Prop:=(P.info? t).map (fun i=>(i.zero,i.size,i.bytes))=some (some z,sz,by_)
theorem TI.get {P:Program} {t:TypeId} {z:Value} {a by_:Nat} (h:TI P t z a by_): ∃i,P.info? t=some i∧i.zero=some z∧i.size=a∧i.bytes=by_:=by
 simp_all[TI]
theorem TI.sizeOf {P:Program} {t:TypeId} {z:Value} {a by_:Nat} (h:TI P t z a by_) (w:World):(sizeOf t).run P w= .ok a w:=by
 obtain⟨i,b,_,c,_⟩:=h.get;simp_all[Go.sizeOf,typeInfo]
theorem TI.zeroValue {P:Program} {t:TypeId} {z:Value} {a by_:Nat} (h:TI P t z a by_) (w:World):(zeroValue t).run P w= .ok z w:=by
 obtain⟨i,b,c,_,_⟩:=h.get;simp_all[Go.zeroValue,typeInfo]
def kBi (ops:Array Oper) (E:Env) (j:Nat):Option Bool:=
 match (ops[j]?).bind (·.dst) with
 |some d=>match get E d with
  |some (.bool b)=>some b
  |_=>none
 |none=>none
theorem kBj {N:NN} {a:Act} {E:Env} {ops:Array Oper} (h:Fits N a E) {o:Oper} {j:Nat} {want b:Bool} (g:o.guard=some (j,want)) (c:kBi ops E j=some b):
 Region.wanted o (yielded ops a.tmps)=(b==want):=by
 unfold kBi at c;simp only[Region.wanted,g];cases e:(ops[j]?).bind (·.dst) with
 |none=>grind
 |some d=>
  rw[e] at c;simp only[] at c;cases f:get E d with
  |none=>grind
  |some v=>
   rw[f] at c;cases v<;>simp at c;subst c;have:yielded ops a.tmps j=some (by assumption):=by
    simp only[yielded,e,Option.bind_some,h.slot d _ f]
   rw[this];rename_i i;cases i<;>cases want<;>rfl
section
variable {P:Program} {N:NN} {Q:Exit→Act→World→Prop} {E:Env} {S:World→Prop} {ops:Array Oper} {rest:List Oper} {o:Oper}
def OV (P:Program) (N:NN) (ops:Array Oper) (Q:Exit→Act→World→Prop) (o:Oper) (E:Env) (S:World→Prop) (K:Act→World→Prop):Prop:=
 ∀a w,Fits N a E→S w→if Region.wanted o (yielded ops a.tmps)=true then Oper.wp P o a w K Q else K (a.put o.dst undef) w
theorem RV.op (h:OV P N ops Q o E S (wpList P ops Q rest)):RV P N ops Q (o::rest) E S:=fun a w b c=>by
 have:=h a w b c
 grind [wpList]
variable {K:Act→World→Prop}
def Yes (N:NN) (ops:Array Oper) (o:Oper) (E:Env):Prop:= ∀a,Fits N a E→Region.wanted o (yielded ops a.tmps)=true
theorem gno {d:Option Nat} {op:Op} {ty:TypeId} {pos:String} {af:Array Edge}:Yes N ops ⟨d,op,ty,pos,af,none⟩ E:=fun _ _=>rfl
theorem gyes {d:Option Nat} {op:Op} {ty:TypeId} {pos:String} {af:Array Edge} {j:Nat} {b:Bool} (a:kBi ops E j=some b):Yes N ops ⟨d,op,ty,pos,af,some (j,b)⟩ E:=
 fun _ c=>by grind [kBj]
theorem OV.run {v:Value} {w':World} {a:Act} {w:World} (b:Region.wanted o (yielded ops a.tmps)=true) (h:(execOp a.eval o).run P w= .ok (.value v) w') (k:K (a.put o.dst v) w'):
 if Region.wanted o (yielded ops a.tmps)=true then Oper.wp P o a w K Q else K (a.put o.dst undef) w:=by
 rw[if_pos b];unfold Oper.wp;rw[h];exact k
theorem OV.step {d:Nat} {v:Value} {op:Op} {ty:TypeId} {pos:String} {af:Array Edge} {g:Option (Nat×Bool)} (e:Yes N ops ⟨some d,op,ty,pos,af,g⟩ E) (h:Step P N E S ⟨some d,op,ty,pos,af,g⟩ v) (f:Nat.blt d N.n=true)
 (k:KV N K (set E d v) S):OV P N ops Q ⟨some d,op,ty,pos,af,g⟩ E S K:=
 fun a w b c=>OV.run (e a b) (h a w b c) (k _ w (b.put v f) c)
theorem OV.skip {d j:Nat} {b:Bool} {op:Op} {ty:TypeId} {pos:String} {af:Array Edge} (e:kBi ops E j=some (!b)) (f:Nat.blt d N.n=true)
 (k:KV N K (set E d undef) S):OV P N ops Q ⟨some d,op,ty,pos,af,some (j,b)⟩ E S K:=fun a w c g=>by
 rw[if_neg (by rw[kBj c rfl e];cases b<;>decide)];exact k _ w (c.put undef f) g
theorem OV.split {d:Nat} {c:Prop} [Decidable c] {op:Op} {ty:TypeId} {pos:String} {af:Array Edge} {g:Option (Nat×Bool)} (i:Yes N ops ⟨some d,op,ty,pos,af,g⟩ E) (h:Step P N E S ⟨some d,op,ty,pos,af,g⟩ (.bool (decide c)))
 (j:Nat.blt d N.n=true) (k1:c→KV N K (set E d (.bool true)) S) (k2: ¬c→KV N K (set E d (.bool false)) S):OV P N ops Q ⟨some d,op,ty,pos,af,g⟩ E S K:=fun a w b f=>by
 have h':=h a w b f;by_cases e:c
 ·rw[qR e] at h';exact OV.run (i a b) h' (k1 e _ w (b.put _ j) f)
 ·rw[qQ e] at h';exact OV.run (i a b) h' (k2 e _ w (b.put _ j) f)
theorem OV.new {I0:Ids} {w0:World} {L:List Assn} {d:Nat} {op:Op} {ty:TypeId} {pos:String} {af:Array Edge} {g:Option (Nat×Bool)} {val:Nat→Value} {ob:Obj} (e:Yes N ops ⟨some d,op,ty,pos,af,g⟩ E)
 (h: ∀a w,Fits N a E→Hp I0 w0 L w→(execOp a.eval ⟨some d,op,ty,pos,af,g⟩).run P w= .ok (.value (val w.heap.size)) (w.alloc ob)) (f:Nat.blt d N.n=true)
 (k: ∀nb,KV N K (set E d (val nb)) (Hp I0 w0 (L++[Blk nb ob]))):OV P N ops Q ⟨some d,op,ty,pos,af,g⟩ E (Hp I0 w0 L) K:=
 fun a w b c=>OV.run (e a b) (h a w b c) (k w.heap.size _ _ (b.put _ f) (c.alloc rfl rfl rfl rfl))
variable {d:Option Nat} {ty:TypeId} {pos:String} {af:Array Edge} {g:Option (Nat×Bool)} {x y z:Operand} {u v u':Value}
theorem Step.move (b:ev E x=some v):Step P N E S ⟨d,.move x,ty,pos,af,g⟩ v:=fun a w c _=>by simp[execOp,c.ev b]
theorem Step.assign (b:ev E x=some v):Step P N E S ⟨d,.assign x,ty,pos,af,g⟩ v:=fun a w c _=>by simp[execOp,c.ev b]
theorem Step.pick_t (c:ev E x=some (.bool true)) (e:ev E y=some v):Step P N E S ⟨d,.pick x y z,ty,pos,af,g⟩ v:=fun a w b _=>by
 simp[execOp,b.ev c,b.ev e,asBool]
theorem Step.pick_f (c:ev E x=some (.bool false)) (e:ev E z=some v):Step P N E S ⟨d,.pick x y z,ty,pos,af,g⟩ v:=fun a w b _=>by
 simp[execOp,b.ev c,b.ev e,asBool]
theorem Step.nilCheck {p:Addr} (b:ev E x=some (.pointer (some p))):Step P N E S ⟨d,.nilCheck x,ty,pos,af,g⟩ (.pointer (some p)):=fun a w c _=>by simp[execOp,c.ev b]
theorem Step.fieldAddr {t:TypeId} {j:Nat} (b:ev E x=some u) (h: ∀w,(Instr.fieldAt t u j).run P w= .ok v w):Step P N E S ⟨d,.fieldAddr t x j,ty,pos,af,g⟩ v:=fun a w c _=>by
 simp only[execOp,c.ev b,Sem.run_bind,h,Result.andThen_ok,Sem.run_pure]
theorem Step.extract {j:Nat} (b:ev E x=some u) (h: ∀w,(Instr.extract u j).run P w= .ok v w):Step P N E S ⟨d,.extract x j,ty,pos,af,g⟩ v:=fun a w c _=>by
 simp only[execOp,c.ev b,Sem.run_bind,h,Result.andThen_ok,Sem.run_pure]
theorem Step.extract0 {vs:List Value} {j:Nat} (a:ev E x=some (.tuple vs.toArray)) (b:vs[j]?=some v):Step P N E S ⟨d,.extract x j,ty,pos,af,g⟩ v:=
 Step.extract a fun w=>by simp_all[Instr.extract]
theorem Step.indexAddr {t:TypeId} (c:ev E x=some u) (e:ev E y=some u') (h: ∀w,(Instr.indexAt t u u').run P w= .ok v w):Step P N E S ⟨d,.indexAddr t x y,ty,pos,af,g⟩ v:=fun a w b _=>by
 simp only[execOp,b.ev c,b.ev e,Sem.run_bind,h,Result.andThen_ok,Sem.run_pure]
theorem Step.index {t:TypeId} (c:ev E x=some u) (e:ev E y=some u') (h: ∀w,(Instr.index t u u').run P w= .ok v w):Step P N E S ⟨d,.index t x y,ty,pos,af,g⟩ v:=fun a w b _=>by
 simp only[execOp,b.ev c,b.ev e,Sem.run_bind,h,Result.andThen_ok,Sem.run_pure]
theorem kDZ {t e:TypeId} {ze:Value} {a by_:Nat} (d:P.underlying t=some (.slice e)) (f:TI P e ze a by_) (b o n c:Nat) {k:IntKind} {i:Int} (m:Nat) (g:i=(m:Int)) (h:m<n) (w:World):
 (Instr.indexAt t (.slice (some ⟨b,o,none⟩) n c) (.int k i)).run P w= .ok (.pointer (some ⟨b,o+m* a,none⟩)) w:=by
 subst g;have j:0≤(m:Int)∧(m:Int)<(n:Int):=by omega
 simp only[Instr.indexAt,asIntOf,Sem.run_bind,Sem.run_pure,Result.andThen_ok,run_underlying d,j,and_self,if_true,f.sizeOf,qh];grind [Addr.add]
theorem Step.indexSl {t e:TypeId} {ze:Value} {a by_ b o n c:Nat} {A:Option Addr} {k:IntKind} {i:Int} (h:P.underlying t=some (.slice e)) (j:TI P e ze a by_)
 (l:ev E x=some (.slice A n c)) (p:ev E y=some (.int k i)) (q:A=some ⟨b,o,none⟩) (m:Nat) (r:i=(m:Int)) (f:m<n):Step P N E S ⟨d,.indexAddr t x y,ty,pos,af,g⟩ (.pointer (some ⟨b,o+m* a,none⟩)):=by
 grind [Step.indexAddr,kDZ]
def aggD:TypeDesc→Bool
 | .struct _| .array _ _=>true
 |_=>false
theorem Step.load {t:TypeId} {D:TypeDesc} {p:Addr} (c:P.underlying t=some D) (e:aggD D=false) (f:ev E x=some (.pointer (some p))) (j: ∀w,S w→w.cell? p=some v):
 Step P N E S ⟨d,.load t x,ty,pos,af,g⟩ v:=fun a w h k=>by
 have b:(isAgg t).run P w= .ok false w:=by
  simp only[isAgg,Sem.run_bind,run_underlying c,Result.andThen_ok];cases D<;>first|rfl|(simp[aggD] at e)
 have i:(Go.load p).run P w= .ok v w:=by simp_all
 simp only[execOp,h.ev f,Instr.loadAt,Instr.sureAddr,loadVar,Sem.run_bind,Sem.run_pure,Result.andThen_ok,b,qX,if_false,i]
theorem Step.loadN {t:TypeId} {D:TypeDesc} {b o:Nat} {ze:Value} {f by_:Nat} (vs:List Value) (i:P.underlying t=some D) (k:aggD D=true) (l:TI P t ze f by_) (c:vs.length=f)
 (m:ev E x=some (.pointer (some ⟨b,o,none⟩))) (p: ∀w,S w→ ∀j v,vs[j]?=some v→w.cell? ⟨b,o+j,none⟩=some v):
 Step P N E S ⟨d,.load t x,ty,pos,af,g⟩ (.agg vs.toArray):=fun a w n q=>by
 have e:(isAgg t).run P w= .ok true w:=by
  simp only[isAgg,Sem.run_bind,run_underlying i,Result.andThen_ok];cases D<;>first|rfl|(simp[aggD] at k)
 have h:=run_loadCells_list (P:=P) w ⟨b,o,none⟩ vs (fun j v r=>by
  grind [Addr.add])
 rw[c] at h;simp only[execOp,n.ev m,Instr.loadAt,Instr.sureAddr,loadVar,Sem.run_bind,Sem.run_pure,Result.andThen_ok,e,if_true,l.sizeOf,h]
section
variable {k:IntKind} {m n r:Int} {t t2:TypeId}
theorem kA9 {op:BinOp} (e:ev E x=some u) (f:ev E y=some u') (b:eqGuard op t x y u u'=pure ()) (h: ∀w,(binOp op t u u').run P w= .ok v w):Step P N E S ⟨d,.binOp op t x y t2,ty,pos,af,g⟩ v:=fun a w c _=>by
 simp only[execOp,c.ev e,c.ev f,b,Sem.run_bind,Sem.run_pure,Result.andThen_ok,h]
theorem Step.add (a:ev E x=some (.int k m)) (b:ev E y=some (.int k n)) (c:k.wrap (m+n)=r):Step P N E S ⟨d,.binOp .add t x y t2,ty,pos,af,g⟩ (.int k r):=
 kA9 a b rfl fun w=>by simp_all[binOp,Op.intArith]
theorem Step.sub (a:ev E x=some (.int k m)) (b:ev E y=some (.int k n)) (c:k.wrap (m-n)=r):Step P N E S ⟨d,.binOp .sub t x y t2,ty,pos,af,g⟩ (.int k r):=
 kA9 a b rfl fun w=>by simp_all[binOp,Op.intArith]
theorem Step.mul (a:ev E x=some (.int k m)) (b:ev E y=some (.int k n)) (c:k.wrap (m* n)=r):Step P N E S ⟨d,.binOp .mul t x y t2,ty,pos,af,g⟩ (.int k r):=
 kA9 a b rfl fun w=>by simp_all[binOp,Op.intArith]
theorem Step.rem (a:ev E x=some (.int k m)) (b:ev E y=some (.int k n)) (c:n≠0) (e:m.tmod n=r):Step P N E S ⟨d,.binOp .rem t x y t2,ty,pos,af,g⟩ (.int k r):=
 kA9 a b rfl fun w=>by simp_all[binOp,Op.intDiv]
theorem Step.quo (a:ev E x=some (.int k m)) (b:ev E y=some (.int k n)) (c:n≠0) (e:k.wrap (m.tdiv n)=r):Step P N E S ⟨d,.binOp .quo t x y t2,ty,pos,af,g⟩ (.int k r):=
 kA9 a b rfl fun w=>by simp_all[binOp,Op.intDiv]
theorem Step.eql (a:ev E x=some (.int k m)) (b:ev E y=some (.int k n)):Step P N E S ⟨d,.binOp .eql t x y t2,ty,pos,af,g⟩ (.bool (decide (m=n))):=
 kA9 a b rfl fun w=>by simp[binOp,Op.intCmp];rfl
theorem Step.neq (a:ev E x=some (.int k m)) (b:ev E y=some (.int k n)):Step P N E S ⟨d,.binOp .neq t x y t2,ty,pos,af,g⟩ (.bool (decide (¬m=n))):=
 kA9 a b rfl fun w=>by simp[binOp,Op.intCmp,bne];rfl
theorem Step.lss (a:ev E x=some (.int k m)) (b:ev E y=some (.int k n)):Step P N E S ⟨d,.binOp .lss t x y t2,ty,pos,af,g⟩ (.bool (decide (m<n))):=
 kA9 a b rfl fun w=>by simp[binOp,Op.intCmp]
theorem Step.leq (a:ev E x=some (.int k m)) (b:ev E y=some (.int k n)):Step P N E S ⟨d,.binOp .leq t x y t2,ty,pos,af,g⟩ (.bool (decide (m≤n))):=
 kA9 a b rfl fun w=>by simp[binOp,Op.intCmp]
theorem Step.gtr (a:ev E x=some (.int k m)) (b:ev E y=some (.int k n)):Step P N E S ⟨d,.binOp .gtr t x y t2,ty,pos,af,g⟩ (.bool (decide (n<m))):=
 kA9 a b rfl fun w=>by simp[binOp,Op.intCmp]
theorem Step.geq (a:ev E x=some (.int k m)) (b:ev E y=some (.int k n)):Step P N E S ⟨d,.binOp .geq t x y t2,ty,pos,af,g⟩ (.bool (decide (n≤m))):=
 kA9 a b rfl fun w=>by simp[binOp,Op.intCmp]
theorem Step.not {b:Bool} (c:ev E x=some (.bool b)):Step P N E S ⟨d,.unOp .not t x,ty,pos,af,g⟩ (.bool (!b)):=fun a w e _=>by
 simp[execOp,e.ev c,Op.unary]
theorem Step.convI {b dst:TypeId} {k':IntKind} {D:TypeDesc} (hs:P.underlying b=some D) (c:P.underlying dst=some (.int k')) (e:ev E x=some (.int k m)) (f:k'.wrap m=r):
 Step P N E S ⟨d,.convert b dst x,ty,pos,af,g⟩ (.int k' r):=fun a w h _=>by
 simp only[execOp,h.ev e,Sem.run_bind,convert,run_underlying hs,run_underlying c,Result.andThen_ok,Conv.intToInt,Sem.run_pure,f]
end
theorem Step.lenSl {t e:TypeId} {A:Option Addr} {n c:Nat} (b:P.underlying t=some (.slice e)) (f:ev E x=some (.slice A n c)):
 Step P N E S ⟨d,.call ⟨.builtin .len,#[x],#[t]⟩,ty,pos,af,g⟩ (.int .i64 n):=fun a w h _=>by
 simp[execOp,resolve,invoke,builtin,h.ev f,Builtin.len_,Builtin.lenOf,run_underlying b,goInt]
theorem Step.max2 {k:IntKind} {m n:Int} {ts:Array TypeId} (c:ev E x=some (.int k m)) (f:ev E y=some (.int k n)):
 Step P N E S ⟨d,.call ⟨.builtin .max,#[x,y],ts⟩,ty,pos,af,g⟩ (.int k (max m n)):=fun a w b _=>by
 have e:(if n>m then n else m)=max m n:=by rw[Int.max_def];split<;>split<;>omega
 simp[execOp,resolve,invoke,builtin,b.ev c,b.ev f,Builtin.max_,Builtin.max2,e]
theorem Step.min2 {k:IntKind} {m n:Int} {ts:Array TypeId} (c:ev E x=some (.int k m)) (f:ev E y=some (.int k n)):
 Step P N E S ⟨d,.call ⟨.builtin .min,#[x,y],ts⟩,ty,pos,af,g⟩ (.int k (min m n)):=fun a w b _=>by
 have e:(if n<m then n else m)=min m n:=by rw[Int.min_def];split<;>split<;>omega
 simp[execOp,resolve,invoke,builtin,b.ev c,b.ev f,Builtin.min_,Builtin.min2,e]
def evp (E:Env):List (Nat×Operand)→Option (List (Nat×Value))
 |[]=>some []
 |(i,x)::r=>match ev E x,evp E r with
  |some v,some vs=>some ((i,v)::vs)
  |_,_=>none
theorem Fits.evp {a:Act} (h:Fits N a E): ∀ {xs:List (Nat×Operand)} {vs:List (Nat×Value)},evp E xs=some vs→xs.map (fun(i,x)=>(i,a.eval x))=vs
 |[],vs,hx=>by grind [Sv.evp]
 |(i,x)::r,vs,hx=>by
  simp only[Sv.evp] at hx;cases b:Sv.ev E x with
  |none=>grind
  |some v=>
   cases c:Sv.evp E r with
   |none=>grind
   |some us=>
    simp[b,c] at hx;rw[←hx,List.map_cons,h.evp c];simp only[h.ev b]
theorem Step.build {t:TypeId} {ps:List (Nat×Operand)} {vs:List (Nat×Value)} (b:evp E ps=some vs) (h: ∀w,(Instr.build t vs.toArray).run P w= .ok v w):Step P N E S ⟨d,.build t ps.toArray,ty,pos,af,g⟩ v:=fun a w c _=>by
 have e:ps.toArray.map (fun(i,x)=>(i,a.eval x))=vs.toArray:=by rw[←c.evp b];simp
 grind [execOp,Sem.run_bind,Result.andThen_ok,Sem.run_pure]
end
theorem Hp.cells {I0:Ids} {w0 w:World} {L:List Assn} (h:Hp I0 w0 L w) (k:Nat) {b:Nat} {cs:Array Value} {t:TypeId} {a:Nat×Nat} (c:L[k]?=some (Blk b (.cells cs t a))):
 ∀j v,cs.toList[j]?=some v→w.cell? ⟨b,0+j,none⟩=some v:=fun j v d=>by
 rw[Nat.zero_add,kAA (h.blk k c)]
 grind
structure Enc (α:Type) where
 f:α→List Value
 sz:Nat
 d:α
 len: ∀x,(f x).length=sz
 pos:0<sz
 one: ∀x,∀v∈f x,v.oneCell'=true
section
variable {α:Type} (K:Enc α)
def flat (ys:List α):List Value:=ys.flatMap K.f
theorem kA6 (ys:List α):(flat K ys).length=ys.length* K.sz:=by
 induction ys with
 |nil=>simp[flat]
 |cons y r a=>
  have:flat K (y::r)=K.f y++flat K r:=by simp[flat]
  rw[this,qD,K.len,a,qB,Nat.add_mul];omega
theorem kAS (ys zs:List α):flat K (ys++zs)=flat K ys++flat K zs:=by simp[flat]
theorem kDL {ys:List α} {m j:Nat} {y:α} {v:Value} (a:ys[m]?=some y) (b:(K.f y)[j]?=some v):(flat K ys)[m* K.sz+j]?=some v:=by
 have c:j<K.sz:=by
  have h:=(List.getElem?_eq_some_iff.1 b).1;rw[K.len] at h;exact h
 induction ys generalizing m with
 |nil=>grind
 |cons z r d=>
  have e:flat K (z::r)=K.f z++flat K r:=by simp[flat]
  rw[e];cases m with
  |zero=>
   grind
  |succ m=>
   simp only[List.getElem?_cons_succ] at a;rw[List.getElem?_append_right (by rw[K.len,Nat.add_mul];omega),K.len,show(m+1)* K.sz+j-K.sz=m* K.sz+j from by grind]
   grind
theorem kEg {ys:List α} {m:Nat} (h:m<ys.length) (d:α):ys[m]?=some (ys.getD m d):=by
 grind
theorem kA1 (ys:List α) (m:Nat) (y d:α) (h:m<ys.length):(ys.set m y).getD m d=y:=by grind
theorem kA0 (ys:List α) {m k:Nat} (y d:α) (h:m≠k):(ys.set m y).getD k d=ys.getD k d:=by grind
theorem kEh {ys:List α} {m:Nat} (h:m<ys.length) (y:α):flat K (ys.set m y)=(flat K ys).take (m* K.sz)++K.f y++(flat K ys).drop (m* K.sz+K.sz):=by
 induction ys generalizing m with
 |nil=>simp at h
 |cons z r a=>
  have e:flat K (z::r)=K.f z++flat K r:=by simp[flat]
  cases m with
  |zero=>
   have e':flat K ((z::r).set 0 y)=K.f y++flat K r:=by simp[flat]
   rw[e',e,Nat.zero_mul,List.take_zero,List.nil_append,Nat.zero_add,List.drop_append_of_le_length (by rw[K.len];grind),List.drop_of_length_le (by rw[K.len];grind),List.nil_append]
  |succ m=>
   have e':flat K ((z::r).set (m+1) y)=K.f z++flat K (r.set m y):=by simp[flat]
   have b:(m+1)* K.sz=K.sz+m* K.sz:=by grind
   rw[e',e,a (by grind),b];have c:=K.len z;have d:List.take (K.sz+m* K.sz) (K.f z)=K.f z:=List.take_of_length_le (by omega);have g:List.drop (K.sz+m* K.sz+K.sz) (K.f z)=[]:=List.drop_of_length_le (by omega);rw[List.take_append,List.drop_append,c,d,g,List.nil_append];rw[show K.sz+m* K.sz-K.sz=m* K.sz from by omega,show K.sz+m* K.sz+K.sz-K.sz=m* K.sz+K.sz from by omega]
   grind
theorem kEi (ys:List α): ∀v∈flat K ys,v.oneCell'=true:=by
 intro v a;simp only[flat,List.mem_flatMap] at a;obtain⟨y,_,b⟩:=a;exact K.one y v b
end
def bk:Option Addr→Nat
 |some a=>a.block
 |none=>0
def of:Option Addr→Nat
 |some a=>a.off
 |none=>0
def RS {α:Type} (w:World) (K:Enc α) (A:Option Addr) (ys:List α):Prop:=
 ys=[]∨ ∃cur t fz,A=some ⟨bk A,of A,none⟩∧w.heap[bk A]?=some (.cells cur t fz)∧ ∀j v,(flat K ys)[j]?=some v→cur[of A+j]?=some v
section
variable {α:Type} {K:Enc α} {w w':World} {A:Option Addr} {ys:List α}
theorem RS.form (h:RS w K A ys) {m:Nat} (a:m<ys.length):A=some ⟨bk A,of A,none⟩:=by
 rcases h with rfl|⟨_,_,_,h,_⟩
 ·grind
 grind
theorem RS.cell (h:RS w K A ys) {m j:Nat} {v:Value} (a:m<ys.length) (b:(K.f (ys.getD m K.d))[j]?=some v):w.cell? ⟨bk A,of A+m* K.sz+j,none⟩=some v:=by
 rcases h with rfl|⟨c,t,i,_,e,g⟩
 ·grind
 ·rw[kAA e,Nat.add_assoc];exact g _ _ (kDL K (kEg a K.d) b)
theorem RS.keep (h:RS w K A ys) (b: ∀o,w.heap[bk A]?=some o→w'.heap[bk A]?=some o):RS w' K A ys:=by
 rcases h with h|⟨a,t,c,d,e,f⟩
 ·exact .inl h
 ·exact .inr ⟨a,t,c,d,b _ e,f⟩
theorem RS.ext {I:Ids} (h:RS w K A ys) (b:Ext I w w') (c: ¬I (bk A)):RS w' K A ys:=h.keep fun o a=>by rw[b.block _ (kAW a) c];exact a
theorem RS.take (h:RS w K A ys) (n:Nat):RS w K A (ys.take n):=by
 rcases h with rfl|⟨a,t,b,c,d,e⟩
 ·exact .inl (by simp)
 ·refine .inr ⟨a,t,b,c,d,fun j v f=>e j v ?_⟩
  grind [kAS,List.take_append_drop]
theorem Hp.rs {I0:Ids} {w0:World} {L:List Assn} (h:Hp I0 w0 L w) (b:RS w0 K A ys) (c:ys≠[]→ ¬I0 (bk A)):RS w K A ys:=by
 obtain⟨_,_,d,_⟩:=h;by_cases a:ys=[]
 ·exact .inl a
 ·exact b.ext d (c a)
end
def OS {α:Type} (e:TypeId) (K:Enc α) (A:Option Addr) (c:Nat) (ys:List α):Assn where
 sat w I:=(A=none∧ys=[]∧c=0∧ ∀x,¬I x)∨ ∃g cur,A=some ⟨g,0,none⟩∧(∀x,I x↔x=g)∧w.heap[g]?=some (.cells cur e (0,0))∧ys.length≤c∧c≤maxLen∧cur.size=c* K.sz∧cur.toList.take (ys.length* K.sz)=flat K ys
 lt h x hx:=by
  grind
 keep h hk:=by
  grind
section
variable {α:Type} {K:Enc α} {w w' w0:World} {A:Option Addr} {ys:List α} {e:TypeId} {c:Nat} {I0:Ids} {L:List Assn}
theorem OS.rs {I:Ids} (h:(OS e K A c ys).sat w I):RS w K A ys:=by
 rcases h with ⟨_,h,_⟩|⟨g,a,rfl,_,b,_,_,_,d⟩
 ·exact .inl h
 ·refine .inr ⟨a,e,(0,0),rfl,b,fun j v f=>?_⟩
  grind [of]
theorem Hp.os (h:Hp I0 w0 L w) (k:Nat) (a:L[k]?=some (OS e K A c ys)):RS w K A ys:=by
 obtain⟨i,j,b,_⟩:=h.at a;exact OS.rs b
theorem Hp.osCap (h:Hp I0 w0 L w) (k:Nat) (a:L[k]?=some (OS e K A c ys)):ys.length≤c∧c≤maxLen:=by
 obtain⟨i,j,b,_⟩:=h.at a;rcases b with ⟨_,h,d,_⟩|⟨g,f,rfl,_,l,m,d,_,n⟩
 ·grind
 grind
end
section
variable {P:Program} {N:NN} {Q:Exit→Act→World→Prop} {E:Env} {S:World→Prop} {ops:Array Oper} {rest:List Oper}
variable {d:Option Nat} {ty:TypeId} {pos:String} {af:Array Edge} {g:Option (Nat×Bool)} {x y z:Operand} {u v:Value} {KK:Act→World→Prop}
variable {I0:Ids} {w0:World} {L:List Assn} {α:Type} {K:Enc α} {A:Option Addr} {ys:List α} {e:TypeId} {c:Nat}
theorem Step.idx {t e:TypeId} {ze:Value} {by_ n:Nat} {k:IntKind} {i:Int} (f:P.underlying t=some (.slice e)) (j:TI P e ze K.sz by_) (hs: ∀w,S w→RS w K A ys)
 (l:ev E x=some (.slice A n c)) (o:ev E y=some (.int k i)) (p:n=ys.length) (m:Nat) (q:i=(m:Int)) (b:m<ys.length):
 Step P N E S ⟨d,.indexAddr t x y,ty,pos,af,g⟩ (.pointer (some ⟨bk A,of A+m* K.sz,none⟩)):=fun a w r h=>by
 subst p;exact Step.indexSl f j l o ((hs w h).form b) m q b a w r h
theorem kBk {t:TypeId} {f:TypeId} {ze:Value} {c by_ b o:Nat} {w:World} {a:Array Value} (vs:List Value) (g:TI P t ze c by_) (i:v.cells=vs.toArray) (l:vs.length=c)
 (j:w.heap[b]?=some (.cells a f (0,0))) (m:o+vs.length≤a.size) (k: ∀v∈vs,v.oneCell'=true):
 (storeVar t ⟨b,o,none⟩ v).run P w= .ok () (w.setRow b (a.toList.take o++vs++a.toList.drop (o+vs.length)).toArray):=by
 have h:=run_storeCells_at (P:=P) b o f vs 0 a w j (by grind) k;simp only[Nat.add_zero] at h;have d:v.cells.size=c:=by grind
 have e:v.cells.toList=vs:=by rw[i]
 simp only[storeVar,Sem.run_bind,g.sizeOf,Result.andThen_ok,d,ne_eq,not_true_eq_false,if_false,Sem.run_pure,e,h]
theorem Hp.setRow {w:World} (h:Hp I0 w0 L w) {k b:Nat} {o:Obj} {a cs:Array Value} {t:TypeId} (c:L[k]?=some (Blk b o)) (d:o= .cells a t (0,0)):Hp I0 w0 (L.set k (Blk b (.cells cs t (0,0)))) (w.setRow b cs):=by
 subst d;have e:=h.blk k c;exact h.modify c (setRow_heap w b a cs t (0,0) e) (by simp_all) (fun x f=>setRow_other w b x cs f) rfl rfl rfl
theorem OV.store (k:Nat) {t h:TypeId} {ze:Value} {i by_ b o:Nat} {c:Array Value} (vs:List Value) (cs:Array Value) (m:TI P t ze i by_)
 (n:ev E x=some (.pointer (some ⟨b,o,none⟩))) (p:ev E y=some v) (j:L[k]?=some (Blk b (.cells c h (0,0)))) (q:v.cells=vs.toArray) (r:vs.length=i)
 (s:o+vs.length≤c.size) (u: ∀v∈vs,v.oneCell'=true) (f:(c.toList.take o++vs++c.toList.drop (o+vs.length)).toArray=cs)
 (z:Yes N ops ⟨none,.store t x y,ty,pos,af,g⟩ E)
 (A:KV N KK E (Hp I0 w0 (L.set k (Blk b (.cells cs h (0,0)))))):OV P N ops Q ⟨none,.store t x y,ty,pos,af,g⟩ E (Hp I0 w0 L) KK:=fun a w e l=>by
 subst f;rw[if_pos (z a e)];have B:=l.blk k j;unfold Oper.wp;have d:=kBk vs m q r B s u;simp only[execOp,e.ev n,e.ev p,Instr.storeAt,Instr.sureAddr,Sem.run_bind,Sem.run_pure,Result.andThen_ok,d];exact A _ _ (e.put_none _) (l.setRow j rfl)
theorem OV.storeE (k m:Nat) (y':α) {t:TypeId} {ze:Value} {by_ sz o j:Nat} (vs:List Value) (hi:TI P t ze sz by_)
 (hx:ev E x=some (.pointer (some ⟨bk A,o,none⟩))) (hy:ev E y=some v) (hk:L[k]?=some (OS e K A c ys)) (ho:o=of A+m* K.sz+j) (hv:v.cells=vs.toArray) (hl:vs.length=sz)
 (hlt:m<ys.length) (hf':K.f y'=(K.f (ys.getD m K.d)).take j++vs++(K.f (ys.getD m K.d)).drop (j+vs.length)) (hj:j+vs.length≤K.sz)
 (hg:Yes N ops ⟨none,.store t x y,ty,pos,af,g⟩ E)
 (kk:KV N KK E (Hp I0 w0 (L.set k (OS e K A c (ys.set m y'))))):OV P N ops Q ⟨none,.store t x y,ty,pos,af,g⟩ E (Hp I0 w0 L) KK:=fun a w hf hs=>by
 rw[if_pos (hg a hf)];obtain⟨i,jj,hA,hL,hd,he,hi1,hj1⟩:=hs.at hk;rcases hA with ⟨_,rfl,_⟩|⟨gb,cur,rfl,hI,hb,hle,hc,hsz,ht⟩
 ·grind
 ·have hlen:m* K.sz+K.sz≤ys.length* K.sz:=by
   have:(m+1)* K.sz≤ys.length* K.sz:=Nat.mul_le_mul_right _ hlt
   grind
  have hcap:ys.length* K.sz≤c* K.sz:=Nat.mul_le_mul_right _ hle;have ho':o=m* K.sz+j:=by grind [of]
  have h1: ∀v∈vs,v.oneCell'=true:=fun u hu=>K.one y' u (by grind);have hrun:=kBk (P:=P) (v:=v) vs hi hv hl hb (o:=o) (by omega) h1;unfold Oper.wp;have hx':=hf.ev hx;simp only[bk] at hx';simp only[execOp,hx',hf.ev hy,Instr.storeAt,Instr.sureAddr,Sem.run_bind,Sem.run_pure,Result.andThen_ok,hrun];refine kk _ _ (hf.put_none _) ?_;refine Hp.perm ?_ (kAt _ hk);refine⟨fun x=>x=gb∨jj x,⟨fun x=>x=gb,jj,fun _=>Iff.rfl,fun x ex hxj=>?_,.inr ⟨gb,_,rfl,fun _=>Iff.rfl,setRow_heap w gb cur _ e (0,0) hb,by grind,hc,?_,?_⟩,hL.keep fun x hxq=>setRow_other w gb x _ ?_⟩,⟨he.os,he.tape,he.output,by simpa using he.size,fun x hlt hn=>?_⟩,?_⟩
  ·grind
  ·grind
  ·rw[qI,kEh K hlt,←ht,hf',ho'];apply List.ext_getElem?;intro p;have htl:cur.toList.length=c* K.sz:=by grind
   have hkl:(K.f (ys.getD m K.d)).length=K.sz:=K.len _;have hmid: ∀q,q<K.sz→(K.f (ys.getD m K.d))[q]?=cur.toList[m* K.sz+q]?:=fun q hq=>by
    have hq':(K.f (ys.getD m K.d))[q]?=some ((K.f (ys.getD m K.d))[q]'(by omega)):=qJ (by omega);have:=kDL K (kEg hlt K.d) hq'
    grind
   simp only[List.getElem?_take,List.getElem?_append,qD,qF,qG,htl,hkl,List.getElem?_drop];have e1:min (m* K.sz) (min (ys.length* K.sz) (c* K.sz))=m* K.sz:=by omega
   have e2:min (m* K.sz+j) (c* K.sz)=m* K.sz+j:=by omega
   have e3:min j K.sz=j:=by omega
   simp only[e1,e2,e3];by_cases p1:p<m* K.sz
   ·grind
   ·by_cases p2:p<m* K.sz+K.sz
    ·have q1:p<ys.length* K.sz:=by omega
     have q2:p<m* K.sz+(j+vs.length+(K.sz-(j+vs.length))):=by omega
     simp only[q1,q2,p1,if_true,if_false];by_cases p3:p<m* K.sz+j
     ·have r1:p-m* K.sz<j:=by omega
      have r2:p-m* K.sz<j+vs.length:=by omega
      simp only[p3,show p<m* K.sz+j+vs.length from by omega,r1,r2,if_true];rw[hmid _ (by omega)]
      grind
     grind
    grind
  ·grind
  ·have hne:x≠gb:=by
    grind
   rw[setRow_other w gb x _ hne,he.block x hlt hn]
  grind
end
section
variable {P:Program} {N:NN} {Q:Exit→Act→World→Prop} {E:Env} {S:World→Prop} {ops:Array Oper} {rest:List Oper}
variable {d:Nat} {ty:TypeId} {pos:String} {af:Array Edge} {g:Option (Nat×Bool)} {x y z:Operand} {u v:Value} {KK:Act→World→Prop}
variable {I0:Ids} {w0:World} {L:List Assn} {α:Type} {K:Enc α} {A B:Option Addr} {ys zs:List α} {e:TypeId} {c:Nat}
theorem OV.alloc {t:TypeId} {ze:Value} {c by_:Nat} (cs:Array Value) (e:TI P t ze c by_) (b:ze.cells=cs) (f:Yes N ops ⟨some d,.alloc t,ty,pos,af,g⟩ E) (h:Nat.blt d N.n=true)
 (k: ∀nb,KV N KK (set E d (.pointer (some ⟨nb,0,none⟩))) (Hp I0 w0 (L++[Blk nb (.cells cs t (0,0))]))):OV P N ops Q ⟨some d,.alloc t,ty,pos,af,g⟩ E (Hp I0 w0 L) KK:=
 OV.new f (fun a w i _=>by
  subst b;simp only[execOp,Instr.alloc,Sem.run_bind,e.zeroValue,Result.andThen_ok,newVar,newRow,Sem.run_pure,run_newObj_alloc]) h k
theorem OV.box {t:TypeId} (cs:Array Value) (c:ev E x=some v) (b:v.cells=cs) (e:Yes N ops ⟨some d,.box t x,ty,pos,af,g⟩ E) (f:Nat.blt d N.n=true)
 (k: ∀nb,KV N KK (set E d (.pointer (some ⟨nb,0,none⟩))) (Hp I0 w0 (L++[Blk nb (.cells cs t (0,0))]))):OV P N ops Q ⟨some d,.box t x,ty,pos,af,g⟩ E (Hp I0 w0 L) KK:=
 OV.new e (fun a w h _=>by
  subst b;simp only[execOp,Instr.box,Sem.run_bind,Result.andThen_ok,newVar,newRow,Sem.run_pure,run_newObj_alloc,h.ev c]) f k
theorem OS.ofBlk {w:World} {I:Ids} {nb:Nat} {cs:Array Value} (h:(Blk nb (.cells cs e (0,0))).sat w I) (a:ys.length≤c) (b:c≤maxLen) (hs:cs.size=c* K.sz) (d:cs.toList.take (ys.length* K.sz)=flat K ys):
 (OS e K (some ⟨nb,0,none⟩) c ys).sat w I:= .inr ⟨nb,cs,rfl,h.1,h.2,a,b,hs,d⟩
theorem Sep.last {w:World} {I:Ids} {A B:Assn} (h:Sep (L++[A]) I w) (a: ∀J,A.sat w J→B.sat w J):Sep (L++[B]) I w:=by
 obtain⟨i,j,hI,d,e,f⟩:=Sep.append.1 h;obtain⟨g,k,l,b,c,m⟩:=f;exact Sep.append.2 ⟨i,j,hI,d,e,⟨g,k,l,b,a _ c,m⟩⟩
theorem Hp.last {w:World} {A B:Assn} (h:Hp I0 w0 (L++[A]) w) (a: ∀J,A.sat w J→B.sat w J):Hp I0 w0 (L++[B]) w:=
 let ⟨I,hs,he,hi⟩:=h;⟨I,hs.last a,he,hi⟩
theorem OV.buildSliceN {t:TypeId} {n:Nat} {ps:List (Nat×Operand)} {vs:List (Nat×Value)} (ys:List α) {cs:Array Value} (c:evp E ps=some vs)
 (h: ∀w,(Instr.buildSlice t n vs.toArray).run P w= .ok (.slice (some ⟨w.heap.size,0,none⟩) n n) (w.alloc (.cells cs e))) (f:n=ys.length) (j:cs.toList=flat K ys) (p:n≤1000000)
 (l:Yes N ops ⟨some d,.buildSlice t n ps.toArray,ty,pos,af,g⟩ E) (m:Nat.blt d N.n=true)
 (k: ∀nb,KV N KK (set E d (.slice (some ⟨nb,0,none⟩) ys.length ys.length)) (Hp I0 w0 (L++[OS e K (some ⟨nb,0,none⟩) ys.length ys]))):OV P N ops Q ⟨some d,.buildSlice t n ps.toArray,ty,pos,af,g⟩ E (Hp I0 w0 L) KK:=by
 subst f;refine OV.new (ob:= .cells cs e) l (fun a w b _=>?_) m fun nb a w b o=>k nb a w b (o.last fun J q=>?_)
 ·have e':ps.toArray.map (fun(i,x)=>(i,a.eval x))=vs.toArray:=by rw[←b.evp c];simp
  grind [execOp,Sem.run_bind,Result.andThen_ok,Sem.run_pure]
 grind [OS.ofBlk,maxLen,kA6]
theorem OV.buildSlice {t:TypeId} {n:Nat} {ps:List (Nat×Operand)} {vs:List (Nat×Value)} (ys:List α) {cs:Array Value} (b:evp E ps=some vs)
 (h: ∀w,(Instr.buildSlice t n vs.toArray).run P w= .ok (.slice (some ⟨w.heap.size,0,none⟩) n n) (w.alloc (.cells cs e))) (c:n=ys.length) (a:cs.toList=flat K ys) (f:n≤1000000)
 (i:Yes N ops ⟨some d,.buildSlice t n ps.toArray,ty,pos,af,g⟩ E) (j:Nat.blt d N.n=true)
 (k: ∀A,KV N KK (set E d (.slice A ys.length ys.length)) (Hp I0 w0 (L++[OS e K A ys.length ys]))):OV P N ops Q ⟨some d,.buildSlice t n ps.toArray,ty,pos,af,g⟩ E (Hp I0 w0 L) KK:=OV.buildSliceN ys b h c a f i j fun nb=>k _
theorem kCS (n:Nat) (y:α): ∀j,j<n* K.sz→(flat K (List.replicate n y))[j]?=(K.f y)[j%K.sz]?:=by
 intro j c;have d:=K.pos;have a:j/K.sz<n:=by simp_all[Nat.div_lt_iff_lt_mul]
 have b:j%K.sz<(K.f y).length:=by rw[K.len];simp_all[Nat.mod_lt]
 have h:=kDL K (ys:=List.replicate n y) (m:=j/K.sz) (by simp[a]) (qJ b)
 grind [Nat.div_add_mod]
theorem kDa {zc:Array Value} {n c:Nat} {y:α} (b:zc.toList=K.f y) (a:n≤c):(madeCells zc (c* K.sz)).toList.take (n* K.sz)=flat K (List.replicate n y):=by
 have d:n* K.sz≤c* K.sz:=Nat.mul_le_mul_right _ a;have e:zc.size=K.sz:=by rw[←Array.length_toList,b,K.len]
 have g:=K.pos;apply List.ext_getElem?
 grind [kCS,madeCells,kA6]
theorem OV.makeN {t:TypeId} {ze:Value} {by_:Nat} {q r:IntKind} {i j:Int} (n c:Nat) (s:α) (u:P.underlying t=some (.slice e)) (v:TI P e ze K.sz by_) (M:ze.cells.toList=K.f s)
 (z:ev E x=some (.int q i)) (A:ev E y=some (.int r j)) (l:i=(n:Int)) (m:j=(c:Int)) (B:n≤c) (O:by_* c≤281474976710656) (R:c≤9223372036854775807)
 (C:Yes N ops ⟨some d,.makeSlice t x y,ty,pos,af,g⟩ E) (D:Nat.blt d N.n=true)
 (k: ∀nb,KV N KK (set E d (.slice (some ⟨nb,0,none⟩) n c)) (Hp I0 w0 (L++[OS e K (some ⟨nb,0,none⟩) c (List.replicate n s)]))):OV P N ops Q ⟨some d,.makeSlice t x y,ty,pos,af,g⟩ E (Hp I0 w0 L) KK:=by
 subst l;subst m;obtain⟨b,F,G,H,S⟩:=v.get;refine OV.new (ob:= .cells (madeCells ze.cells (c* K.sz)) e) C (fun a w h _=>?_) D fun nb a w h I=>k nb a w h (I.last fun J T=>?_)
 ·have o:(b.bytes:Int)* (c:Int)≤281474976710656:=by grind
  have p:=run_make w t e b ze u F G q r n c (by omega) (by omega) o (by omega);rw[H] at p;simp only[qh] at p;simp only[execOp,h.ev z,h.ev A,Sem.run_bind,p,Result.andThen_ok,Sem.run_pure]
 grind [OS.ofBlk,maxLen,size_madeCells,kDa]
theorem OV.make {t:TypeId} {ze:Value} {by_:Nat} {m o:IntKind} {i j:Int} (n c:Nat) (a:α) (p:P.underlying t=some (.slice e)) (q:TI P e ze K.sz by_) (r:ze.cells.toList=K.f a)
 (s:ev E x=some (.int m i)) (u:ev E y=some (.int o j)) (b:i=(n:Int)) (h:j=(c:Int)) (l:n≤c) (v:by_* c≤281474976710656) (w:c≤9223372036854775807)
 (z:Yes N ops ⟨some d,.makeSlice t x y,ty,pos,af,g⟩ E) (B:Nat.blt d N.n=true)
 (k: ∀A,KV N KK (set E d (.slice A n c)) (Hp I0 w0 (L++[OS e K A c (List.replicate n a)]))):OV P N ops Q ⟨some d,.makeSlice t x y,ty,pos,af,g⟩ E (Hp I0 w0 L) KK:=OV.makeN n c a p q r s u b h l v w z B fun nb=>k _
theorem Hp.update {w w':World} {k:Nat} {A l:Assn} (h:Hp I0 w0 L w) (m:L[k]?=some A)
 (p: ∀i,A.sat w i→ ∃b:Ids,l.sat w' b∧(∀x,b x→i x∨w.heap.size≤x)∧Ext i w w'):Hp I0 w0 (L.set k l) w':=by
 obtain⟨i,j,q,f,r,n,s,u⟩:=h.at m;obtain⟨b,g,a,o⟩:=p i q;refine Hp.perm ?_ (kAt _ m);refine⟨fun x=>b x∨j x,⟨b,j,fun _=>Iff.rfl,fun x d e=>?_,g,f.keep fun x c=>o.block x (f.lt x c) fun h=>r x h c⟩,?_,?_⟩
 ·rcases a x d with t|t
  ·grind
  ·have:=f.lt x e;omega
 ·exact n.trans o s
 ·rintro x (d|d)
  ·rcases a x d with e|e
   ·grind
   ·exact .inr (qk n.size e)
  grind
theorem kEC (base:Nat) (w:World) (t ty e:TypeId) (i:TypeInfo) (size:Nat) (d:P.underlying t=some (.slice e)) (f:P.info? e=some i)
 (v:Value) (n:Nat) (xs:List Value) (a:w.ownsRow base e size v n xs) (c:Nat):(Builtin.append_ #[t,t] ty #[v,.slice none 0 c]).run P w= .ok v w:=by
 rcases a.2 with ⟨rfl,rfl⟩|⟨g,cap,h,rfl,_,_,b,_⟩
 ·simp[Builtin.append_,run_underlying d,sizeOf,typeInfo,f,Builtin.lenOf,Builtin.firstCells]
 ·simp[Builtin.append_,run_underlying d,sizeOf,typeInfo,f,Builtin.lenOf,Builtin.firstCells,b,storeCells]
theorem kEM {w:World} {i:Ids} {t:TypeId} {ze:Value} {by_ cB:Nat} (Q:P.underlying t=some (.slice e)) (R:TI P e ze K.sz by_) (v:ze.cells.size=K.sz)
 (h:(OS e K A c ys).sat w i) (F:RS w K B zs) (G:zs=[]→B=none∨ ∃a,B=some a) (H:(ys.length+zs.length)* by_≤140737488355328) (hm:ys.length+zs.length≤9223372036854775807):
 ∃I J w',(Builtin.append_ #[t,t] ty #[.slice A ys.length c,.slice B zs.length cB]).run P w= .ok (.slice I (ys++zs).length J) w'∧
  ∃L:Ids,(OS e K I J (ys++zs)).sat w' L∧(∀x,L x→i x∨w.heap.size≤x)∧Ext i w w':=by
 obtain⟨y,S,T,U,V⟩:=R.get;have n:w.ownsRow 0 e K.sz (.slice A ys.length c) ys.length (flat K ys):=by
  refine⟨kA6 K ys,?_⟩;rcases h with ⟨rfl,rfl,rfl,_⟩|⟨s,k,rfl,hI,H,z,o,p,W⟩
  ·grind
  grind
 have key: ∃m w',(Builtin.append_ #[t,t] ty #[.slice A ys.length c,.slice B zs.length cB]).run P w= .ok m w'∧w'.ownsRow 0 e K.sz m (ys.length+zs.length) (flat K ys++flat K zs)∧w.grownBy w' (Value.slice A ys.length c).ownBlock∧
  (m.ownBlock=(Value.slice A ys.length c).ownBlock∨m.ownBlock=some w.heap.size):=by
  cases M:B with
  |none=>
   have N:zs=[]:=by
    rcases F with h|⟨_,_,_,h,_⟩
    ·exact h
    grind
   grind [kEC,flat,World.grownBy.refl]
  |some a=>
   have l: ∀j u,(flat K zs)[j]?=some u→w.cell? (a.add j)=some u:=fun j u X=>by
    rcases F with rfl|⟨k,tt,fz,C,q,o⟩
    ·grind [flat]
    ·rw[M] at C;have Y:a=⟨a.block,a.off,none⟩:=by grind
     rw[M] at q o;simp only[bk] at q;have D:=o j u X;rw[Y];by_cases Z:j=0
     ·subst Z;grind [Addr.add,kAA]
     grind [Addr.add,kAA]
   obtain⟨m,w',f,O,b,_,d⟩:=run_append_own_at w 0 t ty e y ze K.sz by_ Q S T U V v K.pos _ ys.length (flat K ys) n a zs.length cB (flat K zs) (kA6 K zs) l (kEi K zs)
    (by grind [maxLen]) H (qT _)
   grind
 obtain⟨m,w',f,O,b,d⟩:=key;have g:Ext i w w':=⟨b.os,b.tape,b.output,b.size,fun x hx hn=>b.block x hx fun hh=>hn ?_⟩
 ·rcases O.2 with ⟨rfl,h0⟩|⟨s,cap,k,rfl,_,E,z,o,p,W⟩
  ·have hy:ys=[]:=qO (by omega);have N:zs=[]:=qO (by omega);subst hy;subst N;exact⟨none,0,w',f,fun _=>False,.inl ⟨rfl,rfl,rfl,fun _ h=>h⟩,fun _ h=>h.elim,g⟩
  ·refine⟨some ⟨s,0,none⟩,cap,w',by grind,fun x=>x=s,.inr ⟨s,k,rfl,fun _=>Iff.rfl,E,by grind,o,p,by grind [kAS]⟩,?_,g⟩;rintro x rfl;rcases d with d|d
   ·rcases h with ⟨rfl,_⟩|⟨g2,r,rfl,hI,_⟩
    ·grind [Value.ownBlock]
    grind [Value.ownBlock]
   grind [Value.ownBlock]
 ·rcases h with ⟨rfl,_⟩|⟨g2,r,rfl,hI,_⟩
  ·grind [Value.ownBlock]
  grind [Value.ownBlock]
theorem OV.append (k:Nat) {t:TypeId} {ze:Value} {by_ n m cB:Nat} (u:P.underlying t=some (.slice e)) (v:TI P e ze K.sz by_) (b:ze.cells.size=K.sz)
 (G:ev E x=some (.slice A n c)) (H:ev E y=some (.slice B m cB)) (I:n=ys.length) (q:m=zs.length) (z:L[k]?=some (OS e K A c ys)) (C: ∀w,Hp I0 w0 L w→RS w K B zs)
 (D:(ys.length+zs.length)* by_≤140737488355328) (F:ys.length+zs.length≤9223372036854775807) (J:Yes N ops ⟨some d,.call ⟨.builtin .append,#[x,y],#[t,t]⟩,ty,pos,af,g⟩ E) (M:Nat.blt d N.n=true)
 (O: ∀h l,KV N KK (set E d (.slice h (ys++zs).length l)) (Hp I0 w0 (L.set k (OS e K h l (ys++zs))))):OV P N ops Q ⟨some d,.call ⟨.builtin .append,#[x,y],#[t,t]⟩,ty,pos,af,g⟩ E (Hp I0 w0 L) KK:=fun a w o p=>by
 subst I;subst q;obtain⟨i,j,R,_⟩:=p.at z;obtain⟨h,l,S,f,_⟩:=kEM (ty:=ty) (cB:=cB) u v b R (C w p) (fun _=>by cases B<;>simp) D F;refine OV.run (w':=S) (J a o) ?_ (O h l _ _ (o.put _ M) (p.update z fun U r=>?_))
 ·simp only[execOp,resolve,invoke,builtin,Sem.run_bind,Sem.run_pure,Result.andThen_ok,List.map_toArray,List.map_cons,List.map_nil,o.ev G,o.ev H,f]
 ·obtain⟨V,W,X,s,T⟩:=kEM (ty:=ty) (cB:=cB) u v b r (C w p) (fun _=>by cases B<;>simp) D F
  grind
end
def Fx (P:Program) (f:FuncId) (vs:List Value) (w:World) (Own:List Assn) (ro:Ids) (post:Value→List Assn→Prop):Prop:=
 ∀I:Ids,Sep Own I w→(∀b,ro b→ ¬I b)→Calls P f vs.toArray w (fun e w'=> ∃v L',e= .returned v∧post v L'∧Hp I w L' w')
def no:Ids:=fun _=>False
def params:Nat→List Value→Env
 |_,[]=>[]
 |k,v::r=>(k,v)::params (k+1) r
theorem kAw: ∀(vs:List Value) (k t:Nat) (v:Value),get (params k vs) t=some v→k≤t∧vs[t-k]?=some v
 |[],_,_,_,h=>by grind [params,get]
 |u::r,k,t,v,h=>by
  by_cases b:k=t
  ·simp_all[params,get]
  ·have a:Nat.beq k t=false:=by grind [Nat.beq_eq]
   simp only[params,get,a,cond_false] at h;obtain⟨c,d⟩:=kAw r (k+1) t v h
   grind
section
variable {P:Program} {f:FuncId} {vs:List Value} {w:World} {Own:List Assn} {ro:Ids} {post:Value→List Assn→Prop}
theorem Fx.body {fn:Func} {c:Code} {N:Nat} (g:P.funcs[f]?=some fn) (i:fn.body=some c) (k:fn.ntmps=N) (l:Nat.ble vs.length N=true)
 (h: ∀I:Ids,(∀b,ro b→ ¬I b)→Sep Own I w→CV P ⟨N,[]⟩ c (bodyPost P fn (fun e w'=> ∃v d,e= .returned v∧post v d∧Hp I w d w')) (params 0 vs) (Hp I w Own)):Fx P f vs w Own ro post:=by
 intro I hI a;refine calls_of_wp g i (h I a hI _ _ ⟨rfl,?_,fun t v j=>?_⟩ (Hp.start hI))
 ·simp_all
 ·obtain⟨_,m⟩:=kAw vs 0 t v j
  grind
theorem Fx.mono {post':Value→List Assn→Prop} (h:Fx P f vs w Own ro post) (b: ∀v L,post v L→post' v L):Fx P f vs w Own ro post':=
 fun I hI c=>(h I hI c).mono fun _ _ ⟨v,a,d,e,g⟩=>⟨v,a,d,b v a e,g⟩
section
variable {N:Nat} {fn:Func} {I:Ids} {L L':List Assn} {E:Env} {v v1 v2 v3:Value} {t t1 t2 t3:Tmp}
theorem KV.ret0 (d:fn.results= #[]) (b) (c: ∀w',Hp I w L w'→Hp I w b w') (f:post (.tuple #[]) b):
 KV ⟨N,[]⟩ (bodyPost P fn (fun e w'=> ∃v b,e= .returned v∧post v b∧Hp I w b w') .ret) E (Hp I w L):=fun a w' g h=>
 ⟨g.defers,_,results_none d _ _ _,_,b,rfl,f,c w' h⟩
theorem KV.ret1 (f:fn.results= #[.tmp t]) (g:get E t=some v) (b) (c: ∀w',Hp I w L w'→Hp I w b w') (h:post v b):
 KV ⟨N,[]⟩ (bodyPost P fn (fun e w'=> ∃v b,e= .returned v∧post v b∧Hp I w b w') .ret) E (Hp I w L):=fun a w' d i=>
 ⟨d.defers,v,by rw[results_tmp f];simp[d.slot t v g],v,b,rfl,h,c w' i⟩
theorem KV.ret2 (f:fn.results= #[.tmp t1,.tmp t2]) (g:get E t1=some v1) (h:get E t2=some v2) (b) (c: ∀w',Hp I w L w'→Hp I w b w') (i:post (.tuple #[v1,v2]) b):
 KV ⟨N,[]⟩ (bodyPost P fn (fun e w'=> ∃v b,e= .returned v∧post v b∧Hp I w b w') .ret) E (Hp I w L):=fun a w' d j=>
 ⟨d.defers,.tuple #[v1,v2],by rw[results_tmp2 f];simp[d.slot t1 v1 g,d.slot t2 v2 h],_,b,rfl,i,c w' j⟩
end
end
def kAL:List Nat→List Assn→Option (List Assn×List Assn)
 |[],L=>some ([],L)
 |k::ks,L=>match L[k]? with
  |none=>none
  |some A=>match kAL ks (L.eraseIdx k) with
   |none=>none
   |some (S,R)=>some (A::S,R)
theorem kAg: ∀ {ks:List Nat} {L S R:List Assn},kAL ks L=some (S,R)→L.Perm (S++R)
 |[],L,S,R,h=>by simp_all[kAL]
 |k::ks,L,S,R,h=>by
  simp only[kAL] at h;cases a:L[k]? with
  |none=>grind
  |some A=>
   cases b:kAL ks (L.eraseIdx k) with
   |none=>grind
   |some q=>
    obtain⟨c,d⟩:=q;simp[a,b] at h;obtain⟨rfl,rfl⟩:=h;exact(kAN a).trans (List.Perm.cons A (kAg b))
section
variable {P:Program} {N:NN} {Q:Exit→Act→World→Prop} {E:Env} {ops:Array Oper} {KK:Act→World→Prop} {I0:Ids} {w0:World} {L Own F:List Assn}
def RoOk (I0:Ids) (w0:World) (F:List Assn) (b:Nat):Prop:=(¬I0 b∧b<w0.heap.size)∨ ∃(j:Nat) (A:Assn),F[j]?=some A∧ ∀(w:World) (I:Ids),A.sat w I→I b
theorem Calls.frame {f:FuncId} {vs:List Value} {w:World} {ks:List Nat} {ro:Ids} {post:Value→List Assn→Prop} (z:kAL ks L=some (Own,F)) (hs:Hp I0 w0 L w) (p: ∀b,ro b→RoOk I0 w0 F b)
 (h:Fx P f vs w Own ro post):Calls P f vs.toArray w (fun e w'=> ∃v m,e= .returned v∧post v m∧Hp I0 w0 (F++m) w'):=by
 obtain⟨I,d,r,B⟩:=hs.perm (kAg z);obtain⟨C,s,hI,D,E,n⟩:=Sep.append.1 d;refine(h C E fun b G H=>?_).mono ?_
 ·rcases p b G with ⟨g,t⟩|⟨j,A,J,N⟩
  ·grind
  ·obtain⟨i,O,K,_,M,_⟩:=n.perm (kAN J)
   grind
 ·rintro e w' ⟨v,m,rfl,a,u,q,y,k⟩;refine⟨v,m,rfl,a,fun x=>s x∨u x,Sep.append.2 ⟨s,u,fun _=>Iff.rfl,fun x g t=>?_,n.keep fun x l=>y.block x (n.lt x l) fun c=>D x c l,q⟩,r.trans y fun x c=>B x ((hI x).2 (.inl c)),?_⟩
  ·rcases k x t with o|o
   ·grind
   ·have:=n.lt x g;omega
  ·rintro x (g|g)
   ·grind
   ·rcases k x g with o|o
    ·grind
    ·exact .inr (qk r.size o)
theorem OV.call (ks:List Nat) {d:Nat} {f:FuncId} {fn:Func} {vs:List Value} {args:List Operand} {ts:Array TypeId} {ty:TypeId} {pos:String} {af:Array Edge} {g:Option (Nat×Bool)} {ro:Ids} {post:Value→List Assn→Prop}
 (t:P.funcs[f]?=some fn) (m:fn.body.isSome=true) (o:(fn.name== "runtime.NumGoroutine")=false) (u:evs E args=some vs) (x:kAL ks L=some (Own,F)) (i: ∀w,Hp I0 w0 L w→Fx P f vs w Own ro post) (p: ∀b,ro b→RoOk I0 w0 F b)
 (y:Yes N ops ⟨some d,.call ⟨.value (.func f),args.toArray,ts⟩,ty,pos,af,g⟩ E) (z:Nat.blt d N.n=true)
 (k: ∀v l,post v l→KV N KK (set E d v) (Hp I0 w0 (F++l))):OV P N ops Q ⟨some d,.call ⟨.value (.func f),args.toArray,ts⟩,ty,pos,af,g⟩ E (Hp I0 w0 L) KK:=fun a w q s=>by
 rw[if_pos (y a q)];unfold Oper.wp;have A:fn.body.isNone=false:=by cases h:fn.body<;>simp_all
 have j:(execOp a.eval ⟨some d,.call ⟨.value (.func f),args.toArray,ts⟩,ty,pos,af,g⟩).run P w= .ok (.enter f vs.toArray) w:=by
  have D:a.eval (.func f)= .func (.func f) #[] #[]:=rfl;have G:args.toArray.map a.eval=vs.toArray:=by rw[←q.evs u];simp
  have B: ¬fn.name= "runtime.NumGoroutine":=by grind
  have C: ¬fn.body=none:=by grind
  simp_all[execOp,resolve,invoke,callFunc,Deferred.ofValue]
 rw[j];simp only[Oper.upon];refine(Calls.frame x s p (i w s)).mono ?_;rintro e H ⟨v,l,rfl,c,r⟩;exact k v l c _ _ (q.put v z) r
end
section
variable {P:Program} {N:NN} {Q:Exit→Act→World→Prop} {E:Env} {S S0:World→Prop} {ops:Array Oper} {rest:List Oper} {T:Act→World→Prop}
def SV (P:Program) (N:NN) (ops:Array Oper) (T:Act→World→Prop) (rest:List Oper) (E:Env) (S:World→Prop):Prop:= ∀a w,Fits N a E→S w→wpStill P ops w (fun a'=>T a' w) rest a
theorem SV.nil (h:KV N T E S):SV P N ops T [] E S:=fun a w b c=>h a w b c
theorem kDb {a:Act} {w:World} {v:Value} {o:Oper} {R:Act→Prop} (b:Region.wanted o (yielded ops a.tmps)=true) (h:(execOp a.eval o).run P w= .ok (.value v) w) (k:wpStill P ops w R rest (a.put o.dst v)):
 wpStill P ops w R (o::rest) a:=by
 unfold wpStill;rw[if_pos b];unfold Oper.still;rw[h];exact⟨rfl,k⟩
section
variable {d:Nat} {v:Value} {op:Op} {ty:TypeId} {pos:String} {af:Array Edge} {g:Option (Nat×Bool)}
theorem SV.step (e:Yes N ops ⟨some d,op,ty,pos,af,g⟩ E) (h:Step P N E S ⟨some d,op,ty,pos,af,g⟩ v) (f:Nat.blt d N.n=true) (k:SV P N ops T rest (set E d v) S):SV P N ops T (⟨some d,op,ty,pos,af,g⟩::rest) E S:=
 fun a w b c=>kDb (e a b) (h a w b c) (k _ w (b.put v f) c)
theorem SV.skip {j:Nat} {b:Bool} (e:kBi ops E j=some (!b)) (f:Nat.blt d N.n=true) (k:SV P N ops T rest (set E d undef) S):SV P N ops T (⟨some d,op,ty,pos,af,some (j,b)⟩::rest) E S:=fun a w c g=>by
 unfold wpStill;rw[if_neg (by rw[kBj c rfl e];cases b<;>decide)];exact k _ w (c.put undef f) g
theorem SV.split {c:Prop} [Decidable c] (i:Yes N ops ⟨some d,op,ty,pos,af,g⟩ E) (h:Step P N E S ⟨some d,op,ty,pos,af,g⟩ (.bool (decide c))) (j:Nat.blt d N.n=true)
 (k1:c→SV P N ops T rest (set E d (.bool true)) S) (k2: ¬c→SV P N ops T rest (set E d (.bool false)) S):SV P N ops T (⟨some d,op,ty,pos,af,g⟩::rest) E S:=fun a w b f=>by
 have h':=h a w b f;by_cases e:c
 ·rw[qR e] at h';exact kDb (i a b) h' (k1 e _ w (b.put _ j) f)
 ·rw[qQ e] at h';exact kDb (i a b) h' (k2 e _ w (b.put _ j) f)
end
def FxP (P:Program) (f:FuncId) (vs:List Value) (v:Value):Prop:= ∀w,Calls P f vs.toArray w (fun e w'=>e= .returned v∧w'=w)
theorem SV.call {d:Nat} {f:FuncId} {fn:Func} {vs:List Value} {v:Value} {args:List Operand} {ts:Array TypeId} {ty:TypeId} {pos:String} {af:Array Edge} {g:Option (Nat×Bool)}
 (m:P.funcs[f]?=some fn) (i:fn.body.isSome=true) (j:(fn.name== "runtime.NumGoroutine")=false) (o:evs E args=some vs) (b:FxP P f vs v) (p:Yes N ops ⟨some d,.call ⟨.value (.func f),args.toArray,ts⟩,ty,pos,af,g⟩ E) (q:Nat.blt d N.n=true)
 (k:SV P N ops T rest (set E d v) S):SV P N ops T (⟨some d,.call ⟨.value (.func f),args.toArray,ts⟩,ty,pos,af,g⟩::rest) E S:=fun a w l r=>by
 have s:fn.body.isNone=false:=by cases h:fn.body<;>simp_all
 have c:(execOp a.eval ⟨some d,.call ⟨.value (.func f),args.toArray,ts⟩,ty,pos,af,g⟩).run P w= .ok (.enter f vs.toArray) w:=by
  have x:a.eval (.func f)= .func (.func f) #[] #[]:=rfl;have y:args.toArray.map a.eval=vs.toArray:=by rw[←l.evs o];simp
  have t: ¬fn.name= "runtime.NumGoroutine":=by grind
  have u: ¬fn.body=none:=by grind
  simp_all[execOp,resolve,invoke,callFunc,Deferred.ofValue]
 unfold wpStill;rw[if_pos (p a l)];unfold Oper.still;rw[c];exact⟨rfl,v,(b w).mono fun e z h=>h,k _ w (l.put v q) r⟩
theorem CV.still {id:Nat} {l:List Oper} (b:P.follows .mixedOrders=true) (c:Region.lexB .any l.toArray=true) (d: ∀w,S w→S w.drew) (h:SV P N l.toArray (Q .normal) l E S):CV P N (.region id l.toArray true) Q E S:=
 fun a w e f=>wp_region_still_lit b c (h a w.drew e (d w f))
theorem CV.stillTail (n:Nat) {id:Nat} {l:List Oper} (b:P.follows .mixedOrders=true) (c:Region.lexTailB .any l.toArray n=true) (d: ∀w,S w→S w.drew)
 (h:SV P N l.toArray (wpList P l.toArray Q (l.drop n)) (l.take n) E S):CV P N (.region id l.toArray true) Q E S:=
 fun a w e f=>wp_region_still_tail n b c (h a w.drew e (d w f))
def AV (P:Program) (N:NN) (ops:Array Oper) (Q:Exit→Act→World→Prop) (S0:World→Prop) (fuel:Nat) (listed:Array Bool) (E:Env) (S:World→Prop):Prop:=KV N (wpAnyH P .any ops Q S0 fuel listed) E S
theorem CV.any {id:Nat} {l:List Oper} (S0:World→Prop) (b:P.follows .mixedOrders=true) (c: ∀w,S w→S w.drew) (n:Nat) (d:l.length=n) (h:AV P N l.toArray Q S0 n (Array.replicate n false) E S):CV P N (.region id l.toArray true) Q E S:=
 fun a w e f=>wp_region_held (S:=S0) b (by subst d;have:=h a w.drew e (c w f);simp_all)
theorem AV.take (i:Nat) {d:Nat} {v:Value} {op:Op} {ty:TypeId} {pos:String} {af:Array Edge} {g:Option (Nat×Bool)} {e:Nat} {listed:Array Bool} (b:Array Bool) (o:ops[i]?=some ⟨some d,op,ty,pos,af,g⟩)
 (hs:Region.noSelect ops=true) (j:Region.free .any ops listed i=true) (p:(Region.ready .any ops listed).contains i=true)
 (q: ∀c a w,Q (.panic c) (a.put (some d) v) w→Q (.panic c) a w) (r:Yes N ops ⟨some d,op,ty,pos,af,g⟩ E) (h:Step P N E S0 ⟨some d,op,ty,pos,af,g⟩ v) (s:Nat.blt d N.n=true) (t: ∀w,S w→S0 w)
 (u:listed.setIfInBounds i true=b) (k:AV P N ops Q S0 e b (set E d v) S):AV P N ops Q S0 (e+1) listed E S:=fun a w l f=>by
 subst u;exact wpAnyH_take o hs j p q (.inl ⟨r a l,fun x m=>h a x l m⟩) (t w f) (k _ w (l.put v s) f)
theorem AV.takeSkip (i:Nat) {d j:Nat} {b:Bool} {op:Op} {ty:TypeId} {pos:String} {af:Array Edge} {f:Nat} {listed:Array Bool} (e:Array Bool) (m:ops[i]?=some ⟨some d,op,ty,pos,af,some (j,b)⟩)
 (hs:Region.noSelect ops=true) (h:Region.free .any ops listed i=true) (o:(Region.ready .any ops listed).contains i=true)
 (p: ∀c a w,Q (.panic c) (a.put (some d) undef) w→Q (.panic c) a w) (q:kBi ops E j=some (!b)) (r:Nat.blt d N.n=true) (s: ∀w,S w→S0 w)
 (t:listed.setIfInBounds i true=e) (k:AV P N ops Q S0 f e (set E d undef) S):AV P N ops Q S0 (f+1) listed E S:=fun a w l g=>by
 subst t;exact wpAnyH_take m hs h o p (.inr ⟨by rw[kBj l rfl q];cases b<;>rfl,rfl⟩) (s w g) (k _ w (l.put undef r) g)
def AllA (P:Program) (N:NN) (ops:Array Oper) (Q:Exit→Act→World→Prop) (S0:World→Prop) (fuel:Nat) (listed:Array Bool) (E:Env) (S:World→Prop):List Nat→Prop
 |[]=>True
 |i::r=>(∃o,ops[i]?=some o∧OV P N ops Q o E S (fun a' w'=>S0 w'∧wpAnyH P .any ops Q S0 fuel (listed.setIfInBounds i true) a' w'))∧AllA P N ops Q S0 fuel listed E S r
theorem AllA.mem {a:Nat} {listed:Array Bool}: ∀ {rs:List Nat},AllA P N ops Q S0 a listed E S rs→ ∀i∈rs,∃o,ops[i]?=some o∧OV P N ops Q o E S (fun b w'=>S0 w'∧wpAnyH P .any ops Q S0 a (listed.setIfInBounds i true) b w')
 |[],_,_,h=>by cases h
 |j::r,⟨c,d⟩,i,h=>by
  rcases qe.1 h with rfl|h
  ·exact c
  ·exact d.mem i h
theorem AV.all {b:Nat} {listed:Array Bool} (rs:List Nat) (e:Region.ready .any ops listed=rs) (c:rs≠[]) (h:AllA P N ops Q S0 b listed E S rs):AV P N ops Q S0 (b+1) listed E S:=fun a w f g=>by
 refine wpAnyH_all e c fun i j=>?_;obtain⟨o,k,d⟩:=h.mem i j;have:=d a w f g
 grind [wpOp]
theorem AV.next {c:Nat} {listed:Array Bool} {i:Nat} (b:Array Bool) (e:listed.setIfInBounds i true=b) (f: ∀w,S w→S0 w) (k:AV P N ops Q S0 c b E S):
 KV N (fun g w'=>S0 w'∧wpAnyH P .any ops Q S0 c (listed.setIfInBounds i true) g w') E S:=fun a w h d=>by
 subst e;exact⟨f w d,k a w h d⟩
theorem AV.done {b:Nat} {listed:Array Bool} (c:Region.ready .any ops listed=[]) (h:KV N (Q .normal) E S):AV P N ops Q S0 b listed E S:=fun a w d e=>wpAnyH_done c (h a w d e) _
theorem KV.cases {K:Act→World→Prop} (t:Nat) {b:Bool} (i:get E t=some (.bool b)) (j:b=true→KV N K (set E t (.bool true)) S) (k:b=false→KV N K (set E t (.bool false)) S):KV N K E S:=fun a w f h=>by
 have key: ∀c,b=c→Fits N a (set E t (.bool c)):=fun c d=>⟨f.defers,f.size,fun s v g=>by
  by_cases e:s=t
  ·subst e;rw[kBh] at g;rw[f.slot s _ i,←qY g,d]
  ·rw[kCy E _ e] at g;exact f.slot s v g⟩
 cases d:b with
 |true=>exact j d a w (key true d) h
 |false=>exact k d a w (key false d) h
theorem KV.sel {I0:Ids} {w0:World} {L R:List Assn} {K:Act→World→Prop} (ks:List Nat) (b:List Assn) (c:kAL ks L=some (b,R)) (k:KV N K E (Hp I0 w0 b)):KV N K E (Hp I0 w0 L):=fun a w d e=>k a w d (e.perm (kAg c)).sub
theorem KV.have {p:Prop} {K:Act→World→Prop} (c: ∀w,S w→p) (h:p→KV N K E S):KV N K E S:=fun a w d b=>h (c w b) a w d b
theorem CV.loopI {α:Type} {c:Code} (inv:α→Prop) (m:α→Nat) (G:α→Env) (T:α→World→Prop) (d:α) (h0:inv d) (g:Sub (G d) E) (h: ∀w,S w→T d w)
 (round: ∀z,inv z→CV P N c (Exit.then (fun a w=> ∃b,(inv b∧m b<m z)∧Fits N a (G b)∧T b w) Q) (G z) (T z)):CV P N (.loop c) Q E S:=
 CV.loop (α:={z:α//inv z}) (fun z=>m z.1) (fun z=>G z.1) (fun z=>T z.1) ⟨d,h0⟩ g h fun z a w i j=>wp_mono (round z.1 z.2 a w i j) fun e o p f=>by
  cases e<;>first|exact f|(obtain⟨b,⟨k,l⟩,n⟩:=f;exact⟨⟨b,k⟩,l,n⟩)
theorem KV.loopI {α:Type} {inv:α→Prop} {m:α→Nat} {G:α→Env} {T:α→World→Prop} {z:α} (b:α) (d:inv b) (c:m b<m z) (e:Sub (G b) E) (f: ∀w,S w→T b w):
 KV N (fun a w=> ∃b,(inv b∧m b<m z)∧Fits N a (G b)∧T b w) E S:=fun _ w g h=>⟨b,⟨d,c⟩,g.sub e,f w h⟩
theorem KV.heap {K:Act→World→Prop} {b:World→Prop} (c: ∀w,S w→b w) (h:KV N K E b):KV N K E S:=fun a w d e=>h a w d (c w e)
theorem Hp.nilOS {I0:Ids} {w0 w:World} {L:List Assn} {α:Type} {K:Enc α} {e:TypeId} (h:Hp I0 w0 L w):Hp I0 w0 (L++[OS e K none 0 []]) w:=by
 obtain⟨I,a,b,c⟩:=h;exact⟨I,Sep.append.2 ⟨I,fun _=>False,fun x=>by simp,fun _ _ h=>h,a,⟨fun _=>False,fun _=>False,fun x=>by simp,fun _ h=>h.elim,.inl ⟨rfl,rfl,rfl,fun _ h=>h⟩,fun _ h=>h⟩⟩,b,c⟩
theorem FxP.fn {f:FuncId} {vs:List Value} {v:Value} (h:FxP P f vs v) (w:World):Fx P f vs w [] no (fun u L=>u=v∧L=[]):=fun I hI _=>
 (h w).mono fun _ _ ⟨a,b⟩=>by grind [Hp.start]
theorem FxP.body {N:Nat} {f:FuncId} {vs:List Value} {v:Value} {fn:Func} {c:Code} (a:P.funcs[f]?=some fn) (b:fn.body=some c) (g:fn.ntmps=N) (i:Nat.ble vs.length N=true)
 (h: ∀w,CV P ⟨N,[]⟩ c (bodyPost P fn (fun e w'=>e= .returned v∧w'=w)) (params 0 vs) (fun w'=>w'=w)):FxP P f vs v:=by
 intro w;refine calls_of_wp a b (h w _ _ ⟨rfl,?_,fun t v d=>?_⟩ rfl)
 ·simp_all
 ·obtain⟨_,j⟩:=kAw vs 0 t v d
  grind
theorem KV.retP1 {N:Nat} {fn:Func} {t:Tmp} {v u:Value} {w:World} (c:fn.results= #[.tmp t]) (d:get E t=some u) (f:u=v):
 KV ⟨N,[]⟩ (bodyPost P fn (fun e w'=>e= .returned v∧w'=w) .ret) E (fun w'=>w'=w):=fun a w' b g=>
 ⟨b.defers,u,by rw[results_tmp c];simp[b.slot t u d],by rw[f],g⟩
theorem wI64 {x:Int} (a: -9223372036854775808≤x) (b:x≤9223372036854775807):IntKind.i64.wrap x=x:=by grind [IntKind.wrap_i64]
theorem wU64 {x:Int} (a:0≤x) (b:x≤18446744073709551615):IntKind.u64.wrap x=x:=by grind [IntKind.wrap_u64]
end
section
variable {α:Type} {K:Enc α} {w:World} {A:Option Addr} {ys:List α}
theorem RS.cell0 (h:RS w K A ys) {m:Nat} {v:Value} (a:m<ys.length) (b:(K.f (ys.getD m K.d))[0]?=some v):w.cell? ⟨bk A,of A+m* K.sz,none⟩=some v:=h.cell a b
theorem RS.cells (h:RS w K A ys) {m:Nat} (a:m<ys.length): ∀j v,(K.f (ys.getD m K.d))[j]?=some v→w.cell? ⟨bk A,of A+m* K.sz+j,none⟩=some v:=fun _ _ b=>h.cell a b
end
section
variable {P:Program} {N:NN} {Q:Exit→Act→World→Prop} {E:Env} {S:World→Prop} {ops:Array Oper} {K:Act→World→Prop} {I0:Ids} {w0:World} {L:List Assn}
variable {d:Option Nat} {ty:TypeId} {pos:String} {af:Array Edge} {g:Option (Nat×Bool)} {x y z:Operand} {u v u':Value} {t t2:TypeId}
theorem Step.binR {op:BinOp} (e:ev E x=some u) (f:ev E y=some u') (b: ∀w,(eqGuard op t x y u u').run P w= .ok () w) (h: ∀w,(binOp op t u u').run P w= .ok v w):Step P N E S ⟨d,.binOp op t x y t2,ty,pos,af,g⟩ v:=fun a w c _=>by
 simp only[execOp,c.ev e,c.ev f,Sem.run_bind,b,Result.andThen_ok,h,Sem.run_pure]
theorem kEN {p:Prop} [Decidable p] (a: ∀k m,u≠ .int k m) (hs: ∀s,u≠ .string s) (b: ∀k m,u≠ .float k m) (c: ∀k m n,u≠ .complex k m n) (h: ∀w,(Op.equal t u u').run P w= .ok (decide p) w) (w:World):(binOp .neq t u u').run P w= .ok (.bool (decide (¬p))) w:=by
 cases u<;>first|exact absurd rfl (a _ _)|exact absurd rfl (hs _)|exact absurd rfl (b _ _)|exact absurd rfl (c _ _ _)|(simp[binOp,h])
theorem kIR {p:Prop} [Decidable p] (a: ∀k m,u≠ .int k m) (hs: ∀s,u≠ .string s) (b: ∀k m,u≠ .float k m) (c: ∀k m n,u≠ .complex k m n) (h: ∀w,(Op.equal t u u').run P w= .ok (decide p) w) (w:World):(binOp .eql t u u').run P w= .ok (.bool (decide p)) w:=by
 cases u<;>first|exact absurd rfl (a _ _)|exact absurd rfl (hs _)|exact absurd rfl (b _ _)|exact absurd rfl (c _ _ _)|(simp[binOp,h])
theorem kCD (dp:Nat) {k k':IntKind} (h:P.underlying t=some (.int k')) (a b:Int) (w:World):(Op.equalIn (dp+1) t (.int k a) (.int k b)).run P w= .ok (decide (a=b)) w:=by
 simp[Op.equalIn,run_underlying h];rfl
theorem kFc (dp:Nat) (h:P.underlying t=some .bool) (a b:Bool) (w:World):(Op.equalIn (dp+1) t (.bool a) (.bool b)).run P w= .ok (decide (a=b)) w:=by
 simp[Op.equalIn,run_underlying h];cases a<;>cases b<;>rfl
theorem kDc (dp:Nat) {e:TypeId} (h:P.underlying t=some (.pointer e)) (p:Option Addr) (w:World):(Op.equalIn (dp+1) t (.pointer p) (.pointer none)).run P w= .ok (decide (p=none)) w:=by
 cases p<;>simp[Op.equalIn,run_underlying h]
theorem Step.nilSl {e:TypeId} {A:Option Addr} {n c:Nat} (a:P.underlying t=some (.slice e)) (b:ev E x=some (.slice A n c)) (f:ev E y=some (.slice none 0 0)):
 Step P N E S ⟨d,.binOp .eql t x y t2,ty,pos,af,g⟩ (.bool (decide (A=none))):=kA9 b f rfl fun w=>by
 rw[Lib.run_eql_slice_nil w t e A n c 0 0 a];cases A<;>simp
theorem Step.nnilSl {e:TypeId} {A:Option Addr} {n c:Nat} (a:P.underlying t=some (.slice e)) (b:ev E x=some (.slice A n c)) (f:ev E y=some (.slice none 0 0)):
 Step P N E S ⟨d,.binOp .neq t x y t2,ty,pos,af,g⟩ (.bool (decide (¬A=none))):=kA9 b f rfl fun w=>by
 simp only[binOp,Op.equal,Op.maxDepth,Sem.run_bind,Lib.run_equalIn_slice_nil w 9999 t e A n c 0 0 a,Result.andThen_ok,Sem.run_pure];cases A<;>simp
theorem Step.eqlP {p:Option Addr} {e:TypeId} (c:P.underlying t=some (.pointer e)) (a:ev E x=some (.pointer p)) (b:ev E y=some (.pointer none)):Step P N E S ⟨d,.binOp .eql t x y t2,ty,pos,af,g⟩ (.bool (decide (p=none))):=
 kA9 a b rfl fun w=>by
  grind [binOp,Op.equal,Op.maxDepth,Sem.run_bind,kDc,Result.andThen_ok,Sem.run_pure]
theorem Step.neqP {p:Option Addr} {e:TypeId} (c:P.underlying t=some (.pointer e)) (a:ev E x=some (.pointer p)) (b:ev E y=some (.pointer none)):Step P N E S ⟨d,.binOp .neq t x y t2,ty,pos,af,g⟩ (.bool (decide (¬p=none))):=
 kA9 a b rfl fun w=>by
  grind [binOp,Op.equal,Op.maxDepth,Sem.run_bind,kDc,Result.andThen_ok,Sem.run_pure]
end
theorem RS.nil_of {α:Type} {K:Enc α} {w:World} {ys:List α} (h:RS w K none ys):ys=[]:=by
 rcases h with h|⟨_,_,_,h,_⟩
 ·exact h
 grind
def Big {β:Type} (F:β→Assn) (hs:List β):Assn where
 sat w I:=Sep (hs.map F) I w
 lt h x hx:=h.lt x hx
 keep h hk:=h.keep hk
section
variable {I0:Ids} {w0 w:World} {L:List Assn} {β:Type} {F:β→Assn} {hs:List β} {k m:Nat}
theorem Hp.splice {A:Assn} {M:List Assn} (h:Hp I0 w0 L w) (a:L[k]?=some A) (b: ∀i,A.sat w i→Sep M i w):Hp I0 w0 (M++L.eraseIdx k) w:=by
 obtain⟨i,j,c,d,e,f,g,l⟩:=h.at a;exact⟨fun x=>i x∨j x,Sep.append.2 ⟨i,j,fun _=>Iff.rfl,e,b i c,d⟩,f,fun x m=>m.elim (g x) (l x)⟩
theorem Hp.bundle {A:Assn} {M R:List Assn} (h:Hp I0 w0 (M++R) w) (a: ∀i,Sep M i w→A.sat w i):Hp I0 w0 (A::R) w:=by
 obtain⟨I,b,c,d⟩:=h;obtain⟨i,j,hI,e,f,g⟩:=Sep.append.1 b;exact⟨I,⟨i,j,hI,e,a i f,g⟩,c,d⟩
theorem Hp.focus (h:Hp I0 w0 L w) (d:β) (f:L[k]?=some (Big F hs)) (g:m<hs.length):Hp I0 w0 (L.set k (F (hs.getD m d))++[Big F (hs.eraseIdx m)]) w:=by
 have c:=h.splice (M:=[F (hs.getD m d),Big F (hs.eraseIdx m)]) f fun i j=>by
  have e:(hs.map F).Perm ((F (hs.getD m d)::(hs.eraseIdx m).map F)):=by
   have:=(kAN (kEg g d)).map F
   grind
  obtain⟨a,b,c,l,n,o⟩:=Sep.perm e j;exact⟨a,b,c,l,n,b,fun _=>False,fun x=>by simp,fun _ _ h=>h,o,fun _ h=>h⟩
 refine c.perm ?_;have e:=kAt (F (hs.getD m d)) f;simp only[qM,List.nil_append];exact((List.Perm.swap _ _ _).trans (List.Perm.cons _ e)).trans (qi _ _).symm
theorem Hp.unfocus {h':β} (h:Hp I0 w0 (L++[Big F (hs.eraseIdx m)]) w) (f:L[k]?=some (F h')) (g:m<hs.length):Hp I0 w0 (L.set k (Big F (hs.set m h'))) w:=by
 have e:(L++[Big F (hs.eraseIdx m)]).Perm ([F h',Big F (hs.eraseIdx m)]++L.eraseIdx k):=by
  refine(qi _ _).trans ?_;exact(List.Perm.cons _ (kAN f)).trans (List.Perm.swap _ _ _)
 have j:=(h.perm e).bundle (A:=Big F (hs.set m h')) fun i l=>by
  obtain⟨a,b,n,o,p,c,d,q,v,r,s⟩:=l;have t:(F h'::(hs.eraseIdx m).map F).Perm ((hs.set m h').map F):=by
   have u:=qJ g;have:=(kAt h' u).map F
   grind
  refine Sep.perm t ⟨a,b,n,o,p,?_⟩;exact Sep.ext r fun x=>by rw[q x];exact⟨.inl,fun h=>h.elim id fun h=>absurd h (s x)⟩
 exact j.perm (kAt _ f)
theorem Hp.newBig (h:Hp I0 w0 L w) (n:Nat) (h0:β) (a: ∀w,(F h0).sat w (fun _=>False)):Hp I0 w0 (L++[Big F (List.replicate n h0)]) w:=by
 obtain⟨I,b,c,d⟩:=h;have e: ∀n,Sep ((List.replicate n h0).map F) (fun _=>False) w:=by
  intro n
  induction n with
  |zero=>exact fun _ h=>h
  |succ n f=>exact⟨fun _=>False,fun _=>False,fun x=>by simp,fun _ h=>h.elim,a w,f⟩
 exact⟨I,Sep.append.2 ⟨I,fun _=>False,fun x=>by simp,fun _ _ h=>h,b,⟨fun _=>False,fun _=>False,fun x=>by simp,fun _ h=>h.elim,e n,fun _ h=>h⟩⟩,c,d⟩
theorem OS.emp {α:Type} {e:TypeId} {K:Enc α} (w:World):(OS e K none 0 []).sat w (fun _=>False):= .inl ⟨rfl,rfl,rfl,fun _ h=>h⟩
theorem Hp.bigOS {G:β→World→Prop} (h:Hp I0 w0 L w) (d:β) (a:L[k]?=some (Big F hs)) (c:m<hs.length) (g: ∀i b,(F b).sat w i→G b w):G (hs.getD m d) w:=by
 have e:=h.focus d a c;have f:(L.set k (F (hs.getD m d))++[Big F (hs.eraseIdx m)])[k]?=some (F (hs.getD m d)):=by
  grind
 obtain⟨i,j,l,_⟩:=e.at f
 grind
theorem Hp.sel {R a:List Assn} (h:Hp I0 w0 L w) (ks:List Nat) (b:kAL ks L=some (a,R)):Hp I0 w0 a w:=(h.perm (kAg b)).sub
section
variable {P:Program} {N:NN} {Q:Exit→Act→World→Prop} {E:Env} {S:World→Prop} {ops:Array Oper} {K:Act→World→Prop}
theorem OV.heap {b:World→Prop} {o:Oper} (c: ∀w,S w→b w) (h:OV P N ops Q o E b K):OV P N ops Q o E S K:=fun a w d e=>h a w d (c w e)
theorem CV.loop2 {α β:Type} {c:Code} (inv:α→β→Prop) (m:α→β→Nat) (G:α→β→Env) (T:α→β→World→Prop) (f:α) (g:β) (h0:inv f g) (j:Sub (G f g) E) (k: ∀w,S w→T f g w)
 (round: ∀x y,inv x y→CV P N c (Exit.then (fun a w=> ∃b d,(inv b d∧m b d<m x y)∧Fits N a (G b d)∧T b d w) Q) (G x y) (T x y)):CV P N (.loop c) Q E S:=
 CV.loopI (fun z=>inv z.1 z.2) (fun z=>m z.1 z.2) (fun z=>G z.1 z.2) (fun z=>T z.1 z.2) (f,g) h0 j k fun z l a w n o=>wp_mono (round z.1 z.2 l a w n o) fun e p q i=>by
  cases e<;>first|exact i|(obtain⟨b,d,h⟩:=i;exact⟨(b,d),h⟩)
theorem KV.loop2 {α β:Type} {inv:α→β→Prop} {m:α→β→Nat} {G:α→β→Env} {T:α→β→World→Prop} {x:α} {y:β} (b:α) (c:β) (e:inv b c) (d:m b c<m x y) (f:Sub (G b c) E) (g: ∀w,S w→T b c w):
 KV N (fun a w=> ∃b c,(inv b c∧m b c<m x y)∧Fits N a (G b c)∧T b c w) E S:=fun _ w h i=>⟨b,c,⟨e,d⟩,h.sub f,g w i⟩
theorem CV.loop3 {α β γ:Type} {c:Code} (inv:α→β→γ→Prop) (m:α→β→γ→Nat) (G:α→β→γ→Env) (T:α→β→γ→World→Prop) (g:α) (i:β) (j:γ) (h0:inv g i j) (l:Sub (G g i j) E) (n: ∀w,S w→T g i j w)
 (round: ∀x y z,inv x y z→CV P N c (Exit.then (fun a w=> ∃b d f,(inv b d f∧m b d f<m x y z)∧Fits N a (G b d f)∧T b d f w) Q) (G x y z) (T x y z)):CV P N (.loop c) Q E S:=
 CV.loopI (fun z=>inv z.1 z.2.1 z.2.2) (fun z=>m z.1 z.2.1 z.2.2) (fun z=>G z.1 z.2.1 z.2.2) (fun z=>T z.1 z.2.1 z.2.2) (g,i,j) h0 l n fun z o a w p q=>wp_mono (round z.1 z.2.1 z.2.2 o a w p q) fun e r s k=>by
  cases e<;>first|exact k|(obtain⟨b,d,f,h⟩:=k;exact⟨(b,d,f),h⟩)
theorem KV.loop3 {α β γ:Type} {inv:α→β→γ→Prop} {m:α→β→γ→Nat} {G:α→β→γ→Env} {T:α→β→γ→World→Prop} {x:α} {y:β} {z:γ} (b:α) (c:β) (d:γ) (f:inv b c d) (e:m b c d<m x y z) (g:Sub (G b c d) E) (h: ∀w,S w→T b c d w):
 KV N (fun a w=> ∃b c d,(inv b c d∧m b c d<m x y z)∧Fits N a (G b c d)∧T b c d w) E S:=fun _ w i j=>⟨b,c,d,⟨f,e⟩,i.sub g,h w j⟩
end
end
def OM {κ ν:Type} (b:Nat) (kf:κ→Value) (vf:ν→Value) (m:List (κ×ν)):Assn where
 sat w I:=(∀x,I x↔x=b)∧ ∃es clock,w.heap[b]?=some (.map es clock)∧es.toList.map (fun e=>(e.key,e.val))=m.map (fun p=>(kf p.1,vf p.2))
 lt h x hx:=by grind
 keep h hk:=by grind
section
variable {P:Program} {κ ν:Type} {kt:TypeId} {N:NN} {Q:Exit→Act→World→Prop} {E:Env} {ops:Array Oper} {K:Act→World→Prop} {I0:Ids} {w0:World} {L:List Assn}
variable {d:Nat} {ty:TypeId} {pos:String} {af:Array Edge} {g:Option (Nat×Bool)} {x:Operand} {t:TypeId}
theorem OV.makeMap (kf:κ→Value) (vf:ν→Value) {e:TypeId} (f:P.underlying t=some (.map kt e)) {k:IntKind} {n:Int} (h:ev E x=some (.int k n)) (i:Yes N ops ⟨some d,.makeMap t (some x),ty,pos,af,g⟩ E) (j:Nat.blt d N.n=true)
 (l: ∀nb,KV N K (set E d (.map (some nb))) (Hp I0 w0 (L++[OM nb kf vf []]))):OV P N ops Q ⟨some d,.makeMap t (some x),ty,pos,af,g⟩ E (Hp I0 w0 L) K:=by
 refine OV.new (ob:= .map #[] 0) i (fun a w b _=>?_) j fun nb a w b m=>l nb a w b (m.last fun J c=>?_)
 ·have o:(Instr.makeMap t (some (.int k n))).run P w= .ok (.map (some w.heap.size)) (w.alloc (.map #[] 0)):=by simp[Instr.makeMap,run_underlying f];rfl
  simp only[execOp,Option.map_some,b.ev h,Sem.run_bind,o,Result.andThen_ok,Sem.run_pure]
 ·exact⟨c.1,#[],0,c.2,rfl⟩
theorem OV.makeMap0 (kf:κ→Value) (vf:ν→Value) (e:Yes N ops ⟨some d,.makeMap t none,ty,pos,af,g⟩ E) (f:Nat.blt d N.n=true)
 (h: ∀nb,KV N K (set E d (.map (some nb))) (Hp I0 w0 (L++[OM nb kf vf []]))):OV P N ops Q ⟨some d,.makeMap t none,ty,pos,af,g⟩ E (Hp I0 w0 L) K:=by
 refine OV.new (ob:= .map #[] 0) e (fun a w b _=>?_) f fun nb a w b i=>h nb a w b (i.last fun J c=>?_)
 ·simp_all[Instr.makeMap,execOp]
 ·exact⟨c.1,#[],0,c.2,rfl⟩
end
def mget {κ ν:Type} [DecidableEq κ]:List (κ×ν)→κ→Option ν
 |[],_=>none
 |p::r,x=>if x=p.1 then some p.2 else mget r x
structure KeyT (P:Program) {κ:Type} [DecidableEq κ] (kt:TypeId) (kf:κ→Value):Prop where
 check: ∀em x w,(Instr.checkKey em 10000 kt (kf x)).run P w= .ok () w
 find: ∀(x:κ) (es:List MapEntry) (m:List κ),es.map (·.key)=m.map kf→ ∀w,(Instr.findKey kt (kf x) es).run P w= .ok ((m.findIdx? (fun y=>decide (x=y))).bind fun i=>(es[i]?).map fun e=>(i,e.val)) w
section
variable {P:Program} {κ ν:Type} [DecidableEq κ] {kt:TypeId} {kf:κ→Value} {vf:ν→Value} {m:List (κ×ν)} {b:Nat}
theorem kCT {x:κ} (a: ∀x y w,(Op.equal kt (kf x) (kf y)).run P w= .ok (decide (x=y)) w): ∀(es:List MapEntry) (m:List κ) (i:Nat),es.map (·.key)=m.map kf→ ∀w,
 (Instr.findAsking kt (kf x) es i).run P w= .ok ((m.findIdx? (fun y=>decide (x=y))).bind fun j=>(es[j]?).map fun e=>(i+j,e.val)) w
 |[],[],i,_,w=>by simp_all[Instr.findAsking]
 |e::es,y::m,i,h,w=>by
  simp only[List.map_cons,List.cons.injEq] at h;simp only[Instr.findAsking,Sem.run_bind,h.1,a,Result.andThen_ok,List.findIdx?_cons];by_cases b:x=y
  ·simp[b]
  ·simp only[b,decide_false,qX,if_false];rw[kCT a es m (i+1) h.2 w];cases c:m.findIdx? (fun y=>decide (x=y)) with
   |none=>simp
   |some j=>grind
 |[],_::_,_,h,_=>by simp at h
 |_::_,[],_,h,_=>by simp at h
theorem KeyT.struct {fs:Array Field} (hu:P.underlying kt=some (.struct fs)) (hc: ∀em x w,(Instr.checkKey em 10000 kt (kf x)).run P w= .ok () w) (heq: ∀x y w,(Op.equal kt (kf x) (kf y)).run P w= .ok (decide (x=y)) w):KeyT P kt kf where
 check:=hc
 find x es m h w:=by
  simp only[Instr.findKey,Sem.run_bind,run_underlying hu,Result.andThen_ok];cases es with
  |nil=>
   simp_all[Instr.findNow]
  |cons e es=>
   have hs:Instr.sameNow (.struct fs) (kf x) e.key=none:=by grind [Instr.sameNow]
   simp only[Instr.findNow,hs];rw[kCT heq (e::es) m 0 h w];simp
theorem kAx (x:κ): ∀(m:List (κ×ν)) (es:List MapEntry),es.map (fun e=>(e.key,e.val))=m.map (fun p=>(kf p.1,vf p.2))→
 (((m.map (·.1)).findIdx? (fun y=>decide (x=y))).bind fun i=>(es[i]?).map fun e=>e.val)=(mget m x).map vf
 |[],[],_=>by simp[mget]
 |p::m,e::es,h=>by
  simp only[List.map_cons,List.cons.injEq,Prod.mk.injEq] at h;simp only[List.map_cons,List.findIdx?_cons,mget];by_cases a:x=p.1
  ·grind
  ·simp only[a,decide_false,qX,if_false];rw[←kAx x m es h.2];cases b:(m.map (·.1)).findIdx? (fun y=>decide (x=y)) with
   |none=>simp
   |some j=>simp
 |[],_::_,h=>by simp at h
 |_::_,[],h=>by simp at h
variable {N:NN} {Q:Exit→Act→World→Prop} {E:Env} {ops:Array Oper} {K:Act→World→Prop} {I0:Ids} {w0:World} {L:List Assn}
variable {d:Nat} {ty:TypeId} {pos:String} {af:Array Edge} {g:Option (Nat×Bool)} {x y z:Operand} {u v u':Value} {t:TypeId}
theorem kEO {w:World} {I:Ids} {g:TypeId} {zv:ν} {k by_:Nat} (l:P.underlying t=some (.map kt g)) (j:KeyT P kt kf) (n:TI P g (vf zv) k by_) (h:(OM b kf vf m).sat w I) (q:κ) (ok:Bool):
 (Instr.lookup t (.map (some b)) (kf q) ok).run P w= .ok (if ok then .tuple #[vf ((mget m q).getD zv),.bool (mget m q).isSome] else vf ((mget m q).getD zv)) w:=by
 obtain⟨_,es,clock,s,d⟩:=h;have c:es.toList.map (·.key)=(m.map (·.1)).map kf:=by
  have:=congrArg (List.map (·.1)) d
  grind [Function.comp_def]
 have o:(getObj b).run P w= .ok (.map es clock) w:=by grind [getObj,Sem.run]
 have p:=j.find q es.toList (m.map (·.1)) c w;have a:=kAx q m es.toList d;simp only[Instr.lookup,Sem.run_bind,run_underlying l,Result.andThen_ok,o,Sem.run_pure,j.check,p];cases e:(m.map (·.1)).findIdx? (fun y=>decide (q=y)) with
 |none=>
  rw[e] at a;have:mget m q=none:=by cases f:mget m q with|none=>rfl|some _=>grind
  simp only[Option.bind_none,Sem.run_bind,n.zeroValue,Result.andThen_ok,Sem.run_pure,this,Option.getD_none,Option.isSome_none]
 |some i=>
  rw[e] at a;simp only[Option.bind_some] at a ⊢;cases r:es.toList[i]? with
  |none=>
   exfalso;have u:=(List.findIdx?_eq_some_iff_getElem.1 e).1;have v:es.toList.length=m.length:=by have:=congrArg List.length d;grind
   grind
  |some en=>
   rw[r] at a;simp only[Option.map_some] at a ⊢;cases f:mget m q with
   |none=>grind
   |some x=>
    simp_all
theorem Step.lookup (k:Nat) {d:TypeId} {zv:ν} {f by_:Nat} {dd:Option Nat} (q:κ) (h:P.underlying t=some (.map kt d)) (c:KeyT P kt kf) (l:TI P d (vf zv) f by_) (n:L[k]?=some (OM b kf vf m)) (o:ev E x=some (.map (some b))) (p:ev E y=some (kf q)):
 Step P N E (Hp I0 w0 L) ⟨dd,.lookup t x y false,ty,pos,af,g⟩ (vf ((mget m q).getD zv)):=fun a w e r=>by
 obtain⟨i,j,s,_⟩:=r.at n;have:=kEO h c l s q false;simp only[execOp,e.ev o,e.ev p,Sem.run_bind,this,Result.andThen_ok,Sem.run_pure,qX,if_false]
theorem Step.lookupOk (k:Nat) {d:TypeId} {zv:ν} {f by_:Nat} {dd:Option Nat} (q:κ) (h:P.underlying t=some (.map kt d)) (c:KeyT P kt kf) (l:TI P d (vf zv) f by_) (n:L[k]?=some (OM b kf vf m)) (o:ev E x=some (.map (some b))) (p:ev E y=some (kf q)):
 Step P N E (Hp I0 w0 L) ⟨dd,.lookup t x y true,ty,pos,af,g⟩ (.tuple #[vf ((mget m q).getD zv),.bool (mget m q).isSome]):=fun a w e r=>by
 obtain⟨i,j,s,_⟩:=r.at n;have:=kEO h c l s q true;simp only[execOp,e.ev o,e.ev p,Sem.run_bind,this,Result.andThen_ok,Sem.run_pure,if_true]
theorem OV.mapInsert (k:Nat) {G:TypeId} (q:κ) (r:ν) (H:P.underlying t=some (.map kt G)) (f:KeyT P kt kf) (D:L[k]?=some (OM b kf vf m)) (I:ev E x=some (.map (some b))) (J:ev E y=some (kf q)) (M:ev E z=some (vf r)) (O:mget m q=none)
 (R:Yes N ops ⟨none,.mapUpdate t x y z,ty,pos,af,g⟩ E) (S:KV N K E (Hp I0 w0 (L.set k (OM b kf vf (m++[(q,r)]))))):OV P N ops Q ⟨none,.mapUpdate t x y z,ty,pos,af,g⟩ E (Hp I0 w0 L) K:=fun a w l F=>by
 rw[if_pos (R a l)];obtain⟨i,j,T,_⟩:=F.at D;obtain⟨_,es,clock,U,v⟩:=T;have c:es.toList.map (·.key)=(m.map (·.1)).map kf:=by
  have:=congrArg (List.map (·.1)) v
  grind [Function.comp_def]
 have A:(getObj b).run P w= .ok (.map es clock) w:=by grind [getObj,Sem.run]
 have B:=f.find q es.toList (m.map (·.1)) c w;have n:=kAx q m es.toList v;rw[O] at n;have d:((m.map (·.1)).findIdx? (fun y=>decide (q=y))).bind (fun i=>(es.toList[i]?).map fun e=>(i,e.val))=none:=by
  simp_all
 have V:=kAW U;have p: ∀o,(setObj b o).run P w= .ok () {w with heap:=w.heap.setIfInBounds b o}:=fun o=>by grind [setObj,Sem.run]
 have s:(Instr.mapUpdate t (.map (some b)) (kf q) (vf r)).run P w= .ok () {w with heap:=w.heap.setIfInBounds b (.map (es.push {key:=kf q,val:=vf r,born:=clock}) (clock+1))}:=by
  simp only[Instr.mapUpdate,Sem.run_bind,run_underlying H,Result.andThen_ok,A,f.check,B,d,p]
 unfold Oper.wp;simp only[execOp,l.ev I,l.ev J,l.ev M,Sem.run_bind,s,Result.andThen_ok,Sem.run_pure];refine S _ _ (l.put_none _) (F.update D fun W u=>⟨W,⟨u.1,es.push {key:=kf q,val:=vf r,born:=clock},clock+1,by grind,by simp[v]⟩,fun _ h=> .inl h,?_⟩);exact⟨rfl,rfl,rfl,by simp,fun x X C=>by
  have Y:=fun e=>C ((u.1 x).2 e)
  grind⟩
end
end Go.Sv
namespace Go.Sv
open Go.ChangeShapes Go.WideShapes Go.Deep Go.RowKit
section
variable {H:Type} {enc:TypeId×Value→H} {P:Program} {w:World} {base:Nat} {spare:Nat→Bool} {held:Bool}
end
theorem RS.ofCells {α:Type} (K:Enc α) (ok:α→Prop) {w:World} {a:Addr} {len:Nat} (h: ∀i,i<len→ ∃y:α,ok y∧ ∀j v,(K.f y)[j]?=some v→w.cell? (a.add (i* K.sz+j))=some v):
 ∃ys:List α,ys.length=len∧RS w K (some a) ys∧ ∀i,i<len→ok (ys.getD i K.d):=by
 by_cases H:len=0
 ·subst H;exact⟨[],rfl,.inl rfl,fun i l=>by omega⟩
 have B: ∀i,∃y:α,i<len→ok y∧ ∀j v,(K.f y)[j]?=some v→w.cell? (a.add (i* K.sz+j))=some v:=fun i=>by
  by_cases l:i<len
  ·grind
  ·exact⟨K.d,fun x=>absurd x l⟩
 let g:=fun i=>Classical.choose (B i)
 have C:=fun i l=>Classical.choose_spec (B i) l;have D: ∀i,i<len→((List.range len).map g).getD i K.d=g i:=fun i l=>by grind
 refine⟨(List.range len).map g,by simp,?_,fun i l=>by grind⟩;have I:=(C 0 (by omega)).2 0 ((K.f (g 0))[0]'(by rw[K.len];exact K.pos)) (qJ _);have c:a.spot=none:=by
  grind [World.cell?_spot,Addr.add]
 obtain⟨b,o,s⟩:=a;simp only[] at c;subst c;have p: ∀n,(⟨b,o,none⟩:Addr).add n=⟨b,o+n,none⟩:=fun n=>by
  grind [Addr.add]
 have q: ∃k t A,w.heap[b]?=some (.cells k t A):=by
  grind [World.cell?]
 obtain⟨k,t,A,E⟩:=q;refine .inr ⟨k,t,A,rfl,E,fun j v F=>?_⟩;have r:=(List.getElem?_eq_some_iff.1 F).1;rw[kA6] at r;simp only[qE,List.length_range] at r;have L:=K.pos;have G:j/K.sz<len:=by simp_all[Nat.div_lt_iff_lt_mul]
 have u:j%K.sz<(K.f (g (j/K.sz))).length:=by rw[K.len];simp_all[Nat.mod_lt]
 have J:=kDL K (ys:=(List.range len).map g) (m:=j/K.sz) (by simp[G]) (qJ u);have z:j/K.sz* K.sz+j%K.sz=j:=by grind [Nat.div_add_mod]
 rw[z,F] at J;have e:=(C _ G).2 (j%K.sz) v (by grind);rw[z,p,kAA E] at e;exact e
end Go.Sv
namespace Go.Sv
section
variable {P:Program} {N:NN} {Q:Exit→Act→World→Prop} {E:Env} {S S0:World→Prop} {ops:Array Oper} {rest:List Oper} {T:Act→World→Prop} {K:Act→World→Prop} {d:Nat} {op:Op} {ty:TypeId} {pos:String} {af:Array Edge}
def kFh (ops:Array Oper) (E:Env) (j:Nat):Bool:=
 match (ops[j]?).bind (·.dst) with
 |some d=>match get E d with
  |some (.tuple _)=>true
  |_=>false
 |none=>false
theorem kAl {a:Act} (h:Fits N a E) {o:Oper} {j:Nat} {want:Bool} (f:o.guard=some (j,want)) (b:kFh ops E j=true):Region.wanted o (yielded ops a.tmps)=false:=by
 unfold kFh at b;simp only[Region.wanted,f];cases c:(ops[j]?).bind (·.dst) with
 |none=>grind
 |some d=>
  rw[c] at b;simp only[] at b;cases e:get E d with
  |none=>grind
  |some v=>
   rw[e] at b;cases v<;>simp at b;have:yielded ops a.tmps j=none:=by
    simp only[yielded,c,Option.bind_some,h.slot d _ e]
   grind
theorem OV.skipU {j:Nat} {b:Bool} (g:kFh ops E j=true) (c:Nat.blt d N.n=true)
 (k:KV N K (set E d undef) S):OV P N ops Q ⟨some d,op,ty,pos,af,some (j,b)⟩ E S K:=fun a w e f=>by
 rw[if_neg (by grind [kAl])];exact k _ w (e.put undef c) f
theorem SV.skipU {j:Nat} {b:Bool} (g:kFh ops E j=true) (c:Nat.blt d N.n=true) (k:SV P N ops T rest (set E d undef) S):SV P N ops T (⟨some d,op,ty,pos,af,some (j,b)⟩::rest) E S:=fun a w e f=>by
 unfold wpStill;rw[if_neg (by grind [kAl])];exact k _ w (e.put undef c) f
theorem AV.takeSkipU (i:Nat) {j:Nat} {b:Bool} {f:Nat} {listed:Array Bool} (e:Array Bool) (m:ops[i]?=some ⟨some d,op,ty,pos,af,some (j,b)⟩)
 (hs:Region.noSelect ops=true) (h:Region.free .any ops listed i=true) (o:(Region.ready .any ops listed).contains i=true)
 (p: ∀c a w,Q (.panic c) (a.put (some d) undef) w→Q (.panic c) a w) (q:kFh ops E j=true) (r:Nat.blt d N.n=true) (s: ∀w,S w→S0 w)
 (t:listed.setIfInBounds i true=e) (k:AV P N ops Q S0 f e (set E d undef) S):AV P N ops Q S0 (f+1) listed E S:=fun a w l g=>by
 subst t;exact wpAnyH_take m hs h o p (.inr ⟨kAl l rfl q,rfl⟩) (s w g) (k _ w (l.put undef r) g)
end
section
variable {P:Program} {N:NN} {Q:Exit→Act→World→Prop} {E:Env} {S:World→Prop} {ops:Array Oper}
variable {dd:Option Nat} {ty:TypeId} {pos:String} {af:Array Edge} {g:Option (Nat×Bool)} {x y z:Operand} {KK:Act→World→Prop}
variable {I0:Ids} {w0:World} {L:List Assn} {α:Type} {K:Enc α} {A B:Option Addr} {ys zs:List α} {e t:TypeId} {c:Nat}
theorem Step.capSl {n:Nat} (b:P.underlying t=some (.slice e)) (d:ev E x=some (.slice A n c)):
 Step P N E S ⟨dd,.call ⟨.builtin .cap,#[x],#[t]⟩,ty,pos,af,g⟩ (.int .i64 c):=fun a w f _=>by
 simp[execOp,resolve,invoke,builtin,f.ev d,Builtin.cap_,run_underlying b,goInt]
theorem Step.makeFunc {f:FuncId} {caps:List Operand} {vs:List Value} (b:evs E caps=some vs):
 Step P N E S ⟨dd,.makeFunc (.func f) #[] caps.toArray,ty,pos,af,g⟩ (.func (.func f) #[] vs.toArray):=fun a w c _=>by
 have d:caps.toArray.map a.eval=vs.toArray:=by rw[←c.evs b];simp
 simp_all[execOp,Instr.makeFunc]
def shA (A:Option Addr) (l sz c:Nat):Option Addr:=if c=l then A else A.map (·.add (l* sz))
theorem Step.sliceLo {ze:Value} {d by_ n:Nat} {k:IntKind} {i:Int} (h:P.underlying t=some (.slice e)) (j:TI P e ze d by_) (m:ev E x=some (.slice A n c)) (o:ev E y=some (.int k i)) (l:Nat) (p:i=(l:Int)) (b:l≤n):
 Step P N E S ⟨dd,.slice t x (some y) none none,ty,pos,af,g⟩ (.slice (shA A l d c) (n-l) (c-l)):=fun a w f _=>by
 subst p;simp[execOp,Instr.sliceAt,Instr.slice,f.ev m,f.ev o,run_underlying h,Instr.sliceBounds,Instr.sliceBound,asIntOf,b,j.sizeOf,shA]
theorem Step.sliceHi {ze:Value} {h by_ n:Nat} {k:IntKind} {i:Int} (j:P.underlying t=some (.slice e)) (m:TI P e ze h by_) (o:ev E x=some (.slice A n c)) (p:ev E y=some (.int k i)) (l:Nat) (q:i=(l:Int)) (d:l≤c):
 Step P N E S ⟨dd,.slice t x none (some y) none,ty,pos,af,g⟩ (.slice A l c):=fun a w f _=>by
 subst q;have r:(if c=0 then A else A.map fun b=>b.add 0)=A:=by
  simp_all[Addr.add]
 simp[execOp,Instr.sliceAt,Instr.slice,f.ev o,f.ev p,run_underlying j,Instr.sliceBounds,Instr.sliceBound,asIntOf,d,m.sizeOf,r]
theorem RS.drop {w:World} (h:RS w K A ys) (l:Nat) (i:ys.length≤c):RS w K (shA A l K.sz c) (ys.drop l):=by
 by_cases k:l<ys.length
 ·have e: ¬c=l:=by omega
  rcases h with rfl|⟨a,t,f,m,g,b⟩
  ·grind
  ·have d:shA A l K.sz c=some ⟨bk A,of A+l* K.sz,none⟩:=by
    grind [shA,Addr.add]
   refine .inr ⟨a,t,f,by rw[d];rfl,by rw[d];exact g,fun j v n=>?_⟩;rw[d];show a[of A+l* K.sz+j]?=some v;rw[Nat.add_assoc];refine b _ _ ?_;have o:flat K ys=flat K (ys.take l)++flat K (ys.drop l):=by grind [kAS,List.take_append_drop]
   grind [kA6]
 ·exact .inl (List.drop_of_length_le (by omega))
theorem kBB {w:World} (h:RS w K A ys) (n:Nat) (p:n≤ys.length) (m c:Nat):(Builtin.firstCells K.sz n (.slice A m c)).run P w= .ok (flat K (ys.take n)).toArray w:=by
 have q:(flat K (ys.take n)).length=n* K.sz:=by grind [kA6]
 cases g:A with
 |none=>
  have r:ys=[]:=by
   rcases h with h|⟨_,_,_,h,_⟩
   ·exact h
   grind
  simp_all[Builtin.firstCells]
 |some a=>
  have d: ∀j v,(flat K (ys.take n))[j]?=some v→w.cell? (a.add j)=some v:=fun j u i=>by
   rcases h.take n with s|⟨k,t,x,e,b,d⟩
   ·grind [flat]
   ·rw[g] at e;have l:a=⟨a.block,a.off,none⟩:=by grind
    rw[g] at b d;simp only[bk] at b;have f:=d j u i;rw[l];by_cases o:j=0
    ·subst o;grind [Addr.add,kAA]
    grind [Addr.add,kAA]
  grind [run_loadCells_list,Builtin.firstCells]
theorem kAm (zc:Array Value) (n:Nat):Builtin.zeroCells zc n=madeCells zc (n* zc.size):=rfl
theorem OV.appendZ (j:α) {d:Nat} {tn:TypeId} {ze:Value} {by_ n cB:Nat} {q:Int} {F G:IntKind} (m:Nat) (U:P.underlying t=some (.slice e)) (u:P.underlying tn=some (.int G)) (V:TI P e ze K.sz by_) (k:ze.cells.toList=K.f j)
 (W:ev E x=some (.slice B n cB)) (X:ev E y=some (.int F q)) (Y:q=(m:Int)) (Z:n=zs.length) (hr: ∀w,Hp I0 w0 L w→RS w K B zs) (l:0<m) (i:cB<n+m)
 (g6:n+m≤1000000) (g7:m* by_≤281474976710656) (H:Builtin.nextslicecap (n+m) cB* by_≤281474976710656)
 (hg:Yes N ops ⟨some d,.call ⟨.builtin .append,#[x,y],#[t,tn]⟩,ty,pos,af,g⟩ E) (hN:Nat.blt d N.n=true)
 (kk: ∀I z,n+m≤z→KV N KK (set E d (.slice I (n+m) z)) (Hp I0 w0 (L++[OS e K I z (zs++List.replicate m j)]))):
 OV P N ops Q ⟨some d,.call ⟨.builtin .append,#[x,y],#[t,tn]⟩,ty,pos,af,g⟩ E (Hp I0 w0 L) KK:=fun a w s M=>by
 subst Y;subst Z;obtain⟨A,h1,h2,O,h4⟩:=V.get;have C:=hr w M;have g8:ze.cells.size=K.sz:=by rw[←Array.length_toList,k,K.len]
 have b:=kBB (P:=P) (w:=w.drew) (C.keep fun o h=>h) zs.length (qU _) zs.length cB;rw[←O,List.take_length] at b;have p:=Lib.run_append_grow_zeros w t tn ty e A ze F G U u h1 h2 B zs.length cB (flat K zs) b m l (by rw[O];exact K.pos) i (by omega) (by grind) (by grind);have r:=grownCap_ge w (zs.length+m) cB e;have D:=grownCap_le_maxLen w (zs.length+m) cB e (by grind [maxLen]);refine OV.run (hg a s) (v:= .slice (some ⟨w.heap.size,0,none⟩) (zs.length+m) (grownCap w (zs.length+m) cB e)) ?_ (kk _ _ r _ _ (s.put _ hN) ((M.drew.alloc (w':=w.drew.alloc (.cells ((flat K zs).toArray++Builtin.zeroCells ze.cells m++Builtin.zeroCells ze.cells (grownCap w (zs.length+m) cB e-(zs.length+m))) e)) rfl rfl rfl rfl).last fun J hJ=>?_))
 ·simp only[execOp,resolve,invoke,builtin,Sem.run_bind,Sem.run_pure,Result.andThen_ok,List.map_toArray,List.map_cons,List.map_nil,s.ev W,s.ev X,p]
 ·have R:(zs++List.replicate m j).length=zs.length+m:=by simp
  have g9:=kDa (c:=m) k (qU _);have i6:(Builtin.zeroCells ze.cells m).toList=flat K (List.replicate m j):=by
   grind [kAm,Array.length_toList,size_madeCells]
  have i7:=kA6 K zs;have S:(flat K (List.replicate m j)).length=m* K.sz:=by grind [kA6]
  have T:(zs.length+m)* K.sz=zs.length* K.sz+m* K.sz:=Nat.add_mul _ _ _;have i8:(zs.length+m)* K.sz≤grownCap w (zs.length+m) cB e* K.sz:=Nat.mul_le_mul_right _ r;have j3:(Builtin.zeroCells ze.cells (grownCap w (zs.length+m) cB e-(zs.length+m))).size=grownCap w (zs.length+m) cB e* K.sz-(zs.length+m)* K.sz:=by
   grind [kAm,size_madeCells]
  refine OS.ofBlk hJ (by grind) D ?_ ?_
  ·grind
  grind [kAS,qD,List.take_of_length_le]
theorem OV.callv (ks:List Nat) {Own F:List Assn} {d:Nat} {f:FuncId} {fn:Func} {j:Operand} {caps vs:List Value} {args:List Operand} {ts:Array TypeId} {ro:Ids} {post:Value→List Assn→Prop}
 (s:ev E j=some (.func (.func f) #[] caps.toArray)) (u:P.funcs[f]?=some fn) (o:fn.body.isSome=true) (p:(fn.name== "runtime.NumGoroutine")=false) (x:evs E args=some vs) (y:kAL ks L=some (Own,F)) (h: ∀w,Hp I0 w0 L w→Fx P f (vs++caps) w Own ro post) (q: ∀b,ro b→RoOk I0 w0 F b)
 (z:Yes N ops ⟨some d,.call ⟨.value j,args.toArray,ts⟩,ty,pos,af,g⟩ E) (A:Nat.blt d N.n=true)
 (k: ∀v l,post v l→KV N KK (set E d v) (Hp I0 w0 (F++l))):OV P N ops Q ⟨some d,.call ⟨.value j,args.toArray,ts⟩,ty,pos,af,g⟩ E (Hp I0 w0 L) KK:=fun a w m t=>by
 rw[if_pos (z a m)];unfold Oper.wp;have B:fn.body.isNone=false:=by simp_all
 have i:(execOp a.eval ⟨some d,.call ⟨.value j,args.toArray,ts⟩,ty,pos,af,g⟩).run P w= .ok (.enter f (vs++caps).toArray) w:=by
  have s:=m.ev s;have G:args.toArray.map a.eval=vs.toArray:=by rw[←m.evs x];simp
  have C: ¬fn.name= "runtime.NumGoroutine":=by grind
  have D: ¬fn.body=none:=by grind
  simp_all[execOp,resolve,invoke,callFunc,Deferred.ofValue]
 rw[i];simp only[Oper.upon];refine(Calls.frame y t q (h w t)).mono ?_;rintro e H ⟨v,l,rfl,c,r⟩;exact k v l c _ _ (m.put v A) r
end
theorem kBT {P:Program} {t:TypeId} {D:TypeDesc} {b o:Nat} {ze:Value} {d by_:Nat} {w:World} (vs:List Value) (f:P.underlying t=some D) (g:aggD D=true) (h:TI P t ze d by_) (a:vs.length=d)
 (i: ∀j v,vs[j]?=some v→w.cell? ⟨b,o+j,none⟩=some v):(loadVar t ⟨b,o,none⟩).run P w= .ok (.agg vs.toArray) w:=by
 have c:(isAgg t).run P w= .ok true w:=by
  simp only[isAgg,Sem.run_bind,run_underlying f,Result.andThen_ok];cases D<;>first|rfl|(simp[aggD] at g)
 have e:=run_loadCells_list (P:=P) w ⟨b,o,none⟩ vs (fun j v k=>by
  grind [Addr.add])
 rw[a] at e;simp only[loadVar,Sem.run_bind,Sem.run_pure,Result.andThen_ok,c,if_true,h.sizeOf,e]
theorem kEo {fn:Func} {p:Tmp} {ty:TypeId} (h:fn.results= #[.cell p ty]) (tmps:Array Value) (P:Program) (w:World):
 (results fn tmps).run P w=((asAddr (tmps.getD p undef)).run P w).andThen fun a b=>((loadVar ty a).run P b).andThen fun v c=> .ok v c:=by
 simp only[results,h];simp[Sem.run_bind,Result.andThen]
 grind
section
variable {P:Program} {N:Nat} {fn:Func} {I:Ids} {L L':List Assn} {E:Env} {v v1 v2:Value} {t t1 t2:Tmp} {w:World} {post:Value→List Assn→Prop}
theorem KV.retC1 {ty:TypeId} {D:TypeDesc} {b o:Nat} {ze:Value} {f by_:Nat} (vs:List Value) (h:fn.results= #[.cell t ty]) (i:get E t=some (.pointer (some ⟨b,o,none⟩))) (n:P.underlying ty=some D) (p:aggD D=true) (q:TI P ty ze f by_) (k:vs.length=f)
 (r: ∀w',Hp I w L w'→ ∀j v,vs[j]?=some v→w'.cell? ⟨b,o+j,none⟩=some v) (c) (d: ∀w',Hp I w L w'→Hp I w c w') (l:post (.agg vs.toArray) c):
 KV ⟨N,[]⟩ (bodyPost P fn (fun e w'=> ∃v c,e= .returned v∧post v c∧Hp I w c w') .ret) E (Hp I w L):=fun a w' g m=>
 ⟨g.defers,_,by
  rw[kEo h];have s:a.tmps.getD t undef= .pointer (some ⟨b,o,none⟩):=by simp[g.slot t _ i]
  have u:(asAddr (.pointer (some ⟨b,o,none⟩))).run P w'= .ok ⟨b,o,none⟩ w':=by simp[asAddr]
  grind [Result.andThen_ok,kBT],_,c,rfl,l,d w' m⟩
theorem KV.retC2 {ty:TypeId} {D:TypeDesc} {b o:Nat} {ze:Value} {h by_:Nat} (vs:List Value) (i:fn.results= #[.cell t ty,.tmp t2]) (k:get E t=some (.pointer (some ⟨b,o,none⟩))) (f:get E t2=some v2) (p:P.underlying ty=some D) (q:aggD D=true) (r:TI P ty ze h by_) (l:vs.length=h)
 (s: ∀w',Hp I w L w'→ ∀j v,vs[j]?=some v→w'.cell? ⟨b,o+j,none⟩=some v) (c) (d: ∀w',Hp I w L w'→Hp I w c w') (m:post (.tuple #[.agg vs.toArray,v2]) c):
 KV ⟨N,[]⟩ (bodyPost P fn (fun e w'=> ∃v c,e= .returned v∧post v c∧Hp I w c w') .ret) E (Hp I w L):=fun a w' g n=>
 ⟨g.defers,_,by
  rw[results_cell_tmp i];have u:a.tmps.getD t undef= .pointer (some ⟨b,o,none⟩):=by simp[g.slot t _ k]
  have x:a.tmps.getD t2 undef=v2:=by simp[g.slot t2 _ f]
  have y:(asAddr (.pointer (some ⟨b,o,none⟩))).run P w'= .ok ⟨b,o,none⟩ w':=by simp[asAddr]
  grind [Result.andThen_ok,kBT],_,c,rfl,m,d w' n⟩
end
end Go.Sv
namespace Go.Sv
open Go.ChangeShapes Go.WideShapes Go.Deep Go.RowKit
section
variable {H:Type} {enc:TypeId×Value→H} {P:Program} {w:World} {base:Nat} {spare:Nat→Bool} {held:Bool}
theorem kLI {α:Type} {l:List α} (h:l.length=3): ∃a b c,l=[a,b,c]:=by
 match l,h with
 |[a,b,c],_=>grind
end
end Go.Sv
namespace Go.Sv
section
variable {P:Program} {N:NN} {Q:Exit→Act→World→Prop} {E:Env} {S:World→Prop}
theorem CV.join2 {α β:Type} {x y:Code} (G:α→β→Env) (T:α→β→World→Prop)
 (c:CV P N x (Exit.then (fun a w=> ∃p q,Fits N a (G p q)∧T p q w) Q) E S) (d: ∀p q,CV P N y Q (G p q) (T p q)):CV P N (.seq x y) Q E S:=
 fun a w f g=>wp_seq (wp_mono (c a w f g) fun e h i b=>by
  cases e<;>first|exact b|(obtain⟨p,q,j,k⟩:=b;exact d p q h i j k))
theorem KV.join2 {α β:Type} {G:α→β→Env} {T:α→β→World→Prop} (p:α) (q:β) (b:Sub (G p q) E) (c: ∀w,S w→T p q w):KV N (fun a w=> ∃p q,Fits N a (G p q)∧T p q w) E S:=
 fun _ w d e=>⟨p,q,d.sub b,c w e⟩
theorem CV.join3 {α β γ:Type} {x y:Code} (G:α→β→γ→Env) (T:α→β→γ→World→Prop)
 (c:CV P N x (Exit.then (fun a w=> ∃p q r,Fits N a (G p q r)∧T p q r w) Q) E S) (d: ∀p q r,CV P N y Q (G p q r) (T p q r)):CV P N (.seq x y) Q E S:=
 fun a w f g=>wp_seq (wp_mono (c a w f g) fun e h i b=>by
  cases e<;>first|exact b|(obtain⟨p,q,r,j,k⟩:=b;exact d p q r h i j k))
theorem KV.join3 {α β γ:Type} {G:α→β→γ→Env} {T:α→β→γ→World→Prop} (p:α) (q:β) (r:γ) (b:Sub (G p q r) E) (c: ∀w,S w→T p q r w):KV N (fun a w=> ∃p q r,Fits N a (G p q r)∧T p q r w) E S:=
 fun _ w d e=>⟨p,q,r,d.sub b,c w e⟩
theorem CV.join4 {α β γ δ:Type} {x y:Code} (G:α→β→γ→δ→Env) (T:α→β→γ→δ→World→Prop)
 (c:CV P N x (Exit.then (fun a w=> ∃p q r s,Fits N a (G p q r s)∧T p q r s w) Q) E S) (d: ∀p q r s,CV P N y Q (G p q r s) (T p q r s)):CV P N (.seq x y) Q E S:=
 fun a w f g=>wp_seq (wp_mono (c a w f g) fun e h i b=>by
  cases e<;>first|exact b|(obtain⟨p,q,r,s,j,k⟩:=b;exact d p q r s h i j k))
theorem KV.join4 {α β γ δ:Type} {G:α→β→γ→δ→Env} {T:α→β→γ→δ→World→Prop} (p:α) (q:β) (r:γ) (s:δ) (b:Sub (G p q r s) E) (c: ∀w,S w→T p q r s w):KV N (fun a w=> ∃p q r s,Fits N a (G p q r s)∧T p q r s w) E S:=
 fun _ w d e=>⟨p,q,r,s,d.sub b,c w e⟩
end
section
variable {P:Program} {N:NN} {Q:Exit→Act→World→Prop} {E:Env} {S:World→Prop} {ops:Array Oper}
variable {dd:Option Nat} {ty:TypeId} {pos:String} {af:Array Edge} {g:Option (Nat×Bool)} {x y z:Operand} {KK:Act→World→Prop}
variable {I0:Ids} {w0:World} {L:List Assn} {α:Type} {K:Enc α} {A B:Option Addr} {ys zs:List α} {e t:TypeId} {c:Nat}
theorem kDD {a:List Value} (b:a.take (ys.length* K.sz)=flat K ys) {l:Nat} (c:l≤ys.length):flat K (ys.take l)=a.take (l* K.sz):=by
 grind [kAS,List.take_append_drop,kA6]
theorem kFi {a:List Value} (b:a.take (ys.length* K.sz)=flat K ys) (l:Nat):flat K (ys.drop l)=(a.drop (l* K.sz)).take (ys.length* K.sz-l* K.sz):=by
 by_cases c:l≤ys.length
 ·have d:flat K ys=flat K (ys.take l)++flat K (ys.drop l):=by grind [kAS,List.take_append_drop]
  have e:(flat K (ys.take l)).length=l* K.sz:=by grind [kA6]
  have f:(flat K ys).drop (l* K.sz)=flat K (ys.drop l):=by grind
  grind [List.drop_take]
 ·have:ys.length* K.sz≤l* K.sz:=Nat.mul_le_mul_right _ (by omega)
  grind [List.drop_of_length_le,Nat.sub_eq_zero_of_le,flat]
theorem OS.over {w:World} {b:Nat} {a:Array Value} {l q:Nat} (i:ys.length≤c) (j:c≤maxLen) (k:a.size=c* K.sz) (f:a.toList.take (ys.length* K.sz)=flat K ys)
 (m:w.heap[b]?=some (.cells a e (0,0))) (n:l≤ys.length) (s:q=zs.length) (d:l+q≤c):
 (OS e K (some ⟨b,0,none⟩) c (ys.take l++zs++ys.drop (l+q))).sat (w.setRow b (a.toList.take (l* K.sz)++flat K zs++a.toList.drop (l* K.sz+(flat K zs).length)).toArray) (fun x=>x=b):=by
 have o:(flat K zs).length=q* K.sz:=by grind [kA6]
 have g:(l+q)* K.sz=l* K.sz+q* K.sz:=Nat.add_mul _ _ _;have h:(l+q)* K.sz≤c* K.sz:=Nat.mul_le_mul_right _ d;have p:a.toList.length=c* K.sz:=by grind
 have r:(ys.take l++zs++ys.drop (l+q)).length=l+q+(ys.length-(l+q)):=by
  grind
 refine .inr ⟨b,_,rfl,fun _=>Iff.rfl,setRow_heap w b a _ e (0,0) m,by grind,j,?_,?_⟩
 ·grind
 ·have t:=kDD f n;have u:=kFi f (l+q);have v:(a.toList.take (l* K.sz)).length=l* K.sz:=by grind
  have y:(l+q+(ys.length-(l+q)))* K.sz=l* K.sz+q* K.sz+(ys.length* K.sz-(l+q)* K.sz):=by
   grind [Nat.add_mul,Nat.sub_mul]
  grind [flat]
theorem kHM {a l:Nat} (h: ¬c=l):shA (some ⟨a,0,none⟩) l K.sz c=some ⟨a,l* K.sz,none⟩:=by
 grind [shA,Addr.add]
theorem kBz {w:World} {a:Nat} {cs:Array Value} {i:Ids} (h:(OS e K (some ⟨a,0,none⟩) c ys).sat w i):(∀x,x=a→i x∨w.heap.size≤x)∧Ext i w (w.setRow a cs):=by
 have b:i a:=by
  rcases h with ⟨d,_⟩|⟨k,f,d,j,_⟩
  ·cases d
  grind
 refine⟨fun x g=> .inl (g▸b),rfl,rfl,rfl,by simp_all,fun x g l=>setRow_other w a x _ ?_⟩
 grind
theorem OV.copyX (k l:Nat) {d:Nat} {ze:Value} {by_ n m cA cB:Nat} {t2:TypeId} (hu:P.underlying t=some (.slice e)) (hi:TI P e ze K.sz by_) (hk:L[k]?=some (OS e K A c ys))
 (hx:ev E x=some (.slice (shA A l K.sz c) n cA)) (hy:ev E y=some (.slice B m cB)) (hl:l≤ys.length) (hn:l+n≤c) (hm:min m n≤zs.length) (hr: ∀w,Hp I0 w0 L w→RS w K B zs)
 (hg:Yes N ops ⟨some d,.call ⟨.builtin .copy,#[x,y],#[t,t2]⟩,ty,pos,af,g⟩ E) (hN:Nat.blt d N.n=true)
 (kk:KV N KK (set E d (.int .i64 (min m n:Nat))) (Hp I0 w0 (L.set k (OS e K A c (ys.take l++zs.take (min m n)++ys.drop (l+min m n)))))):
 OV P N ops Q ⟨some d,.call ⟨.builtin .copy,#[x,y],#[t,t2]⟩,ty,pos,af,g⟩ E (Hp I0 w0 L) KK:=fun a w hf hs=>by
 obtain⟨q,hq⟩: ∃q,q=min m n:=⟨_,rfl⟩
 rw[←hq] at kk hm;have hcells:=kBB (P:=P) (hr w hs) q hm m cB;have hql:(zs.take q).length=q:=by grind
 have hqe:=hq.symm;obtain⟨i,jj,hA,_⟩:=hs.at hk;have key: ∃w',(Builtin.copy_ #[t,t2] ty #[.slice (shA A l K.sz c) n cA,.slice B m cB]).run P w= .ok (goInt q) w'∧
  ∀i,(OS e K A c ys).sat w i→ ∃i':Ids,(OS e K A c (ys.take l++zs.take q++ys.drop (l+q))).sat w' i'∧(∀x,i' x→i x∨w.heap.size≤x)∧Ext i w w':=by
  by_cases hq0:q=0
  ·refine⟨w,?_,fun i hi=>⟨i,?_,fun _ h=> .inl h,Ext.refl _ _⟩⟩
   ·subst hq0;have e0:(flat K (zs.take 0)).toArray= #[]:=by simp[flat]
    rw[e0] at hcells;cases hsh:shA A l K.sz c<;>simp[Builtin.copy_,run_underlying hu,hi.sizeOf,Builtin.lenOf,hqe,hcells,storeCells]
   ·rw[hq0];simpa using hi
  ·rcases hA with ⟨_,_,rfl,_⟩|⟨gb,cur,rfl,hI,hb,hle,hc,hsz,ht⟩
   ·grind
   ·have hmul:(l+q)* K.sz≤c* K.sz:=Nat.mul_le_mul_right _ (by omega);have hadd:(l+q)* K.sz=l* K.sz+q* K.sz:=Nat.add_mul _ _ _;have hfl:(flat K (zs.take q)).length=q* K.sz:=by grind [kA6]
    have hst:=run_storeCells_at P gb (l* K.sz) e (flat K (zs.take q)) 0 cur w hb (by grind) (kEi K _);simp only[Nat.add_zero] at hst;refine⟨_,?_,fun i hi2=>⟨_,OS.over hle hc hsz ht hb hl hql.symm (by omega),(kBz (cs:= #[]) hi2).1,(kBz hi2).2⟩⟩;rw[kHM (show ¬c=l by omega)];simp[Builtin.copy_,run_underlying hu,hi.sizeOf,Builtin.lenOf,hqe,hcells,hst]
 obtain⟨w',hrun,hup⟩:=key;refine OV.run (hg a hf) (v:=goInt q) ?_ (kk _ _ (hf.put _ hN) (hs.update hk hup));simp only[execOp,resolve,invoke,builtin,Sem.run_bind,Sem.run_pure,Result.andThen_ok,List.map_toArray,List.map_cons,List.map_nil,hf.ev hx,hf.ev hy,hrun]
theorem OV.appendIn (k:Nat) {d:Nat} {ze:Value} {by_ i m cB:Nat} (hu:P.underlying t=some (.slice e)) (hi:TI P e ze K.sz by_) (hk:L[k]?=some (OS e K A c ys))
 (hx:ev E x=some (.slice A i c)) (hy:ev E y=some (.slice B m cB)) (hil:i≤ys.length) (hm:m=zs.length) (hfit:i+m≤c) (hr: ∀w,Hp I0 w0 L w→RS w K B zs)
 (hg:Yes N ops ⟨some d,.call ⟨.builtin .append,#[x,y],#[t,t]⟩,ty,pos,af,g⟩ E) (hN:Nat.blt d N.n=true)
 (kk:KV N KK (set E d (.slice A (i+m) c)) (Hp I0 w0 (L.set k (OS e K A c (ys.take i++zs))))):
 OV P N ops Q ⟨some d,.call ⟨.builtin .append,#[x,y],#[t,t]⟩,ty,pos,af,g⟩ E (Hp I0 w0 L) KK:=fun a w hf hs=>by
 subst hm;have hcells:=kBB (P:=P) (hr w hs) zs.length (qU _) zs.length cB;rw[List.take_length] at hcells;obtain⟨i0,jj,hA,_⟩:=hs.at hk;have key: ∃w',(Builtin.append_ #[t,t] ty #[.slice A i c,.slice B zs.length cB]).run P w= .ok (.slice A (i+zs.length) c) w'∧
  ∀i0,(OS e K A c ys).sat w i0→ ∃i':Ids,(OS e K A c (ys.take i++zs)).sat w' i'∧(∀x,i' x→i0 x∨w.heap.size≤x)∧Ext i0 w w':=by
  rcases hA with ⟨rfl,rfl,rfl,_⟩|⟨gb,cur,rfl,hI,hb,hle,hc,hsz,ht⟩
  ·have hz:zs=[]:=qO (by omega);subst hz;have h0:i=0:=by omega
   subst h0;refine⟨w,?_,fun i0 hi0=>⟨i0,by grind,fun _ h=> .inl h,Ext.refl _ _⟩⟩;simp only[flat,List.flatMap_nil] at hcells;simp[Builtin.append_,run_underlying hu,hi.sizeOf,Builtin.lenOf];simp_all
  ·have hmul:(i+zs.length)* K.sz≤c* K.sz:=Nat.mul_le_mul_right _ hfit;have hadd:(i+zs.length)* K.sz=i* K.sz+zs.length* K.sz:=Nat.add_mul _ _ _;have hfl:=kA6 K zs;have hst:=run_storeCells_at P gb (i* K.sz) e (flat K zs) 0 cur w hb (by grind) (kEi K _);simp only[Nat.add_zero] at hst;have hle2:(ys.take i).length≤c:=by grind
   have ht2:cur.toList.take ((ys.take i).length* K.sz)=flat K (ys.take i):=by
    grind [kDD]
   have hov:=OS.over hle2 hc hsz ht2 hb (by grind) rfl hfit;have e1:(ys.take i).take i++zs++(ys.take i).drop (i+zs.length)=ys.take i++zs:=by
    grind [List.drop_of_length_le]
   rw[e1] at hov;refine⟨_,?_,fun i0 hi2=>⟨_,hov,(kBz (cs:= #[]) hi2).1,(kBz hi2).2⟩⟩;have e2:(Addr.mk gb 0 none).add (i* K.sz)=⟨gb,i* K.sz,none⟩:=by
    grind [Addr.add]
   simp[Builtin.append_,run_underlying hu,hi.sizeOf,Builtin.lenOf,hcells,hfit,e2,hst]
 obtain⟨w',hrun,hup⟩:=key;refine OV.run (hg a hf) ?_ (kk _ _ (hf.put _ hN) (hs.update hk hup));simp only[execOp,resolve,invoke,builtin,Sem.run_bind,Sem.run_pure,Result.andThen_ok,List.map_toArray,List.map_cons,List.map_nil,hf.ev hx,hf.ev hy,hrun]
theorem Step.sliceLH {ze:Value} {m by_ n:Nat} {k k2:IntKind} {i j:Int} (o:P.underlying t=some (.slice e)) (p:TI P e ze m by_) (q:ev E x=some (.slice A n c)) (r:ev E y=some (.int k i)) (s:ev E z=some (.int k2 j)) (l h:Nat) (u:i=(l:Int)) (v:j=(h:Int)) (d:l≤h) (b:h≤c):
 Step P N E S ⟨dd,.slice t x (some y) (some z) none,ty,pos,af,g⟩ (.slice (shA A l m c) (h-l) (c-l)):=fun a w f _=>by
 subst u;subst v;simp[execOp,Instr.sliceAt,Instr.slice,f.ev q,f.ev r,f.ev s,run_underlying o,Instr.sliceBounds,Instr.sliceBound,asIntOf,d,b,p.sizeOf,shA]
theorem Step.slice3 {ze:Value} {p by_ n:Nat} {k k2 k3:IntKind} {i j m:Int} {u:Operand} (r:P.underlying t=some (.slice e)) (s:TI P e ze p by_) (v:ev E x=some (.slice A n c)) (B:ev E y=some (.int k i)) (C:ev E z=some (.int k2 j)) (D:ev E u=some (.int k3 m)) (l h q:Nat) (F:i=(l:Int)) (G:j=(h:Int)) (H:m=(q:Int)) (o:l≤h) (b:h≤q) (d:q≤c):
 Step P N E S ⟨dd,.slice t x (some y) (some z) (some u),ty,pos,af,g⟩ (.slice (shA A l p q) (h-l) (q-l)):=fun a w f _=>by
 subst F;subst G;subst H;simp[execOp,Instr.sliceAt,Instr.slice,f.ev v,f.ev B,f.ev C,f.ev D,run_underlying r,Instr.sliceBounds,Instr.sliceBound,asIntOf,o,b,d,s.sizeOf,shA]
theorem kDO {β:Type}: ∀ {L:List β} {k:Nat} {a:β},L[k]?=some a→L.set k a=L
 |[],_,_,_=>rfl
 |b::L,0,a,h=>by grind
 |b::L,k+1,a,h=>by simp only[List.getElem?_cons_succ] at h;simp only[List.set_cons_succ,kDO h]
theorem OV.clearTail (k l:Nat) {dst:Option Nat} {ze:Value} {by_ n cA:Nat} (hu:P.underlying t=some (.slice e)) (hi:TI P e ze K.sz by_) (hze:ze.cells.size=K.sz) (h1: ∀v∈ze.cells.toList,v.oneCell'=true) (hk:L[k]?=some (OS e K A c ys))
 (hx:ev E x=some (.slice (shA A l K.sz c) n cA)) (hl:ys.length≤l) (hn:l+n≤c)
 (hg:Yes N ops ⟨dst,.call ⟨.builtin .clear,#[x],#[t]⟩,ty,pos,af,g⟩ E)
 (kk: ∀a w,Fits N a E→Hp I0 w0 L w→KK (a.put dst (.tuple #[])) w):
 OV P N ops Q ⟨dst,.call ⟨.builtin .clear,#[x],#[t]⟩,ty,pos,af,g⟩ E (Hp I0 w0 L) KK:=fun a w hf hs=>by
 obtain⟨i0,jj,hA,_⟩:=hs.at hk;have key: ∃w',(Builtin.clear_ #[t] ty #[.slice (shA A l K.sz c) n cA]).run P w= .ok (.tuple #[]) w'∧
  ∀i0,(OS e K A c ys).sat w i0→ ∃i':Ids,(OS e K A c ys).sat w' i'∧(∀x,i' x→i0 x∨w.heap.size≤x)∧Ext i0 w w':=by
  by_cases hn0:n=0
  ·subst hn0;refine⟨w,?_,fun i0 hi0=>⟨i0,hi0,fun _ h=> .inl h,Ext.refl _ _⟩⟩;cases hsh:shA A l K.sz c<;>simp[Builtin.clear_,run_underlying hu]
  ·rcases hA with ⟨rfl,rfl,rfl,_⟩|⟨gb,cur,rfl,hI,hb,hle,hc,hsz,ht⟩
   ·grind
   ·have hmul:(l+n)* K.sz≤c* K.sz:=Nat.mul_le_mul_right _ hn;have hadd:(l+n)* K.sz=l* K.sz+n* K.sz:=Nat.add_mul _ _ _;have hmul2:ys.length* K.sz≤l* K.sz:=Nat.mul_le_mul_right _ hl;have hzl:(Builtin.zeroCells ze.cells n).toList.length=n* K.sz:=by grind [kAm,size_madeCells]
    have hz1: ∀v∈(Builtin.zeroCells ze.cells n).toList,v.oneCell'=true:=by
     grind [Builtin.zeroCells,Nat.mod_lt]
    have hst:=run_storeCells_at P gb (l* K.sz) e (Builtin.zeroCells ze.cells n).toList 0 cur w hb (by grind) hz1;simp only[Nat.add_zero] at hst;refine⟨w.setRow gb (cur.toList.take (l* K.sz)++(Builtin.zeroCells ze.cells n).toList++cur.toList.drop (l* K.sz+(Builtin.zeroCells ze.cells n).toList.length)).toArray,?_,fun i0 hi2=>⟨fun x=>x=gb,.inr ⟨gb,_,rfl,fun _=>Iff.rfl,setRow_heap w gb cur _ e (0,0) hb,hle,hc,?_,?_⟩,(kBz (cs:= #[]) hi2).1,(kBz hi2).2⟩⟩
    ·rw[kHM (show ¬c=l by omega)];cases n with
     |zero=>grind
     |succ n=>simp[Builtin.clear_,run_underlying hu,hi.zeroValue,hst]
    ·grind
    grind
 obtain⟨w',hrun,hup⟩:=key;refine OV.run (hg a hf) (w':=w') ?_ (kk _ _ hf ?_)
 ·simp only[execOp,resolve,invoke,builtin,Sem.run_bind,Sem.run_pure,Result.andThen_ok,List.map_toArray,List.map_cons,List.map_nil,hf.ev hx,hrun]
 ·have:=hs.update hk hup
  grind [kDO]
theorem Step.callX {f:FuncId} {vs:List Value} {v:Value} {args:List Operand} {ts:Array TypeId} (b:evs E args=some vs) (h: ∀w,S w→(callFunc f vs.toArray).run P w= .ok (.value v) w):
 Step P N E S ⟨dd,.call ⟨.value (.func f),args.toArray,ts⟩,ty,pos,af,g⟩ v:=fun a w c d=>by
 have e:a.eval (.func f)= .func (.func f) #[] #[]:=rfl;have i:args.toArray.map a.eval=vs.toArray:=by rw[←c.evs b];simp
 simp_all[execOp,resolve,invoke,Deferred.ofValue]
end
section
variable {P:Program} {N:NN} {E:Env} {S:World→Prop}
variable {dd:Option Nat} {ty:TypeId} {pos:String} {af:Array Edge} {g:Option (Nat×Bool)} {x y:Operand} {e t t2:TypeId} {k k':IntKind} {m n r:Int}
theorem Step.idxArr {ze:Value} {a by_ b o q:Nat} {i:Int} (c:P.underlying t=some (.array q e)) (d:TI P e ze a by_) (f:ev E x=some (.pointer (some ⟨b,o,none⟩))) (h:ev E y=some (.int k i)) (l:Nat) (j:i=(l:Int)) (m:l<q):
 Step P N E S ⟨dd,.indexAddr t x y,ty,pos,af,g⟩ (.pointer (some ⟨b,o+l* a,none⟩)):=by
 subst j;refine Step.indexAddr f h fun w=>?_;have n:0≤(l:Int)∧(l:Int)<(q:Int):=by omega
 simp only[Instr.indexAt,asIntOf,Sem.run_bind,Sem.run_pure,Result.andThen_ok,run_underlying c,n,and_self,if_true,d.sizeOf,qh,Instr.sureAddr]
 grind [Addr.add]
theorem Step.shr (a:ev E x=some (.int k m)) (b:ev E y=some (.int k' n)) (d:0≤n) (c:m.fdiv (2^min n.toNat k.bits)=r):Step P N E S ⟨dd,.binOp .shr t x y t2,ty,pos,af,g⟩ (.int k r):=
 kA9 a b rfl fun w=>by simp[binOp,Op.shift,show ¬n<0 by omega,c]
theorem Step.shl (a:ev E x=some (.int k m)) (b:ev E y=some (.int k' n)) (d:0≤n) (c:k.wrap (m* 2^min n.toNat k.bits)=r):Step P N E S ⟨dd,.binOp .shl t x y t2,ty,pos,af,g⟩ (.int k r):=
 kA9 a b rfl fun w=>by simp[binOp,Op.shift,show ¬n<0 by omega,c]
theorem Step.band (a:ev E x=some (.int k m)) (b:ev E y=some (.int k n)) (c:k.wrap ((BitVec.ofInt k.bits m&&&BitVec.ofInt k.bits n).toNat)=r):Step P N E S ⟨dd,.binOp .and t x y t2,ty,pos,af,g⟩ (.int k r):=
 kA9 a b rfl fun w=>by simp only[binOp,Op.intBits,ne_eq,not_true_eq_false,if_false];rw[c];rfl
theorem Step.bor (a:ev E x=some (.int k m)) (b:ev E y=some (.int k n)) (c:k.wrap ((BitVec.ofInt k.bits m|||BitVec.ofInt k.bits n).toNat)=r):Step P N E S ⟨dd,.binOp .or t x y t2,ty,pos,af,g⟩ (.int k r):=
 kA9 a b rfl fun w=>by simp_all[binOp,Op.intBits]
end
theorem bvN {m:Int} (h0:0≤m) (a:m≤18446744073709551615):(BitVec.ofInt 64 m).toNat=m.toNat:=by
 grind
theorem kVG {m n:Int} (h0:0≤m) (a:m≤18446744073709551615) (b:0≤n) (c:n≤18446744073709551615):IntKind.u64.wrap ((BitVec.ofInt 64 m&&&BitVec.ofInt 64 n).toNat)=((m.toNat&&&n.toNat:Nat):Int):=by
 rw[BitVec.toNat_and,bvN h0 a,bvN b c,IntKind.wrap_u64];have:m.toNat&&&n.toNat≤m.toNat:=Nat.and_le_left;omega
theorem kQA {m n:Int} (h0:0≤m) (a:m≤18446744073709551615) (b:0≤n) (c:n≤18446744073709551615):IntKind.u64.wrap ((BitVec.ofInt 64 m|||BitVec.ofInt 64 n).toNat)=((m.toNat|||n.toNat:Nat):Int):=by
 rw[BitVec.toNat_or,bvN h0 a,bvN b c,IntKind.wrap_u64];have:m.toNat|||n.toNat<2^64:=Nat.or_lt_two_pow (by omega) (by omega);omega
end Go.Sv
namespace Go.Sv
open Go.ChangeShapes Go.WideShapes Go.Deep Go.RowKit
section
variable {H:Type} {enc:TypeId×Value→H} {P:Program} {w:World} {base:Nat} {spare:Nat→Bool} {held:Bool}
end
end Go.Sv
namespace Go.Sv
abbrev Bs:=List UInt8
@[reducible] def bs (l:Bs):ByteArray:=⟨l.toArray⟩
@[reducible] def by8 (l:Bs) (m:Nat):Int:=((l.getD m 0).toNat:Int)
theorem kBC (l:Bs):(bs l).size=l.length:=by grind [ByteArray.size]
theorem kQB (l:Bs) (m:Nat):(bs l)[m]?=l[m]?:=by
 by_cases h:m<l.length
 ·have a:m<(bs l).size:=by grind [kBC]
  rw[getElem?_pos (bs l) m a,qJ h];rfl
 grind [kBC]
theorem kJ5 (l:Bs) (i j:Nat):(bs l).extract i j=bs ((l.take j).drop i):=by
 apply ByteArray.ext
 grind [ByteArray.data_extract]
theorem kJ6 (a b:Bs):bs a++bs b=bs (a++b):=by
 apply ByteArray.ext;simp_all
theorem kEp (a b:Bs):(a==b)=decide (a=b):=by
 grind
theorem kQC (a b:Bs):(bs a==bs b)=decide (a=b):=by
 show(a.toArray==b.toArray)=_
 grind
theorem kCa (a:Bs):(bs a).toList=a:=by simp_all
def strK:Enc Bs where
 f l:=[.string (bs l)]
 sz:=1
 d:=[]
 len _:=rfl
 pos:=by decide
 one r v hv:=by simp at hv;subst hv;rfl
section
variable {P:Program} {N:NN} {E:Env} {S:World→Prop}
variable {dd:Option Nat} {ty:TypeId} {pos:String} {af:Array Edge} {g:Option (Nat×Bool)} {x y z:Operand} {t t2:TypeId} {k k':IntKind} {l l2:Bs} {i j:Int}
theorem Step.lenStr (b:P.underlying t=some .string) (c:ev E x=some (.string (bs l))):
 Step P N E S ⟨dd,.call ⟨.builtin .len,#[x],#[t]⟩,ty,pos,af,g⟩ (.int .i64 l.length):=fun a w d _=>by
 simp[execOp,resolve,invoke,builtin,d.ev c,Builtin.len_,Builtin.lenOf,run_underlying b,goInt,kBC]
theorem Step.idxStr (e:P.underlying t=some .string) (a:ev E x=some (.string (bs l))) (b:ev E y=some (.int k i)) (m:Nat) (c:i=(m:Int)) (d:m<l.length):
 Step P N E S ⟨dd,.index t x y,ty,pos,af,g⟩ (.int .u8 ((l.getD m 0).toNat:Int)):=by
 subst c;refine Step.index a b fun w=>?_;simp_all[Instr.index,asIntOf,run_underlying,kQB]
theorem Step.slStrLH (d:P.underlying t=some .string) (e:ev E x=some (.string (bs l))) (f:ev E y=some (.int k i)) (h:ev E z=some (.int k' j)) (a b:Nat) (m:i=(a:Int)) (n:j=(b:Int)) (o:a≤b) (p:b≤l.length):
 Step P N E S ⟨dd,.slice t x (some y) (some z) none,ty,pos,af,g⟩ (.string (bs ((l.take b).drop a))):=fun ac w c _=>by
 subst m;subst n;simp[execOp,Instr.sliceAt,Instr.slice,c.ev e,c.ev f,c.ev h,run_underlying d,Instr.sliceBounds,Instr.sliceBound,asIntOf,kBC,kJ5,o,p]
theorem Step.slStrLo (c:P.underlying t=some .string) (d:ev E x=some (.string (bs l))) (e:ev E y=some (.int k i)) (a:Nat) (f:i=(a:Int)) (h:a≤l.length):
 Step P N E S ⟨dd,.slice t x (some y) none none,ty,pos,af,g⟩ (.string (bs (l.drop a))):=fun ac w b _=>by
 subst f;simp[execOp,Instr.sliceAt,Instr.slice,b.ev d,b.ev e,run_underlying c,Instr.sliceBounds,Instr.sliceBound,asIntOf,kBC,kJ5,h]
theorem Step.slStrHi (c:P.underlying t=some .string) (d:ev E x=some (.string (bs l))) (e:ev E z=some (.int k' j)) (b:Nat) (f:j=(b:Int)) (h:b≤l.length):
 Step P N E S ⟨dd,.slice t x none (some z) none,ty,pos,af,g⟩ (.string (bs (l.take b))):=fun ac w a _=>by
 subst f;simp[execOp,Instr.sliceAt,Instr.slice,a.ev d,a.ev e,run_underlying c,Instr.sliceBounds,Instr.sliceBound,asIntOf,kBC,kJ5,h]
theorem Step.addStr (a:ev E x=some (.string (bs l))) (b:ev E y=some (.string (bs l2))) (h:l.length+l2.length≤9223372036854775807):
 Step P N E S ⟨dd,.binOp .add t x y t2,ty,pos,af,g⟩ (.string (bs (l++l2))):=
 kA9 a b rfl fun w=>by
  have c: ¬(((bs l).size+(bs l2).size:Nat):Int)>IntKind.i64.max:=by
   rw[kBC,kBC];have:IntKind.i64.max=9223372036854775807:=rfl;omega
  grind [binOp,Op.stringOp,kJ6,Sem.run_pure]
theorem Step.eqlStr (a:ev E x=some (.string (bs l))) (b:ev E y=some (.string (bs l2))):Step P N E S ⟨dd,.binOp .eql t x y t2,ty,pos,af,g⟩ (.bool (decide (l=l2))):=
 kA9 a b rfl fun w=>by
  grind [kCa,binOp,Op.stringOp,Sem.run_pure]
theorem Step.neqStr (a:ev E x=some (.string (bs l))) (b:ev E y=some (.string (bs l2))):Step P N E S ⟨dd,.binOp .neq t x y t2,ty,pos,af,g⟩ (.bool (decide (¬l=l2))):=
 kA9 a b rfl fun w=>by
  grind [kCa,binOp,Op.stringOp,Sem.run_pure]
end
theorem kDi (x:Bs): ∀(es:List MapEntry) (m:List Bs) (i:Nat),es.map (·.key)=m.map (fun l:Bs=>Value.string (bs l))→
 Instr.findNow .string (.string (bs x)) es i=some ((m.findIdx? (fun y=>decide (x=y))).bind fun j=>(es[j]?).map fun e=>(i+j,e.val))
 |[],[],i,_=>by grind [Instr.findNow]
 |e::es,y::m,i,h=>by
  simp only[List.map_cons,List.cons.injEq] at h;have hs:Instr.sameNow .string (.string (bs x)) e.key=some (decide (x=y)):=by grind [Instr.sameNow,kQC]
  simp only[Instr.findNow,hs,List.findIdx?_cons];by_cases a:x=y
  ·grind
  ·simp only[a,decide_false,qX,if_false];rw[kDi x es m (i+1) h.2];cases b:m.findIdx? (fun y=>decide (x=y)) with
   |none=>simp
   |some j=>grind
 |[],_::_,_,h=>by grind
 |_::_,[],_,h=>by grind
theorem KeyT.string {P:Program} {kt:TypeId} (hu:P.underlying kt=some .string):KeyT P kt (fun l:Bs=>Value.string (bs l)) where
 check em x w:=by
  show(Instr.checkKey em (9999+1) kt _).run P w=_;rw[Instr.checkKey];simp_all[run_underlying]
 find x es ms h w:=by
  simp only[Instr.findKey,Sem.run_bind,run_underlying hu,Result.andThen_ok,kDi x es ms 0 h,Nat.zero_add,Sem.run_pure]
section
variable {P:Program} {N:NN} {Q:Exit→Act→World→Prop} {E:Env} {S:World→Prop} {ops:Array Oper} {KK:Act→World→Prop}
theorem OV.callP {d:Nat} {f:FuncId} {fn:Func} {vs:List Value} {v:Value} {args:List Operand} {ts:Array TypeId} {ty:TypeId} {pos:String} {af:Array Edge} {g:Option (Nat×Bool)}
 (l:P.funcs[f]?=some fn) (h:fn.body.isSome=true) (i:(fn.name== "runtime.NumGoroutine")=false) (m:evs E args=some vs) (b:FxP P f vs v) (o:Yes N ops ⟨some d,.call ⟨.value (.func f),args.toArray,ts⟩,ty,pos,af,g⟩ E) (p:Nat.blt d N.n=true)
 (k:KV N KK (set E d v) S):OV P N ops Q ⟨some d,.call ⟨.value (.func f),args.toArray,ts⟩,ty,pos,af,g⟩ E S KK:=fun a w j q=>by
 rw[if_pos (o a j)];unfold Oper.wp;have r:fn.body.isNone=false:=by simp_all
 have c:(execOp a.eval ⟨some d,.call ⟨.value (.func f),args.toArray,ts⟩,ty,pos,af,g⟩).run P w= .ok (.enter f vs.toArray) w:=by
  have u:a.eval (.func f)= .func (.func f) #[] #[]:=rfl;have x:args.toArray.map a.eval=vs.toArray:=by rw[←j.evs m];simp
  have s: ¬fn.name= "runtime.NumGoroutine":=by grind
  have t: ¬fn.body=none:=by grind
  simp_all[execOp,resolve,invoke,callFunc,Deferred.ofValue]
 rw[c];simp only[Oper.upon];refine(b w).mono ?_;rintro e y ⟨rfl,rfl⟩;exact k _ _ (j.put v p) q
end
@[reducible] def fen (ro:Option Nat):Fence:={Fence.wide with round:=ro}
section
variable {P:Program} {N:NN} {Q:Exit→Act→World→Prop} {E:Env} {S:World→Prop} {ops:Array Oper} {rest:List Oper} {ro:Option Nat} {K:Act→World→Prop}
theorem kEq {o:Oper} {a:Act} {w:World} (i: ∀c,o.op≠ .defer c) (h:Oper.wp P o a w K Q):Oper.wpIn (fen ro) 0 P o a w K Q:=by
 refine⟨fun _ _=>trivial,?_⟩;rw[show(fen ro).round=ro from rfl,Oper.semAt_eq _ _ _ i];unfold Oper.wp at h;cases j:(execOp a.eval o).run P w with
 |ok l k=>
  rw[j] at h;cases l with
  |value v=>exact h
  |skip=>exact h
  |defer d=>exact h
  |enter f b=>
   refine⟨fun g=>(by cases g),?_⟩;have m:CallsIn Fence.wide 0 P f b k _:=callsIn_wide.2 h;exact CallsIn.mono m fun e n q=>by grind
  |row row b=>
   refine⟨fun g=>(by cases g),fun c cs _=>?_⟩;obtain⟨v,p,r,s⟩:=h c cs;exact⟨v,p,r,stepsIn_wide.2 s⟩
  |_=>exact h.elim
 |halt g k=>
  rw[j] at h;cases g with
  |panic v=>exact h
  |_=>exact h.elim
abbrev LI (ro:Option Nat) (P:Program) (N:NN) (ops:Array Oper) (Q:Exit→Act→World→Prop) (rest:List Oper) (E:Env) (S:World→Prop):Prop:=KV N (wpListIn (fen ro) 0 P ops Q rest) E S
abbrev CI (ro:Option Nat) (P:Program) (N:NN) (c:Code) (Q:Exit→Act→World→Prop) (E:Env) (S:World→Prop):Prop:=KV N (c.wpIn (fen ro) 0 P Q) E S
theorem LI.op {o:Oper} (d: ∀c,o.op≠ .defer c) (h:OV P N ops Q o E S (wpListIn (fen ro) 0 P ops Q rest)):LI ro P N ops Q (o::rest) E S:=fun a w e f=>by
 have b:=h a w e f;unfold wpListIn;by_cases g:Region.wanted o (yielded ops a.tmps)=true
 ·grind [kEq]
 ·rw[if_neg g] at b ⊢;exact⟨fun _ _=>trivial,b⟩
theorem LI.nil (h:KV N (Q .normal) E S):LI ro P N ops Q [] E S:=fun a w b c=>wpListIn_nil (h a w b c)
theorem CI.region {id:Nat} {l:List Oper} (h:LI ro P N l.toArray Q l E S):CI ro P N (.region id l.toArray false) Q E S:=fun a w b c=>wpIn_region_lit (h a w b c)
theorem CI.seq {x y:Code} (h:CI ro P N x (Exit.then (y.wpIn (fen ro) 0 P Q) Q) E S):CI ro P N (.seq x y) Q E S:=fun a w b c=>wpIn_seq (h a w b c)
theorem CI.skip (h:KV N (Q .normal) E S):CI ro P N .skip Q E S:=fun a w b c=>wpIn_skip (h a w b c)
theorem CI.ret (h:KV N (Q .ret) E S):CI ro P N .ret Q E S:=fun a w b c=>wpIn_ret (h a w b c)
theorem CI.block {id:Nat} {c:Code} (h:CI ro P N c (Exit.inBlock id Q) E S):CI ro P N (.block id c) Q E S:=fun a w b d=>wpIn_block (h a w b d)
theorem CI.cond_t {c:Operand} {x y:Code} (d:ev E c=some (.bool true)) (h:CI ro P N x Q E S):CI ro P N (.cond c x y) Q E S:=fun a w b e=>wpIn_cond_true (b.ev d) (h a w b e)
theorem CI.cond_f {c:Operand} {x y:Code} (d:ev E c=some (.bool false)) (h:CI ro P N y Q E S):CI ro P N (.cond c x y) Q E S:=fun a w b e=>wpIn_cond_false (b.ev d) (h a w b e)
theorem CV.ofCI {c:Code} (h:CI none P N c Q E S):CV P N c Q E S:=fun a w b d=>wpIn_wide.1 (h a w b d)
end
section
variable {P:Program} {N:NN} {Q:Exit→Act→World→Prop} {E:Env} {ops:Array Oper} {rest:List Oper} {I0:Ids} {w0:World} {L Own F:List Assn}
theorem Hp.own {w:World} {ks:List Nat} (s:kAL ks L=some (Own,F)) (hs:Hp I0 w0 L w): ∃c:Ids,Sep Own c w∧(∀b,RoOk I0 w0 F b→ ¬c b)∧ ∀w' l,Hp c w l w'→Hp I0 w0 (F++l) w':=by
 obtain⟨I,d,n,t⟩:=hs.perm (kAg s);obtain⟨c,o,hI,u,v,h⟩:=Sep.append.1 d;refine⟨c,v,fun b y z=>?_,?_⟩
 ·rcases y with ⟨e,p⟩|⟨j,A,B,E⟩
  ·grind
  ·obtain⟨i,G,C,_,D,_⟩:=h.perm (kAN B)
   grind
 rintro w' l ⟨q,m,r,f⟩;refine⟨fun x=>o x∨q x,Sep.append.2 ⟨o,q,fun _=>Iff.rfl,fun x e p=>?_,h.keep fun x g=>r.block x (h.lt x g) fun a=>u x a g,m⟩,n.trans r fun x a=>t x ((hI x).2 (.inl a)),?_⟩
 ·rcases f x p with k|k
  ·grind
  ·have:=h.lt x e;omega
 ·rintro x (e|e)
  ·grind
  ·rcases f x e with k|k
   ·grind
   ·exact .inr (qk n.size k)
def RoundFx (P:Program) (l:Nat) (vs:List Value) (w:World) (Own:List Assn) (ro:Ids) (post:Value→List Assn→Prop):Prop:=
 ∀I:Ids,Sep Own I w→(∀b,ro b→ ¬I b)→ ∃fn tmps assign body,(Instr.yield l vs.toArray).run P w= .ok (.round l fn tmps assign body) w∧
  RoundIn Fence.wide 0 P l fn tmps assign body w (fun e w'=> ∃v L',e= .returned v∧post v L'∧Hp I w L' w')
theorem LI.yield (ks:List Nat) {d l:Nat} {x:Operand} {vs:List Value} {args:List Operand} {ts:Array TypeId} {ty:TypeId} {pos:String} {af:Array Edge} {g:Option (Nat×Bool)} {ro:Ids} {post:Value→List Assn→Prop}
 (s:ev E x=some (.func (.yield l) #[] #[])) (t:evs E args=some vs) (u:kAL ks L=some (Own,F)) (h: ∀w,Hp I0 w0 L w→RoundFx P l vs w Own ro post) (p: ∀b,ro b→RoOk I0 w0 F b)
 (y:Yes N ops ⟨some d,.call ⟨.value x,args.toArray,ts⟩,ty,pos,af,g⟩ E) (z:Nat.blt d N.n=true)
 (k: ∀v i,post v i→LI none P N ops Q rest (set E d v) (Hp I0 w0 (F++i))):LI none P N ops Q (⟨some d,.call ⟨.value x,args.toArray,ts⟩,ty,pos,af,g⟩::rest) E (Hp I0 w0 L):=fun a w o r=>by
 unfold wpListIn;rw[if_pos (y a o)];refine⟨fun _ _=>trivial,?_⟩;obtain⟨A,B,j,c⟩:=r.own u;obtain⟨fn,tmps,assign,body,I,C⟩:=h w r A B fun b D=>j b (p b D);have m:(Oper.semAt none a.eval ⟨some d,.call ⟨.value x,args.toArray,ts⟩,ty,pos,af,g⟩).run P w= .ok (.round l fn tmps assign body) w:=by
  have J:=o.ev s;have K:args.toArray.map a.eval=vs.toArray:=by rw[←o.evs t];simp
  simp_all[Oper.semAt_none,execOp,resolve,invoke,Deferred.ofValue]
 show Oper.uponIn (fen none) 0 P _ a _ Q ((Oper.semAt none a.eval _).run P w);rw[m];refine⟨fun G=>(by cases G),?_⟩;refine RoundIn.mono C ?_;rintro e H ⟨v,i,rfl,f,q⟩;exact k v i f _ _ (o.put v z) (c H i q)
def mk (D:Nat):Deferred:={target:= .collected D,args:= #[]}
theorem Hp.put {w:World} (h:Hp I0 w0 L w) {k b:Nat} {o:Obj} (c:Obj) (d:L[k]?=some (Blk b o)):Hp I0 w0 (L.set k (Blk b c)) (w.putObj b c):=by
 have e:=h.blk k d;have a:=kAW e;exact h.modify d (World.putObj_heap_same a) World.putObj_size (fun x f=>World.putObj_heap_other f) rfl rfl rfl
def recL (fn:FuncId) (tm:Array Value) (ps:Array Tmp) (assign body:Code) (D:Nat):Loop:={state:= .ready,pending:=none,fn:=fn,tmps:=tm,params:=ps,assign:=assign,body:=body,defers:=D}
theorem RoundFx.ofWalk {l:Nat} {vs:List Value} {w:World} {ro:Ids} {post:Value→List Assn→Prop} {k:Nat} {r:Loop} (g:Own[k]?=some (Blk l (.loop r))) (i:r.state= .ready) (j:vs.length=r.params.size)
 (h: ∀I,(∀b,ro b→ ¬I b)→CI (some l) P ⟨r.tmps.size,[]⟩ r.assign (Exit.then (fun a m=> ∃d,(Instr.beginRound l).run P m= .ok () d∧r.body.wpIn (fen (some l)) 0 P (roundPost P l (fun e w'=> ∃v f,e= .returned v∧post v f∧Hp I w f w')) a d) (fun _ _ _=>False)) E (Hp I w Own))
 (n:Fits ⟨r.tmps.size,[]⟩ {tmps:=((r.params.zip vs.toArray).foldl (fun tmps (t,a)=>tmps.setIfInBounds t a) r.tmps),defers:=[]} E):RoundFx P l vs w Own ro post:=fun I hI c=>by
 have o:=(Hp.start hI).blk k g;exact⟨_,_,_,_,run_yield o (by grind),roundIn_of_wpIn trivial (h I c _ w n (Hp.start hI))⟩
theorem KV.begin {I:Ids} {w:World} {l k:Nat} {r:Loop} {body:Code} {R:Ending→World→Prop} (c:L[k]?=some (Blk l (.loop r))) (b:r.state= .ready) (h:CI (some l) P N body (roundPost P l R) E (Hp I w (L.set k (Blk l (.loop {r with state:= .busy}))))):
 KV N (fun a d=> ∃e,(Instr.beginRound l).run P d= .ok () e∧body.wpIn (fen (some l)) 0 P (roundPost P l R) a e) E (Hp I w L):=fun a d g f=>
 ⟨_,run_beginRound (f.blk k c) b,h a _ g (f.put _ c)⟩
theorem KV.round_n {I:Ids} {w:World} {l k:Nat} {r:Loop} {post:Value→List Assn→Prop} (d:L[k]?=some (Blk l (.loop r))) (b:List Assn) (c: ∀w',Hp I w (L.set k (Blk l (.loop {r with state:= .ready,pending:=none}))) w'→Hp I w b w') (g:post (.bool true) b):
 KV N (roundPost P l (fun e w'=> ∃v b,e= .returned v∧post v b∧Hp I w b w') .normal) E (Hp I w L):=fun a h i f=>
 ⟨_,_,run_endRound none (f.blk k d),_,b,rfl,g,c _ (f.put _ d)⟩
theorem KV.round_ret {I:Ids} {w:World} {l k:Nat} {r:Loop} {post:Value→List Assn→Prop} (d:L[k]?=some (Blk l (.loop r))) (b:List Assn) (c: ∀w',Hp I w (L.set k (Blk l (.loop {r with state:= .done,pending:=some .ret}))) w'→Hp I w b w') (g:post (.bool false) b):
 KV N (roundPost P l (fun e w'=> ∃v b,e= .returned v∧post v b∧Hp I w b w') .ret) E (Hp I w L):=fun a h i f=>
 ⟨_,_,run_endRound (some .ret) (f.blk k d),_,b,rfl,g,c _ (f.put _ d)⟩
end
section
variable {P:Program} {f:FuncId} {vs:List Value} {w:World} {Own:List Assn} {ro:Ids} {post:Value→List Assn→Prop}
theorem Fx.bodyM {fn:Func} {c:Code} {N:Nat} (g:P.funcs[f]?=some fn) (i:fn.body=some c) (k:fn.ntmps=N) (l:Nat.ble vs.length N=true)
 (h: ∀I:Ids,(∀b,ro b→ ¬I b)→Sep Own I w→CV P ⟨N,[]⟩ c (bodyPostM Fence.wide 0 P fn (fun e w'=> ∃v d,e= .returned v∧post v d∧Hp I w d w')) (params 0 vs) (Hp I w Own)):Fx P f vs w Own ro post:=by
 intro I hI a;refine(callsIn_wide).1 (callsIn_of_wp_marks g i trivial ((wpIn_wide).2 (h I a hI _ _ ⟨rfl,?_,fun t v j=>?_⟩ (Hp.start hI))))
 ·simp_all
 ·obtain⟨_,m⟩:=kAw vs 0 t v j
  grind
end
theorem kEr {fn:Func} {t1 t2 t3:Tmp} (h:fn.results= #[.tmp t1,.tmp t2,.tmp t3]) (tmps:Array Value) (P:Program) (w:World):
 (results fn tmps).run P w= .ok (.tuple #[tmps.getD t1 undef,tmps.getD t2 undef,tmps.getD t3 undef]) w:=by
 simp_all[results]
section
variable {P:Program} {N:Nat} {fn:Func} {I:Ids} {L L':List Assn} {E:Env} {v u v1 v2 v3:Value} {t t1 t2 t3:Tmp} {w:World} {post:Value→List Assn→Prop}
theorem KV.ret3 (f:fn.results= #[.tmp t1,.tmp t2,.tmp t3]) (g:get E t1=some v1) (h:get E t2=some v2) (i:get E t3=some v3) (b) (c: ∀w',Hp I w L w'→Hp I w b w') (j:post (.tuple #[v1,v2,v3]) b):
 KV ⟨N,[]⟩ (bodyPost P fn (fun e w'=> ∃v b,e= .returned v∧post v b∧Hp I w b w') .ret) E (Hp I w L):=fun a w' d k=>
 ⟨d.defers,.tuple #[v1,v2,v3],by rw[kEr f];simp[d.slot t1 v1 g,d.slot t2 v2 h,d.slot t3 v3 i],_,b,rfl,j,c w' k⟩
end
theorem kDP (c:UInt8): ∀l:Bs,(Lib.indexByte l c= -1∧ ∀x∈l,x≠c)∨ ∃p r:Bs,l=p++c::r∧Lib.indexByte l c=(p.length:Int)∧ ∀x∈p,x≠c
 |[]=> .inl ⟨rfl,fun x a=>by cases a⟩
 |b::l=>by
  rw[Lib.indexByte];by_cases d:b=c
  ·subst d;exact .inr ⟨[],l,rfl,by simp,fun x a=>by cases a⟩
  ·have e:=beq_eq_false_iff_ne.2 d;rcases kDP c l with ⟨f,g⟩|⟨p,r,rfl,f,g⟩
   ·grind
   grind
theorem kO4 (c:UInt8):((c.toNat:Int)).toNat.toUInt8=c:=by simp
theorem kD2 {fn:Func} {p:Tmp} {ty:TypeId} {t2 t3:Tmp} (h:fn.results= #[.cell p ty,.tmp t2,.tmp t3]) (tmps:Array Value) (P:Program) (w:World):
 (results fn tmps).run P w=((asAddr (tmps.getD p undef)).run P w).andThen fun a b=>((loadVar ty a).run P b).andThen fun v c=> .ok (.tuple #[v,tmps.getD t2 undef,tmps.getD t3 undef]) c:=by
 simp_all[results]
section
variable {P:Program} {N:Nat} {fn:Func} {I:Ids} {L L':List Assn} {E:Env} {v v1 v2 v3:Value} {t t1 t2 t3:Tmp} {w:World} {post:Value→List Assn→Prop}
theorem KV.retC3 {ty:TypeId} {D:TypeDesc} {b o:Nat} {ze:Value} {i by_:Nat} (vs:List Value) (k:fn.results= #[.cell t ty,.tmp t2,.tmp t3]) (l:get E t=some (.pointer (some ⟨b,o,none⟩))) (g:get E t2=some v2) (h:get E t3=some v3) (q:P.underlying ty=some D) (r:aggD D=true) (s:TI P ty ze i by_) (m:vs.length=i)
 (u: ∀w',Hp I w L w'→ ∀j v,vs[j]?=some v→w'.cell? ⟨b,o+j,none⟩=some v) (c) (d: ∀w',Hp I w L w'→Hp I w c w') (n:post (.tuple #[.agg vs.toArray,v2,v3]) c):
 KV ⟨N,[]⟩ (bodyPost P fn (fun e w'=> ∃v c,e= .returned v∧post v c∧Hp I w c w') .ret) E (Hp I w L):=fun a w' f p=>
 ⟨f.defers,_,by
  rw[kD2 k];have x:a.tmps.getD t undef= .pointer (some ⟨b,o,none⟩):=by simp[f.slot t _ l]
  have y:a.tmps.getD t2 undef=v2:=by simp[f.slot t2 _ g]
  have z:a.tmps.getD t3 undef=v3:=by simp[f.slot t3 _ h]
  have A:(asAddr (.pointer (some ⟨b,o,none⟩))).run P w'= .ok ⟨b,o,none⟩ w':=by simp[asAddr]
  grind [Result.andThen_ok,kBT],_,c,rfl,n,d w' p⟩
end
theorem kFj {P:Program} {t:TypeId} {D:TypeDesc} {p:Addr} {v:Value} {w:World} (a:P.underlying t=some D) (b:aggD D=false) (d:w.cell? p=some v):(loadVar t p).run P w= .ok v w:=by
 have c:(isAgg t).run P w= .ok false w:=by
  simp only[isAgg,Sem.run_bind,run_underlying a,Result.andThen_ok];cases D<;>first|rfl|(simp[aggD] at b)
 grind [Go.load,Sem.run,loadVar,Sem.run_bind,Result.andThen_ok]
theorem kEs {fn:Func} {p c:Tmp} {ty b:TypeId} (h:fn.results= #[.cell p ty,.cell c b]) {tmps:Array Value} {P:Program} {w:World} {a d:Addr} {v v2:Value}
 (e:tmps.getD p undef= .pointer (some a)) (f:tmps.getD c undef= .pointer (some d)) (g:(loadVar ty a).run P w= .ok v w) (i:(loadVar b d).run P w= .ok v2 w):(results fn tmps).run P w= .ok (.tuple #[v,v2]) w:=by
 simp_all[asAddr,results]
section
variable {P:Program} {N:Nat} {fn:Func} {I:Ids} {L L':List Assn} {E:Env} {v v1 v2:Value} {t t1 t2:Tmp} {w:World} {post:Value→List Assn→Prop}
theorem KV.retM2 {D:Nat} {ty f:TypeId} {T r:TypeDesc} {b o b2 s:Nat} {ze:Value} {u by_:Nat} (vs:List Value) (k:Nat) (z:fn.results= #[.cell t ty,.cell t2 f]) (A:get E t=some (.pointer (some ⟨b,o,none⟩))) (i:get E t2=some (.pointer (some ⟨b2,s,none⟩))) (B:P.underlying ty=some T) (C:aggD T=true) (F:TI P ty ze u by_) (l:vs.length=u)
 (m:P.underlying f=some r) (n:aggD r=false) (x:L[k]?=some (Blk D (.deferred (some []))))
 (G: ∀w',Hp I w (L.set k (Blk D (.deferred none))) w'→ ∀j v,vs[j]?=some v→w'.cell? ⟨b,o+j,none⟩=some v) (p: ∀w',Hp I w (L.set k (Blk D (.deferred none))) w'→w'.cell? ⟨b2,s,none⟩=some v2)
 (d) (g: ∀w',Hp I w (L.set k (Blk D (.deferred none))) w'→Hp I w d w') (H:post (.tuple #[.agg vs.toArray,v2]) d):
 KV ⟨N,[mk D]⟩ (bodyPostM Fence.wide 0 P fn (fun e w'=> ∃v d,e= .returned v∧post v d∧Hp I w d w') .ret) E (Hp I w L):=fun a w' q y=>by
 have c:=y.put (.deferred none) x;show LeavesInM Fence.wide 0 P fn a.tmps _ a.defers .returning w';rw[q.defers];refine⟨(fun h=>by cases h),.inl ⟨D,_,rfl,run_takeDeferred (y.blk k x),?_⟩⟩;refine⟨.tuple #[.agg vs.toArray,v2],?_,_,d,rfl,H,g _ c⟩;exact kEs z (by simp[q.slot t _ A]) (by simp[q.slot t2 _ i]) (kBT vs B C F l (G _ c)) (kFj m n (p _ c))
end
def Bun (M:List Assn):Assn where
 sat w I:=Sep M I w
 lt h x hx:=h.lt x hx
 keep h hk:=h.keep hk
section
variable {I0:Ids} {w0 w:World} {L M R:List Assn} {k:Nat}
theorem Hp.bun (h:Hp I0 w0 (M++R) w):Hp I0 w0 (Bun M::R) w:=h.bundle fun _ a=>a
theorem Hp.unbun (h:Hp I0 w0 (Bun M::R) w):Hp I0 w0 (M++R) w:=h.splice (k:=0) rfl fun _ a=>a
theorem kDj: ∀(O F:List Assn),kAL (List.replicate O.length 0) (O++F)=some (O,F)
 |[],F=>rfl
 |A::O,F=>by
  show kAL (0::List.replicate O.length 0) (A::(O++F))=_;simp[kAL,kDj O F]
end
section
variable {P:Program} {l:Nat} {vs:List Value} {w:World} {ro:Ids} {post post':Value→List Assn→Prop} {M:List Assn}
theorem Sep.ofBun {I:Ids} (h:Sep [Bun M] I w):Sep M I w:=by
 obtain⟨i,j,b,f,c,d⟩:=h;exact Sep.ext c fun x=>⟨fun a=>(b x).2 (.inl a),fun a=>((b x).1 a).elim id fun e=>absurd e (d x)⟩
theorem RoundFx.bun (h:RoundFx P l vs w M ro post') (c: ∀v a,post' v a→post v [Bun a]):RoundFx P l vs w [Bun M] ro post:=fun I hI b=>by
 obtain⟨fn,tmps,assign,body,d,f⟩:=h I (Sep.ofBun hI) b;refine⟨fn,tmps,assign,body,d,RoundIn.mono f ?_⟩;rintro e g ⟨v,a,rfl,i,j⟩;exact⟨v,_,rfl,c v a i,(show Hp I w (a++[]) g by rw[qK];exact j).bun⟩
theorem RoundFx.ofWalkN {E:Env} {Own:List Assn} {k n:Nat} {r:Loop} (j:r.tmps.size=n) (m:Own[k]?=some (Blk l (.loop r))) (f:r.state= .ready) (g:vs.length=r.params.size)
 (h: ∀I,(∀b,ro b→ ¬I b)→CI (some l) P ⟨n,[]⟩ r.assign (Exit.then (fun a i=> ∃c,(Instr.beginRound l).run P i= .ok () c∧r.body.wpIn (fen (some l)) 0 P (roundPost P l (fun e w'=> ∃v d,e= .returned v∧post v d∧Hp I w d w')) a c) (fun _ _ _=>False)) E (Hp I w Own))
 (o:Fits ⟨n,[]⟩ {tmps:=((r.params.zip vs.toArray).foldl (fun tmps (t,a)=>tmps.setIfInBounds t a) r.tmps),defers:=[]} E):RoundFx P l vs w Own ro post:=by
 grind [RoundFx.ofWalk]
end
section
variable {P:Program} {N:NN} {Q:Exit→Act→World→Prop} {E:Env} {I0:Ids} {w0:World} {L:List Assn}
theorem CV.rangeFuncB (ro:Ids) {H:Nat} {ps:Array Tmp} {assign body:Code} {f:FuncId} {c:Func} {caps:List Value} (W:get E H=some (.func (.func f) #[] caps.toArray))
 (X:P.funcs[f]?=some c) (I:c.body.isSome=true) (J:(c.name== "runtime.NumGoroutine")=false)
 (q: ∀(fn D l:Nat) (tm:Array Value) (rc:Loop),rc=recL fn tm ps assign body D→Fits ⟨N.n,[]⟩ {tmps:=tm,defers:=[]} E→ ∃Own F post,
  (∀w,Hp I0 w0 (L++[Blk D (.deferred (some [])),Blk l (.loop rc)]) w→Hp I0 w0 (Own++F) w)∧
  (∀b,ro b→RoOk I0 w0 F b)∧(∀w,Hp I0 w0 (Own++F) w→Fx P f (.func (.yield l) #[] #[]::caps) w Own ro post)∧
  ∀v C,post v C→ ∃r s k,(∀w,Hp I0 w0 (F++C) w→Hp I0 w0 s w)∧s[k]?=some (Blk l (.loop r))∧r.state≠ .busy∧
   ((r.pending=none∧KV ⟨N.n,mk D::N.D⟩ (Q .normal) E (Hp I0 w0 (s.set k (Blk l (.loop {r with state:= .exhausted})))))∨
    (r.pending=some .ret∧KV ⟨N.n,mk D::N.D⟩ (Q .ret) E (Hp I0 w0 (s.set k (Blk l (.loop {r with state:= .exhausted}))))))):
 CV P N (.rangeFunc (.tmp H) ps assign body) Q E (Hp I0 w0 L):=fun a w p Y=>by
 refine(wpIn_wide (n:=0)).1 (wpIn_rangeFunc fun fn _=>?_);have t:Fits ⟨N.n,[]⟩ {tmps:=a.tmps,defers:=[]} E:=⟨rfl,p.size,p.slot⟩
 have Z:c.body.isNone=false:=by simp_all
 have g6: ¬c.name= "runtime.NumGoroutine":=by grind
 have g7: ¬c.body=none:=by grind
 obtain⟨Own,F,post,u,K,h,y⟩:=q fn w.heap.size (w.heap.size+1) a.tmps _ rfl t;have M:Hp I0 w0 (L++[Blk w.heap.size (.deferred (some []))]) (w.alloc (.deferred (some []))):=Y.alloc rfl rfl rfl rfl;have O:Hp I0 w0 (L++[Blk w.heap.size (.deferred (some [])),Blk (w.heap.size+1) (.loop (recL fn a.tmps ps assign body w.heap.size))]) ((w.alloc (.deferred (some []))).alloc (.loop (recL fn a.tmps ps assign body w.heap.size))):=by
  have:=M.alloc (w':=(w.alloc (.deferred (some []))).alloc (.loop (recL fn a.tmps ps assign body w.heap.size))) rfl rfl rfl rfl;simp_all
 have z:=u _ O;have g8:=p.ev (x:= .tmp H) W;refine⟨w.heap.size+1,[mk w.heap.size],((w.alloc (.deferred (some []))).alloc (.loop (recL fn a.tmps ps assign body w.heap.size))),⟨.fn (.func f) caps.toArray,#[.func (.yield (w.heap.size+1)) #[] #[]]⟩,((w.alloc (.deferred (some []))).alloc (.loop (recL fn a.tmps ps assign body w.heap.size))),f,(.func (.yield (w.heap.size+1)) #[] #[]::caps).toArray,((w.alloc (.deferred (some []))).alloc (.loop (recL fn a.tmps ps assign body w.heap.size))),run_enterLoop_outer fn a.tmps ps assign body,?_,fun _ _=>trivial,?_,fun hh=>(by cases hh),callsIn_wide.2 ?_⟩
 ·have hc:a.eval (.const (.func (.yield (w.heap.size+1)) #[] #[]))= .func (.yield (w.heap.size+1)) #[] #[]:=rfl;simp_all[resolve,Deferred.ofValue]
 ·simp_all[invoke,callFunc]
 ·refine(Calls.frame (kDj Own F) z K (h _ z)).mono ?_;rintro e G ⟨v,C,rfl,i,R⟩;obtain⟨r,s,k,m,U,A,o⟩:=y v C i;have d:=m _ R;have V:=d.blk k U;have g:=d.put (Obj.loop {r with state:= .exhausted}) U;have B:Fits ⟨N.n,mk w.heap.size::N.D⟩ {a with defers:=[mk w.heap.size]++a.defers} E:=⟨by show[mk w.heap.size]++a.defers=_;rw[p.defers];rfl,p.size,p.slot⟩
  rcases o with ⟨S,T⟩|⟨S,T⟩
  ·exact⟨none,G.putObj (w.heap.size+1) (Obj.loop {r with state:= .exhausted}),(run_endLoop V A).trans (congrArg (fun j=>Result.ok j (G.putObj (w.heap.size+1) (Obj.loop {r with state:= .exhausted}))) S),T _ _ B g⟩
  ·exact⟨some .ret,G.putObj (w.heap.size+1) (Obj.loop {r with state:= .exhausted}),(run_endLoop V A).trans (congrArg (fun j=>Result.ok j (G.putObj (w.heap.size+1) (Obj.loop {r with state:= .exhausted}))) S),wpIn_ret (T _ _ B g)⟩
end
theorem Fits.one {n d:Nat} {tm:Array Value} {E:Env} (v:Value) (h:Fits ⟨n,[]⟩ {tmps:=tm,defers:=[]} E) (b:Nat.blt d n=true):Fits ⟨n,[]⟩ {tmps:=((#[d].zip [v].toArray).foldl (fun tmps (t,a)=>tmps.setIfInBounds t a) tm),defers:=[]} (set E d v):=by
 have:=h.put v b;simp_all[Act.put]
end Go.Sv
namespace Go.Sv
open Go.ChangeShapes Go.WideShapes Go.Deep Go.RowKit
theorem Fx.topR {P:Program} {f:FuncId} {vs:List Value} {w:World} {L:List Assn} {ro:Ids} (h:Fx P f vs w [] ro (fun v c=>v= .bool true∧c=L)):
 Calls P f vs.toArray w (fun e w'=>e= .returned (.bool true)∧Below w.heap.size w w'):=by
 refine(h (fun _=>False) (fun _ h=>h) (fun _ _ h=>h)).mono ?_;rintro e w' ⟨v,c,rfl,⟨rfl,_⟩,_,_,a,_⟩;exact⟨rfl,a.os,a.tape,a.output,a.size,fun x b=>a.block x b (fun h=>h)⟩
section
variable {H:Type} {enc:TypeId×Value→H} {P:Program} {w:World} {base:Nat} {spare:Nat→Bool} {held:Bool}
theorem kJ7 {α:Type} (K:Enc α) (G:α→Prop) {t e:TypeId} {b:Nat} {cs:List Value} {x:DataW H×List MemPlace} (k:P.underlying t=some (.slice e)) (l:P.cellsOf e=K.sz)
 (g: ∀n cs' y,DataW.trod enc P w base spare held n e cs'=some y→ ∃a:α,cs'=K.f a∧G a) (h:DataW.trod enc P w base spare held b t cs=some x):
 ∃(A:Option Addr) (n c:Nat) (ys:List α),cs=[.slice A n c]∧ys.length=n∧RS w K A ys∧ ∀i,i<n→G (ys.getD i K.d):=by
 rcases open_slice k h with ⟨o,_⟩|⟨a,len,cap,m,n,D,C,p,E,F,I,q,J,r⟩
 ·exact⟨none,0,0,[],o,rfl,.inl rfl,fun _ h=>absurd h (Nat.not_lt_zero _)⟩
 ·have s:len≤m:=by grind
  obtain⟨ys,L,M,N⟩:=RS.ofCells K G (w:=w) (a:=a) (len:=len) fun i u=>by
   obtain⟨cs',v,j⟩:=r i (by omega);obtain⟨y,O,Q⟩:=g _ _ _ j;obtain⟨_,z,B⟩:=World.cells?_some v
   grind [Go.Deep.add_add]
  grind
end
end Go.Sv
namespace Go.Sv
open Go
def bl (n m:Nat):Array Bool:=((List.range n).map fun i=>m.testBit i).toArray
section
variable {P:Program} {N:NN} {E:Env} {S S0:World→Prop} {ops:Array Oper} {Q:Exit→Act→World→Prop} {rest:List Oper} {KK:Act→World→Prop} {T:Act→World→Prop}
variable {d:Nat} {ty:TypeId} {pos:String} {af:Array Edge} {g:Option (Nat×Bool)} {x:Operand} {v:Value} {op:Op}
end
end Go.Sv
namespace Go.Sv
section
variable {N:NN} {K:Act→World→Prop} {E:Env} {S:World→Prop}
end
end Go.Sv
namespace Go.Sv
open Go
section
variable {P:Program} {N:NN} {E:Env} {I0:Ids} {w0:World} {L:List Assn} {ops:Array Oper} {Q:Exit→Act→World→Prop} {KK:Act→World→Prop}
variable {e:TypeId} {A:Option Addr} {c:Nat} {l l2:Bs} {x y:Operand} {d:Nat} {ty:TypeId} {pos:String} {af:Array Edge} {g:Option (Nat×Bool)}
end
end Go.Sv
namespace Go.Sv
section
variable {P:Program} {ops:Array Oper} {Q:Exit→Act→World→Prop} {md:Region.Mode} {S:World→Prop} {c:Nat}
def kAh (P:Program) (md:Region.Mode) (ops:Array Oper) (Q:Exit→Act→World→Prop) (S:World→Prop) (c:Nat):Nat→Array Bool→Act→World→Prop
 |0,listed,a,w=>Region.ready md ops listed=[]∧Q .normal a w
 |fuel+1,listed,a,w=>(Region.ready md ops listed=[]→Q .normal a w)∧
  ∀i∈Region.ready md ops listed,wpOp P ops Q i (fun a' w'=>((listed.setIfInBounds i true).getD c false=true∨S w')∧kAh P md ops Q S c fuel (listed.setIfInBounds i true) a' w') a w
theorem kEY: ∀(b:Nat) (listed:Array Bool) (a:Act) (w:World),kAh P md ops Q S c b listed a w→wpAny P md ops Q b listed a w
 |0,_,_,_,h=>h
 |b+1,_,_,_,h=>⟨h.1,fun i d=>wpOp_mono (fun e w' h'=>kEY b _ e w' h'.2) (h.2 i d)⟩
def Down (ops:Array Oper) (md:Region.Mode) (listed:Array Bool):Prop:= ∀k o,ops[k]?=some o→listed.getD k false=true→ ∀e∈o.after,Region.binds md e=true→listed.getD e.on false=true
theorem Down.next {listed:Array Bool} {j:Nat} (h:Down ops md listed) (d:j∈Region.ready md ops listed):Down ops md (listed.setIfInBounds j true):=fun k o f a e g i=>by
 obtain⟨b,n,l,c⟩:=mem_ready.1 d;by_cases m:j=k
 ·grind [getD_set_true]
 ·rw[getD_set_ne false m] at a;exact getD_set_true (h k o f a e g i)
inductive Waits (ops:Array Oper) (md:Region.Mode) (i:Nat):Nat→Prop
 |one {x:Nat} {o:Oper} {e:Edge}:ops[x]?=some o→e∈o.after→Region.binds md e=true→e.on=i→Waits ops md i x
 |more {x:Nat} {o:Oper} {e:Edge}:ops[x]?=some o→e∈o.after→Region.binds md e=true→Waits ops md i e.on→Waits ops md i x
theorem Waits.listed {listed:Array Bool} {i x:Nat} (h:Waits ops md i x) (d:Down ops md listed) (e:listed.getD x false=true):listed.getD i false=true:=by
 induction h with
 |one a b c f=>rw[←f];exact d _ _ a e _ b c
 |more a b c _ g=>exact g (d _ _ a e _ b c)
theorem Waits.not_ready {listed:Array Bool} {i x:Nat} (h:Waits ops md i x) (f:Down ops md listed) (g:x∈Region.ready md ops listed):listed.getD i false=true:=by
 obtain⟨_,k,b,a⟩:=mem_ready.1 g;cases h with
 |one c d e l=>
  grind
 |more c d e j=>
  obtain rfl:=qY (c.symm.trans b);exact j.listed f (a _ d e)
theorem kGq {i:Nat} {oi:Oper} {v:Value} (hi:ops[i]?=some oi) (hne:c≠i) (hsel: ∀(j:Nat) (o:Oper) cs b,ops[j]?=some o→o.op≠ .select cs b)
 (hQ: ∀c a w,Q (.panic c) (a.put oi.dst v) w→Q (.panic c) a w):
 ∀(fuel:Nat) (listed:Array Bool) (a:Act) (w:World),
  (∀j oj,ops[j]?=some oj→j≠i→listed.getD j true=false→(∀e∈oj.after,Region.binds md e=true→e.on≠i)→oi.apart ops oj=true)→
  i∈Region.ready md ops listed→YieldsIf P ops (fun _=>True) oi v a→(listed.getD c false=true∨S w)→
  kAh P md ops Q S c fuel (listed.setIfInBounds i true) (a.put oi.dst v) w→kAh P md ops Q S c (fuel+1) listed a w:=by
 intro fuel
 induction fuel with
 |zero=>
  intro listed a w _ hr hy hS H;refine⟨fun h=>(by grind),fun j hj=>?_⟩;by_cases hji:j=i
  ·subst hji;exact hy.wpOp hi trivial ⟨by rw[getD_set_ne false (Ne.symm hne)];exact hS,H⟩
  ·have:=ready_mono hj hji;rw[H.1] at this
   grind
 |succ fuel ih=>
  intro listed a w hfree hr hy hS H;refine⟨fun h=>(by grind),fun j hj=>?_⟩;by_cases hji:j=i
  ·subst hji;exact hy.wpOp hi trivial ⟨by rw[getD_set_ne false (Ne.symm hne)];exact hS,H⟩
  ·have h1:=H.2 j (ready_mono hj hji);obtain⟨hjun,oj,hoj,hall⟩:=mem_ready.1 hj;have hnot: ∀e∈oj.after,Region.binds md e=true→e.on≠i:=fun e he hb heq=>by
    grind [mem_ready]
   have h2:=wpOp_putIf hoj (hfree j oj hoj hji hjun hnot) (fun cs b=>hsel i oi cs b hi) (fun cs b=>hsel j oj cs b hoj) hQ hy h1;have hfree': ∀k ok,ops[k]?=some ok→k≠i→(listed.setIfInBounds j true).getD k true=false→
    (∀e∈ok.after,Region.binds md e=true→e.on≠i)→oi.apart ops ok=true:=fun k ok hk hki hun hno=>by
    refine hfree k ok hk hki ?_ hno;by_cases hjk:j=k
    ·grind
    simp_all
   have hl2:((listed.setIfInBounds i true).setIfInBounds j true).getD c false=(listed.setIfInBounds j true).getD c false:=by
    rw[Array.setIfInBounds_comm _ _ (Ne.symm hji),getD_set_ne false (Ne.symm hne)]
   grind [wpOp_mono,ready_mono,Array.setIfInBounds_comm]
theorem kBx {i:Nat} {n:Oper} {v:Value} (z:ops[i]?=some n) (A:Waits ops md i c) (B:c≠i) (m: ∀(j:Nat) (o:Oper) cs b,ops[j]?=some o→o.op≠ .select cs b)
 (M: ∀c a w,Q (.panic c) (a.put n.dst v) w→Q (.panic c) a w):
 ∀(d:Nat) (listed:Array Bool) (a:Act) (w:World),
  (∀j p,ops[j]?=some p→j≠i→listed.getD j true=false→(∀e∈p.after,Region.binds md e=true→e.on≠i)→n.apart ops p=true)→
  i∈Region.ready md ops listed→Down ops md listed→listed.getD c false=false→YieldsIf P ops S n v a→S w→
  kAh P md ops Q S c d (listed.setIfInBounds i true) (a.put n.dst v) w→kAh P md ops Q S c (d+1) listed a w:=by
 intro d
 induction d with
 |zero=>
  intro listed a w _ J C D y s H;refine⟨fun h=>(by grind),fun j r=>?_⟩;by_cases f:j=i
  ·subst f;exact y.wpOp z s ⟨.inr s,H⟩
  ·have:=ready_mono r f;rw[H.1] at this
   grind
 |succ d N=>
  intro listed a w g J C D y s H;refine⟨fun h=>(by grind),fun j r=>?_⟩;by_cases f:j=i
  ·subst f;exact y.wpOp z s ⟨.inr s,H⟩
  ·have O:=H.2 j (ready_mono r f);obtain⟨t,p,q,K⟩:=mem_ready.1 r;have u: ∀e∈p.after,Region.binds md e=true→e.on≠i:=fun e he hb R=>by
    grind [mem_ready]
   have E:j≠c:=fun e=>by
    subst e;have h4:=A.not_ready C r
    grind [mem_ready]
   have T:=wpOp_putIf q (g j p q f t u) (fun cs b=>m i n cs b z) (fun cs b=>m j p cs b q) M y O;have l: ∀k ok,ops[k]?=some ok→k≠i→(listed.setIfInBounds j true).getD k true=false→
    (∀e∈ok.after,Region.binds md e=true→e.on≠i)→n.apart ops ok=true:=fun k ok U F V G=>by
    refine g k ok U F ?_ G;by_cases W:j=k
    ·grind
    simp_all
   have X:((listed.setIfInBounds i true).setIfInBounds j true).getD c false=false:=by
    rw[getD_set_ne false E,getD_set_ne false (Ne.symm B)];grind
   have I:(listed.setIfInBounds j true).getD c false=false:=by simp_all
   refine wpOp_mono (fun Y L Z=>?_) T;have x:S L:=by
    grind
   refine⟨.inr x,N (listed.setIfInBounds j true) Y L l (ready_mono J (Ne.symm f)) (C.next r) I Z.1 x ?_⟩
   grind [Array.setIfInBounds_comm]
def kCj (ops:Array Oper) (md:Region.Mode) (i:Nat):Nat→Nat→Bool
 |0,_=>false
 |n+1,x=>match ops[x]? with
  |some o=>o.after.any (fun e=>Region.binds md e&&(e.on==i||kCj ops md i n e.on))
  |none=>false
theorem kBb {i:Nat}: ∀(n x:Nat),kCj ops md i n x=true→Waits ops md i x
 |0,_,h=>by cases h
 |n+1,x,h=>by
  unfold kCj at h;split at h
  ·rename_i o b;obtain⟨e,c,a⟩:=Array.any_eq_true'.1 h;rw[qg,Bool.or_eq_true] at a;rcases a.2 with d|d
   ·exact .one b c a.1 (by grind)
   ·exact .more b c a.1 (kBb n _ d)
  grind
def kId (ops:Array Oper) (md:Region.Mode) (listed:Array Bool):Bool:=(List.range ops.size).all fun k=>!listed.getD k false||(match ops[k]? with
 |some o=>o.after.all (fun e=>!Region.binds md e||listed.getD e.on false)
 |none=>true)
theorem kIe {listed:Array Bool} (h:kId ops md listed=true):Down ops md listed:=fun k o a b e c d=>by
 grind [kId,Array.all_eq_true_iff_forall_mem]
end
section
variable {P:Program} {N:NN} {ops:Array Oper} {Q:Exit→Act→World→Prop} {E:Env} {S S0:World→Prop} {c:Nat}
def AC (P:Program) (N:NN) (ops:Array Oper) (Q:Exit→Act→World→Prop) (S0:World→Prop) (c:Nat) (fuel:Nat) (listed:Array Bool) (E:Env) (S:World→Prop):Prop:=KV N (kAh P .any ops Q S0 c fuel listed) E S
theorem CV.anyC {id:Nat} {l:List Oper} (S0:World→Prop) (c:Nat) (b:P.follows .mixedOrders=true) (d: ∀w,S w→S w.drew) (n:Nat) (e:l.length=n) (h:AC P N l.toArray Q S0 c n (Array.replicate n false) E S):CV P N (.region id l.toArray true) Q E S:=
 fun a w f g=>wp_region_any b (kEY _ _ _ _ (by subst e;have:=h a w.drew f (d w g);simpa using this))
theorem AC.take (i:Nat) {d:Nat} {v:Value} {op:Op} {ty:TypeId} {pos:String} {af:Array Edge} {g:Option (Nat×Bool)} {e:Nat} {listed:Array Bool} (b:Array Bool) (p:ops[i]?=some ⟨some d,op,ty,pos,af,g⟩)
 (hs:Region.noSelect ops=true) (j:Region.free .any ops listed i=true) (B:(Region.ready .any ops listed).contains i=true) (q:kCj ops .any i 8 c=true) (r:kId ops .any listed=true) (s:(c !=i)=true) (l:listed.getD c false=false)
 (t: ∀c a w,Q (.panic c) (a.put (some d) v) w→Q (.panic c) a w) (u:Yes N ops ⟨some d,op,ty,pos,af,g⟩ E) (h:Step P N E S0 ⟨some d,op,ty,pos,af,g⟩ v) (x:Nat.blt d N.n=true) (y: ∀w,S w→S0 w)
 (z:listed.setIfInBounds i true=b) (k:AC P N ops Q S0 c e b (set E d v) S):AC P N ops Q S0 c (e+1) listed E S:=fun a w m f=>by
 subst z;exact kBx p (kBb _ _ q) (by grind) (Region.noSelect_spec hs) t e listed a w (Region.free_spec p j) (by grind) (kIe r) l (.inl ⟨u a m,fun A o=>h a A m o⟩) (y w f) (k _ w (m.put v x) f)
theorem AC.takeT (i:Nat) {d:Nat} {v:Value} {op:Op} {ty:TypeId} {pos:String} {af:Array Edge} {g:Option (Nat×Bool)} {e:Nat} {listed:Array Bool} (b:Array Bool) (o:ops[i]?=some ⟨some d,op,ty,pos,af,g⟩)
 (hs:Region.noSelect ops=true) (j:Region.free .any ops listed i=true) (y:(Region.ready .any ops listed).contains i=true) (p:(c !=i)=true)
 (q: ∀c a w,Q (.panic c) (a.put (some d) v) w→Q (.panic c) a w) (r:Yes N ops ⟨some d,op,ty,pos,af,g⟩ E) (h:Step P N E (fun _=>True) ⟨some d,op,ty,pos,af,g⟩ v) (s:Nat.blt d N.n=true) (t: ∀w,S w→S0 w)
 (u:listed.setIfInBounds i true=b) (k:AC P N ops Q S0 c e b (set E d v) S):AC P N ops Q S0 c (e+1) listed E S:=fun a w l f=>by
 subst u;exact kGq o (by grind) (Region.noSelect_spec hs) q e listed a w (Region.free_spec o j) (by grind) (.inl ⟨r a l,fun x m=>h a x l m⟩) (.inr (t w f)) (k _ w (l.put v s) f)
def AllC (P:Program) (N:NN) (ops:Array Oper) (Q:Exit→Act→World→Prop) (S0:World→Prop) (c:Nat) (fuel:Nat) (listed:Array Bool) (E:Env) (S:World→Prop):List Nat→Prop
 |[]=>True
 |i::r=>(∃o,ops[i]?=some o∧OV P N ops Q o E S (fun a' w'=>((listed.setIfInBounds i true).getD c false=true∨S0 w')∧kAh P .any ops Q S0 c fuel (listed.setIfInBounds i true) a' w'))∧AllC P N ops Q S0 c fuel listed E S r
theorem AllC.mem {a:Nat} {listed:Array Bool}: ∀ {rs:List Nat},AllC P N ops Q S0 c a listed E S rs→ ∀i∈rs,∃o,ops[i]?=some o∧OV P N ops Q o E S (fun d w'=>((listed.setIfInBounds i true).getD c false=true∨S0 w')∧kAh P .any ops Q S0 c a (listed.setIfInBounds i true) d w')
 |[],_,i,b=>by cases b
 |j::r,h,i,b=>by
  rcases qe.1 b with rfl|b
  ·exact h.1
  ·exact AllC.mem h.2 i b
theorem AC.all {b:Nat} {listed:Array Bool} (rs:List Nat) (f:Region.ready .any ops listed=rs) (d:rs≠[]) (h:AllC P N ops Q S0 c b listed E S rs):AC P N ops Q S0 c (b+1) listed E S:=fun a w j k=>by
 refine⟨fun l=>absurd (f▸l) d,fun i g=>?_⟩;rw[f] at g;obtain⟨o,m,e⟩:=h.mem i g;have:=e a w j k
 grind [wpOp]
theorem AC.next {d:Nat} {listed:Array Bool} {i:Nat} (b:Array Bool) (f:listed.setIfInBounds i true=b) (g:b.getD c false=true∨ ∀w,S w→S0 w) (k:AC P N ops Q S0 c d b E S):
 KV N (fun j w'=>((listed.setIfInBounds i true).getD c false=true∨S0 w')∧kAh P .any ops Q S0 c d (listed.setIfInBounds i true) j w') E S:=fun a w l e=>by
 subst f;exact⟨g.imp id fun h=>h w e,k a w l e⟩
theorem AC.done {b:Nat} {listed:Array Bool} (f:Region.ready .any ops listed=[]) (h:KV N (Q .normal) E S):AC P N ops Q S0 c b listed E S:=fun a w d e=>by
 cases b with
 |zero=>exact⟨f,h a w d e⟩
 |succ n=>exact⟨fun _=>h a w d e,by grind⟩
end
section
variable {P:Program} {N:NN} {ops:Array Oper} {Q:Exit→Act→World→Prop} {E:Env} {S S0:World→Prop} {c:Nat}
theorem AC.cutAt {α:Type} {a:Nat} {listed:Array Bool} (lt:Array Bool) (b:Nat) (G:α→Env) (T:α→World→Prop) (d: ∀z,AC P N ops Q S0 c b lt (G z) (T z)) (e:(∀z,AC P N ops Q S0 c b lt (G z) (T z))→AC P N ops Q S0 c a listed E S):AC P N ops Q S0 c a listed E S:=e d
end
section
variable {P:Program} {N:NN} {ops:Array Oper} {Q:Exit→Act→World→Prop} {E E0:Env} {S S0 S1:World→Prop} {c:Nat}
theorem AC.to {a:Nat} {listed:Array Bool} (h:AC P N ops Q S0 c a listed E0 S1) (b:Sub E0 E) (d: ∀w,S w→S1 w):AC P N ops Q S0 c a listed E S:=KV.env _ b (KV.heap d h)
variable {d:Nat} {v:Value} {op:Op} {ty:TypeId} {pos:String} {af:Array Edge} {g:Option (Nat×Bool)}
end
section
variable {P:Program} {N:NN} {ops:Array Oper} {Q:Exit→Act→World→Prop} {E E0:Env} {S S0 S1:World→Prop}
theorem AV.cutAt {α:Type} {a:Nat} {listed:Array Bool} (lt:Array Bool) (b:Nat) (G:α→Env) (T:α→World→Prop) (c: ∀z,AV P N ops Q S0 b lt (G z) (T z)) (d:(∀z,AV P N ops Q S0 b lt (G z) (T z))→AV P N ops Q S0 a listed E S):AV P N ops Q S0 a listed E S:=d c
theorem AV.to {a:Nat} {listed:Array Bool} (h:AV P N ops Q S0 a listed E0 S1) (b:Sub E0 E) (c: ∀w,S w→S1 w):AV P N ops Q S0 a listed E S:=KV.env _ b (KV.heap c h)
structure G5 where
 a:Option Addr
 b:Option Addr
 c:Option Addr
 d:Option Addr
 e:Option Addr
 n:Nat
end
end Go.Sv
namespace Go.Sv
open Go
def kRD:Option TypeDesc→Bool
 |some D=>!aggD D
 |none=>false
def aggB:Option TypeDesc→Bool
 |some D=>aggD D
 |none=>false
class UN (P:Program) (t:TypeId):Prop where
 b:kRD (P.underlying t)=true:=by kernel_rfl
theorem UN.h {P:Program} {t:TypeId} (c:UN P t): ∃D,P.underlying t=some D∧aggD D=false:=by
 have h:=c.b;cases e:P.underlying t with
 |none=>rw[e] at h;cases h
 |some D=>grind [kRD]
class UA (P:Program) (t:TypeId):Prop where
 b:aggB (P.underlying t)=true:=by kernel_rfl
theorem UA.h {P:Program} {t:TypeId} (c:UA P t): ∃D,P.underlying t=some D∧aggD D=true:=by
 have h:=c.b;cases e:P.underlying t with
 |none=>rw[e] at h;cases h
 |some D=>grind [aggB]
class US (P:Program) (t:TypeId) (e:outParam TypeId):Prop where
 h:P.underlying t=some (.slice e):=by kernel_rfl
class UStr (P:Program) (t:TypeId):Prop where
 h:P.underlying t=some .string:=by kernel_rfl
class Inf (P:Program) (t:TypeId) (z:outParam Value) (sz by_:outParam Nat):Prop where
 h:TI P t z sz by_:=by unfold Go.Sv.TI;kernel_rfl
class Fld (P:Program) (t j:Nat) (off:outParam Nat):Prop where
 h: ∀(b o:Nat) (w:World),(Instr.fieldAt t (.pointer (some ⟨b,o,none⟩)) j).run P w= .ok (.pointer (some ⟨b,o+off,none⟩)) w:=by intro b o w;kernel_rfl
class Fnc (P:Program) (f:FuncId) (fn:outParam Func) (nt:outParam Nat):Prop where
 f:P.funcs[f]?=some fn:=by kernel_rfl
 b:fn.body.isSome=true:=by kernel_rfl
 n:(fn.name== "runtime.NumGoroutine")=false:=by kernel_rfl
 t:fn.ntmps=nt:=by kernel_rfl
end Go.Sv
namespace Go.Tk
open Go Go.Sv
section
variable {P:Program} {N:NN} {E:Env} {S S0:World→Prop} {ops:Array Oper} {Q:Exit→Act→World→Prop} {rest:List Oper} {KK:Act→World→Prop} {T:Act→World→Prop}
variable {d:Nat} {ty:TypeId} {pos:String} {af:Array Edge} {g:Option (Nat×Bool)} {x y z:Operand} {v u:Value} {op:Op} {t:TypeId} {D:TypeDesc}
variable {I0:Ids} {w0:World} {L:List Assn} {α:Type} {K:Enc α} {A B:Option Addr} {ys zs:List α} {e:TypeId} {c:Nat}
variable {dd:Option Nat}
theorem Tm (a:ev E x=some v):Step P N E S ⟨dd,.move x,ty,pos,af,g⟩ v:=Step.move a
theorem Ta (a:ev E x=some v):Step P N E S ⟨dd,.assign x,ty,pos,af,g⟩ v:=Step.assign a
theorem Tq {p:Addr} (a:ev E x=some (.pointer (some p))):Step P N E S ⟨dd,.nilCheck x,ty,pos,af,g⟩ (.pointer (some p)):=Step.nilCheck a
theorem Tf {j off b o:Nat} [c:Fld P t j off] (a:ev E x=some (.pointer (some ⟨b,o,none⟩))):Step P N E S ⟨dd,.fieldAddr t x j,ty,pos,af,g⟩ (.pointer (some ⟨b,o+off,none⟩)):=Step.fieldAddr a (c.h b o)
theorem Tl (k:Nat) {b o:Nat} {cs:Array Value} {a:TypeId} {d:Nat×Nat} [c:UN P t] (e:ev E x=some (.pointer (some ⟨b,o,none⟩))) (f:L[k]?=some (Blk b (.cells cs a d))) (i:cs.toList[o]?=some v):
 Step P N E (Hp I0 w0 L) ⟨dd,.load t x,ty,pos,af,g⟩ v:=let ⟨_,h1,h2⟩:=c.h;Step.load h1 h2 e fun w h=>h.cell k f i
theorem Tc {p:Addr} [c:UN P t] (a:ev E x=some (.pointer (some p))) (b: ∀w,S w→w.cell? p=some v):Step P N E S ⟨dd,.load t x,ty,pos,af,g⟩ v:=let ⟨_,h1,h2⟩:=c.h;Step.load h1 h2 a b
theorem Tw {b o:Nat} {ze:Value} {d by_:Nat} {vs:List Value} [c:UA P t] [i:Inf P t ze d by_] (e:ev E x=some (.pointer (some ⟨b,o,none⟩))) (f: ∀w,S w→ ∀j v,vs[j]?=some v→w.cell? ⟨b,o+j,none⟩=some v)
 (a:vs.length=d:=by exact rfl):Step P N E S ⟨dd,.load t x,ty,pos,af,g⟩ (.agg vs.toArray):=let ⟨_,h1,h2⟩:=c.h;Step.loadN vs h1 h2 i.h a e f
theorem Ti {e:TypeId} {ze:Value} {b by_ n:Nat} {k:IntKind} {i:Int} [d:US P t e] [f:Inf P e ze b by_] (hs: ∀w,S w→RS w K A ys)
 (j:ev E x=some (.slice A n c)) (l:ev E y=some (.int k i)) (o:n=ys.length) (m:Nat) (p:i=(m:Int)) (a:m<ys.length) (q:b=K.sz:=by exact rfl):
 Step P N E S ⟨dd,.indexAddr t x y,ty,pos,af,g⟩ (.pointer (some ⟨bk A,of A+m* K.sz,none⟩)):=Step.idx d.h (q▸f.h) hs j l o m p a
theorem Tn {b:Bool} (a:ev E x=some (.bool b)):Step P N E S ⟨dd,.unOp .not t x,ty,pos,af,g⟩ (.bool (!b)):=Step.not a
theorem Tx {vs:List Value} {j:Nat} (a:ev E x=some (.tuple vs.toArray)) (b:vs[j]?=some v):Step P N E S ⟨dd,.extract x j,ty,pos,af,g⟩ v:=Step.extract0 a b
theorem Tg {e:TypeId} {n:Nat} [a:US P t e] (b:ev E x=some (.slice A n c)):Step P N E S ⟨dd,.call ⟨.builtin .len,#[x],#[t]⟩,ty,pos,af,g⟩ (.int .i64 n):=Step.lenSl a.h b
theorem Tk [a:UStr P t] {l:Bs} (b:ev E x=some (.string (bs l))):Step P N E S ⟨dd,.call ⟨.builtin .len,#[x],#[t]⟩,ty,pos,af,g⟩ (.int .i64 l.length):=Step.lenStr a.h b
theorem Tt (a:ev E x=some (.bool true)) (b:ev E y=some v):Step P N E S ⟨dd,.pick x y z,ty,pos,af,g⟩ v:=Step.pick_t a b
theorem Tu (a:ev E x=some (.bool false)) (b:ev E z=some v):Step P N E S ⟨dd,.pick x y z,ty,pos,af,g⟩ v:=Step.pick_f a b
section
variable {k:IntKind} {m n r:Int} {t2:TypeId}
theorem Tadd (a:ev E x=some (.int k m)) (b:ev E y=some (.int k n)) (c:k.wrap (m+n)=r:=by first|exact wI64 (by omega) (by omega)|exact wU64 (by omega) (by omega)|exact rfl):Step P N E S ⟨dd,.binOp .add t x y t2,ty,pos,af,g⟩ (.int k r):=Step.add a b c
theorem Tsub (a:ev E x=some (.int k m)) (b:ev E y=some (.int k n)) (c:k.wrap (m-n)=r:=by first|exact wI64 (by omega) (by omega)|exact wU64 (by omega) (by omega)|exact rfl):Step P N E S ⟨dd,.binOp .sub t x y t2,ty,pos,af,g⟩ (.int k r):=Step.sub a b c
theorem Tmul (a:ev E x=some (.int k m)) (b:ev E y=some (.int k n)) (c:k.wrap (m* n)=r:=by first|exact wI64 (by omega) (by omega)|exact wU64 (by omega) (by omega)|exact rfl):Step P N E S ⟨dd,.binOp .mul t x y t2,ty,pos,af,g⟩ (.int k r):=Step.mul a b c
end
theorem Jr (h:Step P N E S ⟨some d,op,ty,pos,af,g⟩ v) (k:RV P N ops Q rest (set E d v) S) (a:Yes N ops ⟨some d,op,ty,pos,af,g⟩ E:=by first|exact gno|exact gyes rfl) (b:Nat.blt d N.n=true:=by exact rfl):
 RV P N ops Q (⟨some d,op,ty,pos,af,g⟩::rest) E S:=RV.op (OV.step a h b k)
theorem Jl (k:Nat) {b o:Nat} {cs:Array Value} {a:TypeId} {e:Nat×Nat} [c:UN P t] (f:ev E x=some (.pointer (some ⟨b,o,none⟩))) (h:L[k]?=some (Blk b (.cells cs a e))) (i:cs.toList[o]?=some v)
 (j:RV P N ops Q rest (set E d v) (Hp I0 w0 L)) (l:Yes N ops ⟨some d,.load t x,ty,pos,af,g⟩ E:=by first|exact gno|exact gyes rfl) (m:Nat.blt d N.n=true:=by exact rfl):
 RV P N ops Q (⟨some d,.load t x,ty,pos,af,g⟩::rest) E (Hp I0 w0 L):=Jr (Tl k f h i) j l m
theorem Jk {j:Nat} {b:Bool} (k:RV P N ops Q rest (set E d undef) S) (a:kBi ops E j=some (!b):=by exact rfl) (c:Nat.blt d N.n=true:=by exact rfl):RV P N ops Q (⟨some d,op,ty,pos,af,some (j,b)⟩::rest) E S:=RV.op (OV.skip a c k)
section
variable {k:IntKind} {m n:Int} {t2:TypeId}
theorem Jlt (a:ev E x=some (.int k m)) (b:ev E y=some (.int k n)) (k1:m<n→RV P N ops Q rest (set E d (.bool true)) S) (k2: ¬m<n→RV P N ops Q rest (set E d (.bool false)) S)
 (c:Yes N ops ⟨some d,.binOp .lss t x y t2,ty,pos,af,g⟩ E:=by first|exact gno|exact gyes rfl) (e:Nat.blt d N.n=true:=by exact rfl):RV P N ops Q (⟨some d,.binOp .lss t x y t2,ty,pos,af,g⟩::rest) E S:=RV.op (OV.split c (Step.lss a b) e k1 k2)
theorem Jle (a:ev E x=some (.int k m)) (b:ev E y=some (.int k n)) (k1:m≤n→RV P N ops Q rest (set E d (.bool true)) S) (k2: ¬m≤n→RV P N ops Q rest (set E d (.bool false)) S)
 (c:Yes N ops ⟨some d,.binOp .leq t x y t2,ty,pos,af,g⟩ E:=by first|exact gno|exact gyes rfl) (e:Nat.blt d N.n=true:=by exact rfl):RV P N ops Q (⟨some d,.binOp .leq t x y t2,ty,pos,af,g⟩::rest) E S:=RV.op (OV.split c (Step.leq a b) e k1 k2)
theorem Jgt (a:ev E x=some (.int k m)) (b:ev E y=some (.int k n)) (k1:n<m→RV P N ops Q rest (set E d (.bool true)) S) (k2: ¬n<m→RV P N ops Q rest (set E d (.bool false)) S)
 (c:Yes N ops ⟨some d,.binOp .gtr t x y t2,ty,pos,af,g⟩ E:=by first|exact gno|exact gyes rfl) (e:Nat.blt d N.n=true:=by exact rfl):RV P N ops Q (⟨some d,.binOp .gtr t x y t2,ty,pos,af,g⟩::rest) E S:=RV.op (OV.split c (Step.gtr a b) e k1 k2)
theorem Jge (a:ev E x=some (.int k m)) (b:ev E y=some (.int k n)) (k1:n≤m→RV P N ops Q rest (set E d (.bool true)) S) (k2: ¬n≤m→RV P N ops Q rest (set E d (.bool false)) S)
 (c:Yes N ops ⟨some d,.binOp .geq t x y t2,ty,pos,af,g⟩ E:=by first|exact gno|exact gyes rfl) (e:Nat.blt d N.n=true:=by exact rfl):RV P N ops Q (⟨some d,.binOp .geq t x y t2,ty,pos,af,g⟩::rest) E S:=RV.op (OV.split c (Step.geq a b) e k1 k2)
theorem Jeq (a:ev E x=some (.int k m)) (b:ev E y=some (.int k n)) (k1:m=n→RV P N ops Q rest (set E d (.bool true)) S) (k2: ¬m=n→RV P N ops Q rest (set E d (.bool false)) S)
 (c:Yes N ops ⟨some d,.binOp .eql t x y t2,ty,pos,af,g⟩ E:=by first|exact gno|exact gyes rfl) (e:Nat.blt d N.n=true:=by exact rfl):RV P N ops Q (⟨some d,.binOp .eql t x y t2,ty,pos,af,g⟩::rest) E S:=RV.op (OV.split c (Step.eql a b) e k1 k2)
theorem Jne (a:ev E x=some (.int k m)) (b:ev E y=some (.int k n)) (k1: ¬m=n→RV P N ops Q rest (set E d (.bool true)) S) (k2: ¬ ¬m=n→RV P N ops Q rest (set E d (.bool false)) S)
 (c:Yes N ops ⟨some d,.binOp .neq t x y t2,ty,pos,af,g⟩ E:=by first|exact gno|exact gyes rfl) (e:Nat.blt d N.n=true:=by exact rfl):RV P N ops Q (⟨some d,.binOp .neq t x y t2,ty,pos,af,g⟩::rest) E S:=RV.op (OV.split c (Step.neq a b) e k1 k2)
end
theorem Kq {x y:Code} (h:CV P N x (Exit.then (y.wp P Q) Q) E S):CV P N (.seq x y) Q E S:=CV.seq h
theorem Kr {id:Nat} {l:List Oper} (h:RV P N l.toArray Q l E S):CV P N (.region id l.toArray false) Q E S:=CV.region h
theorem Kz (h:KV N (Q .normal) E S):RV P N ops Q [] E S:=RV.nil h
theorem Kn {next:Act→World→Prop} (h:KV N next E S):KV N (Exit.then next Q .normal) E S:=h
theorem Kx {next:Act→World→Prop} {id:Nat} (h:KV N (Q (.exit id)) E S):KV N (Exit.then next Q (.exit id)) E S:=h
theorem Ky {next:Act→World→Prop} (h:KV N (Q .ret) E S):KV N (Exit.then next Q .ret) E S:=h
theorem Kb {id:Nat} {c:Code} (h:CV P N c (Exit.inBlock id Q) E S):CV P N (.block id c) Q E S:=CV.block h
theorem Kc {id:Nat} (h:KV N (Q .normal) E S):KV N (Exit.inBlock id Q .normal) E S:=h
theorem Kd {id:Nat} (h:KV N (Q .ret) E S):KV N (Exit.inBlock id Q .ret) E S:=h
theorem Kh {id:Nat} (h:KV N (Q .normal) E S):KV N (Exit.inBlock id Q (.exit id)) E S:=KV.block_hit h
theorem Km {id a:Nat} (h:KV N (Q (.exit a)) E S) (b:Nat.beq a id=false:=by exact rfl):KV N (Exit.inBlock id Q (.exit a)) E S:=KV.block_miss b h
theorem Ks (h:KV N (Q .normal) E S):CV P N .skip Q E S:=CV.skip h
theorem Ke {id:Nat} (h:KV N (Q (.exit id)) E S):CV P N (.exit id) Q E S:=CV.exit h
theorem Kv (h:KV N (Q .ret) E S):CV P N .ret Q E S:=CV.ret h
theorem Kt {c:Operand} {x y:Code} (h:CV P N x Q E S) (a:ev E c=some (.bool true):=by exact rfl):CV P N (.cond c x y) Q E S:=CV.cond_t a h
theorem Kf {c:Operand} {x y:Code} (h:CV P N y Q E S) (a:ev E c=some (.bool false):=by exact rfl):CV P N (.cond c x y) Q E S:=CV.cond_f a h
theorem Ya {ze:Value} {a by_:Nat} [i:Inf P t ze a by_] (k: ∀nb,KV N KK (set E d (.pointer (some ⟨nb,0,none⟩))) (Hp I0 w0 (L++[Blk nb (.cells ze.cells t (0,0))]))) (b:Yes N ops ⟨some d,.alloc t,ty,pos,af,g⟩ E:=by first|exact gno|exact gyes rfl) (c:Nat.blt d N.n=true:=by exact rfl):OV P N ops Q ⟨some d,.alloc t,ty,pos,af,g⟩ E (Hp I0 w0 L) KK:=OV.alloc _ i.h rfl b c k
theorem Yb (cs:Array Value) (b:ev E x=some v) (a:v.cells=cs) (k: ∀nb,KV N KK (set E d (.pointer (some ⟨nb,0,none⟩))) (Hp I0 w0 (L++[Blk nb (.cells cs t (0,0))]))) (c:Yes N ops ⟨some d,.box t x,ty,pos,af,g⟩ E:=by first|exact gno|exact gyes rfl) (e:Nat.blt d N.n=true:=by exact rfl):OV P N ops Q ⟨some d,.box t x,ty,pos,af,g⟩ E (Hp I0 w0 L) KK:=OV.box cs b a c e k
theorem Yw (k:Nat) {d:TypeId} {ze:Value} {e by_ b o:Nat} {a:Array Value} (vs:List Value) (cs:Array Value) [i:Inf P t ze e by_] (f:ev E x=some (.pointer (some ⟨b,o,none⟩))) (j:ev E y=some v) (l:L[k]?=some (Blk b (.cells a d (0,0)))) (m:v.cells=vs.toArray)
 (c:(a.toList.take o++vs++a.toList.drop (o+vs.length)).toArray=cs) (n:KV N KK E (Hp I0 w0 (L.set k (Blk b (.cells cs d (0,0)))))) (p:vs.length=e:=by exact rfl) (q:o+vs.length≤a.size:=by exact qV rfl) (r: ∀v∈vs,v.oneCell'=true:=by simp[Value.oneCell'])
 (s:Yes N ops ⟨none,.store t x y,ty,pos,af,g⟩ E:=by first|exact gno|exact gyes rfl):OV P N ops Q ⟨none,.store t x y,ty,pos,af,g⟩ E (Hp I0 w0 L) KK:=OV.store k vs cs i.h f j l m p q r c s n
theorem Yc (ks:List Nat) {F Own:List Assn} {f:FuncId} {fn:Func} {i:Nat} {vs:List Value} {args:List Operand} {ts:Array TypeId} {ro:Ids} {post:Value→List Assn→Prop} [c:Fnc P f fn i] (j:evs E args=some vs) (l:kAL ks L=some (Own,F)) (a: ∀w,Hp I0 w0 L w→Fx P f vs w Own ro post)
 (k: ∀v h,post v h→KV N KK (set E d v) (Hp I0 w0 (F++h))) (e: ∀b,ro b→RoOk I0 w0 F b:=by exact fun _ m=>m.elim) (o:Yes N ops ⟨some d,.call ⟨.value (.func f),args.toArray,ts⟩,ty,pos,af,g⟩ E:=by first|exact gno|exact gyes rfl) (p:Nat.blt d N.n=true:=by exact rfl):OV P N ops Q ⟨some d,.call ⟨.value (.func f),args.toArray,ts⟩,ty,pos,af,g⟩ E (Hp I0 w0 L) KK:=OV.call ks c.f c.b c.n j l a e o p k
theorem Yp {f:FuncId} {fn:Func} {e:Nat} {vs:List Value} {args:List Operand} {ts:Array TypeId} [c:Fnc P f fn e] (h:evs E args=some vs) (a:FxP P f vs v) (k:KV N KK (set E d v) S) (i:Yes N ops ⟨some d,.call ⟨.value (.func f),args.toArray,ts⟩,ty,pos,af,g⟩ E:=by first|exact gno|exact gyes rfl) (j:Nat.blt d N.n=true:=by exact rfl):OV P N ops Q ⟨some d,.call ⟨.value (.func f),args.toArray,ts⟩,ty,pos,af,g⟩ E S KK:=OV.callP c.f c.b c.n h a i j k
theorem Ym {e:TypeId} {ze:Value} {o by_:Nat} {p q:IntKind} {i j:Int} [r:US P t e] [s:Inf P e ze o by_] (n c:Nat) (a:α) (u:ev E x=some (.int p i)) (v:ev E y=some (.int q j)) (b:i=(n:Int)) (l:j=(c:Int))
 (k: ∀A,KV N KK (set E d (.slice A n c)) (Hp I0 w0 (L++[OS e K A c (List.replicate n a)]))) (w:ze.cells.toList=K.f a:=by exact rfl) (hs:o=K.sz:=by exact rfl) (m:n≤c:=by omega) (z:by_* c≤281474976710656:=by omega) (B:c≤9223372036854775807:=by omega)
 (C:Yes N ops ⟨some d,.makeSlice t x y,ty,pos,af,g⟩ E:=by first|exact gno|exact gyes rfl) (D:Nat.blt d N.n=true:=by exact rfl):OV P N ops Q ⟨some d,.makeSlice t x y,ty,pos,af,g⟩ E (Hp I0 w0 L) KK:=OV.make n c a r.h (hs▸s.h) w u v b l m z B C D k
theorem Ye (k:Nat) {e:TypeId} {ze:Value} {f by_ n m cB:Nat} [l:US P t e] [o:Inf P e ze f by_] (p:ev E x=some (.slice A n c)) (q:ev E y=some (.slice B m cB)) (r:n=ys.length) (a:m=zs.length) (s:L[k]?=some (OS e K A c ys)) (u: ∀w,Hp I0 w0 L w→RS w K B zs)
 (v:(ys.length+zs.length)* by_≤140737488355328) (z: ∀i j,KV N KK (set E d (.slice i (ys++zs).length j)) (Hp I0 w0 (L.set k (OS e K i j (ys++zs))))) (hs:f=K.sz:=by exact rfl) (b:ze.cells.size=K.sz:=by exact rfl) (C:0<by_:=by decide)
 (D:Yes N ops ⟨some d,.call ⟨.builtin .append,#[x,y],#[t,t]⟩,ty,pos,af,g⟩ E:=by first|exact gno|exact gyes rfl) (F:Nat.blt d N.n=true:=by exact rfl):OV P N ops Q ⟨some d,.call ⟨.builtin .append,#[x,y],#[t,t]⟩,ty,pos,af,g⟩ E (Hp I0 w0 L) KK:=
 OV.append k l.h (hs▸o.h) b p q r a s u v (by have:=Nat.le_mul_of_pos_right (ys.length+zs.length) C;omega) D F z
theorem Yx (k m:Nat) (a:α) {ze:Value} {by_ l o j:Nat} (vs:List Value) [n:Inf P t ze l by_] (p:ev E x=some (.pointer (some ⟨bk A,o,none⟩))) (q:ev E y=some v) (r:L[k]?=some (OS e K A c ys)) (s:o=of A+m* K.sz+j) (u:v.cells=vs.toArray)
 (b:m<ys.length) (i:K.f a=(K.f (ys.getD m K.d)).take j++vs++(K.f (ys.getD m K.d)).drop (j+vs.length)) (w:KV N KK E (Hp I0 w0 (L.set k (OS e K A c (ys.set m a))))) (z:vs.length=l:=by exact rfl) (B:j+vs.length≤K.sz:=by exact qV rfl)
 (C:Yes N ops ⟨none,.store t x y,ty,pos,af,g⟩ E:=by first|exact gno|exact gyes rfl):OV P N ops Q ⟨none,.store t x y,ty,pos,af,g⟩ E (Hp I0 w0 L) KK:=OV.storeE k m a vs n.h p q r s u z b i B C w
theorem Sr (h:Step P N E S ⟨some d,op,ty,pos,af,g⟩ v) (k:SV P N ops T rest (set E d v) S) (a:Yes N ops ⟨some d,op,ty,pos,af,g⟩ E:=by first|exact gno|exact gyes rfl) (b:Nat.blt d N.n=true:=by exact rfl):SV P N ops T (⟨some d,op,ty,pos,af,g⟩::rest) E S:=SV.step a h b k
theorem Sk {j:Nat} {b:Bool} (k:SV P N ops T rest (set E d undef) S) (a:kBi ops E j=some (!b):=by exact rfl) (c:Nat.blt d N.n=true:=by exact rfl):SV P N ops T (⟨some d,op,ty,pos,af,some (j,b)⟩::rest) E S:=SV.skip a c k
theorem Vt (i:Nat) {b:Nat} {listed:Array Bool} (f:ops[i]?=some ⟨some d,op,ty,pos,af,g⟩) (h:Step P N E S0 ⟨some d,op,ty,pos,af,g⟩ v) (j: ∀w,S w→S0 w) (k:AV P N ops Q S0 b (listed.setIfInBounds i true) (set E d v) S)
 (l:Yes N ops ⟨some d,op,ty,pos,af,g⟩ E:=by first|exact gno|exact gyes rfl) (m:Nat.blt d N.n=true:=by exact rfl) (hs:Region.noSelect ops=true:=by kernel_rfl) (e:Region.free .any ops listed i=true:=by kernel_rfl) (o:(Region.ready .any ops listed).contains i=true:=by kernel_rfl)
 (p: ∀c a w,Q (.panic c) (a.put (some d) v) w→Q (.panic c) a w:=by with_unfolding_all exact fun _ _ _ h=>h):AV P N ops Q S0 (b+1) listed E S:=AV.take i _ f hs e o p l h m j rfl k
theorem Vn {a:Nat} {listed:Array Bool} {i:Nat} (b: ∀w,S w→S0 w) (k:AV P N ops Q S0 a (listed.setIfInBounds i true) E S):KV N (fun c w'=>S0 w'∧wpAnyH P .any ops Q S0 a (listed.setIfInBounds i true) c w') E S:=AV.next _ rfl b k
theorem Vd {a:Nat} {listed:Array Bool} (h:KV N (Q .normal) E S) (b:Region.ready .any ops listed=[]:=by kernel_rfl):AV P N ops Q S0 a listed E S:=AV.done b h
theorem Vo {a:Nat} {listed lt:Array Bool} {E0:Env} {S1:World→Prop} (h:AV P N ops Q S0 a lt E0 S1) (b:Sub E0 E) (c: ∀w,S w→S1 w) (d:listed=lt:=by kernel_rfl):AV P N ops Q S0 a listed E S:=by grind [AV.to]
theorem Ct (i:Nat) {c b:Nat} {listed:Array Bool} (l:ops[i]?=some ⟨some d,op,ty,pos,af,g⟩) (h:Step P N E S0 ⟨some d,op,ty,pos,af,g⟩ v) (m: ∀w,S w→S0 w) (k:AC P N ops Q S0 c b (listed.setIfInBounds i true) (set E d v) S)
 (o:Yes N ops ⟨some d,op,ty,pos,af,g⟩ E:=by first|exact gno|exact gyes rfl) (p:Nat.blt d N.n=true:=by exact rfl) (hs:Region.noSelect ops=true:=by kernel_rfl) (e:Region.free .any ops listed i=true:=by kernel_rfl) (q:(Region.ready .any ops listed).contains i=true:=by kernel_rfl)
 (r:kCj ops .any i 8 c=true:=by kernel_rfl) (s:kId ops .any listed=true:=by kernel_rfl) (f:(c !=i)=true:=by kernel_rfl) (j:listed.getD c false=false:=by kernel_rfl)
 (t: ∀c a w,Q (.panic c) (a.put (some d) v) w→Q (.panic c) a w:=by with_unfolding_all exact fun _ _ _ h=>h):AC P N ops Q S0 c (b+1) listed E S:=AC.take i _ l hs e q r s f j t o h p m rfl k
theorem Cm {c a:Nat} {listed:Array Bool} {i:Nat} (k:AC P N ops Q S0 c a (listed.setIfInBounds i true) E S) (b:(listed.setIfInBounds i true).getD c false=true:=by kernel_rfl):KV N (fun d w'=>((listed.setIfInBounds i true).getD c false=true∨S0 w')∧kAh P .any ops Q S0 c a (listed.setIfInBounds i true) d w') E S:=AC.next _ rfl (.inl b) k
theorem Cd {c a:Nat} {listed:Array Bool} (h:KV N (Q .normal) E S) (b:Region.ready .any ops listed=[]:=by kernel_rfl):AC P N ops Q S0 c a listed E S:=AC.done b h
theorem Co {c a:Nat} {listed lt:Array Bool} {E0:Env} {S1:World→Prop} (h:AC P N ops Q S0 c a lt E0 S1) (b:Sub E0 E) (d: ∀w,S w→S1 w) (e:listed=lt:=by kernel_rfl):AC P N ops Q S0 c a listed E S:=by grind [AC.to]
end
theorem Fb {P:Program} {f:FuncId} {fn:Func} {cd:Code} {n:Nat} {vs:List Value} {w:World} {Own:List Assn} {ro:Ids} {post:Value→List Assn→Prop} [c:Fnc P f fn n]
 (h: ∀I:Ids,(∀b,ro b→ ¬I b)→Sep Own I w→CV P ⟨n,[]⟩ cd (bodyPost P fn (fun e w'=> ∃v a,e= .returned v∧post v a∧Hp I w a w')) (params 0 vs) (Hp I w Own)) (d:fn.body=some cd:=by exact rfl) (g:Nat.ble vs.length n=true:=by exact rfl):Fx P f vs w Own ro post:=Fx.body c.f d c.t g h
theorem Fp {P:Program} {f:FuncId} {fn:Func} {cd:Code} {n:Nat} {vs:List Value} {v:Value} [c:Fnc P f fn n]
 (h: ∀w,CV P ⟨n,[]⟩ cd (bodyPost P fn (fun e w'=>e= .returned v∧w'=w)) (params 0 vs) (fun w'=>w'=w)) (a:fn.body=some cd:=by exact rfl) (b:Nat.ble vs.length n=true:=by exact rfl):FxP P f vs v:=FxP.body c.f a c.t b h
section
variable {P:Program} {N:Nat} {fn:Func} {w:World} {I:Ids} {L:List Assn} {E:Env} {v v1 v2:Value} {t t1 t2:Tmp} {post:Value→List Assn→Prop}
theorem Ra (b:post (.tuple #[]) L) (c:fn.results= #[]:=by exact rfl):KV ⟨N,[]⟩ (bodyPost P fn (fun e w'=> ∃v a,e= .returned v∧post v a∧Hp I w a w') .ret) E (Hp I w L):=KV.ret0 c _ (fun _ h=>h) b
theorem Rb (b:fn.results= #[.tmp t]) (c:get E t=some v) (d:post v L):KV ⟨N,[]⟩ (bodyPost P fn (fun e w'=> ∃v a,e= .returned v∧post v a∧Hp I w a w') .ret) E (Hp I w L):=KV.ret1 b c _ (fun _ h=>h) d
theorem Rc (b:fn.results= #[.tmp t1,.tmp t2]) (c:get E t1=some v1) (d:get E t2=some v2) (f:post (.tuple #[v1,v2]) L):KV ⟨N,[]⟩ (bodyPost P fn (fun e w'=> ∃v a,e= .returned v∧post v a∧Hp I w a w') .ret) E (Hp I w L):=KV.ret2 b c d _ (fun _ h=>h) f
end
end Go.Tk
namespace Go.Sv
open Go
def Sel (L M:List Assn):Prop:= ∃ks R,kAL ks L=some (M,R)
theorem Sel.to {L M:List Assn} {I0:Ids} {w0:World} (h:Sel L M): ∀w,Hp I0 w0 L w→Hp I0 w0 M w:=fun w a=>by
 obtain⟨ks,R,b⟩:=h;exact a.sel ks b
theorem sl0 {L:List Assn}:Sel L []:=⟨[],L,rfl⟩
theorem sl (k:Nat) {A:Assn} {L M:List Assn} (a:L[k]?=some A) (h:Sel (L.eraseIdx k) M):Sel L (A::M):=by
 obtain⟨ks,R,b⟩:=h;exact⟨k::ks,R,by simp[kAL,a,b]⟩
def vals (E:Env):List Nat→Option (List Value)
 |[]=>some []
 |t::r=>match get E t,vals E r with
  |some v,some vs=>some (v::vs)
  |_,_=>none
theorem sb {E:Env}: ∀ {G:Env},vals E (G.map Prod.fst)=some (G.map Prod.snd)→Sub G E
 |[],_=>trivial
 |(t,v)::r,h=>by
  simp only[List.map_cons,vals] at h;split at h
  ·rename_i a b c d;simp only[qZ,List.cons.injEq] at h;exact⟨by rw[c,h.1],sb (by rw[d,h.2])⟩
  ·cases h
class HB (L:List Assn) (b:Nat) (o:outParam Obj):Prop where
 h: ∃k:Nat,L[k]?=some (Blk b o)
instance(priority:=100) HB.s {A:Assn} {L:List Assn} {b:Nat} {o:Obj} [c:HB L b o]:HB (A::L) b o:=⟨let ⟨k,h⟩:=c.h;⟨k+1,h⟩⟩
class HO {α:outParam Type} (L:List Assn) (A:Option Addr) (e:outParam TypeId) (K:outParam (Enc α)) (c:outParam Nat) (ys:outParam (List α)):Prop where
 h: ∃k:Nat,L[k]?=some (OS e K A c ys)
instance(priority:=100) HO.s {α:Type} {B:Assn} {L:List Assn} {A:Option Addr} {e:TypeId} {K:Enc α} {c:Nat} {ys:List α} [i:HO L A e K c ys]:HO (B::L) A e K c ys:=⟨let ⟨k,h⟩:=i.h;⟨k+1,h⟩⟩
end Go.Sv
namespace Go.Tk
open Go Go.Sv
section
variable {P:Program} {N:NN} {E:Env} {S S0:World→Prop} {ops:Array Oper} {Q:Exit→Act→World→Prop} {rest:List Oper} {KK:Act→World→Prop} {T:Act→World→Prop}
variable {d:Nat} {ty:TypeId} {pos:String} {af:Array Edge} {g:Option (Nat×Bool)} {x y z:Operand} {v u:Value} {op:Op} {t:TypeId} {D:TypeDesc}
variable {I0:Ids} {w0:World} {L R:List Assn} {dd:Option Nat}
theorem Xl {b o:Nat} {cs:Array Value} {a:TypeId} {d:Nat×Nat} [c:UN P t] (e:ev E x=some (.pointer (some ⟨b,o,none⟩))) [i:HB L b (.cells cs a d)] (f:cs.toList[o]?=some v:=by exact rfl):Step P N E (Hp I0 w0 L) ⟨dd,.load t x,ty,pos,af,g⟩ v:=let ⟨k,hk⟩:=i.h;Tl k e hk f
theorem Xk (k:Nat) {b:Nat} {cs:Array Value} {e:TypeId} {f:Nat×Nat} {ze:Value} {d by_:Nat} [c:UA P t] [i:Inf P t ze d by_] (j:ev E x=some (.pointer (some ⟨b,0,none⟩))) (l:L[k]?=some (Blk b (.cells cs e f))) (a:cs.toList.length=d:=by exact rfl):Step P N E (Hp I0 w0 L) ⟨dd,.load t x,ty,pos,af,g⟩ (.agg cs.toList.toArray):=Tw j (fun _ h=>h.cells k l) a
theorem Xw {b:Nat} {cs:Array Value} {e:TypeId} {f:Nat×Nat} {ze:Value} {d by_:Nat} [c:UA P t] [i:Inf P t ze d by_] (l:ev E x=some (.pointer (some ⟨b,0,none⟩))) [j:HB L b (.cells cs e f)] (a:cs.toList.length=d:=by exact rfl):Step P N E (Hp I0 w0 L) ⟨dd,.load t x,ty,pos,af,g⟩ (.agg cs.toList.toArray):=let ⟨k,hk⟩:=j.h;Tw l (fun _ h=>h.cells k hk) a
section
variable {α:Type} {K:Enc α} {A:Option Addr} {ys:List α} {c:Nat} {e:TypeId} {m n:Nat}
theorem os1 [i:HO L A e K c ys]: ∀w,Hp I0 w0 L w→RS w K A ys:=fun _ h=>let ⟨k,hk⟩:=i.h;h.os k hk
theorem Rd (h: ∀w,S w→RS w K A ys:=by first|exact os1|exact fun w h=>h.rs (by assumption) (fun _=>hI _)|exact fun w h=>h.os 0 rfl|exact fun w h=>h.os 1 rfl|exact fun w h=>h.os 2 rfl|exact fun w h=>h.os 3 rfl|exact fun w h=>h.os 4 rfl|exact fun w h=>h.os 5 rfl|exact fun w h=>h.os 6 rfl|exact fun w h=>h.os 7 rfl|exact fun w h=>h.os 8 rfl|exact fun w h=>h.os 9 rfl|exact fun w h=>h.os 10 rfl|exact fun w h=>h.os 11 rfl|exact fun w h=>h.os 12 rfl|exact fun w h=>h.os 13 rfl|exact fun w h=>h.os 14 rfl|exact fun w h=>h.os 15 rfl|exact fun w h=>h.os 16 rfl|exact fun w h=>h.os 17 rfl|exact fun w h=>h.os 18 rfl|exact fun w h=>h.os 19 rfl): ∀w,S w→RS w K A ys:=h
theorem Xi {ze:Value} {b by_:Nat} {k:IntKind} {i:Int} [o:US P t e] [p:Inf P e ze b by_] (d:ev E x=some (.slice A n c)) (f:ev E y=some (.int k i)) (m:Nat) (h:i=(m:Int)) (hs: ∀w,S w→RS w K A ys:=by exact Rd) (j:n=ys.length:=by first|rfl|omega) (a:m<ys.length:=by omega) (l:b=K.sz:=by exact rfl):
 Step P N E S ⟨dd,.indexAddr t x y,ty,pos,af,g⟩ (.pointer (some ⟨bk A,of A+m* K.sz,none⟩)):=Ti hs d f j m h a l
theorem Xs [c:UN P t] (a:ev E x=some (.pointer (some ⟨bk A,of A+m* K.sz,none⟩))) (hs: ∀w,S w→RS w K A ys:=by exact Rd) (b:(K.f (ys.getD m K.d))[0]?=some v:=by exact rfl) (e:m<ys.length:=by omega):Step P N E S ⟨dd,.load t x,ty,pos,af,g⟩ v:=Tc a fun w h=>(hs w h).cell0 e b
theorem Xt {j:Nat} [c:UN P t] (a:ev E x=some (.pointer (some ⟨bk A,of A+m* K.sz+j,none⟩))) (hs: ∀w,S w→RS w K A ys:=by exact Rd) (b:(K.f (ys.getD m K.d))[j]?=some v:=by exact rfl) (e:m<ys.length:=by omega):Step P N E S ⟨dd,.load t x,ty,pos,af,g⟩ v:=Tc a fun w h=>(hs w h).cell e b
theorem Xu {ze:Value} {b by_:Nat} [c:UA P t] [i:Inf P t ze b by_] (e:ev E x=some (.pointer (some ⟨bk A,of A+m* K.sz,none⟩))) (hs: ∀w,S w→RS w K A ys:=by exact Rd) (j:m<ys.length:=by omega) (a:(K.f (ys.getD m K.d)).length=b:=by exact rfl):Step P N E S ⟨dd,.load t x,ty,pos,af,g⟩ (.agg (K.f (ys.getD m K.d)).toArray):=Tw e (fun w h=>(hs w h).cells j) a
end
theorem At {o:Oper} (h:Step P N E S o v:=by first
 |exact Tm rfl
 |exact Tf rfl
 |exact Ta rfl
 |exact Tq rfl
 |exact Xl rfl
 |exact Tx rfl rfl
 |exact Tg rfl
 |exact Tt rfl rfl
 |exact Tu rfl rfl
 |exact Tn rfl
 |exact Xi rfl rfl _ rfl
 |exact Xs rfl
 |exact Xt rfl
 |exact Xw rfl
 |exact Xu rfl
 |exact Tk rfl
 |exact Tadd rfl rfl
 |exact Tsub rfl rfl
 |exact Tmul rfl rfl
 |exact Step.lss rfl rfl
 |exact Step.leq rfl rfl
 |exact Step.gtr rfl rfl
 |exact Step.geq rfl rfl
 |exact Step.eql rfl rfl
 |exact Step.neq rfl rfl
 |exact Tl 0 rfl rfl rfl
 |exact Tl 1 rfl rfl rfl
 |exact Tl 2 rfl rfl rfl
 |exact Tl 3 rfl rfl rfl
 |exact Tl 4 rfl rfl rfl
 |exact Tl 5 rfl rfl rfl
 |exact Tl 6 rfl rfl rfl
 |exact Tl 7 rfl rfl rfl
 |exact Tl 8 rfl rfl rfl
 |exact Tl 9 rfl rfl rfl
 |exact Tl 10 rfl rfl rfl
 |exact Tl 11 rfl rfl rfl
 |exact Tl 12 rfl rfl rfl
 |exact Tl 13 rfl rfl rfl
 |exact Tl 14 rfl rfl rfl
 |exact Tl 15 rfl rfl rfl
 |exact Tl 16 rfl rfl rfl
 |exact Tl 17 rfl rfl rfl
 |exact Tl 18 rfl rfl rfl
 |exact Tl 19 rfl rfl rfl
 |exact Xk 0 rfl rfl
 |exact Xk 1 rfl rfl
 |exact Xk 2 rfl rfl
 |exact Xk 3 rfl rfl
 |exact Xk 4 rfl rfl
 |exact Xk 5 rfl rfl
 |exact Xk 6 rfl rfl
 |exact Xk 7 rfl rfl
 |exact Xk 8 rfl rfl
 |exact Xk 9 rfl rfl
 |exact Xk 10 rfl rfl
 |exact Xk 11 rfl rfl
 |exact Xk 12 rfl rfl
 |exact Xk 13 rfl rfl
 |exact Xk 14 rfl rfl
 |exact Xk 15 rfl rfl
 |exact Xk 16 rfl rfl
 |exact Xk 17 rfl rfl
 |exact Xk 18 rfl rfl
 |exact Xk 19 rfl rfl):Step P N E S o v:=h
theorem Jg (k:RV P N ops Q rest (set E d v) S) (h:Step P N E S ⟨some d,op,ty,pos,af,g⟩ v:=by exact At) (a:Yes N ops ⟨some d,op,ty,pos,af,g⟩ E:=by first|exact gno|exact gyes rfl) (b:Nat.blt d N.n=true:=by exact rfl):RV P N ops Q (⟨some d,op,ty,pos,af,g⟩::rest) E S:=Jr h k a b
theorem Sg (k:SV P N ops T rest (set E d v) S) (h:Step P N E S ⟨some d,op,ty,pos,af,g⟩ v:=by exact At) (a:Yes N ops ⟨some d,op,ty,pos,af,g⟩ E:=by first|exact gno|exact gyes rfl) (b:Nat.blt d N.n=true:=by exact rfl):SV P N ops T (⟨some d,op,ty,pos,af,g⟩::rest) E S:=Sr h k a b
theorem Gs {A B:Prop} (s:B→A:=by first|exact Kq|exact Kr|exact Kn|exact Kz|exact Kb|exact Kc|exact Ks|exact Kx|exact Ky|exact Kd|exact Kh|exact fun k=>Km k|exact Ke|exact Kv|exact fun k=>Kt k|exact fun k=>Kf k|exact fun k=>Jk k|exact fun k=>Sk k|exact fun k=>Jg k|exact fun k=>Sg k):B→A:=s
theorem Ho {S S0:World→Prop} (h: ∀w,S w→S0 w:=by first|exact fun _ h=>h|(refine Sel.to ?_;repeat (first|exact sl0|refine sl 0 rfl ?_|refine sl 1 rfl ?_|refine sl 2 rfl ?_|refine sl 3 rfl ?_|refine sl 4 rfl ?_|refine sl 5 rfl ?_|refine sl 6 rfl ?_|refine sl 7 rfl ?_|refine sl 8 rfl ?_|refine sl 9 rfl ?_|refine sl 10 rfl ?_|refine sl 11 rfl ?_|refine sl 12 rfl ?_|refine sl 13 rfl ?_|refine sl 14 rfl ?_|refine sl 15 rfl ?_|refine sl 16 rfl ?_|refine sl 17 rfl ?_|refine sl 18 rfl ?_|refine sl 19 rfl ?_))): ∀w,S w→S0 w:=h
theorem W (i:Nat) {b:Nat} {listed:Array Bool} (k:AV P N ops Q S0 b (listed.setIfInBounds i true) (set E d v) S) (f:ops[i]?=some ⟨some d,op,ty,pos,af,g⟩:=by exact rfl) (h:Step P N E S0 ⟨some d,op,ty,pos,af,g⟩ v:=by exact At) (j: ∀w,S w→S0 w:=by exact Ho) (l:Yes N ops ⟨some d,op,ty,pos,af,g⟩ E:=by first|exact gno|exact gyes rfl) (m:Nat.blt d N.n=true:=by exact rfl) (hs:Region.noSelect ops=true:=by kernel_rfl) (e:Region.free .any ops listed i=true:=by kernel_rfl) (o:(Region.ready .any ops listed).contains i=true:=by kernel_rfl) (p: ∀c a w,Q (.panic c) (a.put (some d) v) w→Q (.panic c) a w:=by with_unfolding_all exact fun _ _ _ h=>h):AV P N ops Q S0 (b+1) listed E S:=AV.take i _ f hs e o p l h m j rfl k
theorem Wt (i:Nat) {b:Nat} {listed:Array Bool} (f:ops[i]?=some ⟨some d,op,ty,pos,af,g⟩) (h:Step P N E S0 ⟨some d,op,ty,pos,af,g⟩ v) (k:AV P N ops Q S0 b (listed.setIfInBounds i true) (set E d v) S) (j: ∀w,S w→S0 w:=by exact Ho) (l:Yes N ops ⟨some d,op,ty,pos,af,g⟩ E:=by first|exact gno|exact gyes rfl) (m:Nat.blt d N.n=true:=by exact rfl) (hs:Region.noSelect ops=true:=by kernel_rfl) (e:Region.free .any ops listed i=true:=by kernel_rfl) (o:(Region.ready .any ops listed).contains i=true:=by kernel_rfl) (p: ∀c a w,Q (.panic c) (a.put (some d) v) w→Q (.panic c) a w:=by with_unfolding_all exact fun _ _ _ h=>h):AV P N ops Q S0 (b+1) listed E S:=AV.take i _ f hs e o p l h m j rfl k
theorem Wn {a:Nat} {listed:Array Bool} {i:Nat} (k:AV P N ops Q S0 a (listed.setIfInBounds i true) E S) (b: ∀w,S w→S0 w:=by exact Ho):KV N (fun c w'=>S0 w'∧wpAnyH P .any ops Q S0 a (listed.setIfInBounds i true) c w') E S:=AV.next _ rfl b k
theorem Cw (i:Nat) {c b:Nat} {listed:Array Bool} (k:AC P N ops Q S0 c b (listed.setIfInBounds i true) (set E d v) S) (l:ops[i]?=some ⟨some d,op,ty,pos,af,g⟩:=by exact rfl) (h:Step P N E S0 ⟨some d,op,ty,pos,af,g⟩ v:=by exact At) (m: ∀w,S w→S0 w:=by exact Ho) (o:Yes N ops ⟨some d,op,ty,pos,af,g⟩ E:=by first|exact gno|exact gyes rfl) (p:Nat.blt d N.n=true:=by exact rfl) (hs:Region.noSelect ops=true:=by kernel_rfl) (e:Region.free .any ops listed i=true:=by kernel_rfl) (q:(Region.ready .any ops listed).contains i=true:=by kernel_rfl) (r:kCj ops .any i 8 c=true:=by kernel_rfl) (s:kId ops .any listed=true:=by kernel_rfl) (f:(c !=i)=true:=by kernel_rfl) (j:listed.getD c false=false:=by kernel_rfl) (t: ∀c a w,Q (.panic c) (a.put (some d) v) w→Q (.panic c) a w:=by with_unfolding_all exact fun _ _ _ h=>h):AC P N ops Q S0 c (b+1) listed E S:=AC.take i _ l hs e q r s f j t o h p m rfl k
theorem Cv (i:Nat) {c b:Nat} {listed:Array Bool} (l:ops[i]?=some ⟨some d,op,ty,pos,af,g⟩) (h:Step P N E S0 ⟨some d,op,ty,pos,af,g⟩ v) (k:AC P N ops Q S0 c b (listed.setIfInBounds i true) (set E d v) S) (m: ∀w,S w→S0 w:=by exact Ho) (o:Yes N ops ⟨some d,op,ty,pos,af,g⟩ E:=by first|exact gno|exact gyes rfl) (p:Nat.blt d N.n=true:=by exact rfl) (hs:Region.noSelect ops=true:=by kernel_rfl) (e:Region.free .any ops listed i=true:=by kernel_rfl) (q:(Region.ready .any ops listed).contains i=true:=by kernel_rfl) (r:kCj ops .any i 8 c=true:=by kernel_rfl) (s:kId ops .any listed=true:=by kernel_rfl) (f:(c !=i)=true:=by kernel_rfl) (j:listed.getD c false=false:=by kernel_rfl) (t: ∀c a w,Q (.panic c) (a.put (some d) v) w→Q (.panic c) a w:=by with_unfolding_all exact fun _ _ _ h=>h):AC P N ops Q S0 c (b+1) listed E S:=AC.take i _ l hs e q r s f j t o h p m rfl k
theorem Uw (i:Nat) {c b:Nat} {listed:Array Bool} (k:AC P N ops Q S0 c b (listed.setIfInBounds i true) (set E d v) S) (j:ops[i]?=some ⟨some d,op,ty,pos,af,g⟩:=by exact rfl) (h:Step P N E (fun _=>True) ⟨some d,op,ty,pos,af,g⟩ v:=by exact At) (l: ∀w,S w→S0 w:=by exact Ho) (m:Yes N ops ⟨some d,op,ty,pos,af,g⟩ E:=by first|exact gno|exact gyes rfl) (o:Nat.blt d N.n=true:=by exact rfl) (hs:Region.noSelect ops=true:=by kernel_rfl) (e:Region.free .any ops listed i=true:=by kernel_rfl) (p:(Region.ready .any ops listed).contains i=true:=by kernel_rfl) (f:(c !=i)=true:=by kernel_rfl) (q: ∀c a w,Q (.panic c) (a.put (some d) v) w→Q (.panic c) a w:=by with_unfolding_all exact fun _ _ _ h=>h):AC P N ops Q S0 c (b+1) listed E S:=AC.takeT i _ j hs e p f q m h o l rfl k
theorem Cj {c a:Nat} {listed:Array Bool} {i:Nat} (k:AC P N ops Q S0 c a (listed.setIfInBounds i true) E S) (b: ∀w,S w→S0 w:=by exact Ho):KV N (fun d w'=>((listed.setIfInBounds i true).getD c false=true∨S0 w')∧kAh P .any ops Q S0 c a (listed.setIfInBounds i true) d w') E S:=AC.next _ rfl (.inr b) k
theorem V1 (b:Nat) {a:Nat} {listed:Array Bool} {c:Oper} (h0:OV P N ops Q c E S (fun d w'=>S0 w'∧wpAnyH P .any ops Q S0 a (listed.setIfInBounds b true) d w')) (e:ops[b]?=some c:=by exact rfl) (f:Region.ready .any ops listed=[b]:=by kernel_rfl):AV P N ops Q S0 (a+1) listed E S:=AV.all _ f (by simp) ⟨⟨_,e,h0⟩,trivial⟩
theorem V2 (b c:Nat) {a:Nat} {listed:Array Bool} {e f:Oper} (h0:OV P N ops Q e E S (fun d w'=>S0 w'∧wpAnyH P .any ops Q S0 a (listed.setIfInBounds b true) d w')) (g:OV P N ops Q f E S (fun d w'=>S0 w'∧wpAnyH P .any ops Q S0 a (listed.setIfInBounds c true) d w')) (h:ops[b]?=some e:=by exact rfl) (i:ops[c]?=some f:=by exact rfl) (j:Region.ready .any ops listed=[b,c]:=by kernel_rfl):AV P N ops Q S0 (a+1) listed E S:=AV.all _ j (by simp) ⟨⟨_,h,h0⟩,⟨⟨_,i,g⟩,trivial⟩⟩
theorem V3 (c d e:Nat) {a:Nat} {listed:Array Bool} {f g h:Oper} (h0:OV P N ops Q f E S (fun b w'=>S0 w'∧wpAnyH P .any ops Q S0 a (listed.setIfInBounds c true) b w')) (i:OV P N ops Q g E S (fun b w'=>S0 w'∧wpAnyH P .any ops Q S0 a (listed.setIfInBounds d true) b w')) (j:OV P N ops Q h E S (fun b w'=>S0 w'∧wpAnyH P .any ops Q S0 a (listed.setIfInBounds e true) b w')) (k:ops[c]?=some f:=by exact rfl) (l:ops[d]?=some g:=by exact rfl) (m:ops[e]?=some h:=by exact rfl) (n:Region.ready .any ops listed=[c,d,e]:=by kernel_rfl):AV P N ops Q S0 (a+1) listed E S:=AV.all _ n (by simp) ⟨⟨_,k,h0⟩,⟨⟨_,l,i⟩,⟨⟨_,m,j⟩,trivial⟩⟩⟩
theorem V4 (c d e f:Nat) {a:Nat} {listed:Array Bool} {g h i j:Oper} (h0:OV P N ops Q g E S (fun b w'=>S0 w'∧wpAnyH P .any ops Q S0 a (listed.setIfInBounds c true) b w')) (k:OV P N ops Q h E S (fun b w'=>S0 w'∧wpAnyH P .any ops Q S0 a (listed.setIfInBounds d true) b w')) (l:OV P N ops Q i E S (fun b w'=>S0 w'∧wpAnyH P .any ops Q S0 a (listed.setIfInBounds e true) b w')) (m:OV P N ops Q j E S (fun b w'=>S0 w'∧wpAnyH P .any ops Q S0 a (listed.setIfInBounds f true) b w')) (n:ops[c]?=some g:=by exact rfl) (o:ops[d]?=some h:=by exact rfl) (p:ops[e]?=some i:=by exact rfl) (q:ops[f]?=some j:=by exact rfl) (r:Region.ready .any ops listed=[c,d,e,f]:=by kernel_rfl):AV P N ops Q S0 (a+1) listed E S:=AV.all _ r (by simp) ⟨⟨_,n,h0⟩,⟨⟨_,o,k⟩,⟨⟨_,p,l⟩,⟨⟨_,q,m⟩,trivial⟩⟩⟩⟩
theorem V5 (c d e f g:Nat) {a:Nat} {listed:Array Bool} {h i j k l:Oper} (h0:OV P N ops Q h E S (fun b w'=>S0 w'∧wpAnyH P .any ops Q S0 a (listed.setIfInBounds c true) b w')) (m:OV P N ops Q i E S (fun b w'=>S0 w'∧wpAnyH P .any ops Q S0 a (listed.setIfInBounds d true) b w')) (n:OV P N ops Q j E S (fun b w'=>S0 w'∧wpAnyH P .any ops Q S0 a (listed.setIfInBounds e true) b w')) (o:OV P N ops Q k E S (fun b w'=>S0 w'∧wpAnyH P .any ops Q S0 a (listed.setIfInBounds f true) b w')) (p:OV P N ops Q l E S (fun b w'=>S0 w'∧wpAnyH P .any ops Q S0 a (listed.setIfInBounds g true) b w')) (q:ops[c]?=some h:=by exact rfl) (r:ops[d]?=some i:=by exact rfl) (s:ops[e]?=some j:=by exact rfl) (t:ops[f]?=some k:=by exact rfl) (u:ops[g]?=some l:=by exact rfl) (v:Region.ready .any ops listed=[c,d,e,f,g]:=by kernel_rfl):AV P N ops Q S0 (a+1) listed E S:=AV.all _ v (by simp) ⟨⟨_,q,h0⟩,⟨⟨_,r,m⟩,⟨⟨_,s,n⟩,⟨⟨_,t,o⟩,⟨⟨_,u,p⟩,trivial⟩⟩⟩⟩⟩
theorem Q1 (b:Nat) {c a:Nat} {listed:Array Bool} {d:Oper} (h0:OV P N ops Q d E S (fun e w'=>((listed.setIfInBounds b true).getD c false=true∨S0 w')∧kAh P .any ops Q S0 c a (listed.setIfInBounds b true) e w')) (f:ops[b]?=some d:=by exact rfl) (g:Region.ready .any ops listed=[b]:=by kernel_rfl):AC P N ops Q S0 c (a+1) listed E S:=AC.all _ g (by simp) ⟨⟨_,f,h0⟩,trivial⟩
theorem Q2 (b d:Nat) {c a:Nat} {listed:Array Bool} {f g:Oper} (h0:OV P N ops Q f E S (fun e w'=>((listed.setIfInBounds b true).getD c false=true∨S0 w')∧kAh P .any ops Q S0 c a (listed.setIfInBounds b true) e w')) (h:OV P N ops Q g E S (fun e w'=>((listed.setIfInBounds d true).getD c false=true∨S0 w')∧kAh P .any ops Q S0 c a (listed.setIfInBounds d true) e w')) (i:ops[b]?=some f:=by exact rfl) (j:ops[d]?=some g:=by exact rfl) (k:Region.ready .any ops listed=[b,d]:=by kernel_rfl):AC P N ops Q S0 c (a+1) listed E S:=AC.all _ k (by simp) ⟨⟨_,i,h0⟩,⟨⟨_,j,h⟩,trivial⟩⟩
theorem Q3 (d e f:Nat) {c a:Nat} {listed:Array Bool} {g h i:Oper} (h0:OV P N ops Q g E S (fun b w'=>((listed.setIfInBounds d true).getD c false=true∨S0 w')∧kAh P .any ops Q S0 c a (listed.setIfInBounds d true) b w')) (j:OV P N ops Q h E S (fun b w'=>((listed.setIfInBounds e true).getD c false=true∨S0 w')∧kAh P .any ops Q S0 c a (listed.setIfInBounds e true) b w')) (k:OV P N ops Q i E S (fun b w'=>((listed.setIfInBounds f true).getD c false=true∨S0 w')∧kAh P .any ops Q S0 c a (listed.setIfInBounds f true) b w')) (l:ops[d]?=some g:=by exact rfl) (m:ops[e]?=some h:=by exact rfl) (n:ops[f]?=some i:=by exact rfl) (o:Region.ready .any ops listed=[d,e,f]:=by kernel_rfl):AC P N ops Q S0 c (a+1) listed E S:=AC.all _ o (by simp) ⟨⟨_,l,h0⟩,⟨⟨_,m,j⟩,⟨⟨_,n,k⟩,trivial⟩⟩⟩
theorem ex {M:List Assn} (k:KV N KK E (Hp I0 w0 M)):KV N KK E (Hp I0 w0 (M++R)):=KV.heap (fun _ h=>Hp.sub h) k
theorem E0 (k:KV N KK E (Hp I0 w0 [])):KV N KK E (Hp I0 w0 (R)):=ex (M:=[]) k
theorem E1 {a:Assn} (k:KV N KK E (Hp I0 w0 [a])):KV N KK E (Hp I0 w0 (a::R)):=ex (M:=[a]) k
theorem K1 {a:Assn} (ks:List Nat) (h:kAL ks L=some ([a],R)) (k:KV N KK E (Hp I0 w0 [a])):KV N KK E (Hp I0 w0 L):=KV.sel ks _ h k
theorem E2 {a b:Assn} (k:KV N KK E (Hp I0 w0 [a,b])):KV N KK E (Hp I0 w0 (a::b::R)):=ex (M:=[a,b]) k
theorem K2 {a b:Assn} (ks:List Nat) (h:kAL ks L=some ([a,b],R)) (k:KV N KK E (Hp I0 w0 [a,b])):KV N KK E (Hp I0 w0 L):=KV.sel ks _ h k
theorem E3 {a b c:Assn} (k:KV N KK E (Hp I0 w0 [a,b,c])):KV N KK E (Hp I0 w0 (a::b::c::R)):=ex (M:=[a,b,c]) k
theorem K3 {a b c:Assn} (ks:List Nat) (h:kAL ks L=some ([a,b,c],R)) (k:KV N KK E (Hp I0 w0 [a,b,c])):KV N KK E (Hp I0 w0 L):=KV.sel ks _ h k
theorem E4 {a b c d:Assn} (k:KV N KK E (Hp I0 w0 [a,b,c,d])):KV N KK E (Hp I0 w0 (a::b::c::d::R)):=ex (M:=[a,b,c,d]) k
theorem K4 {a b c d:Assn} (ks:List Nat) (h:kAL ks L=some ([a,b,c,d],R)) (k:KV N KK E (Hp I0 w0 [a,b,c,d])):KV N KK E (Hp I0 w0 L):=KV.sel ks _ h k
theorem E5 {a b c d e:Assn} (k:KV N KK E (Hp I0 w0 [a,b,c,d,e])):KV N KK E (Hp I0 w0 (a::b::c::d::e::R)):=ex (M:=[a,b,c,d,e]) k
theorem K5 {a b c d e:Assn} (ks:List Nat) (h:kAL ks L=some ([a,b,c,d,e],R)) (k:KV N KK E (Hp I0 w0 [a,b,c,d,e])):KV N KK E (Hp I0 w0 L):=KV.sel ks _ h k
theorem E6 {a b c d e f:Assn} (k:KV N KK E (Hp I0 w0 [a,b,c,d,e,f])):KV N KK E (Hp I0 w0 (a::b::c::d::e::f::R)):=ex (M:=[a,b,c,d,e,f]) k
theorem K6 {a b c d e f:Assn} (ks:List Nat) (h:kAL ks L=some ([a,b,c,d,e,f],R)) (k:KV N KK E (Hp I0 w0 [a,b,c,d,e,f])):KV N KK E (Hp I0 w0 L):=KV.sel ks _ h k
theorem E7 {a b c d e f g:Assn} (k:KV N KK E (Hp I0 w0 [a,b,c,d,e,f,g])):KV N KK E (Hp I0 w0 (a::b::c::d::e::f::g::R)):=ex (M:=[a,b,c,d,e,f,g]) k
theorem K7 {a b c d e f g:Assn} (ks:List Nat) (h:kAL ks L=some ([a,b,c,d,e,f,g],R)) (k:KV N KK E (Hp I0 w0 [a,b,c,d,e,f,g])):KV N KK E (Hp I0 w0 L):=KV.sel ks _ h k
theorem E8 {a b c d e f g h:Assn} (k:KV N KK E (Hp I0 w0 [a,b,c,d,e,f,g,h])):KV N KK E (Hp I0 w0 (a::b::c::d::e::f::g::h::R)):=ex (M:=[a,b,c,d,e,f,g,h]) k
theorem K8 {a b c d e f g i:Assn} (ks:List Nat) (h:kAL ks L=some ([a,b,c,d,e,f,g,i],R)) (k:KV N KK E (Hp I0 w0 [a,b,c,d,e,f,g,i])):KV N KK E (Hp I0 w0 L):=KV.sel ks _ h k
theorem E9 {a b c d e f g h i:Assn} (k:KV N KK E (Hp I0 w0 [a,b,c,d,e,f,g,h,i])):KV N KK E (Hp I0 w0 (a::b::c::d::e::f::g::h::i::R)):=ex (M:=[a,b,c,d,e,f,g,h,i]) k
theorem K9 {a b c d e f g i j:Assn} (ks:List Nat) (h:kAL ks L=some ([a,b,c,d,e,f,g,i,j],R)) (k:KV N KK E (Hp I0 w0 [a,b,c,d,e,f,g,i,j])):KV N KK E (Hp I0 w0 L):=KV.sel ks _ h k
theorem E10 {a b c d e f g h i j:Assn} (k:KV N KK E (Hp I0 w0 [a,b,c,d,e,f,g,h,i,j])):KV N KK E (Hp I0 w0 (a::b::c::d::e::f::g::h::i::j::R)):=ex (M:=[a,b,c,d,e,f,g,h,i,j]) k
theorem K10 {a b c d e f g i j l:Assn} (ks:List Nat) (h:kAL ks L=some ([a,b,c,d,e,f,g,i,j,l],R)) (k:KV N KK E (Hp I0 w0 [a,b,c,d,e,f,g,i,j,l])):KV N KK E (Hp I0 w0 L):=KV.sel ks _ h k
theorem E11 {b c d e f g h i j l a:Assn} (k:KV N KK E (Hp I0 w0 [b,c,d,e,f,g,h,i,j,l,a])):KV N KK E (Hp I0 w0 (b::c::d::e::f::g::h::i::j::l::a::R)):=ex (M:=[b,c,d,e,f,g,h,i,j,l,a]) k
theorem K11 {b c d e f g i j l m a:Assn} (ks:List Nat) (h:kAL ks L=some ([b,c,d,e,f,g,i,j,l,m,a],R)) (k:KV N KK E (Hp I0 w0 [b,c,d,e,f,g,i,j,l,m,a])):KV N KK E (Hp I0 w0 L):=KV.sel ks _ h k
theorem E12 {c d e f g h i j l m a b:Assn} (k:KV N KK E (Hp I0 w0 [c,d,e,f,g,h,i,j,l,m,a,b])):KV N KK E (Hp I0 w0 (c::d::e::f::g::h::i::j::l::m::a::b::R)):=ex (M:=[c,d,e,f,g,h,i,j,l,m,a,b]) k
theorem K12 {c d e f g i j l m n a b:Assn} (ks:List Nat) (h:kAL ks L=some ([c,d,e,f,g,i,j,l,m,n,a,b],R)) (k:KV N KK E (Hp I0 w0 [c,d,e,f,g,i,j,l,m,n,a,b])):KV N KK E (Hp I0 w0 L):=KV.sel ks _ h k
theorem E13 {d e f g h i j l m n a b c:Assn} (k:KV N KK E (Hp I0 w0 [d,e,f,g,h,i,j,l,m,n,a,b,c])):KV N KK E (Hp I0 w0 (d::e::f::g::h::i::j::l::m::n::a::b::c::R)):=ex (M:=[d,e,f,g,h,i,j,l,m,n,a,b,c]) k
theorem K13 {d e f g i j l m n o a b c:Assn} (ks:List Nat) (h:kAL ks L=some ([d,e,f,g,i,j,l,m,n,o,a,b,c],R)) (k:KV N KK E (Hp I0 w0 [d,e,f,g,i,j,l,m,n,o,a,b,c])):KV N KK E (Hp I0 w0 L):=KV.sel ks _ h k
theorem E14 {e f g h i j l m n o a b c d:Assn} (k:KV N KK E (Hp I0 w0 [e,f,g,h,i,j,l,m,n,o,a,b,c,d])):KV N KK E (Hp I0 w0 (e::f::g::h::i::j::l::m::n::o::a::b::c::d::R)):=ex (M:=[e,f,g,h,i,j,l,m,n,o,a,b,c,d]) k
theorem K14 {e f g i j l m n o p a b c d:Assn} (ks:List Nat) (h:kAL ks L=some ([e,f,g,i,j,l,m,n,o,p,a,b,c,d],R)) (k:KV N KK E (Hp I0 w0 [e,f,g,i,j,l,m,n,o,p,a,b,c,d])):KV N KK E (Hp I0 w0 L):=KV.sel ks _ h k
theorem E15 {f g h i j l m n o p a b c d e:Assn} (k:KV N KK E (Hp I0 w0 [f,g,h,i,j,l,m,n,o,p,a,b,c,d,e])):KV N KK E (Hp I0 w0 (f::g::h::i::j::l::m::n::o::p::a::b::c::d::e::R)):=ex (M:=[f,g,h,i,j,l,m,n,o,p,a,b,c,d,e]) k
theorem E16 {g h i j l m n o p q a b c d e f:Assn} (k:KV N KK E (Hp I0 w0 [g,h,i,j,l,m,n,o,p,q,a,b,c,d,e,f])):KV N KK E (Hp I0 w0 (g::h::i::j::l::m::n::o::p::q::a::b::c::d::e::f::R)):=ex (M:=[g,h,i,j,l,m,n,o,p,q,a,b,c,d,e,f]) k
theorem K16 {g i j l m n o p q r a b c d e f:Assn} (ks:List Nat) (h:kAL ks L=some ([g,i,j,l,m,n,o,p,q,r,a,b,c,d,e,f],R)) (k:KV N KK E (Hp I0 w0 [g,i,j,l,m,n,o,p,q,r,a,b,c,d,e,f])):KV N KK E (Hp I0 w0 L):=KV.sel ks _ h k
theorem E17 {h i j l m n o p q r a b c d e f g:Assn} (k:KV N KK E (Hp I0 w0 [h,i,j,l,m,n,o,p,q,r,a,b,c,d,e,f,g])):KV N KK E (Hp I0 w0 (h::i::j::l::m::n::o::p::q::r::a::b::c::d::e::f::g::R)):=ex (M:=[h,i,j,l,m,n,o,p,q,r,a,b,c,d,e,f,g]) k
theorem K17 {i j l m n o p q r s a b c d e f g:Assn} (ks:List Nat) (h:kAL ks L=some ([i,j,l,m,n,o,p,q,r,s,a,b,c,d,e,f,g],R)) (k:KV N KK E (Hp I0 w0 [i,j,l,m,n,o,p,q,r,s,a,b,c,d,e,f,g])):KV N KK E (Hp I0 w0 L):=KV.sel ks _ h k
theorem E18 {i j l m n o p q r s a b c d e f g h:Assn} (k:KV N KK E (Hp I0 w0 [i,j,l,m,n,o,p,q,r,s,a,b,c,d,e,f,g,h])):KV N KK E (Hp I0 w0 (i::j::l::m::n::o::p::q::r::s::a::b::c::d::e::f::g::h::R)):=ex (M:=[i,j,l,m,n,o,p,q,r,s,a,b,c,d,e,f,g,h]) k
theorem E19 {j l m n o p q r s t a b c d e f g h i:Assn} (k:KV N KK E (Hp I0 w0 [j,l,m,n,o,p,q,r,s,t,a,b,c,d,e,f,g,h,i])):KV N KK E (Hp I0 w0 (j::l::m::n::o::p::q::r::s::t::a::b::c::d::e::f::g::h::i::R)):=ex (M:=[j,l,m,n,o,p,q,r,s,t,a,b,c,d,e,f,g,h,i]) k
theorem Zw (k:Nat) {d:TypeId} {ze:Value} {e by_ b o:Nat} {a:Array Value} (vs:List Value) (cs:Array Value) [i:Inf P t ze e by_] (f:RV P N ops Q rest E (Hp I0 w0 (L.set k (Blk b (.cells cs d (0,0)))))) (h:ev E x=some (.pointer (some ⟨b,o,none⟩)):=by exact rfl) (j:ev E y=some v:=by exact rfl) (l:L[k]?=some (Blk b (.cells a d (0,0))):=by exact rfl) (m:v.cells=vs.toArray:=by exact rfl) (c:(a.toList.take o++vs++a.toList.drop (o+vs.length)).toArray=cs:=by exact rfl) (n:vs.length=e:=by exact rfl) (p:o+vs.length≤a.size:=by exact qV rfl) (q: ∀v∈vs,v.oneCell'=true:=by simp[Value.oneCell']) (r:Yes N ops ⟨none,.store t x y,ty,pos,af,g⟩ E:=by first|exact gno|exact gyes rfl):RV P N ops Q (⟨none,.store t x y,ty,pos,af,g⟩::rest) E (Hp I0 w0 L):=RV.op (Yw k vs cs h j l m c f n p q r)
theorem An (S0:World→Prop) (n:Nat) {id:Nat} {l:List Oper} (h:AV P N l.toArray Q S0 n (Array.replicate n false) E S) (a:P.follows .mixedOrders=true:=by kernel_rfl) (b: ∀w,S w→S w.drew:=by exact fun _ h=>h.drew) (c:l.length=n:=by exact rfl):CV P N (.region id l.toArray true) Q E S:=CV.any S0 a b n c h
theorem Ac (S0:World→Prop) (c n:Nat) {id:Nat} {l:List Oper} (h:AC P N l.toArray Q S0 c n (Array.replicate n false) E S) (a:P.follows .mixedOrders=true:=by kernel_rfl) (b: ∀w,S w→S w.drew:=by exact fun _ h=>h.drew) (d:l.length=n:=by exact rfl):CV P N (.region id l.toArray true) Q E S:=CV.anyC S0 c a b n d h
theorem Zs {id:Nat} {l:List Oper} (h:SV P N l.toArray (Q .normal) l E S) (a:P.follows .mixedOrders=true:=by kernel_rfl) (b: ∀w,S w→S w.drew:=by exact fun _ h=>h.drew) (c:Region.lexB .any l.toArray=true:=by kernel_rfl):CV P N (.region id l.toArray true) Q E S:=CV.still a c b h
theorem Zt (n:Nat) {id:Nat} {l:List Oper} (h:SV P N l.toArray (wpList P l.toArray Q (l.drop n)) (l.take n) E S) (a:P.follows .mixedOrders=true:=by kernel_rfl) (b: ∀w,S w→S w.drew:=by exact fun _ h=>h.drew) (c:Region.lexTailB .any l.toArray n=true:=by kernel_rfl):CV P N (.region id l.toArray true) Q E S:=CV.stillTail n a c b h
end
inductive SJq:Nat→Prop→Prop→Prop
 |z {A:Prop}:SJq 0 A A
 |s {n:Nat} {A B C:Prop} (r:SJq n B C) (t:C→A):SJq (n+1) B A
theorem SJq.go {n:Nat} {A B:Prop} (h:SJq n B A):B→A:=by
 induction h with
 |z=>exact id
 |s _ t a=>exact fun k=>t (a k)
theorem SJq.c {n:Nat} {A B C:Prop} (t:C→A) (r:SJq n B C):SJq (n+1) B A:= .s r t
theorem Jj (n:Nat) {A B:Prop} (k:B) (s:SJq n B A:=by repeat first|exact SJq.z|(apply SJq.c;exact Gs)):A:=s.go k
def SIq (i:Nat) (B A:Prop):Prop:=B→A
inductive SWq:Nat→Nat→Prop→Prop→Prop
 |z {i:Nat} {A:Prop}:SWq i 0 A A
 |s {i n:Nat} {A B C:Prop} (r:SWq (i+1) n B C) (t:SIq i C A):SWq i (n+1) B A
theorem SWq.go {i n:Nat} {A B:Prop} (h:SWq i n B A):B→A:=by
 induction h with
 |z=>exact id
 |s _ t a=>exact fun k=>t (a k)
section
variable {P:Program} {N:NN} {E:Env} {S S0:World→Prop} {ops:Array Oper} {Q:Exit→Act→World→Prop} {rest:List Oper} {KK:Act→World→Prop} {T:Act→World→Prop}
variable {d:Nat} {ty:TypeId} {pos:String} {af:Array Edge} {g:Option (Nat×Bool)} {x y z:Operand} {v u:Value} {op:Op} {t:TypeId} {D:TypeDesc}
variable {I0:Ids} {w0:World} {L R:List Assn} {dd:Option Nat}
theorem SIq.m {i b:Nat} {listed:Array Bool} (f:ops[i]?=some ⟨some d,op,ty,pos,af,g⟩:=by exact rfl) (h:Step P N E S0 ⟨some d,op,ty,pos,af,g⟩ v:=by exact At) (j: ∀w,S w→S0 w:=by exact Ho) (l:Yes N ops ⟨some d,op,ty,pos,af,g⟩ E:=by first|exact gno|exact gyes rfl) (o:Nat.blt d N.n=true:=by exact rfl) (hs:Region.noSelect ops=true:=by kernel_rfl) (e:Region.free .any ops listed i=true:=by kernel_rfl) (p:(Region.ready .any ops listed).contains i=true:=by kernel_rfl) (q: ∀c a w,Q (.panic c) (a.put (some d) v) w→Q (.panic c) a w:=by with_unfolding_all exact fun _ _ _ h=>h):SIq i (AV P N ops Q S0 b (listed.setIfInBounds i true) (set E d v) S) (AV P N ops Q S0 (b+1) listed E S):=fun k=>AV.take i _ f hs e p q l h o j rfl k
theorem SIq.k {i e j:Nat} {b:Bool} {listed:Array Bool} (g:ops[i]?=some ⟨some d,op,ty,pos,af,some (j,b)⟩:=by exact rfl) (l: ∀w,S w→S0 w:=by exact Ho) (m:kBi ops E j=some (!b):=by exact rfl) (o:Nat.blt d N.n=true:=by exact rfl) (hs:Region.noSelect ops=true:=by kernel_rfl) (f:Region.free .any ops listed i=true:=by kernel_rfl) (p:(Region.ready .any ops listed).contains i=true:=by kernel_rfl) (q: ∀c a w,Q (.panic c) (a.put (some d) undef) w→Q (.panic c) a w:=by with_unfolding_all exact fun _ _ _ h=>h):SIq i (AV P N ops Q S0 e (listed.setIfInBounds i true) (set E d undef) S) (AV P N ops Q S0 (e+1) listed E S):=fun k=>AV.takeSkip i _ g hs f p q m o l rfl k
theorem SIq.q {i e j:Nat} {b:Bool} {listed:Array Bool} (g:ops[i]?=some ⟨some d,op,ty,pos,af,some (j,b)⟩:=by exact rfl) (l: ∀w,S w→S0 w:=by exact Ho) (m:kFh ops E j=true:=by exact rfl) (o:Nat.blt d N.n=true:=by exact rfl) (hs:Region.noSelect ops=true:=by kernel_rfl) (f:Region.free .any ops listed i=true:=by kernel_rfl) (p:(Region.ready .any ops listed).contains i=true:=by kernel_rfl) (r: ∀c a w,Q (.panic c) (a.put (some d) undef) w→Q (.panic c) a w:=by with_unfolding_all exact fun _ _ _ h=>h):SIq i (AV P N ops Q S0 e (listed.setIfInBounds i true) (set E d undef) S) (AV P N ops Q S0 (e+1) listed E S):=fun k=>AV.takeSkipU i _ g hs f p r m o l rfl k
theorem SWq.c {i n:Nat} {A B C:Prop} (t:SIq i C A) (r:SWq (i+1) n B C):SWq i (n+1) B A:= .s r t
theorem Wr (i n:Nat) {A B:Prop} (k:B) (s:SWq i n B A:=by repeat first|exact SWq.z|(apply SWq.c;first|exact SIq.m|exact SIq.k|exact SIq.q)):A:=s.go k
theorem Yo {f:FuncId} {fn:Func} {i:Nat} {vs:List Value} {args:List Operand} {ts:Array TypeId} [c:Fnc P f fn i] (j:evs E args=some vs) (a: ∀w,Hp I0 w0 L w→Fx P f vs w [] no (fun b e=>b=v∧e=[])) (k:KV N KK (set E d v) (Hp I0 w0 L)) (l:Yes N ops ⟨some d,.call ⟨.value (.func f),args.toArray,ts⟩,ty,pos,af,g⟩ E:=by first|exact gno|exact gyes rfl) (m:Nat.blt d N.n=true:=by exact rfl):OV P N ops Q ⟨some d,.call ⟨.value (.func f),args.toArray,ts⟩,ty,pos,af,g⟩ E (Hp I0 w0 L) KK:=Yc [] j rfl a (fun b e h=>by obtain⟨o,p⟩:=h;subst o;subst p;rw[qK];exact k) (fun _ q=>q.elim) l m
theorem Yr {f:FuncId} {fn:Func} {b:Nat} {vs:List Value} {args:List Operand} {ts:Array TypeId} [c:Fnc P f fn b] (e:evs E args=some vs) (a: ∀w,Hp I0 w0 L w→Fx P f vs w [] no (fun h i=>h=v∧i=[])) (k:RV P N ops Q rest (set E d v) (Hp I0 w0 L)) (j:Yes N ops ⟨some d,.call ⟨.value (.func f),args.toArray,ts⟩,ty,pos,af,g⟩ E:=by first|exact gno|exact gyes rfl) (l:Nat.blt d N.n=true:=by exact rfl):RV P N ops Q (⟨some d,.call ⟨.value (.func f),args.toArray,ts⟩,ty,pos,af,g⟩::rest) E (Hp I0 w0 L):=RV.op (Yo e a k j l)
section
variable {α:Type} {K:Enc α} {A B:Option Addr} {ys zs:List α} {c m n:Nat} {e:TypeId}
theorem Yg (k:Nat) {ze:Value} {f by_ cB:Nat} [C:US P t e] [D:Inf P e ze f by_] (j: ∀h i,KV N KK (set E d (.slice h (ys++zs).length i)) (Hp I0 w0 (L.set k (OS e K h i (ys++zs))))) (l:ev E x=some (.slice A n c):=by exact rfl) (o:ev E y=some (.slice B m cB):=by exact rfl) (p:L[k]?=some (OS e K A c ys):=by exact rfl) (q: ∀w,Hp I0 w0 L w→RS w K B zs:=by exact Rd) (r:n=ys.length:=by exact rfl) (a:m=zs.length:=by exact rfl) (s:(ys.length+zs.length)* by_≤140737488355328:=by first|omega|(simp only[qD,qE,qF,qH,qG,qB,qC];omega)) (hs:f=K.sz:=by exact rfl) (b:ze.cells.size=K.sz:=by exact rfl) (u:0<by_:=by decide) (v:Yes N ops ⟨some d,.call ⟨.builtin .append,#[x,y],#[t,t]⟩,ty,pos,af,g⟩ E:=by first|exact gno|exact gyes rfl) (z:Nat.blt d N.n=true:=by exact rfl):OV P N ops Q ⟨some d,.call ⟨.builtin .append,#[x,y],#[t,t]⟩,ty,pos,af,g⟩ E (Hp I0 w0 L) KK:=Ye k l o r a p q s j hs b u v z
theorem Yh (k:Nat) {ze:Value} {f by_ cB:Nat} [C:US P t e] [D:Inf P e ze f by_] (j: ∀h i,RV P N ops Q rest (set E d (.slice h (ys++zs).length i)) (Hp I0 w0 (L.set k (OS e K h i (ys++zs))))) (l:ev E x=some (.slice A n c):=by exact rfl) (o:ev E y=some (.slice B m cB):=by exact rfl) (p:L[k]?=some (OS e K A c ys):=by exact rfl) (q: ∀w,Hp I0 w0 L w→RS w K B zs:=by exact Rd) (r:n=ys.length:=by exact rfl) (a:m=zs.length:=by exact rfl) (s:(ys.length+zs.length)* by_≤140737488355328:=by first|omega|(simp only[qD,qE,qF,qH,qG,qB,qC];omega)) (hs:f=K.sz:=by exact rfl) (b:ze.cells.size=K.sz:=by exact rfl) (u:0<by_:=by decide) (v:Yes N ops ⟨some d,.call ⟨.builtin .append,#[x,y],#[t,t]⟩,ty,pos,af,g⟩ E:=by first|exact gno|exact gyes rfl) (z:Nat.blt d N.n=true:=by exact rfl):RV P N ops Q (⟨some d,.call ⟨.builtin .append,#[x,y],#[t,t]⟩,ty,pos,af,g⟩::rest) E (Hp I0 w0 L):=RV.op (Yg k j l o p q r a s hs b u v z)
theorem Zb {ps:List (Nat×Operand)} {vs:List (Nat×Value)} (ys:List α) {cs:Array Value} (h: ∀w,(Instr.buildSlice t n vs.toArray).run P w= .ok (.slice (some ⟨w.heap.size,0,none⟩) n n) (w.alloc (.cells cs e))) (k: ∀A,KV N KK (set E d (.slice A ys.length ys.length)) (Hp I0 w0 (L++[OS e K A ys.length ys]))) (b:evp E ps=some vs:=by exact rfl) (c:n=ys.length:=by exact rfl) (a:cs.toList=flat K ys:=by exact rfl) (f:n≤1000000:=by omega) (i:Yes N ops ⟨some d,.buildSlice t n ps.toArray,ty,pos,af,g⟩ E:=by first|exact gno|exact gyes rfl) (j:Nat.blt d N.n=true:=by exact rfl):OV P N ops Q ⟨some d,.buildSlice t n ps.toArray,ty,pos,af,g⟩ E (Hp I0 w0 L) KK:=OV.buildSlice ys b h c a f i j k
theorem Zc {ps:List (Nat×Operand)} {vs:List (Nat×Value)} (ys:List α) {cs:Array Value} (h: ∀w,(Instr.buildSlice t n vs.toArray).run P w= .ok (.slice (some ⟨w.heap.size,0,none⟩) n n) (w.alloc (.cells cs e))) (k: ∀A,RV P N ops Q rest (set E d (.slice A ys.length ys.length)) (Hp I0 w0 (L++[OS e K A ys.length ys]))) (b:evp E ps=some vs:=by exact rfl) (c:n=ys.length:=by exact rfl) (a:cs.toList=flat K ys:=by exact rfl) (f:n≤1000000:=by omega) (i:Yes N ops ⟨some d,.buildSlice t n ps.toArray,ty,pos,af,g⟩ E:=by first|exact gno|exact gyes rfl) (j:Nat.blt d N.n=true:=by exact rfl):RV P N ops Q (⟨some d,.buildSlice t n ps.toArray,ty,pos,af,g⟩::rest) E (Hp I0 w0 L):=RV.op (Zb ys h k b c a f i j)
theorem Zm {ze:Value} {h by_:Nat} {l m:IntKind} {i j:Int} [w:US P t e] [z:Inf P e ze h by_] (n:Nat) (a:α) (k: ∀A,KV N KK (set E d (.slice A n n)) (Hp I0 w0 (L++[OS e K A n (List.replicate n a)]))) (o:ev E x=some (.int l i):=by exact rfl) (p:ev E y=some (.int m j):=by exact rfl) (b:i=(n:Int):=by exact rfl) (c:j=(n:Int):=by exact rfl) (q:ze.cells.toList=K.f a:=by exact rfl) (hs:h=K.sz:=by exact rfl) (r:by_* n≤281474976710656:=by omega) (s:n≤9223372036854775807:=by omega) (u:Yes N ops ⟨some d,.makeSlice t x y,ty,pos,af,g⟩ E:=by first|exact gno|exact gyes rfl) (v:Nat.blt d N.n=true:=by exact rfl):OV P N ops Q ⟨some d,.makeSlice t x y,ty,pos,af,g⟩ E (Hp I0 w0 L) KK:=Ym n n a o p b c k q hs (qU _) r s u v
end
theorem St (h:Step P N E S ⟨some d,op,ty,pos,af,g⟩ v) (k:KV N KK (set E d v) S) (a:Yes N ops ⟨some d,op,ty,pos,af,g⟩ E:=by first|exact gno|exact gyes rfl) (b:Nat.blt d N.n=true:=by exact rfl):OV P N ops Q ⟨some d,op,ty,pos,af,g⟩ E S KK:=OV.step a h b k
theorem Ju {j:Nat} {b:Bool} (k:RV P N ops Q rest (set E d undef) S) (a:kFh ops E j=true:=by exact rfl) (c:Nat.blt d N.n=true:=by exact rfl):RV P N ops Q (⟨some d,op,ty,pos,af,some (j,b)⟩::rest) E S:=RV.op (OV.skipU a c k)
theorem Rs {n:Nat} {fn:Func} {I:Ids} {w:World} {post:Value→List Assn→Prop} {t:Tmp} (b:fn.results= #[.tmp t]) (c:get E t=some v) (d:post v []):KV ⟨n,[]⟩ (bodyPost P fn (fun e w'=> ∃v a,e= .returned v∧post v a∧Hp I w a w') .ret) E (Hp I w L):=KV.ret1 b c _ (fun _ h=>h.sel [] rfl) d
theorem Rt {n:Nat} {fn:Func} {I:Ids} {w:World} {post:Value→List Assn→Prop} {t1 t2:Tmp} {v1 v2:Value} (b:fn.results= #[.tmp t1,.tmp t2]) (c:get E t1=some v1) (d:get E t2=some v2) (f:post (.tuple #[v1,v2]) []):KV ⟨n,[]⟩ (bodyPost P fn (fun e w'=> ∃v a,e= .returned v∧post v a∧Hp I w a w') .ret) E (Hp I w L):=KV.ret2 b c d _ (fun _ h=>h.sel [] rfl) f
section
variable {α β γ δ:Type}
theorem La {inv:α→Prop} {m:α→Nat} {G:α→Env} {T:α→World→Prop} {z:α} (b:α) (d:inv b) (c:m b<m z:=by omega) (e:Sub (G b) E:=by exact sb rfl) (f: ∀w,S w→T b w:=by exact fun _ h=>h):KV N (fun a w=> ∃b,(inv b∧m b<m z)∧Fits N a (G b)∧T b w) E S:=KV.loopI b d c e f
theorem Ca {c:Code} (inv:α→Prop) (m:α→Nat) (G:α→Env) (T:α→World→Prop) (b:α) (h0:inv b) (round: ∀z,inv z→CV P N c (Exit.then (fun a w=> ∃d,(inv d∧m d<m z)∧Fits N a (G d)∧T d w) Q) (G z) (T z)) (e:Sub (G b) E:=by exact sb rfl) (f: ∀w,S w→T b w:=by exact fun _ h=>h):CV P N (.loop c) Q E S:=CV.loopI inv m G T b h0 e f round
theorem Lb {inv:α→β→Prop} {m:α→β→Nat} {G:α→β→Env} {T:α→β→World→Prop} {x:α} {y:β} (b:α) (c:β) (e:inv b c) (d:m b c<m x y:=by omega) (f:Sub (G b c) E:=by exact sb rfl) (g: ∀w,S w→T b c w:=by exact fun _ h=>h):KV N (fun a w=> ∃b c,(inv b c∧m b c<m x y)∧Fits N a (G b c)∧T b c w) E S:=KV.loop2 b c e d f g
theorem Cb {c:Code} (inv:α→β→Prop) (m:α→β→Nat) (G:α→β→Env) (T:α→β→World→Prop) (b:α) (d:β) (h0:inv b d) (round: ∀x y,inv x y→CV P N c (Exit.then (fun a w=> ∃e f,(inv e f∧m e f<m x y)∧Fits N a (G e f)∧T e f w) Q) (G x y) (T x y)) (g:Sub (G b d) E:=by exact sb rfl) (i: ∀w,S w→T b d w:=by exact fun _ h=>h):CV P N (.loop c) Q E S:=CV.loop2 inv m G T b d h0 g i round
theorem Cc {c:Code} (inv:α→β→γ→Prop) (m:α→β→γ→Nat) (G:α→β→γ→Env) (T:α→β→γ→World→Prop) (b:α) (d:β) (e:γ) (h0:inv b d e) (round: ∀x y z,inv x y z→CV P N c (Exit.then (fun a w=> ∃f g i,(inv f g i∧m f g i<m x y z)∧Fits N a (G f g i)∧T f g i w) Q) (G x y z) (T x y z)) (j:Sub (G b d e) E:=by exact sb rfl) (k: ∀w,S w→T b d e w:=by exact fun _ h=>h):CV P N (.loop c) Q E S:=CV.loop3 inv m G T b d e h0 j k round
theorem Da {c:Code} (inv:α→Prop) (m:α→Nat) (M:Env) (G:α→Env) (T:α→World→Prop) (b:α) (h0:inv b) (round: ∀z,inv z→CV P N c (Exit.then (fun a w=> ∃d,(inv d∧m d<m z)∧Fits N a (M++G d)∧T d w) Q) (M++G z) (T z)) (e:Sub (M++G b) E:=by exact sb rfl) (f: ∀w,S w→T b w:=by exact fun _ h=>h):CV P N (.loop c) Q E S:=CV.loopI inv m (fun z=>M++G z) T b h0 e f round
theorem Db {c:Code} (inv:α→β→Prop) (m:α→β→Nat) (M:Env) (G:α→β→Env) (T:α→β→World→Prop) (b:α) (d:β) (h0:inv b d) (round: ∀x y,inv x y→CV P N c (Exit.then (fun a w=> ∃e f,(inv e f∧m e f<m x y)∧Fits N a (M++G e f)∧T e f w) Q) (M++G x y) (T x y)) (g:Sub (M++G b d) E:=by exact sb rfl) (i: ∀w,S w→T b d w:=by exact fun _ h=>h):CV P N (.loop c) Q E S:=CV.loop2 inv m (fun x y=>M++G x y) T b d h0 g i round
theorem Ld {G:α→Env} {T:α→World→Prop} (z:α) (b:Sub (G z) E:=by exact sb rfl) (c: ∀w,S w→T z w:=by exact fun _ h=>h):KV N (fun a w=> ∃z,Fits N a (G z)∧T z w) E S:=KV.join z b c
theorem Vp {a:Nat} {listed lt:Array Bool} {E0:Env} {S1:World→Prop} (h:AV P N ops Q S0 a lt E0 S1) (b:Sub E0 E:=by exact sb rfl) (c: ∀w,S w→S1 w:=by exact Ho) (d:listed=lt:=by kernel_rfl):AV P N ops Q S0 a listed E S:=Vo h b c d
end
end
end Go.Tk
namespace Go.Sv
section
variable {P:Program} {f:FuncId} {vs:List Value} {w:World} {Own:List Assn} {ro:Ids} {post:Value→List Assn→Prop}
def FxD (P:Program) (f:FuncId) (vs:List Value) (w:World) (Own:List Assn) (ro:Ids) (post:Value→List Assn→Prop):Prop:=
 ∀I:Ids,Sep Own I w→(∀b,ro b→ ¬I b)→ ∀u,CallsD P f vs.toArray u w (fun e u' w'=>u'=u∧ ∃v L',e= .returned v∧post v L'∧Hp I w L' w')
theorem FxD.body {fn:Func} {c:Code} {N:Nat} (g:P.funcs[f]?=some fn) (i:fn.body=some c) (k:fn.ntmps=N) (l:Nat.ble vs.length N=true)
 (h: ∀I:Ids,(∀b,ro b→ ¬I b)→Sep Own I w→CV P ⟨N,[]⟩ c (bodyPost P fn (fun e w'=> ∃v d,e= .returned v∧post v d∧Hp I w d w')) (params 0 vs) (Hp I w Own)):FxD P f vs w Own ro post:=by
 intro I hI a u;refine callsD_of_wp g i (h I a hI _ _ ⟨rfl,?_,fun t v j=>?_⟩ (Hp.start hI))
 ·simp_all
 ·obtain⟨_,m⟩:=kAw vs 0 t v j
  grind
def kRj (P:Program) (fn:Func) (R:Ending→World→Prop):Exit→Act→World→Prop
 | .normal,a,w| .ret,a,w=>Leaves P fn a.tmps R a.defers .returning w
 |_,_,_=>False
theorem Fx.bodyD {fn:Func} {c:Code} {N:Nat} (i:P.funcs[f]?=some fn) (j:fn.body=some c) (l:fn.ntmps=N) (m:Nat.ble vs.length N=true)
 (h: ∀I:Ids,(∀b,ro b→ ¬I b)→Sep Own I w→CV P ⟨N,[]⟩ c (kRj P fn (fun e w'=> ∃v d,e= .returned v∧post v d∧Hp I w d w')) (params 0 vs) (Hp I w Own)):Fx P f vs w Own ro post:=by
 intro I hI a;refine calls_of_wp_defers i j (wp_mono (h I a hI _ _ ⟨rfl,?_,fun t v k=>?_⟩ (Hp.start hI)) fun e n w' g=>by cases e<;>first|exact g|exact g.elim)
 ·simp_all
 ·obtain⟨_,o⟩:=kAw vs 0 t v k
  grind
end
section
variable {P:Program} {I0:Ids} {w0:World} {L Own F:List Assn}
theorem CallsD.frame {f:FuncId} {vs:List Value} {w:World} {u:FrameMode} {ks:List Nat} {ro:Ids} {post:Value→List Assn→Prop} (B:kAL ks L=some (Own,F)) (hs:Hp I0 w0 L w) (p: ∀b,ro b→RoOk I0 w0 F b)
 (h:FxD P f vs w Own ro post):CallsD P f vs.toArray u w (fun e u' w'=>u'=u∧ ∃v m,e= .returned v∧post v m∧Hp I0 w0 (F++m) w'):=by
 obtain⟨I,d,r,C⟩:=hs.perm (kAg B);obtain⟨D,s,hI,E,G,n⟩:=Sep.append.1 d;refine(h D G (fun b H J=>?_) u).mono ?_
 ·rcases p b H with ⟨g,t⟩|⟨j,A,K,Q⟩
  ·grind
  ·obtain⟨i,R,M,_,N,_⟩:=n.perm (kAN K)
   grind
 ·rintro e u' w' ⟨O,v,m,rfl,a,y,q,z,k⟩;refine⟨O,v,m,rfl,a,fun x=>s x∨y x,Sep.append.2 ⟨s,y,fun _=>Iff.rfl,fun x g t=>?_,n.keep fun x l=>z.block x (n.lt x l) fun c=>E x c l,q⟩,r.trans z fun x c=>C x ((hI x).2 (.inl c)),?_⟩
  ·rcases k x t with o|o
   ·grind
   ·have:=n.lt x g;omega
  ·rintro x (g|g)
   ·grind
   ·rcases k x g with o|o
    ·grind
    ·exact .inr (qk r.size o)
variable {N:NN} {ops:Array Oper} {Q:Exit→Act→World→Prop} {E:Env} {S:World→Prop} {KK:Act→World→Prop}
theorem OV.defer {d:Option Nat} {n:Nat} {D:List Deferred} {f:FuncId} {vs:List Value} {args:List Operand} {ts:Array TypeId} {ty:TypeId} {pos:String} {af:Array Edge} {g:Option (Nat×Bool)}
 (e:d=none) (h:evs E args=some vs) (i:Yes ⟨n,D⟩ ops ⟨d,.defer ⟨.value (.func f),args.toArray,ts⟩,ty,pos,af,g⟩ E)
 (k:KV ⟨n,⟨.fn (.func f) #[],vs.toArray⟩::D⟩ KK E S):OV P ⟨n,D⟩ ops Q ⟨d,.defer ⟨.value (.func f),args.toArray,ts⟩,ty,pos,af,g⟩ E S KK:=fun a w b j=>by
 subst e;rw[if_pos (i a b)];unfold Oper.wp;have l:a.eval (.func f)= .func (.func f) #[] #[]:=rfl;have m:args.toArray.map a.eval=vs.toArray:=by rw[←b.evs h];simp
 have c:(execOp a.eval ⟨none,.defer ⟨.value (.func f),args.toArray,ts⟩,ty,pos,af,g⟩).run P w= .ok (.defer ⟨.fn (.func f) #[],vs.toArray⟩) w:=by
  simp_all[execOp,resolve,Deferred.ofValue]
 rw[c,Oper.upon_defer];exact k _ _ ⟨by show _::a.defers=_;rw[b.defers],b.size,b.slot⟩ j
theorem KV.retD (ks:List Nat) {n:Nat} {fn i:Func} {g:FuncId} {c:List Value} {ro:Ids} {q post:Value→List Assn→Prop} {t:Tmp} {v:Value} (u:fn.results= #[.tmp t]) (x:get E t=some v)
 (y:P.funcs[g]?=some i) (m:i.body.isSome=true) (o:(i.name== "runtime.NumGoroutine")=false) (z:kAL ks L=some (Own,F)) (j: ∀w,Hp I0 w0 L w→FxD P g c w Own ro q) (p: ∀b,ro b→RoOk I0 w0 F b)
 (k: ∀v2 d,q v2 d→ ∃l,post v l∧ ∀w,Hp I0 w0 (F++d) w→Hp I0 w0 l w):
 KV ⟨n,[⟨.fn (.func g) #[],c.toArray⟩]⟩ (kRj P fn (fun e w'=> ∃v d,e= .returned v∧post v d∧Hp I0 w0 d w') .ret) E (Hp I0 w0 L):=fun a w r s=>by
 show Leaves P fn a.tmps _ a.defers .returning w;rw[r.defers];have A:i.body.isNone=false:=by simp_all
 have B: ¬i.name= "runtime.NumGoroutine":=by grind
 have C: ¬i.body=none:=by grind
 refine leaves_cons (f:=g) (args:=c.toArray) (by simp) (by simp_all[invoke,callFunc]) ((CallsD.frame z s p (j w s)).mono ?_);rintro e u' w' ⟨rfl,v2,d,rfl,h,D⟩;obtain⟨l,G,H⟩:=k v2 d h;exact⟨v,by rw[results_tmp u];simp[r.slot t v x],v,l,rfl,G,H w' D⟩
end
end Go.Sv
