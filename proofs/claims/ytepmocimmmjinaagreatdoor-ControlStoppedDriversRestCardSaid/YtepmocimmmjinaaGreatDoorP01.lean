/-
  Joined.
-/
import Derived.WalkKit
import Derived.OrdersHeld
import Derived.StillTail
import Derived.Deep.LoopGhost
import Derived.IntWalk
import Derived.LaidEql
import Derived.Maps.AppendAt
import Derived.Laws.CopyRow
import Derived.Laws.MakeOwn
import Derived.Lib.SliceRun
import Derived.Deep.Slices
import Derived.Deep.Fields
import Derived.ChangeSame
import Derived.Below
import Derived.Lib.AppendZerosOnto
import Derived.Laws.ResultCell
import Derived.ChangeSlices
import Derived.Lib.Overlaps
import Derived.Laws.Externs
import Derived.Lib.Strings
import Derived.RangeFuncIn
import Derived.RangeFuncLeaves
import Derived.RangeFuncCalls
import Derived.RangeFuncRecord
import Derived.TacticsIn
import Derived.Lib.Bytealg
import Derived.Lib.AppendStr
import Derived.Lib.Builder
import Derived.LaidEqlPtr
import Derived.Defers
set_option linter.unusedSimpArgs false
set_option linter.unusedVariables false
variable {p:Nat} {G:Array Bool} {J:Go.TypeId} {O:Go.Value} {U:Go.World} {V:List Go.Value} {X:Go.Code} {Y:Array Go.Value} {Z:Option (Nat×Bool)}
theorem qB:∀{α:Type}{a:α}{b:List α},(a::b).length=b.length+1:=@List.length_cons
theorem qC:∀{α:Type},([]:List α).length=0:=@List.length_nil
theorem qD:∀{α:Type}{a bs:List α},(a++bs).length=a.length+bs.length:=@List.length_append
theorem qE:∀{α β:Type}{a:List α} (f:α->β),(List.map f a).length=a.length:=@List.length_map
theorem qF:∀{α:Type}{i:Nat}{l:List α},(List.take i l).length=min i l.length:=@List.length_take
theorem qG:∀{α:Type}{i:Nat}{l:List α},(List.drop i l).length=l.length-i:=@List.length_drop
theorem qH:∀{α:Type}{n:Nat}{a:α},(List.replicate n a).length=n:=@List.length_replicate
theorem qI:∀{α:Type}{b:List α}{i:Nat}{a:α},(b.set i a).length=b.length:=@List.length_set
theorem qJ:∀{α:Type}{l:List α}{i:Nat} (h:i<l.length),l[i]?=some l[i]:=@List.getElem?_eq_getElem
theorem qK:∀{α:Type} (a:List α),a++[]=a:=@List.append_nil
theorem qL:∀{α:Type} (a bs cs:List α),a++bs++cs=a++(bs++cs):=@List.append_assoc
theorem qM:∀{α:Type}{a:α}{b bs:List α},a::b++bs=a::(b++bs):=@List.cons_append
theorem qN:∀{α β:Type}{f:α->β}{l₁ l₂:List α},List.map f (l₁++l₂)=List.map f l₁++List.map f l₂:=@List.map_append
theorem qO:∀{α:Type}{l:List α},l.length=0->l=[]:=@List.eq_nil_of_length_eq_zero
theorem qP:∀{α:Type}{l₁ l₂:List α}{i:Nat},i<l₁.length->(l₁++l₂)[i]?=l₁[i]?:=@List.getElem?_append_left
theorem qQ:∀{p:Prop} [a:Decidable p], ¬p->decide p=false:=@decide_eq_false
theorem qR:∀{p:Prop} [a:Decidable p],p->decide p=true:=@decide_eq_true
theorem qS:∀{p:Prop} [Decidable p], ¬¬p↔p:=@Decidable.not_not
theorem qT:∀ (n:Nat),0<=n:=@Nat.zero_le
theorem qU:∀ (n:Nat),n<=n:=@Nat.le_refl
theorem qV:∀{n m:Nat},n.ble m=true->n<=m:=@Nat.le_of_ble_eq_true
theorem qW:∀{a b:Int},0<=a->a.tmod b=a%b:=@Int.tmod_eq_emod_of_nonneg
theorem qX:(false=true)=False:=@Bool.false_eq_true
theorem qY:∀{α:Type}{val a:α},some val=some a->val=a:=@Option.some.inj
theorem qZ:∀{α:Type} (val a:α),(some val=some a)=(val=a):=@Option.some.injEq
theorem qa:∀{a:Int},0<=a-> ∃n:Nat,a=(n:Int):=@Int.eq_ofNat_of_zero_le
theorem qe:∀{α:Type}{b:α}{l:List α}{a:α},a∈b::l↔a=b\/a∈l:=@List.mem_cons
theorem qf:∀{α:Type}{l₁ l₂:List α},(l₁++l₂).Perm (l₂++l₁):=@List.perm_append_comm
theorem qg:∀ (a b:Bool),((a&&b)=true)=(a=true/\b=true):=@Bool.and_eq_true
theorem qh:∀ (n:Nat),((n:Int)).toNat=n:=@Int.toNat_natCast
theorem qi:∀{α:Type} (a:α) (l:List α),(l++[a]).Perm (a::l):=@List.perm_append_singleton
theorem qj:∀{p:Prop} [a:Decidable p],(decide p=true)=p:=@decide_eq_true_eq
theorem qk:∀{n m k:Nat},n<=m->m<=k->n<=k:=@Nat.le_trans
theorem ql:∀{α:Type}{l:List α},0<l.length↔l≠[]:=@List.length_pos_iff
theorem qm:∀{α:Type}{a b:α},a∈[b]↔a=b:=@List.mem_singleton
theorem z6 {α:Sort _} {a:α}:a=a:=rfl
theorem zo {p:Prop} (h:p:=by omega):p:=h
theorem zg {p:Prop} (h:p:=by grind):p:=h
theorem zd {p:Prop} (h:p:=by decide):p:=h
theorem zk {p:Prop} (h:p:=by kernel_rfl):p:=h
theorem zm {p:Prop} (h:p:=by simp):p:=h
theorem zr {α β:Sort _} {a:α} {b:β}:a=a/\b=b:=⟨rfl,rfl⟩
theorem zi {α:Sort _} {p:α->Prop}: ∀a,p a->p a:=λ_ h=>h
namespace Go.Sv
structure NN where
 n:Nat
 D:List Deferred
abbrev Env:=List (Nat×Value)
def get:Env->Nat->Option Value
 |[],_=>none
 |(k,v)::r,t=>bif Nat.beq k t then some v else get r t
@[reducible] def set (E:Env) (t:Nat) (v:Value):Env:=(t,v)::E
theorem GQ (E:Env) (t:Nat) (v:Value):get (set E t v) t=some v:=by simp[get,set]
theorem Aq (E:Env) {s:Nat} (v:Value) (h:s≠p):get (set E p v) s=get E s:=by
 grind [Nat.beq_eq,get]
structure Fits (N:NN) (a:Act) (E:Env):Prop where
 defers:a.defers=N.D
 size:a.tmps.size=N.n
 slot: ∀t v,get E t=some v->a.tmps[t]?=some v
def ev (E:Env):Operand->Option Value
 | .tmp t=>get E t
 | .const v=>some v
 | .global g=>some (.pointer (some ⟨g,0,none⟩))
 | .func f=>some (.func (.func f) #[] #[])
theorem Fits.ev {N:NN} {a:Act} {E:Env} (h:Fits N a E) {x:Operand} {v:Value} (b:ev E x=some v):a.eval x=v:=by
 cases x with
 |tmp t=>
  have:=h.slot t v b;simp_all[Act.eval]
 |const u=>grind [Sv.ev,Act.eval]
 |global g=>grind [Sv.ev,Act.eval]
 |func f=>grind [Sv.ev,Act.eval]
theorem Fits.put {N:NN} {a:Act} {E:Env} (h:Fits N a E) {d:Nat} (v:Value) (f:Nat.blt d N.n=true):Fits N (a.put (some d) v) (set E d v):=by
 have c:d<N.n:=by simp_all
 refine⟨h.defers,by simp[Act.put,h.size],λt u b=>?_⟩;by_cases e:t=d
 ·subst e;rw[GQ] at b;simp[Act.put,h.size,c,<-qY b]
 ·rw[Aq E v e] at b;simp[Act.put,Array.getElem?_setIfInBounds_ne (λx=>e x.symm),h.slot t u b]
theorem Fits.put_none {N:NN} {a:Act} {E:Env} (h:Fits N a E) (v:Value):Fits N (a.put none v) E:=h
def Sub:Env->Env->Prop
 |[],_=>True
 |(k,v)::r,E=>get E k=some v/\Sub r E
theorem Sub.get {E' E:Env} (h:Sub E' E) {t:Nat} {v:Value} (a:get E' t=some v):get E t=some v:=by
 induction E' with
 |nil=>grind [Sv.get]
 |cons p r b=>
  obtain⟨k,u⟩:=p;by_cases c:k=t
  ·subst c;simp[Sv.get] at a;rw[<-a];exact h.1
  ·have d:Nat.beq k t=false:=by grind [Nat.beq_eq]
   simp only[Sv.get,d,cond_false] at a;exact b h.2 a
theorem Fits.sub {N:NN} {a:Act} {E E':Env} (h:Fits N a E) (hs:Sub E' E):Fits N a E':=
 ⟨h.defers,h.size,λt v b=>h.slot t v (hs.get b)⟩
def fp (E:Env):List Operand->Option (List Value)
 |[]=>some []
 |x::r=>match ev E x,fp E r with
  |some v,some vs=>some (v::vs)
  |_,_=>none
theorem Fits.evs {N:NN} {a:Act} {E:Env} (h:Fits N a E): ∀ {xs:List Operand} {vs:List Value},fp E xs=some vs->xs.map a.eval=vs
 |[],vs,b=>by grind [Sv.fp]
 |x::r,vs,b=>by
  simp only[Sv.fp] at b;cases c:Sv.ev E x with
  |none=>grind
  |some v=>
   cases d:Sv.fp E r with
   |none=>grind
   |some us=>
    simp[c,d] at b;rw[<-b,List.map_cons,h.ev c,h.evs d]
abbrev aV:=Nat->Prop
structure aB where
 sat:World->aV->Prop
 lt: ∀ {w:World} {I:aV},sat w I-> ∀x,I x->x<w.heap.size
 keep: ∀ {w w':World} {I:aV},sat w I->(∀x,I x->w'.heap[x]?=w.heap[x]?)->sat w' I
def Sep:List aB->aV->World->Prop
 |[],I,_=> ∀x,¬I x
 |A::L,I,w=> ∃i j:aV,(∀x,I x↔i x\/j x)/\(∀x,i x-> ¬j x)/\A.sat w i/\Sep L j w
theorem xz {o:Obj} (h:U.heap[p]?=some o):p<U.heap.size:=by
 grind
def aU (b:Nat) (o:Obj):aB where
 sat w I:=(∀x,I x↔x=b)/\w.heap[b]?=some o
 lt h x hx:=zg
 keep h hk:=⟨h.1,zg⟩
theorem Sep.lt: ∀ {L:List aB} {I:aV} {w:World},Sep L I w-> ∀x,I x->x<w.heap.size
 |[],_,_,h,x,a=>absurd a (h x)
 |A::L,I,w,⟨i,j,hI,_,b,c⟩,x,a=>by
  rcases(hI x).1 a with h|h
  ·exact A.lt b x h
  ·exact c.lt x h
theorem Sep.keep: ∀ {L:List aB} {I:aV} {w w':World},Sep L I w->(∀x,I x->w'.heap[x]?=w.heap[x]?)->Sep L I w'
 |[],_,_,_,h,_=>h
 |A::_,_,_,_,⟨i,j,hI,c,d,e⟩,b=>
  ⟨i,j,hI,c,A.keep d (λx a=>b x ((hI x).2 (.inl a))),e.keep (λx a=>b x ((hI x).2 (.inr a)))⟩
theorem Sep.ext: ∀ {L:List aB} {I J:aV} {w:World},Sep L I w->(∀x,I x↔J x)->Sep L J w
 |[],_,_,_,h,e=>λx a=>h x ((e x).2 a)
 |_::_,_,_,_,⟨i,j,hI,b,c,d⟩,e=>⟨i,j,λx=>(e x).symm.trans (hI x),b,c,d⟩
theorem Sep.swap {A B:aB} {L:List aB} {I:aV} (h:Sep (A::B::L) I U):Sep (B::A::L) I U:=by
 obtain⟨i,j,hI,e,f,g,a,b,k,l,m⟩:=h;refine⟨g,λx=>i x\/a x,λx=>?_,λx c d=>?_,l,i,a,λ_=>Iff.rfl,λx c d=>e x c ((b x).2 (.inr d)),f,m⟩
 ·rw[hI x,b x];constructor<;>(rintro(h|h|h)<;>simp[h])
 grind
theorem Sep.perm {L a:List aB} (b:L.Perm a): ∀ {I:aV} {w:World},Sep L I w->Sep a I w:=by
 induction b with
 |nil=>grind
 |cons A _ c=>exact λ⟨i,j,hI,d,e,f⟩=>⟨i,j,hI,d,e,c f⟩
 |swap A B L=>exact λh=>h.swap
 |trans _ _ g k=>grind
theorem Sep.append: ∀ {L M:List aB} {I:aV} {w:World},Sep (L++M) I w↔ ∃i j:aV,(∀x,I x↔i x\/j x)/\(∀x,i x-> ¬j x)/\Sep L i w/\Sep M j w
 |[],M,I,w=>by
  constructor
  ·intro h;exact⟨λ_=>False,I,λx=>zm,λ_ h=>h.elim,λ_ h=>h,h⟩
  ·rintro⟨i,j,hI,_,hi,c⟩;refine c.ext λx=>?_;rw[hI x];constructor
   ·grind
   ·rintro(h|h)
    ·exact absurd h (hi x)
    grind
 |A::L,M,I,w=>by
  constructor
  ·rintro⟨i,j,hI,hd,hA,h⟩;obtain⟨d,k,e,f,g,c⟩:=Sep.append.1 h;refine⟨λx=>i x\/d x,k,λx=>?_,?_,⟨i,d,λ_=>Iff.rfl,λx a b=>hd x a ((e x).2 (.inl b)),hA,g⟩,c⟩
   ·rw[hI x,e x];constructor<;>(intro h;simp only[or_assoc] at *;exact h)
   ·rintro x (a|a) b
    ·exact hd x a ((e x).2 (.inr b))
    ·exact f x a b
  ·rintro⟨i,j,hI,hd,⟨i1,d,hi,hd1,hA,g⟩,c⟩;refine⟨i1,λx=>d x\/j x,λx=>?_,?_,hA,Sep.append.2 ⟨d,j,λ_=>Iff.rfl,λx a b=>hd x ((hi x).2 (.inr a)) b,g,c⟩⟩
   ·rw[hI x,hi x];simp only[or_assoc]
   ·rintro x a (b|b)
    ·exact hd1 x a b
    ·exact hd x ((hi x).2 (.inl a)) b
structure gn (I:aV) (w w':World):Prop where
 os:w'.os=w.os
 tape:w'.tape=w.tape
 output:w'.output=w.output
 size:w.heap.size<=w'.heap.size
 block: ∀x,x<w.heap.size-> ¬I x->w'.heap[x]?=w.heap[x]?
theorem gn.refl (I:aV) (w:World):gn I w w:=⟨rfl,rfl,rfl,qU _,λ_ _ _=>rfl⟩
theorem gn.trans {I J:aV} {a b c:World} (h:gn I a b) (k:gn J b c) (f: ∀x,J x->I x\/a.heap.size<=x):gn I a c:=
 ⟨k.os.trans h.os,k.tape.trans h.tape,k.output.trans h.output,qk h.size k.size,λx d e=>by
  rw[k.block x (Nat.lt_of_lt_of_le d h.size) (λg=>(f x g).elim e (λh'=>zo)),h.block x d e]⟩
theorem gn.drew {I:aV} {w w':World} (h:gn I w w'):gn I w w'.drew:=⟨h.os,h.tape,h.output,h.size,h.block⟩
def Hp (I0:aV) (w0:World) (L:List aB) (w:World):Prop:=
 ∃I:aV,Sep L I w/\gn I0 w0 w/\ ∀x,I x->I0 x\/w0.heap.size<=x
theorem Hp.start {I:aV} {L:List aB} (h:Sep L I U):Hp I U L U:=⟨I,h,gn.refl I U,λ_ h=> .inl h⟩
theorem Hp.perm {I0:aV} {w0 w:World} {L a:List aB} (h:Hp I0 w0 L w) (b:L.Perm a):Hp I0 w0 a w:=
 let ⟨I,hs,he,hi⟩:=h;⟨I,hs.perm b,he,hi⟩
theorem Hp.sub {I0:aV} {w:World} {L M:List aB} (h:Hp I0 U (L++M) w):Hp I0 U L w:=by
 obtain⟨I,a,b,c⟩:=h;obtain⟨i,j,hI,_,d,_⟩:=Sep.append.1 a;exact⟨i,d,b,λx e=>c x ((hI x).2 (.inl e))⟩
theorem Sep.drew {L:List aB} {I:aV} {w:World} (h:Sep L I w):Sep L I w.drew:=h.keep λ_ _=>rfl
theorem Hp.drew {I0:aV} {w0 w:World} {L:List aB} (h:Hp I0 w0 L w):Hp I0 w0 L w.drew:=
 let ⟨I,hs,he,hi⟩:=h;⟨I,hs.drew,he.drew,hi⟩
theorem nv {α:Type}: ∀ {L:List α} {k:Nat} {A:α},L[k]?=some A->L.Perm (A::L.eraseIdx k)
 |[],_,_,h=>by simp at h
 |B::L,0,A,h=>by simp_all
 |B::L,k+1,A,h=>by
  simp only[List.getElem?_cons_succ] at h;simp only[List.eraseIdx_cons_succ];exact(List.Perm.cons B (nv h)).trans (List.Perm.swap A B _)
theorem oa {α:Type}: ∀ {L:List α} {k:Nat} {A:α} (B:α),L[k]?=some A->(B::L.eraseIdx k).Perm (L.set k B)
 |[],_,_,_,h=>by simp at h
 |C::L,0,A,B,_=>zm
 |C::L,k+1,A,B,h=>by
  simp only[List.getElem?_cons_succ] at h;simp only[List.eraseIdx_cons_succ,List.set_cons_succ];exact(List.Perm.swap C B _).trans (List.Perm.cons C (oa B h))
theorem Hp.at {I0:aV} {w:World} {L:List aB} (h:Hp I0 U L w) {k:Nat} {A:aB} (a:L[k]?=some A):
 ∃i j:aV,A.sat w i/\Sep (L.eraseIdx k) j w/\(∀x,i x-> ¬j x)/\gn I0 U w/\(∀x,i x->I0 x\/U.heap.size<=x)/\(∀x,j x->I0 x\/U.heap.size<=x):=by
 obtain⟨I,b,c,d⟩:=h.perm (nv a);obtain⟨i,j,hI,e,f,g⟩:=b
 grind
theorem Hp.blk {I0:aV} {w:World} {L:List aB} (h:Hp I0 U L w) (k:Nat) {o:Obj} (a:L[k]?=some (aU p o)):w.heap[p]?=some o:=by
 obtain⟨i,j,c,_⟩:=h.at a;exact c.2
theorem dy {a:Nat×Nat} (h:U.heap[p]?=some (.cells Y J a)) (o:Nat):U.cell? ⟨p,o,none⟩=Y[o]?:=by
 grind [World.cell?]
theorem Hp.cell {I0:aV} {w0 w:World} {L:List aB} (h:Hp I0 w0 L w) (k:Nat) {b o:Nat} {cs:Array Value} {t:TypeId} {a:Nat×Nat} {v:Value}
 (c:L[k]?=some (aU b (.cells cs t a))) (d:cs.toList[o]?=some v):w.cell? ⟨b,o,none⟩=some v:=by
 rw[dy (h.blk k c),<-d,Array.getElem?_toList]
theorem Hp.ro {I0:aV} {w:World} {L:List aB} (h:Hp I0 U L w) {o:Obj} (a:U.heap[p]?=some o) (c: ¬I0 p):w.heap[p]?=some o:=by
 obtain⟨_,_,d,_⟩:=h;rw[d.block p (xz a) c,a]
theorem Hp.alloc {I0:aV} {w w':World} {L:List aB} {o:Obj} (h:Hp I0 U L w) (f:w'.heap=w.heap.push o) (g:w'.os=w.os) (i:w'.tape=w.tape) (j:w'.output=w.output):
 Hp I0 U (L++[aU w.heap.size o]) w':=by
 obtain⟨I,d,c,l⟩:=h;have a: ∀x,x<w.heap.size->w'.heap[x]?=w.heap[x]?:=λx b=>zg
 refine⟨λx=>I x\/x=w.heap.size,Sep.append.2 ⟨I,λx=>x=w.heap.size,λ_=>Iff.rfl,λx b e=>?_,d.keep (λx b=>a x (d.lt x b)),?_⟩,⟨g.trans c.os,i.trans c.tape,j.trans c.output,?_,?_⟩,?_⟩
 ·have:=d.lt x b;omega
 ·exact⟨λx=>x=w.heap.size,λ_=>False,λx=>zm,λ_ _ h=>h,⟨λ_=>Iff.rfl,zg⟩,λ_ h=>h⟩
 ·rw[f,Array.size_push];have:=c.size;omega
 ·intro x b k;rw[a x (Nat.lt_of_lt_of_le b c.size),c.block x b k]
 ·rintro x (b|rfl)
  ·grind
  ·exact .inr c.size
theorem Hp.modify {I0:aV} {w w':World} {L:List aB} (h:Hp I0 U L w) {b:Nat} {o n:Obj} (k:L[p]?=some (aU b o)) (s:w'.heap[b]?=some n) (hs:w'.heap.size=w.heap.size)
 (d: ∀x,x≠b->w'.heap[x]?=w.heap[x]?) (t:w'.os=w.os) (u:w'.tape=w.tape) (v:w'.output=w.output):Hp I0 U (L.set p (aU b n)) w':=by
 obtain⟨i,j,c,y,q,a,r,A⟩:=h.at k;refine Hp.perm ?_ (oa _ k);refine⟨λx=>x=b\/j x,⟨λx=>x=b,j,λ_=>Iff.rfl,λx e f=>?_,⟨λ_=>Iff.rfl,s⟩,y.keep λx g=>d x ?_⟩,⟨t.trans a.os,u.trans a.tape,v.trans a.output,by rw[hs];exact a.size,λx l z=>?_⟩,?_⟩
 ·subst e;exact q x ((c.1 x).2 z6) f
 ·rintro rfl;exact q x ((c.1 x).2 z6) g
 ·have m:x≠b:=by
   rintro rfl;rcases r x ((c.1 x).2 rfl) with h'|h'
   ·grind
   ·omega
  rw[d x m,a.block x l z]
 ·rintro x (rfl|d)
  ·exact r x ((c.1 x).2 z6)
  grind
def KV (N:NN) (K:Act->World->Prop) (E:Env) (S:World->Prop):Prop:= ∀a w,Fits N a E->S w->K a w
abbrev CV (P:Program) (N:NN) (c:Code) (Q:Exit->Act->World->Prop) (E:Env) (S:World->Prop):Prop:=KV N (c.wp P Q) E S
abbrev RV (P:Program) (N:NN) (ops:Array Oper) (Q:Exit->Act->World->Prop) (rest:List Oper) (E:Env) (S:World->Prop):Prop:=KV N (wpList P ops Q rest) E S
section
variable {P:Program} {N:NN} {Q:Exit->Act->World->Prop} {E E':Env} {S S':World->Prop} {ops:Array Oper} {rest:List Oper}
theorem N5 {x y:Code} (h:CV P N x (Exit.then (y.wp P Q) Q) E S):CV P N (.seq x y) Q E S:=λa w b c=>wp_seq (h a w b c)
theorem O7 (h:KV N (Q .normal) E S):CV P N .skip Q E S:=λa w b c=>wp_skip (h a w b c)
theorem O8 {id:Nat} (h:KV N (Q (.exit id)) E S):CV P N (.exit id) Q E S:=λa w b c=>wp_exit (h a w b c)
theorem CV.ret (h:KV N (Q .ret) E S):CV P N .ret Q E S:=λa w b c=>wp_ret (h a w b c)
theorem L5 {id:Nat} {c:Code} (h:CV P N c (Exit.inBlock id Q) E S):CV P N (.block id c) Q E S:=λa w b d=>wp_block (h a w b d)
theorem O9 {c:Operand} {y:Code} (d:ev E c=some (.bool true)) (h:CV P N X Q E S):CV P N (.cond c X y) Q E S:=λa w b e=>wp_cond_true (b.ev d) (h a w b e)
theorem P0 {c:Operand} {y:Code} (d:ev E c=some (.bool false)) (h:CV P N y Q E S):CV P N (.cond c X y) Q E S:=λa w b e=>wp_cond_false (b.ev d) (h a w b e)
theorem P1 {id:Nat} {l:List Oper} (h:RV P N l.toArray Q l E S):CV P N (.region id l.toArray false) Q E S:=λa w b c=>wp_region_lit (h a w b c)
theorem KV.env {K:Act->World->Prop} (E':Env) (hE:Sub E' E) (h:KV N K E' S):KV N K E S:=λa w b c=>h a w (b.sub hE) c
theorem RV.nil (h:KV N (Q .normal) E S):RV P N ops Q [] E S:=λa w b c=>wpList_nil (h a w b c)
theorem P2 (h:KV N (Q .normal) E S):KV N (Exit.inBlock p Q (.exit p)) E S:=λa w b c=>by simp only[Exit.inBlock,if_true];exact h a w b c
theorem P3 {b:Nat} (c:Nat.beq b p=false) (h:KV N (Q (.exit b)) E S):KV N (Exit.inBlock p Q (.exit b)) E S:=λa w d f=>by
 have:b≠p:=λe=>by simp_all
 simp only[Exit.inBlock,this,if_false];exact h a w d f
theorem F2 {α:Type} {y:Code} (G:α->Env) (T:α->World->Prop)
 (c:CV P N X (Exit.then (λa w=> ∃z,Fits N a (G z)/\T z w) Q) E S) (d: ∀z,CV P N y Q (G z) (T z)):CV P N (.seq X y) Q E S:=
 λa w f g=>wp_seq (wp_mono (c a w f g) λe h i b=>by
  cases e<;>first|exact b|(obtain⟨z,j,k⟩:=b;exact d z h i j k))
theorem C1 {α:Type} {G:α->Env} {T:α->World->Prop} (z:α) (hE:Sub (G z) E) (hT: ∀w,S w->T z w):KV N (λa w=> ∃z,Fits N a (G z)/\T z w) E S:=
 λ_ w b c=>⟨z,b.sub hE,hT w c⟩
theorem CV.loop {α:Type} {c:Code} (m:α->Nat) (G:α->Env) (T:α->World->Prop) (d:α) (hE:Sub (G d) E) (hT: ∀w,S w->T d w)
 (round: ∀z,CV P N c (Exit.then (λa w=> ∃b,m b<m z/\Fits N a (G b)/\T b w) Q) (G z) (T z)):CV P N (.loop c) Q E S:=by
 intro a w f k;refine wp_loop_ghost (λn a w=> ∃z,m z=n/\Fits N a (G z)/\T z w) (m d) ⟨d,rfl,f.sub hE,hT w k⟩ ?_;rintro n a w ⟨z,rfl,f,l⟩;refine wp_mono (round z a w f l) λe o p j=>?_;cases e<;>first|exact j|(obtain⟨b,g,h,i⟩:=j;exact⟨m b,g,b,rfl,h,i⟩)
end
def Step (P:Program) (N:NN) (E:Env) (S:World->Prop) (o:Oper) (v:Value):Prop:= ∀a w,Fits N a E->S w->(execOp a.eval o).run P w= .ok (.value v) w
def TI (P:Program) (t:TypeId) (z:Value) (sz by_:Nat):Prop:=(P.info? t).map (λi=>(i.zero,i.size,i.bytes))=some (some z,sz,by_)
theorem TI.get {P:Program} {by_:Nat} (h:TI P J O p by_): ∃i,P.info? J=some i/\i.zero=some O/\i.size=p/\i.bytes=by_:=by
 simp_all[TI]
theorem TI.sizeOf {P:Program} {t:TypeId} {z:Value} {a by_:Nat} (h:TI P t z a by_) (w:World):(sizeOf t).run P w= .ok a w:=by
 obtain⟨i,b,_,c,_⟩:=h.get;simp_all[Go.sizeOf,typeInfo]
theorem TI.zeroValue {P:Program} {t:TypeId} {z:Value} {a by_:Nat} (h:TI P t z a by_) (w:World):(zeroValue t).run P w= .ok z w:=by
 obtain⟨i,b,c,_,_⟩:=h.get;simp_all[Go.zeroValue,typeInfo]
def mK (ops:Array Oper) (E:Env) (j:Nat):Option Bool:=
 match (ops[j]?).bind (·.dst) with
 |some d=>match get E d with
  |some (.bool b)=>some b
  |_=>none
 |none=>none
theorem vc {N:NN} {a:Act} {E:Env} {ops:Array Oper} (h:Fits N a E) {o:Oper} {want b:Bool} (g:o.guard=some (p,want)) (c:mK ops E p=some b):
 Region.wanted o (yielded ops a.tmps)=(b==want):=by
 unfold mK at c;simp only[Region.wanted,g];cases e:(ops[p]?).bind (·.dst) with
 |none=>grind
 |some d=>
  rw[e] at c;simp only[] at c;cases f:get E d with
  |none=>grind
  |some v=>
   rw[f] at c;cases v<;>simp at c;subst c;have:yielded ops a.tmps p=some (by assumption):=by
    simp only[yielded,e,Option.bind_some,h.slot d _ f]
   rw[this];rename_i i;cases i<;>cases want<;>rfl
section
variable {P:Program} {N:NN} {Q:Exit->Act->World->Prop} {E:Env} {S:World->Prop} {ops:Array Oper} {rest:List Oper} {o:Oper}
def OV (P:Program) (N:NN) (ops:Array Oper) (Q:Exit->Act->World->Prop) (o:Oper) (E:Env) (S:World->Prop) (K:Act->World->Prop):Prop:=
 ∀a w,Fits N a E->S w->if Region.wanted o (yielded ops a.tmps)=true then Oper.wp P o a w K Q else K (a.put o.dst undef) w
theorem A4 (h:OV P N ops Q o E S (wpList P ops Q rest)):RV P N ops Q (o::rest) E S:=λa w b c=>by
 have:=h a w b c
 grind [wpList]
variable {K:Act->World->Prop}
def dJ (N:NN) (ops:Array Oper) (o:Oper) (E:Env):Prop:= ∀a,Fits N a E->Region.wanted o (yielded ops a.tmps)=true
theorem ae {d:Option Nat} {op:Op} {pos:String} {af:Array Edge}:dJ N ops ⟨d,op,J,pos,af,none⟩ E:=λ_ _=>rfl
theorem bv {d:Option Nat} {op:Op} {pos:String} {af:Array Edge} {b:Bool} (a:mK ops E p=some b):dJ N ops ⟨d,op,J,pos,af,some (p,b)⟩ E:=
 λ_ c=>by grind [vc]
theorem G8 {v:Value} {w':World} {a:Act} {w:World} (b:Region.wanted o (yielded ops a.tmps)=true) (h:(execOp a.eval o).run P w= .ok (.value v) w') (k:K (a.put o.dst v) w'):
 if Region.wanted o (yielded ops a.tmps)=true then Oper.wp P o a w K Q else K (a.put o.dst undef) w:=by
 rw[if_pos b];unfold Oper.wp;rw[h];exact k
theorem C2 {op:Op} {pos:String} {af:Array Edge} (e:dJ N ops ⟨some p,op,J,pos,af,Z⟩ E) (h:Step P N E S ⟨some p,op,J,pos,af,Z⟩ O) (f:Nat.blt p N.n=true)
 (k:KV N K (set E p O) S):OV P N ops Q ⟨some p,op,J,pos,af,Z⟩ E S K:=
 λa w b c=>G8 (e a b) (h a w b c) (k _ w (b.put O f) c)
theorem L6 {j:Nat} {b:Bool} {op:Op} {pos:String} {af:Array Edge} (e:mK ops E j=some (!b)) (f:Nat.blt p N.n=true)
 (k:KV N K (set E p undef) S):OV P N ops Q ⟨some p,op,J,pos,af,some (j,b)⟩ E S K:=λa w c g=>by
 rw[if_neg (by rw[vc c z6 e];cases b<;>decide)];exact k _ w (c.put undef f) g
theorem B9 {c:Prop} [Decidable c] {op:Op} {pos:String} {af:Array Edge} (i:dJ N ops ⟨some p,op,J,pos,af,Z⟩ E) (h:Step P N E S ⟨some p,op,J,pos,af,Z⟩ (.bool (decide c)))
 (j:Nat.blt p N.n=true) (k1:c->KV N K (set E p (.bool true)) S) (k2: ¬c->KV N K (set E p (.bool false)) S):OV P N ops Q ⟨some p,op,J,pos,af,Z⟩ E S K:=λa w b f=>by
 have h':=h a w b f;by_cases e:c
 ·rw[qR e] at h';exact G8 (i a b) h' (k1 e _ w (b.put _ j) f)
 ·rw[qQ e] at h';exact G8 (i a b) h' (k2 e _ w (b.put _ j) f)
theorem I6 {I0:aV} {L:List aB} {op:Op} {pos:String} {af:Array Edge} {val:Nat->Value} {ob:Obj} (e:dJ N ops ⟨some p,op,J,pos,af,Z⟩ E)
 (h: ∀a w,Fits N a E->Hp I0 U L w->(execOp a.eval ⟨some p,op,J,pos,af,Z⟩).run P w= .ok (.value (val w.heap.size)) (w.alloc ob)) (f:Nat.blt p N.n=true)
 (k: ∀nb,KV N K (set E p (val nb)) (Hp I0 U (L++[aU nb ob]))):OV P N ops Q ⟨some p,op,J,pos,af,Z⟩ E (Hp I0 U L) K:=
 λa w b c=>G8 (e a b) (h a w b c) (k w.heap.size _ _ (b.put _ f) (c.alloc z6 z6 z6 z6))
variable {d:Option Nat} {ty:TypeId} {pos:String} {af:Array Edge} {g:Option (Nat×Bool)} {x y z:Operand} {u v u':Value}
theorem P5 (b:ev E x=some v):Step P N E S ⟨d,.move x,ty,pos,af,g⟩ v:=λa w c _=>by simp[execOp,c.ev b]
theorem D3 (b:ev E x=some v):Step P N E S ⟨d,.assign x,ty,pos,af,g⟩ v:=λa w c _=>by simp[execOp,c.ev b]
theorem P6 (c:ev E x=some (.bool true)) (e:ev E y=some v):Step P N E S ⟨d,.pick x y z,ty,pos,af,g⟩ v:=λa w b _=>by
 simp[execOp,b.ev c,b.ev e,asBool]
theorem P7 (c:ev E x=some (.bool false)) (e:ev E z=some v):Step P N E S ⟨d,.pick x y z,ty,pos,af,g⟩ v:=λa w b _=>by
 simp[execOp,b.ev c,b.ev e,asBool]
theorem P8 {p:Addr} (b:ev E x=some (.pointer (some p))):Step P N E S ⟨d,.nilCheck x,ty,pos,af,g⟩ (.pointer (some p)):=λa w c _=>by simp[execOp,c.ev b]
theorem P9 {t:TypeId} {j:Nat} (b:ev E x=some u) (h: ∀w,(Instr.fieldAt t u j).run P w= .ok v w):Step P N E S ⟨d,.fieldAddr t x j,ty,pos,af,g⟩ v:=λa w c _=>by
 simp only[execOp,c.ev b,Sem.run_bind,h,Result.andThen_ok,Sem.run_pure]
theorem Q0 {t:TypeId} {j:Nat} (b:ev E x=some u) (h: ∀w,(Instr.field t u j).run P w= .ok v w):Step P N E S ⟨d,.field t x j,ty,pos,af,g⟩ v:=λa w c _=>by
 simp only[execOp,c.ev b,Sem.run_bind,h,Result.andThen_ok,Sem.run_pure]
theorem T3 {j:Nat} (b:ev E x=some u) (h: ∀w,(Instr.extract u j).run P w= .ok v w):Step P N E S ⟨d,.extract x j,ty,pos,af,g⟩ v:=λa w c _=>by
 simp only[execOp,c.ev b,Sem.run_bind,h,Result.andThen_ok,Sem.run_pure]
theorem Q4 (a:ev E x=some (.tuple V.toArray)) (b:V[p]?=some v):Step P N E S ⟨d,.extract x p,ty,pos,af,g⟩ v:=
 T3 a λw=>by simp_all[Instr.extract]
theorem Q5 {t:TypeId} (c:ev E x=some u) (e:ev E y=some u') (h: ∀w,(Instr.indexAt t u u').run P w= .ok v w):Step P N E S ⟨d,.indexAddr t x y,ty,pos,af,g⟩ v:=λa w b _=>by
 simp only[execOp,b.ev c,b.ev e,Sem.run_bind,h,Result.andThen_ok,Sem.run_pure]
theorem J8 {t:TypeId} (c:ev E x=some u) (e:ev E y=some u') (h: ∀w,(Instr.index t u u').run P w= .ok v w):Step P N E S ⟨d,.index t x y,ty,pos,af,g⟩ v:=λa w b _=>by
 simp only[execOp,b.ev c,b.ev e,Sem.run_bind,h,Result.andThen_ok,Sem.run_pure]
theorem RE {e:TypeId} {by_:Nat} (d:P.underlying J=some (.slice e)) (f:TI P e O p by_) (b o n c:Nat) {k:IntKind} {i:Int} (m:Nat) (g:i=(m:Int)) (h:m<n) (w:World):
 (Instr.indexAt J (.slice (some ⟨b,o,none⟩) n c) (.int k i)).run P w= .ok (.pointer (some ⟨b,o+m* p,none⟩)) w:=by
 subst g;have j:0<=(m:Int)/\(m:Int)<(n:Int):=zo
 simp only[Instr.indexAt,asIntOf,Sem.run_bind,Sem.run_pure,Result.andThen_ok,run_underlying d,j,and_self,if_true,f.sizeOf,qh];grind [Addr.add]
theorem Q6 {e:TypeId} {by_ b o n c:Nat} {A:Option Addr} {k:IntKind} {i:Int} (h:P.underlying J=some (.slice e)) (j:TI P e O p by_)
 (l:ev E x=some (.slice A n c)) (a:ev E y=some (.int k i)) (q:A=some ⟨b,o,none⟩) (m:Nat) (r:i=(m:Int)) (f:m<n):Step P N E S ⟨d,.indexAddr J x y,ty,pos,af,g⟩ (.pointer (some ⟨b,o+m* p,none⟩)):=by
 grind [Q5,RE]
def cW:TypeDesc->Bool
 | .struct _| .array _ _=>true
 |_=>false
theorem N6 {t:TypeId} {D:TypeDesc} {p:Addr} (c:P.underlying t=some D) (e:cW D=false) (f:ev E x=some (.pointer (some p))) (j: ∀w,S w->w.cell? p=some v):
 Step P N E S ⟨d,.load t x,ty,pos,af,g⟩ v:=λa w h k=>by
 have b:(isAgg t).run P w= .ok false w:=by
  simp only[isAgg,Sem.run_bind,run_underlying c,Result.andThen_ok];cases D<;>first|rfl|(simp[cW] at e)
 have i:(Go.load p).run P w= .ok v w:=by simp_all
 simp only[execOp,h.ev f,Instr.loadAt,Instr.sureAddr,loadVar,Sem.run_bind,Sem.run_pure,Result.andThen_ok,b,qX,if_false,i]
theorem J9 {D:TypeDesc} {o:Nat} {f by_:Nat} (vs:List Value) (i:P.underlying J=some D) (k:cW D=true) (l:TI P J O f by_) (c:vs.length=f)
 (m:ev E x=some (.pointer (some ⟨p,o,none⟩))) (ze: ∀w,S w-> ∀j v,vs[j]?=some v->w.cell? ⟨p,o+j,none⟩=some v):
 Step P N E S ⟨d,.load J x,ty,pos,af,g⟩ (.agg vs.toArray):=λa w n q=>by
 have e:(isAgg J).run P w= .ok true w:=by
  simp only[isAgg,Sem.run_bind,run_underlying i,Result.andThen_ok];cases D<;>first|rfl|(simp[cW] at k)
 have h:=run_loadCells_list (P:=P) w ⟨p,o,none⟩ vs (λj v r=>by
  grind [Addr.add])
 rw[c] at h;simp only[execOp,n.ev m,Instr.loadAt,Instr.sureAddr,loadVar,Sem.run_bind,Sem.run_pure,Result.andThen_ok,e,if_true,l.sizeOf,h]
section
variable {k:IntKind} {m n r:Int} {t t2:TypeId}
theorem gp {op:BinOp} (e:ev E x=some u) (f:ev E y=some u') (b:eqGuard op t x y u u'=pure ()) (h: ∀w,(binOp op t u u').run P w= .ok v w):Step P N E S ⟨d,.binOp op t x y t2,ty,pos,af,g⟩ v:=λa w c _=>by
 simp only[execOp,c.ev e,c.ev f,b,Sem.run_bind,Sem.run_pure,Result.andThen_ok,h]
theorem D6 (a:ev E x=some (.int k m)) (b:ev E y=some (.int k n)) (c:k.wrap (m+n)=r):Step P N E S ⟨d,.binOp .add t x y t2,ty,pos,af,g⟩ (.int k r):=
 gp a b z6 λw=>by simp_all[binOp,Op.intArith]
theorem F7 (a:ev E x=some (.int k m)) (b:ev E y=some (.int k n)) (c:k.wrap (m-n)=r):Step P N E S ⟨d,.binOp .sub t x y t2,ty,pos,af,g⟩ (.int k r):=
 gp a b z6 λw=>by simp_all[binOp,Op.intArith]
theorem Q7 (a:ev E x=some (.int k m)) (b:ev E y=some (.int k n)) (c:k.wrap (m* n)=r):Step P N E S ⟨d,.binOp .mul t x y t2,ty,pos,af,g⟩ (.int k r):=
 gp a b z6 λw=>by simp_all[binOp,Op.intArith]
theorem D0 (a:ev E x=some (.int k m)) (b:ev E y=some (.int k n)) (c:n≠0) (e:m.tmod n=r):Step P N E S ⟨d,.binOp .rem t x y t2,ty,pos,af,g⟩ (.int k r):=
 gp a b z6 λw=>by simp_all[binOp,Op.intDiv]
theorem L7 (a:ev E x=some (.int k m)) (b:ev E y=some (.int k n)) (c:n≠0) (e:k.wrap (m.tdiv n)=r):Step P N E S ⟨d,.binOp .quo t x y t2,ty,pos,af,g⟩ (.int k r):=
 gp a b z6 λw=>by simp_all[binOp,Op.intDiv]
theorem G9 (a:ev E x=some (.int k m)) (b:ev E y=some (.int k n)):Step P N E S ⟨d,.binOp .eql t x y t2,ty,pos,af,g⟩ (.bool (decide (m=n))):=
 gp a b z6 λw=>by simp[binOp,Op.intCmp];rfl
theorem K0 (a:ev E x=some (.int k m)) (b:ev E y=some (.int k n)):Step P N E S ⟨d,.binOp .neq t x y t2,ty,pos,af,g⟩ (.bool (decide (¬m=n))):=
 gp a b z6 λw=>by simp[binOp,Op.intCmp,bne];rfl
theorem I7 (a:ev E x=some (.int k m)) (b:ev E y=some (.int k n)):Step P N E S ⟨d,.binOp .lss t x y t2,ty,pos,af,g⟩ (.bool (decide (m<n))):=
 gp a b z6 λw=>by simp[binOp,Op.intCmp]
theorem L0 (a:ev E x=some (.int k m)) (b:ev E y=some (.int k n)):Step P N E S ⟨d,.binOp .leq t x y t2,ty,pos,af,g⟩ (.bool (decide (m<=n))):=
 gp a b z6 λw=>by simp[binOp,Op.intCmp]
theorem I8 (a:ev E x=some (.int k m)) (b:ev E y=some (.int k n)):Step P N E S ⟨d,.binOp .gtr t x y t2,ty,pos,af,g⟩ (.bool (decide (n<m))):=
 gp a b z6 λw=>by simp[binOp,Op.intCmp]
theorem N7 (a:ev E x=some (.int k m)) (b:ev E y=some (.int k n)):Step P N E S ⟨d,.binOp .geq t x y t2,ty,pos,af,g⟩ (.bool (decide (n<=m))):=
 gp a b z6 λw=>by simp[binOp,Op.intCmp]
theorem Q8 {b:Bool} (c:ev E x=some (.bool b)):Step P N E S ⟨d,.unOp .not t x,ty,pos,af,g⟩ (.bool (!b)):=λa w e _=>by
 simp[execOp,e.ev c,Op.unary]
theorem B6 {dst:TypeId} {k':IntKind} {D:TypeDesc} (hs:P.underlying J=some D) (c:P.underlying dst=some (.int k')) (e:ev E x=some (.int k m)) (f:k'.wrap m=r):
 Step P N E S ⟨d,.convert J dst x,ty,pos,af,g⟩ (.int k' r):=λa w h _=>by
 simp only[execOp,h.ev e,Sem.run_bind,convert,run_underlying hs,run_underlying c,Result.andThen_ok,Conv.intToInt,Sem.run_pure,f]
end
theorem N8 {e:TypeId} {A:Option Addr} {c:Nat} (b:P.underlying J=some (.slice e)) (f:ev E x=some (.slice A p c)):
 Step P N E S ⟨d,.call ⟨.builtin .len,#[x],#[J]⟩,ty,pos,af,g⟩ (.int .i64 p):=λa w h _=>by
 simp[execOp,resolve,invoke,builtin,h.ev f,Builtin.len_,Builtin.lenOf,run_underlying b,goInt]
theorem J0 {k:IntKind} {m n:Int} {ts:Array TypeId} (c:ev E x=some (.int k m)) (f:ev E y=some (.int k n)):
 Step P N E S ⟨d,.call ⟨.builtin .max,#[x,y],ts⟩,ty,pos,af,g⟩ (.int k (max m n)):=λa w b _=>by
 have e:(if n>m then n else m)=max m n:=by rw[Int.max_def];split<;>split<;>omega
 simp[execOp,resolve,invoke,builtin,b.ev c,b.ev f,Builtin.max_,Builtin.max2,e]
theorem T4 {k:IntKind} {m n:Int} {ts:Array TypeId} (c:ev E x=some (.int k m)) (f:ev E y=some (.int k n)):
 Step P N E S ⟨d,.call ⟨.builtin .min,#[x,y],ts⟩,ty,pos,af,g⟩ (.int k (min m n)):=λa w b _=>by
 have e:(if n<m then n else m)=min m n:=by rw[Int.min_def];split<;>split<;>omega
 simp[execOp,resolve,invoke,builtin,b.ev c,b.ev f,Builtin.min_,Builtin.min2,e]
def lL (E:Env):List (Nat×Operand)->Option (List (Nat×Value))
 |[]=>some []
 |(i,x)::r=>match ev E x,lL E r with
  |some v,some vs=>some ((i,v)::vs)
  |_,_=>none
theorem Fits.evp {a:Act} (h:Fits N a E): ∀ {xs:List (Nat×Operand)} {vs:List (Nat×Value)},lL E xs=some vs->xs.map (λ(i,x)=>(i,a.eval x))=vs
 |[],vs,hx=>by grind [Sv.lL]
 |(i,x)::r,vs,hx=>by
  simp only[Sv.lL] at hx;cases b:Sv.ev E x with
  |none=>grind
  |some v=>
   cases c:Sv.lL E r with
   |none=>grind
   |some us=>
    simp[b,c] at hx;rw[<-hx,List.map_cons,h.evp c];simp only[h.ev b]
theorem B3 {t:TypeId} {ps:List (Nat×Operand)} {vs:List (Nat×Value)} (b:lL E ps=some vs) (h: ∀w,(Instr.build t vs.toArray).run P w= .ok v w):Step P N E S ⟨d,.build t ps.toArray,ty,pos,af,g⟩ v:=λa w c _=>by
 have e:ps.toArray.map (λ(i,x)=>(i,a.eval x))=vs.toArray:=by rw[<-c.evp b];simp
 grind [execOp,Sem.run_bind,Result.andThen_ok,Sem.run_pure]
end
theorem Hp.cells {I0:aV} {w0 w:World} {L:List aB} (h:Hp I0 w0 L w) (k:Nat) {b:Nat} {cs:Array Value} {t:TypeId} {a:Nat×Nat} (c:L[k]?=some (aU b (.cells cs t a))):
 ∀j v,cs.toList[j]?=some v->w.cell? ⟨b,0+j,none⟩=some v:=λj v d=>by
 rw[Nat.zero_add,dy (h.blk k c)]
 grind
structure bO (α:Type) where
 f:α->List Value
 sz:Nat
 d:α
 len: ∀x,(f x).length=sz
 pos:0<sz
 one: ∀x,∀v∈f x,v.oneCell'=true
section
variable {α:Type} (K:bO α)
def flat (ys:List α):List Value:=ys.flatMap K.f
theorem kG (ys:List α):(flat K ys).length=ys.length* K.sz:=by
 induction ys with
 |nil=>simp[flat]
 |cons y r a=>
  have:flat K (y::r)=K.f y++flat K r:=by simp[flat]
  rw[this,qD,K.len,a,qB,Nat.add_mul];omega
theorem uC (ys zs:List α):flat K (ys++zs)=flat K ys++flat K zs:=by simp[flat]
theorem yA {ys:List α} {j:Nat} {y:α} (a:ys[p]?=some y) (b:(K.f y)[j]?=some O):(flat K ys)[p* K.sz+j]?=some O:=by
 have c:j<K.sz:=by
  have h:=(List.getElem?_eq_some_iff.1 b).1;rw[K.len] at h;exact h
 induction ys generalizing p with
 |nil=>grind
 |cons z r d=>
  have e:flat K (z::r)=K.f z++flat K r:=by simp[flat]
  rw[e];cases p with
  |zero=>
   grind
  |succ p=>
   simp only[List.getElem?_cons_succ] at a;rw[List.getElem?_append_right (by rw[K.len,Nat.add_mul];omega),K.len,show(p+1)* K.sz+j-K.sz=p* K.sz+j from zg]
   grind
theorem Ar {ys:List α} (h:p<ys.length) (d:α):ys[p]?=some (ys.getD p d):=by
 grind
theorem dN (ys:List α) (m:Nat) (y d:α) (h:m<ys.length):(ys.set m y).getD m d=y:=zg
theorem db (ys:List α) {k:Nat} (y d:α) (h:p≠k):(ys.set p y).getD k d=ys.getD k d:=zg
theorem Au {ys:List α} (h:p<ys.length) (y:α):flat K (ys.set p y)=(flat K ys).take (p* K.sz)++K.f y++(flat K ys).drop (p* K.sz+K.sz):=by
 induction ys generalizing p with
 |nil=>simp at h
 |cons z r a=>
  have e:flat K (z::r)=K.f z++flat K r:=by simp[flat]
  cases p with
  |zero=>
   have e':flat K ((z::r).set 0 y)=K.f y++flat K r:=by simp[flat]
   rw[e',e,Nat.zero_mul,List.take_zero,List.nil_append,Nat.zero_add,List.drop_append_of_le_length (by rw[K.len];grind),List.drop_of_length_le (by rw[K.len];grind),List.nil_append]
  |succ p=>
   have e':flat K ((z::r).set (p+1) y)=K.f z++flat K (r.set p y):=by simp[flat]
   have b:(p+1)* K.sz=K.sz+p* K.sz:=zg
   rw[e',e,a zg,b];have c:=K.len z;have d:List.take (K.sz+p* K.sz) (K.f z)=K.f z:=List.take_of_length_le zo;have g:List.drop (K.sz+p* K.sz+K.sz) (K.f z)=[]:=List.drop_of_length_le zo;rw[List.take_append,List.drop_append,c,d,g,List.nil_append];rw[show K.sz+p* K.sz-K.sz=p* K.sz from zo,show K.sz+p* K.sz+K.sz-K.sz=p* K.sz+K.sz from zo]
   grind
theorem Av (ys:List α): ∀v∈flat K ys,v.oneCell'=true:=by
 intro v a;simp only[flat,List.mem_flatMap] at a;obtain⟨y,_,b⟩:=a;exact K.one y v b
end
def bk:Option Addr->Nat
 |some a=>a.block
 |none=>0
def of:Option Addr->Nat
 |some a=>a.off
 |none=>0
def RS {α:Type} (w:World) (K:bO α) (A:Option Addr) (ys:List α):Prop:=
 ys=[]\/ ∃cur t fz,A=some ⟨bk A,of A,none⟩/\w.heap[bk A]?=some (.cells cur t fz)/\ ∀j v,(flat K ys)[j]?=some v->cur[of A+j]?=some v
section
variable {α:Type} {K:bO α} {w w':World} {A:Option Addr} {ys:List α}
theorem RS.form (h:RS w K A ys) (a:p<ys.length):A=some ⟨bk A,of A,none⟩:=by
 rcases h with rfl|⟨_,_,_,h,_⟩
 ·grind
 grind
theorem RS.cell (h:RS w K A ys) {m j:Nat} {v:Value} (a:m<ys.length) (b:(K.f (ys.getD m K.d))[j]?=some v):w.cell? ⟨bk A,of A+m* K.sz+j,none⟩=some v:=by
 rcases h with rfl|⟨c,t,i,_,e,g⟩
 ·grind
 ·rw[dy e,Nat.add_assoc];exact g _ _ (yA K (Ar a K.d) b)
theorem RS.keep (h:RS w K A ys) (b: ∀o,w.heap[bk A]?=some o->w'.heap[bk A]?=some o):RS w' K A ys:=by
 rcases h with h|⟨a,t,c,d,e,f⟩
 ·exact .inl h
 ·exact .inr ⟨a,t,c,d,b _ e,f⟩
theorem RS.ext {I:aV} (h:RS w K A ys) (b:gn I w w') (c: ¬I (bk A)):RS w' K A ys:=h.keep λo a=>by rw[b.block _ (xz a) c];exact a
theorem RS.take (h:RS w K A ys) (n:Nat):RS w K A (ys.take n):=by
 rcases h with rfl|⟨a,t,b,c,d,e⟩
 ·exact .inl zm
 ·refine .inr ⟨a,t,b,c,d,λj v f=>e j v ?_⟩
  grind [uC,List.take_append_drop]
theorem Hp.rs {I0:aV} {L:List aB} (h:Hp I0 U L w) (b:RS U K A ys) (c:ys≠[]-> ¬I0 (bk A)):RS w K A ys:=by
 obtain⟨_,_,d,_⟩:=h;by_cases a:ys=[]
 ·exact .inl a
 ·exact b.ext d (c a)
end
def OS {α:Type} (e:TypeId) (K:bO α) (A:Option Addr) (c:Nat) (ys:List α):aB where
 sat w I:=(A=none/\ys=[]/\c=0/\ ∀x,¬I x)\/ ∃g cur,A=some ⟨g,0,none⟩/\(∀x,I x↔x=g)/\w.heap[g]?=some (.cells cur e (0,0))/\ys.length<=c/\c<=maxLen/\cur.size=c* K.sz/\cur.toList.take (ys.length* K.sz)=flat K ys
 lt h x hx:=by
  grind
 keep h hk:=by
  grind
section
variable {α:Type} {K:bO α} {w w' w0:World} {A:Option Addr} {ys:List α} {e:TypeId} {c:Nat} {I0:aV} {L:List aB}
theorem OS.rs {I:aV} (h:(OS e K A c ys).sat w I):RS w K A ys:=by
 rcases h with ⟨_,h,_⟩|⟨g,a,rfl,_,b,_,_,_,d⟩
 ·exact .inl h
 ·refine .inr ⟨a,e,(0,0),rfl,b,λj v f=>?_⟩
  grind [of]
theorem Hp.os (h:Hp I0 w0 L w) (k:Nat) (a:L[k]?=some (OS e K A c ys)):RS w K A ys:=by
 obtain⟨i,j,b,_⟩:=h.at a;exact OS.rs b
theorem Hp.osCap (h:Hp I0 w0 L w) (k:Nat) (a:L[k]?=some (OS e K A c ys)):ys.length<=c/\c<=maxLen:=by
 obtain⟨i,j,b,_⟩:=h.at a;rcases b with ⟨_,h,d,_⟩|⟨g,f,rfl,_,l,m,d,_,n⟩
 ·grind
 grind
end
section
variable {P:Program} {N:NN} {Q:Exit->Act->World->Prop} {E:Env} {S:World->Prop} {ops:Array Oper} {rest:List Oper}
variable {d:Option Nat} {ty:TypeId} {pos:String} {af:Array Edge} {g:Option (Nat×Bool)} {x y z:Operand} {u v:Value} {KK:Act->World->Prop}
variable {I0:aV} {w0:World} {L:List aB} {α:Type} {K:bO α} {A:Option Addr} {ys:List α} {e:TypeId} {c:Nat}
theorem Step.idx {e:TypeId} {n:Nat} {k:IntKind} {i:Int} (f:P.underlying J=some (.slice e)) (j:TI P e O K.sz p) (hs: ∀w,S w->RS w K A ys)
 (l:ev E x=some (.slice A n c)) (o:ev E y=some (.int k i)) (by_:n=ys.length) (m:Nat) (q:i=(m:Int)) (b:m<ys.length):
 Step P N E S ⟨d,.indexAddr J x y,ty,pos,af,g⟩ (.pointer (some ⟨bk A,of A+m* K.sz,none⟩)):=λa w r h=>by
 subst by_;exact Q6 f j l o ((hs w h).form b) m q b a w r h
theorem GR {f:TypeId} {by_ b o:Nat} (vs:List Value) (g:TI P J O p by_) (i:v.cells=vs.toArray) (l:vs.length=p)
 (j:U.heap[b]?=some (.cells Y f (0,0))) (m:o+vs.length<=Y.size) (k: ∀v∈vs,v.oneCell'=true):
 (storeVar J ⟨b,o,none⟩ v).run P U= .ok () (U.setRow b (Y.toList.take o++vs++Y.toList.drop (o+vs.length)).toArray):=by
 have h:=run_storeCells_at (P:=P) b o f vs 0 Y U j zg k;simp only[Nat.add_zero] at h;have d:v.cells.size=p:=zg
 have e:v.cells.toList=vs:=by rw[i]
 simp only[storeVar,Sem.run_bind,g.sizeOf,Result.andThen_ok,d,ne_eq,not_true_eq_false,if_false,Sem.run_pure,e,h]
theorem Hp.setRow {w:World} (h:Hp I0 w0 L w) {k b:Nat} {o:Obj} {a cs:Array Value} {t:TypeId} (c:L[k]?=some (aU b o)) (d:o= .cells a t (0,0)):Hp I0 w0 (L.set k (aU b (.cells cs t (0,0)))) (w.setRow b cs):=by
 subst d;have e:=h.blk k c;exact h.modify c (setRow_heap w b a cs t (0,0) e) (by simp_all) (λx f=>setRow_other w b x cs f) z6 z6 rfl
theorem D5 (k:Nat) {t h:TypeId} {ze:Value} {i by_ b o:Nat} {c:Array Value} (vs:List Value) (cs:Array Value) (m:TI P t ze i by_)
 (n:ev E x=some (.pointer (some ⟨b,o,none⟩))) (p:ev E y=some v) (j:L[k]?=some (aU b (.cells c h (0,0)))) (q:v.cells=vs.toArray) (r:vs.length=i)
 (s:o+vs.length<=c.size) (u: ∀v∈vs,v.oneCell'=true) (f:(c.toList.take o++vs++c.toList.drop (o+vs.length)).toArray=cs)
 (z:dJ N ops ⟨none,.store t x y,ty,pos,af,g⟩ E)
 (A:KV N KK E (Hp I0 w0 (L.set k (aU b (.cells cs h (0,0)))))):OV P N ops Q ⟨none,.store t x y,ty,pos,af,g⟩ E (Hp I0 w0 L) KK:=λa w e l=>by
 subst f;rw[if_pos (z a e)];have B:=l.blk k j;unfold Oper.wp;have d:=GR vs m q r B s u;simp only[execOp,e.ev n,e.ev p,Instr.storeAt,Instr.sureAddr,Sem.run_bind,Sem.run_pure,Result.andThen_ok,d];exact A _ _ (e.put_none _) (l.setRow j z6)
theorem L1 (k m:Nat) (y':α) {sz o j:Nat} (vs:List Value) (hi:TI P J O sz p)
 (hx:ev E x=some (.pointer (some ⟨bk A,o,none⟩))) (hy:ev E y=some v) (hk:L[k]?=some (OS e K A c ys)) (ho:o=of A+m* K.sz+j) (hv:v.cells=vs.toArray) (hl:vs.length=sz)
 (hlt:m<ys.length) (hf':K.f y'=(K.f (ys.getD m K.d)).take j++vs++(K.f (ys.getD m K.d)).drop (j+vs.length)) (hj:j+vs.length<=K.sz)
 (hg:dJ N ops ⟨none,.store J x y,ty,pos,af,g⟩ E)
 (kk:KV N KK E (Hp I0 w0 (L.set k (OS e K A c (ys.set m y'))))):OV P N ops Q ⟨none,.store J x y,ty,pos,af,g⟩ E (Hp I0 w0 L) KK:=λa w hf hs=>by
 rw[if_pos (hg a hf)];obtain⟨i,jj,hA,hL,hd,he,hi1,hj1⟩:=hs.at hk;rcases hA with ⟨_,rfl,_⟩|⟨gb,cur,rfl,hI,hb,hle,hc,hsz,ht⟩
 ·grind
 ·have hlen:m* K.sz+K.sz<=ys.length* K.sz:=by
   have:(m+1)* K.sz<=ys.length* K.sz:=Nat.mul_le_mul_right _ hlt
   grind
  have hcap:ys.length* K.sz<=c* K.sz:=Nat.mul_le_mul_right _ hle;have ho':o=m* K.sz+j:=by grind [of]
  have h1: ∀v∈vs,v.oneCell'=true:=λu hu=>K.one y' u zg;have hrun:=GR (P:=P) (v:=v) vs hi hv hl hb (o:=o) zo h1;unfold Oper.wp;have hx':=hf.ev hx;simp only[bk] at hx';simp only[execOp,hx',hf.ev hy,Instr.storeAt,Instr.sureAddr,Sem.run_bind,Sem.run_pure,Result.andThen_ok,hrun];refine kk _ _ (hf.put_none _) ?_;refine Hp.perm ?_ (oa _ hk);refine⟨λx=>x=gb\/jj x,⟨λx=>x=gb,jj,λ_=>Iff.rfl,λx ex hxj=>?_,.inr ⟨gb,_,rfl,λ_=>Iff.rfl,setRow_heap w gb cur _ e (0,0) hb,zg,hc,?_,?_⟩,hL.keep λx hxq=>setRow_other w gb x _ ?_⟩,⟨he.os,he.tape,he.output,by simpa using he.size,λx hlt hn=>?_⟩,?_⟩
  ·grind
  ·grind
  ·rw[qI,Au K hlt,<-ht,hf',ho'];apply List.ext_getElem?;intro by_;have htl:cur.toList.length=c* K.sz:=zg
   have hkl:(K.f (ys.getD m K.d)).length=K.sz:=K.len _;have hmid: ∀q,q<K.sz->(K.f (ys.getD m K.d))[q]?=cur.toList[m* K.sz+q]?:=λq hq=>by
    have hq':(K.f (ys.getD m K.d))[q]?=some ((K.f (ys.getD m K.d))[q]' zo):=qJ zo;have:=yA K (Ar hlt K.d) hq'
    grind
   simp only[List.getElem?_take,List.getElem?_append,qD,qF,qG,htl,hkl,List.getElem?_drop];have e1:min (m* K.sz) (min (ys.length* K.sz) (c* K.sz))=m* K.sz:=zo
   have e2:min (m* K.sz+j) (c* K.sz)=m* K.sz+j:=zo
   have e3:min j K.sz=j:=zo
   simp only[e1,e2,e3];by_cases p1:by_<m* K.sz
   ·grind
   ·by_cases p2:by_<m* K.sz+K.sz
    ·have q1:by_<ys.length* K.sz:=zo
     have q2:by_<m* K.sz+(j+vs.length+(K.sz-(j+vs.length))):=zo
     simp only[q1,q2,p1,if_true,if_false];by_cases p3:by_<m* K.sz+j
     ·have r1:by_-m* K.sz<j:=zo
      have r2:by_-m* K.sz<j+vs.length:=zo
      simp only[p3,show by_<m* K.sz+j+vs.length from zo,r1,r2,if_true];rw[hmid _ zo]
      grind
     grind
    grind
  ·grind
  ·have hne:x≠gb:=by
    grind
   rw[setRow_other w gb x _ hne,he.block x hlt hn]
  grind
end
section
variable {P:Program} {N:NN} {Q:Exit->Act->World->Prop} {E:Env} {S:World->Prop} {ops:Array Oper} {rest:List Oper}
variable {d:Nat} {ty:TypeId} {pos:String} {af:Array Edge} {g:Option (Nat×Bool)} {x y z:Operand} {u v:Value} {KK:Act->World->Prop}
variable {I0:aV} {w0:World} {L:List aB} {α:Type} {K:bO α} {A B:Option Addr} {ys zs:List α} {e:TypeId} {c:Nat}
theorem N9 {t:TypeId} {ze:Value} {c by_:Nat} (cs:Array Value) (e:TI P t ze c by_) (b:ze.cells=cs) (f:dJ N ops ⟨some d,.alloc t,ty,pos,af,g⟩ E) (h:Nat.blt d N.n=true)
 (k: ∀nb,KV N KK (set E d (.pointer (some ⟨nb,0,none⟩))) (Hp I0 w0 (L++[aU nb (.cells cs t (0,0))]))):OV P N ops Q ⟨some d,.alloc t,ty,pos,af,g⟩ E (Hp I0 w0 L) KK:=
 I6 f (λa w i _=>by
  subst b;simp only[execOp,Instr.alloc,Sem.run_bind,e.zeroValue,Result.andThen_ok,newVar,newRow,Sem.run_pure,run_newObj_alloc]) h k
theorem H3 {t:TypeId} (cs:Array Value) (c:ev E x=some v) (b:v.cells=cs) (e:dJ N ops ⟨some d,.box t x,ty,pos,af,g⟩ E) (f:Nat.blt d N.n=true)
 (k: ∀nb,KV N KK (set E d (.pointer (some ⟨nb,0,none⟩))) (Hp I0 w0 (L++[aU nb (.cells cs t (0,0))]))):OV P N ops Q ⟨some d,.box t x,ty,pos,af,g⟩ E (Hp I0 w0 L) KK:=
 I6 e (λa w h _=>by
  subst b;simp only[execOp,Instr.box,Sem.run_bind,Result.andThen_ok,newVar,newRow,Sem.run_pure,run_newObj_alloc,h.ev c]) f k
theorem OS.ofBlk {I:aV} (h:(aU p (.cells Y e (0,0))).sat U I) (a:ys.length<=c) (b:c<=maxLen) (hs:Y.size=c* K.sz) (d:Y.toList.take (ys.length* K.sz)=flat K ys):
 (OS e K (some ⟨p,0,none⟩) c ys).sat U I:= .inr ⟨p,Y,rfl,h.1,h.2,a,b,hs,d⟩
theorem Sep.last {I:aV} {A B:aB} (h:Sep (L++[A]) I U) (a: ∀J,A.sat U J->B.sat U J):Sep (L++[B]) I U:=by
 obtain⟨i,j,hI,d,e,f⟩:=Sep.append.1 h;obtain⟨g,k,l,b,c,m⟩:=f;exact Sep.append.2 ⟨i,j,hI,d,e,⟨g,k,l,b,a _ c,m⟩⟩
theorem Hp.last {w:World} {A B:aB} (h:Hp I0 w0 (L++[A]) w) (a: ∀J,A.sat w J->B.sat w J):Hp I0 w0 (L++[B]) w:=
 let ⟨I,hs,he,hi⟩:=h;⟨I,hs.last a,he,hi⟩
theorem Q9 {ps:List (Nat×Operand)} {vs:List (Nat×Value)} (ys:List α) (c:lL E ps=some vs)
 (h: ∀w,(Instr.buildSlice J p vs.toArray).run P w= .ok (.slice (some ⟨w.heap.size,0,none⟩) p p) (w.alloc (.cells Y e))) (f:p=ys.length) (j:Y.toList=flat K ys) (n:p<=1000000)
 (l:dJ N ops ⟨some d,.buildSlice J p ps.toArray,ty,pos,af,g⟩ E) (m:Nat.blt d N.n=true)
 (k: ∀nb,KV N KK (set E d (.slice (some ⟨nb,0,none⟩) ys.length ys.length)) (Hp I0 w0 (L++[OS e K (some ⟨nb,0,none⟩) ys.length ys]))):OV P N ops Q ⟨some d,.buildSlice J p ps.toArray,ty,pos,af,g⟩ E (Hp I0 w0 L) KK:=by
 subst f;refine I6 (ob:= .cells Y e) l (λa w b _=>?_) m λnb a w b o=>k nb a w b (o.last λcs q=>?_)
 ·have e':ps.toArray.map (λ(i,x)=>(i,a.eval x))=vs.toArray:=by rw[<-b.evp c];simp
  grind [execOp,Sem.run_bind,Result.andThen_ok,Sem.run_pure]
 grind [OS.ofBlk,maxLen,kG]
theorem H4 {t:TypeId} {n:Nat} {ps:List (Nat×Operand)} {vs:List (Nat×Value)} (ys:List α) {cs:Array Value} (b:lL E ps=some vs)
 (h: ∀w,(Instr.buildSlice t n vs.toArray).run P w= .ok (.slice (some ⟨w.heap.size,0,none⟩) n n) (w.alloc (.cells cs e))) (c:n=ys.length) (a:cs.toList=flat K ys) (f:n<=1000000)
 (i:dJ N ops ⟨some d,.buildSlice t n ps.toArray,ty,pos,af,g⟩ E) (j:Nat.blt d N.n=true)
 (k: ∀A,KV N KK (set E d (.slice A ys.length ys.length)) (Hp I0 w0 (L++[OS e K A ys.length ys]))):OV P N ops Q ⟨some d,.buildSlice t n ps.toArray,ty,pos,af,g⟩ E (Hp I0 w0 L) KK:=Q9 ys b h c a f i j λnb=>k _
theorem RF (n:Nat) (y:α): ∀j,j<n* K.sz->(flat K (List.replicate n y))[j]?=(K.f y)[j%K.sz]?:=by
 intro j c;have d:=K.pos;have a:j/K.sz<n:=by simp_all[Nat.div_lt_iff_lt_mul]
 have b:j%K.sz<(K.f y).length:=by rw[K.len];simp_all[Nat.mod_lt]
 have h:=yA K (ys:=List.replicate n y) (p:=j/K.sz) (by simp[a]) (qJ b)
 grind [Nat.div_add_mod]
theorem Aw {c:Nat} {y:α} (b:Y.toList=K.f y) (a:p<=c):(madeCells Y (c* K.sz)).toList.take (p* K.sz)=flat K (List.replicate p y):=by
 have d:p* K.sz<=c* K.sz:=Nat.mul_le_mul_right _ a;have e:Y.size=K.sz:=by rw[<-Array.length_toList,b,K.len]
 have g:=K.pos;apply List.ext_getElem?
 grind [RF,madeCells,kG]
theorem O0 {q r:IntKind} {i j:Int} (n c:Nat) (s:α) (u:P.underlying J=some (.slice e)) (v:TI P e O K.sz p) (M:O.cells.toList=K.f s)
 (z:ev E x=some (.int q i)) (A:ev E y=some (.int r j)) (l:i=(n:Int)) (m:j=(c:Int)) (B:n<=c) (ze:p* c<=281474976710656) (R:c<=9223372036854775807)
 (C:dJ N ops ⟨some d,.makeSlice J x y,ty,pos,af,g⟩ E) (D:Nat.blt d N.n=true)
 (k: ∀nb,KV N KK (set E d (.slice (some ⟨nb,0,none⟩) n c)) (Hp I0 w0 (L++[OS e K (some ⟨nb,0,none⟩) c (List.replicate n s)]))):OV P N ops Q ⟨some d,.makeSlice J x y,ty,pos,af,g⟩ E (Hp I0 w0 L) KK:=by
 subst l;subst m;obtain⟨b,F,G,H,S⟩:=v.get;refine I6 (ob:= .cells (madeCells O.cells (c* K.sz)) e) C (λa w h _=>?_) D λnb a w h I=>k nb a w h (I.last λby_ T=>?_)
 ·have o:(b.bytes:Int)* (c:Int)<=281474976710656:=zg
  have t:=run_make w J e b O u F G q r n c zo zo o zo;rw[H] at t;simp only[qh] at t;simp only[execOp,h.ev z,h.ev A,Sem.run_bind,t,Result.andThen_ok,Sem.run_pure]
 grind [OS.ofBlk,maxLen,size_madeCells,Aw]
theorem OV.make {m o:IntKind} {i j:Int} (n c:Nat) (a:α) (by_:P.underlying J=some (.slice e)) (q:TI P e O K.sz p) (r:O.cells.toList=K.f a)
 (s:ev E x=some (.int m i)) (u:ev E y=some (.int o j)) (b:i=(n:Int)) (h:j=(c:Int)) (l:n<=c) (v:p* c<=281474976710656) (w:c<=9223372036854775807)
 (z:dJ N ops ⟨some d,.makeSlice J x y,ty,pos,af,g⟩ E) (B:Nat.blt d N.n=true)
 (k: ∀A,KV N KK (set E d (.slice A n c)) (Hp I0 w0 (L++[OS e K A c (List.replicate n a)]))):OV P N ops Q ⟨some d,.makeSlice J x y,ty,pos,af,g⟩ E (Hp I0 w0 L) KK:=O0 n c a by_ q r s u b h l v w z B λnb=>k _
theorem Hp.update {w':World} {A l:aB} (h:Hp I0 w0 L U) (m:L[p]?=some A)
 (k: ∀i,A.sat U i-> ∃b:aV,l.sat w' b/\(∀x,b x->i x\/U.heap.size<=x)/\gn i U w'):Hp I0 w0 (L.set p l) w':=by
 obtain⟨i,j,q,f,r,n,s,u⟩:=h.at m;obtain⟨b,g,a,o⟩:=k i q;refine Hp.perm ?_ (oa _ m);refine⟨λx=>b x\/j x,⟨b,j,λ_=>Iff.rfl,λx d e=>?_,g,f.keep λx c=>o.block x (f.lt x c) λh=>r x h c⟩,?_,?_⟩
 ·rcases a x d with t|t
  ·grind
  ·have:=f.lt x e;omega
 ·exact n.trans o s
 ·rintro x (d|d)
  ·rcases a x d with e|e
   ·grind
   ·exact .inr (qk n.size e)
  grind
theorem RJ (base:Nat) (w:World) (t ty e:TypeId) (i:TypeInfo) (size:Nat) (d:P.underlying t=some (.slice e)) (f:P.info? e=some i)
 (v:Value) (n:Nat) (xs:List Value) (a:w.ownsRow base e size v n xs) (c:Nat):(Builtin.append_ #[t,t] ty #[v,.slice none 0 c]).run P w= .ok v w:=by
 rcases a.2 with ⟨rfl,rfl⟩|⟨g,cap,h,rfl,_,_,b,_⟩
 ·simp[Builtin.append_,run_underlying d,sizeOf,typeInfo,f,Builtin.lenOf,Builtin.firstCells]
 ·simp[Builtin.append_,run_underlying d,sizeOf,typeInfo,f,Builtin.lenOf,Builtin.firstCells,b,storeCells]
theorem GS {i:aV} {cB:Nat} (Q:P.underlying J=some (.slice e)) (R:TI P e O K.sz p) (v:O.cells.size=K.sz)
 (h:(OS e K A c ys).sat U i) (F:RS U K B zs) (G:zs=[]->B=none\/ ∃a,B=some a) (H:(ys.length+zs.length)* p<=140737488355328) (hm:ys.length+zs.length<=9223372036854775807):
 ∃I by_ w',(Builtin.append_ #[J,J] ty #[.slice A ys.length c,.slice B zs.length cB]).run P U= .ok (.slice I (ys++zs).length by_) w'/\
  ∃L:aV,(OS e K I by_ (ys++zs)).sat w' L/\(∀x,L x->i x\/U.heap.size<=x)/\gn i U w':=by
 obtain⟨y,S,T,t,V⟩:=R.get;have n:U.ownsRow 0 e K.sz (.slice A ys.length c) ys.length (flat K ys):=by
  refine⟨kG K ys,?_⟩;rcases h with ⟨rfl,rfl,rfl,_⟩|⟨s,k,rfl,hI,H,z,o,w,W⟩
  ·grind
  grind
 have key: ∃m w',(Builtin.append_ #[J,J] ty #[.slice A ys.length c,.slice B zs.length cB]).run P U= .ok m w'/\w'.ownsRow 0 e K.sz m (ys.length+zs.length) (flat K ys++flat K zs)/\U.grownBy w' (Value.slice A ys.length c).ownBlock/\
  (m.ownBlock=(Value.slice A ys.length c).ownBlock\/m.ownBlock=some U.heap.size):=by
  cases M:B with
  |none=>
   have N:zs=[]:=by
    rcases F with h|⟨_,_,_,h,_⟩
    ·exact h
    grind
   grind [RJ,flat,World.grownBy.refl]
  |some a=>
   have l: ∀j u,(flat K zs)[j]?=some u->U.cell? (a.add j)=some u:=λj u X=>by
    rcases F with rfl|⟨k,tt,fz,C,q,o⟩
    ·grind [flat]
    ·rw[M] at C;have Y:a=⟨a.block,a.off,none⟩:=zg
     rw[M] at q o;simp only[bk] at q;have D:=o j u X;rw[Y];by_cases Z:j=0
     ·subst Z;grind [Addr.add,dy]
     grind [Addr.add,dy]
   obtain⟨m,w',f,ze,b,_,d⟩:=run_append_own_at U 0 J ty e y O K.sz p Q S T t V v K.pos _ ys.length (flat K ys) n a zs.length cB (flat K zs) (kG K zs) l (Av K zs)
    (by grind [maxLen]) H (qT _)
   grind
 obtain⟨m,w',f,ze,b,d⟩:=key;have g:gn i U w':=⟨b.os,b.tape,b.output,b.size,λx hx hn=>b.block x hx λhh=>hn ?_⟩
 ·rcases ze.2 with ⟨rfl,h0⟩|⟨s,cap,k,rfl,_,E,z,o,w,W⟩
  ·have hy:ys=[]:=qO zo;have N:zs=[]:=qO zo;subst hy;subst N;exact⟨none,0,w',f,λ_=>False,.inl ⟨rfl,rfl,rfl,λ_ h=>h⟩,λ_ h=>h.elim,g⟩
  ·refine⟨some ⟨s,0,none⟩,cap,w',zg,λx=>x=s,.inr ⟨s,k,rfl,λ_=>Iff.rfl,E,zg,o,w,by grind [uC]⟩,?_,g⟩;rintro x rfl;rcases d with d|d
   ·rcases h with ⟨rfl,_⟩|⟨g2,r,rfl,hI,_⟩
    ·grind [Value.ownBlock]
    grind [Value.ownBlock]
   grind [Value.ownBlock]
 ·rcases h with ⟨rfl,_⟩|⟨g2,r,rfl,hI,_⟩
  ·grind [Value.ownBlock]
  grind [Value.ownBlock]
theorem H8 (k:Nat) {t:TypeId} {ze:Value} {by_ n m cB:Nat} (u:P.underlying t=some (.slice e)) (v:TI P e ze K.sz by_) (b:ze.cells.size=K.sz)
 (G:ev E x=some (.slice A n c)) (H:ev E y=some (.slice B m cB)) (I:n=ys.length) (q:m=zs.length) (z:L[k]?=some (OS e K A c ys)) (C: ∀w,Hp I0 w0 L w->RS w K B zs)
 (D:(ys.length+zs.length)* by_<=140737488355328) (F:ys.length+zs.length<=9223372036854775807) (J:dJ N ops ⟨some d,.call ⟨.builtin .append,#[x,y],#[t,t]⟩,ty,pos,af,g⟩ E) (M:Nat.blt d N.n=true)
 (O: ∀h l,KV N KK (set E d (.slice h (ys++zs).length l)) (Hp I0 w0 (L.set k (OS e K h l (ys++zs))))):OV P N ops Q ⟨some d,.call ⟨.builtin .append,#[x,y],#[t,t]⟩,ty,pos,af,g⟩ E (Hp I0 w0 L) KK:=λa w o p=>by
 subst I;subst q;obtain⟨i,j,R,_⟩:=p.at z;obtain⟨h,l,S,f,_⟩:=GS (ty:=ty) (cB:=cB) u v b R (C w p) (λ_=>by cases B<;>simp) D F;refine G8 (w':=S) (J a o) ?_ (O h l _ _ (o.put _ M) (p.update z λU r=>?_))
 ·simp only[execOp,resolve,invoke,builtin,Sem.run_bind,Sem.run_pure,Result.andThen_ok,List.map_toArray,List.map_cons,List.map_nil,o.ev G,o.ev H,f]
 ·obtain⟨V,W,X,s,T⟩:=GS (ty:=ty) (cB:=cB) u v b r (C w p) (λ_=>by cases B<;>simp) D F
  grind
end
def Fx (P:Program) (f:FuncId) (vs:List Value) (w:World) (Own:List aB) (ro:aV) (post:Value->List aB->Prop):Prop:=
 ∀I:aV,Sep Own I w->(∀b,ro b-> ¬I b)->Calls P f vs.toArray w (λe w'=> ∃v L',e= .returned v/\post v L'/\Hp I w L' w')
def no:aV:=λ_=>False
def params:Nat->List Value->Env
 |_,[]=>[]
 |k,v::r=>(k,v)::params (k+1) r
theorem uD: ∀(vs:List Value) (k t:Nat) (v:Value),get (params k vs) t=some v->k<=t/\vs[t-k]?=some v
 |[],_,_,_,h=>by grind [params,get]
 |u::r,k,t,v,h=>by
  by_cases b:k=t
  ·simp_all[params,get]
  ·have a:Nat.beq k t=false:=by grind [Nat.beq_eq]
   simp only[params,get,a,cond_false] at h;obtain⟨c,d⟩:=uD r (k+1) t v h
   grind
section
variable {P:Program} {f:FuncId} {vs:List Value} {w:World} {Own:List aB} {ro:aV} {post:Value->List aB->Prop}
theorem Fx.body {fn:Func} {c:Code} {N:Nat} (g:P.funcs[f]?=some fn) (i:fn.body=some c) (k:fn.ntmps=N) (l:Nat.ble vs.length N=true)
 (h: ∀I:aV,(∀b,ro b-> ¬I b)->Sep Own I w->CV P ⟨N,[]⟩ c (bodyPost P fn (λe w'=> ∃v d,e= .returned v/\post v d/\Hp I w d w')) (params 0 vs) (Hp I w Own)):Fx P f vs w Own ro post:=by
 intro I hI a;refine calls_of_wp g i (h I a hI _ _ ⟨rfl,?_,λt v j=>?_⟩ (Hp.start hI))
 ·simp_all
 ·obtain⟨_,m⟩:=uD vs 0 t v j
  grind
theorem Fx.mono {post':Value->List aB->Prop} (h:Fx P f vs w Own ro post) (b: ∀v L,post v L->post' v L):Fx P f vs w Own ro post':=
 λI hI c=>(h I hI c).mono λ_ _ ⟨v,a,d,e,g⟩=>⟨v,a,d,b v a e,g⟩
section
variable {N:Nat} {fn:Func} {I:aV} {L L':List aB} {E:Env} {v v1 v2 v3:Value} {t t1 t2 t3:Tmp}
theorem H9 (d:fn.results= #[]) (b) (c: ∀w',Hp I w L w'->Hp I w b w') (f:post (.tuple #[]) b):
 KV ⟨N,[]⟩ (bodyPost P fn (λe w'=> ∃v b,e= .returned v/\post v b/\Hp I w b w') .ret) E (Hp I w L):=λa w' g h=>
 ⟨g.defers,_,results_none d _ _ _,_,b,rfl,f,c w' h⟩
theorem A7 (f:fn.results= #[.tmp t]) (g:get E t=some v) (b) (c: ∀w',Hp I w L w'->Hp I w b w') (h:post v b):
 KV ⟨N,[]⟩ (bodyPost P fn (λe w'=> ∃v b,e= .returned v/\post v b/\Hp I w b w') .ret) E (Hp I w L):=λa w' d i=>
 ⟨d.defers,v,by rw[results_tmp f];simp[d.slot t v g],v,b,rfl,h,c w' i⟩
theorem D2 (f:fn.results= #[.tmp t1,.tmp t2]) (g:get E t1=some v1) (h:get E t2=some v2) (b) (c: ∀w',Hp I w L w'->Hp I w b w') (i:post (.tuple #[v1,v2]) b):
 KV ⟨N,[]⟩ (bodyPost P fn (λe w'=> ∃v b,e= .returned v/\post v b/\Hp I w b w') .ret) E (Hp I w L):=λa w' d j=>
 ⟨d.defers,.tuple #[v1,v2],by rw[results_tmp2 f];simp[d.slot t1 v1 g,d.slot t2 v2 h],_,b,rfl,i,c w' j⟩
end
end
def cQ:List Nat->List aB->Option (List aB×List aB)
 |[],L=>some ([],L)
 |k::ks,L=>match L[k]? with
  |none=>none
  |some A=>match cQ ks (L.eraseIdx k) with
   |none=>none
   |some (S,R)=>some (A::S,R)
theorem gH: ∀ {ks:List Nat} {L S R:List aB},cQ ks L=some (S,R)->L.Perm (S++R)
 |[],L,S,R,h=>by simp_all[cQ]
 |k::ks,L,S,R,h=>by
  simp only[cQ] at h;cases a:L[k]? with
  |none=>grind
  |some A=>
   cases b:cQ ks (L.eraseIdx k) with
   |none=>grind
   |some q=>
    obtain⟨S',c⟩:=q;simp[a,b] at h;obtain⟨rfl,rfl⟩:=h;exact(nv a).trans (List.Perm.cons A (gH b))
section
variable {P:Program} {N:NN} {Q:Exit->Act->World->Prop} {E:Env} {ops:Array Oper} {KK:Act->World->Prop} {I0:aV} {w0:World} {L Own F:List aB}
def cn (I0:aV) (w0:World) (F:List aB) (b:Nat):Prop:=(¬I0 b/\b<w0.heap.size)\/ ∃(j:Nat) (A:aB),F[j]?=some A/\ ∀(w:World) (I:aV),A.sat w I->I b
theorem Calls.frame {f:FuncId} {ks:List Nat} {ro:aV} {post:Value->List aB->Prop} (y:cQ ks L=some (Own,F)) (hs:Hp I0 w0 L U) (hro: ∀b,ro b->cn I0 w0 F b)
 (h:Fx P f V U Own ro post):Calls P f V.toArray U (λe w'=> ∃v m,e= .returned v/\post v m/\Hp I0 w0 (F++m) w'):=by
 obtain⟨I,d,q,z⟩:=hs.perm (gH y);obtain⟨B,r,hI,C,D,n⟩:=Sep.append.1 d;refine(h B D λb E G=>?_).mono ?_
 ·rcases hro b E with ⟨g,s⟩|⟨j,A,H,M⟩
  ·grind
  ·obtain⟨i,N,J,_,K,_⟩:=n.perm (nv H)
   grind
 ·rintro e w' ⟨v,m,rfl,a,t,p,u,k⟩;refine⟨v,m,rfl,a,λx=>r x\/t x,Sep.append.2 ⟨r,t,λ_=>Iff.rfl,λx g s=>?_,n.keep λx l=>u.block x (n.lt x l) λc=>C x c l,p⟩,q.trans u λx c=>z x ((hI x).2 (.inl c)),?_⟩
  ·rcases k x s with o|o
   ·grind
   ·have:=n.lt x g;omega
  ·rintro x (g|g)
   ·grind
   ·rcases k x g with o|o
    ·grind
    ·exact .inr (qk q.size o)
theorem R0 (ks:List Nat) {d:Nat} {f:FuncId} {fn:Func} {vs:List Value} {args:List Operand} {ts:Array TypeId} {ty:TypeId} {pos:String} {af:Array Edge} {g:Option (Nat×Bool)} {ro:aV} {post:Value->List aB->Prop}
 (s:P.funcs[f]?=some fn) (m:fn.body.isSome=true) (o:(fn.name== "runtime.NumGoroutine")=false) (t:fp E args=some vs) (u:cQ ks L=some (Own,F)) (i: ∀w,Hp I0 w0 L w->Fx P f vs w Own ro post) (hro: ∀b,ro b->cn I0 w0 F b)
 (x:dJ N ops ⟨some d,.call ⟨.value (.func f),args.toArray,ts⟩,ty,pos,af,g⟩ E) (y:Nat.blt d N.n=true)
 (k: ∀v l,post v l->KV N KK (set E d v) (Hp I0 w0 (F++l))):OV P N ops Q ⟨some d,.call ⟨.value (.func f),args.toArray,ts⟩,ty,pos,af,g⟩ E (Hp I0 w0 L) KK:=λa w p r=>by
 rw[if_pos (x a p)];unfold Oper.wp;have z:fn.body.isNone=false:=by cases h:fn.body<;>simp_all
 have j:(execOp a.eval ⟨some d,.call ⟨.value (.func f),args.toArray,ts⟩,ty,pos,af,g⟩).run P w= .ok (.enter f vs.toArray) w:=by
  have C:a.eval (.func f)= .func (.func f) #[] #[]:=rfl;have D:args.toArray.map a.eval=vs.toArray:=by rw[<-p.evs t];simp
  have A: ¬fn.name= "runtime.NumGoroutine":=zg
  have B: ¬fn.body=none:=zg
  simp_all[execOp,resolve,invoke,callFunc,Deferred.ofValue]
 rw[j];simp only[Oper.upon];refine(Calls.frame u r hro (i w r)).mono ?_;rintro e G ⟨v,l,rfl,c,q⟩;exact k v l c _ _ (p.put v y) q
end
section
variable {P:Program} {N:NN} {Q:Exit->Act->World->Prop} {E:Env} {S S0:World->Prop} {ops:Array Oper} {rest:List Oper} {T:Act->World->Prop}
def SV (P:Program) (N:NN) (ops:Array Oper) (T:Act->World->Prop) (rest:List Oper) (E:Env) (S:World->Prop):Prop:= ∀a w,Fits N a E->S w->wpStill P ops w (λa'=>T a' w) rest a
theorem B2 (h:KV N T E S):SV P N ops T [] E S:=λa w b c=>h a w b c
theorem Ax {a:Act} {o:Oper} {R:Act->Prop} (b:Region.wanted o (yielded ops a.tmps)=true) (h:(execOp a.eval o).run P U= .ok (.value O) U) (k:wpStill P ops U R rest (a.put o.dst O)):
 wpStill P ops U R (o::rest) a:=by
 unfold wpStill;rw[if_pos b];unfold Oper.still;rw[h];exact⟨rfl,k⟩
section
variable {d:Nat} {v:Value} {op:Op} {ty:TypeId} {pos:String} {af:Array Edge} {g:Option (Nat×Bool)}
theorem R1 (e:dJ N ops ⟨some d,op,ty,pos,af,g⟩ E) (h:Step P N E S ⟨some d,op,ty,pos,af,g⟩ v) (f:Nat.blt d N.n=true) (k:SV P N ops T rest (set E d v) S):SV P N ops T (⟨some d,op,ty,pos,af,g⟩::rest) E S:=
 λa w b c=>Ax (e a b) (h a w b c) (k _ w (b.put v f) c)
theorem SV.skip {b:Bool} (e:mK ops E p=some (!b)) (f:Nat.blt d N.n=true) (k:SV P N ops T rest (set E d undef) S):SV P N ops T (⟨some d,op,ty,pos,af,some (p,b)⟩::rest) E S:=λa w c g=>by
 unfold wpStill;rw[if_neg (by rw[vc c z6 e];cases b<;>decide)];exact k _ w (c.put undef f) g
theorem D7 {c:Prop} [Decidable c] (i:dJ N ops ⟨some d,op,ty,pos,af,g⟩ E) (h:Step P N E S ⟨some d,op,ty,pos,af,g⟩ (.bool (decide c))) (j:Nat.blt d N.n=true)
 (k1:c->SV P N ops T rest (set E d (.bool true)) S) (k2: ¬c->SV P N ops T rest (set E d (.bool false)) S):SV P N ops T (⟨some d,op,ty,pos,af,g⟩::rest) E S:=λa w b f=>by
 have h':=h a w b f;by_cases e:c
 ·rw[qR e] at h';exact Ax (i a b) h' (k1 e _ w (b.put _ j) f)
 ·rw[qQ e] at h';exact Ax (i a b) h' (k2 e _ w (b.put _ j) f)
end
def fg (P:Program) (f:FuncId) (vs:List Value) (v:Value):Prop:= ∀w,Calls P f vs.toArray w (λe w'=>e= .returned v/\w'=w)
theorem I1 {d:Nat} {f:FuncId} {fn:Func} {vs:List Value} {v:Value} {args:List Operand} {ts:Array TypeId} {ty:TypeId} {pos:String} {af:Array Edge} {g:Option (Nat×Bool)}
 (m:P.funcs[f]?=some fn) (i:fn.body.isSome=true) (j:(fn.name== "runtime.NumGoroutine")=false) (o:fp E args=some vs) (b:fg P f vs v) (p:dJ N ops ⟨some d,.call ⟨.value (.func f),args.toArray,ts⟩,ty,pos,af,g⟩ E) (q:Nat.blt d N.n=true)
 (k:SV P N ops T rest (set E d v) S):SV P N ops T (⟨some d,.call ⟨.value (.func f),args.toArray,ts⟩,ty,pos,af,g⟩::rest) E S:=λa w l r=>by
 have s:fn.body.isNone=false:=by cases h:fn.body<;>simp_all
 have c:(execOp a.eval ⟨some d,.call ⟨.value (.func f),args.toArray,ts⟩,ty,pos,af,g⟩).run P w= .ok (.enter f vs.toArray) w:=by
  have x:a.eval (.func f)= .func (.func f) #[] #[]:=rfl;have y:args.toArray.map a.eval=vs.toArray:=by rw[<-l.evs o];simp
  have t: ¬fn.name= "runtime.NumGoroutine":=zg
  have u: ¬fn.body=none:=zg
  simp_all[execOp,resolve,invoke,callFunc,Deferred.ofValue]
 unfold wpStill;rw[if_pos (p a l)];unfold Oper.still;rw[c];exact⟨rfl,v,(b w).mono λe z h=>h,k _ w (l.put v q) r⟩
theorem CV.still {l:List Oper} (b:P.follows .mixedOrders=true) (c:Region.lexB .any l.toArray=true) (d: ∀w,S w->S w.drew) (h:SV P N l.toArray (Q .normal) l E S):CV P N (.region p l.toArray true) Q E S:=
 λa w e f=>wp_region_still_lit b c (h a w.drew e (d w f))
theorem T5 (n:Nat) {l:List Oper} (b:P.follows .mixedOrders=true) (c:Region.lexTailB .any l.toArray n=true) (d: ∀w,S w->S w.drew)
 (h:SV P N l.toArray (wpList P l.toArray Q (l.drop n)) (l.take n) E S):CV P N (.region p l.toArray true) Q E S:=
 λa w e f=>wp_region_still_tail n b c (h a w.drew e (d w f))
def AV (P:Program) (N:NN) (ops:Array Oper) (Q:Exit->Act->World->Prop) (S0:World->Prop) (fuel:Nat) (listed:Array Bool) (E:Env) (S:World->Prop):Prop:=KV N (wpAnyH P .any ops Q S0 fuel listed) E S
theorem CV.any {l:List Oper} (S0:World->Prop) (b:P.follows .mixedOrders=true) (c: ∀w,S w->S w.drew) (n:Nat) (d:l.length=n) (h:AV P N l.toArray Q S0 n (Array.replicate n false) E S):CV P N (.region p l.toArray true) Q E S:=
 λa w e f=>wp_region_held (S:=S0) b (by subst d;have:=h a w.drew e (c w f);simp_all)
theorem L8 (i:Nat) {op:Op} {pos:String} {af:Array Edge} {fuel:Nat} (b:Array Bool) (m:ops[i]?=some ⟨some p,op,J,pos,af,Z⟩)
 (hs:Region.noSelect ops=true) (f:Region.free .any ops G i=true) (o:(Region.ready .any ops G).contains i=true)
 (listed: ∀c a w,Q (.panic c) (a.put (some p) O) w->Q (.panic c) a w) (q:dJ N ops ⟨some p,op,J,pos,af,Z⟩ E) (h:Step P N E S0 ⟨some p,op,J,pos,af,Z⟩ O) (r:Nat.blt p N.n=true) (s: ∀w,S w->S0 w)
 (t:G.setIfInBounds i true=b) (k:AV P N ops Q S0 fuel b (set E p O) S):AV P N ops Q S0 (fuel+1) G E S:=λa w j e=>by
 subst t;exact wpAnyH_take m hs f o listed (.inl ⟨q a j,λu l=>h a u j l⟩) (s w e) (k _ w (j.put O r) e)
theorem R3 (i:Nat) {j:Nat} {b:Bool} {op:Op} {pos:String} {af:Array Edge} {fuel:Nat} (e:Array Bool) (l:ops[i]?=some ⟨some p,op,J,pos,af,some (j,b)⟩)
 (hs:Region.noSelect ops=true) (g:Region.free .any ops G i=true) (m:(Region.ready .any ops G).contains i=true)
 (o: ∀c a w,Q (.panic c) (a.put (some p) undef) w->Q (.panic c) a w) (listed:mK ops E j=some (!b)) (q:Nat.blt p N.n=true) (r: ∀w,S w->S0 w)
 (s:G.setIfInBounds i true=e) (k:AV P N ops Q S0 fuel e (set E p undef) S):AV P N ops Q S0 (fuel+1) G E S:=λa w h f=>by
 subst s;exact wpAnyH_take l hs g m o (.inr ⟨by rw[vc h z6 listed];cases b<;>rfl,rfl⟩) (r w f) (k _ w (h.put undef q) f)
def mj (P:Program) (N:NN) (ops:Array Oper) (Q:Exit->Act->World->Prop) (S0:World->Prop) (fuel:Nat) (listed:Array Bool) (E:Env) (S:World->Prop):List Nat->Prop
 |[]=>True
 |i::r=>(∃o,ops[i]?=some o/\OV P N ops Q o E S (λa' w'=>S0 w'/\wpAnyH P .any ops Q S0 fuel (listed.setIfInBounds i true) a' w'))/\mj P N ops Q S0 fuel listed E S r
theorem mj.mem {fuel:Nat} {listed:Array Bool}: ∀ {rs:List Nat},mj P N ops Q S0 fuel listed E S rs-> ∀i∈rs,∃o,ops[i]?=some o/\OV P N ops Q o E S (λa w'=>S0 w'/\wpAnyH P .any ops Q S0 fuel (listed.setIfInBounds i true) a w')
 |[],_,_,h=>by cases h
 |j::r,⟨b,c⟩,i,h=>by
  rcases qe.1 h with rfl|h
  ·exact b
  ·exact c.mem i h
theorem M0 {fuel:Nat} (rs:List Nat) (d:Region.ready .any ops G=rs) (b:rs≠[]) (h:mj P N ops Q S0 fuel G E S rs):AV P N ops Q S0 (fuel+1) G E S:=λa w e f=>by
 refine wpAnyH_all d b λi g=>?_;obtain⟨o,j,c⟩:=h.mem i g;have:=c a w e f
 grind [wpOp]
theorem R4 {i:Nat} (b:Array Bool) (d:G.setIfInBounds i true=b) (e: ∀w,S w->S0 w) (k:AV P N ops Q S0 p b E S):
 KV N (λf w'=>S0 w'/\wpAnyH P .any ops Q S0 p (G.setIfInBounds i true) f w') E S:=λa w g c=>by
 subst d;exact⟨e w c,k a w g c⟩
theorem AV.done (b:Region.ready .any ops G=[]) (h:KV N (Q .normal) E S):AV P N ops Q S0 p G E S:=λa w c d=>wpAnyH_done b (h a w c d) _
theorem A8 {K:Act->World->Prop} (t:Nat) {b:Bool} (i:get E t=some (.bool b)) (j:b=true->KV N K (set E t (.bool true)) S) (k:b=false->KV N K (set E t (.bool false)) S):KV N K E S:=λa w f h=>by
 have key: ∀c,b=c->Fits N a (set E t (.bool c)):=λc d=>⟨f.defers,f.size,λs v g=>by
  by_cases e:s=t
  ·subst e;rw[GQ] at g;rw[f.slot s _ i,<-qY g,d]
  ·rw[Aq E _ e] at g;exact f.slot s v g⟩
 cases d:b with
 |true=>exact j d a w (key true d) h
 |false=>exact k d a w (key false d) h
theorem F8 {I0:aV} {L R:List aB} {K:Act->World->Prop} (ks:List Nat) (b:List aB) (c:cQ ks L=some (b,R)) (k:KV N K E (Hp I0 U b)):KV N K E (Hp I0 U L):=λa w d e=>k a w d (e.perm (gH c)).sub
theorem G3 {p:Prop} {K:Act->World->Prop} (c: ∀w,S w->p) (h:p->KV N K E S):KV N K E S:=λa w d b=>h (c w b) a w d b
theorem F5 {α:Type} (inv:α->Prop) (m:α->Nat) (G:α->Env) (T:α->World->Prop) (d:α) (h0:inv d) (hE:Sub (G d) E) (hT: ∀w,S w->T d w)
 (round: ∀z,inv z->CV P N X (Exit.then (λa w=> ∃b,(inv b/\m b<m z)/\Fits N a (G b)/\T b w) Q) (G z) (T z)):CV P N (.loop X) Q E S:=
 CV.loop (α:={z:α//inv z}) (λz=>m z.1) (λz=>G z.1) (λz=>T z.1) ⟨d,h0⟩ hE hT λz a w g h=>wp_mono (round z.1 z.2 a w g h) λe l n f=>by
  cases e<;>first|exact f|(obtain⟨b,⟨i,j⟩,k⟩:=f;exact⟨⟨b,i⟩,j,k⟩)
theorem B7 {α:Type} {inv:α->Prop} {m:α->Nat} {G:α->Env} {T:α->World->Prop} {z:α} (b:α) (d:inv b) (c:m b<m z) (hE:Sub (G b) E) (hT: ∀w,S w->T b w):
 KV N (λa w=> ∃b,(inv b/\m b<m z)/\Fits N a (G b)/\T b w) E S:=λ_ w e f=>⟨b,⟨d,c⟩,e.sub hE,hT w f⟩
theorem B1 {K:Act->World->Prop} {S':World->Prop} (b: ∀w,S w->S' w) (h:KV N K E S'):KV N K E S:=λa w c d=>h a w c (b w d)
theorem Hp.nilOS {I0:aV} {w:World} {L:List aB} {α:Type} {K:bO α} (h:Hp I0 U L w):Hp I0 U (L++[OS J K none 0 []]) w:=by
 obtain⟨I,a,b,c⟩:=h;exact⟨I,Sep.append.2 ⟨I,λ_=>False,λx=>zm,λ_ _ h=>h,a,⟨λ_=>False,λ_=>False,λx=>zm,λ_ h=>h.elim,.inl ⟨rfl,rfl,rfl,λ_ h=>h⟩,λ_ h=>h⟩⟩,b,c⟩
theorem fg.fn {f:FuncId} (h:fg P f V O) (w:World):Fx P f V w [] no (λu L=>u=O/\L=[]):=λI hI _=>
 (h w).mono λ_ _ ⟨a,b⟩=>by grind [Hp.start]
theorem fg.body {N:Nat} {f:FuncId} {vs:List Value} {v:Value} {fn:Func} {c:Code} (a:P.funcs[f]?=some fn) (b:fn.body=some c) (g:fn.ntmps=N) (i:Nat.ble vs.length N=true)
 (h: ∀w,CV P ⟨N,[]⟩ c (bodyPost P fn (λe w'=>e= .returned v/\w'=w)) (params 0 vs) (λw'=>w'=w)):fg P f vs v:=by
 intro w;refine calls_of_wp a b (h w _ _ ⟨rfl,?_,λt v d=>?_⟩ z6)
 ·simp_all
 ·obtain⟨_,j⟩:=uD vs 0 t v d
  grind
theorem B4 {fn:Func} {t:Tmp} {u:Value} (c:fn.results= #[.tmp t]) (d:get E t=some u) (f:u=O):
 KV ⟨p,[]⟩ (bodyPost P fn (λe w'=>e= .returned O/\w'=U) .ret) E (λw'=>w'=U):=λa w' b g=>
 ⟨b.defers,u,by rw[results_tmp c];simp[b.slot t u d],by rw[f],g⟩
theorem dP {x:Int} (a: -9223372036854775808<=x) (b:x<=9223372036854775807):IntKind.i64.wrap x=x:=by grind [IntKind.wrap_i64]
theorem az {x:Int} (a:0<=x) (b:x<=18446744073709551615):IntKind.u64.wrap x=x:=by grind [IntKind.wrap_u64]
end
section
variable {α:Type} {K:bO α} {w:World} {A:Option Addr} {ys:List α}
theorem RS.cell0 (h:RS w K A ys) (a:p<ys.length) (b:(K.f (ys.getD p K.d))[0]?=some O):w.cell? ⟨bk A,of A+p* K.sz,none⟩=some O:=h.cell a b
theorem RS.cells (h:RS w K A ys) (a:p<ys.length): ∀j v,(K.f (ys.getD p K.d))[j]?=some v->w.cell? ⟨bk A,of A+p* K.sz+j,none⟩=some v:=λ_ _ b=>h.cell a b
end
section
variable {P:Program} {N:NN} {Q:Exit->Act->World->Prop} {E:Env} {S:World->Prop} {ops:Array Oper} {K:Act->World->Prop} {I0:aV} {w0:World} {L:List aB}
variable {d:Option Nat} {ty:TypeId} {pos:String} {af:Array Edge} {g:Option (Nat×Bool)} {x y z:Operand} {u v u':Value} {t t2:TypeId}
theorem J1 {op:BinOp} (e:ev E x=some u) (f:ev E y=some u') (b: ∀w,(eqGuard op t x y u u').run P w= .ok () w) (h: ∀w,(binOp op t u u').run P w= .ok v w):Step P N E S ⟨d,.binOp op t x y t2,ty,pos,af,g⟩ v:=λa w c _=>by
 simp only[execOp,c.ev e,c.ev f,Sem.run_bind,b,Result.andThen_ok,h,Sem.run_pure]
theorem GU {p:Prop} [Decidable p] (a: ∀k m,u≠ .int k m) (hs: ∀s,u≠ .string s) (b: ∀k m,u≠ .float k m) (c: ∀k m n,u≠ .complex k m n) (h: ∀w,(Op.equal t u u').run P w= .ok (decide p) w) (w:World):(binOp .neq t u u').run P w= .ok (.bool (decide (¬p))) w:=by
 cases u<;>first|exact absurd z6 (a _ _)|exact absurd z6 (hs _)|exact absurd z6 (b _ _)|exact absurd z6 (c _ _ _)|(simp[binOp,h])
theorem GV {p:Prop} [Decidable p] (a: ∀k m,u≠ .int k m) (hs: ∀s,u≠ .string s) (b: ∀k m,u≠ .float k m) (c: ∀k m n,u≠ .complex k m n) (h: ∀w,(Op.equal t u u').run P w= .ok (decide p) w) (w:World):(binOp .eql t u u').run P w= .ok (.bool (decide p)) w:=by
 cases u<;>first|exact absurd z6 (a _ _)|exact absurd z6 (hs _)|exact absurd z6 (b _ _)|exact absurd z6 (c _ _ _)|(simp[binOp,h])
theorem Ay (dp:Nat) {k k':IntKind} (h:P.underlying t=some (.int k')) (a b:Int) (w:World):(Op.equalIn (dp+1) t (.int k a) (.int k b)).run P w= .ok (decide (a=b)) w:=by
 simp[Op.equalIn,run_underlying h];rfl
theorem GW (dp:Nat) (h:P.underlying t=some .bool) (a b:Bool) (w:World):(Op.equalIn (dp+1) t (.bool a) (.bool b)).run P w= .ok (decide (a=b)) w:=by
 simp[Op.equalIn,run_underlying h];cases a<;>cases b<;>rfl
theorem GX (dp:Nat) (h:P.underlying t=some (.pointer J)) (p:Option Addr) (w:World):(Op.equalIn (dp+1) t (.pointer p) (.pointer none)).run P w= .ok (decide (p=none)) w:=by
 cases p<;>simp[Op.equalIn,run_underlying h]
theorem G4 {A:Option Addr} {c:Nat} (a:P.underlying t=some (.slice J)) (b:ev E x=some (.slice A p c)) (f:ev E y=some (.slice none 0 0)):
 Step P N E S ⟨d,.binOp .eql t x y t2,ty,pos,af,g⟩ (.bool (decide (A=none))):=gp b f z6 λw=>by
 rw[Lib.run_eql_slice_nil w t J A p c 0 0 a];cases A<;>simp
theorem R5 {A:Option Addr} {c:Nat} (a:P.underlying t=some (.slice J)) (b:ev E x=some (.slice A p c)) (f:ev E y=some (.slice none 0 0)):
 Step P N E S ⟨d,.binOp .neq t x y t2,ty,pos,af,g⟩ (.bool (decide (¬A=none))):=gp b f z6 λw=>by
 simp only[binOp,Op.equal,Op.maxDepth,Sem.run_bind,Lib.run_equalIn_slice_nil w 9999 t J A p c 0 0 a,Result.andThen_ok,Sem.run_pure];cases A<;>simp
theorem J2 {p:Option Addr} (c:P.underlying t=some (.pointer J)) (a:ev E x=some (.pointer p)) (b:ev E y=some (.pointer none)):Step P N E S ⟨d,.binOp .eql t x y t2,ty,pos,af,g⟩ (.bool (decide (p=none))):=
 gp a b z6 λw=>by
  grind [binOp,Op.equal,Op.maxDepth,Sem.run_bind,GX,Result.andThen_ok,Sem.run_pure]
theorem M1 {p:Option Addr} (c:P.underlying t=some (.pointer J)) (a:ev E x=some (.pointer p)) (b:ev E y=some (.pointer none)):Step P N E S ⟨d,.binOp .neq t x y t2,ty,pos,af,g⟩ (.bool (decide (¬p=none))):=
 gp a b z6 λw=>by
  grind [binOp,Op.equal,Op.maxDepth,Sem.run_bind,GX,Result.andThen_ok,Sem.run_pure]
theorem T6 {a b:Bool} (f:P.underlying t=some .bool) (c:ev E x=some (.bool a)) (e:ev E y=some (.bool b)):Step P N E S ⟨d,.binOp .eql t x y t2,ty,pos,af,g⟩ (.bool (decide (a=b))):=
 gp c e z6 λw=>by
  grind [binOp,Op.equal,Op.maxDepth,Sem.run_bind,GW,Result.andThen_ok,Sem.run_pure]
end
theorem RS.nil_of {α:Type} {K:bO α} {ys:List α} (h:RS U K none ys):ys=[]:=by
 rcases h with h|⟨_,_,_,h,_⟩
 ·exact h
 grind
def aF {β:Type} (F:β->aB) (hs:List β):aB where
 sat w I:=Sep (hs.map F) I w
 lt h x hx:=h.lt x hx
 keep h hk:=h.keep hk
section
variable {I0:aV} {w0 w:World} {L:List aB} {β:Type} {F:β->aB} {hs:List β} {k m:Nat}
theorem Hp.splice {A:aB} {M:List aB} (h:Hp I0 w0 L w) (a:L[k]?=some A) (b: ∀i,A.sat w i->Sep M i w):Hp I0 w0 (M++L.eraseIdx k) w:=by
 obtain⟨i,j,c,d,e,f,g,l⟩:=h.at a;exact⟨λx=>i x\/j x,Sep.append.2 ⟨i,j,λ_=>Iff.rfl,e,b i c,d⟩,f,λx m=>m.elim (g x) (l x)⟩
theorem Hp.bundle {A:aB} {M R:List aB} (h:Hp I0 w0 (M++R) w) (a: ∀i,Sep M i w->A.sat w i):Hp I0 w0 (A::R) w:=by
 obtain⟨I,b,c,d⟩:=h;obtain⟨i,j,hI,e,f,g⟩:=Sep.append.1 b;exact⟨I,⟨i,j,hI,e,a i f,g⟩,c,d⟩
theorem Hp.focus (h:Hp I0 w0 L w) (d:β) (f:L[k]?=some (aF F hs)) (g:m<hs.length):Hp I0 w0 (L.set k (F (hs.getD m d))++[aF F (hs.eraseIdx m)]) w:=by
 have c:=h.splice (M:=[F (hs.getD m d),aF F (hs.eraseIdx m)]) f λi j=>by
  have e:(hs.map F).Perm ((F (hs.getD m d)::(hs.eraseIdx m).map F)):=by
   have:=(nv (Ar g d)).map F
   grind
  obtain⟨a,b,c,l,n,o⟩:=Sep.perm e j;exact⟨a,b,c,l,n,b,λ_=>False,λx=>zm,λ_ _ h=>h,o,λ_ h=>h⟩
 refine c.perm ?_;have e:=oa (F (hs.getD m d)) f;simp only[qM,List.nil_append];exact((List.Perm.swap _ _ _).trans (List.Perm.cons _ e)).trans (qi _ _).symm
theorem Hp.unfocus {h':β} (h:Hp I0 w0 (L++[aF F (hs.eraseIdx m)]) w) (f:L[k]?=some (F h')) (g:m<hs.length):Hp I0 w0 (L.set k (aF F (hs.set m h'))) w:=by
 have e:(L++[aF F (hs.eraseIdx m)]).Perm ([F h',aF F (hs.eraseIdx m)]++L.eraseIdx k):=by
  refine(qi _ _).trans ?_;exact(List.Perm.cons _ (nv f)).trans (List.Perm.swap _ _ _)
 have j:=(h.perm e).bundle (A:=aF F (hs.set m h')) λi l=>by
  obtain⟨a,b,n,o,p,c,d,q,v,r,s⟩:=l;have t:(F h'::(hs.eraseIdx m).map F).Perm ((hs.set m h').map F):=by
   have u:=qJ g;have:=(oa h' u).map F
   grind
  refine Sep.perm t ⟨a,b,n,o,p,?_⟩;exact Sep.ext r λx=>by rw[q x];exact⟨.inl,λh=>h.elim id λh=>absurd h (s x)⟩
 exact j.perm (oa _ f)
theorem Hp.newBig (h:Hp I0 w0 L w) (n:Nat) (h0:β) (a: ∀w,(F h0).sat w (λ_=>False)):Hp I0 w0 (L++[aF F (List.replicate n h0)]) w:=by
 obtain⟨I,b,c,d⟩:=h;have e: ∀n,Sep ((List.replicate n h0).map F) (λ_=>False) w:=by
  intro n
  induction n with
  |zero=>exact λ_ h=>h
  |succ n f=>exact⟨λ_=>False,λ_=>False,λx=>zm,λ_ h=>h.elim,a w,f⟩
 exact⟨I,Sep.append.2 ⟨I,λ_=>False,λx=>zm,λ_ _ h=>h,b,⟨λ_=>False,λ_=>False,λx=>zm,λ_ h=>h.elim,e n,λ_ h=>h⟩⟩,c,d⟩
theorem OS.emp {α:Type} {K:bO α} (w:World):(OS J K none 0 []).sat w (λ_=>False):= .inl ⟨rfl,rfl,rfl,λ_ h=>h⟩
theorem Hp.bigOS {G:β->World->Prop} (h:Hp I0 w0 L w) (d:β) (a:L[k]?=some (aF F hs)) (c:m<hs.length) (g: ∀i b,(F b).sat w i->G b w):G (hs.getD m d) w:=by
 have e:=h.focus d a c;have f:(L.set k (F (hs.getD m d))++[aF F (hs.eraseIdx m)])[k]?=some (F (hs.getD m d)):=by
  grind
 obtain⟨i,j,l,_⟩:=e.at f
 grind
theorem Hp.sel {R a:List aB} (h:Hp I0 w0 L w) (ks:List Nat) (b:cQ ks L=some (a,R)):Hp I0 w0 a w:=(h.perm (gH b)).sub
section
variable {P:Program} {N:NN} {Q:Exit->Act->World->Prop} {E:Env} {S:World->Prop} {ops:Array Oper} {K:Act->World->Prop}
theorem O1 {S':World->Prop} {o:Oper} (b: ∀w,S w->S' w) (h:OV P N ops Q o E S' K):OV P N ops Q o E S K:=λa w c d=>h a w c (b w d)
theorem M3 {α β:Type} (inv:α->β->Prop) (m:α->β->Nat) (G:α->β->Env) (T:α->β->World->Prop) (f:α) (g:β) (h0:inv f g) (hE:Sub (G f g) E) (hT: ∀w,S w->T f g w)
 (round: ∀x y,inv x y->CV P N X (Exit.then (λa w=> ∃b d,(inv b d/\m b d<m x y)/\Fits N a (G b d)/\T b d w) Q) (G x y) (T x y)):CV P N (.loop X) Q E S:=
 F5 (λz=>inv z.1 z.2) (λz=>m z.1 z.2) (λz=>G z.1 z.2) (λz=>T z.1 z.2) (f,g) h0 hE hT λz j a w k l=>wp_mono (round z.1 z.2 j a w k l) λe n o i=>by
  cases e<;>first|exact i|(obtain⟨b,d,h⟩:=i;exact⟨(b,d),h⟩)
theorem D1 {α β:Type} {inv:α->β->Prop} {m:α->β->Nat} {G:α->β->Env} {T:α->β->World->Prop} {x:α} {y:β} (b:α) (c:β) (e:inv b c) (d:m b c<m x y) (hE:Sub (G b c) E) (hT: ∀w,S w->T b c w):
 KV N (λa w=> ∃b c,(inv b c/\m b c<m x y)/\Fits N a (G b c)/\T b c w) E S:=λ_ w f g=>⟨b,c,⟨e,d⟩,f.sub hE,hT w g⟩
theorem R6 {α β γ:Type} (inv:α->β->γ->Prop) (m:α->β->γ->Nat) (G:α->β->γ->Env) (T:α->β->γ->World->Prop) (g:α) (i:β) (j:γ) (h0:inv g i j) (hE:Sub (G g i j) E) (hT: ∀w,S w->T g i j w)
 (round: ∀x y z,inv x y z->CV P N X (Exit.then (λa w=> ∃b d f,(inv b d f/\m b d f<m x y z)/\Fits N a (G b d f)/\T b d f w) Q) (G x y z) (T x y z)):CV P N (.loop X) Q E S:=
 F5 (λz=>inv z.1 z.2.1 z.2.2) (λz=>m z.1 z.2.1 z.2.2) (λz=>G z.1 z.2.1 z.2.2) (λz=>T z.1 z.2.1 z.2.2) (g,i,j) h0 hE hT λz l a w n o=>wp_mono (round z.1 z.2.1 z.2.2 l a w n o) λe p q k=>by
  cases e<;>first|exact k|(obtain⟨b,d,f,h⟩:=k;exact⟨(b,d,f),h⟩)
theorem I2 {α β γ:Type} {inv:α->β->γ->Prop} {m:α->β->γ->Nat} {G:α->β->γ->Env} {T:α->β->γ->World->Prop} {x:α} {y:β} {z:γ} (b:α) (c:β) (d:γ) (f:inv b c d) (e:m b c d<m x y z) (hE:Sub (G b c d) E) (hT: ∀w,S w->T b c d w):
 KV N (λa w=> ∃b c d,(inv b c d/\m b c d<m x y z)/\Fits N a (G b c d)/\T b c d w) E S:=λ_ w g h=>⟨b,c,d,⟨f,e⟩,g.sub hE,hT w h⟩
end
end
def OM {κ ν:Type} (b:Nat) (kf:κ->Value) (vf:ν->Value) (m:List (κ×ν)):aB where
 sat w I:=(∀x,I x↔x=b)/\ ∃es clock,w.heap[b]?=some (.map es clock)/\es.toList.map (λe=>(e.key,e.val))=m.map (λp=>(kf p.1,vf p.2))
 lt h x hx:=zg
 keep h hk:=zg
section
variable {P:Program} {κ ν:Type} {kt:TypeId} {N:NN} {Q:Exit->Act->World->Prop} {E:Env} {ops:Array Oper} {K:Act->World->Prop} {I0:aV} {w0:World} {L:List aB}
variable {d:Nat} {ty:TypeId} {pos:String} {af:Array Edge} {g:Option (Nat×Bool)} {x:Operand} {t:TypeId}
theorem M4 (kf:κ->Value) (vf:ν->Value) {e:TypeId} (f:P.underlying t=some (.map kt e)) {k:IntKind} {n:Int} (h:ev E x=some (.int k n)) (i:dJ N ops ⟨some d,.makeMap t (some x),ty,pos,af,g⟩ E) (j:Nat.blt d N.n=true)
 (l: ∀nb,KV N K (set E d (.map (some nb))) (Hp I0 w0 (L++[OM nb kf vf []]))):OV P N ops Q ⟨some d,.makeMap t (some x),ty,pos,af,g⟩ E (Hp I0 w0 L) K:=by
 refine I6 (ob:= .map #[] 0) i (λa w b _=>?_) j λnb a w b m=>l nb a w b (m.last λJ c=>?_)
 ·have o:(Instr.makeMap t (some (.int k n))).run P w= .ok (.map (some w.heap.size)) (w.alloc (.map #[] 0)):=by simp[Instr.makeMap,run_underlying f];rfl
  simp only[execOp,Option.map_some,b.ev h,Sem.run_bind,o,Result.andThen_ok,Sem.run_pure]
 ·exact⟨c.1,#[],0,c.2,rfl⟩
theorem R7 (kf:κ->Value) (vf:ν->Value) (e:dJ N ops ⟨some d,.makeMap t none,ty,pos,af,g⟩ E) (f:Nat.blt d N.n=true)
 (h: ∀nb,KV N K (set E d (.map (some nb))) (Hp I0 w0 (L++[OM nb kf vf []]))):OV P N ops Q ⟨some d,.makeMap t none,ty,pos,af,g⟩ E (Hp I0 w0 L) K:=by
 refine I6 (ob:= .map #[] 0) e (λa w b _=>?_) f λnb a w b i=>h nb a w b (i.last λJ c=>?_)
 ·simp_all[Instr.makeMap,execOp]
 ·exact⟨c.1,#[],0,c.2,rfl⟩
end
def br {κ ν:Type} [DecidableEq κ]:List (κ×ν)->κ->Option ν
 |[],_=>none
 |p::r,x=>if x=p.1 then some p.2 else br r x
structure dD (P:Program) {κ:Type} [DecidableEq κ] (kt:TypeId) (kf:κ->Value):Prop where
 check: ∀em x w,(Instr.checkKey em 10000 kt (kf x)).run P w= .ok () w
 find: ∀(x:κ) (es:List MapEntry) (m:List κ),es.map (·.key)=m.map kf-> ∀w,(Instr.findKey kt (kf x) es).run P w= .ok ((m.findIdx? (λy=>decide (x=y))).bind λi=>(es[i]?).map λe=>(i,e.val)) w
section
variable {P:Program} {κ ν:Type} [DecidableEq κ] {kt:TypeId} {kf:κ->Value} {vf:ν->Value} {m:List (κ×ν)} {b:Nat}
theorem GY {x:κ} (a: ∀x y w,(Op.equal kt (kf x) (kf y)).run P w= .ok (decide (x=y)) w): ∀(es:List MapEntry) (m:List κ) (i:Nat),es.map (·.key)=m.map kf-> ∀w,
 (Instr.findAsking kt (kf x) es i).run P w= .ok ((m.findIdx? (λy=>decide (x=y))).bind λj=>(es[j]?).map λe=>(i+j,e.val)) w
 |[],[],i,_,w=>by simp_all[Instr.findAsking]
 |e::es,y::m,i,h,w=>by
  simp only[List.map_cons,List.cons.injEq] at h;simp only[Instr.findAsking,Sem.run_bind,h.1,a,Result.andThen_ok,List.findIdx?_cons];by_cases b:x=y
  ·simp[b]
  ·simp only[b,decide_false,qX,if_false];rw[GY a es m (i+1) h.2 w];cases c:m.findIdx? (λy=>decide (x=y)) with
   |none=>simp
   |some j=>grind
 |[],_::_,_,h,_=>by simp at h
 |_::_,[],_,h,_=>by simp at h
theorem dD.struct {fs:Array Field} (hu:P.underlying kt=some (.struct fs)) (hc: ∀em x w,(Instr.checkKey em 10000 kt (kf x)).run P w= .ok () w) (heq: ∀x y w,(Op.equal kt (kf x) (kf y)).run P w= .ok (decide (x=y)) w):dD P kt kf where
 check:=hc
 find x es m h w:=by
  simp only[Instr.findKey,Sem.run_bind,run_underlying hu,Result.andThen_ok];cases es with
  |nil=>
   simp_all[Instr.findNow]
  |cons e es=>
   have hs:Instr.sameNow (.struct fs) (kf x) e.key=none:=by grind [Instr.sameNow]
   simp only[Instr.findNow,hs];rw[GY heq (e::es) m 0 h w];simp
theorem rv (x:κ): ∀(m:List (κ×ν)) (es:List MapEntry),es.map (λe=>(e.key,e.val))=m.map (λp=>(kf p.1,vf p.2))->
 (((m.map (·.1)).findIdx? (λy=>decide (x=y))).bind λi=>(es[i]?).map λe=>e.val)=(br m x).map vf
 |[],[],_=>by simp[br]
 |p::m,e::es,h=>by
  simp only[List.map_cons,List.cons.injEq,Prod.mk.injEq] at h;simp only[List.map_cons,List.findIdx?_cons,br];by_cases a:x=p.1
  ·grind
  ·simp only[a,decide_false,qX,if_false];rw[<-rv x m es h.2];cases b:(m.map (·.1)).findIdx? (λy=>decide (x=y)) with
   |none=>simp
   |some j=>simp
 |[],_::_,h=>by simp at h
 |_::_,[],h=>by simp at h
variable {N:NN} {Q:Exit->Act->World->Prop} {E:Env} {ops:Array Oper} {K:Act->World->Prop} {I0:aV} {w0:World} {L:List aB}
variable {d:Nat} {ty:TypeId} {pos:String} {af:Array Edge} {g:Option (Nat×Bool)} {x y z:Operand} {u v u':Value} {t:TypeId}
theorem GZ {I:aV} {zv:ν} {by_:Nat} (l:P.underlying t=some (.map kt J)) (j:dD P kt kf) (n:TI P J (vf zv) p by_) (h:(OM b kf vf m).sat U I) (q:κ) (ok:Bool):
 (Instr.lookup t (.map (some b)) (kf q) ok).run P U= .ok (if ok then .tuple #[vf ((br m q).getD zv),.bool (br m q).isSome] else vf ((br m q).getD zv)) U:=by
 obtain⟨_,es,clock,s,d⟩:=h;have c:es.toList.map (·.key)=(m.map (·.1)).map kf:=by
  have:=congrArg (List.map (·.1)) d
  grind [Function.comp_def]
 have o:(getObj b).run P U= .ok (.map es clock) U:=by grind [getObj,Sem.run]
 have k:=j.find q es.toList (m.map (·.1)) c U;have a:=rv q m es.toList d;simp only[Instr.lookup,Sem.run_bind,run_underlying l,Result.andThen_ok,o,Sem.run_pure,j.check,k];cases e:(m.map (·.1)).findIdx? (λy=>decide (q=y)) with
 |none=>
  rw[e] at a;have:br m q=none:=by cases f:br m q with|none=>rfl|some _=>grind
  simp only[Option.bind_none,Sem.run_bind,n.zeroValue,Result.andThen_ok,Sem.run_pure,this,Option.getD_none,Option.isSome_none]
 |some i=>
  rw[e] at a;simp only[Option.bind_some] at a ⊢;cases r:es.toList[i]? with
  |none=>
   exfalso;have u:=(List.findIdx?_eq_some_iff_getElem.1 e).1;have v:es.toList.length=m.length:=by have:=congrArg List.length d;grind
   grind
  |some en=>
   rw[r] at a;simp only[Option.map_some] at a ⊢;cases f:br m q with
   |none=>grind
   |some x=>
    simp_all
theorem M5 (k:Nat) {d:TypeId} {zv:ν} {f by_:Nat} {dd:Option Nat} (q:κ) (h:P.underlying t=some (.map kt d)) (c:dD P kt kf) (l:TI P d (vf zv) f by_) (n:L[k]?=some (OM b kf vf m)) (o:ev E x=some (.map (some b))) (p:ev E y=some (kf q)):
 Step P N E (Hp I0 w0 L) ⟨dd,.lookup t x y false,ty,pos,af,g⟩ (vf ((br m q).getD zv)):=λa w e r=>by
 obtain⟨i,j,s,_⟩:=r.at n;have:=GZ h c l s q false;simp only[execOp,e.ev o,e.ev p,Sem.run_bind,this,Result.andThen_ok,Sem.run_pure,qX,if_false]
theorem T7 (k:Nat) {zv:ν} {by_:Nat} {dd:Option Nat} (q:κ) (h:P.underlying t=some (.map kt J)) (c:dD P kt kf) (l:TI P J (vf zv) p by_) (n:L[k]?=some (OM b kf vf m)) (o:ev E x=some (.map (some b))) (f:ev E y=some (kf q)):
 Step P N E (Hp I0 w0 L) ⟨dd,.lookup t x y true,ty,pos,af,g⟩ (.tuple #[vf ((br m q).getD zv),.bool (br m q).isSome]):=λa w e r=>by
 obtain⟨i,j,s,_⟩:=r.at n;have:=GZ h c l s q true;simp only[execOp,e.ev o,e.ev f,Sem.run_bind,this,Result.andThen_ok,Sem.run_pure,if_true]
theorem L2 (k:Nat) (q:κ) (r:ν) (H:P.underlying t=some (.map kt J)) (f:dD P kt kf) (D:L[k]?=some (OM b kf vf m)) (I:ev E x=some (.map (some b))) (G:ev E y=some (kf q)) (M:ev E z=some (vf r)) (O:br m q=none)
 (R:dJ N ops ⟨none,.mapUpdate t x y z,ty,pos,af,g⟩ E) (S:KV N K E (Hp I0 w0 (L.set k (OM b kf vf (m++[(q,r)]))))):OV P N ops Q ⟨none,.mapUpdate t x y z,ty,pos,af,g⟩ E (Hp I0 w0 L) K:=λa w l F=>by
 rw[if_pos (R a l)];obtain⟨i,j,T,_⟩:=F.at D;obtain⟨_,es,clock,U,v⟩:=T;have c:es.toList.map (·.key)=(m.map (·.1)).map kf:=by
  have:=congrArg (List.map (·.1)) v
  grind [Function.comp_def]
 have A:(getObj b).run P w= .ok (.map es clock) w:=by grind [getObj,Sem.run]
 have B:=f.find q es.toList (m.map (·.1)) c w;have n:=rv q m es.toList v;rw[O] at n;have d:((m.map (·.1)).findIdx? (λy=>decide (q=y))).bind (λi=>(es.toList[i]?).map λe=>(i,e.val))=none:=by
  simp_all
 have V:=xz U;have p: ∀o,(setObj b o).run P w= .ok () {w with heap:=w.heap.setIfInBounds b o}:=λo=>by grind [setObj,Sem.run]
 have s:(Instr.mapUpdate t (.map (some b)) (kf q) (vf r)).run P w= .ok () {w with heap:=w.heap.setIfInBounds b (.map (es.push {key:=kf q,val:=vf r,born:=clock}) (clock+1))}:=by
  simp only[Instr.mapUpdate,Sem.run_bind,run_underlying H,Result.andThen_ok,A,f.check,B,d,p]
 unfold Oper.wp;simp only[execOp,l.ev I,l.ev G,l.ev M,Sem.run_bind,s,Result.andThen_ok,Sem.run_pure];refine S _ _ (l.put_none _) (F.update D λW u=>⟨W,⟨u.1,es.push {key:=kf q,val:=vf r,born:=clock},clock+1,zg,by simp[v]⟩,λ_ h=> .inl h,?_⟩);exact⟨rfl,rfl,rfl,zm,λx X C=>by
  have Y:=λe=>C ((u.1 x).2 e)
  grind⟩
end
end Go.Sv
namespace Go.Sv
open Go.ChangeShapes Go.WideShapes Go.Deep Go.RowKit
section
variable {H:Type} {enc:TypeId×Value->H} {P:Program} {w:World} {base:Nat} {spare:Nat->Bool} {held:Bool}
end
theorem RS.ofCells {α:Type} (K:bO α) (ok:α->Prop) {a:Addr} (h: ∀i,i<p-> ∃y:α,ok y/\ ∀j v,(K.f y)[j]?=some v->U.cell? (a.add (i* K.sz+j))=some v):
 ∃ys:List α,ys.length=p/\RS U K (some a) ys/\ ∀i,i<p->ok (ys.getD i K.d):=by
 by_cases H:p=0
 ·subst H;exact⟨[],rfl,.inl rfl,λi l=>zo⟩
 have B: ∀i,∃y:α,i<p->ok y/\ ∀j v,(K.f y)[j]?=some v->U.cell? (a.add (i* K.sz+j))=some v:=λi=>by
  by_cases l:i<p
  ·grind
  ·exact⟨K.d,λx=>absurd x l⟩
 let g:=λi=>Classical.choose (B i)
 have C:=λi l=>Classical.choose_spec (B i) l;have D: ∀i,i<p->((List.range p).map g).getD i K.d=g i:=λi l=>zg
 refine⟨(List.range p).map g,zm,?_,λi l=>zg⟩;have I:=(C 0 zo).2 0 ((K.f (g 0))[0]'(by rw[K.len];exact K.pos)) (qJ _);have c:a.spot=none:=by
  grind [World.cell?_spot,Addr.add]
 obtain⟨b,o,s⟩:=a;simp only[] at c;subst c;have len: ∀n,(⟨b,o,none⟩:Addr).add n=⟨b,o+n,none⟩:=λn=>by
  grind [Addr.add]
 have q: ∃k t A,U.heap[b]?=some (.cells k t A):=by
  grind [World.cell?]
 obtain⟨k,t,A,E⟩:=q;refine .inr ⟨k,t,A,rfl,E,λj v F=>?_⟩;have r:=(List.getElem?_eq_some_iff.1 F).1;rw[kG] at r;simp only[qE,List.length_range] at r;have L:=K.pos;have G:j/K.sz<p:=by simp_all[Nat.div_lt_iff_lt_mul]
 have u:j%K.sz<(K.f (g (j/K.sz))).length:=by rw[K.len];simp_all[Nat.mod_lt]
 have J:=yA K (ys:=(List.range p).map g) (p:=j/K.sz) (by simp[G]) (qJ u);have z:j/K.sz* K.sz+j%K.sz=j:=by grind [Nat.div_add_mod]
 rw[z,F] at J;have e:=(C _ G).2 (j%K.sz) v zg;rw[z,len,dy E] at e;exact e
end Go.Sv
namespace Go.Sv
section
variable {P:Program} {N:NN} {Q:Exit->Act->World->Prop} {E:Env} {S S0:World->Prop} {ops:Array Oper} {rest:List Oper} {T:Act->World->Prop} {K:Act->World->Prop} {d:Nat} {op:Op} {ty:TypeId} {pos:String} {af:Array Edge}
def qd (ops:Array Oper) (E:Env) (j:Nat):Bool:=
 match (ops[j]?).bind (·.dst) with
 |some d=>match get E d with
  |some (.tuple _)=>true
  |_=>false
 |none=>false
theorem yB {a:Act} (h:Fits N a E) {o:Oper} {want:Bool} (f:o.guard=some (p,want)) (b:qd ops E p=true):Region.wanted o (yielded ops a.tmps)=false:=by
 unfold qd at b;simp only[Region.wanted,f];cases c:(ops[p]?).bind (·.dst) with
 |none=>grind
 |some d=>
  rw[c] at b;simp only[] at b;cases e:get E d with
  |none=>grind
  |some v=>
   rw[e] at b;cases v<;>simp at b;have:yielded ops a.tmps p=none:=by
    simp only[yielded,c,Option.bind_some,h.slot d _ e]
   grind
theorem OV.skipU {b:Bool} (g:qd ops E p=true) (c:Nat.blt d N.n=true)
 (k:KV N K (set E d undef) S):OV P N ops Q ⟨some d,op,ty,pos,af,some (p,b)⟩ E S K:=λa w e f=>by
 rw[if_neg (by grind [yB])];exact k _ w (e.put undef c) f
theorem F3 {b:Bool} (g:qd ops E p=true) (c:Nat.blt d N.n=true) (k:SV P N ops T rest (set E d undef) S):SV P N ops T (⟨some d,op,ty,pos,af,some (p,b)⟩::rest) E S:=λa w e f=>by
 unfold wpStill;rw[if_neg (by grind [yB])];exact k _ w (e.put undef c) f
theorem T8 (i:Nat) {b:Bool} {fuel:Nat} (e:Array Bool) (l:ops[i]?=some ⟨some d,op,ty,pos,af,some (p,b)⟩)
 (hs:Region.noSelect ops=true) (g:Region.free .any ops G i=true) (m:(Region.ready .any ops G).contains i=true)
 (o: ∀c a w,Q (.panic c) (a.put (some d) undef) w->Q (.panic c) a w) (listed:qd ops E p=true) (q:Nat.blt d N.n=true) (r: ∀w,S w->S0 w)
 (s:G.setIfInBounds i true=e) (k:AV P N ops Q S0 fuel e (set E d undef) S):AV P N ops Q S0 (fuel+1) G E S:=λa w h f=>by
 subst s;exact wpAnyH_take l hs g m o (.inr ⟨yB h z6 listed,rfl⟩) (r w f) (k _ w (h.put undef q) f)
end
section
variable {P:Program} {N:NN} {Q:Exit->Act->World->Prop} {E:Env} {S:World->Prop} {ops:Array Oper}
variable {dd:Option Nat} {ty:TypeId} {pos:String} {af:Array Edge} {g:Option (Nat×Bool)} {x y z:Operand} {KK:Act->World->Prop}
variable {I0:aV} {w0:World} {L:List aB} {α:Type} {K:bO α} {A B:Option Addr} {ys zs:List α} {e t:TypeId} {c:Nat}
theorem U0 (b:P.underlying t=some (.slice e)) (d:ev E x=some (.slice A p c)):
 Step P N E S ⟨dd,.call ⟨.builtin .cap,#[x],#[t]⟩,ty,pos,af,g⟩ (.int .i64 c):=λa w f _=>by
 simp[execOp,resolve,invoke,builtin,f.ev d,Builtin.cap_,run_underlying b,goInt]
theorem R9 {f:FuncId} {caps:List Operand} {vs:List Value} (b:fp E caps=some vs):
 Step P N E S ⟨dd,.makeFunc (.func f) #[] caps.toArray,ty,pos,af,g⟩ (.func (.func f) #[] vs.toArray):=λa w c _=>by
 have d:caps.toArray.map a.eval=vs.toArray:=by rw[<-c.evs b];simp
 simp_all[execOp,Instr.makeFunc]
def dY (A:Option Addr) (l sz c:Nat):Option Addr:=if c=l then A else A.map (·.add (l* sz))
theorem D8 {by_ n:Nat} {k:IntKind} {i:Int} (h:P.underlying t=some (.slice e)) (j:TI P e O p by_) (m:ev E x=some (.slice A n c)) (o:ev E y=some (.int k i)) (l:Nat) (d:i=(l:Int)) (b:l<=n):
 Step P N E S ⟨dd,.slice t x (some y) none none,ty,pos,af,g⟩ (.slice (dY A l p c) (n-l) (c-l)):=λa w f _=>by
 subst d;simp[execOp,Instr.sliceAt,Instr.slice,f.ev m,f.ev o,run_underlying h,Instr.sliceBounds,Instr.sliceBound,asIntOf,b,j.sizeOf,dY]
theorem G0 {by_ n:Nat} {k:IntKind} {i:Int} (j:P.underlying t=some (.slice e)) (m:TI P e O p by_) (o:ev E x=some (.slice A n c)) (h:ev E y=some (.int k i)) (l:Nat) (q:i=(l:Int)) (d:l<=c):
 Step P N E S ⟨dd,.slice t x none (some y) none,ty,pos,af,g⟩ (.slice A l c):=λa w f _=>by
 subst q;have r:(if c=0 then A else A.map λb=>b.add 0)=A:=by
  simp_all[Addr.add]
 simp[execOp,Instr.sliceAt,Instr.slice,f.ev o,f.ev h,run_underlying j,Instr.sliceBounds,Instr.sliceBound,asIntOf,d,m.sizeOf,r]
theorem RS.drop {w:World} (h:RS w K A ys) (l:Nat) (i:ys.length<=c):RS w K (dY A l K.sz c) (ys.drop l):=by
 by_cases k:l<ys.length
 ·have e: ¬c=l:=zo
  rcases h with rfl|⟨a,t,f,m,g,b⟩
  ·grind
  ·have d:dY A l K.sz c=some ⟨bk A,of A+l* K.sz,none⟩:=by
    grind [dY,Addr.add]
   refine .inr ⟨a,t,f,by rw[d];rfl,by rw[d];exact g,λj v n=>?_⟩;rw[d];show a[of A+l* K.sz+j]?=some v;rw[Nat.add_assoc];refine b _ _ ?_;have o:flat K ys=flat K (ys.take l)++flat K (ys.drop l):=by grind [uC,List.take_append_drop]
   grind [kG]
 ·exact .inl (List.drop_of_length_le zo)
theorem Az (h:RS U K A ys) (n:Nat) (p:n<=ys.length) (m c:Nat):(Builtin.firstCells K.sz n (.slice A m c)).run P U= .ok (flat K (ys.take n)).toArray U:=by
 have q:(flat K (ys.take n)).length=n* K.sz:=by grind [kG]
 cases g:A with
 |none=>
  have r:ys=[]:=by
   rcases h with h|⟨_,_,_,h,_⟩
   ·exact h
   grind
  simp_all[Builtin.firstCells]
 |some a=>
  have d: ∀j v,(flat K (ys.take n))[j]?=some v->U.cell? (a.add j)=some v:=λj u i=>by
   rcases h.take n with s|⟨k,tt,t,e,b,d⟩
   ·grind [flat]
   ·rw[g] at e;have l:a=⟨a.block,a.off,none⟩:=zg
    rw[g] at b d;simp only[bk] at b;have f:=d j u i;rw[l];by_cases o:j=0
    ·subst o;grind [Addr.add,dy]
    grind [Addr.add,dy]
  grind [run_loadCells_list,Builtin.firstCells]
theorem BA (zc:Array Value) (n:Nat):Builtin.zeroCells zc n=madeCells zc (n* zc.size):=rfl
theorem U1 (j:α) {by_ n cB:Nat} {q:Int} {F G:IntKind} (m:Nat) (U:P.underlying t=some (.slice e)) (u:P.underlying J=some (.int G)) (V:TI P e O K.sz by_) (k:O.cells.toList=K.f j)
 (W:ev E x=some (.slice B n cB)) (X:ev E y=some (.int F q)) (Y:q=(m:Int)) (Z:n=zs.length) (hr: ∀w,Hp I0 w0 L w->RS w K B zs) (l:0<m) (i:cB<n+m)
 (g6:n+m<=1000000) (g7:m* by_<=281474976710656) (H:Builtin.nextslicecap (n+m) cB* by_<=281474976710656)
 (hg:dJ N ops ⟨some p,.call ⟨.builtin .append,#[x,y],#[t,J]⟩,ty,pos,af,g⟩ E) (hN:Nat.blt p N.n=true)
 (kk: ∀I z,n+m<=z->KV N KK (set E p (.slice I (n+m) z)) (Hp I0 w0 (L++[OS e K I z (zs++List.replicate m j)]))):
 OV P N ops Q ⟨some p,.call ⟨.builtin .append,#[x,y],#[t,J]⟩,ty,pos,af,g⟩ E (Hp I0 w0 L) KK:=λa w s M=>by
 subst Y;subst Z;obtain⟨A,h1,h2,tn,h4⟩:=V.get;have C:=hr w M;have g8:O.cells.size=K.sz:=by rw[<-Array.length_toList,k,K.len]
 have b:=Az (P:=P) (U:=w.drew) (C.keep λo h=>h) zs.length (qU _) zs.length cB;rw[<-tn,List.take_length] at b;have d:=Lib.run_append_grow_zeros w t J ty e A O F G U u h1 h2 B zs.length cB (flat K zs) b m l (by rw[tn];exact K.pos) i zo zg zg;have r:=grownCap_ge w (zs.length+m) cB e;have D:=grownCap_le_maxLen w (zs.length+m) cB e (by grind [maxLen]);refine G8 (hg a s) (v:= .slice (some ⟨w.heap.size,0,none⟩) (zs.length+m) (grownCap w (zs.length+m) cB e)) ?_ (kk _ _ r _ _ (s.put _ hN) ((M.drew.alloc (w':=w.drew.alloc (.cells ((flat K zs).toArray++Builtin.zeroCells O.cells m++Builtin.zeroCells O.cells (grownCap w (zs.length+m) cB e-(zs.length+m))) e)) z6 z6 z6 z6).last λze hJ=>?_))
 ·simp only[execOp,resolve,invoke,builtin,Sem.run_bind,Sem.run_pure,Result.andThen_ok,List.map_toArray,List.map_cons,List.map_nil,s.ev W,s.ev X,d]
 ·have R:(zs++List.replicate m j).length=zs.length+m:=zm
  have g9:=Aw (c:=m) k (qU _);have i6:(Builtin.zeroCells O.cells m).toList=flat K (List.replicate m j):=by
   grind [BA,Array.length_toList,size_madeCells]
  have i7:=kG K zs;have S:(flat K (List.replicate m j)).length=m* K.sz:=by grind [kG]
  have T:(zs.length+m)* K.sz=zs.length* K.sz+m* K.sz:=Nat.add_mul _ _ _;have i8:(zs.length+m)* K.sz<=grownCap w (zs.length+m) cB e* K.sz:=Nat.mul_le_mul_right _ r;have j3:(Builtin.zeroCells O.cells (grownCap w (zs.length+m) cB e-(zs.length+m))).size=grownCap w (zs.length+m) cB e* K.sz-(zs.length+m)* K.sz:=by
   grind [BA,size_madeCells]
  refine OS.ofBlk hJ zg D ?_ ?_
  ·grind
  grind [uC,qD,List.take_of_length_le]
theorem O2 (ks:List Nat) {Own F:List aB} {f:FuncId} {fn:Func} {j:Operand} {caps:List Value} {args:List Operand} {ts:Array TypeId} {ro:aV} {post:Value->List aB->Prop}
 (r:ev E j=some (.func (.func f) #[] caps.toArray)) (t:P.funcs[f]?=some fn) (o:fn.body.isSome=true) (vs:(fn.name== "runtime.NumGoroutine")=false) (u:fp E args=some V) (x:cQ ks L=some (Own,F)) (h: ∀w,Hp I0 w0 L w->Fx P f (V++caps) w Own ro post) (hro: ∀b,ro b->cn I0 w0 F b)
 (y:dJ N ops ⟨some p,.call ⟨.value j,args.toArray,ts⟩,ty,pos,af,g⟩ E) (z:Nat.blt p N.n=true)
 (k: ∀v l,post v l->KV N KK (set E p v) (Hp I0 w0 (F++l))):OV P N ops Q ⟨some p,.call ⟨.value j,args.toArray,ts⟩,ty,pos,af,g⟩ E (Hp I0 w0 L) KK:=λa w m s=>by
 rw[if_pos (y a m)];unfold Oper.wp;have A:fn.body.isNone=false:=by simp_all
 have i:(execOp a.eval ⟨some p,.call ⟨.value j,args.toArray,ts⟩,ty,pos,af,g⟩).run P w= .ok (.enter f (V++caps).toArray) w:=by
  have r:=m.ev r;have D:args.toArray.map a.eval=V.toArray:=by rw[<-m.evs u];simp
  have B: ¬fn.name= "runtime.NumGoroutine":=zg
  have C: ¬fn.body=none:=zg
  simp_all[execOp,resolve,invoke,callFunc,Deferred.ofValue]
 rw[i];simp only[Oper.upon];refine(Calls.frame x s hro (h w s)).mono ?_;rintro e G ⟨v,l,rfl,c,q⟩;exact k v l c _ _ (m.put v z) q
end
theorem yC {P:Program} {D:TypeDesc} {o:Nat} {d by_:Nat} (vs:List Value) (f:P.underlying J=some D) (g:cW D=true) (h:TI P J O d by_) (a:vs.length=d)
 (i: ∀j v,vs[j]?=some v->U.cell? ⟨p,o+j,none⟩=some v):(loadVar J ⟨p,o,none⟩).run P U= .ok (.agg vs.toArray) U:=by
 have c:(isAgg J).run P U= .ok true U:=by
  simp only[isAgg,Sem.run_bind,run_underlying f,Result.andThen_ok];cases D<;>first|rfl|(simp[cW] at g)
 have e:=run_loadCells_list (P:=P) U ⟨p,o,none⟩ vs (λj v k=>by
  grind [Addr.add])
 rw[a] at e;simp only[loadVar,Sem.run_bind,Sem.run_pure,Result.andThen_ok,c,if_true,h.sizeOf,e]
theorem RK {fn:Func} {p:Tmp} (h:fn.results= #[.cell p J]) (tmps:Array Value) (P:Program) (w:World):
 (results fn tmps).run P w=((asAddr (tmps.getD p undef)).run P w).andThen λa b=>((loadVar J a).run P b).andThen λv c=> .ok v c:=by
 simp only[results,h];simp[Sem.run_bind,Result.andThen]
 grind
section
variable {P:Program} {N:Nat} {fn:Func} {I:aV} {L L':List aB} {E:Env} {v v1 v2:Value} {t t1 t2:Tmp} {w:World} {post:Value->List aB->Prop}
theorem F4 {D:TypeDesc} {o:Nat} {f by_:Nat} (vs:List Value) (h:fn.results= #[.cell t J]) (i:get E t=some (.pointer (some ⟨p,o,none⟩))) (n:P.underlying J=some D) (ze:cW D=true) (q:TI P J O f by_) (k:vs.length=f)
 (r: ∀w',Hp I w L w'-> ∀j v,vs[j]?=some v->w'.cell? ⟨p,o+j,none⟩=some v) (c) (d: ∀w',Hp I w L w'->Hp I w c w') (l:post (.agg vs.toArray) c):
 KV ⟨N,[]⟩ (bodyPost P fn (λe w'=> ∃v c,e= .returned v/\post v c/\Hp I w c w') .ret) E (Hp I w L):=λa w' g m=>
 ⟨g.defers,_,by
  rw[RK h];have s:a.tmps.getD t undef= .pointer (some ⟨p,o,none⟩):=by simp[g.slot t _ i]
  have u:(asAddr (.pointer (some ⟨p,o,none⟩))).run P w'= .ok ⟨p,o,none⟩ w':=by simp[asAddr]
  grind [Result.andThen_ok,yC],_,c,rfl,l,d w' m⟩
theorem B8 {D:TypeDesc} {o:Nat} {h by_:Nat} (vs:List Value) (i:fn.results= #[.cell t J,.tmp t2]) (k:get E t=some (.pointer (some ⟨p,o,none⟩))) (f:get E t2=some v2) (ze:P.underlying J=some D) (q:cW D=true) (r:TI P J O h by_) (l:vs.length=h)
 (s: ∀w',Hp I w L w'-> ∀j v,vs[j]?=some v->w'.cell? ⟨p,o+j,none⟩=some v) (c) (d: ∀w',Hp I w L w'->Hp I w c w') (m:post (.tuple #[.agg vs.toArray,v2]) c):
 KV ⟨N,[]⟩ (bodyPost P fn (λe w'=> ∃v c,e= .returned v/\post v c/\Hp I w c w') .ret) E (Hp I w L):=λa w' g n=>
 ⟨g.defers,_,by
  rw[results_cell_tmp i];have u:a.tmps.getD t undef= .pointer (some ⟨p,o,none⟩):=by simp[g.slot t _ k]
  have x:a.tmps.getD t2 undef=v2:=by simp[g.slot t2 _ f]
  have y:(asAddr (.pointer (some ⟨p,o,none⟩))).run P w'= .ok ⟨p,o,none⟩ w':=by simp[asAddr]
  grind [Result.andThen_ok,yC],_,c,rfl,m,d w' n⟩
end
end Go.Sv
namespace Go.Sv
open Go.ChangeShapes Go.WideShapes Go.Deep Go.RowKit
section
variable {H:Type} {enc:TypeId×Value->H} {P:Program} {w:World} {base:Nat} {spare:Nat->Bool} {held:Bool}
theorem yD {α:Type} {l:List α} (h:l.length=3): ∃a b c,l=[a,b,c]:=by
 match l,h with
 |[a,b,c],_=>grind
end
end Go.Sv
namespace Go.Sv
section
variable {P:Program} {N:NN} {Q:Exit->Act->World->Prop} {E:Env} {S:World->Prop}
theorem L3 {α β:Type} {y:Code} (G:α->β->Env) (T:α->β->World->Prop)
 (c:CV P N X (Exit.then (λa w=> ∃p q,Fits N a (G p q)/\T p q w) Q) E S) (d: ∀p q,CV P N y Q (G p q) (T p q)):CV P N (.seq X y) Q E S:=
 λa w f g=>wp_seq (wp_mono (c a w f g) λe h i b=>by
  cases e<;>first|exact b|(obtain⟨p,q,j,k⟩:=b;exact d p q h i j k))
theorem F9 {α β:Type} {G:α->β->Env} {T:α->β->World->Prop} (p:α) (q:β) (hE:Sub (G p q) E) (hT: ∀w,S w->T p q w):KV N (λa w=> ∃p q,Fits N a (G p q)/\T p q w) E S:=
 λ_ w b c=>⟨p,q,b.sub hE,hT w c⟩
theorem M6 {α β γ:Type} {y:Code} (G:α->β->γ->Env) (T:α->β->γ->World->Prop)
 (c:CV P N X (Exit.then (λa w=> ∃p q r,Fits N a (G p q r)/\T p q r w) Q) E S) (d: ∀p q r,CV P N y Q (G p q r) (T p q r)):CV P N (.seq X y) Q E S:=
 λa w f g=>wp_seq (wp_mono (c a w f g) λe h i b=>by
  cases e<;>first|exact b|(obtain⟨p,q,r,j,k⟩:=b;exact d p q r h i j k))
theorem M7 {α β γ:Type} {G:α->β->γ->Env} {T:α->β->γ->World->Prop} (p:α) (q:β) (r:γ) (hE:Sub (G p q r) E) (hT: ∀w,S w->T p q r w):KV N (λa w=> ∃p q r,Fits N a (G p q r)/\T p q r w) E S:=
 λ_ w b c=>⟨p,q,r,b.sub hE,hT w c⟩
theorem CV.join4 {α β γ δ:Type} {y:Code} (G:α->β->γ->δ->Env) (T:α->β->γ->δ->World->Prop)
 (c:CV P N X (Exit.then (λa w=> ∃p q r s,Fits N a (G p q r s)/\T p q r s w) Q) E S) (d: ∀p q r s,CV P N y Q (G p q r s) (T p q r s)):CV P N (.seq X y) Q E S:=
 λa w f g=>wp_seq (wp_mono (c a w f g) λe h i b=>by
  cases e<;>first|exact b|(obtain⟨p,q,r,s,j,k⟩:=b;exact d p q r s h i j k))
theorem J3 {α β γ δ:Type} {G:α->β->γ->δ->Env} {T:α->β->γ->δ->World->Prop} (p:α) (q:β) (r:γ) (s:δ) (hE:Sub (G p q r s) E) (hT: ∀w,S w->T p q r s w):KV N (λa w=> ∃p q r s,Fits N a (G p q r s)/\T p q r s w) E S:=
 λ_ w b c=>⟨p,q,r,s,b.sub hE,hT w c⟩
end
section
variable {P:Program} {N:NN} {Q:Exit->Act->World->Prop} {E:Env} {S:World->Prop} {ops:Array Oper}
variable {dd:Option Nat} {ty:TypeId} {pos:String} {af:Array Edge} {g:Option (Nat×Bool)} {x y z:Operand} {KK:Act->World->Prop}
variable {I0:aV} {w0:World} {L:List aB} {α:Type} {K:bO α} {A B:Option Addr} {ys zs:List α} {e t:TypeId} {c:Nat}
theorem Gf (b:V.take (ys.length* K.sz)=flat K ys) (c:p<=ys.length):flat K (ys.take p)=V.take (p* K.sz):=by
 grind [uC,List.take_append_drop,kG]
theorem RM (b:V.take (ys.length* K.sz)=flat K ys) (l:Nat):flat K (ys.drop l)=(V.drop (l* K.sz)).take (ys.length* K.sz-l* K.sz):=by
 by_cases c:l<=ys.length
 ·have d:flat K ys=flat K (ys.take l)++flat K (ys.drop l):=by grind [uC,List.take_append_drop]
  have e:(flat K (ys.take l)).length=l* K.sz:=by grind [kG]
  have f:(flat K ys).drop (l* K.sz)=flat K (ys.drop l):=zg
  grind [List.drop_take]
 ·have:ys.length* K.sz<=l* K.sz:=Nat.mul_le_mul_right _ zo
  grind [List.drop_of_length_le,Nat.sub_eq_zero_of_le,flat]
theorem OS.over {l q:Nat} (i:ys.length<=c) (j:c<=maxLen) (k:Y.size=c* K.sz) (f:Y.toList.take (ys.length* K.sz)=flat K ys)
 (m:U.heap[p]?=some (.cells Y e (0,0))) (n:l<=ys.length) (s:q=zs.length) (d:l+q<=c):
 (OS e K (some ⟨p,0,none⟩) c (ys.take l++zs++ys.drop (l+q))).sat (U.setRow p (Y.toList.take (l* K.sz)++flat K zs++Y.toList.drop (l* K.sz+(flat K zs).length)).toArray) (λx=>x=p):=by
 have o:(flat K zs).length=q* K.sz:=by grind [kG]
 have g:(l+q)* K.sz=l* K.sz+q* K.sz:=Nat.add_mul _ _ _;have h:(l+q)* K.sz<=c* K.sz:=Nat.mul_le_mul_right _ d;have a:Y.toList.length=c* K.sz:=zg
 have r:(ys.take l++zs++ys.drop (l+q)).length=l+q+(ys.length-(l+q)):=by
  grind
 refine .inr ⟨p,_,rfl,λ_=>Iff.rfl,setRow_heap U p Y _ e (0,0) m,zg,j,?_,?_⟩
 ·grind
 ·have t:=Gf f n;have u:=RM f (l+q);have v:(Y.toList.take (l* K.sz)).length=l* K.sz:=zg
  have y:(l+q+(ys.length-(l+q)))* K.sz=l* K.sz+q* K.sz+(ys.length* K.sz-(l+q)* K.sz):=by
   grind [Nat.add_mul,Nat.sub_mul]
  grind [flat]
theorem Gg {l:Nat} (h: ¬c=l):dY (some ⟨p,0,none⟩) l K.sz c=some ⟨p,l* K.sz,none⟩:=by
 grind [dY,Addr.add]
theorem uE {i:aV} (h:(OS e K (some ⟨p,0,none⟩) c ys).sat U i):(∀x,x=p->i x\/U.heap.size<=x)/\gn i U (U.setRow p Y):=by
 have b:i p:=by
  rcases h with ⟨d,_⟩|⟨k,f,d,j,_⟩
  ·cases d
  grind
 refine⟨λx g=> .inl (g▸b),rfl,rfl,rfl,by simp_all,λx g l=>setRow_other U p x _ ?_⟩
 grind
theorem M8 (k l:Nat) {by_ n m cA cB:Nat} (hu:P.underlying t=some (.slice e)) (hi:TI P e O K.sz by_) (hk:L[k]?=some (OS e K A c ys))
 (hx:ev E x=some (.slice (dY A l K.sz c) n cA)) (hy:ev E y=some (.slice B m cB)) (hl:l<=ys.length) (hn:l+n<=c) (hm:min m n<=zs.length) (hr: ∀w,Hp I0 w0 L w->RS w K B zs)
 (hg:dJ N ops ⟨some p,.call ⟨.builtin .copy,#[x,y],#[t,J]⟩,ty,pos,af,g⟩ E) (hN:Nat.blt p N.n=true)
 (kk:KV N KK (set E p (.int .i64 (min m n:Nat))) (Hp I0 w0 (L.set k (OS e K A c (ys.take l++zs.take (min m n)++ys.drop (l+min m n)))))):
 OV P N ops Q ⟨some p,.call ⟨.builtin .copy,#[x,y],#[t,J]⟩,ty,pos,af,g⟩ E (Hp I0 w0 L) KK:=λa w hf hs=>by
 obtain⟨q,hq⟩: ∃q,q=min m n:=⟨_,rfl⟩
 rw[<-hq] at kk hm;have hcells:=Az (P:=P) (hr w hs) q hm m cB;have hql:(zs.take q).length=q:=zg
 have hqe:=hq.symm;obtain⟨i,jj,hA,_⟩:=hs.at hk;have key: ∃w',(Builtin.copy_ #[t,J] ty #[.slice (dY A l K.sz c) n cA,.slice B m cB]).run P w= .ok (goInt q) w'/\
  ∀i,(OS e K A c ys).sat w i-> ∃i':aV,(OS e K A c (ys.take l++zs.take q++ys.drop (l+q))).sat w' i'/\(∀x,i' x->i x\/w.heap.size<=x)/\gn i w w':=by
  by_cases hq0:q=0
  ·refine⟨w,?_,λi hi=>⟨i,?_,λ_ h=> .inl h,gn.refl _ _⟩⟩
   ·subst hq0;have e0:(flat K (zs.take 0)).toArray= #[]:=by simp[flat]
    rw[e0] at hcells;cases hsh:dY A l K.sz c<;>simp[Builtin.copy_,run_underlying hu,hi.sizeOf,Builtin.lenOf,hqe,hcells,storeCells]
   ·rw[hq0];simpa using hi
  ·rcases hA with ⟨_,_,rfl,_⟩|⟨gb,cur,rfl,hI,hb,hle,hc,hsz,ht⟩
   ·grind
   ·have hmul:(l+q)* K.sz<=c* K.sz:=Nat.mul_le_mul_right _ zo;have hadd:(l+q)* K.sz=l* K.sz+q* K.sz:=Nat.add_mul _ _ _;have hfl:(flat K (zs.take q)).length=q* K.sz:=by grind [kG]
    have hst:=run_storeCells_at P gb (l* K.sz) e (flat K (zs.take q)) 0 cur w hb zg (Av K _);simp only[Nat.add_zero] at hst;refine⟨_,?_,λi hi2=>⟨_,OS.over hle hc hsz ht hb hl hql.symm zo,(uE (Y:= #[]) hi2).1,(uE hi2).2⟩⟩;rw[Gg (show ¬c=l by omega)];simp[Builtin.copy_,run_underlying hu,hi.sizeOf,Builtin.lenOf,hqe,hcells,hst]
 obtain⟨w',hrun,hup⟩:=key;refine G8 (hg a hf) (v:=goInt q) ?_ (kk _ _ (hf.put _ hN) (hs.update hk hup));simp only[execOp,resolve,invoke,builtin,Sem.run_bind,Sem.run_pure,Result.andThen_ok,List.map_toArray,List.map_cons,List.map_nil,hf.ev hx,hf.ev hy,hrun]
theorem S2 (k:Nat) {by_ i m cB:Nat} (hu:P.underlying t=some (.slice e)) (hi:TI P e O K.sz by_) (hk:L[k]?=some (OS e K A c ys))
 (hx:ev E x=some (.slice A i c)) (hy:ev E y=some (.slice B m cB)) (hil:i<=ys.length) (hm:m=zs.length) (hfit:i+m<=c) (hr: ∀w,Hp I0 w0 L w->RS w K B zs)
 (hg:dJ N ops ⟨some p,.call ⟨.builtin .append,#[x,y],#[t,t]⟩,ty,pos,af,g⟩ E) (hN:Nat.blt p N.n=true)
 (kk:KV N KK (set E p (.slice A (i+m) c)) (Hp I0 w0 (L.set k (OS e K A c (ys.take i++zs))))):
 OV P N ops Q ⟨some p,.call ⟨.builtin .append,#[x,y],#[t,t]⟩,ty,pos,af,g⟩ E (Hp I0 w0 L) KK:=λa w hf hs=>by
 subst hm;have hcells:=Az (P:=P) (hr w hs) zs.length (qU _) zs.length cB;rw[List.take_length] at hcells;obtain⟨i0,jj,hA,_⟩:=hs.at hk;have key: ∃w',(Builtin.append_ #[t,t] ty #[.slice A i c,.slice B zs.length cB]).run P w= .ok (.slice A (i+zs.length) c) w'/\
  ∀i0,(OS e K A c ys).sat w i0-> ∃i':aV,(OS e K A c (ys.take i++zs)).sat w' i'/\(∀x,i' x->i0 x\/w.heap.size<=x)/\gn i0 w w':=by
  rcases hA with ⟨rfl,rfl,rfl,_⟩|⟨gb,cur,rfl,hI,hb,hle,hc,hsz,ht⟩
  ·have hz:zs=[]:=qO zo;subst hz;have h0:i=0:=zo
   subst h0;refine⟨w,?_,λi0 hi0=>⟨i0,zg,λ_ h=> .inl h,gn.refl _ _⟩⟩;simp only[flat,List.flatMap_nil] at hcells;simp[Builtin.append_,run_underlying hu,hi.sizeOf,Builtin.lenOf];simp_all
  ·have hmul:(i+zs.length)* K.sz<=c* K.sz:=Nat.mul_le_mul_right _ hfit;have hadd:(i+zs.length)* K.sz=i* K.sz+zs.length* K.sz:=Nat.add_mul _ _ _;have hfl:=kG K zs;have hst:=run_storeCells_at P gb (i* K.sz) e (flat K zs) 0 cur w hb zg (Av K _);simp only[Nat.add_zero] at hst;have hle2:(ys.take i).length<=c:=zg
   have ht2:cur.toList.take ((ys.take i).length* K.sz)=flat K (ys.take i):=by
    grind [Gf]
   have hov:=OS.over hle2 hc hsz ht2 hb zg z6 hfit;have e1:(ys.take i).take i++zs++(ys.take i).drop (i+zs.length)=ys.take i++zs:=by
    grind [List.drop_of_length_le]
   rw[e1] at hov;refine⟨_,?_,λi0 hi2=>⟨_,hov,(uE (Y:= #[]) hi2).1,(uE hi2).2⟩⟩;have e2:(Addr.mk gb 0 none).add (i* K.sz)=⟨gb,i* K.sz,none⟩:=by
    grind [Addr.add]
   simp[Builtin.append_,run_underlying hu,hi.sizeOf,Builtin.lenOf,hcells,hfit,e2,hst]
 obtain⟨w',hrun,hup⟩:=key;refine G8 (hg a hf) ?_ (kk _ _ (hf.put _ hN) (hs.update hk hup));simp only[execOp,resolve,invoke,builtin,Sem.run_bind,Sem.run_pure,Result.andThen_ok,List.map_toArray,List.map_cons,List.map_nil,hf.ev hx,hf.ev hy,hrun]
theorem S3 {by_ n:Nat} {k k2:IntKind} {i j:Int} (o:P.underlying t=some (.slice e)) (m:TI P e O p by_) (q:ev E x=some (.slice A n c)) (r:ev E y=some (.int k i)) (s:ev E z=some (.int k2 j)) (l h:Nat) (u:i=(l:Int)) (v:j=(h:Int)) (d:l<=h) (b:h<=c):
 Step P N E S ⟨dd,.slice t x (some y) (some z) none,ty,pos,af,g⟩ (.slice (dY A l p c) (h-l) (c-l)):=λa w f _=>by
 subst u;subst v;simp[execOp,Instr.sliceAt,Instr.slice,f.ev q,f.ev r,f.ev s,run_underlying o,Instr.sliceBounds,Instr.sliceBound,asIntOf,d,b,m.sizeOf,dY]
theorem S4 {by_ n:Nat} {k k2 k3:IntKind} {i j m:Int} {u:Operand} (r:P.underlying t=some (.slice e)) (s:TI P e O p by_) (v:ev E x=some (.slice A n c)) (B:ev E y=some (.int k i)) (C:ev E z=some (.int k2 j)) (D:ev E u=some (.int k3 m)) (l h q:Nat) (F:i=(l:Int)) (G:j=(h:Int)) (H:m=(q:Int)) (o:l<=h) (b:h<=q) (d:q<=c):
 Step P N E S ⟨dd,.slice t x (some y) (some z) (some u),ty,pos,af,g⟩ (.slice (dY A l p q) (h-l) (q-l)):=λa w f _=>by
 subst F;subst G;subst H;simp[execOp,Instr.sliceAt,Instr.slice,f.ev v,f.ev B,f.ev C,f.ev D,run_underlying r,Instr.sliceBounds,Instr.sliceBound,asIntOf,o,b,d,s.sizeOf,dY]
theorem uF {β:Type}: ∀ {L:List β} {k:Nat} {a:β},L[k]?=some a->L.set k a=L
 |[],_,_,_=>rfl
 |b::L,0,a,h=>zg
 |b::L,k+1,a,h=>by simp only[List.getElem?_cons_succ] at h;simp only[List.set_cons_succ,uF h]
theorem U2 (k l:Nat) {dst:Option Nat} {n cA:Nat} (hu:P.underlying t=some (.slice e)) (hi:TI P e O K.sz p) (hze:O.cells.size=K.sz) (h1: ∀v∈O.cells.toList,v.oneCell'=true) (hk:L[k]?=some (OS e K A c ys))
 (hx:ev E x=some (.slice (dY A l K.sz c) n cA)) (hl:ys.length<=l) (hn:l+n<=c)
 (hg:dJ N ops ⟨dst,.call ⟨.builtin .clear,#[x],#[t]⟩,ty,pos,af,g⟩ E)
 (kk: ∀a w,Fits N a E->Hp I0 w0 L w->KK (a.put dst (.tuple #[])) w):
 OV P N ops Q ⟨dst,.call ⟨.builtin .clear,#[x],#[t]⟩,ty,pos,af,g⟩ E (Hp I0 w0 L) KK:=λa w hf hs=>by
 obtain⟨i0,jj,hA,_⟩:=hs.at hk;have key: ∃w',(Builtin.clear_ #[t] ty #[.slice (dY A l K.sz c) n cA]).run P w= .ok (.tuple #[]) w'/\
  ∀i0,(OS e K A c ys).sat w i0-> ∃i':aV,(OS e K A c ys).sat w' i'/\(∀x,i' x->i0 x\/w.heap.size<=x)/\gn i0 w w':=by
  by_cases hn0:n=0
  ·subst hn0;refine⟨w,?_,λi0 hi0=>⟨i0,hi0,λ_ h=> .inl h,gn.refl _ _⟩⟩;cases hsh:dY A l K.sz c<;>simp[Builtin.clear_,run_underlying hu]
  ·rcases hA with ⟨rfl,rfl,rfl,_⟩|⟨gb,cur,rfl,hI,hb,hle,hc,hsz,ht⟩
   ·grind
   ·have hmul:(l+n)* K.sz<=c* K.sz:=Nat.mul_le_mul_right _ hn;have hadd:(l+n)* K.sz=l* K.sz+n* K.sz:=Nat.add_mul _ _ _;have hmul2:ys.length* K.sz<=l* K.sz:=Nat.mul_le_mul_right _ hl;have hzl:(Builtin.zeroCells O.cells n).toList.length=n* K.sz:=by grind [BA,size_madeCells]
    have hz1: ∀v∈(Builtin.zeroCells O.cells n).toList,v.oneCell'=true:=by
     grind [Builtin.zeroCells,Nat.mod_lt]
    have hst:=run_storeCells_at P gb (l* K.sz) e (Builtin.zeroCells O.cells n).toList 0 cur w hb zg hz1;simp only[Nat.add_zero] at hst;refine⟨w.setRow gb (cur.toList.take (l* K.sz)++(Builtin.zeroCells O.cells n).toList++cur.toList.drop (l* K.sz+(Builtin.zeroCells O.cells n).toList.length)).toArray,?_,λi0 hi2=>⟨λx=>x=gb,.inr ⟨gb,_,rfl,λ_=>Iff.rfl,setRow_heap w gb cur _ e (0,0) hb,hle,hc,?_,?_⟩,(uE (Y:= #[]) hi2).1,(uE hi2).2⟩⟩
    ·rw[Gg (show ¬c=l by omega)];cases n with
     |zero=>grind
     |succ n=>simp[Builtin.clear_,run_underlying hu,hi.zeroValue,hst]
    ·grind
    grind
 obtain⟨w',hrun,hup⟩:=key;refine G8 (hg a hf) (w':=w') ?_ (kk _ _ hf ?_)
 ·simp only[execOp,resolve,invoke,builtin,Sem.run_bind,Sem.run_pure,Result.andThen_ok,List.map_toArray,List.map_cons,List.map_nil,hf.ev hx,hrun]
 ·have:=hs.update hk hup
  grind [uF]
theorem S5 {f:FuncId} {args:List Operand} {ts:Array TypeId} (b:fp E args=some V) (h: ∀w,S w->(callFunc f V.toArray).run P w= .ok (.value O) w):
 Step P N E S ⟨dd,.call ⟨.value (.func f),args.toArray,ts⟩,ty,pos,af,g⟩ O:=λa w c d=>by
 have e:a.eval (.func f)= .func (.func f) #[] #[]:=rfl;have i:args.toArray.map a.eval=V.toArray:=by rw[<-c.evs b];simp
 simp_all[execOp,resolve,invoke,Deferred.ofValue]
end
section
variable {P:Program} {N:NN} {E:Env} {S:World->Prop}
variable {dd:Option Nat} {ty:TypeId} {pos:String} {af:Array Edge} {g:Option (Nat×Bool)} {x y:Operand} {e t t2:TypeId} {k k':IntKind} {m n r:Int}
theorem B5 {by_ b o q:Nat} {i:Int} (c:P.underlying t=some (.array q e)) (d:TI P e O p by_) (f:ev E x=some (.pointer (some ⟨b,o,none⟩))) (h:ev E y=some (.int k i)) (l:Nat) (j:i=(l:Int)) (m:l<q):
 Step P N E S ⟨dd,.indexAddr t x y,ty,pos,af,g⟩ (.pointer (some ⟨b,o+l* p,none⟩)):=by
 subst j;refine Q5 f h λw=>?_;have n:0<=(l:Int)/\(l:Int)<(q:Int):=zo
 simp only[Instr.indexAt,asIntOf,Sem.run_bind,Sem.run_pure,Result.andThen_ok,run_underlying c,n,and_self,if_true,d.sizeOf,qh,Instr.sureAddr]
 grind [Addr.add]
theorem J4 (a:ev E x=some (.int k m)) (b:ev E y=some (.int k' n)) (d:0<=n) (c:m.fdiv (2^min n.toNat k.bits)=r):Step P N E S ⟨dd,.binOp .shr t x y t2,ty,pos,af,g⟩ (.int k r):=
 gp a b z6 λw=>by simp[binOp,Op.shift,show ¬n<0 by omega,c]
theorem S6 (a:ev E x=some (.int k m)) (b:ev E y=some (.int k' n)) (d:0<=n) (c:k.wrap (m* 2^min n.toNat k.bits)=r):Step P N E S ⟨dd,.binOp .shl t x y t2,ty,pos,af,g⟩ (.int k r):=
 gp a b z6 λw=>by simp[binOp,Op.shift,show ¬n<0 by omega,c]
theorem N0 (a:ev E x=some (.int k m)) (b:ev E y=some (.int k n)) (c:k.wrap ((BitVec.ofInt k.bits m&&&BitVec.ofInt k.bits n).toNat)=r):Step P N E S ⟨dd,.binOp .and t x y t2,ty,pos,af,g⟩ (.int k r):=
 gp a b z6 λw=>by simp only[binOp,Op.intBits,ne_eq,not_true_eq_false,if_false];rw[c];rfl
theorem S7 (a:ev E x=some (.int k m)) (b:ev E y=some (.int k n)) (c:k.wrap ((BitVec.ofInt k.bits m|||BitVec.ofInt k.bits n).toNat)=r):Step P N E S ⟨dd,.binOp .or t x y t2,ty,pos,af,g⟩ (.int k r):=
 gp a b z6 λw=>by simp_all[binOp,Op.intBits]
end
theorem yE {m:Int} (h0:0<=m) (a:m<=18446744073709551615):(BitVec.ofInt 64 m).toNat=m.toNat:=by
 grind
theorem RN {m n:Int} (h0:0<=m) (a:m<=18446744073709551615) (b:0<=n) (c:n<=18446744073709551615):IntKind.u64.wrap ((BitVec.ofInt 64 m&&&BitVec.ofInt 64 n).toNat)=((m.toNat&&&n.toNat:Nat):Int):=by
 rw[BitVec.toNat_and,yE h0 a,yE b c,IntKind.wrap_u64];have:m.toNat&&&n.toNat<=m.toNat:=Nat.and_le_left;omega
theorem Gh {m n:Int} (h0:0<=m) (a:m<=18446744073709551615) (b:0<=n) (c:n<=18446744073709551615):IntKind.u64.wrap ((BitVec.ofInt 64 m|||BitVec.ofInt 64 n).toNat)=((m.toNat|||n.toNat:Nat):Int):=by
 rw[BitVec.toNat_or,yE h0 a,yE b c,IntKind.wrap_u64];have:m.toNat|||n.toNat<2^64:=Nat.or_lt_two_pow zo zo;omega
end Go.Sv
namespace Go.Sv
open Go.ChangeShapes Go.WideShapes Go.Deep Go.RowKit
section
variable {H:Type} {enc:TypeId×Value->H} {P:Program} {w:World} {base:Nat} {spare:Nat->Bool} {held:Bool}
end
end Go.Sv
namespace Go.Sv
abbrev Bs:=List UInt8
@[reducible] def bs (l:Bs):ByteArray:=⟨l.toArray⟩
@[reducible] def by8 (l:Bs) (m:Nat):Int:=((l.getD m 0).toNat:Int)
theorem nx (l:Bs):(bs l).size=l.length:=by grind [ByteArray.size]
theorem RO (l:Bs) (m:Nat):(bs l)[m]?=l[m]?:=by
 by_cases h:m<l.length
 ·have a:m<(bs l).size:=by grind [nx]
  rw[getElem?_pos (bs l) m a,qJ h];rfl
 grind [nx]
theorem BB (l:Bs) (i j:Nat):(bs l).extract i j=bs ((l.take j).drop i):=by
 apply ByteArray.ext
 grind [ByteArray.data_extract]
theorem RQ (a b:Bs):bs a++bs b=bs (a++b):=by
 apply ByteArray.ext;simp_all
theorem kEp (a b:Bs):(a==b)=decide (a=b):=by
 grind
theorem RR (a b:Bs):(bs a==bs b)=decide (a=b):=by
 show(a.toArray==b.toArray)=_
 grind
theorem Gi (a:Bs):(bs a).toList=a:=by simp_all
def aN:bO Bs where
 f l:=[.string (bs l)]
 sz:=1
 d:=[]
 len _:=rfl
 pos:=zd
 one r v hv:=by simp at hv;subst hv;rfl
section
variable {P:Program} {N:NN} {E:Env} {S:World->Prop}
variable {dd:Option Nat} {ty:TypeId} {pos:String} {af:Array Edge} {g:Option (Nat×Bool)} {x y z:Operand} {t t2:TypeId} {k k':IntKind} {l l2:Bs} {i j:Int}
theorem U6 (b:P.underlying t=some .string) (c:ev E x=some (.string (bs l))):
 Step P N E S ⟨dd,.call ⟨.builtin .len,#[x],#[t]⟩,ty,pos,af,g⟩ (.int .i64 l.length):=λa w d _=>by
 simp[execOp,resolve,invoke,builtin,d.ev c,Builtin.len_,Builtin.lenOf,run_underlying b,goInt,nx]
theorem D9 (e:P.underlying t=some .string) (a:ev E x=some (.string (bs l))) (b:ev E y=some (.int k i)) (m:Nat) (c:i=(m:Int)) (d:m<l.length):
 Step P N E S ⟨dd,.index t x y,ty,pos,af,g⟩ (.int .u8 ((l.getD m 0).toNat:Int)):=by
 subst c;refine J8 a b λw=>?_;simp_all[Instr.index,asIntOf,run_underlying,RO]
theorem G6 (d:P.underlying t=some .string) (e:ev E x=some (.string (bs l))) (f:ev E y=some (.int k i)) (h:ev E z=some (.int k' j)) (a b:Nat) (m:i=(a:Int)) (n:j=(b:Int)) (o:a<=b) (p:b<=l.length):
 Step P N E S ⟨dd,.slice t x (some y) (some z) none,ty,pos,af,g⟩ (.string (bs ((l.take b).drop a))):=λac w c _=>by
 subst m;subst n;simp[execOp,Instr.sliceAt,Instr.slice,c.ev e,c.ev f,c.ev h,run_underlying d,Instr.sliceBounds,Instr.sliceBound,asIntOf,nx,BB,o,p]
theorem O3 (c:P.underlying t=some .string) (d:ev E x=some (.string (bs l))) (e:ev E y=some (.int k i)) (a:Nat) (f:i=(a:Int)) (h:a<=l.length):
 Step P N E S ⟨dd,.slice t x (some y) none none,ty,pos,af,g⟩ (.string (bs (l.drop a))):=λac w b _=>by
 subst f;simp[execOp,Instr.sliceAt,Instr.slice,b.ev d,b.ev e,run_underlying c,Instr.sliceBounds,Instr.sliceBound,asIntOf,nx,BB,h]
theorem O4 (c:P.underlying t=some .string) (d:ev E x=some (.string (bs l))) (e:ev E z=some (.int k' j)) (b:Nat) (f:j=(b:Int)) (h:b<=l.length):
 Step P N E S ⟨dd,.slice t x none (some z) none,ty,pos,af,g⟩ (.string (bs (l.take b))):=λac w a _=>by
 subst f;simp[execOp,Instr.sliceAt,Instr.slice,a.ev d,a.ev e,run_underlying c,Instr.sliceBounds,Instr.sliceBound,asIntOf,nx,BB,h]
theorem D4 (a:ev E x=some (.string (bs l))) (b:ev E y=some (.string (bs l2))) (h:l.length+l2.length<=9223372036854775807):
 Step P N E S ⟨dd,.binOp .add t x y t2,ty,pos,af,g⟩ (.string (bs (l++l2))):=
 gp a b z6 λw=>by
  have c: ¬(((bs l).size+(bs l2).size:Nat):Int)>IntKind.i64.max:=by
   rw[nx,nx];have:IntKind.i64.max=9223372036854775807:=rfl;omega
  grind [binOp,Op.stringOp,RQ,Sem.run_pure]
theorem F1 (a:ev E x=some (.string (bs l))) (b:ev E y=some (.string (bs l2))):Step P N E S ⟨dd,.binOp .eql t x y t2,ty,pos,af,g⟩ (.bool (decide (l=l2))):=
 gp a b z6 λw=>by
  grind [Gi,binOp,Op.stringOp,Sem.run_pure]
theorem H5 (a:ev E x=some (.string (bs l))) (b:ev E y=some (.string (bs l2))):Step P N E S ⟨dd,.binOp .neq t x y t2,ty,pos,af,g⟩ (.bool (decide (¬l=l2))):=
 gp a b z6 λw=>by
  grind [Gi,binOp,Op.stringOp,Sem.run_pure]
end
theorem Gl (x:Bs): ∀(es:List MapEntry) (m:List Bs) (i:Nat),es.map (·.key)=m.map (λl:Bs=>Value.string (bs l))->
 Instr.findNow .string (.string (bs x)) es i=some ((m.findIdx? (λy=>decide (x=y))).bind λj=>(es[j]?).map λe=>(i+j,e.val))
 |[],[],i,_=>by grind [Instr.findNow]
 |e::es,y::m,i,h=>by
  simp only[List.map_cons,List.cons.injEq] at h;have hs:Instr.sameNow .string (.string (bs x)) e.key=some (decide (x=y)):=by grind [Instr.sameNow,RR]
  simp only[Instr.findNow,hs,List.findIdx?_cons];by_cases a:x=y
  ·grind
  ·simp only[a,decide_false,qX,if_false];rw[Gl x es m (i+1) h.2];cases b:m.findIdx? (λy=>decide (x=y)) with
   |none=>simp
   |some j=>grind
 |[],_::_,_,h=>zg
 |_::_,[],_,h=>zg
theorem dD.string {P:Program} {kt:TypeId} (hu:P.underlying kt=some .string):dD P kt (λl:Bs=>Value.string (bs l)) where
 check em x w:=by
  show(Instr.checkKey em (9999+1) kt _).run P w=_;rw[Instr.checkKey];simp_all[run_underlying]
 find x es ms h w:=by
  simp only[Instr.findKey,Sem.run_bind,run_underlying hu,Result.andThen_ok,Gl x es ms 0 h,Nat.zero_add,Sem.run_pure]
section
variable {P:Program} {N:NN} {Q:Exit->Act->World->Prop} {E:Env} {S:World->Prop} {ops:Array Oper} {KK:Act->World->Prop}
theorem OV.callP {f:FuncId} {fn:Func} {args:List Operand} {ts:Array TypeId} {pos:String} {af:Array Edge}
 (l:P.funcs[f]?=some fn) (h:fn.body.isSome=true) (i:(fn.name== "runtime.NumGoroutine")=false) (m:fp E args=some V) (b:fg P f V O) (o:dJ N ops ⟨some p,.call ⟨.value (.func f),args.toArray,ts⟩,J,pos,af,Z⟩ E) (g:Nat.blt p N.n=true)
 (k:KV N KK (set E p O) S):OV P N ops Q ⟨some p,.call ⟨.value (.func f),args.toArray,ts⟩,J,pos,af,Z⟩ E S KK:=λa w j q=>by
 rw[if_pos (o a j)];unfold Oper.wp;have r:fn.body.isNone=false:=by simp_all
 have c:(execOp a.eval ⟨some p,.call ⟨.value (.func f),args.toArray,ts⟩,J,pos,af,Z⟩).run P w= .ok (.enter f V.toArray) w:=by
  have u:a.eval (.func f)= .func (.func f) #[] #[]:=rfl;have x:args.toArray.map a.eval=V.toArray:=by rw[<-j.evs m];simp
  have s: ¬fn.name= "runtime.NumGoroutine":=zg
  have t: ¬fn.body=none:=zg
  simp_all[execOp,resolve,invoke,callFunc,Deferred.ofValue]
 rw[c];simp only[Oper.upon];refine(b w).mono ?_;rintro e y ⟨rfl,rfl⟩;exact k _ _ (j.put O g) q
end
@[reducible] def ny (ro:Option Nat):Fence:={Fence.wide with round:=ro}
section
variable {P:Program} {N:NN} {Q:Exit->Act->World->Prop} {E:Env} {S:World->Prop} {ops:Array Oper} {rest:List Oper} {ro:Option Nat} {K:Act->World->Prop}
theorem RT {o:Oper} {a:Act} (i: ∀c,o.op≠ .defer c) (h:Oper.wp P o a U K Q):Oper.wpIn (ny ro) 0 P o a U K Q:=by
 refine⟨λ_ _=>trivial,?_⟩;rw[show(ny ro).round=ro from rfl,Oper.semAt_eq _ _ _ i];unfold Oper.wp at h;cases j:(execOp a.eval o).run P U with
 |ok l k=>
  rw[j] at h;cases l with
  |value v=>exact h
  |skip=>exact h
  |defer d=>exact h
  |enter f b=>
   refine⟨λg=>(by cases g),?_⟩;have m:CallsIn Fence.wide 0 P f b k _:=callsIn_wide.2 h;exact CallsIn.mono m λe n q=>zg
  |row row b=>
   refine⟨λg=>(by cases g),λc cs _=>?_⟩;obtain⟨v,p,r,s⟩:=h c cs;exact⟨v,p,r,stepsIn_wide.2 s⟩
  |_=>exact h.elim
 |halt g k=>
  rw[j] at h;cases g with
  |panic v=>exact h
  |_=>exact h.elim
abbrev LI (ro:Option Nat) (P:Program) (N:NN) (ops:Array Oper) (Q:Exit->Act->World->Prop) (rest:List Oper) (E:Env) (S:World->Prop):Prop:=KV N (wpListIn (ny ro) 0 P ops Q rest) E S
abbrev CI (ro:Option Nat) (P:Program) (N:NN) (c:Code) (Q:Exit->Act->World->Prop) (E:Env) (S:World->Prop):Prop:=KV N (c.wpIn (ny ro) 0 P Q) E S
theorem C0 {o:Oper} (d: ∀c,o.op≠ .defer c) (h:OV P N ops Q o E S (wpListIn (ny ro) 0 P ops Q rest)):LI ro P N ops Q (o::rest) E S:=λa w e f=>by
 have b:=h a w e f;unfold wpListIn;by_cases g:Region.wanted o (yielded ops a.tmps)=true
 ·grind [RT]
 ·rw[if_neg g] at b ⊢;exact⟨λ_ _=>trivial,b⟩
theorem G1 (h:KV N (Q .normal) E S):LI ro P N ops Q [] E S:=λa w b c=>wpListIn_nil (h a w b c)
theorem H6 {id:Nat} {l:List Oper} (h:LI ro P N l.toArray Q l E S):CI ro P N (.region id l.toArray false) Q E S:=λa w b c=>wpIn_region_lit (h a w b c)
theorem L4 {x y:Code} (h:CI ro P N x (Exit.then (y.wpIn (ny ro) 0 P Q) Q) E S):CI ro P N (.seq x y) Q E S:=λa w b c=>wpIn_seq (h a w b c)
theorem CI.skip (h:KV N (Q .normal) E S):CI ro P N .skip Q E S:=λa w b c=>wpIn_skip (h a w b c)
theorem CI.ret (h:KV N (Q .ret) E S):CI ro P N .ret Q E S:=λa w b c=>wpIn_ret (h a w b c)
theorem CI.block {id:Nat} {c:Code} (h:CI ro P N c (Exit.inBlock id Q) E S):CI ro P N (.block id c) Q E S:=λa w b d=>wpIn_block (h a w b d)
theorem S8 {c:Operand} {y:Code} (d:ev E c=some (.bool true)) (h:CI ro P N X Q E S):CI ro P N (.cond c X y) Q E S:=λa w b e=>wpIn_cond_true (b.ev d) (h a w b e)
theorem U7 {c:Operand} {y:Code} (d:ev E c=some (.bool false)) (h:CI ro P N y Q E S):CI ro P N (.cond c X y) Q E S:=λa w b e=>wpIn_cond_false (b.ev d) (h a w b e)
theorem S9 (h:CI none P N X Q E S):CV P N X Q E S:=λa w b d=>wpIn_wide.1 (h a w b d)
end
section
variable {P:Program} {N:NN} {Q:Exit->Act->World->Prop} {E:Env} {ops:Array Oper} {rest:List Oper} {I0:aV} {w0:World} {L Own F:List aB}
theorem Hp.own {ks:List Nat} (s:cQ ks L=some (Own,F)) (hs:Hp I0 w0 L U): ∃c:aV,Sep Own c U/\(∀b,cn I0 w0 F b-> ¬c b)/\ ∀w' l,Hp c U l w'->Hp I0 w0 (F++l) w':=by
 obtain⟨I,d,n,t⟩:=hs.perm (gH s);obtain⟨c,o,hI,u,v,h⟩:=Sep.append.1 d;refine⟨c,v,λb y z=>?_,?_⟩
 ·rcases y with ⟨e,p⟩|⟨j,A,B,E⟩
  ·grind
  ·obtain⟨i,G,C,_,D,_⟩:=h.perm (nv B)
   grind
 rintro w' l ⟨q,m,r,f⟩;refine⟨λx=>o x\/q x,Sep.append.2 ⟨o,q,λ_=>Iff.rfl,λx e p=>?_,h.keep λx g=>r.block x (h.lt x g) λa=>u x a g,m⟩,n.trans r λx a=>t x ((hI x).2 (.inl a)),?_⟩
 ·rcases f x p with k|k
  ·grind
  ·have:=h.lt x e;omega
 ·rintro x (e|e)
  ·grind
  ·rcases f x e with k|k
   ·grind
   ·exact .inr (qk n.size k)
def bV (P:Program) (l:Nat) (vs:List Value) (w:World) (Own:List aB) (ro:aV) (post:Value->List aB->Prop):Prop:=
 ∀I:aV,Sep Own I w->(∀b,ro b-> ¬I b)-> ∃fn tmps assign body,(Instr.yield l vs.toArray).run P w= .ok (.round l fn tmps assign body) w/\
  RoundIn Fence.wide 0 P l fn tmps assign body w (λe w'=> ∃v L',e= .returned v/\post v L'/\Hp I w L' w')
theorem T0 (ks:List Nat) {d l:Nat} {x:Operand} {vs:List Value} {args:List Operand} {ts:Array TypeId} {ty:TypeId} {pos:String} {af:Array Edge} {g:Option (Nat×Bool)} {ro:aV} {post:Value->List aB->Prop}
 (r:ev E x=some (.func (.yield l) #[] #[])) (s:fp E args=some vs) (t:cQ ks L=some (Own,F)) (h: ∀w,Hp I0 w0 L w->bV P l vs w Own ro post) (hro: ∀b,ro b->cn I0 w0 F b)
 (u:dJ N ops ⟨some d,.call ⟨.value x,args.toArray,ts⟩,ty,pos,af,g⟩ E) (y:Nat.blt d N.n=true)
 (k: ∀v i,post v i->LI none P N ops Q rest (set E d v) (Hp I0 w0 (F++i))):LI none P N ops Q (⟨some d,.call ⟨.value x,args.toArray,ts⟩,ty,pos,af,g⟩::rest) E (Hp I0 w0 L):=λa w o q=>by
 unfold wpListIn;rw[if_pos (u a o)];refine⟨λ_ _=>trivial,?_⟩;obtain⟨z,A,j,c⟩:=q.own t;obtain⟨fn,tmps,assign,body,H,B⟩:=h w q z A λb C=>j b (hro b C);have m:(Oper.semAt none a.eval ⟨some d,.call ⟨.value x,args.toArray,ts⟩,ty,pos,af,g⟩).run P w= .ok (.round l fn tmps assign body) w:=by
  have I:=o.ev r;have J:args.toArray.map a.eval=vs.toArray:=by rw[<-o.evs s];simp
  simp_all[Oper.semAt_none,execOp,resolve,invoke,Deferred.ofValue]
 show Oper.uponIn (ny none) 0 P _ a _ Q ((Oper.semAt none a.eval _).run P w);rw[m];refine⟨λD=>(by cases D),?_⟩;refine RoundIn.mono B ?_;rintro e G ⟨v,i,rfl,f,p⟩;exact k v i f _ _ (o.put v y) (c G i p)
def mk (D:Nat):Deferred:={target:= .collected D,args:= #[]}
theorem Hp.put (h:Hp I0 w0 L U) {b:Nat} {o:Obj} (c:Obj) (d:L[p]?=some (aU b o)):Hp I0 w0 (L.set p (aU b c)) (U.putObj b c):=by
 have e:=h.blk p d;have a:=xz e;exact h.modify d (World.putObj_heap_same a) World.putObj_size (λx f=>World.putObj_heap_other f) z6 z6 rfl
def kH (fn:FuncId) (tm:Array Value) (ps:Array Tmp) (assign body:Code) (D:Nat):Loop:={state:= .ready,pending:=none,fn:=fn,tmps:=tm,params:=ps,assign:=assign,body:=body,defers:=D}
theorem bV.ofWalk {ro:aV} {post:Value->List aB->Prop} {k:Nat} {r:Loop} (g:Own[k]?=some (aU p (.loop r))) (i:r.state= .ready) (j:V.length=r.params.size)
 (h: ∀I,(∀b,ro b-> ¬I b)->CI (some p) P ⟨r.tmps.size,[]⟩ r.assign (Exit.then (λa m=> ∃d,(Instr.beginRound p).run P m= .ok () d/\r.body.wpIn (ny (some p)) 0 P (roundPost P p (λe w'=> ∃v f,e= .returned v/\post v f/\Hp I U f w')) a d) (λ_ _ _=>False)) E (Hp I U Own))
 (hE:Fits ⟨r.tmps.size,[]⟩ {tmps:=((r.params.zip V.toArray).foldl (λtmps (t,a)=>tmps.setIfInBounds t a) r.tmps),defers:=[]} E):bV P p V U Own ro post:=λI hI c=>by
 have n:=(Hp.start hI).blk k g;exact⟨_,_,_,_,run_yield n zg,roundIn_of_wpIn trivial (h I c _ U hE (Hp.start hI))⟩
theorem KV.begin {I:aV} {k:Nat} {r:Loop} {R:Ending->World->Prop} (c:L[k]?=some (aU p (.loop r))) (b:r.state= .ready) (h:CI (some p) P N X (roundPost P p R) E (Hp I U (L.set k (aU p (.loop {r with state:= .busy}))))):
 KV N (λa d=> ∃e,(Instr.beginRound p).run P d= .ok () e/\X.wpIn (ny (some p)) 0 P (roundPost P p R) a e) E (Hp I U L):=λa d g f=>
 ⟨_,run_beginRound (f.blk k c) b,h a _ g (f.put _ c)⟩
theorem U8 {I:aV} {k:Nat} {r:Loop} {post:Value->List aB->Prop} (d:L[k]?=some (aU p (.loop r))) (b:List aB) (c: ∀w',Hp I U (L.set k (aU p (.loop {r with state:= .ready,pending:=none}))) w'->Hp I U b w') (g:post (.bool true) b):
 KV N (roundPost P p (λe w'=> ∃v b,e= .returned v/\post v b/\Hp I U b w') .normal) E (Hp I U L):=λa h i f=>
 ⟨_,_,run_endRound none (f.blk k d),_,b,rfl,g,c _ (f.put _ d)⟩
theorem T1 {I:aV} {k:Nat} {r:Loop} {post:Value->List aB->Prop} (d:L[k]?=some (aU p (.loop r))) (b:List aB) (c: ∀w',Hp I U (L.set k (aU p (.loop {r with state:= .done,pending:=some .ret}))) w'->Hp I U b w') (g:post (.bool false) b):
 KV N (roundPost P p (λe w'=> ∃v b,e= .returned v/\post v b/\Hp I U b w') .ret) E (Hp I U L):=λa h i f=>
 ⟨_,_,run_endRound (some .ret) (f.blk k d),_,b,rfl,g,c _ (f.put _ d)⟩
end
section
variable {P:Program} {f:FuncId} {vs:List Value} {w:World} {Own:List aB} {ro:aV} {post:Value->List aB->Prop}
theorem Fx.bodyM {fn:Func} (g:P.funcs[f]?=some fn) (i:fn.body=some X) (k:fn.ntmps=p) (l:Nat.ble vs.length p=true)
 (h: ∀I:aV,(∀b,ro b-> ¬I b)->Sep Own I w->CV P ⟨p,[]⟩ X (bodyPostM Fence.wide 0 P fn (λe w'=> ∃v d,e= .returned v/\post v d/\Hp I w d w')) (params 0 vs) (Hp I w Own)):Fx P f vs w Own ro post:=by
 intro I hI a;refine(callsIn_wide).1 (callsIn_of_wp_marks g i trivial ((wpIn_wide).2 (h I a hI _ _ ⟨rfl,?_,λt v j=>?_⟩ (Hp.start hI))))
 ·simp_all
 ·obtain⟨_,m⟩:=uD vs 0 t v j
  grind
end
theorem RU {fn:Func} {t1 t2 t3:Tmp} (h:fn.results= #[.tmp t1,.tmp t2,.tmp t3]) (tmps:Array Value) (P:Program) (w:World):
 (results fn tmps).run P w= .ok (.tuple #[tmps.getD t1 undef,tmps.getD t2 undef,tmps.getD t3 undef]) w:=by
 simp_all[results]
section
variable {P:Program} {N:Nat} {fn:Func} {I:aV} {L L':List aB} {E:Env} {v u v1 v2 v3:Value} {t t1 t2 t3:Tmp} {w:World} {post:Value->List aB->Prop}
theorem F6 (f:fn.results= #[.tmp t1,.tmp t2,.tmp t3]) (g:get E t1=some v1) (h:get E t2=some v2) (i:get E t3=some v3) (b) (c: ∀w',Hp I w L w'->Hp I w b w') (j:post (.tuple #[v1,v2,v3]) b):
 KV ⟨N,[]⟩ (bodyPost P fn (λe w'=> ∃v b,e= .returned v/\post v b/\Hp I w b w') .ret) E (Hp I w L):=λa w' d k=>
 ⟨d.defers,.tuple #[v1,v2,v3],by rw[RU f];simp[d.slot t1 v1 g,d.slot t2 v2 h,d.slot t3 v3 i],_,b,rfl,j,c w' k⟩
end
theorem yF (c:UInt8): ∀l:Bs,(Lib.indexByte l c= -1/\ ∀x∈l,x≠c)\/ ∃p r:Bs,l=p++c::r/\Lib.indexByte l c=(p.length:Int)/\ ∀x∈p,x≠c
 |[]=> .inl ⟨rfl,λx a=>by cases a⟩
 |b::l=>by
  rw[Lib.indexByte];by_cases d:b=c
  ·subst d;exact .inr ⟨[],l,rfl,zm,λx a=>by cases a⟩
  ·have e:=beq_eq_false_iff_ne.2 d;rcases yF c l with ⟨f,g⟩|⟨p,r,rfl,f,g⟩
   ·grind
   grind
theorem kO4 (c:UInt8):((c.toNat:Int)).toNat.toUInt8=c:=zm
theorem RW {fn:Func} {p:Tmp} {t2 t3:Tmp} (h:fn.results= #[.cell p J,.tmp t2,.tmp t3]) (tmps:Array Value) (P:Program) (w:World):
 (results fn tmps).run P w=((asAddr (tmps.getD p undef)).run P w).andThen λa b=>((loadVar J a).run P b).andThen λv c=> .ok (.tuple #[v,tmps.getD t2 undef,tmps.getD t3 undef]) c:=by
 simp_all[results]
section
variable {P:Program} {N:Nat} {fn:Func} {I:aV} {L L':List aB} {E:Env} {v v1 v2 v3:Value} {t t1 t2 t3:Tmp} {w:World} {post:Value->List aB->Prop}
theorem G2 {D:TypeDesc} {o:Nat} {i by_:Nat} (vs:List Value) (k:fn.results= #[.cell t J,.tmp t2,.tmp t3]) (l:get E t=some (.pointer (some ⟨p,o,none⟩))) (g:get E t2=some v2) (h:get E t3=some v3) (q:P.underlying J=some D) (r:cW D=true) (s:TI P J O i by_) (m:vs.length=i)
 (u: ∀w',Hp I w L w'-> ∀j v,vs[j]?=some v->w'.cell? ⟨p,o+j,none⟩=some v) (c) (d: ∀w',Hp I w L w'->Hp I w c w') (n:post (.tuple #[.agg vs.toArray,v2,v3]) c):
 KV ⟨N,[]⟩ (bodyPost P fn (λe w'=> ∃v c,e= .returned v/\post v c/\Hp I w c w') .ret) E (Hp I w L):=λa w' f ze=>
 ⟨f.defers,_,by
  rw[RW k];have x:a.tmps.getD t undef= .pointer (some ⟨p,o,none⟩):=by simp[f.slot t _ l]
  have y:a.tmps.getD t2 undef=v2:=by simp[f.slot t2 _ g]
  have z:a.tmps.getD t3 undef=v3:=by simp[f.slot t3 _ h]
  have A:(asAddr (.pointer (some ⟨p,o,none⟩))).run P w'= .ok ⟨p,o,none⟩ w':=by simp[asAddr]
  grind [Result.andThen_ok,yC],_,c,rfl,n,d w' ze⟩
end
theorem RX {P:Program} {D:TypeDesc} {p:Addr} (a:P.underlying J=some D) (b:cW D=false) (d:U.cell? p=some O):(loadVar J p).run P U= .ok O U:=by
 have c:(isAgg J).run P U= .ok false U:=by
  simp only[isAgg,Sem.run_bind,run_underlying a,Result.andThen_ok];cases D<;>first|rfl|(simp[cW] at b)
 grind [Go.load,Sem.run,loadVar,Sem.run_bind,Result.andThen_ok]
theorem RY {fn:Func} {p c:Tmp} {b:TypeId} (h:fn.results= #[.cell p J,.cell c b]) {P:Program} {a d:Addr} {v2:Value}
 (e:Y.getD p undef= .pointer (some a)) (f:Y.getD c undef= .pointer (some d)) (g:(loadVar J a).run P U= .ok O U) (i:(loadVar b d).run P U= .ok v2 U):(results fn Y).run P U= .ok (.tuple #[O,v2]) U:=by
 simp_all[asAddr,results]
section
variable {P:Program} {N:Nat} {fn:Func} {I:aV} {L L':List aB} {E:Env} {v v1 v2:Value} {t t1 t2:Tmp} {w:World} {post:Value->List aB->Prop}
theorem J5 {f:TypeId} {T r:TypeDesc} {b o b2 s:Nat} {u by_:Nat} (vs:List Value) (k:Nat) (z:fn.results= #[.cell t J,.cell t2 f]) (A:get E t=some (.pointer (some ⟨b,o,none⟩))) (i:get E t2=some (.pointer (some ⟨b2,s,none⟩))) (B:P.underlying J=some T) (C:cW T=true) (F:TI P J O u by_) (l:vs.length=u)
 (m:P.underlying f=some r) (n:cW r=false) (x:L[k]?=some (aU p (.deferred (some []))))
 (G: ∀w',Hp I w (L.set k (aU p (.deferred none))) w'-> ∀j v,vs[j]?=some v->w'.cell? ⟨b,o+j,none⟩=some v) (ze: ∀w',Hp I w (L.set k (aU p (.deferred none))) w'->w'.cell? ⟨b2,s,none⟩=some v2)
 (d) (g: ∀w',Hp I w (L.set k (aU p (.deferred none))) w'->Hp I w d w') (H:post (.tuple #[.agg vs.toArray,v2]) d):
 KV ⟨N,[mk p]⟩ (bodyPostM Fence.wide 0 P fn (λe w'=> ∃v d,e= .returned v/\post v d/\Hp I w d w') .ret) E (Hp I w L):=λa w' q y=>by
 have c:=y.put (.deferred none) x;show LeavesInM Fence.wide 0 P fn a.tmps _ a.defers .returning w';rw[q.defers];refine⟨(λh=>by cases h),.inl ⟨p,_,rfl,run_takeDeferred (y.blk k x),?_⟩⟩;refine⟨.tuple #[.agg vs.toArray,v2],?_,_,d,rfl,H,g _ c⟩;exact RY z (by simp[q.slot t _ A]) (by simp[q.slot t2 _ i]) (yC vs B C F l (G _ c)) (RX m n (ze _ c))
end
def aP (M:List aB):aB where
 sat w I:=Sep M I w
 lt h x hx:=h.lt x hx
 keep h hk:=h.keep hk
section
variable {I0:aV} {w0 w:World} {L M R:List aB} {k:Nat}
theorem Hp.bun (h:Hp I0 w0 (M++R) w):Hp I0 w0 (aP M::R) w:=h.bundle λ_ a=>a
theorem Hp.unbun (h:Hp I0 w0 (aP M::R) w):Hp I0 w0 (M++R) w:=h.splice (k:=0) z6 λ_ a=>a
theorem BC: ∀(O F:List aB),cQ (List.replicate O.length 0) (O++F)=some (O,F)
 |[],F=>rfl
 |A::O,F=>by
  show cQ (0::List.replicate O.length 0) (A::(O++F))=_;simp[cQ,BC O F]
end
section
variable {P:Program} {l:Nat} {vs:List Value} {w:World} {ro:aV} {post post':Value->List aB->Prop} {M:List aB}
theorem Sep.ofBun {I:aV} (h:Sep [aP M] I w):Sep M I w:=by
 obtain⟨i,j,b,f,c,d⟩:=h;exact Sep.ext c λx=>⟨λa=>(b x).2 (.inl a),λa=>((b x).1 a).elim id λe=>absurd e (d x)⟩
theorem bV.bun (h:bV P l vs w M ro post') (c: ∀v a,post' v a->post v [aP a]):bV P l vs w [aP M] ro post:=λI hI b=>by
 obtain⟨fn,tmps,assign,body,d,f⟩:=h I (Sep.ofBun hI) b;refine⟨fn,tmps,assign,body,d,RoundIn.mono f ?_⟩;rintro e g ⟨v,a,rfl,i,j⟩;exact⟨v,_,rfl,c v a i,(show Hp I w (a++[]) g by rw[qK];exact j).bun⟩
theorem bV.ofWalkN {E:Env} {Own:List aB} {n:Nat} {r:Loop} (j:r.tmps.size=n) (m:Own[p]?=some (aU l (.loop r))) (f:r.state= .ready) (g:vs.length=r.params.size)
 (h: ∀I,(∀b,ro b-> ¬I b)->CI (some l) P ⟨n,[]⟩ r.assign (Exit.then (λa i=> ∃c,(Instr.beginRound l).run P i= .ok () c/\r.body.wpIn (ny (some l)) 0 P (roundPost P l (λe w'=> ∃v d,e= .returned v/\post v d/\Hp I w d w')) a c) (λ_ _ _=>False)) E (Hp I w Own))
 (hE:Fits ⟨n,[]⟩ {tmps:=((r.params.zip vs.toArray).foldl (λtmps (t,a)=>tmps.setIfInBounds t a) r.tmps),defers:=[]} E):bV P l vs w Own ro post:=by
 grind [bV.ofWalk]
end
section
variable {P:Program} {N:NN} {Q:Exit->Act->World->Prop} {E:Env} {I0:aV} {w0:World} {L:List aB}
theorem V0 (ro:aV) {ps:Array Tmp} {body:Code} {f:FuncId} {c:Func} {caps:List Value} (W:get E p=some (.func (.func f) #[] caps.toArray))
 (assign:P.funcs[f]?=some c) (I:c.body.isSome=true) (J:(c.name== "runtime.NumGoroutine")=false)
 (q: ∀(fn D l:Nat) (tm:Array Value) (rc:Loop),rc=kH fn tm ps X body D->Fits ⟨N.n,[]⟩ {tmps:=tm,defers:=[]} E-> ∃Own F post,
  (∀w,Hp I0 w0 (L++[aU D (.deferred (some [])),aU l (.loop rc)]) w->Hp I0 w0 (Own++F) w)/\
  (∀b,ro b->cn I0 w0 F b)/\(∀w,Hp I0 w0 (Own++F) w->Fx P f (.func (.yield l) #[] #[]::caps) w Own ro post)/\
  ∀v C,post v C-> ∃r s k,(∀w,Hp I0 w0 (F++C) w->Hp I0 w0 s w)/\s[k]?=some (aU l (.loop r))/\r.state≠ .busy/\
   ((r.pending=none/\KV ⟨N.n,mk D::N.D⟩ (Q .normal) E (Hp I0 w0 (s.set k (aU l (.loop {r with state:= .exhausted})))))\/
    (r.pending=some .ret/\KV ⟨N.n,mk D::N.D⟩ (Q .ret) E (Hp I0 w0 (s.set k (aU l (.loop {r with state:= .exhausted}))))))):
 CV P N (.rangeFunc (.tmp p) ps X body) Q E (Hp I0 w0 L):=λa w H Y=>by
 refine(wpIn_wide (n:=0)).1 (wpIn_rangeFunc λfn _=>?_);have t:Fits ⟨N.n,[]⟩ {tmps:=a.tmps,defers:=[]} E:=⟨rfl,H.size,H.slot⟩
 have Z:c.body.isNone=false:=by simp_all
 have g6: ¬c.name= "runtime.NumGoroutine":=zg
 have g7: ¬c.body=none:=zg
 obtain⟨Own,F,post,u,K,h,y⟩:=q fn w.heap.size (w.heap.size+1) a.tmps _ rfl t;have M:Hp I0 w0 (L++[aU w.heap.size (.deferred (some []))]) (w.alloc (.deferred (some []))):=Y.alloc z6 z6 z6 rfl;have O:Hp I0 w0 (L++[aU w.heap.size (.deferred (some [])),aU (w.heap.size+1) (.loop (kH fn a.tmps ps X body w.heap.size))]) ((w.alloc (.deferred (some []))).alloc (.loop (kH fn a.tmps ps X body w.heap.size))):=by
  have:=M.alloc (w':=(w.alloc (.deferred (some []))).alloc (.loop (kH fn a.tmps ps X body w.heap.size))) z6 z6 z6 rfl;simp_all
 have z:=u _ O;have g8:=H.ev (x:= .tmp p) W;refine⟨w.heap.size+1,[mk w.heap.size],((w.alloc (.deferred (some []))).alloc (.loop (kH fn a.tmps ps X body w.heap.size))),⟨.fn (.func f) caps.toArray,#[.func (.yield (w.heap.size+1)) #[] #[]]⟩,((w.alloc (.deferred (some []))).alloc (.loop (kH fn a.tmps ps X body w.heap.size))),f,(.func (.yield (w.heap.size+1)) #[] #[]::caps).toArray,((w.alloc (.deferred (some []))).alloc (.loop (kH fn a.tmps ps X body w.heap.size))),run_enterLoop_outer fn a.tmps ps X body,?_,λ_ _=>trivial,?_,λhh=>(by cases hh),callsIn_wide.2 ?_⟩
 ·have hc:a.eval (.const (.func (.yield (w.heap.size+1)) #[] #[]))= .func (.yield (w.heap.size+1)) #[] #[]:=rfl;simp_all[resolve,Deferred.ofValue]
 ·simp_all[invoke,callFunc]
 ·refine(Calls.frame (BC Own F) z K (h _ z)).mono ?_;rintro e G ⟨v,C,rfl,i,R⟩;obtain⟨r,s,k,m,U,A,o⟩:=y v C i;have d:=m _ R;have V:=d.blk k U;have g:=d.put (Obj.loop {r with state:= .exhausted}) U;have B:Fits ⟨N.n,mk w.heap.size::N.D⟩ {a with defers:=[mk w.heap.size]++a.defers} E:=⟨by show[mk w.heap.size]++a.defers=_;rw[H.defers];rfl,H.size,H.slot⟩
  rcases o with ⟨S,T⟩|⟨S,T⟩
  ·exact⟨none,G.putObj (w.heap.size+1) (Obj.loop {r with state:= .exhausted}),(run_endLoop V A).trans (congrArg (λj=>Result.ok j (G.putObj (w.heap.size+1) (Obj.loop {r with state:= .exhausted}))) S),T _ _ B g⟩
  ·exact⟨some .ret,G.putObj (w.heap.size+1) (Obj.loop {r with state:= .exhausted}),(run_endLoop V A).trans (congrArg (λj=>Result.ok j (G.putObj (w.heap.size+1) (Obj.loop {r with state:= .exhausted}))) S),wpIn_ret (T _ _ B g)⟩
end
theorem Fits.one {d:Nat} {E:Env} (v:Value) (h:Fits ⟨p,[]⟩ {tmps:=Y,defers:=[]} E) (b:Nat.blt d p=true):Fits ⟨p,[]⟩ {tmps:=((#[d].zip [v].toArray).foldl (λtmps (t,a)=>tmps.setIfInBounds t a) Y),defers:=[]} (set E d v):=by
 have:=h.put v b;simp_all[Act.put]
end Go.Sv
namespace Go.Sv
open Go.ChangeShapes Go.WideShapes Go.Deep Go.RowKit
theorem Fx.topR {P:Program} {f:FuncId} {L:List aB} {ro:aV} (h:Fx P f V U [] ro (λv c=>v= .bool true/\c=L)):
 Calls P f V.toArray U (λe w'=>e= .returned (.bool true)/\Below U.heap.size U w'):=by
 refine(h (λ_=>False) zi (λ_ _ h=>h)).mono ?_;rintro e w' ⟨v,c,rfl,⟨rfl,_⟩,_,_,a,_⟩;exact⟨rfl,a.os,a.tape,a.output,a.size,λx b=>a.block x b (λh=>h)⟩
section
variable {H:Type} {enc:TypeId×Value->H} {P:Program} {w:World} {base:Nat} {spare:Nat->Bool} {held:Bool}
theorem Gp {α:Type} (K:bO α) (G:α->Prop) {e:TypeId} {x:DataW H×List MemPlace} (j:P.underlying J=some (.slice e)) (k:P.cellsOf e=K.sz)
 (b: ∀n cs' y,DataW.trod enc P w base spare held n e cs'=some y-> ∃a:α,cs'=K.f a/\G a) (h:DataW.trod enc P w base spare held p J V=some x):
 ∃(A:Option Addr) (n c:Nat) (ys:List α),V=[.slice A n c]/\ys.length=n/\RS w K A ys/\ ∀i,i<n->G (ys.getD i K.d):=by
 rcases open_slice j h with ⟨l,_⟩|⟨a,len,cap,m,n,D,B,o,C,E,F,fuel,I,q⟩
 ·exact⟨none,0,0,[],l,rfl,.inl rfl,λ_ h=>absurd h (Nat.not_lt_zero _)⟩
 ·have r:len<=m:=zg
  obtain⟨ys,cs,L,M⟩:=RS.ofCells K G (U:=w) (a:=a) (p:=len) λi s=>by
   obtain⟨cs',u,g⟩:=q i zo;obtain⟨y,N,O⟩:=b _ _ _ g;obtain⟨_,v,z⟩:=World.cells?_some u
   grind [Go.Deep.add_add]
  grind
end
end Go.Sv
namespace Go.Sv
open Go
def bl (n m:Nat):Array Bool:=((List.range n).map λi=>m.testBit i).toArray
section
variable {P:Program} {N:NN} {E:Env} {S S0:World->Prop} {ops:Array Oper} {Q:Exit->Act->World->Prop} {rest:List Oper} {KK:Act->World->Prop} {T:Act->World->Prop}
variable {d:Nat} {ty:TypeId} {pos:String} {af:Array Edge} {g:Option (Nat×Bool)} {x:Operand} {v:Value} {op:Op}
end
end Go.Sv
namespace Go.Sv
section
variable {N:NN} {K:Act->World->Prop} {E:Env} {S:World->Prop}
end
end Go.Sv
namespace Go.Sv
open Go
section
variable {P:Program} {N:NN} {E:Env} {I0:aV} {w0:World} {L:List aB} {ops:Array Oper} {Q:Exit->Act->World->Prop} {KK:Act->World->Prop}
variable {e:TypeId} {A:Option Addr} {c:Nat} {l l2:Bs} {x y:Operand} {d:Nat} {ty:TypeId} {pos:String} {af:Array Edge} {g:Option (Nat×Bool)}
end
end Go.Sv
namespace Go.Sv
section
variable {P:Program} {ops:Array Oper} {Q:Exit->Act->World->Prop} {md:Region.Mode} {S:World->Prop} {c:Nat}
def iq (P:Program) (md:Region.Mode) (ops:Array Oper) (Q:Exit->Act->World->Prop) (S:World->Prop) (c:Nat):Nat->Array Bool->Act->World->Prop
 |0,listed,a,w=>Region.ready md ops listed=[]/\Q .normal a w
 |fuel+1,listed,a,w=>(Region.ready md ops listed=[]->Q .normal a w)/\
  ∀i∈Region.ready md ops listed,wpOp P ops Q i (λa' w'=>((listed.setIfInBounds i true).getD c false=true\/S w')/\iq P md ops Q S c fuel (listed.setIfInBounds i true) a' w') a w
theorem Gr: ∀(fuel:Nat) (listed:Array Bool) (a:Act) (w:World),iq P md ops Q S c fuel listed a w->wpAny P md ops Q fuel listed a w
 |0,_,_,_,h=>h
 |fuel+1,_,_,_,h=>⟨h.1,λi b=>wpOp_mono (λd w' h'=>Gr fuel _ d w' h'.2) (h.2 i b)⟩
def hP (ops:Array Oper) (md:Region.Mode) (listed:Array Bool):Prop:= ∀k o,ops[k]?=some o->listed.getD k false=true-> ∀e∈o.after,Region.binds md e=true->listed.getD e.on false=true
theorem hP.next (h:hP ops md G) (d:p∈Region.ready md ops G):hP ops md (G.setIfInBounds p true):=λk o f a e g i=>by
 obtain⟨b,n,l,c⟩:=mem_ready.1 d;by_cases m:p=k
 ·grind [getD_set_true]
 ·rw[getD_set_ne false m] at a;exact getD_set_true (h k o f a e g i)
inductive fQ (ops:Array Oper) (md:Region.Mode) (i:Nat):Nat->Prop
 |one {x:Nat} {o:Oper} {e:Edge}:ops[x]?=some o->e∈o.after->Region.binds md e=true->e.on=i->fQ ops md i x
 |more {x:Nat} {o:Oper} {e:Edge}:ops[x]?=some o->e∈o.after->Region.binds md e=true->fQ ops md i e.on->fQ ops md i x
theorem fQ.listed {listed:Array Bool} {i x:Nat} (h:fQ ops md i x) (d:hP ops md listed) (e:listed.getD x false=true):listed.getD i false=true:=by
 induction h with
 |one a b c f=>rw[<-f];exact d _ _ a e _ b c
 |more a b c _ g=>exact g (d _ _ a e _ b c)
theorem fQ.not_ready {x:Nat} (h:fQ ops md p x) (f:hP ops md G) (g:x∈Region.ready md ops G):G.getD p false=true:=by
 obtain⟨_,k,b,a⟩:=mem_ready.1 g;cases h with
 |one c d e l=>
  grind
 |more c d e j=>
  obtain rfl:=qY (c.symm.trans b);exact j.listed f (a _ d e)
theorem Re {oi:Oper} (hi:ops[p]?=some oi) (hne:c≠p) (hsel: ∀(j:Nat) (o:Oper) cs b,ops[j]?=some o->o.op≠ .select cs b)
 (hQ: ∀c a w,Q (.panic c) (a.put oi.dst O) w->Q (.panic c) a w):
 ∀(fuel:Nat) (listed:Array Bool) (a:Act) (w:World),
  (∀j oj,ops[j]?=some oj->j≠p->listed.getD j true=false->(∀e∈oj.after,Region.binds md e=true->e.on≠p)->oi.apart ops oj=true)->
  p∈Region.ready md ops listed->YieldsIf P ops (λ_=>True) oi O a->(listed.getD c false=true\/S w)->
  iq P md ops Q S c fuel (listed.setIfInBounds p true) (a.put oi.dst O) w->iq P md ops Q S c (fuel+1) listed a w:=by
 intro fuel
 induction fuel with
 |zero=>
  intro listed a w _ hr hy hS H;refine⟨λh=>zg,λj hj=>?_⟩;by_cases hji:j=p
  ·subst hji;exact hy.wpOp hi trivial ⟨by rw[getD_set_ne false (Ne.symm hne)];exact hS,H⟩
  ·have:=ready_mono hj hji;rw[H.1] at this
   grind
 |succ fuel ih=>
  intro listed a w hfree hr hy hS H;refine⟨λh=>zg,λj hj=>?_⟩;by_cases hji:j=p
  ·subst hji;exact hy.wpOp hi trivial ⟨by rw[getD_set_ne false (Ne.symm hne)];exact hS,H⟩
  ·have h1:=H.2 j (ready_mono hj hji);obtain⟨hjun,oj,hoj,hall⟩:=mem_ready.1 hj;have hnot: ∀e∈oj.after,Region.binds md e=true->e.on≠p:=λe he hb heq=>by
    grind [mem_ready]
   have h2:=wpOp_putIf hoj (hfree j oj hoj hji hjun hnot) (λcs b=>hsel p oi cs b hi) (λcs b=>hsel j oj cs b hoj) hQ hy h1;have hfree': ∀k ok,ops[k]?=some ok->k≠p->(listed.setIfInBounds j true).getD k true=false->
    (∀e∈ok.after,Region.binds md e=true->e.on≠p)->oi.apart ops ok=true:=λk ok hk hki hun hno=>by
    refine hfree k ok hk hki ?_ hno;by_cases hjk:j=k
    ·grind
    simp_all
   have hl2:((listed.setIfInBounds p true).setIfInBounds j true).getD c false=(listed.setIfInBounds j true).getD c false:=by
    rw[Array.setIfInBounds_comm _ _ (Ne.symm hji),getD_set_ne false (Ne.symm hne)]
   grind [wpOp_mono,ready_mono,Array.setIfInBounds_comm]
theorem BD {m:Oper} (y:ops[p]?=some m) (z:fQ ops md p c) (A:c≠p) (l: ∀(j:Nat) (o:Oper) cs b,ops[j]?=some o->o.op≠ .select cs b)
 (L: ∀c a w,Q (.panic c) (a.put m.dst O) w->Q (.panic c) a w):
 ∀(fuel:Nat) (listed:Array Bool) (a:Act) (w:World),
  (∀j n,ops[j]?=some n->j≠p->listed.getD j true=false->(∀e∈n.after,Region.binds md e=true->e.on≠p)->m.apart ops n=true)->
  p∈Region.ready md ops listed->hP ops md listed->listed.getD c false=false->YieldsIf P ops S m O a->S w->
  iq P md ops Q S c fuel (listed.setIfInBounds p true) (a.put m.dst O) w->iq P md ops Q S c (fuel+1) listed a w:=by
 intro fuel
 induction fuel with
 |zero=>
  intro listed a w _ I B C x r H;refine⟨λh=>zg,λj q=>?_⟩;by_cases d:j=p
  ·subst d;exact x.wpOp y r ⟨.inr r,H⟩
  ·have:=ready_mono q d;rw[H.1] at this
   grind
 |succ fuel M=>
  intro listed a w f I B C x r H;refine⟨λh=>zg,λj q=>?_⟩;by_cases d:j=p
  ·subst d;exact x.wpOp y r ⟨.inr r,H⟩
  ·have N:=H.2 j (ready_mono q d);obtain⟨s,n,i,J⟩:=mem_ready.1 q;have t: ∀e∈n.after,Region.binds md e=true->e.on≠p:=λe Z hb v=>by
    grind [mem_ready]
   have D:j≠c:=λe=>by
    subst e;have h4:=z.not_ready B q
    grind [mem_ready]
   have R:=wpOp_putIf i (f j n i d s t) (λcs b=>l p m cs b y) (λcs b=>l j n cs b i) L x N;have g: ∀k ok,ops[k]?=some ok->k≠p->(listed.setIfInBounds j true).getD k true=false->
    (∀e∈ok.after,Region.binds md e=true->e.on≠p)->m.apart ops ok=true:=λk ok T E U F=>by
    refine f k ok T E ?_ F;by_cases V:j=k
    ·grind
    simp_all
   have W:((listed.setIfInBounds p true).setIfInBounds j true).getD c false=false:=by
    rw[getD_set_ne false D,getD_set_ne false (Ne.symm A)];grind
   have G:(listed.setIfInBounds j true).getD c false=false:=by simp_all
   refine wpOp_mono (λX K Y=>?_) R;have u:S K:=by
    grind
   refine⟨.inr u,M (listed.setIfInBounds j true) X K g (ready_mono I (Ne.symm d)) (B.next q) G Y.1 u ?_⟩
   grind [Array.setIfInBounds_comm]
def oe (ops:Array Oper) (md:Region.Mode) (i:Nat):Nat->Nat->Bool
 |0,_=>false
 |n+1,x=>match ops[x]? with
  |some o=>o.after.any (λe=>Region.binds md e&&(e.on==i||oe ops md i n e.on))
  |none=>false
theorem yG {i:Nat}: ∀(n x:Nat),oe ops md i n x=true->fQ ops md i x
 |0,_,h=>by cases h
 |n+1,x,h=>by
  unfold oe at h;split at h
  ·rename_i o b;obtain⟨e,c,a⟩:=Array.any_eq_true'.1 h;rw[qg,Bool.or_eq_true] at a;rcases a.2 with d|d
   ·exact .one b c a.1 zg
   ·exact .more b c a.1 (yG n _ d)
  grind
def uG (ops:Array Oper) (md:Region.Mode) (listed:Array Bool):Bool:=(List.range ops.size).all λk=>!listed.getD k false||(match ops[k]? with
 |some o=>o.after.all (λe=>!Region.binds md e||listed.getD e.on false)
 |none=>true)
theorem Rf (h:uG ops md G=true):hP ops md G:=λk o a b e c d=>by
 grind [uG,Array.all_eq_true_iff_forall_mem]
end
section
variable {P:Program} {N:NN} {ops:Array Oper} {Q:Exit->Act->World->Prop} {E:Env} {S S0:World->Prop} {c:Nat}
def AC (P:Program) (N:NN) (ops:Array Oper) (Q:Exit->Act->World->Prop) (S0:World->Prop) (c:Nat) (fuel:Nat) (listed:Array Bool) (E:Env) (S:World->Prop):Prop:=KV N (iq P .any ops Q S0 c fuel listed) E S
theorem N1 {l:List Oper} (S0:World->Prop) (c:Nat) (b:P.follows .mixedOrders=true) (d: ∀w,S w->S w.drew) (n:Nat) (e:l.length=n) (h:AC P N l.toArray Q S0 c n (Array.replicate n false) E S):CV P N (.region p l.toArray true) Q E S:=
 λa w f g=>wp_region_any b (Gr _ _ _ _ (by subst e;have:=h a w.drew f (d w g);simpa using this))
theorem O5 (i:Nat) {op:Op} {pos:String} {af:Array Edge} {fuel:Nat} (b:Array Bool) (o:ops[i]?=some ⟨some p,op,J,pos,af,Z⟩)
 (hs:Region.noSelect ops=true) (f:Region.free .any ops G i=true) (A:(Region.ready .any ops G).contains i=true) (listed:oe ops .any i 8 c=true) (q:uG ops .any G=true) (r:(c !=i)=true) (j:G.getD c false=false)
 (s: ∀c a w,Q (.panic c) (a.put (some p) O) w->Q (.panic c) a w) (t:dJ N ops ⟨some p,op,J,pos,af,Z⟩ E) (h:Step P N E S0 ⟨some p,op,J,pos,af,Z⟩ O) (u:Nat.blt p N.n=true) (x: ∀w,S w->S0 w)
 (y:G.setIfInBounds i true=b) (k:AC P N ops Q S0 c fuel b (set E p O) S):AC P N ops Q S0 c (fuel+1) G E S:=λa w l e=>by
 subst y;exact BD o (yG _ _ listed) zg (Region.noSelect_spec hs) s fuel G a w (Region.free_spec o f) zg (Rf q) j (.inl ⟨t a l,λz m=>h a z l m⟩) (x w e) (k _ w (l.put O u) e)
theorem AC.takeT (i:Nat) {op:Op} {pos:String} {af:Array Edge} {fuel:Nat} (b:Array Bool) (m:ops[i]?=some ⟨some p,op,J,pos,af,Z⟩)
 (hs:Region.noSelect ops=true) (f:Region.free .any ops G i=true) (x:(Region.ready .any ops G).contains i=true) (o:(c !=i)=true)
 (listed: ∀c a w,Q (.panic c) (a.put (some p) O) w->Q (.panic c) a w) (q:dJ N ops ⟨some p,op,J,pos,af,Z⟩ E) (h:Step P N E (λ_=>True) ⟨some p,op,J,pos,af,Z⟩ O) (r:Nat.blt p N.n=true) (s: ∀w,S w->S0 w)
 (t:G.setIfInBounds i true=b) (k:AC P N ops Q S0 c fuel b (set E p O) S):AC P N ops Q S0 c (fuel+1) G E S:=λa w j e=>by
 subst t;exact Re m zg (Region.noSelect_spec hs) listed fuel G a w (Region.free_spec m f) zg (.inl ⟨q a j,λu l=>h a u j l⟩) (.inr (s w e)) (k _ w (j.put O r) e)
def lM (P:Program) (N:NN) (ops:Array Oper) (Q:Exit->Act->World->Prop) (S0:World->Prop) (c:Nat) (fuel:Nat) (listed:Array Bool) (E:Env) (S:World->Prop):List Nat->Prop
 |[]=>True
 |i::r=>(∃o,ops[i]?=some o/\OV P N ops Q o E S (λa' w'=>((listed.setIfInBounds i true).getD c false=true\/S0 w')/\iq P .any ops Q S0 c fuel (listed.setIfInBounds i true) a' w'))/\lM P N ops Q S0 c fuel listed E S r
theorem lM.mem {fuel:Nat} {listed:Array Bool}: ∀ {rs:List Nat},lM P N ops Q S0 c fuel listed E S rs-> ∀i∈rs,∃o,ops[i]?=some o/\OV P N ops Q o E S (λb w'=>((listed.setIfInBounds i true).getD c false=true\/S0 w')/\iq P .any ops Q S0 c fuel (listed.setIfInBounds i true) b w')
 |[],_,i,a=>by cases a
 |j::r,h,i,a=>by
  rcases qe.1 a with rfl|a
  ·exact h.1
  ·exact lM.mem h.2 i a
theorem N2 {fuel:Nat} (rs:List Nat) (e:Region.ready .any ops G=rs) (b:rs≠[]) (h:lM P N ops Q S0 c fuel G E S rs):AC P N ops Q S0 c (fuel+1) G E S:=λa w g j=>by
 refine⟨λk=>absurd (e▸k) b,λi f=>?_⟩;rw[e] at f;obtain⟨o,l,d⟩:=h.mem i f;have:=d a w g j
 grind [wpOp]
theorem O6 {i:Nat} (b:Array Bool) (e:G.setIfInBounds i true=b) (f:b.getD c false=true\/ ∀w,S w->S0 w) (k:AC P N ops Q S0 c p b E S):
 KV N (λg w'=>((G.setIfInBounds i true).getD c false=true\/S0 w')/\iq P .any ops Q S0 c p (G.setIfInBounds i true) g w') E S:=λa w j d=>by
 subst e;exact⟨f.imp id λh=>h w d,k a w j d⟩
theorem N3 (e:Region.ready .any ops G=[]) (h:KV N (Q .normal) E S):AC P N ops Q S0 c p G E S:=λa w b d=>by
 cases p with
 |zero=>exact⟨e,h a w b d⟩
 |succ n=>exact⟨λ_=>h a w b d,zg⟩
end
section
variable {P:Program} {N:NN} {ops:Array Oper} {Q:Exit->Act->World->Prop} {E:Env} {S S0:World->Prop} {c:Nat}
theorem AC.cutAt {α:Type} (lt:Array Bool) (a:Nat) (listed:α->Env) (T:α->World->Prop) (b: ∀z,AC P N ops Q S0 c a lt (listed z) (T z)) (d:(∀z,AC P N ops Q S0 c a lt (listed z) (T z))->AC P N ops Q S0 c p G E S):AC P N ops Q S0 c p G E S:=d b
end
section
variable {P:Program} {N:NN} {ops:Array Oper} {Q:Exit->Act->World->Prop} {E E0:Env} {S S0 S1:World->Prop} {c:Nat}
theorem AC.to (h:AC P N ops Q S0 c p G E0 S1) (hE:Sub E0 E) (a: ∀w,S w->S1 w):AC P N ops Q S0 c p G E S:=KV.env _ hE (B1 a h)
variable {d:Nat} {v:Value} {op:Op} {ty:TypeId} {pos:String} {af:Array Edge} {g:Option (Nat×Bool)}
end
section
variable {P:Program} {N:NN} {ops:Array Oper} {Q:Exit->Act->World->Prop} {E E0:Env} {S S0 S1:World->Prop}
theorem AV.to (h:AV P N ops Q S0 p G E0 S1) (hE:Sub E0 E) (a: ∀w,S w->S1 w):AV P N ops Q S0 p G E S:=KV.env _ hE (B1 a h)
structure G5 where
 a:Option Addr
 b:Option Addr
 c:Option Addr
 d:Option Addr
 e:Option Addr
 n:Nat
end
end Go.Sv
namespace Go.Sv
open Go
def Gu:Option TypeDesc->Bool
 |some D=>!cW D
 |none=>false
def vd:Option TypeDesc->Bool
 |some D=>cW D
 |none=>false
class UN (P:Program) (t:TypeId):Prop where
 b:Gu (P.underlying t)=true:=by kernel_rfl
theorem UN.h {P:Program} {t:TypeId} (c:UN P t): ∃D,P.underlying t=some D/\cW D=false:=by
 have h:=c.b;cases e:P.underlying t with
 |none=>rw[e] at h;cases h
 |some D=>grind [Gu]
class UA (P:Program) (t:TypeId):Prop where
 b:vd (P.underlying t)=true:=by kernel_rfl
theorem UA.h {P:Program} {t:TypeId} (c:UA P t): ∃D,P.underlying t=some D/\cW D=true:=by
 have h:=c.b;cases e:P.underlying t with
 |none=>rw[e] at h;cases h
 |some D=>grind [vd]
class US (P:Program) (t:TypeId) (e:outParam TypeId):Prop where
 h:P.underlying t=some (.slice e):=by kernel_rfl
class ve (P:Program) (t:TypeId):Prop where
 h:P.underlying t=some .string:=by kernel_rfl
class iL (P:Program) (t:TypeId) (z:outParam Value) (sz by_:outParam Nat):Prop where
 h:TI P t z sz by_:=by unfold Go.Sv.TI;kernel_rfl
class ml (P:Program) (t j:Nat) (off:outParam Nat):Prop where
 h: ∀(b o:Nat) (w:World),(Instr.fieldAt t (.pointer (some ⟨b,o,none⟩)) j).run P w= .ok (.pointer (some ⟨b,o+off,none⟩)) w:=by intro b o w;kernel_rfl
class ei (P:Program) (f:FuncId) (fn:outParam Func) (nt:outParam Nat):Prop where
 f:P.funcs[f]?=some fn:=by kernel_rfl
 b:fn.body.isSome=true:=by kernel_rfl
 n:(fn.name== "runtime.NumGoroutine")=false:=by kernel_rfl
 t:fn.ntmps=nt:=by kernel_rfl
end Go.Sv
namespace Go.Tk
open Go Go.Sv
def Yq (N:NN) (ops:Array Oper) (g:Option (Nat×Bool)) (E:Env):Prop:= ∀(d:Option Nat) (op:Op) (ty:TypeId) (pos:String) (af:Array Edge),dJ N ops ⟨d,op,ty,pos,af,g⟩ E
def Yn (N:NN) (ops:Array Oper) (d:Nat) (g:Option (Nat×Bool)) (E:Env):Prop:=Nat.blt d N.n=true/\Yq N ops g E
theorem Yq.y {N:NN} {ops:Array Oper} {E:Env} {d:Option Nat} {op:Op} {pos:String} {af:Array Edge} (h:Yq N ops Z E):dJ N ops ⟨d,op,J,pos,af,Z⟩ E:=h _ _ _ _ _
theorem Yn.y {N:NN} {ops:Array Oper} {E:Env} {dd:Option Nat} {op:Op} {pos:String} {af:Array Edge} (h:Yn N ops p Z E):dJ N ops ⟨dd,op,J,pos,af,Z⟩ E:=h.2 _ _ _ _ _
theorem yq {N:NN} {ops:Array Oper} {E:Env} (h:Yq N ops Z E:=by first|exact λ_ _ _ _ _=>ae|exact λ_ _ _ _ _=>bv z6):Yq N ops Z E:=h
theorem yn {N:NN} {ops:Array Oper} {E:Env} (h:Nat.blt p N.n=true:=by exact z6) (k:Yq N ops Z E:=by exact yq):Yn N ops p Z E:=⟨h,k⟩
section
variable {P:Program} {N:NN} {E:Env} {S S0:World->Prop} {ops:Array Oper} {Q:Exit->Act->World->Prop} {rest:List Oper} {KK:Act->World->Prop} {T:Act->World->Prop}
variable {d:Nat} {ty:TypeId} {pos:String} {af:Array Edge} {g:Option (Nat×Bool)} {x y z:Operand} {v u:Value} {op:Op} {t:TypeId} {D:TypeDesc}
variable {I0:aV} {w0:World} {L:List aB} {α:Type} {K:bO α} {A B:Option Addr} {ys zs:List α} {e:TypeId} {c:Nat}
variable {dd:Option Nat}
theorem Tm (a:ev E x=some v):Step P N E S ⟨dd,.move x,ty,pos,af,g⟩ v:=P5 a
theorem Ta (a:ev E x=some v):Step P N E S ⟨dd,.assign x,ty,pos,af,g⟩ v:=D3 a
theorem Tq {p:Addr} (a:ev E x=some (.pointer (some p))):Step P N E S ⟨dd,.nilCheck x,ty,pos,af,g⟩ (.pointer (some p)):=P8 a
theorem Tf {off b o:Nat} [c:ml P t p off] (a:ev E x=some (.pointer (some ⟨b,o,none⟩))):Step P N E S ⟨dd,.fieldAddr t x p,ty,pos,af,g⟩ (.pointer (some ⟨b,o+off,none⟩)):=P9 a (c.h b o)
theorem Tl (k:Nat) {o:Nat} {d:Nat×Nat} [c:UN P t] (e:ev E x=some (.pointer (some ⟨p,o,none⟩))) (f:L[k]?=some (aU p (.cells Y J d))) (i:Y.toList[o]?=some v):
 Step P N E (Hp I0 w0 L) ⟨dd,.load t x,ty,pos,af,g⟩ v:=let ⟨_,h1,h2⟩:=c.h;N6 h1 h2 e λw h=>h.cell k f i
theorem Tc {p:Addr} [c:UN P t] (a:ev E x=some (.pointer (some p))) (b: ∀w,S w->w.cell? p=some v):Step P N E S ⟨dd,.load t x,ty,pos,af,g⟩ v:=let ⟨_,h1,h2⟩:=c.h;N6 h1 h2 a b
theorem Tw {o:Nat} {d by_:Nat} [c:UA P t] [i:iL P t O d by_] (e:ev E x=some (.pointer (some ⟨p,o,none⟩))) (f: ∀w,S w-> ∀j v,V[j]?=some v->w.cell? ⟨p,o+j,none⟩=some v)
 (a:V.length=d:=by exact z6):Step P N E S ⟨dd,.load t x,ty,pos,af,g⟩ (.agg V.toArray):=let ⟨_,h1,h2⟩:=c.h;J9 V h1 h2 i.h a e f
theorem Ti {by_ n:Nat} {k:IntKind} {i:Int} [d:US P t J] [f:iL P J O p by_] (hs: ∀w,S w->RS w K A ys)
 (j:ev E x=some (.slice A n c)) (l:ev E y=some (.int k i)) (o:n=ys.length) (m:Nat) (b:i=(m:Int)) (a:m<ys.length) (q:p=K.sz:=by exact z6):
 Step P N E S ⟨dd,.indexAddr t x y,ty,pos,af,g⟩ (.pointer (some ⟨bk A,of A+m* K.sz,none⟩)):=Step.idx d.h (q▸f.h) hs j l o m b a
theorem Tn {b:Bool} (a:ev E x=some (.bool b)):Step P N E S ⟨dd,.unOp .not t x,ty,pos,af,g⟩ (.bool (!b)):=Q8 a
theorem Tx (a:ev E x=some (.tuple V.toArray)) (b:V[p]?=some v):Step P N E S ⟨dd,.extract x p,ty,pos,af,g⟩ v:=Q4 a b
theorem Tg [a:US P t J] (b:ev E x=some (.slice A p c)):Step P N E S ⟨dd,.call ⟨.builtin .len,#[x],#[t]⟩,ty,pos,af,g⟩ (.int .i64 p):=N8 a.h b
theorem Tk [a:ve P t] {l:Bs} (b:ev E x=some (.string (bs l))):Step P N E S ⟨dd,.call ⟨.builtin .len,#[x],#[t]⟩,ty,pos,af,g⟩ (.int .i64 l.length):=U6 a.h b
theorem Tt (a:ev E x=some (.bool true)) (b:ev E y=some v):Step P N E S ⟨dd,.pick x y z,ty,pos,af,g⟩ v:=P6 a b
theorem Tu (a:ev E x=some (.bool false)) (b:ev E z=some v):Step P N E S ⟨dd,.pick x y z,ty,pos,af,g⟩ v:=P7 a b
section
variable {k:IntKind} {m n r:Int} {t2:TypeId}
theorem BE (a:ev E x=some (.int k m)) (b:ev E y=some (.int k n)) (c:k.wrap (m+n)=r:=by first|exact dP zo zo|exact az zo zo|exact z6):Step P N E S ⟨dd,.binOp .add t x y t2,ty,pos,af,g⟩ (.int k r):=D6 a b c
theorem BF (a:ev E x=some (.int k m)) (b:ev E y=some (.int k n)) (c:k.wrap (m-n)=r:=by first|exact dP zo zo|exact az zo zo|exact z6):Step P N E S ⟨dd,.binOp .sub t x y t2,ty,pos,af,g⟩ (.int k r):=F7 a b c
theorem BG (a:ev E x=some (.int k m)) (b:ev E y=some (.int k n)) (c:k.wrap (m* n)=r:=by first|exact dP zo zo|exact az zo zo|exact z6):Step P N E S ⟨dd,.binOp .mul t x y t2,ty,pos,af,g⟩ (.int k r):=Q7 a b c
end
theorem Jr (h:Step P N E S ⟨some d,op,ty,pos,af,g⟩ v) (k:RV P N ops Q rest (set E d v) S) (a:Yn N ops d g E:=by exact yn):
 RV P N ops Q (⟨some d,op,ty,pos,af,g⟩::rest) E S:=A4 (C2 a.y h a.1 k)
theorem Jl (k:Nat) {o:Nat} {e:Nat×Nat} [c:UN P t] (f:ev E x=some (.pointer (some ⟨p,o,none⟩))) (h:L[k]?=some (aU p (.cells Y J e))) (i:Y.toList[o]?=some v)
 (j:RV P N ops Q rest (set E d v) (Hp I0 w0 L)) (l:Yn N ops d g E:=by exact yn):
 RV P N ops Q (⟨some d,.load t x,ty,pos,af,g⟩::rest) E (Hp I0 w0 L):=Jr (Tl k f h i) j l
theorem Jk {b:Bool} (k:RV P N ops Q rest (set E d undef) S) (a:mK ops E p=some (!b):=by exact z6) (c:Nat.blt d N.n=true:=by exact z6):RV P N ops Q (⟨some d,op,ty,pos,af,some (p,b)⟩::rest) E S:=A4 (L6 a c k)
section
variable {k:IntKind} {m n:Int} {t2:TypeId}
theorem aJ (b:ev E x=some (.int k m)) (c:ev E y=some (.int k n)) (k1:m<n->RV P N ops Q rest (set E d (.bool true)) S) (k2: ¬m<n->RV P N ops Q rest (set E d (.bool false)) S)
 (a:Yn N ops d g E:=by exact yn):RV P N ops Q (⟨some d,.binOp .lss t x y t2,ty,pos,af,g⟩::rest) E S:=A4 (B9 a.y (I7 b c) a.1 k1 k2)
theorem gQ (b:ev E x=some (.int k m)) (c:ev E y=some (.int k n)) (k1:m<=n->RV P N ops Q rest (set E d (.bool true)) S) (k2: ¬m<=n->RV P N ops Q rest (set E d (.bool false)) S)
 (a:Yn N ops d g E:=by exact yn):RV P N ops Q (⟨some d,.binOp .leq t x y t2,ty,pos,af,g⟩::rest) E S:=A4 (B9 a.y (L0 b c) a.1 k1 k2)
theorem bB (b:ev E x=some (.int k m)) (c:ev E y=some (.int k n)) (k1:n<m->RV P N ops Q rest (set E d (.bool true)) S) (k2: ¬n<m->RV P N ops Q rest (set E d (.bool false)) S)
 (a:Yn N ops d g E:=by exact yn):RV P N ops Q (⟨some d,.binOp .gtr t x y t2,ty,pos,af,g⟩::rest) E S:=A4 (B9 a.y (I8 b c) a.1 k1 k2)
theorem aw (b:ev E x=some (.int k m)) (c:ev E y=some (.int k n)) (k1:n<=m->RV P N ops Q rest (set E d (.bool true)) S) (k2: ¬n<=m->RV P N ops Q rest (set E d (.bool false)) S)
 (a:Yn N ops d g E:=by exact yn):RV P N ops Q (⟨some d,.binOp .geq t x y t2,ty,pos,af,g⟩::rest) E S:=A4 (B9 a.y (N7 b c) a.1 k1 k2)
theorem am (b:ev E x=some (.int k m)) (c:ev E y=some (.int k n)) (k1:m=n->RV P N ops Q rest (set E d (.bool true)) S) (k2: ¬m=n->RV P N ops Q rest (set E d (.bool false)) S)
 (a:Yn N ops d g E:=by exact yn):RV P N ops Q (⟨some d,.binOp .eql t x y t2,ty,pos,af,g⟩::rest) E S:=A4 (B9 a.y (G9 b c) a.1 k1 k2)
theorem cI (b:ev E x=some (.int k m)) (c:ev E y=some (.int k n)) (k1: ¬m=n->RV P N ops Q rest (set E d (.bool true)) S) (k2: ¬ ¬m=n->RV P N ops Q rest (set E d (.bool false)) S)
 (a:Yn N ops d g E:=by exact yn):RV P N ops Q (⟨some d,.binOp .neq t x y t2,ty,pos,af,g⟩::rest) E S:=A4 (B9 a.y (K0 b c) a.1 k1 k2)
end
theorem Kq {y:Code} (h:CV P N X (Exit.then (y.wp P Q) Q) E S):CV P N (.seq X y) Q E S:=N5 h
theorem Kr {l:List Oper} (h:RV P N l.toArray Q l E S):CV P N (.region p l.toArray false) Q E S:=P1 h
theorem Kz (h:KV N (Q .normal) E S):RV P N ops Q [] E S:=RV.nil h
theorem Kn {next:Act->World->Prop} (h:KV N next E S):KV N (Exit.then next Q .normal) E S:=h
theorem Kx {next:Act->World->Prop} (h:KV N (Q (.exit p)) E S):KV N (Exit.then next Q (.exit p)) E S:=h
theorem Ky {next:Act->World->Prop} (h:KV N (Q .ret) E S):KV N (Exit.then next Q .ret) E S:=h
theorem Kb (h:CV P N X (Exit.inBlock p Q) E S):CV P N (.block p X) Q E S:=L5 h
theorem Kc (h:KV N (Q .normal) E S):KV N (Exit.inBlock p Q .normal) E S:=h
theorem Kd (h:KV N (Q .ret) E S):KV N (Exit.inBlock p Q .ret) E S:=h
theorem Kh (h:KV N (Q .normal) E S):KV N (Exit.inBlock p Q (.exit p)) E S:=P2 h
theorem Km {a:Nat} (h:KV N (Q (.exit a)) E S) (b:Nat.beq a p=false:=by exact z6):KV N (Exit.inBlock p Q (.exit a)) E S:=P3 b h
theorem Ks (h:KV N (Q .normal) E S):CV P N .skip Q E S:=O7 h
theorem Ke (h:KV N (Q (.exit p)) E S):CV P N (.exit p) Q E S:=O8 h
theorem Kv (h:KV N (Q .ret) E S):CV P N .ret Q E S:=CV.ret h
theorem Kt {c:Operand} {y:Code} (h:CV P N X Q E S) (a:ev E c=some (.bool true):=by exact z6):CV P N (.cond c X y) Q E S:=O9 a h
theorem Kf {c:Operand} {y:Code} (h:CV P N y Q E S) (a:ev E c=some (.bool false):=by exact z6):CV P N (.cond c X y) Q E S:=P0 a h
theorem Ya {by_:Nat} [i:iL P t O p by_] (k: ∀nb,KV N KK (set E d (.pointer (some ⟨nb,0,none⟩))) (Hp I0 w0 (L++[aU nb (.cells O.cells t (0,0))]))) (a:Yn N ops d g E:=by exact yn):OV P N ops Q ⟨some d,.alloc t,ty,pos,af,g⟩ E (Hp I0 w0 L) KK:=N9 _ i.h z6 a.y a.1 k
theorem Yb (cs:Array Value) (c:ev E x=some v) (a:v.cells=cs) (k: ∀nb,KV N KK (set E d (.pointer (some ⟨nb,0,none⟩))) (Hp I0 w0 (L++[aU nb (.cells cs t (0,0))]))) (b:Yn N ops d g E:=by exact yn):OV P N ops Q ⟨some d,.box t x,ty,pos,af,g⟩ E (Hp I0 w0 L) KK:=H3 cs c a b.y b.1 k
theorem Yw (k:Nat) {by_ b o:Nat} (vs:List Value) (cs:Array Value) [i:iL P t O p by_] (f:ev E x=some (.pointer (some ⟨b,o,none⟩))) (j:ev E y=some v) (l:L[k]?=some (aU b (.cells Y J (0,0)))) (m:v.cells=vs.toArray)
 (c:(Y.toList.take o++vs++Y.toList.drop (o+vs.length)).toArray=cs) (n:KV N KK E (Hp I0 w0 (L.set k (aU b (.cells cs J (0,0)))))) (a:vs.length=p:=by exact z6) (q:o+vs.length<=Y.size:=by exact qV z6) (r: ∀v∈vs,v.oneCell'=true:=by simp[Value.oneCell'])
 (s:Yq N ops g E:=by exact yq):OV P N ops Q ⟨none,.store t x y,ty,pos,af,g⟩ E (Hp I0 w0 L) KK:=D5 k vs cs i.h f j l m a q r c s.y n
theorem Yc (ks:List Nat) {F Own:List aB} {f:FuncId} {fn:Func} {args:List Operand} {ts:Array TypeId} {ro:aV} {post:Value->List aB->Prop} [c:ei P f fn p] (i:fp E args=some V) (j:cQ ks L=some (Own,F)) (a: ∀w,Hp I0 w0 L w->Fx P f V w Own ro post)
 (k: ∀v e,post v e->KV N KK (set E d v) (Hp I0 w0 (F++e))) (hro: ∀b,ro b->cn I0 w0 F b:=by exact λ_ l=>l.elim) (h:Yn N ops d g E:=by exact yn):OV P N ops Q ⟨some d,.call ⟨.value (.func f),args.toArray,ts⟩,ty,pos,af,g⟩ E (Hp I0 w0 L) KK:=R0 ks c.f c.b c.n i j a hro h.y h.1 k
theorem Yp {f:FuncId} {fn:Func} {args:List Operand} {ts:Array TypeId} [c:ei P f fn p] (h:fp E args=some V) (a:fg P f V v) (k:KV N KK (set E d v) S) (e:Yn N ops d g E:=by exact yn):OV P N ops Q ⟨some d,.call ⟨.value (.func f),args.toArray,ts⟩,ty,pos,af,g⟩ E S KK:=OV.callP c.f c.b c.n h a e.y e.1 k
theorem Ym {by_:Nat} {q r:IntKind} {i j:Int} [s:US P t J] [u:iL P J O p by_] (n c:Nat) (a:α) (v:ev E x=some (.int q i)) (w:ev E y=some (.int r j)) (b:i=(n:Int)) (l:j=(c:Int))
 (k: ∀A,KV N KK (set E d (.slice A n c)) (Hp I0 w0 (L++[OS J K A c (List.replicate n a)]))) (z:O.cells.toList=K.f a:=by exact z6) (hs:p=K.sz:=by exact z6) (m:n<=c:=by omega) (B:by_* c<=281474976710656:=by omega) (C:c<=9223372036854775807:=by omega)
 (o:Yn N ops d g E:=by exact yn):OV P N ops Q ⟨some d,.makeSlice t x y,ty,pos,af,g⟩ E (Hp I0 w0 L) KK:=OV.make n c a s.h (hs▸u.h) z v w b l m B C o.y o.1 k
theorem Ye (k:Nat) {by_ n m cB:Nat} [o:US P t J] [f:iL P J O p by_] (q:ev E x=some (.slice A n c)) (r:ev E y=some (.slice B m cB)) (s:n=ys.length) (a:m=zs.length) (u:L[k]?=some (OS J K A c ys)) (v: ∀w,Hp I0 w0 L w->RS w K B zs)
 (z:(ys.length+zs.length)* by_<=140737488355328) (C: ∀i j,KV N KK (set E d (.slice i (ys++zs).length j)) (Hp I0 w0 (L.set k (OS J K i j (ys++zs))))) (hs:p=K.sz:=by exact z6) (b:O.cells.size=K.sz:=by exact z6) (D:0<by_:=by decide)
 (l:Yn N ops d g E:=by exact yn):OV P N ops Q ⟨some d,.call ⟨.builtin .append,#[x,y],#[t,t]⟩,ty,pos,af,g⟩ E (Hp I0 w0 L) KK:=
 H8 k o.h (hs▸f.h) b q r s a u v z (by have:=Nat.le_mul_of_pos_right (ys.length+zs.length) D;omega) l.y l.1 C
theorem Yx (k m:Nat) (a:α) {l o j:Nat} (vs:List Value) [n:iL P t O l p] (by_:ev E x=some (.pointer (some ⟨bk A,o,none⟩))) (q:ev E y=some v) (r:L[k]?=some (OS e K A c ys)) (s:o=of A+m* K.sz+j) (u:v.cells=vs.toArray)
 (b:m<ys.length) (i:K.f a=(K.f (ys.getD m K.d)).take j++vs++(K.f (ys.getD m K.d)).drop (j+vs.length)) (w:KV N KK E (Hp I0 w0 (L.set k (OS e K A c (ys.set m a))))) (z:vs.length=l:=by exact z6) (B:j+vs.length<=K.sz:=by exact qV z6)
 (C:Yq N ops g E:=by exact yq):OV P N ops Q ⟨none,.store t x y,ty,pos,af,g⟩ E (Hp I0 w0 L) KK:=L1 k m a vs n.h by_ q r s u z b i B C.y w
theorem Sr (h:Step P N E S ⟨some d,op,ty,pos,af,g⟩ v) (k:SV P N ops T rest (set E d v) S) (a:Yn N ops d g E:=by exact yn):SV P N ops T (⟨some d,op,ty,pos,af,g⟩::rest) E S:=R1 a.y h a.1 k
theorem Sk {b:Bool} (k:SV P N ops T rest (set E d undef) S) (a:mK ops E p=some (!b):=by exact z6) (c:Nat.blt d N.n=true:=by exact z6):SV P N ops T (⟨some d,op,ty,pos,af,some (p,b)⟩::rest) E S:=SV.skip a c k
theorem Vt (i:Nat) (f:ops[i]?=some ⟨some d,op,ty,pos,af,g⟩) (h:Step P N E S0 ⟨some d,op,ty,pos,af,g⟩ v) (j: ∀w,S w->S0 w) (k:AV P N ops Q S0 p (G.setIfInBounds i true) (set E d v) S)
 (e:Yn N ops d g E:=by exact yn) (hs:Region.noSelect ops=true:=by kernel_rfl) (b:Region.free .any ops G i=true:=by kernel_rfl) (l:(Region.ready .any ops G).contains i=true:=by kernel_rfl)
 (m: ∀c a w,Q (.panic c) (a.put (some d) v) w->Q (.panic c) a w:=by with_unfolding_all exact λ_ _ _ h=>h):AV P N ops Q S0 (p+1) G E S:=L8 i _ f hs b l m e.y h e.1 j z6 k
theorem Vd (h:KV N (Q .normal) E S) (a:Region.ready .any ops G=[]:=by kernel_rfl):AV P N ops Q S0 p G E S:=AV.done a h
theorem Vo {lt:Array Bool} {E0:Env} {S1:World->Prop} (h:AV P N ops Q S0 p lt E0 S1) (hE:Sub E0 E) (a: ∀w,S w->S1 w) (b:G=lt:=by kernel_rfl):AV P N ops Q S0 p G E S:=by grind [AV.to]
theorem Ct (i:Nat) {fuel:Nat} (l:ops[i]?=some ⟨some d,op,ty,pos,af,g⟩) (h:Step P N E S0 ⟨some d,op,ty,pos,af,g⟩ v) (m: ∀w,S w->S0 w) (k:AC P N ops Q S0 p fuel (G.setIfInBounds i true) (set E d v) S)
 (j:Yn N ops d g E:=by exact yn) (hs:Region.noSelect ops=true:=by kernel_rfl) (b:Region.free .any ops G i=true:=by kernel_rfl) (n:(Region.ready .any ops G).contains i=true:=by kernel_rfl)
 (o:oe ops .any i 8 p=true:=by kernel_rfl) (listed:uG ops .any G=true:=by kernel_rfl) (e:(p !=i)=true:=by kernel_rfl) (f:G.getD p false=false:=by kernel_rfl)
 (q: ∀p a w,Q (.panic p) (a.put (some d) v) w->Q (.panic p) a w:=by with_unfolding_all exact λ_ _ _ h=>h):AC P N ops Q S0 p (fuel+1) G E S:=O5 i _ l hs b n o listed e f q j.y h j.1 m z6 k
theorem Cm {fuel:Nat} {i:Nat} (k:AC P N ops Q S0 p fuel (G.setIfInBounds i true) E S) (a:(G.setIfInBounds i true).getD p false=true:=by kernel_rfl):KV N (λb w'=>((G.setIfInBounds i true).getD p false=true\/S0 w')/\iq P .any ops Q S0 p fuel (G.setIfInBounds i true) b w') E S:=O6 _ z6 (.inl a) k
theorem Cd {fuel:Nat} (h:KV N (Q .normal) E S) (a:Region.ready .any ops G=[]:=by kernel_rfl):AC P N ops Q S0 p fuel G E S:=N3 a h
theorem Co {fuel:Nat} {lt:Array Bool} {E0:Env} {S1:World->Prop} (h:AC P N ops Q S0 p fuel lt E0 S1) (hE:Sub E0 E) (a: ∀w,S w->S1 w) (b:G=lt:=by kernel_rfl):AC P N ops Q S0 p fuel G E S:=by grind [AC.to]
end
theorem Fb {P:Program} {f:FuncId} {fn:Func} {Own:List aB} {ro:aV} {post:Value->List aB->Prop} [c:ei P f fn p]
 (h: ∀I:aV,(∀b,ro b-> ¬I b)->Sep Own I U->CV P ⟨p,[]⟩ X (bodyPost P fn (λe w'=> ∃v a,e= .returned v/\post v a/\Hp I U a w')) (params 0 V) (Hp I U Own)) (d:fn.body=some X:=by exact z6) (g:Nat.ble V.length p=true:=by exact z6):Fx P f V U Own ro post:=Fx.body c.f d c.t g h
theorem Fp {P:Program} {f:FuncId} {fn:Func} [c:ei P f fn p]
 (h: ∀w,CV P ⟨p,[]⟩ X (bodyPost P fn (λe w'=>e= .returned O/\w'=w)) (params 0 V) (λw'=>w'=w)) (a:fn.body=some X:=by exact z6) (b:Nat.ble V.length p=true:=by exact z6):fg P f V O:=fg.body c.f a c.t b h
section
variable {P:Program} {N:Nat} {fn:Func} {w:World} {I:aV} {L:List aB} {E:Env} {v v1 v2:Value} {t t1 t2:Tmp} {post:Value->List aB->Prop}
theorem Ra (b:post (.tuple #[]) L) (c:fn.results= #[]:=by exact z6):KV ⟨N,[]⟩ (bodyPost P fn (λe w'=> ∃v a,e= .returned v/\post v a/\Hp I w a w') .ret) E (Hp I w L):=H9 c _ zi b
theorem Rb (b:fn.results= #[.tmp t]) (c:get E t=some v) (d:post v L):KV ⟨N,[]⟩ (bodyPost P fn (λe w'=> ∃v a,e= .returned v/\post v a/\Hp I w a w') .ret) E (Hp I w L):=A7 b c _ zi d
theorem Rc (b:fn.results= #[.tmp t1,.tmp t2]) (c:get E t1=some v1) (d:get E t2=some v2) (f:post (.tuple #[v1,v2]) L):KV ⟨N,[]⟩ (bodyPost P fn (λe w'=> ∃v a,e= .returned v/\post v a/\Hp I w a w') .ret) E (Hp I w L):=D2 b c d _ zi f
end
end Go.Tk
namespace Go.Sv
open Go
def uH (L M:List aB):Prop:= ∃ks R,cQ ks L=some (M,R)
theorem uH.to {L M:List aB} {I0:aV} (h:uH L M): ∀w,Hp I0 U L w->Hp I0 U M w:=λw a=>by
 obtain⟨ks,R,b⟩:=h;exact a.sel ks b
theorem Rg {L:List aB}:uH L []:=⟨[],L,rfl⟩
theorem sl (k:Nat) {A:aB} {L M:List aB} (a:L[k]?=some A) (h:uH (L.eraseIdx k) M):uH L (A::M):=by
 obtain⟨ks,R,b⟩:=h;exact⟨k::ks,R,by simp[cQ,a,b]⟩
def bG (E:Env):List Nat->Option (List Value)
 |[]=>some []
 |t::r=>match get E t,bG E r with
  |some v,some vs=>some (v::vs)
  |_,_=>none
theorem sb {E:Env}: ∀ {G:Env},bG E (G.map Prod.fst)=some (G.map Prod.snd)->Sub G E
 |[],_=>trivial
 |(t,v)::r,h=>by
  simp only[List.map_cons,bG] at h;split at h
  ·rename_i a b c d;simp only[qZ,List.cons.injEq] at h;exact⟨by rw[c,h.1],sb (by rw[d,h.2])⟩
  ·cases h
class HB (L:List aB) (b:Nat) (o:outParam Obj):Prop where
 h: ∃k:Nat,L[k]?=some (aU b o)
instance(priority:=100) HB.s {A:aB} {L:List aB} {b:Nat} {o:Obj} [c:HB L b o]:HB (A::L) b o:=⟨let ⟨k,h⟩:=c.h;⟨k+1,h⟩⟩
class HO {α:outParam Type} (L:List aB) (A:Option Addr) (e:outParam TypeId) (K:outParam (bO α)) (c:outParam Nat) (ys:outParam (List α)):Prop where
 h: ∃k:Nat,L[k]?=some (OS e K A c ys)
instance(priority:=100) HO.s {α:Type} {B:aB} {L:List aB} {A:Option Addr} {e:TypeId} {K:bO α} {c:Nat} {ys:List α} [i:HO L A e K c ys]:HO (B::L) A e K c ys:=⟨let ⟨k,h⟩:=i.h;⟨k+1,h⟩⟩
end Go.Sv
namespace Go.Tk
open Go Go.Sv
section
variable {P:Program} {N:NN} {E:Env} {S S0:World->Prop} {ops:Array Oper} {Q:Exit->Act->World->Prop} {rest:List Oper} {KK:Act->World->Prop} {T:Act->World->Prop}
variable {d:Nat} {ty:TypeId} {pos:String} {af:Array Edge} {g:Option (Nat×Bool)} {x y z:Operand} {v u:Value} {op:Op} {t:TypeId} {D:TypeDesc}
variable {I0:aV} {w0:World} {L R:List aB} {dd:Option Nat}
theorem Xl {o:Nat} {d:Nat×Nat} [c:UN P t] (e:ev E x=some (.pointer (some ⟨p,o,none⟩))) [i:HB L p (.cells Y J d)] (f:Y.toList[o]?=some v:=by exact z6):Step P N E (Hp I0 w0 L) ⟨dd,.load t x,ty,pos,af,g⟩ v:=let ⟨k,hk⟩:=i.h;Tl k e hk f
theorem Xk (k:Nat) {f:Nat×Nat} {d by_:Nat} [c:UA P t] [i:iL P t O d by_] (j:ev E x=some (.pointer (some ⟨p,0,none⟩))) (l:L[k]?=some (aU p (.cells Y J f))) (a:Y.toList.length=d:=by exact z6):Step P N E (Hp I0 w0 L) ⟨dd,.load t x,ty,pos,af,g⟩ (.agg Y.toList.toArray):=Tw j (λ_ h=>h.cells k l) a
theorem Xw {f:Nat×Nat} {d by_:Nat} [c:UA P t] [i:iL P t O d by_] (l:ev E x=some (.pointer (some ⟨p,0,none⟩))) [j:HB L p (.cells Y J f)] (a:Y.toList.length=d:=by exact z6):Step P N E (Hp I0 w0 L) ⟨dd,.load t x,ty,pos,af,g⟩ (.agg Y.toList.toArray):=let ⟨k,hk⟩:=j.h;Tw l (λ_ h=>h.cells k hk) a
section
variable {α:Type} {K:bO α} {A:Option Addr} {ys:List α} {c:Nat} {e:TypeId} {m n:Nat}
theorem Rh [i:HO L A e K c ys]: ∀w,Hp I0 w0 L w->RS w K A ys:=λ_ h=>let ⟨k,hk⟩:=i.h;h.os k hk
theorem Lo {p:Prop} (h:p:=by first|omega|(simp only[qI];omega)):p:=h
theorem Ln {p:Prop} (h:p:=by first|rfl|omega|(simp only[qI];omega)):p:=h
theorem Rd (h: ∀w,S w->RS w K A ys:=by first|exact Rh|exact λw h=>h.rs (by assumption) (λ_=>hI _)|exact λw h=>h.os 0 rfl|exact λw h=>h.os 1 rfl|exact λw h=>h.os 2 rfl|exact λw h=>h.os 3 rfl|exact λw h=>h.os 4 rfl|exact λw h=>h.os 5 rfl|exact λw h=>h.os 6 rfl|exact λw h=>h.os 7 rfl|exact λw h=>h.os 8 rfl|exact λw h=>h.os 9 rfl|exact λw h=>h.os 10 rfl|exact λw h=>h.os 11 rfl|exact λw h=>h.os 12 rfl|exact λw h=>h.os 13 rfl|exact λw h=>h.os 14 rfl|exact λw h=>h.os 15 rfl|exact λw h=>h.os 16 rfl|exact λw h=>h.os 17 rfl|exact λw h=>h.os 18 rfl|exact λw h=>h.os 19 z6): ∀w,S w->RS w K A ys:=h
theorem Xi {by_:Nat} {k:IntKind} {i:Int} [o:US P t e] [b:iL P e O p by_] (d:ev E x=some (.slice A n c)) (f:ev E y=some (.int k i)) (m:Nat) (h:i=(m:Int)) (hs: ∀w,S w->RS w K A ys:=by exact Rd) (j:n=ys.length:=by exact Ln) (a:m<ys.length:=by exact Lo) (l:p=K.sz:=by exact z6):
 Step P N E S ⟨dd,.indexAddr t x y,ty,pos,af,g⟩ (.pointer (some ⟨bk A,of A+m* K.sz,none⟩)):=Ti hs d f j m h a l
theorem Xj {by_:Nat} {k:IntKind} {i:Int} [m:US P t e] [o:iL P e O p by_] (d:ev E x=some (.slice A n c)) (f:ev E y=some (.int k i)) (h:i=((i.toNat:Nat):Int):=by omega) (hs: ∀w,S w->RS w K A ys:=by exact Rd) (j:n=ys.length:=by exact Ln) (a:i.toNat<ys.length:=by exact Lo) (l:p=K.sz:=by exact z6):Step P N E S ⟨dd,.indexAddr t x y,ty,pos,af,g⟩ (.pointer (some ⟨bk A,of A+i.toNat* K.sz,none⟩)):=Ti hs d f j i.toNat h a l
theorem Xs [c:UN P t] (a:ev E x=some (.pointer (some ⟨bk A,of A+m* K.sz,none⟩))) (hs: ∀w,S w->RS w K A ys:=by exact Rd) (b:(K.f (ys.getD m K.d))[0]?=some v:=by exact z6) (e:m<ys.length:=by exact Lo):Step P N E S ⟨dd,.load t x,ty,pos,af,g⟩ v:=Tc a λw h=>(hs w h).cell0 e b
theorem Xt [c:UN P t] (a:ev E x=some (.pointer (some ⟨bk A,of A+m* K.sz+p,none⟩))) (hs: ∀w,S w->RS w K A ys:=by exact Rd) (b:(K.f (ys.getD m K.d))[p]?=some v:=by exact z6) (e:m<ys.length:=by exact Lo):Step P N E S ⟨dd,.load t x,ty,pos,af,g⟩ v:=Tc a λw h=>(hs w h).cell e b
theorem Xu {by_:Nat} [c:UA P t] [i:iL P t O p by_] (e:ev E x=some (.pointer (some ⟨bk A,of A+m* K.sz,none⟩))) (hs: ∀w,S w->RS w K A ys:=by exact Rd) (j:m<ys.length:=by exact Lo) (a:(K.f (ys.getD m K.d)).length=p:=by exact z6):Step P N E S ⟨dd,.load t x,ty,pos,af,g⟩ (.agg (K.f (ys.getD m K.d)).toArray):=Tw e (λw h=>(hs w h).cells j) a
end
theorem At {o:Oper} (h:Step P N E S o v:=by first
 |exact Tm rfl
 |exact Tf rfl
 |exact Ta rfl
 |exact Tq rfl
 |exact Xl rfl
 |exact Tx z6 rfl
 |exact Tg rfl
 |exact Tt z6 rfl
 |exact Tu z6 rfl
 |exact Tn rfl
 |exact Xi z6 z6 _ rfl
 |exact Xs rfl
 |exact Xt rfl
 |exact Xw rfl
 |exact Xu rfl
 |exact Tk rfl
 |exact BE z6 rfl
 |exact BF z6 rfl
 |exact BG z6 rfl
 |exact I7 z6 rfl
 |exact L0 z6 rfl
 |exact I8 z6 rfl
 |exact N7 z6 rfl
 |exact G9 z6 rfl
 |exact K0 z6 rfl
 |exact Tl 0 z6 z6 rfl
 |exact Tl 1 z6 z6 rfl
 |exact Tl 2 z6 z6 rfl
 |exact Tl 3 z6 z6 rfl
 |exact Tl 4 z6 z6 rfl
 |exact Tl 5 z6 z6 rfl
 |exact Tl 6 z6 z6 rfl
 |exact Tl 7 z6 z6 rfl
 |exact Tl 8 z6 z6 rfl
 |exact Tl 9 z6 z6 rfl
 |exact Tl 10 z6 z6 rfl
 |exact Tl 11 z6 z6 rfl
 |exact Tl 12 z6 z6 rfl
 |exact Tl 13 z6 z6 rfl
 |exact Tl 14 z6 z6 rfl
 |exact Tl 15 z6 z6 rfl
 |exact Tl 16 z6 z6 rfl
 |exact Tl 17 z6 z6 rfl
 |exact Tl 18 z6 z6 rfl
 |exact Tl 19 z6 z6 rfl
 |exact Xk 0 z6 rfl
 |exact Xk 1 z6 rfl
 |exact Xk 2 z6 rfl
 |exact Xk 3 z6 rfl
 |exact Xk 4 z6 rfl
 |exact Xk 5 z6 rfl
 |exact Xk 6 z6 rfl
 |exact Xk 7 z6 rfl
 |exact Xk 8 z6 rfl
 |exact Xk 9 z6 rfl
 |exact Xk 10 z6 rfl
 |exact Xk 11 z6 rfl
 |exact Xk 12 z6 rfl
 |exact Xk 13 z6 rfl
 |exact Xk 14 z6 rfl
 |exact Xk 15 z6 rfl
 |exact Xk 16 z6 rfl
 |exact Xk 17 z6 rfl
 |exact Xk 18 z6 rfl
 |exact Xk 19 z6 rfl
 |exact Xi z6 z6 0 rfl
 |exact Xi z6 z6 1 rfl
 |exact Xi z6 z6 2 rfl
 |exact Xi z6 z6 3 rfl
 |exact Xj z6 z6):Step P N E S o v:=h
theorem Jg (k:RV P N ops Q rest (set E d v) S) (h:Step P N E S ⟨some d,op,ty,pos,af,g⟩ v:=by exact At) (a:Yn N ops d g E:=by exact yn):RV P N ops Q (⟨some d,op,ty,pos,af,g⟩::rest) E S:=Jr h k a
theorem Sg (k:SV P N ops T rest (set E d v) S) (h:Step P N E S ⟨some d,op,ty,pos,af,g⟩ v:=by exact At) (a:Yn N ops d g E:=by exact yn):SV P N ops T (⟨some d,op,ty,pos,af,g⟩::rest) E S:=Sr h k a
theorem Gs {A B:Prop} (s:B->A:=by first|exact Kq|exact Kr|exact Kn|exact Kz|exact Kb|exact Kc|exact Ks|exact Kx|exact Ky|exact Kd|exact Kh|exact λk=>Km k|exact Ke|exact Kv|exact λk=>Kt k|exact λk=>Kf k|exact λk=>Jk k|exact λk=>Sk k|exact λk=>Jg k|exact λk=>Sg k):B->A:=s
theorem Ho {S S0:World->Prop} (h: ∀w,S w->S0 w:=by first|exact λ_ h=>h|(refine uH.to ?_;repeat (first|exact Rg|refine sl 0 z6 ?_|refine sl 1 z6 ?_|refine sl 2 z6 ?_|refine sl 3 z6 ?_|refine sl 4 z6 ?_|refine sl 5 z6 ?_|refine sl 6 z6 ?_|refine sl 7 z6 ?_|refine sl 8 z6 ?_|refine sl 9 z6 ?_|refine sl 10 z6 ?_|refine sl 11 z6 ?_|refine sl 12 z6 ?_|refine sl 13 z6 ?_|refine sl 14 z6 ?_|refine sl 15 z6 ?_|refine sl 16 z6 ?_|refine sl 17 z6 ?_|refine sl 18 z6 ?_|refine sl 19 z6 ?_))): ∀w,S w->S0 w:=h
theorem W (i:Nat) (k:AV P N ops Q S0 p (G.setIfInBounds i true) (set E d v) S) (f:ops[i]?=some ⟨some d,op,ty,pos,af,g⟩:=by exact z6) (h:Step P N E S0 ⟨some d,op,ty,pos,af,g⟩ v:=by exact At) (j: ∀w,S w->S0 w:=by exact Ho) (e:Yn N ops d g E:=by exact yn) (hs:Region.noSelect ops=true:=by kernel_rfl) (b:Region.free .any ops G i=true:=by kernel_rfl) (l:(Region.ready .any ops G).contains i=true:=by kernel_rfl) (m: ∀c a w,Q (.panic c) (a.put (some d) v) w->Q (.panic c) a w:=by with_unfolding_all exact λ_ _ _ h=>h):AV P N ops Q S0 (p+1) G E S:=L8 i _ f hs b l m e.y h e.1 j z6 k
theorem Wt (i:Nat) (f:ops[i]?=some ⟨some d,op,ty,pos,af,g⟩) (h:Step P N E S0 ⟨some d,op,ty,pos,af,g⟩ v) (k:AV P N ops Q S0 p (G.setIfInBounds i true) (set E d v) S) (j: ∀w,S w->S0 w:=by exact Ho) (e:Yn N ops d g E:=by exact yn) (hs:Region.noSelect ops=true:=by kernel_rfl) (b:Region.free .any ops G i=true:=by kernel_rfl) (l:(Region.ready .any ops G).contains i=true:=by kernel_rfl) (m: ∀c a w,Q (.panic c) (a.put (some d) v) w->Q (.panic c) a w:=by with_unfolding_all exact λ_ _ _ h=>h):AV P N ops Q S0 (p+1) G E S:=L8 i _ f hs b l m e.y h e.1 j z6 k
theorem Wk (i:Nat) {j:Nat} {b:Bool} (k:AV P N ops Q S0 p (G.setIfInBounds i true) (set E d undef) S) (f:ops[i]?=some ⟨some d,op,ty,pos,af,some (j,b)⟩:=by exact z6) (g: ∀w,S w->S0 w:=by exact Ho) (l:mK ops E j=some (!b):=by exact z6) (m:Nat.blt d N.n=true:=by exact z6) (hs:Region.noSelect ops=true:=by kernel_rfl) (e:Region.free .any ops G i=true:=by kernel_rfl) (o:(Region.ready .any ops G).contains i=true:=by kernel_rfl) (listed: ∀c a w,Q (.panic c) (a.put (some d) undef) w->Q (.panic c) a w:=by with_unfolding_all exact λ_ _ _ h=>h):AV P N ops Q S0 (p+1) G E S:=R3 i _ f hs e o listed l m g z6 k
theorem Wn {i:Nat} (k:AV P N ops Q S0 p (G.setIfInBounds i true) E S) (a: ∀w,S w->S0 w:=by exact Ho):KV N (λb w'=>S0 w'/\wpAnyH P .any ops Q S0 p (G.setIfInBounds i true) b w') E S:=R4 _ z6 a k
theorem Cw (i:Nat) {fuel:Nat} (k:AC P N ops Q S0 p fuel (G.setIfInBounds i true) (set E d v) S) (l:ops[i]?=some ⟨some d,op,ty,pos,af,g⟩:=by exact z6) (h:Step P N E S0 ⟨some d,op,ty,pos,af,g⟩ v:=by exact At) (m: ∀w,S w->S0 w:=by exact Ho) (j:Yn N ops d g E:=by exact yn) (hs:Region.noSelect ops=true:=by kernel_rfl) (b:Region.free .any ops G i=true:=by kernel_rfl) (n:(Region.ready .any ops G).contains i=true:=by kernel_rfl) (o:oe ops .any i 8 p=true:=by kernel_rfl) (listed:uG ops .any G=true:=by kernel_rfl) (e:(p !=i)=true:=by kernel_rfl) (f:G.getD p false=false:=by kernel_rfl) (q: ∀p a w,Q (.panic p) (a.put (some d) v) w->Q (.panic p) a w:=by with_unfolding_all exact λ_ _ _ h=>h):AC P N ops Q S0 p (fuel+1) G E S:=O5 i _ l hs b n o listed e f q j.y h j.1 m z6 k
theorem Cv (i:Nat) {fuel:Nat} (l:ops[i]?=some ⟨some d,op,ty,pos,af,g⟩) (h:Step P N E S0 ⟨some d,op,ty,pos,af,g⟩ v) (k:AC P N ops Q S0 p fuel (G.setIfInBounds i true) (set E d v) S) (m: ∀w,S w->S0 w:=by exact Ho) (j:Yn N ops d g E:=by exact yn) (hs:Region.noSelect ops=true:=by kernel_rfl) (b:Region.free .any ops G i=true:=by kernel_rfl) (n:(Region.ready .any ops G).contains i=true:=by kernel_rfl) (o:oe ops .any i 8 p=true:=by kernel_rfl) (listed:uG ops .any G=true:=by kernel_rfl) (e:(p !=i)=true:=by kernel_rfl) (f:G.getD p false=false:=by kernel_rfl) (q: ∀p a w,Q (.panic p) (a.put (some d) v) w->Q (.panic p) a w:=by with_unfolding_all exact λ_ _ _ h=>h):AC P N ops Q S0 p (fuel+1) G E S:=O5 i _ l hs b n o listed e f q j.y h j.1 m z6 k
theorem Uw (i:Nat) {fuel:Nat} (k:AC P N ops Q S0 p fuel (G.setIfInBounds i true) (set E d v) S) (j:ops[i]?=some ⟨some d,op,ty,pos,af,g⟩:=by exact z6) (h:Step P N E (λ_=>True) ⟨some d,op,ty,pos,af,g⟩ v:=by exact At) (l: ∀w,S w->S0 w:=by exact Ho) (f:Yn N ops d g E:=by exact yn) (hs:Region.noSelect ops=true:=by kernel_rfl) (b:Region.free .any ops G i=true:=by kernel_rfl) (m:(Region.ready .any ops G).contains i=true:=by kernel_rfl) (e:(p !=i)=true:=by kernel_rfl) (n: ∀p a w,Q (.panic p) (a.put (some d) v) w->Q (.panic p) a w:=by with_unfolding_all exact λ_ _ _ h=>h):AC P N ops Q S0 p (fuel+1) G E S:=AC.takeT i _ j hs b m e n f.y h f.1 l z6 k
theorem Cj {fuel:Nat} {i:Nat} (k:AC P N ops Q S0 p fuel (G.setIfInBounds i true) E S) (a: ∀w,S w->S0 w:=by exact Ho):KV N (λb w'=>((G.setIfInBounds i true).getD p false=true\/S0 w')/\iq P .any ops Q S0 p fuel (G.setIfInBounds i true) b w') E S:=O6 _ z6 (.inr a) k
theorem V1 (a:Nat) {b:Oper} (h0:OV P N ops Q b E S (λc w'=>S0 w'/\wpAnyH P .any ops Q S0 p (G.setIfInBounds a true) c w')) (d:ops[a]?=some b:=by exact z6) (e:Region.ready .any ops G=[a]:=by kernel_rfl):AV P N ops Q S0 (p+1) G E S:=M0 _ e zm ⟨⟨_,d,h0⟩,trivial⟩
theorem V2 (a b:Nat) {d e:Oper} (h0:OV P N ops Q d E S (λc w'=>S0 w'/\wpAnyH P .any ops Q S0 p (G.setIfInBounds a true) c w')) (f:OV P N ops Q e E S (λc w'=>S0 w'/\wpAnyH P .any ops Q S0 p (G.setIfInBounds b true) c w')) (g:ops[a]?=some d:=by exact z6) (h:ops[b]?=some e:=by exact z6) (i:Region.ready .any ops G=[a,b]:=by kernel_rfl):AV P N ops Q S0 (p+1) G E S:=M0 _ i zm ⟨⟨_,g,h0⟩,⟨⟨_,h,f⟩,trivial⟩⟩
theorem V3 (b c d:Nat) {e f g:Oper} (h0:OV P N ops Q e E S (λa w'=>S0 w'/\wpAnyH P .any ops Q S0 p (G.setIfInBounds b true) a w')) (h:OV P N ops Q f E S (λa w'=>S0 w'/\wpAnyH P .any ops Q S0 p (G.setIfInBounds c true) a w')) (i:OV P N ops Q g E S (λa w'=>S0 w'/\wpAnyH P .any ops Q S0 p (G.setIfInBounds d true) a w')) (j:ops[b]?=some e:=by exact z6) (k:ops[c]?=some f:=by exact z6) (l:ops[d]?=some g:=by exact z6) (m:Region.ready .any ops G=[b,c,d]:=by kernel_rfl):AV P N ops Q S0 (p+1) G E S:=M0 _ m zm ⟨⟨_,j,h0⟩,⟨⟨_,k,h⟩,⟨⟨_,l,i⟩,trivial⟩⟩⟩
theorem Q1 (a:Nat) {fuel:Nat} {b:Oper} (h0:OV P N ops Q b E S (λd w'=>((G.setIfInBounds a true).getD p false=true\/S0 w')/\iq P .any ops Q S0 p fuel (G.setIfInBounds a true) d w')) (e:ops[a]?=some b:=by exact z6) (f:Region.ready .any ops G=[a]:=by kernel_rfl):AC P N ops Q S0 p (fuel+1) G E S:=N2 _ f zm ⟨⟨_,e,h0⟩,trivial⟩
theorem Q2 (a b:Nat) {fuel:Nat} {e f:Oper} (h0:OV P N ops Q e E S (λd w'=>((G.setIfInBounds a true).getD p false=true\/S0 w')/\iq P .any ops Q S0 p fuel (G.setIfInBounds a true) d w')) (g:OV P N ops Q f E S (λd w'=>((G.setIfInBounds b true).getD p false=true\/S0 w')/\iq P .any ops Q S0 p fuel (G.setIfInBounds b true) d w')) (h:ops[a]?=some e:=by exact z6) (i:ops[b]?=some f:=by exact z6) (j:Region.ready .any ops G=[a,b]:=by kernel_rfl):AC P N ops Q S0 p (fuel+1) G E S:=N2 _ j zm ⟨⟨_,h,h0⟩,⟨⟨_,i,g⟩,trivial⟩⟩
theorem Q3 (b d e:Nat) {fuel:Nat} {f g h:Oper} (h0:OV P N ops Q f E S (λa w'=>((G.setIfInBounds b true).getD p false=true\/S0 w')/\iq P .any ops Q S0 p fuel (G.setIfInBounds b true) a w')) (i:OV P N ops Q g E S (λa w'=>((G.setIfInBounds d true).getD p false=true\/S0 w')/\iq P .any ops Q S0 p fuel (G.setIfInBounds d true) a w')) (j:OV P N ops Q h E S (λa w'=>((G.setIfInBounds e true).getD p false=true\/S0 w')/\iq P .any ops Q S0 p fuel (G.setIfInBounds e true) a w')) (k:ops[b]?=some f:=by exact z6) (l:ops[d]?=some g:=by exact z6) (m:ops[e]?=some h:=by exact z6) (n:Region.ready .any ops G=[b,d,e]:=by kernel_rfl):AC P N ops Q S0 p (fuel+1) G E S:=N2 _ n zm ⟨⟨_,k,h0⟩,⟨⟨_,l,i⟩,⟨⟨_,m,j⟩,trivial⟩⟩⟩
theorem ex {M:List aB} (k:KV N KK E (Hp I0 w0 M)):KV N KK E (Hp I0 w0 (M++R)):=B1 (λ_ h=>Hp.sub h) k
theorem E0 (k:KV N KK E (Hp I0 w0 [])):KV N KK E (Hp I0 w0 (R)):=ex (M:=[]) k
theorem E1 {a:aB} (k:KV N KK E (Hp I0 w0 [a])):KV N KK E (Hp I0 w0 (a::R)):=ex (M:=[a]) k
theorem K1 {a:aB} (ks:List Nat) (h:cQ ks L=some ([a],R)) (k:KV N KK E (Hp I0 w0 [a])):KV N KK E (Hp I0 w0 L):=F8 ks _ h k
theorem E2 {a b:aB} (k:KV N KK E (Hp I0 w0 [a,b])):KV N KK E (Hp I0 w0 (a::b::R)):=ex (M:=[a,b]) k
theorem K2 {a b:aB} (ks:List Nat) (h:cQ ks L=some ([a,b],R)) (k:KV N KK E (Hp I0 w0 [a,b])):KV N KK E (Hp I0 w0 L):=F8 ks _ h k
theorem E3 {a b c:aB} (k:KV N KK E (Hp I0 w0 [a,b,c])):KV N KK E (Hp I0 w0 (a::b::c::R)):=ex (M:=[a,b,c]) k
theorem K3 {a b c:aB} (ks:List Nat) (h:cQ ks L=some ([a,b,c],R)) (k:KV N KK E (Hp I0 w0 [a,b,c])):KV N KK E (Hp I0 w0 L):=F8 ks _ h k
theorem E4 {a b c d:aB} (k:KV N KK E (Hp I0 w0 [a,b,c,d])):KV N KK E (Hp I0 w0 (a::b::c::d::R)):=ex (M:=[a,b,c,d]) k
theorem K4 {a b c d:aB} (ks:List Nat) (h:cQ ks L=some ([a,b,c,d],R)) (k:KV N KK E (Hp I0 w0 [a,b,c,d])):KV N KK E (Hp I0 w0 L):=F8 ks _ h k
theorem E5 {a b c d e:aB} (k:KV N KK E (Hp I0 w0 [a,b,c,d,e])):KV N KK E (Hp I0 w0 (a::b::c::d::e::R)):=ex (M:=[a,b,c,d,e]) k
theorem K5 {a b c d e:aB} (ks:List Nat) (h:cQ ks L=some ([a,b,c,d,e],R)) (k:KV N KK E (Hp I0 w0 [a,b,c,d,e])):KV N KK E (Hp I0 w0 L):=F8 ks _ h k
theorem E6 {a b c d e f:aB} (k:KV N KK E (Hp I0 w0 [a,b,c,d,e,f])):KV N KK E (Hp I0 w0 (a::b::c::d::e::f::R)):=ex (M:=[a,b,c,d,e,f]) k
theorem K6 {a b c d e f:aB} (ks:List Nat) (h:cQ ks L=some ([a,b,c,d,e,f],R)) (k:KV N KK E (Hp I0 w0 [a,b,c,d,e,f])):KV N KK E (Hp I0 w0 L):=F8 ks _ h k
theorem E7 {a b c d e f g:aB} (k:KV N KK E (Hp I0 w0 [a,b,c,d,e,f,g])):KV N KK E (Hp I0 w0 (a::b::c::d::e::f::g::R)):=ex (M:=[a,b,c,d,e,f,g]) k
theorem K7 {a b c d e f g:aB} (ks:List Nat) (h:cQ ks L=some ([a,b,c,d,e,f,g],R)) (k:KV N KK E (Hp I0 w0 [a,b,c,d,e,f,g])):KV N KK E (Hp I0 w0 L):=F8 ks _ h k
theorem E8 {a b c d e f g h:aB} (k:KV N KK E (Hp I0 w0 [a,b,c,d,e,f,g,h])):KV N KK E (Hp I0 w0 (a::b::c::d::e::f::g::h::R)):=ex (M:=[a,b,c,d,e,f,g,h]) k
theorem K8 {a b c d e f g i:aB} (ks:List Nat) (h:cQ ks L=some ([a,b,c,d,e,f,g,i],R)) (k:KV N KK E (Hp I0 w0 [a,b,c,d,e,f,g,i])):KV N KK E (Hp I0 w0 L):=F8 ks _ h k
theorem E9 {a b c d e f g h i:aB} (k:KV N KK E (Hp I0 w0 [a,b,c,d,e,f,g,h,i])):KV N KK E (Hp I0 w0 (a::b::c::d::e::f::g::h::i::R)):=ex (M:=[a,b,c,d,e,f,g,h,i]) k
theorem K9 {a b c d e f g i j:aB} (ks:List Nat) (h:cQ ks L=some ([a,b,c,d,e,f,g,i,j],R)) (k:KV N KK E (Hp I0 w0 [a,b,c,d,e,f,g,i,j])):KV N KK E (Hp I0 w0 L):=F8 ks _ h k
theorem lN {a b c d e f g h i j:aB} (k:KV N KK E (Hp I0 w0 [a,b,c,d,e,f,g,h,i,j])):KV N KK E (Hp I0 w0 (a::b::c::d::e::f::g::h::i::j::R)):=ex (M:=[a,b,c,d,e,f,g,h,i,j]) k
theorem ry {a b c d e f g i j l:aB} (ks:List Nat) (h:cQ ks L=some ([a,b,c,d,e,f,g,i,j,l],R)) (k:KV N KK E (Hp I0 w0 [a,b,c,d,e,f,g,i,j,l])):KV N KK E (Hp I0 w0 L):=F8 ks _ h k
theorem mm {b c d e f g h i j l a:aB} (k:KV N KK E (Hp I0 w0 [b,c,d,e,f,g,h,i,j,l,a])):KV N KK E (Hp I0 w0 (b::c::d::e::f::g::h::i::j::l::a::R)):=ex (M:=[b,c,d,e,f,g,h,i,j,l,a]) k
theorem jb {c d e f g h i j l m a b:aB} (k:KV N KK E (Hp I0 w0 [c,d,e,f,g,h,i,j,l,m,a,b])):KV N KK E (Hp I0 w0 (c::d::e::f::g::h::i::j::l::m::a::b::R)):=ex (M:=[c,d,e,f,g,h,i,j,l,m,a,b]) k
theorem Gw {c d e f g i j l m n a b:aB} (ks:List Nat) (h:cQ ks L=some ([c,d,e,f,g,i,j,l,m,n,a,b],R)) (k:KV N KK E (Hp I0 w0 [c,d,e,f,g,i,j,l,m,n,a,b])):KV N KK E (Hp I0 w0 L):=F8 ks _ h k
theorem jt {d e f g h i j l m n a b c:aB} (k:KV N KK E (Hp I0 w0 [d,e,f,g,h,i,j,l,m,n,a,b,c])):KV N KK E (Hp I0 w0 (d::e::f::g::h::i::j::l::m::n::a::b::c::R)):=ex (M:=[d,e,f,g,h,i,j,l,m,n,a,b,c]) k
theorem BH {d e f g i j l m n o a b c:aB} (ks:List Nat) (h:cQ ks L=some ([d,e,f,g,i,j,l,m,n,o,a,b,c],R)) (k:KV N KK E (Hp I0 w0 [d,e,f,g,i,j,l,m,n,o,a,b,c])):KV N KK E (Hp I0 w0 L):=F8 ks _ h k
theorem kr {e f g h i j l m n o a b c d:aB} (k:KV N KK E (Hp I0 w0 [e,f,g,h,i,j,l,m,n,o,a,b,c,d])):KV N KK E (Hp I0 w0 (e::f::g::h::i::j::l::m::n::o::a::b::c::d::R)):=ex (M:=[e,f,g,h,i,j,l,m,n,o,a,b,c,d]) k
theorem Rk {e f g i j l m n o p a b c d:aB} (ks:List Nat) (h:cQ ks L=some ([e,f,g,i,j,l,m,n,o,p,a,b,c,d],R)) (k:KV N KK E (Hp I0 w0 [e,f,g,i,j,l,m,n,o,p,a,b,c,d])):KV N KK E (Hp I0 w0 L):=F8 ks _ h k
theorem qn {f g h i j l m n o p a b c d e:aB} (k:KV N KK E (Hp I0 w0 [f,g,h,i,j,l,m,n,o,p,a,b,c,d,e])):KV N KK E (Hp I0 w0 (f::g::h::i::j::l::m::n::o::p::a::b::c::d::e::R)):=ex (M:=[f,g,h,i,j,l,m,n,o,p,a,b,c,d,e]) k
theorem Rm {g h i j l m n o p q a b c d e f:aB} (k:KV N KK E (Hp I0 w0 [g,h,i,j,l,m,n,o,p,q,a,b,c,d,e,f])):KV N KK E (Hp I0 w0 (g::h::i::j::l::m::n::o::p::q::a::b::c::d::e::f::R)):=ex (M:=[g,h,i,j,l,m,n,o,p,q,a,b,c,d,e,f]) k
theorem Rn {g i j l m n o p q r a b c d e f:aB} (ks:List Nat) (h:cQ ks L=some ([g,i,j,l,m,n,o,p,q,r,a,b,c,d,e,f],R)) (k:KV N KK E (Hp I0 w0 [g,i,j,l,m,n,o,p,q,r,a,b,c,d,e,f])):KV N KK E (Hp I0 w0 L):=F8 ks _ h k
theorem Gx {h i j l m n o p q r a b c d e f g:aB} (k:KV N KK E (Hp I0 w0 [h,i,j,l,m,n,o,p,q,r,a,b,c,d,e,f,g])):KV N KK E (Hp I0 w0 (h::i::j::l::m::n::o::p::q::r::a::b::c::d::e::f::g::R)):=ex (M:=[h,i,j,l,m,n,o,p,q,r,a,b,c,d,e,f,g]) k
theorem Rp {i j l m n o p q r s a b c d e f g:aB} (ks:List Nat) (h:cQ ks L=some ([i,j,l,m,n,o,p,q,r,s,a,b,c,d,e,f,g],R)) (k:KV N KK E (Hp I0 w0 [i,j,l,m,n,o,p,q,r,s,a,b,c,d,e,f,g])):KV N KK E (Hp I0 w0 L):=F8 ks _ h k
theorem Rq {i j l m n o p q r s a b c d e f g h:aB} (k:KV N KK E (Hp I0 w0 [i,j,l,m,n,o,p,q,r,s,a,b,c,d,e,f,g,h])):KV N KK E (Hp I0 w0 (i::j::l::m::n::o::p::q::r::s::a::b::c::d::e::f::g::h::R)):=ex (M:=[i,j,l,m,n,o,p,q,r,s,a,b,c,d,e,f,g,h]) k
theorem yH {j l m n o p q r s t a b c d e f g h i:aB} (k:KV N KK E (Hp I0 w0 [j,l,m,n,o,p,q,r,s,t,a,b,c,d,e,f,g,h,i])):KV N KK E (Hp I0 w0 (j::l::m::n::o::p::q::r::s::t::a::b::c::d::e::f::g::h::i::R)):=ex (M:=[j,l,m,n,o,p,q,r,s,t,a,b,c,d,e,f,g,h,i]) k
theorem Zw (k:Nat) {by_ b o:Nat} (vs:List Value) (cs:Array Value) [i:iL P t O p by_] (f:RV P N ops Q rest E (Hp I0 w0 (L.set k (aU b (.cells cs J (0,0)))))) (h:ev E x=some (.pointer (some ⟨b,o,none⟩)):=by exact z6) (j:ev E y=some v:=by exact z6) (l:L[k]?=some (aU b (.cells Y J (0,0))):=by exact z6) (m:v.cells=vs.toArray:=by exact z6) (c:(Y.toList.take o++vs++Y.toList.drop (o+vs.length)).toArray=cs:=by exact z6) (n:vs.length=p:=by exact z6) (a:o+vs.length<=Y.size:=by exact qV z6) (q: ∀v∈vs,v.oneCell'=true:=by simp[Value.oneCell']) (r:Yq N ops g E:=by exact yq):RV P N ops Q (⟨none,.store t x y,ty,pos,af,g⟩::rest) E (Hp I0 w0 L):=A4 (Yw k vs cs h j l m c f n a q r)
theorem An (S0:World->Prop) (n:Nat) {l:List Oper} (h:AV P N l.toArray Q S0 n (Array.replicate n false) E S) (a:P.follows .mixedOrders=true:=by kernel_rfl) (b: ∀w,S w->S w.drew:=by exact λ_ h=>h.drew) (c:l.length=n:=by exact z6):CV P N (.region p l.toArray true) Q E S:=CV.any S0 a b n c h
theorem Ac (S0:World->Prop) (c n:Nat) {l:List Oper} (h:AC P N l.toArray Q S0 c n (Array.replicate n false) E S) (a:P.follows .mixedOrders=true:=by kernel_rfl) (b: ∀w,S w->S w.drew:=by exact λ_ h=>h.drew) (d:l.length=n:=by exact z6):CV P N (.region p l.toArray true) Q E S:=N1 S0 c a b n d h
theorem Zs {l:List Oper} (h:SV P N l.toArray (Q .normal) l E S) (a:P.follows .mixedOrders=true:=by kernel_rfl) (b: ∀w,S w->S w.drew:=by exact λ_ h=>h.drew) (c:Region.lexB .any l.toArray=true:=by kernel_rfl):CV P N (.region p l.toArray true) Q E S:=CV.still a c b h
theorem Zt (n:Nat) {l:List Oper} (h:SV P N l.toArray (wpList P l.toArray Q (l.drop n)) (l.take n) E S) (a:P.follows .mixedOrders=true:=by kernel_rfl) (b: ∀w,S w->S w.drew:=by exact λ_ h=>h.drew) (c:Region.lexTailB .any l.toArray n=true:=by kernel_rfl):CV P N (.region p l.toArray true) Q E S:=T5 n a c b h
end
inductive mo:Nat->Prop->Prop->Prop
 |z {A:Prop}:mo 0 A A
 |s {n:Nat} {A B C:Prop} (r:mo n B C) (t:C->A):mo (n+1) B A
theorem mo.go {A B:Prop} (h:mo p B A):B->A:=by
 induction h with
 |z=>exact id
 |s _ t a=>exact λk=>t (a k)
theorem mo.c {A B C:Prop} (t:C->A) (r:mo p B C):mo (p+1) B A:= .s r t
theorem Jj (n:Nat) {A B:Prop} (k:B) (s:mo n B A:=by repeat first|exact mo.z|(apply mo.c;exact Gs)):A:=s.go k
def mp (i:Nat) (B A:Prop):Prop:=B->A
inductive mq:Nat->Nat->Prop->Prop->Prop
 |z {i:Nat} {A:Prop}:mq i 0 A A
 |s {i n:Nat} {A B C:Prop} (r:mq (i+1) n B C) (t:mp i C A):mq i (n+1) B A
theorem mq.go {n:Nat} {A B:Prop} (h:mq p n B A):B->A:=by
 induction h with
 |z=>exact id
 |s _ t a=>exact λk=>t (a k)
section
variable {P:Program} {N:NN} {E:Env} {S S0:World->Prop} {ops:Array Oper} {Q:Exit->Act->World->Prop} {rest:List Oper} {KK:Act->World->Prop} {T:Act->World->Prop}
variable {d:Nat} {ty:TypeId} {pos:String} {af:Array Edge} {g:Option (Nat×Bool)} {x y z:Operand} {v u:Value} {op:Op} {t:TypeId} {D:TypeDesc}
variable {I0:aV} {w0:World} {L R:List aB} {dd:Option Nat}
theorem mp.m {fuel:Nat} (f:ops[p]?=some ⟨some d,op,ty,pos,af,g⟩:=by exact z6) (h:Step P N E S0 ⟨some d,op,ty,pos,af,g⟩ v:=by exact At) (j: ∀w,S w->S0 w:=by exact Ho) (e:Yn N ops d g E:=by exact yn) (hs:Region.noSelect ops=true:=by kernel_rfl) (b:Region.free .any ops G p=true:=by kernel_rfl) (l:(Region.ready .any ops G).contains p=true:=by kernel_rfl) (n: ∀c a w,Q (.panic c) (a.put (some d) v) w->Q (.panic c) a w:=by with_unfolding_all exact λ_ _ _ h=>h):mp p (AV P N ops Q S0 fuel (G.setIfInBounds p true) (set E d v) S) (AV P N ops Q S0 (fuel+1) G E S):=λk=>L8 p _ f hs b l n e.y h e.1 j z6 k
theorem mp.k {i fuel j:Nat} {b:Bool} {listed:Array Bool} (f:ops[i]?=some ⟨some d,op,ty,pos,af,some (j,b)⟩:=by exact z6) (g: ∀w,S w->S0 w:=by exact Ho) (l:mK ops E j=some (!b):=by exact z6) (m:Nat.blt d N.n=true:=by exact z6) (hs:Region.noSelect ops=true:=by kernel_rfl) (e:Region.free .any ops listed i=true:=by kernel_rfl) (o:(Region.ready .any ops listed).contains i=true:=by kernel_rfl) (p: ∀c a w,Q (.panic c) (a.put (some d) undef) w->Q (.panic c) a w:=by with_unfolding_all exact λ_ _ _ h=>h):mp i (AV P N ops Q S0 fuel (listed.setIfInBounds i true) (set E d undef) S) (AV P N ops Q S0 (fuel+1) listed E S):=λk=>R3 i _ f hs e o p l m g z6 k
theorem mp.q {fuel j:Nat} {b:Bool} (f:ops[p]?=some ⟨some d,op,ty,pos,af,some (j,b)⟩:=by exact z6) (g: ∀w,S w->S0 w:=by exact Ho) (l:qd ops E j=true:=by exact z6) (m:Nat.blt d N.n=true:=by exact z6) (hs:Region.noSelect ops=true:=by kernel_rfl) (e:Region.free .any ops G p=true:=by kernel_rfl) (o:(Region.ready .any ops G).contains p=true:=by kernel_rfl) (listed: ∀c a w,Q (.panic c) (a.put (some d) undef) w->Q (.panic c) a w:=by with_unfolding_all exact λ_ _ _ h=>h):mp p (AV P N ops Q S0 fuel (G.setIfInBounds p true) (set E d undef) S) (AV P N ops Q S0 (fuel+1) G E S):=λk=>T8 p _ f hs e o listed l m g z6 k
theorem mq.c {n:Nat} {A B C:Prop} (t:mp p C A) (r:mq (p+1) n B C):mq p (n+1) B A:= .s r t
theorem Wr (i n:Nat) {A B:Prop} (k:B) (s:mq i n B A:=by repeat first|exact mq.z|(apply mq.c;first|exact mp.m|exact mp.k|exact mp.q)):A:=s.go k
theorem Yo {f:FuncId} {fn:Func} {args:List Operand} {ts:Array TypeId} [c:ei P f fn p] (i:fp E args=some V) (a: ∀w,Hp I0 w0 L w->Fx P f V w [] no (λb e=>b=v/\e=[])) (k:KV N KK (set E d v) (Hp I0 w0 L)) (j:Yn N ops d g E:=by exact yn):OV P N ops Q ⟨some d,.call ⟨.value (.func f),args.toArray,ts⟩,ty,pos,af,g⟩ E (Hp I0 w0 L) KK:=Yc [] i rfl a (λb e h=>by obtain⟨l,m⟩:=h;subst l;subst m;rw[qK];exact k) (λ_ n=>n.elim) j
theorem Yr {f:FuncId} {fn:Func} {args:List Operand} {ts:Array TypeId} [c:ei P f fn p] (b:fp E args=some V) (a: ∀w,Hp I0 w0 L w->Fx P f V w [] no (λe h=>e=v/\h=[])) (k:RV P N ops Q rest (set E d v) (Hp I0 w0 L)) (i:Yn N ops d g E:=by exact yn):RV P N ops Q (⟨some d,.call ⟨.value (.func f),args.toArray,ts⟩,ty,pos,af,g⟩::rest) E (Hp I0 w0 L):=A4 (Yo b a k i)
section
variable {α:Type} {K:bO α} {A B:Option Addr} {ys zs:List α} {c m n:Nat} {e:TypeId}
theorem Yg (k:Nat) {by_ cB:Nat} [z:US P t e] [C:iL P e O p by_] (j: ∀h i,KV N KK (set E d (.slice h (ys++zs).length i)) (Hp I0 w0 (L.set k (OS e K h i (ys++zs))))) (l:ev E x=some (.slice A n c):=by exact z6) (o:ev E y=some (.slice B m cB):=by exact z6) (f:L[k]?=some (OS e K A c ys):=by exact z6) (q: ∀w,Hp I0 w0 L w->RS w K B zs:=by exact Rd) (r:n=ys.length:=by exact z6) (a:m=zs.length:=by exact z6) (s:(ys.length+zs.length)* by_<=140737488355328:=by first|omega|(simp only[qD,qE,qF,qH,qG,qB,qC];omega)) (hs:p=K.sz:=by exact z6) (b:O.cells.size=K.sz:=by exact z6) (u:0<by_:=by decide) (v:Yn N ops d g E:=by exact yn):OV P N ops Q ⟨some d,.call ⟨.builtin .append,#[x,y],#[t,t]⟩,ty,pos,af,g⟩ E (Hp I0 w0 L) KK:=Ye k l o r a f q s j hs b u v
theorem Yh (k:Nat) {by_ cB:Nat} [z:US P t e] [C:iL P e O p by_] (j: ∀h i,RV P N ops Q rest (set E d (.slice h (ys++zs).length i)) (Hp I0 w0 (L.set k (OS e K h i (ys++zs))))) (l:ev E x=some (.slice A n c):=by exact z6) (o:ev E y=some (.slice B m cB):=by exact z6) (f:L[k]?=some (OS e K A c ys):=by exact z6) (q: ∀w,Hp I0 w0 L w->RS w K B zs:=by exact Rd) (r:n=ys.length:=by exact z6) (a:m=zs.length:=by exact z6) (s:(ys.length+zs.length)* by_<=140737488355328:=by first|omega|(simp only[qD,qE,qF,qH,qG,qB,qC];omega)) (hs:p=K.sz:=by exact z6) (b:O.cells.size=K.sz:=by exact z6) (u:0<by_:=by decide) (v:Yn N ops d g E:=by exact yn):RV P N ops Q (⟨some d,.call ⟨.builtin .append,#[x,y],#[t,t]⟩,ty,pos,af,g⟩::rest) E (Hp I0 w0 L):=A4 (Yg k j l o f q r a s hs b u v)
theorem Zb {ps:List (Nat×Operand)} {vs:List (Nat×Value)} (ys:List α) (h: ∀w,(Instr.buildSlice t n vs.toArray).run P w= .ok (.slice (some ⟨w.heap.size,0,none⟩) n n) (w.alloc (.cells Y e))) (k: ∀A,KV N KK (set E d (.slice A ys.length ys.length)) (Hp I0 w0 (L++[OS e K A ys.length ys]))) (c:lL E ps=some vs:=by exact z6) (f:n=ys.length:=by exact z6) (a:Y.toList=flat K ys:=by exact z6) (i:n<=1000000:=by omega) (b:Yn N ops d g E:=by exact yn):OV P N ops Q ⟨some d,.buildSlice t n ps.toArray,ty,pos,af,g⟩ E (Hp I0 w0 L) KK:=H4 ys c h f a i b.y b.1 k
theorem Zc {ps:List (Nat×Operand)} {vs:List (Nat×Value)} (ys:List α) (h: ∀w,(Instr.buildSlice t n vs.toArray).run P w= .ok (.slice (some ⟨w.heap.size,0,none⟩) n n) (w.alloc (.cells Y e))) (k: ∀A,RV P N ops Q rest (set E d (.slice A ys.length ys.length)) (Hp I0 w0 (L++[OS e K A ys.length ys]))) (b:lL E ps=some vs:=by exact z6) (c:n=ys.length:=by exact z6) (a:Y.toList=flat K ys:=by exact z6) (f:n<=1000000:=by omega) (i:Yn N ops d g E:=by exact yn):RV P N ops Q (⟨some d,.buildSlice t n ps.toArray,ty,pos,af,g⟩::rest) E (Hp I0 w0 L):=A4 (Zb ys h k b c a f i)
theorem Zm {by_:Nat} {l m:IntKind} {i j:Int} [v:US P t e] [w:iL P e O p by_] (n:Nat) (a:α) (k: ∀A,KV N KK (set E d (.slice A n n)) (Hp I0 w0 (L++[OS e K A n (List.replicate n a)]))) (o:ev E x=some (.int l i):=by exact z6) (h:ev E y=some (.int m j):=by exact z6) (b:i=(n:Int):=by exact z6) (c:j=(n:Int):=by exact z6) (q:O.cells.toList=K.f a:=by exact z6) (hs:p=K.sz:=by exact z6) (r:by_* n<=281474976710656:=by omega) (s:n<=9223372036854775807:=by omega) (u:Yn N ops d g E:=by exact yn):OV P N ops Q ⟨some d,.makeSlice t x y,ty,pos,af,g⟩ E (Hp I0 w0 L) KK:=Ym n n a o h b c k q hs (qU _) r s u
end
theorem St (h:Step P N E S ⟨some d,op,ty,pos,af,g⟩ v) (k:KV N KK (set E d v) S) (a:Yn N ops d g E:=by exact yn):OV P N ops Q ⟨some d,op,ty,pos,af,g⟩ E S KK:=C2 a.y h a.1 k
theorem Ju {b:Bool} (k:RV P N ops Q rest (set E d undef) S) (a:qd ops E p=true:=by exact z6) (c:Nat.blt d N.n=true:=by exact z6):RV P N ops Q (⟨some d,op,ty,pos,af,some (p,b)⟩::rest) E S:=A4 (OV.skipU a c k)
theorem Rs {fn:Func} {I:aV} {post:Value->List aB->Prop} {t:Tmp} (b:fn.results= #[.tmp t]) (c:get E t=some v) (d:post v []):KV ⟨p,[]⟩ (bodyPost P fn (λe w'=> ∃v a,e= .returned v/\post v a/\Hp I U a w') .ret) E (Hp I U L):=A7 b c _ (λ_ h=>h.sel [] z6) d
theorem Rt {fn:Func} {I:aV} {post:Value->List aB->Prop} {t1 t2:Tmp} {v2:Value} (b:fn.results= #[.tmp t1,.tmp t2]) (c:get E t1=some O) (d:get E t2=some v2) (f:post (.tuple #[O,v2]) []):KV ⟨p,[]⟩ (bodyPost P fn (λe w'=> ∃v a,e= .returned v/\post v a/\Hp I U a w') .ret) E (Hp I U L):=D2 b c d _ (λ_ h=>h.sel [] z6) f
section
variable {α β γ δ:Type}
theorem La {inv:α->Prop} {m:α->Nat} {G:α->Env} {T:α->World->Prop} (b:α) (e:inv b) (c:m b<p:=by omega) (hE:Sub (G b) E:=by exact sb z6) (hT: ∀w,S w->T b w:=by exact λ_ h=>h):KV N (λa w=> ∃b,(inv b/\m b<p)/\Fits N a (G b)/\T b w) E S:=λ_ w f g=>⟨b,⟨e,c⟩,f.sub hE,hT w g⟩
theorem Ca (inv:α->Prop) (m:α->Nat) (G:α->Env) (T:α->World->Prop) (b:α) (h0:inv b) (round: ∀z,inv z->CV P N X (Exit.then (λa w=> ∃d,(inv d/\m d<m z)/\Fits N a (G d)/\T d w) Q) (G z) (T z)) (hE:Sub (G b) E:=by exact sb z6) (hT: ∀w,S w->T b w:=by exact λ_ h=>h):CV P N (.loop X) Q E S:=F5 inv m G T b h0 hE hT round
theorem Lb {inv:α->β->Prop} {m:α->β->Nat} {G:α->β->Env} {T:α->β->World->Prop} (b:α) (c:β) (f:inv b c) (d:m b c<p:=by omega) (hE:Sub (G b c) E:=by exact sb z6) (hT: ∀w,S w->T b c w:=by exact λ_ h=>h):KV N (λa w=> ∃b c,(inv b c/\m b c<p)/\Fits N a (G b c)/\T b c w) E S:=λ_ w g i=>⟨b,c,⟨f,d⟩,g.sub hE,hT w i⟩
theorem Cb (inv:α->β->Prop) (m:α->β->Nat) (G:α->β->Env) (T:α->β->World->Prop) (b:α) (d:β) (h0:inv b d) (round: ∀x y,inv x y->CV P N X (Exit.then (λa w=> ∃e f,(inv e f/\m e f<m x y)/\Fits N a (G e f)/\T e f w) Q) (G x y) (T x y)) (hE:Sub (G b d) E:=by exact sb z6) (hT: ∀w,S w->T b d w:=by exact λ_ h=>h):CV P N (.loop X) Q E S:=M3 inv m G T b d h0 hE hT round
theorem Lc {inv:α->β->γ->Prop} {m:α->β->γ->Nat} {G:α->β->γ->Env} {T:α->β->γ->World->Prop} (b:α) (c:β) (d:γ) (g:inv b c d) (e:m b c d<p:=by omega) (hE:Sub (G b c d) E:=by exact sb z6) (hT: ∀w,S w->T b c d w:=by exact λ_ h=>h):KV N (λa w=> ∃b c d,(inv b c d/\m b c d<p)/\Fits N a (G b c d)/\T b c d w) E S:=λ_ w i j=>⟨b,c,d,⟨g,e⟩,i.sub hE,hT w j⟩
theorem Cc (inv:α->β->γ->Prop) (m:α->β->γ->Nat) (G:α->β->γ->Env) (T:α->β->γ->World->Prop) (b:α) (d:β) (e:γ) (h0:inv b d e) (round: ∀x y z,inv x y z->CV P N X (Exit.then (λa w=> ∃f g i,(inv f g i/\m f g i<m x y z)/\Fits N a (G f g i)/\T f g i w) Q) (G x y z) (T x y z)) (hE:Sub (G b d e) E:=by exact sb z6) (hT: ∀w,S w->T b d e w:=by exact λ_ h=>h):CV P N (.loop X) Q E S:=R6 inv m G T b d e h0 hE hT round
theorem Da (inv:α->Prop) (m:α->Nat) (M:Env) (G:α->Env) (T:α->World->Prop) (b:α) (h0:inv b) (round: ∀z,inv z->CV P N X (Exit.then (λa w=> ∃d,(inv d/\m d<m z)/\Fits N a (M++G d)/\T d w) Q) (M++G z) (T z)) (hE:Sub (M++G b) E:=by exact sb z6) (hT: ∀w,S w->T b w:=by exact λ_ h=>h):CV P N (.loop X) Q E S:=F5 inv m (λz=>M++G z) T b h0 hE hT round
theorem Db (inv:α->β->Prop) (m:α->β->Nat) (M:Env) (G:α->β->Env) (T:α->β->World->Prop) (b:α) (d:β) (h0:inv b d) (round: ∀x y,inv x y->CV P N X (Exit.then (λa w=> ∃e f,(inv e f/\m e f<m x y)/\Fits N a (M++G e f)/\T e f w) Q) (M++G x y) (T x y)) (hE:Sub (M++G b d) E:=by exact sb z6) (hT: ∀w,S w->T b d w:=by exact λ_ h=>h):CV P N (.loop X) Q E S:=M3 inv m (λx y=>M++G x y) T b d h0 hE hT round
theorem Ld {G:α->Env} {T:α->World->Prop} (z:α) (hE:Sub (G z) E:=by exact sb z6) (hT: ∀w,S w->T z w:=by exact λ_ h=>h):KV N (λa w=> ∃z,Fits N a (G z)/\T z w) E S:=C1 z hE hT
theorem Vp {lt:Array Bool} {E0:Env} {S1:World->Prop} (h:AV P N ops Q S0 p lt E0 S1) (hE:Sub E0 E:=by exact sb z6) (a: ∀w,S w->S1 w:=by exact Ho) (b:G=lt:=by kernel_rfl):AV P N ops Q S0 p G E S:=Vo h hE a b
end
end
inductive Kp (E:Env):List Nat->Env->Prop
 |z:Kp E [] []
 |s {k:Nat} {ks:List Nat} {v:Value} {M:Env} (h:get E k=some v) (r:Kp E ks M):Kp E (k::ks) ((k,v)::M)
theorem Kp.sub {E M:Env} {ks:List Nat} (h:Kp E ks M):Sub M E:=by
 induction h with
 |z=>trivial
 |s h r a=>exact⟨h,a⟩
theorem rz {M G E:Env} (h:Sub M E) (g:Sub G E):Sub (M++G) E:=by
 induction M with
 |nil=>exact g
 |cons p r a=>exact⟨h.1,a h.2⟩
inductive Pz
 |a (k:Nat) (A:aB)
 |c (k j:Nat) (v:Value)
 |n (A:aB)
inductive sB {α:Type}:List α->Nat->α->List α->Prop
 |z {A B:α} {L:List α}:sB (B::L) 0 A (A::L)
 |s {A B:α} {L M:List α} {k:Nat} (h:sB L k A M):sB (B::L) (k+1) A (B::M)
inductive uI:List aB->Nat->Nat->Value->List aB->Prop
 |z {b j:Nat} {v:Value} {cs ds:List Value} {t:TypeId} {f:Nat×Nat} {L:List aB} (h:sB cs j v ds):uI (aU b (.cells cs.toArray t f)::L) 0 j v (aU b (.cells ds.toArray t f)::L)
 |s {B:aB} {L M:List aB} {k j:Nat} {v:Value} (h:uI L k j v M):uI (B::L) (k+1) j v (B::M)
inductive lO:List aB->aB->List aB->Prop
 |z {A:aB}:lO [] A [A]
 |s {A B:aB} {L M:List aB} (h:lO L A M):lO (B::L) A (B::M)
inductive gy {α:Type _}:List α->List α->Prop
 |z:gy [] []
 |s {A:α} {L M:List α} (h:gy L M):gy (A::L) (A::M)
theorem gy.eq {α:Type _} {L M:List α} (h:gy L M):L=M:=by induction h with|z=>rfl|s h a=>rw[a]
inductive Pt:List aB->List Pz->List aB->Prop
 |z {L T:List aB} (h:gy L T):Pt L [] T
 |a {L M T:List aB} {k:Nat} {A:aB} {ps:List Pz} (h:sB L k A M) (r:Pt M ps T):Pt L (.a k A::ps) T
 |c {L M T:List aB} {k j:Nat} {v:Value} {ps:List Pz} (h:uI L k j v M) (r:Pt M ps T):Pt L (.c k j v::ps) T
 |n {L M T:List aB} {A:aB} {ps:List Pz} (h:lO L A M) (r:Pt M ps T):Pt L (.n A::ps) T
inductive lP:List Value->Nat->List Value->List Value->Prop
 |e {L:List Value}:lP L 0 [] L
 |z {a v:Value} {L vs M:List Value} (h:lP L 0 vs M):lP (a::L) 0 (v::vs) (v::M)
 |s {a:Value} {L vs M:List Value} {k:Nat} (h:lP L k vs M):lP (a::L) (k+1) vs (a::M)
theorem lP.eq {vs M:List Value} (h:lP V p vs M):V.take p++vs++V.drop (p+vs.length)=M/\p+vs.length<=V.length:=by
 induction h with
 |e=>simp
 |z h b=>simp_all
 |s h b=>rename_i a V vs M p;obtain⟨c,d⟩:=b;refine⟨?_,by simp;omega⟩;rw[show p+1+vs.length=p+vs.length+1 by omega];simpa using c
inductive uJ:List aB->Nat->aB->Prop
 |z {A:aB} {L:List aB}:uJ (A::L) 0 A
 |s {A B:aB} {L:List aB} {k:Nat} (h:uJ L k A):uJ (B::L) (k+1) A
inductive Pk (L:List aB):List Nat->List aB->Prop
 |z:Pk L [] []
 |s {A:aB} {k:Nat} {ks:List Nat} {M:List aB} (h:uJ L k A) (r:Pk L ks M):Pk L (k::ks) (A::M)
theorem kp {E M:Env} {ks:List Nat} (h:Kp E ks M:=by repeat first|exact Kp.z|apply Kp.s|exact z6):Kp E ks M:=h
theorem pt {L T:List aB} {ps:List Pz} (h:Pt L ps T:=by repeat first|exact gy.z|exact sB.z|exact lO.z|apply sB.s|apply lO.s|apply uI.s|apply uI.z|apply Pt.a|apply Pt.c|apply Pt.n|apply gy.s|apply Pt.z):Pt L ps T:=h
theorem ap {L M:List aB} {A:aB} (h:lO L A M:=by repeat first|exact lO.z|apply lO.s):lO L A M:=h
theorem lO.eq {L M:List aB} {A:aB} (h:lO L A M):L++[A]=M:=by induction h with|z=>rfl|s h a=>rw[<-a];rfl
theorem ov {vs M:List Value} (h:lP V p vs M:=by repeat first|exact lP.e|apply lP.z|apply lP.s):lP V p vs M:=h
theorem nr {α:Type _} {L M:List α} (h:gy L M:=by repeat first|exact gy.z|apply gy.s):gy L M:=h
theorem pk {L M:List aB} {ks:List Nat} (h:Pk L ks M:=by repeat first|exact Pk.z|exact uJ.z|apply uJ.s|apply Pk.s):Pk L ks M:=h
section
variable {P:Program} {N:NN} {E M:Env} {I:aV} {w0:World} {L:List aB} {Q:Exit->Act->World->Prop} {α β γ δ:Type} {S0:World->Prop} {ops:Array Oper}
theorem Ga (inv:α->Prop) (m:α->Nat) (ks:List Nat) (G:α->Env) (ps:α->List Pz) (b:α) (h0:inv b) {T:α->List aB} (round: ∀z,inv z->CV P N X (Exit.then (λa w=> ∃d,(inv d/\m d<m z)/\Fits N a (M++G d)/\Hp I w0 (T d) w) Q) (M++G z) (Hp I w0 (T z))) (e:Kp E ks M:=by exact kp) (f: ∀z,Pt L (ps z) (T z):=by intro _;exact pt) (hE:Sub (G b) E:=by exact sb z6) (hT: ∀w,Hp I w0 L w->Hp I w0 (T b) w:=by exact λ_ h=>h):CV P N (.loop X) Q E (Hp I w0 L):=F5 inv m (λz=>M++G z) (λz=>Hp I w0 (T z)) b h0 (rz e.sub hE) hT round
theorem Gb (inv:α->β->Prop) (m:α->β->Nat) (ks:List Nat) (G:α->β->Env) (ps:α->β->List Pz) (b:α) (d:β) (h0:inv b d) {T:α->β->List aB} (round: ∀x y,inv x y->CV P N X (Exit.then (λa w=> ∃e f,(inv e f/\m e f<m x y)/\Fits N a (M++G e f)/\Hp I w0 (T e f) w) Q) (M++G x y) (Hp I w0 (T x y))) (g:Kp E ks M:=by exact kp) (i: ∀x y,Pt L (ps x y) (T x y):=by intro _ _;exact pt) (hE:Sub (G b d) E:=by exact sb z6) (hT: ∀w,Hp I w0 L w->Hp I w0 (T b d) w:=by exact λ_ h=>h):CV P N (.loop X) Q E (Hp I w0 L):=M3 inv m (λx y=>M++G x y) (λx y=>Hp I w0 (T x y)) b d h0 (rz g.sub hE) hT round
theorem Gc (inv:α->β->γ->Prop) (m:α->β->γ->Nat) (ks:List Nat) (G:α->β->γ->Env) (ps:α->β->γ->List Pz) (b:α) (d:β) (e:γ) (h0:inv b d e) {T:α->β->γ->List aB} (round: ∀x y z,inv x y z->CV P N X (Exit.then (λa w=> ∃f g i,(inv f g i/\m f g i<m x y z)/\Fits N a (M++G f g i)/\Hp I w0 (T f g i) w) Q) (M++G x y z) (Hp I w0 (T x y z))) (j:Kp E ks M:=by exact kp) (k: ∀x y z,Pt L (ps x y z) (T x y z):=by intro _ _ _;exact pt) (hE:Sub (G b d e) E:=by exact sb z6) (hT: ∀w,Hp I w0 L w->Hp I w0 (T b d e) w:=by exact λ_ h=>h):CV P N (.loop X) Q E (Hp I w0 L):=R6 inv m (λx y z=>M++G x y z) (λx y z=>Hp I w0 (T x y z)) b d e h0 (rz j.sub hE) hT round
theorem Gj {c:Code} (ks:List Nat) (G:α->Env) (ps:α->List Pz) {T:α->List aB} (d:CV P N X (Exit.then (λa w=> ∃z,Fits N a (M++G z)/\Hp I w0 (T z) w) Q) E (Hp I w0 L)) (e: ∀z,CV P N c Q (M++G z) (Hp I w0 (T z))) (f:Kp E ks M:=by exact kp) (g: ∀z,Pt L (ps z) (T z):=by intro _;exact pt):CV P N (.seq X c) Q E (Hp I w0 L):=F2 (λz=>M++G z) (λz=>Hp I w0 (T z)) d e
theorem Gk {c:Code} (ks:List Nat) (G:α->β->Env) (ps:α->β->List Pz) {T:α->β->List aB} (d:CV P N X (Exit.then (λa w=> ∃x y,Fits N a (M++G x y)/\Hp I w0 (T x y) w) Q) E (Hp I w0 L)) (e: ∀x y,CV P N c Q (M++G x y) (Hp I w0 (T x y))) (f:Kp E ks M:=by exact kp) (g: ∀x y,Pt L (ps x y) (T x y):=by intro _ _;exact pt):CV P N (.seq X c) Q E (Hp I w0 L):=L3 (λx y=>M++G x y) (λx y=>Hp I w0 (T x y)) d e
theorem Gm {c:Code} (ks:List Nat) (G:α->β->γ->δ->Env) (ps:α->β->γ->δ->List Pz) {T:α->β->γ->δ->List aB} (d:CV P N X (Exit.then (λa w=> ∃x y z t,Fits N a (M++G x y z t)/\Hp I w0 (T x y z t) w) Q) E (Hp I w0 L)) (e: ∀x y z t,CV P N c Q (M++G x y z t) (Hp I w0 (T x y z t))) (f:Kp E ks M:=by exact kp) (g: ∀x y z t,Pt L (ps x y z t) (T x y z t):=by intro _ _ _ _;exact pt):CV P N (.seq X c) Q E (Hp I w0 L):=CV.join4 (λx y z t=>M++G x y z t) (λx y z t=>Hp I w0 (T x y z t)) d e
theorem Gv (lt:Array Bool) (a:Nat) (ks:List Nat) (listed:α->Env) (ps:α->List Pz) {T:α->List aB} (b: ∀z,AV P N ops Q S0 a lt (M++listed z) (Hp I w0 (T z))) (c:(∀z,AV P N ops Q S0 a lt (M++listed z) (Hp I w0 (T z)))->AV P N ops Q S0 p G E (Hp I w0 L)) (d:Kp E ks M:=by exact kp) (e: ∀z,Pt L (ps z) (T z):=by intro _;exact pt):AV P N ops Q S0 p G E (Hp I w0 L):=c b
theorem Gn (ks:List Nat) {M:List aB} (d:Pk L ks M) (n:Nat) {l:List Oper} (h:AV P N l.toArray Q (Hp I w0 M) n (Array.replicate n false) E (Hp I w0 L)) (a:P.follows .mixedOrders=true:=by kernel_rfl) (b: ∀w,Hp I w0 L w->Hp I w0 L w.drew:=by exact λ_ h=>h.drew) (c:l.length=n:=by exact z6):CV P N (.region p l.toArray true) Q E (Hp I w0 L):=CV.any (Hp I w0 M) a b n c h
theorem Gy (ks:List Nat) {M:List aB} (e:Pk L ks M) (c n:Nat) {l:List Oper} (h:AC P N l.toArray Q (Hp I w0 M) c n (Array.replicate n false) E (Hp I w0 L)) (a:P.follows .mixedOrders=true:=by kernel_rfl) (b: ∀w,Hp I w0 L w->Hp I w0 L w.drew:=by exact λ_ h=>h.drew) (d:l.length=n:=by exact z6):CV P N (.region p l.toArray true) Q E (Hp I w0 L):=N1 (Hp I w0 M) c a b n d h
variable {rest:List Oper} {KK:Act->World->Prop} {T:Act->World->Prop} {S:World->Prop} {d:Nat} {ty:TypeId} {pos:String} {af:Array Edge} {g:Option (Nat×Bool)} {x y:Operand} {v u:Value} {t:TypeId} {dd:Option Nat}
variable {F F0 Own:List aB} {f:FuncId} {fn:Func} {nt:Nat} {vs:List Value} {args:List Operand} {ts:Array TypeId} {ro:aV} {post:Value->List aB->Prop}
theorem Hc (ks:List Nat) [c:ei P f fn nt] (i:fp E args=some vs) (j:cQ ks L=some (Own,F0)) (l:gy F0 F) (a: ∀ {w:World},Fx P f vs w Own ro post) (k: ∀v e,post v e->KV N KK (set E d v) (Hp I w0 (F++e))) (hro: ∀b,ro b->cn I w0 F b:=by exact λ_ m=>m.elim) (n:Yn N ops d g E:=by exact yn):OV P N ops Q ⟨some d,.call ⟨.value (.func f),args.toArray,ts⟩,ty,pos,af,g⟩ E (Hp I w0 L) KK:=Yc ks i (l.eq▸j) (λw h=>a) k hro n
theorem Hd (ks:List Nat) [c:ei P f fn nt] (i:fp E args=some vs) (j:cQ ks L=some (Own,F0)) (l:gy F0 F) (a: ∀ {w:World},Hp I w0 L w->Fx P f vs w Own ro post) (k: ∀v e,post v e->KV N KK (set E d v) (Hp I w0 (F++e))) (hro: ∀b,ro b->cn I w0 F b:=by exact λ_ m=>m.elim) (n:Yn N ops d g E:=by exact yn):OV P N ops Q ⟨some d,.call ⟨.value (.func f),args.toArray,ts⟩,ty,pos,af,g⟩ E (Hp I w0 L) KK:=Yc ks i (l.eq▸j) (λw h=>a h) k hro n
theorem He (ks:List Nat) {M:List aB} [c:ei P f fn nt] (j:fp E args=some vs) (l:cQ ks L=some (Own,F0)) (m:gy F0 F) (a: ∀ {w:World},Fx P f vs w Own ro (λe i=>e=v/\i=M)) (k:KV N KK (set E d v) (Hp I w0 (F++M))) (hro: ∀b,ro b->cn I w0 F b:=by exact λ_ n=>n.elim) (o:Yn N ops d g E:=by exact yn):OV P N ops Q ⟨some d,.call ⟨.value (.func f),args.toArray,ts⟩,ty,pos,af,g⟩ E (Hp I w0 L) KK:=Yc ks j (m.eq▸l) (λw h=>a) (λe i h=>by obtain⟨rfl,rfl⟩:=h;exact k) hro o
theorem Hf (ks:List Nat) {M:List aB} [c:ei P f fn nt] (j:fp E args=some vs) (l:cQ ks L=some (Own,F0)) (m:gy F0 F) (a: ∀ {w:World},Hp I w0 L w->Fx P f vs w Own ro (λe i=>e=v/\i=M)) (k:KV N KK (set E d v) (Hp I w0 (F++M))) (hro: ∀b,ro b->cn I w0 F b:=by exact λ_ n=>n.elim) (o:Yn N ops d g E:=by exact yn):OV P N ops Q ⟨some d,.call ⟨.value (.func f),args.toArray,ts⟩,ty,pos,af,g⟩ E (Hp I w0 L) KK:=Yc ks j (m.eq▸l) (λw h=>a h) (λe i h=>by obtain⟨rfl,rfl⟩:=h;exact k) hro o
theorem Hr (ks:List Nat) [c:ei P f fn nt] (i:fp E args=some vs) (j:cQ ks L=some (Own,F0)) (l:gy F0 F) (a: ∀ {w:World},Fx P f vs w Own ro post) (k: ∀v e,post v e->RV P N ops Q rest (set E d v) (Hp I w0 (F++e))) (hro: ∀b,ro b->cn I w0 F b:=by exact λ_ m=>m.elim) (n:Yn N ops d g E:=by exact yn):RV P N ops Q (⟨some d,.call ⟨.value (.func f),args.toArray,ts⟩,ty,pos,af,g⟩::rest) E (Hp I w0 L):=A4 (Yc ks i (l.eq▸j) (λw h=>a) k hro n)
theorem Hs (ks:List Nat) [c:ei P f fn nt] (i:fp E args=some vs) (j:cQ ks L=some (Own,F0)) (l:gy F0 F) (a: ∀ {w:World},Hp I w0 L w->Fx P f vs w Own ro post) (k: ∀v e,post v e->RV P N ops Q rest (set E d v) (Hp I w0 (F++e))) (hro: ∀b,ro b->cn I w0 F b:=by exact λ_ m=>m.elim) (n:Yn N ops d g E:=by exact yn):RV P N ops Q (⟨some d,.call ⟨.value (.func f),args.toArray,ts⟩,ty,pos,af,g⟩::rest) E (Hp I w0 L):=A4 (Yc ks i (l.eq▸j) (λw h=>a h) k hro n)
theorem Hu (ks:List Nat) {M:List aB} [c:ei P f fn nt] (j:fp E args=some vs) (l:cQ ks L=some (Own,F0)) (m:gy F0 F) (a: ∀ {w:World},Fx P f vs w Own ro (λe i=>e=v/\i=M)) (k:RV P N ops Q rest (set E d v) (Hp I w0 (F++M))) (hro: ∀b,ro b->cn I w0 F b:=by exact λ_ n=>n.elim) (o:Yn N ops d g E:=by exact yn):RV P N ops Q (⟨some d,.call ⟨.value (.func f),args.toArray,ts⟩,ty,pos,af,g⟩::rest) E (Hp I w0 L):=A4 (Yc ks j (m.eq▸l) (λw h=>a) (λe i h=>by obtain⟨rfl,rfl⟩:=h;exact k) hro o)
theorem Hv (ks:List Nat) {M:List aB} [c:ei P f fn nt] (j:fp E args=some vs) (l:cQ ks L=some (Own,F0)) (m:gy F0 F) (a: ∀ {w:World},Hp I w0 L w->Fx P f vs w Own ro (λe i=>e=v/\i=M)) (k:RV P N ops Q rest (set E d v) (Hp I w0 (F++M))) (hro: ∀b,ro b->cn I w0 F b:=by exact λ_ n=>n.elim) (o:Yn N ops d g E:=by exact yn):RV P N ops Q (⟨some d,.call ⟨.value (.func f),args.toArray,ts⟩,ty,pos,af,g⟩::rest) E (Hp I w0 L):=A4 (Yc ks j (m.eq▸l) (λw h=>a h) (λe i h=>by obtain⟨rfl,rfl⟩:=h;exact k) hro o)
theorem Hk (t:Nat) {p:Prop} {i:Decidable p} (a:get E t=some (.bool (decide p))) (b:p->KV N KK (set E t (.bool true)) S) (c: ¬p->KV N KK (set E t (.bool false)) S):KV N KK E S:=A8 t a (λh=>b (of_decide_eq_true h)) (λh=>c (of_decide_eq_false h))
theorem Jb {ps:List (Nat×Operand)} {vs:List (Nat×Value)} (b:lL E ps=some vs) (h: ∀w,(Instr.build t vs.toArray).run P w= .ok v w) (k:RV P N ops Q rest (set E d v) S) (a:Yn N ops d g E:=by exact yn):RV P N ops Q (⟨some d,.build t ps.toArray,ty,pos,af,g⟩::rest) E S:=A4 (C2 a.y (B3 b h) a.1 k)
theorem Zv (k:Nat) {by_ b o:Nat} {us vs cs:List Value} [i:iL P t O p by_] (f:RV P N ops Q rest E (Hp I w0 (L.set k (aU b (.cells cs.toArray J (0,0)))))) (h:ev E x=some (.pointer (some ⟨b,o,none⟩)):=by exact z6) (j:ev E y=some v:=by exact z6) (l:L[k]?=some (aU b (.cells V.toArray J (0,0))):=by exact z6) (m:v.cells=us.toArray:=by exact z6) (n:gy us vs:=by exact nr) (c:lP V o vs cs:=by exact ov) (a:vs.length=p:=by exact z6) (q: ∀v∈vs,v.oneCell'=true:=by simp[Value.oneCell']) (r:Yq N ops g E:=by exact yq):RV P N ops Q (⟨none,.store t x y,ty,pos,af,g⟩::rest) E (Hp I w0 L):=Zw k vs cs.toArray f h j l (n.eq▸m) (by have:=c.eq.1;simp_all) a (by have:=c.eq.2;simpa using this) q r
theorem Ns {α:Type} (e:TypeId) (K:bO α) {M:List aB} (k:KV N KK E (Hp I w0 M)) (a:lO L (OS e K none 0 []) M:=by exact ap):KV N KK E (Hp I w0 L):=B1 (λ_ h=>a.eq▸h.nilOS) k
theorem Nh {M:List aB} (k:KV N KK E (Hp I w0 M)) (a:gy L M:=by exact nr):KV N KK E (Hp I w0 L):=B1 (λ_ h=>a.eq▸h) k
theorem Ri {α:Type} {K:bO α} {A:Option Addr} {ys:List α} (a:RS U K A ys) (hI: ∀b,¬I b): ∀w',Hp I U L w'->RS w' K A ys:=λ_ h=>h.rs a λ_=>hI _
theorem Rj {α:Type} {K:bO α} {A:Option Addr} {ys:List α} (a:RS U K A ys) (hI: ∀b,¬I b) (c:p<ys.length) (e:(K.f (ys.getD p K.d))[0]?=some O): ∀w',Hp I U L w'->w'.cell? ⟨bk A,of A+p* K.sz,none⟩=some O:=λ_ h=>(h.rs a λ_=>hI _).cell0 c e
end
end Go.Tk
namespace Go.Sv
def Ob {α:Type} (φ:α->Prop) (F:α->List aB):aB where
 sat w I:= ∃a,φ a/\Sep (F a) I w
 lt h x hx:=by obtain⟨a,_,h⟩:=h;exact h.lt x hx
 keep h hk:=by obtain⟨a,p,h⟩:=h;exact⟨a,p,h.keep hk⟩
section
variable {I0:aV} {w0 w:World} {L R:List aB} {α:Type} {φ:α->Prop} {F:α->List aB}
theorem Hp.ob (a:α) (b:φ a) (h:Hp I0 w0 (F a++R) w):Hp I0 w0 (Ob φ F::R) w:=h.bundle (A:=Ob φ F) λ_ c=>⟨a,b,c⟩
theorem Hp.obE (a:α) (b:φ a) (h:Hp I0 w0 (R++F a) w):Hp I0 w0 (R++[Ob φ F]) w:=(Hp.ob a b (h.perm qf)).perm (qi _ _).symm
theorem Hp.unob {k:Nat} (h:Hp I0 w0 L w) (b:L[k]?=some (Ob φ F)): ∃a,φ a/\Hp I0 w0 (L.eraseIdx k++F a) w:=by
 obtain⟨i,j,⟨a,c,d⟩,e,f,g,l,m⟩:=h.at b;exact⟨a,c,(show Hp I0 w0 (F a++L.eraseIdx k) w from⟨λx=>i x\/j x,Sep.append.2 ⟨i,j,λ_=>Iff.rfl,f,d,e⟩,g,λx n=>n.elim (l x) (m x)⟩).perm qf⟩
theorem G7 {N:NN} {K:Act->World->Prop} {E:Env} (k:Nat) (c:L[k]?=some (Ob φ F)) (h: ∀a,φ a->KV N K E (Hp I0 w0 (L.eraseIdx k++F a))):KV N K E (Hp I0 w0 L):=λa w d e=>by
 obtain⟨b,f,g⟩:=e.unob c;exact h b f a w d g
end
section
variable {P:Program} {f:FuncId} {vs:List Value} {w:World} {R:List aB} {ro:aV} {α:Type} {φ:α->Prop} {F:α->List aB} {Φ:Value->Prop}
theorem Fx.ob {post:Value->List aB->Prop} (h: ∀a,φ a->Fx P f vs w (F a++R) ro post) (d: ∀v L,post v L->Φ v/\ ∃b,φ b/\L=F b++R):Fx P f vs w (Ob φ F::R) ro (λv L=>Φ v/\L=Ob φ F::R):=λI g c=>by
 obtain⟨i,j,hI,k,⟨a,l,m⟩,n⟩:=g;refine(h a l I (Sep.append.2 ⟨i,j,hI,k,m,n⟩) c).mono ?_;rintro e u ⟨v,o,p,q,r⟩;obtain⟨s,b,t,rfl⟩:=d v o q;exact⟨v,_,p,⟨s,rfl⟩,Hp.ob b t r⟩
theorem Fx.ob0 {post:Value->List aB->Prop} (h: ∀a,φ a->Fx P f vs w (F a) ro post) (c: ∀v L,post v L->Φ v/\ ∃b,φ b/\L=F b):Fx P f vs w [Ob φ F] ro (λv L=>Φ v/\L=[Ob φ F]):=
 Fx.ob (R:=[]) (λa d=>by rw[qK];exact h a d) (λv L e=>by
  obtain⟨g,b,i,rfl⟩:=c v L e;exact⟨g,b,i,(qK _).symm⟩)
end
section
variable {I0:aV} {w0 w:World} {L R:List aB} {α:Type} {φ:α->Prop} {F:α->List aB}
theorem Hp.ob1 (a:α) (b:φ a) (h:Hp I0 w0 (F a) w):Hp I0 w0 [Ob φ F] w:=Hp.ob a b (by rw[qK];exact h)
end
section
variable {P:Program} {f:FuncId} {vs:List Value} {w:World} {R:List aB} {ro:aV} {α:Type} {φ:α->Prop} {F:α->List aB} {Φ:Value->Prop}
theorem Fx.ob1 (h: ∀a,φ a->Fx P f vs w (F a) ro (λv L=> ∃b,φ b/\Φ v/\L=F b)):Fx P f vs w [Ob φ F] ro (λv L=>Φ v/\L=[Ob φ F]):=
 Fx.ob0 h λv L ⟨b,c,d,e⟩=>⟨d,b,c,e⟩
theorem Fx.ob2 {ψ:α->Prop} (h: ∀a,φ a->Fx P f vs w (F a) ro (λv L=> ∃b,ψ b/\Φ v/\L=F b)):Fx P f vs w [Ob φ F] ro (λv L=>Φ v/\L=[Ob ψ F]):=λI d c=>by
 obtain⟨i,j,hI,s,⟨a,g,l⟩,m⟩:=d;have e:I=i:=funext λx=>propext (by rw[hI x];exact⟨λk=>k.elim id λk=>absurd k (m x),.inl⟩);subst e;exact(h a g I l c).mono λe t ⟨v,u,n,⟨b,o,p,q⟩,r⟩=>⟨v,_,n,⟨p,rfl⟩,Hp.ob1 b o (by rw[<-q];exact r)⟩
end
section
variable {P:Program} {f:FuncId} {vs:List Value} {w:World} {T:List aB} {α:Type} {φ ψ:α->Prop} {F:α->List aB} {Φ:Value->Prop}
theorem Fx.obK (ks:List Nat) (h: ∀a,φ a-> ∃Own R post,cQ ks (F a++T)=some (Own,R)/\(∀w,Fx P f vs w Own no post)/\ ∀v L,post v L->Φ v/\ ∃b,ψ b/\cQ ks (F b++T)=some (L,R)):Fx P f vs w (Ob φ F::T) no (λv L=>Φ v/\L=Ob ψ F::T):=λI g k=>by
 obtain⟨i,j,hI,l,⟨a,m,n⟩,o⟩:=g;obtain⟨Own,R,post,p,q,r⟩:=h a m;refine(Calls.frame (ro:=no) p (Hp.start (show Sep (F a++T) I w from Sep.append.2 ⟨i,j,hI,l,n,o⟩)) (λ_ c=>c.elim) (q w)).mono ?_;rintro e z ⟨v,s,t,u,x⟩;obtain⟨y,b,c,d⟩:=r v s u;exact⟨v,_,t,⟨y,rfl⟩,Hp.ob b c (x.perm (qf.trans (gH d).symm))⟩
end
section
variable {P:Program} {f:FuncId} {vs:List Value} {w:World} {Own:List aB} {ro:aV} {post:Value->List aB->Prop}
def sC (P:Program) (f:FuncId) (vs:List Value) (w:World) (Own:List aB) (ro:aV) (post:Value->List aB->Prop):Prop:=
 ∀I:aV,Sep Own I w->(∀b,ro b-> ¬I b)-> ∀u,CallsD P f vs.toArray u w (λe u' w'=>u'=u/\ ∃v L',e= .returned v/\post v L'/\Hp I w L' w')
theorem sC.body {fn:Func} {c:Code} {N:Nat} (g:P.funcs[f]?=some fn) (i:fn.body=some c) (k:fn.ntmps=N) (l:Nat.ble vs.length N=true)
 (h: ∀I:aV,(∀b,ro b-> ¬I b)->Sep Own I w->CV P ⟨N,[]⟩ c (bodyPost P fn (λe w'=> ∃v d,e= .returned v/\post v d/\Hp I w d w')) (params 0 vs) (Hp I w Own)):sC P f vs w Own ro post:=by
 intro I hI a u;refine callsD_of_wp g i (h I a hI _ _ ⟨rfl,?_,λt v j=>?_⟩ (Hp.start hI))
 ·simp_all
 ·obtain⟨_,m⟩:=uD vs 0 t v j
  grind
def BI (P:Program) (fn:Func) (R:Ending->World->Prop):Exit->Act->World->Prop
 | .normal,a,w| .ret,a,w=>Leaves P fn a.tmps R a.defers .returning w
 |_,_,_=>False
theorem Fx.bodyD {fn:Func} (i:P.funcs[f]?=some fn) (j:fn.body=some X) (l:fn.ntmps=p) (m:Nat.ble vs.length p=true)
 (h: ∀I:aV,(∀b,ro b-> ¬I b)->Sep Own I w->CV P ⟨p,[]⟩ X (BI P fn (λe w'=> ∃v d,e= .returned v/\post v d/\Hp I w d w')) (params 0 vs) (Hp I w Own)):Fx P f vs w Own ro post:=by
 intro I hI a;refine calls_of_wp_defers i j (wp_mono (h I a hI _ _ ⟨rfl,?_,λt v k=>?_⟩ (Hp.start hI)) λe n w' g=>by cases e<;>first|exact g|exact g.elim)
 ·simp_all
 ·obtain⟨_,o⟩:=uD vs 0 t v k
  grind
end
section
variable {P:Program} {I0:aV} {w0:World} {L Own F:List aB}
theorem CallsD.frame {f:FuncId} {u:FrameMode} {ks:List Nat} {ro:aV} {post:Value->List aB->Prop} (z:cQ ks L=some (Own,F)) (hs:Hp I0 w0 L U) (hro: ∀b,ro b->cn I0 w0 F b)
 (h:sC P f V U Own ro post):CallsD P f V.toArray u U (λe u' w'=>u'=u/\ ∃v m,e= .returned v/\post v m/\Hp I0 w0 (F++m) w'):=by
 obtain⟨I,d,q,B⟩:=hs.perm (gH z);obtain⟨C,r,hI,D,E,n⟩:=Sep.append.1 d;refine(h C E (λb G H=>?_) u).mono ?_
 ·rcases hro b G with ⟨g,s⟩|⟨j,A,J,O⟩
  ·grind
  ·obtain⟨i,Q,K,_,M,_⟩:=n.perm (nv J)
   grind
 ·rintro e u' w' ⟨N,v,m,rfl,a,t,p,y,k⟩;refine⟨N,v,m,rfl,a,λx=>r x\/t x,Sep.append.2 ⟨r,t,λ_=>Iff.rfl,λx g s=>?_,n.keep λx l=>y.block x (n.lt x l) λc=>D x c l,p⟩,q.trans y λx c=>B x ((hI x).2 (.inl c)),?_⟩
  ·rcases k x s with o|o
   ·grind
   ·have:=n.lt x g;omega
  ·rintro x (g|g)
   ·grind
   ·rcases k x g with o|o
    ·grind
    ·exact .inr (qk q.size o)
variable {N:NN} {ops:Array Oper} {Q:Exit->Act->World->Prop} {E:Env} {S:World->Prop} {KK:Act->World->Prop}
theorem J6 {d:Option Nat} {n:Nat} {D:List Deferred} {f:FuncId} {vs:List Value} {args:List Operand} {ts:Array TypeId} {ty:TypeId} {pos:String} {af:Array Edge} {g:Option (Nat×Bool)}
 (e:d=none) (h:fp E args=some vs) (i:dJ ⟨n,D⟩ ops ⟨d,.defer ⟨.value (.func f),args.toArray,ts⟩,ty,pos,af,g⟩ E)
 (k:KV ⟨n,⟨.fn (.func f) #[],vs.toArray⟩::D⟩ KK E S):OV P ⟨n,D⟩ ops Q ⟨d,.defer ⟨.value (.func f),args.toArray,ts⟩,ty,pos,af,g⟩ E S KK:=λa w b j=>by
 subst e;rw[if_pos (i a b)];unfold Oper.wp;have l:a.eval (.func f)= .func (.func f) #[] #[]:=rfl;have m:args.toArray.map a.eval=vs.toArray:=by rw[<-b.evs h];simp
 have c:(execOp a.eval ⟨none,.defer ⟨.value (.func f),args.toArray,ts⟩,ty,pos,af,g⟩).run P w= .ok (.defer ⟨.fn (.func f) #[],vs.toArray⟩) w:=by
  simp_all[execOp,resolve,Deferred.ofValue]
 rw[c,Oper.upon_defer];exact k _ _ ⟨by show _::a.defers=_;rw[b.defers],b.size,b.slot⟩ j
theorem H7 (ks:List Nat) {fn i:Func} {g:FuncId} {ro:aV} {v post:Value->List aB->Prop} {t:Tmp} (s:fn.results= #[.tmp t]) (u:get E t=some O)
 (x:P.funcs[g]?=some i) (m:i.body.isSome=true) (o:(i.name== "runtime.NumGoroutine")=false) (y:cQ ks L=some (Own,F)) (j: ∀w,Hp I0 w0 L w->sC P g V w Own ro v) (hro: ∀b,ro b->cn I0 w0 F b)
 (k: ∀v2 d,v v2 d-> ∃l,post O l/\ ∀w,Hp I0 w0 (F++d) w->Hp I0 w0 l w):
 KV ⟨p,[⟨.fn (.func g) #[],V.toArray⟩]⟩ (BI P fn (λe w'=> ∃O d,e= .returned O/\post O d/\Hp I0 w0 d w') .ret) E (Hp I0 w0 L):=λa w q r=>by
 show Leaves P fn a.tmps _ a.defers .returning w;rw[q.defers];have z:i.body.isNone=false:=by simp_all
 have A: ¬i.name= "runtime.NumGoroutine":=zg
 have B: ¬i.body=none:=zg
 refine leaves_cons (f:=g) (args:=V.toArray) zm (by simp_all[invoke,callFunc]) ((CallsD.frame y r hro (j w r)).mono ?_);rintro e u' w' ⟨rfl,v2,d,rfl,h,C⟩;obtain⟨l,D,G⟩:=k v2 d h;exact⟨O,by rw[results_tmp s];simp[q.slot t O u],O,l,rfl,D,G w' C⟩
end
section
variable {P:Program} {f:FuncId} {vs:List Value} {w:World} {T:List aB} {α:Type} {φ:α->Prop} {F:α->List aB}
theorem Fx.obG {Ψ:Value->List aB->Prop} (h: ∀a,φ a-> ∀I0,Hp I0 w (F a++T) w-> ∃ks M Own R post,Hp I0 w M w/\cQ ks M=some (Own,R)/\(∀w,Fx P f vs w Own no post)/\ ∀v L c,post v L->Hp I0 w (R++L) c-> ∃b,Ψ v b/\Hp I0 w b c):Fx P f vs w (Ob φ F::T) no Ψ:=λI d g=>by
 obtain⟨i,j,hI,k,⟨a,l,m⟩,n⟩:=d;obtain⟨ks,M,Own,R,post,o,p,q,r⟩:=h a l I (Hp.start (show Sep (F a++T) I w from Sep.append.2 ⟨i,j,hI,k,m,n⟩));refine(Calls.frame (ro:=no) p o (λ_ s=>s.elim) (q w)).mono ?_;rintro e t ⟨v,u,x,y,z⟩;obtain⟨b,A,B⟩:=r v u t y z;exact⟨v,b,x,A,B⟩
end
end Go.Sv
namespace Go.Sv
open Go
structure Lq where
 i:Nat
 d:Nat
 o:Oper
 v:Option Addr->Nat->Value
 A:Option Addr->Nat->aB
section
variable {P:Program} {N:NN} {ops:Array Oper} {Q:Exit->Act->World->Prop} {I:aV} {w0:World} {S0:World->Prop} {E:Env} {L:List aB}
abbrev Gq:=Nat->Option Addr×Nat
def jW (f:Gq) (E:Env) (D:List Lq):Env:=D.foldl (λE s=>set E s.d (s.v (f s.i).1 (f s.i).2)) E
def mL (f:Gq) (D:List Lq):List aB:=D.map λs=>s.A (f s.i).1 (f s.i).2
def Lq.ok (P:Program) (N:NN) (ops:Array Oper) (Q:Exit->Act->World->Prop) (I:aV) (w0:World) (E:Env) (s:Lq):Prop:=
 ops[s.i]?=some s.o/\ ∀(E':Env) (L:List aB) (KK:Act->World->Prop),Sub E E'->(∀A c,KV N KK (set E' s.d (s.v A c)) (Hp I w0 (L++[s.A A c])))->OV P N ops Q s.o E' (Hp I w0 L) KK
def vg (ops:Array Oper) (lt:Array Bool):Nat->List Nat->Array Bool->Bool
 |0,r,l=>r.isEmpty&&l==lt
 |n+1,r,l=>!r.isEmpty&&Region.ready .any ops l==r&&r.all λi=>vg ops lt n (r.erase i) (l.setIfInBounds i true)
theorem Gz (f:Gq): ∀(D:List Lq) {E1 E2:Env},(∀t,get E1 t=get E2 t)-> ∀t,get (jW f E1 D) t=get (jW f E2 D) t
 |[],_,_,h=>h
 |s::D,_,_,h=>Gz f D λt=>by simp only[set,get];cases Nat.beq s.d t<;>simp[h t]
theorem Rr (f:Gq) {D g:List Lq} (p:D.Perm g) (a:(D.map (·.d)).Nodup) {E1 E2:Env} (h: ∀t,get E1 t=get E2 t): ∀t,get (jW f E1 D) t=get (jW f E2 g) t:=by
 induction p generalizing E1 E2 with
 |nil=>exact h
 |cons s _ i=>exact i (by simp at a;exact a.2) λt=>by simp only[set,get];cases Nat.beq s.d t<;>simp[h t]
 |swap s r D=>
  refine Gz f D λt=>?_;simp only[get,set];have b:r.d≠s.d:=by simp at a;grind
  rw[h t];cases j:Nat.beq s.d t<;>cases k:Nat.beq r.d t<;>simp;exact absurd ((Nat.beq_eq▸k:r.d=t).trans (Nat.beq_eq▸j:s.d=t).symm) b
 |trans p _ c e=>exact λt=>(c a (λt=>rfl) t).trans (e ((p.map _).nodup a) h t)
theorem KV.envG {K:Act->World->Prop} {E1 E2:Env} {S:World->Prop} (h: ∀t,get E2 t=get E1 t) (k:KV N K E1 S):KV N K E2 S:=λa w b c=>k a w ⟨b.defers,b.size,λt v d=>b.slot t v ((h t).trans d)⟩ c
theorem Sub.put {E E':Env} (h:Sub E E') (a: ∀v∈E,v.1≠p):Sub E (set E' p O):=by
 induction E with
 |nil=>trivial
 |cons v r b=>exact⟨(Aq _ _ (a v zm)).trans h.1,b h.2 λq c=>a q (by simp[c])⟩
theorem AV.free {ss:List Lq} (S: ∀s∈ss,Lq.ok P N ops Q I w0 E s) (Y:(ss.map (·.d)).Nodup) (Z:(ss.map (·.i)).Nodup) (hE: ∀lt∈E,∀s∈ss,lt.1≠s.d) (hS: ∀w,Hp I w0 L w->S0 w)
 (k: ∀f:Gq,AV P N ops Q S0 p G (jW f E ss) (Hp I w0 (L++mL f ss))):
 ∀(n:Nat) (r D:List Lq) (listed:Array Bool) (f:Gq),(D++r).Perm ss->n=r.length->vg ops G n (r.map (·.i)) listed=true->Sub E (jW f E D)->AV P N ops Q S0 (p+n) listed (jW f E D) (Hp I w0 (L++mL f D)):=by
 intro n
 induction n with
 |zero=>
  intro r D listed f g H F z;obtain rfl:r=[]:=List.length_eq_zero_iff.1 H.symm;obtain rfl:listed=G:=by simpa[vg] using F
  rw[qK] at g;exact KV.envG (Rr f g ((g.symm.map _).nodup Y) λ_=>rfl) (B1 (λw h=>h.perm ((List.Perm.refl L).append (g.map _))) (k f))
 |succ n ih=>
  intro r D listed f g H F z;simp only[vg,qg,List.all_eq_true] at F;obtain⟨⟨J,K⟩,B⟩:=F;refine M0 (fuel:=p+n) (r.map (·.i)) (by simpa using K) (by intro e;simp[e] at J) ?_;have key: ∀l:List Lq,(∀s∈l,s∈r)->mj P N ops Q S0 (p+n) listed (jW f E D) (Hp I w0 (L++mL f D)) (l.map (·.i)):=by
   intro l
   induction l with
   |nil=>intro _;trivial
   |cons s l il=>
    intro T;have m:s∈r:=T s zm;have x:s∈ss:=g.subset (by simp[m]);refine⟨⟨s.o,(S s x).1,(S s x).2 _ _ _ z λA c=>?_⟩,il λt C=>T t (by simp[C])⟩;have q:((D++r).map (·.i)).Nodup:=(g.symm.map _).nodup Z
    let b:Gq:=λj=>if j=s.i then (A,c) else f j
    have U: ∀t∈D,b t.i=f t.i:=λt C=>by
     have:t.i≠s.i:=by
      rw[qN,List.nodup_append] at q;exact q.2.2 _ (List.mem_map_of_mem C) _ (List.mem_map_of_mem m)
     simp[b,this]
    have M: ∀(y:List Lq) (E0:Env),(∀t∈y,b t.i=f t.i)->jW b E0 y=jW f E0 y:=by
     intro y
     induction y with
     |nil=>intros;rfl
     |cons t y it=>intro E0 h;simp only[jW,List.foldl_cons,h t zm];exact it _ λu hu=>h u (by simp[hu])
    have V:set (jW f E D) s.d (s.v A c)=jW b E (D++[s]):=by
     simp only[jW,List.foldl_append,List.foldl_cons,List.foldl_nil];rw[show D.foldl _ E=jW b E D from rfl,M D E U];simp[b,jW]
    have e2:L++mL f D++[s.A A c]=L++mL b (D++[s]):=by
     have e3:mL b D=mL f D:=List.map_congr_left λt C=>by simp only[U t C]
     have e4:mL b (D++[s])=mL b D++[s.A A c]:=by simp[mL,b]
     rw[e4,e3,qL]
    rw[V,e2];refine R4 _ z6 (λw h=>hS w h.sub) ?_;obtain⟨O,W,rfl⟩:=List.append_of_mem m;have X:=B s.i (List.mem_map_of_mem m);have R:s.i∉O.map (·.i):=λhx=>by
     rw[qN,qN,List.nodup_append] at q;have:=q.2.1;rw[List.nodup_append] at this;exact this.2.2 _ hx s.i zm rfl
    rw[qN,List.map_cons,List.erase_append_right _ R,List.erase_cons_head,<-qN] at X;refine ih (O++W) (D++[s]) _ b ?_ ?_ X ?_
    ·refine List.Perm.trans ?_ g;rw[qL];exact(List.Perm.refl D).append (List.perm_middle (a:=s) (l₁:=O) (l₂:=W)).symm
    ·simp at H ⊢;omega
    ·rw[<-V];exact z.put λlt g=>hE lt g s x
  exact key r λs z=>z
inductive uK (P:Program) (N:NN) (ops:Array Oper) (Q:Exit->Act->World->Prop) (I:aV) (w0:World) (E:Env):List Lq->Prop
 |z:uK P N ops Q I w0 E []
 |s {s:Lq} {ss:List Lq} (h:Lq.ok P N ops Q I w0 E s) (r:uK P N ops Q I w0 E ss):uK P N ops Q I w0 E (s::ss)
theorem uK.mem {ss:List Lq} (h:uK P N ops Q I w0 E ss): ∀s∈ss,Lq.ok P N ops Q I w0 E s:=by
 induction h with
 |z=>intro s a;cases a
 |s h r b=>exact λt c=>(qe.1 c).elim (λe=>e▸h) (b t)
def og:List Nat->Bool
 |[]=>true
 |x::r=>!r.contains x&&og r
theorem og.nodup: ∀ {l:List Nat},og l=true->l.Nodup
 |[],_=>List.nodup_nil
 |x::r,h=>by simp[og] at h;exact List.nodup_cons.2 ⟨h.1,og.nodup h.2⟩
theorem Sub.ev {E E':Env} (h:Sub E E') {x:Operand} {v:Value} (a:ev E x=some v):ev E' x=some v:=by
 cases x with
 |tmp t=>exact h.get a
 |const u=>exact a
 |global g=>exact a
 |func f=>exact a
end
end Go.Sv
namespace Go.Tk
open Go Go.Sv
section
variable {P:Program} {N:NN} {ops:Array Oper} {Q:Exit->Act->World->Prop} {I:aV} {w0:World} {S0:World->Prop} {E:Env} {L:List aB} {α:Type} {K:bO α} {e t:TypeId} {d:Nat} {x y:Operand} {ty:TypeId} {pos:String} {af:Array Edge} {ze:Value} {sz by_:Nat}
theorem Lz (i n:Nat) (c:α) {l m:IntKind} {a b:Int} [w:US P t e] [z:iL P e ze sz by_] (o:ops[i]?=some ⟨some d,.makeSlice t x y,ty,pos,af,none⟩) (p:ev E x=some (.int l a)) (q:ev E y=some (.int m b)) (g:a=(n:Int):=by exact z6) (j:b=(n:Int):=by exact z6) (r:ze.cells.toList=K.f c:=by exact z6) (hs:sz=K.sz:=by exact z6) (s:by_* n<=281474976710656:=by omega) (u:n<=9223372036854775807:=by omega) (v:Nat.blt d N.n=true:=by exact z6):
 Lq.ok P N ops Q I w0 E ⟨i,d,⟨some d,.makeSlice t x y,ty,pos,af,none⟩,λA _=> .slice A n n,λA _=>OS e K A n (List.replicate n c)⟩:=⟨o,λ_ _ _ h k=>Zm n c (λA=>k A 0) (h.ev p) (h.ev q) g j r hs s u (yn v)⟩
theorem Ly (i:Nat) {B:Option Addr} {cB:Nat} {zs:List α} [v:US P t e] [z:iL P e ze sz by_] (f:ops[i]?=some ⟨some d,.call ⟨.builtin .append,#[x,y],#[t,t]⟩,ty,pos,af,none⟩) (g:ev E x=some (.slice none 0 0)) (j:ev E y=some (.slice B p cB)) (l: ∀L w,Hp I w0 L w->RS w K B zs) (a:p=zs.length) (o:zs.length* by_<=140737488355328:=by omega) (hs:sz=K.sz:=by exact z6) (b:ze.cells.size=K.sz:=by exact z6) (m:0<by_:=by decide) (r:Nat.blt d N.n=true:=by exact z6):
 Lq.ok P N ops Q I w0 E ⟨i,d,⟨some d,.call ⟨.builtin .append,#[x,y],#[t,t]⟩,ty,pos,af,none⟩,λA c=> .slice A zs.length c,λA c=>OS e K A c zs⟩:=⟨f,λ_ M _ h k=>O1 (λ_ q=>q.nilOS (J:=e) (K:=K)) (Ye M.length (h.ev g) (h.ev j) (n:=0) z6 a (show(M++[OS e K none 0 []])[M.length]?=some (OS e K none 0 []) from zm) (λw q=>l _ w q) (by simpa using o) (λs u=>by simpa using k s u) hs b m (yn r))⟩
theorem Vf {ss:List Lq} (lt:Array Bool) (a:Nat) (ok:uK P N ops Q I w0 E ss) (k: ∀f:Gq,AV P N ops Q S0 a lt (jW f E ss) (Hp I w0 (L++mL f ss))) (b:(vg ops lt ss.length (ss.map (·.i)) G&&og (ss.map (·.d))&&og (ss.map (·.i))&&(E.map Prod.fst).all λp=>(ss.map (·.d)).all λs=>p !=s)=true:=by kernel_rfl) (e: ∀w,Hp I w0 L w->S0 w:=by exact Ho) (hE:Sub E E:=by exact sb z6):AV P N ops Q S0 (a+ss.length) G E (Hp I w0 L):=by
 simp only[qg] at b;obtain⟨⟨⟨g,h⟩,j⟩,c⟩:=b;have:=AV.free ok.mem (og.nodup h) (og.nodup j) (λp l s m=>by simp at c;exact c p.1 p.2 l s m) e k ss.length ss [] G (λ_=>(none,0)) (List.Perm.refl _) z6 g hE;simpa[jW,mL] using this
end
end Go.Tk
namespace Go.Sv
abbrev vI (x:Int):Value:= .int .i64 x
abbrev vU (x:Int):Value:= .int .u64 x
abbrev pT (b:Nat):Value:= .pointer (some ⟨b,0,none⟩)
abbrev bK (b:Nat) (t:TypeId) (c:Array Value):aB:=aU b (.cells c t (0,0))
end Go.Sv
