/-
  Joined.
-/
import Derived.Test.YtkofjhglgoojiaaGreatDoorP01
import Derived.LoopN
set_option linter.unusedSimpArgs false
set_option linter.unusedVariables false
namespace Go.Sv.Ex
open Go
set_option linter.constructorNameAsVariable false
inductive C where
 |i (k:IntKind) (n:Int)
 |b (x:Bool)
 |s (x:ByteArray)
 |fn (g:FuncId)
 |np|ns|nm|nf
 |p (id off:Nat)
 |sl (id n:Nat)
 |m (id:Nat)
 deriving DecidableEq
inductive Y where
 |c (x:C)
 |a (l:List C)
 deriving DecidableEq
inductive X where
 |y (v:Y)
 |t (l:List Y)
 |u
 deriving DecidableEq
structure Z where
 r:Nat→Nat
 c:Nat→Nat
def C.den (z:Z):C→Value
 | .i k n=> .int k n
 | .b x=> .bool x
 | .s x=> .string x
 | .fn g=> .func (.func g) #[] #[]
 | .np=> .pointer none
 | .ns=> .slice none 0 0
 | .nm=> .map none
 | .nf=> .nilFunc
 | .p id off=> .pointer (some ⟨z.r id,off,none⟩)
 | .sl id n=> .slice (some ⟨z.r id,0,none⟩) n (z.c id)
 | .m id=> .map (some (z.r id))
def Y.den (z:Z):Y→Value
 | .c x=>x.den z
 | .a l=> .agg (l.map (C.den z)).toArray
def X.den (z:Z):X→Value
 | .y v=>v.den z
 | .t l=> .tuple (l.map (Y.den z)).toArray
 | .u=>undef
theorem C.one (z:Z) (c:C):(c.den z).oneCell'=true:=by cases c<;>rfl
def nin (lo hi id:Nat):Bool:=Nat.blt id lo||Nat.ble hi id
def C.ok (lo hi:Nat):C→Bool
 | .p id _| .sl id _| .m id=>nin lo hi id
 |_=>true
noncomputable def allR {α:Type} (p:α→Bool) (l:List α):Bool:=List.rec (motive:=fun _=>Bool) true (fun c _ ih=>bif p c then ih else false) l
theorem allR_eq {α:Type} (p:α→Bool): ∀l:List α,allR p l=l.all p
 |[]=>rfl
 |c::r=>by
  show(bif p c then allR p r else false)=_
  rw[allR_eq p r,List.all_cons]
  cases p c<;>rfl
noncomputable def Y.ok (lo hi:Nat):Y→Bool
 | .c x=>x.ok lo hi
 | .a l=>allR (C.ok lo hi) l
noncomputable def X.ok (lo hi:Nat):X→Bool
 | .y v=>v.ok lo hi
 | .t l=>l.all (Y.ok lo hi)
 | .u=>true
def Z.ext (lo hi:Nat) (z z':Z):Prop:= ∀id,nin lo hi id=true→z'.r id=z.r id∧z'.c id=z.c id
theorem Z.ext.refl (lo hi:Nat) (z:Z):Z.ext lo hi z z:=fun _ _=>⟨rfl,rfl⟩
theorem Z.ext.trans {lo hi:Nat} {a b c:Z} (h:Z.ext lo hi a b) (k:Z.ext lo hi b c):Z.ext lo hi a c:=fun id hn=>⟨(k id hn).1.trans (h id hn).1,(k id hn).2.trans (h id hn).2⟩
theorem nin_wide {lo hi lo' hi' id:Nat} (h1:lo'≤lo) (h2:hi≤hi') (h:nin lo' hi' id=true):nin lo hi id=true:=by
 simp only[nin,Bool.or_eq_true,Nat.blt_eq,Nat.ble_eq] at *
 omega
theorem Z.ext.wide {lo hi lo' hi':Nat} {a b:Z} (h:Z.ext lo hi a b) (h1:lo'≤lo) (h2:hi≤hi'):Z.ext lo' hi' a b:=fun id hn=>h id (nin_wide h1 h2 hn)
theorem C.den_ext {lo hi:Nat} {z z':Z} (h:Z.ext lo hi z z') {c:C} (hc:c.ok lo hi=true):c.den z'=c.den z:=by
 cases c<;>simp only[C.den,C.ok] at* <;>simp[(h _ hc).1,(h _ hc).2]
theorem list_ext {α β:Type} {f g:α→β} {p:α→Bool} (h: ∀x,p x=true→f x=g x): ∀ {l:List α},l.all p=true→l.map f=l.map g
 |[],_=>rfl
 |x::l,hl=>by
  simp only[List.all_cons,Bool.and_eq_true] at hl
  simp only[List.map_cons,h x hl.1,list_ext h hl.2]
theorem Y.den_ext {lo hi:Nat} {z z':Z} (h:Z.ext lo hi z z') {v:Y} (hv:v.ok lo hi=true):v.den z'=v.den z:=by
 cases v with
 |c x=>exact C.den_ext h hv
 |a l=>simp only[Y.den,list_ext (fun c hc=>C.den_ext h (c:=c) hc) ((allR_eq (C.ok lo hi) l).symm.trans hv)]
theorem X.den_ext {lo hi:Nat} {z z':Z} (h:Z.ext lo hi z z') {v:X} (hv:v.ok lo hi=true):v.den z'=v.den z:=by
 cases v with
 |y x=>exact Y.den_ext h hv
 |t l=>simp only[X.den,list_ext (fun c hc=>Y.den_ext h (v:=c) hc) hv]
 |u=>rfl
abbrev XE:=List (Nat×X)
noncomputable def xget (E:XE) (t:Nat):Option X:=List.rec (motive:=fun _=>Option X) none (fun p _ ih=>bif Nat.beq p.1 t then some p.2 else ih) E
theorem xget_cons (k:Nat) (v:X) (r:XE) (t:Nat):xget ((k,v)::r) t=bif Nat.beq k t then some v else xget r t:=rfl
def xset:XE→Nat→X→XE
 |[],t,v=>[(t,v)]
 |(k,u)::r,t,v=>bif Nat.beq k t then (t,v)::r else bif Nat.blt t k then (t,v)::(k,u)::r else (k,u)::xset r t v
def Ed (z:Z) (E:XE):Env:=E.map fun p=>(p.1,p.2.den z)
theorem get_Ed (z:Z): ∀(E:XE) (t:Nat),get (Ed z E) t=(xget E t).map (X.den z)
 |[],_=>rfl
 |(k,v)::r,t=>by
  have ih:=get_Ed z r t
  simp only[Ed] at ih
  simp only[Ed,List.map_cons,get,xget_cons,ih]
  cases Nat.beq k t<;>rfl
theorem get_xset (z:Z): ∀(E:XE) (t:Nat) (v:X) (s:Nat),get (Ed z (xset E t v)) s=get (set (Ed z E) t (v.den z)) s
 |[],t,v,s=>rfl
 |(k,u)::r,t,v,s=>by
  have ih:=get_xset z r t v s
  simp only[Ed,set,get] at ih
  simp only[Ed,xset,set,List.map_cons]
  cases h1:Nat.beq k t with
  |true=>
   have hk:=Nat.eq_of_beq_eq_true h1
   subst hk
   simp only[cond_true,List.map_cons,get]
   cases Nat.beq k s<;>rfl
  |false=>
   cases h2:Nat.blt t k with
   |true=>simp[get]
   |false=>
    simp only[cond_false,List.map_cons,get,ih]
    cases h3:Nat.beq k s with
    |false=>rfl
    |true=>
     have hk:=Nat.eq_of_beq_eq_true h3
     subst hk
     have:Nat.beq t k=false:=by rw[←Bool.not_eq_true,Nat.beq_eq];rintro rfl;rw[Nat.beq_refl] at h1;cases h1
     simp[this]
theorem KV.getE {N:NN} {K:Act→World→Prop} {E E':Env} {S:World→Prop} (h: ∀s v,get E' s=some v→get E s=some v) (k:KV N K E' S):KV N K E S:=
 fun a w hf hs=>k a w ⟨hf.defers,hf.size,fun t v hv=>hf.slot t v (h t v hv)⟩ hs
def nE (E:XE):XE:=E.foldr (fun p a=>xset a p.1 p.2) []
theorem get_nE (z:Z): ∀(E:XE) (s:Nat),get (Ed z (nE E)) s=get (Ed z E) s
 |[],_=>rfl
 |(k,v)::r,s=>by
  have ih:=get_nE z r s
  have h:=get_xset z (nE r) k v s
  simp only[nE,List.foldr_cons] at h ih ⊢
  rw[h]
  simp only[set,get,Ed,List.map_cons] at ih ⊢
  cases Nat.beq k s
  ·exact ih
  ·rfl
theorem KV.nE {z:Z} {N:NN} {K:Act→World→Prop} {E:XE} {S:World→Prop} (k:KV N K (Ed z (nE E)) S):KV N K (Ed z E) S:=KV.getE (fun s u h=>by rw[←get_nE];exact h) k
noncomputable def okE (lo hi:Nat) (E:XE):Bool:=allR (fun p=>p.2.ok lo hi) E
theorem Ed_ext {lo hi:Nat} {z z':Z} (h:Z.ext lo hi z z') {E:XE} (hE:okE lo hi E=true):Ed z' E=Ed z E:=
 list_ext (p:=fun(p:Nat×X)=>p.2.ok lo hi) (fun p hp=>by rw[X.den_ext h hp]) ((allR_eq (fun(p:Nat×X)=>p.2.ok lo hi) E).symm.trans hE)
def rawK (m:Nat):Enc (List Value) where
 f l:=(l.map fun v=>if v.oneCell' then v else .bool false).take (m+1)++List.replicate (m+1-l.length) (.bool false)
 sz:=m+1
 d:=[]
 len l:=by simp;omega
 pos:=by omega
 one l v hv:=by
  simp only[List.mem_append,List.mem_replicate] at hv
  rcases hv with hv|⟨_,rfl⟩
  ·obtain⟨u,_,rfl⟩:=List.mem_map.1 (List.mem_of_mem_take hv)
   split
   ·assumption
   ·rfl
  ·rfl
theorem rawK_f {m:Nat} (z:Z) {l:List C} (h:l.length=m+1):(rawK m).f (l.map (C.den z))=l.map (C.den z):=by
 simp only[rawK,List.map_map,List.length_map,h,Nat.sub_self,List.replicate_zero,List.append_nil]
 rw[show(fun v=>if v.oneCell'=true then v else Value.bool false)∘C.den z=C.den z from funext fun c=>by simp[C.one]]
 rw[List.take_of_length_le (by simp[h])]
inductive B where
 |blk (id:Nat) (t:TypeId) (l:List C)
 |row (id:Nat) (e:TypeId) (m:Nat) (ys:List (List C))
 deriving DecidableEq
def B.id:B→Nat
 | .blk id _ _| .row id _ _ _=>id
def B.den (z:Z):B→Assn
 | .blk id t l=>Blk (z.r id) (.cells (l.map (C.den z)).toArray t (0,0))
 | .row id e m ys=>OS e (rawK m) (some ⟨z.r id,0,none⟩) (z.c id) (ys.map fun l=>l.map (C.den z))
noncomputable def B.ok (lo hi:Nat):B→Bool
 | .blk id _ l=>nin lo hi id&&allR (C.ok lo hi) l
 | .row id _ _ ys=>nin lo hi id&&allR (allR (C.ok lo hi)) ys
def Hd (z:Z) (H:List B):List Assn:=H.map (B.den z)
noncomputable def okH (lo hi:Nat) (H:List B):Bool:=allR (B.ok lo hi) H
theorem okH_all {lo hi:Nat} {H:List B} (h:okH lo hi H=true):H.all (B.ok lo hi)=true:=(allR_eq (B.ok lo hi) H).symm.trans h
theorem okH_of {lo hi:Nat} {H:List B} (h:H.all (B.ok lo hi)=true):okH lo hi H=true:=(allR_eq (B.ok lo hi) H).trans h
theorem okR_all {lo hi:Nat} {ys:List (List C)} (h:allR (allR (C.ok lo hi)) ys=true):ys.all (fun l=>l.all (C.ok lo hi))=true:=by
 rw[allR_eq] at h
 exact List.all_eq_true.2 fun l hl=>by have:=List.all_eq_true.1 h l hl;rwa [allR_eq] at this
theorem B.den_ext {lo hi:Nat} {z z':Z} (h:Z.ext lo hi z z') {v:B} (hv:v.ok lo hi=true):v.den z'=v.den z:=by
 cases v with
 |blk id t l=>
  simp only[B.ok,Bool.and_eq_true] at hv
  simp only[B.den,list_ext (fun c hc=>C.den_ext h (c:=c) hc) ((allR_eq (C.ok lo hi) l).symm.trans hv.2),(h id hv.1).1]
 |row id e m ys=>
  simp only[B.ok,Bool.and_eq_true] at hv
  have e1:ys.map (fun l=>l.map (C.den z'))=ys.map (fun l=>l.map (C.den z)):=list_ext (p:=fun l=>l.all (C.ok lo hi)) (fun l hl=>list_ext (fun c hc=>C.den_ext h (c:=c) hc) hl) (okR_all hv.2)
  simp only[B.den,(h id hv.1).1,(h id hv.1).2,e1]
theorem Hd_ext {lo hi:Nat} {z z':Z} (h:Z.ext lo hi z z') {H:List B} (hH:okH lo hi H=true):Hd z' H=Hd z H:=list_ext (fun b hb=>B.den_ext h hb) (okH_all hH)
noncomputable def findB (H:List B) (id:Nat):Option (Nat×B):=List.rec (motive:=fun _=>Option (Nat×B)) none (fun b _ ih=>bif Nat.beq b.id id then some (0,b) else match ih with
 |some (k,b)=>some (k+1,b)
 |none=>none) H
theorem findB_get: ∀ {H:List B} {id k:Nat} {b:B},findB H id=some (k,b)→H[k]?=some b∧b.id=id
 |[],_,_,_,h=>by cases h
 |b0::r,id,k,b,h=>by
  replace h:(bif Nat.beq b0.id id then some (0,b0) else match findB r id with
   |some (k,b)=>some (k+1,b)
   |none=>none)=some (k,b):=h
  cases hb:Nat.beq b0.id id with
  |true=>
   simp only[hb,cond_true,Option.some.injEq,Prod.mk.injEq] at h
   obtain⟨rfl,rfl⟩:=h
   exact⟨rfl,Nat.eq_of_beq_eq_true hb⟩
  |false=>
   simp only[hb,cond_false] at h
   split at h
   ·rename_i k' b' hf
    obtain⟨h1,h2⟩:=findB_get hf
    simp only[Option.some.injEq,Prod.mk.injEq] at h
    obtain⟨rfl,rfl⟩:=h
    exact⟨by simpa using h1,h2⟩
   ·cases h
def B.cells:B→Option (List C)
 | .blk _ _ l=>some l
 | .row _ _ m ys=>if ys.all (fun l=>Nat.beq l.length (m+1)) then some ys.flatten else none
theorem flat_raw (z:Z) {m:Nat}: ∀ {ys:List (List C)},ys.all (fun l=>Nat.beq l.length (m+1))=true→flat (rawK m) (ys.map fun l=>l.map (C.den z))=ys.flatten.map (C.den z)
 |[],_=>rfl
 |l::ys,h=>by
  simp only[List.all_cons,Bool.and_eq_true] at h
  have ih:=flat_raw z h.2
  simp only[flat] at ih
  simp only[flat,List.map_cons,List.flatMap_cons,ih,rawK_f z (Nat.eq_of_beq_eq_true h.1),List.flatten_cons,List.map_append]
variable {I:Ids} {w0 w:World} {H:List B} {z:Z}
theorem cell_ok (h:Hp I w0 (Hd z H) w) {id k:Nat} {b:B} (hf:findB H id=some (k,b)) {l:List C} (hl:b.cells=some l) {o:Nat} {c:C} (hc:l[o]?=some c):w.cell? ⟨z.r id,o,none⟩=some (c.den z):=by
 obtain⟨h1,rfl⟩:=findB_get hf
 have hk:(Hd z H)[k]?=some (b.den z):=by simp[Hd,h1]
 cases b with
 |blk id t cs=>
  simp only[B.cells,Option.some.injEq] at hl
  subst hl
  exact h.cell k hk (by simp[hc])
 |row id e m ys=>
  simp only[B.cells] at hl
  split at hl
  ·rename_i ha
   obtain rfl:=Option.some.inj hl
   rcases h.os k hk with h0|⟨cur,t,fz,_,hb,hcur⟩
   ·have:ys=[]:=by simpa using h0
    subst this
    simp at hc
   ·have:=hcur o (c.den z) (by rw[flat_raw z ha,List.getElem?_map,hc];rfl)
    simp only[bk,of,Nat.zero_add] at hb this
    rw[B.id,cell_of hb]
    exact this
  ·cases hl
noncomputable def ins (b:B) (H:List B):List B:=List.rec (motive:=fun _=>List B) [b] (fun c r ih=>bif Nat.blt b.id c.id then b::c::r else c::ih) H
theorem ins_perm (b:B): ∀H:List B,(H++[b]).Perm (ins b H)
 |[]=>List.Perm.refl _
 |c::r=>by
  show(c::r++[b]).Perm (bif Nat.blt b.id c.id then b::c::r else c::ins b r)
  cases Nat.blt b.id c.id with
  |true=>exact(List.perm_append_comm (l₁:=c::r) (l₂:=[b]))
  |false=>exact(ins_perm b r).cons c
theorem Hp.ins {b:B} (h:Hp I w0 (Hd z H++[b.den z]) w):Hp I w0 (Hd z (ins b H)) w:=by
 refine h.perm ?_
 have:=(ins_perm b H).map (B.den z)
 simpa[Hd] using this
def isSub:List B→List B→Bool
 |[],_=>true
 |_::_,[]=>false
 |a::r,b::s=>bif decide (a=b) then isSub r s else isSub (a::r) s
theorem isSub_perm: ∀ {H0 H:List B},isSub H0 H=true→ ∃R,H.Perm (H0++R)
 |[],H,_=>⟨H,List.Perm.refl _⟩
 |_::_,[],h=>by simp[isSub] at h
 |a::r,b::s,h=>by
  simp only[isSub] at h
  by_cases hab:a=b
  ·subst hab
   simp only[decide_true,cond_true] at h
   obtain⟨R,hR⟩:=isSub_perm h
   exact⟨R,hR.cons a⟩
  ·simp only[hab,decide_false,cond_false] at h
   obtain⟨R,hR⟩:=isSub_perm h
   exact⟨b::R,((hR.cons b).trans List.perm_middle.symm)⟩
theorem Hp.isSub {H0:List B} (hs:isSub H0 H=true) (h:Hp I w0 (Hd z H) w):Hp I w0 (Hd z H0) w:=by
 obtain⟨R,hR⟩:=isSub_perm hs
 have:=hR.map (B.den z)
 rw[List.map_append] at this
 exact Hp.sub (M:=Hd z R) (h.perm this)
def ofC:Value→Option C
 | .int k n=>some (.i k n)
 | .bool x=>some (.b x)
 | .string x=>some (.s x)
 | .pointer none=>some .np
 | .slice none 0 0=>some .ns
 | .map none=>some .nm
 | .nilFunc=>some .nf
 |_=>none
theorem ofC_den {v:Value} {c:C} (h:ofC v=some c) (z:Z):c.den z=v:=by
 unfold ofC at h
 split at h<;>first|(obtain rfl:=Option.some.inj h;rfl)|cases h
def ofCs:List Value→Option (List C)
 |[]=>some []
 |v::r=>match ofC v,ofCs r with
  |some c,some l=>some (c::l)
  |_,_=>none
theorem ofCs_den: ∀ {l:List Value} {cs:List C},ofCs l=some cs→ ∀z,cs.map (C.den z)=l
 |[],_,h,z=>by obtain rfl:=Option.some.inj h;rfl
 |v::r,cs,h,z=>by
  simp only[ofCs] at h
  split at h
  ·rename_i c l h1 h2
   obtain rfl:=Option.some.inj h
   rw[List.map_cons,ofC_den h1,ofCs_den h2]
  ·cases h
def ofY (v:Value):Option Y:=
 match v with
 | .agg cs=>(ofCs cs.toList).map .a
 |v=>(ofC v).map .c
theorem ofY_den {v:Value} {y:Y} (h:ofY v=some y) (z:Z):y.den z=v:=by
 unfold ofY at h
 split at h
 ·rename_i cs
  simp only[Option.map_eq_some_iff] at h
  obtain⟨l,h1,rfl⟩:=h
  simp[Y.den,ofCs_den h1]
 ·simp only[Option.map_eq_some_iff] at h
  obtain⟨l,h1,rfl⟩:=h
  exact ofC_den h1 z
noncomputable def xev (E:XE):Operand→Option X
 | .tmp t=>xget E t
 | .const v=>(ofY v).map .y
 | .func f=>some (.y (.c (.fn f)))
 | .global _=>none
theorem ev_ok {E:XE} {x:Operand} {v:X} (h:xev E x=some v) (z:Z):ev (Ed z E) x=some (v.den z):=by
 cases x with
 |tmp t=>simp only[xev] at h;simp only[ev,get_Ed,h,Option.map_some]
 |const u=>
  simp only[xev,Option.map_eq_some_iff] at h
  obtain⟨y,h1,rfl⟩:=h
  simp only[ev,X.den,ofY_den h1]
 |func f=>simp only[xev,Option.some.injEq] at h;subst h;rfl
 |global g=>cases h
def tinfo (P:Program) (t:TypeId):Option (Value×Nat×Nat):=
 match P.info? t with
 |some i=>match i.zero with
  |some z=>some (z,i.size,i.bytes)
  |none=>none
 |none=>none
theorem tinfo_TI {P:Program} {t:TypeId} {z:Value} {sz by_:Nat} (h:tinfo P t=some (z,sz,by_)):TI P t z sz by_:=by
 unfold tinfo at h
 split at h
 ·rename_i i hi
  split at h
  ·rename_i z' hz
   simp only[Option.some.injEq,Prod.mk.injEq] at h
   obtain⟨rfl,rfl,rfl⟩:=h
   simp[TI,hi,hz]
  ·cases h
 ·cases h
noncomputable def rd (H:List B) (id:Nat):Option (List C):=
 match findB H id with
 |some (_,b)=>b.cells
 |none=>none
def cutC (l:List C) (o sz:Nat):Option (List C):=
 let r:=(l.drop o).take sz
 if Nat.beq r.length sz then some r else none
def arith (k:IntKind) (m n:Int):BinOp→Option C
 | .add=>some (.i k (k.wrap (m+n)))
 | .sub=>some (.i k (k.wrap (m-n)))
 | .mul=>some (.i k (k.wrap (m* n)))
 | .quo=>if n=0 then none else some (.i k (k.wrap (m.tdiv n)))
 | .rem=>if n=0 then none else some (.i k (m.tmod n))
 | .eql=>some (.b (decide (m=n)))
 | .neq=>some (.b (decide (¬m=n)))
 | .lss=>some (.b (decide (m<n)))
 | .leq=>some (.b (decide (m≤n)))
 | .gtr=>some (.b (decide (n<m)))
 | .geq=>some (.b (decide (n≤m)))
 |_=>none
def isSl:Option TypeDesc→Bool
 |some (.slice _)=>true
 |_=>false
def isPt:Option TypeDesc→Bool
 |some (.pointer _)=>true
 |_=>false
def nilq (P:Program) (t:TypeId) (u v:C) (b:Bool):Option C:=
 match u,v with
 | .ns,.ns=>if isSl (P.underlying t) then some (.b b) else none
 | .sl _ _,.ns=>if isSl (P.underlying t) then some (.b (!b)) else none
 | .np,.np=>if isPt (P.underlying t) then some (.b b) else none
 | .p _ _,.np=>if isPt (P.underlying t) then some (.b (!b)) else none
 |_,_=>none
def bin (P:Program) (op:BinOp) (t:TypeId) (u v:C):Option C:=
 match u,v with
 | .i k m,.i k' n=>if k=k' then arith k m n op else none
 |u,v=>match op with
  | .eql=>nilq P t u v true
  | .neq=>nilq P t u v false
  |_=>none
def Y.cells:Y→List C
 | .c x=>[x]
 | .a l=>l
def setAt (cs:List C):Nat→List C→List C
 |_,[]=>cs
 |o,c::r=>setAt (cs.set o c) (o+1) r
def fillX (place:Nat→Option (Nat×Nat)):List C→List (Nat×Y)→Option (List C)
 |cs,[]=>some cs
 |cs,(i,v)::r=>match place i with
  |none=>none
  |some (off,size)=>if v.cells.length≠size||off+v.cells.length>cs.length then none else fillX place (setAt cs off v.cells) r
def places (P:Program):List Field→Option (List (Nat×Nat))
 |[]=>some []
 |f::r=>match tinfo P f.type,places P r with
  |some (_,sz,_),some l=>some ((f.offset,sz)::l)
  |_,_=>none
noncomputable def xevp (E:XE):List (Nat×Operand)→Option (List (Nat×Y))
 |[]=>some []
 |(i,x)::r=>match xev E x,xevp E r with
  |some (.y v),some l=>some ((i,v)::l)
  |_,_=>none
noncomputable def qPick (E:XE) (c a b:Operand):Option X:=match xev E c with
 |some (.y (.c (.b true)))=>xev E a
 |some (.y (.c (.b false)))=>xev E b
 |_=>none
noncomputable def qNil (E:XE) (x:Operand):Option X:=match xev E x with
 |some (.y (.c (.p id o)))=>some (.y (.c (.p id o)))
 |_=>none
noncomputable def qFld (P:Program) (E:XE) (t:TypeId) (x:Operand) (j:Nat):Option X:=match xev E x,P.underlying t with
 |some (.y (.c (.p id o))),some (.struct fs)=>match fs[j]? with
  |some f=>match tinfo P f.type with
   |some (_,sz,_)=>if sz=0 then none else some (.y (.c (.p id (o+f.offset))))
   |none=>none
  |none=>none
 |_,_=>none
noncomputable def qLoad (P:Program) (E:XE) (H:List B) (t:TypeId) (x:Operand):Option X:=match xev E x,P.underlying t,tinfo P t with
 |some (.y (.c (.p id o))),some D,some (_,sz,_)=>match rd H id with
  |some l=>if aggD D then (cutC l o sz).map fun r=> .y (.a r) else (l[o]?).map fun c=> .y (.c c)
  |none=>none
 |_,_,_=>none
noncomputable def qBin (P:Program) (E:XE) (op:BinOp) (t:TypeId) (x y:Operand):Option X:=match xev E x,xev E y with
 |some (.y (.c u)),some (.y (.c v))=>(bin P op t u v).map fun c=> .y (.c c)
 |_,_=>none
noncomputable def qNot (E:XE) (op:UnOp) (x:Operand):Option X:=match op with
 | .not=>match xev E x with
  |some (.y (.c (.b b)))=>some (.y (.c (.b (!b))))
  |_=>none
 |_=>none
noncomputable def qConv (P:Program) (E:XE) (s d:TypeId) (x:Operand):Option X:=match P.underlying s,P.underlying d,xev E x with
 |some _,some (.int k'),some (.y (.c (.i k n)))=>some (.y (.c (.i k' (k'.wrap n))))
 |_,_,_=>none
noncomputable def qExt (E:XE) (x:Operand) (j:Nat):Option X:=match xev E x with
 |some (.t l)=>(l[j]?).map .y
 |_=>none
noncomputable def qIxA (P:Program) (E:XE) (t:TypeId) (x y:Operand):Option X:=match xev E x,xev E y,P.underlying t with
 |some (.y (.c (.sl id n))),some (.y (.c (.i _ i))),some (.slice e)=>match tinfo P e with
  |some (_,sz,_)=>if 0≤i∧i<(n:Int) then some (.y (.c (.p id (0+i.toNat* sz)))) else none
  |none=>none
 |some (.y (.c (.p id o))),some (.y (.c (.i _ i))),some (.array q e)=>match tinfo P e with
  |some (_,sz,_)=>if 0≤i∧i<(q:Int) then some (.y (.c (.p id (o+i.toNat* sz)))) else none
  |none=>none
 |_,_,_=>none
noncomputable def qIx (P:Program) (E:XE) (t:TypeId) (x y:Operand):Option X:=match xev E x,xev E y,P.underlying t with
 |some (.y (.a cs)),some (.y (.c (.i _ i))),some (.array q e)=>match tinfo P e,P.underlying e with
  |some (_,sz,_),some D=>if 0≤i∧i<(q:Int) then (if aggD D then some (.y (.a ((cs.drop (i.toNat* sz)).take sz))) else (cs[i.toNat* sz]?).map fun c=> .y (.c c)) else none
  |_,_=>none
 |_,_,_=>none
noncomputable def qBld (P:Program) (E:XE) (t:TypeId) (ps:Array (Nat×Operand)):Option X:=match P.underlying t,tinfo P t,xevp E ps.toList with
 |some (.struct fs),some (ze,_,_),some vs=>match ofCs ze.cells.toList,places P fs.toList with
  |some z0,some pl=>(fillX (fun i=>pl[i]?) z0 vs).map fun r=> .y (.a r)
  |_,_=>none
 |_,_,_=>none
noncomputable def qLen (P:Program) (E:XE) (x:Operand) (t:TypeId):Option X:=match xev E x,isSl (P.underlying t) with
 |some (.y (.c .ns)),true=>some (.y (.c (.i .i64 0)))
 |some (.y (.c (.sl _ n))),true=>some (.y (.c (.i .i64 n)))
 |_,_=>none
noncomputable def qMax (E:XE) (x y:Operand):Option X:=match xev E x,xev E y with
 |some (.y (.c (.i k m))),some (.y (.c (.i k' n)))=>if k=k' then some (.y (.c (.i k (max m n)))) else none
 |_,_=>none
noncomputable def qMin (E:XE) (x y:Operand):Option X:=match xev E x,xev E y with
 |some (.y (.c (.i k m))),some (.y (.c (.i k' n)))=>if k=k' then some (.y (.c (.i k (min m n)))) else none
 |_,_=>none
noncomputable def qBlt (P:Program) (E:XE) (b:Builtin) (args:List Operand) (ts:List TypeId):Option X:=match b with
 | .len=>match args,ts with
  |[x],[t]=>qLen P E x t
  |_,_=>none
 | .max=>match args with
  |[x,y]=>qMax E x y
  |_=>none
 | .min=>match args with
  |[x,y]=>qMin E x y
  |_=>none
 |_=>none
noncomputable def qCall (P:Program) (E:XE) (c:Call):Option X:=match c.callee with
 | .builtin b=>qBlt P E b c.args.toList c.argTypes.toList
 |_=>none
noncomputable def qstep (P:Program) (E:XE) (H:List B) (op:Op):Option X:=match op with
 | .move x=>xev E x
 | .assign x=>xev E x
 | .pick c a b=>qPick E c a b
 | .nilCheck x=>qNil E x
 | .fieldAddr t x j=>qFld P E t x j
 | .load t x=>qLoad P E H t x
 | .binOp op t x y _=>qBin P E op t x y
 | .unOp op _ x=>qNot E op x
 | .convert s d x=>qConv P E s d x
 | .extract x j=>qExt E x j
 | .indexAddr t x y=>qIxA P E t x y
 | .index t x y=>qIx P E t x y
 | .build t ps=>qBld P E t ps
 | .call c=>qCall P E c
 |_=>none
section
variable {P:Program} {N:NN} {E:XE} {H:List B} {z:Z} {I:Ids} {w0:World} {dst:Option Nat} {ty:TypeId} {pos:String} {af:Array Edge} {g:Option (Nat×Bool)}
theorem rd_cell {id o:Nat} {l:List C} {c:C} (h:rd H id=some l) (hc:l[o]?=some c) (w:World) (hw:Hp I w0 (Hd z H) w):w.cell? ⟨z.r id,o,none⟩=some (c.den z):=by
 unfold rd at h
 split at h
 ·rename_i k b hf;exact cell_ok hw hf h hc
 ·cases h
theorem cutC_ok {l r:List C} {o sz:Nat} (h:cutC l o sz=some r):r.length=sz∧ ∀j c,r[j]?=some c→l[o+j]?=some c:=by
 unfold cutC at h
 simp only[] at h
 split at h
 ·rename_i hb
  obtain rfl:=Option.some.inj h
  refine⟨Nat.eq_of_beq_eq_true hb,fun j c hj=>?_⟩
  rw[List.getElem?_take] at hj
  split at hj
  ·simpa using hj
  ·cases hj
 ·cases h
theorem isSl_spec {D:Option TypeDesc} (h:isSl D=true): ∃e,D=some (.slice e):=by
 unfold isSl at h;split at h
 ·exact⟨_,rfl⟩
 ·cases h
theorem isPt_spec {D:Option TypeDesc} (h:isPt D=true): ∃e,D=some (.pointer e):=by
 unfold isPt at h;split at h
 ·exact⟨_,rfl⟩
 ·cases h
theorem nil_ok {op:BinOp} {b:Bool} (hop:op= .eql∧b=true∨op= .neq∧b=false) {t t2:TypeId} {x y:Operand} {u v c:C} (h:nilq P t u v b=some c) (hx:ev (Ed z E) x=some (u.den z)) (hy:ev (Ed z E) y=some (v.den z)) {S:World→Prop}:
 Step P N (Ed z E) S ⟨dst,.binOp op t x y t2,ty,pos,af,g⟩ (c.den z):=by
 unfold nilq at h
 split at h<;>(try split at h)<;>cases h
 all_goals rename_i hu
 ·obtain⟨e,he⟩:=isSl_spec hu
  rcases hop with ⟨rfl,rfl⟩|⟨rfl,rfl⟩
  ·exact Step.nilSl he hx hy
  ·exact Step.nnilSl he hx hy
 ·obtain⟨e,he⟩:=isSl_spec hu
  rcases hop with ⟨rfl,rfl⟩|⟨rfl,rfl⟩
  ·exact Step.nilSl he hx hy
  ·exact Step.nnilSl he hx hy
 ·obtain⟨e,he⟩:=isPt_spec hu
  rcases hop with ⟨rfl,rfl⟩|⟨rfl,rfl⟩
  ·exact Step.eqlP he hx hy
  ·exact Step.neqP he hx hy
 ·obtain⟨e,he⟩:=isPt_spec hu
  rcases hop with ⟨rfl,rfl⟩|⟨rfl,rfl⟩
  ·exact Step.eqlP he hx hy
  ·exact Step.neqP he hx hy
theorem arith_ok {op:BinOp} {k:IntKind} {m n:Int} {c:C} (h:arith k m n op=some c) {t t2:TypeId} {x y:Operand} {F:Env} (hx:ev F x=some (.int k m)) (hy:ev F y=some (.int k n)) {S:World→Prop}:
 Step P N F S ⟨dst,.binOp op t x y t2,ty,pos,af,g⟩ (c.den z):=by
 cases op<;>simp only[arith] at h<;>first
  |contradiction
  |(obtain rfl:=Option.some.inj h;first|exact Step.add hx hy rfl|exact Step.sub hx hy rfl|exact Step.mul hx hy rfl|exact Step.eql hx hy|exact Step.neq hx hy|exact Step.lss hx hy|exact Step.leq hx hy|exact Step.gtr hx hy|exact Step.geq hx hy)
  |(split at h;(· cases h);rename_i hn;obtain rfl:=Option.some.inj h;first|exact Step.quo hx hy hn rfl|exact Step.rem hx hy hn rfl)
theorem bin_ok {op:BinOp} {t t2:TypeId} {x y:Operand} {u v c:C} (h:bin P op t u v=some c) (hx:ev (Ed z E) x=some (u.den z)) (hy:ev (Ed z E) y=some (v.den z)) {S:World→Prop}:
 Step P N (Ed z E) S ⟨dst,.binOp op t x y t2,ty,pos,af,g⟩ (c.den z):=by
 unfold bin at h
 split at h
 ·split at h
  ·rename_i hk;subst hk;exact arith_ok h hx hy
  ·cases h
 ·split at h
  ·exact nil_ok (.inl ⟨rfl,rfl⟩) h hx hy
  ·exact nil_ok (.inr ⟨rfl,rfl⟩) h hx hy
  ·cases h
theorem run_fieldAt {t:TypeId} {fs:Array Field} {j:Nat} {f:Field} {ze:Value} {sz by_:Nat} (hu:P.underlying t=some (.struct fs)) (hj:fs[j]?=some f) (hi:TI P f.type ze sz by_) (hz:sz≠0) (b o:Nat) (w:World):
 (Instr.fieldAt t (.pointer (some ⟨b,o,none⟩)) j).run P w= .ok (.pointer (some ⟨b,o+f.offset,none⟩)) w:=by
 simp only[Instr.fieldAt,Sem.run_bind,run_underlying hu,Result.andThen_ok,hj,Instr.sureAddr,Sem.run_pure,fieldPlace,hi.sizeOf,hz,if_false]
 by_cases h0:f.offset=0
 ·simp[Addr.add,h0]
 ·simp[Addr.add,h0]
theorem run_part {e:TypeId} {D:TypeDesc} {ze:Value} {sz by_:Nat} (hu:P.underlying e=some D) (hi:TI P e ze sz by_) (cs:List C) (o:Nat) {y:Y}
 (h:(if aggD D=true then some (Y.a ((cs.drop o).take sz)) else (cs[o]?).map .c)=some y) (w:World):(part e (cs.map (C.den z)).toArray o).run P w= .ok (y.den z) w:=by
 have hag:(isAgg e).run P w= .ok (aggD D) w:=by
  simp only[isAgg,Sem.run_bind,run_underlying hu,Result.andThen_ok]
  cases D<;>rfl
 simp only[part,Sem.run_bind,hag,Result.andThen_ok]
 split at h
 ·rename_i hd
  obtain rfl:=Option.some.inj h
  simp only[hd,if_true,Sem.run_bind,hi.sizeOf,Result.andThen_ok,Sem.run_pure,Y.den]
  congr 2
  simp[List.extract_eq_take_drop,List.map_drop,List.map_take]
 ·rename_i hd
  simp only[Option.map_eq_some_iff] at h
  obtain⟨c,hc,rfl⟩:=h
  simp[hd,hc,Y.den]
theorem run_indexAgg {t e:TypeId} {q:Nat} {D:TypeDesc} {ze:Value} {sz by_:Nat} (ht:P.underlying t=some (.array q e)) (hu:P.underlying e=some D) (hi:TI P e ze sz by_) (cs:List C) {k:IntKind} {i:Int} (h0:0≤i∧i<(q:Int)) {y:Y}
 (h:(if aggD D=true then some (Y.a ((cs.drop (i.toNat* sz)).take sz)) else (cs[i.toNat* sz]?).map .c)=some y) (w:World):(Instr.index t (.agg (cs.map (C.den z)).toArray) (.int k i)).run P w= .ok (y.den z) w:=by
 simp only[Instr.index,asIntOf,Sem.run_bind,Sem.run_pure,Result.andThen_ok,run_underlying ht,h0,and_self,if_true,hi.sizeOf,run_part hu hi cs _ h]
theorem cells_den (y:Y):(y.den z).cells=(y.cells.map (C.den z)).toArray:=by
 cases y with
 |c x=>cases x<;>rfl
 |a l=>rfl
theorem setAt_ok: ∀(l cs:List C) (o j:Nat),((l.map (C.den z)).zipIdx j).foldl (fun cs p=>cs.setIfInBounds (o+p.2) p.1) (cs.map (C.den z)).toArray=((setAt cs (o+j) l).map (C.den z)).toArray
 |[],cs,o,j=>by simp[setAt]
 |c::r,cs,o,j=>by
  have ih:=setAt_ok r (cs.set (o+j) c) o (j+1)
  simp only[List.map_cons,List.zipIdx_cons,List.foldl_cons]
  rw[setAt,Nat.add_assoc,←ih]
  congr 1
  simp[List.map_set]
theorem fill_ok {place:Nat→Option (Nat×Nat)}: ∀ {vs:List (Nat×Y)} {cs r:List C},fillX place cs vs=some r→Instr.fill place (cs.map (C.den z)).toArray (vs.map fun p=>(p.1,p.2.den z))=some (r.map (C.den z)).toArray
 |[],cs,r,h=>by simp only[fillX,Option.some.injEq] at h;subst h;rfl
 |(i,v)::vs,cs,r,h=>by
  simp only[fillX] at h
  simp only[List.map_cons,Instr.fill]
  cases hp:place i with
  |none=>simp[hp] at h
  |some q=>
   obtain⟨off,size⟩:=q
   simp only[hp] at h ⊢
   rw[cells_den]
   split at h
   ·cases h
   ·rename_i hc
    have hc': ¬(decide ((List.map (C.den z) v.cells).toArray.size≠size)||decide (off+(List.map (C.den z) v.cells).toArray.size>(List.map (C.den z) cs).toArray.size))=true:=by simpa using hc
    rw[if_neg hc']
    have:=setAt_ok (z:=z) v.cells cs off 0
    rw[Nat.add_zero] at this
    rw[←Array.foldl_toList,Array.toList_zipIdx]
    simp only at this ⊢
    rw[this]
    exact fill_ok h
theorem places_ok: ∀ {fs:List Field} {pl:List (Nat×Nat)},places P fs=some pl→ ∀w,(fs.mapM fun(f:Field)=>do pure (f.offset,←sizeOf f.type)).run P w= .ok pl w
 |[],pl,h,w=>by simp only[places,Option.some.injEq] at h;subst h;simp
 |f::r,pl,h,w=>by
  simp only[places] at h
  split at h
  ·rename_i q sz by_ l h1 h2
   obtain rfl:=Option.some.inj h
   simp only[List.mapM_cons,Sem.run_bind,(tinfo_TI h1).sizeOf,Result.andThen_ok,Sem.run_pure,places_ok h2 w]
  ·cases h
theorem run_build {t:TypeId} {fs:Array Field} {ze:Value} {sz by_:Nat} {z0 r:List C} {pl:List (Nat×Nat)} {vs:List (Nat×Y)} (hu:P.underlying t=some (.struct fs)) (hi:TI P t ze sz by_) (hz:ofCs ze.cells.toList=some z0) (hp:places P fs.toList=some pl)
 (h:fillX (fun(i:Nat)=>pl[i]?) z0 vs=some r) (w:World):(Instr.build t (vs.map fun p=>(p.1,p.2.den z)).toArray).run P w= .ok (.agg (r.map (C.den z)).toArray) w:=by
 have hm:(fs.mapM fun(f:Field)=>do pure (f.offset,←sizeOf f.type)).run P w= .ok pl.toArray w:=by
  rw[Array.mapM_eq_mapM_toList,map_eq_pure_bind,Sem.run_bind,places_ok hp w]
  rfl
 have hf:=fill_ok (z:=z) h
 rw[ofCs_den hz,Array.toArray_toList] at hf
 simp only[Instr.build,Sem.run_bind,hi.zeroValue,Result.andThen_ok,run_underlying hu,hm]
 have:(fun(i:Nat)=>pl.toArray[i]?)=(fun(i:Nat)=>pl[i]?):=by funext i;simp
 simp only[this,hf,Sem.run_pure]
theorem xevp_ok: ∀ {ps:List (Nat×Operand)} {vs:List (Nat×Y)},xevp E ps=some vs→ ∀z,evp (Ed z E) ps=some (vs.map fun p=>(p.1,p.2.den z))
 |[],vs,h,z=>by simp only[xevp,Option.some.injEq] at h;subst h;rfl
 |(i,x)::r,vs,h,z=>by
  simp only[xevp] at h
  split at h
  ·rename_i v l h1 h2
   obtain rfl:=Option.some.inj h
   simp only[evp,ev_ok h1,xevp_ok h2 z,X.den,List.map_cons]
  ·cases h
theorem qstep_ok {op:Op} {v:X} (h:qstep P E H op=some v):Step P N (Ed z E) (Hp I w0 (Hd z H)) ⟨dst,op,ty,pos,af,g⟩ (v.den z):=by
 unfold qstep at h
 split at h
 ·exact Step.move (ev_ok h z)
 ·exact Step.assign (ev_ok h z)
 ·unfold qPick at h
  split at h
  ·rename_i hc;exact Step.pick_t (ev_ok hc z) (ev_ok h z)
  ·rename_i hc;exact Step.pick_f (ev_ok hc z) (ev_ok h z)
  ·cases h
 ·unfold qNil at h
  split at h
  ·rename_i hx;obtain rfl:=Option.some.inj h;exact Step.nilCheck (ev_ok hx z)
  ·cases h
 ·unfold qFld at h
  split at h
  ·rename_i id o fs hx hu
   split at h
   ·rename_i f hf
    split at h
    ·rename_i ze sz by_ hi
     split at h
     ·cases h
     ·rename_i hsz
      obtain rfl:=Option.some.inj h
      exact Step.fieldAddr (ev_ok hx z) (run_fieldAt hu hf (tinfo_TI hi) hsz _ _)
    ·cases h
   ·cases h
  ·cases h
 ·unfold qLoad at h
  split at h
  ·rename_i id o D ze sz by_ hx hu hi
   split at h
   ·rename_i l hl
    split at h
    ·rename_i hD
     simp only[Option.map_eq_some_iff] at h
     obtain⟨r,hr,rfl⟩:=h
     obtain⟨h1,h2⟩:=cutC_ok hr
     refine Step.loadN (r.map (C.den z)) hu hD (tinfo_TI hi) (by simpa using h1) (ev_ok hx z) fun w hw j v hj=>?_
     simp only[List.getElem?_map,Option.map_eq_some_iff] at hj
     obtain⟨c,hc,rfl⟩:=hj
     exact rd_cell hl (h2 j c hc) w hw
    ·rename_i hD
     simp only[Option.map_eq_some_iff] at h
     obtain⟨c,hc,rfl⟩:=h
     exact Step.load hu (by simpa using hD) (ev_ok hx z) fun w hw=>rd_cell hl hc w hw
   ·cases h
  ·cases h
 ·unfold qBin at h
  split at h
  ·rename_i u v' hx hy
   simp only[Option.map_eq_some_iff] at h
   obtain⟨c,hc,rfl⟩:=h
   exact bin_ok hc (ev_ok hx z) (ev_ok hy z)
  ·cases h
 ·unfold qNot at h
  split at h
  ·split at h
   ·rename_i b hx;obtain rfl:=Option.some.inj h;exact Step.not (ev_ok hx z)
   ·cases h
  ·cases h
 ·unfold qConv at h
  split at h
  ·rename_i hs hd hx;obtain rfl:=Option.some.inj h;exact Step.convI hs hd (ev_ok hx z) rfl
  ·cases h
 ·unfold qExt at h
  split at h
  ·rename_i l hx
   simp only[Option.map_eq_some_iff] at h
   obtain⟨c,hc,rfl⟩:=h
   exact Step.extract0 (ev_ok hx z) (by simp[hc,X.den])
  ·cases h
 ·unfold qIxA at h
  split at h
  ·rename_i id n k i e hx hy hu
   split at h
   ·rename_i ze sz by_ hi
    split at h
    ·rename_i h0
     obtain rfl:=Option.some.inj h
     exact Step.indexSl hu (tinfo_TI hi) (ev_ok hx z) (ev_ok hy z) rfl i.toNat (by omega) (by omega)
    ·cases h
   ·cases h
  ·rename_i id o k i q e hx hy hu
   split at h
   ·rename_i ze sz by_ hi
    split at h
    ·rename_i h0
     obtain rfl:=Option.some.inj h
     exact Step.idxArr hu (tinfo_TI hi) (ev_ok hx z) (ev_ok hy z) i.toNat (by omega) (by omega)
    ·cases h
   ·cases h
  ·cases h
 ·unfold qIx at h
  split at h
  ·rename_i cs k i q e hx hy hu
   split at h
   ·rename_i ze sz by_ D hi hD
    split at h
    ·rename_i h0
     have h': ∃y,v= .y y∧(if aggD D=true then some (Y.a ((cs.drop (i.toNat* sz)).take sz)) else (cs[i.toNat* sz]?).map .c)=some y:=by
      split at h
      ·rename_i hd;exact⟨_,(Option.some.inj h).symm,by rw[if_pos hd]⟩
      ·rename_i hd
       simp only[Option.map_eq_some_iff] at h
       obtain⟨c,hc,rfl⟩:=h
       exact⟨_,rfl,by rw[if_neg hd,hc];rfl⟩
     obtain⟨y,rfl,hy'⟩:=h'
     exact Step.index (ev_ok hx z) (ev_ok hy z) (run_indexAgg hu hD (tinfo_TI hi) cs h0 hy')
    ·cases h
   ·cases h
  ·cases h
 ·rename_i t ps
  unfold qBld at h
  split at h
  ·rename_i fs ze sz by_ vs hu hi hvs
   split at h
   ·rename_i z0 pl hz0 hpl
    simp only[Option.map_eq_some_iff] at h
    obtain⟨r,hr,rfl⟩:=h
    have:=Step.build (P:=P) (N:=N) (S:=Hp I w0 (Hd z H)) (d:=dst) (ty:=ty) (pos:=pos) (af:=af) (g:=g) (t:=t) (xevp_ok hvs z) (run_build (z:=z) hu (tinfo_TI hi) hz0 hpl hr)
    simpa[X.den,Y.den] using this
   ·cases h
  ·cases h
 ·rename_i c
  obtain⟨cal,args,ts⟩:=c
  obtain⟨args⟩:=args
  obtain⟨ts⟩:=ts
  unfold qCall at h
  split at h
  ·rename_i b hb
   simp only at hb
   subst hb
   unfold qBlt at h
   split at h
   ·split at h
    ·rename_i x t ha hts
     simp only at ha hts
     subst ha;subst hts
     unfold qLen at h
     split at h
     ·rename_i hx hu
      obtain⟨e,he⟩:=isSl_spec hu
      obtain rfl:=Option.some.inj h
      exact Step.lenSl he (ev_ok hx z)
     ·rename_i hx hu
      obtain⟨e,he⟩:=isSl_spec hu
      obtain rfl:=Option.some.inj h
      exact Step.lenSl he (ev_ok hx z)
     ·cases h
    ·cases h
   ·split at h
    ·rename_i x y ha
     simp only at ha
     subst ha
     unfold qMax at h
     split at h
     ·rename_i hx hy
      split at h
      ·rename_i hk;subst hk;obtain rfl:=Option.some.inj h;exact Step.max2 (ev_ok hx z) (ev_ok hy z)
      ·cases h
     ·cases h
    ·cases h
   ·split at h
    ·rename_i x y ha
     simp only at ha
     subst ha
     unfold qMin at h
     split at h
     ·rename_i hx hy
      split at h
      ·rename_i hk;subst hk;obtain rfl:=Option.some.inj h;exact Step.min2 (ev_ok hx z) (ev_ok hy z)
      ·cases h
     ·cases h
    ·cases h
   ·cases h
  ·cases h
 ·cases h
end
abbrev St:=XE×List B×Nat
abbrev CallF:=FuncId→List X→List B→Nat→Option (X×List B×Nat)
section
variable {α:Type}
def fN (n:Nat) (k:Nat→α):α:=match n with
 |0=>k 0
 |m+1=>k (m+1)
theorem fN_eq (n:Nat) (k:Nat→α):fN n k=k n:=by cases n<;>rfl
def fI (n:Int) (k:Int→α):α:=match n with
 | .ofNat m=>fN m fun m=>k (.ofNat m)
 | .negSucc m=>fN m fun m=>k (.negSucc m)
theorem fI_eq (n:Int) (k:Int→α):fI n k=k n:=by cases n<;>simp only[fI,fN_eq]
def fC (c:C) (k:C→α):α:=match c with
 | .i q n=>fI n fun n=>k (.i q n)
 | .b true=>k (.b true)
 | .b false=>k (.b false)
 | .p id o=>fN id fun id=>fN o fun o=>k (.p id o)
 | .sl id o=>fN id fun id=>fN o fun o=>k (.sl id o)
 | .m id=>fN id fun id=>k (.m id)
 |c=>k c
theorem fC_eq (c:C) (k:C→α):fC c k=k c:=by
 cases c with
 |b x=>cases x<;>rfl
 |_=>simp only[fC,fI_eq,fN_eq]
noncomputable def fL (l:List C) (k:List C→α):α:=List.rec (motive:=fun _=>(List C→α)→α) (fun k=>k []) (fun c _ ih k=>fC c fun c=>ih fun r=>k (c::r)) l k
theorem fL_eq: ∀(l:List C) (k:List C→α),fL l k=k l
 |[],k=>rfl
 |c::r,k=>by
  show fC c (fun c=>fL r fun r=>k (c::r))=_
  simp only[fC_eq,fL_eq r]
noncomputable def fLL (l:List (List C)) (k:List (List C)→α):α:=List.rec (motive:=fun _=>(List (List C)→α)→α) (fun k=>k []) (fun c _ ih k=>fL c fun c=>ih fun r=>k (c::r)) l k
theorem fLL_eq: ∀(l:List (List C)) (k:List (List C)→α),fLL l k=k l
 |[],k=>rfl
 |c::r,k=>by
  show fL c (fun c=>fLL r fun r=>k (c::r))=_
  simp only[fL_eq,fLL_eq r]
noncomputable def fY (v:Y) (k:Y→α):α:=match v with
 | .c x=>fC x fun x=>k (.c x)
 | .a l=>fL l fun l=>k (.a l)
theorem fY_eq (v:Y) (k:Y→α):fY v k=k v:=by cases v<;>simp only[fY,fC_eq,fL_eq]
noncomputable def fYs (l:List Y) (k:List Y→α):α:=List.rec (motive:=fun _=>(List Y→α)→α) (fun k=>k []) (fun c _ ih k=>fY c fun c=>ih fun r=>k (c::r)) l k
theorem fYs_eq: ∀(l:List Y) (k:List Y→α),fYs l k=k l
 |[],k=>rfl
 |c::r,k=>by
  show fY c (fun c=>fYs r fun r=>k (c::r))=_
  simp only[fY_eq,fYs_eq r]
noncomputable def fX (v:X) (k:X→α):α:=match v with
 | .y v=>fY v fun v=>k (.y v)
 | .t l=>fYs l fun l=>k (.t l)
 | .u=>k .u
theorem fX_eq (v:X) (k:X→α):fX v k=k v:=by cases v<;>simp only[fX,fY_eq,fYs_eq]
noncomputable def fE (l:XE) (k:XE→α):α:=List.rec (motive:=fun _=>(XE→α)→α) (fun k=>k []) (fun p _ ih k=>ih fun r=>k (p::r)) l k
theorem fE_eq: ∀(l:XE) (k:XE→α),fE l k=k l
 |[],k=>rfl
 |p::r,k=>by
  show fE r (fun r=>k (p::r))=_
  simp only[fE_eq r]
noncomputable def fB (b:B) (k:B→α):α:=match b with
 | .blk id t l=>fN id fun id=>fL l fun l=>k (.blk id t l)
 | .row id e m ys=>fN id fun id=>fLL ys fun ys=>k (.row id e m ys)
theorem fB_eq (b:B) (k:B→α):fB b k=k b:=by cases b<;>simp only[fB,fN_eq,fL_eq,fLL_eq]
noncomputable def fH (l:List B) (k:List B→α):α:=List.rec (motive:=fun _=>(List B→α)→α) (fun k=>k []) (fun p _ ih k=>ih fun r=>k (p::r)) l k
theorem fH_eq: ∀(l:List B) (k:List B→α),fH l k=k l
 |[],k=>rfl
 |p::r,k=>by
  show fH r (fun r=>k (p::r))=_
  simp only[fH_eq r]
end
noncomputable def mkS (v:X) (b:B) (H:List B) (k:Nat):Option (X×List B×Nat):=fB b fun b=>fH (ins b H) fun H=>some (v,H,k+1)
theorem mkS_eq (v:X) (b:B) (H:List B) (k:Nat):mkS v b H k=some (v,ins b H,k+1):=by simp only[mkS,fB_eq,fH_eq]
noncomputable def setS (H:List B) (i:Nat) (b:B):Option (List B):=fB b fun b=>fH (H.set i b) some
theorem setS_eq (H:List B) (i:Nat) (b:B):setS H i b=some (H.set i b):=by simp only[setS,fB_eq,fH_eq]
noncomputable def putS (E:XE) (d:Nat) (v:X) (H:List B) (k:Nat):Option St:=fX v fun v=>fN k fun k=>some ((d,v)::E,H,k)
theorem putS_eq (E:XE) (d:Nat) (v:X) (H:List B) (k:Nat):putS E d v H k=some ((d,v)::E,H,k):=by simp only[putS,fX_eq,fN_eq]
def chop (m:Nat):Nat→List C→List (List C)
 |0,_=>[]
 |n+1,l=>l.take (m+1)::chop m n (l.drop (m+1))
noncomputable def xevs (E:XE):List Operand→Option (List X)
 |[]=>some []
 |x::r=>match xev E x,xevs E r with
  |some v,some l=>some (v::l)
  |_,_=>none
abbrev LRes:=Option (X×List B×Nat)
noncomputable def lAlloc (P:Program) (H:List B) (k:Nat) (t:TypeId):LRes:=match tinfo P t with
 |some (ze,_,_)=>match ofCs ze.cells.toList with
  |some l=>if okH k (k+1) H then mkS (.y (.c (.p k 0))) (.blk k t l) H k else none
  |none=>none
 |none=>none
noncomputable def lBox (E:XE) (H:List B) (k:Nat) (t:TypeId) (x:Operand):LRes:=match xev E x with
 |some (.y v)=>if okH k (k+1) H&&v.ok k (k+1) then mkS (.y (.c (.p k 0))) (.blk k t v.cells) H k else none
 |_=>none
noncomputable def lMake (P:Program) (E:XE) (H:List B) (k:Nat) (t:TypeId) (x y:Operand):LRes:=match P.underlying t,xev E x,xev E y with
 |some (.slice e),some (.y (.c (.i _ n))),some (.y (.c (.i _ c)))=>match tinfo P e with
  |some (ze,m+1,by_)=>match ofCs ze.cells.toList with
   |some l=>if okH k (k+1) H&&Nat.beq l.length (m+1)&&decide (0≤n∧n≤c∧c≤1000000∧by_≤1000000) then mkS (.y (.c (.sl k n.toNat))) (.row k e m (List.replicate n.toNat l)) H k else none
   |none=>none
  |_=>none
 |_,_,_=>none
noncomputable def lBs (P:Program) (E:XE) (H:List B) (k:Nat) (t:TypeId) (n:Nat) (ps:Array (Nat×Operand)):LRes:=match P.underlying t,xevp E ps.toList with
 |some (.slice e),some vs=>match tinfo P e with
  |some (ze,m+1,_)=>match ofCs ze.cells.toList with
   |some l=>match fillX (fun i=>some (i* (m+1),m+1)) (List.replicate n l).flatten vs with
    |some r=>if okH k (k+1) H&&Nat.beq l.length (m+1)&&decide (n≤1000∧m≤1000)&&(chop m n r).all (fun l=>Nat.beq l.length (m+1))&&decide ((chop m n r).flatten=r)&&decide ((chop m n r).length=n)&&r.all (C.ok k (k+1)) then mkS (.y (.c (.sl k n))) (.row k e m (chop m n r)) H k else none
    |none=>none
   |none=>none
  |_=>none
 |_,_=>none
noncomputable def lMap (P:Program) (E:XE) (H:List B) (k:Nat) (t:TypeId) (r:Option Operand):LRes:=match r with
 |none=>if okH k (k+1) H then some (.y (.c (.m k)),H,k+1) else none
 |some x=>match P.underlying t,xev E x with
  |some (.map _ _),some (.y (.c (.i _ _)))=>if okH k (k+1) H then some (.y (.c (.m k)),H,k+1) else none
  |_,_=>none
noncomputable def lApp (P:Program) (E:XE) (H:List B) (k:Nat) (x y:Operand) (t t':TypeId):LRes:=if t=t' then (match P.underlying t with
 |some (.slice e)=>match tinfo P e with
  |some (ze,m+1,by_)=>match xev E x,xev E y with
   |some (.y (.c .ns)),some (.y (.c .ns))=>some (.y (.c .ns),H,k)
   |some (.y (.c .ns)),some (.y (.c (.sl id2 n2)))=>if Nat.beq n2 0 then some (.y (.c .ns),H,k) else (match findB H id2 with
    |some (_,.row _ e2 m2 ys2)=>if okH k (k+1) H&&Nat.beq e2 e&&Nat.beq m2 m&&Nat.beq ys2.length n2&&decide (n2* by_≤1000000000)&&decide (n2≤1000000)&&Nat.beq ze.cells.size (m+1) then mkS (.y (.c (.sl k n2))) (.row k e m ys2) H k else none
    |_=>none)
   |some (.y (.c (.sl id n))),some (.y (.c (.sl id2 n2)))=>match findB H id with
    |some (i,.row _ e1 m1 ys)=>if Nat.beq e1 e&&Nat.beq m1 m&&Nat.beq ys.length n then
     (if Nat.beq n2 0 then some (.y (.c (.sl id n)),H,k) else (match findB H id2 with
     |some (_,.row _ e2 m2 ys2)=>if okH k (k+1) H&&Nat.beq e2 e&&Nat.beq m2 m&&Nat.beq ys2.length n2&&decide ((n+n2)* by_≤1000000000)&&decide (n+n2≤1000000)&&Nat.beq ze.cells.size (m+1) then mkS (.y (.c (.sl k (n+n2)))) (.row k e m (ys++ys2)) (H.eraseIdx i) k else none
     |_=>none)) else none
    |_=>none
   |_,_=>none
  |_=>none
 |_=>none) else none
noncomputable def lFn (P:Program) (callf:CallF) (E:XE) (H:List B) (k:Nat) (f:FuncId) (args:List Operand):LRes:=match xevs E args with
 |some vs=>match P.funcs[f]? with
  |some fn=>if fn.body.isSome&&!(fn.name== "runtime.NumGoroutine") then callf f vs H k else none
  |none=>none
 |none=>none
noncomputable def lCall (P:Program) (callf:CallF) (E:XE) (H:List B) (k:Nat) (c:Call):LRes:=match c.callee with
 | .builtin .append=>match c.args.toList,c.argTypes.toList with
  |[x,y],[t,t']=>lApp P E H k x y t t'
  |_,_=>none
 | .value (.func f)=>lFn P callf E H k f c.args.toList
 |_=>none
noncomputable def lstep (P:Program) (callf:CallF) (E:XE) (H:List B) (k:Nat) (op:Op):LRes:=match op with
 | .alloc t=>lAlloc P H k t
 | .box t x=>lBox E H k t x
 | .makeSlice t x y=>lMake P E H k t x y
 | .buildSlice t n ps=>lBs P E H k t n ps
 | .makeMap t r=>lMap P E H k t r
 | .call c=>lCall P callf E H k c
 |_=>none
noncomputable def sstep (P:Program) (E:XE) (H:List B):Op→Option (List B)
 | .store t x y=>match xev E x,xev E y,tinfo P t with
  |some (.y (.c (.p id o))),some (.y v),some (_,sz,_)=>if Nat.beq v.cells.length sz then (match findB H id with
   |some (i,.blk id t l)=>if Nat.ble (o+sz) l.length then setS H i (.blk id t (l.take o++v.cells++l.drop (o+sz))) else none
   |some (i,.row id e m ys)=>match ys[o/(m+1)]? with
    |some l=>if Nat.beq l.length (m+1)&&Nat.ble (o%(m+1)+sz) (m+1) then setS H i (.row id e m (ys.set (o/(m+1)) (l.take (o%(m+1))++v.cells++l.drop (o%(m+1)+sz)))) else none
    |none=>none
   |none=>none) else none
  |_,_,_=>none
 |_=>none
section
variable {P:Program} {N:NN} {Q:Exit→Act→World→Prop} {ops:Array Oper} {E:XE} {H H':List B} {I:Ids} {w0:World} {k k' d:Nat} {ty:TypeId} {pos:String} {af:Array Edge} {g:Option (Nat×Bool)} {KK:Act→World→Prop} {callf:CallF}
def Z.add (z:Z) (k nb c:Nat):Z:=⟨fun i=>if i=k then nb else z.r i,fun i=>if i=k then c else z.c i⟩
theorem Z.add_ext (z:Z) (k nb c:Nat):Z.ext k (k+1) z (z.add k nb c):=fun id hn=>by
 have:id≠k:=by rintro rfl;simp only[nin,Bool.or_eq_true,Nat.blt_eq,Nat.ble_eq] at hn;omega
 simp[Z.add,this]
theorem Z.add_r (z:Z) (k nb c:Nat):(z.add k nb c).r k=nb:=by simp[Z.add]
theorem Z.add_c (z:Z) (k nb c:Nat):(z.add k nb c).c k=c:=by simp[Z.add]
def CallOk (P:Program) (callf:CallF):Prop:= ∀f vs H k v H' k',callf f vs H k=some (v,H',k')→k≤k'∧ ∀z w,Fx P f (vs.map (X.den z)) w (Hd z H) no (fun u L=> ∃z',Z.ext k k' z z'∧u=v.den z'∧L=Hd z' H')
theorem xevs_ok: ∀ {xs:List Operand} {vs:List X},xevs E xs=some vs→ ∀z,evs (Ed z E) xs=some (vs.map (X.den z))
 |[],vs,h,z=>by simp only[xevs,Option.some.injEq] at h;subst h;rfl
 |x::r,vs,h,z=>by
  simp only[xevs] at h
  split at h
  ·rename_i v l h1 h2
   obtain rfl:=Option.some.inj h
   simp only[evs,ev_ok h1 z,xevs_ok h2 z,List.map_cons]
  ·cases h
theorem rep_made {l:List C} {m:Nat} (hl:l.length=m+1) (z:Z) (n:Nat):((Array.range (n* (m+1))).map ((l.map (C.den z)).toArray[· %(l.map (C.den z)).toArray.size]!))=(((List.replicate n l).flatten).map (C.den z)).toArray:=by
 have h1:=made_take (K:=rawK m) (zc:=(l.map (C.den z)).toArray) (n:=n) (c:=n) (y:=l.map (C.den z)) (by rw[rawK_f z hl]) (Nat.le_refl _)
 have h2:=flat_raw z (m:=m) (ys:=List.replicate n l) (by simp[hl])
 rw[List.map_replicate] at h2
 rw[h2] at h1
 have h3:(madeCells (l.map (C.den z)).toArray (n* (m+1))).toList=(List.replicate n l).flatten.map (C.den z):=by
  rw[←h1]
  exact(List.take_of_length_le (by rw[Array.length_toList,size_madeCells];exact Nat.le_refl _)).symm
 have h4:(Array.range (n* (m+1))).map ((l.map (C.den z)).toArray[· %(l.map (C.den z)).toArray.size]!)=madeCells (l.map (C.den z)).toArray (n* (m+1)):=rfl
 rw[h4,←h3,Array.toArray_toList]
theorem run_buildSlice {t e:TypeId} {n m:Nat} {ze:Value} {by_:Nat} {l r:List C} {vs:List (Nat×Y)} (hu:P.underlying t=some (.slice e)) (hi:TI P e ze (m+1) by_) (hz:ofCs ze.cells.toList=some l) (hl:l.length=m+1) (hn:n≤1000) (hm:m≤1000)
 (h:fillX (fun i=>some (i* (m+1),m+1)) (List.replicate n l).flatten vs=some r) (z:Z) (w:World):
 (Instr.buildSlice t n (vs.map fun p=>(p.1,p.2.den z)).toArray).run P w= .ok (.slice (some ⟨w.heap.size,0,none⟩) n n) (w.alloc (.cells (r.map (C.den z)).toArray e)):=by
 have hf:=fill_ok (z:=z) h
 have hzc:ze.cells=(l.map (C.den z)).toArray:=by rw[ofCs_den hz,Array.toArray_toList]
 have hsm: ¬n* (m+1)>2^24:=by
  have:n* (m+1)≤1000* 1001:=Nat.mul_le_mul hn (by omega)
  omega
 rw[←rep_made hl z n] at hf
 simp only[Instr.buildSlice,Sem.run_bind,run_underlying hu,Result.andThen_ok,hi.sizeOf,hsm,if_false,Sem.run_pure]
 by_cases h0:n* (m+1)=0
 ·have hn0:n=0:=by
   rcases Nat.mul_eq_zero.1 h0 with h|h
   ·exact h
   ·omega
  subst hn0
  simp only[Nat.zero_mul,if_true,Sem.run_pure,Result.andThen_ok] at hf ⊢
  have e1: ∀q:Array Value,(Array.range 0).map (q[· %q.size]!)= #[]:=fun q=>by simp
  rw[e1] at hf
  rw[pure_bind]
  simp only[e1,hf]
  simp only[Sem.run_bind,newRow,run_newObj_alloc,Result.andThen_ok,Sem.run_pure]
 ·simp only[h0,if_false,Sem.run_bind,hi.zeroValue,Result.andThen_ok,Sem.run_pure,hzc,hf,newRow,run_newObj_alloc]
theorem run_append_zero {w:World} {e t:TypeId} {ze:Value} {m by_ n:Nat} {v:Value} {Bq:Option Addr} {c:Nat} (hu:P.underlying t=some (.slice e)) (hi:TI P e ze (m+1) by_) {xs:List Value} (hown:w.ownsRow 0 e (m+1) v n xs):
 (Builtin.append_ #[t,t] ty #[v,.slice Bq 0 c]).run P w= .ok v w:=by
 obtain⟨inf,h1,h2,h3,h4⟩:=hi.get
 rcases hown.2 with ⟨rfl,rfl⟩|⟨g,cap,cur,rfl,_,_,hnc,_⟩
 ·cases Bq<;>simp[Builtin.append_,run_underlying hu,sizeOf,typeInfo,h1,Builtin.lenOf,Builtin.firstCells,loadCells,loadCellsFrom]
 ·cases Bq<;>simp[Builtin.append_,run_underlying hu,sizeOf,typeInfo,h1,Builtin.lenOf,Builtin.firstCells,hnc,storeCells,loadCells,loadCellsFrom]
theorem mk_ok {z:Z} {nb c:Nat} {b:B} {u:Value} {v:X} {A:Assn} (hH:okH k (k+1) H=true) (hE:okE k (k+1) E=true) (hv:v.den (z.add k nb c)=u) (hb:b.den (z.add k nb c)=A)
 (kk: ∀z',Z.ext k (k+1) z z'→KV N KK (set (Ed z' E) d (v.den z')) (Hp I w0 (Hd z' (ins b H)))):KV N KK (set (Ed z E) d u) (Hp I w0 (Hd z H++[A])):=by
 subst hv;subst hb
 have hx:=Z.add_ext z k nb c
 have h:=kk _ hx
 rw[Ed_ext hx hE] at h
 exact KV.heap (fun w hw=>Hp.ins (by rw[Hd_ext hx hH];exact hw)) h
theorem mk0_ok {z:Z} {nb c:Nat} {u:Value} {v:X} {A:Assn} (hH:okH k (k+1) H=true) (hE:okE k (k+1) E=true) (hv:v.den (z.add k nb c)=u)
 (kk: ∀z',Z.ext k (k+1) z z'→KV N KK (set (Ed z' E) d (v.den z')) (Hp I w0 (Hd z' H))):KV N KK (set (Ed z E) d u) (Hp I w0 (Hd z H++[A])):=by
 subst hv
 have hx:=Z.add_ext z k nb c
 have h:=kk _ hx
 rw[Ed_ext hx hE,Hd_ext hx hH] at h
 exact KV.heap (fun w hw=>Hp.sub hw) h
theorem Hd_get {z:Z} {i:Nat} {b:B} (h:H[i]?=some b):(Hd z H)[i]?=some (b.den z):=by simp[Hd,h]
theorem Hd_erase (z:Z): ∀(H:List B) (i:Nat),(Hd z H).eraseIdx i=Hd z (H.eraseIdx i)
 |[],_=>rfl
 |_::_,0=>rfl
 |b::H,i+1=>congrArg (b.den z:: ·) (Hd_erase z H i)
theorem Hd_set (z:Z): ∀(H:List B) (i:Nat) (b:B),(Hd z H).set i (b.den z)=Hd z (H.set i b)
 |[],_,_=>rfl
 |_::_,0,_=>rfl
 |c::H,i+1,b=>congrArg (c.den z:: ·) (Hd_set z H i b)
theorem okH_erase {lo hi:Nat}: ∀ {H:List B} {i:Nat},okH lo hi H=true→okH lo hi (H.eraseIdx i)=true
 |[],_,h=>h
 |_::_,0,h=>by have h:=okH_all h;simp only[List.all_cons,Bool.and_eq_true] at h;exact okH_of h.2
 |b::H,i+1,h=>by
  have h:=okH_all h
  simp only[List.all_cons,Bool.and_eq_true] at h
  have:=okH_all (okH_erase (H:=H) (i:=i) (okH_of h.2))
  exact okH_of (by simp[h.1,this])
theorem set_last {L:List Assn} {i:Nat} {A A':Assn} (h:L[i]?=some A):(L.set i A').Perm (L.eraseIdx i++[A']):=(perm_set A' h).symm.trans (List.perm_append_comm (l₁:=[A']))
theorem Hp.osForm {w:World} {L:List Assn} {i c:Nat} {α:Type} {K:Enc α} {e:TypeId} {A:Option Addr} {ys:List α} (h:Hp I w0 L w) (hk:L[i]?=some (OS e K A c ys)) (hne:0<ys.length): ∃q,A=some ⟨q,0,none⟩:=by
 obtain⟨_,_,hA,_⟩:=h.at hk
 rcases hA with ⟨_,rfl,_⟩|⟨q,_,rfl,_⟩
 ·simp at hne
 ·exact⟨q,rfl⟩
theorem KV.pull {p:Nat→Prop} {F:Env} {S:World→Prop} (hS: ∀w,S w→ ∃q,p q) (h: ∀q,p q→KV N KK F S):KV N KK F S:=fun a w hf hs=>let ⟨q,hq⟩:=hS w hs;h q hq a w hf hs
theorem app_ok {z:Z} {e m n c':Nat} {A':Option Addr} {zs:List (List C)} {L:List Assn} {i:Nat} {A:Assn} (hi:L[i]?=some A) (hL:(L.eraseIdx i)=Hd z H') (hH:okH k (k+1) H'=true) (hz:zs.all (fun l=>l.all (C.ok k (k+1)))=true) (hE:okE k (k+1) E=true) (hn:zs.length=n) (hp:0<n)
 (kk: ∀z',Z.ext k (k+1) z z'→KV N KK (set (Ed z' E) d ((X.y (.c (.sl k n))).den z')) (Hp I w0 (Hd z' (ins (.row k e m zs) H')))):
 KV N KK (set (Ed z E) d (.slice A' n c')) (Hp I w0 (L.set i (OS e (rawK m) A' c' (zs.map fun l=>l.map (C.den z))))):=by
 refine KV.pull (p:=fun q=>A'=some ⟨q,0,none⟩) (fun w hw=>Hp.osForm (i:=i) hw (by rw[List.getElem?_set_self (by exact(List.getElem?_eq_some_iff.1 hi).1)]) (by simpa[hn] using hp)) fun q hq=>?_
 subst hq
 refine KV.heap (fun w hw=>hw.perm (set_last hi)) ?_
 rw[hL]
 have hx:=Z.add_ext z k q c'
 refine mk_ok (nb:=q) (c:=c') (v:= .y (.c (.sl k n))) (b:= .row k e m zs) hH hE ?_ ?_ kk
 ·simp[X.den,Y.den,C.den,Z.add_r,Z.add_c]
 ·simp only[B.den,Z.add_r,Z.add_c]
  rw[list_ext (p:=fun l=>l.all (C.ok k (k+1))) (fun l hl=>list_ext (fun c hc=>C.den_ext hx (c:=c) hc) hl) hz]
theorem rows_ok {lo hi id e m:Nat} {ys:List (List C)}: ∀ {H:List B} {i:Nat},okH lo hi H=true→H[i]?=some (.row id e m ys)→ys.all (fun l=>l.all (C.ok lo hi))=true:=fun h hg=>by
 have:=List.all_eq_true.1 (okH_all h) _ (List.mem_of_getElem? hg)
 simp only[B.ok,Bool.and_eq_true] at this
 exact okR_all this.2
theorem picks_self (L:List Assn):picks (List.replicate L.length 0) L=some (L,[]):=by simpa using picks_all L []
end
section
variable {P:Program} {N:NN} {Q:Exit→Act→World→Prop} {ops:Array Oper} {E:XE} {H H':List B} {I:Ids} {w0:World} {k k' d:Nat} {ty:TypeId} {pos:String} {af:Array Edge} {g:Option (Nat×Bool)} {KK:Act→World→Prop} {callf:CallF} {z:Z}
theorem append_zero_ok {w:World} {t e m by_ n i:Nat} {ze v:Value} {x y:Operand} {c:Nat} {Bq:Option Addr} {F:Env} (hu:P.underlying t=some (.slice e)) (hi:TI P e ze (m+1) by_) (hx:ev F x=some v) (hy:ev F y=some (.slice Bq 0 c)) {S:World→Prop}
 (hown: ∀w,S w→ ∃xs,w.ownsRow 0 e (m+1) v n xs) (hg:Yes N ops ⟨some d,.call ⟨.builtin .append,#[x,y],#[t,t]⟩,ty,pos,af,g⟩ F) (hN:Nat.blt d N.n=true) (kk:KV N KK (set F d v) S):
 OV P N ops Q ⟨some d,.call ⟨.builtin .append,#[x,y],#[t,t]⟩,ty,pos,af,g⟩ F S KK:=
 OV.step hg (fun a w hf hs=>by
  obtain⟨xs,ho⟩:=hown w hs
  simp only[execOp,resolve,invoke,builtin,Sem.run_bind,Sem.run_pure,Result.andThen_ok,List.map_toArray,List.map_cons,List.map_nil,hf.ev hx,hf.ev hy,run_append_zero hu hi ho]) hN kk
theorem lstep_le (hc:CallOk P callf) {op:Op} {v:X} (h:lstep P callf E H k op=some (v,H',k')):k≤k':=by
 unfold lstep at h
 split at h
 all_goals first|unfold lAlloc at h|unfold lBox at h|unfold lMake at h|unfold lBs at h|unfold lMap at h|unfold lCall at h|skip
 all_goals repeat' split at h
 all_goals first|unfold lApp at h|unfold lFn at h|skip
 all_goals repeat' split at h
 all_goals first
  |(simp only[mkS_eq,Option.some.injEq,Prod.mk.injEq] at h;omega)
  |contradiction
  |exact(hc _ _ _ _ _ _ _ h).1
theorem lstep_ok (hc:CallOk P callf) {op:Op} {v:X} (h:lstep P callf E H k op=some (v,H',k')) (hE:okE k k' E=true) (hg:Yes N ops ⟨some d,op,ty,pos,af,g⟩ (Ed z E)) (hN:Nat.blt d N.n=true)
 (kk: ∀z',Z.ext k k' z z'→KV N KK (set (Ed z' E) d (v.den z')) (Hp I w0 (Hd z' H'))):OV P N ops Q ⟨some d,op,ty,pos,af,g⟩ (Ed z E) (Hp I w0 (Hd z H)) KK:=by
 unfold lstep at h
 split at h
 ·
  unfold lAlloc at h
  split at h
  ·rename_i ze sz by_ hi
   split at h
   ·rename_i l hl
    split at h
    ·rename_i hH
     simp only[mkS_eq,Option.some.injEq,Prod.mk.injEq] at h
     obtain⟨rfl,rfl,rfl⟩:=h
     refine OV.alloc (l.map (C.den z)).toArray (tinfo_TI hi) (by rw[ofCs_den hl,Array.toArray_toList]) hg hN fun nb=>mk_ok (nb:=nb) (c:=0) hH hE (by simp[X.den,Y.den,C.den,Z.add_r]) ?_ kk
     simp only[B.den,Z.add_r,ofCs_den hl]
    ·cases h
   ·cases h
  ·cases h
 ·
  unfold lBox at h
  split at h
  ·rename_i v' hx
   split at h
   ·rename_i hh
    simp only[Bool.and_eq_true] at hh
    simp only[mkS_eq,Option.some.injEq,Prod.mk.injEq] at h
    obtain⟨rfl,rfl,rfl⟩:=h
    refine OV.box (v'.cells.map (C.den z)).toArray (ev_ok hx z) (cells_den _) hg hN fun nb=>mk_ok (nb:=nb) (c:=0) hh.1 hE (by simp[X.den,Y.den,C.den,Z.add_r]) ?_ kk
    have hx2:=Z.add_ext z k nb 0
    simp only[B.den,Z.add_r]
    have:v'.cells.map (C.den (z.add k nb 0))=v'.cells.map (C.den z):=by
     have h2:=hh.2
     cases v' with
     |c x=>simp only[Y.cells,List.map_cons,List.map_nil,C.den_ext hx2 (c:=x) h2]
     |a l=>exact list_ext (fun c hc=>C.den_ext hx2 (c:=c) hc) ((allR_eq (C.ok k (k+1)) l).symm.trans h2)
    rw[this]
   ·cases h
  ·cases h
 ·
  unfold lMake at h
  split at h
  ·rename_i e k1 n k2 c hu hx hy
   split at h
   ·rename_i ze m by_ hi
    split at h
    ·rename_i l hl
     split at h
     ·rename_i hh
      simp only[Bool.and_eq_true,decide_eq_true_eq] at hh
      obtain⟨⟨hH,hlen⟩,h0,h1,h2,h3⟩:=hh
      have hlen':=Nat.eq_of_beq_eq_true hlen
      simp only[mkS_eq,Option.some.injEq,Prod.mk.injEq] at h
      obtain⟨rfl,rfl,rfl⟩:=h
      have hb:by_* c.toNat≤1000000* 1000000:=Nat.mul_le_mul h3 (by omega)
      refine OV.makeN (K:=rawK m) n.toNat c.toNat (l.map (C.den z)) hu (tinfo_TI hi) (by rw[rawK_f z hlen',ofCs_den hl]) (ev_ok hx z) (ev_ok hy z) (by omega) (by omega) (by omega) (by omega) (by omega) hg hN fun nb=>mk_ok (nb:=nb) (c:=c.toNat) hH hE (by simp[X.den,Y.den,C.den,Z.add_r,Z.add_c]) ?_ kk
      simp only[B.den,Z.add_r,Z.add_c,List.map_replicate,ofCs_den hl]
     ·cases h
    ·cases h
   ·cases h
  ·cases h
 ·
  rename_i t n ps
  unfold lBs at h
  split at h
  ·rename_i e vs hu hvs
   split at h
   ·rename_i ze m by_ hi
    split at h
    ·rename_i l hl
     split at h
     ·rename_i r hr
      split at h
      ·rename_i hh
       simp only[Bool.and_eq_true,decide_eq_true_eq] at hh
       obtain⟨⟨⟨⟨⟨⟨hH,hlen⟩,hn,hm⟩,hall⟩,hfl⟩,hcl⟩,hrok⟩:=hh
       have hlen':=Nat.eq_of_beq_eq_true hlen
       simp only[mkS_eq,Option.some.injEq,Prod.mk.injEq] at h
       obtain⟨rfl,rfl,rfl⟩:=h
       have hrun:=run_buildSlice hu (tinfo_TI hi) hl hlen' hn hm hr z
       have hl2:((chop m n r).map fun l=>l.map (C.den z)).length=n:=by rw[List.length_map,hcl]
       have key:=OV.buildSliceN (P:=P) (N:=N) (Q:=Q) (ops:=ops) (E:=Ed z E) (d:=d) (ty:=ty) (pos:=pos) (af:=af) (g:=g) (KK:=KK) (I0:=I) (w0:=w0) (L:=Hd z H) (K:=rawK m) (t:=t) (n:=n) (ps:=ps.toList) ((chop m n r).map fun l=>l.map (C.den z)) (xevp_ok hvs z) hrun (by rw[hl2])
        (by rw[flat_raw z hall,hfl]) (by omega) (by simpa using hg) hN
       have e2:ps.toList.toArray=ps:=by simp
       rw[e2] at key
       refine key fun nb=>?_
       rw[hl2]
       refine mk_ok (nb:=nb) (c:=n) (v:= .y (.c (.sl k n))) (b:= .row k e m (chop m n r)) hH hE (by simp[X.den,Y.den,C.den,Z.add_r,Z.add_c]) ?_ kk
       have hx2:=Z.add_ext z k nb n
       simp only[B.den,Z.add_r,Z.add_c]
       rw[list_ext (p:=fun l=>l.all (C.ok k (k+1))) (fun l hl=>list_ext (fun c hc=>C.den_ext hx2 (c:=c) hc) hl) (l:=chop m n r)]
       refine List.all_eq_true.2 fun l hl=>List.all_eq_true.2 fun c hc=>List.all_eq_true.1 hrok c ?_
       rw[←hfl]
       exact List.mem_flatten.2 ⟨l,hl,hc⟩
      ·cases h
     ·cases h
    ·cases h
   ·cases h
  ·cases h
 ·
  unfold lMap at h
  split at h
  ·split at h
   ·rename_i hH
    simp only[mkS_eq,Option.some.injEq,Prod.mk.injEq] at h
    obtain⟨rfl,rfl,rfl⟩:=h
    exact OV.makeMap0 (κ:=Unit) (ν:=Unit) (fun _=> .nilFunc) (fun _=> .nilFunc) hg hN fun nb=>mk0_ok (nb:=nb) (c:=0) hH hE (by simp[X.den,Y.den,C.den,Z.add_r]) kk
   ·cases h
  ·split at h
   ·rename_i hu hx
    split at h
    ·rename_i hH
     simp only[mkS_eq,Option.some.injEq,Prod.mk.injEq] at h
     obtain⟨rfl,rfl,rfl⟩:=h
     exact OV.makeMap (κ:=Unit) (ν:=Unit) (fun _=> .nilFunc) (fun _=> .nilFunc) hu (ev_ok hx z) hg hN fun nb=>mk0_ok (nb:=nb) (c:=0) hH hE (by simp[X.den,Y.den,C.den,Z.add_r]) kk
    ·cases h
   ·cases h
 ·rename_i c
  obtain⟨cal,args,ts⟩:=c
  obtain⟨args⟩:=args
  obtain⟨ts⟩:=ts
  unfold lCall at h
  split at h
  ·
   rename_i hcal
   simp only at hcal
   subst hcal
   split at h
   ·rename_i x y t t' ha hts
    simp only at ha hts
    subst ha;subst hts
    unfold lApp at h
    split at h
    ·rename_i htt
     subst htt
     split at h
     ·rename_i e hu
      split at h
      ·rename_i ze m by_ hi
       have hTI:=tinfo_TI hi
       split at h
       ·rename_i hx hy
        simp only[mkS_eq,Option.some.injEq,Prod.mk.injEq] at h
        obtain⟨rfl,rfl,rfl⟩:=h
        exact append_zero_ok (i:=0) (w:=w0) hu hTI (ev_ok hx z) (ev_ok hy z) (n:=0) (fun w hw=>⟨[],by simp[X.den,Y.den,C.den,World.ownsRow]⟩) hg hN (kk z (Z.ext.refl _ _ _))
       ·rename_i id2 n2 hx hy
        split at h
        ·rename_i h0
         have h0':=Nat.eq_of_beq_eq_true h0
         subst h0'
         simp only[mkS_eq,Option.some.injEq,Prod.mk.injEq] at h
         obtain⟨rfl,rfl,rfl⟩:=h
         exact append_zero_ok (i:=0) (w:=w0) hu hTI (ev_ok hx z) (ev_ok hy z) (n:=0) (fun w hw=>⟨[],by simp[X.den,Y.den,C.den,World.ownsRow]⟩) hg hN (kk z (Z.ext.refl _ _ _))
        ·rename_i h0
         split at h
         ·rename_i j id' e2 m2 ys2 hf2
          split at h
          ·rename_i hh
           simp only[Bool.and_eq_true,decide_eq_true_eq] at hh
           obtain⟨⟨⟨⟨⟨⟨hH,he⟩,hm⟩,hn⟩,hb⟩,hn6⟩,hze⟩:=hh
           obtain rfl:=Nat.eq_of_beq_eq_true he
           obtain rfl:=Nat.eq_of_beq_eq_true hm
           obtain rfl:=Nat.eq_of_beq_eq_true hn
           have hpos:0<ys2.length:=by
            rcases Nat.eq_zero_or_pos ys2.length with hq|hq
            ·rw[hq] at h0;exact absurd rfl h0
            ·exact hq
           simp only[mkS_eq,Option.some.injEq,Prod.mk.injEq] at h
           obtain⟨rfl,rfl,rfl⟩:=h
           obtain⟨hg2,hid2⟩:=findB_get hf2
           simp only[B.id] at hid2
           subst hid2
           have hlen:(Hd z H).length=H.length:=by simp[Hd]
           have hlast:(Hd z H++[OS e2 (rawK m2) none 0 []])[H.length]?=some (OS e2 (rawK m2) none 0 []):=by rw[←hlen];simp
           have hother:(Hd z H++[OS e2 (rawK m2) none 0 []])[j]?=some (OS e2 (rawK m2) (some ⟨z.r id',0,none⟩) (z.c id') (ys2.map fun l=>l.map (C.den z))):=by
            rw[List.getElem?_append_left (by rw[hlen];exact(List.getElem?_eq_some_iff.1 hg2).1)];exact Hd_get hg2
           refine OV.heap (fun w hw=>hw.nilOS (e:=e2) (K:=rawK m2)) ?_
           refine OV.append (K:=rawK m2) (ys:=[]) (zs:=ys2.map fun(l:List C)=>l.map (C.den z)) H.length hu hTI (Nat.eq_of_beq_eq_true hze) (ev_ok hx z) (ev_ok hy z) rfl (by simp) hlast (fun w hw=>hw.os j hother) (by simpa using(show ys2.length* by_≤140737488355328 by omega)) (by simp;omega) hg hN fun A' c'=>?_
           simp only[List.nil_append,List.length_map]
           exact app_ok (H':=H) hlast (by rw[←hlen];simp[List.eraseIdx_append_of_length_le]) hH (rows_ok hH hg2) hE rfl hpos kk
          ·cases h
         ·cases h
       ·rename_i id n id2 n2 hx hy
        split at h
        ·rename_i i id' e1 m1 ys hf
         obtain⟨hg1,hid1⟩:=findB_get hf
         simp only[B.id] at hid1
         subst hid1
         split at h
         ·rename_i hh1
          simp only[Bool.and_eq_true] at hh1
          obtain⟨⟨he1,hm1⟩,hn1⟩:=hh1
          obtain rfl:=Nat.eq_of_beq_eq_true he1
          obtain rfl:=Nat.eq_of_beq_eq_true hm1
          obtain rfl:=Nat.eq_of_beq_eq_true hn1
          split at h
          ·rename_i h0
           have h0':=Nat.eq_of_beq_eq_true h0
           subst h0'
           simp only[mkS_eq,Option.some.injEq,Prod.mk.injEq] at h
           obtain⟨rfl,rfl,rfl⟩:=h
           refine append_zero_ok (i:=0) (w:=w0) hu hTI (ev_ok hx z) (ev_ok hy z) (n:=ys.length) (fun w hw=>?_) hg hN (kk z (Z.ext.refl _ _ _))
           obtain⟨ii,_,hA,_⟩:=hw.at (Hd_get hg1)
           rcases hA with ⟨h1,_⟩|⟨q,cur,hq,hI,hb,hle,hcm,hsz,ht⟩
           ·cases h1
           ·refine⟨_,flat_length (rawK m1) (ys.map fun l=>l.map (C.den z)) |>.trans ?_,.inr ⟨q,z.c id',cur,?_,Nat.zero_le _,hb,?_,hcm,hsz,?_⟩⟩
            ·simp[rawK]
            ·simp only[X.den,Y.den,C.den,hq]
            ·simpa using hle
            ·simpa[rawK] using ht
          ·rename_i h0
           split at h
           ·rename_i j id2' e2 m2 ys2 hf2
            obtain⟨hg2,hid2⟩:=findB_get hf2
            simp only[B.id] at hid2
            subst hid2
            split at h
            ·rename_i hh
             simp only[Bool.and_eq_true,decide_eq_true_eq] at hh
             obtain⟨⟨⟨⟨⟨⟨hH,he⟩,hm⟩,hn⟩,hb⟩,hn6⟩,hze⟩:=hh
             obtain rfl:=Nat.eq_of_beq_eq_true he
             obtain rfl:=Nat.eq_of_beq_eq_true hm
             obtain rfl:=Nat.eq_of_beq_eq_true hn
             have hpos:0<ys2.length:=by
              rcases Nat.eq_zero_or_pos ys2.length with hq|hq
              ·rw[hq] at h0;exact absurd rfl h0
              ·exact hq
             simp only[mkS_eq,Option.some.injEq,Prod.mk.injEq] at h
             obtain⟨rfl,rfl,rfl⟩:=h
             refine OV.append (K:=rawK m2) (ys:=ys.map fun(l:List C)=>l.map (C.den z)) (zs:=ys2.map fun(l:List C)=>l.map (C.den z)) i hu hTI (Nat.eq_of_beq_eq_true hze) (ev_ok hx z) (ev_ok hy z) (by simp) (by simp) (Hd_get hg1) (fun w hw=>hw.os (A:=some ⟨z.r id2',0,none⟩) (c:=z.c id2') (e:=e2) j (Hd_get hg2))
              (by simpa using(show(ys.length+ys2.length)* by_≤140737488355328 by omega)) (by simp;omega) hg hN fun A' c'=>?_
             rw[←List.map_append,List.length_map,List.length_append]
             refine app_ok (H':=H.eraseIdx i) (Hd_get hg1) (Hd_erase z H i) (okH_erase hH) ?_ hE (List.length_append ..) (by omega) kk
             rw[List.all_append,rows_ok hH hg1,rows_ok hH hg2];rfl
            ·cases h
           ·cases h
         ·cases h
        ·cases h
       ·cases h
      ·cases h
     ·cases h
    ·cases h
   ·cases h
  ·
   rename_i f hcal
   simp only at hcal
   subst hcal
   unfold lFn at h
   split at h
   ·rename_i vs hvs
    split at h
    ·rename_i fn hfn
     split at h
     ·rename_i hh
      simp only[Bool.and_eq_true,Bool.not_eq_true'] at hh
      obtain⟨h1,h2⟩:=hc _ _ _ _ _ _ _ h
      refine OV.call (List.replicate (Hd z H).length 0) hfn hh.1 hh.2 (xevs_ok hvs z) (picks_self _) (fun w hw=>h2 z w) (fun _ hb=>hb.elim) hg hN fun u L hp=>?_
      obtain⟨z',hx,rfl,rfl⟩:=hp
      have:=kk z' hx
      rw[Ed_ext hx hE] at this
      simpa using this
     ·cases h
    ·cases h
   ·cases h
  ·cases h
 ·cases h
theorem sstep_ok {op:Op} (h:sstep P E H op=some H') (hg:Yes N ops ⟨none,op,ty,pos,af,g⟩ (Ed z E)) (kk:KV N KK (Ed z E) (Hp I w0 (Hd z H'))):OV P N ops Q ⟨none,op,ty,pos,af,g⟩ (Ed z E) (Hp I w0 (Hd z H)) KK:=by
 unfold sstep at h
 split at h
 ·split at h
  ·rename_i id o v ze sz by_ hx hy hi
   split at h
   ·rename_i hlen
    have hlen':=Nat.eq_of_beq_eq_true hlen
    split at h
    ·rename_i i id' t l hf
     obtain⟨hg1,hid⟩:=findB_get hf
     simp only[B.id] at hid
     subst hid
     split at h
     ·rename_i hle
      have hle':=Nat.le_of_ble_eq_true hle
      rw[setS_eq] at h
      obtain rfl:=Option.some.inj h
      refine OV.store i (v.cells.map (C.den z)) ((l.take o++v.cells++l.drop (o+sz)).map (C.den z)).toArray (tinfo_TI hi) (ev_ok hx z) (ev_ok hy z) (Hd_get hg1) (cells_den v) (by simpa using hlen') (by simp;omega) (fun u hu=>?_) (by simp[List.map_take,List.map_drop,hlen']) hg ?_
      ·obtain⟨c,_,rfl⟩:=List.mem_map.1 hu;exact C.one z c
      ·have:=Hd_set z H i (.blk id' t (l.take o++v.cells++l.drop (o+sz)))
       simp only[B.den] at this
       rw[this];exact kk
     ·cases h
    ·rename_i i id' e m ys hf
     obtain⟨hg1,hid⟩:=findB_get hf
     simp only[B.id] at hid
     subst hid
     split at h
     ·rename_i l hl
      split at h
      ·rename_i hh
       simp only[Bool.and_eq_true] at hh
       have hl1:=Nat.eq_of_beq_eq_true hh.1
       have hl2:=Nat.le_of_ble_eq_true hh.2
       rw[setS_eq] at h
       obtain rfl:=Option.some.inj h
       have hlt:=(List.getElem?_eq_some_iff.1 hl).1
       have hnew:(l.take (o%(m+1))++v.cells++l.drop (o%(m+1)+sz)).length=m+1:=by simp;omega
       have hget:(ys.map fun l=>l.map (C.den z)).getD (o/(m+1)) (rawK m).d=l.map (C.den z):=by simp[hl]
       refine OV.storeE (A:=some ⟨z.r id',0,none⟩) (K:=rawK m) i (o/(m+1)) ((l.take (o%(m+1))++v.cells++l.drop (o%(m+1)+sz)).map (C.den z)) (j:=o%(m+1)) (v.cells.map (C.den z)) (tinfo_TI hi) (ev_ok hx z) (ev_ok hy z) (Hd_get hg1) ?_ (cells_den v) (by simpa using hlen') (by simpa using hlt) ?_ (by simp[rawK];omega) hg ?_
       ·have:=Nat.div_add_mod o (m+1)
        simp only[of,rawK,Nat.zero_add]
        rw[Nat.mul_comm];exact this.symm
       ·rw[hget,rawK_f z hl1,rawK_f z hnew]
        simp[List.map_take,List.map_drop,hlen']
       ·have:=Hd_set z H i (.row id' e m (ys.set (o/(m+1)) (l.take (o%(m+1))++v.cells++l.drop (o%(m+1)+sz))))
        simp only[B.den,List.map_set] at this
        rw[this];exact kk
      ·cases h
     ·cases h
    ·cases h
   ·cases h
  ·cases h
 ·cases h
end
noncomputable def guardQ (ops:Array Oper) (E:XE):Option (Nat×Bool)→Option Bool
 |none=>some true
 |some (j,want)=>match (ops[j]?).bind (·.dst) with
  |some d=>match xget E d with
   |some (.y (.c (.b b)))=>some (b==want)
   |some .u=>some false
   |_=>none
  |none=>none
noncomputable def exOp (P:Program) (n:Nat) (callf:CallF) (ops:Array Oper) (E:XE) (H:List B) (k:Nat) (o:Oper):Option St:=
 match guardQ ops E o.guard with
 |some false=>match o.dst with
  |some d=>if Nat.blt d n then putS E d .u H k else none
  |none=>some (E,H,k)
 |some true=>match o.dst with
  |none=>match sstep P E H o.op with
   |some H'=>some (E,H',k)
   |none=>none
  |some d=>if Nat.blt d n then (match qstep P E H o.op with
   |some v=>putS E d v H k
   |none=>match lstep P callf E H k o.op with
    |some (v,H',k')=>if okE k k' E then putS E d v H' k' else none
    |none=>none) else none
 |none=>none
noncomputable def exOps (P:Program) (n:Nat) (callf:CallF) (ops:Array Oper) (l:List Oper) (E:XE) (H:List B) (k:Nat):Option St:=
 List.rec (motive:=fun _=>XE→List B→Nat→Option St) (fun E H k=>some (E,H,k)) (fun o _ ih E H k=>match exOp P n callf ops E H k o with
  |some (E',H',k')=>ih E' H' k'
  |none=>none) l E H k
def maskN (p:Nat→Bool):Nat→Nat
 |0=>0
 |n+1=>if p n then maskN p n|||2^n else maskN p n
theorem maskN_bit (p:Nat→Bool): ∀n j,(maskN p n).testBit j=(decide (j<n)&&p j)
 |0,j=>by simp[maskN]
 |n+1,j=>by
  have ih:=maskN_bit p n j
  unfold maskN
  by_cases hp:p n=true
  ·rw[if_pos hp,Nat.testBit_or,ih,Nat.testBit_two_pow]
   by_cases h:n=j
   ·subst h;simp[hp]
   ·have:decide (j<n+1)=decide (j<n):=by simp;omega
    simp[h,this]
  ·rw[if_neg hp,ih]
   by_cases h:n=j
   ·subst h;simp[hp]
   ·have:decide (j<n+1)=decide (j<n):=by simp;omega
    simp[this]
def sub1 (a m:Nat):Bool:=Nat.beq (Nat.land a m) a
theorem sub1_spec {a m:Nat} (h:sub1 a m=true) {j:Nat} (hj:a.testBit j=true):m.testBit j=true:=by
 have h1:a&&&m=a:=Nat.eq_of_beq_eq_true h
 have h2:=congrArg (·.testBit j) h1
 simp only[Nat.testBit_and,hj,Bool.true_and] at h2
 exact h2
theorem sub1_of {a m:Nat} (h: ∀j,a.testBit j=true→m.testBit j=true):sub1 a m=true:=by
 have h1:a&&&m=a:=Nat.eq_of_testBit_eq fun j=>by
  rw[Nat.testBit_and]
  cases ha:a.testBit j with
  |false=>rfl
  |true=>rw[h j ha];rfl
 unfold sub1
 rw[show Nat.land a m=a from h1]
 exact Nat.beq_refl a
def aft (ops:Array Oper) (i:Nat):Nat:=maskN (fun j=>match ops[i]? with
 |some o=>o.after.any fun e=>Region.binds .any e&&Nat.beq e.on j
 |none=>false) ops.size
def bad (ops:Array Oper) (i:Nat):Nat:=maskN (fun j=>!(Nat.beq j i)&&(match ops[i]?,ops[j]? with
 |some oi,some oj=>!(oj.after.any (fun e=>Region.binds .any e&&Nat.beq e.on i)||oi.apart ops oj)
 |_,_=>false)) ops.size
def within (ops:Array Oper):Bool:=ops.all fun o=>o.after.all fun e=>Nat.blt e.on ops.size
def rdyL (ops:Array Oper) (m:Nat):List Nat:=(List.range ops.size).filter fun i=>!m.testBit i&&sub1 (aft ops i) m
theorem bl_get (n m i:Nat) (d:Bool):(bl n m).getD i d=if i<n then m.testBit i else d:=by
 simp only[bl,Array.getD_eq_getD_getElem?,List.getElem?_toArray,List.getElem?_map]
 by_cases h:i<n
 ·simp[h]
 ·simp[h,List.getElem?_eq_none (l:=List.range n) (by simpa using Nat.le_of_not_lt h)]
theorem bl_set (n m i:Nat):(bl n m).setIfInBounds i true=bl n (m|||2^i):=by
 apply Array.ext_getElem?
 intro j
 simp only[bl,List.setIfInBounds_toArray,List.getElem?_toArray,List.getElem?_set,List.getElem?_map,List.length_map,List.length_range,List.getElem?_range',Nat.testBit_or,Nat.testBit_two_pow]
 by_cases hj:j<n
 ·by_cases hij:i=j
  ·subst hij;simp[hj]
  ·simp[hij,hj]
 ·have h1:(List.range n)[j]?=none:=List.getElem?_eq_none (by simpa using Nat.le_of_not_lt hj)
  rw[h1]
  by_cases hij:i=j
  ·subst hij;simp[hj]
  ·simp[hij]
theorem rdy_ok {ops:Array Oper} (hw:within ops=true) (m:Nat):Region.ready .any ops (bl ops.size m)=rdyL ops m:=by
 unfold Region.ready rdyL
 refine List.filter_congr fun i hi=>?_
 have hi':i<ops.size:=by simpa using hi
 rw[bl_get,if_pos hi']
 congr 1
 have ho:ops[i]?=some ops[i]:=by simp[hi']
 rw[ho]
 simp only[Option.map_some,Option.getD_some]
 have hwo:=Array.all_eq_true.1 hw i hi'
 rw[Bool.eq_iff_iff]
 constructor
 ·intro h
  refine sub1_of fun j hj=>?_
  rw[aft,maskN_bit,ho] at hj
  simp only[Bool.and_eq_true,decide_eq_true_eq] at hj
  obtain⟨e,he,h3⟩:=Array.any_eq_true'.1 hj.2
  simp only[Bool.and_eq_true] at h3
  have h4:=Array.all_eq_true_iff_forall_mem.1 h e he
  have hej:=Nat.eq_of_beq_eq_true h3.2
  rw[h3.1,bl_get,hej,if_pos hj.1] at h4
  simpa using h4
 ·intro h
  refine Array.all_eq_true_iff_forall_mem.2 fun e he=>?_
  cases hb:Region.binds .any e with
  |false=>rfl
  |true=>
   have hlt:e.on<ops.size:=by
    have:=Array.all_eq_true_iff_forall_mem.1 hwo e he
    simpa[Nat.blt_eq] using this
   have h5:(aft ops i).testBit e.on=true:=by
    rw[aft,maskN_bit,ho]
    simp only[Bool.and_eq_true,decide_eq_true_eq]
    exact⟨hlt,Array.any_eq_true'.2 ⟨e,he,by simp[hb]⟩⟩
   rw[bl_get,if_pos hlt,sub1_spec h h5]
   rfl
theorem bad_spec {ops:Array Oper} {i m:Nat} {oi:Oper} (hi:ops[i]?=some oi) (h:sub1 (bad ops i) m=true) (j:Nat) (oj:Oper) (hj:ops[j]?=some oj) (hne:j≠i) (hun:(bl ops.size m).getD j true=false)
 (hno: ∀e∈oj.after,Region.binds .any e=true→e.on≠i):oi.apart ops oj=true:=by
 have hlt:=(Array.getElem?_eq_some_iff.1 hj).1
 rw[bl_get,if_pos hlt] at hun
 cases hap:oi.apart ops oj with
 |true=>rfl
 |false=>
  have:(bad ops i).testBit j=true:=by
   rw[bad,maskN_bit,hi,hj]
   have h1:(oj.after.any fun e=>Region.binds .any e&&Nat.beq e.on i)=false:=by
    rw[←Bool.not_eq_true]
    intro hx
    obtain⟨e,he,h3⟩:=Array.any_eq_true'.1 hx
    simp only[Bool.and_eq_true] at h3
    exact hno e he h3.1 (Nat.eq_of_beq_eq_true h3.2)
   have h2:Nat.beq j i=false:=by rw[←Bool.not_eq_true,Nat.beq_eq];exact hne
   simp[hlt,h1,h2,hap]
  rw[sub1_spec h this] at hun
  cases hun
noncomputable def quiet (P:Program) (n:Nat) (ops:Array Oper) (c:Nat) (listed:Nat) (E:XE) (H0:List B):List Nat→Option (Nat×XE)
 |[]=>none
 |i::r=>match ops[i]? with
  |some o=>match o.dst with
   |some d=>match guardQ ops E o.guard with
    |some true=>match qstep P E H0 o.op with
     |some v=>if Nat.blt d n&&reachB ops .any i 8 c&&sub1 (bad ops i) listed then fX v fun v=>some (i,(d,v)::E) else quiet P n ops c listed E H0 r
     |none=>quiet P n ops c listed E H0 r
    |some false=>if Nat.blt d n&&reachB ops .any i 8 c&&sub1 (bad ops i) listed then some (i,(d,.u)::E) else quiet P n ops c listed E H0 r
    |none=>quiet P n ops c listed E H0 r
   |none=>quiet P n ops c listed E H0 r
  |none=>none
def same:List (Option St)→Option St
 |[]=>none
 |[x]=>x
 |some a::r=>match same r with
  |some b=>if a.1=b.1∧a.2.1=b.2.1∧a.2.2=b.2.2 then some a else none
  |none=>none
 |none::_=>none
noncomputable def exAny (P:Program) (n:Nat) (callf:CallF) (W:Nat) (ops:Array Oper) (c:Nat) (H0:List B) (k0:Nat):Nat→Nat→XE→List B→Option St
 |0,m,E,H=>match rdyL ops m with
  |[]=>fE (nE E) fun E=>some (E,H,k0+ops.size* W)
  |_=>none
 |fuel+1,m,E,H=>match rdyL ops m with
  |[]=>fE (nE E) fun E=>some (E,H,k0+ops.size* W)
  |rs=>match (if m.testBit c then none else quiet P n ops c m E H0 rs) with
   |some (i,E')=>if rs.contains i&&!(Nat.beq c i) then fN (m|||2^i) fun m=>exAny P n callf W ops c H0 k0 fuel m E' H else none
   |none=>same (rs.map fun i=>match ops[i]? with
    |some o=>match exOp P n callf ops E H (k0+i* W) o with
     |some (E',H',k')=>if Nat.ble k' (k0+i* W+W)&&((m|||2^i).testBit c||isSub H0 H') then fN (m|||2^i) fun m=>exAny P n callf W ops c H0 k0 fuel m E' H' else none
     |none=>none
    |none=>none)
def C.ids:C→List Nat
 | .p id _| .sl id _=>[id]
 |_=>[]
def Y.ids:Y→List Nat
 | .c x=>x.ids
 | .a l=>l.flatMap C.ids
def X.ids:X→List Nat
 | .y v=>v.ids
 | .t l=>l.flatMap Y.ids
 | .u=>[]
def idsIn (s:List Nat):B→List Nat
 | .blk id _ l=>if s.contains id then l.flatMap C.ids else []
 | .row id _ _ ys=>if s.contains id then ys.flatten.flatMap C.ids else []
noncomputable def seen (E:XE) (H:List B):List B:=
 let s1:=E.flatMap fun p=>p.2.ids
 let s2:=H.flatMap (idsIn s1)
 H.filter fun b=>match b with
  | .blk id _ _=>s1.contains id
  | .row id _ _ _=>s1.contains id||s2.contains id
inductive Out where
 |n|r
 |e (id:Nat)
def Out.to:Out→Exit
 | .n=> .normal
 | .r=> .ret
 | .e id=> .exit id
abbrev Res:=Option (Out×St)
noncomputable def iter (f:XE→List B→Nat→Res):Nat→XE→List B→Nat→Res
 |0,_,_,_=>none
 |m+1,E,H,k=>match f E H k with
  |some (.n,E',H',k')=>fE (nE E') fun E'=>iter f m E' H' k'
  |r=>r
noncomputable def exR (P:Program) (n:Nat) (callf:CallF) (W:Nat) (ops:Array Oper) (draw:Bool) (E:XE) (H:List B) (k:Nat):Res:=match draw with
 |false=>match exOps P n callf ops ops.toList E H k with
  |some s=>some (.n,s)
  |none=>none
 |true=>fH (seen E H) fun H0=>
  if within ops&&isSub H0 H&&Region.noSelect ops&&okE k (k+ops.size* W) E&&okH k (k+ops.size* W) H&&okH k (k+ops.size* W) H0 then (match exAny P n callf W ops (ops.size-1) H0 k ops.size 0 E H with
   |some s=>some (.n,s)
   |none=>none) else none
noncomputable def exC (P:Program) (n:Nat) (callf:CallF) (W:Nat) (c:Code):XE→List B→Nat→Res:=
 Code.rec (motive:=fun _=>XE→List B→Nat→Res)
  (fun E H k=>some (.n,E,H,k)) (fun _ ops draw=>exR P n callf W ops draw)
  (fun _ _ fa fb E H k=>match fa E H k with
   |some (.n,E',H',k')=>fb E' H' k'
   |r=>r)
  (fun c _ _ fa fb E H k=>match xev E c with
   |some (.y (.c (.b true)))=>fa E H k
   |some (.y (.c (.b false)))=>fb E H k
   |_=>none)
  (fun id _ fa E H k=>match fa E H k with
   |some (.e i,E',H',k')=>if Nat.beq i id then some (.n,E',H',k') else some (.e i,E',H',k')
   |r=>r)
  (fun _ fa E H k=>iter fa 200 E H k) (fun _ _ _ _ _ _ _ _ _=>none) (fun id E H k=>some (.e id,E,H,k)) (fun _ _ _ _ _=>none) (fun _ _ _ _=>none) (fun _ _ _ _=>none) (fun E H k=>some (.r,E,H,k)) (fun _ _ _ _=>none) c
def argsE:Nat→List X→XE
 |_,[]=>[]
 |i,v::r=>(i,v)::argsE (i+1) r
noncomputable def resX (P:Program) (H:List B):List ResultVar→XE→Option X
 |[],_=>some (.t [])
 |[.tmp a],E=>xget E a
 |[.tmp a,.tmp b],E=>match xget E a,xget E b with
  |some (.y u),some (.y v)=>some (.t [u,v])
  |_,_=>none
 |[.tmp a,.tmp b,.tmp c],E=>match xget E a,xget E b,xget E c with
  |some (.y u),some (.y v),some (.y x)=>some (.t [u,v,x])
  |_,_,_=>none
 |[.cell a ty,.tmp b],E=>match xget E a,xget E b,P.underlying ty,tinfo P ty with
  |some (.y (.c (.p id o))),some (.y v),some D,some (_,sz,_)=>match rd H id with
   |some l=>if aggD D then (cutC l o sz).map fun r=> .t [.a r,v] else none
   |none=>none
  |_,_,_,_=>none
 |_,_=>none
noncomputable def exF (P:Program):Nat→CallF
 |0,_,_,_,_=>none
 |d+1,f,vs,H,k=>match P.funcs[f]? with
  |some fn=>match fn.body with
   |some c=>if Nat.ble vs.length fn.ntmps then (match exC P fn.ntmps (exF P d) (2^(40* d)) c (argsE 0 vs) H k with
    |some (.n,E',H',k')=>match resX P H' fn.results.toList E' with
     |some v=>if Nat.ble k k' then some (v,H',k') else none
     |none=>none
    |some (.r,E',H',k')=>match resX P H' fn.results.toList E' with
     |some v=>if Nat.ble k k' then some (v,H',k') else none
     |none=>none
    |_=>none) else none
   |none=>none
  |none=>none
section
variable {P:Program} {n:Nat} {Q:Exit→Act→World→Prop} {ops:Array Oper} {E E':XE} {H H' H0:List B} {I:Ids} {w0:World} {k k' d W:Nat} {KK:Act→World→Prop} {callf:CallF} {z:Z}
theorem guard_yes {o:Oper} (h:guardQ ops E o.guard=some true) {D:List Deferred}:Yes ⟨n,D⟩ ops o (Ed z E):=by
 obtain⟨dst,op,ty,pos,af,g⟩:=o
 simp only at h
 cases g with
 |none=>exact gno
 |some p=>
  obtain⟨j,want⟩:=p
  simp only[guardQ] at h
  split at h
  ·rename_i d hd
   split at h
   ·rename_i b hb
    simp only[Option.some.injEq,beq_iff_eq] at h
    subst h
    exact gyes (by simp[wantsE,hd,get_Ed,hb,X.den,Y.den,C.den])
   ·cases h
   ·cases h
  ·cases h
theorem guard_no {o:Oper} (h:guardQ ops E o.guard=some false) {N:NN} {a:Act} (hf:Fits N a (Ed z E)):Region.wanted o (yielded ops a.tmps)=false:=by
 obtain⟨dst,op,ty,pos,af,g⟩:=o
 simp only at h
 cases g with
 |none=>simp[guardQ] at h
 |some p=>
  obtain⟨j,want⟩:=p
  simp only[guardQ] at h
  split at h
  ·rename_i d hd
   split at h
   ·rename_i b hb
    simp only[Option.some.injEq,beq_eq_false_iff_ne] at h
    rw[wanted_of hf rfl (b:=b) (by simp[wantsE,hd,get_Ed,hb,X.den,Y.den,C.den])]
    simpa using h
   ·rename_i hb
    exact wanted_none_of hf rfl (by simp[noneE,hd,get_Ed,hb,X.den];rfl)
   ·cases h
  ·cases h
theorem exOp_ok (hc:CallOk P callf) {o:Oper} (h:exOp P n callf ops E H k o=some (E',H',k')):k≤k'∧ ∀z KK,(∀z',Z.ext k k' z z'→KV ⟨n,[]⟩ KK (Ed z' E') (Hp I w0 (Hd z' H')))→OV P ⟨n,[]⟩ ops Q o (Ed z E) (Hp I w0 (Hd z H)) KK:=by
 unfold exOp at h
 split at h
 ·rename_i hgd
  split at h
  ·rename_i d hd
   split at h
   ·rename_i hN
    simp only[putS_eq,Option.some.injEq,Prod.mk.injEq] at h
    obtain⟨rfl,rfl,rfl⟩:=h
    refine⟨Nat.le_refl _,fun z KK kk a w hf hs=>?_⟩
    rw[if_neg (by rw[guard_no hgd hf];decide),hd]
    exact kk z (Z.ext.refl _ _ _) _ w (hf.put undef hN) hs
   ·cases h
  ·rename_i hd
   simp only[putS_eq,Option.some.injEq,Prod.mk.injEq] at h
   obtain⟨rfl,rfl,rfl⟩:=h
   refine⟨Nat.le_refl _,fun z KK kk a w hf hs=>?_⟩
   rw[if_neg (by rw[guard_no hgd hf];decide),hd]
   exact kk z (Z.ext.refl _ _ _) _ w (hf.put_none _) hs
 ·rename_i hgd
  split at h
  ·rename_i hd
   split at h
   ·rename_i H2 hs
    simp only[putS_eq,Option.some.injEq,Prod.mk.injEq] at h
    obtain⟨rfl,rfl,rfl⟩:=h
    refine⟨Nat.le_refl _,fun z KK kk=>?_⟩
    have hg:=guard_yes (z:=z) (n:=n) (D:=[]) hgd
    obtain⟨dst,op,ty,pos,af,g⟩:=o
    simp only at hd;subst hd
    exact sstep_ok hs hg (kk z (Z.ext.refl _ _ _))
   ·cases h
  ·rename_i d hd
   split at h
   ·rename_i hN
    split at h
    ·rename_i v hq
     simp only[putS_eq,Option.some.injEq,Prod.mk.injEq] at h
     obtain⟨rfl,rfl,rfl⟩:=h
     refine⟨Nat.le_refl _,fun z KK kk=>?_⟩
     have hg:=guard_yes (z:=z) (n:=n) (D:=[]) hgd
     obtain⟨dst,op,ty,pos,af,g⟩:=o
     simp only at hd;subst hd
     exact OV.step hg (qstep_ok hq) hN ((kk z (Z.ext.refl _ _ _)))
    ·split at h
     ·rename_i v H2 k2 hl
      split at h
      ·rename_i hE
       simp only[putS_eq,Option.some.injEq,Prod.mk.injEq] at h
       obtain⟨rfl,rfl,rfl⟩:=h
       refine⟨lstep_le hc hl,fun z KK kk=>?_⟩
       have hg:=guard_yes (z:=z) (n:=n) (D:=[]) hgd
       obtain⟨dst,op,ty,pos,af,g⟩:=o
       simp only at hd;subst hd
       exact lstep_ok hc hl hE hg hN fun z' hx=>(kk z' hx)
      ·cases h
     ·cases h
   ·cases h
 ·cases h
theorem exOps_ok (hc:CallOk P callf): ∀ {l:List Oper} {E H k E' H' k'},exOps P n callf ops l E H k=some (E',H',k')→k≤k'∧ ∀z,(∀z',Z.ext k k' z z'→KV ⟨n,[]⟩ (Q .normal) (Ed z' E') (Hp I w0 (Hd z' H')))→RV P ⟨n,[]⟩ ops Q l (Ed z E) (Hp I w0 (Hd z H))
 |[],E,H,k,E',H',k',h=>by
  replace h:some (E,H,k)=some (E',H',k'):=h
  simp only[Option.some.injEq,Prod.mk.injEq] at h
  obtain⟨rfl,rfl,rfl⟩:=h
  exact⟨Nat.le_refl _,fun z kk=>RV.nil (kk z (Z.ext.refl _ _ _))⟩
 |o::r,E,H,k,E',H',k',h=>by
  replace h:(match exOp P n callf ops E H k o with
   |some (E',H',k')=>exOps P n callf ops r E' H' k'
   |none=>none)=some (E',H',k'):=h
  split at h
  ·rename_i E1 H1 k1 h1
   obtain⟨hle,h2⟩:=exOp_ok (Q:=Q) (I:=I) (w0:=w0) hc h1
   obtain⟨hle2,h3⟩:=exOps_ok hc h
   exact⟨Nat.le_trans hle hle2,fun z kk=>RV.op (h2 z _ fun z1 hx1=>h3 z1 fun z2 hx2=>kk z2 ((hx1.wide (Nat.le_refl _) hle2).trans (hx2.wide hle (Nat.le_refl _))))⟩
  ·cases h
def NP (Q:Exit→Act→World→Prop):Prop:= ∀c a d v w,Q (.panic c) (a.put (some d) v) w→Q (.panic c) a w
theorem quiet_ok {m:Nat} {fuel i c:Nat} {S:World→Prop} (hns:Region.noSelect ops=true) (hQ:NP Q) (hS: ∀w,S w→Hp I w0 (Hd z H0) w) (hd:Down ops .any (bl ops.size m)) (hlc:(bl ops.size m).getD c false=false) (hci:c≠i) (hr:i∈Region.ready .any ops (bl ops.size m)):
 ∀ {rs:List Nat},quiet P n ops c m E H0 rs=some (i,E')→
 AC P ⟨n,[]⟩ ops Q (Hp I w0 (Hd z H0)) c fuel ((bl ops.size m).setIfInBounds i true) (Ed z E') S→AC P ⟨n,[]⟩ ops Q (Hp I w0 (Hd z H0)) c (fuel+1) (bl ops.size m) (Ed z E) S
 |[],h,_=>by cases h
 |j::r,h,kk=>by
  simp only[quiet] at h
  split at h
  ·rename_i o ho
   split at h
   ·rename_i d hdd
    split at h
    ·rename_i hgd
     split at h
     ·rename_i v hq
      split at h
      ·rename_i hh
       simp only[Bool.and_eq_true] at hh
       obtain⟨⟨hN,hw⟩,hfr⟩:=hh
       simp only[fX_eq,fE_eq,Option.some.injEq,Prod.mk.injEq] at h
       obtain⟨rfl,rfl⟩:=h
       have hg:=guard_yes (z:=z) (n:=n) (D:=[]) hgd
       obtain⟨dst,op,ty,pos,af,g⟩:=o
       simp only at hdd;subst hdd
       intro a w hf hs'
       exact wpAnyC_first ho (reachB_spec _ _ hw) hci (Region.noSelect_spec hns) (fun c a w=>hQ c a d _ w) fuel _ a w (bad_spec ho hfr) hr hd hlc (.inl ⟨hg a hf,fun w' hw'=>qstep_ok hq a w' hf hw'⟩) (hS w hs') (kk _ w (hf.put _ hN) hs')
      ·exact quiet_ok hns hQ hS hd hlc hci hr h kk
     ·exact quiet_ok hns hQ hS hd hlc hci hr h kk
    ·rename_i hgd
     split at h
     ·rename_i hh
      simp only[Bool.and_eq_true] at hh
      obtain⟨⟨hN,hw⟩,hfr⟩:=hh
      simp only[fE_eq,Option.some.injEq,Prod.mk.injEq] at h
      obtain⟨rfl,rfl⟩:=h
      intro a w hf hs
      refine wpAnyC_first ho (reachB_spec _ _ hw) hci (Region.noSelect_spec hns) (fun c a w=>by rw[hdd];exact hQ c a d undef w) fuel _ a w (bad_spec ho hfr) hr hd hlc (.inr ⟨guard_no hgd hf,rfl⟩) (hS w hs) ?_
      rw[hdd]
      exact kk _ w (hf.put undef hN) hs
     ·exact quiet_ok hns hQ hS hd hlc hci hr h kk
    ·exact quiet_ok hns hQ hS hd hlc hci hr h kk
   ·exact quiet_ok hns hQ hS hd hlc hci hr h kk
  ·cases h
theorem same_ok {s:St}: ∀ {l:List (Option St)},same l=some s→ ∀x∈l,x=some s
 |[],h,_,_=>by cases h
 |[x],h,y,hy=>by simp only[same] at h;simp only[List.mem_singleton] at hy;rw[hy,h]
 |some a::b::r,h,y,hy=>by
  simp only[same] at h
  split at h
  ·rename_i t ht
   split at h
   ·rename_i he
    obtain rfl:=Option.some.inj h
    have hts:t=a:=by
     obtain⟨h1,h2,h3⟩:=he
     exact Prod.ext h1.symm (Prod.ext h2.symm h3.symm)
    subst hts
    rcases List.mem_cons.1 hy with rfl|hy
    ·rfl
    ·exact same_ok ht y hy
   ·cases h
  ·cases h
 |none::b::r,h,_,_=>by simp[same] at h
theorem allC {listed:Array Bool} {fuel c:Nat} {S0 S:World→Prop} {F:Env} {N:NN}: ∀ {rs:List Nat},(∀i∈rs,∃o,ops[i]?=some o∧OV P N ops Q o F S (fun a' w'=>((listed.setIfInBounds i true).getD c false=true∨S0 w')∧wpAnyC P .any ops Q S0 c fuel (listed.setIfInBounds i true) a' w'))→AllC P N ops Q S0 c fuel listed F S rs
 |[],_=>trivial
 |i::r,h=>⟨h i (by simp),allC fun j hj=>h j (by simp[hj])⟩
theorem any_lt {m i:Nat} (h:i∈rdyL ops m):i<ops.size:=by
 simp only[rdyL,List.mem_filter,List.mem_range] at h
 exact h.1
theorem exAny_ok (hc:CallOk P callf) (hwi:within ops=true) (hns:Region.noSelect ops=true) (hQ:NP Q) {k0 c:Nat} {z0:Z} (hcl:c<ops.size) (hH0:okH k0 (k0+ops.size* W) H0=true):
 ∀ {fuel:Nat} {m:Nat} {E H E' H' k'},exAny P n callf W ops c H0 k0 fuel m E H=some (E',H',k')→ ∀z,Z.ext k0 (k0+ops.size* W) z0 z→Down ops .any (bl ops.size m)→(m.testBit c=true∨isSub H0 H=true)→(∀z',Z.ext k0 k' z0 z'→KV ⟨n,[]⟩ (Q .normal) (Ed z' E') (Hp I w0 (Hd z' H')))→
  AC P ⟨n,[]⟩ ops Q (Hp I w0 (Hd z0 H0)) c fuel (bl ops.size m) (Ed z E) (Hp I w0 (Hd z H)):=by
 intro fuel
 induction fuel with
 |zero=>
  intro m E H E' H' k' h z hx hd hsub kk
  simp only[exAny] at h
  split at h
  ·rename_i hr
   simp only[fE_eq,Option.some.injEq,Prod.mk.injEq] at h
   obtain⟨rfl,rfl,rfl⟩:=h
   exact AC.done ((rdy_ok hwi m).trans hr) (KV.nE (kk z hx))
  ·cases h
 |succ fuel ih=>
  intro m E H E' H' k' h z hx hd hsub kk
  have hS: ∀z1,Z.ext k0 (k0+ops.size* W) z0 z1→ ∀H1,isSub H0 H1=true→ ∀w,Hp I w0 (Hd z1 H1) w→Hp I w0 (Hd z0 H0) w:=fun z1 hx1 H1 hs1 w hw=>by rw[←Hd_ext hx1 hH0];exact Hp.isSub hs1 hw
  simp only[exAny] at h
  split at h
  ·rename_i hr
   simp only[fE_eq,Option.some.injEq,Prod.mk.injEq] at h
   obtain⟨rfl,rfl,rfl⟩:=h
   exact AC.done ((rdy_ok hwi m).trans hr) (KV.nE (kk z hx))
  ·rename_i hr
   split at h
   ·rename_i i E1 hq
    split at hq
    ·cases hq
    ·rename_i hlc
     split at h
     ·rename_i hh
      simp only[Bool.and_eq_true,Bool.not_eq_true'] at hh
      have hri:i∈Region.ready .any ops (bl ops.size m):=by rw[rdy_ok hwi];simpa using hh.1
      have hil:i∈rdyL ops m:=by simpa using hh.1
      have hci:c≠i:=by rintro rfl;rw[Nat.beq_refl] at hh;cases hh.2
      have hlc1:m.testBit c=false:=by simpa using hlc
      have hlc':(bl ops.size m).getD c false=false:=by rw[bl_get];split<;>first|exact hlc1|rfl
      have hsub':isSub H0 H=true:=by
       rcases hsub with h1|h1
       ·rw[hlc1] at h1;cases h1
       ·exact h1
      rw[fN_eq] at h
      have e1:=bl_set ops.size m i
      have e0:Hd z0 H0=Hd z H0:=(Hd_ext hx hH0).symm
      have hk:=ih h z hx (e1▸hd.next hri) (.inr hsub') kk
      rw[e0,←e1] at hk
      rw[e0]
      exact quiet_ok hns hQ (fun w hw=>Hp.isSub hsub' hw) hd hlc' hci hri hq hk
     ·cases h
   ·refine AC.all _ (rdy_ok hwi m) (fun e=>hr e) (allC fun i hi=>?_)
    have hlt:=any_lt hi
    have hs:=same_ok h _ (List.mem_map.2 ⟨i,hi,rfl⟩)
    split at hs
    ·rename_i o ho
     split at hs
     ·rename_i E1 H1 k1 h1
      split at hs
      ·rename_i hh
       simp only[Bool.and_eq_true,Bool.or_eq_true] at hh
       rw[fN_eq] at hs
       have e1:=bl_set ops.size m i
       obtain⟨hle,hov⟩:=exOp_ok (Q:=Q) (I:=I) (w0:=w0) hc h1
       have hw:k0+i* W+W≤k0+ops.size* W:=by
        have:(i+1)* W≤ops.size* W:=Nat.mul_le_mul_right _ hlt
        rw[Nat.add_mul] at this;omega
       have hk1:=Nat.le_of_ble_eq_true hh.1
       refine⟨o,ho,hov z _ fun z1 hx1=>?_⟩
       have hx2:Z.ext k0 (k0+ops.size* W) z0 z1:=hx.trans (hx1.wide (by omega) (by omega))
       have hri:i∈Region.ready .any ops (bl ops.size m):=by rw[rdy_ok hwi];exact hi
       refine AC.next _ e1 ?_ (ih hs z1 hx2 (e1▸hd.next hri) hh.2 kk)
       rcases hh.2 with hq|hq
       ·by_cases hcs:c<ops.size
        ·exact .inl (by rw[bl_get,if_pos hcs];exact hq)
        ·exact absurd hcl hcs
       ·exact .inr (hS z1 hx2 H1 hq)
      ·cases hs
     ·cases hs
    ·cases hs
theorem exAny_k {k0 c:Nat}: ∀ {fuel:Nat} {m:Nat} {E H E' H' k'},exAny P n callf W ops c H0 k0 fuel m E H=some (E',H',k')→k'=k0+ops.size* W:=by
 intro fuel
 induction fuel with
 |zero=>
  intro m E H E' H' k' h
  simp only[exAny] at h
  split at h
  ·simp only[fE_eq,Option.some.injEq,Prod.mk.injEq] at h;exact h.2.2.symm
  ·cases h
 |succ fuel ih=>
  intro m E H E' H' k' h
  simp only[exAny] at h
  split at h
  ·simp only[fE_eq,Option.some.injEq,Prod.mk.injEq] at h;exact h.2.2.symm
  ·rename_i hr
   split at h
   ·split at h
    ·rw[fN_eq] at h;exact ih h
    ·cases h
   ·cases hrs:rdyL ops m with
    |nil=>exact absurd hrs hr
    |cons i r=>
     rw[hrs] at h
     have hs:=same_ok h _ (List.mem_map.2 ⟨i,by simp,rfl⟩)
     split at hs
     ·split at hs
      ·split at hs
       ·rw[fN_eq] at hs;exact ih hs
       ·cases hs
      ·cases hs
     ·cases hs
theorem NP.then {next:Act→World→Prop} (h:NP Q):NP (Exit.then next Q):=h
theorem NP.inBlock {id:Nat} (h:NP Q):NP (Exit.inBlock id Q):=h
def RunOk (P:Program) (n:Nat) (I:Ids) (w0:World) (f:XE→List B→Nat→Res) (c:Code):Prop:= ∀E H k x E' H' k',f E H k=some (x,E',H',k')→k≤k'∧ ∀z Q,NP Q→(∀z',Z.ext k k' z z'→KV ⟨n,[]⟩ (Q x.to) (Ed z' E') (Hp I w0 (Hd z' H')))→CV P ⟨n,[]⟩ c Q (Ed z E) (Hp I w0 (Hd z H))
theorem iter_ok {f:XE→List B→Nat→Res} {c:Code} (hf:RunOk P n I w0 f c): ∀ {m:Nat} {E H k x E' H' k'},iter f m E H k=some (x,E',H',k')→k≤k'∧ ∀z Q,NP Q→(∀z',Z.ext k k' z z'→KV ⟨n,[]⟩ (Q x.to) (Ed z' E') (Hp I w0 (Hd z' H')))→KV ⟨n,[]⟩ (Code.rounds P c Q m) (Ed z E) (Hp I w0 (Hd z H)):=by
 intro m
 induction m with
 |zero=>intro E H k x E' H' k' h;cases h
 |succ m ih=>
  intro E H k x E' H' k' h
  simp only[iter] at h
  split at h
  ·rename_i E1 H1 k1 h1
   rw[fE_eq] at h
   obtain⟨hle,h2⟩:=hf _ _ _ _ _ _ _ h1
   obtain⟨hle2,h3⟩:=ih h
   exact⟨Nat.le_trans hle hle2,fun z Q hQ kk=>h2 z _ hQ.then fun z1 hx1=>KV.nE<|h3 z1 Q hQ fun z2 hx2=>kk z2 ((hx1.wide (Nat.le_refl _) hle2).trans (hx2.wide hle (Nat.le_refl _)))⟩
  ·rename_i hne
   obtain⟨hle,h2⟩:=hf _ _ _ _ _ _ _ h
   refine⟨hle,fun z Q hQ kk=>h2 z _ hQ.then ?_⟩
   cases x with
   |n=>exact absurd h (hne _ _ _)
   |r=>exact kk
   |e id=>exact kk
theorem exC_ok (hc:CallOk P callf) (hm:P.follows .mixedOrders=true): ∀c:Code,RunOk P n I w0 (exC P n callf W c) c:=by
 intro c
 induction c with
 |skip=>
  intro E H k x E' H' k' h
  replace h:some (Out.n,E,H,k)=some (x,E',H',k'):=h
  simp only[Option.some.injEq,Prod.mk.injEq] at h
  obtain⟨rfl,rfl,rfl,rfl⟩:=h
  exact⟨Nat.le_refl _,fun z Q _ kk=>CV.skip (kk z (Z.ext.refl _ _ _))⟩
 |ret=>
  intro E H k x E' H' k' h
  replace h:some (Out.r,E,H,k)=some (x,E',H',k'):=h
  simp only[Option.some.injEq,Prod.mk.injEq] at h
  obtain⟨rfl,rfl,rfl,rfl⟩:=h
  exact⟨Nat.le_refl _,fun z Q _ kk=>CV.ret (kk z (Z.ext.refl _ _ _))⟩
 |exit id=>
  intro E H k x E' H' k' h
  replace h:some (Out.e id,E,H,k)=some (x,E',H',k'):=h
  simp only[Option.some.injEq,Prod.mk.injEq] at h
  obtain⟨rfl,rfl,rfl,rfl⟩:=h
  exact⟨Nat.le_refl _,fun z Q _ kk=>CV.exit (kk z (Z.ext.refl _ _ _))⟩
 |seq a b iha ihb=>
  intro E H k x E' H' k' h
  replace h:(match exC P n callf W a E H k with
   |some (.n,E',H',k')=>exC P n callf W b E' H' k'
   |r=>r)=some (x,E',H',k'):=h
  split at h
  ·rename_i E1 H1 k1 h1
   obtain⟨hle,h2⟩:=iha _ _ _ _ _ _ _ h1
   obtain⟨hle2,h3⟩:=ihb _ _ _ _ _ _ _ h
   exact⟨Nat.le_trans hle hle2,fun z Q hQ kk=>CV.seq (h2 z _ hQ.then fun z1 hx1=>h3 z1 Q hQ fun z2 hx2=>kk z2 ((hx1.wide (Nat.le_refl _) hle2).trans (hx2.wide hle (Nat.le_refl _))))⟩
  ·rename_i hne
   obtain⟨hle,h2⟩:=iha _ _ _ _ _ _ _ h
   refine⟨hle,fun z Q hQ kk=>CV.seq (h2 z _ hQ.then ?_)⟩
   cases x with
   |n=>exact absurd h (hne _ _ _)
   |r=>exact kk
   |e id=>exact kk
 |cond c a b iha ihb=>
  intro E H k x E' H' k' h
  replace h:(match xev E c with
   |some (.y (.c (.b true)))=>exC P n callf W a E H k
   |some (.y (.c (.b false)))=>exC P n callf W b E H k
   |_=>none)=some (x,E',H',k'):=h
  split at h
  ·rename_i hx
   obtain⟨hle,h2⟩:=iha _ _ _ _ _ _ _ h
   exact⟨hle,fun z Q hQ kk=>CV.cond_t (ev_ok hx z) (h2 z Q hQ kk)⟩
  ·rename_i hx
   obtain⟨hle,h2⟩:=ihb _ _ _ _ _ _ _ h
   exact⟨hle,fun z Q hQ kk=>CV.cond_f (ev_ok hx z) (h2 z Q hQ kk)⟩
  ·cases h
 |block id c ih=>
  intro E H k x E' H' k' h
  replace h:(match exC P n callf W c E H k with
   |some (.e i,E',H',k')=>if Nat.beq i id then some (.n,E',H',k') else some (.e i,E',H',k')
   |r=>r)=some (x,E',H',k'):=h
  split at h
  ·rename_i i E1 H1 k1 h1
   obtain⟨hle,h2⟩:=ih _ _ _ _ _ _ _ h1
   split at h
   ·rename_i hb
    have hb':=Nat.eq_of_beq_eq_true hb
    subst hb'
    simp only[Option.some.injEq,Prod.mk.injEq] at h
    obtain⟨rfl,rfl,rfl,rfl⟩:=h
    exact⟨hle,fun z Q hQ kk=>CV.block (h2 z _ hQ.inBlock fun z' hx=>KV.block_hit (kk z' hx))⟩
   ·rename_i hb
    simp only[Option.some.injEq,Prod.mk.injEq] at h
    obtain⟨rfl,rfl,rfl,rfl⟩:=h
    exact⟨hle,fun z Q hQ kk=>CV.block (h2 z _ hQ.inBlock fun z' hx=>KV.block_miss (by rw[←Bool.not_eq_true];exact hb) (kk z' hx))⟩
  ·rename_i hne
   obtain⟨hle,h2⟩:=ih _ _ _ _ _ _ _ h
   refine⟨hle,fun z Q hQ kk=>CV.block (h2 z _ hQ.inBlock ?_)⟩
   cases x with
   |n=>exact kk
   |r=>exact kk
   |e i=>exact absurd h (hne _ _ _ _)
 |loop c ih=>
  intro E H k x E' H' k' h
  replace h:iter (exC P n callf W c) 200 E H k=some (x,E',H',k'):=h
  obtain⟨hle,h2⟩:=iter_ok ih h
  exact⟨hle,fun z Q hQ kk a w hf hs=>wp_loop_rounds 200 (h2 z Q hQ kk a w hf hs)⟩
 |region id ops draw=>
  intro E H k x E' H' k' h
  cases draw with
  |false=>
   replace h:exR P n callf W ops false E H k=some (x,E',H',k'):=h
   simp only[exR] at h
   split at h
   ·rename_i s h1
    obtain⟨E1,H1,k1⟩:=s
    simp only[Option.some.injEq,Prod.mk.injEq] at h
    obtain⟨rfl,rfl,rfl,rfl⟩:=h
    have hle:=(exOps_ok (Q:=fun _ _ _=>True) (I:=I) (w0:=w0) hc h1).1
    refine⟨hle,fun z Q hQ kk=>?_⟩
    have:=(exOps_ok (Q:=Q) (I:=I) (w0:=w0) hc h1).2 z kk
    have:=CV.region (P:=P) (id:=id) (l:=ops.toList) (Q:=Q) (by simpa using this)
    simpa using this
   ·cases h
  |true=>
   replace h:exR P n callf W ops true E H k=some (x,E',H',k'):=h
   simp only[exR,fH_eq] at h
   split at h
   ·rename_i hh
    simp only[Bool.and_eq_true] at hh
    obtain⟨⟨⟨⟨⟨hwi,hsub⟩,hns⟩,hE⟩,hH⟩,hH0⟩:=hh
    split at h
    ·rename_i s hs
     obtain⟨E2,H2,k2⟩:=s
     simp only[Option.some.injEq,Prod.mk.injEq] at h
     obtain⟨rfl,rfl,rfl,rfl⟩:=h
     have hk:=exAny_k hs
     subst hk
     refine⟨by omega,fun z Q hQ kk=>?_⟩
     have hb0:bl ops.size 0=Array.replicate ops.size false:=by
      apply Array.ext_getElem?
      intro j
      simp only[bl,List.getElem?_toArray,List.getElem?_map,Array.getElem?_replicate,Nat.zero_testBit]
      by_cases hj:j<ops.size
      ·simp[hj]
      ·rw[List.getElem?_eq_none (by simpa using Nat.le_of_not_lt hj)];simp[hj]
     have hd0:Down ops .any (bl ops.size 0):=fun k o ho hk=>by
      rw[bl_get] at hk
      split at hk<;>simp at hk
     by_cases hz0:ops.size=0
     ·have:=CV.anyC (P:=P) (id:=id) (l:=ops.toList) (Q:=Q) (E:=Ed z E) (S:=Hp I w0 (Hd z H)) (fun _=>True) 0 hm (fun _ h=>h.drew) 0 (by simpa using hz0) (AC.done (by
       have:ops= #[]:=Array.eq_empty_of_size_eq_zero hz0
       subst this;rfl) (by
       have hr0:rdyL ops 0=[]:=by simp[rdyL,hz0]
       rw[hz0] at hs
       simp only[exAny,hr0,fE_eq,Option.some.injEq,Prod.mk.injEq] at hs
       obtain⟨rfl,rfl,_⟩:=hs
       exact KV.nE (kk z (Z.ext.refl _ _ _))))
      simpa using this
     have:=exAny_ok (Q:=Q) (I:=I) (w0:=w0) hc hwi hns hQ (c:=ops.size-1) (by omega) hH0 hs z (Z.ext.refl _ _ _) hd0 (.inr hsub) kk
     rw[hb0] at this
     have:=CV.anyC (P:=P) (id:=id) (l:=ops.toList) (Q:=Q) (E:=Ed z E) (S:=Hp I w0 (Hd z H)) _ (ops.size-1) hm (fun _ h=>h.drew) ops.size (by simp) (by simpa using this)
     simpa using this
    ·cases h
   ·cases h
 |rangeFunc f ps a b iha ihb=>intro E H k x E' H' k' h;exact absurd (show none=some (x,E',H',k') from h) (by simp)
 |scope b ih=>intro E H k x E' H' k' h;exact absurd (show none=some (x,E',H',k') from h) (by simp)
 |label l=>intro E H k x E' H' k' h;exact absurd (show none=some (x,E',H',k') from h) (by simp)
 |goto l=>intro E H k x E' H' k' h;exact absurd (show none=some (x,E',H',k') from h) (by simp)
 |refuse w=>intro E H k x E' H' k' h;exact absurd (show none=some (x,E',H',k') from h) (by simp)
theorem argsE_ok (z:Z): ∀(i:Nat) (vs:List X),Ed z (argsE i vs)=params i (vs.map (X.den z))
 |_,[]=>rfl
 |i,v::r=>by have:=argsE_ok z (i+1) r;simp only[Ed] at this;simp[Ed,argsE,params,this]
theorem res_ok {fn:Func} {z0:Z} {v:X} (h:resX P H fn.results.toList E=some v) (hx:Z.ext k k' z0 z) {x:Exit} (hx':x= .normal∨x= .ret):
 KV ⟨n,[]⟩ (bodyPost P fn (fun e w'=> ∃u L,e= .returned u∧(∃z',Z.ext k k' z0 z'∧u=v.den z'∧L=Hd z' H)∧Hp I w0 L w') x) (Ed z E) (Hp I w0 (Hd z H)):=by
 have key:KV ⟨n,[]⟩ (bodyPost P fn (fun e w'=> ∃u L,e= .returned u∧(∃z',Z.ext k k' z0 z'∧u=v.den z'∧L=Hd z' H)∧Hp I w0 L w') .ret) (Ed z E) (Hp I w0 (Hd z H)):=by
  unfold resX at h
  split at h
  ·rename_i hr
   simp only[Option.some.injEq] at h
   subst h
   exact KV.ret0 (post:=fun u L=> ∃z',Z.ext k k' z0 z'∧u=(X.t []).den z'∧L=Hd z' H) (by rw[←Array.toArray_toList (xs:=fn.results),hr]) _ (fun _ h=>h) ⟨z,hx,rfl,rfl⟩
  ·rename_i a hr
   exact KV.ret1 (post:=fun u L=> ∃z',Z.ext k k' z0 z'∧u=v.den z'∧L=Hd z' H) (t:=a) (v:=v.den z) (by rw[←Array.toArray_toList (xs:=fn.results),hr]) (by rw[get_Ed,h];rfl) _ (fun _ h=>h) ⟨z,hx,rfl,rfl⟩
  ·rename_i a b hr
   split at h
   ·rename_i u u' h1 h2
    simp only[Option.some.injEq] at h
    subst h
    exact KV.ret2 (post:=fun q L=> ∃z',Z.ext k k' z0 z'∧q=(X.t [u,u']).den z'∧L=Hd z' H) (t1:=a) (t2:=b) (v1:=u.den z) (v2:=u'.den z) (by rw[←Array.toArray_toList (xs:=fn.results),hr]) (by rw[get_Ed,h1];rfl) (by rw[get_Ed,h2];rfl) _ (fun _ h=>h) ⟨z,hx,rfl,rfl⟩
   ·cases h
  ·rename_i a b c hr
   split at h
   ·rename_i u u' u2 h1 h2 h3
    simp only[Option.some.injEq] at h
    subst h
    exact KV.ret3 (post:=fun q L=> ∃z',Z.ext k k' z0 z'∧q=(X.t [u,u',u2]).den z'∧L=Hd z' H) (t1:=a) (t2:=b) (t3:=c) (v1:=u.den z) (v2:=u'.den z) (v3:=u2.den z) (by rw[←Array.toArray_toList (xs:=fn.results),hr]) (by rw[get_Ed,h1];rfl) (by rw[get_Ed,h2];rfl) (by rw[get_Ed,h3];rfl) _ (fun _ h=>h) ⟨z,hx,rfl,rfl⟩
   ·cases h
  ·rename_i a ty b hr
   split at h
   ·rename_i id o u D ze sz by_ h1 h2 hu hi
    split at h
    ·rename_i l hl
     split at h
     ·rename_i hD
      simp only[Option.map_eq_some_iff] at h
      obtain⟨r,hcut,rfl⟩:=h
      obtain⟨e1,e2⟩:=cutC_ok hcut
      exact KV.retC2 (post:=fun q L=> ∃z',Z.ext k k' z0 z'∧q=(X.t [.a r,u]).den z'∧L=Hd z' H) (t:=a) (t2:=b) (v2:=u.den z) (r.map (C.den z)) (by rw[←Array.toArray_toList (xs:=fn.results),hr]) (by rw[get_Ed,h1];rfl) (by rw[get_Ed,h2];rfl) hu hD (tinfo_TI hi) (by simpa using e1)
       (fun w' hw' j v hj=>by
        simp only[List.getElem?_map,Option.map_eq_some_iff] at hj
        obtain⟨c,hc,rfl⟩:=hj
        exact rd_cell hl (e2 j c hc) w' hw') _ (fun _ h=>h) ⟨z,hx,rfl,rfl⟩
     ·cases h
    ·cases h
   ·cases h
  ·cases h
 rcases hx' with rfl|rfl
 ·exact key
 ·exact key
theorem np_body {fn:Func} {R:Ending→World→Prop}:NP (bodyPost P fn R):=fun _ _ _ _ _ h=>h
theorem exF_ok (hm:P.follows .mixedOrders=true): ∀d,CallOk P (exF P d)
 |0=>fun f vs H k v H' k' h=>by cases h
 |d+1=>fun f vs H k v H' k' h=>by
  simp only[exF] at h
  split at h
  ·rename_i fn hfn
   split at h
   ·rename_i c hb
    split at h
    ·rename_i hlen
     have hex:=exF_ok hm d
     split at h
     ·rename_i E1 H1 k1 h1
      split at h
      ·rename_i u hr
       split at h
       ·rename_i hk
        simp only[Option.some.injEq,Prod.mk.injEq] at h
        obtain⟨rfl,rfl,rfl⟩:=h
        refine⟨Nat.le_of_ble_eq_true hk,fun z w=>Fx.body hfn hb rfl (by simpa using hlen) fun I _ hI=>?_⟩
        rw[←argsE_ok z 0 vs]
        exact(exC_ok (I:=I) (w0:=w) hex hm c _ _ _ _ _ _ _ h1).2 z _ np_body fun z' hx=>res_ok hr hx (.inl rfl)
       ·cases h
      ·cases h
     ·rename_i E1 H1 k1 h1
      split at h
      ·rename_i u hr
       split at h
       ·rename_i hk
        simp only[Option.some.injEq,Prod.mk.injEq] at h
        obtain⟨rfl,rfl,rfl⟩:=h
        refine⟨Nat.le_of_ble_eq_true hk,fun z w=>Fx.body hfn hb rfl (by simpa using hlen) fun I _ hI=>?_⟩
        rw[←argsE_ok z 0 vs]
        exact(exC_ok (I:=I) (w0:=w) hex hm c _ _ _ _ _ _ _ h1).2 z _ np_body fun z' hx=>res_ok hr hx (.inr rfl)
       ·cases h
      ·cases h
     ·cases h
    ·cases h
   ·cases h
  ·cases h
noncomputable def yes (P:Program) (d:Nat) (f:FuncId):Bool:=match exF P d f [] [] 0 with
 |some (.y (.c (.b true)),_,_)=>true
 |_=>false
theorem yes_ok {f:FuncId} {d:Nat} (hm:P.follows .mixedOrders=true) (h:yes P d f=true) {w:World}:Fx P f [] w [] no (fun v L=>v= .bool true∧L=[]):=by
 unfold yes at h
 split at h
 ·rename_i H' k' he
  obtain⟨_,h2⟩:=exF_ok hm d _ _ _ _ _ _ _ he
  intro J hI hr
  refine(h2 ⟨fun _=>0,fun _=>0⟩ w J hI hr).mono ?_
  rintro e w' ⟨v,L,rfl,⟨z',_,rfl,rfl⟩,hp⟩
  exact⟨_,[],rfl,⟨rfl,rfl⟩,Hp.sub (L:=[]) hp⟩
 ·cases h
end
end Go.Sv.Ex
