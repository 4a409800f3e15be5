/-
  Joined.
-/
import Derived.Test.YtdoihieboknmnaaGreatDoorP01
import Derived.LoopN
set_option linter.unusedSimpArgs false
set_option linter.unusedVariables false
namespace Go.Sv.Ex
open Go
set_option linter.constructorNameAsVariable false
inductive C where
 |i (k:IntKind) (n:Int)
 |b (x:Bool)
 |s (x:ByteArray)
 |fn (g:FuncId)
 |np|ns|nm|nf
 |p (id off:Nat)
 |sl (id n:Nat)
 |m (id:Nat)
 deriving DecidableEq
inductive Y where
 |c (x:C)
 |a (l:List C)
 deriving DecidableEq
inductive X where
 |y (v:Y)
 |t (l:List Y)
 |u
 deriving DecidableEq
structure Z where
 r:Nat→Nat
 c:Nat→Nat
def C.den (z:Z):C→Value
 | .i k n=> .int k n
 | .b x=> .bool x
 | .s x=> .string x
 | .fn g=> .func (.func g) #[] #[]
 | .np=> .pointer none
 | .ns=> .slice none 0 0
 | .nm=> .map none
 | .nf=> .nilFunc
 | .p id off=> .pointer (some ⟨z.r id,off,none⟩)
 | .sl id n=> .slice (some ⟨z.r id,0,none⟩) n (z.c id)
 | .m id=> .map (some (z.r id))
def Y.den (z:Z):Y→Value
 | .c x=>x.den z
 | .a l=> .agg (l.map (C.den z)).toArray
def X.den (z:Z):X→Value
 | .y v=>v.den z
 | .t l=> .tuple (l.map (Y.den z)).toArray
 | .u=>undef
theorem C.one (z:Z) (c:C):(c.den z).oneCell'=true:=by cases c<;>rfl
def nin (lo hi id:Nat):Bool:=Nat.blt id lo||Nat.ble hi id
def C.ok (lo hi:Nat):C→Bool
 | .p id _| .sl id _| .m id=>nin lo hi id
 |_=>true
noncomputable def allR {α:Type} (p:α→Bool) (l:List α):Bool:=List.rec (motive:=fun _=>Bool) true (fun c _ ih=>bif p c then ih else false) l
theorem kBe {α:Type} (p:α→Bool): ∀l:List α,allR p l=l.all p
 |[]=>rfl
 |c::r=>by
  show(bif p c then allR p r else false)=_;rw[kBe p r,List.all_cons]
  grind
noncomputable def Y.ok (lo hi:Nat):Y→Bool
 | .c x=>x.ok lo hi
 | .a l=>allR (C.ok lo hi) l
noncomputable def X.ok (lo hi:Nat):X→Bool
 | .y v=>v.ok lo hi
 | .t l=>l.all (Y.ok lo hi)
 | .u=>true
def Z.ext (lo hi:Nat) (z z':Z):Prop:= ∀id,nin lo hi id=true→z'.r id=z.r id∧z'.c id=z.c id
theorem Z.ext.refl (lo a:Nat) (z:Z):Z.ext lo a z z:=fun _ _=>⟨rfl,rfl⟩
theorem Z.ext.trans {lo e:Nat} {a b c:Z} (h:Z.ext lo e a b) (k:Z.ext lo e b c):Z.ext lo e a c:=fun id d=>⟨(k id d).1.trans (h id d).1,(k id d).2.trans (h id d).2⟩
theorem kMX {lo c a b id:Nat} (d:a≤lo) (e:c≤b) (h:nin a b id=true):nin lo c id=true:=by
 grind [nin,Nat.blt_eq,Nat.ble_eq]
theorem Z.ext.wide {lo e c d:Nat} {a b:Z} (h:Z.ext lo e a b) (f:c≤lo) (g:e≤d):Z.ext c d a b:=fun id i=>h id (kMX f g i)
theorem C.den_ext {lo a:Nat} {z b:Z} (h:Z.ext lo a z b) {c:C} (d:c.ok lo a=true):c.den b=c.den z:=by
 cases c<;>simp only[C.den,C.ok] at* <;>simp[(h _ d).1,(h _ d).2]
theorem kAY {α β:Type} {f g:α→β} {p:α→Bool} (h: ∀x,p x=true→f x=g x): ∀ {l:List α},l.all p=true→l.map f=l.map g
 |[],_=>rfl
 |x::l,a=>by
  simp_all
theorem Y.den_ext {lo b:Nat} {z d:Z} (h:Z.ext lo b z d) {v:Y} (e:v.ok lo b=true):v.den d=v.den z:=by
 cases v with
 |c x=>exact C.den_ext h e
 |a l=>simp only[Y.den,kAY (fun c f=>C.den_ext h (c:=c) f) ((kBe (C.ok lo b) l).symm.trans e)]
theorem X.den_ext {lo a:Nat} {z b:Z} (h:Z.ext lo a z b) {v:X} (d:v.ok lo a=true):v.den b=v.den z:=by
 cases v with
 |y x=>exact Y.den_ext h d
 |t l=>simp only[X.den,kAY (fun c e=>Y.den_ext h (v:=c) e) d]
 |u=>rfl
abbrev XE:=List (Nat×X)
noncomputable def xget (E:XE) (t:Nat):Option X:=List.rec (motive:=fun _=>Option X) none (fun p _ ih=>bif Nat.beq p.1 t then some p.2 else ih) E
theorem kL3 (k:Nat) (v:X) (r:XE) (t:Nat):xget ((k,v)::r) t=bif Nat.beq k t then some v else xget r t:=rfl
def xset:XE→Nat→X→XE
 |[],t,v=>[(t,v)]
 |(k,u)::r,t,v=>bif Nat.beq k t then (t,v)::r else bif Nat.blt t k then (t,v)::(k,u)::r else (k,u)::xset r t v
def Ed (z:Z) (E:XE):Env:=E.map fun p=>(p.1,p.2.den z)
theorem kBR (z:Z): ∀(E:XE) (t:Nat),get (Ed z E) t=(xget E t).map (X.den z)
 |[],_=>rfl
 |(k,v)::r,t=>by
  have a:=kBR z r t
  grind [Ed,get,kL3]
theorem kIJ (z:Z): ∀(E:XE) (t:Nat) (v:X) (s:Nat),get (Ed z (xset E t v)) s=get (set (Ed z E) t (v.den z)) s
 |[],t,v,s=>rfl
 |(k,u)::r,t,v,s=>by
  have a:=kIJ z r t v s
  grind [Ed,get,xset,Nat.beq_eq]
theorem KV.getE {N:NN} {K:Act→World→Prop} {E E':Env} {S:World→Prop} (h: ∀s v,get E' s=some v→get E s=some v) (k:KV N K E' S):KV N K E S:=
 fun a w b c=>k a w ⟨b.defers,b.size,fun t v d=>b.slot t v (h t v d)⟩ c
def nE (E:XE):XE:=E.foldr (fun p a=>xset a p.1 p.2) []
theorem kNk (z:Z): ∀(E:XE) (s:Nat),get (Ed z (nE E)) s=get (Ed z E) s
 |[],_=>rfl
 |(k,v)::r,s=>by
  have a:=kNk z r s
  grind [kIJ,nE,get,Ed]
theorem KV.nE {z:Z} {N:NN} {K:Act→World→Prop} {E:XE} {S:World→Prop} (k:KV N K (Ed z (nE E)) S):KV N K (Ed z E) S:=KV.getE (fun s u h=>by grind [kNk]) k
noncomputable def okE (lo hi:Nat) (E:XE):Bool:=allR (fun p=>p.2.ok lo hi) E
theorem kL4 {lo a:Nat} {z b:Z} (h:Z.ext lo a z b) {E:XE} (c:okE lo a E=true):Ed b E=Ed z E:=
 kAY (p:=fun(p:Nat×X)=>p.2.ok lo a) (fun p d=>by grind [X.den_ext]) ((kBe (fun(p:Nat×X)=>p.2.ok lo a) E).symm.trans c)
def rawK (m:Nat):Enc (List Value) where
 f l:=(l.map fun v=>if v.oneCell' then v else .bool false).take (m+1)++List.replicate (m+1-l.length) (.bool false)
 sz:=m+1
 d:=[]
 len l:=by grind
 pos:=by omega
 one l v hv:=by
  simp only[List.mem_append,List.mem_replicate] at hv;rcases hv with hv|⟨_,rfl⟩
  ·obtain⟨u,_,rfl⟩:=List.mem_map.1 (List.mem_of_mem_take hv);split
   ·grind
   ·rfl
  ·rfl
theorem kGJ {m:Nat} (z:Z) {l:List C} (h:l.length=m+1):(rawK m).f (l.map (C.den z))=l.map (C.den z):=by
 simp only[rawK,List.map_map,qE,h,Nat.sub_self,List.replicate_zero,qK];rw[show(fun v=>if v.oneCell'=true then v else Value.bool false)∘C.den z=C.den z from funext fun c=>by simp[C.one]]
 grind [List.take_of_length_le]
inductive B where
 |blk (id:Nat) (t:TypeId) (l:List C)
 |row (id:Nat) (e:TypeId) (m:Nat) (ys:List (List C))
 deriving DecidableEq
def B.id:B→Nat
 | .blk id _ _| .row id _ _ _=>id
def B.den (z:Z):B→Assn
 | .blk id t l=>Blk (z.r id) (.cells (l.map (C.den z)).toArray t (0,0))
 | .row id e m ys=>OS e (rawK m) (some ⟨z.r id,0,none⟩) (z.c id) (ys.map fun l=>l.map (C.den z))
noncomputable def B.ok (lo hi:Nat):B→Bool
 | .blk id _ l=>nin lo hi id&&allR (C.ok lo hi) l
 | .row id _ _ ys=>nin lo hi id&&allR (allR (C.ok lo hi)) ys
def Hd (z:Z) (H:List B):List Assn:=H.map (B.den z)
noncomputable def okH (lo hi:Nat) (H:List B):Bool:=allR (B.ok lo hi) H
theorem kE6 {lo a:Nat} {H:List B} (h:okH lo a H=true):H.all (B.ok lo a)=true:=(kBe (B.ok lo a) H).symm.trans h
theorem kL5 {lo a:Nat} {H:List B} (h:H.all (B.ok lo a)=true):okH lo a H=true:=(kBe (B.ok lo a) H).trans h
theorem kL6 {lo a:Nat} {ys:List (List C)} (h:allR (allR (C.ok lo a)) ys=true):ys.all (fun l=>l.all (C.ok lo a))=true:=by
 grind [kBe]
theorem B.den_ext {lo b:Nat} {z d:Z} (h:Z.ext lo b z d) {v:B} (a:v.ok lo b=true):v.den d=v.den z:=by
 cases v with
 |blk id t l=>
  simp only[B.ok,qg] at a;simp only[B.den,kAY (fun c f=>C.den_ext h (c:=c) f) ((kBe (C.ok lo b) l).symm.trans a.2),(h id a.1).1]
 |row id e m g=>
  simp only[B.ok,qg] at a;have i:g.map (fun l=>l.map (C.den d))=g.map (fun l=>l.map (C.den z)):=kAY (p:=fun l=>l.all (C.ok lo b)) (fun l j=>kAY (fun c f=>C.den_ext h (c:=c) f) j) (kL6 a.2);simp only[B.den,(h id a.1).1,(h id a.1).2,i]
theorem kIK {lo a:Nat} {z c:Z} (h:Z.ext lo a z c) {H:List B} (d:okH lo a H=true):Hd c H=Hd z H:=kAY (fun b e=>B.den_ext h e) (kE6 d)
noncomputable def findB (H:List B) (id:Nat):Option (Nat×B):=List.rec (motive:=fun _=>Option (Nat×B)) none (fun b _ ih=>bif Nat.beq b.id id then some (0,b) else match ih with
 |some (k,b)=>some (k+1,b)
 |none=>none) H
theorem kB5: ∀ {H:List B} {id k:Nat} {b:B},findB H id=some (k,b)→H[k]?=some b∧b.id=id
 |[],_,_,_,h=>by cases h
 |b0::r,id,k,b,h=>by
  replace h:(bif Nat.beq b0.id id then some (0,b0) else match findB r id with
   |some (k,b)=>some (k+1,b)
   |none=>none)=some (k,b):=h
  cases a:Nat.beq b0.id id with
  |true=>
   grind [Nat.eq_of_beq_eq_true]
  |false=>
   simp only[a,cond_false] at h;split at h
   ·rename_i k' d c;obtain⟨e,f⟩:=kB5 c
    grind
   grind
def B.cells:B→Option (List C)
 | .blk _ _ l=>some l
 | .row _ _ m ys=>if ys.all (fun l=>Nat.beq l.length (m+1)) then some ys.flatten else none
theorem kDY (z:Z) {m:Nat}: ∀ {ys:List (List C)},ys.all (fun l=>Nat.beq l.length (m+1))=true→flat (rawK m) (ys.map fun l=>l.map (C.den z))=ys.flatten.map (C.den z)
 |[],_=>rfl
 |l::ys,h=>by
  simp only[List.all_cons,qg] at h;have a:=kDY z h.2
  grind [flat,kGJ,Nat.eq_of_beq_eq_true]
variable {I:Ids} {w0 w:World} {H:List B} {z:Z}
theorem kPx (h:Hp I w0 (Hd z H) w) {id k:Nat} {b:B} (g:findB H id=some (k,b)) {l:List C} (a:b.cells=some l) {o:Nat} {c:C} (p:l[o]?=some c):w.cell? ⟨z.r id,o,none⟩=some (c.den z):=by
 obtain⟨i,rfl⟩:=kB5 g;have f:(Hd z H)[k]?=some (b.den z):=by simp[Hd,i]
 cases b with
 |blk id t cs=>
  simp only[B.cells,qZ] at a;subst a;exact h.cell k f (by grind)
 |row id e m q=>
  simp only[B.cells] at a;split at a
  ·rename_i s;obtain rfl:=qY a;rcases h.os k f with u|⟨j,t,v,_,n,d⟩
   ·simp_all
   ·have:=d o (c.den z) (by grind [kDY]);simp only[bk,of,Nat.zero_add] at n this
    grind [B.id,kAA]
  grind
noncomputable def ins (b:B) (H:List B):List B:=List.rec (motive:=fun _=>List B) [b] (fun c r ih=>bif Nat.blt b.id c.id then b::c::r else c::ih) H
theorem kIL (b:B): ∀H:List B,(H++[b]).Perm (ins b H)
 |[]=>List.Perm.refl _
 |c::r=>by
  show(c::r++[b]).Perm (bif Nat.blt b.id c.id then b::c::r else c::ins b r);cases Nat.blt b.id c.id with
  |true=>grind
  |false=>exact(kIL b r).cons c
theorem Hp.ins {b:B} (h:Hp I w0 (Hd z H++[b.den z]) w):Hp I w0 (Hd z (ins b H)) w:=by
 refine h.perm ?_;have:=(kIL b H).map (B.den z)
 grind [Hd]
def isSub:List B→List B→Bool
 |[],_=>true
 |_::_,[]=>false
 |a::r,b::s=>bif decide (a=b) then isSub r s else isSub (a::r) s
theorem kDB: ∀ {H0 H:List B},isSub H0 H=true→ ∃R,H.Perm (H0++R)
 |[],H,_=>⟨H,List.Perm.refl _⟩
 |_::_,[],h=>by grind [isSub]
 |a::r,b::s,h=>by
  simp only[isSub] at h;by_cases c:a=b
  ·subst c;simp only[decide_true,cond_true] at h;obtain⟨R,d⟩:=kDB h;exact⟨R,d.cons a⟩
  ·simp only[c,decide_false,cond_false] at h;obtain⟨R,d⟩:=kDB h;exact⟨b::R,((d.cons b).trans List.perm_middle.symm)⟩
theorem Hp.isSub {H0:List B} (hs:isSub H0 H=true) (h:Hp I w0 (Hd z H) w):Hp I w0 (Hd z H0) w:=by
 obtain⟨R,a⟩:=kDB hs;have:=a.map (B.den z);rw[qN] at this;exact Hp.sub (M:=Hd z R) (h.perm this)
def ofC:Value→Option C
 | .int k n=>some (.i k n)
 | .bool x=>some (.b x)
 | .string x=>some (.s x)
 | .pointer none=>some .np
 | .slice none 0 0=>some .ns
 | .map none=>some .nm
 | .nilFunc=>some .nf
 |_=>none
theorem kL7 {v:Value} {c:C} (h:ofC v=some c) (z:Z):c.den z=v:=by
 unfold ofC at h;split at h<;>first|(obtain rfl:=qY h;rfl)|cases h
def ofCs:List Value→Option (List C)
 |[]=>some []
 |v::r=>match ofC v,ofCs r with
  |some c,some l=>some (c::l)
  |_,_=>none
theorem kBA: ∀ {l:List Value} {cs:List C},ofCs l=some cs→ ∀z,cs.map (C.den z)=l
 |[],_,h,z=>by obtain rfl:=qY h;rfl
 |v::r,cs,h,z=>by
  simp only[ofCs] at h;split at h
  ·rename_i c l a b;obtain rfl:=qY h;rw[List.map_cons,kL7 a,kBA b]
  grind
def ofY (v:Value):Option Y:=
 match v with
 | .agg cs=>(ofCs cs.toList).map .a
 |v=>(ofC v).map .c
theorem kPy {v:Value} {y:Y} (h:ofY v=some y) (z:Z):y.den z=v:=by
 unfold ofY at h;split at h
 ·rename_i cs;simp only[Option.map_eq_some_iff] at h;obtain⟨l,a,rfl⟩:=h;simp[Y.den,kBA a]
 ·simp only[Option.map_eq_some_iff] at h;obtain⟨l,a,rfl⟩:=h;exact kL7 a z
noncomputable def xev (E:XE):Operand→Option X
 | .tmp t=>xget E t
 | .const v=>(ofY v).map .y
 | .func f=>some (.y (.c (.fn f)))
 | .global _=>none
theorem kAE {E:XE} {x:Operand} {v:X} (h:xev E x=some v) (z:Z):ev (Ed z E) x=some (v.den z):=by
 cases x with
 |tmp t=>grind [xev,ev,kBR]
 |const u=>
  grind [xev,Option.map_eq_some_iff,ev,X.den,kPy]
 |func f=>simp only[xev,qZ] at h;subst h;rfl
 |global g=>cases h
def kCR (P:Program) (t:TypeId):Option (Value×Nat×Nat):=
 match P.info? t with
 |some i=>match i.zero with
  |some z=>some (z,i.size,i.bytes)
  |none=>none
 |none=>none
theorem kAR {P:Program} {t:TypeId} {z:Value} {a by_:Nat} (h:kCR P t=some (z,a,by_)):TI P t z a by_:=by
 grind [kCR,TI]
noncomputable def rd (H:List B) (id:Nat):Option (List C):=
 match findB H id with
 |some (_,b)=>b.cells
 |none=>none
def cutC (l:List C) (o sz:Nat):Option (List C):=
 let r:=(l.drop o).take sz
 if Nat.beq r.length sz then some r else none
def kPz (k:IntKind) (m n:Int):BinOp→Option C
 | .add=>some (.i k (k.wrap (m+n)))
 | .sub=>some (.i k (k.wrap (m-n)))
 | .mul=>some (.i k (k.wrap (m* n)))
 | .quo=>if n=0 then none else some (.i k (k.wrap (m.tdiv n)))
 | .rem=>if n=0 then none else some (.i k (m.tmod n))
 | .eql=>some (.b (decide (m=n)))
 | .neq=>some (.b (decide (¬m=n)))
 | .lss=>some (.b (decide (m<n)))
 | .leq=>some (.b (decide (m≤n)))
 | .gtr=>some (.b (decide (n<m)))
 | .geq=>some (.b (decide (n≤m)))
 |_=>none
def isSl:Option TypeDesc→Bool
 |some (.slice _)=>true
 |_=>false
def isPt:Option TypeDesc→Bool
 |some (.pointer _)=>true
 |_=>false
def nilq (P:Program) (t:TypeId) (u v:C) (b:Bool):Option C:=
 match u,v with
 | .ns,.ns=>if isSl (P.underlying t) then some (.b b) else none
 | .sl _ _,.ns=>if isSl (P.underlying t) then some (.b (!b)) else none
 | .np,.np=>if isPt (P.underlying t) then some (.b b) else none
 | .p _ _,.np=>if isPt (P.underlying t) then some (.b (!b)) else none
 |_,_=>none
def bin (P:Program) (op:BinOp) (t:TypeId) (u v:C):Option C:=
 match u,v with
 | .i k m,.i k' n=>if k=k' then kPz k m n op else none
 |u,v=>match op with
  | .eql=>nilq P t u v true
  | .neq=>nilq P t u v false
  |_=>none
def Y.cells:Y→List C
 | .c x=>[x]
 | .a l=>l
def kL8 (cs:List C):Nat→List C→List C
 |_,[]=>cs
 |o,c::r=>kL8 (cs.set o c) (o+1) r
def kGK (place:Nat→Option (Nat×Nat)):List C→List (Nat×Y)→Option (List C)
 |cs,[]=>some cs
 |cs,(i,v)::r=>match place i with
  |none=>none
  |some (off,size)=>if v.cells.length≠size||off+v.cells.length>cs.length then none else kGK place (kL8 cs off v.cells) r
def kEf (P:Program):List Field→Option (List (Nat×Nat))
 |[]=>some []
 |f::r=>match kCR P f.type,kEf P r with
  |some (_,sz,_),some l=>some ((f.offset,sz)::l)
  |_,_=>none
noncomputable def xevp (E:XE):List (Nat×Operand)→Option (List (Nat×Y))
 |[]=>some []
 |(i,x)::r=>match xev E x,xevp E r with
  |some (.y v),some l=>some ((i,v)::l)
  |_,_=>none
noncomputable def qPick (E:XE) (c a b:Operand):Option X:=match xev E c with
 |some (.y (.c (.b true)))=>xev E a
 |some (.y (.c (.b false)))=>xev E b
 |_=>none
noncomputable def qNil (E:XE) (x:Operand):Option X:=match xev E x with
 |some (.y (.c (.p id o)))=>some (.y (.c (.p id o)))
 |_=>none
noncomputable def qFld (P:Program) (E:XE) (t:TypeId) (x:Operand) (j:Nat):Option X:=match xev E x,P.underlying t with
 |some (.y (.c (.p id o))),some (.struct fs)=>match fs[j]? with
  |some f=>match kCR P f.type with
   |some (_,sz,_)=>if sz=0 then none else some (.y (.c (.p id (o+f.offset))))
   |none=>none
  |none=>none
 |_,_=>none
noncomputable def qLoad (P:Program) (E:XE) (H:List B) (t:TypeId) (x:Operand):Option X:=match xev E x,P.underlying t,kCR P t with
 |some (.y (.c (.p id o))),some D,some (_,sz,_)=>match rd H id with
  |some l=>if aggD D then (cutC l o sz).map fun r=> .y (.a r) else (l[o]?).map fun c=> .y (.c c)
  |none=>none
 |_,_,_=>none
noncomputable def qBin (P:Program) (E:XE) (op:BinOp) (t:TypeId) (x y:Operand):Option X:=match xev E x,xev E y with
 |some (.y (.c u)),some (.y (.c v))=>(bin P op t u v).map fun c=> .y (.c c)
 |_,_=>none
noncomputable def qNot (E:XE) (op:UnOp) (x:Operand):Option X:=match op with
 | .not=>match xev E x with
  |some (.y (.c (.b b)))=>some (.y (.c (.b (!b))))
  |_=>none
 |_=>none
noncomputable def qConv (P:Program) (E:XE) (s d:TypeId) (x:Operand):Option X:=match P.underlying s,P.underlying d,xev E x with
 |some _,some (.int k'),some (.y (.c (.i k n)))=>some (.y (.c (.i k' (k'.wrap n))))
 |_,_,_=>none
noncomputable def qExt (E:XE) (x:Operand) (j:Nat):Option X:=match xev E x with
 |some (.t l)=>(l[j]?).map .y
 |_=>none
noncomputable def qIxA (P:Program) (E:XE) (t:TypeId) (x y:Operand):Option X:=match xev E x,xev E y,P.underlying t with
 |some (.y (.c (.sl id n))),some (.y (.c (.i _ i))),some (.slice e)=>match kCR P e with
  |some (_,sz,_)=>if 0≤i∧i<(n:Int) then some (.y (.c (.p id (0+i.toNat* sz)))) else none
  |none=>none
 |some (.y (.c (.p id o))),some (.y (.c (.i _ i))),some (.array q e)=>match kCR P e with
  |some (_,sz,_)=>if 0≤i∧i<(q:Int) then some (.y (.c (.p id (o+i.toNat* sz)))) else none
  |none=>none
 |_,_,_=>none
noncomputable def qIx (P:Program) (E:XE) (t:TypeId) (x y:Operand):Option X:=match xev E x,xev E y,P.underlying t with
 |some (.y (.a cs)),some (.y (.c (.i _ i))),some (.array q e)=>match kCR P e,P.underlying e with
  |some (_,sz,_),some D=>if 0≤i∧i<(q:Int) then (if aggD D then some (.y (.a ((cs.drop (i.toNat* sz)).take sz))) else (cs[i.toNat* sz]?).map fun c=> .y (.c c)) else none
  |_,_=>none
 |_,_,_=>none
noncomputable def qBld (P:Program) (E:XE) (t:TypeId) (ps:Array (Nat×Operand)):Option X:=match P.underlying t,kCR P t,xevp E ps.toList with
 |some (.struct fs),some (ze,_,_),some vs=>match ofCs ze.cells.toList,kEf P fs.toList with
  |some z0,some pl=>(kGK (fun i=>pl[i]?) z0 vs).map fun r=> .y (.a r)
  |_,_=>none
 |_,_,_=>none
noncomputable def qLen (P:Program) (E:XE) (x:Operand) (t:TypeId):Option X:=match xev E x,isSl (P.underlying t) with
 |some (.y (.c .ns)),true=>some (.y (.c (.i .i64 0)))
 |some (.y (.c (.sl _ n))),true=>some (.y (.c (.i .i64 n)))
 |_,_=>none
noncomputable def qMax (E:XE) (x y:Operand):Option X:=match xev E x,xev E y with
 |some (.y (.c (.i k m))),some (.y (.c (.i k' n)))=>if k=k' then some (.y (.c (.i k (max m n)))) else none
 |_,_=>none
noncomputable def qMin (E:XE) (x y:Operand):Option X:=match xev E x,xev E y with
 |some (.y (.c (.i k m))),some (.y (.c (.i k' n)))=>if k=k' then some (.y (.c (.i k (min m n)))) else none
 |_,_=>none
noncomputable def qBlt (P:Program) (E:XE) (b:Builtin) (args:List Operand) (ts:List TypeId):Option X:=match b with
 | .len=>match args,ts with
  |[x],[t]=>qLen P E x t
  |_,_=>none
 | .max=>match args with
  |[x,y]=>qMax E x y
  |_=>none
 | .min=>match args with
  |[x,y]=>qMin E x y
  |_=>none
 |_=>none
noncomputable def qCall (P:Program) (E:XE) (c:Call):Option X:=match c.callee with
 | .builtin b=>qBlt P E b c.args.toList c.argTypes.toList
 |_=>none
noncomputable def qstep (P:Program) (E:XE) (H:List B) (op:Op):Option X:=match op with
 | .move x=>xev E x
 | .assign x=>xev E x
 | .pick c a b=>qPick E c a b
 | .nilCheck x=>qNil E x
 | .fieldAddr t x j=>qFld P E t x j
 | .load t x=>qLoad P E H t x
 | .binOp op t x y _=>qBin P E op t x y
 | .unOp op _ x=>qNot E op x
 | .convert s d x=>qConv P E s d x
 | .extract x j=>qExt E x j
 | .indexAddr t x y=>qIxA P E t x y
 | .index t x y=>qIx P E t x y
 | .build t ps=>qBld P E t ps
 | .call c=>qCall P E c
 |_=>none
section
variable {P:Program} {N:NN} {E:XE} {H:List B} {z:Z} {I:Ids} {w0:World} {dst:Option Nat} {ty:TypeId} {pos:String} {af:Array Edge} {g:Option (Nat×Bool)}
theorem kH6 {id o:Nat} {l:List C} {c:C} (h:rd H id=some l) (a:l[o]?=some c) (w:World) (b:Hp I w0 (Hd z H) w):w.cell? ⟨z.r id,o,none⟩=some (c.den z):=by
 grind [rd,kPx]
theorem kL9 {l r:List C} {o a:Nat} (h:cutC l o a=some r):r.length=a∧ ∀j c,r[j]?=some c→l[o+j]?=some c:=by
 grind [cutC,Nat.eq_of_beq_eq_true]
theorem kCu {D:Option TypeDesc} (h:isSl D=true): ∃e,D=some (.slice e):=by
 unfold isSl at h;grind
theorem kGL {D:Option TypeDesc} (h:isPt D=true): ∃e,D=some (.pointer e):=by
 unfold isPt at h;grind
theorem kNl {op:BinOp} {b:Bool} (d:op= .eql∧b=true∨op= .neq∧b=false) {t t2:TypeId} {x y:Operand} {u v c:C} (h:nilq P t u v b=some c) (f:ev (Ed z E) x=some (u.den z)) (i:ev (Ed z E) y=some (v.den z)) {S:World→Prop}:
 Step P N (Ed z E) S ⟨dst,.binOp op t x y t2,ty,pos,af,g⟩ (c.den z):=by
 unfold nilq at h;split at h<;>(try split at h)<;>cases h
 all_goals rename_i j
 ·obtain⟨e,a⟩:=kCu j;rcases d with ⟨rfl,rfl⟩|⟨rfl,rfl⟩
  ·exact Step.nilSl a f i
  ·exact Step.nnilSl a f i
 ·obtain⟨e,a⟩:=kCu j;rcases d with ⟨rfl,rfl⟩|⟨rfl,rfl⟩
  ·exact Step.nilSl a f i
  ·exact Step.nnilSl a f i
 ·obtain⟨e,a⟩:=kGL j;rcases d with ⟨rfl,rfl⟩|⟨rfl,rfl⟩
  ·exact Step.eqlP a f i
  ·exact Step.neqP a f i
 ·obtain⟨e,a⟩:=kGL j;rcases d with ⟨rfl,rfl⟩|⟨rfl,rfl⟩
  ·exact Step.eqlP a f i
  ·exact Step.neqP a f i
theorem kMY {op:BinOp} {k:IntKind} {m n:Int} {c:C} (h:kPz k m n op=some c) {t t2:TypeId} {x y:Operand} {F:Env} (a:ev F x=some (.int k m)) (b:ev F y=some (.int k n)) {S:World→Prop}:
 Step P N F S ⟨dst,.binOp op t x y t2,ty,pos,af,g⟩ (c.den z):=by
 cases op<;>simp only[kPz] at h<;>first
  |contradiction
  |(obtain rfl:=qY h;first|exact Step.add a b rfl|exact Step.sub a b rfl|exact Step.mul a b rfl|exact Step.eql a b|exact Step.neq a b|exact Step.lss a b|exact Step.leq a b|exact Step.gtr a b|exact Step.geq a b)
  |(split at h;(· cases h);rename_i d;obtain rfl:=qY h;first|exact Step.quo a b d rfl|exact Step.rem a b d rfl)
theorem kSB {op:BinOp} {t t2:TypeId} {x y:Operand} {u v c:C} (h:bin P op t u v=some c) (a:ev (Ed z E) x=some (u.den z)) (b:ev (Ed z E) y=some (v.den z)) {S:World→Prop}:
 Step P N (Ed z E) S ⟨dst,.binOp op t x y t2,ty,pos,af,g⟩ (c.den z):=by
 unfold bin at h;split at h
 ·split at h
  ·rename_i d;subst d;exact kMY h a b
  ·cases h
 ·split at h
  ·exact kNl (.inl ⟨rfl,rfl⟩) h a b
  ·exact kNl (.inr ⟨rfl,rfl⟩) h a b
  ·cases h
theorem kH7 {t:TypeId} {fs:Array Field} {j:Nat} {f:Field} {ze:Value} {a by_:Nat} (c:P.underlying t=some (.struct fs)) (d:fs[j]?=some f) (e:TI P f.type ze a by_) (g:a≠0) (b o:Nat) (w:World):
 (Instr.fieldAt t (.pointer (some ⟨b,o,none⟩)) j).run P w= .ok (.pointer (some ⟨b,o+f.offset,none⟩)) w:=by
 simp only[Instr.fieldAt,Sem.run_bind,run_underlying c,Result.andThen_ok,d,Instr.sureAddr,Sem.run_pure,fieldPlace,e.sizeOf,g,if_false]
 grind [Addr.add]
theorem kMZ {e:TypeId} {D:TypeDesc} {ze:Value} {d by_:Nat} (g:P.underlying e=some D) (i:TI P e ze d by_) (cs:List C) (o:Nat) {y:Y}
 (h:(if aggD D=true then some (Y.a ((cs.drop o).take d)) else (cs[o]?).map .c)=some y) (w:World):(part e (cs.map (C.den z)).toArray o).run P w= .ok (y.den z) w:=by
 have b:(isAgg e).run P w= .ok (aggD D) w:=by
  simp only[isAgg,Sem.run_bind,run_underlying g,Result.andThen_ok];cases D<;>rfl
 simp only[part,Sem.run_bind,b,Result.andThen_ok];split at h
 ·rename_i f;obtain rfl:=qY h;simp only[f,if_true,Sem.run_bind,i.sizeOf,Result.andThen_ok,Sem.run_pure,Y.den];simp_all
 ·rename_i f;simp only[Option.map_eq_some_iff] at h;obtain⟨c,j,rfl⟩:=h;simp_all[Y.den]
theorem kGM {t e:TypeId} {q:Nat} {D:TypeDesc} {ze:Value} {b by_:Nat} (f:P.underlying t=some (.array q e)) (g:P.underlying e=some D) (d:TI P e ze b by_) (cs:List C) {k:IntKind} {i:Int} (h0:0≤i∧i<(q:Int)) {y:Y}
 (h:(if aggD D=true then some (Y.a ((cs.drop (i.toNat* b)).take b)) else (cs[i.toNat* b]?).map .c)=some y) (w:World):(Instr.index t (.agg (cs.map (C.den z)).toArray) (.int k i)).run P w= .ok (y.den z) w:=by
 simp only[Instr.index,asIntOf,Sem.run_bind,Sem.run_pure,Result.andThen_ok,run_underlying f,h0,and_self,if_true,d.sizeOf,kMZ g d cs _ h]
theorem kCv (y:Y):(y.den z).cells=(y.cells.map (C.den z)).toArray:=by
 cases y with
 |c x=>cases x<;>rfl
 |a l=>rfl
theorem kIM: ∀(l cs:List C) (o j:Nat),((l.map (C.den z)).zipIdx j).foldl (fun cs p=>cs.setIfInBounds (o+p.2) p.1) (cs.map (C.den z)).toArray=((kL8 cs (o+j) l).map (C.den z)).toArray
 |[],cs,o,j=>by simp[kL8]
 |c::r,cs,o,j=>by
  have a:=kIM r (cs.set (o+j) c) o (j+1)
  grind [List.zipIdx_cons,kL8,List.map_set]
theorem kH8 {a:Nat→Option (Nat×Nat)}: ∀ {vs:List (Nat×Y)} {cs r:List C},kGK a cs vs=some r→Instr.fill a (cs.map (C.den z)).toArray (vs.map fun p=>(p.1,p.2.den z))=some (r.map (C.den z)).toArray
 |[],cs,r,h=>by simp only[kGK,qZ] at h;subst h;rfl
 |(i,v)::vs,cs,r,h=>by
  simp only[kGK] at h;simp only[List.map_cons,Instr.fill];cases c:a i with
  |none=>grind
  |some q=>
   obtain⟨off,size⟩:=q;simp only[c] at h ⊢;rw[kCv];split at h
   ·cases h
   ·rename_i d;have b: ¬(decide ((List.map (C.den z) v.cells).toArray.size≠size)||decide (off+(List.map (C.den z) v.cells).toArray.size>(List.map (C.den z) cs).toArray.size))=true:=by grind
    rw[if_neg b];have:=kIM (z:=z) v.cells cs off 0;rw[Nat.add_zero] at this;rw[←Array.foldl_toList,Array.toList_zipIdx];simp only at this ⊢;rw[this];exact kH8 h
theorem kGN: ∀ {fs:List Field} {a:List (Nat×Nat)},kEf P fs=some a→ ∀w,(fs.mapM fun(f:Field)=>do pure (f.offset,←sizeOf f.type)).run P w= .ok a w
 |[],a,h,w=>by simp_all[kEf]
 |f::r,a,h,w=>by
  simp only[kEf] at h;split at h
  ·rename_i q d by_ l b c;obtain rfl:=qY h;simp only[List.mapM_cons,Sem.run_bind,(kAR b).sizeOf,Result.andThen_ok,Sem.run_pure,kGN c w]
  grind
theorem kLA {t:TypeId} {fs:Array Field} {ze:Value} {c by_:Nat} {b r:List C} {a:List (Nat×Nat)} {vs:List (Nat×Y)} (d:P.underlying t=some (.struct fs)) (e:TI P t ze c by_) (g:ofCs ze.cells.toList=some b) (j:kEf P fs.toList=some a)
 (h:kGK (fun(i:Nat)=>a[i]?) b vs=some r) (w:World):(Instr.build t (vs.map fun p=>(p.1,p.2.den z)).toArray).run P w= .ok (.agg (r.map (C.den z)).toArray) w:=by
 have k:(fs.mapM fun(f:Field)=>do pure (f.offset,←sizeOf f.type)).run P w= .ok a.toArray w:=by
  rw[Array.mapM_eq_mapM_toList,map_eq_pure_bind,Sem.run_bind,kGN j w];rfl
 have l:=kH8 (z:=z) h;rw[kBA g,Array.toArray_toList] at l;simp only[Instr.build,Sem.run_bind,e.zeroValue,Result.andThen_ok,run_underlying d,k];simp_all
theorem kH9: ∀ {ps:List (Nat×Operand)} {vs:List (Nat×Y)},xevp E ps=some vs→ ∀z,evp (Ed z E) ps=some (vs.map fun p=>(p.1,p.2.den z))
 |[],vs,h,z=>by simp only[xevp,qZ] at h;subst h;rfl
 |(i,x)::r,vs,h,z=>by
  simp only[xevp] at h;split at h
  ·rename_i v l a b;obtain rfl:=qY h;simp only[evp,kAE a,kH9 b z,X.den,List.map_cons]
  grind
theorem kIN {op:Op} {v:X} (h:qstep P E H op=some v):Step P N (Ed z E) (Hp I w0 (Hd z H)) ⟨dst,op,ty,pos,af,g⟩ (v.den z):=by
 unfold qstep at h;split at h
 ·exact Step.move (kAE h z)
 ·exact Step.assign (kAE h z)
 ·unfold qPick at h;split at h
  ·rename_i B;exact Step.pick_t (kAE B z) (kAE h z)
  ·rename_i B;exact Step.pick_f (kAE B z) (kAE h z)
  ·cases h
 ·unfold qNil at h;split at h
  ·rename_i m;obtain rfl:=qY h;exact Step.nilCheck (kAE m z)
  ·cases h
 ·unfold qFld at h;split at h
  ·rename_i id o fs m p;split at h
   ·rename_i f hf;split at h
    ·rename_i ze F by_ s;split at h
     ·cases h
     ·rename_i M;obtain rfl:=qY h;exact Step.fieldAddr (kAE m z) (kH7 p hf (kAR s) M _ _)
    ·cases h
   ·cases h
  ·cases h
 ·unfold qLoad at h;split at h
  ·rename_i id o D ze F by_ m p s;split at h
   ·rename_i l hl;split at h
    ·rename_i L;simp only[Option.map_eq_some_iff] at h;obtain⟨r,O,rfl⟩:=h;obtain⟨h1,h2⟩:=kL9 O;refine Step.loadN (r.map (C.den z)) p L (kAR s) (by grind) (kAE m z) fun w hw j v hj=>?_
     grind [kH6]
    ·rename_i L;simp only[Option.map_eq_some_iff] at h;obtain⟨c,B,rfl⟩:=h;exact Step.load p (by grind) (kAE m z) fun w hw=>kH6 hl B w hw
   ·cases h
  ·cases h
 ·unfold qBin at h;split at h
  ·rename_i u v' m A;simp only[Option.map_eq_some_iff] at h;obtain⟨c,B,rfl⟩:=h;exact kSB B (kAE m z) (kAE A z)
  ·cases h
 ·unfold qNot at h;split at h
  ·split at h
   ·rename_i b m;obtain rfl:=qY h;exact Step.not (kAE m z)
   ·cases h
  ·cases h
 ·unfold qConv at h;split at h
  ·rename_i hs hd m;obtain rfl:=qY h;exact Step.convI hs hd (kAE m z) rfl
  ·cases h
 ·unfold qExt at h;split at h
  ·rename_i l m;simp only[Option.map_eq_some_iff] at h;obtain⟨c,B,rfl⟩:=h;exact Step.extract0 (kAE m z) (by simp[B,X.den])
  ·cases h
 ·unfold qIxA at h;split at h
  ·rename_i id n k i e m A p;split at h
   ·rename_i ze F by_ s;split at h
    ·rename_i Q;obtain rfl:=qY h;exact Step.indexSl p (kAR s) (kAE m z) (kAE A z) rfl i.toNat (by omega) (by omega)
    ·cases h
   ·cases h
  ·rename_i id o k i q e m A p;split at h
   ·rename_i ze F by_ s;split at h
    ·rename_i Q;obtain rfl:=qY h;exact Step.idxArr p (kAR s) (kAE m z) (kAE A z) i.toNat (by omega) (by omega)
    ·cases h
   ·cases h
  ·cases h
 ·unfold qIx at h;split at h
  ·rename_i cs k i q e m A p;split at h
   ·rename_i ze F by_ D s L;split at h
    ·rename_i Q;have h': ∃y,v= .y y∧(if aggD D=true then some (Y.a ((cs.drop (i.toNat* F)).take F)) else (cs[i.toNat* F]?).map .c)=some y:=by
      grind
     obtain⟨y,rfl,R⟩:=h';exact Step.index (kAE m z) (kAE A z) (kGM p L (kAR s) cs Q R)
    ·cases h
   ·cases h
  ·cases h
 ·rename_i t ps;unfold qBld at h;split at h
  ·rename_i fs ze F by_ vs p s T;split at h
   ·rename_i z0 pl U V;simp only[Option.map_eq_some_iff] at h;obtain⟨r,O,rfl⟩:=h;have:=Step.build (P:=P) (N:=N) (S:=Hp I w0 (Hd z H)) (d:=dst) (ty:=ty) (pos:=pos) (af:=af) (g:=g) (t:=t) (kH9 T z) (kLA (z:=z) p (kAR s) U V O);simp_all[X.den,Y.den]
   ·cases h
  ·cases h
 ·rename_i c;obtain⟨g6,G,ts⟩:=c;obtain⟨G⟩:=G;obtain⟨ts⟩:=ts;unfold qCall at h;split at h
  ·rename_i b hb;simp only at hb;subst hb;unfold qBlt at h;split at h
   ·split at h
    ·rename_i x t J K;simp only at J K;subst J;subst K;unfold qLen at h;split at h
     ·rename_i m p;obtain⟨e,W⟩:=kCu p;obtain rfl:=qY h;exact Step.lenSl W (kAE m z)
     ·rename_i m p;obtain⟨e,W⟩:=kCu p;obtain rfl:=qY h;exact Step.lenSl W (kAE m z)
     ·cases h
    ·cases h
   ·split at h
    ·rename_i x y J;simp only at J;subst J;unfold qMax at h;split at h
     ·rename_i m A;split at h
      ·rename_i Z;subst Z;obtain rfl:=qY h;exact Step.max2 (kAE m z) (kAE A z)
      ·cases h
     ·cases h
    ·cases h
   ·split at h
    ·rename_i x y J;simp only at J;subst J;unfold qMin at h;split at h
     ·rename_i m A;split at h
      ·rename_i Z;subst Z;obtain rfl:=qY h;exact Step.min2 (kAE m z) (kAE A z)
      ·cases h
     ·cases h
    ·cases h
   ·cases h
  ·cases h
 ·cases h
end
abbrev St:=XE×List B×Nat
abbrev kDC:=FuncId→List X→List B→Nat→Option (X×List B×Nat)
section
variable {α:Type}
def fN (n:Nat) (k:Nat→α):α:=match n with
 |0=>k 0
 |m+1=>k (m+1)
theorem kGO (n:Nat) (k:Nat→α):fN n k=k n:=by cases n<;>rfl
def fI (n:Int) (k:Int→α):α:=match n with
 | .ofNat m=>fN m fun m=>k (.ofNat m)
 | .negSucc m=>fN m fun m=>k (.negSucc m)
theorem kT2 (n:Int) (k:Int→α):fI n k=k n:=by cases n<;>simp only[fI,kGO]
def fC (c:C) (k:C→α):α:=match c with
 | .i q n=>fI n fun n=>k (.i q n)
 | .b true=>k (.b true)
 | .b false=>k (.b false)
 | .p id o=>fN id fun id=>fN o fun o=>k (.p id o)
 | .sl id o=>fN id fun id=>fN o fun o=>k (.sl id o)
 | .m id=>fN id fun id=>k (.m id)
 |c=>k c
theorem kSC (c:C) (k:C→α):fC c k=k c:=by
 cases c with
 |b x=>cases x<;>rfl
 |_=>simp only[fC,kT2,kGO]
noncomputable def fL (l:List C) (k:List C→α):α:=List.rec (motive:=fun _=>(List C→α)→α) (fun k=>k []) (fun c _ ih k=>fC c fun c=>ih fun r=>k (c::r)) l k
theorem kMa: ∀(l:List C) (k:List C→α),fL l k=k l
 |[],k=>rfl
 |c::r,k=>by
  show fC c (fun c=>fL r fun r=>k (c::r))=_;simp only[kSC,kMa r]
noncomputable def fLL (l:List (List C)) (k:List (List C)→α):α:=List.rec (motive:=fun _=>(List (List C)→α)→α) (fun k=>k []) (fun c _ ih k=>fL c fun c=>ih fun r=>k (c::r)) l k
theorem kNm: ∀(l:List (List C)) (k:List (List C)→α),fLL l k=k l
 |[],k=>rfl
 |c::r,k=>by
  show fL c (fun c=>fLL r fun r=>k (c::r))=_;simp only[kMa,kNm r]
noncomputable def fY (v:Y) (k:Y→α):α:=match v with
 | .c x=>fC x fun x=>k (.c x)
 | .a l=>fL l fun l=>k (.a l)
theorem kSD (v:Y) (k:Y→α):fY v k=k v:=by cases v<;>simp only[fY,kSC,kMa]
noncomputable def fYs (l:List Y) (k:List Y→α):α:=List.rec (motive:=fun _=>(List Y→α)→α) (fun k=>k []) (fun c _ ih k=>fY c fun c=>ih fun r=>k (c::r)) l k
theorem kNn: ∀(l:List Y) (k:List Y→α),fYs l k=k l
 |[],k=>rfl
 |c::r,k=>by
  show fY c (fun c=>fYs r fun r=>k (c::r))=_;simp only[kSD,kNn r]
noncomputable def fX (v:X) (k:X→α):α:=match v with
 | .y v=>fY v fun v=>k (.y v)
 | .t l=>fYs l fun l=>k (.t l)
 | .u=>k .u
theorem kSE (v:X) (k:X→α):fX v k=k v:=by cases v<;>simp only[fX,kSD,kNn]
noncomputable def fE (l:XE) (k:XE→α):α:=List.rec (motive:=fun _=>(XE→α)→α) (fun k=>k []) (fun p _ ih k=>ih fun r=>k (p::r)) l k
theorem kFX: ∀(l:XE) (k:XE→α),fE l k=k l
 |[],k=>rfl
 |p::r,k=>by
  show fE r (fun r=>k (p::r))=_;simp only[kFX r]
noncomputable def fB (b:B) (k:B→α):α:=match b with
 | .blk id t l=>fN id fun id=>fL l fun l=>k (.blk id t l)
 | .row id e m ys=>fN id fun id=>fLL ys fun ys=>k (.row id e m ys)
theorem kSF (b:B) (k:B→α):fB b k=k b:=by cases b<;>simp only[fB,kGO,kMa,kNm]
noncomputable def fH (l:List B) (k:List B→α):α:=List.rec (motive:=fun _=>(List B→α)→α) (fun k=>k []) (fun p _ ih k=>ih fun r=>k (p::r)) l k
theorem kMb: ∀(l:List B) (k:List B→α),fH l k=k l
 |[],k=>rfl
 |p::r,k=>by
  show fH r (fun r=>k (p::r))=_;simp only[kMb r]
end
noncomputable def mkS (v:X) (b:B) (H:List B) (k:Nat):Option (X×List B×Nat):=fB b fun b=>fH (ins b H) fun H=>some (v,H,k+1)
theorem kBg (v:X) (b:B) (H:List B) (k:Nat):mkS v b H k=some (v,ins b H,k+1):=by grind [mkS,kSF,kMb]
noncomputable def setS (H:List B) (i:Nat) (b:B):Option (List B):=fB b fun b=>fH (H.set i b) some
theorem kLB (H:List B) (i:Nat) (b:B):setS H i b=some (H.set i b):=by grind [setS,kSF,kMb]
noncomputable def putS (E:XE) (d:Nat) (v:X) (H:List B) (k:Nat):Option St:=fX v fun v=>fN k fun k=>some ((d,v)::E,H,k)
theorem kE7 (E:XE) (d:Nat) (v:X) (H:List B) (k:Nat):putS E d v H k=some ((d,v)::E,H,k):=by grind [putS,kSE,kGO]
def chop (m:Nat):Nat→List C→List (List C)
 |0,_=>[]
 |n+1,l=>l.take (m+1)::chop m n (l.drop (m+1))
noncomputable def xevs (E:XE):List Operand→Option (List X)
 |[]=>some []
 |x::r=>match xev E x,xevs E r with
  |some v,some l=>some (v::l)
  |_,_=>none
abbrev LRes:=Option (X×List B×Nat)
noncomputable def lAlloc (P:Program) (H:List B) (k:Nat) (t:TypeId):LRes:=match kCR P t with
 |some (ze,_,_)=>match ofCs ze.cells.toList with
  |some l=>if okH k (k+1) H then mkS (.y (.c (.p k 0))) (.blk k t l) H k else none
  |none=>none
 |none=>none
noncomputable def lBox (E:XE) (H:List B) (k:Nat) (t:TypeId) (x:Operand):LRes:=match xev E x with
 |some (.y v)=>if okH k (k+1) H&&v.ok k (k+1) then mkS (.y (.c (.p k 0))) (.blk k t v.cells) H k else none
 |_=>none
noncomputable def lMake (P:Program) (E:XE) (H:List B) (k:Nat) (t:TypeId) (x y:Operand):LRes:=match P.underlying t,xev E x,xev E y with
 |some (.slice e),some (.y (.c (.i _ n))),some (.y (.c (.i _ c)))=>match kCR P e with
  |some (ze,m+1,by_)=>match ofCs ze.cells.toList with
   |some l=>if okH k (k+1) H&&Nat.beq l.length (m+1)&&decide (0≤n∧n≤c∧c≤1000000∧by_≤1000000) then mkS (.y (.c (.sl k n.toNat))) (.row k e m (List.replicate n.toNat l)) H k else none
   |none=>none
  |_=>none
 |_,_,_=>none
noncomputable def lBs (P:Program) (E:XE) (H:List B) (k:Nat) (t:TypeId) (n:Nat) (ps:Array (Nat×Operand)):LRes:=match P.underlying t,xevp E ps.toList with
 |some (.slice e),some vs=>match kCR P e with
  |some (ze,m+1,_)=>match ofCs ze.cells.toList with
   |some l=>match kGK (fun i=>some (i* (m+1),m+1)) (List.replicate n l).flatten vs with
    |some r=>if okH k (k+1) H&&Nat.beq l.length (m+1)&&decide (n≤1000∧m≤1000)&&(chop m n r).all (fun l=>Nat.beq l.length (m+1))&&decide ((chop m n r).flatten=r)&&decide ((chop m n r).length=n)&&r.all (C.ok k (k+1)) then mkS (.y (.c (.sl k n))) (.row k e m (chop m n r)) H k else none
    |none=>none
   |none=>none
  |_=>none
 |_,_=>none
noncomputable def lMap (P:Program) (E:XE) (H:List B) (k:Nat) (t:TypeId) (r:Option Operand):LRes:=match r with
 |none=>if okH k (k+1) H then some (.y (.c (.m k)),H,k+1) else none
 |some x=>match P.underlying t,xev E x with
  |some (.map _ _),some (.y (.c (.i _ _)))=>if okH k (k+1) H then some (.y (.c (.m k)),H,k+1) else none
  |_,_=>none
noncomputable def lApp (P:Program) (E:XE) (H:List B) (k:Nat) (x y:Operand) (t t':TypeId):LRes:=if t=t' then (match P.underlying t with
 |some (.slice e)=>match kCR P e with
  |some (ze,m+1,by_)=>match xev E x,xev E y with
   |some (.y (.c .ns)),some (.y (.c .ns))=>some (.y (.c .ns),H,k)
   |some (.y (.c .ns)),some (.y (.c (.sl id2 n2)))=>if Nat.beq n2 0 then some (.y (.c .ns),H,k) else (match findB H id2 with
    |some (_,.row _ e2 m2 ys2)=>if okH k (k+1) H&&Nat.beq e2 e&&Nat.beq m2 m&&Nat.beq ys2.length n2&&decide (n2* by_≤1000000000)&&decide (n2≤1000000)&&Nat.beq ze.cells.size (m+1) then mkS (.y (.c (.sl k n2))) (.row k e m ys2) H k else none
    |_=>none)
   |some (.y (.c (.sl id n))),some (.y (.c (.sl id2 n2)))=>match findB H id with
    |some (i,.row _ e1 m1 ys)=>if Nat.beq e1 e&&Nat.beq m1 m&&Nat.beq ys.length n then
     (if Nat.beq n2 0 then some (.y (.c (.sl id n)),H,k) else (match findB H id2 with
     |some (_,.row _ e2 m2 ys2)=>if okH k (k+1) H&&Nat.beq e2 e&&Nat.beq m2 m&&Nat.beq ys2.length n2&&decide ((n+n2)* by_≤1000000000)&&decide (n+n2≤1000000)&&Nat.beq ze.cells.size (m+1) then mkS (.y (.c (.sl k (n+n2)))) (.row k e m (ys++ys2)) (H.eraseIdx i) k else none
     |_=>none)) else none
    |_=>none
   |_,_=>none
  |_=>none
 |_=>none) else none
noncomputable def lFn (P:Program) (callf:kDC) (E:XE) (H:List B) (k:Nat) (f:FuncId) (args:List Operand):LRes:=match xevs E args with
 |some vs=>match P.funcs[f]? with
  |some fn=>if fn.body.isSome&&!(fn.name== "runtime.NumGoroutine") then callf f vs H k else none
  |none=>none
 |none=>none
noncomputable def lCall (P:Program) (callf:kDC) (E:XE) (H:List B) (k:Nat) (c:Call):LRes:=match c.callee with
 | .builtin .append=>match c.args.toList,c.argTypes.toList with
  |[x,y],[t,t']=>lApp P E H k x y t t'
  |_,_=>none
 | .value (.func f)=>lFn P callf E H k f c.args.toList
 |_=>none
noncomputable def lstep (P:Program) (callf:kDC) (E:XE) (H:List B) (k:Nat) (op:Op):LRes:=match op with
 | .alloc t=>lAlloc P H k t
 | .box t x=>lBox E H k t x
 | .makeSlice t x y=>lMake P E H k t x y
 | .buildSlice t n ps=>lBs P E H k t n ps
 | .makeMap t r=>lMap P E H k t r
 | .call c=>lCall P callf E H k c
 |_=>none
noncomputable def sstep (P:Program) (E:XE) (H:List B):Op→Option (List B)
 | .store t x y=>match xev E x,xev E y,kCR P t with
  |some (.y (.c (.p id o))),some (.y v),some (_,sz,_)=>if Nat.beq v.cells.length sz then (match findB H id with
   |some (i,.blk id t l)=>if Nat.ble (o+sz) l.length then setS H i (.blk id t (l.take o++v.cells++l.drop (o+sz))) else none
   |some (i,.row id e m ys)=>match ys[o/(m+1)]? with
    |some l=>if Nat.beq l.length (m+1)&&Nat.ble (o%(m+1)+sz) (m+1) then setS H i (.row id e m (ys.set (o/(m+1)) (l.take (o%(m+1))++v.cells++l.drop (o%(m+1)+sz)))) else none
    |none=>none
   |none=>none) else none
  |_,_,_=>none
 |_=>none
section
variable {P:Program} {N:NN} {Q:Exit→Act→World→Prop} {ops:Array Oper} {E:XE} {H H':List B} {I:Ids} {w0:World} {k k' d:Nat} {ty:TypeId} {pos:String} {af:Array Edge} {g:Option (Nat×Bool)} {KK:Act→World→Prop} {callf:kDC}
def Z.add (z:Z) (k nb c:Nat):Z:=⟨fun i=>if i=k then nb else z.r i,fun i=>if i=k then c else z.c i⟩
theorem Z.add_ext (z:Z) (k nb c:Nat):Z.ext k (k+1) z (z.add k nb c):=fun id a=>by
 grind [nin,Nat.blt_eq,Nat.ble_eq,Z.add]
theorem Z.add_r (z:Z) (k nb c:Nat):(z.add k nb c).r k=nb:=by simp[Z.add]
theorem Z.add_c (z:Z) (k nb c:Nat):(z.add k nb c).c k=c:=by simp[Z.add]
def kE8 (P:Program) (callf:kDC):Prop:= ∀f vs H k v H' k',callf f vs H k=some (v,H',k')→k≤k'∧ ∀z w,Fx P f (vs.map (X.den z)) w (Hd z H) no (fun u L=> ∃z',Z.ext k k' z z'∧u=v.den z'∧L=Hd z' H')
theorem kLC: ∀ {xs:List Operand} {vs:List X},xevs E xs=some vs→ ∀z,evs (Ed z E) xs=some (vs.map (X.den z))
 |[],vs,h,z=>by simp only[xevs,qZ] at h;subst h;rfl
 |x::r,vs,h,z=>by
  simp only[xevs] at h;split at h
  ·rename_i v l a b;obtain rfl:=qY h;simp only[evs,kAE a z,kLC b z,List.map_cons]
  grind
theorem kMc {l:List C} {m:Nat} (a:l.length=m+1) (z:Z) (n:Nat):((Array.range (n* (m+1))).map ((l.map (C.den z)).toArray[· %(l.map (C.den z)).toArray.size]!))=(((List.replicate n l).flatten).map (C.den z)).toArray:=by
 have b:=kDa (K:=rawK m) (zc:=(l.map (C.den z)).toArray) (n:=n) (c:=n) (y:=l.map (C.den z)) (by rw[kGJ z a]) (qU _);have d:=kDY z (m:=m) (ys:=List.replicate n l) (by simp[a]);rw[List.map_replicate] at d;rw[d] at b;have e:(madeCells (l.map (C.den z)).toArray (n* (m+1))).toList=(List.replicate n l).flatten.map (C.den z):=by
  rw[←b];exact(List.take_of_length_le (by rw[Array.length_toList,size_madeCells];exact qU _)).symm
 grind [madeCells]
theorem kEL {t e:TypeId} {n m:Nat} {ze:Value} {by_:Nat} {l r:List C} {vs:List (Nat×Y)} (g:P.underlying t=some (.slice e)) (f:TI P e ze (m+1) by_) (q:ofCs ze.cells.toList=some l) (j:l.length=m+1) (k:n≤1000) (s:m≤1000)
 (h:kGK (fun i=>some (i* (m+1),m+1)) (List.replicate n l).flatten vs=some r) (z:Z) (w:World):
 (Instr.buildSlice t n (vs.map fun p=>(p.1,p.2.den z)).toArray).run P w= .ok (.slice (some ⟨w.heap.size,0,none⟩) n n) (w.alloc (.cells (r.map (C.den z)).toArray e)):=by
 have a:=kH8 (z:=z) h;have b:ze.cells=(l.map (C.den z)).toArray:=by grind [kBA]
 have c: ¬n* (m+1)>2^24:=by
  have:n* (m+1)≤1000* 1001:=Nat.mul_le_mul k (by omega);omega
 rw[←kMc j z n] at a;simp only[Instr.buildSlice,Sem.run_bind,run_underlying g,Result.andThen_ok,f.sizeOf,c,if_false,Sem.run_pure];by_cases o:n* (m+1)=0
 ·have d:n=0:=by
   grind
  subst d;simp only[Nat.zero_mul,if_true,Sem.run_pure,Result.andThen_ok] at a ⊢;simp_all[Array.range,newRow]
 ·simp only[o,if_false,Sem.run_bind,f.zeroValue,Result.andThen_ok,Sem.run_pure,b,a,newRow,run_newObj_alloc]
theorem kE9 {w:World} {e t:TypeId} {ze:Value} {m by_ n:Nat} {v:Value} {b:Option Addr} {c:Nat} (f:P.underlying t=some (.slice e)) (i:TI P e ze (m+1) by_) {xs:List Value} (a:w.ownsRow 0 e (m+1) v n xs):
 (Builtin.append_ #[t,t] ty #[v,.slice b 0 c]).run P w= .ok v w:=by
 obtain⟨j,h,l,o,p⟩:=i.get;rcases a.2 with ⟨rfl,rfl⟩|⟨g,cap,k,rfl,_,_,d,_⟩
 ·cases b<;>simp[Builtin.append_,run_underlying f,sizeOf,typeInfo,h,Builtin.lenOf,Builtin.firstCells,loadCells,loadCellsFrom]
 ·cases b<;>simp[Builtin.append_,run_underlying f,sizeOf,typeInfo,h,Builtin.lenOf,Builtin.firstCells,d,storeCells,loadCells,loadCellsFrom]
theorem kLD {z:Z} {nb c:Nat} {b:B} {u:Value} {v:X} {A:Assn} (g:okH k (k+1) H=true) (h:okE k (k+1) E=true) (e:v.den (z.add k nb c)=u) (f:b.den (z.add k nb c)=A)
 (i: ∀a,Z.ext k (k+1) z a→KV N KK (set (Ed a E) d (v.den a)) (Hp I w0 (Hd a (ins b H)))):KV N KK (set (Ed z E) d u) (Hp I w0 (Hd z H++[A])):=by
 subst e;subst f;have j:=Z.add_ext z k nb c;grind [kL4,KV.heap,Hp.ins,kIK]
theorem kNo {z:Z} {nb c:Nat} {u:Value} {v:X} {A:Assn} (e:okH k (k+1) H=true) (f:okE k (k+1) E=true) (b:v.den (z.add k nb c)=u)
 (g: ∀a,Z.ext k (k+1) z a→KV N KK (set (Ed a E) d (v.den a)) (Hp I w0 (Hd a H))):KV N KK (set (Ed z E) d u) (Hp I w0 (Hd z H++[A])):=by
 subst b;have h:=Z.add_ext z k nb c
 grind [kL4,kIK,KV.heap,Hp.sub]
theorem kEA {z:Z} {i:Nat} {b:B} (h:H[i]?=some b):(Hd z H)[i]?=some (b.den z):=by simp[Hd,h]
theorem kIO (z:Z): ∀(H:List B) (i:Nat),(Hd z H).eraseIdx i=Hd z (H.eraseIdx i)
 |[],_=>rfl
 |_::_,0=>rfl
 |b::H,i+1=>congrArg (b.den z:: ·) (kIO z H i)
theorem kLE (z:Z): ∀(H:List B) (i:Nat) (b:B),(Hd z H).set i (b.den z)=Hd z (H.set i b)
 |[],_,_=>rfl
 |_::_,0,_=>rfl
 |c::H,i+1,b=>congrArg (c.den z:: ·) (kLE z H i b)
theorem kGP {lo a:Nat}: ∀ {H:List B} {i:Nat},okH lo a H=true→okH lo a (H.eraseIdx i)=true
 |[],_,h=>h
 |_::_,0,h=>by grind [kE6,kL5]
 |b::H,i+1,h=>by
  have h:=kE6 h;simp only[List.all_cons,qg] at h;have:=kE6 (kGP (H:=H) (i:=i) (kL5 h.2))
  grind [kL5]
theorem kMd {L:List Assn} {i:Nat} {A a:Assn} (h:L[i]?=some A):(L.set i a).Perm (L.eraseIdx i++[a]):=(kAt a h).symm.trans (qf (l₁:=[a]))
theorem Hp.osForm {w:World} {L:List Assn} {i c:Nat} {α:Type} {K:Enc α} {e:TypeId} {A:Option Addr} {ys:List α} (h:Hp I w0 L w) (a:L[i]?=some (OS e K A c ys)) (b:0<ys.length): ∃q,A=some ⟨q,0,none⟩:=by
 obtain⟨_,_,d,_⟩:=h.at a;rcases d with ⟨_,rfl,_⟩|⟨q,_,rfl,_⟩
 ·grind
 grind
theorem KV.pull {p:Nat→Prop} {F:Env} {S:World→Prop} (c: ∀w,S w→ ∃q,p q) (h: ∀q,p q→KV N KK F S):KV N KK F S:=fun a w d b=>let ⟨q,hq⟩:=c w b;h q hq a w d b
theorem kNp {z:Z} {e m n a:Nat} {g:Option Addr} {zs:List (List C)} {L:List Assn} {i:Nat} {A:Assn} (j:L[i]?=some A) (o:(L.eraseIdx i)=Hd z H') (r:okH k (k+1) H'=true) (x:zs.all (fun l=>l.all (C.ok k (k+1)))=true) (s:okE k (k+1) E=true) (D:zs.length=n) (F:0<n)
 (t: ∀f,Z.ext k (k+1) z f→KV N KK (set (Ed f E) d ((X.y (.c (.sl k n))).den f)) (Hp I w0 (Hd f (ins (.row k e m zs) H')))):
 KV N KK (set (Ed z E) d (.slice g n a)) (Hp I w0 (L.set i (OS e (rawK m) g a (zs.map fun l=>l.map (C.den z))))):=by
 refine KV.pull (p:=fun q=>g=some ⟨q,0,none⟩) (fun w h=>Hp.osForm (i:=i) h (by rw[List.getElem?_set_self (by grind)]) (by grind)) fun q u=>?_;subst u;refine KV.heap (fun w h=>h.perm (kMd j)) ?_;rw[o];have G:=Z.add_ext z k q a;refine kLD (nb:=q) (c:=a) (v:= .y (.c (.sl k n))) (b:= .row k e m zs) r s ?_ ?_ t
 ·grind [X.den,Y.den,C.den,Z.add_r,Z.add_c]
 grind [B.den,Z.add_r,Z.add_c,kAY,C.den_ext]
theorem kHA {lo a id e m:Nat} {ys:List (List C)}: ∀ {H:List B} {i:Nat},okH lo a H=true→H[i]?=some (.row id e m ys)→ys.all (fun l=>l.all (C.ok lo a))=true:=fun h b=>by
 have:=List.all_eq_true.1 (kE6 h) _ (List.mem_of_getElem? b)
 grind [B.ok,kL6]
theorem kIu (L:List Assn):kAL (List.replicate L.length 0) L=some (L,[]):=by simpa using kDj L []
end
section
variable {P:Program} {N:NN} {Q:Exit→Act→World→Prop} {ops:Array Oper} {E:XE} {H H':List B} {I:Ids} {w0:World} {k k' d:Nat} {ty:TypeId} {pos:String} {af:Array Edge} {g:Option (Nat×Bool)} {KK:Act→World→Prop} {callf:kDC} {z:Z}
theorem kBF {w:World} {t e m by_ n i:Nat} {ze v:Value} {x y:Operand} {c:Nat} {h:Option Addr} {F:Env} (j:P.underlying t=some (.slice e)) (k:TI P e ze (m+1) by_) (l:ev F x=some v) (o:ev F y=some (.slice h 0 c)) {S:World→Prop}
 (b: ∀w,S w→ ∃xs,w.ownsRow 0 e (m+1) v n xs) (p:Yes N ops ⟨some d,.call ⟨.builtin .append,#[x,y],#[t,t]⟩,ty,pos,af,g⟩ F) (q:Nat.blt d N.n=true) (r:KV N KK (set F d v) S):
 OV P N ops Q ⟨some d,.call ⟨.builtin .append,#[x,y],#[t,t]⟩,ty,pos,af,g⟩ F S KK:=
 OV.step p (fun a w f s=>by
  obtain⟨xs,u⟩:=b w s;simp only[execOp,resolve,invoke,builtin,Sem.run_bind,Sem.run_pure,Result.andThen_ok,List.map_toArray,List.map_cons,List.map_nil,f.ev l,f.ev o,kE9 j k u]) q r
theorem kMe (a:kE8 P callf) {op:Op} {v:X} (h:lstep P callf E H k op=some (v,H',k')):k≤k':=by
 unfold lstep at h;split at h
 all_goals first|unfold lAlloc at h|unfold lBox at h|unfold lMake at h|unfold lBs at h|unfold lMap at h|unfold lCall at h|skip
 all_goals repeat' split at h
 all_goals first|unfold lApp at h|unfold lFn at h|skip
 all_goals repeat' split at h
 all_goals first
  |(simp only[kBg,qZ,Prod.mk.injEq] at h;omega)
  |contradiction
  |exact(a _ _ _ _ _ _ _ h).1
theorem kMf (hc:kE8 P callf) {op:Op} {v:X} (h:lstep P callf E H k op=some (v,H',k')) (hE:okE k k' E=true) (O:Yes N ops ⟨some d,op,ty,pos,af,g⟩ (Ed z E)) (J:Nat.blt d N.n=true)
 (M: ∀z',Z.ext k k' z z'→KV N KK (set (Ed z' E) d (v.den z')) (Hp I w0 (Hd z' H'))):OV P N ops Q ⟨some d,op,ty,pos,af,g⟩ (Ed z E) (Hp I w0 (Hd z H)) KK:=by
 unfold lstep at h;split at h
 ·
  unfold lAlloc at h;split at h
  ·rename_i ze sz by_ hi;split at h
   ·rename_i l hl;split at h
    ·rename_i F;simp only[kBg,qZ,Prod.mk.injEq] at h;obtain⟨rfl,rfl,rfl⟩:=h;refine OV.alloc (l.map (C.den z)).toArray (kAR hi) (by grind [kBA]) O J fun nb=>kLD (nb:=nb) (c:=0) F hE (by grind [X.den,Y.den,C.den,Z.add_r]) ?_ M
     grind [B.den,Z.add_r,kBA]
    ·cases h
   ·cases h
  ·cases h
 ·
  unfold lBox at h;split at h
  ·rename_i v' D;split at h
   ·rename_i o;simp only[qg] at o;simp only[kBg,qZ,Prod.mk.injEq] at h;obtain⟨rfl,rfl,rfl⟩:=h;refine OV.box (v'.cells.map (C.den z)).toArray (kAE D z) (kCv _) O J fun nb=>kLD (nb:=nb) (c:=0) o.1 hE (by grind [X.den,Y.den,C.den,Z.add_r]) ?_ M;have j8:=Z.add_ext z k nb 0;simp only[B.den,Z.add_r];have:v'.cells.map (C.den (z.add k nb 0))=v'.cells.map (C.den z):=by
     have h2:=o.2;cases v' with
     |c x=>simp only[Y.cells,List.map_cons,List.map_nil,C.den_ext j8 (c:=x) h2]
     |a l=>exact kAY (fun c hc=>C.den_ext j8 (c:=c) hc) ((kBe (C.ok k (k+1)) l).symm.trans h2)
    grind
   ·cases h
  ·cases h
 ·
  unfold lMake at h;split at h
  ·rename_i e k1 n k2 c R D W;split at h
   ·rename_i ze m by_ hi;split at h
    ·rename_i l hl;split at h
     ·rename_i o;simp only[qg,qj] at o;obtain⟨⟨F,G⟩,h0,h1,h2,h3⟩:=o;have S:=Nat.eq_of_beq_eq_true G;simp only[kBg,qZ,Prod.mk.injEq] at h;obtain⟨rfl,rfl,rfl⟩:=h;have hb:by_* c.toNat≤1000000* 1000000:=Nat.mul_le_mul h3 (by omega);refine OV.makeN (K:=rawK m) n.toNat c.toNat (l.map (C.den z)) R (kAR hi) (by grind [kGJ,kBA]) (kAE D z) (kAE W z) (by omega) (by omega) (by omega) (by omega) (by omega) O J fun nb=>kLD (nb:=nb) (c:=c.toNat) F hE (by grind [X.den,Y.den,C.den,Z.add_r,Z.add_c]) ?_ M
      grind [B.den,Z.add_r,Z.add_c,List.map_replicate,kBA]
     ·cases h
    ·cases h
   ·cases h
  ·cases h
 ·
  rename_i t n ps;unfold lBs at h;split at h
  ·rename_i e vs R j3;split at h
   ·rename_i ze m by_ hi;split at h
    ·rename_i l hl;split at h
     ·rename_i r hr;split at h
      ·rename_i o;simp only[qg,qj] at o;obtain⟨⟨⟨⟨⟨⟨F,G⟩,hn,hm⟩,n4⟩,n6⟩,n7⟩,n5⟩:=o;have S:=Nat.eq_of_beq_eq_true G;simp only[kBg,qZ,Prod.mk.injEq] at h;obtain⟨rfl,rfl,rfl⟩:=h;have j9:=kEL R (kAR hi) hl S hn hm hr z;have l4:((chop m n r).map fun l=>l.map (C.den z)).length=n:=by grind
       have key:=OV.buildSliceN (P:=P) (N:=N) (Q:=Q) (ops:=ops) (E:=Ed z E) (d:=d) (ty:=ty) (pos:=pos) (af:=af) (g:=g) (KK:=KK) (I0:=I) (w0:=w0) (L:=Hd z H) (K:=rawK m) (t:=t) (n:=n) (ps:=ps.toList) ((chop m n r).map fun l=>l.map (C.den z)) (kH9 j3 z) j9 (by rw[l4])
        (by grind [kDY]) (by omega) (by simp_all) J
       have e2:ps.toList.toArray=ps:=by simp
       rw[e2] at key;refine key fun nb=>?_;rw[l4];refine kLD (nb:=nb) (c:=n) (v:= .y (.c (.sl k n))) (b:= .row k e m (chop m n r)) F hE (by grind [X.den,Y.den,C.den,Z.add_r,Z.add_c]) ?_ M
       grind [Z.add_ext,B.den,Z.add_r,Z.add_c,kAY,C.den_ext]
      ·cases h
     ·cases h
    ·cases h
   ·cases h
  ·cases h
 ·
  unfold lMap at h;split at h
  ·split at h
   ·rename_i F;simp only[kBg,qZ,Prod.mk.injEq] at h;obtain⟨rfl,rfl,rfl⟩:=h;exact OV.makeMap0 (κ:=Unit) (ν:=Unit) (fun _=> .nilFunc) (fun _=> .nilFunc) O J fun nb=>kNo (nb:=nb) (c:=0) F hE (by grind [X.den,Y.den,C.den,Z.add_r]) M
   ·cases h
  ·split at h
   ·rename_i R D;split at h
    ·rename_i F;simp only[kBg,qZ,Prod.mk.injEq] at h;obtain⟨rfl,rfl,rfl⟩:=h;exact OV.makeMap (κ:=Unit) (ν:=Unit) (fun _=> .nilFunc) (fun _=> .nilFunc) R (kAE D z) O J fun nb=>kNo (nb:=nb) (c:=0) F hE (by grind [X.den,Y.den,C.den,Z.add_r]) M
    ·cases h
   ·cases h
 ·rename_i c;obtain⟨n8,g9,ts⟩:=c;obtain⟨g9⟩:=g9;obtain⟨ts⟩:=ts;unfold lCall at h;split at h
  ·
   rename_i p;simp only at p;subst p;split at h
   ·rename_i x y t t' ha l5;simp only at ha l5;subst ha;subst l5;unfold lApp at h;split at h
    ·rename_i l7;subst l7;split at h
     ·rename_i e R;split at h
      ·rename_i ze m by_ hi;have T:=kAR hi;split at h
       ·rename_i D W;simp only[kBg,qZ,Prod.mk.injEq] at h;obtain⟨rfl,rfl,rfl⟩:=h;exact kBF (i:=0) (w:=w0) R T (kAE D z) (kAE W z) (n:=0) (fun w V=>⟨[],by grind [X.den,Y.den,C.den,World.ownsRow]⟩) O J (M z (Z.ext.refl _ _ _))
       ·rename_i id2 n2 D W;split at h
        ·rename_i h0;have j4:=Nat.eq_of_beq_eq_true h0;subst j4;simp only[kBg,qZ,Prod.mk.injEq] at h;obtain⟨rfl,rfl,rfl⟩:=h;exact kBF (i:=0) (w:=w0) R T (kAE D z) (kAE W z) (n:=0) (fun w V=>⟨[],by grind [X.den,Y.den,C.den,World.ownsRow]⟩) O J (M z (Z.ext.refl _ _ _))
        ·rename_i h0;split at h
         ·rename_i j g6 e2 m2 ys2 j5;split at h
          ·rename_i o;simp only[qg,qj] at o;obtain⟨⟨⟨⟨⟨⟨F,he⟩,hm⟩,hn⟩,hb⟩,l8⟩,j6⟩:=o;obtain rfl:=Nat.eq_of_beq_eq_true he;obtain rfl:=Nat.eq_of_beq_eq_true hm;obtain rfl:=Nat.eq_of_beq_eq_true hn;have i6:0<ys2.length:=by
            grind
           simp only[kBg,qZ,Prod.mk.injEq] at h;obtain⟨rfl,rfl,rfl⟩:=h;obtain⟨g7,s⟩:=kB5 j5;simp only[B.id] at s;subst s;have G:(Hd z H).length=H.length:=by simp[Hd]
           have U:(Hd z H++[OS e2 (rawK m2) none 0 []])[H.length]?=some (OS e2 (rawK m2) none 0 []):=by grind
           have g8:(Hd z H++[OS e2 (rawK m2) none 0 []])[j]?=some (OS e2 (rawK m2) (some ⟨z.r g6,0,none⟩) (z.c g6) (ys2.map fun l=>l.map (C.den z))):=by
            rw[qP (by grind)];exact kEA g7
           refine OV.heap (fun w V=>V.nilOS (e:=e2) (K:=rawK m2)) ?_;refine OV.append (K:=rawK m2) (ys:=[]) (zs:=ys2.map fun(l:List C)=>l.map (C.den z)) H.length R T (Nat.eq_of_beq_eq_true j6) (kAE D z) (kAE W z) rfl (by simp) U (fun w V=>V.os j g8) (by grind) (by grind) O J fun A' c'=>?_;simp only[List.nil_append,qE];exact kNp (H':=H) U (by grind) F (kHA F g7) hE rfl i6 M
          grind
         grind
       ·rename_i id n id2 n2 D W;split at h
        ·rename_i i g6 e1 m1 ys hf;obtain⟨j7,i7⟩:=kB5 hf;simp only[B.id] at i7;subst i7;split at h
         ·rename_i l6;simp only[qg] at l6;obtain⟨⟨l9,m5⟩,m6⟩:=l6;obtain rfl:=Nat.eq_of_beq_eq_true l9;obtain rfl:=Nat.eq_of_beq_eq_true m5;obtain rfl:=Nat.eq_of_beq_eq_true m6;split at h
          ·rename_i h0;have j4:=Nat.eq_of_beq_eq_true h0;subst j4;simp only[kBg,qZ,Prod.mk.injEq] at h;obtain⟨rfl,rfl,rfl⟩:=h;refine kBF (i:=0) (w:=w0) R T (kAE D z) (kAE W z) (n:=ys.length) (fun w V=>?_) O J (M z (Z.ext.refl _ _ _));obtain⟨ii,_,hA,_⟩:=V.at (kEA j7);rcases hA with ⟨h1,_⟩|⟨q,m7,hq,hI,hb,n9,m8,m9,ht⟩
           ·cases h1
           ·refine⟨_,kA6 (rawK m1) (ys.map fun l=>l.map (C.den z)) |>.trans ?_,.inr ⟨q,z.c g6,m7,?_,qT _,hb,?_,m8,m9,?_⟩⟩
            ·simp[rawK]
            ·grind [X.den,Y.den,C.den]
            ·grind
            grind [rawK]
          ·rename_i h0;split at h
           ·rename_i j i8 e2 m2 ys2 j5;obtain⟨g7,s⟩:=kB5 j5;simp only[B.id] at s;subst s;split at h
            ·rename_i o;simp only[qg,qj] at o;obtain⟨⟨⟨⟨⟨⟨F,he⟩,hm⟩,hn⟩,hb⟩,l8⟩,j6⟩:=o;obtain rfl:=Nat.eq_of_beq_eq_true he;obtain rfl:=Nat.eq_of_beq_eq_true hm;obtain rfl:=Nat.eq_of_beq_eq_true hn;have i6:0<ys2.length:=by
              grind
             simp only[kBg,qZ,Prod.mk.injEq] at h;obtain⟨rfl,rfl,rfl⟩:=h;refine OV.append (K:=rawK m2) (ys:=ys.map fun(l:List C)=>l.map (C.den z)) (zs:=ys2.map fun(l:List C)=>l.map (C.den z)) i R T (Nat.eq_of_beq_eq_true j6) (kAE D z) (kAE W z) (by simp) (by simp) (kEA j7) (fun w V=>V.os (A:=some ⟨z.r i8,0,none⟩) (c:=z.c i8) (e:=e2) j (kEA g7))
              (by grind) (by grind) O J fun A' c'=>?_
             rw[←qN,qE,qD];refine kNp (H':=H.eraseIdx i) (kEA j7) (kIO z H i) (kGP F) ?_ hE (qD ..) (by omega) M
             grind [kHA]
            grind
           grind
         grind
        grind
       grind
      ·cases h
     ·cases h
    ·cases h
   ·cases h
  ·
   rename_i f p;simp only at p;subst p;unfold lFn at h;split at h
   ·rename_i vs j3;split at h
    ·rename_i fn n3;split at h
     ·rename_i o;simp only[qg,Bool.not_eq_true'] at o;obtain⟨h1,h2⟩:=hc _ _ _ _ _ _ _ h;refine OV.call (List.replicate (Hd z H).length 0) n3 o.1 o.2 (kLC j3 z) (kIu _) (fun w V=>h2 z w) (fun _ hb=>hb.elim) O J fun u L hp=>?_;obtain⟨z',D,rfl,rfl⟩:=hp;have:=M z' D
      grind [kL4]
     ·cases h
    ·cases h
   ·cases h
  ·cases h
 ·cases h
theorem kMg {op:Op} (h:sstep P E H op=some H') (w:Yes N ops ⟨none,op,ty,pos,af,g⟩ (Ed z E)) (T:KV N KK (Ed z E) (Hp I w0 (Hd z H'))):OV P N ops Q ⟨none,op,ty,pos,af,g⟩ (Ed z E) (Hp I w0 (Hd z H)) KK:=by
 unfold sstep at h;split at h
 ·split at h
  ·rename_i id o v ze f by_ x y D;split at h
   ·rename_i k;have n:=Nat.eq_of_beq_eq_true k;split at h
    ·rename_i i b t l p;obtain⟨c,a⟩:=kB5 p;simp only[B.id] at a;subst a;split at h
     ·rename_i q;have F:=qV q;rw[kLB] at h;obtain rfl:=qY h;refine OV.store i (v.cells.map (C.den z)) ((l.take o++v.cells++l.drop (o+f)).map (C.den z)).toArray (kAR D) (kAE x z) (kAE y z) (kEA c) (kCv v) (by grind) (by grind) (fun u U=>?_) (by grind) w ?_
      ·grind [C.one]
      ·have:=kLE z H i (.blk b t (l.take o++v.cells++l.drop (o+f)))
       grind [B.den]
     grind
    ·rename_i i b e m G p;obtain⟨c,a⟩:=kB5 p;simp only[B.id] at a;subst a;split at h
     ·rename_i l M;split at h
      ·rename_i s;simp only[qg] at s;have O:=Nat.eq_of_beq_eq_true s.1;have R:=qV s.2;rw[kLB] at h;obtain rfl:=qY h;have S:=(List.getElem?_eq_some_iff.1 M).1;have J:(l.take (o%(m+1))++v.cells++l.drop (o%(m+1)+f)).length=m+1:=by grind
       have L:(G.map fun l=>l.map (C.den z)).getD (o/(m+1)) (rawK m).d=l.map (C.den z):=by grind
       refine OV.storeE (A:=some ⟨z.r b,0,none⟩) (K:=rawK m) i (o/(m+1)) ((l.take (o%(m+1))++v.cells++l.drop (o%(m+1)+f)).map (C.den z)) (j:=o%(m+1)) (v.cells.map (C.den z)) (kAR D) (kAE x z) (kAE y z) (kEA c) ?_ (kCv v) (by grind) (by grind) ?_ (by grind [rawK]) w ?_
       ·grind [Nat.div_add_mod,of,rawK]
       ·grind [kGJ,List.map_take,List.map_drop]
       ·have:=kLE z H i (.row b e m (G.set (o/(m+1)) (l.take (o%(m+1))++v.cells++l.drop (o%(m+1)+f))))
        grind [B.den,List.map_set]
      grind
     grind
    grind
   ·cases h
  ·cases h
 ·cases h
end
noncomputable def guardQ (ops:Array Oper) (E:XE):Option (Nat×Bool)→Option Bool
 |none=>some true
 |some (j,want)=>match (ops[j]?).bind (·.dst) with
  |some d=>match xget E d with
   |some (.y (.c (.b b)))=>some (b==want)
   |some .u=>some false
   |_=>none
  |none=>none
noncomputable def exOp (P:Program) (n:Nat) (callf:kDC) (ops:Array Oper) (E:XE) (H:List B) (k:Nat) (o:Oper):Option St:=
 match guardQ ops E o.guard with
 |some false=>match o.dst with
  |some d=>if Nat.blt d n then putS E d .u H k else none
  |none=>some (E,H,k)
 |some true=>match o.dst with
  |none=>match sstep P E H o.op with
   |some H'=>some (E,H',k)
   |none=>none
  |some d=>if Nat.blt d n then (match qstep P E H o.op with
   |some v=>putS E d v H k
   |none=>match lstep P callf E H k o.op with
    |some (v,H',k')=>if okE k k' E then putS E d v H' k' else none
    |none=>none) else none
 |none=>none
noncomputable def exOps (P:Program) (n:Nat) (callf:kDC) (ops:Array Oper) (l:List Oper) (E:XE) (H:List B) (k:Nat):Option St:=
 List.rec (motive:=fun _=>XE→List B→Nat→Option St) (fun E H k=>some (E,H,k)) (fun o _ ih E H k=>match exOp P n callf ops E H k o with
  |some (E',H',k')=>ih E' H' k'
  |none=>none) l E H k
def kHB (p:Nat→Bool):Nat→Nat
 |0=>0
 |n+1=>if p n then kHB p n|||2^n else kHB p n
theorem kCw (p:Nat→Bool): ∀n j,(kHB p n).testBit j=(decide (j<n)&&p j)
 |0,j=>by simp[kHB]
 |n+1,j=>by
  have a:=kCw p n j
  grind [kHB]
def sub1 (a m:Nat):Bool:=Nat.beq (Nat.land a m) a
theorem kGQ {a m:Nat} (h:sub1 a m=true) {j:Nat} (b:a.testBit j=true):m.testBit j=true:=by
 have c:a&&&m=a:=Nat.eq_of_beq_eq_true h
 grind
theorem kQ0 {a m:Nat} (h: ∀j,a.testBit j=true→m.testBit j=true):sub1 a m=true:=by
 have b:a&&&m=a:=Nat.eq_of_testBit_eq fun j=>by
  grind
 unfold sub1;simp_all
def aft (ops:Array Oper) (i:Nat):Nat:=kHB (fun j=>match ops[i]? with
 |some o=>o.after.any fun e=>Region.binds .any e&&Nat.beq e.on j
 |none=>false) ops.size
def bad (ops:Array Oper) (i:Nat):Nat:=kHB (fun j=>!(Nat.beq j i)&&(match ops[i]?,ops[j]? with
 |some oi,some oj=>!(oj.after.any (fun e=>Region.binds .any e&&Nat.beq e.on i)||oi.apart ops oj)
 |_,_=>false)) ops.size
def kLF (ops:Array Oper):Bool:=ops.all fun o=>o.after.all fun e=>Nat.blt e.on ops.size
def rdyL (ops:Array Oper) (m:Nat):List Nat:=(List.range ops.size).filter fun i=>!m.testBit i&&sub1 (aft ops i) m
theorem kEB (n m i:Nat) (d:Bool):(bl n m).getD i d=if i<n then m.testBit i else d:=by
 simp only[bl,Array.getD_eq_getD_getElem?,List.getElem?_toArray,List.getElem?_map]
 grind
theorem kNq (n m i:Nat):(bl n m).setIfInBounds i true=bl n (m|||2^i):=by
 grind [bl]
theorem kGR {ops:Array Oper} (l:kLF ops=true) (m:Nat):Region.ready .any ops (bl ops.size m)=rdyL ops m:=by
 unfold Region.ready rdyL;refine List.filter_congr fun i r=>?_;have a:i<ops.size:=by grind
 rw[kEB,if_pos a]
 congr 1
 have d:ops[i]?=some ops[i]:=by grind
 rw[d];simp only[Option.map_some,Option.getD_some];have n:=Array.all_eq_true.1 l i a;rw[Bool.eq_iff_iff];constructor
 ·intro h;refine kQ0 fun j c=>?_;rw[aft,kCw,d] at c;simp only[qg,qj] at c;obtain⟨e,f,g⟩:=Array.any_eq_true'.1 c.2;simp only[qg] at g;have o:=Array.all_eq_true_iff_forall_mem.1 h e f;have k:=Nat.eq_of_beq_eq_true g.2;rw[g.1,kEB,k,if_pos c.1] at o
  grind
 ·intro h;refine Array.all_eq_true_iff_forall_mem.2 fun e f=>?_;cases p:Region.binds .any e with
  |false=>rfl
  |true=>
   have b:e.on<ops.size:=by
    grind [Array.all_eq_true_iff_forall_mem,Nat.blt_eq]
   have q:(aft ops i).testBit e.on=true:=by
    rw[aft,kCw,d];simp only[qg,qj];exact⟨b,Array.any_eq_true'.2 ⟨e,f,by simp[p]⟩⟩
   rw[kEB,if_pos b,kGQ h q];rfl
theorem kIP {ops:Array Oper} {i m:Nat} {d:Oper} (l:ops[i]?=some d) (h:sub1 (bad ops i) m=true) (j:Nat) (a:Oper) (f:ops[j]?=some a) (g:j≠i) (b:(bl ops.size m).getD j true=false)
 (k: ∀e∈a.after,Region.binds .any e=true→e.on≠i):d.apart ops a=true:=by
 have c:=(Array.getElem?_eq_some_iff.1 f).1;rw[kEB,if_pos c] at b
 grind [bad,kCw,Nat.beq_eq,kGQ]
noncomputable def quiet (P:Program) (n:Nat) (ops:Array Oper) (c:Nat) (listed:Nat) (E:XE) (H0:List B):List Nat→Option (Nat×XE)
 |[]=>none
 |i::r=>match ops[i]? with
  |some o=>match o.dst with
   |some d=>match guardQ ops E o.guard with
    |some true=>match qstep P E H0 o.op with
     |some v=>if Nat.blt d n&&kCj ops .any i 8 c&&sub1 (bad ops i) listed then fX v fun v=>some (i,(d,v)::E) else quiet P n ops c listed E H0 r
     |none=>quiet P n ops c listed E H0 r
    |some false=>if Nat.blt d n&&kCj ops .any i 8 c&&sub1 (bad ops i) listed then some (i,(d,.u)::E) else quiet P n ops c listed E H0 r
    |none=>quiet P n ops c listed E H0 r
   |none=>quiet P n ops c listed E H0 r
  |none=>none
def same:List (Option St)→Option St
 |[]=>none
 |[x]=>x
 |some a::r=>match same r with
  |some b=>if a.1=b.1∧a.2.1=b.2.1∧a.2.2=b.2.2 then some a else none
  |none=>none
 |none::_=>none
noncomputable def exAny (P:Program) (n:Nat) (callf:kDC) (W:Nat) (ops:Array Oper) (c:Nat) (H0:List B) (k0:Nat):Nat→Nat→XE→List B→Option St
 |0,m,E,H=>match rdyL ops m with
  |[]=>fE (nE E) fun E=>some (E,H,k0+ops.size* W)
  |_=>none
 |fuel+1,m,E,H=>match rdyL ops m with
  |[]=>fE (nE E) fun E=>some (E,H,k0+ops.size* W)
  |rs=>match (if m.testBit c then none else quiet P n ops c m E H0 rs) with
   |some (i,E')=>if rs.contains i&&!(Nat.beq c i) then fN (m|||2^i) fun m=>exAny P n callf W ops c H0 k0 fuel m E' H else none
   |none=>same (rs.map fun i=>match ops[i]? with
    |some o=>match exOp P n callf ops E H (k0+i* W) o with
     |some (E',H',k')=>if Nat.ble k' (k0+i* W+W)&&((m|||2^i).testBit c||isSub H0 H') then fN (m|||2^i) fun m=>exAny P n callf W ops c H0 k0 fuel m E' H' else none
     |none=>none
    |none=>none)
def C.ids:C→List Nat
 | .p id _| .sl id _=>[id]
 |_=>[]
def Y.ids:Y→List Nat
 | .c x=>x.ids
 | .a l=>l.flatMap C.ids
def X.ids:X→List Nat
 | .y v=>v.ids
 | .t l=>l.flatMap Y.ids
 | .u=>[]
def kT3 (s:List Nat):B→List Nat
 | .blk id _ l=>if s.contains id then l.flatMap C.ids else []
 | .row id _ _ ys=>if s.contains id then ys.flatten.flatMap C.ids else []
noncomputable def seen (E:XE) (H:List B):List B:=
 let s1:=E.flatMap fun p=>p.2.ids
 let s2:=H.flatMap (kT3 s1)
 H.filter fun b=>match b with
  | .blk id _ _=>s1.contains id
  | .row id _ _ _=>s1.contains id||s2.contains id
inductive Out where
 |n|r
 |e (id:Nat)
def Out.to:Out→Exit
 | .n=> .normal
 | .r=> .ret
 | .e id=> .exit id
abbrev Res:=Option (Out×St)
noncomputable def iter (f:XE→List B→Nat→Res):Nat→XE→List B→Nat→Res
 |0,_,_,_=>none
 |m+1,E,H,k=>match f E H k with
  |some (.n,E',H',k')=>fE (nE E') fun E'=>iter f m E' H' k'
  |r=>r
noncomputable def exR (P:Program) (n:Nat) (callf:kDC) (W:Nat) (ops:Array Oper) (draw:Bool) (E:XE) (H:List B) (k:Nat):Res:=match draw with
 |false=>match exOps P n callf ops ops.toList E H k with
  |some s=>some (.n,s)
  |none=>none
 |true=>fH (seen E H) fun H0=>
  if kLF ops&&isSub H0 H&&Region.noSelect ops&&okE k (k+ops.size* W) E&&okH k (k+ops.size* W) H&&okH k (k+ops.size* W) H0 then (match exAny P n callf W ops (ops.size-1) H0 k ops.size 0 E H with
   |some s=>some (.n,s)
   |none=>none) else none
noncomputable def exC (P:Program) (n:Nat) (callf:kDC) (W:Nat) (c:Code):XE→List B→Nat→Res:=
 Code.rec (motive:=fun _=>XE→List B→Nat→Res)
  (fun E H k=>some (.n,E,H,k)) (fun _ ops draw=>exR P n callf W ops draw)
  (fun _ _ fa fb E H k=>match fa E H k with
   |some (.n,E',H',k')=>fb E' H' k'
   |r=>r)
  (fun c _ _ fa fb E H k=>match xev E c with
   |some (.y (.c (.b true)))=>fa E H k
   |some (.y (.c (.b false)))=>fb E H k
   |_=>none)
  (fun id _ fa E H k=>match fa E H k with
   |some (.e i,E',H',k')=>if Nat.beq i id then some (.n,E',H',k') else some (.e i,E',H',k')
   |r=>r)
  (fun _ fa E H k=>iter fa 200 E H k) (fun _ _ _ _ _ _ _ _ _=>none) (fun id E H k=>some (.e id,E,H,k)) (fun _ _ _ _ _=>none) (fun _ _ _ _=>none) (fun _ _ _ _=>none) (fun E H k=>some (.r,E,H,k)) (fun _ _ _ _=>none) c
def kMh:Nat→List X→XE
 |_,[]=>[]
 |i,v::r=>(i,v)::kMh (i+1) r
noncomputable def resX (P:Program) (H:List B):List ResultVar→XE→Option X
 |[],_=>some (.t [])
 |[.tmp a],E=>xget E a
 |[.tmp a,.tmp b],E=>match xget E a,xget E b with
  |some (.y u),some (.y v)=>some (.t [u,v])
  |_,_=>none
 |[.tmp a,.tmp b,.tmp c],E=>match xget E a,xget E b,xget E c with
  |some (.y u),some (.y v),some (.y x)=>some (.t [u,v,x])
  |_,_,_=>none
 |[.cell a ty,.tmp b],E=>match xget E a,xget E b,P.underlying ty,kCR P ty with
  |some (.y (.c (.p id o))),some (.y v),some D,some (_,sz,_)=>match rd H id with
   |some l=>if aggD D then (cutC l o sz).map fun r=> .t [.a r,v] else none
   |none=>none
  |_,_,_,_=>none
 |_,_=>none
noncomputable def exF (P:Program):Nat→kDC
 |0,_,_,_,_=>none
 |d+1,f,vs,H,k=>match P.funcs[f]? with
  |some fn=>match fn.body with
   |some c=>if Nat.ble vs.length fn.ntmps then (match exC P fn.ntmps (exF P d) (2^(40* d)) c (kMh 0 vs) H k with
    |some (.n,E',H',k')=>match resX P H' fn.results.toList E' with
     |some v=>if Nat.ble k k' then some (v,H',k') else none
     |none=>none
    |some (.r,E',H',k')=>match resX P H' fn.results.toList E' with
     |some v=>if Nat.ble k k' then some (v,H',k') else none
     |none=>none
    |_=>none) else none
   |none=>none
  |none=>none
section
variable {P:Program} {n:Nat} {Q:Exit→Act→World→Prop} {ops:Array Oper} {E E':XE} {H H' H0:List B} {I:Ids} {w0:World} {k k' d W:Nat} {KK:Act→World→Prop} {callf:kDC} {z:Z}
theorem kCx {o:Oper} (h:guardQ ops E o.guard=some true) {D:List Deferred}:Yes ⟨n,D⟩ ops o (Ed z E):=by
 obtain⟨dst,op,ty,pos,af,g⟩:=o;simp only at h;cases g with
 |none=>exact gno
 |some p=>
  obtain⟨j,want⟩:=p;simp only[guardQ] at h;split at h
  ·rename_i d a;split at h
   ·simp_all[gyes,kBi,kBR,X.den,Y.den,C.den]
   ·cases h
   grind
  grind
theorem kFY {o:Oper} (h:guardQ ops E o.guard=some false) {N:NN} {a:Act} (b:Fits N a (Ed z E)):Region.wanted o (yielded ops a.tmps)=false:=by
 obtain⟨dst,op,ty,pos,af,g⟩:=o;simp only at h;cases g with
 |none=>grind [guardQ]
 |some p=>
  obtain⟨j,want⟩:=p;simp only[guardQ] at h;split at h
  ·rename_i d c;split at h
   ·grind [kBj,kBi,kBR,X.den,Y.den,C.den]
   ·rename_i e;exact kAl b rfl (by simp[kFh,c,kBR,e,X.den];rfl)
   grind
  grind
theorem kLG (p:kE8 P callf) {o:Oper} (h:exOp P n callf ops E H k o=some (E',H',k')):k≤k'∧ ∀z KK,(∀f,Z.ext k k' z f→KV ⟨n,[]⟩ KK (Ed f E') (Hp I w0 (Hd f H')))→OV P ⟨n,[]⟩ ops Q o (Ed z E) (Hp I w0 (Hd z H)) KK:=by
 unfold exOp at h;split at h
 ·rename_i b;split at h
  ·rename_i d c;split at h
   ·rename_i i;simp only[kE7,qZ,Prod.mk.injEq] at h;obtain⟨rfl,rfl,rfl⟩:=h;refine⟨qU _,fun z KK e a w m j=>?_⟩;rw[if_neg (by grind [kFY]),c];exact e z (Z.ext.refl _ _ _) _ w (m.put undef i) j
   grind
  ·rename_i c;simp only[kE7,qZ,Prod.mk.injEq] at h;obtain⟨rfl,rfl,rfl⟩:=h;refine⟨qU _,fun z KK e a w m j=>?_⟩;rw[if_neg (by grind [kFY]),c];exact e z (Z.ext.refl _ _ _) _ w (m.put_none _) j
 ·rename_i b;split at h
  ·rename_i c;split at h
   ·rename_i r j;simp only[kE7,qZ,Prod.mk.injEq] at h;obtain⟨rfl,rfl,rfl⟩:=h;refine⟨qU _,fun z KK e=>?_⟩;have l:=kCx (z:=z) (n:=n) (D:=[]) b;obtain⟨dst,op,ty,pos,af,g⟩:=o
    grind [kMg,Z.ext.refl]
   grind
  ·rename_i d c;split at h
   ·rename_i i;split at h
    ·rename_i v s;simp only[kE7,qZ,Prod.mk.injEq] at h;obtain⟨rfl,rfl,rfl⟩:=h;refine⟨qU _,fun z KK e=>?_⟩;have l:=kCx (z:=z) (n:=n) (D:=[]) b;obtain⟨dst,op,ty,pos,af,g⟩:=o;simp only at c;subst c;exact OV.step l (kIN s) i ((e z (Z.ext.refl _ _ _)))
    ·split at h
     ·rename_i v r x q;split at h
      ·rename_i t;simp only[kE7,qZ,Prod.mk.injEq] at h;obtain⟨rfl,rfl,rfl⟩:=h;refine⟨kMe p q,fun z KK e=>?_⟩;have l:=kCx (z:=z) (n:=n) (D:=[]) b;obtain⟨dst,op,ty,pos,af,g⟩:=o;simp only at c;subst c;exact kMf p q t l i fun f u=>(e f u)
      grind
     grind
   grind
 grind
theorem kFZ (f:kE8 P callf): ∀ {l:List Oper} {E H k E' H' k'},exOps P n callf ops l E H k=some (E',H',k')→k≤k'∧ ∀z,(∀c,Z.ext k k' z c→KV ⟨n,[]⟩ (Q .normal) (Ed c E') (Hp I w0 (Hd c H')))→RV P ⟨n,[]⟩ ops Q l (Ed z E) (Hp I w0 (Hd z H))
 |[],E,H,k,E',H',k',h=>by
  replace h:some (E,H,k)=some (E',H',k'):=h
  grind [RV.nil,Z.ext.refl]
 |o::r,E,H,k,E',H',k',h=>by
  replace h:(match exOp P n callf ops E H k o with
   |some (E',H',k')=>exOps P n callf ops r E' H' k'
   |none=>none)=some (E',H',k'):=h
  split at h
  ·rename_i E1 s t g;obtain⟨b,i⟩:=kLG (Q:=Q) (I:=I) (w0:=w0) f g;obtain⟨a,j⟩:=kFZ f h;exact⟨qk b a,fun z m=>RV.op (i z _ fun p d=>j p fun q e=>m q ((d.wide (qU _) a).trans (e.wide b (qU _))))⟩
  grind
def NP (Q:Exit→Act→World→Prop):Prop:= ∀c a d v w,Q (.panic c) (a.put (some d) v) w→Q (.panic c) a w
theorem kCC {m:Nat} {k i c:Nat} {S:World→Prop} (b:Region.noSelect ops=true) (p:NP Q) (q: ∀w,S w→Hp I w0 (Hd z H0) w) (s:Down ops .any (bl ops.size m)) (e:(bl ops.size m).getD c false=false) (f:c≠i) (t:i∈Region.ready .any ops (bl ops.size m)):
 ∀ {rs:List Nat},quiet P n ops c m E H0 rs=some (i,E')→
 AC P ⟨n,[]⟩ ops Q (Hp I w0 (Hd z H0)) c k ((bl ops.size m).setIfInBounds i true) (Ed z E') S→AC P ⟨n,[]⟩ ops Q (Hp I w0 (Hd z H0)) c (k+1) (bl ops.size m) (Ed z E) S
 |[],h,_=>by cases h
 |j::r,h,u=>by
  simp only[quiet] at h;split at h
  ·rename_i o F;split at h
   ·rename_i d l;split at h
    ·rename_i x;split at h
     ·rename_i v L;split at h
      ·rename_i B;simp only[qg] at B;obtain⟨⟨G,H⟩,y⟩:=B;simp only[kSE,kFX,qZ,Prod.mk.injEq] at h;obtain⟨rfl,rfl⟩:=h;have M:=kCx (z:=z) (n:=n) (D:=[]) x;obtain⟨dst,op,ty,pos,af,g⟩:=o;simp only at l;subst l;intro a w A C;exact kBx F (kBb _ _ H) f (Region.noSelect_spec b) (fun c a w=>p c a d _ w) k _ a w (kIP F y) t s e (.inl ⟨M a A,fun N J=>kIN L a N A J⟩) (q w C) (u _ w (A.put _ G) C)
      ·exact kCC b p q s e f t h u
     ·exact kCC b p q s e f t h u
    ·rename_i x;split at h
     ·rename_i B;simp only[qg] at B;obtain⟨⟨G,H⟩,y⟩:=B;simp only[kFX,qZ,Prod.mk.injEq] at h;obtain⟨rfl,rfl⟩:=h;intro a w A K;refine kBx F (kBb _ _ H) f (Region.noSelect_spec b) (fun c a w=>by rw[l];exact p c a d undef w) k _ a w (kIP F y) t s e (.inr ⟨kFY x A,rfl⟩) (q w K) ?_;rw[l];exact u _ w (A.put undef G) K
     ·exact kCC b p q s e f t h u
    ·exact kCC b p q s e f t h u
   ·exact kCC b p q s e f t h u
  grind
theorem kHC {s:St}: ∀ {l:List (Option St)},same l=some s→ ∀x∈l,x=some s
 |[],h,_,_=>by cases h
 |[x],h,y,c=>by grind [same]
 |some a::b::r,h,y,c=>by
  simp only[same] at h;split at h
  ·rename_i t e;split at h
   ·rename_i f;obtain rfl:=qY h;have d:t=a:=by
     grind
    subst d;rcases qe.1 c with rfl|c
    ·rfl
    ·exact kHC e y c
   grind
  grind
 |none::b::r,h,_,_=>by grind [same]
theorem allC {listed:Array Bool} {a c:Nat} {S0 S:World→Prop} {F:Env} {N:NN}: ∀ {rs:List Nat},(∀i∈rs,∃o,ops[i]?=some o∧OV P N ops Q o F S (fun b w'=>((listed.setIfInBounds i true).getD c false=true∨S0 w')∧kAh P .any ops Q S0 c a (listed.setIfInBounds i true) b w'))→AllC P N ops Q S0 c a listed F S rs
 |[],_=>trivial
 |i::r,h=>⟨h i (by simp),allC fun j d=>h j (by grind)⟩
theorem kSG {m i:Nat} (h:i∈rdyL ops m):i<ops.size:=by
 grind [rdyL]
theorem kMi (R:kE8 P callf) (u:kLF ops=true) (S:Region.noSelect ops=true) (hQ:NP Q) {b c:Nat} {d:Z} (T:c<ops.size) (p:okH b (b+ops.size* W) H0=true):
 ∀ {a:Nat} {m:Nat} {E H E' H' k'},exAny P n callf W ops c H0 b a m E H=some (E',H',k')→ ∀z,Z.ext b (b+ops.size* W) d z→Down ops .any (bl ops.size m)→(m.testBit c=true∨isSub H0 H=true)→(∀v,Z.ext b k' d v→KV ⟨n,[]⟩ (Q .normal) (Ed v E') (Hp I w0 (Hd v H')))→
  AC P ⟨n,[]⟩ ops Q (Hp I w0 (Hd d H0)) c a (bl ops.size m) (Ed z E) (Hp I w0 (Hd z H)):=by
 intro a
 induction a with
 |zero=>
  grind [exAny,kFX,AC.done,kGR,KV.nE]
 |succ a F=>
  intro m E H E' H' k' h z x G J K;have hS: ∀k,Z.ext b (b+ops.size* W) d k→ ∀s,isSub H0 s=true→ ∀w,Hp I w0 (Hd k s) w→Hp I w0 (Hd d H0) w:=fun k f s y w L=>by rw[←kIK f p];exact Hp.isSub y L
  simp only[exAny] at h;split at h
  ·grind [kFX,AC.done,kGR,KV.nE]
  ·rename_i U;split at h
   ·rename_i i E1 q;split at q
    ·cases q
    ·rename_i V;split at h
     ·rename_i l;simp only[qg,Bool.not_eq_true'] at l;have g:i∈Region.ready .any ops (bl ops.size m):=by grind [kGR]
      have X:i∈rdyL ops m:=by grind
      have Y:c≠i:=by grind [Nat.beq_refl]
      have M:m.testBit c=false:=by grind
      have N:(bl ops.size m).getD c false=false:=by rw[kEB];grind
      have j:isSub H0 H=true:=by
       grind
      rw[kGO] at h;have t:=kNq ops.size m i;have e0:Hd d H0=Hd z H0:=(kIK x p).symm;have hk:=F h z x (t▸G.next g) (.inr j) K
      grind [kCC]
     grind
   ·refine AC.all _ (kGR u m) (fun e=>U e) (allC fun i O=>?_);have A:=kSG O;have r:=kHC h _ (List.mem_map.2 ⟨i,O,rfl⟩);split at r
    ·rename_i o ho;split at r
     ·rename_i E1 s k1 h1;split at r
      ·rename_i l;simp only[qg,Bool.or_eq_true] at l;rw[kGO] at r;have t:=kNq ops.size m i;obtain⟨g6,B⟩:=kLG (Q:=Q) (I:=I) (w0:=w0) R h1;have L:b+i* W+W≤b+ops.size* W:=by
        have:(i+1)* W≤ops.size* W:=Nat.mul_le_mul_right _ A
        grind
       have g7:=qV l.1;refine⟨o,ho,B z _ fun k f=>?_⟩;have C:Z.ext b (b+ops.size* W) d k:=x.trans (f.wide (by omega) (by omega));have g:i∈Region.ready .any ops (bl ops.size m):=by grind [kGR]
       refine AC.next _ t ?_ (F r k C (t▸G.next g) l.2 K);rcases l.2 with q|q
       ·by_cases D:c<ops.size
        ·exact .inl (by rw[kEB,if_pos D];exact q)
        grind
       grind
      grind
     grind
    grind
theorem kQ1 {d c:Nat}: ∀ {a:Nat} {m:Nat} {E H E' H' k'},exAny P n callf W ops c H0 d a m E H=some (E',H',k')→k'=d+ops.size* W:=by
 intro a
 induction a with
 |zero=>
  grind [exAny,kFX]
 |succ a e=>
  intro m E H E' H' k' h;simp only[exAny] at h;split at h
  ·grind [kFX]
  ·rename_i f;split at h
   ·grind [kGO]
   ·cases b:rdyL ops m with
    |nil=>grind
    |cons i r=>
     rw[b] at h;have g:=kHC h _ (List.mem_map.2 ⟨i,by simp,rfl⟩)
     grind [kGO]
theorem NP.then {next:Act→World→Prop} (h:NP Q):NP (Exit.then next Q):=h
theorem NP.inBlock {id:Nat} (h:NP Q):NP (Exit.inBlock id Q):=h
def kSH (P:Program) (n:Nat) (I:Ids) (w0:World) (f:XE→List B→Nat→Res) (c:Code):Prop:= ∀E H k x E' H' k',f E H k=some (x,E',H',k')→k≤k'∧ ∀z Q,NP Q→(∀z',Z.ext k k' z z'→KV ⟨n,[]⟩ (Q x.to) (Ed z' E') (Hp I w0 (Hd z' H')))→CV P ⟨n,[]⟩ c Q (Ed z E) (Hp I w0 (Hd z H))
theorem kQ2 {f:XE→List B→Nat→Res} {c:Code} (q:kSH P n I w0 f c): ∀ {m:Nat} {E H k x E' H' k'},iter f m E H k=some (x,E',H',k')→k≤k'∧ ∀z Q,NP Q→(∀i,Z.ext k k' z i→KV ⟨n,[]⟩ (Q x.to) (Ed i E') (Hp I w0 (Hd i H')))→KV ⟨n,[]⟩ (Code.rounds P c Q m) (Ed z E) (Hp I w0 (Hd z H)):=by
 intro m
 induction m with
 |zero=>intro E H k x E' H' k' h;cases h
 |succ m s=>
  intro E H k x E' H' k' h;simp only[iter] at h;split at h
  ·rename_i E1 y A t;rw[kFX] at h;obtain⟨a,j⟩:=q _ _ _ _ _ _ _ t;obtain⟨b,u⟩:=s h;exact⟨qk a b,fun z Q d g=>j z _ d.then fun v l=>KV.nE<|u v Q d fun w o=>g w ((l.wide (qU _) b).trans (o.wide a (qU _)))⟩
  ·rename_i p;obtain⟨a,j⟩:=q _ _ _ _ _ _ _ h;refine⟨a,fun z Q d g=>j z _ d.then ?_⟩;cases x with
   |n=>exact absurd h (p _ _ _)
   |r=>exact g
   |e id=>exact g
theorem kNr (J:kE8 P callf) (Y:P.follows .mixedOrders=true): ∀c:Code,kSH P n I w0 (exC P n callf W c) c:=by
 intro c
 induction c with
 |skip=>
  intro E H k x E' H' k' h
  replace h:some (Out.n,E,H,k)=some (x,E',H',k'):=h
  simp only[qZ,Prod.mk.injEq] at h;obtain⟨rfl,rfl,rfl,rfl⟩:=h;exact⟨qU _,fun z Q _ g=>CV.skip (g z (Z.ext.refl _ _ _))⟩
 |ret=>
  intro E H k x E' H' k' h
  replace h:some (Out.r,E,H,k)=some (x,E',H',k'):=h
  simp only[qZ,Prod.mk.injEq] at h;obtain⟨rfl,rfl,rfl,rfl⟩:=h;exact⟨qU _,fun z Q _ g=>CV.ret (g z (Z.ext.refl _ _ _))⟩
 |exit id=>
  intro E H k x E' H' k' h
  replace h:some (Out.e id,E,H,k)=some (x,E',H',k'):=h
  simp only[qZ,Prod.mk.injEq] at h;obtain⟨rfl,rfl,rfl,rfl⟩:=h;exact⟨qU _,fun z Q _ g=>CV.exit (g z (Z.ext.refl _ _ _))⟩
 |seq a b p q=>
  intro E H k x E' H' k' h
  replace h:(match exC P n callf W a E H k with
   |some (.n,E',H',k')=>exC P n callf W b E' H' k'
   |r=>r)=some (x,E',H',k'):=h
  split at h
  ·rename_i E1 H1 k1 B;obtain⟨d,m⟩:=p _ _ _ _ _ _ _ B;obtain⟨t,h3⟩:=q _ _ _ _ _ _ _ h;exact⟨qk d t,fun z Q j g=>CV.seq (m z _ j.then fun z1 K=>h3 z1 Q j fun z2 L=>g z2 ((K.wide (qU _) t).trans (L.wide d (qU _))))⟩
  ·rename_i u;obtain⟨d,m⟩:=p _ _ _ _ _ _ _ h;refine⟨d,fun z Q j g=>CV.seq (m z _ j.then ?_)⟩;cases x with
   |n=>exact absurd h (u _ _ _)
   |r=>exact g
   |e id=>exact g
 |cond c a b p q=>
  intro E H k x E' H' k' h
  replace h:(match xev E c with
   |some (.y (.c (.b true)))=>exC P n callf W a E H k
   |some (.y (.c (.b false)))=>exC P n callf W b E H k
   |_=>none)=some (x,E',H',k'):=h
  split at h
  ·rename_i v;obtain⟨d,m⟩:=p _ _ _ _ _ _ _ h;exact⟨d,fun z Q j g=>CV.cond_t (kAE v z) (m z Q j g)⟩
  ·rename_i v;obtain⟨d,m⟩:=q _ _ _ _ _ _ _ h;exact⟨d,fun z Q j g=>CV.cond_f (kAE v z) (m z Q j g)⟩
  grind
 |block id c C=>
  intro E H k x E' H' k' h
  replace h:(match exC P n callf W c E H k with
   |some (.e i,E',H',k')=>if Nat.beq i id then some (.n,E',H',k') else some (.e i,E',H',k')
   |r=>r)=some (x,E',H',k'):=h
  split at h
  ·rename_i i E1 H1 k1 B;obtain⟨d,m⟩:=C _ _ _ _ _ _ _ B;split at h
   ·rename_i hb;have M:=Nat.eq_of_beq_eq_true hb;subst M;simp only[qZ,Prod.mk.injEq] at h;obtain⟨rfl,rfl,rfl,rfl⟩:=h;exact⟨d,fun z Q j g=>CV.block (m z _ j.inBlock fun N v=>KV.block_hit (g N v))⟩
   ·rename_i hb;simp only[qZ,Prod.mk.injEq] at h;obtain⟨rfl,rfl,rfl,rfl⟩:=h;exact⟨d,fun z Q j g=>CV.block (m z _ j.inBlock fun N v=>KV.block_miss (by grind) (g N v))⟩
  ·rename_i u;obtain⟨d,m⟩:=C _ _ _ _ _ _ _ h;refine⟨d,fun z Q j g=>CV.block (m z _ j.inBlock ?_)⟩;cases x with
   |n=>exact g
   |r=>exact g
   |e i=>exact absurd h (u _ _ _ _)
 |loop c C=>
  intro E H k x E' H' k' h
  replace h:iter (exC P n callf W c) 200 E H k=some (x,E',H',k'):=h
  obtain⟨d,m⟩:=kQ2 C h;exact⟨d,fun z Q j g a w hf A=>wp_loop_rounds 200 (m z Q j g a w hf A)⟩
 |region id ops D=>
  intro E H k x E' H' k' h;cases D with
  |false=>
   replace h:exR P n callf W ops false E H k=some (x,E',H',k'):=h
   simp only[exR] at h;split at h
   ·rename_i s B;obtain⟨E1,H1,k1⟩:=s;simp only[qZ,Prod.mk.injEq] at h;obtain⟨rfl,rfl,rfl,rfl⟩:=h;have d:=(kFZ (Q:=fun _ _ _=>True) (I:=I) (w0:=w0) J B).1;refine⟨d,fun z Q j g=>?_⟩;have:=(kFZ (Q:=Q) (I:=I) (w0:=w0) J B).2 z g;have:=CV.region (P:=P) (id:=id) (l:=ops.toList) (Q:=Q) (by simpa using this);simp_all
   grind
  |true=>
   replace h:exR P n callf W ops true E H k=some (x,E',H',k'):=h
   simp only[exR,kMb] at h;split at h
   ·rename_i hh;simp only[qg] at hh;obtain⟨⟨⟨⟨⟨O,F⟩,R⟩,hE⟩,hH⟩,T⟩:=hh;split at h
    ·rename_i s A;obtain⟨E2,H2,k2⟩:=s;simp only[qZ,Prod.mk.injEq] at h;obtain⟨rfl,rfl,rfl,rfl⟩:=h;have U:=kQ1 A;subst U;refine⟨by omega,fun z Q j g=>?_⟩;have V:bl ops.size 0=Array.replicate ops.size false:=by
      grind [bl]
     have hd0:Down ops .any (bl ops.size 0):=fun k o ho U=>by
      rw[kEB] at U
      grind
     by_cases G:ops.size=0
     ·have:=CV.anyC (P:=P) (id:=id) (l:=ops.toList) (Q:=Q) (E:=Ed z E) (S:=Hp I w0 (Hd z H)) (fun _=>True) 0 Y (fun _ h=>h.drew) 0 (by grind) (AC.done (by
       have:ops= #[]:=Array.eq_empty_of_size_eq_zero G;subst this;rfl) (by
       have X:rdyL ops 0=[]:=by grind [rdyL]
       rw[G] at A;simp only[exAny,X,kFX,qZ,Prod.mk.injEq] at A;obtain⟨rfl,rfl,_⟩:=A;exact KV.nE (g z (Z.ext.refl _ _ _))))
      grind
     have:=kMi (Q:=Q) (I:=I) (w0:=w0) J O R j (c:=ops.size-1) (by omega) T A z (Z.ext.refl _ _ _) hd0 (.inr F) g;rw[V] at this;have:=CV.anyC (P:=P) (id:=id) (l:=ops.toList) (Q:=Q) (E:=Ed z E) (S:=Hp I w0 (Hd z H)) _ (ops.size-1) Y (fun _ h=>h.drew) ops.size (by simp) (by simpa using this);simp_all
    grind
   grind
 |rangeFunc f ps a b p q=>intro E H k x E' H' k' h;exact absurd (show none=some (x,E',H',k') from h) (by simp)
 |scope b C=>intro E H k x E' H' k' h;exact absurd (show none=some (x,E',H',k') from h) (by simp)
 |label l=>intro E H k x E' H' k' h;exact absurd (show none=some (x,E',H',k') from h) (by simp)
 |goto l=>intro E H k x E' H' k' h;exact absurd (show none=some (x,E',H',k') from h) (by simp)
 |refuse w=>intro E H k x E' H' k' h;exact absurd (show none=some (x,E',H',k') from h) (by simp)
theorem kFa (z:Z): ∀(i:Nat) (vs:List X),Ed z (kMh i vs)=params i (vs.map (X.den z))
 |_,[]=>rfl
 |i,v::r=>by have:=kFa z (i+1) r;grind [Ed,kMh,params]
theorem kNs {fn:Func} {f:Z} {v:X} (h:resX P H fn.results.toList E=some v) (g:Z.ext k k' f z) {x:Exit} (w:x= .normal∨x= .ret):
 KV ⟨n,[]⟩ (bodyPost P fn (fun e w'=> ∃u L,e= .returned u∧(∃d,Z.ext k k' f d∧u=v.den d∧L=Hd d H)∧Hp I w0 L w') x) (Ed z E) (Hp I w0 (Hd z H)):=by
 have key:KV ⟨n,[]⟩ (bodyPost P fn (fun e w'=> ∃u L,e= .returned u∧(∃d,Z.ext k k' f d∧u=v.den d∧L=Hd d H)∧Hp I w0 L w') .ret) (Ed z E) (Hp I w0 (Hd z H)):=by
  unfold resX at h;split at h
  ·rename_i s;simp only[qZ] at h;subst h;exact KV.ret0 (post:=fun u L=> ∃d,Z.ext k k' f d∧u=(X.t []).den d∧L=Hd d H) (by grind) _ (fun _ h=>h) ⟨z,g,rfl,rfl⟩
  ·rename_i a s;exact KV.ret1 (post:=fun u L=> ∃d,Z.ext k k' f d∧u=v.den d∧L=Hd d H) (t:=a) (v:=v.den z) (by grind) (by grind [kBR]) _ (fun _ h=>h) ⟨z,g,rfl,rfl⟩
  ·rename_i a b s;split at h
   ·rename_i u u' i m;simp only[qZ] at h;subst h;exact KV.ret2 (post:=fun q L=> ∃d,Z.ext k k' f d∧q=(X.t [u,u']).den d∧L=Hd d H) (t1:=a) (t2:=b) (v1:=u.den z) (v2:=u'.den z) (by grind) (by rw[kBR,i];rfl) (by rw[kBR,m];rfl) _ (fun _ h=>h) ⟨z,g,rfl,rfl⟩
   ·cases h
  ·rename_i a b c s;split at h
   ·rename_i u u' y i m A;simp only[qZ] at h;subst h;exact KV.ret3 (post:=fun q L=> ∃d,Z.ext k k' f d∧q=(X.t [u,u',y]).den d∧L=Hd d H) (t1:=a) (t2:=b) (t3:=c) (v1:=u.den z) (v2:=u'.den z) (v3:=y.den z) (by grind) (by rw[kBR,i];rfl) (by rw[kBR,m];rfl) (by rw[kBR,A];rfl) _ (fun _ h=>h) ⟨z,g,rfl,rfl⟩
   ·cases h
  ·rename_i a ty b s;split at h
   ·rename_i id o u D ze K by_ i m B F;split at h
    ·rename_i l M;split at h
     ·rename_i G;simp only[Option.map_eq_some_iff] at h;obtain⟨r,p,rfl⟩:=h;obtain⟨N,O⟩:=kL9 p;exact KV.retC2 (post:=fun q L=> ∃d,Z.ext k k' f d∧q=(X.t [.a r,u]).den d∧L=Hd d H) (t:=a) (t2:=b) (v2:=u.den z) (r.map (C.den z)) (by grind) (by rw[kBR,i];rfl) (by rw[kBR,m];rfl) B G (kAR F) (by grind)
       (fun w' J j v Q=>by
        grind [kH6]) _ (fun _ h=>h) ⟨z,g,rfl,rfl⟩
     ·cases h
    ·cases h
   ·cases h
  ·cases h
 rcases w with rfl|rfl
 ·exact key
 grind
theorem kLH {fn:Func} {R:Ending→World→Prop}:NP (bodyPost P fn R):=fun _ _ _ _ _ h=>h
theorem kNt (e:P.follows .mixedOrders=true): ∀d,kE8 P (exF P d)
 |0=>fun f vs H k v H' k' h=>by cases h
 |d+1=>fun f vs H k v H' k' h=>by
  simp only[exF] at h;split at h
  ·rename_i fn a;split at h
   ·rename_i c m;split at h
    ·rename_i n;have b:=kNt e d;split at h
     ·rename_i E1 o p g;split at h
      ·rename_i u i;split at h
       ·rename_i j;simp only[qZ,Prod.mk.injEq] at h;obtain⟨rfl,rfl,rfl⟩:=h;refine⟨qV j,fun z w=>Fx.body a m rfl (by grind) fun I _ hI=>?_⟩;rw[←kFa z 0 vs];exact(kNr (I:=I) (w0:=w) b e c _ _ _ _ _ _ _ g).2 z _ kLH fun q l=>kNs i l (.inl rfl)
       grind
      grind
     ·rename_i E1 o p g;split at h
      ·rename_i u i;split at h
       ·rename_i j;simp only[qZ,Prod.mk.injEq] at h;obtain⟨rfl,rfl,rfl⟩:=h;refine⟨qV j,fun z w=>Fx.body a m rfl (by grind) fun I _ hI=>?_⟩;rw[←kFa z 0 vs];exact(kNr (I:=I) (w0:=w) b e c _ _ _ _ _ _ _ g).2 z _ kLH fun q l=>kNs i l (.inr rfl)
       grind
      grind
     grind
    grind
   grind
  grind
noncomputable def yes (P:Program) (d:Nat) (f:FuncId):Bool:=match exF P d f [] [] 0 with
 |some (.y (.c (.b true)),_,_)=>true
 |_=>false
theorem kSI {f:FuncId} {d:Nat} (a:P.follows .mixedOrders=true) (h:yes P d f=true) {w:World}:Fx P f [] w [] no (fun v L=>v= .bool true∧L=[]):=by
 unfold yes at h;split at h
 ·rename_i H' k' b;obtain⟨_,c⟩:=kNt a d _ _ _ _ _ _ _ b;intro J hI g;refine(c ⟨fun _=>0,fun _=>0⟩ w J hI g).mono ?_;rintro e j ⟨v,L,rfl,⟨k,_,rfl,rfl⟩,i⟩;exact⟨_,[],rfl,⟨rfl,rfl⟩,Hp.sub (L:=[]) i⟩
 ·cases h
end
end Go.Sv.Ex
