/-
  Joined.
-/
import Derived.Test.YtepmocimmmjinaaGreatDoorP01
import Derived.LoopN
set_option linter.unusedSimpArgs false
set_option linter.unusedVariables false
variable {f q O:Nat} {h:Go.TypeId} {j:Go.Value} {o:Go.World->Prop} {D:Option Go.Addr} {F:Go.Operand} {L:Go.Oper} {M:List Go.Sv.aB} {R:Go.Sv.aB} {T:Option Go.TypeDesc} {U:Go.Sv.Env} {V:Go.World}
namespace Go.Sv.Ex
open Go
set_option linter.constructorNameAsVariable false
inductive C where
 |i (k:IntKind) (n:Int)
 |b (x:Bool)
 |s (x:ByteArray)
 |fn (g:FuncId)
 |np|ns|nm|nf
 |p (id off:Nat)
 |sl (id n:Nat)
 |m (id:Nat)
 deriving DecidableEq
inductive Y where
 |c (x:C)
 |a (l:List C)
 deriving DecidableEq
inductive X where
 |y (v:Y)
 |t (l:List Y)
 |u
 deriving DecidableEq
structure Z where
 r:Nat->Nat
 c:Nat->Nat
def C.den (z:Z):C->Value
 | .i k n=> .int k n
 | .b x=> .bool x
 | .s x=> .string x
 | .fn g=> .func (.func g) #[] #[]
 | .np=> .pointer none
 | .ns=> .slice none 0 0
 | .nm=> .map none
 | .nf=> .nilFunc
 | .p id off=> .pointer (some ⟨z.r id,off,none⟩)
 | .sl id n=> .slice (some ⟨z.r id,0,none⟩) n (z.c id)
 | .m id=> .map (some (z.r id))
def Y.den (z:Z):Y->Value
 | .c x=>x.den z
 | .a l=> .agg (l.map (C.den z)).toArray
def X.den (z:Z):X->Value
 | .y v=>v.den z
 | .t l=> .tuple (l.map (Y.den z)).toArray
 | .u=>undef
theorem C.one (z:Z) (c:C):(c.den z).oneCell'=true:=by cases c<;>rfl
def rJ (lo hi id:Nat):Bool:=Nat.blt id lo||Nat.ble hi id
def C.ok (lo hi:Nat):C->Bool
 | .p id _| .sl id _| .m id=>rJ lo hi id
 |_=>true
noncomputable def iE {α:Type} (p:α->Bool) (l:List α):Bool:=List.rec (motive:=λ_=>Bool) true (λc _ ih=>bif p c then ih else false) l
theorem rK {α:Type} (p:α->Bool): ∀l:List α,iE p l=l.all p
 |[]=>rfl
 |c::r=>by
  show(bif p c then iE p r else false)=_;rw[rK p r,List.all_cons]
  grind
noncomputable def Y.ok (lo hi:Nat):Y->Bool
 | .c x=>x.ok lo hi
 | .a l=>iE (C.ok lo hi) l
noncomputable def X.ok (lo hi:Nat):X->Bool
 | .y v=>v.ok lo hi
 | .t l=>l.all (Y.ok lo hi)
 | .u=>true
def Z.ext (lo hi:Nat) (z z':Z):Prop:= ∀id,rJ lo hi id=true->z'.r id=z.r id/\z'.c id=z.c id
theorem Z.ext.refl (lo a:Nat) (z:Z):Z.ext lo a z z:=λ_ _=>⟨rfl,rfl⟩
theorem Z.ext.trans {lo e:Nat} {a b c:Z} (h:Z.ext lo e a b) (k:Z.ext lo e b c):Z.ext lo e a c:=λid d=>⟨(k id d).1.trans (h id d).1,(k id d).2.trans (h id d).2⟩
theorem XY {b id:Nat} (d:O<=f) (e:q<=b) (h:rJ O b id=true):rJ f q id=true:=by
 grind [rJ,Nat.blt_eq,Nat.ble_eq]
theorem Z.ext.wide {d:Nat} {a b:Z} (h:Z.ext f q a b) (c:O<=f) (g:q<=d):Z.ext O d a b:=λid i=>h id (XY c g i)
theorem C.den_ext {z b:Z} (h:Z.ext f q z b) {c:C} (d:c.ok f q=true):c.den b=c.den z:=by
 cases c<;>simp only[C.den,C.ok] at* <;>simp[(h _ d).1,(h _ d).2]
theorem oU {α β:Type} {f g:α->β} {p:α->Bool} (h: ∀x,p x=true->f x=g x): ∀ {l:List α},l.all p=true->l.map f=l.map g
 |[],_=>rfl
 |x::l,a=>by
  simp_all
theorem Y.den_ext {lo b:Nat} {z d:Z} (h:Z.ext lo b z d) {v:Y} (e:v.ok lo b=true):v.den d=v.den z:=by
 cases v with
 |c x=>exact C.den_ext h e
 |a l=>simp only[Y.den,oU (λc f=>C.den_ext h (c:=c) f) ((rK (C.ok lo b) l).symm.trans e)]
theorem X.den_ext {lo a:Nat} {z b:Z} (h:Z.ext lo a z b) {v:X} (d:v.ok lo a=true):v.den b=v.den z:=by
 cases v with
 |y x=>exact Y.den_ext h d
 |t l=>simp only[X.den,oU (λc e=>Y.den_ext h (v:=c) e) d]
 |u=>rfl
abbrev XE:=List (Nat×X)
noncomputable def gD (E:XE) (t:Nat):Option X:=List.rec (motive:=λ_=>Option X) none (λp _ ih=>bif Nat.beq p.1 t then some p.2 else ih) E
theorem XZ (k:Nat) (v:X) (r:XE) (t:Nat):gD ((k,v)::r) t=bif Nat.beq k t then some v else gD r t:=rfl
def pG:XE->Nat->X->XE
 |[],t,v=>[(t,v)]
 |(k,u)::r,t,v=>bif Nat.beq k t then (t,v)::r else bif Nat.blt t k then (t,v)::(k,u)::r else (k,u)::pG r t v
def Ed (z:Z) (E:XE):Env:=E.map λp=>(p.1,p.2.den z)
theorem lf (z:Z): ∀(E:XE) (t:Nat),get (Ed z E) t=(gD E t).map (X.den z)
 |[],_=>rfl
 |(k,v)::r,t=>by
  have a:=lf z r t
  grind [Ed,get,XZ]
theorem Lw (z:Z): ∀(E:XE) (t:Nat) (v:X) (s:Nat),get (Ed z (pG E t v)) s=get (set (Ed z E) t (v.den z)) s
 |[],t,v,s=>rfl
 |(k,u)::r,t,v,s=>by
  have a:=Lw z r t v s
  grind [Ed,get,pG,Nat.beq_eq]
theorem KV.getE {N:NN} {K:Act->World->Prop} {E':Env} (h: ∀s v,get E' s=some v->get U s=some v) (k:KV N K E' o):KV N K U o:=
 λa w b c=>k a w ⟨b.defers,b.size,λt v d=>b.slot t v (h t v d)⟩ c
def nE (E:XE):XE:=E.foldr (λp a=>pG a p.1 p.2) []
theorem Lx (z:Z): ∀(E:XE) (s:Nat),get (Ed z (nE E)) s=get (Ed z E) s
 |[],_=>rfl
 |(k,v)::r,s=>by
  have a:=Lx z r s
  grind [Lw,nE,get,Ed]
theorem N4 {z:Z} {N:NN} {K:Act->World->Prop} {E:XE} {S:World->Prop} (k:KV N K (Ed z (nE E)) S):KV N K (Ed z E) S:=KV.getE (λs u h=>by grind [Lx]) k
noncomputable def sr (lo hi:Nat) (E:XE):Bool:=iE (λp=>p.2.ok lo hi) E
theorem DW {z b:Z} (h:Z.ext f q z b) {E:XE} (hE:sr f q E=true):Ed b E=Ed z E:=
 oU (p:=λ(p:Nat×X)=>p.2.ok f q) (λp c=>by grind [X.den_ext]) ((rK (λ(p:Nat×X)=>p.2.ok f q) E).symm.trans hE)
def cr (m:Nat):bO (List Value) where
 f l:=(l.map λv=>if v.oneCell' then v else .bool false).take (m+1)++List.replicate (m+1-l.length) (.bool false)
 sz:=m+1
 d:=[]
 len l:=zg
 pos:=zo
 one l v hv:=by
  simp only[List.mem_append,List.mem_replicate] at hv;rcases hv with hv|⟨_,rfl⟩
  ·obtain⟨u,_,rfl⟩:=List.mem_map.1 (List.mem_of_mem_take hv);split
   ·grind
   ·rfl
  ·rfl
theorem zH (z:Z) {l:List C} (h:l.length=f+1):(cr f).f (l.map (C.den z))=l.map (C.den z):=by
 simp only[cr,List.map_map,qE,h,Nat.sub_self,List.replicate_zero,qK];rw[show(λv=>if v.oneCell'=true then v else Value.bool false)∘C.den z=C.den z from funext λc=>by simp[C.one]]
 grind [List.take_of_length_le]
inductive B where
 |blk (id:Nat) (t:TypeId) (l:List C)
 |row (id:Nat) (e:TypeId) (m:Nat) (ys:List (List C))
 deriving DecidableEq
def B.id:B->Nat
 | .blk id _ _| .row id _ _ _=>id
def B.den (z:Z):B->aB
 | .blk id t l=>aU (z.r id) (.cells (l.map (C.den z)).toArray t (0,0))
 | .row id e m ys=>OS e (cr m) (some ⟨z.r id,0,none⟩) (z.c id) (ys.map λl=>l.map (C.den z))
noncomputable def B.ok (lo hi:Nat):B->Bool
 | .blk id _ l=>rJ lo hi id&&iE (C.ok lo hi) l
 | .row id _ _ ys=>rJ lo hi id&&iE (iE (C.ok lo hi)) ys
def Hd (z:Z) (H:List B):List aB:=H.map (B.den z)
noncomputable def ia (lo hi:Nat) (H:List B):Bool:=iE (B.ok lo hi) H
theorem wh {H:List B} (h:ia f q H=true):H.all (B.ok f q)=true:=(rK (B.ok f q) H).symm.trans h
theorem DX {H:List B} (h:H.all (B.ok f q)=true):ia f q H=true:=(rK (B.ok f q) H).trans h
theorem MA {ys:List (List C)} (h:iE (iE (C.ok f q)) ys=true):ys.all (λl=>l.all (C.ok f q))=true:=by
 grind [rK]
theorem B.den_ext {lo b:Nat} {z d:Z} (h:Z.ext lo b z d) {v:B} (a:v.ok lo b=true):v.den d=v.den z:=by
 cases v with
 |blk id t l=>
  simp only[B.ok,qg] at a;simp only[B.den,oU (λc f=>C.den_ext h (c:=c) f) ((rK (C.ok lo b) l).symm.trans a.2),(h id a.1).1]
 |row id e m g=>
  simp only[B.ok,qg] at a;have i:g.map (λl=>l.map (C.den d))=g.map (λl=>l.map (C.den z)):=oU (p:=λl=>l.all (C.ok lo b)) (λl j=>oU (λc f=>C.den_ext h (c:=c) f) j) (MA a.2);simp only[B.den,(h id a.1).1,(h id a.1).2,i]
theorem zJ {z c:Z} (h:Z.ext f q z c) {H:List B} (d:ia f q H=true):Hd c H=Hd z H:=oU (λb e=>B.den_ext h e) (wh d)
noncomputable def gN (H:List B) (id:Nat):Option (Nat×B):=List.rec (motive:=λ_=>Option (Nat×B)) none (λb _ ih=>bif Nat.beq b.id id then some (0,b) else match ih with
 |some (k,b)=>some (k+1,b)
 |none=>none) H
theorem sw: ∀ {H:List B} {id k:Nat} {b:B},gN H id=some (k,b)->H[k]?=some b/\b.id=id
 |[],_,_,_,h=>by cases h
 |b0::r,id,k,b,h=>by
  replace h:(bif Nat.beq b0.id id then some (0,b0) else match gN r id with
   |some (k,b)=>some (k+1,b)
   |none=>none)=some (k,b):=h
  cases a:Nat.beq b0.id id with
  |true=>
   grind [Nat.eq_of_beq_eq_true]
  |false=>
   simp only[a,cond_false] at h;split at h
   ·rename_i k' d c;obtain⟨e,f⟩:=sw c
    grind
   grind
def B.cells:B->Option (List C)
 | .blk _ _ l=>some l
 | .row _ _ m ys=>if ys.all (λl=>Nat.beq l.length (m+1)) then some ys.flatten else none
theorem zK (z:Z) {m:Nat}: ∀ {ys:List (List C)},ys.all (λl=>Nat.beq l.length (m+1))=true->flat (cr m) (ys.map λl=>l.map (C.den z))=ys.flatten.map (C.den z)
 |[],_=>rfl
 |l::ys,h=>by
  simp only[List.all_cons,qg] at h;have a:=zK z h.2
  grind [flat,zH,Nat.eq_of_beq_eq_true]
variable {I:aV} {w0 w:World} {H:List B} {z:Z}
theorem Xa (h:Hp I w0 (Hd z H) w) {b:B} (g:gN H f=some (q,b)) {l:List C} (a:b.cells=some l) {c:C} (p:l[O]?=some c):w.cell? ⟨z.r f,O,none⟩=some (c.den z):=by
 obtain⟨i,rfl⟩:=sw g;have o:(Hd z H)[q]?=some (b.den z):=by simp[Hd,i]
 cases b with
 |blk f t cs=>
  simp only[B.cells,qZ] at a;subst a;exact h.cell q o zg
 |row f e m k=>
  simp only[B.cells] at a;split at a
  ·rename_i s;obtain rfl:=qY a;rcases h.os q o with u|⟨j,t,v,_,n,d⟩
   ·simp_all
   ·have:=d O (c.den z) (by grind [zK]);simp only[bk,of,Nat.zero_add] at n this
    grind [B.id,dy]
  grind
noncomputable def ins (b:B) (H:List B):List B:=List.rec (motive:=λ_=>List B) [b] (λc r ih=>bif Nat.blt b.id c.id then b::c::r else c::ih) H
theorem MB (b:B): ∀H:List B,(H++[b]).Perm (ins b H)
 |[]=>List.Perm.refl _
 |c::r=>by
  show(c::r++[b]).Perm (bif Nat.blt b.id c.id then b::c::r else c::ins b r);cases Nat.blt b.id c.id with
  |true=>grind
  |false=>exact(MB b r).cons c
theorem Hp.ins {b:B} (h:Hp I w0 (Hd z H++[b.den z]) w):Hp I w0 (Hd z (ins b H)) w:=by
 refine h.perm ?_;have:=(MB b H).map (B.den z)
 grind [Hd]
def eE:List B->List B->Bool
 |[],_=>true
 |_::_,[]=>false
 |a::r,b::s=>bif decide (a=b) then eE r s else eE (a::r) s
theorem DY: ∀ {H0 H:List B},eE H0 H=true-> ∃R,H.Perm (H0++R)
 |[],H,_=>⟨H,List.Perm.refl _⟩
 |_::_,[],h=>by grind [eE]
 |a::r,b::s,h=>by
  simp only[eE] at h;by_cases c:a=b
  ·subst c;simp only[decide_true,cond_true] at h;obtain⟨R,d⟩:=DY h;exact⟨R,d.cons a⟩
  ·simp only[c,decide_false,cond_false] at h;obtain⟨R,d⟩:=DY h;exact⟨b::R,((d.cons b).trans List.perm_middle.symm)⟩
theorem Hp.isSub {H0:List B} (hs:eE H0 H=true) (h:Hp I w0 (Hd z H) w):Hp I w0 (Hd z H0) w:=by
 obtain⟨R,a⟩:=DY hs;have:=a.map (B.den z);rw[qN] at this;exact Hp.sub (M:=Hd z R) (h.perm this)
def zL:Value->Option C
 | .int k n=>some (.i k n)
 | .bool x=>some (.b x)
 | .string x=>some (.s x)
 | .pointer none=>some .np
 | .slice none 0 0=>some .ns
 | .map none=>some .nm
 | .nilFunc=>some .nf
 |_=>none
theorem MC {c:C} (h:zL j=some c) (z:Z):c.den z=j:=by
 unfold zL at h;split at h<;>first|(obtain rfl:=qY h;rfl)|cases h
def iG:List Value->Option (List C)
 |[]=>some []
 |v::r=>match zL v,iG r with
  |some c,some l=>some (c::l)
  |_,_=>none
theorem rM: ∀ {l:List Value} {cs:List C},iG l=some cs-> ∀z,cs.map (C.den z)=l
 |[],_,h,z=>by obtain rfl:=qY h;rfl
 |v::r,cs,h,z=>by
  simp only[iG] at h;split at h
  ·rename_i c l a b;obtain rfl:=qY h;rw[List.map_cons,MC a,rM b]
  grind
def DZ (v:Value):Option Y:=
 match v with
 | .agg cs=>(iG cs.toList).map .a
 |v=>(zL v).map .c
theorem Xb {y:Y} (h:DZ j=some y) (z:Z):y.den z=j:=by
 unfold DZ at h;split at h
 ·rename_i cs;simp only[Option.map_eq_some_iff] at h;obtain⟨l,a,rfl⟩:=h;simp[Y.den,rM a]
 ·simp only[Option.map_eq_some_iff] at h;obtain⟨l,a,rfl⟩:=h;exact MC a z
noncomputable def da (E:XE):Operand->Option X
 | .tmp t=>gD E t
 | .const v=>(DZ v).map .y
 | .func f=>some (.y (.c (.fn f)))
 | .global _=>none
theorem cU {E:XE} {v:X} (h:da E F=some v) (z:Z):ev (Ed z E) F=some (v.den z):=by
 cases F with
 |tmp t=>grind [da,ev,lf]
 |const u=>
  grind [da,Option.map_eq_some_iff,ev,X.den,Xb]
 |func f=>simp only[da,qZ] at h;subst h;rfl
 |global g=>cases h
def kh (P:Program) (t:TypeId):Option (Value×Nat×Nat):=
 match P.info? t with
 |some i=>match i.zero with
  |some z=>some (z,i.size,i.bytes)
  |none=>none
 |none=>none
theorem lC {P:Program} (by_:kh P h=some (j,f,q)):TI P h j f q:=by
 grind [kh,TI]
noncomputable def rd (H:List B) (id:Nat):Option (List C):=
 match gN H id with
 |some (_,b)=>b.cells
 |none=>none
def pH (l:List C) (o sz:Nat):Option (List C):=
 let r:=(l.drop o).take sz
 if Nat.beq r.length sz then some r else none
def Dc (k:IntKind) (m n:Int):BinOp->Option C
 | .add=>some (.i k (k.wrap (m+n)))
 | .sub=>some (.i k (k.wrap (m-n)))
 | .mul=>some (.i k (k.wrap (m* n)))
 | .quo=>if n=0 then none else some (.i k (k.wrap (m.tdiv n)))
 | .rem=>if n=0 then none else some (.i k (m.tmod n))
 | .eql=>some (.b (decide (m=n)))
 | .neq=>some (.b (decide (¬m=n)))
 | .lss=>some (.b (decide (m<n)))
 | .leq=>some (.b (decide (m<=n)))
 | .gtr=>some (.b (decide (n<m)))
 | .geq=>some (.b (decide (n<=m)))
 |_=>none
def nN:Option TypeDesc->Bool
 |some (.slice _)=>true
 |_=>false
def pJ:Option TypeDesc->Bool
 |some (.pointer _)=>true
 |_=>false
def pK (P:Program) (t:TypeId) (u v:C) (b:Bool):Option C:=
 match u,v with
 | .ns,.ns=>if nN (P.underlying t) then some (.b b) else none
 | .sl _ _,.ns=>if nN (P.underlying t) then some (.b (!b)) else none
 | .np,.np=>if pJ (P.underlying t) then some (.b b) else none
 | .p _ _,.np=>if pJ (P.underlying t) then some (.b (!b)) else none
 |_,_=>none
def Dd (P:Program) (op:BinOp) (t:TypeId) (u v:C):Option C:=
 match u,v with
 | .i k m,.i k' n=>if k=k' then Dc k m n op else none
 |u,v=>match op with
  | .eql=>pK P t u v true
  | .neq=>pK P t u v false
  |_=>none
def Y.cells:Y->List C
 | .c x=>[x]
 | .a l=>l
def wj (cs:List C):Nat->List C->List C
 |_,[]=>cs
 |o,c::r=>wj (cs.set o c) (o+1) r
def rN (place:Nat->Option (Nat×Nat)):List C->List (Nat×Y)->Option (List C)
 |cs,[]=>some cs
 |cs,(i,v)::r=>match place i with
  |none=>none
  |some (off,size)=>if v.cells.length≠size||off+v.cells.length>cs.length then none else rN place (wj cs off v.cells) r
def ug (P:Program):List Field->Option (List (Nat×Nat))
 |[]=>some []
 |f::r=>match kh P f.type,ug P r with
  |some (_,sz,_),some l=>some ((f.offset,sz)::l)
  |_,_=>none
noncomputable def lh (E:XE):List (Nat×Operand)->Option (List (Nat×Y))
 |[]=>some []
 |(i,x)::r=>match da E x,lh E r with
  |some (.y v),some l=>some ((i,v)::l)
  |_,_=>none
noncomputable def rO (E:XE) (c a b:Operand):Option X:=match da E c with
 |some (.y (.c (.b true)))=>da E a
 |some (.y (.c (.b false)))=>da E b
 |_=>none
noncomputable def wl (E:XE) (x:Operand):Option X:=match da E x with
 |some (.y (.c (.p id o)))=>some (.y (.c (.p id o)))
 |_=>none
noncomputable def wm (P:Program) (E:XE) (t:TypeId) (x:Operand) (j:Nat):Option X:=match da E x,P.underlying t with
 |some (.y (.c (.p id o))),some (.struct fs)=>match fs[j]? with
  |some f=>match kh P f.type with
   |some (_,sz,_)=>if sz=0 then none else some (.y (.c (.p id (o+f.offset))))
   |none=>none
  |none=>none
 |_,_=>none
noncomputable def rP (P:Program) (E:XE) (H:List B) (t:TypeId) (x:Operand):Option X:=match da E x,P.underlying t,kh P t with
 |some (.y (.c (.p id o))),some D,some (_,sz,_)=>match rd H id with
  |some l=>if cW D then (pH l o sz).map λr=> .y (.a r) else (l[o]?).map λc=> .y (.c c)
  |none=>none
 |_,_,_=>none
noncomputable def wo (P:Program) (E:XE) (op:BinOp) (t:TypeId) (x y:Operand):Option X:=match da E x,da E y with
 |some (.y (.c u)),some (.y (.c v))=>(Dd P op t u v).map λc=> .y (.c c)
 |_,_=>none
noncomputable def wq (E:XE) (op:UnOp) (x:Operand):Option X:=match op with
 | .not=>match da E x with
  |some (.y (.c (.b b)))=>some (.y (.c (.b (!b))))
  |_=>none
 |_=>none
noncomputable def rQ (P:Program) (E:XE) (s d:TypeId) (x:Operand):Option X:=match P.underlying s,P.underlying d,da E x with
 |some _,some (.int k'),some (.y (.c (.i k n)))=>some (.y (.c (.i k' (k'.wrap n))))
 |_,_,_=>none
noncomputable def wu (E:XE) (x:Operand) (j:Nat):Option X:=match da E x with
 |some (.t l)=>(l[j]?).map .y
 |_=>none
noncomputable def wv (P:Program) (E:XE) (t:TypeId) (x y:Operand):Option X:=match da E x,da E y,P.underlying t with
 |some (.y (.c (.sl id n))),some (.y (.c (.i _ i))),some (.slice e)=>match kh P e with
  |some (_,sz,_)=>if 0<=i/\i<(n:Int) then some (.y (.c (.p id (0+i.toNat* sz)))) else none
  |none=>none
 |some (.y (.c (.p id o))),some (.y (.c (.i _ i))),some (.array q e)=>match kh P e with
  |some (_,sz,_)=>if 0<=i/\i<(q:Int) then some (.y (.c (.p id (o+i.toNat* sz)))) else none
  |none=>none
 |_,_,_=>none
noncomputable def MD (P:Program) (E:XE) (t:TypeId) (x y:Operand):Option X:=match da E x,da E y,P.underlying t with
 |some (.y (.a cs)),some (.y (.c (.i _ i))),some (.array q e)=>match kh P e,P.underlying e with
  |some (_,sz,_),some D=>if 0<=i/\i<(q:Int) then (if cW D then some (.y (.a ((cs.drop (i.toNat* sz)).take sz))) else (cs[i.toNat* sz]?).map λc=> .y (.c c)) else none
  |_,_=>none
 |_,_,_=>none
noncomputable def ww (P:Program) (E:XE) (t:TypeId) (ps:Array (Nat×Operand)):Option X:=match P.underlying t,kh P t,lh E ps.toList with
 |some (.struct fs),some (ze,_,_),some vs=>match iG ze.cells.toList,ug P fs.toList with
  |some z0,some pl=>(rN (λi=>pl[i]?) z0 vs).map λr=> .y (.a r)
  |_,_=>none
 |_,_,_=>none
noncomputable def wx (P:Program) (E:XE) (x:Operand) (t:TypeId):Option X:=match da E x,nN (P.underlying t) with
 |some (.y (.c .ns)),true=>some (.y (.c (.i .i64 0)))
 |some (.y (.c (.sl _ n))),true=>some (.y (.c (.i .i64 n)))
 |_,_=>none
noncomputable def wy (E:XE) (x y:Operand):Option X:=match da E x,da E y with
 |some (.y (.c (.i k m))),some (.y (.c (.i k' n)))=>if k=k' then some (.y (.c (.i k (max m n)))) else none
 |_,_=>none
noncomputable def wz (E:XE) (x y:Operand):Option X:=match da E x,da E y with
 |some (.y (.c (.i k m))),some (.y (.c (.i k' n)))=>if k=k' then some (.y (.c (.i k (min m n)))) else none
 |_,_=>none
noncomputable def xB (P:Program) (E:XE) (b:Builtin) (args:List Operand) (ts:List TypeId):Option X:=match b with
 | .len=>match args,ts with
  |[x],[t]=>wx P E x t
  |_,_=>none
 | .max=>match args with
  |[x,y]=>wy E x y
  |_=>none
 | .min=>match args with
  |[x,y]=>wz E x y
  |_=>none
 |_=>none
noncomputable def rR (P:Program) (E:XE) (c:Call):Option X:=match c.callee with
 | .builtin b=>xB P E b c.args.toList c.argTypes.toList
 |_=>none
noncomputable def lD (P:Program) (E:XE) (H:List B) (op:Op):Option X:=match op with
 | .move x=>da E x
 | .assign x=>da E x
 | .pick c a b=>rO E c a b
 | .nilCheck x=>wl E x
 | .fieldAddr t x j=>wm P E t x j
 | .load t x=>rP P E H t x
 | .binOp op t x y _=>wo P E op t x y
 | .unOp op _ x=>wq E op x
 | .convert s d x=>rQ P E s d x
 | .extract x j=>wu E x j
 | .indexAddr t x y=>wv P E t x y
 | .index t x y=>MD P E t x y
 | .build t ps=>ww P E t ps
 | .call c=>rR P E c
 |_=>none
section
variable {P:Program} {N:NN} {E:XE} {H:List B} {z:Z} {I:aV} {w0:World} {dst:Option Nat} {ty:TypeId} {pos:String} {af:Array Edge} {g:Option (Nat×Bool)}
theorem De {l:List C} {c:C} (h:rd H f=some l) (a:l[q]?=some c) (w:World) (b:Hp I w0 (Hd z H) w):w.cell? ⟨z.r f,q,none⟩=some (c.den z):=by
 grind [rd,Xa]
theorem ME {l r:List C} (h:pH l f q=some r):r.length=q/\ ∀j c,r[j]?=some c->l[f+j]?=some c:=by
 grind [pH,Nat.eq_of_beq_eq_true]
theorem zM (h:nN T=true): ∃e,T=some (.slice e):=by
 unfold nN at h;grind
theorem MF (h:pJ T=true): ∃e,T=some (.pointer e):=by
 unfold pJ at h;grind
theorem MJ {op:BinOp} {b:Bool} (d:op= .eql/\b=true\/op= .neq/\b=false) {t2:TypeId} {y:Operand} {u v c:C} (S:pK P h u v b=some c) (f:ev (Ed z E) F=some (u.den z)) (i:ev (Ed z E) y=some (v.den z)):
 Step P N (Ed z E) o ⟨dst,.binOp op h F y t2,ty,pos,af,g⟩ (c.den z):=by
 unfold pK at S;split at S<;>(try split at S)<;>cases S
 all_goals rename_i j
 ·obtain⟨e,a⟩:=zM j;rcases d with ⟨rfl,rfl⟩|⟨rfl,rfl⟩
  ·exact G4 a f i
  ·exact R5 a f i
 ·obtain⟨e,a⟩:=zM j;rcases d with ⟨rfl,rfl⟩|⟨rfl,rfl⟩
  ·exact G4 a f i
  ·exact R5 a f i
 ·obtain⟨e,a⟩:=MF j;rcases d with ⟨rfl,rfl⟩|⟨rfl,rfl⟩
  ·exact J2 a f i
  ·exact M1 a f i
 ·obtain⟨e,a⟩:=MF j;rcases d with ⟨rfl,rfl⟩|⟨rfl,rfl⟩
  ·exact J2 a f i
  ·exact M1 a f i
theorem Xc {op:BinOp} {k:IntKind} {m n:Int} {c:C} (S:Dc k m n op=some c) {t2:TypeId} {y:Operand} (a:ev U F=some (.int k m)) (b:ev U y=some (.int k n)):
 Step P N U o ⟨dst,.binOp op h F y t2,ty,pos,af,g⟩ (c.den z):=by
 cases op<;>simp only[Dc] at S<;>first
  |contradiction
  |(obtain rfl:=qY S;first|exact D6 a b rfl|exact F7 a b rfl|exact Q7 a b rfl|exact G9 a b|exact K0 a b|exact I7 a b|exact L0 a b|exact I8 a b|exact N7 a b)
  |(split at S;(· cases S);rename_i d;obtain rfl:=qY S;first|exact L7 a b d rfl|exact D0 a b d z6)
theorem Xd {op:BinOp} {t2:TypeId} {y:Operand} {u v c:C} (S:Dd P op h u v=some c) (a:ev (Ed z E) F=some (u.den z)) (b:ev (Ed z E) y=some (v.den z)):
 Step P N (Ed z E) o ⟨dst,.binOp op h F y t2,ty,pos,af,g⟩ (c.den z):=by
 unfold Dd at S;split at S
 ·split at S
  ·rename_i d;subst d;exact Xc S a b
  ·cases S
 ·split at S
  ·exact MJ (.inl zr) S a b
  ·exact MJ (.inr zr) S a b
  ·cases S
theorem Xe {fs:Array Field} {by_:Field} (c:P.underlying h=some (.struct fs)) (d:fs[f]?=some by_) (e:TI P by_.type j q O) (g:q≠0) (b o:Nat) (w:World):
 (Instr.fieldAt h (.pointer (some ⟨b,o,none⟩)) f).run P w= .ok (.pointer (some ⟨b,o+by_.offset,none⟩)) w:=by
 simp only[Instr.fieldAt,Sem.run_bind,run_underlying c,Result.andThen_ok,d,Instr.sureAddr,Sem.run_pure,fieldPlace,e.sizeOf,g,if_false]
 grind [Addr.add]
theorem Xf {D:TypeDesc} (g:P.underlying h=some D) (i:TI P h j f q) (cs:List C) (o:Nat) {y:Y}
 (d:(if cW D=true then some (Y.a ((cs.drop o).take f)) else (cs[o]?).map .c)=some y) (w:World):(part h (cs.map (C.den z)).toArray o).run P w= .ok (y.den z) w:=by
 have b:(isAgg h).run P w= .ok (cW D) w:=by
  simp only[isAgg,Sem.run_bind,run_underlying g,Result.andThen_ok];cases D<;>rfl
 simp only[part,Sem.run_bind,b,Result.andThen_ok];split at d
 ·rename_i by_;obtain rfl:=qY d;simp only[by_,if_true,Sem.run_bind,i.sizeOf,Result.andThen_ok,Sem.run_pure,Y.den];simp_all
 ·rename_i by_;simp only[Option.map_eq_some_iff] at d;obtain⟨c,ze,rfl⟩:=d;simp_all[Y.den]
theorem Xg {e:TypeId} {D:TypeDesc} (by_:P.underlying h=some (.array f e)) (g:P.underlying e=some D) (d:TI P e j q O) (cs:List C) {k:IntKind} {i:Int} (h0:0<=i/\i<(f:Int)) {y:Y}
 (b:(if cW D=true then some (Y.a ((cs.drop (i.toNat* q)).take q)) else (cs[i.toNat* q]?).map .c)=some y) (w:World):(Instr.index h (.agg (cs.map (C.den z)).toArray) (.int k i)).run P w= .ok (y.den z) w:=by
 simp only[Instr.index,asIntOf,Sem.run_bind,Sem.run_pure,Result.andThen_ok,run_underlying by_,h0,and_self,if_true,d.sizeOf,Xf g d cs _ b]
theorem zN (y:Y):(y.den z).cells=(y.cells.map (C.den z)).toArray:=by
 cases y with
 |c x=>cases x<;>rfl
 |a l=>rfl
theorem MK: ∀(l cs:List C) (o j:Nat),((l.map (C.den z)).zipIdx j).foldl (λcs p=>cs.setIfInBounds (o+p.2) p.1) (cs.map (C.den z)).toArray=((wj cs (o+j) l).map (C.den z)).toArray
 |[],cs,o,j=>by simp[wj]
 |c::r,cs,o,j=>by
  have a:=MK r (cs.set (o+j) c) o (j+1)
  grind [List.zipIdx_cons,wj,List.map_set]
theorem Df {a:Nat->Option (Nat×Nat)}: ∀ {vs:List (Nat×Y)} {cs r:List C},rN a cs vs=some r->Instr.fill a (cs.map (C.den z)).toArray (vs.map λp=>(p.1,p.2.den z))=some (r.map (C.den z)).toArray
 |[],cs,r,h=>by simp only[rN,qZ] at h;subst h;rfl
 |(i,v)::vs,cs,r,h=>by
  simp only[rN] at h;simp only[List.map_cons,Instr.fill];cases c:a i with
  |none=>grind
  |some q=>
   obtain⟨off,size⟩:=q;simp only[c] at h ⊢;rw[zN];split at h
   ·cases h
   ·rename_i d;have b: ¬(decide ((List.map (C.den z) v.cells).toArray.size≠size)||decide (off+(List.map (C.den z) v.cells).toArray.size>(List.map (C.den z) cs).toArray.size))=true:=zg
    rw[if_neg b];have:=MK (z:=z) v.cells cs off 0;rw[Nat.add_zero] at this;rw[<-Array.foldl_toList,Array.toList_zipIdx];simp only at this ⊢;rw[this];exact Df h
theorem ML: ∀ {fs:List Field} {a:List (Nat×Nat)},ug P fs=some a-> ∀w,(fs.mapM λ(f:Field)=>do pure (f.offset,<-sizeOf f.type)).run P w= .ok a w
 |[],a,h,w=>by simp_all[ug]
 |f::r,a,h,w=>by
  simp only[ug] at h;split at h
  ·rename_i q d by_ l b c;obtain rfl:=qY h;simp only[List.mapM_cons,Sem.run_bind,(lC b).sizeOf,Result.andThen_ok,Sem.run_pure,ML c w]
  grind
theorem Xh {fs:Array Field} {b r:List C} {a:List (Nat×Nat)} {vs:List (Nat×Y)} (d:P.underlying h=some (.struct fs)) (e:TI P h j f q) (g:iG j.cells.toList=some b) (ze:ug P fs.toList=some a)
 (c:rN (λ(i:Nat)=>a[i]?) b vs=some r) (w:World):(Instr.build h (vs.map λp=>(p.1,p.2.den z)).toArray).run P w= .ok (.agg (r.map (C.den z)).toArray) w:=by
 have k:(fs.mapM λ(by_:Field)=>do pure (by_.offset,<-sizeOf by_.type)).run P w= .ok a.toArray w:=by
  rw[Array.mapM_eq_mapM_toList,map_eq_pure_bind,Sem.run_bind,ML ze w];rfl
 have l:=Df (z:=z) c;rw[rM g,Array.toArray_toList] at l;simp only[Instr.build,Sem.run_bind,e.zeroValue,Result.andThen_ok,run_underlying d,k];simp_all
theorem Dh: ∀ {ps:List (Nat×Operand)} {vs:List (Nat×Y)},lh E ps=some vs-> ∀z,lL (Ed z E) ps=some (vs.map λp=>(p.1,p.2.den z))
 |[],vs,h,z=>by simp only[lh,qZ] at h;subst h;rfl
 |(i,x)::r,vs,h,z=>by
  simp only[lh] at h;split at h
  ·rename_i v l a b;obtain rfl:=qY h;simp only[lL,cU a,Dh b z,X.den,List.map_cons]
  grind
theorem MM {op:Op} {v:X} (h:lD P E H op=some v):Step P N (Ed z E) (Hp I w0 (Hd z H)) ⟨dst,op,ty,pos,af,g⟩ (v.den z):=by
 unfold lD at h;split at h
 ·exact P5 (cU h z)
 ·exact D3 (cU h z)
 ·unfold rO at h;split at h
  ·rename_i B;exact P6 (cU B z) (cU h z)
  ·rename_i B;exact P7 (cU B z) (cU h z)
  ·cases h
 ·unfold wl at h;split at h
  ·rename_i m;obtain rfl:=qY h;exact P8 (cU m z)
  ·cases h
 ·unfold wm at h;split at h
  ·rename_i id o fs m p;split at h
   ·rename_i f hf;split at h
    ·rename_i ze F by_ s;split at h
     ·cases h
     ·rename_i M;obtain rfl:=qY h;exact P9 (cU m z) (Xe p hf (lC s) M _ _)
    ·cases h
   ·cases h
  ·cases h
 ·unfold rP at h;split at h
  ·rename_i id o D ze F by_ m p s;split at h
   ·rename_i l hl;split at h
    ·rename_i L;simp only[Option.map_eq_some_iff] at h;obtain⟨r,O,rfl⟩:=h;obtain⟨h1,h2⟩:=ME O;refine J9 (r.map (C.den z)) p L (lC s) zg (cU m z) λw hw j v hj=>?_
     grind [De]
    ·rename_i L;simp only[Option.map_eq_some_iff] at h;obtain⟨c,B,rfl⟩:=h;exact N6 p zg (cU m z) λw hw=>De hl B w hw
   ·cases h
  ·cases h
 ·unfold wo at h;split at h
  ·rename_i u v' m A;simp only[Option.map_eq_some_iff] at h;obtain⟨c,B,rfl⟩:=h;exact Xd B (cU m z) (cU A z)
  ·cases h
 ·unfold wq at h;split at h
  ·split at h
   ·rename_i b m;obtain rfl:=qY h;exact Q8 (cU m z)
   ·cases h
  ·cases h
 ·unfold rQ at h;split at h
  ·rename_i hs hd m;obtain rfl:=qY h;exact B6 hs hd (cU m z) rfl
  ·cases h
 ·unfold wu at h;split at h
  ·rename_i l m;simp only[Option.map_eq_some_iff] at h;obtain⟨c,B,rfl⟩:=h;exact Q4 (cU m z) (by simp[B,X.den])
  ·cases h
 ·unfold wv at h;split at h
  ·rename_i id n k i e m A p;split at h
   ·rename_i ze F by_ s;split at h
    ·rename_i Q;obtain rfl:=qY h;exact Q6 p (lC s) (cU m z) (cU A z) z6 i.toNat zo zo
    ·cases h
   ·cases h
  ·rename_i id o k i q e m A p;split at h
   ·rename_i ze F by_ s;split at h
    ·rename_i Q;obtain rfl:=qY h;exact B5 p (lC s) (cU m z) (cU A z) i.toNat zo zo
    ·cases h
   ·cases h
  ·cases h
 ·unfold MD at h;split at h
  ·rename_i cs k i q e m A p;split at h
   ·rename_i ze F by_ D s L;split at h
    ·rename_i Q;have h': ∃y,v= .y y/\(if cW D=true then some (Y.a ((cs.drop (i.toNat* F)).take F)) else (cs[i.toNat* F]?).map .c)=some y:=by
      grind
     obtain⟨y,rfl,R⟩:=h';exact J8 (cU m z) (cU A z) (Xg p L (lC s) cs Q R)
    ·cases h
   ·cases h
  ·cases h
 ·rename_i t ps;unfold ww at h;split at h
  ·rename_i fs ze F by_ vs p s T;split at h
   ·rename_i z0 pl U V;simp only[Option.map_eq_some_iff] at h;obtain⟨r,O,rfl⟩:=h;have:=B3 (P:=P) (N:=N) (S:=Hp I w0 (Hd z H)) (d:=dst) (ty:=ty) (pos:=pos) (af:=af) (g:=g) (t:=t) (Dh T z) (Xh (z:=z) p (lC s) U V O);simp_all[X.den,Y.den]
   ·cases h
  ·cases h
 ·rename_i c;obtain⟨g6,G,ts⟩:=c;obtain⟨G⟩:=G;obtain⟨ts⟩:=ts;unfold rR at h;split at h
  ·rename_i b hb;simp only at hb;subst hb;unfold xB at h;split at h
   ·split at h
    ·rename_i x t J K;simp only at J K;subst J;subst K;unfold wx at h;split at h
     ·rename_i m p;obtain⟨e,W⟩:=zM p;obtain rfl:=qY h;exact N8 W (cU m z)
     ·rename_i m p;obtain⟨e,W⟩:=zM p;obtain rfl:=qY h;exact N8 W (cU m z)
     ·cases h
    ·cases h
   ·split at h
    ·rename_i x y J;simp only at J;subst J;unfold wy at h;split at h
     ·rename_i m A;split at h
      ·rename_i Z;subst Z;obtain rfl:=qY h;exact J0 (cU m z) (cU A z)
      ·cases h
     ·cases h
    ·cases h
   ·split at h
    ·rename_i x y J;simp only at J;subst J;unfold wz at h;split at h
     ·rename_i m A;split at h
      ·rename_i Z;subst Z;obtain rfl:=qY h;exact T4 (cU m z) (cU A z)
      ·cases h
     ·cases h
    ·cases h
   ·cases h
  ·cases h
 ·cases h
end
abbrev St:=XE×List B×Nat
abbrev lp:=FuncId->List X->List B->Nat->Option (X×List B×Nat)
section
variable {α:Type}
def fN (n:Nat) (k:Nat->α):α:=match n with
 |0=>k 0
 |m+1=>k (m+1)
theorem rS (n:Nat) (k:Nat->α):fN n k=k n:=by cases n<;>rfl
def fI (n:Int) (k:Int->α):α:=match n with
 | .ofNat m=>fN m λm=>k (.ofNat m)
 | .negSucc m=>fN m λm=>k (.negSucc m)
theorem Xm (n:Int) (k:Int->α):fI n k=k n:=by cases n<;>simp only[fI,rS]
def fC (c:C) (k:C->α):α:=match c with
 | .i q n=>fI n λn=>k (.i q n)
 | .b true=>k (.b true)
 | .b false=>k (.b false)
 | .p id o=>fN id λid=>fN o λo=>k (.p id o)
 | .sl id o=>fN id λid=>fN o λo=>k (.sl id o)
 | .m id=>fN id λid=>k (.m id)
 |c=>k c
theorem MN (c:C) (k:C->α):fC c k=k c:=by
 cases c with
 |b x=>cases x<;>rfl
 |_=>simp only[fC,Xm,rS]
noncomputable def fL (l:List C) (k:List C->α):α:=List.rec (motive:=λ_=>(List C->α)->α) (λk=>k []) (λc _ ih k=>fC c λc=>ih λr=>k (c::r)) l k
theorem zO: ∀(l:List C) (k:List C->α),fL l k=k l
 |[],k=>rfl
 |c::r,k=>by
  show fC c (λc=>fL r λr=>k (c::r))=_;simp only[MN,zO r]
noncomputable def Di (l:List (List C)) (k:List (List C)->α):α:=List.rec (motive:=λ_=>(List (List C)->α)->α) (λk=>k []) (λc _ ih k=>fL c λc=>ih λr=>k (c::r)) l k
theorem MO: ∀(l:List (List C)) (k:List (List C)->α),Di l k=k l
 |[],k=>rfl
 |c::r,k=>by
  show fL c (λc=>Di r λr=>k (c::r))=_;simp only[zO,MO r]
noncomputable def fY (v:Y) (k:Y->α):α:=match v with
 | .c x=>fC x λx=>k (.c x)
 | .a l=>fL l λl=>k (.a l)
theorem MP (v:Y) (k:Y->α):fY v k=k v:=by cases v<;>simp only[fY,MN,zO]
noncomputable def Dj (l:List Y) (k:List Y->α):α:=List.rec (motive:=λ_=>(List Y->α)->α) (λk=>k []) (λc _ ih k=>fY c λc=>ih λr=>k (c::r)) l k
theorem MQ: ∀(l:List Y) (k:List Y->α),Dj l k=k l
 |[],k=>rfl
 |c::r,k=>by
  show fY c (λc=>Dj r λr=>k (c::r))=_;simp only[MP,MQ r]
noncomputable def fX (v:X) (k:X->α):α:=match v with
 | .y v=>fY v λv=>k (.y v)
 | .t l=>Dj l λl=>k (.t l)
 | .u=>k .u
theorem MS (v:X) (k:X->α):fX v k=k v:=by cases v<;>simp only[fX,MP,MQ]
noncomputable def fE (l:XE) (k:XE->α):α:=List.rec (motive:=λ_=>(XE->α)->α) (λk=>k []) (λp _ ih k=>ih λr=>k (p::r)) l k
theorem pL: ∀(l:XE) (k:XE->α),fE l k=k l
 |[],k=>rfl
 |p::r,k=>by
  show fE r (λr=>k (p::r))=_;simp only[pL r]
noncomputable def fB (b:B) (k:B->α):α:=match b with
 | .blk id t l=>fN id λid=>fL l λl=>k (.blk id t l)
 | .row id e m ys=>fN id λid=>Di ys λys=>k (.row id e m ys)
theorem MU (b:B) (k:B->α):fB b k=k b:=by cases b<;>simp only[fB,rS,zO,MO]
noncomputable def fH (l:List B) (k:List B->α):α:=List.rec (motive:=λ_=>(List B->α)->α) (λk=>k []) (λp _ ih k=>ih λr=>k (p::r)) l k
theorem zP: ∀(l:List B) (k:List B->α),fH l k=k l
 |[],k=>rfl
 |p::r,k=>by
  show fH r (λr=>k (p::r))=_;simp only[zP r]
end
noncomputable def rT (v:X) (b:B) (H:List B) (k:Nat):Option (X×List B×Nat):=fB b λb=>fH (ins b H) λH=>some (v,H,k+1)
theorem mV (v:X) (b:B) (H:List B) (k:Nat):rT v b H k=some (v,ins b H,k+1):=by grind [rT,MU,zP]
noncomputable def pM (H:List B) (i:Nat) (b:B):Option (List B):=fB b λb=>fH (H.set i b) some
theorem MV (H:List B) (i:Nat) (b:B):pM H i b=some (H.set i b):=by grind [pM,MU,zP]
noncomputable def nP (E:XE) (d:Nat) (v:X) (H:List B) (k:Nat):Option St:=fX v λv=>fN k λk=>some ((d,v)::E,H,k)
theorem xC (E:XE) (d:Nat) (v:X) (H:List B) (k:Nat):nP E d v H k=some ((d,v)::E,H,k):=by grind [nP,MS,rS]
def ji (m:Nat):Nat->List C->List (List C)
 |0,_=>[]
 |n+1,l=>l.take (m+1)::ji m n (l.drop (m+1))
noncomputable def nQ (E:XE):List Operand->Option (List X)
 |[]=>some []
 |x::r=>match da E x,nQ E r with
  |some v,some l=>some (v::l)
  |_,_=>none
abbrev jJ:=Option (X×List B×Nat)
noncomputable def ki (P:Program) (H:List B) (k:Nat) (t:TypeId):jJ:=match kh P t with
 |some (ze,_,_)=>match iG ze.cells.toList with
  |some l=>if ia k (k+1) H then rT (.y (.c (.p k 0))) (.blk k t l) H k else none
  |none=>none
 |none=>none
noncomputable def sx (E:XE) (H:List B) (k:Nat) (t:TypeId) (x:Operand):jJ:=match da E x with
 |some (.y v)=>if ia k (k+1) H&&v.ok k (k+1) then rT (.y (.c (.p k 0))) (.blk k t v.cells) H k else none
 |_=>none
noncomputable def nR (P:Program) (E:XE) (H:List B) (k:Nat) (t:TypeId) (x y:Operand):jJ:=match P.underlying t,da E x,da E y with
 |some (.slice e),some (.y (.c (.i _ n))),some (.y (.c (.i _ c)))=>match kh P e with
  |some (ze,m+1,by_)=>match iG ze.cells.toList with
   |some l=>if ia k (k+1) H&&Nat.beq l.length (m+1)&&decide (0<=n/\n<=c/\c<=1000000/\by_<=1000000) then rT (.y (.c (.sl k n.toNat))) (.row k e m (List.replicate n.toNat l)) H k else none
   |none=>none
  |_=>none
 |_,_,_=>none
noncomputable def Dk (P:Program) (E:XE) (H:List B) (k:Nat) (t:TypeId) (n:Nat) (ps:Array (Nat×Operand)):jJ:=match P.underlying t,lh E ps.toList with
 |some (.slice e),some vs=>match kh P e with
  |some (ze,m+1,_)=>match iG ze.cells.toList with
   |some l=>match rN (λi=>some (i* (m+1),m+1)) (List.replicate n l).flatten vs with
    |some r=>if ia k (k+1) H&&Nat.beq l.length (m+1)&&decide (n<=1000/\m<=1000)&&(ji m n r).all (λl=>Nat.beq l.length (m+1))&&decide ((ji m n r).flatten=r)&&decide ((ji m n r).length=n)&&r.all (C.ok k (k+1)) then rT (.y (.c (.sl k n))) (.row k e m (ji m n r)) H k else none
    |none=>none
   |none=>none
  |_=>none
 |_,_=>none
noncomputable def sy (P:Program) (E:XE) (H:List B) (k:Nat) (t:TypeId) (r:Option Operand):jJ:=match r with
 |none=>if ia k (k+1) H then some (.y (.c (.m k)),H,k+1) else none
 |some x=>match P.underlying t,da E x with
  |some (.map _ _),some (.y (.c (.i _ _)))=>if ia k (k+1) H then some (.y (.c (.m k)),H,k+1) else none
  |_,_=>none
noncomputable def tC (P:Program) (E:XE) (H:List B) (k:Nat) (x y:Operand) (t t':TypeId):jJ:=if t=t' then (match P.underlying t with
 |some (.slice e)=>match kh P e with
  |some (ze,m+1,by_)=>match da E x,da E y with
   |some (.y (.c .ns)),some (.y (.c .ns))=>some (.y (.c .ns),H,k)
   |some (.y (.c .ns)),some (.y (.c (.sl id2 n2)))=>if Nat.beq n2 0 then some (.y (.c .ns),H,k) else (match gN H id2 with
    |some (_,.row _ e2 m2 ys2)=>if ia k (k+1) H&&Nat.beq e2 e&&Nat.beq m2 m&&Nat.beq ys2.length n2&&decide (n2* by_<=1000000000)&&decide (n2<=1000000)&&Nat.beq ze.cells.size (m+1) then rT (.y (.c (.sl k n2))) (.row k e m ys2) H k else none
    |_=>none)
   |some (.y (.c (.sl id n))),some (.y (.c (.sl id2 n2)))=>match gN H id with
    |some (i,.row _ e1 m1 ys)=>if Nat.beq e1 e&&Nat.beq m1 m&&Nat.beq ys.length n then
     (if Nat.beq n2 0 then some (.y (.c (.sl id n)),H,k) else (match gN H id2 with
     |some (_,.row _ e2 m2 ys2)=>if ia k (k+1) H&&Nat.beq e2 e&&Nat.beq m2 m&&Nat.beq ys2.length n2&&decide ((n+n2)* by_<=1000000000)&&decide (n+n2<=1000000)&&Nat.beq ze.cells.size (m+1) then rT (.y (.c (.sl k (n+n2)))) (.row k e m (ys++ys2)) (H.eraseIdx i) k else none
     |_=>none)) else none
    |_=>none
   |_,_=>none
  |_=>none
 |_=>none) else none
noncomputable def Dl (P:Program) (callf:lp) (E:XE) (H:List B) (k:Nat) (f:FuncId) (args:List Operand):jJ:=match nQ E args with
 |some vs=>match P.funcs[f]? with
  |some fn=>if fn.body.isSome&&!(fn.name== "runtime.NumGoroutine") then callf f vs H k else none
  |none=>none
 |none=>none
noncomputable def nS (P:Program) (callf:lp) (E:XE) (H:List B) (k:Nat) (c:Call):jJ:=match c.callee with
 | .builtin .append=>match c.args.toList,c.argTypes.toList with
  |[x,y],[t,t']=>tC P E H k x y t t'
  |_,_=>none
 | .value (.func f)=>Dl P callf E H k f c.args.toList
 |_=>none
noncomputable def jk (P:Program) (callf:lp) (E:XE) (H:List B) (k:Nat) (op:Op):jJ:=match op with
 | .alloc t=>ki P H k t
 | .box t x=>sx E H k t x
 | .makeSlice t x y=>nR P E H k t x y
 | .buildSlice t n ps=>Dk P E H k t n ps
 | .makeMap t r=>sy P E H k t r
 | .call c=>nS P callf E H k c
 |_=>none
noncomputable def nT (P:Program) (E:XE) (H:List B):Op->Option (List B)
 | .store t x y=>match da E x,da E y,kh P t with
  |some (.y (.c (.p id o))),some (.y v),some (_,sz,_)=>if Nat.beq v.cells.length sz then (match gN H id with
   |some (i,.blk id t l)=>if Nat.ble (o+sz) l.length then pM H i (.blk id t (l.take o++v.cells++l.drop (o+sz))) else none
   |some (i,.row id e m ys)=>match ys[o/(m+1)]? with
    |some l=>if Nat.beq l.length (m+1)&&Nat.ble (o%(m+1)+sz) (m+1) then pM H i (.row id e m (ys.set (o/(m+1)) (l.take (o%(m+1))++v.cells++l.drop (o%(m+1)+sz)))) else none
    |none=>none
   |none=>none) else none
  |_,_,_=>none
 |_=>none
section
variable {P:Program} {N:NN} {Q:Exit->Act->World->Prop} {ops:Array Oper} {E:XE} {H H':List B} {I:aV} {w0:World} {k k' d:Nat} {ty:TypeId} {pos:String} {af:Array Edge} {g:Option (Nat×Bool)} {KK:Act->World->Prop} {callf:lp}
def Z.add (z:Z) (k nb c:Nat):Z:=⟨λi=>if i=k then nb else z.r i,λi=>if i=k then c else z.c i⟩
theorem Z.add_ext (z:Z) (k nb c:Nat):Z.ext k (k+1) z (z.add k nb c):=λid a=>by
 grind [rJ,Nat.blt_eq,Nat.ble_eq,Z.add]
theorem Z.add_r (z:Z) (k nb c:Nat):(z.add k nb c).r k=nb:=by simp[Z.add]
theorem Z.add_c (z:Z) (k nb c:Nat):(z.add k nb c).c k=c:=by simp[Z.add]
def tD (P:Program) (callf:lp):Prop:= ∀f vs H k v H' k',callf f vs H k=some (v,H',k')->k<=k'/\ ∀z w,Fx P f (vs.map (X.den z)) w (Hd z H) no (λu L=> ∃z',Z.ext k k' z z'/\u=v.den z'/\L=Hd z' H')
theorem MW: ∀ {xs:List Operand} {vs:List X},nQ E xs=some vs-> ∀z,fp (Ed z E) xs=some (vs.map (X.den z))
 |[],vs,h,z=>by simp only[nQ,qZ] at h;subst h;rfl
 |x::r,vs,h,z=>by
  simp only[nQ] at h;split at h
  ·rename_i v l a b;obtain rfl:=qY h;simp only[fp,cU a z,MW b z,List.map_cons]
  grind
theorem Xn {l:List C} (a:l.length=f+1) (z:Z) (n:Nat):((Array.range (n* (f+1))).map ((l.map (C.den z)).toArray[· %(l.map (C.den z)).toArray.size]!))=(((List.replicate n l).flatten).map (C.den z)).toArray:=by
 have b:=Aw (K:=cr f) (Y:=(l.map (C.den z)).toArray) (p:=n) (c:=n) (y:=l.map (C.den z)) (by rw[zH z a]) (qU _);have d:=zK z (m:=f) (ys:=List.replicate n l) (by simp[a]);rw[List.map_replicate] at d;rw[d] at b;have e:(madeCells (l.map (C.den z)).toArray (n* (f+1))).toList=(List.replicate n l).flatten.map (C.den z):=by
  rw[<-b];exact(List.take_of_length_le (by rw[Array.length_toList,size_madeCells];exact qU _)).symm
 grind [madeCells]
theorem Xo {e:TypeId} {l r:List C} {vs:List (Nat×Y)} (g:P.underlying h=some (.slice e)) (by_:TI P e j (q+1) O) (n:iG j.cells.toList=some l) (m:l.length=q+1) (k:f<=1000) (s:q<=1000)
 (ze:rN (λi=>some (i* (q+1),q+1)) (List.replicate f l).flatten vs=some r) (z:Z) (w:World):
 (Instr.buildSlice h f (vs.map λp=>(p.1,p.2.den z)).toArray).run P w= .ok (.slice (some ⟨w.heap.size,0,none⟩) f f) (w.alloc (.cells (r.map (C.den z)).toArray e)):=by
 have a:=Df (z:=z) ze;have b:j.cells=(l.map (C.den z)).toArray:=by grind [rM]
 have c: ¬f* (q+1)>2^24:=by
  have:f* (q+1)<=1000* 1001:=Nat.mul_le_mul k zo;omega
 rw[<-Xn m z f] at a;simp only[Instr.buildSlice,Sem.run_bind,run_underlying g,Result.andThen_ok,by_.sizeOf,c,if_false,Sem.run_pure];by_cases o:f* (q+1)=0
 ·have d:f=0:=by
   grind
  subst d;simp only[Nat.zero_mul,if_true,Sem.run_pure,Result.andThen_ok] at a ⊢;simp_all[Array.range,newRow]
 ·simp only[o,if_false,Sem.run_bind,by_.zeroValue,Result.andThen_ok,Sem.run_pure,b,a,newRow,run_newObj_alloc]
theorem Xp {t:TypeId} {v:Value} {c:Nat} (b:P.underlying t=some (.slice h)) (i:TI P h j (f+1) q) {xs:List Value} (a:V.ownsRow 0 h (f+1) v O xs):
 (Builtin.append_ #[t,t] ty #[v,.slice D 0 c]).run P V= .ok v V:=by
 obtain⟨by_,n,l,o,p⟩:=i.get;rcases a.2 with ⟨rfl,rfl⟩|⟨g,cap,k,rfl,_,_,d,_⟩
 ·cases D<;>simp[Builtin.append_,run_underlying b,sizeOf,typeInfo,n,Builtin.lenOf,Builtin.firstCells,loadCells,loadCellsFrom]
 ·cases D<;>simp[Builtin.append_,run_underlying b,sizeOf,typeInfo,n,Builtin.lenOf,Builtin.firstCells,d,storeCells,loadCells,loadCellsFrom]
theorem xD {z:Z} {b:B} {v:X} (g:ia k (k+1) H=true) (hE:sr k (k+1) E=true) (e:v.den (z.add k f q)=j) (A:b.den (z.add k f q)=R)
 (h: ∀a,Z.ext k (k+1) z a->KV N KK (set (Ed a E) d (v.den a)) (Hp I w0 (Hd a (ins b H)))):KV N KK (set (Ed z E) d j) (Hp I w0 (Hd z H++[R])):=by
 subst e;subst A;have i:=Z.add_ext z k f q;grind [DW,B1,Hp.ins,zJ]
theorem MX {z:Z} {v:X} (e:ia k (k+1) H=true) (hE:sr k (k+1) E=true) (b:v.den (z.add k f q)=j)
 (A: ∀a,Z.ext k (k+1) z a->KV N KK (set (Ed a E) d (v.den a)) (Hp I w0 (Hd a H))):KV N KK (set (Ed z E) d j) (Hp I w0 (Hd z H++[R])):=by
 subst b;have g:=Z.add_ext z k f q
 grind [DW,zJ,B1,Hp.sub]
theorem tE {z:Z} {b:B} (h:H[f]?=some b):(Hd z H)[f]?=some (b.den z):=by simp[Hd,h]
theorem MY (z:Z): ∀(H:List B) (i:Nat),(Hd z H).eraseIdx i=Hd z (H.eraseIdx i)
 |[],_=>rfl
 |_::_,0=>rfl
 |b::H,i+1=>congrArg (b.den z:: ·) (MY z H i)
theorem Dm (z:Z): ∀(H:List B) (i:Nat) (b:B),(Hd z H).set i (b.den z)=Hd z (H.set i b)
 |[],_,_=>rfl
 |_::_,0,_=>rfl
 |c::H,i+1,b=>congrArg (c.den z:: ·) (Dm z H i b)
theorem Ma {lo a:Nat}: ∀ {H:List B} {i:Nat},ia lo a H=true->ia lo a (H.eraseIdx i)=true
 |[],_,h=>h
 |_::_,0,h=>by grind [wh,DX]
 |b::H,i+1,h=>by
  have h:=wh h;simp only[List.all_cons,qg] at h;have:=wh (Ma (H:=H) (i:=i) (DX h.2))
  grind [DX]
theorem Xq {a:aB} (h:M[f]?=some R):(M.set f a).Perm (M.eraseIdx f++[a]):=(oa a h).symm.trans (qf (l₁:=[a]))
theorem Hp.osForm {α:Type} {K:bO α} {ys:List α} (A:Hp I w0 M V) (a:M[f]?=some (OS h K D q ys)) (b:0<ys.length): ∃e,D=some ⟨e,0,none⟩:=by
 obtain⟨_,_,d,_⟩:=A.at a;rcases d with ⟨_,rfl,_⟩|⟨e,_,rfl,_⟩
 ·grind
 grind
theorem KV.pull {p:Nat->Prop} (c: ∀w,o w-> ∃q,p q) (h: ∀q,p q->KV N KK U o):KV N KK U o:=λa w d b=>let ⟨q,hq⟩:=c w b;h q hq a w d b
theorem Mb {z:Z} {a:Nat} {zs:List (List C)} {i:Nat} (j:M[i]?=some R) (o:(M.eraseIdx i)=Hd z H') (r:ia k (k+1) H'=true) (u:zs.all (λl=>l.all (C.ok k (k+1)))=true) (hE:sr k (k+1) E=true) (x:zs.length=O) (A:0<O)
 (s: ∀L,Z.ext k (k+1) z L->KV N KK (set (Ed L E) d ((X.y (.c (.sl k O))).den L)) (Hp I w0 (Hd L (ins (.row k f q zs) H')))):
 KV N KK (set (Ed z E) d (.slice D O a)) (Hp I w0 (M.set i (OS f (cr q) D a (zs.map λl=>l.map (C.den z))))):=by
 refine KV.pull (p:=λg=>D=some ⟨g,0,none⟩) (λw h=>Hp.osForm (f:=i) h (by rw[List.getElem?_set_self zg]) zg) λg t=>?_;subst t;refine B1 (λw h=>h.perm (Xq j)) ?_;rw[o];have F:=Z.add_ext z k g a;refine xD (f:=g) (q:=a) (v:= .y (.c (.sl k O))) (b:= .row k f q zs) r hE ?_ ?_ s
 ·grind [X.den,Y.den,C.den,Z.add_r,Z.add_c]
 grind [B.den,Z.add_r,Z.add_c,oU,C.den_ext]
theorem Mc {e m:Nat} {ys:List (List C)}: ∀ {H:List B} {i:Nat},ia f q H=true->H[i]?=some (.row O e m ys)->ys.all (λl=>l.all (C.ok f q))=true:=λh b=>by
 have:=List.all_eq_true.1 (wh h) _ (List.mem_of_getElem? b)
 grind [B.ok,MA]
theorem Xr (L:List aB):cQ (List.replicate L.length 0) L=some (L,[]):=by simpa using BC L []
end
section
variable {P:Program} {N:NN} {Q:Exit->Act->World->Prop} {ops:Array Oper} {E:XE} {H H':List B} {I:aV} {w0:World} {k k' d:Nat} {ty:TypeId} {pos:String} {af:Array Edge} {g:Option (Nat×Bool)} {KK:Act->World->Prop} {callf:lp} {z:Z}
theorem Dn {w:World} {by_ n i:Nat} {v:Value} {y:Operand} {c:Nat} (h:P.underlying f=some (.slice q)) (k:TI P q j (O+1) by_) (l:ev U F=some v) (x:ev U y=some (.slice D 0 c))
 (b: ∀w,o w-> ∃xs,w.ownsRow 0 q (O+1) v n xs) (p:dJ N ops ⟨some d,.call ⟨.builtin .append,#[F,y],#[f,f]⟩,ty,pos,af,g⟩ U) (ze:Nat.blt d N.n=true) (r:KV N KK (set U d v) o):
 OV P N ops Q ⟨some d,.call ⟨.builtin .append,#[F,y],#[f,f]⟩,ty,pos,af,g⟩ U o KK:=
 C2 p (λa w S s=>by
  obtain⟨xs,u⟩:=b w s;simp only[execOp,resolve,invoke,builtin,Sem.run_bind,Sem.run_pure,Result.andThen_ok,List.map_toArray,List.map_cons,List.map_nil,S.ev l,S.ev x,Xp h k u]) ze r
theorem Xv (a:tD P callf) {op:Op} {v:X} (h:jk P callf E H k op=some (v,H',k')):k<=k':=by
 unfold jk at h;split at h
 all_goals first|unfold ki at h|unfold sx at h|unfold nR at h|unfold Dk at h|unfold sy at h|unfold nS at h|skip
 all_goals repeat' split at h
 all_goals first|unfold tC at h|unfold Dl at h|skip
 all_goals repeat' split at h
 all_goals first
  |(simp only[mV,qZ,Prod.mk.injEq] at h;omega)
  |contradiction
  |exact(a _ _ _ _ _ _ _ h).1
theorem Xx (hc:tD P callf) {op:Op} {v:X} (h:jk P callf E H k op=some (v,H',k')) (hE:sr k k' E=true) (O:dJ N ops ⟨some d,op,ty,pos,af,g⟩ (Ed z E)) (J:Nat.blt d N.n=true)
 (M: ∀z',Z.ext k k' z z'->KV N KK (set (Ed z' E) d (v.den z')) (Hp I w0 (Hd z' H'))):OV P N ops Q ⟨some d,op,ty,pos,af,g⟩ (Ed z E) (Hp I w0 (Hd z H)) KK:=by
 unfold jk at h;split at h
 ·
  unfold ki at h;split at h
  ·rename_i ze sz by_ hi;split at h
   ·rename_i l hl;split at h
    ·rename_i F;simp only[mV,qZ,Prod.mk.injEq] at h;obtain⟨rfl,rfl,rfl⟩:=h;refine N9 (l.map (C.den z)).toArray (lC hi) (by grind [rM]) O J λnb=>xD (f:=nb) (q:=0) F hE (by grind [X.den,Y.den,C.den,Z.add_r]) ?_ M
     grind [B.den,Z.add_r,rM]
    ·cases h
   ·cases h
  ·cases h
 ·
  unfold sx at h;split at h
  ·rename_i v' D;split at h
   ·rename_i o;simp only[qg] at o;simp only[mV,qZ,Prod.mk.injEq] at h;obtain⟨rfl,rfl,rfl⟩:=h;refine H3 (v'.cells.map (C.den z)).toArray (cU D z) (zN _) O J λnb=>xD (f:=nb) (q:=0) o.1 hE (by grind [X.den,Y.den,C.den,Z.add_r]) ?_ M;have j8:=Z.add_ext z k nb 0;simp only[B.den,Z.add_r];have:v'.cells.map (C.den (z.add k nb 0))=v'.cells.map (C.den z):=by
     have h2:=o.2;cases v' with
     |c x=>simp only[Y.cells,List.map_cons,List.map_nil,C.den_ext j8 (c:=x) h2]
     |a l=>exact oU (λc hc=>C.den_ext j8 (c:=c) hc) ((rK (C.ok k (k+1)) l).symm.trans h2)
    grind
   ·cases h
  ·cases h
 ·
  unfold nR at h;split at h
  ·rename_i e k1 n k2 c R D W;split at h
   ·rename_i ze m by_ hi;split at h
    ·rename_i l hl;split at h
     ·rename_i o;simp only[qg,qj] at o;obtain⟨⟨F,G⟩,h0,h1,h2,h3⟩:=o;have S:=Nat.eq_of_beq_eq_true G;simp only[mV,qZ,Prod.mk.injEq] at h;obtain⟨rfl,rfl,rfl⟩:=h;have hb:by_* c.toNat<=1000000* 1000000:=Nat.mul_le_mul h3 zo;refine O0 (K:=cr m) n.toNat c.toNat (l.map (C.den z)) R (lC hi) (by grind [zH,rM]) (cU D z) (cU W z) zo zo zo zo zo O J λnb=>xD (f:=nb) (q:=c.toNat) F hE (by grind [X.den,Y.den,C.den,Z.add_r,Z.add_c]) ?_ M
      grind [B.den,Z.add_r,Z.add_c,List.map_replicate,rM]
     ·cases h
    ·cases h
   ·cases h
  ·cases h
 ·
  rename_i t n ps;unfold Dk at h;split at h
  ·rename_i e vs R j3;split at h
   ·rename_i ze m by_ hi;split at h
    ·rename_i l hl;split at h
     ·rename_i r hr;split at h
      ·rename_i o;simp only[qg,qj] at o;obtain⟨⟨⟨⟨⟨⟨F,G⟩,hn,hm⟩,n6⟩,n8⟩,n9⟩,n7⟩:=o;have S:=Nat.eq_of_beq_eq_true G;simp only[mV,qZ,Prod.mk.injEq] at h;obtain⟨rfl,rfl,rfl⟩:=h;have j9:=Xo R (lC hi) hl S hn hm hr z;have l4:((ji m n r).map λl=>l.map (C.den z)).length=n:=zg
       have key:=Q9 (P:=P) (N:=N) (Q:=Q) (ops:=ops) (E:=Ed z E) (d:=d) (ty:=ty) (pos:=pos) (af:=af) (g:=g) (KK:=KK) (I0:=I) (w0:=w0) (L:=Hd z H) (K:=cr m) (J:=t) (p:=n) (ps:=ps.toList) ((ji m n r).map λl=>l.map (C.den z)) (Dh j3 z) j9 (by rw[l4])
        (by grind [zK]) zo (by simp_all) J
       have e2:ps.toList.toArray=ps:=zm
       rw[e2] at key;refine key λnb=>?_;rw[l4];refine xD (f:=nb) (q:=n) (v:= .y (.c (.sl k n))) (b:= .row k e m (ji m n r)) F hE (by grind [X.den,Y.den,C.den,Z.add_r,Z.add_c]) ?_ M
       grind [Z.add_ext,B.den,Z.add_r,Z.add_c,oU,C.den_ext]
      ·cases h
     ·cases h
    ·cases h
   ·cases h
  ·cases h
 ·
  unfold sy at h;split at h
  ·split at h
   ·rename_i F;simp only[mV,qZ,Prod.mk.injEq] at h;obtain⟨rfl,rfl,rfl⟩:=h;exact R7 (κ:=Unit) (ν:=Unit) (λ_=> .nilFunc) (λ_=> .nilFunc) O J λnb=>MX (f:=nb) (q:=0) F hE (by grind [X.den,Y.den,C.den,Z.add_r]) M
   ·cases h
  ·split at h
   ·rename_i R D;split at h
    ·rename_i F;simp only[mV,qZ,Prod.mk.injEq] at h;obtain⟨rfl,rfl,rfl⟩:=h;exact M4 (κ:=Unit) (ν:=Unit) (λ_=> .nilFunc) (λ_=> .nilFunc) R (cU D z) O J λnb=>MX (f:=nb) (q:=0) F hE (by grind [X.den,Y.den,C.den,Z.add_r]) M
    ·cases h
   ·cases h
 ·rename_i c;obtain⟨p6,g9,ts⟩:=c;obtain⟨g9⟩:=g9;obtain⟨ts⟩:=ts;unfold nS at h;split at h
  ·
   rename_i p;simp only at p;subst p;split at h
   ·rename_i x y t t' ha l5;simp only at ha l5;subst ha;subst l5;unfold tC at h;split at h
    ·rename_i l7;subst l7;split at h
     ·rename_i e R;split at h
      ·rename_i ze m by_ hi;have T:=lC hi;split at h
       ·rename_i D W;simp only[mV,qZ,Prod.mk.injEq] at h;obtain⟨rfl,rfl,rfl⟩:=h;exact Dn (i:=0) (w:=w0) R T (cU D z) (cU W z) (n:=0) (λw V=>⟨[],by grind [X.den,Y.den,C.den,World.ownsRow]⟩) O J (M z (Z.ext.refl _ _ _))
       ·rename_i id2 n2 D W;split at h
        ·rename_i h0;have j4:=Nat.eq_of_beq_eq_true h0;subst j4;simp only[mV,qZ,Prod.mk.injEq] at h;obtain⟨rfl,rfl,rfl⟩:=h;exact Dn (i:=0) (w:=w0) R T (cU D z) (cU W z) (n:=0) (λw V=>⟨[],by grind [X.den,Y.den,C.den,World.ownsRow]⟩) O J (M z (Z.ext.refl _ _ _))
        ·rename_i h0;split at h
         ·rename_i j g6 e2 m2 ys2 j5;split at h
          ·rename_i o;simp only[qg,qj] at o;obtain⟨⟨⟨⟨⟨⟨F,he⟩,hm⟩,hn⟩,hb⟩,l8⟩,j6⟩:=o;obtain rfl:=Nat.eq_of_beq_eq_true he;obtain rfl:=Nat.eq_of_beq_eq_true hm;obtain rfl:=Nat.eq_of_beq_eq_true hn;have i6:0<ys2.length:=by
            grind
           simp only[mV,qZ,Prod.mk.injEq] at h;obtain⟨rfl,rfl,rfl⟩:=h;obtain⟨g7,s⟩:=sw j5;simp only[B.id] at s;subst s;have G:(Hd z H).length=H.length:=by simp[Hd]
           have U:(Hd z H++[OS e2 (cr m2) none 0 []])[H.length]?=some (OS e2 (cr m2) none 0 []):=zg
           have g8:(Hd z H++[OS e2 (cr m2) none 0 []])[j]?=some (OS e2 (cr m2) (some ⟨z.r g6,0,none⟩) (z.c g6) (ys2.map λl=>l.map (C.den z))):=by
            rw[qP zg];exact tE g7
           refine O1 (λw V=>V.nilOS (J:=e2) (K:=cr m2)) ?_;refine H8 (K:=cr m2) (ys:=[]) (zs:=ys2.map λ(l:List C)=>l.map (C.den z)) H.length R T (Nat.eq_of_beq_eq_true j6) (cU D z) (cU W z) z6 zm U (λw V=>V.os j g8) zg zg O J λA' c'=>?_;simp only[List.nil_append,qE];exact Mb (H':=H) U zg F (Mc F g7) hE z6 i6 M
          grind
         grind
       ·rename_i id n id2 n2 D W;split at h
        ·rename_i i g6 e1 m1 ys hf;obtain⟨j7,i7⟩:=sw hf;simp only[B.id] at i7;subst i7;split at h
         ·rename_i l6;simp only[qg] at l6;obtain⟨⟨l9,m5⟩,m6⟩:=l6;obtain rfl:=Nat.eq_of_beq_eq_true l9;obtain rfl:=Nat.eq_of_beq_eq_true m5;obtain rfl:=Nat.eq_of_beq_eq_true m6;split at h
          ·rename_i h0;have j4:=Nat.eq_of_beq_eq_true h0;subst j4;simp only[mV,qZ,Prod.mk.injEq] at h;obtain⟨rfl,rfl,rfl⟩:=h;refine Dn (i:=0) (w:=w0) R T (cU D z) (cU W z) (n:=ys.length) (λw V=>?_) O J (M z (Z.ext.refl _ _ _));obtain⟨ii,_,hA,_⟩:=V.at (tE j7);rcases hA with ⟨h1,_⟩|⟨q,m7,hq,hI,hb,p7,n3,n4,ht⟩
           ·cases h1
           ·refine⟨_,kG (cr m1) (ys.map λl=>l.map (C.den z)) |>.trans ?_,.inr ⟨q,z.c g6,m7,?_,qT _,hb,?_,n3,n4,?_⟩⟩
            ·simp[cr]
            ·grind [X.den,Y.den,C.den]
            ·grind
            grind [cr]
          ·rename_i h0;split at h
           ·rename_i j i8 e2 m2 ys2 j5;obtain⟨g7,s⟩:=sw j5;simp only[B.id] at s;subst s;split at h
            ·rename_i o;simp only[qg,qj] at o;obtain⟨⟨⟨⟨⟨⟨F,he⟩,hm⟩,hn⟩,hb⟩,l8⟩,j6⟩:=o;obtain rfl:=Nat.eq_of_beq_eq_true he;obtain rfl:=Nat.eq_of_beq_eq_true hm;obtain rfl:=Nat.eq_of_beq_eq_true hn;have i6:0<ys2.length:=by
              grind
             simp only[mV,qZ,Prod.mk.injEq] at h;obtain⟨rfl,rfl,rfl⟩:=h;refine H8 (K:=cr m2) (ys:=ys.map λ(l:List C)=>l.map (C.den z)) (zs:=ys2.map λ(l:List C)=>l.map (C.den z)) i R T (Nat.eq_of_beq_eq_true j6) (cU D z) (cU W z) zm zm (tE j7) (λw V=>V.os (A:=some ⟨z.r i8,0,none⟩) (c:=z.c i8) (e:=e2) j (tE g7))
              zg zg O J λA' c'=>?_
             rw[<-qN,qE,qD];refine Mb (H':=H.eraseIdx i) (tE j7) (MY z H i) (Ma F) ?_ hE (qD ..) zo M
             grind [Mc]
            grind
           grind
         grind
        grind
       grind
      ·cases h
     ·cases h
    ·cases h
   ·cases h
  ·
   rename_i f p;simp only at p;subst p;unfold Dl at h;split at h
   ·rename_i vs j3;split at h
    ·rename_i fn n5;split at h
     ·rename_i o;simp only[qg,Bool.not_eq_true'] at o;obtain⟨h1,h2⟩:=hc _ _ _ _ _ _ _ h;refine R0 (List.replicate (Hd z H).length 0) n5 o.1 o.2 (MW j3 z) (Xr _) (λw V=>h2 z w) (λ_ hb=>hb.elim) O J λu L hp=>?_;obtain⟨z',D,rfl,rfl⟩:=hp;have:=M z' D
      grind [DW]
     ·cases h
    ·cases h
   ·cases h
  ·cases h
 ·cases h
theorem Xy {op:Op} (h:nT P E H op=some H') (w:dJ N ops ⟨none,op,ty,pos,af,g⟩ (Ed z E)) (T:KV N KK (Ed z E) (Hp I w0 (Hd z H'))):OV P N ops Q ⟨none,op,ty,pos,af,g⟩ (Ed z E) (Hp I w0 (Hd z H)) KK:=by
 unfold nT at h;split at h
 ·split at h
  ·rename_i id o v ze f by_ x y D;split at h
   ·rename_i k;have n:=Nat.eq_of_beq_eq_true k;split at h
    ·rename_i i b t l p;obtain⟨c,a⟩:=sw p;simp only[B.id] at a;subst a;split at h
     ·rename_i q;have F:=qV q;rw[MV] at h;obtain rfl:=qY h;refine D5 i (v.cells.map (C.den z)) ((l.take o++v.cells++l.drop (o+f)).map (C.den z)).toArray (lC D) (cU x z) (cU y z) (tE c) (zN v) zg zg (λu U=>?_) zg w ?_
      ·grind [C.one]
      ·have:=Dm z H i (.blk b t (l.take o++v.cells++l.drop (o+f)))
       grind [B.den]
     grind
    ·rename_i i b e m G p;obtain⟨c,a⟩:=sw p;simp only[B.id] at a;subst a;split at h
     ·rename_i l M;split at h
      ·rename_i s;simp only[qg] at s;have O:=Nat.eq_of_beq_eq_true s.1;have R:=qV s.2;rw[MV] at h;obtain rfl:=qY h;have S:=(List.getElem?_eq_some_iff.1 M).1;have J:(l.take (o%(m+1))++v.cells++l.drop (o%(m+1)+f)).length=m+1:=zg
       have L:(G.map λl=>l.map (C.den z)).getD (o/(m+1)) (cr m).d=l.map (C.den z):=zg
       refine L1 (A:=some ⟨z.r b,0,none⟩) (K:=cr m) i (o/(m+1)) ((l.take (o%(m+1))++v.cells++l.drop (o%(m+1)+f)).map (C.den z)) (j:=o%(m+1)) (v.cells.map (C.den z)) (lC D) (cU x z) (cU y z) (tE c) ?_ (zN v) zg zg ?_ (by grind [cr]) w ?_
       ·grind [Nat.div_add_mod,of,cr]
       ·grind [zH,List.map_take,List.map_drop]
       ·have:=Dm z H i (.row b e m (G.set (o/(m+1)) (l.take (o%(m+1))++v.cells++l.drop (o%(m+1)+f))))
        grind [B.den,List.map_set]
      grind
     grind
    grind
   ·cases h
  ·cases h
 ·cases h
end
noncomputable def eu (ops:Array Oper) (E:XE):Option (Nat×Bool)->Option Bool
 |none=>some true
 |some (j,want)=>match (ops[j]?).bind (·.dst) with
  |some d=>match gD E d with
   |some (.y (.c (.b b)))=>some (b==want)
   |some .u=>some false
   |_=>none
  |none=>none
noncomputable def nU (P:Program) (n:Nat) (callf:lp) (ops:Array Oper) (E:XE) (H:List B) (k:Nat) (o:Oper):Option St:=
 match eu ops E o.guard with
 |some false=>match o.dst with
  |some d=>if Nat.blt d n then nP E d .u H k else none
  |none=>some (E,H,k)
 |some true=>match o.dst with
  |none=>match nT P E H o.op with
   |some H'=>some (E,H',k)
   |none=>none
  |some d=>if Nat.blt d n then (match lD P E H o.op with
   |some v=>nP E d v H k
   |none=>match jk P callf E H k o.op with
    |some (v,H',k')=>if sr k k' E then nP E d v H' k' else none
    |none=>none) else none
 |none=>none
noncomputable def nV (P:Program) (n:Nat) (callf:lp) (ops:Array Oper) (l:List Oper) (E:XE) (H:List B) (k:Nat):Option St:=
 List.rec (motive:=λ_=>XE->List B->Nat->Option St) (λE H k=>some (E,H,k)) (λo _ ih E H k=>match nU P n callf ops E H k o with
  |some (E',H',k')=>ih E' H' k'
  |none=>none) l E H k
def tF (p:Nat->Bool):Nat->Nat
 |0=>0
 |n+1=>if p n then tF p n|||2^n else tF p n
theorem zQ (p:Nat->Bool): ∀n j,(tF p n).testBit j=(decide (j<n)&&p j)
 |0,j=>by simp[tF]
 |n+1,j=>by
  have a:=zQ p n j
  grind [tF]
def kj (a m:Nat):Bool:=Nat.beq (Nat.land a m) a
theorem Md (h:kj f q=true) (b:f.testBit O=true):q.testBit O=true:=by
 have c:f&&&q=f:=Nat.eq_of_beq_eq_true h
 grind
theorem Xz (h: ∀j,f.testBit j=true->q.testBit j=true):kj f q=true:=by
 have b:f&&&q=f:=Nat.eq_of_testBit_eq λj=>by
  grind
 unfold kj;simp_all
def zV (ops:Array Oper) (i:Nat):Nat:=tF (λj=>match ops[i]? with
 |some o=>o.after.any λe=>Region.binds .any e&&Nat.beq e.on j
 |none=>false) ops.size
def bad (ops:Array Oper) (i:Nat):Nat:=tF (λj=>!(Nat.beq j i)&&(match ops[i]?,ops[j]? with
 |some oi,some oj=>!(oj.after.any (λe=>Region.binds .any e&&Nat.beq e.on i)||oi.apart ops oj)
 |_,_=>false)) ops.size
def Dp (ops:Array Oper):Bool:=ops.all λo=>o.after.all λe=>Nat.blt e.on ops.size
def iH (ops:Array Oper) (m:Nat):List Nat:=(List.range ops.size).filter λi=>!m.testBit i&&kj (zV ops i) m
theorem tG (n m i:Nat) (d:Bool):(bl n m).getD i d=if i<n then m.testBit i else d:=by
 simp only[bl,Array.getD_eq_getD_getElem?,List.getElem?_toArray,List.getElem?_map]
 grind
theorem Me (n m i:Nat):(bl n m).setIfInBounds i true=bl n (m|||2^i):=by
 grind [bl]
theorem xE {ops:Array Oper} (l:Dp ops=true) (m:Nat):Region.ready .any ops (bl ops.size m)=iH ops m:=by
 unfold Region.ready iH;refine List.filter_congr λi r=>?_;have a:i<ops.size:=zg
 rw[tG,if_pos a]
 congr 1
 have d:ops[i]?=some ops[i]:=zg
 rw[d];simp only[Option.map_some,Option.getD_some];have n:=Array.all_eq_true.1 l i a;rw[Bool.eq_iff_iff];constructor
 ·intro h;refine Xz λj c=>?_;rw[zV,zQ,d] at c;simp only[qg,qj] at c;obtain⟨e,f,g⟩:=Array.any_eq_true'.1 c.2;simp only[qg] at g;have o:=Array.all_eq_true_iff_forall_mem.1 h e f;have k:=Nat.eq_of_beq_eq_true g.2;rw[g.1,tG,k,if_pos c.1] at o
  grind
 ·intro h;refine Array.all_eq_true_iff_forall_mem.2 λe f=>?_;cases p:Region.binds .any e with
  |false=>rfl
  |true=>
   have b:e.on<ops.size:=by
    grind [Array.all_eq_true_iff_forall_mem,Nat.blt_eq]
   have q:(zV ops i).testBit e.on=true:=by
    rw[zV,zQ,d];simp only[qg,qj];exact⟨b,Array.any_eq_true'.2 ⟨e,f,by simp[p]⟩⟩
   rw[tG,if_pos b,Md h q];rfl
theorem Mf {ops:Array Oper} (l:ops[f]?=some L) (h:kj (bad ops f) q=true) (j:Nat) (a:Oper) (d:ops[j]?=some a) (g:j≠f) (b:(bl ops.size q).getD j true=false)
 (k: ∀e∈a.after,Region.binds .any e=true->e.on≠f):L.apart ops a=true:=by
 have c:=(Array.getElem?_eq_some_iff.1 d).1;rw[tG,if_pos c] at b
 grind [bad,zQ,Nat.beq_eq,Md]
noncomputable def quiet (P:Program) (n:Nat) (ops:Array Oper) (c:Nat) (listed:Nat) (E:XE) (H0:List B):List Nat->Option (Nat×XE)
 |[]=>none
 |i::r=>match ops[i]? with
  |some o=>match o.dst with
   |some d=>match eu ops E o.guard with
    |some true=>match lD P E H0 o.op with
     |some v=>if Nat.blt d n&&oe ops .any i 8 c&&kj (bad ops i) listed then fX v λv=>some (i,(d,v)::E) else quiet P n ops c listed E H0 r
     |none=>quiet P n ops c listed E H0 r
    |some false=>if Nat.blt d n&&oe ops .any i 8 c&&kj (bad ops i) listed then some (i,(d,.u)::E) else quiet P n ops c listed E H0 r
    |none=>quiet P n ops c listed E H0 r
   |none=>quiet P n ops c listed E H0 r
  |none=>none
def same:List (Option St)->Option St
 |[]=>none
 |[x]=>x
 |some a::r=>match same r with
  |some b=>if a.1=b.1/\a.2.1=b.2.1/\a.2.2=b.2.2 then some a else none
  |none=>none
 |none::_=>none
noncomputable def ef (P:Program) (n:Nat) (callf:lp) (W:Nat) (ops:Array Oper) (c:Nat) (H0:List B) (k0:Nat):Nat->Nat->XE->List B->Option St
 |0,m,E,H=>match iH ops m with
  |[]=>fE (nE E) λE=>some (E,H,k0+ops.size* W)
  |_=>none
 |fuel+1,m,E,H=>match iH ops m with
  |[]=>fE (nE E) λE=>some (E,H,k0+ops.size* W)
  |rs=>match (if m.testBit c then none else quiet P n ops c m E H0 rs) with
   |some (i,E')=>if rs.contains i&&!(Nat.beq c i) then fN (m|||2^i) λm=>ef P n callf W ops c H0 k0 fuel m E' H else none
   |none=>same (rs.map λi=>match ops[i]? with
    |some o=>match nU P n callf ops E H (k0+i* W) o with
     |some (E',H',k')=>if Nat.ble k' (k0+i* W+W)&&((m|||2^i).testBit c||eE H0 H') then fN (m|||2^i) λm=>ef P n callf W ops c H0 k0 fuel m E' H' else none
     |none=>none
    |none=>none)
def C.ids:C->List Nat
 | .p id _| .sl id _=>[id]
 |_=>[]
def Y.ids:Y->List Nat
 | .c x=>x.ids
 | .a l=>l.flatMap C.ids
def X.ids:X->List Nat
 | .y v=>v.ids
 | .t l=>l.flatMap Y.ids
 | .u=>[]
def YA (s:List Nat):B->List Nat
 | .blk id _ l=>if s.contains id then l.flatMap C.ids else []
 | .row id _ _ ys=>if s.contains id then ys.flatten.flatMap C.ids else []
noncomputable def seen (E:XE) (H:List B):List B:=
 let s1:=E.flatMap λp=>p.2.ids
 let s2:=H.flatMap (YA s1)
 H.filter λb=>match b with
  | .blk id _ _=>s1.contains id
  | .row id _ _ _=>s1.contains id||s2.contains id
inductive Out where
 |n|r
 |e (id:Nat)
def Out.to:Out->Exit
 | .n=> .normal
 | .r=> .ret
 | .e id=> .exit id
abbrev lQ:=Option (Out×St)
noncomputable def iter (f:XE->List B->Nat->lQ):Nat->XE->List B->Nat->lQ
 |0,_,_,_=>none
 |m+1,E,H,k=>match f E H k with
  |some (.n,E',H',k')=>fE (nE E') λE'=>iter f m E' H' k'
  |r=>r
noncomputable def xF (P:Program) (n:Nat) (callf:lp) (W:Nat) (ops:Array Oper) (draw:Bool) (E:XE) (H:List B) (k:Nat):lQ:=match draw with
 |false=>match nV P n callf ops ops.toList E H k with
  |some s=>some (.n,s)
  |none=>none
 |true=>fH (seen E H) λH0=>
  if Dp ops&&eE H0 H&&Region.noSelect ops&&sr k (k+ops.size* W) E&&ia k (k+ops.size* W) H&&ia k (k+ops.size* W) H0 then (match ef P n callf W ops (ops.size-1) H0 k ops.size 0 E H with
   |some s=>some (.n,s)
   |none=>none) else none
noncomputable def rU (P:Program) (n:Nat) (callf:lp) (W:Nat) (c:Code):XE->List B->Nat->lQ:=
 Code.rec (motive:=λ_=>XE->List B->Nat->lQ)
  (λE H k=>some (.n,E,H,k)) (λ_ ops draw=>xF P n callf W ops draw)
  (λ_ _ fa fb E H k=>match fa E H k with
   |some (.n,E',H',k')=>fb E' H' k'
   |r=>r)
  (λc _ _ fa fb E H k=>match da E c with
   |some (.y (.c (.b true)))=>fa E H k
   |some (.y (.c (.b false)))=>fb E H k
   |_=>none)
  (λid _ fa E H k=>match fa E H k with
   |some (.e i,E',H',k')=>if Nat.beq i id then some (.n,E',H',k') else some (.e i,E',H',k')
   |r=>r)
  (λ_ fa E H k=>iter fa 200 E H k) (λ_ _ _ _ _ _ _ _ _=>none) (λid E H k=>some (.e id,E,H,k)) (λ_ _ _ _ _=>none) (λ_ _ _ _=>none) (λ_ _ _ _=>none) (λE H k=>some (.r,E,H,k)) (λ_ _ _ _=>none) c
def zW:Nat->List X->XE
 |_,[]=>[]
 |i,v::r=>(i,v)::zW (i+1) r
noncomputable def pN (P:Program) (H:List B):List ResultVar->XE->Option X
 |[],_=>some (.t [])
 |[.tmp a],E=>gD E a
 |[.tmp a,.tmp b],E=>match gD E a,gD E b with
  |some (.y u),some (.y v)=>some (.t [u,v])
  |_,_=>none
 |[.tmp a,.tmp b,.tmp c],E=>match gD E a,gD E b,gD E c with
  |some (.y u),some (.y v),some (.y x)=>some (.t [u,v,x])
  |_,_,_=>none
 |[.cell a ty,.tmp b],E=>match gD E a,gD E b,P.underlying ty,kh P ty with
  |some (.y (.c (.p id o))),some (.y v),some D,some (_,sz,_)=>match rd H id with
   |some l=>if cW D then (pH l o sz).map λr=> .t [.a r,v] else none
   |none=>none
  |_,_,_,_=>none
 |_,_=>none
noncomputable def zX (P:Program):Nat->lp
 |0,_,_,_,_=>none
 |d+1,f,vs,H,k=>match P.funcs[f]? with
  |some fn=>match fn.body with
   |some c=>if Nat.ble vs.length fn.ntmps then (match rU P fn.ntmps (zX P d) (2^(40* d)) c (zW 0 vs) H k with
    |some (.n,E',H',k')=>match pN P H' fn.results.toList E' with
     |some v=>if Nat.ble k k' then some (v,H',k') else none
     |none=>none
    |some (.r,E',H',k')=>match pN P H' fn.results.toList E' with
     |some v=>if Nat.ble k k' then some (v,H',k') else none
     |none=>none
    |_=>none) else none
   |none=>none
  |none=>none
section
variable {P:Program} {n:Nat} {Q:Exit->Act->World->Prop} {ops:Array Oper} {E E':XE} {H H' H0:List B} {I:aV} {w0:World} {k k' d W:Nat} {KK:Act->World->Prop} {callf:lp} {z:Z}
theorem zY (h:eu ops E L.guard=some true) {D:List Deferred}:dJ ⟨n,D⟩ ops L (Ed z E):=by
 obtain⟨dst,op,ty,pos,af,g⟩:=L;simp only at h;cases g with
 |none=>exact ae
 |some p=>
  obtain⟨j,want⟩:=p;simp only[eu] at h;split at h
  ·rename_i d a;split at h
   ·simp_all[bv,mK,lf,X.den,Y.den,C.den]
   ·cases h
   grind
  grind
theorem Dq (h:eu ops E L.guard=some false) {N:NN} {a:Act} (b:Fits N a (Ed z E)):Region.wanted L (yielded ops a.tmps)=false:=by
 obtain⟨dst,op,ty,pos,af,g⟩:=L;simp only at h;cases g with
 |none=>grind [eu]
 |some p=>
  obtain⟨j,want⟩:=p;simp only[eu] at h;split at h
  ·rename_i d c;split at h
   ·grind [vc,mK,lf,X.den,Y.den,C.den]
   ·rename_i e;exact yB b z6 (by simp[qd,c,lf,e,X.den];rfl)
   grind
  grind
theorem Mg (p:tD P callf) (h:nU P n callf ops E H k L=some (E',H',k')):k<=k'/\ ∀z KK,(∀f,Z.ext k k' z f->KV ⟨n,[]⟩ KK (Ed f E') (Hp I w0 (Hd f H')))->OV P ⟨n,[]⟩ ops Q L (Ed z E) (Hp I w0 (Hd z H)) KK:=by
 unfold nU at h;split at h
 ·rename_i b;split at h
  ·rename_i d c;split at h
   ·rename_i i;simp only[xC,qZ,Prod.mk.injEq] at h;obtain⟨rfl,rfl,rfl⟩:=h;refine⟨qU _,λz KK e a w m j=>?_⟩;rw[if_neg (by grind [Dq]),c];exact e z (Z.ext.refl _ _ _) _ w (m.put undef i) j
   grind
  ·rename_i c;simp only[xC,qZ,Prod.mk.injEq] at h;obtain⟨rfl,rfl,rfl⟩:=h;refine⟨qU _,λz KK e a w m j=>?_⟩;rw[if_neg (by grind [Dq]),c];exact e z (Z.ext.refl _ _ _) _ w (m.put_none _) j
 ·rename_i b;split at h
  ·rename_i c;split at h
   ·rename_i r j;simp only[xC,qZ,Prod.mk.injEq] at h;obtain⟨rfl,rfl,rfl⟩:=h;refine⟨qU _,λz KK e=>?_⟩;have l:=zY (z:=z) (n:=n) (D:=[]) b;obtain⟨dst,op,ty,pos,af,g⟩:=L
    grind [Xy,Z.ext.refl]
   grind
  ·rename_i d c;split at h
   ·rename_i i;split at h
    ·rename_i v s;simp only[xC,qZ,Prod.mk.injEq] at h;obtain⟨rfl,rfl,rfl⟩:=h;refine⟨qU _,λz KK e=>?_⟩;have l:=zY (z:=z) (n:=n) (D:=[]) b;obtain⟨dst,op,ty,pos,af,g⟩:=L;simp only at c;subst c;exact C2 l (MM s) i ((e z (Z.ext.refl _ _ _)))
    ·split at h
     ·rename_i v r x q;split at h
      ·rename_i t;simp only[xC,qZ,Prod.mk.injEq] at h;obtain⟨rfl,rfl,rfl⟩:=h;refine⟨Xv p q,λz KK e=>?_⟩;have l:=zY (z:=z) (n:=n) (D:=[]) b;obtain⟨dst,op,ty,pos,af,g⟩:=L;simp only at c;subst c;exact Xx p q t l i λf u=>(e f u)
      grind
     grind
   grind
 grind
theorem Dr (f:tD P callf): ∀ {l:List Oper} {E H k E' H' k'},nV P n callf ops l E H k=some (E',H',k')->k<=k'/\ ∀z,(∀c,Z.ext k k' z c->KV ⟨n,[]⟩ (Q .normal) (Ed c E') (Hp I w0 (Hd c H')))->RV P ⟨n,[]⟩ ops Q l (Ed z E) (Hp I w0 (Hd z H))
 |[],E,H,k,E',H',k',h=>by
  replace h:some (E,H,k)=some (E',H',k'):=h
  grind [RV.nil,Z.ext.refl]
 |o::r,E,H,k,E',H',k',h=>by
  replace h:(match nU P n callf ops E H k o with
   |some (E',H',k')=>nV P n callf ops r E' H' k'
   |none=>none)=some (E',H',k'):=h
  split at h
  ·rename_i E1 s t g;obtain⟨b,i⟩:=Mg (Q:=Q) (I:=I) (w0:=w0) f g;obtain⟨a,j⟩:=Dr f h;exact⟨qk b a,λz m=>A4 (i z _ λp d=>j p λq e=>m q ((d.wide (qU _) a).trans (e.wide b (qU _))))⟩
  grind
def NP (Q:Exit->Act->World->Prop):Prop:= ∀c a d v w,Q (.panic c) (a.put (some d) v) w->Q (.panic c) a w
theorem uh {m:Nat} {fuel i c:Nat} {S:World->Prop} (b:Region.noSelect ops=true) (l:NP Q) (p: ∀w,S w->Hp I w0 (Hd z H0) w) (q:hP ops .any (bl ops.size m)) (e:(bl ops.size m).getD c false=false) (f:c≠i) (s:i∈Region.ready .any ops (bl ops.size m)):
 ∀ {rs:List Nat},quiet P n ops c m E H0 rs=some (i,E')->
 AC P ⟨n,[]⟩ ops Q (Hp I w0 (Hd z H0)) c fuel ((bl ops.size m).setIfInBounds i true) (Ed z E') S->AC P ⟨n,[]⟩ ops Q (Hp I w0 (Hd z H0)) c (fuel+1) (bl ops.size m) (Ed z E) S
 |[],h,_=>by cases h
 |j::r,h,t=>by
  simp only[quiet] at h;split at h
  ·rename_i o C;split at h
   ·rename_i d k;split at h
    ·rename_i u;split at h
     ·rename_i v K;split at h
      ·rename_i A;simp only[qg] at A;obtain⟨⟨F,G⟩,x⟩:=A;simp only[MS,pL,qZ,Prod.mk.injEq] at h;obtain⟨rfl,rfl⟩:=h;have L:=zY (z:=z) (n:=n) (D:=[]) u;obtain⟨dst,op,ty,pos,af,g⟩:=o;simp only at k;subst k;intro a w y B;exact BD C (yG _ _ G) f (Region.noSelect_spec b) (λc a w=>l c a d _ w) fuel _ a w (Mf C x) s q e (.inl ⟨L a y,λM H=>MM K a M y H⟩) (p w B) (t _ w (y.put _ F) B)
      ·exact uh b l p q e f s h t
     ·exact uh b l p q e f s h t
    ·rename_i u;split at h
     ·rename_i A;simp only[qg] at A;obtain⟨⟨F,G⟩,x⟩:=A;simp only[pL,qZ,Prod.mk.injEq] at h;obtain⟨rfl,rfl⟩:=h;intro a w y J;refine BD C (yG _ _ G) f (Region.noSelect_spec b) (λc a w=>by rw[k];exact l c a d undef w) fuel _ a w (Mf C x) s q e (.inr ⟨Dq u y,rfl⟩) (p w J) ?_;rw[k];exact t _ w (y.put undef F) J
     ·exact uh b l p q e f s h t
    ·exact uh b l p q e f s h t
   ·exact uh b l p q e f s h t
  grind
theorem Ds {s:St}: ∀ {l:List (Option St)},same l=some s-> ∀x∈l,x=some s
 |[],h,_,_=>by cases h
 |[x],h,y,c=>by grind [same]
 |some a::b::r,h,y,c=>by
  simp only[same] at h;split at h
  ·rename_i t e;split at h
   ·rename_i f;obtain rfl:=qY h;have d:t=a:=by
     grind
    subst d;rcases qe.1 c with rfl|c
    ·rfl
    ·exact Ds e y c
   grind
  grind
 |none::b::r,h,_,_=>by grind [same]
theorem xG {listed:Array Bool} {fuel c:Nat} {S0 S:World->Prop} {F:Env} {N:NN}: ∀ {rs:List Nat},(∀i∈rs,∃o,ops[i]?=some o/\OV P N ops Q o F S (λa w'=>((listed.setIfInBounds i true).getD c false=true\/S0 w')/\iq P .any ops Q S0 c fuel (listed.setIfInBounds i true) a w'))->lM P N ops Q S0 c fuel listed F S rs
 |[],_=>trivial
 |i::r,h=>⟨h i zm,xG λj b=>h j zg⟩
theorem YB (h:q∈iH ops f):q<ops.size:=by
 grind [iH]
theorem YC (N:tD P callf) (s:Dp ops=true) (O:Region.noSelect ops=true) (hQ:NP Q) {a:Z} (R:q<ops.size) (k:ia f (f+ops.size* W) H0=true):
 ∀ {fuel:Nat} {m:Nat} {E H E' H' k'},ef P n callf W ops q H0 f fuel m E H=some (E',H',k')-> ∀z,Z.ext f (f+ops.size* W) a z->hP ops .any (bl ops.size m)->(m.testBit q=true\/eE H0 H=true)->(∀t,Z.ext f k' a t->KV ⟨n,[]⟩ (Q .normal) (Ed t E') (Hp I w0 (Hd t H')))->
  AC P ⟨n,[]⟩ ops Q (Hp I w0 (Hd a H0)) q fuel (bl ops.size m) (Ed z E) (Hp I w0 (Hd z H)):=by
 intro fuel
 induction fuel with
 |zero=>
  grind [ef,pL,N3,xE,N4]
 |succ fuel C=>
  intro m E H E' H' k' h z u D F G;have hS: ∀g,Z.ext f (f+ops.size* W) a g-> ∀k0,eE H0 k0=true-> ∀w,Hp I w0 (Hd g k0) w->Hp I w0 (Hd a H0) w:=λg b k0 v w J=>by rw[<-zJ b k];exact Hp.isSub v J
  simp only[ef] at h;split at h
  ·grind [pL,N3,xE,N4]
  ·rename_i S;split at h
   ·rename_i i E1 l;split at l
    ·cases l
    ·rename_i T;split at h
     ·rename_i j;simp only[qg,Bool.not_eq_true'] at j;have d:i∈Region.ready .any ops (bl ops.size m):=by grind [xE]
      have U:i∈iH ops m:=zg
      have V:q≠i:=by grind [Nat.beq_refl]
      have K:m.testBit q=false:=zg
      have L:(bl ops.size m).getD q false=false:=by rw[tG];grind
      have c:eE H0 H=true:=by
       grind
      rw[rS] at h;have r:=Me ops.size m i;have e0:Hd a H0=Hd z H0:=(zJ u k).symm;have hk:=C h z u (r▸D.next d) (.inr c) G
      grind [uh]
     grind
   ·refine N2 _ (xE s m) (λe=>S e) (xG λi M=>?_);have x:=YB M;have p:=Ds h _ (List.mem_map.2 ⟨i,M,rfl⟩);split at p
    ·rename_i o X;split at p
     ·rename_i E1 k0 k1 Y;split at p
      ·rename_i j;simp only[qg,Bool.or_eq_true] at j;rw[rS] at p;have r:=Me ops.size m i;obtain⟨g6,y⟩:=Mg (Q:=Q) (I:=I) (w0:=w0) N Y;have J:f+i* W+W<=f+ops.size* W:=by
        have:(i+1)* W<=ops.size* W:=Nat.mul_le_mul_right _ x
        grind
       have g7:=qV j.1;refine⟨o,X,y z _ λg b=>?_⟩;have A:Z.ext f (f+ops.size* W) a g:=u.trans (b.wide zo zo);have d:i∈Region.ready .any ops (bl ops.size m):=by grind [xE]
       refine O6 _ r ?_ (C p g A (r▸D.next d) j.2 G);rcases j.2 with l|l
       ·by_cases B:q<ops.size
        ·exact .inl (by rw[tG,if_pos B];exact l)
        grind
       grind
      grind
     grind
    grind
theorem YD: ∀ {fuel:Nat} {m:Nat} {E H E' H' k'},ef P n callf W ops q H0 f fuel m E H=some (E',H',k')->k'=f+ops.size* W:=by
 intro fuel
 induction fuel with
 |zero=>
  grind [ef,pL]
 |succ fuel b=>
  intro m E H E' H' k' h;simp only[ef] at h;split at h
  ·grind [pL]
  ·rename_i d;split at h
   ·grind [rS]
   ·cases a:iH ops m with
    |nil=>grind
    |cons i r=>
     rw[a] at h;have e:=Ds h _ (List.mem_map.2 ⟨i,zm,rfl⟩)
     grind [rS]
theorem NP.then {next:Act->World->Prop} (h:NP Q):NP (Exit.then next Q):=h
theorem NP.inBlock {id:Nat} (h:NP Q):NP (Exit.inBlock id Q):=h
def Mh (P:Program) (n:Nat) (I:aV) (w0:World) (f:XE->List B->Nat->lQ) (c:Code):Prop:= ∀E H k x E' H' k',f E H k=some (x,E',H',k')->k<=k'/\ ∀z Q,NP Q->(∀z',Z.ext k k' z z'->KV ⟨n,[]⟩ (Q x.to) (Ed z' E') (Hp I w0 (Hd z' H')))->CV P ⟨n,[]⟩ c Q (Ed z E) (Hp I w0 (Hd z H))
theorem YE {f:XE->List B->Nat->lQ} {c:Code} (q:Mh P n I w0 f c): ∀ {m:Nat} {E H k x E' H' k'},iter f m E H k=some (x,E',H',k')->k<=k'/\ ∀z Q,NP Q->(∀i,Z.ext k k' z i->KV ⟨n,[]⟩ (Q x.to) (Ed i E') (Hp I w0 (Hd i H')))->KV ⟨n,[]⟩ (Code.rounds P c Q m) (Ed z E) (Hp I w0 (Hd z H)):=by
 intro m
 induction m with
 |zero=>intro E H k x E' H' k' h;cases h
 |succ m s=>
  intro E H k x E' H' k' h;simp only[iter] at h;split at h
  ·rename_i E1 y A t;rw[pL] at h;obtain⟨a,j⟩:=q _ _ _ _ _ _ _ t;obtain⟨b,u⟩:=s h;exact⟨qk a b,λz Q d g=>j z _ d.then λv l=>N4<|u v Q d λw o=>g w ((l.wide (qU _) b).trans (o.wide a (qU _)))⟩
  ·rename_i p;obtain⟨a,j⟩:=q _ _ _ _ _ _ _ h;refine⟨a,λz Q d g=>j z _ d.then ?_⟩;cases x with
   |n=>exact absurd h (p _ _ _)
   |r=>exact g
   |e id=>exact g
theorem Mi (J:tD P callf) (Y:P.follows .mixedOrders=true): ∀c:Code,Mh P n I w0 (rU P n callf W c) c:=by
 intro c
 induction c with
 |skip=>
  intro E H k x E' H' k' h
  replace h:some (Out.n,E,H,k)=some (x,E',H',k'):=h
  simp only[qZ,Prod.mk.injEq] at h;obtain⟨rfl,rfl,rfl,rfl⟩:=h;exact⟨qU _,λz Q _ g=>O7 (g z (Z.ext.refl _ _ _))⟩
 |ret=>
  intro E H k x E' H' k' h
  replace h:some (Out.r,E,H,k)=some (x,E',H',k'):=h
  simp only[qZ,Prod.mk.injEq] at h;obtain⟨rfl,rfl,rfl,rfl⟩:=h;exact⟨qU _,λz Q _ g=>CV.ret (g z (Z.ext.refl _ _ _))⟩
 |exit id=>
  intro E H k x E' H' k' h
  replace h:some (Out.e id,E,H,k)=some (x,E',H',k'):=h
  simp only[qZ,Prod.mk.injEq] at h;obtain⟨rfl,rfl,rfl,rfl⟩:=h;exact⟨qU _,λz Q _ g=>O8 (g z (Z.ext.refl _ _ _))⟩
 |seq a b p q=>
  intro E H k x E' H' k' h
  replace h:(match rU P n callf W a E H k with
   |some (.n,E',H',k')=>rU P n callf W b E' H' k'
   |r=>r)=some (x,E',H',k'):=h
  split at h
  ·rename_i E1 H1 k1 B;obtain⟨d,m⟩:=p _ _ _ _ _ _ _ B;obtain⟨t,h3⟩:=q _ _ _ _ _ _ _ h;exact⟨qk d t,λz Q j g=>N5 (m z _ j.then λz1 K=>h3 z1 Q j λz2 L=>g z2 ((K.wide (qU _) t).trans (L.wide d (qU _))))⟩
  ·rename_i u;obtain⟨d,m⟩:=p _ _ _ _ _ _ _ h;refine⟨d,λz Q j g=>N5 (m z _ j.then ?_)⟩;cases x with
   |n=>exact absurd h (u _ _ _)
   |r=>exact g
   |e id=>exact g
 |cond c a b p q=>
  intro E H k x E' H' k' h
  replace h:(match da E c with
   |some (.y (.c (.b true)))=>rU P n callf W a E H k
   |some (.y (.c (.b false)))=>rU P n callf W b E H k
   |_=>none)=some (x,E',H',k'):=h
  split at h
  ·rename_i v;obtain⟨d,m⟩:=p _ _ _ _ _ _ _ h;exact⟨d,λz Q j g=>O9 (cU v z) (m z Q j g)⟩
  ·rename_i v;obtain⟨d,m⟩:=q _ _ _ _ _ _ _ h;exact⟨d,λz Q j g=>P0 (cU v z) (m z Q j g)⟩
  grind
 |block id c C=>
  intro E H k x E' H' k' h
  replace h:(match rU P n callf W c E H k with
   |some (.e i,E',H',k')=>if Nat.beq i id then some (.n,E',H',k') else some (.e i,E',H',k')
   |r=>r)=some (x,E',H',k'):=h
  split at h
  ·rename_i i E1 H1 k1 B;obtain⟨d,m⟩:=C _ _ _ _ _ _ _ B;split at h
   ·rename_i hb;have M:=Nat.eq_of_beq_eq_true hb;subst M;simp only[qZ,Prod.mk.injEq] at h;obtain⟨rfl,rfl,rfl,rfl⟩:=h;exact⟨d,λz Q j g=>L5 (m z _ j.inBlock λN v=>P2 (g N v))⟩
   ·rename_i hb;simp only[qZ,Prod.mk.injEq] at h;obtain⟨rfl,rfl,rfl,rfl⟩:=h;exact⟨d,λz Q j g=>L5 (m z _ j.inBlock λN v=>P3 zg (g N v))⟩
  ·rename_i u;obtain⟨d,m⟩:=C _ _ _ _ _ _ _ h;refine⟨d,λz Q j g=>L5 (m z _ j.inBlock ?_)⟩;cases x with
   |n=>exact g
   |r=>exact g
   |e i=>exact absurd h (u _ _ _ _)
 |loop c C=>
  intro E H k x E' H' k' h
  replace h:iter (rU P n callf W c) 200 E H k=some (x,E',H',k'):=h
  obtain⟨d,m⟩:=YE C h;exact⟨d,λz Q j g a w hf A=>wp_loop_rounds 200 (m z Q j g a w hf A)⟩
 |region id ops D=>
  intro E H k x E' H' k' h;cases D with
  |false=>
   replace h:xF P n callf W ops false E H k=some (x,E',H',k'):=h
   simp only[xF] at h;split at h
   ·rename_i s B;obtain⟨E1,H1,k1⟩:=s;simp only[qZ,Prod.mk.injEq] at h;obtain⟨rfl,rfl,rfl,rfl⟩:=h;have d:=(Dr (Q:=λ_ _ _=>True) (I:=I) (w0:=w0) J B).1;refine⟨d,λz Q j g=>?_⟩;have:=(Dr (Q:=Q) (I:=I) (w0:=w0) J B).2 z g;have:=P1 (P:=P) (id:=id) (l:=ops.toList) (Q:=Q) (by simpa using this);simp_all
   grind
  |true=>
   replace h:xF P n callf W ops true E H k=some (x,E',H',k'):=h
   simp only[xF,zP] at h;split at h
   ·rename_i hh;simp only[qg] at hh;obtain⟨⟨⟨⟨⟨O,F⟩,R⟩,hE⟩,hH⟩,T⟩:=hh;split at h
    ·rename_i s A;obtain⟨E2,H2,k2⟩:=s;simp only[qZ,Prod.mk.injEq] at h;obtain⟨rfl,rfl,rfl,rfl⟩:=h;have U:=YD A;subst U;refine⟨zo,λz Q j g=>?_⟩;have V:bl ops.size 0=Array.replicate ops.size false:=by
      grind [bl]
     have bN:hP ops .any (bl ops.size 0):=λk o ho U=>by
      rw[tG] at U
      grind
     by_cases G:ops.size=0
     ·have:=N1 (P:=P) (p:=id) (l:=ops.toList) (Q:=Q) (E:=Ed z E) (S:=Hp I w0 (Hd z H)) (λ_=>True) 0 Y (λ_ h=>h.drew) 0 zg (N3 (by
       have:ops= #[]:=Array.eq_empty_of_size_eq_zero G;subst this;rfl) (by
       have X:iH ops 0=[]:=by grind [iH]
       rw[G] at A;simp only[ef,X,pL,qZ,Prod.mk.injEq] at A;obtain⟨rfl,rfl,_⟩:=A;exact N4 (g z (Z.ext.refl _ _ _))))
      grind
     have:=YC (Q:=Q) (I:=I) (w0:=w0) J O R j (q:=ops.size-1) zo T A z (Z.ext.refl _ _ _) bN (.inr F) g;rw[V] at this;have:=N1 (P:=P) (p:=id) (l:=ops.toList) (Q:=Q) (E:=Ed z E) (S:=Hp I w0 (Hd z H)) _ (ops.size-1) Y (λ_ h=>h.drew) ops.size zm (by simpa using this);simp_all
    grind
   grind
 |rangeFunc f ps a b p q=>intro E H k x E' H' k' h;exact absurd (show none=some (x,E',H',k') from h) zm
 |scope b C=>intro E H k x E' H' k' h;exact absurd (show none=some (x,E',H',k') from h) zm
 |label l=>intro E H k x E' H' k' h;exact absurd (show none=some (x,E',H',k') from h) zm
 |goto l=>intro E H k x E' H' k' h;exact absurd (show none=some (x,E',H',k') from h) zm
 |refuse w=>intro E H k x E' H' k' h;exact absurd (show none=some (x,E',H',k') from h) zm
theorem Dt (z:Z): ∀(i:Nat) (vs:List X),Ed z (zW i vs)=params i (vs.map (X.den z))
 |_,[]=>rfl
 |i,v::r=>by have:=Dt z (i+1) r;grind [Ed,zW,params]
theorem Mj {fn:Func} {f:Z} {v:X} (h:pN P H fn.results.toList E=some v) (g:Z.ext k k' f z) {x:Exit} (w:x= .normal\/x= .ret):
 KV ⟨n,[]⟩ (bodyPost P fn (λe w'=> ∃u L,e= .returned u/\(∃d,Z.ext k k' f d/\u=v.den d/\L=Hd d H)/\Hp I w0 L w') x) (Ed z E) (Hp I w0 (Hd z H)):=by
 have key:KV ⟨n,[]⟩ (bodyPost P fn (λe w'=> ∃u L,e= .returned u/\(∃d,Z.ext k k' f d/\u=v.den d/\L=Hd d H)/\Hp I w0 L w') .ret) (Ed z E) (Hp I w0 (Hd z H)):=by
  unfold pN at h;split at h
  ·rename_i s;simp only[qZ] at h;subst h;exact H9 (post:=λu L=> ∃d,Z.ext k k' f d/\u=(X.t []).den d/\L=Hd d H) zg _ zi ⟨z,g,rfl,rfl⟩
  ·rename_i a s;exact A7 (post:=λu L=> ∃d,Z.ext k k' f d/\u=v.den d/\L=Hd d H) (t:=a) (v:=v.den z) zg (by grind [lf]) _ zi ⟨z,g,rfl,rfl⟩
  ·rename_i a b s;split at h
   ·rename_i u u' i m;simp only[qZ] at h;subst h;exact D2 (post:=λq L=> ∃d,Z.ext k k' f d/\q=(X.t [u,u']).den d/\L=Hd d H) (t1:=a) (t2:=b) (v1:=u.den z) (v2:=u'.den z) zg (by rw[lf,i];rfl) (by rw[lf,m];rfl) _ zi ⟨z,g,rfl,rfl⟩
   ·cases h
  ·rename_i a b c s;split at h
   ·rename_i u u' y i m A;simp only[qZ] at h;subst h;exact F6 (post:=λq L=> ∃d,Z.ext k k' f d/\q=(X.t [u,u',y]).den d/\L=Hd d H) (t1:=a) (t2:=b) (t3:=c) (v1:=u.den z) (v2:=u'.den z) (v3:=y.den z) zg (by rw[lf,i];rfl) (by rw[lf,m];rfl) (by rw[lf,A];rfl) _ zi ⟨z,g,rfl,rfl⟩
   ·cases h
  ·rename_i a ty b s;split at h
   ·rename_i id o u D ze K by_ i m B F;split at h
    ·rename_i l M;split at h
     ·rename_i G;simp only[Option.map_eq_some_iff] at h;obtain⟨r,p,rfl⟩:=h;obtain⟨N,O⟩:=ME p;exact B8 (post:=λq L=> ∃d,Z.ext k k' f d/\q=(X.t [.a r,u]).den d/\L=Hd d H) (t:=a) (t2:=b) (v2:=u.den z) (r.map (C.den z)) zg (by rw[lf,i];rfl) (by rw[lf,m];rfl) B G (lC F) zg
       (λw' J j v Q=>by
        grind [De]) _ zi ⟨z,g,rfl,rfl⟩
     ·cases h
    ·cases h
   ·cases h
  ·cases h
 rcases w with rfl|rfl
 ·exact key
 grind
theorem Mk {fn:Func} {R:Ending->World->Prop}:NP (bodyPost P fn R):=λ_ _ _ _ _ h=>h
theorem Ml (e:P.follows .mixedOrders=true): ∀d,tD P (zX P d)
 |0=>λf vs H k v H' k' h=>by cases h
 |d+1=>λf vs H k v H' k' h=>by
  simp only[zX] at h;split at h
  ·rename_i fn a;split at h
   ·rename_i c m;split at h
    ·rename_i n;have b:=Ml e d;split at h
     ·rename_i E1 o p g;split at h
      ·rename_i u i;split at h
       ·rename_i j;simp only[qZ,Prod.mk.injEq] at h;obtain⟨rfl,rfl,rfl⟩:=h;refine⟨qV j,λz w=>Fx.body a m z6 zg λI _ hI=>?_⟩;rw[<-Dt z 0 vs];exact(Mi (I:=I) (w0:=w) b e c _ _ _ _ _ _ _ g).2 z _ Mk λq l=>Mj i l (.inl z6)
       grind
      grind
     ·rename_i E1 o p g;split at h
      ·rename_i u i;split at h
       ·rename_i j;simp only[qZ,Prod.mk.injEq] at h;obtain⟨rfl,rfl,rfl⟩:=h;refine⟨qV j,λz w=>Fx.body a m z6 zg λI _ hI=>?_⟩;rw[<-Dt z 0 vs];exact(Mi (I:=I) (w0:=w) b e c _ _ _ _ _ _ _ g).2 z _ Mk λq l=>Mj i l (.inr z6)
       grind
      grind
     grind
    grind
   grind
  grind
noncomputable def yes (P:Program) (d:Nat) (f:FuncId):Bool:=match zX P d f [] [] 0 with
 |some (.y (.c (.b true)),_,_)=>true
 |_=>false
theorem YF {w:FuncId} (a:P.follows .mixedOrders=true) (h:yes P f w=true):Fx P w [] V [] no (λv L=>v= .bool true/\L=[]):=by
 unfold yes at h;split at h
 ·rename_i H' k' b;obtain⟨_,c⟩:=Ml a f _ _ _ _ _ _ _ b;intro J hI g;refine(c ⟨λ_=>0,λ_=>0⟩ V J hI g).mono ?_;rintro e j ⟨v,L,rfl,⟨k,_,rfl,rfl⟩,i⟩;exact⟨_,[],rfl,zr,Hp.sub (L:=[]) i⟩
 ·cases h
end
end Go.Sv.Ex
