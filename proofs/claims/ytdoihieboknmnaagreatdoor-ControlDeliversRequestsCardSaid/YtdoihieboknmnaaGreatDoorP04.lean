/-
  Joined.
-/
import Derived.Test.YtdoihieboknmnaaGreatDoorP01
set_option linter.unusedSimpArgs false
set_option linter.unusedVariables false
namespace Go.Ios
open Go.Sv
structure MH where
 p:Nat
 base:Int
 len:Int
 own:Int
 A:Option Addr
 c:Nat
 bs:List Int
structure Sp where
 A:Option Addr
 c:Nat
 hs:List MH
structure Flt where
 space:Int
 base:Int
 len:Int
 cnt:Int
structure Acs where
 space:Int
 addr:Int
 width:Int
 wr:Bool
 val:Int
structure Trc where
 a:Acs
 own:Int
 live:Bool
 failed:Bool
def ptrK:Enc (Option Nat) where
 f p:=[.pointer (p.map fun b=>⟨b,0,none⟩)]
 sz:=1
 d:=none
 len _:=rfl
 pos:=by decide
 one r v hv:=by simp at hv;subst hv;rfl
def intK (k:IntKind):Enc Int where
 f n:=[.int k n]
 sz:=1
 d:=0
 len _:=rfl
 pos:=by decide
 one r v hv:=by simp at hv;subst hv;rfl
def fltK:Enc Flt where
 f r:=[.int .i64 r.space,.int .u64 r.base,.int .u64 r.len,.int .i64 r.cnt]
 sz:=4
 d:=⟨0,0,0,0⟩
 len _:=rfl
 pos:=by decide
 one r v hv:=by simp at hv;rcases hv with rfl|rfl|rfl|rfl<;>rfl
def trcK:Enc Trc where
 f r:=[.int .i64 r.a.space,.int .u64 r.a.addr,.int .i64 r.a.width,.bool r.a.wr,.int .u64 r.a.val,.int .i64 r.own,.bool r.live,.bool r.failed]
 sz:=8
 d:=⟨⟨0,0,0,false,0⟩,0,false,false⟩
 len _:=rfl
 pos:=by decide
 one r v hv:=by simp at hv;rcases hv with rfl|rfl|rfl|rfl|rfl|rfl|rfl|rfl<;>rfl
def All (M:List Assn):Assn where
 sat w I:=Sep M I w
 lt h x hx:=h.lt x hx
 keep h hk:=h.keep hk
def mC (h:MH):List Value:=[.int .u64 h.base,.int .u64 h.len,.int .i64 h.own,.slice h.A h.bs.length h.c]
def mhL (h:MH):List Assn:=[Blk h.p (.cells (mC h).toArray 279 (0,0)),OS 5 (intK .u8) h.A h.c h.bs]
def mhA (h:MH):Assn:=All (mhL h)
def mhD:MH:=⟨0,0,0,0,none,0,[]⟩
def spL (s:Sp):List Assn:=[OS 280 ptrK s.A s.c (s.hs.map fun h=>some h.p),Big mhA s.hs]
def spA (s:Sp):Assn:=All (spL s)
def spD:Sp:=⟨none,0,[]⟩
structure BS where
 sps:List Sp
 total:Int
 en:List Bool
 fA:Option Addr
 fc:Nat
 fl:List Flt
 tA:Option Addr
 tc:Nat
 tr:List Trc
def busC (s:BS):List Value:=s.sps.map (fun p=>Value.slice p.A p.hs.length p.c)++(Value.int .i64 s.total::(s.en.map Value.bool++[Value.slice s.fA s.fl.length s.fc,Value.slice s.tA s.tr.length s.tc]))
def busL (b:Nat) (s:BS):List Assn:=[Blk b (.cells (busC s).toArray 168 (0,0)),Big spA s.sps,OS 411 fltK s.fA s.fc s.fl,OS 381 trcK s.tA s.tc s.tr]
structure BS.wf (s:BS):Prop where
 sp:s.sps.length=3
 en:s.en.length=256
abbrev BS.sp (s:BS) (m:Nat):Sp:=s.sps.getD m spD
section
variable {s:BS} (h:s.wf)
include h
theorem kAd:(busC s).length=262:=by simp[busC,h.sp,h.en]
theorem kAi {m:Nat} (a:m<3):(busC s)[0+m* 1]?=some (.slice (s.sp m).A (s.sp m).hs.length (s.sp m).c):=by
 have b:m<s.sps.length:=by rw[h.sp];exact a
 grind [busC]
theorem kCd:(busC s)[0+3]?=some (.int .i64 s.total):=by
 simp[busC,h.sp,List.getElem?_append]
theorem kST {m:Nat} (a:m<256):(busC s)[0+4+m* 1]?=some (.bool (s.en.getD m false)):=by
 have b:m<s.en.length:=by rw[h.en];exact a
 have c: ¬0+4+m* 1<3:=by omega
 have d:0+4+m* 1-3=m+1:=by omega
 rw[busC,List.getElem?_append,qE,h.sp,if_neg c,d,List.getElem?_cons_succ,List.getElem?_append,qE,if_pos b];grind
theorem kUC:(busC s)[0+260]?=some (.slice s.fA s.fl.length s.fc):=by
 rw[busC,List.getElem?_append,qE,h.sp,if_neg (by decide)];show(Value.int .i64 s.total::(s.en.map Value.bool++_))[257]?=_;rw[List.getElem?_cons_succ,List.getElem?_append,qE,h.en,if_neg (by decide)];rfl
theorem kUD:(busC s)[0+261]?=some (.slice s.tA s.tr.length s.tc):=by
 rw[busC,List.getElem?_append,qE,h.sp,if_neg (by decide)];show(Value.int .i64 s.total::(s.en.map Value.bool++_))[258]?=_;rw[List.getElem?_cons_succ,List.getElem?_append,qE,h.en,if_neg (by decide)];rfl
end
theorem kF6 {β:Type}: ∀(l:List β) (o:Nat) (v:β),o<l.length→l.take o++[v]++l.drop (o+[v].length)=l.set o v
 |[],_,_,h=>by grind
 |a::l,0,v,_=>by simp
 |a::l,o+1,v,h=>by
  have:=kF6 l o v (by grind)
  grind
section
variable {s:BS} (h:s.wf)
include h
theorem kBq {o:Nat} {v:Value} {a:BS} (b:o<262) (e:(busC s).set o v=busC a):((busC s).toArray.toList.take o++[v]++(busC s).toArray.toList.drop (o+[v].length)).toArray=(busC a).toArray:=by
 grind [kAd]
theorem kGd (v:Int):(busC s).set (0+3) (.int .i64 v)=busC {s with total:=v}:=by
 simp[busC,List.set_append,h.sp]
theorem kQX {m:Nat} (a:m<256) (v:Bool):(busC s).set (0+4+m* 1) (.bool v)=busC {s with en:=s.en.set m v}:=by
 have b:m<s.en.length:=by rw[h.en];exact a
 have c: ¬0+4+m* 1<3:=by omega
 have d:0+4+m* 1-3=m+1:=by omega
 rw[busC,List.set_append,qE,h.sp,if_neg c,d,List.set_cons_succ,List.set_append,qE,if_pos b];grind [busC,List.map_set]
theorem kWH (A:Option Addr) (c:Nat) (l:List Flt):(busC s).set (0+260) (.slice A l.length c)=busC {s with fA:=A,fc:=c,fl:=l}:=by
 rw[busC,List.set_append,qE,h.sp,if_neg (by decide)];show _++(Value.int .i64 s.total::(s.en.map Value.bool++_)).set 257 _=_;rw[List.set_cons_succ,List.set_append,qE,h.en,if_neg (by decide)];rfl
theorem kVp (A:Option Addr) (c:Nat) (l:List Trc):(busC s).set (0+261) (.slice A l.length c)=busC {s with tA:=A,tc:=c,tr:=l}:=by
 rw[busC,List.set_append,qE,h.sp,if_neg (by decide)];show _++(Value.int .i64 s.total::(s.en.map Value.bool++_)).set 258 _=_;rw[List.set_cons_succ,List.set_append,qE,h.en,if_neg (by decide)];rfl
theorem kDq {m:Nat} (d:m<3) (q:Sp):(busC s).set (0+m* 1) (.slice q.A q.hs.length q.c)=busC {s with sps:=s.sps.set m q}:=by
 have a:0+m* 1<3:=by omega
 have b:0+m* 1=m:=by omega
 rw[busC,List.set_append,qE,h.sp,if_pos a,b];grind [busC,List.map_set]
end
def MR (w:World) (h:MH):Prop:=w.heap[h.p]?=some (.cells (mC h).toArray 279 (0,0))∧RS w (intK .u8) h.A h.bs
def SpR (w:World) (q:Sp):Prop:=RS w ptrK q.A (q.hs.map fun h=>some h.p)∧ ∀i,i<q.hs.length→MR w (q.hs.getD i mhD)
def Same (w w':World):Prop:= ∀(x:Nat) (o:Obj),w.heap[x]?=some o→w'.heap[x]?=some o
theorem MR.keep {w w':World} {h:MH} (k:MR w h) (hs:Same w w'):MR w' h:=⟨hs _ _ k.1,k.2.keep fun o a=>hs _ _ a⟩
theorem SpR.keep {w w':World} {q:Sp} (k:SpR w q) (hs:Same w w'):SpR w' q:=⟨k.1.keep fun o a=>hs _ _ a,fun i b=>(k.2 i b).keep hs⟩
theorem kBY {I:Ids} {w w':World} {L:List Assn} (h:Hp I w L w') (hI: ∀x,¬I x):Same w w':=fun x o a=>h.ro a (hI x)
theorem kSU {w:World} {i:Ids} {h:MH} (k:(mhA h).sat w i):MR w h:=by
 obtain⟨c,d,_,_,a,e,f,_,_,b,_⟩:=k;exact⟨a.2,OS.rs b⟩
theorem kJa {β:Type} {F:β→Assn} {w:World} {G:β→Prop} (d: ∀i b,(F b).sat w i→G b): ∀(hs:List β) (i:Ids),Sep (hs.map F) i w→ ∀b∈hs,G b
 |[],_,_,b,c=>by cases c
 |a::hs,i,⟨g,e,_,_,h,f⟩,b,c=>by
  rcases qe.1 c with rfl|c
  ·grind
  ·exact kJa d hs e f b c
theorem kQY {w:World} {i:Ids} {q:Sp} (k:(spA q).sat w i):SpR w q:=by
 obtain⟨f,g,_,_,a,c,h,_,_,d,_⟩:=k;refine⟨OS.rs a,fun n j=>kJa (G:=MR w) (fun i b e=>kSU e) q.hs c d _ ?_⟩
 grind
theorem Hp.spr {I0:Ids} {w0 w:World} {L:List Assn} (h:Sv.Hp I0 w0 L w) {k:Nat} {sps:List Sp} (a:L[k]?=some (Big spA sps)) {m:Nat} (c:m<sps.length):SpR w (sps.getD m spD):=
 h.bigOS (G:=fun q w=>SpR w q) spD a c fun i b d=>kQY d
theorem SpR.ptr {w:World} {q:Sp} (k:SpR w q) {i:Nat} (a:i<q.hs.length):w.cell? ⟨bk q.A,of q.A+i* 1,none⟩=some (.pointer (some ⟨(q.hs.getD i mhD).p,0,none⟩)):=by
 have:=k.1.cell0 (m:=i) (v:= .pointer (some ⟨(q.hs.getD i mhD).p,0,none⟩)) (by grind) (by
  have:(q.hs.map fun h=>some h.p).getD i ptrK.d=some (q.hs.getD i mhD).p:=by grind
  rw[this];rfl)
 exact this
theorem MR.cell {w:World} {h:MH} (k:MR w h) {o:Nat} {v:Value} (a:(mC h)[o]?=some v):w.cell? ⟨h.p,o,none⟩=some v:=by
 rw[kAA k.1];grind
def modM (v:Int) (n:Nat):Int:=(IntKind.u64.wrap v)%n
theorem kA8 (v:Int) {n:Nat} (h:0<n):0≤modM v n∧modM v n<n:=⟨Int.emod_nonneg _ (by omega),Int.emod_lt_of_pos _ (by omega)⟩
theorem kD7 (v:Int):0≤IntKind.u64.wrap v:=by grind [IntKind.wrap_u64]
theorem kFs (v:Int) {n:Nat} (h:0<n):(IntKind.u64.wrap v).tmod n=modM v n:=by
 grind [modM,kD7]
theorem modT (v:Int) {n:Nat} (h:0<n):0≤(IntKind.u64.wrap v).tmod n∧(IntKind.u64.wrap v).tmod n<n:=by
 simp_all[kFs,kA8]
def isU (x:Int):Prop:=0≤x∧x≤18446744073709551615
def kJb (b l:Int):Int:=IntKind.u64.wrap (b+IntKind.u64.wrap (l-1))
def okR (b l:Int):Prop:=1≤l∧l≤1048576∧b+(l-1)≤18446744073709551615
instance(b l:Int):Decidable (okR b l):=inferInstanceAs (Decidable (_∧_∧_))
theorem kC3 {b l:Int} (a:isU b) (h:okR b l):kJb b l=b+(l-1):=by
 grind [isU,okR,kJb,wU64]
theorem kGe {b l:Int} (a:isU b) (c:1≤l) (d:l≤1048576):b≤kJb b l↔okR b l:=by
 unfold isU at a;constructor
 ·intro h;refine⟨c,d,?_⟩
  grind [kJb,IntKind.wrap_u64]
 ·intro h;rw[kC3 a h];omega
def ovl (b l b2 l2:Int):Prop:=b≤b2+(l2-1)∧b2≤b+(l-1)
instance(b l b2 l2:Int):Decidable (ovl b l b2 l2):=inferInstanceAs (Decidable (_∧_))
def kAO (p:Nat→Bool):Nat→Nat
 |0=>0
 |k+1=>if kAO p k<k then kAO p k else if p k then k else k+1
theorem kCL {p:Nat→Bool}: ∀ {k:Nat},(∀j,j<k→p j=false)→kAO p k=k
 |0,_=>rfl
 |k+1,h=>by rw[kAO,kCL fun j a=>h j (by omega),if_neg (Nat.lt_irrefl _),h k (by omega)];rfl
theorem kDr {p:Nat→Bool} {i:Nat} (h: ∀j,j<i→p j=false) (a:p i=true): ∀ {k:Nat},i<k→kAO p k=i
 |0,b=>by omega
 |k+1,b=>by
  by_cases e:i=k
  ·grind [kAO,kCL]
  ·rw[kAO,kDr h a (show i<k by omega),if_pos (by omega)]
theorem kGf (p:Nat→Bool) (k:Nat):kAO p k≤k∧(∀j,j<kAO p k→p j=false)∧(kAO p k<k→p (kAO p k)=true):=by
 induction k with
 |zero=>grind [kAO]
 |succ k a=>
  grind [kAO]
abbrev MH.lst (h:MH):Int:=h.base+(h.len-1)
structure MH.ok (h:MH):Prop where
 b:isU h.base
 r:okR h.base h.len
 o1:0≤h.own
 o2:h.own<256
 d:(h.bs=[]∧h.A=none)∨(h.bs.length=h.len.toNat∧h.A≠none)
 y: ∀i,0≤h.bs.getD i 0∧h.bs.getD i 0≤255
abbrev mh (hs:List MH) (i:Nat):MH:=hs.getD i mhD
structure okS (hs:List MH):Prop where
 each: ∀i,i<hs.length→(mh hs i).ok
 sort: ∀i j,i<j→j<hs.length→(mh hs i).lst<(mh hs j).base
def aftM (hs:List MH) (x:Int):Nat:=kAO (fun i=>decide (x≤(mh hs i).lst)) hs.length
def kDJ (hs:List MH) (x:Int):Option Nat:=if aftM hs x<hs.length∧(mh hs (aftM hs x)).base≤x then some (aftM hs x) else none
theorem okS.mono {hs:List MH} (h:okS hs) {i j:Nat} (b:i≤j) (a:j<hs.length):(mh hs i).lst≤(mh hs j).lst:=by
 by_cases e:i=j
 ·grind
 ·have c:=h.sort i j (by omega) a;have d:=(h.each j a).r
  grind [okR]
theorem kN9 {hs:List MH} {x:Int} {i:Nat} (d:i≤hs.length) (a: ∀k,k<i→ ¬x≤(mh hs k).lst) (b: ∀k,i≤k→k<hs.length→x≤(mh hs k).lst):aftM hs x=i:=by
 by_cases e:i=hs.length
 ·grind [aftM,kCL]
 ·exact kDr (fun j c=>qQ (a j c)) (qR (b i (qU _) (by omega))) (by omega)
theorem kBZ (hs:List MH) (x:Int):aftM hs x≤hs.length∧(∀j,j<aftM hs x→ ¬x≤(mh hs j).lst)∧(aftM hs x<hs.length→x≤(mh hs (aftM hs x)).lst):=by
 obtain⟨a,b,c⟩:=kGf (fun i=>decide (x≤(mh hs i).lst)) hs.length;exact⟨a,fun j d=>of_decide_eq_false (b j d),fun h=>of_decide_eq_true (c h)⟩
theorem kFt {hs:List MH} {x:Int} (h:aftM hs x=hs.length):kDJ hs x=none:=if_neg fun k=>by omega
theorem kFu {hs:List MH} {x:Int} (h:x<(mh hs (aftM hs x)).base):kDJ hs x=none:=if_neg fun k=>by omega
theorem kJc {hs:List MH} {x:Int} (a: ¬aftM hs x=hs.length) (b: ¬x<(mh hs (aftM hs x)).base):kDJ hs x=some (aftM hs x):=if_pos ⟨by grind [kBZ],by omega⟩
theorem kD8 {hs:List MH} {x:Int} {i:Nat} (h:kDJ hs x=some i):i<hs.length∧(mh hs i).base≤x∧x≤(mh hs i).lst:=by
 grind [kDJ,kBZ]
theorem kC4 {hs:List MH} (h:okS hs) {x:Int} {i:Nat} (a:i<hs.length) (d:(mh hs i).base≤x) (b:x≤(mh hs i).lst):kDJ hs x=some i:=by
 have e:aftM hs x=i:=kDr (p:=fun i=>decide (x≤(mh hs i).lst)) (fun j c=>qQ (fun f=>by
  have g:(mh hs j).lst<(mh hs i).base:=h.sort j i c a;omega)) (qR b) a
 grind [kDJ]
theorem kIX {hs:List MH} (h:okS hs) {x:Int} (a:kDJ hs x=none) {i:Nat} (b:i<hs.length): ¬((mh hs i).base≤x∧x≤(mh hs i).lst):=fun k=>by
 rw[kC4 h b k.1 k.2] at a;cases a
structure BS.ok (s:BS):Prop where
 wf:s.wf
 sp: ∀m,m<3→okS (s.sp m).hs
 tot:s.total=(((s.sp 0).hs.length+(s.sp 1).hs.length+(s.sp 2).hs.length:Nat):Int)
 max:s.total≤256
 fl:s.fl.length≤64
 fr: ∀i,i<s.fl.length→isU (s.fl.getD i fltK.d).base∧okR (s.fl.getD i fltK.d).base (s.fl.getD i fltK.d).len∧1≤(s.fl.getD i fltK.d).cnt∧(s.fl.getD i fltK.d).cnt≤64
 tr:s.tr.length≤65536
theorem BS.ok.len {s:BS} (h:s.ok) {m:Nat} (a:m<3):(s.sp m).hs.length≤256:=by
 have b:=h.tot;have c:=h.max
 grind
theorem MR.rng {w:World} {h:MH} (k:MR w h): ∀j v,[Value.int .u64 h.base,Value.int .u64 h.len][j]?=some v→w.cell? ⟨h.p,0+j,none⟩=some v:=fun j v a=>by
 rw[Nat.zero_add];refine k.cell ?_
 match j,a with
 |0,a=>exact a
 |1,a=>exact a
theorem half (i j:Nat):((i:Int)+(j:Int)).fdiv (2^min (1:Int).toNat IntKind.u64.bits)=(((i+j)/2:Nat):Int):=by
 have e:(2:Int)^min (1:Int).toNat IntKind.u64.bits=2:=by decide
 grind
def fnd (s:BS) (z x:Int):Option Nat:=if 0≤z∧z<3 then kDJ (s.sp z.toNat).hs x else none
def fptr (s:BS) (z x:Int):Option Addr:=match fnd s z x with
 |some i=>some ⟨(mh (s.sp z.toNat).hs i).p,0,none⟩
 |none=>none
def ownM (s:BS) (z x:Int):Int:=match fnd s z x with
 |some i=>(mh (s.sp z.toNat).hs i).own
 |none=> -1
theorem kGg {s:BS} {z x:Int} (h: ¬(0≤z∧z<3)):fnd s z x=none:=if_neg h
theorem kDs {s:BS} {m:Nat} {x:Int} (h:m<3):fnd s m x=kDJ (s.sp m).hs x:=by
 grind [fnd]
theorem kBr {s:BS} {z x:Int} (h:fnd s z x=none):fptr s z x=none:=by rw[fptr,h]
theorem kBs {s:BS} {m i:Nat} {x:Int} (h:fnd s m x=some i):fptr s m x=some ⟨(mh (s.sp m).hs i).p,0,none⟩:=by grind [fptr]
theorem kC5 {s:BS} {z x:Int} (d:s.ok) (h: ¬fptr s z x=none): ∃(m i:Nat),z=(m:Int)∧m<3∧fnd s m x=some i∧i<(s.sp m).hs.length∧(mh (s.sp m).hs i).base≤x∧x≤(mh (s.sp m).hs i).lst:=by
 by_cases a:0≤z∧z<3
 ·obtain⟨m,rfl⟩:=qa a.1;have b:m<3:=by omega
  cases c:fnd s m x with
  |none=>grind [kBr]
  |some i=>
   have e:=kD8 ((kDs (s:=s) (x:=x) b).symm.trans c)
   grind
 grind [kBr,kGg]
theorem kF7 {s:BS} {z x:Int} (h:fptr s z x=none):fnd s z x=none:=by
 grind [fptr]
def bs0:BS:=⟨List.replicate 3 spD,0,List.replicate 256 false,none,0,[],none,0,[]⟩
theorem kJd:bs0.ok where
 wf:=⟨rfl,by show(List.replicate 256 false).length=256;grind⟩
 sp m hm:=by
  have:(bs0.sp m)=spD:=by
   obtain rfl|rfl|rfl:m=0∨m=1∨m=2:=by omega
   ·rfl
   ·rfl
   ·rfl
  rw[this];exact⟨fun i hi=>by grind [spD],fun i j h1 h2=>by grind [spD]⟩
 tot:=rfl
 max:=by show(0:Int)≤256;omega
 fl:=by show 0≤64;omega
 fr i hi:=absurd hi (Nat.not_lt_zero _)
 tr:=by show 0≤65536;omega
theorem kOP (w:World):(spA spD).sat w (fun _=>False):=
 ⟨fun _=>False,fun _=>False,fun x=>by simp,fun _ h=>h.elim,OS.emp w,fun _=>False,fun _=>False,fun x=>by simp,fun _ h=>h.elim,fun _ h=>h,fun _ h=>h⟩
theorem BS.ok.en {s:BS} (h:s.ok) (m:Nat) (v:Bool):BS.ok {s with en:=s.en.set m v}:=
 ⟨⟨h.wf.sp,by simpa using h.wf.en⟩,h.sp,h.tot,h.max,h.fl,h.fr,h.tr⟩
theorem kAs {β:Type} {l l2:List β} {i:Nat} (d:β) (h:i<l.length):(l++l2).getD i d=l.getD i d:=by grind
theorem kB2 {β:Type} {l:List β} {y:β} (d:β):(l++[y]).getD l.length d=y:=by grind
def fltG (s:BS) (f:Flt) (A:Option Addr) (c:Nat):BS:={s with fA:=A,fc:=c,fl:=s.fl++[f]}
section
variable {I0:Ids} {w0 w:World} {B0:Assn} {R:List Assn} {sps:List Sp} {m:Nat}
theorem kQZ {α:Type} (a b x e:α) (R:List α):(a::b::x::(R++[e])).Perm (x::a::b::e::R):=
 ((((qi e R).cons x).cons b).cons a).trans (((List.Perm.swap x b (e::R)).cons a).trans (List.Perm.swap x a (b::e::R)))
theorem kHb (h:Hp I0 w0 (B0::Big spA sps::R) w) (a:m<sps.length):
 Hp I0 w0 (B0::OS 280 ptrK (sps.getD m spD).A (sps.getD m spD).c ((sps.getD m spD).hs.map fun h=>some h.p)::Big mhA (sps.getD m spD).hs::Big spA (sps.eraseIdx m)::R) w:=by
 have b:=h.focus spD (k:=1) rfl a;have d:=b.splice (k:=1) (A:=spA (sps.getD m spD)) (M:=spL (sps.getD m spD)) rfl fun i e=>e;exact d.perm (kQZ _ _ _ _ _)
theorem kGh {q:Sp} (h:Hp I0 w0 (B0::OS 280 ptrK q.A q.c (q.hs.map fun h=>some h.p)::Big mhA q.hs::Big spA (sps.eraseIdx m)::R) w) (a:m<sps.length):
 Hp I0 w0 (B0::Big spA (sps.set m q)::R) w:=by
 have b:=h.perm (kQZ _ _ _ _ _).symm;have d:Hp I0 w0 (spA q::(B0::(R++[Big spA (sps.eraseIdx m)]))) w:=Hp.bundle (M:=spL q) (R:=B0::(R++[Big spA (sps.eraseIdx m)])) b fun i e=>e;have f:Hp I0 w0 ((B0::spA q::R)++[Big spA (sps.eraseIdx m)]) w:=d.perm (List.Perm.swap _ _ _);exact f.unfocus (k:=1) rfl a
theorem kOQ {h:MH} {hs a:List MH} (c:(h::hs).Perm a) {i:Ids} (k:Sep (mhL h++[Big mhA hs]) i w):(Big mhA a).sat w i:=by
 obtain⟨d,f,hI,g,j,q,r,l,m,n,o⟩:=Sep.append.1 k;have b:Sep (mhA h::hs.map mhA) i w:=⟨d,f,hI,g,j,n.ext fun x=>by rw[l x];exact⟨.inl,fun e=>e.elim id fun p=>absurd p (o x)⟩⟩
 exact Sep.perm (c.map mhA) b
theorem addM {h:MH} {hs a:List MH} {b c:Assn} (k:Hp I0 w0 (B0::b::Big mhA hs::c::(R++mhL h)) w) (d:(h::hs).Perm a):Hp I0 w0 (B0::b::Big mhA a::c::R) w:=by
 have e:(B0::b::Big mhA hs::c::(R++mhL h)).Perm ((mhL h++[Big mhA hs])++(B0::b::c::R)):=by
  have f:(B0::b::Big mhA hs::c::(R++mhL h)).Perm (Big mhA hs::(B0::b::c::R)++mhL h):=
   (((List.Perm.swap (Big mhA hs) b _).cons B0).trans (List.Perm.swap (Big mhA hs) B0 _))
  have g:(Big mhA hs::(B0::b::c::R)++mhL h).Perm (mhL h++(Big mhA hs::(B0::b::c::R))):=qf;refine(f.trans g).trans ?_;simp_all
 have j:=(k.perm e).bundle (A:=Big mhA a) fun i l=>kOQ d l;exact j.perm (((List.Perm.swap B0 (Big mhA a) _).trans ((List.Perm.swap b (Big mhA a) _).cons B0)))
end
set_option maxRecDepth 10000 in
theorem kFv (n:Nat): ∀(r c:Nat),Builtin.growBy n r c+768≤2^r* (c+768)
 |0,c=>by grind [Builtin.growBy]
 |r+1,c=>by
  rw[Builtin.growBy];split
  ·simp_all[Nat.le_mul_of_pos_left,Nat.two_pow_pos]
  ·have h:=kFv n r (c+(c+768)/4);have a:2^r* (c+(c+768)/4+768)≤2^r* (2* (c+768)):=Nat.mul_le_mul_left _ (by omega)
   grind
theorem kIY {n c:Nat} (h:c<n) (a:n≤1000000):Builtin.nextslicecap n c≤20000000:=by
 unfold Builtin.nextslicecap;split
 ·omega
 ·split
  ·omega
  ·have:=kFv n 4 c
   grind
theorem kEG {P:Program} {I0:Ids} {w0 w:World} {L:List Assn} {α:Type} {K:Enc α} {A B:Option Addr} {ys zs:List α} {e t tR:TypeId} {c c2:Nat} {ze:Value} {by_:Nat} {f:FuncId} {fn:Func} (h:Hp I0 w0 L w) (k1 k2:Nat)
 (hk1:L[k1]?=some (OS e K B c2 zs)) (hk2:(L.eraseIdx k1)[k2]?=some (OS e K A c ys)) (hf:P.funcs[f]?=some fn) (hname:(fn.name== "runtime.NumGoroutine")=false) (hb:fn.body.isNone=true) (hn:Extern.findNext fn=none)
 (he:Extern.find fn=some (Extern.SlicesOverlaps.overlaps #[t,t] #[tR])) (hu:P.underlying t=some (.slice e)) (hi:TI P e ze K.sz by_) (hc:0<c) (hz:zs≠[]) (l n1 n2 c3:Nat):
 (callFunc f #[.slice B n1 c2,.slice (shA A l K.sz c) n2 c3]).run P w= .ok (.value (.bool false)) w:=by
 rw[run_callFunc_extern hf hname hb hn he];have key:(Extern.SlicesOverlaps.overlaps #[t,t] #[tR] #[.slice B n1 c2,.slice (shA A l K.sz c) n2 c3]).run P w= .ok (.bool false) w:=by
  obtain⟨i,j,hB,hL,hd,_⟩:=h.at hk1;obtain⟨i2,j2,hJ,_,hA,_⟩:=hL.perm (kAN hk2);rcases hB with ⟨_,h0,_⟩|⟨gb,cur,rfl,hI,hbb,_,_,hsz,_⟩
  ·grind
  ·rcases hA with ⟨rfl,_,rfl,_⟩|⟨ga,cur2,rfl,hI2,hba,_,_,hsz2,_⟩
   ·omega
   ·have hne:gb≠ga:=fun e=>hd gb ((hI gb).2 rfl) ((hJ gb).2 (.inl ((hI2 gb).2 e)));have hsh: ∃off,shA (some ⟨ga,0,none⟩) l K.sz c=some ⟨ga,off,none⟩:=by
     grind [shA,Addr.add]
    obtain⟨off,hoff⟩:=hsh;rw[hoff];exact Lib.run_overlaps_apart w t tR e hu K.sz (fun w=>hi.sizeOf w) ⟨gb,0,none⟩ ⟨ga,off,none⟩ n1 c2 n2 c3 hne e e cur.size cur2.size (by grind [World.shape?]) (by grind [World.shape?])
     (by rw[hsz2];have:=Nat.mul_pos hc K.pos;omega) (by grind [World.frozen?]) (by grind [World.frozen?])
 simp_all
def insL {β:Type} (l:List β) (i:Nat) (y:β):List β:=l.take i++[y]++l.drop i
theorem kAU {β:Type} {l:List β} {i:Nat} (y:β) (h:i≤l.length):(insL l i y).length=l.length+1:=by
 grind [insL]
theorem kFw {β:Type} (l:List β) (i:Nat) (y:β):(y::l).Perm (insL l i y):=by
 have h:(insL l i y).Perm (y::(l.take i++l.drop i)):=by
  grind [insL,List.perm_middle]
 rw[List.take_append_drop] at h;exact h.symm
theorem kLW {β γ:Type} (f:β→γ) (l:List β) (i:Nat) (y:β):(insL l i y).map f=insL (l.map f) i (f y):=by
 grind [insL,List.map_take,List.map_drop]
theorem kJe {β:Type} {l:List β} {i:Nat} (y d:β) (h:i≤l.length) (k:Nat):(insL l i y).getD k d=if k<i then l.getD k d else if k=i then y else l.getD (k-1) d:=by
 grind [insL]
theorem insA {β:Type} {l:List β} {i:Nat} (p z:β) (h:i<l.length):(l.take i++List.replicate (l.length+1-i) z).take i++[p].take (min 1 (i+(l.length+1-i)-i))++(l.take i++List.replicate (l.length+1-i) z).drop (i+min 1 (i+(l.length+1-i)-i))=l.take i++[p]++List.replicate (l.length-i) z:=by
 have a:(l.take i).length=i:=by grind
 have e:min 1 (i+(l.length+1-i)-i)=1:=by omega
 rw[e,List.take_append_of_le_length (by omega),List.take_of_length_le (l:=l.take i) (by omega),List.drop_append,a,List.drop_of_length_le (l:=l.take i) (by omega),Nat.add_sub_cancel_left,List.drop_replicate]
 grind
theorem insB {β:Type} {l:List β} {i:Nat} (p z:β) (h:i<l.length):(l.take i++[p]++List.replicate (l.length-i) z).take (i+1)++(l.drop i).take (min (l.length-i) (i+(l.length+1-i)-(i+1)))++(l.take i++[p]++List.replicate (l.length-i) z).drop (i+1+min (l.length-i) (i+(l.length+1-i)-(i+1)))=insL l i p:=by
 have a:(l.take i++[p]).length=i+1:=by grind
 have e:min (l.length-i) (i+(l.length+1-i)-(i+1))=l.length-i:=by omega
 have d:(l.take i++[p]++List.replicate (l.length-i) z).drop (i+1+(l.length-i))=[]:=List.drop_of_length_le (by grind);rw[e,List.take_append_of_le_length (by omega),List.take_of_length_le (l:=l.take i++[p]) (by omega),List.take_of_length_le (l:=l.drop i) (by grind),d,qK];rfl
theorem insC {β:Type} {l:List β} {i:Nat} (h:i<l.length):l.take (i+1)++(l.drop i).take (min (l.length+1-i) (l.length+1-(i+1)))++l.drop (i+1+min (l.length+1-i) (l.length+1-(i+1)))=l.take (i+1)++l.drop i:=by
 grind [List.drop_of_length_le]
theorem insD {β:Type} {l:List β} {i:Nat} (p:β) (h:i<l.length):(l.take (i+1)++l.drop i).take i++[p].take (min 1 (l.length+1-i))++(l.take (i+1)++l.drop i).drop (i+min 1 (l.length+1-i))=insL l i p:=by
 have a:(l.take (i+1)).length=i+1:=by grind
 have e:min 1 (l.length+1-i)=1:=by omega
 rw[e,List.take_append_of_le_length (by omega),List.take_take,Nat.min_eq_left (by omega),List.drop_append,a,List.drop_of_length_le (l:=l.take (i+1)) (by omega),Nat.sub_self];rfl
theorem insE {β:Type} {l:List β} {i:Nat} (p:β) (h:i=l.length):l++[p]=insL l i p:=by
 grind [insL]
def mapG (s:BS) (m:Nat) (h:MH) (A:Option Addr) (c:Nat):BS:=
 {s with sps:=s.sps.set m ⟨A,c,insL (s.sp m).hs (aftM (s.sp m).hs h.base) h⟩,total:=s.total+1}
def busy (hs:List MH) (b l:Int):Prop:=aftM hs b<hs.length∧ovl (mh hs (aftM hs b)).base (mh hs (aftM hs b)).len b l
instance(hs:List MH) (b l:Int):Decidable (busy hs b l):=inferInstanceAs (Decidable (_∧_))
theorem kC6 {I0:Ids} {w0 w:World} {s:BS} {m i:Nat} {g:Option Addr} {j a:Nat} {b c o:Int} {B0 d f:Assn} (k:s.sps.length=3) (l:m<3)
 (h:Hp I0 w0 [B0,OS 280 ptrK g j (insL ((s.sp m).hs.map fun h=>some h.p) i (some a)),Big mhA (s.sp m).hs,Big spA (s.sps.eraseIdx m),d,f,Blk a (.cells #[.int .u64 b,.int .u64 c,.int .i64 o,.slice none 0 0] 279 (0,0))] w):
 Hp I0 w0 [B0,Big spA (s.sps.set m ⟨g,j,insL (s.sp m).hs i ⟨a,b,c,o,none,0,[]⟩⟩),d,f] w:=by
 have n:=addM (R:=[d,f]) (h:=⟨a,b,c,o,none,0,[]⟩) (h.nilOS (e:=5) (K:=intK .u8)) (kFw (s.sp m).hs i ⟨a,b,c,o,none,0,[]⟩)
 grind [kGh,kLW]
def byt (l:List Int) (k:Nat):Int:=l.getD k 0
def pw (j:Nat):Int:=((2^(8* j):Nat):Int)
def rdL (l:List Int) (k:Nat):Nat→Int
 |0=>0
 |j+1=>rdL l k j+byt l (k+j)* pw j
def okB (l:List Int):Prop:= ∀i,0≤l.getD i 0∧l.getD i 0≤255
theorem kJf (j:Nat):0<pw j:=by unfold pw;have:=Nat.two_pow_pos (8* j);omega
theorem kJg (j:Nat):pw (j+1)=256* pw j:=by
 grind [pw]
theorem kQa {j:Nat} (h:j≤8):pw j≤18446744073709551616:=by
 have:2^(8* j)≤2^64:=Nat.pow_le_pow_right (by omega) (by omega)
 grind [pw]
theorem kNA {l:List Int} (h:okB l) (k:Nat): ∀j,0≤rdL l k j∧rdL l k j<pw j
 |0=>by simp[rdL,pw]
 |j+1=>by
  have b:=kNA h k j;have a:=h (k+j);have c:=kJf j;have d:byt l (k+j)* pw j≤255* pw j:=Int.mul_le_mul_of_nonneg_right a.2 (by omega);have e:0≤byt l (k+j)* pw j:=Int.mul_nonneg a.1 (by omega)
  grind [rdL,kJg]
theorem kOR (k j:Nat):rdL [] k j=0:=by
 induction j with
 |zero=>rfl
 |succ j a=>grind [rdL,byt]
theorem kJh {b:Int} {j:Nat} (h0:0≤b) (a:b≤255) (d:j<8):0≤b* pw j∧b* pw j≤18446744073709551615:=by
 have e:=kJf j;have f:b* pw j≤255* pw j:=Int.mul_le_mul_of_nonneg_right a (by omega);have c:=kQa (j:=j+1) (by omega);rw[kJg] at c;exact⟨Int.mul_nonneg h0 (by omega),by omega⟩
theorem kJi {j:Nat} (a:j<8):(2:Int)^min (8* (j:Int)).toNat IntKind.u64.bits=pw j:=by
 have e:min (8* (j:Int)).toNat IntKind.u64.bits=8* j:=by
  have:IntKind.u64.bits=64:=rfl;omega
 grind [pw]
theorem shlB {b:Int} {j:Nat} (h0:0≤b) (a:b≤255) (c:j<8):IntKind.u64.wrap (b* 2^min (8* (j:Int)).toNat IntKind.u64.bits)=b* pw j:=by
 grind [kJi,kJh,wU64]
theorem orB {a b:Int} {j:Nat} (c:0≤a) (e:a<pw j) (h0:0≤b) (f:b≤255) (g:j<8):IntKind.u64.wrap ((BitVec.ofInt IntKind.u64.bits a|||BitVec.ofInt IntKind.u64.bits (b* pw j)).toNat)=a+b* pw j:=by
 have d:=kJh h0 f g;have h:=kQa (j:=j) (by omega);show IntKind.u64.wrap ((BitVec.ofInt 64 a|||BitVec.ofInt 64 (b* pw j)).toNat)=a+b* pw j;rw[kQA c (by omega) d.1 d.2];obtain⟨x,rfl⟩:=qa c;obtain⟨y,rfl⟩:=qa h0;have i:x<2^(8* j):=by grind [pw]
 have k:((y:Int)* pw j).toNat=2^(8* j)* y:=by
  grind [pw]
 grind [Nat.two_pow_add_eq_or_of_lt]
def byo (v:Int) (j:Nat):Int:=(v/pw j)%256
theorem kQb (v:Int) (j:Nat):0≤byo v j∧byo v j≤255:=by
 grind [byo]
theorem u8B {v:Int} {j:Nat} (a:j<8) (b:0≤v):IntKind.u8.wrap (v.fdiv (2^min (8* (j:Int)).toNat IntKind.u64.bits))=byo v j:=by
 rw[kJi a,Int.fdiv_eq_ediv_of_nonneg _ (by have:=kJf j;omega),IntKind.wrap_u8];rfl
def wrK (l:List Int) (k:Nat) (v:Int):Nat→List Int
 |0=>l
 |j+1=>(wrK l k v j).set (k+j) (byo v j)
theorem kBL (l:List Int) (k:Nat) (v:Int) (j:Nat):(wrK l k v j).length=l.length:=by
 induction j with
 |zero=>rfl
 |succ j a=>grind [wrK]
def raw0 (h:MH):List Int:=if h.bs=[] then List.replicate h.len.toNat 0 else h.bs
theorem kHc {h:MH} (k:Nat):byt (raw0 h) k=byt h.bs k:=by
 grind [raw0,byt]
theorem kF8 {h:MH} (a:h.ok):(raw0 h).length=h.len.toNat:=by
 unfold raw0;split
 ·simp
 ·rename_i e;rcases a.d with ⟨b,_⟩|⟨b,_⟩
  ·grind
  grind
theorem kGi {l:List Int} {k:Nat} (v:Int): ∀ {j:Nat},k+j≤l.length→ ∀i,byt (wrK l k v j) i=if k≤i∧i<k+j then byo v (i-k) else byt l i
 |0,_,i=>by grind [wrK]
 |j+1,h,i=>by
  have a:=kGi (l:=l) (k:=k) v (j:=j) (by omega) i
  grind [wrK,byt,kBL]
theorem kQc {I0:Ids} {w0 w:World} {L:List Assn} {α:Type} {K:Enc α} {A:Option Addr} {ys:List α} {e:TypeId} {c:Nat} (h:Hp I0 w0 L w) (k:Nat) (a:L[k]?=some (OS e K A c ys)) (b:0<ys.length):A≠none:=by
 obtain⟨i,j,d,_⟩:=h.at a;rcases d with ⟨_,l,_⟩|⟨g,f,rfl,_⟩
 ·grind
 ·simp
end Go.Ios
namespace Go.Sv
theorem KV.toRet {P:Program} {N:NN} {fn:Func} {R:Ending→World→Prop} {E:Env} {S:World→Prop} (h:KV N (bodyPost P fn R .ret) E S):KV N (bodyPost P fn R .normal) E S:=fun a w b c=>h a w b c
theorem OV.clearTail0 {P:Program} {N:NN} {Q:Exit→Act→World→Prop} {E:Env} {ops:Array Oper} {ty:TypeId} {pos:String} {af:Array Edge} {g:Option (Nat×Bool)} {x:Operand} {KK:Act→World→Prop} {I0:Ids} {w0:World} {L:List Assn} {α:Type} {K:Enc α} {A:Option Addr} {ys:List α} {e t:TypeId} {c:Nat}
 (k l:Nat) {ze:Value} {by_ n d:Nat} (f:P.underlying t=some (.slice e)) (h:TI P e ze K.sz by_) (b:ze.cells.size=K.sz) (i: ∀v∈ze.cells.toList,v.oneCell'=true) (j:L[k]?=some (OS e K A c ys))
 (m:ev E x=some (.slice (shA A l K.sz c) n d)) (o:ys.length≤l) (p:l+n≤c) (q:Yes N ops ⟨none,.call ⟨.builtin .clear,#[x],#[t]⟩,ty,pos,af,g⟩ E) (r:KV N KK E (Hp I0 w0 L)):
 OV P N ops Q ⟨none,.call ⟨.builtin .clear,#[x],#[t]⟩,ty,pos,af,g⟩ E (Hp I0 w0 L) KK:=
 OV.clearTail k l f h b i j m o p q fun a w s u=>r a w (s.put_none (.tuple #[])) u
end Go.Sv
namespace Go.Ios
open Go.Sv
def delL {β:Type} (l:List β) (i:Nat):List β:=l.take i++l.drop (i+1)
theorem kCM {β:Type} {l:List β} {i:Nat} (h:i<l.length):(delL l i).length=l.length-1:=by
 simp only[delL,qD,qF,qG];omega
def isW (w:Int):Prop:=w=1∨w=2∨w=4∨w=8
instance(w:Int):Decidable (isW w):=inferInstanceAs (Decidable (_∨_∨_∨_))
def wfA (a:Acs):Prop:=isW a.width∧(0≤a.space∧a.space<3)∧a.addr.tmod a.width=0
instance(a:Acs):Decidable (wfA a):=inferInstanceAs (Decidable (_∧(_∧_)∧_))
theorem kVH {a:Acs} (h:wfA a) (b:isU a.addr):okR a.addr a.width:=by
 obtain⟨c,_,d⟩:=h;unfold isU at b;unfold okR;rcases c with e|e|e|e<;>rw[e] at d ⊢
 ·omega
 ·have:a.addr.tmod 2=a.addr%2:=qW b.1;omega
 ·have:a.addr.tmod 4=a.addr%4:=qW b.1;omega
 ·have:a.addr.tmod 8=a.addr%8:=qW b.1;omega
def hitF (f:Flt) (a:Acs):Prop:=f.space=a.space∧ovl f.base f.len a.addr a.width
instance(f:Flt) (a:Acs):Decidable (hitF f a):=inferInstanceAs (Decidable (_∧_))
def hitN (l:List Flt) (a:Acs):Nat:=kAO (fun i=>decide (hitF (l.getD i fltK.d) a)) l.length
def useL (l:List Flt) (a:Acs):List Flt:=
 if hitN l a<l.length then
  if (l.getD (hitN l a) fltK.d).cnt=1 then delL l (hitN l a)
  else l.set (hitN l a) {l.getD (hitN l a) fltK.d with cnt:=(l.getD (hitN l a) fltK.d).cnt-1}
 else l
theorem kUE {l:List Flt} {a:Acs} {i:Nat} (h: ∀j,j<i→ ¬hitF (l.getD j fltK.d) a) (b:i<l.length) (c:hitF (l.getD i fltK.d) a):hitN l a=i:=
 kDr (p:=fun i=>decide (hitF (l.getD i fltK.d) a)) (fun j e=>qQ (h j e)) (qR c) b
theorem kUF {l:List Flt} {a:Acs} (h: ∀j,j<l.length→ ¬hitF (l.getD j fltK.d) a):hitN l a=l.length:=
 kCL (p:=fun i=>decide (hitF (l.getD i fltK.d) a)) fun j b=>qQ (h j b)
theorem kUG {l:List Flt} {a:Acs} {i:Nat} (h:hitN l a=i) (b:i<l.length) (c:(l.getD i fltK.d).cnt=1):useL l a=delL l i:=by rw[useL,h,if_pos b,if_pos c]
theorem kUH {l:List Flt} {a:Acs} {i:Nat} (h:hitN l a=i) (b:i<l.length) (c: ¬(l.getD i fltK.d).cnt=1):useL l a=l.set i {l.getD i fltK.d with cnt:=(l.getD i fltK.d).cnt-1}:=by rw[useL,h,if_pos b,if_neg c]
theorem kVq {l:List Flt} {a:Acs} (h:hitN l a=l.length):useL l a=l:=by rw[useL,h,if_neg (Nat.lt_irrefl _)]
def kLX (w:Int):Int:=if w=1 then 255 else if w=2 then 65535 else if w=4 then 4294967295 else 18446744073709551615
theorem kWI {w:Int} (h:isW w):(18446744073709551615:Int).fdiv (2^min (64-8* w).toNat IntKind.u64.bits)=kLX w:=by
 rcases h with rfl|rfl|rfl|rfl<;>decide
theorem kVI {w:Int} (h:isW w):0≤kLX w∧kLX w≤18446744073709551615:=by
 rcases h with rfl|rfl|rfl|rfl<;>decide
theorem kVr {S:World→Prop} {p:Nat} {a b c d:Value} (h: ∀w,S w→ ∀j v,[a,b,c,d][j]?=some v→w.cell? ⟨p,0+j,none⟩=some v): ∀w,S w→ ∀j v,[b,c][j]?=some v→w.cell? ⟨p,0+1+j,none⟩=some v:=fun w g j v f=>by
 have e:0+1+j=0+(j+1):=by omega
 rw[e];refine h w g (j+1) v ?_
 match j,f with
 |0,f=>exact f
 |1,f=>exact f
def lvM (s:BS) (a:Acs):Bool:=match fnd s a.space a.addr with
 |some i=>s.en.getD (mh (s.sp a.space.toNat).hs i).own.toNat false&&decide (a.addr+a.width-1≤(mh (s.sp a.space.toNat).hs i).lst)
 |none=>false
def flM (s:BS) (a:Acs):Bool:=lvM s a&&decide (hitN s.fl a<s.fl.length)
def stF (s:BS) (a:Acs):BS:=if lvM s a=true then {s with fl:=useL s.fl a} else s
def setM (s:BS) (m i:Nat) (h:MH):BS:={s with sps:=s.sps.set m {s.sp m with hs:=(s.sp m).hs.set i h}}
def fi (s:BS) (a:Acs):Nat:=(fnd s a.space a.addr).getD 0
def fh (s:BS) (a:Acs):MH:=mh (s.sp a.space.toNat).hs (fi s a)
def wrH (h:MH) (a:Acs) (A:Option Addr) (c:Nat):MH:={h with A:=A,c:=c,bs:=wrK (raw0 h) (a.addr-h.base).toNat a.val a.width.toNat}
def wrs (s:BS) (a:Acs):Prop:=a.wr=true∧lvM s a=true∧flM s a=false
instance(s:BS) (a:Acs):Decidable (wrs s a):=inferInstanceAs (Decidable (_∧_∧_))
def stW (s:BS) (a:Acs) (A:Option Addr) (c:Nat):BS:=if wrs s a then setM (stF s a) a.space.toNat (fi s a) (wrH (fh s a) a A c) else stF s a
def vlM (s:BS) (a:Acs):Int:=if a.wr=true then ((a.val.toNat&&&(kLX a.width).toNat:Nat):Int) else if lvM s a=true then (if flM s a=true then 0 else rdL (fh s a).bs (a.addr-(fh s a).base).toNat a.width.toNat) else kLX a.width
def rec (s:BS) (a:Acs):Trc:=⟨{a with val:=vlM s a},ownM s a.space a.addr,lvM s a,flM s a⟩
def accS (s:BS) (a:Acs) (A:Option Addr) (c:Nat) (tA:Option Addr) (tc:Nat):BS:={stW s a A c with tA:=tA,tc:=tc,tr:=s.tr++[rec s a]}
def accV (s:BS) (a:Acs):Int:=if flM s a=true then 0 else if a.wr=true then 0 else vlM s a
def accE (s:BS) (a:Acs):Int:=if flM s a=true then 15 else 0
theorem kUI {s:BS} {a:Acs} (h:fnd s a.space a.addr=none):lvM s a=false:=by rw[lvM,h]
theorem kTn {s:BS} {a:Acs} {i:Nat} (h:fnd s a.space a.addr=some i):fi s a=i:=by rw[fi,h];rfl
theorem kTb {s:BS} {a:Acs} {m i:Nat} (b:a.space=m) (h:fnd s m a.addr=some i):lvM s a=(s.en.getD (mh (s.sp m).hs i).own.toNat false&&decide (a.addr+a.width-1≤(mh (s.sp m).hs i).lst)):=by
 rw[lvM,b,h];rfl
theorem kUJ {s:BS} {a:Acs} (f:s.ok) (h:lvM s a=true): ∃(m i:Nat),a.space=(m:Int)∧m<3∧fnd s m a.addr=some i∧i<(s.sp m).hs.length∧(mh (s.sp m).hs i).base≤a.addr∧a.addr+a.width-1≤(mh (s.sp m).hs i).lst∧s.en.getD (mh (s.sp m).hs i).own.toNat false=true∧fh s a=mh (s.sp m).hs i∧fi s a=i:=by
 by_cases c:fptr s a.space a.addr=none
 ·rw[kUI (kF7 c)] at h;cases h
 ·obtain⟨m,i,e,g,b,j,k,l⟩:=kC5 f c;rw[kTb e b,qg,qj] at h;have d:fi s a=i:=kTn (by rw[e];exact b);exact⟨m,i,e,g,b,j,k,h.2,h.1,by rw[fh,d,e];rfl,d⟩
theorem kLY {s:BS} {a:Acs} (h:lvM s a=true):stF s a={s with fl:=useL s.fl a}:=if_pos h
theorem kVs {s:BS} {a:Acs} (h:lvM s a=false):stF s a=s:=if_neg (by rw[h];decide)
theorem kUK (s:BS) (a:Acs):(stF s a).sps=s.sps:=by unfold stF;split<;>rfl
theorem kUL (s:BS) (a:Acs):(stF s a).en=s.en:=by unfold stF;split<;>rfl
theorem kV8 (s:BS) (a:Acs):(stF s a).tr=s.tr∧(stF s a).tA=s.tA∧(stF s a).tc=s.tc:=by unfold stF;split<;>exact⟨rfl,rfl,rfl⟩
theorem kUM {s:BS} {a:Acs} (h:s.wf):(stF s a).wf:=⟨by rw[kUK];exact h.sp,by rw[kUL];exact h.en⟩
theorem kVt {s:BS} {a:Acs} {A:Option Addr} {c:Nat} (h:s.wf):(stW s a A c).wf:=by
 unfold stW;split
 ·exact⟨by show((stF s a).sps.set _ _).length=3;rw[qI];exact(kUM h).sp,(kUM h).en⟩
 ·exact kUM h
theorem kVu (s:BS) (a:Acs) (A:Option Addr) (c:Nat):(stW s a A c).tr=s.tr∧(stW s a A c).tA=s.tA∧(stW s a A c).tc=s.tc:=by
 unfold stW;split
 ·exact kV8 s a
 ·exact kV8 s a
theorem kVJ {v w:Int} (h0:isU v) (a:isW w):IntKind.u64.wrap ((BitVec.ofInt IntKind.u64.bits v&&&BitVec.ofInt IntKind.u64.bits (kLX w)).toNat)=((v.toNat&&&(kLX w).toNat:Nat):Int):=by
 have:=kVI a;exact kVG h0.1 h0.2 this.1 this.2
section
variable {I0:Ids} {w0 w:World} {B0:Assn} {R:List Assn} {sps:List Sp} {m i:Nat}
theorem kSV {q:Sp} {h0:MH} (h:Hp I0 w0 (B0::Big spA sps::R) w) (b:m<sps.length) (d:sps.getD m spD=q) (a:i<q.hs.length) (e:q.hs.getD i mhD=h0):
 Hp I0 w0 (mhL h0++(B0::OS 280 ptrK q.A q.c (q.hs.map fun h=>some h.p)::Big mhA (q.hs.eraseIdx i)::Big spA (sps.eraseIdx m)::R)) w:=by
 subst d;subst e;have f:=kHb h b;have g:=f.focus mhD (k:=2) rfl a;have j:=g.splice (k:=2) (A:=mhA ((sps.getD m spD).hs.getD i mhD)) (M:=mhL ((sps.getD m spD).hs.getD i mhD)) rfl fun i a=>a;refine j.perm (List.Perm.append_left _ ?_);show(B0::OS 280 ptrK _ _ _::Big spA (sps.eraseIdx m)::(R++[Big mhA _])).Perm _;refine List.Perm.cons _ (List.Perm.cons _ ?_)
 grind [qi]
theorem kQd {q:Sp} {h0 h':MH} (h:Hp I0 w0 (mhL h'++(B0::OS 280 ptrK q.A q.c (q.hs.map fun h=>some h.p)::Big mhA (q.hs.eraseIdx i)::Big spA (sps.eraseIdx m)::R)) w) (e:m<sps.length) (a:i<q.hs.length) (f:h'.p=(q.hs.getD i mhD).p):
 Hp I0 w0 (B0::Big spA (sps.set m {q with hs:=q.hs.set i h'})::R) w:=by
 have b:Hp I0 w0 (mhA h'::(B0::OS 280 ptrK q.A q.c (q.hs.map fun h=>some h.p)::Big mhA (q.hs.eraseIdx i)::Big spA (sps.eraseIdx m)::R)) w:=Hp.bundle (M:=mhL h') h fun i a=>a;have d:(mhA h'::(B0::OS 280 ptrK q.A q.c (q.hs.map fun h=>some h.p)::Big mhA (q.hs.eraseIdx i)::Big spA (sps.eraseIdx m)::R)).Perm
  ((B0::OS 280 ptrK q.A q.c (q.hs.map fun h=>some h.p)::mhA h'::Big spA (sps.eraseIdx m)::R)++[Big mhA (q.hs.eraseIdx i)]):=by
  refine(List.Perm.swap _ _ _).trans (List.Perm.cons _ ((List.Perm.swap _ _ _).trans (List.Perm.cons _ (List.Perm.cons _ ?_))));exact(List.Perm.swap _ _ _).trans (List.Perm.cons _ (qi _ _).symm)
 have g:=(b.perm d).unfocus (k:=2) rfl a
 grind [List.map_set,kDO,kGh]
end
theorem kJj (s:BS) {m:Nat} (i:Nat) (h:MH) (a:m<s.sps.length):busC (setM s m i h)=busC s:=by
 grind [List.map_set,kDO,busC,setM]
theorem kJk (b:Nat) (s:BS) {m:Nat} (i:Nat) (h:MH) (a:m<s.sps.length):busL b (setM s m i h)=[Blk b (.cells (busC s).toArray 168 (0,0)),Big spA (s.sps.set m {s.sp m with hs:=(s.sp m).hs.set i h}),OS 411 fltK s.fA s.fc s.fl,OS 381 trcK s.tA s.tc s.tr]:=by
 rw[busL,kJj s i h a];rfl
theorem kTi {s:BS} {a:Acs} (h: ¬wrs s a):stW s a none 0=stF s a:=if_neg h
theorem kVK {s:BS} {a:Acs} {m i:Nat} (h:wrs s a) (b:a.space=m) (d:fi s a=i) (e:fh s a=mh (s.sp m).hs i) (A:Option Addr) (c:Nat):stW s a A c=setM {s with fl:=useL s.fl a} m i (wrH (mh (s.sp m).hs i) a A c):=by
 rw[stW,if_pos h,kLY h.2.1,b,d,e,qh]
theorem vl_w {s:BS} {a:Acs} (h:a.wr=true):vlM s a=((a.val.toNat&&&(kLX a.width).toNat:Nat):Int):=if_pos h
theorem kVL {s:BS} {a:Acs} (h:a.wr=false) (b:lvM s a=false):vlM s a=kLX a.width:=by rw[vlM,if_neg (by rw[h];decide),if_neg (by rw[b];decide)]
theorem kVM {s:BS} {a:Acs} (h:a.wr=false) (b:lvM s a=true) (c:flM s a=true):vlM s a=0:=by rw[vlM,if_neg (by rw[h];decide),if_pos b,if_pos c]
theorem kVN {s:BS} {a:Acs} {m i:Nat} (h:a.wr=false) (c:lvM s a=true) (d:flM s a=false) (b:fh s a=mh (s.sp m).hs i):vlM s a=rdL (mh (s.sp m).hs i).bs (a.addr-(mh (s.sp m).hs i).base).toNat a.width.toNat:=by
 rw[vlM,if_neg (by rw[h];decide),if_pos c,if_neg (by rw[d];decide),b]
end Go.Ios
namespace Go.Ios
theorem kUN {b:Bool} (h:(!b)=true):b=false:=by cases b<;>simp_all
theorem kTo {b:Bool} (h:(!b)=false):b=true:=by cases b<;>simp_all
end Go.Ios
namespace Go.Ios
open Go.Sv
theorem kDR {β:Type} (l:List β) (m k:Nat) (y d:β) (h:m<l.length):(l.set m y).getD k d=if k=m then y else l.getD k d:=by
 grind
theorem kOS {hs:List MH} (b:okS hs) {h:MH} (m:h.ok) (s: ¬busy hs h.base h.len):okS (insL hs (aftM hs h.base) h):=by
 obtain⟨n,C,t⟩:=kBZ hs h.base;have o:(insL hs (aftM hs h.base) h).length=hs.length+1:=kAU h n;have u:=m.r;unfold okR at u;have p: ∀j,j<aftM hs h.base→(mh hs j).lst<h.base:=fun j c=>by grind
 have d: ∀j,aftM hs h.base≤j→j<hs.length→h.lst<(mh hs j).base:=fun j c f=>by
  have g:aftM hs h.base<hs.length:=by omega
  have v:=t g;have w: ¬ovl (mh hs (aftM hs h.base)).base (mh hs (aftM hs h.base)).len h.base h.len:=fun k=>s ⟨g,k⟩;unfold ovl at w;have x:h.base≤(mh hs (aftM hs h.base)).base+((mh hs (aftM hs h.base)).len-1):=v;have D:h.base+(h.len-1)<(mh hs (aftM hs h.base)).base:=by omega
  by_cases e:j=aftM hs h.base
  ·grind
  ·have E:(mh hs (aftM hs h.base)).base+((mh hs (aftM hs h.base)).len-1)<(mh hs j).base:=b.sort _ j (by omega) f;have F:=(b.each _ g).r
   grind [okR]
 have a: ∀k,mh (insL hs (aftM hs h.base) h) k=if k<aftM hs h.base then mh hs k else if k=aftM hs h.base then h else mh hs (k-1):=fun k=>kJe h mhD n k
 refine⟨fun i y=>?_,fun i j l c=>?_⟩
 ·rw[o] at y;rw[a i];split
  ·exact b.each i (by omega)
  ·split
   ·exact m
   ·exact b.each (i-1) (by omega)
 ·rw[o] at c;rw[a i,a j];by_cases q:j<aftM hs h.base
  ·rw[if_pos q,if_pos (by omega)];exact b.sort i j l (by omega)
  ·rw[if_neg q];by_cases z:j=aftM hs h.base
   ·grind
   ·rw[if_neg z];by_cases A:i<aftM hs h.base
    ·grind
    ·rw[if_neg A];by_cases B:i=aftM hs h.base
     ·grind
     ·rw[if_neg B];exact b.sort (i-1) (j-1) (by omega) (by omega)
theorem kCN {s:BS} (a:s.ok) {m:Nat} (b:m<3) (h:MH) (A:Option Addr) (c k:Nat):(mapG s m h A c).sp k=if k=m then ⟨A,c,insL (s.sp m).hs (aftM (s.sp m).hs h.base) h⟩ else s.sp k:=
 kDR _ _ _ _ _ (by rw[a.wf.sp];exact b)
theorem kJl {s:BS} (a:s.ok) {m:Nat} (b:m<3) {h:MH} (g:h.ok) (i: ¬busy (s.sp m).hs h.base h.len) (j:s.total≠256) (A:Option Addr) (c:Nat):(mapG s m h A c).ok:=by
 have l:=kAU h (kBZ (s.sp m).hs h.base).1;have e:=a.tot;have f:=a.max;refine⟨⟨by show(s.sps.set m _).length=3;rw[qI];exact a.wf.sp,a.wf.en⟩,fun k d=>?_,?_,by show s.total+1≤256;omega,a.fl,a.fr,a.tr⟩
 ·rw[kCN a b];split
  ·exact kOS (a.sp m b) g i
  ·exact a.sp k d
 ·rw[kCN a b,kCN a b,kCN a b];show s.total+1=_
  grind
theorem kBM {β:Type} {l:List β} {i:Nat} (d:β) (h:i<l.length) (k:Nat):(delL l i).getD k d=if k<i then l.getD k d else l.getD (k+1) d:=by
 grind [delL]
theorem kUt (l:List Flt) (a:Acs):(useL l a).length≤l.length:=by
 unfold useL;split
 ·rename_i h;split
  ·rw[kCM h];omega
  ·rw[qI];omega
 ·exact qU _
def okF (f:Flt):Prop:=isU f.base∧okR f.base f.len∧1≤f.cnt∧f.cnt≤64
theorem kVO {l:List Flt} {a:Acs} (h: ∀i,i<l.length→okF (l.getD i fltK.d)): ∀i,i<(useL l a).length→okF ((useL l a).getD i fltK.d):=by
 unfold useL;split
 ·rename_i b;split
  ·intro i c;rw[kCM b] at c;rw[kBM _ b];split
   ·exact h i (by omega)
   ·exact h (i+1) (by omega)
  ·rename_i g;intro i c;rw[qI] at c;rw[kDR _ _ _ _ _ b];split
   ·obtain⟨e,f,j,k⟩:=h _ b;exact⟨e,f,by show 1≤(l.getD (hitN l a) fltK.d).cnt-1;omega,by show(l.getD (hitN l a) fltK.d).cnt-1≤64;omega⟩
   ·exact h i c
 ·exact h
theorem kVv {s:BS} (b:s.ok) (a:Acs):(stF s a).ok:=by
 unfold stF;split
 ·exact⟨⟨b.wf.sp,b.wf.en⟩,b.sp,b.tot,b.max,qk (kUt _ _) b.fl,kVO b.fr,b.tr⟩
 ·exact b
theorem kBt {s:BS} {m:Nat} (a:m<s.sps.length) (i:Nat) (h:MH) (k:Nat):(setM s m i h).sp k=if k=m then {s.sp m with hs:=(s.sp m).hs.set i h} else s.sp k:=kDR _ _ _ _ _ a
theorem kOT {s:BS} (b:s.ok) {m i:Nat} (o:m<3) (q:i<(s.sp m).hs.length) {h:MH} (r:h.ok) (u:h.base=(mh (s.sp m).hs i).base) (v:h.len=(mh (s.sp m).hs i).len):(setM s m i h).ok:=by
 have c:m<s.sps.length:=by rw[b.wf.sp];exact o
 have a: ∀k,((setM s m i h).sp k).hs.length=(s.sp k).hs.length:=fun k=>by
  grind [kBt]
 refine⟨⟨by show(s.sps.set m _).length=3;rw[qI];exact b.wf.sp,b.wf.en⟩,fun k d=>?_,?_,b.max,b.fl,b.fr,b.tr⟩
 ·rw[kBt c];split
  ·have p:=b.sp m o;have t: ∀j,mh ((s.sp m).hs.set i h) j=if j=i then h else mh (s.sp m).hs j:=fun j=>kDR _ _ _ _ _ q
   have e: ∀j,(mh ((s.sp m).hs.set i h) j).base=(mh (s.sp m).hs j).base∧(mh ((s.sp m).hs.set i h) j).len=(mh (s.sp m).hs j).len:=fun j=>by
    grind
   refine⟨fun j w=>?_,fun j l f x=>?_⟩
   ·have g:j<(s.sp m).hs.length:=by grind
    show(mh ((s.sp m).hs.set i h) j).ok;rw[t j];split
    ·exact r
    ·exact p.each j g
   ·have n:l<(s.sp m).hs.length:=by grind
    show(mh ((s.sp m).hs.set i h) j).base+((mh ((s.sp m).hs.set i h) j).len-1)<(mh ((s.sp m).hs.set i h) l).base;rw[(e j).1,(e j).2,(e l).1];exact p.sort j l f n
  ·exact b.sp k d
 ·rw[a 0,a 1,a 2];exact b.tot
theorem kQe {h:MH} (d:h.ok) {a:Acs} {A:Option Addr} {c:Nat} (e:A≠none) (k:h.base≤a.addr) (f:a.addr+a.width-1≤h.lst) (l:1≤a.width):(wrH h a A c).ok:=by
 have g:=d.b;have m:=kF8 d;unfold isU at g;have j:a.addr+a.width-1≤h.base+(h.len-1):=f;refine⟨d.b,d.r,d.o1,d.o2,.inr ⟨?_,e⟩,fun i=>?_⟩
 ·show(wrK _ _ _ _).length=h.len.toNat
  grind [kBL]
 ·show 0≤byt (wrK _ _ _ _) i∧byt (wrK _ _ _ _) i≤255;rw[kGi _ (by grind),kHc];split
  ·exact kQb _ _
  ·exact d.y i
theorem kVP {s:BS} (e:s.ok) {a:Acs} (r:wfA a) {A:Option Addr} {c:Nat} (t:wrs s a→A≠none) (tA:Option Addr) (tc:Nat) (w:s.tr.length≠65536):(accS s a A c tA tc).ok:=by
 have n:=kVv e a;have b:(stW s a A c).ok:=by
  unfold stW;split
  ·rename_i o;obtain⟨m,i,f,p,x,q,g,h,u,j,k⟩:=kUJ e o.2.1;have d:(stF s a).sp m=s.sp m:=by unfold BS.sp;rw[kUK]
   rw[f,k,j,qh];have l:1≤a.width:=by have:=r.1;unfold isW at this;omega
   exact kOT n p (by rw[d];exact q) (kQe ((e.sp m p).each i q) (t o) g h l) (by rw[d];rfl) (by rw[d];rfl)
  ·exact n
 have v:=e.tr;exact⟨⟨b.wf.sp,b.wf.en⟩,b.sp,b.tot,b.max,b.fl,b.fr,by show(s.tr++[rec s a]).length≤65536;rw[qD];simp;omega⟩
theorem kVw (s:BS) (a:Acs) (A:Option Addr) (c:Nat) (tA:Option Addr) (tc:Nat):(accS s a A c tA tc).en=s.en∧(accS s a A c tA tc).fl=(if lvM s a=true then useL s.fl a else s.fl)∧(accS s a A c tA tc).tr=s.tr++[rec s a]:=by
 refine⟨?_,?_,rfl⟩
 ·show(stW s a A c).en=_;unfold stW;split
  ·exact kUL s a
  ·exact kUL s a
 ·show(stW s a A c).fl=_;have b:(stF s a).fl=(if lvM s a=true then useL s.fl a else s.fl):=by unfold stF;split<;>rfl
  unfold stW;split
  ·exact b
  ·exact b
def unmG (s:BS) (m i:Nat):BS:={s with sps:=s.sps.set m ⟨(s.sp m).A,(s.sp m).c,delL (s.sp m).hs i⟩,total:=s.total-1}
def unmA (s:BS) (z p0 q0:Int) (m i:Nat):Prop:=z=(m:Int)∧m<3∧i<(s.sp m).hs.length∧(mh (s.sp m).hs i).base=p0∧(mh (s.sp m).hs i).len=q0
end Go.Ios
set_option linter.unusedSectionVars false
namespace Go.Ios
open Go.Sv
structure RH where
 sp:Int
 base:Int
 len:Int
 own:Int
 A:Option Addr
 c:Nat
 bs:List Int
def rhK:Enc RH where
 f r:=[.int .i64 r.sp,.int .u64 r.base,.int .u64 r.len,.int .i64 r.own,.slice r.A r.bs.length r.c]
 sz:=5
 d:=⟨0,0,0,0,none,0,[]⟩
 len _:=rfl
 pos:=by decide
 one r v hv:=by simp at hv;rcases hv with rfl|rfl|rfl|rfl|rfl<;>rfl
def rhA (r:RH):Assn:=OS 5 (intK .u8) r.A r.c r.bs
structure RB where
 mA:Option Addr
 mc:Nat
 ms:List RH
 en:List Bool
 fA:Option Addr
 fc:Nat
 fl:List Flt
 tA:Option Addr
 tc:Nat
 tr:List Trc
def rbC (s:RB):List Value:=Value.slice s.mA s.ms.length s.mc::(s.en.map Value.bool++[Value.slice s.fA s.fl.length s.fc,Value.slice s.tA s.tr.length s.tc])
def rbL (b:Nat) (s:RB):List Assn:=[Blk b (.cells (rbC s).toArray 117 (0,0)),OS 313 rhK s.mA s.mc s.ms,Big rhA s.ms,OS 510 fltK s.fA s.fc s.fl,OS 381 trcK s.tA s.tc s.tr]
abbrev rh (ms:List RH) (i:Nat):RH:=ms.getD i rhK.d
structure RH.ok (q:RH):Prop where
 s1:0≤q.sp
 s2:q.sp<3
 b:isU q.base
 r:okR q.base q.len
 o1:0≤q.own
 o2:q.own<256
 l:q.bs.length=q.len.toNat
 y: ∀i,0≤q.bs.getD i 0∧q.bs.getD i 0≤255
structure RB.ok (s:RB):Prop where
 en:s.en.length=256
 each: ∀i,i<s.ms.length→(rh s.ms i).ok
 max:s.ms.length≤256
 fl:s.fl.length≤1000
 fr: ∀i,i<s.fl.length→isU (s.fl.getD i fltK.d).base∧okR (s.fl.getD i fltK.d).base (s.fl.getD i fltK.d).len∧0≤(s.fl.getD i fltK.d).cnt∧(s.fl.getD i fltK.d).cnt≤64
 tr:s.tr.length≤65536
section
variable {s:RB} (h:s.en.length=256)
include h
theorem kDt:(rbC s).length=259:=by simp[rbC,h]
theorem kGj:(rbC s)[0]?=some (.slice s.mA s.ms.length s.mc):=rfl
theorem kT5 {m:Nat} (b:m<256):(rbC s)[0+1+m* 1]?=some (.bool (s.en.getD m false)):=by
 have a:m<s.en.length:=by rw[h];exact b
 have c:0+1+m* 1=m+1:=by omega
 rw[rbC,c,List.getElem?_cons_succ,List.getElem?_append,qE,if_pos a];simp[List.getD,a]
theorem kF9 {o:Nat} {v:Value} {a:RB} (b:o<259) (e:(rbC s).set o v=rbC a):((rbC s).toArray.toList.take o++[v]++(rbC s).toArray.toList.drop (o+[v].length)).toArray=(rbC a).toArray:=by
 show((rbC s).take o++[v]++(rbC s).drop (o+[v].length)).toArray=_;rw[kF6 _ _ _ (by rw[kDt h];exact b),e]
theorem kJm (A:Option Addr) (c:Nat) (l:List RH):(rbC s).set 0 (.slice A l.length c)=rbC {s with mA:=A,mc:=c,ms:=l}:=rfl
theorem kOU {m:Nat} (a:m<256) (v:Bool):(rbC s).set (0+1+m* 1) (.bool v)=rbC {s with en:=s.en.set m v}:=by
 have b:m<s.en.length:=by rw[h];exact a
 have c:0+1+m* 1=m+1:=by omega
 rw[rbC,c,List.set_cons_succ,List.set_append,qE,if_pos b];simp[rbC,List.map_set]
end
def hasR (b l x:Int):Prop:=b≤x∧x-b<l
instance(b l x:Int):Decidable (hasR b l x):=inferInstanceAs (Decidable (_∧_))
def ovR (b l b2 l2:Int):Prop:=hasR b l b2∨hasR b2 l2 b
instance(b l b2 l2:Int):Decidable (ovR b l b2 l2):=inferInstanceAs (Decidable (_∨_))
def hitR (ms:List RH) (z x:Int) (i:Nat):Prop:=(rh ms i).sp=z∧hasR (rh ms i).base (rh ms i).len x
instance(ms:List RH) (z x:Int) (i:Nat):Decidable (hitR ms z x i):=inferInstanceAs (Decidable (_∧_))
def fR (ms:List RH) (z x:Int):Int:=match (List.range ms.length).find? (fun i=>decide (hitR ms z x i)) with
 |some i=>i
 |none=> -1
theorem rngR {w:World} {A:Option Addr} {ms:List RH} (h:RS w rhK A ms) {i:Nat} (b:i<ms.length): ∀j v,[Value.int .u64 (rh ms i).base,Value.int .u64 (rh ms i).len][j]?=some v→w.cell? ⟨bk A,of A+i* 5+1+j,none⟩=some v
 |0,v,a=>h.cell (j:=1) b a
 |1,v,a=>h.cell (j:=2) b a
 |j+2,v,a=>by simp at a
def ownR (ms:List RH) (z x:Int):Int:=if 0≤fR ms z x then (rh ms (fR ms z x).toNat).own else -1
def setB (s:RB) (i:Nat) (l:List Int):RB:={s with ms:=s.ms.set i {s.ms.getD i rhK.d with bs:=l}}
section
variable {I0:Ids} {w0 w:World} {b:Nat} {s:RB} {i:Nat}
end
def lvC (l:List Flt):Nat→Nat
 |0=>0
 |j+1=>lvC l j+if 0<(l.getD j fltK.d).cnt then 1 else 0
def rflt (s:RB) (f:Flt) (A:Option Addr) (c:Nat):RB:={s with fA:=A,fc:=c,fl:=s.fl++[f]}
def hitG (f:Flt) (a:Acs):Prop:=0<f.cnt∧f.space=a.space∧ovR f.base f.len a.addr a.width
def decF (s:RB) (j:Nat):RB:={s with fl:=s.fl.set j {s.fl.getD j fltK.d with cnt:=(s.fl.getD j fltK.d).cnt-1}}
def rnew (z p0 q0 o:Int) (A:Option Addr):RH:=⟨z,p0,q0,o,A,q0.toNat,List.replicate q0.toNat 0⟩
def radd (s:RB) (r:RH) (A:Option Addr) (c:Nat):RB:={s with mA:=A,mc:=c,ms:=s.ms++[r]}
def kDK (ms:List RH) (z p0 q0:Int) (i:Nat):Prop:=(rh ms i).sp=z∧ovR (rh ms i).base (rh ms i).len p0 q0
theorem addR {I0:Ids} {w0 w:World} {B0 a b d:Assn} {ms:List RH} {r:RH} (h:Hp I0 w0 [B0,a,Big rhA ms,b,d,OS 5 (intK .u8) r.A r.c r.bs] w):Hp I0 w0 [B0,a,Big rhA (ms++[r]),b,d] w:=by
 have g:Hp I0 w0 ([rhA r,Big rhA ms]++[B0,a,b,d]) w:=h.sel [5,2,0,0,0,0] rfl;have j:=g.bundle (A:=Big rhA (ms++[r])) fun i k=>by
  obtain⟨l,m,hI,n,o,y,z,p,q,s,t⟩:=k;have f:Sep (rhA r::ms.map rhA) i w:=⟨l,m,hI,n,o,s.ext fun x=>by rw[p x];exact⟨.inl,fun e=>e.elim id fun u=>absurd u (t x)⟩⟩
  have v:(r::ms).Perm (ms++[r]):=(qi r ms).symm;exact Sep.perm (v.map rhA) f
 exact j.sel [1,1,0,0,0] rfl
def rdel (s:RB) (j:Nat) (A:Option Addr) (c:Nat):RB:={s with mA:=A,mc:=c,ms:=delL s.ms j}
def wrD (l:List Int) (o:Nat) (v:Int) (n:Nat):Nat→List Int
 |0=>l
 |j+1=>(wrD l o v n j).set (o+(n-(j+1))) (byo v (n-(j+1)))
def mskV (a:Acs):Int:=((a.val.toNat&&&(kLX a.width).toNat:Nat):Int)
def rlv (s:RB) (a:Acs):Prop:=0≤fR s.ms a.space a.addr∧fR s.ms a.space a.addr=fR s.ms a.space (a.addr+(a.width-1))∧s.en.getD (rh s.ms (fR s.ms a.space a.addr).toNat).own.toNat false=true
instance(s:RB) (a:Acs):Decidable (rlv s a):=inferInstanceAs (Decidable (_∧_∧_))
def rtr (s:RB) (t:Trc) (A:Option Addr) (c:Nat):RB:={s with tA:=A,tc:=c,tr:=s.tr++[t]}
structure RAx (s:RB) (a:Acs) (s2:RB) (v:Int) (lv fl:Bool):Prop where
 live:lv=decide (rlv s a)
 dead:lv=false→s2=s∧fl=false∧v=if a.wr=true then mskV a else kLX a.width
 fail:lv=true→fl=true→(∃j:Nat,j<s.fl.length∧hitG (s.fl.getD j fltK.d) a∧(∀k,k<j→ ¬hitG (s.fl.getD k fltK.d) a)∧s2=decF s j)∧v=if a.wr=true then mskV a else 0
 good:lv=true→fl=false→(∀k,k<s.fl.length→ ¬hitG (s.fl.getD k fltK.d) a)∧ ∃i:Nat,fR s.ms a.space a.addr=i∧i<s.ms.length∧(if a.wr=true then v=mskV a∧s2=setB s i (wrD (s.ms.getD i rhK.d).bs (a.addr-(s.ms.getD i rhK.d).base).toNat (mskV a) a.width.toNat a.width.toNat) else v=rdL (s.ms.getD i rhK.d).bs (a.addr-(s.ms.getD i rhK.d).base).toNat a.width.toNat∧s2=s)
 tr:s2.tr=s.tr∧s2.tA=s.tA∧s2.tc=s.tc∧s2.en=s.en
structure RFx (s:RB) (a:Acs) (f:Bool) (s2:RB):Prop where
 yes:f=true→ ∃j:Nat,j<s.fl.length∧hitG (s.fl.getD j fltK.d) a∧(∀k,k<j→ ¬hitG (s.fl.getD k fltK.d) a)∧s2=decF s j
 no:f=false→(∀k,k<s.fl.length→ ¬hitG (s.fl.getD k fltK.d) a)∧s2=s
section
variable {s:RB} {a:Acs} {i j:Nat}
variable {I0:Ids} {w0 w:World} {b:Nat} {X Y:Assn}
end
theorem kOV {a:Nat} {x y o:Int} (b:isU x) (c:okR x y) (d:0≤o) (e:o<256):(⟨a,x,y,o,none,0,[]⟩:MH).ok:=⟨b,c,d,e,.inl ⟨rfl,rfl⟩,fun i=>by simp⟩
def pkM (s:BS) (z x:Int):Int:=match fnd s z x with
 |some i=>byt (mh (s.sp z.toNat).hs i).bs (x-(mh (s.sp z.toNat).hs i).base).toNat
 |none=>0
theorem kJn {s:BS} {m i:Nat} {x:Int} (h:fnd s m x=some i):pkM s m x=byt (mh (s.sp m).hs i).bs (x-(mh (s.sp m).hs i).base).toNat:=by rw[pkM,h];rfl
def ownH (hs:List MH) (x:Int):Int:=match kDJ hs x with
 |some i=>(mh hs i).own
 |none=> -1
theorem kJo {hs:List MH} (h:okS hs) {x:Int} {i:Nat} (a:i<hs.length) (b:(mh hs i).base≤x) (c:x≤(mh hs i).lst):ownH hs x=(mh hs i).own:=by rw[ownH,kC4 h a b c]
theorem kEW {hs:List MH} (h:okS hs) (x:Int):(ownH hs x= -1∧ ∀i,i<hs.length→ ¬((mh hs i).base≤x∧x≤(mh hs i).lst))∨ ∃i,i<hs.length∧(mh hs i).base≤x∧x≤(mh hs i).lst∧ownH hs x=(mh hs i).own:=by
 cases a:kDJ hs x with
 |none=>exact .inl ⟨by rw[ownH,a],fun i b=>kIX h a b⟩
 |some i=>have:=kD8 a;exact .inr ⟨i,this.1,this.2.1,this.2.2,by rw[ownH,a]⟩
theorem kLb {hs:List MH} (a:okS hs) {p n:Int} (q:1≤n):busy hs p n↔ ∃x,p≤x∧x<p+n∧ ¬ownH hs x= -1:=by
 obtain⟨s,d,c⟩:=kBZ hs p;constructor
 ·rintro⟨ha,hv⟩;unfold ovl at hv;have f:=(a.each _ ha).r;have g:=(a.each _ ha).o1;unfold okR at f;have h:p≤(mh hs (aftM hs p)).base+((mh hs (aftM hs p)).len-1):=c ha;refine⟨max p (mh hs (aftM hs p)).base,by omega,by omega,?_⟩;rw[kJo a ha (by omega) (by show max p _≤(mh hs (aftM hs p)).base+((mh hs (aftM hs p)).len-1);omega)];omega
 ·rintro⟨x,hx1,hx2,hx3⟩;rcases kEW a x with ⟨e,_⟩|⟨i,j,h,t,e⟩
  ·exact absurd e hx3
  ·have k:aftM hs p≤i:=by
    rcases Nat.lt_or_ge i (aftM hs p) with b|b
    ·have:=d i b;omega
    ·exact b
   have l:(mh hs (aftM hs p)).base≤(mh hs i).base:=by
    by_cases m:aftM hs p=i
    ·rw[m];exact Int.le_refl _
    ·have u:(mh hs (aftM hs p)).base+((mh hs (aftM hs p)).len-1)<(mh hs i).base:=a.sort _ i (by omega) j;have o:=(a.each (aftM hs p) (by omega)).r;unfold okR at o;omega
   have v:p≤(mh hs (aftM hs p)).base+((mh hs (aftM hs p)).len-1):=c (by omega);exact⟨by omega,by unfold ovl;omega⟩
structure MI (s:BS) (ow:List Int) (j:Nat):Prop where
 ok:s.ok
 len:ow.length=128
 tot:s.total≤j
 own: ∀x:Nat,x<128→ownH (s.sp 1).hs x=ow.getD x 0-1
structure Op where
 kind:Int
 space:Int
 addr:Int
 len:Int
 width:Int
 own:Int
 wr:Bool
 val:Int
 raw:Bool
def opK:Enc Op where
 f r:=[.int .i64 r.kind,.int .i64 r.space,.int .u64 r.addr,.int .u64 r.len,.int .i64 r.width,.int .i64 r.own,.bool r.wr,.int .u64 r.val,.bool r.raw]
 sz:=9
 d:=⟨0,0,0,0,0,0,false,0,false⟩
 len _:=rfl
 pos:=by decide
 one r v hv:=by simp at hv;rcases hv with rfl|rfl|rfl|rfl|rfl|rfl|rfl|rfl|rfl<;>rfl
structure MZ where
 s:BS
 ow:List Int
structure Tu where
 b:Int
 l:Int
 o:Int
 y:Int
def tuM (h:MH) (x:Int):Tu:=⟨h.base,h.len,h.own,byt h.bs (x-h.base).toNat⟩
def tuR (q:RH) (x:Int):Tu:=⟨q.base,q.len,q.own,byt q.bs (x-q.base).toNat⟩
def inM (s:BS) (z x:Int) (t:Tu):Prop:= ∃(m i:Nat),z=(m:Int)∧m<3∧i<(s.sp m).hs.length∧(mh (s.sp m).hs i).base≤x∧x≤(mh (s.sp m).hs i).lst∧t=tuM (mh (s.sp m).hs i) x
def inR (ms:List RH) (z x:Int) (t:Tu):Prop:= ∃i:Nat,i<ms.length∧hitR ms z x i∧t=tuR (rh ms i) x
def uqR (ms:List RH):Prop:= ∀(i j:Nat) (z x:Int),i<ms.length→j<ms.length→hitR ms z x i→hitR ms z x j→i=j
theorem kJp {s:BS} (e:s.ok) {z x:Int} {t:Tu} (h:inM s z x t): ∃(m i:Nat),z=(m:Int)∧m<3∧fnd s m x=some i∧i<(s.sp m).hs.length∧(mh (s.sp m).hs i).base≤x∧x≤(mh (s.sp m).hs i).lst∧t=tuM (mh (s.sp m).hs i) x:=by
 obtain⟨m,i,rfl,a,b,c,d,f⟩:=h;exact⟨m,i,rfl,a,by rw[kDs a];exact kC4 (e.sp m a) b c d,b,c,d,f⟩
theorem kOX {s:BS} (b:s.ok) {z x:Int} {t:Tu} (h:inM s z x t):ownM s z x=t.o∧pkM s z x=t.y∧(fnd s z x).isSome=true:=by
 obtain⟨m,i,rfl,c,a,d,e,f,rfl⟩:=kJp b h;refine⟨by rw[ownM,a];rfl,by rw[kJn a];rfl,by grind⟩
theorem kOY {β:Type} {l:List β} {i:Nat} (d:β) (h:i<l.length):l.getD i d∈l:=by
 grind
theorem kOZ {β:Type} {l:List β} {y:β} (d:β) (h:y∈l): ∃i,i<l.length∧l.getD i d=y:=by
 obtain⟨i,a,e⟩:=List.getElem_of_mem h;exact⟨i,a,by grind⟩
theorem kJr {s:BS} {z x:Int} {t:Tu}:inM s z x t↔ ∃(m:Nat) (h:MH),z=(m:Int)∧m<3∧h∈(s.sp m).hs∧h.base≤x∧x≤h.lst∧t=tuM h x:=by
 constructor
 ·rintro⟨m,i,hz,hm,a,h1,h2,h3⟩
  grind [kOY]
 ·rintro⟨m,h,hz,hm,hh,h1,h2,h3⟩;obtain⟨i,a,rfl⟩:=kOZ mhD hh;exact⟨m,i,hz,hm,a,h1,h2,h3⟩
theorem kJs {s:BS} (b:s.ok) {m:Nat} (a:m<3) (h:MH) (A:Option Addr) (c:Nat) {z x:Int} {t:Tu}:
 inM (mapG s m h A c) z x t↔(z=m∧h.base≤x∧x≤h.lst∧t=tuM h x)∨inM s z x t:=by
 rw[kJr,kJr];have d:=kFw (s.sp m).hs (aftM (s.sp m).hs h.base) h;constructor
 ·grind [kCN]
 ·rintro(⟨rfl,h3,h4,h5⟩|⟨k,h2,rfl,hk3,hh,h3,h4,h5⟩)
  ·exact⟨m,h,rfl,a,by grind [kCN],h3,h4,h5⟩
  ·refine⟨k,h2,rfl,hk3,?_,h3,h4,h5⟩
   grind [kCN]
theorem kJt {s:BS} (b:s.ok) {m:Nat} (a:m<3) {p n:Int} (g:1≤n):busy (s.sp m).hs p n↔ ∃x t,p≤x∧x<p+n∧inM s m x t:=by
 rw[kLb (b.sp m a) g];constructor
 ·rintro⟨x,h1,h2,h3⟩;rcases kEW (b.sp m a) x with ⟨e,_⟩|⟨i,c,d,f,_⟩
  ·grind
  ·exact⟨x,_,h1,h2,m,i,rfl,a,c,d,f,rfl⟩
 ·rintro⟨x,t,h1,h2,m2,i,e,_,c,d,f,_⟩;obtain rfl:m=m2:=by omega
  refine⟨x,h1,h2,fun h=>?_⟩;rw[kJo (b.sp m a) c d f] at h;have:=((b.sp m a).each i c).o1;omega
theorem okS.uq {hs:List MH} (h:okS hs) {i j:Nat} {x:Int} (a:i<hs.length) (b:j<hs.length) (c:(mh hs i).base≤x) (d:x≤(mh hs i).lst) (e:(mh hs j).base≤x) (f:x≤(mh hs j).lst):i=j:=by
 have g:=kC4 h a c d;have k:=kC4 h b e f
 grind
def upd (m p v:Int) (n:Nat) (z x:Int) (t:Tu):Tu:=if z=m∧p≤x∧x<p+n then {t with y:=byo v (x-p).toNat} else t
theorem kOb {s:BS} (g:s.ok) {m i:Nat} (a:m<3) (l:i<(s.sp m).hs.length) {p v:Int} {n:Nat} (E:(mh (s.sp m).hs i).base≤p) (u:p+n-1≤(mh (s.sp m).hs i).lst) (F:1≤n) (A:Option Addr) (c:Nat) {z x:Int} {t:Tu}:
 inM (setM s m i {mh (s.sp m).hs i with A:=A,c:=c,bs:=wrK (raw0 (mh (s.sp m).hs i)) (p-(mh (s.sp m).hs i).base).toNat v n}) z x t↔ ∃t0,inM s z x t0∧t=upd m p v n z x t0:=by
 have o:m<s.sps.length:=by rw[g.wf.sp];exact a
 have q:=(g.sp m a).each i l;have w:=q.r;unfold okR at w;have y:p+n-1≤(mh (s.sp m).hs i).base+((mh (s.sp m).hs i).len-1):=u;obtain⟨h',b⟩: ∃h',h'=({mh (s.sp m).hs i with A:=A,c:=c,bs:=wrK (raw0 (mh (s.sp m).hs i)) (p-(mh (s.sp m).hs i).base).toNat v n}:MH):=⟨_,rfl⟩
 rw[←b];have key: ∀x,(mh (s.sp m).hs i).base≤x→tuM h' x=upd m p v n m x (tuM (mh (s.sp m).hs i) x):=fun x G=>by
  grind [kGi,kF8,kHc,tuM,upd]
 constructor
 ·rintro⟨k,j,rfl,hk3,hj,g1,g2,rfl⟩;rw[kBt o] at hj g1 g2 ⊢;by_cases e:k=m
  ·subst e;rw[if_pos rfl] at hj g1 g2 ⊢;simp only[qI] at hj;by_cases f:j=i
   ·subst f;have d:mh ((s.sp k).hs.set j h') j=h':=kA1 _ _ _ _ hj;simp only[] at g1 g2 ⊢;rw[d] at g1 g2 ⊢;have B:h'.base=(mh (s.sp k).hs j).base:=by rw[b]
    have C:h'.lst=(mh (s.sp k).hs j).lst:=by rw[b]
    rw[B] at g1;rw[C] at g2;exact⟨_,⟨k,j,rfl,a,hj,g1,g2,rfl⟩,key x g1⟩
   ·have d:mh ((s.sp k).hs.set i h') j=mh (s.sp k).hs j:=kA0 _ _ _ (fun h=>f h.symm);simp only[] at g1 g2 ⊢;rw[d] at g1 g2 ⊢;refine⟨_,⟨k,j,rfl,a,hj,g1,g2,rfl⟩,?_⟩;rw[upd,if_neg fun D=>f ((g.sp k a).uq hj l g1 g2 (by omega) (by grind))]
  ·rw[if_neg e] at hj g1 g2 ⊢;exact⟨_,⟨k,j,rfl,hk3,hj,g1,g2,rfl⟩,by grind [upd]⟩
 ·rintro⟨t0,⟨k,j,rfl,hk3,hj,g1,g2,rfl⟩,rfl⟩;by_cases e:k=m
  ·subst e;by_cases f:j=i
   ·subst f;have d:mh ((setM s k j h').sp k).hs j=h':=by grind [kBt]
    refine⟨k,j,rfl,a,by grind [kBt],?_,?_,?_⟩
    ·grind
    ·grind
    grind
   ·have d:mh ((setM s k i h').sp k).hs j=mh (s.sp k).hs j:=by grind [kBt]
    refine⟨k,j,rfl,a,by grind [kBt],by grind,by grind,?_⟩;rw[d,upd,if_neg fun D=>f ((g.sp k a).uq hj l g1 g2 (by omega) (by grind))]
  ·have d:(setM s m i h').sp k=s.sp k:=by grind [kBt]
   exact⟨k,j,rfl,hk3,by grind,by grind,by grind,by grind [upd]⟩
theorem kBX {β:Type} (l:List β) (q d:β) (k:Nat):(l++[q]).getD k d=if k<l.length then l.getD k d else if k=l.length then q else d:=by
 grind
theorem kOc {ms:List RH} {q:RH} {z x:Int} {t:Tu}:inR (ms++[q]) z x t↔(q.sp=z∧hasR q.base q.len x∧t=tuR q x)∨inR ms z x t:=by
 constructor
 ·rintro⟨i,hi,hh,rfl⟩;unfold hitR rh at hh;rw[qD,List.length_singleton] at hi;unfold rh;rw[kBX] at hh ⊢;by_cases e:i<ms.length
  ·rw[if_pos e] at hh ⊢;exact .inr ⟨i,e,hh,rfl⟩
  grind
 ·rintro(⟨h1,h2,rfl⟩|⟨i,hi,hh,rfl⟩)
  ·refine⟨ms.length,by simp,?_,?_⟩
   ·grind [hitR]
   grind
  ·refine⟨i,by grind,?_,?_⟩
   ·grind [hitR]
   grind
theorem kOd {ms:List RH} (f:uqR ms) {q:RH} (e: ∀(x:Int) (t:Tu),hasR q.base q.len x→ ¬inR ms q.sp x t):uqR (ms++[q]):=by
 intro i j z x g h b a;unfold hitR rh at b a;rw[kBX] at b a;simp only[qD,List.length_singleton] at g h;by_cases d:i<ms.length
 ·rw[if_pos d] at b;by_cases c:j<ms.length
  ·rw[if_pos c] at a;exact f i j z x d c b a
  ·rw[if_neg c,if_pos (by omega)] at a;exact absurd ⟨i,d,by rw[a.1];exact b,rfl⟩ (e x _ a.2)
 ·rw[if_neg d,if_pos (by omega)] at b;by_cases c:j<ms.length
  ·rw[if_pos c] at a;exact absurd ⟨j,c,by rw[b.1];exact a,rfl⟩ (e x _ b.2)
  ·omega
theorem kHg {ms:List RH} {z p n:Int} (d:1≤n) (b: ∀i,i<ms.length→1≤(rh ms i).len):(∃i,i<ms.length∧kDK ms z p n i)↔ ∃x t,p≤x∧x<p+n∧inR ms z x t:=by
 constructor
 ·rintro⟨i,hi,h1,a⟩;have:=b i hi;rcases a with a|a
  ·exact⟨p,_,by omega,by omega,i,hi,⟨h1,a⟩,rfl⟩
  ·exact⟨(rh ms i).base,_,a.1,by have:=a.2;omega,i,hi,⟨h1,by omega,by omega⟩,rfl⟩
 ·rintro⟨x,t,h1,a,i,hi,⟨h3,h4,h5⟩,_⟩;refine⟨i,hi,h3,?_⟩;by_cases c:(rh ms i).base≤p
  ·exact .inl ⟨c,by omega⟩
  ·exact .inr ⟨by omega,by omega⟩
def filt (l:List Flt):List Flt:=l.filter fun f=>decide (0<f.cnt)
structure Rel (s:BS) (r:RB) (n:Nat):Prop where
 sk:s.ok
 rk:r.ok
 uq:uqR r.ms
 lk: ∀z x t,inM s z x t↔inR r.ms z x t
 en:s.en=r.en
 tr:s.tr=r.tr
 tot:s.total=r.ms.length
 fl:s.fl=filt r.fl
 nf:r.fl.length≤n
abbrev kD9 (z p q o:Int):Prop:=(0≤z∧z<3)∧okR p q∧0≤o∧o<256
abbrev kIZ (z p q n:Int):Prop:=(0≤z∧z<3)∧okR p q∧1≤n∧n≤64
section
variable {s:BS} {r:RB} {n:Nat}
theorem Rel.up (R:Rel s r n):Rel s r (n+1):=⟨R.sk,R.rk,R.uq,R.lk,R.en,R.tr,R.tot,R.fl,by have:=R.nf;omega⟩
inductive MapO (s:BS) (z p q o:Int):Int→BS→Prop
 |bad: ¬kD9 z p q o→MapO s z p q o 1 s
 |busy (m:Nat):z=(m:Int)→kD9 z p q o→busy (s.sp m).hs p q→MapO s z p q o 17 s
 |full (m:Nat):z=(m:Int)→kD9 z p q o→ ¬Ios.busy (s.sp m).hs p q→s.total=256→MapO s z p q o 8 s
 |done (m bp:Nat) (A:Option Addr) (c:Nat):z=(m:Int)→kD9 z p q o→ ¬Ios.busy (s.sp m).hs p q→s.total≠256→MapO s z p q o 0 (mapG s m ⟨bp,p,q,o,none,0,[]⟩ A c)
inductive MapR (r:RB) (z p q o:Int):Int→RB→Prop
 |bad: ¬kD9 z p q o→MapR r z p q o 1 r
 |busy:kD9 z p q o→(∃i,i<r.ms.length∧kDK r.ms z p q i)→MapR r z p q o 17 r
 |full:kD9 z p q o→(∀i,i<r.ms.length→ ¬kDK r.ms z p q i)→r.ms.length=256→MapR r z p q o 8 r
 |done (A A2:Option Addr) (c2:Nat):kD9 z p q o→(∀i,i<r.ms.length→ ¬kDK r.ms z p q i)→r.ms.length≠256→MapR r z p q o 0 (radd r (rnew z p q o A) A2 c2)
theorem rlen (a:r.ok): ∀i,i<r.ms.length→1≤(rh r.ms i).len:=fun i b=>by have:=(a.each i b).r;grind [okR]
theorem Rel.busy (R:Rel s r n) {m:Nat} (b:m<3) {p q:Int} (a:1≤q):Ios.busy (s.sp m).hs p q↔ ∃i,i<r.ms.length∧kDK r.ms m p q i:=by
 rw[kJt R.sk b a,kHg a (rlen R.rk)];constructor
 ·rintro⟨x,t,h1,h2,h3⟩;exact⟨x,t,h1,h2,(R.lk _ _ _).1 h3⟩
 ·rintro⟨x,t,h1,h2,h3⟩;exact⟨x,t,h1,h2,(R.lk _ _ _).2 h3⟩
theorem kJu {z p q o:Int} {A:Option Addr} (b:isU p) (a:kD9 z p q o):(rnew z p q o A).ok:=
 ⟨a.1.1,a.1.2,b,a.2.1,a.2.2.1,a.2.2.2,by simp[rnew],fun i=>by grind [rnew]⟩
theorem kJv (a:r.ok) {q:RH} (f:q.ok) (g:r.ms.length≠256) (A:Option Addr) (c:Nat):(radd r q A c).ok:=by
 have:=a.max;refine⟨a.en,fun i h=>?_,by show(r.ms++[q]).length≤256;grind,a.fl,a.fr,a.tr⟩;show((r.ms++[q]).getD i rhK.d).ok;have b:i<r.ms.length+1:=by grind [radd]
 rw[kBX];by_cases e:i<r.ms.length
 ·rw[if_pos e];exact a.each i e
 grind
theorem Rel.map (R:Rel s r n) {z p q o e C:Int} {D:BS} {r2:RB} (E:isU p) (d:MapO s z p q o e D) (a:MapR r z p q o C r2):e=C∧Rel D r2 (n+1):=by
 by_cases g:kD9 z p q o
 ·have j:1≤q:=g.2.1.1;cases d with
  |bad h=>grind
  |busy m i _ f=>
   subst i;have b:=(R.busy (by grind) j).1 f;cases a with
   |bad h=>grind
   |busy _ _=>exact⟨rfl,R.up⟩
   |full _ h _=>grind
   |done _ _ _ _ h _=>grind
  |full m i _ f F=>
   subst i;have b:=fun k=>f ((R.busy (by grind) j).2 k);have l:=R.tot;cases a with
   |bad h=>grind
   |busy _ h=>grind
   |full _ _ _=>exact⟨rfl,R.up⟩
   |done _ _ _ _ _ h=>grind
  |done m G A c i _ f F=>
   subst i;have u:m<3:=by grind
   have b:=fun k=>f ((R.busy u j).2 k);have l:=R.tot;cases a with
   |bad h=>grind
   |busy _ h=>grind
   |full _ _ h=>grind
   |done v J K _ L M=>
    refine⟨rfl,?_⟩;have N:(⟨G,p,q,o,none,0,[]⟩:MH).ok:=kOV E g.2.1 g.2.2.1 g.2.2.2;have w: ∀(x:Int) (t:Tu),hasR p q x→ ¬inR r.ms m x t:=fun x t H y=>b ((kHg j (rlen R.rk)).2 ⟨x,t,H.1,by have:=H.2;omega,y⟩);refine⟨kJl R.sk u N f F A c,kJv R.rk (kJu E g) M J K,kOd R.uq w,fun z x t=>?_,R.en,R.tr,?_,R.fl,by have:=R.nf;show r.fl.length≤n+1;omega⟩
    ·rw[kJs R.sk u];show _↔inR (r.ms++[rnew m p q o v]) z x t;rw[kOc,R.lk];have I:tuM ⟨G,p,q,o,none,0,[]⟩ x=tuR (rnew m p q o v) x:=by
      grind [tuM,tuR,rnew,byt]
     constructor
     ·rintro(⟨d,a,h3,h4⟩|h)
      ·refine .inl ⟨d.symm,⟨a,?_⟩,h4.trans I⟩;have O:x≤p+(q-1):=h3;show x-p<q;omega
      grind
     ·rintro(⟨d,a,h3⟩|h)
      ·have B:p≤x:=a.1;have P:x-p<q:=a.2;exact .inl ⟨d.symm,B,by grind,h3.trans I.symm⟩
      grind
    ·show s.total+1=((r.ms++[rnew m p q o v]).length:Int)
     grind
 ·cases d with
  |bad _=>cases a with
   |bad _=>exact⟨rfl,R.up⟩
   |busy h=>grind
   |full h=>grind
   |done _ _ _ h=>grind
  |busy _ _ h=>grind
  |full _ _ h=>grind
  |done _ _ _ _ _ h=>grind
inductive UnO (s:BS) (z p q:Int):Int→BS→Prop
 |no:(¬ ∃m i:Nat,unmA s z p q m i)→UnO s z p q 6 s
 |yes (m i:Nat):unmA s z p q m i→UnO s z p q 0 (unmG s m i)
inductive UnR (r:RB) (z p q:Int):Int→RB→Prop
 |no:(∀k,k<r.ms.length→ ¬((rh r.ms k).sp=z∧(rh r.ms k).base=p∧(rh r.ms k).len=q))→UnR r z p q 6 r
 |yes (j:Nat) (A:Option Addr) (c:Nat):j<r.ms.length→(rh r.ms j).sp=z∧(rh r.ms j).base=p∧(rh r.ms j).len=q→UnR r z p q 0 (rdel r j A c)
inductive EnO (s:BS) (o:Int) (v:Bool):Int→BS→Prop
 |bad: ¬(0≤o∧o<256)→EnO s o v 1 s
 |done:0≤o∧o<256→EnO s o v 0 {s with en:=s.en.set o.toNat v}
inductive EnR (r:RB) (o:Int) (v:Bool):Int→RB→Prop
 |bad: ¬(0≤o∧o<256)→EnR r o v 1 r
 |done:0≤o∧o<256→EnR r o v 0 {r with en:=r.en.set o.toNat v}
theorem Rel.enb (R:Rel s r n) {o e c:Int} {v:Bool} {d:BS} {r2:RB} (f:EnO s o v e d) (b:EnR r o v c r2):e=c∧Rel d r2 (n+1):=by
 cases f with
 |bad h=>cases b with
  |bad _=>exact⟨rfl,R.up⟩
  |done b=>grind
 |done h=>cases b with
  |bad b=>grind
  |done _=>
   have a:=R.rk;exact⟨rfl,R.sk.en _ _,⟨by show(r.en.set _ _).length=256;rw[qI];exact a.en,a.each,a.max,a.fl,a.fr,a.tr⟩,R.uq,R.lk,by show s.en.set _ _=r.en.set _ _;rw[R.en],R.tr,R.tot,R.fl,R.up.nf⟩
inductive PlO (s:BS) (z p q c:Int):Int→BS→Prop
 |bad: ¬kIZ z p q c→PlO s z p q c 1 s
 |full:kIZ z p q c→s.fl.length=64→PlO s z p q c 8 s
 |done (A:Option Addr) (d:Nat):kIZ z p q c→s.fl.length≠64→PlO s z p q c 0 (fltG s ⟨z,p,q,c⟩ A d)
inductive PlR (r:RB) (z p q c:Int):Int→RB→Prop
 |bad: ¬kIZ z p q c→PlR r z p q c 1 r
 |full:kIZ z p q c→64≤lvC r.fl r.fl.length→PlR r z p q c 8 r
 |done (A:Option Addr) (d:Nat):kIZ z p q c→ ¬64≤lvC r.fl r.fl.length→PlR r z p q c 0 (rflt r ⟨z,p,q,c⟩ A d)
end
structure RI (s:BS) (h:MH) (m:Nat) (B:Int) (o w:Nat) (v:Int) (t:Nat):Prop where
 ok:s.ok
 e:(s.sp m).hs=[h]
 b:h.base=B
 l:h.len=64
 own:h.own=o
 en:s.en.getD o false=true
 fl:s.fl=[]
 tr:s.tr.length≤t
 by': ∀j,j<w→byt h.bs (16+j)=byo v j
structure RZ where
 t:Nat
 s:BS
 h:MH
section
variable {s:BS} {r:RB} {n:Nat} {a:Acs}
structure Both (s:BS) (r:RB) (z x:Int) (m i j:Nat):Prop where
 ez:z=(m:Int)
 lm:m<3
 f:fnd s m x=some i
 li:i<(s.sp m).hs.length
 b1:(mh (s.sp m).hs i).base≤x
 b2:x≤(mh (s.sp m).hs i).lst
 g:fR r.ms z x=j
 lj:j<r.ms.length
 h:hitR r.ms z x j
 eb:(mh (s.sp m).hs i).base=(rh r.ms j).base
 el:(mh (s.sp m).hs i).len=(rh r.ms j).len
 eo:(mh (s.sp m).hs i).own=(rh r.ms j).own
 ey:byt (mh (s.sp m).hs i).bs (x-(mh (s.sp m).hs i).base).toNat=byt (rh r.ms j).bs (x-(rh r.ms j).base).toNat
inductive AccO (s:BS) (a:Acs):Int→Int→BS→Prop
 |bad: ¬wfA a→AccO s a 0 1 s
 |full:wfA a→s.tr.length=65536→AccO s a 0 8 s
 |done (A:Option Addr) (c:Nat) (tA:Option Addr) (tc:Nat):wfA a→s.tr.length≠65536→(wrs s a→A≠none)→AccO s a (accV s a) (accE s a) (accS s a A c tA tc)
inductive AccR (r:RB) (a:Acs):Int→Int→RB→Prop
 |bad: ¬wfA a→AccR r a 0 1 r
 |full:wfA a→65536≤r.tr.length→AccR r a 0 8 r
 |done (r2:RB) (x:Int) (lv fl:Bool) (A:Option Addr) (c:Nat):wfA a→ ¬65536≤r.tr.length→RAx r a r2 x lv fl→AccR r a (if fl=true then 0 else if a.wr=true then 0 else x) (if fl=true then 15 else 0) (rtr r2 ⟨{a with val:=x},ownR r.ms a.space a.addr,lv,fl⟩ A c)
theorem kM5 {s a:BS} (h:a.sps=s.sps) {z x:Int} {t:Tu}:inM a z x t↔inM s z x t:=by
 unfold inM BS.sp;rw[h]
inductive PkO (s:BS) (z x v:Int):Bool→BS→Prop
 |no:fnd s z x=none→PkO s z x v false s
 |yes (m i:Nat) (A:Option Addr) (c:Nat):z=(m:Int)→m<3→fnd s z x=some i→i<(s.sp m).hs.length→A≠none→PkO s z x v true (setM s m i {mh (s.sp m).hs i with A:=A,c:=c,bs:=wrK (raw0 (mh (s.sp m).hs i)) (x-(mh (s.sp m).hs i).base).toNat v 1})
inductive PkR (r:RB) (z x v:Int):Bool→RB→Prop
 |no: ¬0≤fR r.ms z x→PkR r z x v false r
 |yes (i:Nat):fR r.ms z x=i→i<r.ms.length→PkR r z x v true (setB r i ((rh r.ms i).bs.set (x-(rh r.ms i).base).toNat v))
def rb0:RB:=⟨none,0,[],List.replicate 256 false,none,0,[],none,0,[]⟩
theorem Rel.start:Rel bs0 rb0 0 where
 sk:=kJd
 rk:=⟨by show(List.replicate 256 false).length=256;exact qH,fun i hi=>absurd hi (Nat.not_lt_zero _),by show 0≤256;omega,by show 0≤1000;omega,fun i hi=>absurd hi (Nat.not_lt_zero _),by show 0≤65536;omega⟩
 uq i j z x hi:=absurd hi (Nat.not_lt_zero _)
 lk z x t:=by
  constructor
  ·rintro⟨m,i,_,hm,hi,_⟩;have:(bs0.sp m).hs.length=0:=by
    obtain rfl|rfl|rfl:m=0∨m=1∨m=2:=by omega
    ·rfl
    ·rfl
    ·rfl
   omega
  ·rintro⟨i,hi,_⟩;exact absurd hi (Nat.not_lt_zero _)
 en:=rfl
 tr:=rfl
 tot:=rfl
 fl:=rfl
 nf:=qU _
end
end Go.Ios
