/-
  Joined.
-/
import Derived.Test.YtkofjhglgoojiaaGreatDoorP01
set_option linter.unusedSimpArgs false
set_option linter.unusedVariables false
namespace Go.Ios
open Go.Sv
structure MH where
 p:Nat
 base:Int
 len:Int
 own:Int
 A:Option Addr
 c:Nat
 bs:List Int
structure Sp where
 A:Option Addr
 c:Nat
 hs:List MH
structure Flt where
 space:Int
 base:Int
 len:Int
 cnt:Int
structure Acs where
 space:Int
 addr:Int
 width:Int
 wr:Bool
 val:Int
structure Trc where
 a:Acs
 own:Int
 live:Bool
 failed:Bool
def ptrK:Enc (Option Nat) where
 f p:=[.pointer (p.map fun b=>⟨b,0,none⟩)]
 sz:=1
 d:=none
 len _:=rfl
 pos:=by decide
 one r v hv:=by simp at hv;subst hv;rfl
def intK (k:IntKind):Enc Int where
 f n:=[.int k n]
 sz:=1
 d:=0
 len _:=rfl
 pos:=by decide
 one r v hv:=by simp at hv;subst hv;rfl
def fltK:Enc Flt where
 f r:=[.int .i64 r.space,.int .u64 r.base,.int .u64 r.len,.int .i64 r.cnt]
 sz:=4
 d:=⟨0,0,0,0⟩
 len _:=rfl
 pos:=by decide
 one r v hv:=by simp at hv;rcases hv with rfl|rfl|rfl|rfl<;>rfl
def trcK:Enc Trc where
 f r:=[.int .i64 r.a.space,.int .u64 r.a.addr,.int .i64 r.a.width,.bool r.a.wr,.int .u64 r.a.val,.int .i64 r.own,.bool r.live,.bool r.failed]
 sz:=8
 d:=⟨⟨0,0,0,false,0⟩,0,false,false⟩
 len _:=rfl
 pos:=by decide
 one r v hv:=by simp at hv;rcases hv with rfl|rfl|rfl|rfl|rfl|rfl|rfl|rfl<;>rfl
def All (M:List Assn):Assn where
 sat w I:=Sep M I w
 lt h x hx:=h.lt x hx
 keep h hk:=h.keep hk
def mC (h:MH):List Value:=[.int .u64 h.base,.int .u64 h.len,.int .i64 h.own,.slice h.A h.bs.length h.c]
def mhL (h:MH):List Assn:=[Blk h.p (.cells (mC h).toArray 210 (0,0)),OS 5 (intK .u8) h.A h.c h.bs]
def mhA (h:MH):Assn:=All (mhL h)
def mhD:MH:=⟨0,0,0,0,none,0,[]⟩
def spL (s:Sp):List Assn:=[OS 211 ptrK s.A s.c (s.hs.map fun h=>some h.p),Big mhA s.hs]
def spA (s:Sp):Assn:=All (spL s)
def spD:Sp:=⟨none,0,[]⟩
structure BS where
 sps:List Sp
 total:Int
 en:List Bool
 fA:Option Addr
 fc:Nat
 fl:List Flt
 tA:Option Addr
 tc:Nat
 tr:List Trc
def busC (s:BS):List Value:=s.sps.map (fun p=>Value.slice p.A p.hs.length p.c)++(Value.int .i64 s.total::(s.en.map Value.bool++[Value.slice s.fA s.fl.length s.fc,Value.slice s.tA s.tr.length s.tc]))
def busL (b:Nat) (s:BS):List Assn:=[Blk b (.cells (busC s).toArray 106 (0,0)),Big spA s.sps,OS 458 fltK s.fA s.fc s.fl,OS 456 trcK s.tA s.tc s.tr]
structure BS.wf (s:BS):Prop where
 sp:s.sps.length=3
 en:s.en.length=256
abbrev BS.sp (s:BS) (m:Nat):Sp:=s.sps.getD m spD
section
variable {s:BS} (h:s.wf)
include h
theorem busC_len:(busC s).length=262:=by simp[busC,h.sp,h.en]
theorem busC_sp {m:Nat} (hm:m<3):(busC s)[0+m* 1]?=some (.slice (s.sp m).A (s.sp m).hs.length (s.sp m).c):=by
 have h1:m<s.sps.length:=by rw[h.sp];exact hm
 simp[busC,h.sp,hm,List.getElem?_append,List.getD,h1]
theorem busC_tot:(busC s)[0+3]?=some (.int .i64 s.total):=by
 simp[busC,h.sp,List.getElem?_append]
theorem busC_en {m:Nat} (hm:m<256):(busC s)[0+4+m* 1]?=some (.bool (s.en.getD m false)):=by
 have h1:m<s.en.length:=by rw[h.en];exact hm
 have e1: ¬0+4+m* 1<3:=by omega
 have e2:0+4+m* 1-3=m+1:=by omega
 rw[busC,List.getElem?_append,List.length_map,h.sp,if_neg e1,e2,List.getElem?_cons_succ,List.getElem?_append,List.length_map,if_pos h1]
 simp[List.getD,h1]
end
theorem take_set {β:Type}: ∀(l:List β) (o:Nat) (v:β),o<l.length→l.take o++[v]++l.drop (o+[v].length)=l.set o v
 |[],_,_,h=>by simp at h
 |a::l,0,v,_=>by simp
 |a::l,o+1,v,h=>by
  have:=take_set l o v (by simpa using h)
  simp only[List.take_succ_cons,List.cons_append,List.set_cons_succ,List.length_singleton,List.drop_succ_cons] at this ⊢
  rw[this]
section
variable {s:BS} (h:s.wf)
include h
theorem set_of {o:Nat} {v:Value} {s':BS} (ho:o<262) (e:(busC s).set o v=busC s'):((busC s).toArray.toList.take o++[v]++(busC s).toArray.toList.drop (o+[v].length)).toArray=(busC s').toArray:=by
 show((busC s).take o++[v]++(busC s).drop (o+[v].length)).toArray=_
 rw[take_set _ _ _ (by rw[busC_len h];exact ho),e]
theorem set_tot (v:Int):(busC s).set (0+3) (.int .i64 v)=busC {s with total:=v}:=by
 simp[busC,List.set_append,h.sp]
theorem set_en {m:Nat} (hm:m<256) (v:Bool):(busC s).set (0+4+m* 1) (.bool v)=busC {s with en:=s.en.set m v}:=by
 have h1:m<s.en.length:=by rw[h.en];exact hm
 have e1: ¬0+4+m* 1<3:=by omega
 have e2:0+4+m* 1-3=m+1:=by omega
 rw[busC,List.set_append,List.length_map,h.sp,if_neg e1,e2,List.set_cons_succ,List.set_append,List.length_map,if_pos h1]
 simp[busC,List.map_set]
theorem set_sp {m:Nat} (hm:m<3) (q:Sp):(busC s).set (0+m* 1) (.slice q.A q.hs.length q.c)=busC {s with sps:=s.sps.set m q}:=by
 have e1:0+m* 1<3:=by omega
 have e2:0+m* 1=m:=by omega
 rw[busC,List.set_append,List.length_map,h.sp,if_pos e1,e2]
 simp[busC,List.map_set]
end
def MR (w:World) (h:MH):Prop:=w.heap[h.p]?=some (.cells (mC h).toArray 210 (0,0))∧RS w (intK .u8) h.A h.bs
def SpR (w:World) (q:Sp):Prop:=RS w ptrK q.A (q.hs.map fun h=>some h.p)∧ ∀i,i<q.hs.length→MR w (q.hs.getD i mhD)
def Same (w w':World):Prop:= ∀(x:Nat) (o:Obj),w.heap[x]?=some o→w'.heap[x]?=some o
theorem MR.keep {w w':World} {h:MH} (k:MR w h) (hs:Same w w'):MR w' h:=⟨hs _ _ k.1,k.2.keep fun o ho=>hs _ _ ho⟩
theorem SpR.keep {w w':World} {q:Sp} (k:SpR w q) (hs:Same w w'):SpR w' q:=⟨k.1.keep fun o ho=>hs _ _ ho,fun i hi=>(k.2 i hi).keep hs⟩
theorem same_of {I:Ids} {w w':World} {L:List Assn} (h:Hp I w L w') (hI: ∀x,¬I x):Same w w':=fun x o ho=>h.ro ho (hI x)
theorem mr_of {w:World} {i:Ids} {h:MH} (k:(mhA h).sat w i):MR w h:=by
 obtain⟨i1,j1,_,_,h1,i2,j2,_,_,h2,_⟩:=k
 exact⟨h1.2,OS.rs h2⟩
theorem big_mem {β:Type} {F:β→Assn} {w:World} {G:β→Prop} (hG: ∀i b,(F b).sat w i→G b): ∀(hs:List β) (i:Ids),Sep (hs.map F) i w→ ∀b∈hs,G b
 |[],_,_,b,hb=>by cases hb
 |a::hs,i,⟨i1,j1,_,_,h1,h2⟩,b,hb=>by
  rcases List.mem_cons.1 hb with rfl|hb
  ·exact hG _ _ h1
  ·exact big_mem hG hs j1 h2 b hb
theorem spr_of {w:World} {i:Ids} {q:Sp} (k:(spA q).sat w i):SpR w q:=by
 obtain⟨i1,j1,_,_,h1,i2,j2,_,_,h2,_⟩:=k
 refine⟨OS.rs h1,fun n hn=>big_mem (G:=MR w) (fun i b hb=>mr_of hb) q.hs i2 h2 _ ?_⟩
 simp[List.getD,hn]
theorem Hp.spr {I0:Ids} {w0 w:World} {L:List Assn} (h:Sv.Hp I0 w0 L w) {k:Nat} {sps:List Sp} (hk:L[k]?=some (Big spA sps)) {m:Nat} (hm:m<sps.length):SpR w (sps.getD m spD):=
 h.bigOS (G:=fun q w=>SpR w q) spD hk hm fun i b hb=>spr_of hb
theorem SpR.ptr {w:World} {q:Sp} (k:SpR w q) {i:Nat} (hi:i<q.hs.length):w.cell? ⟨bk q.A,of q.A+i* 1,none⟩=some (.pointer (some ⟨(q.hs.getD i mhD).p,0,none⟩)):=by
 have:=k.1.cell0 (m:=i) (v:= .pointer (some ⟨(q.hs.getD i mhD).p,0,none⟩)) (by simpa using hi) (by
  have:(q.hs.map fun h=>some h.p).getD i ptrK.d=some (q.hs.getD i mhD).p:=by simp[List.getD,hi]
  rw[this];rfl)
 exact this
theorem MR.cell {w:World} {h:MH} (k:MR w h) {o:Nat} {v:Value} (hv:(mC h)[o]?=some v):w.cell? ⟨h.p,o,none⟩=some v:=by
 rw[cell_of k.1];simpa using hv
def modM (v:Int) (n:Nat):Int:=(IntKind.u64.wrap v)%n
theorem modM_lt (v:Int) {n:Nat} (h:0<n):0≤modM v n∧modM v n<n:=⟨Int.emod_nonneg _ (by omega),Int.emod_lt_of_pos _ (by omega)⟩
theorem u64_nonneg (v:Int):0≤IntKind.u64.wrap v:=by rw[IntKind.wrap_u64];omega
theorem modM_t (v:Int) {n:Nat} (h:0<n):(IntKind.u64.wrap v).tmod n=modM v n:=by
 rw[modM,Int.tmod_eq_emod_of_nonneg (u64_nonneg v)]
theorem modT (v:Int) {n:Nat} (h:0<n):0≤(IntKind.u64.wrap v).tmod n∧(IntKind.u64.wrap v).tmod n<n:=by
 rw[modM_t v h];exact modM_lt v h
def isU (x:Int):Prop:=0≤x∧x≤18446744073709551615
def lastW (b l:Int):Int:=IntKind.u64.wrap (b+IntKind.u64.wrap (l-1))
def okR (b l:Int):Prop:=1≤l∧l≤1048576∧b+(l-1)≤18446744073709551615
instance(b l:Int):Decidable (okR b l):=inferInstanceAs (Decidable (_∧_∧_))
theorem lastW_eq {b l:Int} (hb:isU b) (h:okR b l):lastW b l=b+(l-1):=by
 unfold isU at hb
 unfold okR at h
 rw[lastW,wU64 (x:=l-1) (by omega) (by omega),wU64 (by omega) (by omega)]
theorem okR_iff {b l:Int} (hb:isU b) (h1:1≤l) (h2:l≤1048576):b≤lastW b l↔okR b l:=by
 unfold isU at hb
 constructor
 ·intro h
  refine⟨h1,h2,?_⟩
  rw[lastW,wU64 (x:=l-1) (by omega) (by omega),IntKind.wrap_u64] at h
  omega
 ·intro h
  rw[lastW_eq hb h];omega
def ovl (b l b2 l2:Int):Prop:=b≤b2+(l2-1)∧b2≤b+(l-1)
instance(b l b2 l2:Int):Decidable (ovl b l b2 l2):=inferInstanceAs (Decidable (_∧_))
def firstN (p:Nat→Bool):Nat→Nat
 |0=>0
 |k+1=>if firstN p k<k then firstN p k else if p k then k else k+1
theorem firstN_none {p:Nat→Bool}: ∀ {k:Nat},(∀j,j<k→p j=false)→firstN p k=k
 |0,_=>rfl
 |k+1,h=>by rw[firstN,firstN_none fun j hj=>h j (by omega),if_neg (Nat.lt_irrefl _),h k (by omega)];rfl
theorem firstN_at {p:Nat→Bool} {i:Nat} (h: ∀j,j<i→p j=false) (hp:p i=true): ∀ {k:Nat},i<k→firstN p k=i
 |0,hk=>by omega
 |k+1,hk=>by
  by_cases e:i=k
  ·subst e;rw[firstN,firstN_none h,if_neg (Nat.lt_irrefl _),hp];rfl
  ·rw[firstN,firstN_at h hp (show i<k by omega),if_pos (by omega)]
theorem firstN_spec (p:Nat→Bool) (k:Nat):firstN p k≤k∧(∀j,j<firstN p k→p j=false)∧(firstN p k<k→p (firstN p k)=true):=by
 induction k with
 |zero=>exact⟨Nat.le_refl _,fun j h=>by simp[firstN] at h,fun h=>by simp[firstN] at h⟩
 |succ k ih=>
  obtain⟨h1,h2,h3⟩:=ih
  by_cases hk:firstN p k<k
  ·have e:firstN p (k+1)=firstN p k:=by rw[firstN,if_pos hk]
   rw[e];exact⟨by omega,h2,fun _=>h3 hk⟩
  ·have e0:firstN p k=k:=by omega
   rw[e0] at h2
   by_cases hp:p k=true
   ·have e:firstN p (k+1)=k:=by rw[firstN,e0,if_neg (Nat.lt_irrefl _),if_pos hp]
    rw[e];exact⟨by omega,h2,fun _=>hp⟩
   ·have e:firstN p (k+1)=k+1:=by rw[firstN,e0,if_neg (Nat.lt_irrefl _),if_neg hp]
    rw[e]
    refine⟨Nat.le_refl _,fun j hj=>?_,fun h=>by omega⟩
    by_cases ej:j=k
    ·subst ej;simpa using hp
    ·exact h2 j (by omega)
abbrev MH.lst (h:MH):Int:=h.base+(h.len-1)
structure MH.ok (h:MH):Prop where
 b:isU h.base
 r:okR h.base h.len
 o1:0≤h.own
 o2:h.own<256
 d:(h.bs=[]∧h.A=none)∨(h.bs.length=h.len.toNat∧h.A≠none)
 y: ∀i,0≤h.bs.getD i 0∧h.bs.getD i 0≤255
abbrev mh (hs:List MH) (i:Nat):MH:=hs.getD i mhD
structure okS (hs:List MH):Prop where
 each: ∀i,i<hs.length→(mh hs i).ok
 sort: ∀i j,i<j→j<hs.length→(mh hs i).lst<(mh hs j).base
def aftM (hs:List MH) (x:Int):Nat:=firstN (fun i=>decide (x≤(mh hs i).lst)) hs.length
def findM (hs:List MH) (x:Int):Option Nat:=if aftM hs x<hs.length∧(mh hs (aftM hs x)).base≤x then some (aftM hs x) else none
theorem okS.mono {hs:List MH} (h:okS hs) {i j:Nat} (hij:i≤j) (hj:j<hs.length):(mh hs i).lst≤(mh hs j).lst:=by
 by_cases e:i=j
 ·subst e;exact Int.le_refl _
 ·have h1:=h.sort i j (by omega) hj
  have h2:=(h.each j hj).r
  unfold okR at h2
  show(mh hs i).base+((mh hs i).len-1)≤(mh hs j).base+((mh hs j).len-1)
  have h1':(mh hs i).base+((mh hs i).len-1)<(mh hs j).base:=h1
  omega
theorem aft_of {hs:List MH} {x:Int} {i:Nat} (hi:i≤hs.length) (h1: ∀k,k<i→ ¬x≤(mh hs k).lst) (h2: ∀k,i≤k→k<hs.length→x≤(mh hs k).lst):aftM hs x=i:=by
 by_cases e:i=hs.length
 ·rw[aftM,firstN_none fun j hj=>decide_eq_false (h1 j (by omega)),e]
 ·exact firstN_at (fun j hj=>decide_eq_false (h1 j hj)) (decide_eq_true (h2 i (Nat.le_refl _) (by omega))) (by omega)
theorem aft_spec (hs:List MH) (x:Int):aftM hs x≤hs.length∧(∀j,j<aftM hs x→ ¬x≤(mh hs j).lst)∧(aftM hs x<hs.length→x≤(mh hs (aftM hs x)).lst):=by
 obtain⟨h1,h2,h3⟩:=firstN_spec (fun i=>decide (x≤(mh hs i).lst)) hs.length
 exact⟨h1,fun j hj=>of_decide_eq_false (h2 j hj),fun h=>of_decide_eq_true (h3 h)⟩
theorem findM_some {hs:List MH} {x:Int} {i:Nat} (h:findM hs x=some i):i<hs.length∧(mh hs i).base≤x∧x≤(mh hs i).lst:=by
 unfold findM at h
 split at h
 ·rename_i k
  injection h with h;subst h
  exact⟨k.1,k.2,(aft_spec hs x).2.2 k.1⟩
 ·cases h
theorem findM_at {hs:List MH} (h:okS hs) {x:Int} {i:Nat} (hi:i<hs.length) (h1:(mh hs i).base≤x) (h2:x≤(mh hs i).lst):findM hs x=some i:=by
 have e:aftM hs x=i:=firstN_at (p:=fun i=>decide (x≤(mh hs i).lst)) (fun j hj=>decide_eq_false (fun hx=>by
  have h3:(mh hs j).lst<(mh hs i).base:=h.sort j i hj hi
  omega)) (decide_eq_true h2) hi
 rw[findM,e,if_pos ⟨hi,h1⟩]
theorem findM_none {hs:List MH} (h:okS hs) {x:Int} (hn:findM hs x=none) {i:Nat} (hi:i<hs.length): ¬((mh hs i).base≤x∧x≤(mh hs i).lst):=fun k=>by
 rw[findM_at h hi k.1 k.2] at hn;cases hn
structure BS.ok (s:BS):Prop where
 wf:s.wf
 sp: ∀m,m<3→okS (s.sp m).hs
 tot:s.total=(((s.sp 0).hs.length+(s.sp 1).hs.length+(s.sp 2).hs.length:Nat):Int)
 max:s.total≤256
 fl:s.fl.length≤64
 fr: ∀i,i<s.fl.length→isU (s.fl.getD i fltK.d).base∧okR (s.fl.getD i fltK.d).base (s.fl.getD i fltK.d).len∧1≤(s.fl.getD i fltK.d).cnt∧(s.fl.getD i fltK.d).cnt≤64
 tr:s.tr.length≤65536
theorem BS.ok.len {s:BS} (h:s.ok) {m:Nat} (hm:m<3):(s.sp m).hs.length≤256:=by
 have h1:=h.tot
 have h2:=h.max
 obtain rfl|rfl|rfl:m=0∨m=1∨m=2:=by omega
 ·omega
 ·omega
 ·omega
theorem MR.rng {w:World} {h:MH} (k:MR w h): ∀j v,[Value.int .u64 h.base,Value.int .u64 h.len][j]?=some v→w.cell? ⟨h.p,0+j,none⟩=some v:=fun j v hv=>by
 rw[Nat.zero_add]
 refine k.cell ?_
 match j,hv with
 |0,hv=>exact hv
 |1,hv=>exact hv
theorem half (i j:Nat):((i:Int)+(j:Int)).fdiv (2^min (1:Int).toNat IntKind.u64.bits)=(((i+j)/2:Nat):Int):=by
 have e:(2:Int)^min (1:Int).toNat IntKind.u64.bits=2:=by decide
 rw[e,Int.fdiv_eq_ediv_of_nonneg _ (by omega)]
 omega
def fnd (s:BS) (z x:Int):Option Nat:=if 0≤z∧z<3 then findM (s.sp z.toNat).hs x else none
def fptr (s:BS) (z x:Int):Option Addr:=match fnd s z x with
 |some i=>some ⟨(mh (s.sp z.toNat).hs i).p,0,none⟩
 |none=>none
def ownM (s:BS) (z x:Int):Int:=match fnd s z x with
 |some i=>(mh (s.sp z.toNat).hs i).own
 |none=> -1
def bs0:BS:=⟨List.replicate 3 spD,0,List.replicate 256 false,none,0,[],none,0,[]⟩
theorem bs0_ok:bs0.ok where
 wf:=⟨rfl,by show(List.replicate 256 false).length=256;exact List.length_replicate⟩
 sp m hm:=by
  have:(bs0.sp m)=spD:=by
   obtain rfl|rfl|rfl:m=0∨m=1∨m=2:=by omega
   ·rfl
   ·rfl
   ·rfl
  rw[this];exact⟨fun i hi=>by simp[spD] at hi,fun i j h1 h2=>by simp[spD] at h2⟩
 tot:=rfl
 max:=by show(0:Int)≤256;omega
 fl:=by show 0≤64;omega
 fr i hi:=absurd hi (Nat.not_lt_zero _)
 tr:=by show 0≤65536;omega
theorem spD_emp (w:World):(spA spD).sat w (fun _=>False):=
 ⟨fun _=>False,fun _=>False,fun x=>by simp,fun _ h=>h.elim,OS.emp w,fun _=>False,fun _=>False,fun x=>by simp,fun _ h=>h.elim,fun _ h=>h,fun _ h=>h⟩
theorem BS.ok.en {s:BS} (h:s.ok) (m:Nat) (v:Bool):BS.ok {s with en:=s.en.set m v}:=
 ⟨⟨h.wf.sp,by simpa using h.wf.en⟩,h.sp,h.tot,h.max,h.fl,h.fr,h.tr⟩
theorem getD_append_left {β:Type} {l l2:List β} {i:Nat} (d:β) (h:i<l.length):(l++l2).getD i d=l.getD i d:=by simp[List.getD,List.getElem?_append,h]
theorem getD_append_one {β:Type} {l:List β} {y:β} (d:β):(l++[y]).getD l.length d=y:=by simp[List.getD]
def fltG (s:BS) (f:Flt) (A:Option Addr) (c:Nat):BS:={s with fA:=A,fc:=c,fl:=s.fl++[f]}
section
variable {I0:Ids} {w0 w:World} {B0:Assn} {R:List Assn} {sps:List Sp} {m:Nat}
theorem perm3 {α:Type} (a b x e:α) (R:List α):(a::b::x::(R++[e])).Perm (x::a::b::e::R):=
 ((((List.perm_append_singleton e R).cons x).cons b).cons a).trans (((List.Perm.swap x b (e::R)).cons a).trans (List.Perm.swap x a (b::e::R)))
theorem openSp (h:Hp I0 w0 (B0::Big spA sps::R) w) (hm:m<sps.length):
 Hp I0 w0 (B0::OS 211 ptrK (sps.getD m spD).A (sps.getD m spD).c ((sps.getD m spD).hs.map fun h=>some h.p)::Big mhA (sps.getD m spD).hs::Big spA (sps.eraseIdx m)::R) w:=by
 have h1:=h.focus spD (k:=1) rfl hm
 have h2:=h1.splice (k:=1) (A:=spA (sps.getD m spD)) (M:=spL (sps.getD m spD)) rfl fun i hi=>hi
 exact h2.perm (perm3 _ _ _ _ _)
theorem closeSp {q:Sp} (h:Hp I0 w0 (B0::OS 211 ptrK q.A q.c (q.hs.map fun h=>some h.p)::Big mhA q.hs::Big spA (sps.eraseIdx m)::R) w) (hm:m<sps.length):
 Hp I0 w0 (B0::Big spA (sps.set m q)::R) w:=by
 have h1:=h.perm (perm3 _ _ _ _ _).symm
 have h2:Hp I0 w0 (spA q::(B0::(R++[Big spA (sps.eraseIdx m)]))) w:=Hp.bundle (M:=spL q) (R:=B0::(R++[Big spA (sps.eraseIdx m)])) h1 fun i hi=>hi
 have h3:Hp I0 w0 ((B0::spA q::R)++[Big spA (sps.eraseIdx m)]) w:=h2.perm (List.Perm.swap _ _ _)
 exact h3.unfocus (k:=1) rfl hm
theorem big_add {h:MH} {hs hs':List MH} (hp:(h::hs).Perm hs') {i:Ids} (k:Sep (mhL h++[Big mhA hs]) i w):(Big mhA hs').sat w i:=by
 obtain⟨i1,j1,hI,hd,h1,i2,j2,hJ,hd2,h2,h3⟩:=Sep.append.1 k
 have hs2:Sep (mhA h::hs.map mhA) i w:=⟨i1,j1,hI,hd,h1,h2.ext fun x=>by rw[hJ x];exact⟨.inl,fun e=>e.elim id fun e2=>absurd e2 (h3 x)⟩⟩
 exact Sep.perm (hp.map mhA) hs2
theorem addM {h:MH} {hs hs':List MH} {B1 B2:Assn} (k:Hp I0 w0 (B0::B1::Big mhA hs::B2::(R++mhL h)) w) (hp:(h::hs).Perm hs'):Hp I0 w0 (B0::B1::Big mhA hs'::B2::R) w:=by
 have e1:(B0::B1::Big mhA hs::B2::(R++mhL h)).Perm ((mhL h++[Big mhA hs])++(B0::B1::B2::R)):=by
  have p1:(B0::B1::Big mhA hs::B2::(R++mhL h)).Perm (Big mhA hs::(B0::B1::B2::R)++mhL h):=
   (((List.Perm.swap (Big mhA hs) B1 _).cons B0).trans (List.Perm.swap (Big mhA hs) B0 _))
  have p2:(Big mhA hs::(B0::B1::B2::R)++mhL h).Perm (mhL h++(Big mhA hs::(B0::B1::B2::R))):=List.perm_append_comm
  refine(p1.trans p2).trans ?_
  rw[List.append_assoc];rfl
 have h2:=(k.perm e1).bundle (A:=Big mhA hs') fun i hi=>big_add hp hi
 exact h2.perm (((List.Perm.swap B0 (Big mhA hs') _).trans ((List.Perm.swap B1 (Big mhA hs') _).cons B0)))
end
set_option maxRecDepth 10000 in
theorem growBy_le (n:Nat): ∀(r c:Nat),Builtin.growBy n r c+768≤2^r* (c+768)
 |0,c=>by simp[Builtin.growBy]
 |r+1,c=>by
  rw[Builtin.growBy]
  split
  ·exact Nat.le_mul_of_pos_left (c+768) (Nat.two_pow_pos (r+1))
  ·have h:=growBy_le n r (c+(c+768)/4)
   have h2:2^r* (c+(c+768)/4+768)≤2^r* (2* (c+768)):=Nat.mul_le_mul_left _ (by omega)
   have h3:2^r* (2* (c+768))=2^(r+1)* (c+768):=by rw[Nat.pow_succ,Nat.mul_assoc]
   omega
theorem nextcap_le {n c:Nat} (h:c<n) (hn:n≤1000000):Builtin.nextslicecap n c≤20000000:=by
 unfold Builtin.nextslicecap
 split
 ·omega
 ·split
  ·omega
  ·have:=growBy_le n 4 c
   have e:2^4=16:=rfl
   rw[e] at this;omega
theorem overlaps_false {P:Program} {I0:Ids} {w0 w:World} {L:List Assn} {α:Type} {K:Enc α} {A B:Option Addr} {ys zs:List α} {e t tR:TypeId} {c c2:Nat} {ze:Value} {by_:Nat} {f:FuncId} {fn:Func} (h:Hp I0 w0 L w) (k1 k2:Nat)
 (hk1:L[k1]?=some (OS e K B c2 zs)) (hk2:(L.eraseIdx k1)[k2]?=some (OS e K A c ys)) (hf:P.funcs[f]?=some fn) (hname:(fn.name== "runtime.NumGoroutine")=false) (hb:fn.body.isNone=true) (hn:Extern.findNext fn=none)
 (he:Extern.find fn=some (Extern.SlicesOverlaps.overlaps #[t,t] #[tR])) (hu:P.underlying t=some (.slice e)) (hi:TI P e ze K.sz by_) (hc:0<c) (hz:zs≠[]) (l n1 n2 c3:Nat):
 (callFunc f #[.slice B n1 c2,.slice (shA A l K.sz c) n2 c3]).run P w= .ok (.value (.bool false)) w:=by
 rw[run_callFunc_extern hf hname hb hn he]
 have key:(Extern.SlicesOverlaps.overlaps #[t,t] #[tR] #[.slice B n1 c2,.slice (shA A l K.sz c) n2 c3]).run P w= .ok (.bool false) w:=by
  obtain⟨i,j,hB,hL,hd,_⟩:=h.at hk1
  obtain⟨i2,j2,hJ,_,hA,_⟩:=hL.perm (perm_erase hk2)
  rcases hB with ⟨_,h0,_⟩|⟨gb,cur,rfl,hI,hbb,_,_,hsz,_⟩
  ·exact absurd h0 hz
  ·rcases hA with ⟨rfl,_,rfl,_⟩|⟨ga,cur2,rfl,hI2,hba,_,_,hsz2,_⟩
   ·omega
   ·have hne:gb≠ga:=fun e=>hd gb ((hI gb).2 rfl) ((hJ gb).2 (.inl ((hI2 gb).2 e)))
    have hsh: ∃off,shA (some ⟨ga,0,none⟩) l K.sz c=some ⟨ga,off,none⟩:=by
     unfold shA
     split
     ·exact⟨0,rfl⟩
     ·by_cases h0:l* K.sz=0
      ·exact⟨0,by simp[Addr.add,h0]⟩
      ·exact⟨l* K.sz,by simp[Addr.add,h0]⟩
    obtain⟨off,hoff⟩:=hsh
    rw[hoff]
    exact Lib.run_overlaps_apart w t tR e hu K.sz (fun w=>hi.sizeOf w) ⟨gb,0,none⟩ ⟨ga,off,none⟩ n1 c2 n2 c3 hne e e cur.size cur2.size (by simp[World.shape?,hbb]) (by simp[World.shape?,hba])
     (by rw[hsz2];have:=Nat.mul_pos hc K.pos;omega) (by simp[World.frozen?,hbb]) (by simp[World.frozen?,hbb])
 rw[key];rfl
def insL {β:Type} (l:List β) (i:Nat) (y:β):List β:=l.take i++[y]++l.drop i
theorem insL_length {β:Type} {l:List β} {i:Nat} (y:β) (h:i≤l.length):(insL l i y).length=l.length+1:=by
 simp only[insL,List.length_append,List.length_take,List.length_drop,List.length_singleton];omega
theorem insL_perm {β:Type} (l:List β) (i:Nat) (y:β):(y::l).Perm (insL l i y):=by
 have h:(insL l i y).Perm (y::(l.take i++l.drop i)):=by
  rw[insL,List.append_assoc];exact List.perm_middle
 rw[List.take_append_drop] at h
 exact h.symm
theorem insL_map {β γ:Type} (f:β→γ) (l:List β) (i:Nat) (y:β):(insL l i y).map f=insL (l.map f) i (f y):=by
 simp[insL,List.map_take,List.map_drop]
theorem insL_getD {β:Type} {l:List β} {i:Nat} (y d:β) (h:i≤l.length) (k:Nat):(insL l i y).getD k d=if k<i then l.getD k d else if k=i then y else l.getD (k-1) d:=by
 have h1:(l.take i).length=i:=by rw[List.length_take];omega
 rw[insL,List.append_assoc]
 simp only[List.getD,List.getElem?_append,h1]
 by_cases hk:k<i
 ·simp[hk,List.getElem?_take]
 ·simp only[hk,if_false]
  by_cases hk2:k=i
  ·subst hk2;simp
  ·have e1: ¬k-i<1:=by omega
   simp only[List.length_singleton,e1,if_false,hk2,List.getElem?_drop]
   congr 2;omega
theorem insA {β:Type} {l:List β} {i:Nat} (p z:β) (h:i<l.length):(l.take i++List.replicate (l.length+1-i) z).take i++[p].take (min 1 (i+(l.length+1-i)-i))++(l.take i++List.replicate (l.length+1-i) z).drop (i+min 1 (i+(l.length+1-i)-i))=l.take i++[p]++List.replicate (l.length-i) z:=by
 have h1:(l.take i).length=i:=by rw[List.length_take];omega
 have e:min 1 (i+(l.length+1-i)-i)=1:=by omega
 rw[e,List.take_append_of_le_length (by omega),List.take_of_length_le (l:=l.take i) (by omega),List.drop_append,h1,List.drop_of_length_le (l:=l.take i) (by omega),Nat.add_sub_cancel_left,List.drop_replicate]
 simp only[List.nil_append,List.take_succ_cons,List.take_zero]
 congr 2;omega
theorem insB {β:Type} {l:List β} {i:Nat} (p z:β) (h:i<l.length):(l.take i++[p]++List.replicate (l.length-i) z).take (i+1)++(l.drop i).take (min (l.length-i) (i+(l.length+1-i)-(i+1)))++(l.take i++[p]++List.replicate (l.length-i) z).drop (i+1+min (l.length-i) (i+(l.length+1-i)-(i+1)))=insL l i p:=by
 have h1:(l.take i++[p]).length=i+1:=by rw[List.length_append,List.length_take];simp;omega
 have e:min (l.length-i) (i+(l.length+1-i)-(i+1))=l.length-i:=by omega
 have d:(l.take i++[p]++List.replicate (l.length-i) z).drop (i+1+(l.length-i))=[]:=List.drop_of_length_le (by rw[List.length_append,h1,List.length_replicate];omega)
 rw[e,List.take_append_of_le_length (by omega),List.take_of_length_le (l:=l.take i++[p]) (by omega),List.take_of_length_le (l:=l.drop i) (by rw[List.length_drop];omega),d,List.append_nil]
 rfl
theorem insC {β:Type} {l:List β} {i:Nat} (h:i<l.length):l.take (i+1)++(l.drop i).take (min (l.length+1-i) (l.length+1-(i+1)))++l.drop (i+1+min (l.length+1-i) (l.length+1-(i+1)))=l.take (i+1)++l.drop i:=by
 have e:min (l.length+1-i) (l.length+1-(i+1))=l.length-i:=by omega
 have d:l.drop (i+1+(l.length-i))=[]:=List.drop_of_length_le (by omega)
 rw[e,List.take_of_length_le (l:=l.drop i) (by rw[List.length_drop];omega),d,List.append_nil]
theorem insD {β:Type} {l:List β} {i:Nat} (p:β) (h:i<l.length):(l.take (i+1)++l.drop i).take i++[p].take (min 1 (l.length+1-i))++(l.take (i+1)++l.drop i).drop (i+min 1 (l.length+1-i))=insL l i p:=by
 have h1:(l.take (i+1)).length=i+1:=by rw[List.length_take];omega
 have e:min 1 (l.length+1-i)=1:=by omega
 rw[e,List.take_append_of_le_length (by omega),List.take_take,Nat.min_eq_left (by omega),List.drop_append,h1,List.drop_of_length_le (l:=l.take (i+1)) (by omega),Nat.sub_self]
 rfl
theorem insE {β:Type} {l:List β} {i:Nat} (p:β) (h:i=l.length):l++[p]=insL l i p:=by
 rw[insL,List.take_of_length_le (by omega),List.drop_of_length_le (by omega),List.append_nil]
def mapG (s:BS) (m:Nat) (h:MH) (A:Option Addr) (c:Nat):BS:=
 {s with sps:=s.sps.set m ⟨A,c,insL (s.sp m).hs (aftM (s.sp m).hs h.base) h⟩,total:=s.total+1}
def busy (hs:List MH) (b l:Int):Prop:=aftM hs b<hs.length∧ovl (mh hs (aftM hs b)).base (mh hs (aftM hs b)).len b l
instance(hs:List MH) (b l:Int):Decidable (busy hs b l):=inferInstanceAs (Decidable (_∧_))
theorem mapClose {I0:Ids} {w0 w:World} {s:BS} {m i:Nat} {A2:Option Addr} {c2 bp:Nat} {p0 q0 o:Int} {B0 X1 X2:Assn} (hw3:s.sps.length=3) (hm:m<3)
 (h:Hp I0 w0 [B0,OS 211 ptrK A2 c2 (insL ((s.sp m).hs.map fun h=>some h.p) i (some bp)),Big mhA (s.sp m).hs,Big spA (s.sps.eraseIdx m),X1,X2,Blk bp (.cells #[.int .u64 p0,.int .u64 q0,.int .i64 o,.slice none 0 0] 210 (0,0))] w):
 Hp I0 w0 [B0,Big spA (s.sps.set m ⟨A2,c2,insL (s.sp m).hs i ⟨bp,p0,q0,o,none,0,[]⟩⟩),X1,X2] w:=by
 have h1:=addM (R:=[X1,X2]) (h:=⟨bp,p0,q0,o,none,0,[]⟩) (h.nilOS (e:=5) (K:=intK .u8)) (insL_perm (s.sp m).hs i ⟨bp,p0,q0,o,none,0,[]⟩)
 refine closeSp (q:=⟨A2,c2,insL (s.sp m).hs i ⟨bp,p0,q0,o,none,0,[]⟩⟩) ?_ (by omega)
 have e:insL ((s.sp m).hs.map fun h=>some h.p) i (some bp)=(insL (s.sp m).hs i ⟨bp,p0,q0,o,none,0,[]⟩).map fun h=>some h.p:=(insL_map (fun h:MH=>some h.p) (s.sp m).hs i ⟨bp,p0,q0,o,none,0,[]⟩).symm
 rw[e] at h1
 exact h1
def byt (l:List Int) (k:Nat):Int:=l.getD k 0
def pw (j:Nat):Int:=((2^(8* j):Nat):Int)
def rdL (l:List Int) (k:Nat):Nat→Int
 |0=>0
 |j+1=>rdL l k j+byt l (k+j)* pw j
def byo (v:Int) (j:Nat):Int:=(v/pw j)%256
def wrK (l:List Int) (k:Nat) (v:Int):Nat→List Int
 |0=>l
 |j+1=>(wrK l k v j).set (k+j) (byo v j)
def raw0 (h:MH):List Int:=if h.bs=[] then List.replicate h.len.toNat 0 else h.bs
end Go.Ios
namespace Go.Sv
end Go.Sv
namespace Go.Ios
open Go.Sv
def delL {β:Type} (l:List β) (i:Nat):List β:=l.take i++l.drop (i+1)
def isW (w:Int):Prop:=w=1∨w=2∨w=4∨w=8
instance(w:Int):Decidable (isW w):=inferInstanceAs (Decidable (_∨_∨_∨_))
def wfA (a:Acs):Prop:=isW a.width∧(0≤a.space∧a.space<3)∧a.addr.tmod a.width=0
instance(a:Acs):Decidable (wfA a):=inferInstanceAs (Decidable (_∧(_∧_)∧_))
def hitF (f:Flt) (a:Acs):Prop:=f.space=a.space∧ovl f.base f.len a.addr a.width
instance(f:Flt) (a:Acs):Decidable (hitF f a):=inferInstanceAs (Decidable (_∧_))
def hitN (l:List Flt) (a:Acs):Nat:=firstN (fun i=>decide (hitF (l.getD i fltK.d) a)) l.length
def useL (l:List Flt) (a:Acs):List Flt:=
 if hitN l a<l.length then
  if (l.getD (hitN l a) fltK.d).cnt=1 then delL l (hitN l a)
  else l.set (hitN l a) {l.getD (hitN l a) fltK.d with cnt:=(l.getD (hitN l a) fltK.d).cnt-1}
 else l
def onesM (w:Int):Int:=if w=1 then 255 else if w=2 then 65535 else if w=4 then 4294967295 else 18446744073709551615
def lvM (s:BS) (a:Acs):Bool:=match fnd s a.space a.addr with
 |some i=>s.en.getD (mh (s.sp a.space.toNat).hs i).own.toNat false&&decide (a.addr+a.width-1≤(mh (s.sp a.space.toNat).hs i).lst)
 |none=>false
def flM (s:BS) (a:Acs):Bool:=lvM s a&&decide (hitN s.fl a<s.fl.length)
def stF (s:BS) (a:Acs):BS:=if lvM s a=true then {s with fl:=useL s.fl a} else s
def setM (s:BS) (m i:Nat) (h:MH):BS:={s with sps:=s.sps.set m {s.sp m with hs:=(s.sp m).hs.set i h}}
def fi (s:BS) (a:Acs):Nat:=(fnd s a.space a.addr).getD 0
def fh (s:BS) (a:Acs):MH:=mh (s.sp a.space.toNat).hs (fi s a)
def wrH (h:MH) (a:Acs) (A:Option Addr) (c:Nat):MH:={h with A:=A,c:=c,bs:=wrK (raw0 h) (a.addr-h.base).toNat a.val a.width.toNat}
def wrs (s:BS) (a:Acs):Prop:=a.wr=true∧lvM s a=true∧flM s a=false
instance(s:BS) (a:Acs):Decidable (wrs s a):=inferInstanceAs (Decidable (_∧_∧_))
def stW (s:BS) (a:Acs) (A:Option Addr) (c:Nat):BS:=if wrs s a then setM (stF s a) a.space.toNat (fi s a) (wrH (fh s a) a A c) else stF s a
def vlM (s:BS) (a:Acs):Int:=if a.wr=true then ((a.val.toNat&&&(onesM a.width).toNat:Nat):Int) else if lvM s a=true then (if flM s a=true then 0 else rdL (fh s a).bs (a.addr-(fh s a).base).toNat a.width.toNat) else onesM a.width
def rec (s:BS) (a:Acs):Trc:=⟨{a with val:=vlM s a},ownM s a.space a.addr,lvM s a,flM s a⟩
def accS (s:BS) (a:Acs) (A:Option Addr) (c:Nat) (tA:Option Addr) (tc:Nat):BS:={stW s a A c with tA:=tA,tc:=tc,tr:=s.tr++[rec s a]}
def accV (s:BS) (a:Acs):Int:=if flM s a=true then 0 else if a.wr=true then 0 else vlM s a
def accE (s:BS) (a:Acs):Int:=if flM s a=true then 15 else 0
theorem stF_t {s:BS} {a:Acs} (h:lvM s a=true):stF s a={s with fl:=useL s.fl a}:=if_pos h
section
variable {I0:Ids} {w0 w:World} {B0:Assn} {R:List Assn} {sps:List Sp} {m i:Nat}
end
end Go.Ios
namespace Go.Ios
end Go.Ios
namespace Go.Ios
open Go.Sv
theorem getD_set {β:Type} (l:List β) (m k:Nat) (y d:β) (h:m<l.length):(l.set m y).getD k d=if k=m then y else l.getD k d:=by
 by_cases e:k=m
 ·subst e;rw[if_pos rfl];exact getD_set_self _ _ _ _ h
 ·rw[if_neg e];exact getD_set_other _ _ _ (fun e2=>e e2.symm)
theorem insL_ok {hs:List MH} (ho:okS hs) {h:MH} (hh:h.ok) (hb: ¬busy hs h.base h.len):okS (insL hs (aftM hs h.base) h):=by
 obtain⟨h1,h2,h3⟩:=aft_spec hs h.base
 have hl:(insL hs (aftM hs h.base) h).length=hs.length+1:=insL_length h h1
 have hr:=hh.r
 unfold okR at hr
 have hlow: ∀j,j<aftM hs h.base→(mh hs j).lst<h.base:=fun j hj=>by have:=h2 j hj;omega
 have hhigh: ∀j,aftM hs h.base≤j→j<hs.length→h.lst<(mh hs j).base:=fun j hj hjl=>by
  have ha:aftM hs h.base<hs.length:=by omega
  have h4:=h3 ha
  have h5: ¬ovl (mh hs (aftM hs h.base)).base (mh hs (aftM hs h.base)).len h.base h.len:=fun k=>hb ⟨ha,k⟩
  unfold ovl at h5
  have h4':h.base≤(mh hs (aftM hs h.base)).base+((mh hs (aftM hs h.base)).len-1):=h4
  have h6:h.base+(h.len-1)<(mh hs (aftM hs h.base)).base:=by omega
  by_cases e:j=aftM hs h.base
  ·rw[e];exact h6
  ·have h7:(mh hs (aftM hs h.base)).base+((mh hs (aftM hs h.base)).len-1)<(mh hs j).base:=ho.sort _ j (by omega) hjl
   have h8:=(ho.each _ ha).r
   unfold okR at h8
   show h.base+(h.len-1)<(mh hs j).base
   omega
 have hget: ∀k,mh (insL hs (aftM hs h.base) h) k=if k<aftM hs h.base then mh hs k else if k=aftM hs h.base then h else mh hs (k-1):=fun k=>insL_getD h mhD h1 k
 refine⟨fun i hi=>?_,fun i j hij hj=>?_⟩
 ·rw[hl] at hi
  rw[hget i]
  split
  ·exact ho.each i (by omega)
  ·split
   ·exact hh
   ·exact ho.each (i-1) (by omega)
 ·rw[hl] at hj
  rw[hget i,hget j]
  by_cases c1:j<aftM hs h.base
  ·rw[if_pos c1,if_pos (by omega)];exact ho.sort i j hij (by omega)
  ·rw[if_neg c1]
   by_cases c2:j=aftM hs h.base
   ·rw[if_pos c2,if_pos (by omega)];exact hlow i (by omega)
   ·rw[if_neg c2]
    by_cases c3:i<aftM hs h.base
    ·rw[if_pos c3];exact ho.sort i (j-1) (by omega) (by omega)
    ·rw[if_neg c3]
     by_cases c4:i=aftM hs h.base
     ·rw[if_pos c4];exact hhigh (j-1) (by omega) (by omega)
     ·rw[if_neg c4];exact ho.sort (i-1) (j-1) (by omega) (by omega)
theorem mapG_sp {s:BS} (hk:s.ok) {m:Nat} (hm:m<3) (h:MH) (A:Option Addr) (c k:Nat):(mapG s m h A c).sp k=if k=m then ⟨A,c,insL (s.sp m).hs (aftM (s.sp m).hs h.base) h⟩ else s.sp k:=
 getD_set _ _ _ _ _ (by rw[hk.wf.sp];exact hm)
theorem mapG_ok {s:BS} (hk:s.ok) {m:Nat} (hm:m<3) {h:MH} (hh:h.ok) (hb: ¬busy (s.sp m).hs h.base h.len) (ht:s.total≠256) (A:Option Addr) (c:Nat):(mapG s m h A c).ok:=by
 have hl:=insL_length h (aft_spec (s.sp m).hs h.base).1
 have htot:=hk.tot
 have hmax:=hk.max
 refine⟨⟨by show(s.sps.set m _).length=3;rw[List.length_set];exact hk.wf.sp,hk.wf.en⟩,fun k hkk=>?_,?_,by show s.total+1≤256;omega,hk.fl,hk.fr,hk.tr⟩
 ·rw[mapG_sp hk hm]
  split
  ·exact insL_ok (hk.sp m hm) hh hb
  ·exact hk.sp k hkk
 ·rw[mapG_sp hk hm,mapG_sp hk hm,mapG_sp hk hm]
  show s.total+1=_
  obtain rfl|rfl|rfl:m=0∨m=1∨m=2:=by omega
  ·rw[if_pos rfl,if_neg (by decide),if_neg (by decide)];simp only[hl];omega
  ·rw[if_neg (by decide),if_pos rfl,if_neg (by decide)];simp only[hl];omega
  ·rw[if_neg (by decide),if_neg (by decide),if_pos rfl];simp only[hl];omega
def unmG (s:BS) (m i:Nat):BS:={s with sps:=s.sps.set m ⟨(s.sp m).A,(s.sp m).c,delL (s.sp m).hs i⟩,total:=s.total-1}
def unmA (s:BS) (z p0 q0:Int) (m i:Nat):Prop:=z=(m:Int)∧m<3∧i<(s.sp m).hs.length∧(mh (s.sp m).hs i).base=p0∧(mh (s.sp m).hs i).len=q0
end Go.Ios
set_option linter.unusedSectionVars false
namespace Go.Ios
open Go.Sv
structure RH where
 sp:Int
 base:Int
 len:Int
 own:Int
 A:Option Addr
 c:Nat
 bs:List Int
def rhK:Enc RH where
 f r:=[.int .i64 r.sp,.int .u64 r.base,.int .u64 r.len,.int .i64 r.own,.slice r.A r.bs.length r.c]
 sz:=5
 d:=⟨0,0,0,0,none,0,[]⟩
 len _:=rfl
 pos:=by decide
 one r v hv:=by simp at hv;rcases hv with rfl|rfl|rfl|rfl|rfl<;>rfl
def rhA (r:RH):Assn:=OS 5 (intK .u8) r.A r.c r.bs
structure RB where
 mA:Option Addr
 mc:Nat
 ms:List RH
 en:List Bool
 fA:Option Addr
 fc:Nat
 fl:List Flt
 tA:Option Addr
 tc:Nat
 tr:List Trc
def rbC (s:RB):List Value:=Value.slice s.mA s.ms.length s.mc::(s.en.map Value.bool++[Value.slice s.fA s.fl.length s.fc,Value.slice s.tA s.tr.length s.tc])
def rbL (b:Nat) (s:RB):List Assn:=[Blk b (.cells (rbC s).toArray 59 (0,0)),OS 215 rhK s.mA s.mc s.ms,Big rhA s.ms,OS 452 fltK s.fA s.fc s.fl,OS 456 trcK s.tA s.tc s.tr]
abbrev rh (ms:List RH) (i:Nat):RH:=ms.getD i rhK.d
structure RH.ok (q:RH):Prop where
 s1:0≤q.sp
 s2:q.sp<3
 b:isU q.base
 r:okR q.base q.len
 o1:0≤q.own
 o2:q.own<256
 l:q.bs.length=q.len.toNat
 y: ∀i,0≤q.bs.getD i 0∧q.bs.getD i 0≤255
structure RB.ok (s:RB):Prop where
 en:s.en.length=256
 each: ∀i,i<s.ms.length→(rh s.ms i).ok
 max:s.ms.length≤256
 fl:s.fl.length≤1000
 fr: ∀i,i<s.fl.length→isU (s.fl.getD i fltK.d).base∧okR (s.fl.getD i fltK.d).base (s.fl.getD i fltK.d).len∧0≤(s.fl.getD i fltK.d).cnt∧(s.fl.getD i fltK.d).cnt≤64
 tr:s.tr.length≤65536
section
variable {s:RB} (h:s.en.length=256)
include h
theorem rbC_len:(rbC s).length=259:=by simp[rbC,h]
theorem rbC_m:(rbC s)[0]?=some (.slice s.mA s.ms.length s.mc):=rfl
theorem rbC_en {m:Nat} (hm:m<256):(rbC s)[0+1+m* 1]?=some (.bool (s.en.getD m false)):=by
 have h1:m<s.en.length:=by rw[h];exact hm
 have e2:0+1+m* 1=m+1:=by omega
 rw[rbC,e2,List.getElem?_cons_succ,List.getElem?_append,List.length_map,if_pos h1]
 simp[List.getD,h1]
theorem rset_of {o:Nat} {v:Value} {s':RB} (ho:o<259) (e:(rbC s).set o v=rbC s'):((rbC s).toArray.toList.take o++[v]++(rbC s).toArray.toList.drop (o+[v].length)).toArray=(rbC s').toArray:=by
 show((rbC s).take o++[v]++(rbC s).drop (o+[v].length)).toArray=_
 rw[take_set _ _ _ (by rw[rbC_len h];exact ho),e]
theorem rset_m (A:Option Addr) (c:Nat) (l:List RH):(rbC s).set 0 (.slice A l.length c)=rbC {s with mA:=A,mc:=c,ms:=l}:=rfl
theorem rset_en {m:Nat} (hm:m<256) (v:Bool):(rbC s).set (0+1+m* 1) (.bool v)=rbC {s with en:=s.en.set m v}:=by
 have h1:m<s.en.length:=by rw[h];exact hm
 have e2:0+1+m* 1=m+1:=by omega
 rw[rbC,e2,List.set_cons_succ,List.set_append,List.length_map,if_pos h1]
 simp[rbC,List.map_set]
end
def hasR (b l x:Int):Prop:=b≤x∧x-b<l
instance(b l x:Int):Decidable (hasR b l x):=inferInstanceAs (Decidable (_∧_))
def ovR (b l b2 l2:Int):Prop:=hasR b l b2∨hasR b2 l2 b
instance(b l b2 l2:Int):Decidable (ovR b l b2 l2):=inferInstanceAs (Decidable (_∨_))
def hitR (ms:List RH) (z x:Int) (i:Nat):Prop:=(rh ms i).sp=z∧hasR (rh ms i).base (rh ms i).len x
instance(ms:List RH) (z x:Int) (i:Nat):Decidable (hitR ms z x i):=inferInstanceAs (Decidable (_∧_))
def fR (ms:List RH) (z x:Int):Int:=match (List.range ms.length).find? (fun i=>decide (hitR ms z x i)) with
 |some i=>i
 |none=> -1
theorem rngR {w:World} {A:Option Addr} {ms:List RH} (h:RS w rhK A ms) {i:Nat} (hi:i<ms.length): ∀j v,[Value.int .u64 (rh ms i).base,Value.int .u64 (rh ms i).len][j]?=some v→w.cell? ⟨bk A,of A+i* 5+1+j,none⟩=some v
 |0,v,hv=>h.cell (j:=1) hi hv
 |1,v,hv=>h.cell (j:=2) hi hv
 |j+2,v,hv=>by simp at hv
def ownR (ms:List RH) (z x:Int):Int:=if 0≤fR ms z x then (rh ms (fR ms z x).toNat).own else -1
def setB (s:RB) (i:Nat) (l:List Int):RB:={s with ms:=s.ms.set i {s.ms.getD i rhK.d with bs:=l}}
section
variable {I0:Ids} {w0 w:World} {b:Nat} {s:RB} {i:Nat}
end
def lvC (l:List Flt):Nat→Nat
 |0=>0
 |j+1=>lvC l j+if 0<(l.getD j fltK.d).cnt then 1 else 0
def rflt (s:RB) (f:Flt) (A:Option Addr) (c:Nat):RB:={s with fA:=A,fc:=c,fl:=s.fl++[f]}
def hitG (f:Flt) (a:Acs):Prop:=0<f.cnt∧f.space=a.space∧ovR f.base f.len a.addr a.width
def decF (s:RB) (j:Nat):RB:={s with fl:=s.fl.set j {s.fl.getD j fltK.d with cnt:=(s.fl.getD j fltK.d).cnt-1}}
def rnew (z p0 q0 o:Int) (A:Option Addr):RH:=⟨z,p0,q0,o,A,q0.toNat,List.replicate q0.toNat 0⟩
def radd (s:RB) (r:RH) (A:Option Addr) (c:Nat):RB:={s with mA:=A,mc:=c,ms:=s.ms++[r]}
def busyR (ms:List RH) (z p0 q0:Int) (i:Nat):Prop:=(rh ms i).sp=z∧ovR (rh ms i).base (rh ms i).len p0 q0
theorem addR {I0:Ids} {w0 w:World} {B0 B1 X1 X2:Assn} {ms:List RH} {r:RH} (h:Hp I0 w0 [B0,B1,Big rhA ms,X1,X2,OS 5 (intK .u8) r.A r.c r.bs] w):Hp I0 w0 [B0,B1,Big rhA (ms++[r]),X1,X2] w:=by
 have h1:Hp I0 w0 ([rhA r,Big rhA ms]++[B0,B1,X1,X2]) w:=h.sel [5,2,0,0,0,0] rfl
 have h2:=h1.bundle (A:=Big rhA (ms++[r])) fun i hi=>by
  obtain⟨i1,j1,hI,hd,k1,i2,j2,hJ,hd2,k2,k3⟩:=hi
  have hs2:Sep (rhA r::ms.map rhA) i w:=⟨i1,j1,hI,hd,k1,k2.ext fun x=>by rw[hJ x];exact⟨.inl,fun e=>e.elim id fun e2=>absurd e2 (k3 x)⟩⟩
  have hp:(r::ms).Perm (ms++[r]):=(List.perm_append_singleton r ms).symm
  exact Sep.perm (hp.map rhA) hs2
 exact h2.sel [1,1,0,0,0] rfl
def rdel (s:RB) (j:Nat) (A:Option Addr) (c:Nat):RB:={s with mA:=A,mc:=c,ms:=delL s.ms j}
def wrD (l:List Int) (o:Nat) (v:Int) (n:Nat):Nat→List Int
 |0=>l
 |j+1=>(wrD l o v n j).set (o+(n-(j+1))) (byo v (n-(j+1)))
def mskV (a:Acs):Int:=((a.val.toNat&&&(onesM a.width).toNat:Nat):Int)
def rlv (s:RB) (a:Acs):Prop:=0≤fR s.ms a.space a.addr∧fR s.ms a.space a.addr=fR s.ms a.space (a.addr+(a.width-1))∧s.en.getD (rh s.ms (fR s.ms a.space a.addr).toNat).own.toNat false=true
instance(s:RB) (a:Acs):Decidable (rlv s a):=inferInstanceAs (Decidable (_∧_∧_))
def rtr (s:RB) (t:Trc) (A:Option Addr) (c:Nat):RB:={s with tA:=A,tc:=c,tr:=s.tr++[t]}
structure RAx (s:RB) (a:Acs) (s2:RB) (v:Int) (lv fl:Bool):Prop where
 live:lv=decide (rlv s a)
 dead:lv=false→s2=s∧fl=false∧v=if a.wr=true then mskV a else onesM a.width
 fail:lv=true→fl=true→(∃j:Nat,j<s.fl.length∧hitG (s.fl.getD j fltK.d) a∧(∀k,k<j→ ¬hitG (s.fl.getD k fltK.d) a)∧s2=decF s j)∧v=if a.wr=true then mskV a else 0
 good:lv=true→fl=false→(∀k,k<s.fl.length→ ¬hitG (s.fl.getD k fltK.d) a)∧ ∃i:Nat,fR s.ms a.space a.addr=i∧i<s.ms.length∧(if a.wr=true then v=mskV a∧s2=setB s i (wrD (s.ms.getD i rhK.d).bs (a.addr-(s.ms.getD i rhK.d).base).toNat (mskV a) a.width.toNat a.width.toNat) else v=rdL (s.ms.getD i rhK.d).bs (a.addr-(s.ms.getD i rhK.d).base).toNat a.width.toNat∧s2=s)
 tr:s2.tr=s.tr∧s2.tA=s.tA∧s2.tc=s.tc∧s2.en=s.en
structure RFx (s:RB) (a:Acs) (f:Bool) (s2:RB):Prop where
 yes:f=true→ ∃j:Nat,j<s.fl.length∧hitG (s.fl.getD j fltK.d) a∧(∀k,k<j→ ¬hitG (s.fl.getD k fltK.d) a)∧s2=decF s j
 no:f=false→(∀k,k<s.fl.length→ ¬hitG (s.fl.getD k fltK.d) a)∧s2=s
section
variable {s:RB} {a:Acs} {i j:Nat}
variable {I0:Ids} {w0 w:World} {b:Nat} {X Y:Assn}
end
theorem newH_ok {bp:Nat} {x y o:Int} (hx:isU x) (hr:okR x y) (h1:0≤o) (h2:o<256):(⟨bp,x,y,o,none,0,[]⟩:MH).ok:=⟨hx,hr,h1,h2,.inl ⟨rfl,rfl⟩,fun i=>by simp⟩
def ownH (hs:List MH) (x:Int):Int:=match findM hs x with
 |some i=>(mh hs i).own
 |none=> -1
theorem ownH_at {hs:List MH} (h:okS hs) {x:Int} {i:Nat} (hi:i<hs.length) (h1:(mh hs i).base≤x) (h2:x≤(mh hs i).lst):ownH hs x=(mh hs i).own:=by rw[ownH,findM_at h hi h1 h2]
theorem ownH_cases {hs:List MH} (h:okS hs) (x:Int):(ownH hs x= -1∧ ∀i,i<hs.length→ ¬((mh hs i).base≤x∧x≤(mh hs i).lst))∨ ∃i,i<hs.length∧(mh hs i).base≤x∧x≤(mh hs i).lst∧ownH hs x=(mh hs i).own:=by
 cases hf:findM hs x with
 |none=>exact .inl ⟨by rw[ownH,hf],fun i hi=>findM_none h hf hi⟩
 |some i=>have:=findM_some hf;exact .inr ⟨i,this.1,this.2.1,this.2.2,by rw[ownH,hf]⟩
theorem busy_iff {hs:List MH} (ho:okS hs) {p n:Int} (hn:1≤n):busy hs p n↔ ∃x,p≤x∧x<p+n∧ ¬ownH hs x= -1:=by
 obtain⟨h1,h2,h3⟩:=aft_spec hs p
 constructor
 ·rintro⟨ha,hv⟩
  unfold ovl at hv
  have hr:=(ho.each _ ha).r
  have ho1:=(ho.each _ ha).o1
  unfold okR at hr
  have h4:p≤(mh hs (aftM hs p)).base+((mh hs (aftM hs p)).len-1):=h3 ha
  refine⟨max p (mh hs (aftM hs p)).base,by omega,by omega,?_⟩
  rw[ownH_at ho ha (by omega) (by show max p _≤(mh hs (aftM hs p)).base+((mh hs (aftM hs p)).len-1);omega)]
  omega
 ·rintro⟨x,hx1,hx2,hx3⟩
  rcases ownH_cases ho x with ⟨e,_⟩|⟨i,hi,h4,h5,e⟩
  ·exact absurd e hx3
  ·have hle:aftM hs p≤i:=by
    rcases Nat.lt_or_ge i (aftM hs p) with h6|h6
    ·have:=h2 i h6;omega
    ·exact h6
   have hbs:(mh hs (aftM hs p)).base≤(mh hs i).base:=by
    by_cases e2:aftM hs p=i
    ·rw[e2];exact Int.le_refl _
    ·have h7:(mh hs (aftM hs p)).base+((mh hs (aftM hs p)).len-1)<(mh hs i).base:=ho.sort _ i (by omega) hi
     have h8:=(ho.each (aftM hs p) (by omega)).r
     unfold okR at h8
     omega
   have h9:p≤(mh hs (aftM hs p)).base+((mh hs (aftM hs p)).len-1):=h3 (by omega)
   exact⟨by omega,by unfold ovl;omega⟩
def frB (ow:List Int) (p:Nat) (n:Nat) (c:Nat):Bool:=decide (0<n∧ ∀x,x<c→ow.getD (p+x) 0=0)
theorem frB_zero (ow:List Int) (p n:Nat):frB ow p n 0=decide (0<n):=decide_eq_decide.2 ⟨fun h=>h.1,fun h=>⟨h,fun x hx=>by omega⟩⟩
structure MI (s:BS) (ow:List Int) (j:Nat):Prop where
 ok:s.ok
 len:ow.length=128
 tot:s.total≤j
 own: ∀x:Nat,x<128→ownH (s.sp 1).hs x=ow.getD x 0-1
structure Op where
 kind:Int
 space:Int
 addr:Int
 len:Int
 width:Int
 own:Int
 wr:Bool
 val:Int
 raw:Bool
structure MZ where
 s:BS
 ow:List Int
structure Tu where
 b:Int
 l:Int
 o:Int
 y:Int
def tuM (h:MH) (x:Int):Tu:=⟨h.base,h.len,h.own,byt h.bs (x-h.base).toNat⟩
def tuR (q:RH) (x:Int):Tu:=⟨q.base,q.len,q.own,byt q.bs (x-q.base).toNat⟩
def inM (s:BS) (z x:Int) (t:Tu):Prop:= ∃(m i:Nat),z=(m:Int)∧m<3∧i<(s.sp m).hs.length∧(mh (s.sp m).hs i).base≤x∧x≤(mh (s.sp m).hs i).lst∧t=tuM (mh (s.sp m).hs i) x
def inR (ms:List RH) (z x:Int) (t:Tu):Prop:= ∃i:Nat,i<ms.length∧hitR ms z x i∧t=tuR (rh ms i) x
def uqR (ms:List RH):Prop:= ∀(i j:Nat) (z x:Int),i<ms.length→j<ms.length→hitR ms z x i→hitR ms z x j→i=j
theorem mem_idx {β:Type} {l:List β} {i:Nat} (d:β) (h:i<l.length):l.getD i d∈l:=by
 simp[List.getD,h]
theorem idx_mem {β:Type} {l:List β} {y:β} (d:β) (h:y∈l): ∃i,i<l.length∧l.getD i d=y:=by
 obtain⟨i,hi,e⟩:=List.getElem_of_mem h
 exact⟨i,hi,by simp[List.getD,hi,e]⟩
theorem inM_mem {s:BS} {z x:Int} {t:Tu}:inM s z x t↔ ∃(m:Nat) (h:MH),z=(m:Int)∧m<3∧h∈(s.sp m).hs∧h.base≤x∧x≤h.lst∧t=tuM h x:=by
 constructor
 ·rintro⟨m,i,hz,hm,hi,h1,h2,h3⟩
  exact⟨m,_,hz,hm,mem_idx mhD hi,h1,h2,h3⟩
 ·rintro⟨m,h,hz,hm,hh,h1,h2,h3⟩
  obtain⟨i,hi,rfl⟩:=idx_mem mhD hh
  exact⟨m,i,hz,hm,hi,h1,h2,h3⟩
theorem inM_map {s:BS} (hk:s.ok) {m:Nat} (hm:m<3) (h:MH) (A:Option Addr) (c:Nat) {z x:Int} {t:Tu}:
 inM (mapG s m h A c) z x t↔(z=m∧h.base≤x∧x≤h.lst∧t=tuM h x)∨inM s z x t:=by
 rw[inM_mem,inM_mem]
 have hp:=insL_perm (s.sp m).hs (aftM (s.sp m).hs h.base) h
 constructor
 ·rintro⟨k,h2,rfl,hk3,hh,h3,h4,h5⟩
  rw[mapG_sp hk hm] at hh
  split at hh
  ·rename_i e;subst e
   rcases List.mem_cons.1 (hp.mem_iff.2 hh) with rfl|h6
   ·exact .inl ⟨rfl,h3,h4,h5⟩
   ·exact .inr ⟨k,h2,rfl,hk3,h6,h3,h4,h5⟩
  ·exact .inr ⟨k,h2,rfl,hk3,hh,h3,h4,h5⟩
 ·rintro(⟨rfl,h3,h4,h5⟩|⟨k,h2,rfl,hk3,hh,h3,h4,h5⟩)
  ·exact⟨m,h,rfl,hm,by rw[mapG_sp hk hm,if_pos rfl];exact hp.mem_iff.1 (List.mem_cons_self ..),h3,h4,h5⟩
  ·refine⟨k,h2,rfl,hk3,?_,h3,h4,h5⟩
   rw[mapG_sp hk hm]
   split
   ·rename_i e;subst e;exact hp.mem_iff.1 (List.mem_cons_of_mem _ hh)
   ·exact hh
theorem busy_in {s:BS} (hk:s.ok) {m:Nat} (hm:m<3) {p n:Int} (hn:1≤n):busy (s.sp m).hs p n↔ ∃x t,p≤x∧x<p+n∧inM s m x t:=by
 rw[busy_iff (hk.sp m hm) hn]
 constructor
 ·rintro⟨x,h1,h2,h3⟩
  rcases ownH_cases (hk.sp m hm) x with ⟨e,_⟩|⟨i,hi,h4,h5,_⟩
  ·exact absurd e h3
  ·exact⟨x,_,h1,h2,m,i,rfl,hm,hi,h4,h5,rfl⟩
 ·rintro⟨x,t,h1,h2,m2,i,e,_,hi,h4,h5,_⟩
  obtain rfl:m=m2:=by omega
  refine⟨x,h1,h2,fun e2=>?_⟩
  rw[ownH_at (hk.sp m hm) hi h4 h5] at e2
  have:=((hk.sp m hm).each i hi).o1
  omega
theorem getD_app {β:Type} (l:List β) (q d:β) (k:Nat):(l++[q]).getD k d=if k<l.length then l.getD k d else if k=l.length then q else d:=by
 by_cases h:k<l.length
 ·rw[if_pos h,getD_append_left d h]
 ·rw[if_neg h]
  by_cases e:k=l.length
  ·subst e;rw[if_pos rfl,getD_append_one]
  ·rw[if_neg e];have e2:(l++[q])[k]?=none:=List.getElem?_eq_none (by simp;omega);simp[List.getD,e2]
theorem inR_add {ms:List RH} {q:RH} {z x:Int} {t:Tu}:inR (ms++[q]) z x t↔(q.sp=z∧hasR q.base q.len x∧t=tuR q x)∨inR ms z x t:=by
 constructor
 ·rintro⟨i,hi,hh,rfl⟩
  unfold hitR rh at hh
  rw[List.length_append,List.length_singleton] at hi
  unfold rh
  rw[getD_app] at hh ⊢
  by_cases e:i<ms.length
  ·rw[if_pos e] at hh ⊢;exact .inr ⟨i,e,hh,rfl⟩
  ·rw[if_neg e,if_pos (by omega)] at hh ⊢;exact .inl ⟨hh.1,hh.2,rfl⟩
 ·rintro(⟨h1,h2,rfl⟩|⟨i,hi,hh,rfl⟩)
  ·refine⟨ms.length,by simp,?_,?_⟩
   ·unfold hitR rh;rw[getD_append_one];exact⟨h1,h2⟩
   ·unfold rh;rw[getD_append_one]
  ·refine⟨i,by simp;omega,?_,?_⟩
   ·unfold hitR rh;rw[getD_append_left _ hi];exact hh
   ·unfold rh;rw[getD_append_left _ hi]
theorem uqR_add {ms:List RH} (hu:uqR ms) {q:RH} (hn: ∀(x:Int) (t:Tu),hasR q.base q.len x→ ¬inR ms q.sp x t):uqR (ms++[q]):=by
 intro i j z x hi hj h1 h2
 unfold hitR rh at h1 h2
 rw[getD_app] at h1 h2
 simp only[List.length_append,List.length_singleton] at hi hj
 by_cases e1:i<ms.length
 ·rw[if_pos e1] at h1
  by_cases e2:j<ms.length
  ·rw[if_pos e2] at h2;exact hu i j z x e1 e2 h1 h2
  ·rw[if_neg e2,if_pos (by omega)] at h2
   exact absurd ⟨i,e1,by rw[h2.1];exact h1,rfl⟩ (hn x _ h2.2)
 ·rw[if_neg e1,if_pos (by omega)] at h1
  by_cases e2:j<ms.length
  ·rw[if_pos e2] at h2
   exact absurd ⟨j,e2,by rw[h1.1];exact h2,rfl⟩ (hn x _ h1.2)
  ·omega
theorem busyR_in {ms:List RH} {z p n:Int} (hn:1≤n) (hl: ∀i,i<ms.length→1≤(rh ms i).len):(∃i,i<ms.length∧busyR ms z p n i)↔ ∃x t,p≤x∧x<p+n∧inR ms z x t:=by
 constructor
 ·rintro⟨i,hi,h1,h2⟩
  have:=hl i hi
  rcases h2 with h2|h2
  ·exact⟨p,_,by omega,by omega,i,hi,⟨h1,h2⟩,rfl⟩
  ·exact⟨(rh ms i).base,_,h2.1,by have:=h2.2;omega,i,hi,⟨h1,by omega,by omega⟩,rfl⟩
 ·rintro⟨x,t,h1,h2,i,hi,⟨h3,h4,h5⟩,_⟩
  refine⟨i,hi,h3,?_⟩
  by_cases hc:(rh ms i).base≤p
  ·exact .inl ⟨hc,by omega⟩
  ·exact .inr ⟨by omega,by omega⟩
def filt (l:List Flt):List Flt:=l.filter fun f=>decide (0<f.cnt)
structure Rel (s:BS) (r:RB) (n:Nat):Prop where
 sk:s.ok
 rk:r.ok
 uq:uqR r.ms
 lk: ∀z x t,inM s z x t↔inR r.ms z x t
 en:s.en=r.en
 tr:s.tr=r.tr
 tot:s.total=r.ms.length
 fl:s.fl=filt r.fl
 nf:r.fl.length≤n
abbrev goodM (z p q o:Int):Prop:=(0≤z∧z<3)∧okR p q∧0≤o∧o<256
abbrev goodP (z p q n:Int):Prop:=(0≤z∧z<3)∧okR p q∧1≤n∧n≤64
section
variable {s:BS} {r:RB} {n:Nat}
theorem Rel.up (R:Rel s r n):Rel s r (n+1):=⟨R.sk,R.rk,R.uq,R.lk,R.en,R.tr,R.tot,R.fl,by have:=R.nf;omega⟩
inductive MapO (s:BS) (z p q o:Int):Int→BS→Prop
 |bad: ¬goodM z p q o→MapO s z p q o 1 s
 |busy (m:Nat):z=(m:Int)→goodM z p q o→busy (s.sp m).hs p q→MapO s z p q o 17 s
 |full (m:Nat):z=(m:Int)→goodM z p q o→ ¬Ios.busy (s.sp m).hs p q→s.total=256→MapO s z p q o 8 s
 |done (m bp:Nat) (A:Option Addr) (c:Nat):z=(m:Int)→goodM z p q o→ ¬Ios.busy (s.sp m).hs p q→s.total≠256→MapO s z p q o 0 (mapG s m ⟨bp,p,q,o,none,0,[]⟩ A c)
inductive MapR (r:RB) (z p q o:Int):Int→RB→Prop
 |bad: ¬goodM z p q o→MapR r z p q o 1 r
 |busy:goodM z p q o→(∃i,i<r.ms.length∧busyR r.ms z p q i)→MapR r z p q o 17 r
 |full:goodM z p q o→(∀i,i<r.ms.length→ ¬busyR r.ms z p q i)→r.ms.length=256→MapR r z p q o 8 r
 |done (A A2:Option Addr) (c2:Nat):goodM z p q o→(∀i,i<r.ms.length→ ¬busyR r.ms z p q i)→r.ms.length≠256→MapR r z p q o 0 (radd r (rnew z p q o A) A2 c2)
theorem rlen (hk:r.ok): ∀i,i<r.ms.length→1≤(rh r.ms i).len:=fun i hi=>by have:=(hk.each i hi).r;unfold okR at this;omega
theorem Rel.busy (R:Rel s r n) {m:Nat} (hm:m<3) {p q:Int} (hq:1≤q):Ios.busy (s.sp m).hs p q↔ ∃i,i<r.ms.length∧busyR r.ms m p q i:=by
 rw[busy_in R.sk hm hq,busyR_in hq (rlen R.rk)]
 constructor
 ·rintro⟨x,t,h1,h2,h3⟩;exact⟨x,t,h1,h2,(R.lk _ _ _).1 h3⟩
 ·rintro⟨x,t,h1,h2,h3⟩;exact⟨x,t,h1,h2,(R.lk _ _ _).2 h3⟩
theorem rnew_ok {z p q o:Int} {A:Option Addr} (hp:isU p) (hg:goodM z p q o):(rnew z p q o A).ok:=
 ⟨hg.1.1,hg.1.2,hp,hg.2.1,hg.2.2.1,hg.2.2.2,by simp[rnew],fun i=>by simp[rnew,List.getD,List.getElem?_replicate];split<;>simp⟩
theorem radd_ok (hk:r.ok) {q:RH} (hq:q.ok) (hl:r.ms.length≠256) (A:Option Addr) (c:Nat):(radd r q A c).ok:=by
 have:=hk.max
 refine⟨hk.en,fun i hi=>?_,by show(r.ms++[q]).length≤256;simp;omega,hk.fl,hk.fr,hk.tr⟩
 show((r.ms++[q]).getD i rhK.d).ok
 have hi2:i<r.ms.length+1:=by simpa[radd] using hi
 rw[getD_app]
 by_cases e:i<r.ms.length
 ·rw[if_pos e];exact hk.each i e
 ·rw[if_neg e,if_pos (by omega)];exact hq
theorem Rel.map (R:Rel s r n) {z p q o e e2:Int} {s2:BS} {r2:RB} (hp:isU p) (h1:MapO s z p q o e s2) (h2:MapR r z p q o e2 r2):e=e2∧Rel s2 r2 (n+1):=by
 by_cases hg:goodM z p q o
 ·have hq:1≤q:=hg.2.1.1
  cases h1 with
  |bad h=>exact absurd hg h
  |busy m hz _ hb=>
   subst hz
   have hb2:=(R.busy (by have:=hg.1.2;omega) hq).1 hb
   cases h2 with
   |bad h=>exact absurd hg h
   |busy _ _=>exact⟨rfl,R.up⟩
   |full _ h _=>obtain⟨i,hi,hbi⟩:=hb2;exact absurd hbi (h i hi)
   |done _ _ _ _ h _=>obtain⟨i,hi,hbi⟩:=hb2;exact absurd hbi (h i hi)
  |full m hz _ hb ht=>
   subst hz
   have hb2:=fun k=>hb ((R.busy (by have:=hg.1.2;omega) hq).2 k)
   have htt:=R.tot
   cases h2 with
   |bad h=>exact absurd hg h
   |busy _ h=>exact absurd h hb2
   |full _ _ _=>exact⟨rfl,R.up⟩
   |done _ _ _ _ _ h=>exact absurd (by omega) h
  |done m bp A c hz _ hb ht=>
   subst hz
   have hm:m<3:=by have:=hg.1.2;omega
   have hb2:=fun k=>hb ((R.busy hm hq).2 k)
   have htt:=R.tot
   cases h2 with
   |bad h=>exact absurd hg h
   |busy _ h=>exact absurd h hb2
   |full _ _ h=>exact absurd (by omega) ht
   |done A1 A2 c2 _ hb3 hl=>
    refine⟨rfl,?_⟩
    have hh:(⟨bp,p,q,o,none,0,[]⟩:MH).ok:=newH_ok hp hg.2.1 hg.2.2.1 hg.2.2.2
    have hno: ∀(x:Int) (t:Tu),hasR p q x→ ¬inR r.ms m x t:=fun x t hx hin=>hb2 ((busyR_in hq (rlen R.rk)).2 ⟨x,t,hx.1,by have:=hx.2;omega,hin⟩)
    refine⟨mapG_ok R.sk hm hh hb ht A c,radd_ok R.rk (rnew_ok hp hg) hl A2 c2,uqR_add R.uq hno,fun z x t=>?_,R.en,R.tr,?_,R.fl,by have:=R.nf;show r.fl.length≤n+1;omega⟩
    ·rw[inM_map R.sk hm]
     show _↔inR (r.ms++[rnew m p q o A1]) z x t
     rw[inR_add,R.lk]
     have e1:tuM ⟨bp,p,q,o,none,0,[]⟩ x=tuR (rnew m p q o A1) x:=by
      unfold tuM tuR rnew byt
      simp[List.getD,List.getElem?_replicate]
      split<;>rfl
     constructor
     ·rintro(⟨h1,h2,h3,h4⟩|h)
      ·refine .inl ⟨h1.symm,⟨h2,?_⟩,h4.trans e1⟩
       have h3':x≤p+(q-1):=h3
       show x-p<q
       omega
      ·exact .inr h
     ·rintro(⟨h1,h2,h3⟩|h)
      ·have h2a:p≤x:=h2.1
       have h2b:x-p<q:=h2.2
       exact .inl ⟨h1.symm,h2a,by show x≤p+(q-1);omega,h3.trans e1.symm⟩
      ·exact .inr h
    ·show s.total+1=((r.ms++[rnew m p q o A1]).length:Int)
     rw[List.length_append,htt];simp
 ·cases h1 with
  |bad _=>cases h2 with
   |bad _=>exact⟨rfl,R.up⟩
   |busy h=>exact absurd h hg
   |full h=>exact absurd h hg
   |done _ _ _ h=>exact absurd h hg
  |busy _ _ h=>exact absurd h hg
  |full _ _ h=>exact absurd h hg
  |done _ _ _ _ _ h=>exact absurd h hg
inductive UnO (s:BS) (z p q:Int):Int→BS→Prop
 |no:(¬ ∃m i:Nat,unmA s z p q m i)→UnO s z p q 6 s
 |yes (m i:Nat):unmA s z p q m i→UnO s z p q 0 (unmG s m i)
inductive UnR (r:RB) (z p q:Int):Int→RB→Prop
 |no:(∀k,k<r.ms.length→ ¬((rh r.ms k).sp=z∧(rh r.ms k).base=p∧(rh r.ms k).len=q))→UnR r z p q 6 r
 |yes (j:Nat) (A:Option Addr) (c:Nat):j<r.ms.length→(rh r.ms j).sp=z∧(rh r.ms j).base=p∧(rh r.ms j).len=q→UnR r z p q 0 (rdel r j A c)
inductive EnO (s:BS) (o:Int) (v:Bool):Int→BS→Prop
 |bad: ¬(0≤o∧o<256)→EnO s o v 1 s
 |done:0≤o∧o<256→EnO s o v 0 {s with en:=s.en.set o.toNat v}
inductive EnR (r:RB) (o:Int) (v:Bool):Int→RB→Prop
 |bad: ¬(0≤o∧o<256)→EnR r o v 1 r
 |done:0≤o∧o<256→EnR r o v 0 {r with en:=r.en.set o.toNat v}
theorem Rel.enb (R:Rel s r n) {o e e2:Int} {v:Bool} {s2:BS} {r2:RB} (h1:EnO s o v e s2) (h2:EnR r o v e2 r2):e=e2∧Rel s2 r2 (n+1):=by
 cases h1 with
 |bad h=>cases h2 with
  |bad _=>exact⟨rfl,R.up⟩
  |done h2=>exact absurd h2 h
 |done h=>cases h2 with
  |bad h2=>exact absurd h h2
  |done _=>
   have hk:=R.rk
   exact⟨rfl,R.sk.en _ _,⟨by show(r.en.set _ _).length=256;rw[List.length_set];exact hk.en,hk.each,hk.max,hk.fl,hk.fr,hk.tr⟩,R.uq,R.lk,by show s.en.set _ _=r.en.set _ _;rw[R.en],R.tr,R.tot,R.fl,R.up.nf⟩
inductive PlO (s:BS) (z p q c:Int):Int→BS→Prop
 |bad: ¬goodP z p q c→PlO s z p q c 1 s
 |full:goodP z p q c→s.fl.length=64→PlO s z p q c 8 s
 |done (A:Option Addr) (d:Nat):goodP z p q c→s.fl.length≠64→PlO s z p q c 0 (fltG s ⟨z,p,q,c⟩ A d)
inductive PlR (r:RB) (z p q c:Int):Int→RB→Prop
 |bad: ¬goodP z p q c→PlR r z p q c 1 r
 |full:goodP z p q c→64≤lvC r.fl r.fl.length→PlR r z p q c 8 r
 |done (A:Option Addr) (d:Nat):goodP z p q c→ ¬64≤lvC r.fl r.fl.length→PlR r z p q c 0 (rflt r ⟨z,p,q,c⟩ A d)
end
structure RI (s:BS) (h:MH) (m:Nat) (B:Int) (o w:Nat) (v:Int) (t:Nat):Prop where
 ok:s.ok
 e:(s.sp m).hs=[h]
 b:h.base=B
 l:h.len=64
 own:h.own=o
 en:s.en.getD o false=true
 fl:s.fl=[]
 tr:s.tr.length≤t
 by': ∀j,j<w→byt h.bs (16+j)=byo v j
structure RZ where
 t:Nat
 s:BS
 h:MH
section
variable {s:BS} {r:RB} {n:Nat} {a:Acs}
structure Both (s:BS) (r:RB) (z x:Int) (m i j:Nat):Prop where
 ez:z=(m:Int)
 lm:m<3
 f:fnd s m x=some i
 li:i<(s.sp m).hs.length
 b1:(mh (s.sp m).hs i).base≤x
 b2:x≤(mh (s.sp m).hs i).lst
 g:fR r.ms z x=j
 lj:j<r.ms.length
 h:hitR r.ms z x j
 eb:(mh (s.sp m).hs i).base=(rh r.ms j).base
 el:(mh (s.sp m).hs i).len=(rh r.ms j).len
 eo:(mh (s.sp m).hs i).own=(rh r.ms j).own
 ey:byt (mh (s.sp m).hs i).bs (x-(mh (s.sp m).hs i).base).toNat=byt (rh r.ms j).bs (x-(rh r.ms j).base).toNat
inductive AccO (s:BS) (a:Acs):Int→Int→BS→Prop
 |bad: ¬wfA a→AccO s a 0 1 s
 |full:wfA a→s.tr.length=65536→AccO s a 0 8 s
 |done (A:Option Addr) (c:Nat) (tA:Option Addr) (tc:Nat):wfA a→s.tr.length≠65536→(wrs s a→A≠none)→AccO s a (accV s a) (accE s a) (accS s a A c tA tc)
inductive AccR (r:RB) (a:Acs):Int→Int→RB→Prop
 |bad: ¬wfA a→AccR r a 0 1 r
 |full:wfA a→65536≤r.tr.length→AccR r a 0 8 r
 |done (r2:RB) (x:Int) (lv fl:Bool) (A:Option Addr) (c:Nat):wfA a→ ¬65536≤r.tr.length→RAx r a r2 x lv fl→AccR r a (if fl=true then 0 else if a.wr=true then 0 else x) (if fl=true then 15 else 0) (rtr r2 ⟨{a with val:=x},ownR r.ms a.space a.addr,lv,fl⟩ A c)
inductive PkO (s:BS) (z x v:Int):Bool→BS→Prop
 |no:fnd s z x=none→PkO s z x v false s
 |yes (m i:Nat) (A:Option Addr) (c:Nat):z=(m:Int)→m<3→fnd s z x=some i→i<(s.sp m).hs.length→A≠none→PkO s z x v true (setM s m i {mh (s.sp m).hs i with A:=A,c:=c,bs:=wrK (raw0 (mh (s.sp m).hs i)) (x-(mh (s.sp m).hs i).base).toNat v 1})
inductive PkR (r:RB) (z x v:Int):Bool→RB→Prop
 |no: ¬0≤fR r.ms z x→PkR r z x v false r
 |yes (i:Nat):fR r.ms z x=i→i<r.ms.length→PkR r z x v true (setB r i ((rh r.ms i).bs.set (x-(rh r.ms i).base).toNat v))
def rb0:RB:=⟨none,0,[],List.replicate 256 false,none,0,[],none,0,[]⟩
theorem Rel.start:Rel bs0 rb0 0 where
 sk:=bs0_ok
 rk:=⟨by show(List.replicate 256 false).length=256;exact List.length_replicate,fun i hi=>absurd hi (Nat.not_lt_zero _),by show 0≤256;omega,by show 0≤1000;omega,fun i hi=>absurd hi (Nat.not_lt_zero _),by show 0≤65536;omega⟩
 uq i j z x hi:=absurd hi (Nat.not_lt_zero _)
 lk z x t:=by
  constructor
  ·rintro⟨m,i,_,hm,hi,_⟩
   have:(bs0.sp m).hs.length=0:=by
    obtain rfl|rfl|rfl:m=0∨m=1∨m=2:=by omega
    ·rfl
    ·rfl
    ·rfl
   omega
  ·rintro⟨i,hi,_⟩;exact absurd hi (Nat.not_lt_zero _)
 en:=rfl
 tr:=rfl
 tot:=rfl
 fl:=rfl
 nf:=Nat.le_refl _
end
end Go.Ios
