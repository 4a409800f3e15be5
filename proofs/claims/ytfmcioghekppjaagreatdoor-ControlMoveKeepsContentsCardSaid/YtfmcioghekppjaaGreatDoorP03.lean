/-
  Joined.
-/
import Derived.Test.YtfmcioghekppjaaGreatDoorP01
import Derived.Lib.ParseIntB
import Derived.Lib.ItoaNum
import Derived.Lib.ItoaLen
import Derived.Lib.Join
import Derived.Shelf.Pu.ParseUintPublic10
import Derived.Test.YtfmcioghekppjaaGreatDoorProg
import Derived.Laws.BytesArg
set_option linter.unusedSimpArgs false
set_option linter.unusedVariables false
namespace Go.Drv
open Go.Sv
def digB (c:UInt8):Bool:=decide (48≤c.toNat∧c.toNat≤57)
def ltrB (c:UInt8):Bool:=decide ((97≤c.toNat∧c.toNat≤122)∨(65≤c.toNat∧c.toNat≤90)∨c.toNat=95)
def wrdB (c:UInt8):Bool:=ltrB c||digB c
def isNm (l:Bs):Bool:=!l.isEmpty&&decide (l.length≤32)&&!digB (l.getD 0 0)&&l.all wrdB
structure Gd where
 used:Bool
 reg:Int
 mask:Int
 val:Int
deriving DecidableEq
structure Ro where
 wr:Bool
 reg:Int
 val:Int
deriving DecidableEq
structure Tr where
 frm:Int
 ev:Bs
 gd:Gd
 ops:List Ro
 to:Int
deriving DecidableEq
structure Dv where
 name:Bs
 ss:List Bs
 ts:List Tr
deriving DecidableEq
def gd0:Gd:=⟨false,0,0,0⟩
def tr0:Tr:=⟨0,[],gd0,[],0⟩
def ro0:Ro:=⟨false,0,0⟩
def dv0:Dv:=⟨[],[],[]⟩
def gdOk (g:Gd):Bool:=g.used||decide (g.reg=0∧g.mask=0∧g.val=0)
def roOk (o:Ro):Bool:=o.wr||decide (o.val=0)
def okT (n:Nat) (t:Tr):Bool:=decide ((0≤t.frm∧t.frm<n)∧(0≤t.to∧t.to<n))&&isNm t.ev&&gdOk t.gd&&decide (t.ops.length≤16)&&t.ops.all roOk
def kFm (ts:List Tr) (i:Nat):Prop:=i=0∨(ts.getD (i-1) tr0).frm≤(ts.getD i tr0).frm
instance(ts:List Tr) (i:Nat):Decidable (kFm ts i):=inferInstanceAs (Decidable (_∨_))
def chkA (d:Dv):Bool:=isNm d.name&&decide (0<d.ss.length∧d.ss.length≤32∧d.ts.length≤128)&&d.ss.all isNm&&d.ts.all (okT d.ss.length)&&(List.range d.ts.length).all (fun i=>decide (kFm d.ts i))
def chkM (d:Dv):Int:=if chkA d=true then (if d.ss.Nodup then 0 else 7) else 1
theorem kBU {α:Type} {p:α→Bool} {l:List α} (d:α):l.all p=true↔ ∀k,k<l.length→p (l.getD k d)=true:=by
 rw[List.all_eq_true];constructor
 ·intro h k hk;exact h _ (by simp[List.getD,hk])
 ·intro h x hx;obtain⟨i,hi,rfl⟩:=List.getElem_of_mem hx;have:=h i hi;simpa[List.getD,hi] using this
theorem kBV (l:Bs):isNm l=true↔0<l.length∧l.length≤32∧digB (l.getD 0 0)=false∧ ∀k,k<l.length→wrdB (l.getD k 0)=true:=by
 unfold isNm;simp only[qg,Bool.not_eq_true',qj,kBU (0:UInt8)];rw[List.isEmpty_eq_false_iff,←ql];constructor
 ·rintro⟨⟨⟨h1,h2⟩,h3⟩,h4⟩;exact⟨h1,h2,h3,h4⟩
 ·rintro⟨h1,h2,h3,h4⟩;exact⟨⟨⟨h1,h2⟩,h3⟩,h4⟩
theorem kMq {l:Bs} (h1:0<l.length) (h2:l.length≤32) (h3:digB (l.getD 0 0)=false) (h4: ∀k,k<l.length→wrdB (l.getD k 0)=true):isNm l=true:=(kBV l).2 ⟨h1,h2,h3,h4⟩
theorem kAF {b:Bool} (h: ¬b=true):b=false:=by cases b<;>simp_all
theorem kDl {l:Bs} (h: ¬0<l.length):isNm l=false:=kAF fun k=>h ((kBV l).1 k).1
theorem kDm {l:Bs} (h: ¬l.length≤32):isNm l=false:=kAF fun k=>h ((kBV l).1 k).2.1
theorem kBm {l:Bs} (h:digB (l.getD 0 0)=true):isNm l=false:=kAF fun k=>by have:=((kBV l).1 k).2.2.1;rw[h] at this;cases this
theorem kCF {l:Bs} {k:Nat} (hk:k<l.length) (h:wrdB (l.getD k 0)=false):isNm l=false:=kAF fun q=>by have:=((kBV l).1 q).2.2.2 k hk;rw[h] at this;cases this
theorem kAD (n:Nat) (t:Tr):okT n t=true↔(0≤t.frm∧t.frm<n)∧(0≤t.to∧t.to<n)∧isNm t.ev=true∧gdOk t.gd=true∧t.ops.length≤16∧ ∀k,k<t.ops.length→roOk (t.ops.getD k ro0)=true:=by
 unfold okT;simp only[qg,qj,kBU ro0];constructor
 ·rintro⟨⟨⟨⟨⟨h1,h2⟩,h3⟩,h4⟩,h5⟩,h6⟩;exact⟨h1,h2,h3,h4,h5,h6⟩
 ·rintro⟨h1,h2,h3,h4,h5,h6⟩;exact⟨⟨⟨⟨⟨h1,h2⟩,h3⟩,h4⟩,h5⟩,h6⟩
theorem kEu (d:Dv):chkA d=true↔isNm d.name=true∧(0<d.ss.length∧d.ss.length≤32∧d.ts.length≤128)∧(∀k,k<d.ss.length→isNm (d.ss.getD k [])=true)∧(∀k,k<d.ts.length→okT d.ss.length (d.ts.getD k tr0)=true)∧ ∀k,k<d.ts.length→kFm d.ts k:=by
 unfold chkA;simp only[qg,qj,kBU ([]:Bs),kBU tr0];have e:(List.range d.ts.length).all (fun i=>decide (kFm d.ts i))=true↔ ∀k,k<d.ts.length→kFm d.ts k:=by
  rw[List.all_eq_true];constructor
  ·intro h k hk;exact of_decide_eq_true (h k (List.mem_range.2 hk))
  ·intro h k hk;exact qR (h k (List.mem_range.1 hk))
 rw[e];constructor
 ·rintro⟨⟨⟨⟨h1,h2⟩,h3⟩,h4⟩,h5⟩;exact⟨h1,h2,h3,h4,h5⟩
 ·rintro⟨h1,h2,h3,h4,h5⟩;exact⟨⟨⟨⟨h1,h2⟩,h3⟩,h4⟩,h5⟩
theorem kAe {d:Dv} (h: ¬chkA d=true):chkM d=1:=if_neg h
theorem kJE {d:Dv} (h:chkA d=true) (h2:d.ss.Nodup):chkM d=0:=by rw[chkM,if_pos h,if_pos h2]
theorem kGY {d:Dv} (h:chkA d=true) (h2: ¬d.ss.Nodup):chkM d=7:=by rw[chkM,if_pos h,if_neg h2]
theorem kAy {l:List Bs}:l.Nodup↔ ∀i j,i<j→j<l.length→l.getD i []≠l.getD j []:=by
 rw[List.nodup_iff_pairwise_ne,List.pairwise_iff_getElem];constructor
 ·intro h i j hij hj;have:=h i j (by omega) hj hij;simpa[List.getD,hj,show i<l.length by omega] using this
 ·intro h i j hi hj hij;have:=h i j hij hj;simpa[List.getD,hj,hi] using this
theorem kJF {c:UInt8} (h:ltrB c=true):digB c=false:=by
 have:=of_decide_eq_true h;exact qQ (by omega)
def kA4:Bs→List Bs
 |[]=>[[]]
 |c::r=>if c=10 then []::kA4 r else match kA4 r with
  |[]=>[[c]]
  |h::t=>(c::h)::t
theorem kAz: ∀(p r:Bs),(∀c∈p,c≠10)→kA4 (p++10::r)=p::kA4 r
 |[],r,_=>by simp[kA4]
 |c::p,r,h=>by
  have h1:c≠10:=h c (List.mem_cons_self ..);rw[qM,kA4,if_neg h1,kAz p r fun x hx=>h x (List.mem_cons_of_mem _ hx)]
theorem kCG: ∀(p:Bs),(∀c∈p,c≠10)→kA4 p=[p]
 |[],_=>rfl
 |c::p,h=>by
  have h1:c≠10:=h c (List.mem_cons_self ..);rw[kA4,if_neg h1,kCG p fun x hx=>h x (List.mem_cons_of_mem _ hx)]
inductive MT where
 |nm (t:Bs)
 |num (v:Int)
 |sym (c:Nat)
deriving DecidableEq
def valD (n:Nat) (l:Bs):Nat:=l.foldl (fun n c=>10* n+(c.toNat-48)) n
def numW (w:Bs):Bool:=!w.isEmpty&&(decide (w.length=1)||decide (w.getD 0 0≠48))&&w.all digB
def kA7 (w:Bs):Option MT:=if isNm w=true then some (.nm w) else if numW w=true∧valD 0 w<18446744073709551616 then some (.num (valD 0 w)) else none
def symB (c:UInt8):Bool:=decide (c=58∨c=59∨c=38∨c=61)
def spB (c:UInt8):Bool:=decide (c=32∨c=9)
def cutH (l:Bs):Bs:=l.takeWhile (fun c=>decide (c≠35))
def toks:Nat→Bs→Option (List MT)
 |0,_=>none
 |_+1,[]=>some []
 |n+1,c::r=>
  if spB c=true then toks n r
  else if symB c=true then (toks n r).map (fun x=>MT.sym c.toNat::x)
  else if c=45∧r.getD 0 0=62 then (toks n (r.drop 1)).map (fun x=>MT.sym 62::x)
  else match kA7 ((c::r).takeWhile wrdB) with
   |none=>none
   |some t=>(toks n ((c::r).dropWhile wrdB)).map (fun x=>t::x)
def tk (l:Bs):Option (List MT):=toks (l.length+1) l
theorem kCH:kA7 []=none:=rfl
theorem kHO {w:Bs} {p:UInt8→Bool}:(w.takeWhile p).length+(w.dropWhile p).length=w.length:=by
 rw[←qD,List.takeWhile_append_dropWhile]
theorem kFn: ∀(l:Bs) (n m:Nat),l.length<n→l.length<m→toks n l=toks m l:=by
 intro l;generalize hk:l.length=k
 induction k using Nat.strongRecOn generalizing l with
 |_ k ih=>
  intro n m hn hm
  match n,m,hn,hm with
  |n+1,m+1,hn,hm=>
   match l with
   |[]=>rfl
   |c::r=>
    have hr:r.length<k:=by rw[←hk];simp
    rw[toks,toks];split
    ·exact ih r.length hr r rfl n m (by omega) (by omega)
    ·split
     ·rw[ih r.length hr r rfl n m (by omega) (by omega)]
     ·split
      ·rw[ih (r.drop 1).length (by rw[qG];omega) (r.drop 1) rfl n m (by rw[qG];omega) (by rw[qG];omega)]
      ·cases hw:kA7 ((c::r).takeWhile wrdB) with
       |none=>rfl
       |some t=>
        have h0:0<((c::r).takeWhile wrdB).length:=by
         rcases Nat.eq_zero_or_pos ((c::r).takeWhile wrdB).length with h|h
         ·rw[qO h,kCH] at hw;cases hw
         ·exact h
        have h1:=kHO (w:=c::r) (p:=wrdB);simp only[];rw[ih ((c::r).dropWhile wrdB).length (by omega) _ rfl n m (by omega) (by omega)]
theorem kMr:tk []=some []:=rfl
theorem kQF {c:UInt8} {r:Bs} (h:spB c=true):tk (c::r)=tk r:=by
 rw[tk,qB,toks,if_pos h];rfl
theorem kFo {c:UInt8} {r:Bs} (h0:spB c=false) (h:symB c=true):tk (c::r)=(tk r).map (fun x=>MT.sym c.toNat::x):=by
 rw[tk,qB,toks,if_neg (by rw[h0];decide),if_pos h];rfl
theorem kMs {r:Bs} (h:r.getD 0 0=62):tk (45::r)=(tk (r.drop 1)).map (fun x=>MT.sym 62::x):=by
 rw[tk,qB,toks,if_neg (by decide),if_neg (by decide),if_pos ⟨rfl,h⟩];have hl:r.length≠0:=by
  intro h0;rw[qO h0] at h;exact absurd h (by decide)
 rw[kFn (r.drop 1) (r.length+1) ((r.drop 1).length+1) (by rw[qG];omega) (by omega)];rfl
theorem kJG {c:UInt8} {r:Bs} (h0:spB c=false) (h1:symB c=false) (h2: ¬(c=45∧r.getD 0 0=62)):tk (c::r)=match kA7 ((c::r).takeWhile wrdB) with
 |none=>none
 |some t=>(tk ((c::r).dropWhile wrdB)).map (fun x=>t::x):=by
 rw[tk,qB,toks,if_neg (by rw[h0];decide),if_neg (by rw[h1];decide),if_neg h2];cases hw:kA7 ((c::r).takeWhile wrdB) with
 |none=>rfl
 |some t=>
  have h0:0<((c::r).takeWhile wrdB).length:=by
   rcases Nat.eq_zero_or_pos ((c::r).takeWhile wrdB).length with h|h
   ·rw[qO h,kCH] at hw;cases hw
   ·exact h
  have h3:=kHO (w:=c::r) (p:=wrdB);simp only[qB] at h3;simp only[];rw[kFn ((c::r).dropWhile wrdB) (r.length+1) (((c::r).dropWhile wrdB).length+1) (by omega) (by omega)];rfl
def kBn:Bs:=[100,114,105,118,101,114]
def kB0:Bs:=[115,116,97,116,101]
def sOn:Bs:=[111,110]
def sIf:Bs:=[105,102]
def kDn:Bs:=[119,114,105,116,101]
def kIU:Bs:=[114,101,97,100]
def opM:List MT→Option (Ro×List MT)
 | .nm k:: .num a::r=>if k=kDn then (match r with
  | .num v::r2=>some (⟨true,a,v⟩,r2)
  |_=>none) else if k=kIU then some (⟨false,a,0⟩,r) else none
 |_=>none
def opsM:Nat→List MT→Option (List Ro)
 |0,_=>none
 |n+1,l=>match opM l with
  |none=>none
  |some (o,[])=>some [o]
  |some (o,.sym 59::r)=>(opsM n r).map (fun x=>o::x)
  |some _=>none
def kCI:List MT→Option (List Ro)
 |[]=>some []
 | .sym 58::r=>opsM (r.length+1) r
 |_=>none
def gdM:List MT→Option (Gd×List MT)
 | .nm i:: .num a:: .sym 38:: .num m:: .sym 61:: .num v::r=>if i=sIf then some (⟨true,a,m,v⟩,r) else none
 | .nm _::_=>none
 |r=>some (gd0,r)
def onM:List MT→Option (Tr×Bs)
 | .nm e::r=>match gdM r with
  |some (g,.sym 62:: .nm t::r2)=>(kCI r2).map (fun o=>(⟨0,e,g,o,0⟩,t))
  |_=>none
 |_=>none
structure PS where
 named:Bool
 name:Bs
 ss:List Bs
 ts:List Tr
 tg:List Bs
def ps0:PS:=⟨false,[],[],[],[]⟩
def kAT (p:PS):List MT→Option PS
 |[]=>some p
 | .nm k::r=>
  if p.named=false then (match r with
   |[.nm n]=>if k=kBn then some {p with named:=true,name:=n} else none
   |_=>none)
  else if k=kB0 then (match r with
   |[.nm n]=>some {p with ss:=p.ss++[n]}
   |_=>none)
  else if k=sOn∧p.ss≠[] then (onM r).map (fun x=>{p with ts:=p.ts++[{x.1 with frm:=(p.ss.length:Int)-1}],tg:=p.tg++[x.2]})
  else none
 |_=>none
def lnM (p:PS) (l:Bs):Option PS:=(tk (cutH l)).bind (kAT p)
def runM (p:PS):List Bs→Option PS
 |[]=>some p
 |l::r=>(lnM p l).bind fun q=>runM q r
theorem kEv (p:PS): ∀(a b:List Bs),runM p (a++b)=(runM p a).bind fun q=>runM q b:=by
 intro a
 induction a generalizing p with
 |nil=>intro b;rfl
 |cons l r ih=>
  intro b;rw[qM,runM,runM];cases lnM p l with
  |none=>rfl
  |some q=>exact ih q b
def kBo (ss:List Bs) (t:Bs):Option Nat:=(List.range ss.length).find? (fun i=>decide (ss.getD i []=t))
def kB1 (ss:List Bs):List Tr→List Bs→Option (List Tr)
 |[],_=>some []
 |t::ts,g::gs=>match kBo ss g with
  |none=>none
  |some i=>(kB1 ss ts gs).map (fun x=>{t with to:=(i:Int)}::x)
 |_::_,[]=>some []
def finM (p:PS):Int×Dv:=
 if p.named=false then (2,dv0)
 else if ¬p.ss.Nodup then (7,dv0)
 else match kB1 p.ss p.ts p.tg with
  |none=>(6,dv0)
  |some ts=>if chkM ⟨p.name,p.ss,ts⟩=0 then (0,⟨p.name,p.ss,ts⟩) else (chkM ⟨p.name,p.ss,ts⟩,dv0)
def kAH (s:Bs):Int×Dv:=match runM ps0 (kA4 s) with
 |none=>(2,dv0)
 |some p=>finM p
def roK:Enc Ro where
 f r:=[.bool r.wr,.int .u64 r.reg,.int .u64 r.val]
 sz:=3
 d:=ro0
 len _:=rfl
 pos:=by decide
 one r v hv:=by simp at hv;rcases hv with rfl|rfl|rfl<;>rfl
structure TH where
 t:Tr
 A:Option Addr
 c:Nat
def thD:TH:=⟨tr0,none,0⟩
def thK:Enc TH where
 f h:=[.int .i64 h.t.frm,.string (bs h.t.ev),.bool h.t.gd.used,.int .u64 h.t.gd.reg,.int .u64 h.t.gd.mask,.int .u64 h.t.gd.val,.slice h.A h.t.ops.length h.c,.int .i64 h.t.to]
 sz:=8
 d:=thD
 len _:=rfl
 pos:=by decide
 one r v hv:=by simp at hv;rcases hv with rfl|rfl|rfl|rfl|rfl|rfl|rfl|rfl<;>rfl
abbrev th (hs:List TH) (i:Nat):TH:=hs.getD i thD
structure DH where
 name:Bs
 sA:Option Addr
 sc:Nat
 ss:List Bs
 tA:Option Addr
 tc:Nat
 hs:List TH
def DH.d (d:DH):Dv:=⟨d.name,d.ss,d.hs.map (·.t)⟩
structure DR (w:World) (d:DH):Prop where
 s:RS w strK d.sA d.ss
 t:RS w thK d.tA d.hs
 o: ∀i,i<d.hs.length→RS w roK (th d.hs i).A (th d.hs i).t.ops
theorem DR.keep {I:Ids} {w0 w:World} {L:List Assn} {d:DH} (h:Hp I w0 L w) (k:DR w0 d) (hI: ∀x,¬I x):DR w d:=
 ⟨h.rs k.s fun _=>hI _,h.rs k.t fun _=>hI _,fun i hi=>h.rs (k.o i hi) fun _=>hI _⟩
def intK (k:IntKind):Enc Int where
 f n:=[.int k n]
 sz:=1
 d:=0
 len _:=rfl
 pos:=by decide
 one r v hv:=by simp at hv;subst hv;rfl
theorem kCc (hs:List TH) (i:Nat):(hs.map (·.t)).getD i tr0=(th hs i).t:=by
 unfold th;simp only[List.getD,List.getElem?_map];cases hs[i]?<;>rfl
theorem kQG {hs:List TH} {i:Nat}:kFm (hs.map (·.t)) i↔i=0∨(th hs (i-1)).t.frm≤(th hs i).t.frm:=by
 unfold kFm;rw[kCc,kCc]
theorem kAC (d:DH):chkA d.d=true↔isNm d.name=true∧(0<d.ss.length∧d.ss.length≤32∧d.hs.length≤128)∧(∀k,k<d.ss.length→isNm (d.ss.getD k [])=true)∧(∀k,k<d.hs.length→okT d.ss.length (th d.hs k).t=true)∧ ∀k,k<d.hs.length→(k=0∨(th d.hs (k-1)).t.frm≤(th d.hs k).t.frm):=by
 rw[kEu];simp only[DH.d,qE,kCc,kQG]
theorem ff {b:Bool} (h:b=true) (h2:b=false):False:=by rw[h] at h2;cases h2
theorem kB6 {b:Bool} (h:(!b)=true):b=false:=by cases b<;>simp_all
theorem kB7 {b:Bool} (h:(!b)=false):b=true:=by cases b<;>simp_all
theorem kBp {w:World} {p:Nat} {vs us:List Value} (k:Nat) (h: ∀j v,vs[j]?=some v→w.cell? ⟨p,0+j,none⟩=some v) (hu:(vs.drop k).take us.length=us): ∀j v,us[j]?=some v→w.cell? ⟨p,0+k+j,none⟩=some v:=fun j v hv=>by
 rw[Nat.add_assoc];refine h _ _ ?_;rw[←hu,List.getElem?_take] at hv;split at hv
 ·rw[List.getElem?_drop] at hv;exact hv
 ·cases hv
def strV (l:Bs):Value:= .string (bs l)
theorem kBG (q:Bs): ∀l:List Bs,mget (l.map fun x=>(x,true)) q=if q∈l then some true else none
 |[]=>by simp[mget]
 |a::l=>by
  rw[List.map_cons,mget,kBG q l];by_cases h:q=a
  ·simp[h]
  ·simp[h]
theorem kEj (q:Bs) (l:List Bs):(mget (l.map fun x=>(x,true)) q).getD false=decide (q∈l):=by
 rw[kBG];by_cases h:q∈l
 ·simp[h]
 ·simp[h]
theorem kFp {α:Type} {l:List α} {j:Nat} (d:α) (h:j<l.length):l.take (j+1)=l.take j++[l.getD j d]:=by
 rw[List.take_add_one];simp[List.getD,qJ h]
theorem kLM {l:List Bs} {j:Nat} {q:Bs}:q∈l.take j↔ ∃i,i<j∧i<l.length∧l.getD i []=q:=by
 constructor
 ·intro h;obtain⟨i,hi,e⟩:=List.getElem_of_mem h;rw[qF] at hi;exact⟨i,by omega,by omega,by rw[←e];simp[List.getD,show i<l.length by omega]⟩
 ·rintro⟨i,h1,h2,rfl⟩;rw[show l.getD i []=(l.take j)[i]'(by rw[qF];omega) by simp[List.getD,h2]];exact List.getElem_mem _
def symT (n:Nat):Bs:=if n=62 then [45,62] else [n.toUInt8]
def kBJ:MT→Int
 | .nm _=>1
 | .num _=>2
 | .sym _=>3
def kEw:MT→Bs
 | .nm t=>t
 | .num _=>[]
 | .sym n=>symT n
def tnum:MT→Int
 | .num v=>v
 |_=>0
def tokC (t:MT):List Value:=[.int .i64 (kBJ t),.string (bs (kEw t)),.int .u64 (tnum t)]
def tokK:Enc MT where
 f:=tokC
 sz:=3
 d:= .num 0
 len t:=rfl
 pos:=by decide
 one t v hv:=by simp[tokC] at hv;rcases hv with rfl|rfl|rfl<;>rfl
theorem kAI {l:Bs} {i:Nat} (h:i<l.length):l.drop i=l.getD i 0::l.drop (i+1):=by
 rw[List.drop_eq_getElem_cons h];simp[List.getD,qJ h]
theorem kEx (l:Bs) (i j:Nat):(l.drop i).getD j 0=l.getD (i+j) 0:=by simp[List.getD]
theorem kHP {l:Bs} {i:Nat} (h:i<l.length):(l.take (i+1)).drop i=[l.getD i 0]:=by
 rw[List.drop_take,show i+1-i=1 by omega,kAI h];rfl
theorem kHQ {l:Bs} {p:UInt8→Bool} {w r:Bs} (h:l=w++r) (h1: ∀x∈w,p x=true) (h2:r=[]∨p (r.getD 0 0)=false):l.takeWhile p=w∧l.dropWhile p=r:=by
 subst h
 induction w with
 |nil=>
  rcases h2 with rfl|h2
  ·exact⟨rfl,rfl⟩
  ·cases r with
   |nil=>exact⟨rfl,rfl⟩
   |cons a r=>
    have ha:p a=false:=h2;simp[ha]
 |cons a w ih=>
  have ha:=h1 a (List.mem_cons_self ..);have:=ih fun x hx=>h1 x (List.mem_cons_of_mem _ hx);simp[ha,this.1,this.2]
theorem kSJ {l:Bs} {p:UInt8→Bool} {i e:Nat} (h1:i≤e) (h2:e≤l.length) (h3: ∀k,i≤k→k<e→p (l.getD k 0)=true) (h4:e=l.length∨p (l.getD e 0)=false):
 (l.drop i).takeWhile p=(l.take e).drop i∧(l.drop i).dropWhile p=l.drop e:=by
 refine kHQ ?_ (fun x hx=>?_) ?_
 ·have:l.drop i=((l.take e)++l.drop e).drop i:=by rw[List.take_append_drop]
  rw[this,List.drop_append_of_le_length (by rw[qF];omega)]
 ·obtain⟨k,hk,rfl⟩:=List.getElem_of_mem hx;rw[qG,qF] at hk;have:=h3 (i+k) (by omega) (by omega);rw[List.getElem_drop,List.getElem_take];rwa [List.getD,qJ (show i+k<l.length by omega)] at this
 ·rcases h4 with rfl|h4
  ·exact .inl (List.drop_of_length_le (qU _))
  ·right;rw[kEx];exact h4
def Rd (l:Bs) (i:Nat) (ts:List MT):Prop:=tk l=(tk (l.drop i)).map (fun x=>ts++x)
theorem Rd.start (l:Bs):Rd l 0 []:=by unfold Rd;simp
theorem Rd.sp {l:Bs} {i:Nat} {ts:List MT} (h:Rd l i ts) (hi:i<l.length) (hc:spB (l.getD i 0)=true):Rd l (i+1) ts:=by
 unfold Rd at *;rw[h,kAI hi,kQF hc]
theorem Rd.map {l:Bs} {i j:Nat} {ts:List MT} {t:MT} (h:Rd l i ts) (e:tk (l.drop i)=(tk (l.drop j)).map (fun x=>t::x)):Rd l j (ts++[t]):=by
 unfold Rd at *;rw[h,e,Option.map_map]
 congr 1
 funext x
 simp
theorem Rd.sym {l:Bs} {i:Nat} {ts:List MT} (h:Rd l i ts) (hi:i<l.length) (h0:spB (l.getD i 0)=false) (hc:symB (l.getD i 0)=true):Rd l (i+1) (ts++[.sym (l.getD i 0).toNat]):=
 h.map (by rw[kAI hi,kFo h0 hc])
theorem Rd.arr {l:Bs} {i:Nat} {ts:List MT} (h:Rd l i ts) (hp:2≤(l.drop i).length∧(l.drop i).take 2=[45,62]):Rd l (i+2) (ts++[.sym 62]):=by
 obtain⟨h1,h2⟩:=hp;rw[qG] at h1;rw[kAI (show i<l.length by omega),kAI (show i+1<l.length by omega)] at h2;simp only[List.take_succ_cons,List.take_zero,List.cons.injEq] at h2;refine h.map ?_;rw[kAI (show i<l.length by omega),h2.1,kMs (by rw[kEx];exact h2.2.1),List.drop_drop]
theorem kO7 {l:Bs} {i:Nat} (hi:i<l.length) (hp: ¬(2≤(l.drop i).length∧(l.drop i).take 2=[45,62])): ¬(l.getD i 0=45∧(l.drop (i+1)).getD 0 0=62):=by
 rintro⟨h1,h2⟩;have hl:i+1<l.length:=by
  rcases Nat.lt_or_ge (i+1) l.length with h|h
  ·exact h
  ·rw[List.drop_of_length_le h] at h2;exact absurd h2 (by decide)
 rw[kEx] at h2;refine hp ⟨by rw[qG];omega,?_⟩;rw[kAI hi,kAI hl,h1,show l.getD (i+1) 0=62 from h2];rfl
theorem Rd.word {l:Bs} {i e:Nat} {ts:List MT} (h:Rd l i ts) (hi:i<l.length) (h0:spB (l.getD i 0)=false) (h1:symB (l.getD i 0)=false) (h2: ¬(2≤(l.drop i).length∧(l.drop i).take 2=[45,62]))
 (g1:i≤e) (g2:e≤l.length) (g3: ∀k,i≤k→k<e→wrdB (l.getD k 0)=true) (g4:e=l.length∨wrdB (l.getD e 0)=false):
 (kA7 ((l.take e).drop i)=none→tk l=none)∧ ∀t,kA7 ((l.take e).drop i)=some t→i<e∧Rd l e (ts++[t]):=by
 obtain⟨a1,a2⟩:=kSJ g1 g2 g3 g4;have e0:=kJG (c:=l.getD i 0) (r:=l.drop (i+1)) h0 h1 (kO7 hi h2);rw[←kAI hi,a1,a2] at e0;constructor
 ·intro hw;rw[hw] at e0;unfold Rd at h;rw[h,e0];rfl
 ·intro t hw;rw[hw] at e0;refine⟨?_,h.map e0⟩;rcases Nat.lt_or_ge i e with hlt|hge
  ·exact hlt
  ·obtain rfl:i=e:=by omega
   rw[List.drop_of_length_le (by rw[qF];omega),kCH] at hw;cases hw
theorem Rd.fin {l:Bs} {ts:List MT} (h:Rd l l.length ts):tk l=some ts:=by
 unfold Rd at h;rw[h,List.drop_of_length_le (qU _),kMr];simp
theorem kEy (n:Nat):valD n []=n:=rfl
theorem kBK (n:Nat) (c:UInt8) (r:Bs):valD n (c::r)=valD (10* n+(c.toNat-48)) r:=by unfold valD;rw[List.foldl_cons]
theorem kJH (l:Bs): ∀n:Nat,n≤valD n l:=by
 induction l with
 |nil=>intro n;exact qU _
 |cons c r ih=>
  intro n;have:=ih (10* n+(c.toNat-48));rw[kBK];omega
theorem kIV (l:Bs): ∀n:Nat,(∀x∈l,digB x=true)→n<18446744073709551616→Lib.parseUintM 18446744073709551615 n l=if valD n l<18446744073709551616 then .ok (valD n l) else .range:=by
 induction l with
 |nil=>intro n _ hn;rw[kEy,if_pos hn];rfl
 |cons c r ih=>
  intro n h hn;have hc:48≤c.toNat∧c.toNat≤57:=of_decide_eq_true (h c (List.mem_cons_self ..));have hr:=kJH r (10* n+(c.toNat-48));rw[kBK,Lib.parseUintM,if_pos hc];by_cases h1:1844674407370955162≤n
  ·rw[if_pos h1,if_neg (by omega)]
  ·rw[if_neg h1];by_cases h2:18446744073709551615<n* 10+(c.toNat-48)
   ·rw[if_pos h2,if_neg (by omega)]
   ·rw[if_neg h2,show n* 10+(c.toNat-48)=10* n+(c.toNat-48) by omega];exact ih (10* n+(c.toNat-48)) (fun x hx=>h x (List.mem_cons_of_mem _ hx)) (by omega)
theorem kIW {l:Bs} (h0:l≠[]) (h: ∀x∈l,digB x=true):Lib.parseUintB 64 l=if valD 0 l<18446744073709551616 then .ok (valD 0 l) else .range:=by
 have h64:(2:Nat)^64-1=18446744073709551615:=by decide
 rw[Lib.parseUintB,if_neg h0,h64];exact kIV l 0 h (by omega)
theorem kAX (w:Bs):numW w=true↔w≠[]∧(w.length=1∨w.getD 0 0≠48)∧ ∀k,k<w.length→digB (w.getD k 0)=true:=by
 unfold numW;simp only[qg,Bool.not_eq_true',Bool.or_eq_true,qj,kBU (0:UInt8),List.isEmpty_eq_false_iff];constructor
 ·rintro⟨⟨h1,h2⟩,h3⟩;exact⟨h1,h2,h3⟩
 ·rintro⟨h1,h2,h3⟩;exact⟨⟨h1,h2⟩,h3⟩
theorem kGZ {w:Bs} (h:isNm w=true):kA7 w=some (.nm w):=by rw[kA7,if_pos h]
theorem kHR {w:Bs} (h:isNm w=false) (h2:numW w=false):kA7 w=none:=by rw[kA7,if_neg (by rw[h];decide),if_neg (fun k=>by rw[h2] at k;cases k.1)]
theorem kHS {w:Bs} (h:isNm w=false) (h2:numW w=true) (h3:valD 0 w<18446744073709551616):kA7 w=some (.num (valD 0 w)):=by rw[kA7,if_neg (by rw[h];decide),if_pos ⟨h2,h3⟩]
theorem kMt {w:Bs} (h:isNm w=false) (h3: ¬valD 0 w<18446744073709551616):kA7 w=none:=by rw[kA7,if_neg (by rw[h];decide),if_neg (fun k=>h3 k.2)]
theorem kHT {w:Bs} (h: ∀k,k<w.length→digB (w.getD k 0)=true): ∀x∈w,digB x=true:=fun x hx=>by
 obtain⟨k,hk,rfl⟩:=List.getElem_of_mem hx;have:=h k hk;rwa [List.getD,qJ hk] at this
def okN (n:Nat):Prop:=n=58∨n=59∨n=38∨n=61∨n=62
def tkOk:MT→Prop
 | .sym n=>okN n
 |_=>True
def okS:MT→Prop
 | .nm _=>True
 | .num _=>False
 | .sym n=>okN n
theorem kLN {a b:Nat} (ha:okN a) (hb:okN b) (h:symT a=symT b):a=b:=by
 rcases ha with rfl|rfl|rfl|rfl|rfl<;>rcases hb with rfl|rfl|rfl|rfl|rfl<;>first|rfl|exact absurd h (by decide)
theorem kQH {x m:MT} (hx:tkOk x) (hm:okS m) (h1:kBJ x=kBJ m) (h2:kEw x=kEw m):x=m:=by
 cases m with
 |num v=>exact hm.elim
 |nm t=>
  cases x with
  |nm u=>exact congrArg MT.nm h2
  |num v=>exact absurd h1 (by simp[kBJ])
  |sym n=>exact absurd h1 (by simp[kBJ])
 |sym n=>
  cases x with
  |nm u=>exact absurd h1 (by simp[kBJ])
  |num v=>exact absurd h1 (by simp[kBJ])
  |sym k=>exact congrArg MT.sym (kLN hx hm h2)
abbrev td:MT:= .num 0
theorem kBD {ts:List MT} {i:Nat} (h:i<ts.length):ts.drop i=ts.getD i td::ts.drop (i+1):=by
 rw[List.drop_eq_getElem_cons h];simp[List.getD,qJ h]
theorem kQI {ts:List MT} {i:Nat} (h:i<ts.length):ts.getD i td∈ts:=by
 rw[List.getD,qJ h];exact List.getElem_mem h
theorem kD3 {ts:List MT} {i:Nat} (h:i=ts.length):ts.drop i=[]:=List.drop_of_length_le (by omega)
theorem kMu {ts:List MT} {i:Nat} (h:i=ts.length): ∀t r,ts.drop i≠ .nm t::r:=fun t r e=>by rw[kD3 h] at e;cases e
theorem kQJ {ts:List MT} {i:Nat} (h:i<ts.length) (hk:kBJ (ts.getD i td)≠1): ∀t r,ts.drop i≠ .nm t::r:=fun t r e=>by
 rw[kBD h] at e;injection e with e1 e2;rw[e1] at hk;exact hk rfl
theorem kQK {ts:List MT} {i:Nat} (h:i<ts.length) (hk:kBJ (ts.getD i td)=1):ts.drop i= .nm (kEw (ts.getD i td))::ts.drop (i+1):=by
 rw[kBD h];cases e:ts.getD i td with
 |nm t=>rfl
 |num v=>rw[e] at hk;exact absurd hk (by simp[kBJ])
 |sym n=>rw[e] at hk;exact absurd hk (by simp[kBJ])
theorem kJI {ts:List MT} {i:Nat} (h:i=ts.length): ∀t r,ts.drop i≠ .num t::r:=fun t r e=>by rw[kD3 h] at e;cases e
theorem kMv {ts:List MT} {i:Nat} (h:i<ts.length) (hk:kBJ (ts.getD i td)≠2): ∀t r,ts.drop i≠ .num t::r:=fun t r e=>by
 rw[kBD h] at e;injection e with e1 e2;rw[e1] at hk;exact hk rfl
theorem kO8 {ts:List MT} {i:Nat} (h:i<ts.length) (hk:kBJ (ts.getD i td)=2):ts.drop i= .num (tnum (ts.getD i td))::ts.drop (i+1):=by
 rw[kBD h];cases e:ts.getD i td with
 |num v=>rfl
 |nm t=>rw[e] at hk;exact absurd hk (by simp[kBJ])
 |sym n=>rw[e] at hk;exact absurd hk (by simp[kBJ])
theorem kGa {ts:List MT} {i:Nat} {m:MT} (h:i=ts.length): ∀r,ts.drop i≠m::r:=fun r e=>by rw[kD3 h] at e;cases e
theorem kES {ts:List MT} {i:Nat} {m:MT} (h:i<ts.length) (hk: ¬(kBJ (ts.getD i td)=kBJ m∧kEw (ts.getD i td)=kEw m)): ∀r,ts.drop i≠m::r:=fun r e=>by
 rw[kBD h] at e;injection e with e1 e2;rw[e1] at hk;exact hk ⟨rfl,rfl⟩
theorem kO9 {ts:List MT} {i:Nat} {m:MT} (h:i<ts.length) (ht: ∀x∈ts,tkOk x) (hm:okS m) (h1:kBJ (ts.getD i td)=kBJ m) (h2:kEw (ts.getD i td)=kEw m):ts.drop i=m::ts.drop (i+1):=by
 rw[kBD h,kQH (ht _ (kQI h)) hm h1 h2]
theorem kOA: ∀(n:Nat) (l:Bs) (ts:List MT),toks n l=some ts→ ∀x∈ts,tkOk x:=by
 intro n
 induction n with
 |zero=>intro l ts h;cases h
 |succ n ih=>
  intro l ts h;cases l with
  |nil=>rw[toks] at h;cases h;intro x hx;cases hx
  |cons c r=>
   rw[toks] at h;split at h
   ·exact ih _ _ h
   ·split at h
    ·rename_i h1 h2;obtain⟨a,ha,rfl⟩:=Option.map_eq_some_iff.1 h;intro x hx;rcases qe.1 hx with rfl|hx
     ·have h3:c=58∨c=59∨c=38∨c=61:=of_decide_eq_true h2;rcases h3 with rfl|rfl|rfl|rfl
      ·exact .inl rfl
      ·exact .inr (.inl rfl)
      ·exact .inr (.inr (.inl rfl))
      ·exact .inr (.inr (.inr (.inl rfl)))
     ·exact ih _ _ ha x hx
    ·split at h
     ·obtain⟨a,ha,rfl⟩:=Option.map_eq_some_iff.1 h;intro x hx;rcases qe.1 hx with rfl|hx
      ·exact .inr (.inr (.inr (.inr rfl)))
      ·exact ih _ _ ha x hx
     ·split at h
      ·cases h
      ·rename_i t ht;obtain⟨a,ha,rfl⟩:=Option.map_eq_some_iff.1 h;intro x hx;rcases qe.1 hx with rfl|hx
       ·unfold kA7 at ht;split at ht
        ·cases ht;trivial
        ·split at ht
         ·cases ht;trivial
         ·cases ht
       ·exact ih _ _ ha x hx
theorem kQL {l:Bs} {ts:List MT} (h:tk l=some ts): ∀x∈ts,tkOk x:=kOA _ _ _ h
section
variable {ts:List MT} {i k n:Nat}
theorem kLO {a b:Int} (h0:ts.drop i= .nm kDn::ts.drop (i+1)) (h1:ts.drop (i+1)= .num a::ts.drop (i+1+1)) (h2:ts.drop (i+1+1)= .num b::ts.drop (i+1+1+1)):opM (ts.drop i)=some (⟨true,a,b⟩,ts.drop (i+1+1+1)):=by
 rw[h0,h1,h2];rfl
theorem kLP {a:Int} (h0:ts.drop i= .nm kDn::ts.drop (i+1)) (h1:ts.drop (i+1)= .num a::ts.drop (i+1+1)) (h2: ∀x r,ts.drop (i+1+1)≠ .num x::r):opM (ts.drop i)=none:=by
 rw[h0,h1];generalize ts.drop (i+1+1)=l at h2;simp only[opM,if_true]
theorem kMw {k:Bs} (h0:ts.drop i= .nm k::ts.drop (i+1)) (h1: ∀x r,ts.drop (i+1)≠ .num x::r):opM (ts.drop i)=none:=by
 rw[h0];generalize ts.drop (i+1)=l at h1;unfold opM;split
 ·rename_i e;injection e with e1 e2
  exact absurd e2 (h1 _ _)
 ·rfl
theorem kLQ {a:Int} (h0:ts.drop i= .nm kIU::ts.drop (i+1)) (h1:ts.drop (i+1)= .num a::ts.drop (i+1+1)):opM (ts.drop i)=some (⟨false,a,0⟩,ts.drop (i+1+1)):=by
 rw[h0,h1];simp only[opM];rw[if_neg (by decide),if_pos trivial]
theorem kSK (h0: ∀r,ts.drop i≠ .nm kDn::r) (h1: ∀r,ts.drop i≠ .nm kIU::r):opM (ts.drop i)=none:=by
 generalize ts.drop i=l at h0 h1;unfold opM;split
 ·rw[if_neg (fun e=>h0 _ (by rw[e])),if_neg (fun e=>h1 _ (by rw[e]))]
 ·rfl
def onR (e:Bs) (g:Gd) (t:Bs) (o:List Ro):Tr×Bs:=(⟨0,e,g,o,0⟩,t)
def onT (e:Bs) (g:Gd):List MT→Option (Tr×Bs)
 | .sym 62:: .nm t::r=>(kCI r).map (onR e g t)
 |_=>none
theorem kSL (h: ∀t r,ts.drop i≠ .nm t::r):onM (ts.drop i)=none:=by
 generalize ts.drop i=l at h;unfold onM;split
 ·exact absurd rfl (h _ _)
 ·rfl
theorem kET (e:Bs) (l:List MT):onM (.nm e::l)=match gdM l with
 |some (g,r)=>onT e g r
 |none=>none:=by
 simp only[onM];cases gdM l with
 |none=>rfl
 |some x=>
  obtain⟨g,r⟩:=x;simp only[];rcases r with _|⟨x,r⟩
  ·rfl
  ·cases x with
   |nm _=>rfl
   |num _=>rfl
   |sym n=>
    by_cases hn:n=62
    ·subst hn;rcases r with _|⟨y,r⟩
     ·rfl
     ·cases y<;>rfl
    ·simp[onT,hn]
theorem kSM {e:Bs} (h0:ts.drop i= .nm e::ts.drop (i+1)) (h1: ∀r,ts.drop (i+1)≠ .nm sIf::r):onM (ts.drop i)=onT e gd0 (ts.drop (i+1)):=by
 rw[h0,kET];generalize ts.drop (i+1)=l at h1;cases l with
 |nil=>rfl
 |cons x r=>
  cases x with
  |num v=>rfl
  |sym n=>rfl
  |nm k=>
   have hk:k≠sIf:=fun e=>h1 r (by rw[e]);have:gdM (.nm k::r)=none:=by
    unfold gdM;split
    ·rename_i e;injection e with e1 e2;injection e1 with e1;subst e1;rw[if_neg hk]
    ·rfl
    ·rename_i h;exact absurd rfl (h _ _)
   rw[this];rfl
theorem kSN {e:Bs} {a m v:Int} {r:List MT} (h0:ts.drop i= .nm e::ts.drop (i+1)) (h1:ts.drop (i+1)= .nm sIf:: .num a:: .sym 38:: .num m:: .sym 61:: .num v::r):onM (ts.drop i)=onT e ⟨true,a,m,v⟩ r:=by
 rw[h0,kET,h1];simp only[gdM,if_true]
theorem kJJ {e:Bs} (h0:ts.drop i= .nm e::ts.drop (i+1)) (h1:ts.drop (i+1)= .nm sIf::ts.drop (i+1+1)) (h: ∀a m v r,ts.drop (i+1+1)≠ .num a:: .sym 38:: .num m:: .sym 61:: .num v::r):onM (ts.drop i)=none:=by
 rw[h0,kET,h1];generalize ts.drop (i+1+1)=l at h;have:gdM (.nm sIf::l)=none:=by
  unfold gdM;split
  ·rename_i e;injection e with e1 e2;exact absurd e2 (h _ _ _ _)
  ·rfl
  ·rename_i h;exact absurd rfl (h _ _)
 rw[this]
theorem kOB {e:Bs} {g:Gd} (h: ∀r,ts.drop i≠ .sym 62::r):onT e g (ts.drop i)=none:=by
 generalize ts.drop i=l at h;unfold onT;split
 ·exact absurd rfl (h _)
 ·rfl
theorem kOC {e:Bs} {g:Gd} (h0:ts.drop i= .sym 62::ts.drop (i+1)) (h: ∀t r,ts.drop (i+1)≠ .nm t::r):onT e g (ts.drop i)=none:=by
 rw[h0];generalize ts.drop (i+1)=l at h;unfold onT;split
 ·rename_i e;injection e with e1 e2;exact absurd e2 (h _ _)
 ·rfl
theorem kJK {e t:Bs} {g:Gd} (h0:ts.drop i= .sym 62::ts.drop (i+1)) (h:ts.drop (i+1)= .nm t::ts.drop (i+1+1)):onT e g (ts.drop i)=(kCI (ts.drop (i+1+1))).map (onR e g t):=by
 rw[h0,h];rfl
theorem kOD (hi:i≤ts.length) (h: ∀r,ts.drop i≠ .sym 58::r):kCI (ts.drop i)=if i=ts.length then some [] else none:=by
 by_cases he:i=ts.length
 ·rw[kD3 he,if_pos he];rfl
 ·rw[if_neg he,kBD (by omega)];rw[kBD (by omega)] at h;unfold kCI;split
  ·rename_i e;cases e
  ·rename_i e;rw[e] at h;exact absurd rfl (h _)
  ·rfl
def LIv (R:Option (Tr×Bs)) (e:Bs) (g:Gd) (t:Bs) (ts:List MT) (acc:List Ro) (n:Nat) (b:Bool):Prop:=
 (b=true→ ∃f,(ts.drop n).length<f∧R=(opsM f (ts.drop n)).map (fun o=>onR e g t (acc++o)))∧(b=false→R=if n=ts.length then some (onR e g t acc) else none)
variable {R:Option (Tr×Bs)} {e t:Bs} {g:Gd} {acc:List Ro} {o:Ro}
theorem LIv.start (h:R=(kCI (ts.drop i)).map (onR e g t)) (h0:ts.drop i= .sym 58::ts.drop (i+1)):LIv R e g t ts [] (i+1) true:=
 ⟨fun _=>⟨_,Nat.lt_succ_self _,by rw[h,h0];rfl⟩,fun h=>by cases h⟩
theorem kAp (f:Nat) (l:List MT):opsM (f+1) l=match opM l with
 |none=>none
 |some (o,[])=>some [o]
 |some (o,.sym 59::r)=>(opsM f r).map (fun x=>o::x)
 |some _=>none:=rfl
theorem LIv.bad (h:LIv R e g t ts acc n true) (h0:opM (ts.drop n)=none):R=none:=by
 obtain⟨f,hf,h⟩:=h.1 rfl;obtain⟨f,rfl⟩: ∃f',f=f'+1:=⟨f-1,by omega⟩
 rw[h,kAp,h0];rfl
theorem LIv.more (h:LIv R e g t ts acc n true) (h0:opM (ts.drop n)=some (o,ts.drop k)) (hk:n<k) (hl:k<ts.length) (h1:ts.drop k= .sym 59::ts.drop (k+1)):LIv R e g t ts (acc++[o]) (k+1) true:=by
 obtain⟨f,hf,h⟩:=h.1 rfl;obtain⟨f,rfl⟩: ∃f',f=f'+1:=⟨f-1,by omega⟩
 refine⟨fun _=>⟨f,?_,?_⟩,fun h=>by cases h⟩
 ·rw[qG] at hf ⊢;omega
 ·rw[h,kAp,h0,h1];simp only[Option.map_map]
  congr 1
  funext x
  simp
theorem LIv.last (h:LIv R e g t ts acc n true) (h0:opM (ts.drop n)=some (o,ts.drop k)) (hl:k≤ts.length) (h1: ∀r,ts.drop k≠ .sym 59::r):LIv R e g t ts (acc++[o]) k false:=by
 obtain⟨f,hf,h⟩:=h.1 rfl;obtain⟨f,rfl⟩: ∃f',f=f'+1:=⟨f-1,by omega⟩
 refine⟨fun h=>(by cases h),fun _=>?_⟩;rw[h,kAp,h0];by_cases he:k=ts.length
 ·rw[kD3 he,if_pos he];rfl
 ·rw[if_neg he];rw[kBD (by omega)] at h1 ⊢;split
  ·rename_i e;cases e
  ·rename_i e;injection e with e;injection e with e1 e2;cases e2
  ·rename_i e;injection e with e;injection e with e1 e2;rw[e2] at h1;exact absurd rfl (h1 _)
  ·rfl
end
structure OZ where
 ls:List Ro
 A:Option Addr
 c:Nat
 n:Nat
end Go.Drv
namespace Go.Sv
theorem Hp.bigSnoc {I0:Ids} {w0 w:World} {L:List Assn} {β:Type} {F:β→Assn} {hs:List β} {k:Nat} {h':β} (h:Hp I0 w0 (L++[F h']) w) (hk:L[k]?=some (Big F hs)):Hp I0 w0 (L.set k (Big F (hs++[h']))) w:=by
 have hp1:(L++[F h']).Perm ([F h',Big F hs]++L.eraseIdx k):=
  (qi _ _).trans (List.Perm.cons _ (kAN hk))
 have h1:=(h.perm hp1).bundle (A:=Big F (hs++[h'])) fun i hi=>by
  obtain⟨a,b,e1,e2,e3,c,d,e4,e5,e6,e7⟩:=hi;have hp:(F h'::hs.map F).Perm ((hs++[h']).map F):=by
   rw[qN];exact(qi _ _).symm
  refine Sep.perm hp ⟨a,b,e1,e2,e3,?_⟩;exact Sep.ext e6 fun x=>by rw[e4 x];exact⟨.inl,fun h=>h.elim id fun h=>absurd h (e7 x)⟩
 exact h1.perm (kAt _ hk)
end Go.Sv
namespace Go.Drv
open Go.Sv
def opA (h:TH):Assn:=OS 192 roK h.A h.c h.t.ops
structure PH where
 named:Bool
 name:Bs
 sA:Option Addr
 sc:Nat
 ss:List Bs
 tA:Option Addr
 tc:Nat
 hs:List TH
 gA:Option Addr
 gc:Nat
 tg:List Bs
def PH.ps (P:PH):PS:=⟨P.named,P.name,P.ss,P.hs.map (·.t),P.tg⟩
def ph0:PH:=⟨false,[],none,0,[],none,0,[],none,0,[]⟩
section
variable {ts:List MT} {p:PS} {kw n:Bs}
theorem kQM (h:ts.length=0):kAT p ts=some p:=by
 rw[qO h];rfl
theorem kOE (h0:ts.length≠0) (h: ∀t r,ts.drop 0≠ .nm t::r):kAT p ts=none:=by
 rw[List.drop_zero] at h;unfold kAT;split
 ·exact absurd rfl h0
 ·exact absurd rfl (h _ _)
 ·rfl
theorem kEE (h:ts.drop 0= .nm kw::ts.drop (0+1)):kAT p ts=if p.named=false then (match ts.drop (0+1) with
 |[.nm n]=>if kw=kBn then some {p with named:=true,name:=n} else none
 |_=>none)
 else if kw=kB0 then (match ts.drop (0+1) with
  |[.nm n]=>some {p with ss:=p.ss++[n]}
  |_=>none)
 else if kw=sOn∧p.ss≠[] then (onM (ts.drop (0+1))).map (fun x=>{p with ts:=p.ts++[{x.1 with frm:=(p.ss.length:Int)-1}],tg:=p.tg++[x.2]})
 else none:=by
 rw[List.drop_zero] at h;generalize ts.drop (0+1)=l at h;subst h;rfl
theorem kMx {α:Type} {f:Bs→Option α} (h:ts.drop (0+1)= .nm n::ts.drop (0+1+1)) (he:0+1+1=ts.length):(match ts.drop (0+1) with
 |[.nm n]=>f n
 |_=>none)=f n:=by
 rw[h,kD3 he]
theorem kHU {α:Type} {f:Bs→Option α} (h:ts.drop (0+1)= .nm n::ts.drop (0+1+1)) (hl:0+1<ts.length) (he: ¬0+1+1=ts.length):(match ts.drop (0+1) with
 |[.nm n]=>f n
 |_=>none)=none:=by
 rw[h,kBD (i:=0+1+1) (by omega)]
theorem kMy {α:Type} {f:Bs→Option α} (h: ∀t r,ts.drop (0+1)≠ .nm t::r):(match ts.drop (0+1) with
 |[.nm n]=>f n
 |_=>none)=none:=by
 generalize ts.drop (0+1)=l at h;split
 ·exact absurd rfl (h _ _)
 ·rfl
theorem kJL (h:ts.drop 0= .nm kw::ts.drop (0+1)) (hn:p.named=false) (h1:ts.drop (0+1)= .nm n::ts.drop (0+1+1)) (hk:kw=kBn) (he:0+1+1=ts.length):kAT p ts=some {p with named:=true,name:=n}:=by
 rw[kEE h,if_pos hn,kMx h1 he,if_pos hk]
theorem kOF (h:ts.drop 0= .nm kw::ts.drop (0+1)) (hn:p.named=false) (hk:kw≠kBn):kAT p ts=none:=by
 rw[kEE h,if_pos hn];split
 ·rw[if_neg hk]
 ·rfl
theorem kOG (h:ts.drop 0= .nm kw::ts.drop (0+1)) (hn:p.named=false) (h1: ∀t r,ts.drop (0+1)≠ .nm t::r):kAT p ts=none:=by
 rw[kEE h,if_pos hn,kMy h1]
theorem kOH (h:ts.drop 0= .nm kw::ts.drop (0+1)) (hn:p.named=false) (h1:ts.drop (0+1)= .nm n::ts.drop (0+1+1)) (hl:0+1<ts.length) (he: ¬0+1+1=ts.length):kAT p ts=none:=by
 rw[kEE h,if_pos hn,kHU h1 hl he]
theorem kMz (h:ts.drop 0= .nm kw::ts.drop (0+1)) (hn:p.named=true) (hk:kw=kB0) (h1:ts.drop (0+1)= .nm n::ts.drop (0+1+1)) (he:0+1+1=ts.length):kAT p ts=some {p with ss:=p.ss++[n]}:=by
 rw[kEE h,if_neg (by rw[hn];decide),if_pos hk,kMx h1 he]
theorem kQN (h:ts.drop 0= .nm kw::ts.drop (0+1)) (hn:p.named=true) (hk:kw=kB0) (h1: ∀t r,ts.drop (0+1)≠ .nm t::r):kAT p ts=none:=by
 rw[kEE h,if_neg (by rw[hn];decide),if_pos hk,kMy h1]
theorem kQO (h:ts.drop 0= .nm kw::ts.drop (0+1)) (hn:p.named=true) (hk:kw=kB0) (h1:ts.drop (0+1)= .nm n::ts.drop (0+1+1)) (hl:0+1<ts.length) (he: ¬0+1+1=ts.length):kAT p ts=none:=by
 rw[kEE h,if_neg (by rw[hn];decide),if_pos hk,kHU h1 hl he]
theorem kN0 {x:Tr×Bs} (h:ts.drop 0= .nm kw::ts.drop (0+1)) (hn:p.named=true) (hs:kw≠kB0) (hk:kw=sOn) (hp:p.ss≠[]) (ho:onM (ts.drop (0+1))=some x):kAT p ts=some {p with ts:=p.ts++[{x.1 with frm:=(p.ss.length:Int)-1}],tg:=p.tg++[x.2]}:=by
 rw[kEE h,if_neg (by rw[hn];decide),if_neg hs,if_pos ⟨hk,hp⟩,ho];rfl
theorem kQP (h:ts.drop 0= .nm kw::ts.drop (0+1)) (hn:p.named=true) (hs:kw≠kB0) (ho:onM (ts.drop (0+1))=none):kAT p ts=none:=by
 rw[kEE h,if_neg (by rw[hn];decide),if_neg hs];split
 ·rw[ho];rfl
 ·rfl
theorem kQQ (h:ts.drop 0= .nm kw::ts.drop (0+1)) (hn:p.named=true) (hs:kw≠kB0) (hk: ¬(kw=sOn∧p.ss≠[])):kAT p ts=none:=by
 rw[kEE h,if_neg (by rw[hn];decide),if_neg hs,if_neg hk]
end
def ents (ss:List Bs) (j:Nat):List (Bs×Int):=(List.range j).map fun i=>(ss.getD i [],(i:Int))
theorem kJR (ss:List Bs) (j:Nat):ents ss (j+1)=ents ss j++[(ss.getD j [],(j:Int))]:=by
 unfold ents;rw[List.range_succ,qN];rfl
theorem kAx {ν:Type} (f:Nat→Bs) (g:Nat→ν) (q:Bs): ∀l:List Nat,mget (l.map fun i=>(f i,g i)) q=(l.find? fun i=>decide (f i=q)).map g
 |[]=>rfl
 |a::l=>by
  rw[List.map_cons,mget,kAx f g q l,List.find?_cons];by_cases h:f a=q
  ·rw[if_pos h.symm,qR h];rfl
  ·rw[if_neg (fun e=>h e.symm),qQ h]
theorem kJS (ss:List Bs) (q:Bs):mget (ents ss ss.length) q=(kBo ss q).map (fun(i:Nat)=>(i:Int)):=kAx (fun i=>ss.getD i []) (fun i=>(i:Int)) q (List.range ss.length)
theorem kLT {ss:List Bs} {j:Nat} (h: ∀i,i<j→ss.getD i []≠ss.getD j []):mget (ents ss j) (ss.getD j [])=none:=by
 unfold ents;rw[kAx];rw[Option.map_eq_none_iff,List.find?_eq_none];intro i hi;simpa using h i (List.mem_range.1 hi)
theorem kFq {β:Type} {F:β→Assn} {hs hs':List β} (h:hs.map F=hs'.map F):Big F hs=Big F hs':=by
 simp only[Big,h]
structure LkI (P:PH) (H:List TH) (j:Nat):Prop where
 len:H.length=P.hs.length
 own:H.map opA=P.hs.map opA
 eq:kB1 P.ss (P.hs.map (·.t)) P.tg=(kB1 P.ss ((H.drop j).map (·.t)) (P.tg.drop j)).map fun x=>(H.take j).map (·.t)++x
theorem LkI.start (P:PH):LkI P P.hs 0:=⟨rfl,rfl,by simp⟩
def kF4 (h:TH) (i:Int):TH:={h with t:={h.t with to:=i}}
theorem kEV {H:List TH} {j:Nat} (h:j<H.length):H.drop j=H.getD j thK.d::H.drop (j+1):=by
 rw[List.drop_eq_getElem_cons h];simp[List.getD,qJ h]
theorem kJT {l:List Bs} {j:Nat} (h:j<l.length):l.drop j=l.getD j strK.d::l.drop (j+1):=by
 rw[List.drop_eq_getElem_cons h];simp[List.getD,qJ h]
theorem LkI.bad {P:PH} {H:List TH} {j:Nat} (h:LkI P H j) (hj:j<P.tg.length) (hl:P.tg.length=P.hs.length) (hi:kBo P.ss (P.tg.getD j strK.d)=none):kB1 P.ss (P.hs.map (·.t)) P.tg=none:=by
 rw[h.eq,kEV (by rw[h.len];omega),kJT hj,List.map_cons,kB1,hi];rfl
theorem LkI.next {P:PH} {H:List TH} {j i:Nat} (h:LkI P H j) (hj:j<P.tg.length) (hl:P.tg.length=P.hs.length) (hi:kBo P.ss (P.tg.getD j strK.d)=some i):LkI P (H.set j (kF4 (H.getD j thK.d) i)) (j+1):=by
 have hjH:j<H.length:=by rw[h.len];omega
 refine⟨by rw[qI];exact h.len,?_,?_⟩
 ·rw[←h.own];apply List.ext_getElem?;intro k;rw[List.getElem?_map,List.getElem?_map,List.getElem?_set];split
  ·rename_i e;subst e;rw[qJ hjH];simp[List.getD,qJ hjH,kF4,opA]
  ·rfl
 ·rw[h.eq,kEV hjH,kJT hj,List.map_cons,kB1,hi];simp only[Option.map_map];rw[List.drop_set_of_lt (by omega)]
  congr 1
  funext x
  have h1:(H.set j (kF4 (H.getD j thK.d) i)).take (j+1)=H.take j++[kF4 (H.getD j thK.d) i]:=by
   rw[List.take_add_one,List.take_set_of_le (qU _)];simp[List.getElem?_set,hjH]
  rw[h1];simp[kF4]
theorem LkI.fin {P:PH} {H:List TH} {j:Nat} (h:LkI P H j) (hj:P.tg.length≤j) (hl:P.tg.length=P.hs.length):kB1 P.ss (P.hs.map (·.t)) P.tg=some (H.map (·.t)):=by
 rw[h.eq,List.drop_of_length_le (by rw[h.len];omega),List.take_of_length_le (by rw[h.len];omega)];simp[kB1]
theorem kOM {p q:PS} {ts:List MT} (h:kAT p ts=some q) (hp:p.ts.length=p.tg.length):q.ts.length=q.tg.length:=by
 unfold kAT at h;split at h
 ·cases h;exact hp
 ·split at h
  ·split at h
   ·split at h
    ·cases h;exact hp
    ·cases h
   ·cases h
  ·split at h
   ·split at h
    ·cases h;exact hp
    ·cases h
   ·split at h
    ·obtain⟨x,_,rfl⟩:=Option.map_eq_some_iff.1 h;simp[hp]
    ·cases h
 ·cases h
theorem kN4: ∀(ls:List Bs) {p q:PS},runM p ls=some q→p.ts.length=p.tg.length→q.ts.length=q.tg.length
 |[],p,q,h,hp=>by cases h;exact hp
 |l::ls,p,q,h,hp=>by
  rw[runM] at h;obtain⟨y,h1,h2⟩:=Option.bind_eq_some_iff.1 h;unfold lnM at h1;obtain⟨ts,_,h3⟩:=Option.bind_eq_some_iff.1 h1;exact kN4 ls h2 (kOM h3 hp)
def dh0:DH:=⟨[],none,0,[],none,0,[]⟩
def dL (d:DH):List Assn:=[OS 9 strK d.sA d.sc d.ss,OS 190 thK d.tA d.tc d.hs,Big opA d.hs]
theorem Hp.dL0 {I:Ids} {w0 w:World} (h:Hp I w0 [] w):Hp I w0 (dL dh0) w:=by
 have h1:=(h.nilOS (e:=9) (K:=strK)).nilOS (e:=190) (K:=thK);exact h1.newBig (F:=opA) 0 thD fun w=>OS.emp w
theorem kD5 {s:Bs} (h:runM ps0 (kA4 s)=none):kAH s=(2,dv0):=by unfold kAH;rw[h]
theorem kD6 {s:Bs} {p:PS} (h:runM ps0 (kA4 s)=some p):kAH s=finM p:=by unfold kAH;rw[h]
theorem kN5 {p:PS} (h:p.named=false):finM p=(2,dv0):=by unfold finM;rw[if_pos h]
theorem kJU {p:PS} (h:p.named=true) (h2: ¬p.ss.Nodup):finM p=(7,dv0):=by unfold finM;rw[if_neg (by rw[h];decide),if_pos h2]
theorem kN6 {p:PS} (h:p.named=true) (h2:p.ss.Nodup) (h3:kB1 p.ss p.ts p.tg=none):finM p=(6,dv0):=by unfold finM;rw[if_neg (by rw[h];decide),if_neg (fun k=>k h2),h3]
theorem kN7 {p:PS} {ts:List Tr} (h:p.named=true) (h2:p.ss.Nodup) (h3:kB1 p.ss p.ts p.tg=some ts) (h4:chkM ⟨p.name,p.ss,ts⟩≠0):finM p=(chkM ⟨p.name,p.ss,ts⟩,dv0):=by unfold finM;rw[if_neg (by rw[h];decide),if_neg (fun k=>k h2),h3];exact if_neg h4
theorem kJV {p:PS} {ts:List Tr} (h:p.named=true) (h2:p.ss.Nodup) (h3:kB1 p.ss p.ts p.tg=some ts) (h4:chkM ⟨p.name,p.ss,ts⟩=0):finM p=(0,⟨p.name,p.ss,ts⟩):=by unfold finM;rw[if_neg (by rw[h];decide),if_neg (fun k=>k h2),h3];exact if_pos h4
structure IS where
 st:Int
 wt:Bool
 cd:Nat
abbrev trA (ts:List Tr) (i:Nat):Tr:=ts.getD i tr0
def kGb (q:Nat) (d:DH) (s:IS):List Assn:=[Blk q (.cells #[.string (bs d.name),.slice d.sA d.ss.length d.sc,.slice d.tA d.hs.length d.tc,.int .i64 s.st,.bool s.wt,.int .i64 s.cd] 232 (0,0)),OS 9 strK d.sA d.sc d.ss,OS 190 thK d.tA d.tc d.hs,Big opA d.hs]
theorem kN8 (hs:List TH) (i:Nat):trA (hs.map (·.t)) i=(hs.getD i thK.d).t:=kCc hs i
theorem kQV {I:Ids} {w0 w:World} {L:List Assn} {k m:Nat} {H:List TH} (h:Hp I w0 L w) (hk:L[k]?=some (Big opA H)) (hm:m<H.length):RS w roK (H.getD m thK.d).A (H.getD m thK.d).t.ops:=
 h.bigOS thK.d hk hm (G:=fun b w=>RS w roK b.A b.t.ops) fun i b k=>OS.rs (show(OS 192 roK b.A b.c b.t.ops).sat w i from k)
def dec (v:Int):Bs:=Lib.decDigits v.toNat
theorem kCf {n:Nat} (h:n<256):(UInt8.ofNat n).toNat=n:=by simp[UInt8.toNat_ofNat];omega
theorem kND {d:Nat} (h:d<10):digB (UInt8.ofNat (48+d))=true:=qR (by rw[kCf (by omega)];omega)
theorem kFB (u:Nat): ∀x∈Lib.decDigits u,digB x=true:=by
 induction u using Nat.strongRecOn with
 |_ u ih=>
  rw[Lib.decDigits];split
  ·rename_i h;intro x hx;obtain rfl:=qm.1 hx;exact kND h
  ·rename_i h;intro x hx;rcases List.mem_append.1 hx with hx|hx
   ·exact ih (u/10) (by omega) x hx
   ·obtain rfl:=qm.1 hx;exact kND (Nat.mod_lt _ (by decide))
theorem kHi (u:Nat):Lib.decDigits u≠[]:=by
 rw[Lib.decDigits];split<;>simp
theorem kFC (n:Nat) (a b:Bs):valD n (a++b)=valD (valD n a) b:=by simp[valD]
theorem kOk (u:Nat):valD 0 (Lib.decDigits u)=u:=by
 induction u using Nat.strongRecOn with
 |_ u ih=>
  rw[Lib.decDigits];split
  ·rename_i h;rw[kBK,kEy,kCf (by omega)];omega
  ·rename_i h;rw[kFC,ih (u/10) (by omega),kBK,kEy,kCf (by omega)];omega
theorem kJz (u:Nat) (h:0<u):(Lib.decDigits u).getD 0 0≠48:=by
 induction u using Nat.strongRecOn with
 |_ u ih=>
  rw[Lib.decDigits];split
  ·rename_i h2;intro k;have k2:(UInt8.ofNat (48+u)).toNat=48:=congrArg UInt8.toNat k;rw[kCf (by omega)] at k2;omega
  ·rename_i h2;have h3:=ih (u/10) (by omega) (by omega);have h4:=kHi (u/10);cases hl:Lib.decDigits (u/10) with
   |nil=>exact absurd hl h4
   |cons a r=>rw[hl] at h3;exact h3
theorem kLe (u:Nat):isNm (Lib.decDigits u)=false:=by
 refine kBm ?_;have h:=kHi u;have h2:=kFB u;cases hl:Lib.decDigits u with
 |nil=>exact absurd hl h
 |cons a r=>rw[hl] at h2;exact h2 a (List.mem_cons_self ..)
theorem kLf (u:Nat):numW (Lib.decDigits u)=true:=by
 rw[kAX];refine⟨kHi u,?_,fun k hk=>?_⟩
 ·by_cases h:0<u
  ·exact .inr (kJz u h)
  ·obtain rfl:u=0:=by omega
   left;rw[Lib.decDigits,dif_pos (by decide)];rfl
 ·have:=kFB u ((Lib.decDigits u).getD k 0) (by simp[List.getD,hk]);exact this
theorem kQp {v:Int} (h0:0≤v) (h1:v<18446744073709551616):kA7 (dec v)=some (.num v):=by
 have e:(valD 0 (dec v):Int)=v:=by unfold dec;rw[kOk];omega
 exact(kHS (w:=dec v) (kLe _) (kLf _) (by omega)).trans (by rw[e])
def ttx:MT→Bs
 | .nm t=>t
 | .num v=>dec v
 | .sym c=>symT c
def reps (sp:Bs):Nat→Bs
 |0=>[]
 |n+1=>sp++reps sp n
def ren (sp:Bs):List (Nat×MT)→Bs
 |[]=>[]
 |(n,t)::r=>reps sp n++(ttx t++ren sp r)
theorem kDv (sp:Bs) (a b:List (Nat×MT)):ren sp (a++b)=ren sp a++ren sp b:=by
 induction a with
 |nil=>rfl
 |cons x a ih=>obtain⟨n,t⟩:=x;simp[ren,ih]
def tOk:MT→Prop
 | .nm t=>isNm t=true
 | .num v=>0≤v∧v<18446744073709551616
 | .sym c=>okN c
def gapW:List (Nat×MT)→Prop
 |[]=>True
 |(_+1,_)::_=>True
 |(0,.sym _)::_=>True
 |(0,_)::_=>False
def gap:MT→List (Nat×MT)→Prop
 | .sym _,_=>True
 |_,r=>gapW r
def kBa:List (Nat×MT)→Prop
 |[]=>True
 |(n,t)::r=>tOk t∧gap t r∧kBa r
theorem kCg {a b:List (Nat×MT)} (ha:kBa a) (hb:kBa b) (hg:gapW b):kBa (a++b):=by
 induction a with
 |nil=>exact hb
 |cons x a ih=>
  obtain⟨n,t⟩:=x;refine⟨ha.1,?_,ih ha.2.2⟩;have h2:=ha.2.1;cases t with
  |sym c=>exact trivial
  |nm w=>
   cases a with
   |nil=>exact hg
   |cons y a=>obtain⟨m,s⟩:=y;cases m<;>cases s<;>exact h2
  |num w=>
   cases a with
   |nil=>exact hg
   |cons y a=>obtain⟨m,s⟩:=y;cases m<;>cases s<;>exact h2
def kK0 (l:Bs):Prop:=l=[]∨wrdB (l.getD 0 0)=false
theorem kNE {c:UInt8} (h:spB c=true):wrdB c=false:=by
 rcases of_decide_eq_true h with rfl|rfl<;>rfl
theorem kOl {sp r:Bs} (h: ∀x∈sp,spB x=true) (h0:sp≠[]):kK0 (sp++r):=by
 cases sp with
 |nil=>exact absurd rfl h0
 |cons a s=>exact .inr (kNE (h a (List.mem_cons_self ..)))
theorem kGm {sp:Bs} (h: ∀x∈sp,spB x=true): ∀n,∀x∈reps sp n,spB x=true
 |0,x,hx=>by cases hx
 |n+1,x,hx=>by
  rcases List.mem_append.1 hx with hx|hx
  ·exact h x hx
  ·exact kGm h n x hx
theorem kQq {s r:Bs} (h: ∀x∈s,spB x=true):tk (s++r)=tk r:=by
 induction s with
 |nil=>rfl
 |cons a s ih=>rw[qM,kQF (h a (List.mem_cons_self ..)),ih fun x hx=>h x (List.mem_cons_of_mem _ hx)]
theorem kHj {sp tail:Bs} (hs: ∀x∈sp,spB x=true) (h0:sp≠[]) (ht:kK0 tail) {l:List (Nat×MT)} (hg:kBa l) (hw:gapW l):kK0 (ren sp l++tail):=by
 cases l with
 |nil=>exact ht
 |cons x l=>
  obtain⟨n,t⟩:=x;cases n with
  |succ n=>simp only[ren,reps,qL];exact kOl hs h0
  |zero=>
   cases t with
   |nm w=>exact hw.elim
   |num w=>exact hw.elim
   |sym c=>
    rcases hg.1 with rfl|rfl|rfl|rfl|rfl<;>exact .inr rfl
theorem kHk {w rest:Bs} (h0:w≠[]) (h1: ∀x∈w,wrdB x=true) (h2:kK0 rest) {t:MT} (ht:kA7 w=some t):tk (w++rest)=(tk rest).map (fun x=>t::x):=by
 obtain⟨hw1,hw2⟩:=kHQ (l:=w++rest) rfl h1 h2;cases hw:w with
 |nil=>exact absurd hw h0
 |cons c r=>
  rw[hw] at h1 hw1 hw2 ht;have hc:wrdB c=true:=h1 c (List.mem_cons_self ..);have e1:spB c=false:=by
   cases hs:spB c with
   |false=>rfl
   |true=>rw[kNE hs] at hc;cases hc
  have e2:symB c=false:=by
   cases hs:symB c with
   |false=>rfl
   |true=>rcases of_decide_eq_true hs with rfl|rfl|rfl|rfl<;>exact absurd hc (by decide)
  have e3: ¬(c=45∧(r++rest).getD 0 0=62):=fun k=>by rw[k.1] at hc;exact absurd hc (by decide)
  rw[qM,kJG e1 e2 e3];rw[qM] at hw1 hw2;rw[hw1,hw2,ht]
theorem kNF {w:Bs} (h:isNm w=true):w≠[]∧ ∀x∈w,wrdB x=true:=by
 have h2:=(kBV w).1 h;refine⟨fun e=>by rw[e] at h2;exact absurd h2.1 (by decide),fun x hx=>?_⟩;obtain⟨i,hi,rfl⟩:=List.getElem_of_mem hx;have:=h2.2.2.2 i hi;simpa[List.getD,hi] using this
theorem kK1 {c:UInt8} (h:digB c=true):wrdB c=true:=by unfold wrdB;rw[h];simp
theorem kNG {sp tail:Bs} (hs: ∀x∈sp,spB x=true) (h0:sp≠[]) (ht:kK0 tail): ∀ {l:List (Nat×MT)},kBa l→tk (ren sp l++tail)=(tk tail).map (fun x=>l.map (·.2)++x)
 |[],_=>by simp[ren]
 |(n,t)::r,hg=>by
  have ih:=kNG hs h0 ht hg.2.2;have hmap: ∀y:Option (List MT),(y.map (fun x=>r.map (·.2)++x)).map (fun x=>t::x)=y.map (fun x=>((n,t)::r).map (·.2)++x):=fun y=>by cases y<;>rfl
  simp only[ren,qL];rw[kQq (kGm hs n)];cases t with
  |nm w=>
   obtain⟨e1,e2⟩:=kNF hg.1;show tk (w++(ren sp r++tail))=_;rw[kHk e1 e2 (kHj hs h0 ht hg.2.2 hg.2.1) (kGZ hg.1),ih,hmap]
  |num v=>
   show tk (dec v++(ren sp r++tail))=_;rw[kHk (w:=dec v) (kHi _) (fun x hx=>kK1 (kFB _ x hx)) (kHj hs h0 ht hg.2.2 hg.2.1) (kQp hg.1.1 hg.1.2),ih,hmap]
  |sym c=>
   show tk (symT c++(ren sp r++tail))=_;rcases hg.1 with rfl|rfl|rfl|rfl|rfl
   ·show tk (58::(ren sp r++tail))=_;rw[kFo rfl rfl,ih];exact hmap _
   ·show tk (59::(ren sp r++tail))=_;rw[kFo rfl rfl,ih];exact hmap _
   ·show tk (38::(ren sp r++tail))=_;rw[kFo rfl rfl,ih];exact hmap _
   ·show tk (61::(ren sp r++tail))=_;rw[kFo rfl rfl,ih];exact hmap _
   ·show tk (45::62::(ren sp r++tail))=_;rw[kMs rfl];show(tk (ren sp r++tail)).map _=_;rw[ih];exact hmap _
theorem kNH {c:UInt8} (h:wrdB c=true):c≠35∧c≠10∧c≠32:=by
 refine⟨?_,?_,?_⟩<;>(rintro rfl;exact absurd h (by decide))
theorem kQr {t:MT} (h:tOk t): ∀x∈ttx t,x≠35∧x≠10∧x≠32:=by
 intro x hx;cases t with
 |nm w=>exact kNH ((kNF h).2 x hx)
 |num v=>exact kNH (kK1 (kFB _ x hx))
 |sym c=>
  rcases h with rfl|rfl|rfl|rfl|rfl<;>(revert x;show ∀x∈symT _,_;decide)
theorem kK2 {sp:Bs} (hs: ∀x∈sp,spB x=true): ∀ {l:List (Nat×MT)},kBa l→ ∀x∈ren sp l,x≠35∧x≠10
 |[],_,x,hx=>by cases hx
 |(n,t)::r,hg,x,hx=>by
  rcases List.mem_append.1 hx with hx|hx
  ·rcases of_decide_eq_true (kGm hs n x hx) with rfl|rfl<;>decide
  ·rcases List.mem_append.1 hx with hx|hx
   ·have:=kQr hg.1 x hx;exact⟨this.1,this.2.1⟩
   ·exact kK2 hs hg.2.2 x hx
theorem kLg {a b:Bs} (h: ∀x∈a,x≠35):cutH (a++b)=a++cutH b:=by
 unfold cutH;rw[List.takeWhile_append_of_pos (fun x hx=>qR (h x hx))]
theorem kOm {a:Bs} (h: ∀x∈a,x≠35):cutH a=a:=by
 have:=kLg (b:=[]) h;simpa[cutH] using this
theorem kQs {sp:Bs} (hs: ∀x∈sp,spB x=true) (h0:sp≠[]) {l:List (Nat×MT)} (hg:kBa l) (p:PS):lnM p (ren sp l)=kAT p (l.map (·.2)):=by
 unfold lnM;rw[kOm fun x hx=>(kK2 hs hg x hx).1];have:=kNG hs h0 (tail:=[]) (.inl rfl) hg;rw[qK,kMr] at this;rw[this];simp
def drL (d:Dv):List (Nat×MT):=[(0,.nm kBn),(1,.nm d.name)]
def stL (s:Bs):List (Nat×MT):=[(0,.nm kB0),(1,.nm s)]
def gdL (g:Gd):List (Nat×MT):=if g.used=true then [(1,.nm sIf),(1,.num g.reg),(1,.sym 38),(1,.num g.mask),(1,.sym 61),(1,.num g.val)] else []
def roL (o:Ro):List (Nat×MT):=if o.wr=true then [(1,.nm kDn),(1,.num o.reg),(1,.num o.val)] else [(1,.nm kIU),(1,.num o.reg)]
def opsL:List Ro→List (Nat×MT)
 |[]=>[]
 |o::r=>(0,.sym 58)::roL o++r.flatMap (fun o=>(0,.sym 59)::roL o)
def tgt (ss:List Bs) (t:Tr):Bs:=ss.getD t.to.toNat []
def trL (ss:List Bs) (t:Tr):List (Nat×MT):=[(2,.nm sOn),(1,.nm t.ev)]++(gdL t.gd++([(1,.sym 62),(1,.nm (tgt ss t))]++opsL t.ops))
def ofS (d:Dv) (i:Nat):List Tr:=d.ts.filter (fun t=>decide (t.frm=(i:Int)))
def blkL (d:Dv) (i:Nat):List (List (Nat×MT)):=stL (d.ss.getD i [])::(ofS d i).map (trL d.ss)
def kK3 (d:Dv):List (List (Nat×MT)):=drL d::(List.range d.ss.length).flatMap (blkL d)
def unl (ls:List Bs):Bs:=ls.flatMap (fun l=>l++[10])
def fmtM (d:Dv):Bs:=unl ((kK3 d).map (ren [32]))
def u64 (v:Int):Prop:=0≤v∧v<18446744073709551616
def rgO (o:Ro):Prop:=u64 o.reg∧u64 o.val
def rgG (g:Gd):Prop:=u64 g.reg∧u64 g.mask∧u64 g.val
def rgT (t:Tr):Prop:=rgG t.gd∧ ∀o∈t.ops,rgO o
def rgD (d:Dv):Prop:= ∀t∈d.ts,rgT t
theorem kK4 {o:Ro} (h:rgO o):kBa (roL o)∧gapW (roL o):=by
 unfold roL;split
 ·exact⟨⟨rfl,trivial,h.1,trivial,h.2,trivial,trivial⟩,trivial⟩
 ·exact⟨⟨rfl,trivial,h.1,trivial,trivial⟩,trivial⟩
theorem kFx: ∀ {l:List Ro},(∀o∈l,rgO o)→kBa (l.flatMap (fun o=>(0,MT.sym 59)::roL o))∧gapW (l.flatMap (fun o=>(0,MT.sym 59)::roL o))
 |[],_=>⟨trivial,trivial⟩
 |o::r,h=>by
  have ih:=kFx (l:=r) fun x hx=>h x (List.mem_cons_of_mem _ hx);have h1:=kK4 (h o (List.mem_cons_self ..));rw[List.flatMap_cons];exact⟨⟨.inr (.inl rfl),trivial,kCg h1.1 ih.1 ih.2⟩,trivial⟩
theorem kHl {l:List Ro} (h: ∀o∈l,rgO o):kBa (opsL l)∧gapW (opsL l):=by
 cases l with
 |nil=>exact⟨trivial,trivial⟩
 |cons o r=>
  have ih:=kFx (l:=r) fun x hx=>h x (List.mem_cons_of_mem _ hx);have h1:=kK4 (h o (List.mem_cons_self ..));exact⟨⟨.inl rfl,trivial,kCg h1.1 ih.1 ih.2⟩,trivial⟩
theorem kOn {g:Gd} (h:rgG g):kBa (gdL g):=by
 unfold gdL;split
 ·exact⟨rfl,trivial,h.1,trivial,.inr (.inr (.inl rfl)),trivial,h.2.1,trivial,.inr (.inr (.inr (.inl rfl))),trivial,h.2.2,trivial,trivial⟩
 ·exact trivial
theorem kOo {ss:List Bs} {t:Tr} (he:isNm t.ev=true) (ht:isNm (tgt ss t)=true) (hr:rgT t):kBa (trL ss t):=by
 have h1:kBa ([(1,.sym 62),(1,.nm (tgt ss t))]++opsL t.ops):=by
  refine kCg (a:=[(1,.sym 62),(1,.nm (tgt ss t))]) ⟨.inr (.inr (.inr (.inr rfl))),trivial,ht,trivial,trivial⟩ (kHl hr.2).1 (kHl hr.2).2
 have h2:kBa (gdL t.gd++([(1,.sym 62),(1,.nm (tgt ss t))]++opsL t.ops)):=kCg (kOn hr.1) h1 trivial;have h3:gapW (gdL t.gd++([(1,.sym 62),(1,.nm (tgt ss t))]++opsL t.ops)):=by
  unfold gdL;split<;>exact trivial
 exact⟨rfl,trivial,he,by exact h3,h2⟩
theorem kOp {d:Dv} (h:isNm d.name=true):kBa (drL d):=⟨rfl,trivial,h,trivial,trivial⟩
theorem kOq {s:Bs} (h:isNm s=true):kBa (stL s):=⟨rfl,trivial,h,trivial,trivial⟩
def sn:List (Nat×MT)→List MT:=fun l=>l.map (·.2)
theorem kFy (a b:List (Nat×MT)):sn (a++b)=sn a++sn b:=qN
theorem kQt {o:Ro} (h:roOk o=true) (r:List MT):opM (sn (roL o)++r)=some (o,r):=by
 obtain⟨wr,reg,val⟩:=o;cases wr with
 |true=>rfl
 |false=>
  obtain rfl:val=0:=by simpa[roOk] using h
  rfl
theorem kHm: ∀(l:List Ro) (o:Ro) (n:Nat),l.length<n→(∀x∈o::l,roOk x=true)→opsM n (sn (roL o)++sn (l.flatMap (fun o=>(0,MT.sym 59)::roL o)))=some (o::l)
 |[],o,n+1,_,h=>by
  rw[kAp,kQt (h o (List.mem_cons_self ..))];rfl
 |p::l,o,n+1,hn,h=>by
  have ih:=kHm l p n (by simp at hn;omega) fun x hx=>h x (List.mem_cons_of_mem _ hx);rw[kAp,kQt (h o (List.mem_cons_self ..))];rw[List.flatMap_cons,kFy];show(opsM n (sn (roL p)++sn (l.flatMap (fun o=>(0,MT.sym 59)::roL o)))).map (fun x=>o::x)=_;rw[ih];rfl
theorem kLh (l:List Ro):l.length≤(sn (l.flatMap (fun o=>(0,MT.sym 59)::roL o))).length:=by
 induction l with
 |nil=>exact qT _
 |cons o l ih=>
  rw[List.flatMap_cons,kFy,qD];have:1≤(sn ((0,MT.sym 59)::roL o)).length:=by simp[sn]
  simp only[qB];omega
theorem kLi {l:List Ro} (h: ∀x∈l,roOk x=true):kCI (sn (opsL l))=some l:=by
 cases l with
 |nil=>rfl
 |cons o l=>
  have e:sn (opsL (o::l))= .sym 58::(sn (roL o)++sn (l.flatMap (fun o=>(0,MT.sym 59)::roL o))):=by
   show sn ((0,.sym 58)::roL o++_)=_;rw[kFy];rfl
  rw[e];show opsM (_+1) _=_;refine kHm l o _ ?_ h;have:=kLh l;rw[qD];omega
theorem kOr {g:Gd} (h:gdOk g=true) (r:List MT):gdM (sn (gdL g)++ .sym 62::r)=some (g,.sym 62::r):=by
 obtain⟨used,reg,mask,val⟩:=g;cases used with
 |true=>rfl
 |false=>
  obtain⟨rfl,rfl,rfl⟩:reg=0∧mask=0∧val=0:=by simpa[gdOk] using h
  rfl
theorem kSY {ss:List Bs} {t:Tr} (hg:gdOk t.gd=true) (ho: ∀x∈t.ops,roOk x=true):onM (sn (trL ss t)).tail=some (⟨0,t.ev,t.gd,t.ops,0⟩,tgt ss t):=by
 have e:(sn (trL ss t)).tail= .nm t.ev::(sn (gdL t.gd)++ .sym 62::(.nm (tgt ss t)::sn (opsL t.ops))):=by
  show MT.nm t.ev::sn (gdL t.gd++([(1,.sym 62),(1,.nm (tgt ss t))]++opsL t.ops))=_;rw[kFy,kFy];rfl
 rw[e,kET,kOr hg];show(kCI (sn (opsL t.ops))).map _=_;rw[kLi ho];rfl
theorem kOs {p:PS} {ss:List Bs} {t:Tr} (hn:p.named=true) (hs:p.ss≠[]) (hg:gdOk t.gd=true) (ho: ∀x∈t.ops,roOk x=true):
 kAT p (sn (trL ss t))=some {p with ts:=p.ts++[⟨(p.ss.length:Int)-1,t.ev,t.gd,t.ops,0⟩],tg:=p.tg++[tgt ss t]}:=by
 have e:sn (trL ss t)= .nm sOn::(sn (trL ss t)).tail:=rfl;have h1:=kSY (ss:=ss) hg ho;rw[e];show(if p.named=false then _ else if sOn=kB0 then _ else if sOn=sOn∧p.ss≠[] then (onM (sn (trL ss t)).tail).map _ else none)=_;rw[if_neg (by rw[hn];decide),if_neg (by decide),if_pos ⟨rfl,hs⟩,h1];rfl
theorem kOt {p:PS} {s:Bs} (hn:p.named=true):kAT p (sn (stL s))=some {p with ss:=p.ss++[s]}:=by
 show(if p.named=false then _ else if kB0=kB0 then some {p with ss:=p.ss++[s]} else _)=_;rw[if_neg (by rw[hn];decide),if_pos rfl]
theorem kOu (d:Dv):kAT ps0 (sn (drL d))=some {ps0 with named:=true,name:=d.name}:=rfl
def runT (p:PS):List (List (Nat×MT))→Option PS
 |[]=>some p
 |l::r=>(kAT p (sn l)).bind fun q=>runT q r
theorem kLj (p:PS): ∀(a b:List (List (Nat×MT))),runT p (a++b)=(runT p a).bind fun q=>runT q b:=by
 intro a
 induction a generalizing p with
 |nil=>intro b;rfl
 |cons l r ih=>
  intro b;rw[qM,runT,runT];cases kAT p (sn l) with
  |none=>rfl
  |some q=>exact ih q b
def zT (t:Tr):Tr:={t with to:=0}
theorem kK5 {ss:List Bs}: ∀(l:List Tr) (p:PS),p.named=true→p.ss≠[]→(∀t∈l,t.frm=(p.ss.length:Int)-1∧gdOk t.gd=true∧ ∀x∈t.ops,roOk x=true)→
 runT p (l.map (trL ss))=some {p with ts:=p.ts++l.map zT,tg:=p.tg++l.map (tgt ss)}
 |[],p,_,_,_=>by simp[runT]
 |t::l,p,hn,hs,h=>by
  obtain⟨h1,h2,h3⟩:=h t (List.mem_cons_self ..);rw[List.map_cons,runT,kOs hn hs h2 h3];have e:(⟨(p.ss.length:Int)-1,t.ev,t.gd,t.ops,0⟩:Tr)=zT t:=by rw[←h1];rfl
  have h4:=kK5 (ss:=ss) l {p with ts:=p.ts++[⟨(p.ss.length:Int)-1,t.ev,t.gd,t.ops,0⟩],tg:=p.tg++[tgt ss t]} hn hs (fun x hx=>h x (List.mem_cons_of_mem _ hx));rw[Option.bind_some,h4];simp only[e,List.map_cons,qL,qM,List.nil_append]
def upTo (d:Dv) (i:Nat):List Tr:=(List.range i).flatMap (ofS d)
theorem kCh (d:Dv) (i:Nat):upTo d (i+1)=upTo d i++ofS d i:=by
 unfold upTo;rw[List.range_succ,List.flatMap_append];simp
structure OkD (d:Dv):Prop where
 name:isNm d.name=true
 pos:0<d.ss.length
 few:d.ss.length≤32
 fewT:d.ts.length≤128
 nms: ∀k,k<d.ss.length→isNm (d.ss.getD k [])=true
 tr: ∀t∈d.ts,okT d.ss.length t=true
 asc:d.ts.Pairwise (fun a b=>a.frm≤b.frm)
 nd:d.ss.Nodup
theorem kGn {d:Dv} (h:chkM d=0):OkD d:=by
 have ha:chkA d=true:=by
  refine Decidable.byContradiction fun k=>?_;rw[kAe k] at h;exact absurd h (by decide)
 have hd:d.ss.Nodup:=by
  refine Decidable.byContradiction fun k=>?_;rw[kGY ha k] at h;exact absurd h (by decide)
 obtain⟨h1,h2,h3,h4,h5⟩:=(kEu d).1 ha;have hg: ∀i (hi:i<d.ts.length),d.ts.getD i tr0=d.ts[i]:=fun i hi=>by simp[List.getD,hi]
 refine⟨h1,h2.1,h2.2.1,h2.2.2,h3,fun t ht=>?_,?_,hd⟩
 ·obtain⟨i,hi,rfl⟩:=List.getElem_of_mem ht;rw[←hg i hi];exact h4 i hi
 ·rw[List.pairwise_iff_getElem];intro i j hi hj hij;have: ∀n,i+n<d.ts.length→(d.ts.getD i tr0).frm≤(d.ts.getD (i+n) tr0).frm:=by
   intro n
   induction n with
   |zero=>intro _;exact Int.le_refl _
   |succ n ih=>
    intro hn;have h6:=ih (by omega);rcases h5 (i+(n+1)) hn with h7|h7
    ·omega
    ·have e:i+(n+1)-1=i+n:=by omega
     rw[e] at h7;omega
  have h8:=this (j-i) (by omega);rw[show i+(j-i)=j by omega,hg i hi,hg j hj] at h8;exact h8
theorem kEH {d:Dv} (h:OkD d) {t:Tr} (ht:t∈d.ts):0≤t.frm∧t.frm<d.ss.length∧0≤t.to∧t.to<d.ss.length∧isNm t.ev=true∧gdOk t.gd=true∧t.ops.length≤16∧ ∀x∈t.ops,roOk x=true:=by
 obtain⟨h1,h2,h3,h4,h5,h6⟩:=(kAD _ _).1 (h.tr t ht);refine⟨h1.1,h1.2,h2.1,h2.2,h3,h4,h5,fun x hx=>?_⟩;obtain⟨i,hi,rfl⟩:=List.getElem_of_mem hx;have:=h6 i hi;simpa[List.getD,hi] using this
theorem kK6 {d:Dv} (h:OkD d) {t:Tr} (ht:t∈d.ts):isNm (tgt d.ss t)=true:=by
 obtain⟨_,_,h1,h2,_⟩:=kEH h ht;exact h.nms _ (by omega)
theorem kIa {l:List Bs} {j:Nat} (h:j<l.length):l.take (j+1)=l.take j++[l.getD j []]:=by
 rw[List.take_add_one,List.getD,qJ h];rfl
theorem kHn {d:Dv} (h:OkD d): ∀i,i≤d.ss.length→runT {ps0 with named:=true,name:=d.name} ((List.range i).flatMap (blkL d))=some ⟨true,d.name,d.ss.take i,(upTo d i).map zT,(upTo d i).map (tgt d.ss)⟩
 |0,_=>rfl
 |i+1,hi=>by
  have ih:=kHn h i (by omega);rw[List.range_succ,List.flatMap_append,kLj,ih,Option.bind_some];have e:[i].flatMap (blkL d)=stL (d.ss.getD i [])::(ofS d i).map (trL d.ss):=by simp[blkL]
  rw[e,runT,kOt rfl,Option.bind_some];have hlen:((d.ss.take i)++[d.ss.getD i []]).length=i+1:=by rw[qD,qF];simp;omega
  rw[kK5 (ofS d i) ⟨true,d.name,d.ss.take i++[d.ss.getD i []],(upTo d i).map zT,(upTo d i).map (tgt d.ss)⟩ rfl (by simp) (fun t ht=>?_)]
  ·simp only[kCh,qN];rw[kIa (show i<d.ss.length by omega)]
  ·have ht2:=List.mem_filter.1 ht;obtain⟨_,_,_,_,_,h2,_,h3⟩:=kEH h ht2.1;refine⟨?_,h2,h3⟩;show t.frm=(((d.ss.take i)++[d.ss.getD i []]).length:Int)-1;rw[hlen];have:=of_decide_eq_true ht2.2;omega
theorem kFz: ∀ {l:List Tr} (n:Int),l.Pairwise (fun a b=>a.frm≤b.frm)→l.filter (fun t=>decide (t.frm<n+1))=l.filter (fun t=>decide (t.frm<n))++l.filter (fun t=>decide (t.frm=n))
 |[],_,_=>rfl
 |a::l,n,h=>by
  obtain⟨h1,h2⟩:=List.pairwise_cons.1 h;have ih:=kFz n h2;by_cases c1:a.frm<n
  ·rw[List.filter_cons_of_pos (by exact qR (by omega)),List.filter_cons_of_pos (by exact qR c1),List.filter_cons_of_neg (by simp;omega),ih];rfl
  ·have hn:l.filter (fun t=>decide (t.frm<n))=[]:=List.filter_eq_nil_iff.2 fun x hx=>by have:=h1 x hx;simp;omega
   rw[hn] at ih;by_cases c2:a.frm=n
   ·rw[List.filter_cons_of_pos (by exact qR (by omega)),List.filter_cons_of_neg (by simp;omega),List.filter_cons_of_pos (by exact qR c2),hn,ih];rfl
   ·rw[List.filter_cons_of_neg (by simp;omega),List.filter_cons_of_neg (by simp;omega),List.filter_cons_of_neg (by simp;omega),hn,ih]
theorem kDw {d:Dv} (h:OkD d): ∀i:Nat,upTo d i=d.ts.filter (fun t=>decide (t.frm<(i:Int)))
 |0=>by
  refine(List.filter_eq_nil_iff.2 fun x hx=>?_).symm;have:=(kEH h hx).1;simp;omega
 |i+1=>by
  rw[kCh,kDw h i,Int.natCast_succ,kFz _ h.asc];rfl
theorem kLk {d:Dv} (h:OkD d):upTo d d.ss.length=d.ts:=by
 rw[kDw h];exact List.filter_eq_self.2 fun x hx=>qR (kEH h hx).2.1
theorem kOv {d:Dv} (h:OkD d) {t:Tr} (ht:t∈d.ts):kBo d.ss (tgt d.ss t)=some t.to.toNat:=by
 obtain⟨_,_,h1,h2,_⟩:=kEH h ht;unfold kBo;rw[List.find?_range_eq_some];refine⟨qR rfl,List.mem_range.2 (by omega),fun j hj=>?_⟩;have:=kAy.1 h.nd j t.to.toNat hj (by omega);simp only[Bool.not_eq_true',decide_eq_false_iff_not];exact this
theorem kHo {d:Dv} (h:OkD d): ∀ {l:List Tr},(∀t∈l,t∈d.ts)→kB1 d.ss (l.map zT) (l.map (tgt d.ss))=some l
 |[],_=>rfl
 |t::l,hl=>by
  have h1:=hl t (List.mem_cons_self ..);rw[List.map_cons,List.map_cons,kB1,kOv h h1];show(kB1 d.ss (l.map zT) (l.map (tgt d.ss))).map _=_;rw[kHo h fun x hx=>hl x (List.mem_cons_of_mem _ hx)];have e:({zT t with to:=((t.to.toNat:Nat):Int)}:Tr)=t:=by
   have h2:((t.to.toNat:Nat):Int)=t.to:=by have:=(kEH h h1).2.2.1;omega
   rw[h2];rfl
  show some (_::l)=_;rw[e]
theorem kOw {d:Dv} (h:OkD d):runT ps0 (kK3 d)=some ⟨true,d.name,d.ss,d.ts.map zT,d.ts.map (tgt d.ss)⟩:=by
 rw[kK3,runT,kOu];show runT _ _=_;rw[kHn h _ (qU _),kLk h,List.take_length]
theorem kOx {d:Dv} (h:chkM d=0):finM ⟨true,d.name,d.ss,d.ts.map zT,d.ts.map (tgt d.ss)⟩=(0,d):=kJV rfl (kGn h).nd (kHo (kGn h) fun _ ht=>ht) h
theorem kG0: ∀ {ls:List Bs},(∀l∈ls,∀c∈l,c≠10)→kA4 (unl ls)=ls++[[]]
 |[],_=>rfl
 |l::ls,h=>by
  have ih:=kG0 (ls:=ls) fun x hx=>h x (List.mem_cons_of_mem _ hx);have e:unl (l::ls)=l++10::unl ls:=by unfold unl;rw[List.flatMap_cons,qL];rfl
  rw[e,kAz l _ (h l (List.mem_cons_self ..)),ih];rfl
theorem kQu {d:Dv} (h:OkD d) (hr:rgD d): ∀l∈kK3 d,kBa l:=by
 intro l hl;rcases qe.1 hl with rfl|hl
 ·exact kOp h.name
 ·obtain⟨i,hi,hl⟩:=List.mem_flatMap.1 hl;have hi:=List.mem_range.1 hi;rcases qe.1 hl with rfl|hl
  ·exact kOq (h.nms i hi)
  ·obtain⟨t,ht,rfl⟩:=List.mem_map.1 hl;have ht:=(List.mem_filter.1 ht).1;exact kOo (kEH h ht).2.2.2.2.1 (kK6 h ht) (hr t ht)
theorem kK7 {sp:Bs} (hs: ∀x∈sp,spB x=true) (h0:sp≠[]): ∀ {ls:List (List (Nat×MT))} (p:PS),(∀l∈ls,kBa l)→runM p (ls.map (ren sp))=runT p ls
 |[],p,_=>rfl
 |l::ls,p,h=>by
  rw[List.map_cons,runM,runT,kQs hs h0 (h l (List.mem_cons_self ..))];show(kAT p (sn l)).bind _=_;cases kAT p (sn l) with
  |none=>rfl
  |some q=>exact kK7 hs h0 q fun x hx=>h x (List.mem_cons_of_mem _ hx)
theorem sp32: ∀x∈([32]:Bs),spB x=true:=by decide
theorem kIb {d:Dv} (h:chkM d=0) (hr:rgD d):kAH (fmtM d)=(0,d):=by
 have hg:=kQu (kGn h) hr;have e:runM ps0 (kA4 (fmtM d))=some ⟨true,d.name,d.ss,d.ts.map zT,d.ts.map (tgt d.ss)⟩:=by
  unfold fmtM;rw[kG0 ?_,kEv,kK7 sp32 (by simp) _ hg,kOw (kGn h)]
  ·rfl
  ·intro l hl c hc;obtain⟨l',hl',rfl⟩:=List.mem_map.1 hl;exact(kK2 sp32 (hg l' hl') c hc).2
 rw[kD6 e,kOx h]
def sOff:Bs:=[111,102,102]
def kNI:Bs:=[115,116,97,114,116]
def sIrq:Bs:=[105,114,113]
def modM (v:Int) (n:Nat):Int:=(IntKind.u64.wrap v)%n
theorem kA8 (v:Int) {n:Nat} (h:0<n):0≤modM v n∧modM v n<n:=⟨Int.emod_nonneg _ (by omega),Int.emod_lt_of_pos _ (by omega)⟩
theorem kD7 (v:Int):0≤IntKind.u64.wrap v:=by rw[IntKind.wrap_u64];omega
theorem kFs (v:Int) {n:Nat} (h:0<n):(IntKind.u64.wrap v).tmod n=modM v n:=by
 rw[modM,qW (kD7 v)]
theorem modT (v:Int) {n:Nat} (h:0<n):0≤(IntKind.u64.wrap v).tmod n∧(IntKind.u64.wrap v).tmod n<n:=by
 rw[kFs v h];exact kA8 v h
def evL:List Bs:=[kNI,sIrq,sOn,kBn,[110,111,110,101],[]]
def nmL:List Bs:=[sOff,sOn,[95,120],[83,116,97,116,101,51],sIf,[111,110,95,49]]
def ev4:List Bs:=[kNI,sIrq,sOn,kBn]
structure Sml (d:Dv):Prop where
 s:d.ss.length≤40
 t:d.ts.length≤40
 n:d.name.length≤100
 o: ∀i,i<d.ts.length→(trA d.ts i).ops.length≤20∧(trA d.ts i).ev.length≤100
 k: ∀i,i<d.ss.length→(d.ss.getD i []).length≤100
def oM (o:Ro):Ro:=if o.wr=true then o else {o with val:=0}
def gM (g:Gd):Gd:=if g.used=true then ⟨true,g.reg,g.mask.tmod 4,g.val.tmod 4⟩ else gd0
def stF (n f:Nat) (t:Tr):Nat:=if f+1<n∧modM t.frm 3=0 then f+1 else f
def frN (n:Nat) (l:List Tr):Nat:=l.foldl (stF n) 0
def kBw (n f:Nat) (t:Tr):Tr:=⟨f,ev4.getD (t.ev.length%4) [],gM t.gd,(t.ops.take 4).map oM,modM t.to n⟩
def somF (n:Nat):Nat→List Tr→List Tr
 |_,[]=>[]
 |f,t::r=>kBw n (stF n f t) t::somF n (stF n f t) r
theorem kG1 (n:Nat): ∀(l:List Tr) (f:Nat) (t:Tr),somF n f (l++[t])=somF n f l++[kBw n (stF n (l.foldl (stF n) f) t) t]
 |[],f,t=>rfl
 |a::l,f,t=>by
  rw[qM,somF,somF,kG1 n l,qM,List.foldl_cons]
def somN (d:Dv):Nat:=1+d.ss.length%6
def kA5 (d:Dv):Dv:=⟨nmL.getD (d.name.length%6) [],nmL.take (somN d),somF (somN d) 0 (d.ts.take 20)⟩
theorem kLl (n:Nat) (l:List Tr) (t:Tr):frN n (l++[t])=stF n (frN n l) t:=by simp[frN]
theorem kBN {α:Type} (d:α) {l:List α} {j:Nat} (h:j<l.length):l.take (j+1)=l.take j++[l.getD j d]:=by
 rw[List.take_add_one];simp[List.getD,qJ h]
theorem kFD (d:Dv):0<somN d∧somN d≤6:=by unfold somN;omega
theorem kK8 (a b:Nat):(a:Int).tmod (b:Int)=((a%b:Nat):Int):=rfl
theorem kLY {n f:Nat} {t:Tr} (h1:(f:Int)<(n:Int)-1) (h2:modM t.frm 3=0):stF n f t=f+1:=by
 unfold stF;rw[if_pos ⟨by omega,h2⟩]
theorem kK9 {n f:Nat} {t:Tr} (h1: ¬(f:Int)<(n:Int)-1):stF n f t=f:=by
 unfold stF;rw[if_neg (fun h=>h1 (by omega))]
theorem kKA {n f:Nat} {t:Tr} (h2: ¬modM t.frm 3=0):stF n f t=f:=by
 unfold stF;rw[if_neg (fun h=>h2 h.2)]
theorem gM_t {g:Gd} (h:g.used=true):gM g=⟨true,g.reg,g.mask.tmod 4,g.val.tmod 4⟩:=by unfold gM;rw[if_pos h]
theorem gM_f {g:Gd} (h:g.used=false):gM g=gd0:=by unfold gM;rw[if_neg (by rw[h];decide)]
theorem oM_t {o:Ro} (h:o.wr=true):oM o=o:=by unfold oM;rw[if_pos h]
theorem oM_f {o:Ro} (h:o.wr=false):oM o=⟨o.wr,o.reg,0⟩:=by unfold oM;rw[if_neg (by rw[h];decide)]
theorem kC7 {α:Type} {l:List α} {k n:Nat} (h:k≤l.length) (h2:k≤n) (h3: ¬(k<l.length∧k<n)):l.take k=l.take n:=by
 by_cases e:k=n
 ·rw[e]
 ·rw[List.take_of_length_le (show l.length≤k by omega),List.take_of_length_le (show l.length≤n by omega)]
theorem kDT {hs H:List TH} {n j:Nat} (hj:j<hs.length) (h:H.map (·.t)=somF n 0 ((hs.map (·.t)).take j)) {A:Option Addr} {c:Nat} {t:Tr} (ht:t=kBw n (stF n (frN n ((hs.map (·.t)).take j)) (hs.getD j thK.d).t) (hs.getD j thK.d).t):
 (H++[(⟨t,A,c⟩:TH)]).map (·.t)=somF n 0 ((hs.map (·.t)).take (j+1)):=by
 rw[qN,h,kBN tr0 (by simpa using hj),kG1,show(hs.map (·.t)).getD j tr0=(hs.getD j thK.d).t from kN8 hs j,ht];rfl
theorem kDU {hs:List TH} {n j:Nat} (hj:j<hs.length):frN n ((hs.map (·.t)).take (j+1))=stF n (frN n ((hs.map (·.t)).take j)) (hs.getD j thK.d).t:=by
 rw[kBN tr0 (by simpa using hj),kLl,show(hs.map (·.t)).getD j tr0=(hs.getD j thK.d).t from kN8 hs j]
theorem Hp.bigSnoc8 {I0:Ids} {w0 w:World} {A1 A2 A3 A4 A5 A6 A7:Assn} {β:Type} {F:β→Assn} {hs:List β} (h':β) {X:Assn} (h:Hp I0 w0 [A1,A2,A3,A4,A5,A6,A7,Big F hs,X] w) (hx:X=F h'):Hp I0 w0 [A1,A2,A3,A4,A5,A6,A7,Big F (hs++[h'])] w:=by
 subst hx;exact Hp.bigSnoc (L:=[A1,A2,A3,A4,A5,A6,A7,Big F hs]) (k:=7) h rfl
theorem kQv: ∀q,q<6→isNm (nmL.getD q [])=true:=by decide
theorem kAE: ∀q,q<4→isNm (ev4.getD q [])=true:=by decide
theorem kDV (n:Nat): ∀(l:List Tr) (f:Nat),(somF n f l).length=l.length
 |[],_=>rfl
 |t::r,f=>by rw[somF,qB,kDV n r,qB]
theorem kSZ (g:Gd):gdOk (gM g)=true:=by
 unfold gM;split
 ·rfl
 ·rfl
theorem kSa (o:Ro):roOk (oM o)=true:=by
 unfold oM;split
 ·rename_i h;unfold roOk;rw[h];rfl
 ·unfold roOk;simp
theorem kG2 {n f:Nat} (t:Tr) (hf:f<n):stF n f t<n∧f≤stF n f t:=by
 unfold stF;split<;>omega
theorem kLm {n f:Nat} (t:Tr) (hf:f<n):okT n (kBw n f t)=true:=by
 rw[kAD];have hm:=kA8 t.to (show 0<n by omega);refine⟨⟨by show(0:Int)≤(f:Int);omega,by show(f:Int)<n;omega⟩,hm,kAE _ (Nat.mod_lt _ (by decide)),kSZ _,?_,?_⟩
 ·show((t.ops.take 4).map oM).length≤16;rw[qE,qF];omega
 ·intro k hk;have e:((t.ops.take 4).map oM).all roOk=true:=by
   rw[List.all_eq_true];intro x hx;obtain⟨y,_,rfl⟩:=List.mem_map.1 hx;exact kSa y
  exact(kBU ro0).1 e k hk
theorem kKB (n:Nat): ∀(l:List Tr) (f:Nat),f<n→(somF n f l).all (okT n)=true
 |[],_,_=>rfl
 |t::r,f,hf=>by
  rw[somF,List.all_cons,kLm t (kG2 t hf).1,kKB n r _ (kG2 t hf).1];rfl
theorem kHp (n:Nat): ∀(l:List Tr) (f k:Nat),f<n→k+1<l.length→((somF n f l).getD k tr0).frm≤((somF n f l).getD (k+1) tr0).frm
 |[],_,_,_,h=>by simp at h
 |[t],_,k,_,h=>by simp at h
 |t::t2::r,f,0,hf,_=>by
  have h1:=kG2 t hf;have h2:=kG2 t2 h1.1;show((stF n f t:Nat):Int)≤((stF n (stF n f t) t2:Nat):Int);omega
 |t::t2::r,f,k+1,hf,h=>by
  have h1:=kG2 t hf;rw[somF];exact kHp n (t2::r) (stF n f t) k h1.1 (by simpa using h)
theorem kDx {n:Nat} (h:n≤6):(nmL.take n).length=n:=by
 rw[qF];exact Nat.min_eq_left h
theorem kLn:nmL.Nodup:=by decide
theorem kFE (d:Dv):chkM (kA5 d)=0:=by
 have hn:=kFD d;have hl:=kDx hn.2;refine kJE ((kEu _).2 ⟨kQv _ (Nat.mod_lt _ (by decide)),⟨?_,?_,?_⟩,?_,?_,?_⟩) ?_
 ·show 0<(nmL.take (somN d)).length;omega
 ·show(nmL.take (somN d)).length≤32;omega
 ·show(somF _ _ _).length≤128;rw[kDV,qF];omega
 ·intro k hk;have hk2:k<(nmL.take (somN d)).length:=hk;rw[hl] at hk2;have e:(nmL.take (somN d)).getD k []=nmL.getD k []:=by simp[List.getD,List.getElem?_take,hk2]
  show isNm ((nmL.take (somN d)).getD k [])=true;rw[e];exact kQv k (by omega)
 ·show ∀k,k<(somF _ _ _).length→okT (nmL.take (somN d)).length _=true;rw[hl];exact(kBU tr0).1 (kKB _ _ 0 hn.1)
 ·intro k hk;have hk2:k<(somF (somN d) 0 (d.ts.take 20)).length:=hk;rw[kDV] at hk2
  match k with
  |0=>exact .inl rfl
  |k+1=>exact .inr (kHp _ _ 0 k hn.1 hk2)
 ·exact List.Nodup.sublist (List.take_sublist _ _) kLn
def sOnS:Bs:=[32,32,111,110,32]
def sIfS:Bs:=[32,105,102,32]
def sAmp:Bs:=[32,38,32]
def sEqS:Bs:=[32,61,32]
def sArr:Bs:=[32,45,62,32]
def sWrS:Bs:=[119,114,105,116,101,32]
def sRdS:Bs:=[114,101,97,100,32]
def sDrS:Bs:=[100,114,105,118,101,114,32]
def sStS:Bs:=[115,116,97,116,101,32]
def gdT (g:Gd):Bs:=if g.used=true then (((((sIfS++dec g.reg)++sAmp)++dec g.mask)++sEqS)++dec g.val) else []
def roT (o:Ro):Bs:=if o.wr=true then ((sWrS++dec o.reg)++[32])++dec o.val else sRdS++dec o.reg
def kEI (l:List Ro):Bs:=l.flatMap (fun o=>[59,32]++roT o)
def opsT:List Ro→Bs
 |[]=>[]
 |o::r=>[58,32]++(roT o++kEI r)
def trT (ss:List Bs) (t:Tr):Bs:=(((((sOnS++t.ev)++gdT t.gd)++sArr)++tgt ss t)++opsT t.ops)++[10]
theorem kNJ (n:Nat) (c:MT) (o:Ro):ren [32] ((0,c)::roL o)=ttx c++([32]++roT o):=by
 unfold roL roT;split<;>simp[ren,reps,ttx,kDn,kIU,sWrS,sRdS]
theorem kLo (l:List Ro):ren [32] (l.flatMap (fun o=>(0,MT.sym 59)::roL o))=kEI l:=by
 unfold kEI
 induction l with
 |nil=>rfl
 |cons o l ih=>
  rw[List.flatMap_cons,List.flatMap_cons,kDv,ih,kNJ 0];rfl
theorem kOy (l:List Ro):ren [32] (opsL l)=opsT l:=by
 cases l with
 |nil=>rfl
 |cons o l=>
  show ren [32] (((0,.sym 58)::roL o)++l.flatMap (fun o=>(0,MT.sym 59)::roL o))=_;rw[kDv,kLo,kNJ 0];show([58]++([32]++roT o))++kEI l=[58,32]++(roT o++kEI l)
  simp
theorem kQw (g:Gd):ren [32] (gdL g)=gdT g:=by
 unfold gdL gdT;split
 ·simp[ren,reps,ttx,symT,sIf,sIfS,sAmp,sEqS]
 ·rfl
theorem kOz (ss:List Bs) (t:Tr):ren [32] (trL ss t)++[10]=trT ss t:=by
 unfold trL trT;rw[kDv,kDv,kDv,kQw,kOy];simp[ren,reps,ttx,symT,sOn,sOnS,sArr]
def stT (s:Bs):Bs:=(sStS++s)++[10]
theorem kP0 (s:Bs):ren [32] (stL s)++[10]=stT s:=by simp[stL,stT,ren,reps,ttx,kB0,sStS]
def drT (d:Dv):Bs:=(sDrS++d.name)++[10]
theorem kP1 (d:Dv):ren [32] (drL d)++[10]=drT d:=by simp[drL,drT,ren,reps,ttx,kBn,sDrS]
def trsT (ss:List Bs) (l:List Tr):Bs:=l.flatMap (trT ss)
theorem kP2 (ss:List Bs) (l:List Tr):unl ((l.map (trL ss)).map (ren [32]))=trsT ss l:=by
 unfold unl trsT
 induction l with
 |nil=>rfl
 |cons t l ih=>rw[List.map_cons,List.map_cons,List.flatMap_cons,List.flatMap_cons,ih,kOz]
def oT (d:Dv) (i:Nat):Bs:=drT d++(List.range i).flatMap (fun i=>stT (d.ss.getD i [])++trsT d.ss (ofS d i))
def iT (d:Dv) (i k:Nat):Bs:=(oT d i++stT (d.ss.getD i []))++trsT d.ss ((ofS d i).take k)
def jT (d:Dv) (i k:Nat):Bs:=(oT d i++stT (d.ss.getD i []))++trsT d.ss ((d.ts.take k).filter (fun t=>decide (t.frm=(i:Int))))
theorem kGo (a b:List Bs):unl (a++b)=unl a++unl b:=by simp[unl]
theorem kP3 (d:Dv) (i:Nat):unl ((blkL d i).map (ren [32]))=stT (d.ss.getD i [])++trsT d.ss (ofS d i):=by
 unfold blkL;rw[List.map_cons];show unl ([_]++_)=_;rw[kGo,kP2,←kP0];simp[unl]
theorem kKC (d:Dv):fmtM d=oT d d.ss.length:=by
 unfold fmtM kK3 oT;rw[List.map_cons];show unl ([_]++_)=_;rw[kGo,←kP1];have e:unl (((List.range d.ss.length).flatMap (blkL d)).map (ren [32]))=(List.range d.ss.length).flatMap (fun i=>stT (d.ss.getD i [])++trsT d.ss (ofS d i)):=by
  generalize List.range d.ss.length=R
  induction R with
  |nil=>rfl
  |cons i R ih=>rw[List.flatMap_cons,qN,kGo,kP3,ih,List.flatMap_cons]
 rw[e];simp[unl]
theorem kKD (d:Dv):oT d 0=drT d:=by simp[oT]
theorem kGp (d:Dv) (i:Nat):oT d (i+1)=iT d i (ofS d i).length:=by
 unfold oT iT;rw[List.range_succ,List.flatMap_append,List.take_length];simp[oT]
theorem kP4 (d:Dv) (i:Nat):jT d i 0=oT d i++stT (d.ss.getD i []):=by simp[jT,trsT]
theorem kKE {ts:List Tr} {k:Nat} (h:k<ts.length):ts.take (k+1)=ts.take k++[ts.getD k tr0]:=by
 rw[List.take_add_one,List.getD,qJ h];rfl
theorem kNK {d:Dv} {i k:Nat} (h:k<d.ts.length) (hf:(d.ts.getD k tr0).frm=(i:Int)):jT d i (k+1)=jT d i k++trT d.ss (d.ts.getD k tr0):=by
 unfold jT;rw[kKE h,List.filter_append,List.filter_cons_of_pos (by exact qR hf)];simp[trsT]
theorem kQx {d:Dv} {i k:Nat} (h:k<d.ts.length) (hf: ¬(d.ts.getD k tr0).frm=(i:Int)):jT d i (k+1)=jT d i k:=by
 unfold jT;rw[kKE h,List.filter_append,List.filter_cons_of_neg (by simpa using hf)];simp[trsT]
theorem kQy {d:Dv} {i k:Nat} (h:d.ts.length≤k):jT d i k=oT d (i+1):=by
 rw[kGp];unfold jT iT ofS;rw[List.take_of_length_le h,List.take_length]
theorem part {l:List Tr} (m:Int) (h:l.Pairwise (fun a b=>a.frm≤b.frm)):l=l.filter (fun t=>decide (t.frm<m))++l.filter (fun t=>decide (m≤t.frm)):=by
 induction l with
 |nil=>rfl
 |cons a l ih=>
  obtain⟨h1,h2⟩:=List.pairwise_cons.1 h;by_cases c:a.frm<m
  ·rw[List.filter_cons_of_pos (by exact qR c),List.filter_cons_of_neg (by simp;omega),qM,←ih h2]
  ·have hn:l.filter (fun t=>decide (t.frm<m))=[]:=List.filter_eq_nil_iff.2 fun x hx=>by have:=h1 x hx;simp;omega
   have hf:l.filter (fun t=>decide (m≤t.frm))=l:=List.filter_eq_self.2 fun x hx=>by have:=h1 x hx;simp;omega
   rw[List.filter_cons_of_neg (by simp;omega),List.filter_cons_of_pos (by exact qR (by omega)),hn,hf];rfl
theorem kQz {d:Dv} (h:OkD d) (i:Nat): ∃R,d.ts=(upTo d i++ofS d i)++R∧ ∀t∈R,(i:Int)+1≤t.frm:=by
 refine⟨d.ts.filter (fun t=>decide (((i+1:Nat):Int)≤t.frm)),?_,fun t ht=>?_⟩
 ·rw[←kCh,kDw h];exact part _ h.asc
 ·have:=of_decide_eq_true (List.mem_filter.1 ht).2;omega
theorem kR0 {d:Dv} (h:OkD d) (i k:Nat) (hk:k≤(ofS d i).length):(upTo d i).length+k≤d.ts.length:=by
 obtain⟨R,hR,_⟩:=kQz h i;have:=congrArg List.length hR;simp only[qD] at this;omega
theorem kB3 {v:Int} (h:u64 v):(dec v).length≤20:=by
 unfold dec;rw[Lib.decDigits_length];exact Lib.nDigits_le20 _ (by have:=h.1;have:=h.2;omega)
theorem kKF {g:Gd} (h:rgG g):(gdT g).length≤70:=by
 have h1:=kB3 h.1;have h2:=kB3 h.2.1;have h3:=kB3 h.2.2;unfold gdT;split
 ·simp only[qD,sIfS,sAmp,sEqS,qB,qC];omega
 ·simp
theorem kKG {o:Ro} (h:rgO o):(roT o).length≤47:=by
 have h1:=kB3 h.1;have h2:=kB3 h.2;unfold roT;split<;>(simp only[qD,sWrS,sRdS,qB,qC];omega)
theorem kG3: ∀ {l:List Ro},(∀o∈l,rgO o)→(kEI l).length≤49* l.length
 |[],_=>by simp[kEI]
 |o::l,h=>by
  have ih:=kG3 (l:=l) fun x hx=>h x (List.mem_cons_of_mem _ hx);have h1:=kKG (h o (List.mem_cons_self ..));unfold kEI at ih ⊢;rw[List.flatMap_cons];simp only[qD,qB,qC];omega
theorem kFF {l:List Ro} (h: ∀o∈l,rgO o):(opsT l).length≤49* l.length:=by
 cases l with
 |nil=>simp[opsT]
 |cons o l=>
  have ih:=kG3 (l:=l) fun x hx=>h x (List.mem_cons_of_mem _ hx);have h1:=kKG (h o (List.mem_cons_self ..));unfold opsT;simp only[qD,qB,qC];omega
theorem kCi {s:Bs} (h:isNm s=true):s.length≤32:=((kBV s).1 h).2.1
theorem kKH {d:Dv} (h:OkD d) (hr:rgD d) {t:Tr} (ht:t∈d.ts):(trT d.ss t).length≤150+49* t.ops.length:=by
 have h1:=kCi (kEH h ht).2.2.2.2.1;have h2:=kCi (kK6 h ht);have h3:=kKF (hr t ht).1;have h4:=kFF (hr t ht).2;unfold trT;simp only[qD,sOnS,sArr,qB,qC];omega
theorem kHq {d:Dv} (h:OkD d) (hr:rgD d) {m:Nat} (hm: ∀t∈d.ts,t.ops.length≤m): ∀ {l:List Tr},(∀t∈l,t∈d.ts)→(trsT d.ss l).length≤(150+49* m)* l.length
 |[],_=>by simp[trsT]
 |t::l,hl=>by
  have ih:=kHq h hr hm (l:=l) fun x hx=>hl x (List.mem_cons_of_mem _ hx);have h1:=kKH h hr (hl t (List.mem_cons_self ..));have h2:=hm t (hl t (List.mem_cons_self ..));have h3:49* t.ops.length≤49* m:=Nat.mul_le_mul_left _ h2;unfold trsT at ih ⊢;rw[List.flatMap_cons,qD,qB,Nat.mul_succ];omega
theorem kNL {d:Dv} (h:OkD d) (hr:rgD d) {m:Nat} (hm: ∀t∈d.ts,t.ops.length≤m): ∀i,i≤d.ss.length→(oT d i).length≤40+39* i+(150+49* m)* (upTo d i).length
 |0,_=>by
  have:=kCi h.name;rw[kKD];simp only[drT,qD,sDrS,qB,qC,upTo,List.range_zero,List.flatMap_nil];omega
 |i+1,hi=>by
  have ih:=kNL h hr hm i (by omega);have h1:=kCi (h.nms i (by omega));have h2:=kHq h hr hm (l:=ofS d i) fun t ht=>(List.mem_filter.1 ht).1;rw[kGp,kCh];unfold iT;rw[List.take_length];simp only[qD,stT,sStS,qB,qC,Nat.mul_add];omega
theorem kKI {d:Dv} (h:OkD d) (hr:rgD d) {m:Nat} (hm: ∀t∈d.ts,t.ops.length≤m) {i:Nat} (hi:i≤d.ss.length):(oT d i).length≤40+39* d.ss.length+(150+49* m)* d.ts.length:=by
 have h1:=kNL h hr hm i hi;have h2:=kR0 h i 0 (qT _);have h3:(150+49* m)* (upTo d i).length≤(150+49* m)* d.ts.length:=Nat.mul_le_mul_left _ h2;omega
theorem kR1 {d:Dv} (h:OkD d): ∀t∈d.ts,t.ops.length≤16:=fun t ht=>(kEH h ht).2.2.2.2.2.2.1
theorem kKJ {d:Dv} (h:OkD d) (hr:rgD d) {i:Nat} (hi:i≤d.ss.length):(oT d i).length≤130000:=by
 have h1:=kKI h hr (kR1 h) hi;have h2:=h.few;have h3:=h.fewT;have h4:(150+49* 16)* d.ts.length≤(150+49* 16)* 128:=Nat.mul_le_mul_left _ h3;omega
theorem kR2 {d:Dv} (h:OkD d) (hr:rgD d) {i k:Nat} (hi:i<d.ss.length):(jT d i k).length≤130000:=by
 have h0:=kKJ h hr (i:=i+1) hi;rw[kGp] at h0;refine qk ?_ h0;unfold iT trsT;rw[List.take_length];unfold jT trsT;have e:(ofS d i).flatMap (trT d.ss)=((d.ts.take k).filter (fun t=>decide (t.frm=(i:Int)))).flatMap (trT d.ss)++((d.ts.drop k).filter (fun t=>decide (t.frm=(i:Int)))).flatMap (trT d.ss):=by
  rw[←List.flatMap_append,←List.filter_append,List.take_append_drop];rfl
 rw[e];simp only[qD];omega
theorem kR3 {d:Dv} (h:OkD d) (hr:rgD d) {t:Tr} (ht:t∈d.ts):(trT d.ss t).length≤1000:=by
 have h1:=kKH h hr ht;have h2:=kR1 h t ht;omega
theorem kLp (d:Dv): ∀t∈(kA5 d).ts,t.ops.length≤4:=by
 have: ∀(n:Nat) (l:List Tr) (f:Nat),∀t∈somF n f l,t.ops.length≤4:=by
  intro n l
  induction l with
  |nil=>intro f t ht;cases ht
  |cons a l ih=>
   intro f t ht;rcases qe.1 ht with rfl|ht
   ·simp[kBw];omega
   ·exact ih _ t ht
 exact this _ _ _
theorem kDW (d:Dv) (hr:rgD (kA5 d)):(fmtM (kA5 d)).length≤7300:=by
 have hk:=kGn (kFE d);rw[kKC];have h1:=kKI hk hr (kLp d) (qU _);have h2:(kA5 d).ss.length≤6:=by
  show(nmL.take (somN d)).length≤6;rw[kDx (kFD d).2];exact(kFD d).2
 have h3:(kA5 d).ts.length≤20:=by
  show(somF (somN d) 0 (d.ts.take 20)).length≤20;rw[kDV,qF];omega
 have h4:(150+49* 4)* (kA5 d).ts.length≤(150+49* 4)* 20:=Nat.mul_le_mul_left _ h3;omega
theorem kDy {d:Dv} (hr:rgD d):rgD (kA5 d):=by
 have hg: ∀g,rgG g→rgG (gM g):=by
  intro g hg;unfold gM;split
  ·have h1:=hg.2.1;have h2:=hg.2.2;refine⟨hg.1,?_,?_⟩
   ·have e1:g.mask.tmod 4=g.mask%4:=qW h1.1;show 0≤g.mask.tmod 4∧g.mask.tmod 4<18446744073709551616;rw[e1];omega
   ·have e1:g.val.tmod 4=g.val%4:=qW h2.1;show 0≤g.val.tmod 4∧g.val.tmod 4<18446744073709551616;rw[e1];omega
  ·exact⟨⟨by decide,by decide⟩,⟨by decide,by decide⟩,⟨by decide,by decide⟩⟩
 have ho: ∀o,rgO o→rgO (oM o):=by
  intro o h;unfold oM;split
  ·exact h
  ·exact⟨h.1,(by decide:(0:Int)≤0),(by decide:(0:Int)<18446744073709551616)⟩
 have: ∀(n:Nat) (l:List Tr) (f:Nat),(∀t∈l,rgT t)→ ∀t∈somF n f l,rgT t:=by
  intro n l
  induction l with
  |nil=>intro f _ t ht;cases ht
  |cons a l ih=>
   intro f hl t ht;rcases qe.1 ht with rfl|ht
   ·have ha:=hl a (List.mem_cons_self ..);refine⟨hg _ ha.1,fun o hx=>?_⟩;obtain⟨o',ho',rfl⟩:=List.mem_map.1 hx;exact ho _ (ha.2 _ (List.mem_of_mem_take ho'))
   ·exact ih _ (fun x hx=>hl x (List.mem_cons_of_mem _ hx)) t ht
 exact this _ _ _ fun t ht=>hr t (List.mem_of_mem_take ht)
theorem kSb {ops:List Ro} (hr: ∀o∈ops,rgO o) {j:Nat} (hj:j<ops.length):rgO (ops.getD j roK.d):=hr _ (by simp[List.getD,hj])
theorem kIc (d:DH) (i:Nat):d.d.ts.getD i tr0=(d.hs.getD i thK.d).t:=kCc d.hs i
theorem kEX (d:DH):d.d.ts.length=d.hs.length:=by show(d.hs.map (·.t)).length=_;rw[qE]
theorem kR4 (d:DH) {i:Nat} (h:i<d.hs.length):(d.hs.getD i thK.d).t∈d.d.ts:=by
 refine List.mem_map.2 ⟨d.hs.getD i thK.d,?_,rfl⟩;simp[List.getD,h]
def fmtR (d:Dv):Bs:=if chkM d=0 then fmtM d else []
end Go.Drv
namespace Go.Proofs.YtfmcioghekppjaaGreatDoor
open Go.Proofs Go.Proofs.Tryz
open Go.Shelf
def Tryz.laysPu14_ren:Go.Shelf.Ren:=⟨fun|14=>217|16=>227|17=>228|19=>235|20=>236|21=>237|22=>238|23=>239|24=>240|25=>243|27=>245|26=>244|28=>246|29=>247|30=>248|31=>249|32=>250|33=>251|35=>253|34=>252|36=>254|37=>255|38=>256|39=>257|40=>258|n=>n,fun|9=>9|3=>3|22=>41|24=>410|25=>411|4=>4|34=>428|5=>5|36=>183|37=>25|0=>0|39=>430|21=>21|44=>438|47=>441|50=>444|48=>442|2=>2|52=>446|55=>449|59=>452|60=>433|20=>20|61=>453|65=>456|66=>457|67=>458|n=>n,fun|0=>3|1=>4|2=>5|3=>6|4=>7|n=>n⟩
theorem Tryz.laysPu14:Go.Proofs.LaysPu.n14 prog Tryz.laysPu14_ren:={
 mixed:=by kernel_rfl
 f14:=func217.trans (congrArg some (by kernel_rfl))
 f16:=func227.trans (congrArg some (by kernel_rfl))
 f17:=func228.trans (congrArg some (by kernel_rfl))
 f19:=func235.trans (congrArg some (by kernel_rfl))
 f20:=func236.trans (congrArg some (by kernel_rfl))
 f21:=func237.trans (congrArg some (by kernel_rfl))
 f22:=func238.trans (congrArg some (by kernel_rfl))
 f23:=func239.trans (congrArg some (by kernel_rfl))
 f24:=func240.trans (congrArg some (by kernel_rfl))
 f25:=func243.trans (congrArg some (by kernel_rfl))
 f26:=func244.trans (congrArg some (by kernel_rfl))
 f27:=func245.trans (congrArg some (by kernel_rfl))
 f28:=func246.trans (congrArg some (by kernel_rfl))
 f29:=func247.trans (congrArg some (by kernel_rfl))
 f30:=func248.trans (congrArg some (by kernel_rfl))
 f31:=func249.trans (congrArg some (by kernel_rfl))
 f32:=func250.trans (congrArg some (by kernel_rfl))
 f33:=func251.trans (congrArg some (by kernel_rfl))
 f34:=func252.trans (congrArg some (by kernel_rfl))
 f35:=func253.trans (congrArg some (by kernel_rfl))
 f36:=func254.trans (congrArg some (by kernel_rfl))
 f37:=func255.trans (congrArg some (by kernel_rfl))
 f38:=func256.trans (congrArg some (by kernel_rfl))
 f39:=func257.trans (congrArg some (by kernel_rfl))
 f40:=func258.trans (congrArg some (by kernel_rfl))
 t0:=underlying0
 a0:=Tryz.isAgg0
 z0:=Tryz.sizeOf0
 v0:=Tryz.zeroValue0
 i0:=by kernel_rfl
 t2:=underlying2
 a2:=Tryz.isAgg2
 z2:=Tryz.sizeOf2
 v2:=Tryz.zeroValue2
 i2:=by kernel_rfl
 t3:=underlying3
 a3:=Tryz.isAgg3
 z3:=Tryz.sizeOf3
 v3:=Tryz.zeroValue3
 i3:=by kernel_rfl
 t4:=underlying4
 a4:=Tryz.isAgg4
 z4:=Tryz.sizeOf4
 v4:=Tryz.zeroValue4
 i4:=by kernel_rfl
 t5:=underlying5
 a5:=Tryz.isAgg5
 z5:=Tryz.sizeOf5
 v5:=Tryz.zeroValue5
 i5:=by kernel_rfl
 t9:=underlying9
 a9:=Tryz.isAgg9
 z9:=Tryz.sizeOf9
 v9:=Tryz.zeroValue9
 i9:=by kernel_rfl
 t20:=underlying20
 a20:=Tryz.isAgg20
 z20:=Tryz.sizeOf20
 v20:=Tryz.zeroValue20
 i20:=by kernel_rfl
 t21:=underlying21
 a21:=Tryz.isAgg21
 z21:=Tryz.sizeOf21
 v21:=Tryz.zeroValue21
 i21:=by kernel_rfl
 t22:=underlying41
 a22:=Tryz.isAgg41
 z22:=Tryz.sizeOf41
 v22:=Tryz.zeroValue41
 i22:=by kernel_rfl
 t24:=underlying410
 a24:=Tryz.isAgg410
 z24:=Tryz.sizeOf410
 v24:=Tryz.zeroValue410
 i24:=by kernel_rfl
 t25:=underlying411
 a25:=Tryz.isAgg411
 z25:=Tryz.sizeOf411
 v25:=Tryz.zeroValue411
 i25:=by kernel_rfl
 t34:=underlying428
 a34:=Tryz.isAgg428
 z34:=Tryz.sizeOf428
 v34:=Tryz.zeroValue428
 i34:=by kernel_rfl
 c34:=by kernel_rfl
 t36:=underlying183
 a36:=Tryz.isAgg183
 z36:=Tryz.sizeOf183
 v36:=Tryz.zeroValue183
 i36:=by kernel_rfl
 t37:=underlying25
 a37:=Tryz.isAgg25
 z37:=Tryz.sizeOf25
 v37:=Tryz.zeroValue25
 i37:=by kernel_rfl
 t39:=underlying430
 a39:=Tryz.isAgg430
 z39:=Tryz.sizeOf430
 v39:=Tryz.zeroValue430
 i39:=by kernel_rfl
 t44:=underlying438
 a44:=Tryz.isAgg438
 z44:=Tryz.sizeOf438
 v44:=Tryz.zeroValue438
 i44:=by kernel_rfl
 t47:=underlying441
 a47:=Tryz.isAgg441
 z47:=Tryz.sizeOf441
 v47:=Tryz.zeroValue441
 i47:=by kernel_rfl
 t48:=underlying442
 a48:=Tryz.isAgg442
 z48:=Tryz.sizeOf442
 v48:=Tryz.zeroValue442
 i48:=by kernel_rfl
 t50:=underlying444
 a50:=Tryz.isAgg444
 z50:=Tryz.sizeOf444
 v50:=Tryz.zeroValue444
 i50:=by kernel_rfl
 t52:=underlying446
 a52:=Tryz.isAgg446
 z52:=Tryz.sizeOf446
 v52:=Tryz.zeroValue446
 i52:=by kernel_rfl
 t55:=underlying449
 a55:=Tryz.isAgg449
 z55:=Tryz.sizeOf449
 v55:=Tryz.zeroValue449
 i55:=by kernel_rfl
 t59:=underlying452
 a59:=Tryz.isAgg452
 z59:=Tryz.sizeOf452
 v59:=Tryz.zeroValue452
 i59:=by kernel_rfl
 t60:=underlying433
 a60:=Tryz.isAgg433
 z60:=Tryz.sizeOf433
 v60:=Tryz.zeroValue433
 i60:=by kernel_rfl
 t61:=underlying453
 a61:=Tryz.isAgg453
 z61:=Tryz.sizeOf453
 t65:=underlying456
 a65:=Tryz.isAgg456
 z65:=Tryz.sizeOf456
 v65:=Tryz.zeroValue456
 i65:=by kernel_rfl
 t66:=underlying457
 a66:=Tryz.isAgg457
 z66:=Tryz.sizeOf457
 v66:=Tryz.zeroValue457
 i66:=by kernel_rfl
 t67:=underlying458
 a67:=Tryz.isAgg458
 z67:=Tryz.sizeOf458
 v67:=Tryz.zeroValue458
 i67:=by kernel_rfl
 g0:=by kernel_rfl
 m0:=by kernel_rfl
 g1:=by kernel_rfl
 m1:=by kernel_rfl
 g2:=by kernel_rfl
 m2:=by kernel_rfl
 g3:=by kernel_rfl
 m3:=by kernel_rfl
 g4:=by kernel_rfl
 m4:=by kernel_rfl}
end Go.Proofs.YtfmcioghekppjaaGreatDoor
namespace Go.Drv
open Go.Sv
theorem wU8 {x:Int} (h1:0≤x) (h2:x≤255):IntKind.u8.wrap x=x:=by
 rw[IntKind.wrap_u8];omega
def numR (s:Bs):Nat×Bool:=if numW s=true∧valD 0 s<18446744073709551616 then (valD 0 s,true) else (0,false)
theorem kRr {s:Bs} (h:(numR s).2=true):(numW s=true∧valD 0 s<18446744073709551616)∧(numR s).1=valD 0 s:=by
 unfold numR at h ⊢;split at h
 ·rename_i hc;exact⟨hc,by rw[if_pos hc]⟩
 ·cases h
theorem kRs {s:Bs} (h:(numR s).2=false): ¬(numW s=true∧valD 0 s<18446744073709551616):=by
 unfold numR at h;split at h
 ·cases h
 ·rename_i hc;exact hc
theorem kBd {s:Bs} (h: ¬(numW s=true∧valD 0 s<18446744073709551616)):numR s=(0,false):=if_neg h
theorem kIA {s:Bs} (h:numW s=true) (h2:valD 0 s<18446744073709551616):numR s=(valD 0 s,true):=if_pos ⟨h,h2⟩
theorem kSw {s:Bs} {j:Nat} (h:j<s.length):s.take (j+1)=s.take j++[s.getD j 0]:=by
 rw[List.take_add_one];simp[List.getD,qJ h]
theorem kCB {s:Bs} {j:Nat} (h:j<s.length) (hd:48≤(s.getD j 0).toNat):((valD 0 (s.take (j+1)):Nat):Int)=10* ((valD 0 (s.take j):Nat):Int)+(((s.getD j 0).toNat:Int)-48):=by
 rw[kSw h,kFC];show((10* valD 0 (s.take j)+((s.getD j 0).toNat-48):Nat):Int)=_;omega
theorem kNe (s:Bs) (j:Nat):valD 0 (s.take j)≤valD 0 s:=by
 have h:s=s.take j++s.drop j:=(List.take_append_drop j s).symm;have h2:valD 0 s=valD (valD 0 (s.take j)) (s.drop j):=by
  rw[←kFC,←h]
 rw[h2];exact kJH _ _
theorem kML (l:Bs): ∀n:Nat,n* 10^l.length≤valD n l:=by
 induction l with
 |nil=>intro n;simp[valD]
 |cons c r ih=>
  intro n;have:=ih (10* n+(c.toNat-48));rw[kBK,qB,Nat.pow_succ];refine qk ?_ this;rw[Nat.mul_comm (10^r.length) 10,←Nat.mul_assoc];refine Nat.mul_le_mul_right _ ?_;omega
theorem kFS {s:Bs} (h:20<s.length): ¬(numW s=true∧valD 0 s<18446744073709551616):=by
 rintro⟨h1,h2⟩;obtain⟨h3,h4,h5⟩:=(kAX s).1 h1;cases s with
 |nil=>exact h3 rfl
 |cons c r=>
  have hl:20≤r.length:=by rw[qB] at h;omega
  have hc:digB c=true:=h5 0 (by simp);have hc2:48≤c.toNat∧c.toNat≤57:=of_decide_eq_true hc;have hne:c≠48:=by
   rcases h4 with h4|h4
   ·rw[qB] at h4;omega
   ·exact h4
  have hne2:c.toNat≠48:=fun e=>hne (UInt8.toNat_inj.1 e);have hv:=kML r (10* 0+(c.toNat-48));rw[←kBK] at hv;have hp:10^20≤10^r.length:=Nat.pow_le_pow_right (by decide) hl;have h6:1* 10^r.length≤(10* 0+(c.toNat-48))* 10^r.length:=Nat.mul_le_mul_right _ (by omega);have h7:(10:Nat)^20=100000000000000000000:=by decide
  omega
theorem kFT {s:Bs} (h:1<s.length) (h0:s.getD 0 0=48): ¬(numW s=true∧valD 0 s<18446744073709551616):=by
 rintro⟨h1,_⟩;rcases((kAX s).1 h1).2.1 with h2|h2
 ·omega
 ·exact h2 h0
theorem kFU {s:Bs} {j:Nat} (h:j<s.length) (hd:digB (s.getD j 0)=false): ¬(numW s=true∧valD 0 s<18446744073709551616):=by
 rintro⟨h1,_⟩;have:=((kAX s).1 h1).2.2 j h;rw[hd] at this;cases this
theorem kRt {s:Bs} (h:numW s=true):isNm s=false:=by
 obtain⟨h3,_,h5⟩:=(kAX s).1 h;exact kBm (h5 0 (ql.2 h3))
def kFV:MT→Int
 | .nm _=>110
 | .num _=>100
 | .sym n=>n
def kAK:MT→Bs
 | .nm t=>t
 |_=>[]
def kRu (t:MT):List Value:=[.int .u8 (kFV t),.string (bs (kAK t)),.int .u64 (tnum t)]
def rtokK:Enc MT where
 f:=kRu
 sz:=3
 d:= .num 0
 len t:=rfl
 pos:=by decide
 one t v hv:=by simp[kRu] at hv;rcases hv with rfl|rfl|rfl<;>rfl
theorem kE4 (s:Bs): ∃r:Bs,s=cutH s++r∧(r=[]∨r.getD 0 0=35):=by
 refine⟨s.dropWhile (fun c=>decide (c≠35)),(List.takeWhile_append_dropWhile).symm,?_⟩
 induction s with
 |nil=>exact .inl rfl
 |cons c r ih=>
  by_cases hc:c=35
  ·right;subst hc;rfl
  ·rw[List.dropWhile_cons,if_pos (qR hc)];exact ih
theorem kRv (s:Bs): ∀x∈cutH s,x≠35:=fun x hx=>by
 unfold cutH at hx
 induction s with
 |nil=>cases hx
 |cons c r ih=>
  rw[List.takeWhile_cons] at hx;split at hx
  ·rename_i hc;rcases qe.1 hx with rfl|h
   ·exact of_decide_eq_true hc
   ·exact ih h
  ·cases hx
theorem kBE {s:Bs} {i:Nat} (hi:i<(cutH s).length):(cutH s).getD i 0=s.getD i 0:=by
 obtain⟨r,hs,_⟩:=kE4 s;have h2:s.getD i 0=(cutH s++r).getD i 0:=by rw[←hs]
 rw[h2];simp[List.getD,qP hi]
theorem kEc (s:Bs):(cutH s).length≤s.length:=(List.takeWhile_sublist _).length_le
theorem kRw {s:Bs} (h:(cutH s).length<s.length):s.getD (cutH s).length 0=35:=by
 obtain⟨r,hs,hr⟩:=kE4 s;have h2:s.getD (cutH s).length 0=(cutH s++r).getD (cutH s).length 0:=by rw[←hs]
 rcases hr with rfl|hr
 ·rw[qK] at hs;rw[←hs] at h;omega
 ·rw[h2];simp only[List.getD,List.getElem?_append_right (qU _),Nat.sub_self];exact hr
theorem kKs {s:Bs} {i:Nat} (hi:i≤(cutH s).length) (h1:i<s.length) (h2: ¬((s.getD i 0).toNat:Int)=35):i<(cutH s).length:=by
 rcases Nat.lt_or_ge i (cutH s).length with h|h
 ·exact h
 ·obtain rfl:i=(cutH s).length:=by omega
  exfalso;apply h2;rw[kRw h1];rfl
theorem kIB {s:Bs} {i:Nat} (hi:i≤(cutH s).length) (h: ¬i<s.length):i=(cutH s).length:=by
 have:=kEc s;omega
theorem kIC {s:Bs} {i:Nat} (hi:i≤(cutH s).length) (h:((s.getD i 0).toNat:Int)=35):i=(cutH s).length:=by
 rcases Nat.lt_or_ge i (cutH s).length with h2|h2
 ·exfalso;have h3:(cutH s).getD i 0∈cutH s:=by simp[List.getD,h2]
  refine kRv s _ h3 ?_;rw[kBE h2];exact UInt8.toNat_inj.1 (show(s.getD i 0).toNat=35 by omega)
 ·omega
theorem kCs {c:UInt8} (h:wrdB c=true):(97≤c.toNat∧c.toNat≤122)∨(65≤c.toNat∧c.toNat≤90)∨c.toNat=95∨(48≤c.toNat∧c.toNat≤57):=by
 unfold wrdB at h;rw[Bool.or_eq_true] at h;rcases h with h|h
 ·have:=of_decide_eq_true h;omega
 ·have:=of_decide_eq_true h;omega
theorem kRx {c:UInt8} (h:wrdB c=true):spB c=false:=qQ fun k=>by
 have:=kCs h;rcases k with rfl|rfl<;>simp at this
theorem kPn {c:UInt8} (h:wrdB c=true):symB c=false:=qQ fun k=>by
 have:=kCs h;rcases k with rfl|rfl|rfl|rfl<;>simp at this
theorem kRy {c:UInt8} (h:wrdB c=true): ¬(c.toNat:Int)=35:=by
 have:=kCs h;omega
theorem kMM {s:Bs} {e:Nat} (he:e≤(cutH s).length) (h: ¬e<s.length∨wrdB (s.getD e 0)=false):e=(cutH s).length∨wrdB ((cutH s).getD e 0)=false:=by
 rcases Nat.lt_or_ge e (cutH s).length with h2|h2
 ·right;rw[kBE h2];rcases h with h|h
  ·have:=kEc s;omega
  ·exact h
 ·left;omega
theorem kMN {s:Bs} {e:Nat} (he:e≤(cutH s).length):(cutH s).take e=s.take e:=by
 obtain⟨r,hs,_⟩:=kE4 s;have h2:s.take e=(cutH s++r).take e:=by rw[←hs]
 rw[h2,List.take_append_of_le_length he]
theorem kRz {s:Bs} {i:Nat} (hi:i<(cutH s).length) (h1:((s.getD i 0).toNat:Int)=45) (h2:i+1<s.length) (h3:((s.getD (i+1) 0).toNat:Int)=62):2≤((cutH s).drop i).length∧((cutH s).drop i).take 2=[45,62]:=by
 have h4:i+1<(cutH s).length:=kKs hi h2 (by omega);refine⟨by rw[qG];omega,?_⟩;rw[kAI hi,kAI h4,kBE hi,kBE h4,UInt8.toNat_inj.1 (show(s.getD i 0).toNat=(45:UInt8).toNat by show _=45;omega),UInt8.toNat_inj.1 (show(s.getD (i+1) 0).toNat=(62:UInt8).toNat by show _=62;omega)];rfl
theorem kMO {s:Bs} {i:Nat} (hi:i<(cutH s).length) (h: ¬((s.getD i 0).toNat:Int)=45∨ ¬i+1<s.length∨ ¬((s.getD (i+1) 0).toNat:Int)=62): ¬(2≤((cutH s).drop i).length∧((cutH s).drop i).take 2=[45,62]):=by
 rintro⟨h1,h2⟩;rw[qG] at h1;have h4:i+1<(cutH s).length:=by omega
 rw[kAI hi,kAI h4,kBE hi,kBE h4] at h2;simp only[List.take_succ_cons,List.take_zero,List.cons.injEq] at h2;have:=kEc s;rcases h with h|h|h
 ·rw[h2.1] at h;exact h rfl
 ·omega
 ·rw[h2.2.1] at h;exact h rfl
theorem kKt {s:Bs} {i:Nat} {ts:List MT} (h:Rd (cutH s) i ts) (hi:i<(cutH s).length) (h0:spB (s.getD i 0)=false) (h1:symB (s.getD i 0)=false) (h2: ¬(2≤((cutH s).drop i).length∧((cutH s).drop i).take 2=[45,62])) (h3:wrdB (s.getD i 0)=false):tk (cutH s)=none:=by
 rw[←kBE hi] at h0 h1 h3;refine(h.word hi h0 h1 h2 (qU _) (by omega) (fun k a b=>by omega) (.inr h3)).1 ?_;rw[List.drop_of_length_le (by rw[qF];omega)];rfl
theorem kNf {s:Bs} {i e:Nat} {ts:List MT} (h:Rd (cutH s) i ts) (hi:i<(cutH s).length) (hw:wrdB (s.getD i 0)=true) (g1:i≤e) (g2:e≤(cutH s).length) (g3: ∀k,i≤k→k<e→wrdB (s.getD k 0)=true) (g4: ¬e<s.length∨wrdB (s.getD e 0)=false):
 (kA7 ((s.take e).drop i)=none→tk (cutH s)=none)∧ ∀t,kA7 ((s.take e).drop i)=some t→i<e∧Rd (cutH s) e (ts++[t]):=by
 have hw2:=hw;rw[←kBE hi] at hw2;have:=h.word hi (kRx hw2) (kPn hw2) (kMO hi (.inl (by have:=kCs hw;omega))) g1 g2 (fun k a b=>by rw[kBE (by omega)];exact g3 k a b) (kMM g2 g4);rw[kMN g2] at this;exact this
section
variable {P:Program} {N:NN} {E:Env} {S:World→Prop} {d:Option Nat} {ty:TypeId} {pos:String} {af:Array Edge} {g:Option (Nat×Bool)} {x:Operand}
theorem Step.convBS {src dst e:TypeId} {A:Option Addr} {n c:Nat} {xs:List Int} (hs:P.underlying src=some (.slice e)) (he:P.underlying e=some (.int .u8)) (hd:P.underlying dst=some .string) (hx:ev E x=some (.slice A n c)) (hr: ∀w,S w→RS w (intK .u8) A xs) (hn:n=xs.length) (h0:0<xs.length):
 Step P N E S ⟨d,.convert src dst x,ty,pos,af,g⟩ (.string (bs (xs.map fun n=>UInt8.ofNat n.toNat))):=fun a w hf hw=>by
 have h1:=hr w hw;have hA:=h1.form h0;have h2:=run_convert_bytes_arg (P:=P) w src e hs he (bk A) (of A) n c xs hn.symm (fun i hi=>by
  have:=h1.cell (m:=i) (j:=0) (by omega) (v:= .int .u8 (xs.getD i 0)) rfl;have e:of A+i* (intK .u8).sz+0=of A+i:=by show of A+i* 1+0=_;omega
  rw[e] at this;exact this) dst hd
 rw[←hA] at h2;simp only[execOp,hf.ev hx,Sem.run_bind,h2,Result.andThen_ok,Sem.run_pure];rfl
end
def kB (t:MT):UInt8:=UInt8.ofNat (kFV t).toNat
theorem kKu {n:Nat} (h:okN n):kB (.sym n)=UInt8.ofNat n:=by
 unfold kB kFV;rfl
theorem kB_n {t:MT} (ht:tkOk t) (h:kB t=110):t= .nm (kAK t):=by
 cases t with
 |nm s=>rfl
 |num v=>exact absurd h (by show UInt8.ofNat 100≠110;decide)
 |sym n=>
  have hn:okN n:=ht;rw[kKu hn] at h;rcases hn with rfl|rfl|rfl|rfl|rfl<;>exact absurd h (by decide)
theorem kB_d {t:MT} (ht:tkOk t) (h:kB t=100):t= .num (tnum t):=by
 cases t with
 |nm s=>exact absurd h (by show UInt8.ofNat 110≠100;decide)
 |num v=>rfl
 |sym n=>
  have hn:okN n:=ht;rw[kKu hn] at h;rcases hn with rfl|rfl|rfl|rfl|rfl<;>exact absurd h (by decide)
theorem kB_s {t:MT} {c:Nat} (ht:tkOk t) (hc:okN c) (h:kB t=UInt8.ofNat c):t= .sym c:=by
 cases t with
 |nm s=>
  have h2:UInt8.ofNat 110=UInt8.ofNat c:=h;rcases hc with rfl|rfl|rfl|rfl|rfl<;>exact absurd h2 (by decide)
 |num v=>
  have h2:UInt8.ofNat 100=UInt8.ofNat c:=h;rcases hc with rfl|rfl|rfl|rfl|rfl<;>exact absurd h2 (by decide)
 |sym n=>
  have hn:okN n:=ht;rw[kKu hn] at h;rcases hn with rfl|rfl|rfl|rfl|rfl<;>rcases hc with rfl|rfl|rfl|rfl|rfl<;>first|rfl|exact absurd h (by decide)
theorem rk_s {t:MT} {c:Nat} (ht:tkOk t) (hc:okN c) (h:kFV t=c):t= .sym c:=by
 cases t with
 |nm s=>have h2:(110:Int)=c:=h;rcases hc with rfl|rfl|rfl|rfl|rfl<;>omega
 |num v=>have h2:(100:Int)=c:=h;rcases hc with rfl|rfl|rfl|rfl|rfl<;>omega
 |sym n=>have h2:(n:Int)=c:=h;rw[show n=c by omega]
abbrev tA (l:List MT) (i:Nat):MT:=l.getD i rtokK.d
theorem kAZ {l:List MT} {i:Nat} (h:i<l.length):l.drop i=tA l i::l.drop (i+1):=by
 rw[List.drop_eq_getElem_cons h];simp[tA,List.getD,qJ h]
theorem kCQ {l:List MT} (ht: ∀x∈l,tkOk x) {i:Nat} (h:i<l.length):tkOk (tA l i):=ht _ (by simp[tA,List.getD,h])
def kds (l:List MT) (n:Nat):Bs:=(l.take n).map kB
theorem kPo {l:List MT} {j:Nat} (h:j<l.length):l.take (j+1)=l.take j++[tA l j]:=by
 rw[List.take_add_one];simp[tA,List.getD,qJ h]
theorem kPp {l:List MT} {j:Nat} (h:j<l.length):kds l (j+1)=kds l j++[kB (tA l j)]:=by
 unfold kds;rw[kPo h,qN];rfl
theorem kGE {l:List MT} {n:Nat} {k:Bs} (h:kds l n=k) (hn:n≤l.length): ∀i,i<n→kB (tA l i)=k.getD i 0:=fun i hi=>by
 rw[←h];unfold kds tA;simp[List.getD,List.getElem?_map,List.getElem?_take,hi,qJ (show i<l.length by omega)]
def tlM (c:Nat):List MT→Option (List Ro)
 |[]=>some []
 | .sym d::r=>if d=c then opsM (r.length+1) r else none
 |_=>none
theorem kSx (l:List MT):tlM 58 l=kCI l:=by
 unfold tlM kCI;split
 ·rfl
 ·rename_i d r;split
  ·rename_i h;subst h;rfl
  ·rename_i h;split
   ·rename_i h2;cases h2
   ·rename_i h2;cases h2;exact absurd rfl h
   ·rfl
 ·rename_i h1 h2;split
  ·exact absurd rfl h1
  ·exact absurd rfl (h2 _ _)
  ·rfl
theorem kH3 {l:List MT} {o:Ro} {r:List MT} (h:opM l=some (o,r)):r.length+2≤l.length:=by
 unfold opM at h;split at h
 ·rename_i k a r0;split at h
  ·split at h
   ·cases h;simp only[qB];omega
   ·cases h
  ·split at h
   ·cases h;simp only[qB];omega
   ·cases h
 ·cases h
theorem m59 {n f:Nat} (hn:n≠59) (o:Ro) (r3:List MT):(match some (o,MT.sym n::r3) with
 |none=>none
 |some (o,[])=>some [o]
 |some (o,.sym 59::r)=>(opsM f r).map (fun x=>o::x)
 |some _=>none)=(none:Option (List Ro)):=by
 split
 ·rename_i h;cases h
 ·rename_i h;cases h
 ·rename_i h;cases h;exact absurd rfl hn
 ·rfl
theorem kMP: ∀(n m:Nat) (l:List MT),l.length<n→l.length<m→opsM n l=opsM m l:=by
 intro n
 induction n with
 |zero=>intro m l h;omega
 |succ n ih=>
  intro m l hn hm;obtain⟨k,rfl⟩: ∃k,m=k+1:=⟨m-1,by omega⟩
  rw[kAp,kAp];cases ho:opM l with
  |none=>rfl
  |some p=>
   obtain⟨o,r⟩:=p;have hl:=kH3 ho;cases r with
   |nil=>rfl
   |cons t r3=>
    cases t with
    |nm s=>rfl
    |num v=>rfl
    |sym q=>
     by_cases hq:q=59
     ·subst hq;show(opsM n r3).map _=(opsM k r3).map _;simp only[qB] at hl;rw[ih k r3 (by omega) (by omega)]
     ·exact(m59 (f:=n) hq o r3).trans (m59 (f:=k) hq o r3).symm
theorem kS0 {c:Nat} {r:List MT}:tlM c (.sym c::r)=match opM r with
 |none=>none
 |some (o,r2)=>(tlM 59 r2).map (fun x=>o::x):=by
 show(if c=c then opsM (r.length+1) r else none)=_;rw[if_pos rfl,kAp];cases ho:opM r with
 |none=>rfl
 |some p=>
  obtain⟨o,r2⟩:=p;have hl:=kH3 ho;cases r2 with
  |nil=>rfl
  |cons t r3=>
   cases t with
   |nm s=>rfl
   |num v=>rfl
   |sym n=>
    by_cases hn:n=59
    ·subst hn;show(opsM r.length r3).map _=(if 59=59 then opsM (r3.length+1) r3 else none).map _;rw[if_pos rfl];simp only[qB] at hl;rw[kMP r.length (r3.length+1) r3 (by omega) (by omega)]
    ·show _=(if n=59 then opsM (r3.length+1) r3 else none).map _;rw[if_neg hn];exact m59 (f:=r.length) hn o r3
theorem kSy {c:Nat} {l:List MT} (hl:0<l.length) (h: ¬kFV (tA l 0)=c):tlM c l=none:=by
 cases l with
 |nil=>simp at hl
 |cons t r=>
  cases t with
  |nm s=>rfl
  |num v=>rfl
  |sym n=>
   show(if n=c then _ else none)=none;rw[if_neg];intro e;exact h (by show(n:Int)=c;omega)
theorem kSz {t:MT} (h:kAK t≠[]):t= .nm (kAK t):=by
 cases t with
 |nm s=>rfl
 |num v=>exact absurd rfl h
 |sym n=>exact absurd rfl h
theorem kT0 {R:List MT} (ht: ∀x∈R,tkOk x) (h1:3≤R.length) (h2:kds R 3=[110,100,100]) (h3:kAK (tA R 0)=[119,114,105,116,101]):opM R=some (⟨true,tnum (tA R 1),tnum (tA R 2)⟩,R.drop 3):=by
 have k:=kGE h2 h1;have e0:=kB_n (kCQ ht (show 0<R.length by omega)) (k 0 (by decide));have e1:=kB_d (kCQ ht (show 1<R.length by omega)) (k 1 (by decide));have e2:=kB_d (kCQ ht (show 2<R.length by omega)) (k 2 (by decide));have e:R=tA R 0::tA R 1::tA R 2::R.drop 3:=by
  have a0:=kAZ (show 0<R.length by omega);rw[kAZ (show 0+1<R.length by omega),kAZ (show 0+1+1<R.length by omega)] at a0;exact a0
 rw[e0,h3,e1,e2] at e;generalize tnum (tA R 1)=a at e ⊢;generalize tnum (tA R 2)=b at e ⊢;generalize R.drop 3=D at e ⊢;rw[e];rfl
theorem kPq {R:List MT} (ht: ∀x∈R,tkOk x) (h1:2≤R.length) (h2:kds R 2=[110,100]) (h3:kAK (tA R 0)=[114,101,97,100]):opM R=some (⟨false,tnum (tA R 1),0⟩,R.drop 2):=by
 have k:=kGE h2 h1;have e0:=kB_n (kCQ ht (show 0<R.length by omega)) (k 0 (by decide));have e1:=kB_d (kCQ ht (show 1<R.length by omega)) (k 1 (by decide));have e:R=tA R 0::tA R 1::R.drop 2:=by
  have a0:=kAZ (show 0<R.length by omega);rw[kAZ (show 0+1<R.length by omega)] at a0;exact a0
 rw[e0,h3,e1] at e;generalize tnum (tA R 1)=a at e ⊢;generalize R.drop 2=D at e ⊢;rw[e];rfl
theorem kCt {R:List MT} (h1: ¬(3≤R.length∧kds R 3=[110,100,100]∧kAK (tA R 0)=[119,114,105,116,101])) (h2: ¬(2≤R.length∧kds R 2=[110,100]∧kAK (tA R 0)=[114,101,97,100])):opM R=none:=by
 cases ho:opM R with
 |none=>rfl
 |some p=>
  exfalso;unfold opM at ho;split at ho
  ·rename_i k a r0;split at ho
   ·rename_i hk;split at ho
    ·refine h1 ⟨by simp,rfl,hk⟩
    ·cases ho
   ·split at ho
    ·rename_i hk;exact h2 ⟨by simp,rfl,hk⟩
    ·cases ho
  ·cases ho
structure LH where
 h:TH
 to:Bs
def lnK:Enc LH where
 f x:=[.int .i64 x.h.t.frm,.string (bs x.h.t.ev),.bool x.h.t.gd.used,.int .u64 x.h.t.gd.reg,.int .u64 x.h.t.gd.mask,.int .u64 x.h.t.gd.val,.slice x.h.A x.h.t.ops.length x.h.c,.int .i64 x.h.t.to,.string (bs x.to)]
 sz:=9
 d:=⟨thD,[]⟩
 len _:=rfl
 pos:=by decide
 one r v hv:=by simp at hv;rcases hv with rfl|rfl|rfl|rfl|rfl|rfl|rfl|rfl|rfl<;>rfl
theorem kMQ {e:Bs} {R:List MT} (h: ¬(6<R.length∧kds R 6=[110,100,38,100,61,100]∧kAK (tA R 0)=[105,102])):onM (.nm e::R)=onT e gd0 R:=by
 rw[kET];cases hG:gdM R with
 |none=>
  show none=_;unfold gdM at hG;split at hG
  ·rfl
  ·rfl
  ·cases hG
 |some p=>
  obtain⟨g,r⟩:=p;show onT e g r=onT e gd0 R;unfold gdM at hG;split at hG
  ·rename_i i a m v r0;split at hG
   ·rename_i hi;cases hG;cases r with
    |nil=>rfl
    |cons x r=>
     exfalso;exact h ⟨by simp only[qB];omega,rfl,hi⟩
   ·cases hG
  ·cases hG
  ·cases hG;rfl
theorem kS1 {e:Bs} {R:List MT} (ht: ∀x∈R,tkOk x) (h1:6<R.length) (h2:kds R 6=[110,100,38,100,61,100]) (h3:kAK (tA R 0)=[105,102]):onM (.nm e::R)=onT e ⟨true,tnum (tA R 1),tnum (tA R 3),tnum (tA R 5)⟩ (R.drop 6):=by
 have k:=kGE h2 (by omega);have e0:=kB_n (kCQ ht (show 0<R.length by omega)) (k 0 (by decide));have e1:=kB_d (kCQ ht (show 1<R.length by omega)) (k 1 (by decide));have e2:=kB_s (c:=38) (kCQ ht (show 2<R.length by omega)) (.inr (.inr (.inl rfl))) (k 2 (by decide));have e3:=kB_d (kCQ ht (show 3<R.length by omega)) (k 3 (by decide));have e4:=kB_s (c:=61) (kCQ ht (show 4<R.length by omega)) (.inr (.inr (.inr (.inl rfl)))) (k 4 (by decide));have e5:=kB_d (kCQ ht (show 5<R.length by omega)) (k 5 (by decide));have ee:R=tA R 0::tA R 1::tA R 2::tA R 3::tA R 4::tA R 5::R.drop 6:=by
  have a0:=kAZ (show 0<R.length by omega);rw[kAZ (show 0+1<R.length by omega),kAZ (show 0+1+1<R.length by omega),kAZ (show 0+1+1+1<R.length by omega),kAZ (show 0+1+1+1+1<R.length by omega),kAZ (show 0+1+1+1+1+1<R.length by omega)] at a0;exact a0
 rw[e0,h3,e1,e2,e3,e4,e5] at ee;generalize tnum (tA R 1)=a at ee ⊢;generalize tnum (tA R 3)=b at ee ⊢;generalize tnum (tA R 5)=c at ee ⊢;generalize R.drop 6=D at ee ⊢;rw[ee,kET];rfl
theorem kH4 {e:Bs} {g:Gd} {R:List MT} (h: ¬(2≤R.length∧kds R 2=[62,110])):onT e g R=none:=by
 cases ho:onT e g R with
 |none=>rfl
 |some x=>
  exfalso;unfold onT at ho;split at ho
  ·exact h ⟨by simp only[qB];omega,rfl⟩
  ·cases ho
theorem kNg {e:Bs} {g:Gd} {R:List MT} (ht: ∀x∈R,tkOk x) (h1:2≤R.length) (h2:kds R 2=[62,110]):onT e g R=(kCI (R.drop 2)).map (onR e g (kAK (tA R 1))):=by
 have k:=kGE h2 h1;have e0:=kB_s (c:=62) (kCQ ht (show 0<R.length by omega)) (.inr (.inr (.inr (.inr rfl)))) (k 0 (by decide));have e1:=kB_n (kCQ ht (show 1<R.length by omega)) (k 1 (by decide));have ee:R=tA R 0::tA R 1::R.drop 2:=by
  have a0:=kAZ (show 0<R.length by omega);rw[kAZ (show 0+1<R.length by omega)] at a0;exact a0
 rw[e0,e1] at ee;generalize kAK (tA R 1)=t at ee ⊢;generalize R.drop 2=D at ee ⊢;rw[ee];rfl
theorem kID {R:List MT} (h:R.length<3):onM R=none:=by
 cases ho:onM R with
 |none=>rfl
 |some x=>
  exfalso;cases R with
  |nil=>cases ho
  |cons t r=>
   cases t with
   |nm e=>
    have h2:=kMQ (e:=e) (R:=r) (fun k=>by have:=k.1;simp only[qB] at h;omega);rw[ho] at h2;rw[kH4 (fun k=>by have:=k.1;simp only[qB] at h;omega)] at h2;cases h2
   |num v=>cases ho
   |sym n=>cases ho
theorem kKv {R:List MT} (h: ¬ ∃e r,R= .nm e::r):onM R=none:=by
 cases R with
 |nil=>rfl
 |cons t r=>
  cases t with
  |nm e=>exact absurd ⟨e,r,rfl⟩ h
  |num v=>rfl
  |sym n=>rfl
structure OnG (w:World) (ts:List MT) (e:Bs) where
 g:Gd
 cur:List MT
 B:Option Addr
 m:Nat
 rs:RS w rtokK B cur
 cap:cur.length≤m
 ok: ∀x∈cur,tkOk x
 len:cur.length≤ts.length
 res:onM (ts.drop 1)=onT e g cur
theorem kS2 {ts:List MT} (h0:0<ts.length) (h1:1<ts.length) (hnm:kB (tA ts 0)=110) (k: ∃e r,ts.drop 1= .nm e::r):kds ts 2=[110,110]:=by
 obtain⟨e,r,he⟩:=k;rw[kPp (show 1<ts.length by omega),kPp (show 0<ts.length by omega),hnm];rw[kAZ (show 1<ts.length by omega)] at he;rw[(List.cons.inj he).1];rfl
structure LnG where
 f:Nat
 P:List Bs
 A:Option Addr
 c:Nat
def LnI (s:Bs) (i:Nat) (X:LnG):Prop:=X.P.length≤i∧((i≤s.length∧X.f≤i∧kA4 s=X.P++kA4 (s.drop X.f)∧ ∀k,X.f≤k→k<i→s.getD k 0≠10)∨(i=s.length+1∧kA4 s=X.P))
theorem LnI.start (s:Bs):LnI s 0 ⟨0,[],none,0⟩:=⟨qU _,.inl ⟨qT _,qU _,rfl,fun k h1 h2=>by omega⟩⟩
theorem LnI.le {s:Bs} {i:Nat} {X:LnG} (h:LnI s i X) (hi:i≤s.length):X.f≤i:=by
 rcases h.2 with h|h
 ·exact h.2.1
 ·omega
theorem kKw {s:Bs} {f i:Nat} (hi:i≤s.length) (h: ∀k,f≤k→k<i→s.getD k 0≠10): ∀c∈(s.take i).drop f,c≠10:=fun c hc=>by
 obtain⟨k,hk,rfl⟩:=List.getElem_of_mem hc;rw[qG,qF] at hk;have:=h (f+k) (by omega) (by omega);rw[List.getElem_drop,List.getElem_take];rwa [List.getD,qJ (show f+k<s.length by omega)] at this
theorem LnI.nl {s:Bs} {i:Nat} {X:LnG} (h:LnI s i X) (hi:i<s.length) (hc:((s.getD i 0).toNat:Int)=10) (A:Option Addr) (c:Nat):LnI s (i+1) ⟨i+1,X.P++[(s.take i).drop X.f],A,c⟩:=by
 refine⟨?_,?_⟩
 ·have:=h.1;simp only[qD,qB,qC];omega
 rcases h.2 with ⟨h1,h2,h3,h4⟩|h
 ·refine .inl ⟨by omega,qU _,?_,fun k a b=>by have a2:i+1≤k:=a;omega⟩;have e:s.drop X.f=(s.take i).drop X.f++10::s.drop (i+1):=by
   have e1:s=s.take i++s.drop i:=(List.take_append_drop i s).symm;have e2:s.drop X.f=(s.take i++s.drop i).drop X.f:=by rw[←e1]
   rw[e2,List.drop_append_of_le_length (by rw[qF];omega),kAI hi,UInt8.toNat_inj.1 (show(s.getD i 0).toNat=(10:UInt8).toNat by show _=10;omega)]
  rw[h3,e,kAz _ _ (kKw h1 h4)];simp
 ·omega
theorem LnI.no {s:Bs} {i:Nat} {X:LnG} (h:LnI s i X) (hi:i<s.length) (hc: ¬((s.getD i 0).toNat:Int)=10):LnI s (i+1) X:=by
 refine⟨by have:=h.1;omega,?_⟩;rcases h.2 with ⟨h1,h2,h3,h4⟩|h
 ·refine .inl ⟨by omega,by omega,h3,fun k a b=>?_⟩;by_cases e:k=i
  ·subst e;intro e2;apply hc;rw[e2];rfl
  ·exact h4 k a (by omega)
 ·omega
theorem LnI.fin {s:Bs} {i:Nat} {X:LnG} (h:LnI s i X) (hi:i=s.length) (f:Nat) (A:Option Addr) (c:Nat):LnI s (i+1) ⟨f,X.P++[(s.take i).drop X.f],A,c⟩:=by
 refine⟨?_,.inr ⟨by omega,?_⟩⟩
 ·have:=h.1;simp only[qD,qB,qC];omega
 rcases h.2 with ⟨h1,h2,h3,h4⟩|h
 ·subst hi;have e:s.drop X.f=(s.take s.length).drop X.f:=by rw[List.take_length]
  rw[h3,e,kCG _ (kKw (qU _) h4)]
 ·omega
theorem LnI.last {s:Bs} {i:Nat} {X:LnG} (h:LnI s i X) (hi: ¬i≤s.length):kA4 s=X.P:=by
 rcases h.2 with h|h
 ·omega
 ·exact h.2
theorem kGF: ∀s:Bs,(kA4 s).length≤s.length+1
 |[]=>by simp[kA4]
 |c::r=>by
  have ih:=kGF r;rw[kA4];split
  ·simp only[qB];omega
  ·cases h:kA4 r with
   |nil=>simp only[qB,qC];omega
   |cons a t=>
    rw[h] at ih;simp only[qB] at ih ⊢;omega
theorem kGG: ∀s:Bs,∀l∈kA4 s,l.length≤s.length
 |[],l,h=>by simp[kA4] at h;subst h;simp
 |c::r,l,h=>by
  have ih:=kGG r;rw[kA4] at h;split at h
  ·rcases qe.1 h with rfl|h
   ·simp
   ·have:=ih l h;simp only[qB];omega
  ·cases hs:kA4 r with
   |nil=>
    rw[hs] at h;simp only[qm] at h;subst h;simp
   |cons a t=>
    rw[hs] at h ih;rcases qe.1 h with rfl|h
    ·have:=ih a (List.mem_cons_self ..);simp only[qB];omega
    ·have:=ih l (List.mem_cons_of_mem _ h);simp only[qB];omega
structure RH where
 named:Bool
 name:Bs
 sA:Option Addr
 sc:Nat
 ss:List Bs
 aA:Option Addr
 ac:Nat
 al:List LH
def RH.ps (X:RH):PS:=⟨X.named,X.name,X.ss,X.al.map (·.h.t),X.al.map (·.to)⟩
def rh0:RH:=⟨false,[],none,0,[],none,0,[]⟩
def opL (x:LH):Assn:=opA x.h
theorem kNh {ts:List MT} (ht: ∀x∈ts,tkOk x) (h:ts.map kB=[110,110]):ts=[.nm (kAK (tA ts 0)),.nm (kAK (tA ts 1))]:=by
 match ts,h,ht with
 |[],h,_=>simp at h
 |[a],h,_=>simp at h
 |a::b::c::r,h,_=>simp at h
 |[a,b],h,ht=>
  simp only[List.map_cons,List.map_nil,List.cons.injEq,and_true] at h;have e0:=kB_n (ht a (by simp)) h.1;have e1:=kB_n (ht b (by simp)) h.2;show[a,b]=[.nm (kAK a),.nm (kAK b)];rw[←e0,←e1]
section
variable {p:PS} {ts:List MT}
theorem kPr (ht: ∀x∈ts,tkOk x) (hn:p.named=false) (h:ts.map kB=[110,110]) (hk:kAK (tA ts 0)=[100,114,105,118,101,114]):kAT p ts=some {p with named:=true,name:=kAK (tA ts 1)}:=by
 have e:=kNh ht h;rw[hk] at e;generalize kAK (tA ts 1)=n at e ⊢;rw[e];show(if p.named=false then _ else _)=_;rw[if_pos hn];rfl
theorem kKx (h0:0<ts.length) (hn:p.named=false) (h: ¬(ts.map kB=[110,110]∧kAK (tA ts 0)=[100,114,105,118,101,114])):kAT p ts=none:=by
 cases ts with
 |nil=>simp at h0
 |cons t r=>
  cases t with
  |num v=>rfl
  |sym n=>rfl
  |nm k=>
   show(if p.named=false then _ else _)=_;rw[if_pos hn];split
   ·rename_i n;rw[if_neg];intro hk;exact h ⟨rfl,hk⟩
   ·rfl
theorem kKy (ht: ∀x∈ts,tkOk x) (hn:p.named=true) (h:ts.map kB=[110,110]) (hk:kAK (tA ts 0)=[115,116,97,116,101]):kAT p ts=some {p with ss:=p.ss++[kAK (tA ts 1)]}:=by
 have e:=kNh ht h;rw[hk] at e;generalize kAK (tA ts 1)=n at e ⊢;rw[e];show(if p.named=false then _ else _)=_;rw[if_neg (by rw[hn];decide)];rfl
theorem kPs (hn:p.named=true) (hk:kAK (tA ts 0)=[115,116,97,116,101]) (h: ¬ts.map kB=[110,110]):kAT p ts=none:=by
 cases ts with
 |nil=>cases hk
 |cons t r=>
  cases t with
  |num v=>rfl
  |sym n=>rfl
  |nm k=>
   have hk2:k=kB0:=hk;show(if p.named=false then _ else _)=_;rw[if_neg (by rw[hn];decide),if_pos hk2];split
   ·exact absurd rfl h
   ·rfl
theorem kIE (hn:p.named=true) (hk:kAK (tA ts 0)=[111,110]) (hs:p.ss≠[]):kAT p ts=(onM (ts.drop 1)).map (fun x=>{p with ts:=p.ts++[{x.1 with frm:=(p.ss.length:Int)-1}],tg:=p.tg++[x.2]}):=by
 cases ts with
 |nil=>cases hk
 |cons t r=>
  cases t with
  |num v=>cases hk
  |sym n=>cases hk
  |nm k=>
   have hk2:k=sOn:=hk;show(if p.named=false then _ else _)=_;rw[if_neg (by rw[hn];decide),if_neg (by rw[hk2];decide),if_pos ⟨hk2,hs⟩];rfl
theorem kNi (h0:0<ts.length) (hn:p.named=true) (h1: ¬kAK (tA ts 0)=[115,116,97,116,101]) (h2: ¬(kAK (tA ts 0)=[111,110]∧p.ss≠[])):kAT p ts=none:=by
 cases ts with
 |nil=>simp at h0
 |cons t r=>
  cases t with
  |num v=>rfl
  |sym n=>rfl
  |nm k=>
   show(if p.named=false then _ else _)=_;rw[if_neg (by rw[hn];decide),if_neg (show ¬k=kB0 from h1),if_neg (show ¬(k=sOn∧p.ss≠[]) from h2)]
end
def lst (ss:List Bs) (t:Bs):Nat→Int
 |0=> -1
 |k+1=>if ss.getD k []=t then (k:Int) else lst ss t k
theorem kS4 {ss:List Bs} {t:Bs} {k:Nat} (h:ss.getD k strK.d=t):lst ss t (k+1)=k:=by rw[lst,if_pos (show ss.getD k []=t from h)]
theorem kS5 {ss:List Bs} {t:Bs} {k:Nat} (h: ¬ss.getD k strK.d=t):lst ss t (k+1)=lst ss t k:=by rw[lst,if_neg (show ¬ss.getD k []=t from h)]
theorem kIF {ss:List Bs} {t:Bs}: ∀k,(∀j,j<k→ss.getD j []≠t)→lst ss t k= -1
 |0,_=>rfl
 |k+1,h=>by rw[lst,if_neg (h k (by omega)),kIF k fun j hj=>h j (by omega)]
theorem kH5 {ss:List Bs} {t:Bs} {i:Nat}: ∀k,i<k→ss.getD i []=t→(∀j,j<k→ss.getD j []=t→j=i)→lst ss t k=i
 |0,h,_,_=>by omega
 |k+1,h,h1,h2=>by
  rw[lst];by_cases e:ss.getD k []=t
  ·rw[if_pos e,h2 k (by omega) e]
  ·rw[if_neg e];refine kH5 k ?_ h1 fun j hj=>h2 j (by omega);rcases Nat.lt_or_ge i k with h3|h3
   ·exact h3
   ·obtain rfl:i=k:=by omega
    exact absurd h1 e
theorem kMR {ss:List Bs} {t:Bs} (h:kBo ss t=none): ∀j,j<ss.length→ss.getD j []≠t:=fun j hj e=>by
 unfold kBo at h;rw[List.find?_eq_none] at h;exact h j (List.mem_range.2 hj) (qR e)
theorem kIG {ss:List Bs} {t:Bs} {i:Nat} (h:kBo ss t=some i):i<ss.length∧ss.getD i []=t:=by
 unfold kBo at h;have h2:decide (ss.getD i []=t)=true:=by
  have:=List.find?_some h;exact this
 exact⟨List.mem_range.1 (List.mem_of_find?_eq_some h),of_decide_eq_true h2⟩
theorem kPu {ss:List Bs} {t:Bs} (hn:ss.Nodup) (h:lst ss t ss.length<0):kBo ss t=none:=by
 cases hi:kBo ss t with
 |none=>rfl
 |some i=>
  obtain⟨h1,h2⟩:=kIG hi;rw[kH5 _ h1 h2 fun j hj e=>?_] at h
  ·omega
  ·have hd:=kAy.1 hn;rcases Nat.lt_trichotomy j i with h3|h3|h3
   ·exact absurd (e.trans h2.symm) (hd j i h3 h1)
   ·exact h3
   ·exact absurd (h2.trans e.symm) (hd i j h3 hj)
theorem kPv {ss:List Bs} {t:Bs} (hn:ss.Nodup) (h: ¬lst ss t ss.length<0): ∃i:Nat,lst ss t ss.length=i∧kBo ss t=some i:=by
 cases hi:kBo ss t with
 |none=>
  rw[kIF _ (kMR hi)] at h;exact absurd (by decide) h
 |some i=>
  obtain⟨h1,h2⟩:=kIG hi;refine⟨i,kH5 _ h1 h2 fun j hj e=>?_,rfl⟩;have hd:=kAy.1 hn;rcases Nat.lt_trichotomy j i with h3|h3|h3
  ·exact absurd (e.trans h2.symm) (hd j i h3 h1)
  ·exact h3
  ·exact absurd (h2.trans e.symm) (hd i j h3 hj)
def lnTo (y:LH) (i:Int):LH:=⟨kF4 y.h i,y.to⟩
structure KG where
 al:List LH
 H:List TH
 tA:Option Addr
 tc:Nat
structure LkR (X:RH) (K:KG) (j:Nat):Prop where
 jl:j≤X.al.length
 len:K.al.length=X.al.length
 hl:K.H.length=j
 rest:K.al.drop j=X.al.drop j
 ho:K.H.map opA=(X.al.take j).map opL
 res:kB1 X.ss (X.al.map (·.h.t)) (X.al.map (·.to))=(kB1 X.ss ((X.al.drop j).map (·.h.t)) ((X.al.drop j).map (·.to))).map (fun r=>K.H.map (·.t)++r)
theorem LkR.start (X:RH):LkR X ⟨X.al,[],none,0⟩ 0:=⟨qT _,rfl,rfl,rfl,rfl,by simp⟩
theorem kEd {H:List LH} {j:Nat} (h:j<H.length):H.drop j=H.getD j lnK.d::H.drop (j+1):=by
 rw[List.drop_eq_getElem_cons h];simp[List.getD,qJ h]
theorem LkR.at {X:RH} {K:KG} {j:Nat} (h:LkR X K j) (hj:j<X.al.length):K.al.getD j lnK.d=X.al.getD j lnK.d:=by
 have h1:=h.rest;rw[kEd (by rw[h.len];exact hj),kEd hj] at h1;exact(List.cons.inj h1).1
theorem LkR.bad {X:RH} {K:KG} {j:Nat} (h:LkR X K j) (hj:j<X.al.length) (hi:kBo X.ss (K.al.getD j lnK.d).to=none):kB1 X.ss (X.al.map (·.h.t)) (X.al.map (·.to))=none:=by
 rw[h.res,kEd hj,List.map_cons,List.map_cons,kB1,←h.at hj,hi];rfl
theorem LkR.next {X:RH} {K:KG} {j:Nat} (h:LkR X K j) (hj:j<X.al.length) {i:Nat} (hi:kBo X.ss (K.al.getD j lnK.d).to=some i) (A:Option Addr) (c:Nat):
 LkR X ⟨K.al.set j (lnTo (K.al.getD j lnK.d) i),K.H++[kF4 (K.al.getD j lnK.d).h i],A,c⟩ (j+1):=by
 refine⟨hj,by rw[qI];exact h.len,by rw[qD,h.hl];rfl,?_,?_,?_⟩
 ·show(K.al.set j _).drop (j+1)=_;rw[List.drop_set_of_lt (by omega)];have h1:=h.rest;rw[kEd (by rw[h.len];exact hj),kEd hj] at h1;exact(List.cons.inj h1).2
 ·show(K.H++[_]).map opA=_;have e:X.al.take (j+1)=X.al.take j++[X.al.getD j lnK.d]:=by
   rw[List.take_add_one];simp[List.getD,qJ hj]
  rw[qN,h.ho,e,qN,h.at hj];rfl
 ·rw[h.res,kEd hj,List.map_cons,List.map_cons,kB1,←h.at hj,hi];show Option.map _ (Option.map _ _)=_;rw[Option.map_map]
  congr 1
  funext r
  show K.H.map (fun x:TH=>x.t)++(_::r)=(K.H++[_]).map (fun x:TH=>x.t)++r;rw[qN,qL];rfl
theorem LkR.fin {X:RH} {K:KG} {j:Nat} (h:LkR X K j) (hj: ¬j<X.al.length):kB1 X.ss (X.al.map (·.h.t)) (X.al.map (·.to))=some (K.H.map (·.t)):=by
 rw[h.res,List.drop_of_length_le (by omega)];simp[kB1]
theorem LkR.own {X:RH} {K:KG} {j:Nat} (h:LkR X K j) (hj: ¬j<X.al.length):K.H.map opA=X.al.map opL:=by
 rw[h.ho,List.take_of_length_le (by omega)]
theorem kEe {β γ:Type} {F:β→Assn} {G:γ→Assn} {hs:List β} {gs:List γ} (h:hs.map F=gs.map G):Big F hs=Big G gs:=by
 simp only[Big,h]
theorem DR.ofHpL {I:Ids} {w0 w:World} {L:List Assn} {k1 k2 k3:Nat} {nm:Bs} {sA tA:Option Addr} {sc tc:Nat} {ss:List Bs} {H:List TH} {al:List LH} (h:Hp I w0 L w) (h1:L[k1]?=some (OS 9 strK sA sc ss)) (h2:L[k2]?=some (OS 190 thK tA tc H)) (h3:L[k3]?=some (Big opL al)) (e:H.map opA=al.map opL):DR w ⟨nm,sA,sc,ss,tA,tc,H⟩:=by
 rw[←kEe e] at h3;exact⟨h.os k1 h1,h.os k2 h2,fun i hi=>h.bigOS thD h3 hi (G:=fun b w=>RS w roK b.A b.t.ops) fun i b k=>OS.rs (show(OS 192 roK b.A b.c b.t.ops).sat w i from k)⟩
theorem kT1 {l:List Bs} {j:Nat} (h:j<l.length):l.take (j+1)=l.take j++[l.getD j strK.d]:=by
 rw[List.take_add_one];simp[List.getD,qJ h]
theorem kL0 {LS:List Bs} {i:Nat} {p q:PS} (h:runM ps0 (LS.take i)=some p) (hi:i<LS.length) (hq:lnM p (LS.getD i strK.d)=some q):runM ps0 (LS.take (i+1))=some q:=by
 rw[kT1 hi,kEv,h];show(lnM p _).bind _=_;rw[hq];rfl
theorem kIH {LS:List Bs} {i:Nat} {p:PS} (h:runM ps0 (LS.take i)=some p) (hi:i<LS.length) (hq:lnM p (LS.getD i strK.d)=none):runM ps0 LS=none:=by
 have e:LS=LS.take i++LS.drop i:=(List.take_append_drop i LS).symm;have e2:runM ps0 LS=runM ps0 (LS.take i++LS.drop i):=by rw[←e]
 rw[e2,kEv,h,kJT hi];show(lnM p _).bind _=_;rw[hq];rfl
end Go.Drv
