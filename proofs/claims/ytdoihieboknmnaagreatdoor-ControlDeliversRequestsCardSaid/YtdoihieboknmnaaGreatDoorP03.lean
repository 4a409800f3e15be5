/-
  Joined.
-/
import Derived.Test.YtdoihieboknmnaaGreatDoorP01
import Derived.Lib.ParseIntB
import Derived.Lib.ItoaNum
import Derived.Lib.ItoaLen
import Derived.Lib.Join
import Derived.Shelf.Pu.ParseUintPublic10
import Derived.Test.YtdoihieboknmnaaGreatDoorProg
import Derived.Laws.BytesArg
set_option linter.unusedSimpArgs false
set_option linter.unusedVariables false
namespace Go.Drv
open Go.Sv
def digB (c:UInt8):Bool:=decide (48≤c.toNat∧c.toNat≤57)
def ltrB (c:UInt8):Bool:=decide ((97≤c.toNat∧c.toNat≤122)∨(65≤c.toNat∧c.toNat≤90)∨c.toNat=95)
def wrdB (c:UInt8):Bool:=ltrB c||digB c
def isNm (l:Bs):Bool:=!l.isEmpty&&decide (l.length≤32)&&!digB (l.getD 0 0)&&l.all wrdB
structure Gd where
 used:Bool
 reg:Int
 mask:Int
 val:Int
deriving DecidableEq
structure Ro where
 wr:Bool
 reg:Int
 val:Int
deriving DecidableEq
structure Tr where
 frm:Int
 ev:Bs
 gd:Gd
 ops:List Ro
 to:Int
deriving DecidableEq
structure Dv where
 name:Bs
 ss:List Bs
 ts:List Tr
deriving DecidableEq
def gd0:Gd:=⟨false,0,0,0⟩
def tr0:Tr:=⟨0,[],gd0,[],0⟩
def ro0:Ro:=⟨false,0,0⟩
def dv0:Dv:=⟨[],[],[]⟩
def gdOk (g:Gd):Bool:=g.used||decide (g.reg=0∧g.mask=0∧g.val=0)
def roOk (o:Ro):Bool:=o.wr||decide (o.val=0)
def okT (n:Nat) (t:Tr):Bool:=decide ((0≤t.frm∧t.frm<n)∧(0≤t.to∧t.to<n))&&isNm t.ev&&gdOk t.gd&&decide (t.ops.length≤16)&&t.ops.all roOk
def kFm (ts:List Tr) (i:Nat):Prop:=i=0∨(ts.getD (i-1) tr0).frm≤(ts.getD i tr0).frm
instance(ts:List Tr) (i:Nat):Decidable (kFm ts i):=inferInstanceAs (Decidable (_∨_))
def chkA (d:Dv):Bool:=isNm d.name&&decide (0<d.ss.length∧d.ss.length≤32∧d.ts.length≤128)&&d.ss.all isNm&&d.ts.all (okT d.ss.length)&&(List.range d.ts.length).all (fun i=>decide (kFm d.ts i))
def chkM (d:Dv):Int:=if chkA d=true then (if d.ss.Nodup then 0 else 7) else 1
theorem kBU {α:Type} {p:α→Bool} {l:List α} (d:α):l.all p=true↔ ∀k,k<l.length→p (l.getD k d)=true:=by
 grind [List.getElem_of_mem]
theorem kBV (l:Bs):isNm l=true↔0<l.length∧l.length≤32∧digB (l.getD 0 0)=false∧ ∀k,k<l.length→wrdB (l.getD k 0)=true:=by
 unfold isNm;simp only[qg,Bool.not_eq_true',qj,kBU (0:UInt8)]
 grind
theorem kMq {l:Bs} (a:0<l.length) (b:l.length≤32) (c:digB (l.getD 0 0)=false) (d: ∀k,k<l.length→wrdB (l.getD k 0)=true):isNm l=true:=(kBV l).2 ⟨a,b,c,d⟩
theorem kAF {b:Bool} (h: ¬b=true):b=false:=by cases b<;>simp_all
theorem kDl {l:Bs} (h: ¬0<l.length):isNm l=false:=kAF fun k=>h ((kBV l).1 k).1
theorem kDm {l:Bs} (h: ¬l.length≤32):isNm l=false:=kAF fun k=>h ((kBV l).1 k).2.1
theorem kBm {l:Bs} (h:digB (l.getD 0 0)=true):isNm l=false:=kAF fun k=>by grind [kBV]
theorem kCF {l:Bs} {k:Nat} (a:k<l.length) (h:wrdB (l.getD k 0)=false):isNm l=false:=kAF fun q=>by grind [kBV]
theorem kAD (n:Nat) (t:Tr):okT n t=true↔(0≤t.frm∧t.frm<n)∧(0≤t.to∧t.to<n)∧isNm t.ev=true∧gdOk t.gd=true∧t.ops.length≤16∧ ∀k,k<t.ops.length→roOk (t.ops.getD k ro0)=true:=by
 unfold okT;simp only[qg,qj,kBU ro0]
 grind
theorem kEu (d:Dv):chkA d=true↔isNm d.name=true∧(0<d.ss.length∧d.ss.length≤32∧d.ts.length≤128)∧(∀k,k<d.ss.length→isNm (d.ss.getD k [])=true)∧(∀k,k<d.ts.length→okT d.ss.length (d.ts.getD k tr0)=true)∧ ∀k,k<d.ts.length→kFm d.ts k:=by
 unfold chkA;simp only[qg,qj,kBU ([]:Bs),kBU tr0]
 grind
theorem kAe {d:Dv} (h: ¬chkA d=true):chkM d=1:=if_neg h
theorem kJE {d:Dv} (h:chkA d=true) (a:d.ss.Nodup):chkM d=0:=by grind [chkM]
theorem kGY {d:Dv} (h:chkA d=true) (a: ¬d.ss.Nodup):chkM d=7:=by grind [chkM]
theorem kAy {l:List Bs}:l.Nodup↔ ∀i j,i<j→j<l.length→l.getD i []≠l.getD j []:=by
 grind [List.pairwise_iff_getElem]
theorem kJF {c:UInt8} (h:ltrB c=true):digB c=false:=by
 have:=of_decide_eq_true h;exact qQ (by omega)
def kA4:Bs→List Bs
 |[]=>[[]]
 |c::r=>if c=10 then []::kA4 r else match kA4 r with
  |[]=>[[c]]
  |h::t=>(c::h)::t
theorem kAz: ∀(p r:Bs),(∀c∈p,c≠10)→kA4 (p++10::r)=p::kA4 r
 |[],r,_=>by simp[kA4]
 |c::p,r,h=>by
  have a:c≠10:=h c (List.mem_cons_self ..);rw[qM,kA4,if_neg a,kAz p r fun x b=>h x (List.mem_cons_of_mem _ b)]
theorem kCG: ∀(p:Bs),(∀c∈p,c≠10)→kA4 p=[p]
 |[],_=>rfl
 |c::p,h=>by
  have a:c≠10:=h c (List.mem_cons_self ..);rw[kA4,if_neg a,kCG p fun x b=>h x (List.mem_cons_of_mem _ b)]
inductive MT where
 |nm (t:Bs)
 |num (v:Int)
 |sym (c:Nat)
deriving DecidableEq
def valD (n:Nat) (l:Bs):Nat:=l.foldl (fun n c=>10* n+(c.toNat-48)) n
def numW (w:Bs):Bool:=!w.isEmpty&&(decide (w.length=1)||decide (w.getD 0 0≠48))&&w.all digB
def kA7 (w:Bs):Option MT:=if isNm w=true then some (.nm w) else if numW w=true∧valD 0 w<18446744073709551616 then some (.num (valD 0 w)) else none
def symB (c:UInt8):Bool:=decide (c=58∨c=59∨c=38∨c=61)
def spB (c:UInt8):Bool:=decide (c=32∨c=9)
def cutH (l:Bs):Bs:=l.takeWhile (fun c=>decide (c≠35))
def toks:Nat→Bs→Option (List MT)
 |0,_=>none
 |_+1,[]=>some []
 |n+1,c::r=>
  if spB c=true then toks n r
  else if symB c=true then (toks n r).map (fun x=>MT.sym c.toNat::x)
  else if c=45∧r.getD 0 0=62 then (toks n (r.drop 1)).map (fun x=>MT.sym 62::x)
  else match kA7 ((c::r).takeWhile wrdB) with
   |none=>none
   |some t=>(toks n ((c::r).dropWhile wrdB)).map (fun x=>t::x)
def tk (l:Bs):Option (List MT):=toks (l.length+1) l
theorem kCH:kA7 []=none:=rfl
theorem kHO {w:Bs} {p:UInt8→Bool}:(w.takeWhile p).length+(w.dropWhile p).length=w.length:=by
 grind [List.takeWhile_append_dropWhile]
theorem kFn: ∀(l:Bs) (n m:Nat),l.length<n→l.length<m→toks n l=toks m l:=by
 intro l;generalize d:l.length=k
 induction k using Nat.strongRecOn generalizing l with
 |_ k e=>
  intro n m a b
  match n,m,a,b with
  |n+1,m+1,a,b=>
   match l with
   |[]=>rfl
   |c::r=>
    have f:r.length<k:=by grind
    rw[toks,toks];split
    ·grind
    ·split
     ·grind
     ·split
      ·grind
      ·cases g:kA7 ((c::r).takeWhile wrdB) with
       |none=>rfl
       |some t=>
        have h:0<((c::r).takeWhile wrdB).length:=by
         grind [kCH]
        grind [kHO]
theorem kMr:tk []=some []:=rfl
theorem kQF {c:UInt8} {r:Bs} (h:spB c=true):tk (c::r)=tk r:=by
 grind [tk,toks]
theorem kFo {c:UInt8} {r:Bs} (h0:spB c=false) (h:symB c=true):tk (c::r)=(tk r).map (fun x=>MT.sym c.toNat::x):=by
 grind [tk,toks]
theorem kMs {r:Bs} (h:r.getD 0 0=62):tk (45::r)=(tk (r.drop 1)).map (fun x=>MT.sym 62::x):=by
 rw[tk,qB,toks,if_neg (by decide),if_neg (by decide),if_pos ⟨rfl,h⟩];have a:r.length≠0:=by
  grind
 rw[kFn (r.drop 1) (r.length+1) ((r.drop 1).length+1) (by grind) (by omega)];rfl
theorem kJG {c:UInt8} {r:Bs} (h0:spB c=false) (d:symB c=false) (a: ¬(c=45∧r.getD 0 0=62)):tk (c::r)=match kA7 ((c::r).takeWhile wrdB) with
 |none=>none
 |some t=>(tk ((c::r).dropWhile wrdB)).map (fun x=>t::x):=by
 rw[tk,qB,toks,if_neg (by grind),if_neg (by grind),if_neg a];cases e:kA7 ((c::r).takeWhile wrdB) with
 |none=>rfl
 |some t=>
  have h0:0<((c::r).takeWhile wrdB).length:=by
   grind [kCH]
  have b:=kHO (w:=c::r) (p:=wrdB);simp only[qB] at b;simp only[];rw[kFn ((c::r).dropWhile wrdB) (r.length+1) (((c::r).dropWhile wrdB).length+1) (by omega) (by omega)];rfl
def kBn:Bs:=[100,114,105,118,101,114]
def kB0:Bs:=[115,116,97,116,101]
def sOn:Bs:=[111,110]
def sIf:Bs:=[105,102]
def kDn:Bs:=[119,114,105,116,101]
def kIU:Bs:=[114,101,97,100]
def opM:List MT→Option (Ro×List MT)
 | .nm k:: .num a::r=>if k=kDn then (match r with
  | .num v::r2=>some (⟨true,a,v⟩,r2)
  |_=>none) else if k=kIU then some (⟨false,a,0⟩,r) else none
 |_=>none
def opsM:Nat→List MT→Option (List Ro)
 |0,_=>none
 |n+1,l=>match opM l with
  |none=>none
  |some (o,[])=>some [o]
  |some (o,.sym 59::r)=>(opsM n r).map (fun x=>o::x)
  |some _=>none
def kCI:List MT→Option (List Ro)
 |[]=>some []
 | .sym 58::r=>opsM (r.length+1) r
 |_=>none
def gdM:List MT→Option (Gd×List MT)
 | .nm i:: .num a:: .sym 38:: .num m:: .sym 61:: .num v::r=>if i=sIf then some (⟨true,a,m,v⟩,r) else none
 | .nm _::_=>none
 |r=>some (gd0,r)
def onM:List MT→Option (Tr×Bs)
 | .nm e::r=>match gdM r with
  |some (g,.sym 62:: .nm t::r2)=>(kCI r2).map (fun o=>(⟨0,e,g,o,0⟩,t))
  |_=>none
 |_=>none
structure PS where
 named:Bool
 name:Bs
 ss:List Bs
 ts:List Tr
 tg:List Bs
def ps0:PS:=⟨false,[],[],[],[]⟩
def kAT (p:PS):List MT→Option PS
 |[]=>some p
 | .nm k::r=>
  if p.named=false then (match r with
   |[.nm n]=>if k=kBn then some {p with named:=true,name:=n} else none
   |_=>none)
  else if k=kB0 then (match r with
   |[.nm n]=>some {p with ss:=p.ss++[n]}
   |_=>none)
  else if k=sOn∧p.ss≠[] then (onM r).map (fun x=>{p with ts:=p.ts++[{x.1 with frm:=(p.ss.length:Int)-1}],tg:=p.tg++[x.2]})
  else none
 |_=>none
def lnM (p:PS) (l:Bs):Option PS:=(tk (cutH l)).bind (kAT p)
def runM (p:PS):List Bs→Option PS
 |[]=>some p
 |l::r=>(lnM p l).bind fun q=>runM q r
theorem kEv (p:PS): ∀(a b:List Bs),runM p (a++b)=(runM p a).bind fun q=>runM q b:=by
 intro a
 induction a generalizing p with
 |nil=>intro b;rfl
 |cons l r c=>
  intro b;rw[qM,runM,runM];cases lnM p l with
  |none=>rfl
  |some q=>grind
def kBo (ss:List Bs) (t:Bs):Option Nat:=(List.range ss.length).find? (fun i=>decide (ss.getD i []=t))
def kB1 (ss:List Bs):List Tr→List Bs→Option (List Tr)
 |[],_=>some []
 |t::ts,g::gs=>match kBo ss g with
  |none=>none
  |some i=>(kB1 ss ts gs).map (fun x=>{t with to:=(i:Int)}::x)
 |_::_,[]=>some []
def finM (p:PS):Int×Dv:=
 if p.named=false then (2,dv0)
 else if ¬p.ss.Nodup then (7,dv0)
 else match kB1 p.ss p.ts p.tg with
  |none=>(6,dv0)
  |some ts=>if chkM ⟨p.name,p.ss,ts⟩=0 then (0,⟨p.name,p.ss,ts⟩) else (chkM ⟨p.name,p.ss,ts⟩,dv0)
def kAH (s:Bs):Int×Dv:=match runM ps0 (kA4 s) with
 |none=>(2,dv0)
 |some p=>finM p
def roK:Enc Ro where
 f r:=[.bool r.wr,.int .u64 r.reg,.int .u64 r.val]
 sz:=3
 d:=ro0
 len _:=rfl
 pos:=by decide
 one r v hv:=by simp at hv;rcases hv with rfl|rfl|rfl<;>rfl
structure TH where
 t:Tr
 A:Option Addr
 c:Nat
def thD:TH:=⟨tr0,none,0⟩
def thK:Enc TH where
 f h:=[.int .i64 h.t.frm,.string (bs h.t.ev),.bool h.t.gd.used,.int .u64 h.t.gd.reg,.int .u64 h.t.gd.mask,.int .u64 h.t.gd.val,.slice h.A h.t.ops.length h.c,.int .i64 h.t.to]
 sz:=8
 d:=thD
 len _:=rfl
 pos:=by decide
 one r v hv:=by simp at hv;rcases hv with rfl|rfl|rfl|rfl|rfl|rfl|rfl|rfl<;>rfl
abbrev th (hs:List TH) (i:Nat):TH:=hs.getD i thD
structure DH where
 name:Bs
 sA:Option Addr
 sc:Nat
 ss:List Bs
 tA:Option Addr
 tc:Nat
 hs:List TH
def DH.d (d:DH):Dv:=⟨d.name,d.ss,d.hs.map (·.t)⟩
structure DR (w:World) (d:DH):Prop where
 s:RS w strK d.sA d.ss
 t:RS w thK d.tA d.hs
 o: ∀i,i<d.hs.length→RS w roK (th d.hs i).A (th d.hs i).t.ops
theorem DR.keep {I:Ids} {w0 w:World} {L:List Assn} {d:DH} (h:Hp I w0 L w) (k:DR w0 d) (hI: ∀x,¬I x):DR w d:=
 ⟨h.rs k.s fun _=>hI _,h.rs k.t fun _=>hI _,fun i a=>h.rs (k.o i a) fun _=>hI _⟩
def intK (k:IntKind):Enc Int where
 f n:=[.int k n]
 sz:=1
 d:=0
 len _:=rfl
 pos:=by decide
 one r v hv:=by simp at hv;subst hv;rfl
theorem kCc (hs:List TH) (i:Nat):(hs.map (·.t)).getD i tr0=(th hs i).t:=by
 unfold th;simp only[List.getD,List.getElem?_map];cases hs[i]?<;>rfl
theorem kQG {hs:List TH} {i:Nat}:kFm (hs.map (·.t)) i↔i=0∨(th hs (i-1)).t.frm≤(th hs i).t.frm:=by
 grind [kFm,kCc]
theorem kAC (d:DH):chkA d.d=true↔isNm d.name=true∧(0<d.ss.length∧d.ss.length≤32∧d.hs.length≤128)∧(∀k,k<d.ss.length→isNm (d.ss.getD k [])=true)∧(∀k,k<d.hs.length→okT d.ss.length (th d.hs k).t=true)∧ ∀k,k<d.hs.length→(k=0∨(th d.hs (k-1)).t.frm≤(th d.hs k).t.frm):=by
 grind [kEu,DH.d,kQG]
theorem ff {b:Bool} (h:b=true) (a:b=false):False:=by grind
theorem kB6 {b:Bool} (h:(!b)=true):b=false:=by cases b<;>simp_all
theorem kB7 {b:Bool} (h:(!b)=false):b=true:=by cases b<;>simp_all
theorem kBp {w:World} {p:Nat} {vs us:List Value} (k:Nat) (h: ∀j v,vs[j]?=some v→w.cell? ⟨p,0+j,none⟩=some v) (a:(vs.drop k).take us.length=us): ∀j v,us[j]?=some v→w.cell? ⟨p,0+k+j,none⟩=some v:=fun j v b=>by
 grind
def strV (l:Bs):Value:= .string (bs l)
theorem kBG (q:Bs): ∀l:List Bs,mget (l.map fun x=>(x,true)) q=if q∈l then some true else none
 |[]=>by simp[mget]
 |a::l=>by
  rw[List.map_cons,mget,kBG q l]
  grind
theorem kEj (q:Bs) (l:List Bs):(mget (l.map fun x=>(x,true)) q).getD false=decide (q∈l):=by
 grind [kBG]
theorem kFp {α:Type} {l:List α} {j:Nat} (d:α) (h:j<l.length):l.take (j+1)=l.take j++[l.getD j d]:=by
 simp_all
theorem kLM {l:List Bs} {j:Nat} {q:Bs}:q∈l.take j↔ ∃i,i<j∧i<l.length∧l.getD i []=q:=by
 constructor
 ·intro h;obtain⟨i,a,e⟩:=List.getElem_of_mem h;rw[qF] at a;exact⟨i,by omega,by omega,by grind⟩
 ·rintro⟨i,h1,h2,rfl⟩;rw[show l.getD i []=(l.take j)[i]'(by grind) by grind]
  grind
def symT (n:Nat):Bs:=if n=62 then [45,62] else [n.toUInt8]
def kBJ:MT→Int
 | .nm _=>1
 | .num _=>2
 | .sym _=>3
def kEw:MT→Bs
 | .nm t=>t
 | .num _=>[]
 | .sym n=>symT n
def tnum:MT→Int
 | .num v=>v
 |_=>0
def tokC (t:MT):List Value:=[.int .i64 (kBJ t),.string (bs (kEw t)),.int .u64 (tnum t)]
def tokK:Enc MT where
 f:=tokC
 sz:=3
 d:= .num 0
 len t:=rfl
 pos:=by decide
 one t v hv:=by simp[tokC] at hv;rcases hv with rfl|rfl|rfl<;>rfl
theorem kAI {l:Bs} {i:Nat} (h:i<l.length):l.drop i=l.getD i 0::l.drop (i+1):=by
 simp_all
theorem kEx (l:Bs) (i j:Nat):(l.drop i).getD j 0=l.getD (i+j) 0:=by grind
theorem kHP {l:Bs} {i:Nat} (h:i<l.length):(l.take (i+1)).drop i=[l.getD i 0]:=by
 grind [kAI]
theorem kHQ {l:Bs} {p:UInt8→Bool} {w r:Bs} (h:l=w++r) (c: ∀x∈w,p x=true) (b:r=[]∨p (r.getD 0 0)=false):l.takeWhile p=w∧l.dropWhile p=r:=by
 subst h
 induction w with
 |nil=>
  rcases b with rfl|b
  ·simp_all
  ·cases r with
   |nil=>simp_all
   |cons a r=>
    simp_all
 |cons a w d=>
  simp_all
theorem kSJ {l:Bs} {p:UInt8→Bool} {i e:Nat} (d:i≤e) (f:e≤l.length) (a: ∀k,i≤k→k<e→p (l.getD k 0)=true) (g:e=l.length∨p (l.getD e 0)=false):
 (l.drop i).takeWhile p=(l.take e).drop i∧(l.drop i).dropWhile p=l.drop e:=by
 refine kHQ ?_ (fun x b=>?_) ?_
 ·grind [List.take_append_drop]
 ·obtain⟨k,c,rfl⟩:=List.getElem_of_mem b;rw[qG,qF] at c;have:=a (i+k) (by omega) (by omega);rw[List.getElem_drop,List.getElem_take];rwa [List.getD,qJ (show i+k<l.length by omega)] at this
 grind
def Rd (l:Bs) (i:Nat) (ts:List MT):Prop:=tk l=(tk (l.drop i)).map (fun x=>ts++x)
theorem Rd.start (l:Bs):Rd l 0 []:=by unfold Rd;simp
theorem Rd.sp {l:Bs} {i:Nat} {ts:List MT} (h:Rd l i ts) (a:i<l.length) (b:spB (l.getD i 0)=true):Rd l (i+1) ts:=by
 grind [Rd,kAI,kQF]
theorem Rd.map {l:Bs} {i j:Nat} {ts:List MT} {t:MT} (h:Rd l i ts) (e:tk (l.drop i)=(tk (l.drop j)).map (fun x=>t::x)):Rd l j (ts++[t]):=by
 unfold Rd at *;rw[h,e,Option.map_map];congr 1;grind
theorem Rd.sym {l:Bs} {i:Nat} {ts:List MT} (h:Rd l i ts) (a:i<l.length) (h0:spB (l.getD i 0)=false) (b:symB (l.getD i 0)=true):Rd l (i+1) (ts++[.sym (l.getD i 0).toNat]):=
 h.map (by grind [kAI,kFo])
theorem Rd.arr {l:Bs} {i:Nat} {ts:List MT} (h:Rd l i ts) (b:2≤(l.drop i).length∧(l.drop i).take 2=[45,62]):Rd l (i+2) (ts++[.sym 62]):=by
 obtain⟨c,a⟩:=b;rw[qG] at c;rw[kAI (show i<l.length by omega),kAI (show i+1<l.length by omega)] at a;simp only[List.take_succ_cons,List.take_zero,List.cons.injEq] at a;refine h.map ?_;grind [kAI,kMs]
theorem kO7 {l:Bs} {i:Nat} (a:i<l.length) (b: ¬(2≤(l.drop i).length∧(l.drop i).take 2=[45,62])): ¬(l.getD i 0=45∧(l.drop (i+1)).getD 0 0=62):=by
 grind [kAI]
theorem Rd.word {l:Bs} {i e:Nat} {ts:List MT} (h:Rd l i ts) (b:i<l.length) (h0:spB (l.getD i 0)=false) (d:symB (l.getD i 0)=false) (f: ¬(2≤(l.drop i).length∧(l.drop i).take 2=[45,62]))
 (g:i≤e) (j:e≤l.length) (m: ∀k,i≤k→k<e→wrdB (l.getD k 0)=true) (n:e=l.length∨wrdB (l.getD e 0)=false):
 (kA7 ((l.take e).drop i)=none→tk l=none)∧ ∀t,kA7 ((l.take e).drop i)=some t→i<e∧Rd l e (ts++[t]):=by
 obtain⟨o,p⟩:=kSJ g j m n;have a:=kJG (c:=l.getD i 0) (r:=l.drop (i+1)) h0 d (kO7 b f);rw[←kAI b,o,p] at a;constructor
 ·grind [Rd]
 ·intro t q;rw[q] at a;refine⟨?_,h.map a⟩
  grind [kCH]
theorem Rd.fin {l:Bs} {ts:List MT} (h:Rd l l.length ts):tk l=some ts:=by
 grind [Rd,kMr]
theorem kEy (n:Nat):valD n []=n:=rfl
theorem kBK (n:Nat) (c:UInt8) (r:Bs):valD n (c::r)=valD (10* n+(c.toNat-48)) r:=by grind [valD]
theorem kJH (l:Bs): ∀n:Nat,n≤valD n l:=by
 induction l with
 |nil=>intro n;exact qU _
 |cons c r a=>
  grind [kBK]
theorem kIV (l:Bs): ∀n:Nat,(∀x∈l,digB x=true)→n<18446744073709551616→Lib.parseUintM 18446744073709551615 n l=if valD n l<18446744073709551616 then .ok (valD n l) else .range:=by
 induction l with
 |nil=>intro n _ a;rw[kEy,if_pos a];rfl
 |cons c r b=>
  intro n h a;have d:48≤c.toNat∧c.toNat≤57:=of_decide_eq_true (h c (List.mem_cons_self ..))
  grind [kJH,kBK,Lib.parseUintM]
theorem kIW {l:Bs} (h0:l≠[]) (h: ∀x∈l,digB x=true):Lib.parseUintB 64 l=if valD 0 l<18446744073709551616 then .ok (valD 0 l) else .range:=by
 grind [Lib.parseUintB,kIV]
theorem kAX (w:Bs):numW w=true↔w≠[]∧(w.length=1∨w.getD 0 0≠48)∧ ∀k,k<w.length→digB (w.getD k 0)=true:=by
 unfold numW;simp only[qg,Bool.not_eq_true',Bool.or_eq_true,qj,kBU (0:UInt8),List.isEmpty_eq_false_iff]
 grind
theorem kGZ {w:Bs} (h:isNm w=true):kA7 w=some (.nm w):=by grind [kA7]
theorem kHR {w:Bs} (h:isNm w=false) (a:numW w=false):kA7 w=none:=by grind [kA7]
theorem kHS {w:Bs} (h:isNm w=false) (a:numW w=true) (b:valD 0 w<18446744073709551616):kA7 w=some (.num (valD 0 w)):=by grind [kA7]
theorem kMt {w:Bs} (h:isNm w=false) (a: ¬valD 0 w<18446744073709551616):kA7 w=none:=by grind [kA7]
theorem kHT {w:Bs} (h: ∀k,k<w.length→digB (w.getD k 0)=true): ∀x∈w,digB x=true:=fun x b=>by
 obtain⟨k,a,rfl⟩:=List.getElem_of_mem b;have:=h k a;rwa [List.getD,qJ a] at this
def okN (n:Nat):Prop:=n=58∨n=59∨n=38∨n=61∨n=62
def tkOk:MT→Prop
 | .sym n=>okN n
 |_=>True
def okS:MT→Prop
 | .nm _=>True
 | .num _=>False
 | .sym n=>okN n
theorem kLN {a b:Nat} (c:okN a) (d:okN b) (h:symT a=symT b):a=b:=by
 rcases c with rfl|rfl|rfl|rfl|rfl<;>rcases d with rfl|rfl|rfl|rfl|rfl<;>first|rfl|exact absurd h (by decide)
theorem kQH {x m:MT} (c:tkOk x) (a:okS m) (d:kBJ x=kBJ m) (b:kEw x=kEw m):x=m:=by
 cases m with
 |num v=>exact a.elim
 |nm t=>
  cases x with
  |nm u=>exact congrArg MT.nm b
  |num v=>grind [kBJ]
  |sym n=>grind [kBJ]
 |sym n=>
  cases x with
  |nm u=>grind [kBJ]
  |num v=>grind [kBJ]
  |sym k=>exact congrArg MT.sym (kLN c a b)
abbrev td:MT:= .num 0
theorem kBD {ts:List MT} {i:Nat} (h:i<ts.length):ts.drop i=ts.getD i td::ts.drop (i+1):=by
 simp_all
theorem kQI {ts:List MT} {i:Nat} (h:i<ts.length):ts.getD i td∈ts:=by
 grind
theorem kD3 {ts:List MT} {i:Nat} (h:i=ts.length):ts.drop i=[]:=List.drop_of_length_le (by omega)
theorem kMu {ts:List MT} {i:Nat} (h:i=ts.length): ∀t r,ts.drop i≠ .nm t::r:=fun t r e=>by grind
theorem kQJ {ts:List MT} {i:Nat} (h:i<ts.length) (a:kBJ (ts.getD i td)≠1): ∀t r,ts.drop i≠ .nm t::r:=fun t r e=>by
 rw[kBD h] at e;injection e with b c;rw[b] at a;exact a rfl
theorem kQK {ts:List MT} {i:Nat} (h:i<ts.length) (a:kBJ (ts.getD i td)=1):ts.drop i= .nm (kEw (ts.getD i td))::ts.drop (i+1):=by
 rw[kBD h];cases e:ts.getD i td with
 |nm t=>rfl
 |num v=>grind [kBJ]
 |sym n=>grind [kBJ]
theorem kJI {ts:List MT} {i:Nat} (h:i=ts.length): ∀t r,ts.drop i≠ .num t::r:=fun t r e=>by grind
theorem kMv {ts:List MT} {i:Nat} (h:i<ts.length) (a:kBJ (ts.getD i td)≠2): ∀t r,ts.drop i≠ .num t::r:=fun t r e=>by
 rw[kBD h] at e;injection e with b c;rw[b] at a;exact a rfl
theorem kO8 {ts:List MT} {i:Nat} (h:i<ts.length) (a:kBJ (ts.getD i td)=2):ts.drop i= .num (tnum (ts.getD i td))::ts.drop (i+1):=by
 rw[kBD h];cases e:ts.getD i td with
 |num v=>rfl
 |nm t=>grind [kBJ]
 |sym n=>grind [kBJ]
theorem kGa {ts:List MT} {i:Nat} {m:MT} (h:i=ts.length): ∀r,ts.drop i≠m::r:=fun r e=>by grind
theorem kES {ts:List MT} {i:Nat} {m:MT} (h:i<ts.length) (a: ¬(kBJ (ts.getD i td)=kBJ m∧kEw (ts.getD i td)=kEw m)): ∀r,ts.drop i≠m::r:=fun r e=>by
 grind [kBD]
theorem kO9 {ts:List MT} {i:Nat} {m:MT} (h:i<ts.length) (a: ∀x∈ts,tkOk x) (b:okS m) (c:kBJ (ts.getD i td)=kBJ m) (d:kEw (ts.getD i td)=kEw m):ts.drop i=m::ts.drop (i+1):=by
 grind [kBD,kQH,kQI]
theorem kOA: ∀(n:Nat) (l:Bs) (ts:List MT),toks n l=some ts→ ∀x∈ts,tkOk x:=by
 intro n
 induction n with
 |zero=>intro l ts h;cases h
 |succ n i=>
  intro l ts h;cases l with
  |nil=>grind [toks]
  |cons c r=>
   rw[toks] at h;split at h
   ·grind
   ·split at h
    ·rename_i j f;obtain⟨a,e,rfl⟩:=Option.map_eq_some_iff.1 h;intro x b;rcases qe.1 b with rfl|b
     ·have g:c=58∨c=59∨c=38∨c=61:=of_decide_eq_true f;rcases g with rfl|rfl|rfl|rfl
      ·exact .inl rfl
      ·exact .inr (.inl rfl)
      ·exact .inr (.inr (.inl rfl))
      ·exact .inr (.inr (.inr (.inl rfl)))
     grind
    ·split at h
     ·obtain⟨a,e,rfl⟩:=Option.map_eq_some_iff.1 h;intro x b;rcases qe.1 b with rfl|b
      ·exact .inr (.inr (.inr (.inr rfl)))
      grind
     ·split at h
      ·cases h
      ·rename_i t d;obtain⟨a,e,rfl⟩:=Option.map_eq_some_iff.1 h;intro x b;rcases qe.1 b with rfl|b
       ·unfold kA7 at d;split at d
        ·cases d;trivial
        ·split at d
         ·cases d;trivial
         grind
       grind
theorem kQL {l:Bs} {ts:List MT} (h:tk l=some ts): ∀x∈ts,tkOk x:=kOA _ _ _ h
section
variable {ts:List MT} {i k n:Nat}
theorem kLO {a b:Int} (h0:ts.drop i= .nm kDn::ts.drop (i+1)) (c:ts.drop (i+1)= .num a::ts.drop (i+1+1)) (d:ts.drop (i+1+1)= .num b::ts.drop (i+1+1+1)):opM (ts.drop i)=some (⟨true,a,b⟩,ts.drop (i+1+1+1)):=by
 rw[h0,c,d];rfl
theorem kLP {a:Int} (h0:ts.drop i= .nm kDn::ts.drop (i+1)) (b:ts.drop (i+1)= .num a::ts.drop (i+1+1)) (c: ∀x r,ts.drop (i+1+1)≠ .num x::r):opM (ts.drop i)=none:=by
 simp_all[opM]
theorem kMw {k:Bs} (h0:ts.drop i= .nm k::ts.drop (i+1)) (a: ∀x r,ts.drop (i+1)≠ .num x::r):opM (ts.drop i)=none:=by
 simp_all[opM]
theorem kLQ {a:Int} (h0:ts.drop i= .nm kIU::ts.drop (i+1)) (b:ts.drop (i+1)= .num a::ts.drop (i+1+1)):opM (ts.drop i)=some (⟨false,a,0⟩,ts.drop (i+1+1)):=by
 rw[h0,b];simp only[opM];rw[if_neg (by decide),if_pos trivial]
theorem kSK (h0: ∀r,ts.drop i≠ .nm kDn::r) (a: ∀r,ts.drop i≠ .nm kIU::r):opM (ts.drop i)=none:=by
 generalize ts.drop i=l at h0 a;unfold opM
 grind
def onR (e:Bs) (g:Gd) (t:Bs) (o:List Ro):Tr×Bs:=(⟨0,e,g,o,0⟩,t)
def onT (e:Bs) (g:Gd):List MT→Option (Tr×Bs)
 | .sym 62:: .nm t::r=>(kCI r).map (onR e g t)
 |_=>none
theorem kSL (h: ∀t r,ts.drop i≠ .nm t::r):onM (ts.drop i)=none:=by
 simp_all[onM]
theorem kET (e:Bs) (l:List MT):onM (.nm e::l)=match gdM l with
 |some (g,r)=>onT e g r
 |none=>none:=by
 simp only[onM];cases gdM l with
 |none=>rfl
 |some x=>
  obtain⟨g,r⟩:=x;simp only[];rcases r with _|⟨x,r⟩
  ·rfl
  ·cases x with
   |nm _=>rfl
   |num _=>rfl
   |sym n=>
    by_cases a:n=62
    ·subst a;rcases r with _|⟨y,r⟩
     ·rfl
     ·cases y<;>rfl
    ·simp[onT,a]
theorem kSM {e:Bs} (h0:ts.drop i= .nm e::ts.drop (i+1)) (a: ∀r,ts.drop (i+1)≠ .nm sIf::r):onM (ts.drop i)=onT e gd0 (ts.drop (i+1)):=by
 rw[h0,kET];generalize ts.drop (i+1)=l at a;cases l with
 |nil=>rfl
 |cons x r=>
  cases x with
  |num v=>rfl
  |sym n=>rfl
  |nm k=>
   have b:k≠sIf:=fun e=>a r (by rw[e]);have:gdM (.nm k::r)=none:=by
    unfold gdM
    grind
   rw[this];rfl
theorem kSN {e:Bs} {a m v:Int} {r:List MT} (h0:ts.drop i= .nm e::ts.drop (i+1)) (b:ts.drop (i+1)= .nm sIf:: .num a:: .sym 38:: .num m:: .sym 61:: .num v::r):onM (ts.drop i)=onT e ⟨true,a,m,v⟩ r:=by
 grind [kET,gdM]
theorem kJJ {e:Bs} (h0:ts.drop i= .nm e::ts.drop (i+1)) (b:ts.drop (i+1)= .nm sIf::ts.drop (i+1+1)) (h: ∀a m v r,ts.drop (i+1+1)≠ .num a:: .sym 38:: .num m:: .sym 61:: .num v::r):onM (ts.drop i)=none:=by
 simp_all[kET,gdM]
theorem kOB {e:Bs} {g:Gd} (h: ∀r,ts.drop i≠ .sym 62::r):onT e g (ts.drop i)=none:=by
 simp_all[onT]
theorem kOC {e:Bs} {g:Gd} (h0:ts.drop i= .sym 62::ts.drop (i+1)) (h: ∀t r,ts.drop (i+1)≠ .nm t::r):onT e g (ts.drop i)=none:=by
 simp_all[onT]
theorem kJK {e t:Bs} {g:Gd} (h0:ts.drop i= .sym 62::ts.drop (i+1)) (h:ts.drop (i+1)= .nm t::ts.drop (i+1+1)):onT e g (ts.drop i)=(kCI (ts.drop (i+1+1))).map (onR e g t):=by
 rw[h0,h];rfl
theorem kOD (b:i≤ts.length) (h: ∀r,ts.drop i≠ .sym 58::r):kCI (ts.drop i)=if i=ts.length then some [] else none:=by
 by_cases a:i=ts.length
 ·rw[kD3 a,if_pos a];rfl
 ·rw[if_neg a,kBD (by omega)];rw[kBD (by omega)] at h;simp_all[kCI]
def LIv (R:Option (Tr×Bs)) (e:Bs) (g:Gd) (t:Bs) (ts:List MT) (acc:List Ro) (n:Nat) (b:Bool):Prop:=
 (b=true→ ∃f,(ts.drop n).length<f∧R=(opsM f (ts.drop n)).map (fun o=>onR e g t (acc++o)))∧(b=false→R=if n=ts.length then some (onR e g t acc) else none)
variable {R:Option (Tr×Bs)} {e t:Bs} {g:Gd} {acc:List Ro} {o:Ro}
theorem LIv.start (h:R=(kCI (ts.drop i)).map (onR e g t)) (h0:ts.drop i= .sym 58::ts.drop (i+1)):LIv R e g t ts [] (i+1) true:=
 ⟨fun _=>⟨_,Nat.lt_succ_self _,by rw[h,h0];rfl⟩,fun h=>by cases h⟩
theorem kAp (f:Nat) (l:List MT):opsM (f+1) l=match opM l with
 |none=>none
 |some (o,[])=>some [o]
 |some (o,.sym 59::r)=>(opsM f r).map (fun x=>o::x)
 |some _=>none:=rfl
theorem LIv.bad (h:LIv R e g t ts acc n true) (h0:opM (ts.drop n)=none):R=none:=by
 obtain⟨f,b,h⟩:=h.1 rfl;obtain⟨f,rfl⟩: ∃a,f=a+1:=⟨f-1,by omega⟩
 grind [kAp]
theorem LIv.more (h:LIv R e g t ts acc n true) (h0:opM (ts.drop n)=some (o,ts.drop k)) (c:n<k) (d:k<ts.length) (a:ts.drop k= .sym 59::ts.drop (k+1)):LIv R e g t ts (acc++[o]) (k+1) true:=by
 obtain⟨f,i,h⟩:=h.1 rfl;obtain⟨f,rfl⟩: ∃b,f=b+1:=⟨f-1,by omega⟩
 refine⟨fun _=>⟨f,?_,?_⟩,fun h=>by cases h⟩
 ·grind
 ·rw[h,kAp,h0,a];simp only[Option.map_map]
  congr 1
  grind
theorem LIv.last (h:LIv R e g t ts acc n true) (h0:opM (ts.drop n)=some (o,ts.drop k)) (b:k≤ts.length) (c: ∀r,ts.drop k≠ .sym 59::r):LIv R e g t ts (acc++[o]) k false:=by
 obtain⟨f,d,h⟩:=h.1 rfl;obtain⟨f,rfl⟩: ∃a,f=a+1:=⟨f-1,by omega⟩
 refine⟨fun h=>(by cases h),fun _=>?_⟩
 grind [kAp,kBD]
end
structure OZ where
 ls:List Ro
 A:Option Addr
 c:Nat
 n:Nat
end Go.Drv
namespace Go.Sv
theorem Hp.bigSnoc {I0:Ids} {w0 w:World} {L:List Assn} {β:Type} {F:β→Assn} {hs:List β} {k:Nat} {h':β} (h:Hp I0 w0 (L++[F h']) w) (f:L[k]?=some (Big F hs)):Hp I0 w0 (L.set k (Big F (hs++[h']))) w:=by
 have e:(L++[F h']).Perm ([F h',Big F hs]++L.eraseIdx k):=
  (qi _ _).trans (List.Perm.cons _ (kAN f))
 have g:=(h.perm e).bundle (A:=Big F (hs++[h'])) fun i j=>by
  obtain⟨a,b,l,m,n,c,d,o,s,p,q⟩:=j;have r:(F h'::hs.map F).Perm ((hs++[h']).map F):=by
   rw[qN];exact(qi _ _).symm
  refine Sep.perm r ⟨a,b,l,m,n,?_⟩;exact Sep.ext p fun x=>by rw[o x];exact⟨.inl,fun h=>h.elim id fun h=>absurd h (q x)⟩
 exact g.perm (kAt _ f)
end Go.Sv
namespace Go.Drv
open Go.Sv
def opA (h:TH):Assn:=OS 162 roK h.A h.c h.t.ops
structure PH where
 named:Bool
 name:Bs
 sA:Option Addr
 sc:Nat
 ss:List Bs
 tA:Option Addr
 tc:Nat
 hs:List TH
 gA:Option Addr
 gc:Nat
 tg:List Bs
def PH.ps (P:PH):PS:=⟨P.named,P.name,P.ss,P.hs.map (·.t),P.tg⟩
def ph0:PH:=⟨false,[],none,0,[],none,0,[],none,0,[]⟩
section
variable {ts:List MT} {p:PS} {kw n:Bs}
theorem kQM (h:ts.length=0):kAT p ts=some p:=by
 rw[qO h];rfl
theorem kOE (h0:ts.length≠0) (h: ∀t r,ts.drop 0≠ .nm t::r):kAT p ts=none:=by
 simp_all[kAT]
theorem kEE (h:ts.drop 0= .nm kw::ts.drop (0+1)):kAT p ts=if p.named=false then (match ts.drop (0+1) with
 |[.nm n]=>if kw=kBn then some {p with named:=true,name:=n} else none
 |_=>none)
 else if kw=kB0 then (match ts.drop (0+1) with
  |[.nm n]=>some {p with ss:=p.ss++[n]}
  |_=>none)
 else if kw=sOn∧p.ss≠[] then (onM (ts.drop (0+1))).map (fun x=>{p with ts:=p.ts++[{x.1 with frm:=(p.ss.length:Int)-1}],tg:=p.tg++[x.2]})
 else none:=by
 rw[List.drop_zero] at h;generalize ts.drop (0+1)=l at h;subst h;rfl
theorem kMx {α:Type} {f:Bs→Option α} (h:ts.drop (0+1)= .nm n::ts.drop (0+1+1)) (a:0+1+1=ts.length):(match ts.drop (0+1) with
 |[.nm n]=>f n
 |_=>none)=f n:=by
 grind
theorem kHU {α:Type} {f:Bs→Option α} (h:ts.drop (0+1)= .nm n::ts.drop (0+1+1)) (a:0+1<ts.length) (b: ¬0+1+1=ts.length):(match ts.drop (0+1) with
 |[.nm n]=>f n
 |_=>none)=none:=by
 grind [kBD]
theorem kMy {α:Type} {f:Bs→Option α} (h: ∀t r,ts.drop (0+1)≠ .nm t::r):(match ts.drop (0+1) with
 |[.nm n]=>f n
 |_=>none)=none:=by
 grind
theorem kJL (h:ts.drop 0= .nm kw::ts.drop (0+1)) (a:p.named=false) (b:ts.drop (0+1)= .nm n::ts.drop (0+1+1)) (c:kw=kBn) (d:0+1+1=ts.length):kAT p ts=some {p with named:=true,name:=n}:=by
 grind [kEE]
theorem kOF (h:ts.drop 0= .nm kw::ts.drop (0+1)) (a:p.named=false) (b:kw≠kBn):kAT p ts=none:=by
 grind [kEE]
theorem kOG (h:ts.drop 0= .nm kw::ts.drop (0+1)) (a:p.named=false) (b: ∀t r,ts.drop (0+1)≠ .nm t::r):kAT p ts=none:=by
 grind [kEE]
theorem kOH (h:ts.drop 0= .nm kw::ts.drop (0+1)) (a:p.named=false) (b:ts.drop (0+1)= .nm n::ts.drop (0+1+1)) (c:0+1<ts.length) (d: ¬0+1+1=ts.length):kAT p ts=none:=by
 grind [kEE]
theorem kMz (h:ts.drop 0= .nm kw::ts.drop (0+1)) (a:p.named=true) (b:kw=kB0) (c:ts.drop (0+1)= .nm n::ts.drop (0+1+1)) (d:0+1+1=ts.length):kAT p ts=some {p with ss:=p.ss++[n]}:=by
 grind [kEE]
theorem kQN (h:ts.drop 0= .nm kw::ts.drop (0+1)) (a:p.named=true) (b:kw=kB0) (c: ∀t r,ts.drop (0+1)≠ .nm t::r):kAT p ts=none:=by
 grind [kEE]
theorem kQO (h:ts.drop 0= .nm kw::ts.drop (0+1)) (a:p.named=true) (b:kw=kB0) (c:ts.drop (0+1)= .nm n::ts.drop (0+1+1)) (d:0+1<ts.length) (e: ¬0+1+1=ts.length):kAT p ts=none:=by
 grind [kEE]
theorem kN0 {x:Tr×Bs} (h:ts.drop 0= .nm kw::ts.drop (0+1)) (a:p.named=true) (hs:kw≠kB0) (b:kw=sOn) (c:p.ss≠[]) (d:onM (ts.drop (0+1))=some x):kAT p ts=some {p with ts:=p.ts++[{x.1 with frm:=(p.ss.length:Int)-1}],tg:=p.tg++[x.2]}:=by
 grind [kEE]
theorem kQP (h:ts.drop 0= .nm kw::ts.drop (0+1)) (a:p.named=true) (hs:kw≠kB0) (b:onM (ts.drop (0+1))=none):kAT p ts=none:=by
 grind [kEE]
theorem kQQ (h:ts.drop 0= .nm kw::ts.drop (0+1)) (a:p.named=true) (hs:kw≠kB0) (b: ¬(kw=sOn∧p.ss≠[])):kAT p ts=none:=by
 grind [kEE]
end
def ents (ss:List Bs) (j:Nat):List (Bs×Int):=(List.range j).map fun i=>(ss.getD i [],(i:Int))
theorem kJR (ss:List Bs) (j:Nat):ents ss (j+1)=ents ss j++[(ss.getD j [],(j:Int))]:=by
 grind [ents,List.range_succ]
theorem kAx {ν:Type} (f:Nat→Bs) (g:Nat→ν) (q:Bs): ∀l:List Nat,mget (l.map fun i=>(f i,g i)) q=(l.find? fun i=>decide (f i=q)).map g
 |[]=>rfl
 |a::l=>by
  rw[List.map_cons,mget,kAx f g q l,List.find?_cons]
  grind
theorem kJS (ss:List Bs) (q:Bs):mget (ents ss ss.length) q=(kBo ss q).map (fun(i:Nat)=>(i:Int)):=kAx (fun i=>ss.getD i []) (fun i=>(i:Int)) q (List.range ss.length)
theorem kLT {ss:List Bs} {j:Nat} (h: ∀i,i<j→ss.getD i []≠ss.getD j []):mget (ents ss j) (ss.getD j [])=none:=by
 unfold ents;rw[kAx]
 grind
theorem kFq {β:Type} {F:β→Assn} {hs a:List β} (h:hs.map F=a.map F):Big F hs=Big F a:=by
 grind [Big]
structure LkI (P:PH) (H:List TH) (j:Nat):Prop where
 len:H.length=P.hs.length
 own:H.map opA=P.hs.map opA
 eq:kB1 P.ss (P.hs.map (·.t)) P.tg=(kB1 P.ss ((H.drop j).map (·.t)) (P.tg.drop j)).map fun x=>(H.take j).map (·.t)++x
theorem LkI.start (P:PH):LkI P P.hs 0:=⟨rfl,rfl,by simp⟩
def kF4 (h:TH) (i:Int):TH:={h with t:={h.t with to:=i}}
theorem kEV {H:List TH} {j:Nat} (h:j<H.length):H.drop j=H.getD j thK.d::H.drop (j+1):=by
 simp_all
theorem kJT {l:List Bs} {j:Nat} (h:j<l.length):l.drop j=l.getD j strK.d::l.drop (j+1):=by
 simp_all
theorem LkI.bad {P:PH} {H:List TH} {j:Nat} (h:LkI P H j) (a:j<P.tg.length) (c:P.tg.length=P.hs.length) (b:kBo P.ss (P.tg.getD j strK.d)=none):kB1 P.ss (P.hs.map (·.t)) P.tg=none:=by
 rw[h.eq,kEV (by rw[h.len];omega),kJT a,List.map_cons,kB1,b];rfl
theorem LkI.next {P:PH} {H:List TH} {j i:Nat} (h:LkI P H j) (b:j<P.tg.length) (e:P.tg.length=P.hs.length) (c:kBo P.ss (P.tg.getD j strK.d)=some i):LkI P (H.set j (kF4 (H.getD j thK.d) i)) (j+1):=by
 have a:j<H.length:=by rw[h.len];omega
 refine⟨by rw[qI];exact h.len,?_,?_⟩
 ·rw[←h.own];apply List.ext_getElem?
  grind [kF4,opA]
 ·rw[h.eq,kEV a,kJT b,List.map_cons,kB1,c];simp only[Option.map_map];rw[List.drop_set_of_lt (by omega)]
  congr 1
  grind [kF4,List.take_add_one,List.take_set_of_le]
theorem LkI.fin {P:PH} {H:List TH} {j:Nat} (h:LkI P H j) (a:P.tg.length≤j) (b:P.tg.length=P.hs.length):kB1 P.ss (P.hs.map (·.t)) P.tg=some (H.map (·.t)):=by
 rw[h.eq,List.drop_of_length_le (by rw[h.len];omega),List.take_of_length_le (by rw[h.len];omega)];simp[kB1]
theorem kOM {p q:PS} {ts:List MT} (h:kAT p ts=some q) (a:p.ts.length=p.tg.length):q.ts.length=q.tg.length:=by
 unfold kAT at h
 grind [Option.map_eq_some_iff]
theorem kN4: ∀(ls:List Bs) {p q:PS},runM p ls=some q→p.ts.length=p.tg.length→q.ts.length=q.tg.length
 |[],p,q,h,a=>by cases h;exact a
 |l::ls,p,q,h,a=>by
  rw[runM] at h;obtain⟨y,b,c⟩:=Option.bind_eq_some_iff.1 h;unfold lnM at b;obtain⟨ts,_,d⟩:=Option.bind_eq_some_iff.1 b;exact kN4 ls c (kOM d a)
def dh0:DH:=⟨[],none,0,[],none,0,[]⟩
def dL (d:DH):List Assn:=[OS 9 strK d.sA d.sc d.ss,OS 150 thK d.tA d.tc d.hs,Big opA d.hs]
theorem Hp.dL0 {I:Ids} {w0 w:World} (h:Hp I w0 [] w):Hp I w0 (dL dh0) w:=by
 have a:=(h.nilOS (e:=9) (K:=strK)).nilOS (e:=150) (K:=thK);exact a.newBig (F:=opA) 0 thD fun w=>OS.emp w
theorem kD5 {s:Bs} (h:runM ps0 (kA4 s)=none):kAH s=(2,dv0):=by grind [kAH]
theorem kD6 {s:Bs} {p:PS} (h:runM ps0 (kA4 s)=some p):kAH s=finM p:=by grind [kAH]
theorem kN5 {p:PS} (h:p.named=false):finM p=(2,dv0):=by grind [finM]
theorem kJU {p:PS} (h:p.named=true) (a: ¬p.ss.Nodup):finM p=(7,dv0):=by grind [finM]
theorem kN6 {p:PS} (h:p.named=true) (a:p.ss.Nodup) (b:kB1 p.ss p.ts p.tg=none):finM p=(6,dv0):=by grind [finM]
theorem kN7 {p:PS} {ts:List Tr} (h:p.named=true) (a:p.ss.Nodup) (b:kB1 p.ss p.ts p.tg=some ts) (c:chkM ⟨p.name,p.ss,ts⟩≠0):finM p=(chkM ⟨p.name,p.ss,ts⟩,dv0):=by grind [finM]
theorem kJV {p:PS} {ts:List Tr} (h:p.named=true) (a:p.ss.Nodup) (b:kB1 p.ss p.ts p.tg=some ts) (c:chkM ⟨p.name,p.ss,ts⟩=0):finM p=(0,⟨p.name,p.ss,ts⟩):=by grind [finM]
structure IS where
 st:Int
 wt:Bool
 cd:Nat
abbrev trA (ts:List Tr) (i:Nat):Tr:=ts.getD i tr0
def mtch (ts:List Tr) (st:Int) (ev:Bs) (i:Nat):Bool:=decide ((trA ts i).frm=st∧(trA ts i).ev=ev)
def fndM (ts:List Tr) (st:Int) (ev:Bs) (k:Nat):Option Nat:=(List.range' k (ts.length-k)).find? (mtch ts st ev)
theorem kUs {ts:List Tr} {st:Int} {ev:Bs} {k:Nat} (h: ∀i,k≤i→i<ts.length→mtch ts st ev i=false):fndM ts st ev k=none:=by
 unfold fndM;rw[List.find?_eq_none];intro i a;obtain⟨b,c⟩:=List.mem_range'_1.1 a;rw[h i b (by omega)];decide
theorem kTy {ts:List Tr} {st:Int} {ev:Bs} {k j:Nat} (o:k≤j) (p:j<ts.length) (h: ∀i,k≤i→i<j→mtch ts st ev i=false) (f:mtch ts st ev j=true):fndM ts st ev k=some j:=by
 unfold fndM;have e:List.range' k (ts.length-k)=List.range' k (j-k)++j::List.range' (j+1) (ts.length-j-1):=by
  have d:=List.range'_append_1 (s:=k) (m:=j-k) (n:=ts.length-j);rw[show j-k+(ts.length-j)=ts.length-k by omega,show k+(j-k)=j by omega] at d;rw[←d]
  congr 1
  obtain⟨m,c⟩: ∃m,ts.length-j=m+1:=⟨ts.length-j-1,by omega⟩
  rw[c,List.range'_succ];rfl
 rw[e,List.find?_append];have g:(List.range' k (j-k)).find? (mtch ts st ev)=none:=by
  rw[List.find?_eq_none];intro i l;obtain⟨a,b⟩:=List.mem_range'_1.1 l;rw[h i a (by omega)];decide
 rw[g,List.find?_cons,f];rfl
def conM (ts:List Tr) (s:IS) (ev:Bs) (k:Nat):IS×List Ro×Bool:=match fndM ts s.st ev k with
 |none=>(s,[],false)
 |some i=>if (trA ts i).gd.used=false then ({s with st:=(trA ts i).to},(trA ts i).ops,false) else ({s with wt:=true,cd:=i},[⟨false,(trA ts i).gd.reg,0⟩],true)
def kGb (q:Nat) (d:DH) (s:IS):List Assn:=[Blk q (.cells #[.string (bs d.name),.slice d.sA d.ss.length d.sc,.slice d.tA d.hs.length d.tc,.int .i64 s.st,.bool s.wt,.int .i64 s.cd] 260 (0,0)),OS 9 strK d.sA d.sc d.ss,OS 150 thK d.tA d.tc d.hs,Big opA d.hs]
theorem kN8 (hs:List TH) (i:Nat):trA (hs.map (·.t)) i=(hs.getD i thK.d).t:=kCc hs i
theorem kQV {I:Ids} {w0 w:World} {L:List Assn} {k m:Nat} {H:List TH} (h:Hp I w0 L w) (a:L[k]?=some (Big opA H)) (e:m<H.length):RS w roK (H.getD m thK.d).A (H.getD m thK.d).t.ops:=
 h.bigOS thK.d a e (G:=fun b w=>RS w roK b.A b.t.ops) fun i b k=>OS.rs (show(OS 162 roK b.A b.c b.t.ops).sat w i from k)
theorem kTJ {hs:List TH} {s:IS} {ev:Bs} {k:Nat} (h: ∀i,k≤i→i<hs.length→ ¬((hs.getD i thK.d).t.frm=s.st∧(hs.getD i thK.d).t.ev=ev)):conM (hs.map (·.t)) s ev k=(s,[],false):=by
 unfold conM;rw[kUs fun i a b=>qQ (by rw[kN8];exact h i a (by simpa using b))]
theorem kTK {hs:List TH} {s:IS} {ev:Bs} {k j:Nat} (a:k≤j) (b:j<hs.length) (h: ∀i,k≤i→i<j→ ¬((hs.getD i thK.d).t.frm=s.st∧(hs.getD i thK.d).t.ev=ev)) (c:(hs.getD j thK.d).t.frm=s.st∧(hs.getD j thK.d).t.ev=ev) (e:(hs.getD j thK.d).t.gd.used=false):conM (hs.map (·.t)) s ev k=({s with st:=(hs.getD j thK.d).t.to},(hs.getD j thK.d).t.ops,false):=by
 unfold conM;rw[kTy a (by simpa using b) (fun i f g=>qQ (by rw[kN8];exact h i f g)) (qR (by rw[kN8];exact c))];simp only[kN8];rw[if_pos e]
theorem kTL {hs:List TH} {s:IS} {ev:Bs} {k j:Nat} (a:k≤j) (b:j<hs.length) (h: ∀i,k≤i→i<j→ ¬((hs.getD i thK.d).t.frm=s.st∧(hs.getD i thK.d).t.ev=ev)) (c:(hs.getD j thK.d).t.frm=s.st∧(hs.getD j thK.d).t.ev=ev) (e:(hs.getD j thK.d).t.gd.used=true):conM (hs.map (·.t)) s ev k=({s with wt:=true,cd:=j},[⟨false,(hs.getD j thK.d).t.gd.reg,0⟩],true):=by
 unfold conM;rw[kTy a (by simpa using b) (fun i f g=>qQ (by rw[kN8];exact h i f g)) (qR (by rw[kN8];exact c))];simp only[kN8];rw[if_neg (by rw[e];decide)]
def hdlM (ts:List Tr) (s:IS) (ev:Bs):(IS×List Ro×Bool)×Int:=if s.wt=true then ((s,[],false),9) else (conM ts s ev 0,0)
def andU (a b:Int):Int:=IntKind.u64.wrap ((BitVec.ofInt IntKind.u64.bits a&&&BitVec.ofInt IntKind.u64.bits b).toNat)
def rplM (ts:List Tr) (s:IS) (v:Int):(IS×List Ro×Bool)×Int:=if s.wt=false then ((s,[],false),9)
 else if andU v (trA ts s.cd).gd.mask=(trA ts s.cd).gd.val then ((⟨(trA ts s.cd).to,false,0⟩,(trA ts s.cd).ops,false),0)
 else (conM ts ⟨s.st,false,0⟩ (trA ts s.cd).ev (s.cd+1),0)
def dec (v:Int):Bs:=Lib.decDigits v.toNat
theorem kCf {n:Nat} (h:n<256):(UInt8.ofNat n).toNat=n:=by simp_all
theorem kND {d:Nat} (h:d<10):digB (UInt8.ofNat (48+d))=true:=qR (by grind [kCf])
theorem kFB (u:Nat): ∀x∈Lib.decDigits u,digB x=true:=by
 induction u using Nat.strongRecOn with
 |_ u a=>
  grind [Lib.decDigits,kND]
theorem kHi (u:Nat):Lib.decDigits u≠[]:=by
 rw[Lib.decDigits];split<;>simp
theorem kFC (n:Nat) (a b:Bs):valD n (a++b)=valD (valD n a) b:=by simp[valD]
theorem kOk (u:Nat):valD 0 (Lib.decDigits u)=u:=by
 induction u using Nat.strongRecOn with
 |_ u a=>
  grind [Lib.decDigits,kBK,kEy,kCf,kFC]
theorem kJz (u:Nat) (h:0<u):(Lib.decDigits u).getD 0 0≠48:=by
 induction u using Nat.strongRecOn with
 |_ u a=>
  rw[Lib.decDigits];split
  ·rename_i b;intro k;have c:=congrArg UInt8.toNat k
   grind [kCf]
  grind [Lib.decDigits]
theorem kLe (u:Nat):isNm (Lib.decDigits u)=false:=by
 grind [kBm,kFB,Lib.decDigits]
theorem kLf (u:Nat):numW (Lib.decDigits u)=true:=by
 grind [kAX,kJz,Lib.decDigits,kFB]
theorem kQp {v:Int} (h0:0≤v) (a:v<18446744073709551616):kA7 (dec v)=some (.num v):=by
 grind [dec,kOk,kHS,kLe,kLf]
def ttx:MT→Bs
 | .nm t=>t
 | .num v=>dec v
 | .sym c=>symT c
def reps (sp:Bs):Nat→Bs
 |0=>[]
 |n+1=>sp++reps sp n
def ren (sp:Bs):List (Nat×MT)→Bs
 |[]=>[]
 |(n,t)::r=>reps sp n++(ttx t++ren sp r)
theorem kDv (sp:Bs) (a b:List (Nat×MT)):ren sp (a++b)=ren sp a++ren sp b:=by
 induction a with
 |nil=>rfl
 |cons x a c=>grind [ren]
def tOk:MT→Prop
 | .nm t=>isNm t=true
 | .num v=>0≤v∧v<18446744073709551616
 | .sym c=>okN c
def gapW:List (Nat×MT)→Prop
 |[]=>True
 |(_+1,_)::_=>True
 |(0,.sym _)::_=>True
 |(0,_)::_=>False
def gap:MT→List (Nat×MT)→Prop
 | .sym _,_=>True
 |_,r=>gapW r
def kBa:List (Nat×MT)→Prop
 |[]=>True
 |(n,t)::r=>tOk t∧gap t r∧kBa r
theorem kCg {a b:List (Nat×MT)} (d:kBa a) (g:kBa b) (e:gapW b):kBa (a++b):=by
 induction a with
 |nil=>exact g
 |cons x a h=>
  obtain⟨n,t⟩:=x;refine⟨d.1,?_,h d.2.2⟩;have f:=d.2.1;cases t with
  |sym c=>exact trivial
  |nm w=>
   cases a with
   |nil=>exact e
   |cons y a=>obtain⟨m,s⟩:=y;cases m<;>cases s<;>exact f
  |num w=>
   cases a with
   |nil=>exact e
   |cons y a=>obtain⟨m,s⟩:=y;cases m<;>cases s<;>exact f
def kK0 (l:Bs):Prop:=l=[]∨wrdB (l.getD 0 0)=false
theorem kNE {c:UInt8} (h:spB c=true):wrdB c=false:=by
 rcases of_decide_eq_true h with rfl|rfl<;>rfl
theorem kOl {sp r:Bs} (h: ∀x∈sp,spB x=true) (h0:sp≠[]):kK0 (sp++r):=by
 cases sp with
 |nil=>grind
 |cons a s=>exact .inr (kNE (h a (List.mem_cons_self ..)))
theorem kGm {sp:Bs} (h: ∀x∈sp,spB x=true): ∀n,∀x∈reps sp n,spB x=true
 |0,x,a=>by cases a
 |n+1,x,a=>by
  rcases List.mem_append.1 a with a|a
  ·grind
  ·exact kGm h n x a
theorem kQq {s r:Bs} (h: ∀x∈s,spB x=true):tk (s++r)=tk r:=by
 induction s with
 |nil=>rfl
 |cons a s b=>grind [kQF]
theorem kHj {sp a:Bs} (hs: ∀x∈sp,spB x=true) (h0:sp≠[]) (d:kK0 a) {l:List (Nat×MT)} (e:kBa l) (b:gapW l):kK0 (ren sp l++a):=by
 cases l with
 |nil=>exact d
 |cons x l=>
  obtain⟨n,t⟩:=x;cases n with
  |succ n=>grind [ren,reps,kOl]
  |zero=>
   cases t with
   |nm w=>exact b.elim
   |num w=>exact b.elim
   |sym c=>
    rcases e.1 with rfl|rfl|rfl|rfl|rfl<;>exact .inr rfl
theorem kHk {w rest:Bs} (h0:w≠[]) (a: ∀x∈w,wrdB x=true) (f:kK0 rest) {t:MT} (g:kA7 w=some t):tk (w++rest)=(tk rest).map (fun x=>t::x):=by
 obtain⟨b,d⟩:=kHQ rfl a f;cases h:w with
 |nil=>grind
 |cons c r=>
  rw[h] at a b d g;have e:=a c (List.mem_cons_self ..);have j:spB c=false:=by
   grind [kNE]
  have l:symB c=false:=by
   cases i:symB c with
   |false=>rfl
   |true=>rcases of_decide_eq_true i with rfl|rfl|rfl|rfl<;>exact absurd e (by decide)
  have m: ¬(c=45∧(r++rest).getD 0 0=62):=fun k=>by rw[k.1] at e;exact absurd e (by decide)
  grind [kJG]
theorem kNF {w:Bs} (h:isNm w=true):w≠[]∧ ∀x∈w,wrdB x=true:=by
 grind [kBV,List.getElem_of_mem]
theorem kK1 {c:UInt8} (h:digB c=true):wrdB c=true:=by grind [wrdB]
theorem kNG {sp a:Bs} (hs: ∀x∈sp,spB x=true) (h0:sp≠[]) (e:kK0 a): ∀ {l:List (Nat×MT)},kBa l→tk (ren sp l++a)=(tk a).map (fun x=>l.map (·.2)++x)
 |[],_=>by simp[ren]
 |(n,t)::r,hg=>by
  have d:=kNG hs h0 e hg.2.2;have b: ∀y:Option (List MT),(y.map (fun x=>r.map (·.2)++x)).map (fun x=>t::x)=y.map (fun x=>((n,t)::r).map (·.2)++x):=fun y=>by cases y<;>rfl
  simp only[ren,qL];rw[kQq (kGm hs n)];cases t with
  |nm w=>
   obtain⟨f,g⟩:=kNF hg.1;show tk (w++(ren sp r++a))=_;rw[kHk f g (kHj hs h0 e hg.2.2 hg.2.1) (kGZ hg.1),d,b]
  |num v=>
   show tk (dec v++(ren sp r++a))=_;rw[kHk (w:=dec v) (kHi _) (fun x h=>kK1 (kFB _ x h)) (kHj hs h0 e hg.2.2 hg.2.1) (kQp hg.1.1 hg.1.2),d,b]
  |sym c=>
   show tk (symT c++(ren sp r++a))=_;rcases hg.1 with rfl|rfl|rfl|rfl|rfl
   ·show tk (58::(ren sp r++a))=_;rw[kFo rfl rfl,d];grind
   ·show tk (59::(ren sp r++a))=_;rw[kFo rfl rfl,d];grind
   ·show tk (38::(ren sp r++a))=_;rw[kFo rfl rfl,d];grind
   ·show tk (61::(ren sp r++a))=_;rw[kFo rfl rfl,d];grind
   ·show tk (45::62::(ren sp r++a))=_
    grind [kMs]
theorem kNH {c:UInt8} (h:wrdB c=true):c≠35∧c≠10∧c≠32:=by
 refine⟨?_,?_,?_⟩<;>(rintro rfl;exact absurd h (by decide))
theorem kQr {t:MT} (h:tOk t): ∀x∈ttx t,x≠35∧x≠10∧x≠32:=by
 intro x a;cases t with
 |nm w=>exact kNH ((kNF h).2 x a)
 |num v=>exact kNH (kK1 (kFB _ x a))
 |sym c=>
  rcases h with rfl|rfl|rfl|rfl|rfl<;>(revert x;show ∀x∈symT _,_;decide)
theorem kK2 {sp:Bs} (hs: ∀x∈sp,spB x=true): ∀ {l:List (Nat×MT)},kBa l→ ∀x∈ren sp l,x≠35∧x≠10
 |[],_,x,a=>by cases a
 |(n,t)::r,hg,x,a=>by
  rcases List.mem_append.1 a with a|a
  ·rcases of_decide_eq_true (kGm hs n x a) with rfl|rfl<;>decide
  ·rcases List.mem_append.1 a with a|a
   ·have:=kQr hg.1 x a;grind
   ·exact kK2 hs hg.2.2 x a
theorem kLg {a b:Bs} (h: ∀x∈a,x≠35):cutH (a++b)=a++cutH b:=by
 grind [cutH,List.takeWhile_append_of_pos]
theorem kOm {a:Bs} (h: ∀x∈a,x≠35):cutH a=a:=by
 have:=kLg (b:=[]) h;simp_all[cutH]
theorem kQs {sp:Bs} (hs: ∀x∈sp,spB x=true) (h0:sp≠[]) {l:List (Nat×MT)} (a:kBa l) (p:PS):lnM p (ren sp l)=kAT p (l.map (·.2)):=by
 unfold lnM;rw[kOm fun x b=>(kK2 hs a x b).1];have:=kNG hs h0 (.inl rfl) a;grind [kMr]
def drL (d:Dv):List (Nat×MT):=[(0,.nm kBn),(1,.nm d.name)]
def stL (s:Bs):List (Nat×MT):=[(0,.nm kB0),(1,.nm s)]
def gdL (g:Gd):List (Nat×MT):=if g.used=true then [(1,.nm sIf),(1,.num g.reg),(1,.sym 38),(1,.num g.mask),(1,.sym 61),(1,.num g.val)] else []
def roL (o:Ro):List (Nat×MT):=if o.wr=true then [(1,.nm kDn),(1,.num o.reg),(1,.num o.val)] else [(1,.nm kIU),(1,.num o.reg)]
def opsL:List Ro→List (Nat×MT)
 |[]=>[]
 |o::r=>(0,.sym 58)::roL o++r.flatMap (fun o=>(0,.sym 59)::roL o)
def tgt (ss:List Bs) (t:Tr):Bs:=ss.getD t.to.toNat []
def trL (ss:List Bs) (t:Tr):List (Nat×MT):=[(2,.nm sOn),(1,.nm t.ev)]++(gdL t.gd++([(1,.sym 62),(1,.nm (tgt ss t))]++opsL t.ops))
def ofS (d:Dv) (i:Nat):List Tr:=d.ts.filter (fun t=>decide (t.frm=(i:Int)))
def blkL (d:Dv) (i:Nat):List (List (Nat×MT)):=stL (d.ss.getD i [])::(ofS d i).map (trL d.ss)
def kK3 (d:Dv):List (List (Nat×MT)):=drL d::(List.range d.ss.length).flatMap (blkL d)
def unl (ls:List Bs):Bs:=ls.flatMap (fun l=>l++[10])
def fmtM (d:Dv):Bs:=unl ((kK3 d).map (ren [32]))
def u64 (v:Int):Prop:=0≤v∧v<18446744073709551616
def rgO (o:Ro):Prop:=u64 o.reg∧u64 o.val
def rgG (g:Gd):Prop:=u64 g.reg∧u64 g.mask∧u64 g.val
def rgT (t:Tr):Prop:=rgG t.gd∧ ∀o∈t.ops,rgO o
def rgD (d:Dv):Prop:= ∀t∈d.ts,rgT t
theorem kK4 {o:Ro} (h:rgO o):kBa (roL o)∧gapW (roL o):=by
 unfold roL;split
 ·exact⟨⟨rfl,trivial,h.1,trivial,h.2,trivial,trivial⟩,trivial⟩
 ·exact⟨⟨rfl,trivial,h.1,trivial,trivial⟩,trivial⟩
theorem kFx: ∀ {l:List Ro},(∀o∈l,rgO o)→kBa (l.flatMap (fun o=>(0,MT.sym 59)::roL o))∧gapW (l.flatMap (fun o=>(0,MT.sym 59)::roL o))
 |[],_=>⟨trivial,trivial⟩
 |o::r,h=>by
  have a:=kFx fun x b=>h x (List.mem_cons_of_mem _ b);have c:=kK4 (h o (List.mem_cons_self ..));rw[List.flatMap_cons];exact⟨⟨.inr (.inl rfl),trivial,kCg c.1 a.1 a.2⟩,trivial⟩
theorem kHl {l:List Ro} (h: ∀o∈l,rgO o):kBa (opsL l)∧gapW (opsL l):=by
 cases l with
 |nil=>exact⟨trivial,trivial⟩
 |cons o r=>
  have a:=kFx fun x b=>h x (List.mem_cons_of_mem _ b);have c:=kK4 (h o (List.mem_cons_self ..));exact⟨⟨.inl rfl,trivial,kCg c.1 a.1 a.2⟩,trivial⟩
theorem kOn {g:Gd} (h:rgG g):kBa (gdL g):=by
 unfold gdL;split
 ·exact⟨rfl,trivial,h.1,trivial,.inr (.inr (.inl rfl)),trivial,h.2.1,trivial,.inr (.inr (.inr (.inl rfl))),trivial,h.2.2,trivial,trivial⟩
 ·exact trivial
theorem kOo {ss:List Bs} {t:Tr} (b:isNm t.ev=true) (c:isNm (tgt ss t)=true) (a:rgT t):kBa (trL ss t):=by
 have d:kBa ([(1,.sym 62),(1,.nm (tgt ss t))]++opsL t.ops):=by
  refine kCg ⟨.inr (.inr (.inr (.inr rfl))),trivial,c,trivial,trivial⟩ (kHl a.2).1 (kHl a.2).2
 have e:=kCg (kOn a.1) d trivial;have f:gapW (gdL t.gd++([(1,.sym 62),(1,.nm (tgt ss t))]++opsL t.ops)):=by
  unfold gdL;split<;>exact trivial
 exact⟨rfl,trivial,b,by exact f,e⟩
theorem kOp {d:Dv} (h:isNm d.name=true):kBa (drL d):=⟨rfl,trivial,h,trivial,trivial⟩
theorem kOq {s:Bs} (h:isNm s=true):kBa (stL s):=⟨rfl,trivial,h,trivial,trivial⟩
def sn:List (Nat×MT)→List MT:=fun l=>l.map (·.2)
theorem kFy (a b:List (Nat×MT)):sn (a++b)=sn a++sn b:=qN
theorem kQt {o:Ro} (h:roOk o=true) (r:List MT):opM (sn (roL o)++r)=some (o,r):=by
 obtain⟨wr,reg,val⟩:=o;cases wr with
 |true=>rfl
 |false=>
  obtain rfl:val=0:=by grind [roOk]
  rfl
theorem kHm: ∀(l:List Ro) (o:Ro) (n:Nat),l.length<n→(∀x∈o::l,roOk x=true)→opsM n (sn (roL o)++sn (l.flatMap (fun o=>(0,MT.sym 59)::roL o)))=some (o::l)
 |[],o,n+1,_,h=>by
  rw[kAp,kQt (h o (List.mem_cons_self ..))];rfl
 |p::l,o,n+1,hn,h=>by
  have b:=kHm l p n (by grind) fun x a=>h x (List.mem_cons_of_mem _ a)
  grind [kQt,opsM,sn]
theorem kLh (l:List Ro):l.length≤(sn (l.flatMap (fun o=>(0,MT.sym 59)::roL o))).length:=by
 induction l with
 |nil=>grind
 |cons o l a=>
  grind [sn]
theorem kLi {l:List Ro} (h: ∀x∈l,roOk x=true):kCI (sn (opsL l))=some l:=by
 cases l with
 |nil=>rfl
 |cons o l=>
  have e:sn (opsL (o::l))= .sym 58::(sn (roL o)++sn (l.flatMap (fun o=>(0,MT.sym 59)::roL o))):=by
   show sn ((0,.sym 58)::roL o++_)=_;rw[kFy];rfl
  rw[e];show opsM (_+1) _=_
  grind [kHm,kLh]
theorem kOr {g:Gd} (h:gdOk g=true) (r:List MT):gdM (sn (gdL g)++ .sym 62::r)=some (g,.sym 62::r):=by
 obtain⟨used,reg,mask,val⟩:=g;cases used with
 |true=>rfl
 |false=>
  obtain⟨rfl,rfl,rfl⟩:reg=0∧mask=0∧val=0:=by grind [gdOk]
  rfl
theorem kSY {ss:List Bs} {t:Tr} (a:gdOk t.gd=true) (b: ∀x∈t.ops,roOk x=true):onM (sn (trL ss t)).tail=some (⟨0,t.ev,t.gd,t.ops,0⟩,tgt ss t):=by
 have e:(sn (trL ss t)).tail= .nm t.ev::(sn (gdL t.gd)++ .sym 62::(.nm (tgt ss t)::sn (opsL t.ops))):=by
  show MT.nm t.ev::sn (gdL t.gd++([(1,.sym 62),(1,.nm (tgt ss t))]++opsL t.ops))=_;rw[kFy,kFy];rfl
 rw[e,kET,kOr a];show(kCI (sn (opsL t.ops))).map _=_;rw[kLi b];rfl
theorem kOs {p:PS} {ss:List Bs} {t:Tr} (d:p.named=true) (hs:p.ss≠[]) (a:gdOk t.gd=true) (b: ∀x∈t.ops,roOk x=true):
 kAT p (sn (trL ss t))=some {p with ts:=p.ts++[⟨(p.ss.length:Int)-1,t.ev,t.gd,t.ops,0⟩],tg:=p.tg++[tgt ss t]}:=by
 have e:sn (trL ss t)= .nm sOn::(sn (trL ss t)).tail:=rfl;have c:=kSY (ss:=ss) a b;rw[e];show(if p.named=false then _ else if sOn=kB0 then _ else if sOn=sOn∧p.ss≠[] then (onM (sn (trL ss t)).tail).map _ else none)=_;rw[if_neg (by grind),if_neg (by decide),if_pos ⟨rfl,hs⟩,c];rfl
theorem kOt {p:PS} {s:Bs} (a:p.named=true):kAT p (sn (stL s))=some {p with ss:=p.ss++[s]}:=by
 show(if p.named=false then _ else if kB0=kB0 then some {p with ss:=p.ss++[s]} else _)=_
 grind
theorem kOu (d:Dv):kAT ps0 (sn (drL d))=some {ps0 with named:=true,name:=d.name}:=rfl
def runT (p:PS):List (List (Nat×MT))→Option PS
 |[]=>some p
 |l::r=>(kAT p (sn l)).bind fun q=>runT q r
theorem kLj (p:PS): ∀(a b:List (List (Nat×MT))),runT p (a++b)=(runT p a).bind fun q=>runT q b:=by
 intro a
 induction a generalizing p with
 |nil=>intro b;rfl
 |cons l r c=>
  intro b;rw[qM,runT,runT];cases kAT p (sn l) with
  |none=>rfl
  |some q=>grind
def zT (t:Tr):Tr:={t with to:=0}
theorem kK5 {ss:List Bs}: ∀(l:List Tr) (p:PS),p.named=true→p.ss≠[]→(∀t∈l,t.frm=(p.ss.length:Int)-1∧gdOk t.gd=true∧ ∀x∈t.ops,roOk x=true)→
 runT p (l.map (trL ss))=some {p with ts:=p.ts++l.map zT,tg:=p.tg++l.map (tgt ss)}
 |[],p,_,_,_=>by simp[runT]
 |t::l,p,a,hs,h=>by
  obtain⟨b,c,d⟩:=h t (List.mem_cons_self ..);rw[List.map_cons,runT,kOs a hs c d];have e:(⟨(p.ss.length:Int)-1,t.ev,t.gd,t.ops,0⟩:Tr)=zT t:=by rw[←b];rfl
  have g:=kK5 (ss:=ss) l {p with ts:=p.ts++[⟨(p.ss.length:Int)-1,t.ev,t.gd,t.ops,0⟩],tg:=p.tg++[tgt ss t]} a hs (fun x f=>h x (List.mem_cons_of_mem _ f))
  grind
def upTo (d:Dv) (i:Nat):List Tr:=(List.range i).flatMap (ofS d)
theorem kCh (d:Dv) (i:Nat):upTo d (i+1)=upTo d i++ofS d i:=by
 grind [upTo,List.range_succ]
structure OkD (d:Dv):Prop where
 name:isNm d.name=true
 pos:0<d.ss.length
 few:d.ss.length≤32
 fewT:d.ts.length≤128
 nms: ∀k,k<d.ss.length→isNm (d.ss.getD k [])=true
 tr: ∀t∈d.ts,okT d.ss.length t=true
 asc:d.ts.Pairwise (fun a b=>a.frm≤b.frm)
 nd:d.ss.Nodup
theorem kGn {d:Dv} (h:chkM d=0):OkD d:=by
 have c:chkA d=true:=by
  grind [kAe]
 have e:d.ss.Nodup:=by
  grind [kGY]
 obtain⟨f,a,g,q,k⟩:=(kEu d).1 c;have r: ∀i (b:i<d.ts.length),d.ts.getD i tr0=d.ts[i]:=fun i b=>by grind
 refine⟨f,a.1,a.2.1,a.2.2,g,fun t s=>?_,?_,e⟩
 ·grind [List.getElem_of_mem]
 ·rw[List.pairwise_iff_getElem];intro i j b u l;have: ∀n,i+n<d.ts.length→(d.ts.getD i tr0).frm≤(d.ts.getD (i+n) tr0).frm:=by
   intro n
   induction n with
   |zero=>grind
   |succ n m=>
    intro o;have v:=m (by omega);rcases k (i+(n+1)) o with p|p
    ·omega
    grind
  have w:=this (j-i) (by omega)
  grind
theorem kEH {d:Dv} (h:OkD d) {t:Tr} (a:t∈d.ts):0≤t.frm∧t.frm<d.ss.length∧0≤t.to∧t.to<d.ss.length∧isNm t.ev=true∧gdOk t.gd=true∧t.ops.length≤16∧ ∀x∈t.ops,roOk x=true:=by
 obtain⟨b,c,e,f,g,i⟩:=(kAD _ _).1 (h.tr t a)
 grind [List.getElem_of_mem]
theorem kK6 {d:Dv} (h:OkD d) {t:Tr} (a:t∈d.ts):isNm (tgt d.ss t)=true:=by
 obtain⟨_,_,b,c,_⟩:=kEH h a;exact h.nms _ (by omega)
theorem kIa {l:List Bs} {j:Nat} (h:j<l.length):l.take (j+1)=l.take j++[l.getD j []]:=by
 simp_all
theorem kHn {d:Dv} (h:OkD d): ∀i,i≤d.ss.length→runT {ps0 with named:=true,name:=d.name} ((List.range i).flatMap (blkL d))=some ⟨true,d.name,d.ss.take i,(upTo d i).map zT,(upTo d i).map (tgt d.ss)⟩
 |0,_=>rfl
 |i+1,hi=>by
  have c:=kHn h i (by omega);rw[List.range_succ,List.flatMap_append,kLj,c,Option.bind_some];have e:[i].flatMap (blkL d)=stL (d.ss.getD i [])::(ofS d i).map (trL d.ss):=by simp[blkL]
  rw[e,runT,kOt rfl,Option.bind_some];have b:((d.ss.take i)++[d.ss.getD i []]).length=i+1:=by grind
  rw[kK5 (ofS d i) ⟨true,d.name,d.ss.take i++[d.ss.getD i []],(upTo d i).map zT,(upTo d i).map (tgt d.ss)⟩ rfl (by simp) (fun t f=>?_)]
  ·grind [kCh,kIa]
  ·have a:=List.mem_filter.1 f;obtain⟨_,_,_,_,_,g,_,j⟩:=kEH h a.1
   grind
theorem kFz: ∀ {l:List Tr} (n:Int),l.Pairwise (fun a b=>a.frm≤b.frm)→l.filter (fun t=>decide (t.frm<n+1))=l.filter (fun t=>decide (t.frm<n))++l.filter (fun t=>decide (t.frm=n))
 |[],_,_=>rfl
 |a::l,n,h=>by
  obtain⟨e,c⟩:=List.pairwise_cons.1 h;have d:=kFz n c;by_cases f:a.frm<n
  ·rw[List.filter_cons_of_pos (by grind),List.filter_cons_of_pos (by grind),List.filter_cons_of_neg (by grind),d];rfl
  ·have g:l.filter (fun t=>decide (t.frm<n))=[]:=List.filter_eq_nil_iff.2 fun x i=>by grind
   grind
theorem kDw {d:Dv} (h:OkD d): ∀i:Nat,upTo d i=d.ts.filter (fun t=>decide (t.frm<(i:Int)))
 |0=>by
  refine(List.filter_eq_nil_iff.2 fun x a=>?_).symm;have:=(kEH h a).1
  grind
 |i+1=>by
  rw[kCh,kDw h i,Int.natCast_succ,kFz _ h.asc];rfl
theorem kLk {d:Dv} (h:OkD d):upTo d d.ss.length=d.ts:=by
 simp_all[kDw,kEH]
theorem kOv {d:Dv} (h:OkD d) {t:Tr} (a:t∈d.ts):kBo d.ss (tgt d.ss t)=some t.to.toNat:=by
 obtain⟨_,_,c,e,_⟩:=kEH h a;unfold kBo;rw[List.find?_range_eq_some];refine⟨qR rfl,List.mem_range.2 (by omega),fun j b=>?_⟩;have:=kAy.1 h.nd j t.to.toNat b (by omega);simp only[Bool.not_eq_true',decide_eq_false_iff_not];exact this
theorem kHo {d:Dv} (h:OkD d): ∀ {l:List Tr},(∀t∈l,t∈d.ts)→kB1 d.ss (l.map zT) (l.map (tgt d.ss))=some l
 |[],_=>rfl
 |t::l,a=>by
  have b:=a t (List.mem_cons_self ..);rw[List.map_cons,List.map_cons,kB1,kOv h b];show(kB1 d.ss (l.map zT) (l.map (tgt d.ss))).map _=_;rw[kHo h fun x c=>a x (List.mem_cons_of_mem _ c)];have e:({zT t with to:=((t.to.toNat:Nat):Int)}:Tr)=t:=by
   have f:((t.to.toNat:Nat):Int)=t.to:=by have:=(kEH h b).2.2.1;omega
   rw[f];rfl
  grind
theorem kOw {d:Dv} (h:OkD d):runT ps0 (kK3 d)=some ⟨true,d.name,d.ss,d.ts.map zT,d.ts.map (tgt d.ss)⟩:=by
 grind [kK3,runT,kOu,kHn,kLk]
theorem kOx {d:Dv} (h:chkM d=0):finM ⟨true,d.name,d.ss,d.ts.map zT,d.ts.map (tgt d.ss)⟩=(0,d):=kJV rfl (kGn h).nd (kHo (kGn h) fun _ a=>a) h
theorem kG0: ∀ {ls:List Bs},(∀l∈ls,∀c∈l,c≠10)→kA4 (unl ls)=ls++[[]]
 |[],_=>rfl
 |l::ls,h=>by
  have b:=kG0 fun x a=>h x (List.mem_cons_of_mem _ a)
  grind [unl,kAz]
theorem kQu {d:Dv} (h:OkD d) (e:rgD d): ∀l∈kK3 d,kBa l:=by
 intro l a;rcases qe.1 a with rfl|a
 ·exact kOp h.name
 ·obtain⟨i,c,a⟩:=List.mem_flatMap.1 a;have c:=List.mem_range.1 c;rcases qe.1 a with rfl|a
  ·exact kOq (h.nms i c)
  ·obtain⟨t,b,rfl⟩:=List.mem_map.1 a;have b:=(List.mem_filter.1 b).1;exact kOo (kEH h b).2.2.2.2.1 (kK6 h b) (e t b)
theorem kK7 {sp:Bs} (hs: ∀x∈sp,spB x=true) (h0:sp≠[]): ∀ {ls:List (List (Nat×MT))} (p:PS),(∀l∈ls,kBa l)→runM p (ls.map (ren sp))=runT p ls
 |[],p,_=>rfl
 |l::ls,p,h=>by
  rw[List.map_cons,runM,runT,kQs hs h0 (h l (List.mem_cons_self ..))];show(kAT p (sn l)).bind _=_;cases kAT p (sn l) with
  |none=>rfl
  |some q=>exact kK7 hs h0 q fun x a=>h x (List.mem_cons_of_mem _ a)
theorem sp32: ∀x∈([32]:Bs),spB x=true:=by decide
theorem kIb {d:Dv} (h:chkM d=0) (a:rgD d):kAH (fmtM d)=(0,d):=by
 have b:=kQu (kGn h) a;have e:runM ps0 (kA4 (fmtM d))=some ⟨true,d.name,d.ss,d.ts.map zT,d.ts.map (tgt d.ss)⟩:=by
  unfold fmtM;rw[kG0 ?_,kEv,kK7 sp32 (by simp) _ b,kOw (kGn h)]
  ·rfl
  grind [kK2,sp32]
 grind [kD6,kOx]
def sOff:Bs:=[111,102,102]
def kNI:Bs:=[115,116,97,114,116]
def sIrq:Bs:=[105,114,113]
def modM (v:Int) (n:Nat):Int:=(IntKind.u64.wrap v)%n
theorem kA8 (v:Int) {n:Nat} (h:0<n):0≤modM v n∧modM v n<n:=⟨Int.emod_nonneg _ (by omega),Int.emod_lt_of_pos _ (by omega)⟩
theorem kD7 (v:Int):0≤IntKind.u64.wrap v:=by grind [IntKind.wrap_u64]
theorem kFs (v:Int) {n:Nat} (h:0<n):(IntKind.u64.wrap v).tmod n=modM v n:=by
 grind [modM,kD7]
theorem modT (v:Int) {n:Nat} (h:0<n):0≤(IntKind.u64.wrap v).tmod n∧(IntKind.u64.wrap v).tmod n<n:=by
 simp_all[kFs,kA8]
def evL:List Bs:=[kNI,sIrq,sOn,kBn,[110,111,110,101],[]]
def evM (k:Int):Bs:=evL.getD (modM k 6).toNat []
def nmL:List Bs:=[sOff,sOn,[95,120],[83,116,97,116,101,51],sIf,[111,110,95,49]]
def ev4:List Bs:=[kNI,sIrq,sOn,kBn]
structure Sml (d:Dv):Prop where
 s:d.ss.length≤40
 t:d.ts.length≤40
 n:d.name.length≤100
 o: ∀i,i<d.ts.length→(trA d.ts i).ops.length≤20∧(trA d.ts i).ev.length≤100
 k: ∀i,i<d.ss.length→(d.ss.getD i []).length≤100
def oM (o:Ro):Ro:=if o.wr=true then o else {o with val:=0}
def gM (g:Gd):Gd:=if g.used=true then ⟨true,g.reg,g.mask.tmod 4,g.val.tmod 4⟩ else gd0
def stF (n f:Nat) (t:Tr):Nat:=if f+1<n∧modM t.frm 3=0 then f+1 else f
def frN (n:Nat) (l:List Tr):Nat:=l.foldl (stF n) 0
def kBw (n f:Nat) (t:Tr):Tr:=⟨f,ev4.getD (t.ev.length%4) [],gM t.gd,(t.ops.take 4).map oM,modM t.to n⟩
def somF (n:Nat):Nat→List Tr→List Tr
 |_,[]=>[]
 |f,t::r=>kBw n (stF n f t) t::somF n (stF n f t) r
theorem kG1 (n:Nat): ∀(l:List Tr) (f:Nat) (t:Tr),somF n f (l++[t])=somF n f l++[kBw n (stF n (l.foldl (stF n) f) t) t]
 |[],f,t=>rfl
 |a::l,f,t=>by
  rw[qM,somF,somF,kG1 n l,qM,List.foldl_cons]
def somN (d:Dv):Nat:=1+d.ss.length%6
def kA5 (d:Dv):Dv:=⟨nmL.getD (d.name.length%6) [],nmL.take (somN d),somF (somN d) 0 (d.ts.take 20)⟩
theorem kLl (n:Nat) (l:List Tr) (t:Tr):frN n (l++[t])=stF n (frN n l) t:=by simp[frN]
theorem kBN {α:Type} (d:α) {l:List α} {j:Nat} (h:j<l.length):l.take (j+1)=l.take j++[l.getD j d]:=by
 simp_all
theorem kFD (d:Dv):0<somN d∧somN d≤6:=by grind [somN]
theorem kK8 (a b:Nat):(a:Int).tmod (b:Int)=((a%b:Nat):Int):=rfl
theorem kLY {n f:Nat} {t:Tr} (a:(f:Int)<(n:Int)-1) (b:modM t.frm 3=0):stF n f t=f+1:=by
 grind [stF]
theorem kK9 {n f:Nat} {t:Tr} (a: ¬(f:Int)<(n:Int)-1):stF n f t=f:=by
 grind [stF]
theorem kKA {n f:Nat} {t:Tr} (a: ¬modM t.frm 3=0):stF n f t=f:=by
 grind [stF]
theorem gM_t {g:Gd} (h:g.used=true):gM g=⟨true,g.reg,g.mask.tmod 4,g.val.tmod 4⟩:=by grind [gM]
theorem gM_f {g:Gd} (h:g.used=false):gM g=gd0:=by grind [gM]
theorem oM_t {o:Ro} (h:o.wr=true):oM o=o:=by grind [oM]
theorem oM_f {o:Ro} (h:o.wr=false):oM o=⟨o.wr,o.reg,0⟩:=by grind [oM]
theorem kC7 {α:Type} {l:List α} {k n:Nat} (h:k≤l.length) (a:k≤n) (b: ¬(k<l.length∧k<n)):l.take k=l.take n:=by
 grind
theorem kDT {hs H:List TH} {n j:Nat} (b:j<hs.length) (h:H.map (·.t)=somF n 0 ((hs.map (·.t)).take j)) {A:Option Addr} {c:Nat} {t:Tr} (a:t=kBw n (stF n (frN n ((hs.map (·.t)).take j)) (hs.getD j thK.d).t) (hs.getD j thK.d).t):
 (H++[(⟨t,A,c⟩:TH)]).map (·.t)=somF n 0 ((hs.map (·.t)).take (j+1)):=by
 rw[qN,h,kBN tr0 (by grind),kG1,show(hs.map (·.t)).getD j tr0=(hs.getD j thK.d).t from kN8 hs j,a];rfl
theorem kDU {hs:List TH} {n j:Nat} (a:j<hs.length):frN n ((hs.map (·.t)).take (j+1))=stF n (frN n ((hs.map (·.t)).take j)) (hs.getD j thK.d).t:=by
 rw[kBN tr0 (by grind),kLl,show(hs.map (·.t)).getD j tr0=(hs.getD j thK.d).t from kN8 hs j]
theorem Hp.bigSnoc8 {I0:Ids} {w0 w:World} {a b c d e f g:Assn} {β:Type} {F:β→Assn} {hs:List β} (h':β) {X:Assn} (h:Hp I0 w0 [a,b,c,d,e,f,g,Big F hs,X] w) (i:X=F h'):Hp I0 w0 [a,b,c,d,e,f,g,Big F (hs++[h'])] w:=by
 subst i;exact Hp.bigSnoc (L:=[a,b,c,d,e,f,g,Big F hs]) (k:=7) h rfl
theorem kQv: ∀q,q<6→isNm (nmL.getD q [])=true:=by decide
theorem kAE: ∀q,q<4→isNm (ev4.getD q [])=true:=by decide
theorem kDV (n:Nat): ∀(l:List Tr) (f:Nat),(somF n f l).length=l.length
 |[],_=>rfl
 |t::r,f=>by rw[somF,qB,kDV n r,qB]
theorem kSZ (g:Gd):gdOk (gM g)=true:=by
 unfold gM;split
 ·rfl
 ·rfl
theorem kSa (o:Ro):roOk (oM o)=true:=by
 grind [oM,roOk]
theorem kG2 {n f:Nat} (t:Tr) (a:f<n):stF n f t<n∧f≤stF n f t:=by
 grind [stF]
theorem kLm {n f:Nat} (t:Tr) (c:f<n):okT n (kBw n f t)=true:=by
 rw[kAD];have a:=kA8 t.to (show 0<n by omega);refine⟨⟨by show(0:Int)≤(f:Int);omega,by show(f:Int)<n;omega⟩,a,kAE _ (Nat.mod_lt _ (by decide)),kSZ _,?_,?_⟩
 ·show((t.ops.take 4).map oM).length≤16
  grind
 ·intro k b;have e:((t.ops.take 4).map oM).all roOk=true:=by
   grind [kSa]
  exact(kBU ro0).1 e k b
theorem kKB (n:Nat): ∀(l:List Tr) (f:Nat),f<n→(somF n f l).all (okT n)=true
 |[],_,_=>rfl
 |t::r,f,a=>by
  rw[somF,List.all_cons,kLm t (kG2 t a).1,kKB n r _ (kG2 t a).1];rfl
theorem kHp (n:Nat): ∀(l:List Tr) (f k:Nat),f<n→k+1<l.length→((somF n f l).getD k tr0).frm≤((somF n f l).getD (k+1) tr0).frm
 |[],_,_,_,h=>by grind
 |[t],_,k,_,h=>by grind
 |t::t2::r,f,0,a,_=>by
  have b:=kG2 t a;have c:=kG2 t2 b.1;show((stF n f t:Nat):Int)≤((stF n (stF n f t) t2:Nat):Int);omega
 |t::t2::r,f,k+1,a,h=>by
  have b:=kG2 t a;rw[somF];exact kHp n (t2::r) (stF n f t) k b.1 (by grind)
theorem kDx {n:Nat} (h:n≤6):(nmL.take n).length=n:=by
 rw[qF];exact Nat.min_eq_left h
theorem kLn:nmL.Nodup:=by decide
theorem kFE (d:Dv):chkM (kA5 d)=0:=by
 have b:=kFD d;have f:=kDx b.2;refine kJE ((kEu _).2 ⟨kQv _ (Nat.mod_lt _ (by decide)),⟨?_,?_,?_⟩,?_,?_,?_⟩) ?_
 ·show 0<(nmL.take (somN d)).length;omega
 ·show(nmL.take (somN d)).length≤32;omega
 ·show(somF _ _ _).length≤128
  grind [kDV]
 ·intro k c;have a:k<(nmL.take (somN d)).length:=c;rw[f] at a;have e:(nmL.take (somN d)).getD k []=nmL.getD k []:=by grind
  show isNm ((nmL.take (somN d)).getD k [])=true
  grind [kQv]
 ·show ∀k,k<(somF _ _ _).length→okT (nmL.take (somN d)).length _=true;rw[f];exact(kBU tr0).1 (kKB _ _ 0 b.1)
 ·intro k c;have a:k<(somF (somN d) 0 (d.ts.take 20)).length:=c;rw[kDV] at a
  match k with
  |0=>exact .inl rfl
  |k+1=>exact .inr (kHp _ _ 0 k b.1 a)
 ·exact List.Nodup.sublist (List.take_sublist _ _) kLn
theorem kVx {ts:List Tr} {st:Int} {ev:Bs} {k i:Nat} (h:fndM ts st ev k=some i):k≤i∧i<ts.length∧mtch ts st ev i=true:=by
 unfold fndM at h;have c:=List.mem_of_find?_eq_some h;obtain⟨a,b⟩:=List.mem_range'_1.1 c;have d:=List.find?_some h;exact⟨a,by omega,d⟩
def sOnS:Bs:=[32,32,111,110,32]
def sIfS:Bs:=[32,105,102,32]
def sAmp:Bs:=[32,38,32]
def sEqS:Bs:=[32,61,32]
def sArr:Bs:=[32,45,62,32]
def sWrS:Bs:=[119,114,105,116,101,32]
def sRdS:Bs:=[114,101,97,100,32]
def sDrS:Bs:=[100,114,105,118,101,114,32]
def sStS:Bs:=[115,116,97,116,101,32]
def gdT (g:Gd):Bs:=if g.used=true then (((((sIfS++dec g.reg)++sAmp)++dec g.mask)++sEqS)++dec g.val) else []
def roT (o:Ro):Bs:=if o.wr=true then ((sWrS++dec o.reg)++[32])++dec o.val else sRdS++dec o.reg
def kEI (l:List Ro):Bs:=l.flatMap (fun o=>[59,32]++roT o)
def opsT:List Ro→Bs
 |[]=>[]
 |o::r=>[58,32]++(roT o++kEI r)
def trT (ss:List Bs) (t:Tr):Bs:=(((((sOnS++t.ev)++gdT t.gd)++sArr)++tgt ss t)++opsT t.ops)++[10]
theorem kNJ (n:Nat) (c:MT) (o:Ro):ren [32] ((0,c)::roL o)=ttx c++([32]++roT o):=by
 unfold roL roT;split<;>simp[ren,reps,ttx,kDn,kIU,sWrS,sRdS]
theorem kLo (l:List Ro):ren [32] (l.flatMap (fun o=>(0,MT.sym 59)::roL o))=kEI l:=by
 unfold kEI
 induction l with
 |nil=>rfl
 |cons o l a=>
  rw[List.flatMap_cons,List.flatMap_cons,kDv,a,kNJ 0];rfl
theorem kOy (l:List Ro):ren [32] (opsL l)=opsT l:=by
 cases l with
 |nil=>rfl
 |cons o l=>
  show ren [32] (((0,.sym 58)::roL o)++l.flatMap (fun o=>(0,MT.sym 59)::roL o))=_;rw[kDv,kLo,kNJ 0];show([58]++([32]++roT o))++kEI l=[58,32]++(roT o++kEI l)
  simp
theorem kQw (g:Gd):ren [32] (gdL g)=gdT g:=by
 unfold gdL gdT;split
 ·simp[ren,reps,ttx,symT,sIf,sIfS,sAmp,sEqS]
 ·rfl
theorem kOz (ss:List Bs) (t:Tr):ren [32] (trL ss t)++[10]=trT ss t:=by
 simp_all[trL,trT,kDv,kQw,kOy,ren,reps,ttx,symT,sOn,sOnS,sArr]
def stT (s:Bs):Bs:=(sStS++s)++[10]
theorem kP0 (s:Bs):ren [32] (stL s)++[10]=stT s:=by simp[stL,stT,ren,reps,ttx,kB0,sStS]
def drT (d:Dv):Bs:=(sDrS++d.name)++[10]
theorem kP1 (d:Dv):ren [32] (drL d)++[10]=drT d:=by simp_all[drL,drT,ren,reps,ttx,kBn,sDrS]
def trsT (ss:List Bs) (l:List Tr):Bs:=l.flatMap (trT ss)
theorem kP2 (ss:List Bs) (l:List Tr):unl ((l.map (trL ss)).map (ren [32]))=trsT ss l:=by
 unfold unl trsT
 induction l with
 |nil=>rfl
 |cons t l a=>grind [kOz]
def oT (d:Dv) (i:Nat):Bs:=drT d++(List.range i).flatMap (fun i=>stT (d.ss.getD i [])++trsT d.ss (ofS d i))
def iT (d:Dv) (i k:Nat):Bs:=(oT d i++stT (d.ss.getD i []))++trsT d.ss ((ofS d i).take k)
def jT (d:Dv) (i k:Nat):Bs:=(oT d i++stT (d.ss.getD i []))++trsT d.ss ((d.ts.take k).filter (fun t=>decide (t.frm=(i:Int))))
theorem kGo (a b:List Bs):unl (a++b)=unl a++unl b:=by simp[unl]
theorem kP3 (d:Dv) (i:Nat):unl ((blkL d i).map (ren [32]))=stT (d.ss.getD i [])++trsT d.ss (ofS d i):=by
 grind [blkL,unl,kP2,kP0]
theorem kKC (d:Dv):fmtM d=oT d d.ss.length:=by
 unfold fmtM kK3 oT;rw[List.map_cons];show unl ([_]++_)=_;rw[kGo,←kP1];have e:unl (((List.range d.ss.length).flatMap (blkL d)).map (ren [32]))=(List.range d.ss.length).flatMap (fun i=>stT (d.ss.getD i [])++trsT d.ss (ofS d i)):=by
  generalize List.range d.ss.length=R
  induction R with
  |nil=>rfl
  |cons i R a=>grind [kGo,kP3]
 grind [unl]
theorem kKD (d:Dv):oT d 0=drT d:=by simp[oT]
theorem kGp (d:Dv) (i:Nat):oT d (i+1)=iT d i (ofS d i).length:=by
 grind [oT,iT,List.range_succ]
theorem kP4 (d:Dv) (i:Nat):jT d i 0=oT d i++stT (d.ss.getD i []):=by simp[jT,trsT]
theorem kKE {ts:List Tr} {k:Nat} (h:k<ts.length):ts.take (k+1)=ts.take k++[ts.getD k tr0]:=by
 simp_all
theorem kNK {d:Dv} {i k:Nat} (h:k<d.ts.length) (a:(d.ts.getD k tr0).frm=(i:Int)):jT d i (k+1)=jT d i k++trT d.ss (d.ts.getD k tr0):=by
 grind [jT,kKE,trsT]
theorem kQx {d:Dv} {i k:Nat} (h:k<d.ts.length) (a: ¬(d.ts.getD k tr0).frm=(i:Int)):jT d i (k+1)=jT d i k:=by
 grind [jT,kKE]
theorem kQy {d:Dv} {i k:Nat} (h:d.ts.length≤k):jT d i k=oT d (i+1):=by
 grind [kGp,jT,iT,ofS,List.take_length]
theorem part {l:List Tr} (m:Int) (h:l.Pairwise (fun a b=>a.frm≤b.frm)):l=l.filter (fun t=>decide (t.frm<m))++l.filter (fun t=>decide (m≤t.frm)):=by
 induction l with
 |nil=>rfl
 |cons a l d=>
  obtain⟨e,f⟩:=List.pairwise_cons.1 h;by_cases c:a.frm<m
  ·grind
  ·have g:l.filter (fun t=>decide (t.frm<m))=[]:=List.filter_eq_nil_iff.2 fun x i=>by grind
   grind
theorem kQz {d:Dv} (h:OkD d) (i:Nat): ∃R,d.ts=(upTo d i++ofS d i)++R∧ ∀t∈R,(i:Int)+1≤t.frm:=by
 refine⟨d.ts.filter (fun t=>decide (((i+1:Nat):Int)≤t.frm)),?_,fun t a=>?_⟩
 ·rw[←kCh,kDw h];exact part _ h.asc
 grind
theorem kR0 {d:Dv} (h:OkD d) (i k:Nat) (a:k≤(ofS d i).length):(upTo d i).length+k≤d.ts.length:=by
 obtain⟨R,b,_⟩:=kQz h i
 grind
theorem kB3 {v:Int} (h:u64 v):(dec v).length≤20:=by
 unfold dec;rw[Lib.decDigits_length];exact Lib.nDigits_le20 _ (by have:=h.1;have:=h.2;omega)
theorem kKF {g:Gd} (h:rgG g):(gdT g).length≤70:=by
 have a:=kB3 h.1;have b:=kB3 h.2.1;have c:=kB3 h.2.2;grind [gdT,sIfS,sAmp,sEqS,qB]
theorem kKG {o:Ro} (h:rgO o):(roT o).length≤47:=by
 have a:=kB3 h.1;have b:=kB3 h.2
 grind [roT,sWrS,sRdS,qB]
theorem kG3: ∀ {l:List Ro},(∀o∈l,rgO o)→(kEI l).length≤49* l.length
 |[],_=>by simp[kEI]
 |o::l,h=>by
  have b:=kG3 fun x a=>h x (List.mem_cons_of_mem _ a)
  grind [kKG,kEI]
theorem kFF {l:List Ro} (h: ∀o∈l,rgO o):(opsT l).length≤49* l.length:=by
 cases l with
 |nil=>simp[opsT]
 |cons o l=>
  grind [kG3,kKG,opsT]
theorem kCi {s:Bs} (h:isNm s=true):s.length≤32:=((kBV s).1 h).2.1
theorem kKH {d:Dv} (h:OkD d) (b:rgD d) {t:Tr} (a:t∈d.ts):(trT d.ss t).length≤150+49* t.ops.length:=by
 have c:=kCi (kEH h a).2.2.2.2.1;have e:=kCi (kK6 h a);have f:=kKF (b t a).1;have g:=kFF (b t a).2;grind [trT,sOnS,sArr,qB]
theorem kHq {d:Dv} (h:OkD d) (a:rgD d) {m:Nat} (b: ∀t∈d.ts,t.ops.length≤m): ∀ {l:List Tr},(∀t∈l,t∈d.ts)→(trsT d.ss l).length≤(150+49* m)* l.length
 |[],_=>by simp[trsT]
 |t::l,c=>by
  have f:=kHq h a b fun x e=>c x (List.mem_cons_of_mem _ e)
  grind [kKH,trsT,Nat.mul_succ]
theorem kNL {d:Dv} (h:OkD d) (a:rgD d) {m:Nat} (b: ∀t∈d.ts,t.ops.length≤m): ∀i,i≤d.ss.length→(oT d i).length≤40+39* i+(150+49* m)* (upTo d i).length
 |0,_=>by
  have:=kCi h.name
  grind [kKD,drT,sDrS,qB]
 |i+1,hi=>by
  have e:=kNL h a b i (by omega);have f:=kCi (h.nms i (by omega));have g:=kHq h a b (l:=ofS d i) fun t c=>(List.mem_filter.1 c).1
  grind [kGp,kCh,iT,stT,sStS,qB,Nat.mul_add]
theorem kKI {d:Dv} (h:OkD d) (a:rgD d) {m:Nat} (b: ∀t∈d.ts,t.ops.length≤m) {i:Nat} (c:i≤d.ss.length):(oT d i).length≤40+39* d.ss.length+(150+49* m)* d.ts.length:=by
 have f:=kNL h a b i c;have e:=kR0 h i 0 (qT _);have g:(150+49* m)* (upTo d i).length≤(150+49* m)* d.ts.length:=Nat.mul_le_mul_left _ e;omega
theorem kR1 {d:Dv} (h:OkD d): ∀t∈d.ts,t.ops.length≤16:=fun t a=>(kEH h a).2.2.2.2.2.2.1
theorem kKJ {d:Dv} (h:OkD d) (a:rgD d) {i:Nat} (b:i≤d.ss.length):(oT d i).length≤130000:=by
 have c:=kKI h a (kR1 h) b;have e:=h.few;have f:=h.fewT;grind
theorem kR2 {d:Dv} (h:OkD d) (b:rgD d) {i k:Nat} (c:i<d.ss.length):(jT d i k).length≤130000:=by
 have a:=kKJ h b c;rw[kGp] at a;refine qk ?_ a;unfold iT trsT;rw[List.take_length];grind [jT,trsT,ofS,List.take_append_drop]
theorem kR3 {d:Dv} (h:OkD d) (a:rgD d) {t:Tr} (b:t∈d.ts):(trT d.ss t).length≤1000:=by
 grind [kKH,kR1]
theorem kLp (d:Dv): ∀t∈(kA5 d).ts,t.ops.length≤4:=by
 have: ∀(n:Nat) (l:List Tr) (f:Nat),∀t∈somF n f l,t.ops.length≤4:=by
  intro n l
  induction l with
  |nil=>intro f t b;cases b
  |cons a l c=>
   intro f t b;rcases qe.1 b with rfl|b
   ·grind [kBw]
   grind
 exact this _ _ _
theorem kDW (d:Dv) (a:rgD (kA5 d)):(fmtM (kA5 d)).length≤7300:=by
 have b:=kGn (kFE d);rw[kKC];have c:=kKI b a (kLp d) (qU _);grind [kA5,kFD,kDV]
theorem kDy {d:Dv} (j:rgD d):rgD (kA5 d):=by
 have c: ∀g,rgG g→rgG (gM g):=by
  intro g c;unfold gM;split
  ·have k:=c.2.1;have m:=c.2.2;refine⟨c.1,?_,?_⟩
   ·have p:g.mask.tmod 4=g.mask%4:=qW k.1;show 0≤g.mask.tmod 4∧g.mask.tmod 4<18446744073709551616
    grind
   ·have p:g.val.tmod 4=g.val%4:=qW m.1;show 0≤g.val.tmod 4∧g.val.tmod 4<18446744073709551616
    grind
  ·exact⟨⟨by decide,by decide⟩,⟨by decide,by decide⟩,⟨by decide,by decide⟩⟩
 have q: ∀o,rgO o→rgO (oM o):=by
  intro o h;unfold oM;split
  ·exact h
  ·exact⟨h.1,(by decide:(0:Int)≤0),(by decide:(0:Int)<18446744073709551616)⟩
 have: ∀(n:Nat) (l:List Tr) (f:Nat),(∀t∈l,rgT t)→ ∀t∈somF n f l,rgT t:=by
  intro n l
  induction l with
  |nil=>intro f _ t b;cases b
  |cons a l u=>
   intro f r t b;rcases qe.1 b with rfl|b
   ·have i:=r a (List.mem_cons_self ..);refine⟨c _ i.1,fun o s=>?_⟩;obtain⟨v,e,rfl⟩:=List.mem_map.1 s;exact q _ (i.2 _ (List.mem_of_mem_take e))
   grind
 exact this _ _ _ fun t b=>j t (List.mem_of_mem_take b)
theorem kSb {ops:List Ro} (a: ∀o∈ops,rgO o) {j:Nat} (b:j<ops.length):rgO (ops.getD j roK.d):=a _ (by simp[List.getD,b])
theorem kIc (d:DH) (i:Nat):d.d.ts.getD i tr0=(d.hs.getD i thK.d).t:=kCc d.hs i
theorem kEX (d:DH):d.d.ts.length=d.hs.length:=by show(d.hs.map (·.t)).length=_;rw[qE]
theorem kR4 (d:DH) {i:Nat} (h:i<d.hs.length):(d.hs.getD i thK.d).t∈d.d.ts:=by
 refine List.mem_map.2 ⟨d.hs.getD i thK.d,?_,rfl⟩;simp[List.getD,h]
def fmtR (d:Dv):Bs:=if chkM d=0 then fmtM d else []
end Go.Drv
namespace Go.Proofs.YtdoihieboknmnaaGreatDoor
open Go.Proofs Go.Proofs.Tryz
open Go.Shelf
def Tryz.laysPu14_ren:Go.Shelf.Ren:=⟨fun|14=>251|16=>260|17=>261|19=>268|20=>269|21=>270|22=>271|23=>272|24=>273|25=>276|27=>278|26=>277|28=>279|29=>280|30=>281|31=>282|32=>283|33=>284|35=>286|34=>285|36=>287|37=>288|38=>289|39=>290|40=>291|n=>n,fun|9=>9|3=>3|22=>44|24=>448|25=>449|4=>4|34=>466|5=>5|36=>120|37=>70|0=>0|39=>468|21=>21|44=>476|47=>479|50=>482|48=>480|2=>2|52=>484|55=>487|59=>490|60=>471|20=>20|61=>491|65=>494|66=>495|67=>65|n=>n,fun|0=>3|1=>4|2=>5|3=>6|4=>7|n=>n⟩
theorem Tryz.laysPu14:Go.Proofs.LaysPu.n14 prog Tryz.laysPu14_ren:={
 mixed:=by kernel_rfl
 f14:=func251.trans (congrArg some (by kernel_rfl))
 f16:=func260.trans (congrArg some (by kernel_rfl))
 f17:=func261.trans (congrArg some (by kernel_rfl))
 f19:=func268.trans (congrArg some (by kernel_rfl))
 f20:=func269.trans (congrArg some (by kernel_rfl))
 f21:=func270.trans (congrArg some (by kernel_rfl))
 f22:=func271.trans (congrArg some (by kernel_rfl))
 f23:=func272.trans (congrArg some (by kernel_rfl))
 f24:=func273.trans (congrArg some (by kernel_rfl))
 f25:=func276.trans (congrArg some (by kernel_rfl))
 f26:=func277.trans (congrArg some (by kernel_rfl))
 f27:=func278.trans (congrArg some (by kernel_rfl))
 f28:=func279.trans (congrArg some (by kernel_rfl))
 f29:=func280.trans (congrArg some (by kernel_rfl))
 f30:=func281.trans (congrArg some (by kernel_rfl))
 f31:=func282.trans (congrArg some (by kernel_rfl))
 f32:=func283.trans (congrArg some (by kernel_rfl))
 f33:=func284.trans (congrArg some (by kernel_rfl))
 f34:=func285.trans (congrArg some (by kernel_rfl))
 f35:=func286.trans (congrArg some (by kernel_rfl))
 f36:=func287.trans (congrArg some (by kernel_rfl))
 f37:=func288.trans (congrArg some (by kernel_rfl))
 f38:=func289.trans (congrArg some (by kernel_rfl))
 f39:=func290.trans (congrArg some (by kernel_rfl))
 f40:=func291.trans (congrArg some (by kernel_rfl))
 t0:=underlying0
 a0:=Tryz.isAgg0
 z0:=Tryz.sizeOf0
 v0:=Tryz.zeroValue0
 i0:=by kernel_rfl
 t2:=underlying2
 a2:=Tryz.isAgg2
 z2:=Tryz.sizeOf2
 v2:=Tryz.zeroValue2
 i2:=by kernel_rfl
 t3:=underlying3
 a3:=Tryz.isAgg3
 z3:=Tryz.sizeOf3
 v3:=Tryz.zeroValue3
 i3:=by kernel_rfl
 t4:=underlying4
 a4:=Tryz.isAgg4
 z4:=Tryz.sizeOf4
 v4:=Tryz.zeroValue4
 i4:=by kernel_rfl
 t5:=underlying5
 a5:=Tryz.isAgg5
 z5:=Tryz.sizeOf5
 v5:=Tryz.zeroValue5
 i5:=by kernel_rfl
 t9:=underlying9
 a9:=Tryz.isAgg9
 z9:=Tryz.sizeOf9
 v9:=Tryz.zeroValue9
 i9:=by kernel_rfl
 t20:=underlying20
 a20:=Tryz.isAgg20
 z20:=Tryz.sizeOf20
 v20:=Tryz.zeroValue20
 i20:=by kernel_rfl
 t21:=underlying21
 a21:=Tryz.isAgg21
 z21:=Tryz.sizeOf21
 v21:=Tryz.zeroValue21
 i21:=by kernel_rfl
 t22:=underlying44
 a22:=Tryz.isAgg44
 z22:=Tryz.sizeOf44
 v22:=Tryz.zeroValue44
 i22:=by kernel_rfl
 t24:=underlying448
 a24:=Tryz.isAgg448
 z24:=Tryz.sizeOf448
 v24:=Tryz.zeroValue448
 i24:=by kernel_rfl
 t25:=underlying449
 a25:=Tryz.isAgg449
 z25:=Tryz.sizeOf449
 v25:=Tryz.zeroValue449
 i25:=by kernel_rfl
 t34:=underlying466
 a34:=Tryz.isAgg466
 z34:=Tryz.sizeOf466
 v34:=Tryz.zeroValue466
 i34:=by kernel_rfl
 c34:=by kernel_rfl
 t36:=underlying120
 a36:=Tryz.isAgg120
 z36:=Tryz.sizeOf120
 v36:=Tryz.zeroValue120
 i36:=by kernel_rfl
 t37:=underlying70
 a37:=Tryz.isAgg70
 z37:=Tryz.sizeOf70
 v37:=Tryz.zeroValue70
 i37:=by kernel_rfl
 t39:=underlying468
 a39:=Tryz.isAgg468
 z39:=Tryz.sizeOf468
 v39:=Tryz.zeroValue468
 i39:=by kernel_rfl
 t44:=underlying476
 a44:=Tryz.isAgg476
 z44:=Tryz.sizeOf476
 v44:=Tryz.zeroValue476
 i44:=by kernel_rfl
 t47:=underlying479
 a47:=Tryz.isAgg479
 z47:=Tryz.sizeOf479
 v47:=Tryz.zeroValue479
 i47:=by kernel_rfl
 t48:=underlying480
 a48:=Tryz.isAgg480
 z48:=Tryz.sizeOf480
 v48:=Tryz.zeroValue480
 i48:=by kernel_rfl
 t50:=underlying482
 a50:=Tryz.isAgg482
 z50:=Tryz.sizeOf482
 v50:=Tryz.zeroValue482
 i50:=by kernel_rfl
 t52:=underlying484
 a52:=Tryz.isAgg484
 z52:=Tryz.sizeOf484
 v52:=Tryz.zeroValue484
 i52:=by kernel_rfl
 t55:=underlying487
 a55:=Tryz.isAgg487
 z55:=Tryz.sizeOf487
 v55:=Tryz.zeroValue487
 i55:=by kernel_rfl
 t59:=underlying490
 a59:=Tryz.isAgg490
 z59:=Tryz.sizeOf490
 v59:=Tryz.zeroValue490
 i59:=by kernel_rfl
 t60:=underlying471
 a60:=Tryz.isAgg471
 z60:=Tryz.sizeOf471
 v60:=Tryz.zeroValue471
 i60:=by kernel_rfl
 t61:=underlying491
 a61:=Tryz.isAgg491
 z61:=Tryz.sizeOf491
 t65:=underlying494
 a65:=Tryz.isAgg494
 z65:=Tryz.sizeOf494
 v65:=Tryz.zeroValue494
 i65:=by kernel_rfl
 t66:=underlying495
 a66:=Tryz.isAgg495
 z66:=Tryz.sizeOf495
 v66:=Tryz.zeroValue495
 i66:=by kernel_rfl
 t67:=underlying65
 a67:=Tryz.isAgg65
 z67:=Tryz.sizeOf65
 v67:=Tryz.zeroValue65
 i67:=by kernel_rfl
 g0:=by kernel_rfl
 m0:=by kernel_rfl
 g1:=by kernel_rfl
 m1:=by kernel_rfl
 g2:=by kernel_rfl
 m2:=by kernel_rfl
 g3:=by kernel_rfl
 m3:=by kernel_rfl
 g4:=by kernel_rfl
 m4:=by kernel_rfl}
end Go.Proofs.YtdoihieboknmnaaGreatDoor
namespace Go.Drv
open Go.Sv
def stR (r:List Bool) (t:Tr):List Bool:=if r.getD t.frm.toNat false=true then r.set t.to.toNat true else r
def rndR (ts:List Tr) (r:List Bool):List Bool:=ts.foldl stR r
def itR (ts:List Tr) (r:List Bool):Nat→List Bool
 |0=>r
 |k+1=>rndR ts (itR ts r k)
def r0 (n:Nat):List Bool:=(List.replicate n false).set 0 true
def rchM (d:Dv):List Bool:=itR d.ts (r0 d.ss.length) d.ss.length
theorem kWP {d:Dv} (h:chkM d=0) {i:Nat} (a:i<d.ts.length):okT d.ss.length (trA d.ts i)=true:=by
 have b:chkA d=true:=by
  unfold chkM at h;cases c:chkA d with
  |true=>rfl
  |false=>rw[c] at h;simp at h
 exact((kEu d).1 b).2.2.2.1 i a
structure RI (d:Dv) (s:IS):Prop where
 r:(rchM d).getD s.st.toNat false=true
 n:0≤s.st∧s.st<d.ss.length
 c:s.wt=true→s.cd<d.ts.length∧(trA d.ts s.cd).frm=s.st
theorem kUw {ts:List Tr} {st:Int} {ev:Bs} {i:Nat}:mtch ts st ev i=true↔(trA ts i).frm=st∧(trA ts i).ev=ev:=decide_eq_true_iff
structure AI (d:Dv) (k:Nat) (s:IS) (ops:List Ro) (wt:Bool):Prop where
 ri:RI d s
 w:s.wt=wt
 o:wt=true→k≤s.cd∧ ∃g,ops=[⟨false,g,0⟩]
structure R2 (d:Dv) (ts':List Tr) (p:Tr→Bool) (s s':IS):Prop where
 ri:RI d s
 st:s'.st=s.st
 wt:s'.wt=s.wt
 c:s.wt=true→s'.cd<ts'.length∧trA ts' s'.cd=trA d.ts s.cd∧ts'.drop (s'.cd+1)=(d.ts.drop (s.cd+1)).filter p
def wtI (s:IS):Int:=if s.wt=true then (s.cd:Int) else -1
def EvI (T:List Tr) (s:IS) (ev:Bs):Prop:=s.wt=true→s.cd<T.length∧(trA T s.cd).ev=ev
theorem kUd {T:List Tr} {s:IS} (h:s.wt=false) (ev:Bs) (k:Nat):EvI T (conM T s ev k).1 ev:=by
 intro a;unfold conM at a ⊢;cases b:fndM T s.st ev k with
 |none=>rw[b] at a;simp only[] at a;rw[h] at a;cases a
 |some i=>
  rw[b] at a;simp only[] at a ⊢;split
  ·rename_i c;rw[if_pos c] at a;simp only[] at a;rw[h] at a;cases a
  ·have:=kVx b;exact⟨this.2.1,(kUw.1 this.2.2).2⟩
theorem kVX {T:List Tr} {s:IS} {e0:Bs} (h:EvI T s e0) (v:Int):EvI T (rplM T s v).1.1 e0:=by
 unfold rplM;cases a:s.wt with
 |false=>rw[if_pos rfl];exact h
 |true=>
  rw[if_neg (by decide)];split
  ·intro a;cases a
  ·rw[(h a).2];exact kUd rfl e0 _
theorem wU8 {x:Int} (a:0≤x) (b:x≤255):IntKind.u8.wrap x=x:=by
 grind [IntKind.wrap_u8]
def numR (s:Bs):Nat×Bool:=if numW s=true∧valD 0 s<18446744073709551616 then (valD 0 s,true) else (0,false)
theorem kRr {s:Bs} (h:(numR s).2=true):(numW s=true∧valD 0 s<18446744073709551616)∧(numR s).1=valD 0 s:=by
 grind [numR]
theorem kRs {s:Bs} (h:(numR s).2=false): ¬(numW s=true∧valD 0 s<18446744073709551616):=by
 grind [numR]
theorem kBd {s:Bs} (h: ¬(numW s=true∧valD 0 s<18446744073709551616)):numR s=(0,false):=if_neg h
theorem kIA {s:Bs} (h:numW s=true) (a:valD 0 s<18446744073709551616):numR s=(valD 0 s,true):=if_pos ⟨h,a⟩
theorem kSw {s:Bs} {j:Nat} (h:j<s.length):s.take (j+1)=s.take j++[s.getD j 0]:=by
 simp_all
theorem kCB {s:Bs} {j:Nat} (h:j<s.length) (a:48≤(s.getD j 0).toNat):((valD 0 (s.take (j+1)):Nat):Int)=10* ((valD 0 (s.take j):Nat):Int)+(((s.getD j 0).toNat:Int)-48):=by
 grind [kSw,valD]
theorem kNe (s:Bs) (j:Nat):valD 0 (s.take j)≤valD 0 s:=by
 grind [List.take_append_drop,kFC,kJH]
theorem kML (l:Bs): ∀n:Nat,n* 10^l.length≤valD n l:=by
 induction l with
 |nil=>grind [valD]
 |cons c r a=>
  grind [kBK,Nat.mul_comm,Nat.mul_assoc]
theorem kFS {s:Bs} (h:20<s.length): ¬(numW s=true∧valD 0 s<18446744073709551616):=by
 rintro⟨h1,h2⟩;obtain⟨k,l,d⟩:=(kAX s).1 h1;cases s with
 |nil=>grind
 |cons c r=>
  have f:20≤r.length:=by grind
  have g:digB c=true:=d 0 (by simp);have i:48≤c.toNat∧c.toNat≤57:=of_decide_eq_true g;have a:c≠48:=by
   grind
  have b:c.toNat≠48:=fun e=>a (UInt8.toNat_inj.1 e);have j:=kML r (10* 0+(c.toNat-48));rw[←kBK] at j;have m:10^20≤10^r.length:=Nat.pow_le_pow_right (by decide) f;have n:1* 10^r.length≤(10* 0+(c.toNat-48))* 10^r.length:=Nat.mul_le_mul_right _ (by omega)
  grind
theorem kFT {s:Bs} (h:1<s.length) (h0:s.getD 0 0=48): ¬(numW s=true∧valD 0 s<18446744073709551616):=by
 grind [kAX]
theorem kFU {s:Bs} {j:Nat} (h:j<s.length) (a:digB (s.getD j 0)=false): ¬(numW s=true∧valD 0 s<18446744073709551616):=by
 grind [kAX]
theorem kRt {s:Bs} (h:numW s=true):isNm s=false:=by
 grind [kAX,kBm]
def kFV:MT→Int
 | .nm _=>110
 | .num _=>100
 | .sym n=>n
def kAK:MT→Bs
 | .nm t=>t
 |_=>[]
def kRu (t:MT):List Value:=[.int .u8 (kFV t),.string (bs (kAK t)),.int .u64 (tnum t)]
def rtokK:Enc MT where
 f:=kRu
 sz:=3
 d:= .num 0
 len t:=rfl
 pos:=by decide
 one t v hv:=by simp[kRu] at hv;rcases hv with rfl|rfl|rfl<;>rfl
theorem kE4 (s:Bs): ∃r:Bs,s=cutH s++r∧(r=[]∨r.getD 0 0=35):=by
 refine⟨s.dropWhile (fun c=>decide (c≠35)),(List.takeWhile_append_dropWhile).symm,?_⟩
 induction s with
 |nil=>simp_all
 |cons c r a=>
  grind [List.dropWhile_cons]
theorem kRv (s:Bs): ∀x∈cutH s,x≠35:=fun x a=>by
 unfold cutH at a
 induction s with
 |nil=>cases a
 |cons c r b=>
  grind [List.takeWhile_cons]
theorem kBE {s:Bs} {i:Nat} (a:i<(cutH s).length):(cutH s).getD i 0=s.getD i 0:=by
 obtain⟨r,b,_⟩:=kE4 s
 grind
theorem kEc (s:Bs):(cutH s).length≤s.length:=(List.takeWhile_sublist _).length_le
theorem kRw {s:Bs} (h:(cutH s).length<s.length):s.getD (cutH s).length 0=35:=by
 obtain⟨r,a,b⟩:=kE4 s
 grind
theorem kKs {s:Bs} {i:Nat} (c:i≤(cutH s).length) (a:i<s.length) (b: ¬((s.getD i 0).toNat:Int)=35):i<(cutH s).length:=by
 rcases Nat.lt_or_ge i (cutH s).length with h|h
 ·exact h
 ·obtain rfl:i=(cutH s).length:=by omega
  exfalso;apply b;rw[kRw a];rfl
theorem kIB {s:Bs} {i:Nat} (a:i≤(cutH s).length) (h: ¬i<s.length):i=(cutH s).length:=by
 grind [kEc]
theorem kIC {s:Bs} {i:Nat} (c:i≤(cutH s).length) (h:((s.getD i 0).toNat:Int)=35):i=(cutH s).length:=by
 rcases Nat.lt_or_ge i (cutH s).length with a|a
 ·exfalso;have b:(cutH s).getD i 0∈cutH s:=by grind
  refine kRv s _ b ?_;rw[kBE a];exact UInt8.toNat_inj.1 (show(s.getD i 0).toNat=35 by omega)
 ·omega
theorem kCs {c:UInt8} (h:wrdB c=true):(97≤c.toNat∧c.toNat≤122)∨(65≤c.toNat∧c.toNat≤90)∨c.toNat=95∨(48≤c.toNat∧c.toNat≤57):=by
 unfold wrdB at h;rw[Bool.or_eq_true] at h;rcases h with h|h
 ·have:=of_decide_eq_true h;omega
 ·have:=of_decide_eq_true h;omega
theorem kRx {c:UInt8} (h:wrdB c=true):spB c=false:=qQ fun k=>by
 have:=kCs h;rcases k with rfl|rfl<;>simp at this
theorem kPn {c:UInt8} (h:wrdB c=true):symB c=false:=qQ fun k=>by
 have:=kCs h;rcases k with rfl|rfl|rfl|rfl<;>simp at this
theorem kRy {c:UInt8} (h:wrdB c=true): ¬(c.toNat:Int)=35:=by
 grind [kCs]
theorem kMM {s:Bs} {e:Nat} (a:e≤(cutH s).length) (h: ¬e<s.length∨wrdB (s.getD e 0)=false):e=(cutH s).length∨wrdB ((cutH s).getD e 0)=false:=by
 grind [kBE,kEc]
theorem kMN {s:Bs} {e:Nat} (a:e≤(cutH s).length):(cutH s).take e=s.take e:=by
 obtain⟨r,b,_⟩:=kE4 s
 grind
theorem kRz {s:Bs} {i:Nat} (a:i<(cutH s).length) (d:((s.getD i 0).toNat:Int)=45) (c:i+1<s.length) (e:((s.getD (i+1) 0).toNat:Int)=62):2≤((cutH s).drop i).length∧((cutH s).drop i).take 2=[45,62]:=by
 have b:i+1<(cutH s).length:=kKs a c (by omega);refine⟨by grind,?_⟩;rw[kAI a,kAI b,kBE a,kBE b,UInt8.toNat_inj.1 (show(s.getD i 0).toNat=(45:UInt8).toNat by grind),UInt8.toNat_inj.1 (show(s.getD (i+1) 0).toNat=(62:UInt8).toNat by grind)];rfl
theorem kMO {s:Bs} {i:Nat} (a:i<(cutH s).length) (h: ¬((s.getD i 0).toNat:Int)=45∨ ¬i+1<s.length∨ ¬((s.getD (i+1) 0).toNat:Int)=62): ¬(2≤((cutH s).drop i).length∧((cutH s).drop i).take 2=[45,62]):=by
 rintro⟨h1,h2⟩;rw[qG] at h1;have b:i+1<(cutH s).length:=by omega
 rw[kAI a,kAI b,kBE a,kBE b] at h2;simp_all
theorem kKt {s:Bs} {i:Nat} {ts:List MT} (h:Rd (cutH s) i ts) (c:i<(cutH s).length) (h0:spB (s.getD i 0)=false) (d:symB (s.getD i 0)=false) (f: ¬(2≤((cutH s).drop i).length∧((cutH s).drop i).take 2=[45,62])) (e:wrdB (s.getD i 0)=false):tk (cutH s)=none:=by
 rw[←kBE c] at h0 d e;refine(h.word c h0 d f (qU _) (by omega) (fun k a b=>by omega) (.inr e)).1 ?_;rw[List.drop_of_length_le (by grind)];rfl
theorem kNf {s:Bs} {i e:Nat} {ts:List MT} (h:Rd (cutH s) i ts) (c:i<(cutH s).length) (g:wrdB (s.getD i 0)=true) (j:i≤e) (f:e≤(cutH s).length) (m: ∀k,i≤k→k<e→wrdB (s.getD k 0)=true) (l: ¬e<s.length∨wrdB (s.getD e 0)=false):
 (kA7 ((s.take e).drop i)=none→tk (cutH s)=none)∧ ∀t,kA7 ((s.take e).drop i)=some t→i<e∧Rd (cutH s) e (ts++[t]):=by
 have d:=g;rw[←kBE c] at d;have:=h.word c (kRx d) (kPn d) (kMO c (.inl (by grind [kCs]))) j f (fun k a b=>by grind [kBE]) (kMM f l);grind [kMN]
section
variable {P:Program} {N:NN} {E:Env} {S:World→Prop} {d:Option Nat} {ty:TypeId} {pos:String} {af:Array Edge} {g:Option (Nat×Bool)} {x:Operand}
theorem Step.convBS {b dst e:TypeId} {A:Option Addr} {n c:Nat} {xs:List Int} (hs:P.underlying b=some (.slice e)) (k:P.underlying e=some (.int .u8)) (l:P.underlying dst=some .string) (o:ev E x=some (.slice A n c)) (p: ∀w,S w→RS w (intK .u8) A xs) (q:n=xs.length) (h0:0<xs.length):
 Step P N E S ⟨d,.convert b dst x,ty,pos,af,g⟩ (.string (bs (xs.map fun n=>UInt8.ofNat n.toNat))):=fun a w r s=>by
 have f:=p w s;have t:=f.form h0;have h:=run_convert_bytes_arg (P:=P) w b e hs k (bk A) (of A) n c xs q.symm (fun i u=>by
  have:=f.cell (m:=i) (j:=0) (by omega) (v:= .int .u8 (xs.getD i 0)) rfl
  grind [intK]) dst l
 rw[←t] at h;simp only[execOp,r.ev o,Sem.run_bind,h,Result.andThen_ok,Sem.run_pure];rfl
end
def kB (t:MT):UInt8:=UInt8.ofNat (kFV t).toNat
theorem kKu {n:Nat} (h:okN n):kB (.sym n)=UInt8.ofNat n:=by
 grind [kB,kFV]
theorem kB_n {t:MT} (b:tkOk t) (h:kB t=110):t= .nm (kAK t):=by
 cases t with
 |nm s=>rfl
 |num v=>exact absurd h (by show UInt8.ofNat 100≠110;decide)
 |sym n=>
  have a:okN n:=b;rw[kKu a] at h;rcases a with rfl|rfl|rfl|rfl|rfl<;>exact absurd h (by decide)
theorem kB_d {t:MT} (b:tkOk t) (h:kB t=100):t= .num (tnum t):=by
 cases t with
 |nm s=>exact absurd h (by show UInt8.ofNat 110≠100;decide)
 |num v=>rfl
 |sym n=>
  have a:okN n:=b;rw[kKu a] at h;rcases a with rfl|rfl|rfl|rfl|rfl<;>exact absurd h (by decide)
theorem kB_s {t:MT} {c:Nat} (e:tkOk t) (a:okN c) (h:kB t=UInt8.ofNat c):t= .sym c:=by
 cases t with
 |nm s=>
  have b:UInt8.ofNat 110=UInt8.ofNat c:=h;rcases a with rfl|rfl|rfl|rfl|rfl<;>exact absurd b (by decide)
 |num v=>
  have b:UInt8.ofNat 100=UInt8.ofNat c:=h;rcases a with rfl|rfl|rfl|rfl|rfl<;>exact absurd b (by decide)
 |sym n=>
  have d:okN n:=e;rw[kKu d] at h;rcases d with rfl|rfl|rfl|rfl|rfl<;>rcases a with rfl|rfl|rfl|rfl|rfl<;>first|rfl|exact absurd h (by decide)
theorem rk_s {t:MT} {c:Nat} (d:tkOk t) (a:okN c) (h:kFV t=c):t= .sym c:=by
 cases t with
 |nm s=>have b:(110:Int)=c:=h;rcases a with rfl|rfl|rfl|rfl|rfl<;>omega
 |num v=>have b:(100:Int)=c:=h;rcases a with rfl|rfl|rfl|rfl|rfl<;>omega
 |sym n=>have b:(n:Int)=c:=h;grind
abbrev tA (l:List MT) (i:Nat):MT:=l.getD i rtokK.d
theorem kAZ {l:List MT} {i:Nat} (h:i<l.length):l.drop i=tA l i::l.drop (i+1):=by
 simp_all
theorem kCQ {l:List MT} (a: ∀x∈l,tkOk x) {i:Nat} (h:i<l.length):tkOk (tA l i):=a _ (by grind)
def kds (l:List MT) (n:Nat):Bs:=(l.take n).map kB
theorem kPo {l:List MT} {j:Nat} (h:j<l.length):l.take (j+1)=l.take j++[tA l j]:=by
 simp_all
theorem kPp {l:List MT} {j:Nat} (h:j<l.length):kds l (j+1)=kds l j++[kB (tA l j)]:=by
 grind [kds,kPo]
theorem kGE {l:List MT} {n:Nat} {k:Bs} (h:kds l n=k) (a:n≤l.length): ∀i,i<n→kB (tA l i)=k.getD i 0:=fun i b=>by
 grind [kds]
def tlM (c:Nat):List MT→Option (List Ro)
 |[]=>some []
 | .sym d::r=>if d=c then opsM (r.length+1) r else none
 |_=>none
theorem kSx (l:List MT):tlM 58 l=kCI l:=by
 unfold tlM kCI
 grind
theorem kH3 {l:List MT} {o:Ro} {r:List MT} (h:opM l=some (o,r)):r.length+2≤l.length:=by
 unfold opM at h
 grind
theorem m59 {n f:Nat} (a:n≠59) (o:Ro) (r3:List MT):(match some (o,MT.sym n::r3) with
 |none=>none
 |some (o,[])=>some [o]
 |some (o,.sym 59::r)=>(opsM f r).map (fun x=>o::x)
 |some _=>none)=(none:Option (List Ro)):=by
 grind
theorem kMP: ∀(n m:Nat) (l:List MT),l.length<n→l.length<m→opsM n l=opsM m l:=by
 intro n
 induction n with
 |zero=>grind
 |succ n b=>
  intro m l c d;obtain⟨k,rfl⟩: ∃k,m=k+1:=⟨m-1,by omega⟩
  rw[kAp,kAp];cases a:opM l with
  |none=>rfl
  |some p=>
   obtain⟨o,r⟩:=p;have e:=kH3 a
   grind
theorem kS0 {c:Nat} {r:List MT}:tlM c (.sym c::r)=match opM r with
 |none=>none
 |some (o,r2)=>(tlM 59 r2).map (fun x=>o::x):=by
 show(if c=c then opsM (r.length+1) r else none)=_;rw[if_pos rfl,kAp];cases b:opM r with
 |none=>rfl
 |some p=>
  obtain⟨o,r2⟩:=p;have e:=kH3 b;cases r2 with
  |nil=>rfl
  |cons t a=>
   cases t with
   |nm s=>rfl
   |num v=>rfl
   |sym n=>
    by_cases d:n=59
    ·subst d;show(opsM r.length a).map _=(if 59=59 then opsM (a.length+1) a else none).map _
     grind [kMP]
    ·show _=(if n=59 then opsM (a.length+1) a else none).map _
     grind
theorem kSy {c:Nat} {l:List MT} (a:0<l.length) (h: ¬kFV (tA l 0)=c):tlM c l=none:=by
 cases l with
 |nil=>grind
 |cons t r=>
  cases t with
  |nm s=>rfl
  |num v=>rfl
  |sym n=>
   show(if n=c then _ else none)=none;rw[if_neg];intro e;exact h (by show(n:Int)=c;omega)
theorem kSz {t:MT} (h:kAK t≠[]):t= .nm (kAK t):=by
 cases t with
 |nm s=>rfl
 |num v=>exact absurd rfl h
 |sym n=>exact absurd rfl h
theorem kT0 {R:List MT} (c: ∀x∈R,tkOk x) (d:3≤R.length) (f:kds R 3=[110,100,100]) (g:kAK (tA R 0)=[119,114,105,116,101]):opM R=some (⟨true,tnum (tA R 1),tnum (tA R 2)⟩,R.drop 3):=by
 have k:=kGE f d;have h:=kB_n (kCQ c (show 0<R.length by omega)) (k 0 (by decide));have i:=kB_d (kCQ c (show 1<R.length by omega)) (k 1 (by decide));have j:=kB_d (kCQ c (show 2<R.length by omega)) (k 2 (by decide));have e:R=tA R 0::tA R 1::tA R 2::R.drop 3:=by
  have l:=kAZ (show 0<R.length by omega)
  grind [kAZ]
 rw[h,g,i,j] at e;generalize tnum (tA R 1)=a at e ⊢;generalize tnum (tA R 2)=b at e ⊢;generalize R.drop 3=D at e ⊢;rw[e];rfl
theorem kPq {R:List MT} (b: ∀x∈R,tkOk x) (c:2≤R.length) (d:kds R 2=[110,100]) (f:kAK (tA R 0)=[114,101,97,100]):opM R=some (⟨false,tnum (tA R 1),0⟩,R.drop 2):=by
 have k:=kGE d c;have g:=kB_n (kCQ b (show 0<R.length by omega)) (k 0 (by decide));have h:=kB_d (kCQ b (show 1<R.length by omega)) (k 1 (by decide));have e:R=tA R 0::tA R 1::R.drop 2:=by
  have i:=kAZ (show 0<R.length by omega)
  grind [kAZ]
 rw[g,f,h] at e;generalize tnum (tA R 1)=a at e ⊢;generalize R.drop 2=D at e ⊢;rw[e];rfl
theorem kCt {R:List MT} (d: ¬(3≤R.length∧kds R 3=[110,100,100]∧kAK (tA R 0)=[119,114,105,116,101])) (e: ¬(2≤R.length∧kds R 2=[110,100]∧kAK (tA R 0)=[114,101,97,100])):opM R=none:=by
 cases b:opM R with
 |none=>rfl
 |some p=>
  exfalso;unfold opM at b;split at b
  ·rename_i k a r0;split at b
   ·rename_i c;split at b
    ·refine d ⟨by simp,rfl,c⟩
    grind
   ·split at b
    ·rename_i c;exact e ⟨by simp,rfl,c⟩
    grind
  grind
structure LH where
 h:TH
 to:Bs
def lnK:Enc LH where
 f x:=[.int .i64 x.h.t.frm,.string (bs x.h.t.ev),.bool x.h.t.gd.used,.int .u64 x.h.t.gd.reg,.int .u64 x.h.t.gd.mask,.int .u64 x.h.t.gd.val,.slice x.h.A x.h.t.ops.length x.h.c,.int .i64 x.h.t.to,.string (bs x.to)]
 sz:=9
 d:=⟨thD,[]⟩
 len _:=rfl
 pos:=by decide
 one r v hv:=by simp at hv;rcases hv with rfl|rfl|rfl|rfl|rfl|rfl|rfl|rfl|rfl<;>rfl
theorem kMQ {e:Bs} {R:List MT} (h: ¬(6<R.length∧kds R 6=[110,100,38,100,61,100]∧kAK (tA R 0)=[105,102])):onM (.nm e::R)=onT e gd0 R:=by
 rw[kET];cases b:gdM R with
 |none=>
  show none=_;unfold gdM at b;split at b
  ·rfl
  ·rfl
  grind
 |some p=>
  obtain⟨g,r⟩:=p;show onT e g r=onT e gd0 R;unfold gdM at b;split at b
  ·rename_i i a m v r0;split at b
   ·rename_i c;cases b;cases r with
    |nil=>rfl
    |cons x r=>
     exfalso;exact h ⟨by grind,rfl,c⟩
   grind
  ·cases b
  grind
theorem kS1 {e:Bs} {R:List MT} (d: ∀x∈R,tkOk x) (p:6<R.length) (g:kds R 6=[110,100,38,100,61,100]) (h:kAK (tA R 0)=[105,102]):onM (.nm e::R)=onT e ⟨true,tnum (tA R 1),tnum (tA R 3),tnum (tA R 5)⟩ (R.drop 6):=by
 have k:=kGE g (by omega);have i:=kB_n (kCQ d (show 0<R.length by omega)) (k 0 (by decide));have j:=kB_d (kCQ d (show 1<R.length by omega)) (k 1 (by decide));have l:=kB_s (c:=38) (kCQ d (show 2<R.length by omega)) (.inr (.inr (.inl rfl))) (k 2 (by decide));have m:=kB_d (kCQ d (show 3<R.length by omega)) (k 3 (by decide));have n:=kB_s (c:=61) (kCQ d (show 4<R.length by omega)) (.inr (.inr (.inr (.inl rfl)))) (k 4 (by decide));have o:=kB_d (kCQ d (show 5<R.length by omega)) (k 5 (by decide));have f:R=tA R 0::tA R 1::tA R 2::tA R 3::tA R 4::tA R 5::R.drop 6:=by
  have q:=kAZ (show 0<R.length by omega)
  grind [kAZ]
 rw[i,h,j,l,m,n,o] at f;generalize tnum (tA R 1)=a at f ⊢;generalize tnum (tA R 3)=b at f ⊢;generalize tnum (tA R 5)=c at f ⊢;generalize R.drop 6=D at f ⊢;rw[f,kET];rfl
theorem kH4 {e:Bs} {g:Gd} {R:List MT} (h: ¬(2≤R.length∧kds R 2=[62,110])):onT e g R=none:=by
 cases a:onT e g R with
 |none=>rfl
 |some x=>
  exfalso;unfold onT at a;split at a
  ·exact h ⟨by grind,rfl⟩
  grind
theorem kNg {e:Bs} {g:Gd} {R:List MT} (b: ∀x∈R,tkOk x) (d:2≤R.length) (f:kds R 2=[62,110]):onT e g R=(kCI (R.drop 2)).map (onR e g (kAK (tA R 1))):=by
 have k:=kGE f d;have h:=kB_s (c:=62) (kCQ b (show 0<R.length by omega)) (.inr (.inr (.inr (.inr rfl)))) (k 0 (by decide));have i:=kB_n (kCQ b (show 1<R.length by omega)) (k 1 (by decide));have a:R=tA R 0::tA R 1::R.drop 2:=by
  have j:=kAZ (show 0<R.length by omega)
  grind [kAZ]
 rw[h,i] at a;generalize kAK (tA R 1)=t at a ⊢;generalize R.drop 2=D at a ⊢;rw[a];rfl
theorem kID {R:List MT} (h:R.length<3):onM R=none:=by
 cases a:onM R with
 |none=>rfl
 |some x=>
  exfalso;cases R with
  |nil=>cases a
  |cons t r=>
   cases t with
   |nm e=>
    grind [kMQ,kH4]
   |num v=>cases a
   |sym n=>cases a
theorem kKv {R:List MT} (h: ¬ ∃e r,R= .nm e::r):onM R=none:=by
 cases R with
 |nil=>rfl
 |cons t r=>
  cases t with
  |nm e=>grind
  |num v=>rfl
  |sym n=>rfl
structure OnG (w:World) (ts:List MT) (e:Bs) where
 g:Gd
 cur:List MT
 B:Option Addr
 m:Nat
 rs:RS w rtokK B cur
 cap:cur.length≤m
 ok: ∀x∈cur,tkOk x
 len:cur.length≤ts.length
 res:onM (ts.drop 1)=onT e g cur
theorem kS2 {ts:List MT} (h0:0<ts.length) (c:1<ts.length) (a:kB (tA ts 0)=110) (k: ∃e r,ts.drop 1= .nm e::r):kds ts 2=[110,110]:=by
 obtain⟨e,r,b⟩:=k;rw[kPp (show 1<ts.length by omega),kPp (show 0<ts.length by omega),a];rw[kAZ (show 1<ts.length by omega)] at b;rw[(List.cons.inj b).1];rfl
structure LnG where
 f:Nat
 P:List Bs
 A:Option Addr
 c:Nat
def LnI (s:Bs) (i:Nat) (X:LnG):Prop:=X.P.length≤i∧((i≤s.length∧X.f≤i∧kA4 s=X.P++kA4 (s.drop X.f)∧ ∀k,X.f≤k→k<i→s.getD k 0≠10)∨(i=s.length+1∧kA4 s=X.P))
theorem LnI.start (s:Bs):LnI s 0 ⟨0,[],none,0⟩:=⟨qU _,.inl ⟨qT _,qU _,rfl,fun k a b=>by omega⟩⟩
theorem LnI.le {s:Bs} {i:Nat} {X:LnG} (h:LnI s i X) (a:i≤s.length):X.f≤i:=by
 rcases h.2 with h|h
 ·grind
 ·omega
theorem kKw {s:Bs} {f i:Nat} (d:i≤s.length) (h: ∀k,f≤k→k<i→s.getD k 0≠10): ∀c∈(s.take i).drop f,c≠10:=fun c a=>by
 obtain⟨k,b,rfl⟩:=List.getElem_of_mem a;rw[qG,qF] at b;have:=h (f+k) (by omega) (by omega)
 grind
theorem LnI.nl {s:Bs} {i:Nat} {X:LnG} (h:LnI s i X) (d:i<s.length) (j:((s.getD i 0).toNat:Int)=10) (A:Option Addr) (c:Nat):LnI s (i+1) ⟨i+1,X.P++[(s.take i).drop X.f],A,c⟩:=by
 refine⟨?_,?_⟩
 ·have:=h.1;grind
 rcases h.2 with ⟨l,m,n,o⟩|h
 ·refine .inl ⟨by omega,qU _,?_,fun k a b=>by grind⟩;have e:s.drop X.f=(s.take i).drop X.f++10::s.drop (i+1):=by
   have p:s=s.take i++s.drop i:=(List.take_append_drop i s).symm;have g:s.drop X.f=(s.take i++s.drop i).drop X.f:=by grind
   rw[g,List.drop_append_of_le_length (by grind),kAI d,UInt8.toNat_inj.1 (show(s.getD i 0).toNat=(10:UInt8).toNat by grind)]
  grind [kAz,kKw]
 ·omega
theorem LnI.no {s:Bs} {i:Nat} {X:LnG} (h:LnI s i X) (d:i<s.length) (f: ¬((s.getD i 0).toNat:Int)=10):LnI s (i+1) X:=by
 refine⟨by have:=h.1;omega,?_⟩;rcases h.2 with ⟨g,j,c,l⟩|h
 ·refine .inl ⟨by omega,by omega,c,fun k a b=>?_⟩;by_cases e:k=i
  ·subst e;intro m;simp_all
  grind
 ·omega
theorem LnI.fin {s:Bs} {i:Nat} {X:LnG} (h:LnI s i X) (a:i=s.length) (f:Nat) (A:Option Addr) (c:Nat):LnI s (i+1) ⟨f,X.P++[(s.take i).drop X.f],A,c⟩:=by
 refine⟨?_,.inr ⟨by omega,?_⟩⟩
 ·have:=h.1;grind
 rcases h.2 with ⟨b,d,e,g⟩|h
 ·grind [kCG,kKw]
 ·omega
theorem LnI.last {s:Bs} {i:Nat} {X:LnG} (h:LnI s i X) (a: ¬i≤s.length):kA4 s=X.P:=by
 rcases h.2 with h|h
 ·omega
 grind
theorem kGF: ∀s:Bs,(kA4 s).length≤s.length+1
 |[]=>by simp[kA4]
 |c::r=>by
  have a:=kGF r
  grind [kA4]
theorem kGG: ∀s:Bs,∀l∈kA4 s,l.length≤s.length
 |[],l,h=>by grind [kA4]
 |c::r,l,h=>by
  have a:=kGG r
  grind [kA4]
structure RH where
 named:Bool
 name:Bs
 sA:Option Addr
 sc:Nat
 ss:List Bs
 aA:Option Addr
 ac:Nat
 al:List LH
def RH.ps (X:RH):PS:=⟨X.named,X.name,X.ss,X.al.map (·.h.t),X.al.map (·.to)⟩
def rh0:RH:=⟨false,[],none,0,[],none,0,[]⟩
def opL (x:LH):Assn:=opA x.h
theorem kNh {ts:List MT} (d: ∀x∈ts,tkOk x) (h:ts.map kB=[110,110]):ts=[.nm (kAK (tA ts 0)),.nm (kAK (tA ts 1))]:=by
 match ts,h,d with
 |[],h,_=>grind
 |[a],h,_=>grind
 |a::b::c::r,h,_=>grind
 |[a,b],h,d=>
  grind [kB_n]
section
variable {p:PS} {ts:List MT}
theorem kPr (a: ∀x∈ts,tkOk x) (b:p.named=false) (h:ts.map kB=[110,110]) (c:kAK (tA ts 0)=[100,114,105,118,101,114]):kAT p ts=some {p with named:=true,name:=kAK (tA ts 1)}:=by
 have e:=kNh a h;rw[c] at e;generalize kAK (tA ts 1)=n at e ⊢;rw[e];show(if p.named=false then _ else _)=_;rw[if_pos b];rfl
theorem kKx (h0:0<ts.length) (a:p.named=false) (h: ¬(ts.map kB=[110,110]∧kAK (tA ts 0)=[100,114,105,118,101,114])):kAT p ts=none:=by
 cases ts with
 |nil=>grind
 |cons t r=>
  cases t with
  |num v=>rfl
  |sym n=>rfl
  |nm k=>
   show(if p.named=false then _ else _)=_;rw[if_pos a];split
   ·rename_i n;rw[if_neg];intro b;exact h ⟨rfl,b⟩
   ·rfl
theorem kKy (a: ∀x∈ts,tkOk x) (c:p.named=true) (h:ts.map kB=[110,110]) (b:kAK (tA ts 0)=[115,116,97,116,101]):kAT p ts=some {p with ss:=p.ss++[kAK (tA ts 1)]}:=by
 have e:=kNh a h;rw[b] at e;generalize kAK (tA ts 1)=n at e ⊢;rw[e];show(if p.named=false then _ else _)=_;rw[if_neg (by grind)];rfl
theorem kPs (c:p.named=true) (b:kAK (tA ts 0)=[115,116,97,116,101]) (h: ¬ts.map kB=[110,110]):kAT p ts=none:=by
 cases ts with
 |nil=>cases b
 |cons t r=>
  cases t with
  |num v=>rfl
  |sym n=>rfl
  |nm k=>
   have a:k=kB0:=b;show(if p.named=false then _ else _)=_;rw[if_neg (by grind),if_pos a];split
   ·exact absurd rfl h
   ·rfl
theorem kIE (c:p.named=true) (b:kAK (tA ts 0)=[111,110]) (hs:p.ss≠[]):kAT p ts=(onM (ts.drop 1)).map (fun x=>{p with ts:=p.ts++[{x.1 with frm:=(p.ss.length:Int)-1}],tg:=p.tg++[x.2]}):=by
 cases ts with
 |nil=>cases b
 |cons t r=>
  cases t with
  |num v=>cases b
  |sym n=>cases b
  |nm k=>
   have a:k=sOn:=b;show(if p.named=false then _ else _)=_;rw[if_neg (by grind),if_neg (by rw[a];decide),if_pos ⟨a,hs⟩];rfl
theorem kNi (h0:0<ts.length) (c:p.named=true) (a: ¬kAK (tA ts 0)=[115,116,97,116,101]) (b: ¬(kAK (tA ts 0)=[111,110]∧p.ss≠[])):kAT p ts=none:=by
 cases ts with
 |nil=>grind
 |cons t r=>
  cases t with
  |num v=>rfl
  |sym n=>rfl
  |nm k=>
   show(if p.named=false then _ else _)=_;rw[if_neg (by grind),if_neg (show ¬k=kB0 from a),if_neg (show ¬(k=sOn∧p.ss≠[]) from b)]
end
def lst (ss:List Bs) (t:Bs):Nat→Int
 |0=> -1
 |k+1=>if ss.getD k []=t then (k:Int) else lst ss t k
theorem kS4 {ss:List Bs} {t:Bs} {k:Nat} (h:ss.getD k strK.d=t):lst ss t (k+1)=k:=by rw[lst,if_pos (show ss.getD k []=t from h)]
theorem kS5 {ss:List Bs} {t:Bs} {k:Nat} (h: ¬ss.getD k strK.d=t):lst ss t (k+1)=lst ss t k:=by rw[lst,if_neg (show ¬ss.getD k []=t from h)]
theorem kIF {ss:List Bs} {t:Bs}: ∀k,(∀j,j<k→ss.getD j []≠t)→lst ss t k= -1
 |0,_=>rfl
 |k+1,h=>by rw[lst,if_neg (h k (by omega)),kIF k fun j a=>h j (by omega)]
theorem kH5 {ss:List Bs} {t:Bs} {i:Nat}: ∀k,i<k→ss.getD i []=t→(∀j,j<k→ss.getD j []=t→j=i)→lst ss t k=i
 |0,h,_,_=>by omega
 |k+1,h,h1,h2=>by
  rw[lst];by_cases e:ss.getD k []=t
  ·grind
  ·rw[if_neg e];refine kH5 k ?_ h1 fun j a=>h2 j (by omega)
   grind
theorem kMR {ss:List Bs} {t:Bs} (h:kBo ss t=none): ∀j,j<ss.length→ss.getD j []≠t:=fun j a e=>by
 grind [kBo]
theorem kIG {ss:List Bs} {t:Bs} {i:Nat} (h:kBo ss t=some i):i<ss.length∧ss.getD i []=t:=by
 grind [kBo]
theorem kPu {ss:List Bs} {t:Bs} (a:ss.Nodup) (h:lst ss t ss.length<0):kBo ss t=none:=by
 grind [kBo,kH5,kAy]
theorem kPv {ss:List Bs} {t:Bs} (a:ss.Nodup) (h: ¬lst ss t ss.length<0): ∃i:Nat,lst ss t ss.length=i∧kBo ss t=some i:=by
 cases b:kBo ss t with
 |none=>
  grind [kIF,kMR]
 |some i=>
  grind [kIG,kH5,kAy]
def lnTo (y:LH) (i:Int):LH:=⟨kF4 y.h i,y.to⟩
structure KG where
 al:List LH
 H:List TH
 tA:Option Addr
 tc:Nat
structure LkR (X:RH) (K:KG) (j:Nat):Prop where
 jl:j≤X.al.length
 len:K.al.length=X.al.length
 hl:K.H.length=j
 rest:K.al.drop j=X.al.drop j
 ho:K.H.map opA=(X.al.take j).map opL
 res:kB1 X.ss (X.al.map (·.h.t)) (X.al.map (·.to))=(kB1 X.ss ((X.al.drop j).map (·.h.t)) ((X.al.drop j).map (·.to))).map (fun r=>K.H.map (·.t)++r)
theorem LkR.start (X:RH):LkR X ⟨X.al,[],none,0⟩ 0:=⟨qT _,rfl,rfl,rfl,rfl,by simp⟩
theorem kEd {H:List LH} {j:Nat} (h:j<H.length):H.drop j=H.getD j lnK.d::H.drop (j+1):=by
 simp_all
theorem LkR.at {X:RH} {K:KG} {j:Nat} (h:LkR X K j) (a:j<X.al.length):K.al.getD j lnK.d=X.al.getD j lnK.d:=by
 have b:=h.rest;rw[kEd (by rw[h.len];exact a),kEd a] at b
 grind
theorem LkR.bad {X:RH} {K:KG} {j:Nat} (h:LkR X K j) (a:j<X.al.length) (b:kBo X.ss (K.al.getD j lnK.d).to=none):kB1 X.ss (X.al.map (·.h.t)) (X.al.map (·.to))=none:=by
 rw[h.res,kEd a,List.map_cons,List.map_cons,kB1,←h.at a,b];rfl
theorem LkR.next {X:RH} {K:KG} {j:Nat} (h:LkR X K j) (a:j<X.al.length) {i:Nat} (b:kBo X.ss (K.al.getD j lnK.d).to=some i) (A:Option Addr) (c:Nat):
 LkR X ⟨K.al.set j (lnTo (K.al.getD j lnK.d) i),K.H++[kF4 (K.al.getD j lnK.d).h i],A,c⟩ (j+1):=by
 refine⟨a,by rw[qI];exact h.len,by rw[qD,h.hl];rfl,?_,?_,?_⟩
 ·show(K.al.set j _).drop (j+1)=_;rw[List.drop_set_of_lt (by omega)];have f:=h.rest;rw[kEd (by rw[h.len];exact a),kEd a] at f
  grind
 ·show(K.H++[_]).map opA=_;have e:X.al.take (j+1)=X.al.take j++[X.al.getD j lnK.d]:=by
   simp_all
  rw[qN,h.ho,e,qN,h.at a];rfl
 ·rw[h.res,kEd a,List.map_cons,List.map_cons,kB1,←h.at a,b];show Option.map _ (Option.map _ _)=_;rw[Option.map_map]
  congr 1
  funext r
  show K.H.map (fun x:TH=>x.t)++(_::r)=(K.H++[_]).map (fun x:TH=>x.t)++r;rw[qN,qL];rfl
theorem LkR.fin {X:RH} {K:KG} {j:Nat} (h:LkR X K j) (a: ¬j<X.al.length):kB1 X.ss (X.al.map (·.h.t)) (X.al.map (·.to))=some (K.H.map (·.t)):=by
 rw[h.res,List.drop_of_length_le (by omega)];simp[kB1]
theorem LkR.own {X:RH} {K:KG} {j:Nat} (h:LkR X K j) (a: ¬j<X.al.length):K.H.map opA=X.al.map opL:=by
 rw[h.ho,List.take_of_length_le (by omega)]
theorem kEe {β γ:Type} {F:β→Assn} {G:γ→Assn} {hs:List β} {gs:List γ} (h:hs.map F=gs.map G):Big F hs=Big G gs:=by
 grind [Big]
theorem DR.ofHpL {I:Ids} {w0 w:World} {L:List Assn} {k1 k2 k3:Nat} {nm:Bs} {sA tA:Option Addr} {sc tc:Nat} {ss:List Bs} {H:List TH} {al:List LH} (h:Hp I w0 L w) (d:L[k1]?=some (OS 9 strK sA sc ss)) (f:L[k2]?=some (OS 150 thK tA tc H)) (a:L[k3]?=some (Big opL al)) (e:H.map opA=al.map opL):DR w ⟨nm,sA,sc,ss,tA,tc,H⟩:=by
 rw[←kEe e] at a;exact⟨h.os k1 d,h.os k2 f,fun i g=>h.bigOS thD a g (G:=fun b w=>RS w roK b.A b.t.ops) fun i b k=>OS.rs (show(OS 162 roK b.A b.c b.t.ops).sat w i from k)⟩
theorem kT1 {l:List Bs} {j:Nat} (h:j<l.length):l.take (j+1)=l.take j++[l.getD j strK.d]:=by
 simp_all
theorem kL0 {a:List Bs} {i:Nat} {p q:PS} (h:runM ps0 (a.take i)=some p) (b:i<a.length) (c:lnM p (a.getD i strK.d)=some q):runM ps0 (a.take (i+1))=some q:=by
 rw[kT1 b,kEv,h];show(lnM p _).bind _=_;rw[c];rfl
theorem kIH {a:List Bs} {i:Nat} {p:PS} (h:runM ps0 (a.take i)=some p) (b:i<a.length) (c:lnM p (a.getD i strK.d)=none):runM ps0 a=none:=by
 grind [List.take_append_drop,runM,kEv,kJT]
end Go.Drv
