/-
  Joined.
-/
import Derived.Test.YtepmocimmmjinaaGreatDoorP01
import Derived.Lib.ParseIntB
import Derived.Lib.ItoaNum
import Derived.Lib.ItoaLen
import Derived.Lib.Join
import Derived.Shelf.Pu.ParseUintPublic10
import Derived.Test.YtepmocimmmjinaaGreatDoorProg
import Derived.Laws.BytesArg
set_option linter.unusedSimpArgs false
set_option linter.unusedVariables false
variable {l L:Nat} {q:Go.Sv.Bs} {y:List Go.Sv.Bs} {F:UInt8} {G:Type} {I:Int} {Q:Go.World} {U:List Go.Sv.aB} {V:UInt8->Bool} {W:Go.Sv.aV} {Z:Option Go.Addr}
namespace Go.Drv
open Go.Sv
def bL (c:UInt8):Bool:=decide (48<=c.toNat/\c.toNat<=57)
def de (c:UInt8):Bool:=decide ((97<=c.toNat/\c.toNat<=122)\/(65<=c.toNat/\c.toNat<=90)\/c.toNat=95)
def aZ (c:UInt8):Bool:=de c||bL c
def bD (l:Bs):Bool:=!l.isEmpty&&decide (l.length<=32)&&!bL (l.getD 0 0)&&l.all aZ
structure Gd where
 used:Bool
 reg:Int
 mask:Int
 val:Int
deriving DecidableEq
structure Ro where
 wr:Bool
 reg:Int
 val:Int
deriving DecidableEq
structure Tr where
 frm:Int
 ev:Bs
 gd:Gd
 ops:List Ro
 to:Int
deriving DecidableEq
structure Dv where
 name:Bs
 ss:List Bs
 ts:List Tr
deriving DecidableEq
def ku:Gd:=⟨false,0,0,0⟩
def ed:Tr:=⟨0,[],ku,[],0⟩
def jv:Ro:=⟨false,0,0⟩
def oB:Dv:=⟨[],[],[]⟩
def ch (g:Gd):Bool:=g.used||decide (g.reg=0/\g.mask=0/\g.val=0)
def cY (o:Ro):Bool:=o.wr||decide (o.val=0)
def iM (n:Nat) (t:Tr):Bool:=decide ((0<=t.frm/\t.frm<n)/\(0<=t.to/\t.to<n))&&bD t.ev&&ch t.gd&&decide (t.ops.length<=16)&&t.ops.all cY
def uP (ts:List Tr) (i:Nat):Prop:=i=0\/(ts.getD (i-1) ed).frm<=(ts.getD i ed).frm
instance(ts:List Tr) (i:Nat):Decidable (uP ts i):=inferInstanceAs (Decidable (_\/_))
def df (d:Dv):Bool:=bD d.name&&decide (0<d.ss.length/\d.ss.length<=32/\d.ts.length<=128)&&d.ss.all bD&&d.ts.all (iM d.ss.length)&&(List.range d.ts.length).all (λi=>decide (uP d.ts i))
def aQ (d:Dv):Int:=if df d=true then (if d.ss.Nodup then 0 else 7) else 1
theorem qp {p:G->Bool} {l:List G} (d:G):l.all p=true↔ ∀k,k<l.length->p (l.getD k d)=true:=by
 grind [List.getElem_of_mem]
theorem sD (l:Bs):bD l=true↔0<l.length/\l.length<=32/\bL (l.getD 0 0)=false/\ ∀k,k<l.length->aZ (l.getD k 0)=true:=by
 unfold bD;simp only[qg,Bool.not_eq_true',qj,qp (0:UInt8)]
 grind
theorem IG (a:0<q.length) (b:q.length<=32) (c:bL (q.getD 0 0)=false) (d: ∀k,k<q.length->aZ (q.getD k 0)=true):bD q=true:=(sD q).2 ⟨a,b,c,d⟩
theorem uQ {b:Bool} (h: ¬b=true):b=false:=by cases b<;>simp_all
theorem IH (h: ¬0<q.length):bD q=false:=uQ λk=>h ((sD q).1 k).1
theorem II (h: ¬q.length<=32):bD q=false:=uQ λk=>h ((sD q).1 k).2.1
theorem yR (h:bL (q.getD 0 0)=true):bD q=false:=uQ λk=>by grind [sD]
theorem yS (a:l<q.length) (h:aZ (q.getD l 0)=false):bD q=false:=uQ λk=>by grind [sD]
theorem jX (n:Nat) (t:Tr):iM n t=true↔(0<=t.frm/\t.frm<n)/\(0<=t.to/\t.to<n)/\bD t.ev=true/\ch t.gd=true/\t.ops.length<=16/\ ∀k,k<t.ops.length->cY (t.ops.getD k jv)=true:=by
 unfold iM;simp only[qg,qj,qp jv]
 grind
theorem yT (d:Dv):df d=true↔bD d.name=true/\(0<d.ss.length/\d.ss.length<=32/\d.ts.length<=128)/\(∀k,k<d.ss.length->bD (d.ss.getD k [])=true)/\(∀k,k<d.ts.length->iM d.ss.length (d.ts.getD k ed)=true)/\ ∀k,k<d.ts.length->uP d.ts k:=by
 unfold df;simp only[qg,qj,qp ([]:Bs),qp ed]
 grind
theorem kJ {d:Dv} (h: ¬df d=true):aQ d=1:=if_neg h
theorem qu {d:Dv} (h:df d=true) (a:d.ss.Nodup):aQ d=0:=by grind [aQ]
theorem Bd {d:Dv} (h:df d=true) (a: ¬d.ss.Nodup):aQ d=7:=by grind [aQ]
theorem sE:y.Nodup↔ ∀i j,i<j->j<y.length->y.getD i []≠y.getD j []:=by
 grind [List.pairwise_iff_getElem]
theorem SW (h:de F=true):bL F=false:=by
 have:=of_decide_eq_true h;exact qQ zo
def eA:Bs->List Bs
 |[]=>[[]]
 |c::r=>if c=10 then []::eA r else match eA r with
  |[]=>[[c]]
  |h::t=>(c::h)::t
theorem vk: ∀(p r:Bs),(∀c∈p,c≠10)->eA (p++10::r)=p::eA r
 |[],r,_=>by simp[eA]
 |c::p,r,h=>by
  have a:c≠10:=h c (List.mem_cons_self ..);rw[qM,eA,if_neg a,vk p r λx b=>h x (List.mem_cons_of_mem _ b)]
theorem Be: ∀(p:Bs),(∀c∈p,c≠10)->eA p=[p]
 |[],_=>rfl
 |c::p,h=>by
  have a:c≠10:=h c (List.mem_cons_self ..);rw[eA,if_neg a,Be p λx b=>h x (List.mem_cons_of_mem _ b)]
inductive MT where
 |nm (t:Bs)
 |num (v:Int)
 |sym (c:Nat)
deriving DecidableEq
def av (n:Nat) (l:Bs):Nat:=l.foldl (λn c=>10* n+(c.toNat-48)) n
def dh (w:Bs):Bool:=!w.isEmpty&&(decide (w.length=1)||decide (w.getD 0 0≠48))&&w.all bL
def fS (w:Bs):Option MT:=if bD w=true then some (.nm w) else if dh w=true/\av 0 w<18446744073709551616 then some (.num (av 0 w)) else none
def gU (c:UInt8):Bool:=decide (c=58\/c=59\/c=38\/c=61)
def gq (c:UInt8):Bool:=decide (c=32\/c=9)
def ai (l:Bs):Bs:=l.takeWhile (λc=>decide (c≠35))
def eN:Nat->Bs->Option (List MT)
 |0,_=>none
 |_+1,[]=>some []
 |n+1,c::r=>
  if gq c=true then eN n r
  else if gU c=true then (eN n r).map (λx=>MT.sym c.toNat::x)
  else if c=45/\r.getD 0 0=62 then (eN n (r.drop 1)).map (λx=>MT.sym 62::x)
  else match fS ((c::r).takeWhile aZ) with
   |none=>none
   |some t=>(eN n ((c::r).dropWhile aZ)).map (λx=>t::x)
def tk (l:Bs):Option (List MT):=eN (l.length+1) l
theorem Bf:fS []=none:=rfl
theorem IJ:(q.takeWhile V).length+(q.dropWhile V).length=q.length:=by
 grind [List.takeWhile_append_dropWhile]
theorem IK: ∀(l:Bs) (n m:Nat),l.length<n->l.length<m->eN n l=eN m l:=by
 intro l;generalize d:l.length=k
 induction k using Nat.strongRecOn generalizing l with
 |_ k e=>
  intro n m a b
  match n,m,a,b with
  |n+1,m+1,a,b=>
   match l with
   |[]=>rfl
   |c::r=>
    have f:r.length<k:=zg
    rw[eN,eN];split
    ·grind
    ·split
     ·grind
     ·split
      ·grind
      ·cases g:fS ((c::r).takeWhile aZ) with
       |none=>rfl
       |some t=>
        have h:0<((c::r).takeWhile aZ).length:=by
         grind [Bf]
        grind [IJ]
theorem IL:tk []=some []:=rfl
theorem IM (h:gq F=true):tk (F::q)=tk q:=by
 grind [tk,eN]
theorem vl (h0:gq F=false) (h:gU F=true):tk (F::q)=(tk q).map (λx=>MT.sym F.toNat::x):=by
 grind [tk,eN]
theorem IP (h:q.getD 0 0=62):tk (45::q)=(tk (q.drop 1)).map (λx=>MT.sym 62::x):=by
 rw[tk,qB,eN,if_neg zd,if_neg zd,if_pos ⟨rfl,h⟩];have a:q.length≠0:=by
  grind
 rw[IK (q.drop 1) (q.length+1) ((q.drop 1).length+1) zg zo];rfl
theorem IQ (h0:gq F=false) (d:gU F=false) (a: ¬(F=45/\q.getD 0 0=62)):tk (F::q)=match fS ((F::q).takeWhile aZ) with
 |none=>none
 |some t=>(tk ((F::q).dropWhile aZ)).map (λx=>t::x):=by
 rw[tk,qB,eN,if_neg zg,if_neg zg,if_neg a];cases e:fS ((F::q).takeWhile aZ) with
 |none=>rfl
 |some t=>
  have h0:0<((F::q).takeWhile aZ).length:=by
   grind [Bf]
  have b:=IJ (q:=F::q) (V:=aZ);simp only[qB] at b;simp only[];rw[IK ((F::q).dropWhile aZ) (q.length+1) (((F::q).dropWhile aZ).length+1) zo zo];rfl
def qv:Bs:=[100,114,105,118,101,114]
def kK:Bs:=[115,116,97,116,101]
def kL:Bs:=[111,110]
def oo:Bs:=[105,102]
def sF:Bs:=[119,114,105,116,101]
def uR:Bs:=[114,101,97,100]
def fT:List MT->Option (Ro×List MT)
 | .nm k:: .num a::r=>if k=sF then (match r with
  | .num v::r2=>some (⟨true,a,v⟩,r2)
  |_=>none) else if k=uR then some (⟨false,a,0⟩,r) else none
 |_=>none
def eO:Nat->List MT->Option (List Ro)
 |0,_=>none
 |n+1,l=>match fT l with
  |none=>none
  |some (o,[])=>some [o]
  |some (o,.sym 59::r)=>(eO n r).map (λx=>o::x)
  |some _=>none
def kM:List MT->Option (List Ro)
 |[]=>some []
 | .sym 58::r=>eO (r.length+1) r
 |_=>none
def mu:List MT->Option (Gd×List MT)
 | .nm i:: .num a:: .sym 38:: .num m:: .sym 61:: .num v::r=>if i=oo then some (⟨true,a,m,v⟩,r) else none
 | .nm _::_=>none
 |r=>some (ku,r)
def fq:List MT->Option (Tr×Bs)
 | .nm e::r=>match mu r with
  |some (g,.sym 62:: .nm t::r2)=>(kM r2).map (λo=>(⟨0,e,g,o,0⟩,t))
  |_=>none
 |_=>none
structure PS where
 named:Bool
 name:Bs
 ss:List Bs
 ts:List Tr
 tg:List Bs
def jc:PS:=⟨false,[],[],[],[]⟩
def eB (p:PS):List MT->Option PS
 |[]=>some p
 | .nm k::r=>
  if p.named=false then (match r with
   |[.nm n]=>if k=qv then some {p with named:=true,name:=n} else none
   |_=>none)
  else if k=kK then (match r with
   |[.nm n]=>some {p with ss:=p.ss++[n]}
   |_=>none)
  else if k=kL/\p.ss≠[] then (fq r).map (λx=>{p with ts:=p.ts++[{x.1 with frm:=(p.ss.length:Int)-1}],tg:=p.tg++[x.2]})
  else none
 |_=>none
def hF (p:PS) (l:Bs):Option PS:=(tk (ai l)).bind (eB p)
def be (p:PS):List Bs->Option PS
 |[]=>some p
 |l::r=>(hF p l).bind λq=>be q r
theorem Bg (p:PS): ∀(a b:List Bs),be p (a++b)=(be p a).bind λq=>be q b:=by
 intro a
 induction a generalizing p with
 |nil=>intro b;rfl
 |cons l r c=>
  intro b;rw[qM,be,be];cases hF p l with
  |none=>rfl
  |some q=>grind
def jd (ss:List Bs) (t:Bs):Option Nat:=(List.range ss.length).find? (λi=>decide (ss.getD i []=t))
def gr (ss:List Bs):List Tr->List Bs->Option (List Tr)
 |[],_=>some []
 |t::ts,g::gs=>match jd ss g with
  |none=>none
  |some i=>(gr ss ts gs).map (λx=>{t with to:=(i:Int)}::x)
 |_::_,[]=>some []
def fU (p:PS):Int×Dv:=
 if p.named=false then (2,oB)
 else if ¬p.ss.Nodup then (7,oB)
 else match gr p.ss p.ts p.tg with
  |none=>(6,oB)
  |some ts=>if aQ ⟨p.name,p.ss,ts⟩=0 then (0,⟨p.name,p.ss,ts⟩) else (aQ ⟨p.name,p.ss,ts⟩,oB)
def eH (s:Bs):Int×Dv:=match be jc (eA s) with
 |none=>(2,oB)
 |some p=>fU p
def ax:bO Ro where
 f r:=[.bool r.wr,.int .u64 r.reg,.int .u64 r.val]
 sz:=3
 d:=jv
 len _:=rfl
 pos:=zd
 one r v hv:=by simp at hv;rcases hv with rfl|rfl|rfl<;>rfl
structure TH where
 t:Tr
 A:Option Addr
 c:Nat
def gV:TH:=⟨ed,none,0⟩
def aK:bO TH where
 f h:=[.int .i64 h.t.frm,.string (bs h.t.ev),.bool h.t.gd.used,.int .u64 h.t.gd.reg,.int .u64 h.t.gd.mask,.int .u64 h.t.gd.val,.slice h.A h.t.ops.length h.c,.int .i64 h.t.to]
 sz:=8
 d:=gV
 len _:=rfl
 pos:=zd
 one r v hv:=by simp at hv;rcases hv with rfl|rfl|rfl|rfl|rfl|rfl|rfl|rfl<;>rfl
abbrev th (hs:List TH) (i:Nat):TH:=hs.getD i gV
structure DH where
 name:Bs
 sA:Option Addr
 sc:Nat
 ss:List Bs
 tA:Option Addr
 tc:Nat
 hs:List TH
def DH.d (d:DH):Dv:=⟨d.name,d.ss,d.hs.map (·.t)⟩
structure DR (w:World) (d:DH):Prop where
 s:RS w aN d.sA d.ss
 t:RS w aK d.tA d.hs
 o: ∀i,i<d.hs.length->RS w ax (th d.hs i).A (th d.hs i).t.ops
theorem DR.keep {w:World} {d:DH} (h:Hp W Q U w) (k:DR Q d) (hI: ∀x,¬W x):DR w d:=
 ⟨h.rs k.s λ_=>hI _,h.rs k.t λ_=>hI _,λi a=>h.rs (k.o i a) λ_=>hI _⟩
def aD (k:IntKind):bO Int where
 f n:=[.int k n]
 sz:=1
 d:=0
 len _:=rfl
 pos:=zd
 one r v hv:=by simp at hv;subst hv;rfl
theorem Bh (hs:List TH) (i:Nat):(hs.map (·.t)).getD i ed=(th hs i).t:=by
 unfold th;simp only[List.getD,List.getElem?_map];cases hs[i]?<;>rfl
theorem SX {hs:List TH}:uP (hs.map (·.t)) l↔l=0\/(th hs (l-1)).t.frm<=(th hs l).t.frm:=by
 grind [uP,Bh]
theorem iP (d:DH):df d.d=true↔bD d.name=true/\(0<d.ss.length/\d.ss.length<=32/\d.hs.length<=128)/\(∀k,k<d.ss.length->bD (d.ss.getD k [])=true)/\(∀k,k<d.hs.length->iM d.ss.length (th d.hs k).t=true)/\ ∀k,k<d.hs.length->(k=0\/(th d.hs (k-1)).t.frm<=(th d.hs k).t.frm):=by
 grind [yT,DH.d,SX]
theorem ff {b:Bool} (h:b=true) (a:b=false):False:=zg
theorem gJ {b:Bool} (h:(!b)=true):b=false:=by cases b<;>simp_all
theorem gK {b:Bool} (h:(!b)=false):b=true:=by cases b<;>simp_all
theorem vm {vs us:List Value} (k:Nat) (h: ∀j v,vs[j]?=some v->Q.cell? ⟨l,0+j,none⟩=some v) (a:(vs.drop k).take us.length=us): ∀j v,us[j]?=some v->Q.cell? ⟨l,0+k+j,none⟩=some v:=λj v b=>by
 grind
def oq (l:Bs):Value:= .string (bs l)
theorem uL (q:Bs): ∀l:List Bs,br (l.map λx=>(x,true)) q=if q∈l then some true else none
 |[]=>by simp[br]
 |a::l=>by
  rw[List.map_cons,br,uL q l]
  grind
theorem BT (q:Bs) (l:List Bs):(br (l.map λx=>(x,true)) q).getD false=decide (q∈l):=by
 grind [uL]
theorem IR {j:List G} (d:G) (h:l<j.length):j.take (l+1)=j.take l++[j.getD l d]:=by
 simp_all
theorem SY:q∈y.take l↔ ∃i,i<l/\i<y.length/\y.getD i []=q:=by
 constructor
 ·intro h;obtain⟨i,a,e⟩:=List.getElem_of_mem h;rw[qF] at a;exact⟨i,zo,zo,zg⟩
 ·rintro⟨i,h1,h2,rfl⟩;rw[show y.getD i []=(y.take l)[i]' zg by grind]
  grind
def ft (n:Nat):Bs:=if n=62 then [45,62] else [n.toUInt8]
def iQ:MT->Int
 | .nm _=>1
 | .num _=>2
 | .sym _=>3
def ot:MT->Bs
 | .nm t=>t
 | .num _=>[]
 | .sym n=>ft n
def bz:MT->Int
 | .num v=>v
 |_=>0
def sG (t:MT):List Value:=[.int .i64 (iQ t),.string (bs (ot t)),.int .u64 (bz t)]
def cC:bO MT where
 f:=sG
 sz:=3
 d:= .num 0
 len t:=rfl
 pos:=zd
 one t v hv:=by simp[sG] at hv;rcases hv with rfl|rfl|rfl<;>rfl
theorem lS (h:l<q.length):q.drop l=q.getD l 0::q.drop (l+1):=by
 simp_all
theorem kEx (l:Bs) (i j:Nat):(l.drop i).getD j 0=l.getD (i+j) 0:=zg
theorem yU (h:l<q.length):(q.take (l+1)).drop l=[q.getD l 0]:=by
 grind [lS]
theorem IT {w r:Bs} (h:q=w++r) (c: ∀x∈w,V x=true) (b:r=[]\/V (r.getD 0 0)=false):q.takeWhile V=w/\q.dropWhile V=r:=by
 subst h
 induction w with
 |nil=>
  rcases b with rfl|b
  ·simp_all
  ·cases r with
   |nil=>simp_all
   |cons a r=>
    simp_all
 |cons a w d=>
  simp_all
theorem SZ (d:l<=L) (f:L<=q.length) (a: ∀k,l<=k->k<L->V (q.getD k 0)=true) (g:L=q.length\/V (q.getD L 0)=false):
 (q.drop l).takeWhile V=(q.take L).drop l/\(q.drop l).dropWhile V=q.drop L:=by
 refine IT ?_ (λx b=>?_) ?_
 ·grind [List.take_append_drop]
 ·obtain⟨k,c,rfl⟩:=List.getElem_of_mem b;rw[qG,qF] at c;have:=a (l+k) zo zo;rw[List.getElem_drop,List.getElem_take];rwa [List.getD,qJ (show l+k<q.length by omega)] at this
 grind
def Rd (l:Bs) (i:Nat) (ts:List MT):Prop:=tk l=(tk (l.drop i)).map (λx=>ts++x)
theorem Rd.start (l:Bs):Rd l 0 []:=by unfold Rd;simp
variable {u:List MT}
theorem Rd.sp (h:Rd q l u) (a:l<q.length) (b:gq (q.getD l 0)=true):Rd q (l+1) u:=by
 grind [Rd,lS,IM]
theorem Rd.map {l:Bs} {i j:Nat} {ts:List MT} {t:MT} (h:Rd l i ts) (e:tk (l.drop i)=(tk (l.drop j)).map (λx=>t::x)):Rd l j (ts++[t]):=by
 unfold Rd at *;rw[h,e,Option.map_map];congr 1;grind
theorem Rd.sym {l:Bs} {i:Nat} {ts:List MT} (h:Rd l i ts) (a:i<l.length) (h0:gq (l.getD i 0)=false) (b:gU (l.getD i 0)=true):Rd l (i+1) (ts++[.sym (l.getD i 0).toNat]):=
 h.map (by grind [lS,vl])
theorem Rd.arr (h:Rd q l u) (b:2<=(q.drop l).length/\(q.drop l).take 2=[45,62]):Rd q (l+2) (u++[.sym 62]):=by
 obtain⟨c,a⟩:=b;rw[qG] at c;rw[lS (show l<q.length by omega),lS (show l+1<q.length by omega)] at a;simp only[List.take_succ_cons,List.take_zero,List.cons.injEq] at a;refine h.map ?_;grind [lS,IP]
theorem Sa (a:l<q.length) (b: ¬(2<=(q.drop l).length/\(q.drop l).take 2=[45,62])): ¬(q.getD l 0=45/\(q.drop (l+1)).getD 0 0=62):=by
 grind [lS]
theorem Rd.word (h:Rd q l u) (b:l<q.length) (h0:gq (q.getD l 0)=false) (d:gU (q.getD l 0)=false) (f: ¬(2<=(q.drop l).length/\(q.drop l).take 2=[45,62]))
 (g:l<=L) (j:L<=q.length) (m: ∀k,l<=k->k<L->aZ (q.getD k 0)=true) (n:L=q.length\/aZ (q.getD L 0)=false):
 (fS ((q.take L).drop l)=none->tk q=none)/\ ∀t,fS ((q.take L).drop l)=some t->l<L/\Rd q L (u++[t]):=by
 obtain⟨o,p⟩:=SZ g j m n;have a:=IQ (F:=q.getD l 0) (q:=q.drop (l+1)) h0 d (Sa b f);rw[<-lS b,o,p] at a;constructor
 ·grind [Rd]
 ·intro t ts;rw[ts] at a;refine⟨?_,h.map a⟩
  grind [Bf]
theorem Rd.fin (h:Rd q q.length u):tk q=some u:=by
 grind [Rd,IL]
theorem IU (n:Nat):av n []=n:=rfl
theorem vn (n:Nat) (c:UInt8) (r:Bs):av n (c::r)=av (10* n+(c.toNat-48)) r:=by grind [av]
theorem IV (l:Bs): ∀n:Nat,n<=av n l:=by
 induction l with
 |nil=>intro n;exact qU _
 |cons c r a=>
  grind [vn]
theorem Sb (l:Bs): ∀n:Nat,(∀x∈l,bL x=true)->n<18446744073709551616->Lib.parseUintM 18446744073709551615 n l=if av n l<18446744073709551616 then .ok (av n l) else .range:=by
 induction l with
 |nil=>intro n _ a;rw[IU,if_pos a];rfl
 |cons c r b=>
  intro n h a;have d:48<=c.toNat/\c.toNat<=57:=of_decide_eq_true (h c (List.mem_cons_self ..))
  grind [IV,vn,Lib.parseUintM]
theorem Sc (h0:q≠[]) (h: ∀x∈q,bL x=true):Lib.parseUintB 64 q=if av 0 q<18446744073709551616 then .ok (av 0 q) else .range:=by
 grind [Lib.parseUintB,Sb]
theorem lU (w:Bs):dh w=true↔w≠[]/\(w.length=1\/w.getD 0 0≠48)/\ ∀k,k<w.length->bL (w.getD k 0)=true:=by
 unfold dh;simp only[qg,Bool.not_eq_true',Bool.or_eq_true,qj,qp (0:UInt8),List.isEmpty_eq_false_iff]
 grind
theorem Bi (h:bD q=true):fS q=some (.nm q):=by grind [fS]
theorem yV (h:bD q=false) (a:dh q=false):fS q=none:=by grind [fS]
theorem yW (h:bD q=false) (a:dh q=true) (b:av 0 q<18446744073709551616):fS q=some (.num (av 0 q)):=by grind [fS]
theorem IW (h:bD q=false) (a: ¬av 0 q<18446744073709551616):fS q=none:=by grind [fS]
theorem IX (h: ∀k,k<q.length->bL (q.getD k 0)=true): ∀x∈q,bL x=true:=λx b=>by
 obtain⟨k,a,rfl⟩:=List.getElem_of_mem b;have:=h k a;rwa [List.getD,qJ a] at this
def mv (n:Nat):Prop:=n=58\/n=59\/n=38\/n=61\/n=62
def cF:MT->Prop
 | .sym n=>mv n
 |_=>True
def iR:MT->Prop
 | .nm _=>True
 | .num _=>False
 | .sym n=>mv n
theorem Sd (c:mv l) (d:mv L) (h:ft l=ft L):l=L:=by
 rcases c with rfl|rfl|rfl|rfl|rfl<;>rcases d with rfl|rfl|rfl|rfl|rfl<;>first|rfl|exact absurd h zd
theorem Se {x m:MT} (c:cF x) (a:iR m) (d:iQ x=iQ m) (b:ot x=ot m):x=m:=by
 cases m with
 |num v=>exact a.elim
 |nm t=>
  cases x with
  |nm u=>exact congrArg MT.nm b
  |num v=>grind [iQ]
  |sym n=>grind [iQ]
 |sym n=>
  cases x with
  |nm u=>grind [iQ]
  |num v=>grind [iQ]
  |sym k=>exact congrArg MT.sym (Sd c a b)
abbrev td:MT:= .num 0
theorem oC (h:l<u.length):u.drop l=u.getD l td::u.drop (l+1):=by
 simp_all
theorem Sf (h:l<u.length):u.getD l td∈u:=by
 grind
theorem Sh (h:l=u.length):u.drop l=[]:=List.drop_of_length_le zo
theorem kMu (h:l=u.length): ∀t r,u.drop l≠ .nm t::r:=λt r e=>zg
theorem Si (h:l<u.length) (a:iQ (u.getD l td)≠1): ∀t r,u.drop l≠ .nm t::r:=λt r e=>by
 rw[oC h] at e;injection e with b c;rw[b] at a;exact a rfl
theorem Sj (h:l<u.length) (a:iQ (u.getD l td)=1):u.drop l= .nm (ot (u.getD l td))::u.drop (l+1):=by
 rw[oC h];cases e:u.getD l td with
 |nm t=>rfl
 |num v=>grind [iQ]
 |sym n=>grind [iQ]
theorem kJI (h:l=u.length): ∀t r,u.drop l≠ .num t::r:=λt r e=>zg
theorem Sl (h:l<u.length) (a:iQ (u.getD l td)≠2): ∀t r,u.drop l≠ .num t::r:=λt r e=>by
 rw[oC h] at e;injection e with b c;rw[b] at a;exact a rfl
theorem Sm (h:l<u.length) (a:iQ (u.getD l td)=2):u.drop l= .num (bz (u.getD l td))::u.drop (l+1):=by
 rw[oC h];cases e:u.getD l td with
 |num v=>rfl
 |nm t=>grind [iQ]
 |sym n=>grind [iQ]
theorem kGa {m:MT} (h:l=u.length): ∀r,u.drop l≠m::r:=λr e=>zg
theorem IY {m:MT} (h:l<u.length) (a: ¬(iQ (u.getD l td)=iQ m/\ot (u.getD l td)=ot m)): ∀r,u.drop l≠m::r:=λr e=>by
 grind [oC]
theorem Sn {m:MT} (h:l<u.length) (a: ∀x∈u,cF x) (b:iR m) (c:iQ (u.getD l td)=iQ m) (d:ot (u.getD l td)=ot m):u.drop l=m::u.drop (l+1):=by
 grind [oC,Se,Sf]
theorem So: ∀(n:Nat) (l:Bs) (ts:List MT),eN n l=some ts-> ∀x∈ts,cF x:=by
 intro n
 induction n with
 |zero=>intro l ts h;cases h
 |succ n i=>
  intro l ts h;cases l with
  |nil=>grind [eN]
  |cons c r=>
   rw[eN] at h;split at h
   ·grind
   ·split at h
    ·rename_i j f;obtain⟨a,e,rfl⟩:=Option.map_eq_some_iff.1 h;intro x b;rcases qe.1 b with rfl|b
     ·have g:c=58\/c=59\/c=38\/c=61:=of_decide_eq_true f;rcases g with rfl|rfl|rfl|rfl
      ·exact .inl rfl
      ·exact .inr (.inl z6)
      ·exact .inr (.inr (.inl z6))
      ·exact .inr (.inr (.inr (.inl z6)))
     grind
    ·split at h
     ·obtain⟨a,e,rfl⟩:=Option.map_eq_some_iff.1 h;intro x b;rcases qe.1 b with rfl|b
      ·exact .inr (.inr (.inr (.inr z6)))
      grind
     ·split at h
      ·cases h
      ·rename_i t d;obtain⟨a,e,rfl⟩:=Option.map_eq_some_iff.1 h;intro x b;rcases qe.1 b with rfl|b
       ·unfold fS at d;split at d
        ·cases d;trivial
        ·split at d
         ·cases d;trivial
         grind
       grind
theorem IZ (h:tk q=some u): ∀x∈u,cF x:=So _ _ _ h
section
variable {ts:List MT} {i k n:Nat}
theorem Sq {b:Int} (h0:ts.drop i= .nm sF::ts.drop (i+1)) (c:ts.drop (i+1)= .num I::ts.drop (i+1+1)) (d:ts.drop (i+1+1)= .num b::ts.drop (i+1+1+1)):fT (ts.drop i)=some (⟨true,I,b⟩,ts.drop (i+1+1+1)):=by
 rw[h0,c,d];rfl
theorem Ss (h0:ts.drop i= .nm sF::ts.drop (i+1)) (b:ts.drop (i+1)= .num I::ts.drop (i+1+1)) (c: ∀x r,ts.drop (i+1+1)≠ .num x::r):fT (ts.drop i)=none:=by
 simp_all[fT]
theorem Ia (h0:ts.drop i= .nm q::ts.drop (i+1)) (a: ∀x r,ts.drop (i+1)≠ .num x::r):fT (ts.drop i)=none:=by
 simp_all[fT]
theorem Su (h0:ts.drop i= .nm uR::ts.drop (i+1)) (b:ts.drop (i+1)= .num I::ts.drop (i+1+1)):fT (ts.drop i)=some (⟨false,I,0⟩,ts.drop (i+1+1)):=by
 rw[h0,b];simp only[fT];rw[if_neg zd,if_pos trivial]
theorem Sw (h0: ∀r,ts.drop i≠ .nm sF::r) (a: ∀r,ts.drop i≠ .nm uR::r):fT (ts.drop i)=none:=by
 generalize ts.drop i=l at h0 a;unfold fT
 grind
def sH (e:Bs) (g:Gd) (t:Bs) (o:List Ro):Tr×Bs:=(⟨0,e,g,o,0⟩,t)
def iu (e:Bs) (g:Gd):List MT->Option (Tr×Bs)
 | .sym 62:: .nm t::r=>(kM r).map (sH e g t)
 |_=>none
theorem Sx (h: ∀t r,ts.drop i≠ .nm t::r):fq (ts.drop i)=none:=by
 simp_all[fq]
theorem uS (e:Bs) (l:List MT):fq (.nm e::l)=match mu l with
 |some (g,r)=>iu e g r
 |none=>none:=by
 simp only[fq];cases mu l with
 |none=>rfl
 |some x=>
  obtain⟨g,r⟩:=x;simp only[];rcases r with _|⟨x,r⟩
  ·rfl
  ·cases x with
   |nm _=>rfl
   |num _=>rfl
   |sym n=>
    by_cases a:n=62
    ·subst a;rcases r with _|⟨y,r⟩
     ·rfl
     ·cases y<;>rfl
    ·simp[iu,a]
theorem Sy (h0:ts.drop i= .nm q::ts.drop (i+1)) (a: ∀r,ts.drop (i+1)≠ .nm oo::r):fq (ts.drop i)=iu q ku (ts.drop (i+1)):=by
 rw[h0,uS];generalize ts.drop (i+1)=l at a;cases l with
 |nil=>rfl
 |cons x r=>
  cases x with
  |num v=>rfl
  |sym n=>rfl
  |nm k=>
   have b:k≠oo:=λq=>a r (by rw[q]);have:mu (.nm k::r)=none:=by
    unfold mu
    grind
   rw[this];rfl
theorem Sz {m v:Int} {r:List MT} (h0:ts.drop i= .nm q::ts.drop (i+1)) (b:ts.drop (i+1)= .nm oo:: .num I:: .sym 38:: .num m:: .sym 61:: .num v::r):fq (ts.drop i)=iu q ⟨true,I,m,v⟩ r:=by
 grind [uS,mu]
theorem vo (h0:ts.drop i= .nm q::ts.drop (i+1)) (b:ts.drop (i+1)= .nm oo::ts.drop (i+1+1)) (h: ∀a m v r,ts.drop (i+1+1)≠ .num a:: .sym 38:: .num m:: .sym 61:: .num v::r):fq (ts.drop i)=none:=by
 simp_all[uS,mu]
theorem TB {g:Gd} (h: ∀r,ts.drop i≠ .sym 62::r):iu q g (ts.drop i)=none:=by
 simp_all[iu]
theorem TC {g:Gd} (h0:ts.drop i= .sym 62::ts.drop (i+1)) (h: ∀t r,ts.drop (i+1)≠ .nm t::r):iu q g (ts.drop i)=none:=by
 simp_all[iu]
theorem Ib {t:Bs} {g:Gd} (h0:ts.drop i= .sym 62::ts.drop (i+1)) (h:ts.drop (i+1)= .nm t::ts.drop (i+1+1)):iu q g (ts.drop i)=(kM (ts.drop (i+1+1))).map (sH q g t):=by
 rw[h0,h];rfl
theorem TD (b:i<=ts.length) (h: ∀r,ts.drop i≠ .sym 58::r):kM (ts.drop i)=if i=ts.length then some [] else none:=by
 by_cases a:i=ts.length
 ·rw[Sh a,if_pos a];rfl
 ·rw[if_neg a,oC zo];rw[oC zo] at h;simp_all[kM]
def mN (R:Option (Tr×Bs)) (e:Bs) (g:Gd) (t:Bs) (ts:List MT) (acc:List Ro) (n:Nat) (b:Bool):Prop:=
 (b=true-> ∃f,(ts.drop n).length<f/\R=(eO f (ts.drop n)).map (λo=>sH e g t (acc++o)))/\(b=false->R=if n=ts.length then some (sH e g t acc) else none)
variable {R:Option (Tr×Bs)} {e t:Bs} {g:Gd} {acc:List Ro} {o:Ro}
theorem mN.start (h:R=(kM (ts.drop i)).map (sH e g t)) (h0:ts.drop i= .sym 58::ts.drop (i+1)):mN R e g t ts [] (i+1) true:=
 ⟨λ_=>⟨_,Nat.lt_succ_self _,by rw[h,h0];rfl⟩,λh=>by cases h⟩
theorem sI (f:Nat) (l:List MT):eO (f+1) l=match fT l with
 |none=>none
 |some (o,[])=>some [o]
 |some (o,.sym 59::r)=>(eO f r).map (λx=>o::x)
 |some _=>none:=rfl
theorem mN.bad (h:mN R e g t ts acc n true) (h0:fT (ts.drop n)=none):R=none:=by
 obtain⟨f,b,h⟩:=h.1 rfl;obtain⟨f,rfl⟩: ∃a,f=a+1:=⟨f-1,zo⟩
 grind [sI]
theorem mN.more (h:mN R e g t ts acc n true) (h0:fT (ts.drop n)=some (o,ts.drop k)) (c:n<k) (d:k<ts.length) (a:ts.drop k= .sym 59::ts.drop (k+1)):mN R e g t ts (acc++[o]) (k+1) true:=by
 obtain⟨f,i,h⟩:=h.1 rfl;obtain⟨f,rfl⟩: ∃b,f=b+1:=⟨f-1,zo⟩
 refine⟨λ_=>⟨f,?_,?_⟩,λh=>by cases h⟩
 ·grind
 ·rw[h,sI,h0,a];simp only[Option.map_map]
  congr 1
  grind
theorem mN.last (h:mN R e g t ts acc n true) (h0:fT (ts.drop n)=some (o,ts.drop k)) (b:k<=ts.length) (c: ∀r,ts.drop k≠ .sym 59::r):mN R e g t ts (acc++[o]) k false:=by
 obtain⟨f,d,h⟩:=h.1 rfl;obtain⟨f,rfl⟩: ∃a,f=a+1:=⟨f-1,zo⟩
 refine⟨λh=>(by cases h),λ_=>?_⟩
 grind [sI,oC]
end
structure OZ where
 ls:List Ro
 A:Option Addr
 c:Nat
 n:Nat
end Go.Drv
namespace Go.Sv
theorem Hp.bigSnoc {w:World} {F:G->aB} {hs:List G} {h':G} (h:Hp W Q (U++[F h']) w) (f:U[l]?=some (aF F hs)):Hp W Q (U.set l (aF F (hs++[h']))) w:=by
 have e:(U++[F h']).Perm ([F h',aF F hs]++U.eraseIdx l):=
  (qi _ _).trans (List.Perm.cons _ (nv f))
 have g:=(h.perm e).bundle (A:=aF F (hs++[h'])) λi j=>by
  obtain⟨a,b,k,m,n,c,d,o,s,p,q⟩:=j;have r:(F h'::hs.map F).Perm ((hs++[h']).map F):=by
   rw[qN];exact(qi _ _).symm
  refine Sep.perm r ⟨a,b,k,m,n,?_⟩;exact Sep.ext p λx=>by rw[o x];exact⟨.inl,λh=>h.elim id λh=>absurd h (q x)⟩
 exact g.perm (oa _ f)
end Go.Sv
namespace Go.Drv
open Go.Sv
def cE (h:TH):aB:=OS 200 ax h.A h.c h.t.ops
structure PH where
 named:Bool
 name:Bs
 sA:Option Addr
 sc:Nat
 ss:List Bs
 tA:Option Addr
 tc:Nat
 hs:List TH
 gA:Option Addr
 gc:Nat
 tg:List Bs
def PH.ps (P:PH):PS:=⟨P.named,P.name,P.ss,P.hs.map (·.t),P.tg⟩
def bF:PH:=⟨false,[],none,0,[],none,0,[],none,0,[]⟩
section
variable {ts:List MT} {p:PS} {kw n:Bs}
theorem TE (h:ts.length=0):eB p ts=some p:=by
 rw[qO h];rfl
theorem TF (h0:ts.length≠0) (h: ∀t r,ts.drop 0≠ .nm t::r):eB p ts=none:=by
 simp_all[eB]
theorem oD (h:ts.drop 0= .nm kw::ts.drop (0+1)):eB p ts=if p.named=false then (match ts.drop (0+1) with
 |[.nm n]=>if kw=qv then some {p with named:=true,name:=n} else none
 |_=>none)
 else if kw=kK then (match ts.drop (0+1) with
  |[.nm n]=>some {p with ss:=p.ss++[n]}
  |_=>none)
 else if kw=kL/\p.ss≠[] then (fq (ts.drop (0+1))).map (λx=>{p with ts:=p.ts++[{x.1 with frm:=(p.ss.length:Int)-1}],tg:=p.tg++[x.2]})
 else none:=by
 rw[List.drop_zero] at h;generalize ts.drop (0+1)=l at h;subst h;rfl
theorem kMx {f:Bs->Option G} (h:ts.drop (0+1)= .nm n::ts.drop (0+1+1)) (a:0+1+1=ts.length):(match ts.drop (0+1) with
 |[.nm n]=>f n
 |_=>none)=f n:=by
 grind
theorem kHU {f:Bs->Option G} (h:ts.drop (0+1)= .nm n::ts.drop (0+1+1)) (a:0+1<ts.length) (b: ¬0+1+1=ts.length):(match ts.drop (0+1) with
 |[.nm n]=>f n
 |_=>none)=none:=by
 grind [oC]
theorem kMy {f:Bs->Option G} (h: ∀t r,ts.drop (0+1)≠ .nm t::r):(match ts.drop (0+1) with
 |[.nm n]=>f n
 |_=>none)=none:=by
 grind
theorem Ic (h:ts.drop 0= .nm kw::ts.drop (0+1)) (a:p.named=false) (b:ts.drop (0+1)= .nm n::ts.drop (0+1+1)) (c:kw=qv) (d:0+1+1=ts.length):eB p ts=some {p with named:=true,name:=n}:=by
 grind [oD]
theorem Ie (h:ts.drop 0= .nm kw::ts.drop (0+1)) (a:p.named=false) (b:kw≠qv):eB p ts=none:=by
 grind [oD]
theorem Ig (h:ts.drop 0= .nm kw::ts.drop (0+1)) (a:p.named=false) (b: ∀t r,ts.drop (0+1)≠ .nm t::r):eB p ts=none:=by
 grind [oD]
theorem Ih (h:ts.drop 0= .nm kw::ts.drop (0+1)) (a:p.named=false) (b:ts.drop (0+1)= .nm n::ts.drop (0+1+1)) (c:0+1<ts.length) (d: ¬0+1+1=ts.length):eB p ts=none:=by
 grind [oD]
theorem TJ (h:ts.drop 0= .nm kw::ts.drop (0+1)) (a:p.named=true) (b:kw=kK) (c:ts.drop (0+1)= .nm n::ts.drop (0+1+1)) (d:0+1+1=ts.length):eB p ts=some {p with ss:=p.ss++[n]}:=by
 grind [oD]
theorem TL (h:ts.drop 0= .nm kw::ts.drop (0+1)) (a:p.named=true) (b:kw=kK) (c: ∀t r,ts.drop (0+1)≠ .nm t::r):eB p ts=none:=by
 grind [oD]
theorem TM (h:ts.drop 0= .nm kw::ts.drop (0+1)) (a:p.named=true) (b:kw=kK) (c:ts.drop (0+1)= .nm n::ts.drop (0+1+1)) (d:0+1<ts.length) (e: ¬0+1+1=ts.length):eB p ts=none:=by
 grind [oD]
theorem TN {x:Tr×Bs} (h:ts.drop 0= .nm kw::ts.drop (0+1)) (a:p.named=true) (hs:kw≠kK) (b:kw=kL) (c:p.ss≠[]) (d:fq (ts.drop (0+1))=some x):eB p ts=some {p with ts:=p.ts++[{x.1 with frm:=(p.ss.length:Int)-1}],tg:=p.tg++[x.2]}:=by
 grind [oD]
theorem TP (h:ts.drop 0= .nm kw::ts.drop (0+1)) (a:p.named=true) (hs:kw≠kK) (b:fq (ts.drop (0+1))=none):eB p ts=none:=by
 grind [oD]
theorem Ii (h:ts.drop 0= .nm kw::ts.drop (0+1)) (a:p.named=true) (hs:kw≠kK) (b: ¬(kw=kL/\p.ss≠[])):eB p ts=none:=by
 grind [oD]
end
def kN (ss:List Bs) (j:Nat):List (Bs×Int):=(List.range j).map λi=>(ss.getD i [],(i:Int))
theorem TQ (ss:List Bs) (j:Nat):kN ss (j+1)=kN ss j++[(ss.getD j [],(j:Int))]:=by
 grind [kN,List.range_succ]
theorem rv {ν:Type} (f:Nat->Bs) (g:Nat->ν) (q:Bs): ∀l:List Nat,br (l.map λi=>(f i,g i)) q=(l.find? λi=>decide (f i=q)).map g
 |[]=>rfl
 |a::l=>by
  rw[List.map_cons,br,rv f g q l,List.find?_cons]
  grind
theorem TR (ss:List Bs) (q:Bs):br (kN ss ss.length) q=(jd ss q).map (λ(i:Nat)=>(i:Int)):=rv (λi=>ss.getD i []) (λi=>(i:Int)) q (List.range ss.length)
theorem TS (h: ∀i,i<l->y.getD i []≠y.getD l []):br (kN y l) (y.getD l [])=none:=by
 unfold kN;rw[rv]
 grind
theorem Ij {F:G->aB} {hs a:List G} (h:hs.map F=a.map F):aF F hs=aF F a:=by
 grind [aF]
structure mx (P:PH) (H:List TH) (j:Nat):Prop where
 len:H.length=P.hs.length
 own:H.map cE=P.hs.map cE
 eq:gr P.ss (P.hs.map (·.t)) P.tg=(gr P.ss ((H.drop j).map (·.t)) (P.tg.drop j)).map λx=>(H.take j).map (·.t)++x
theorem mx.start (P:PH):mx P P.hs 0:=⟨rfl,rfl,zm⟩
def sJ (h:TH) (i:Int):TH:={h with t:={h.t with to:=i}}
variable {C:List TH}
theorem vp (h:l<C.length):C.drop l=C.getD l aK.d::C.drop (l+1):=by
 simp_all
theorem Bj (h:l<y.length):y.drop l=y.getD l aN.d::y.drop (l+1):=by
 simp_all
theorem mx.bad {P:PH} (h:mx P C l) (a:l<P.tg.length) (c:P.tg.length=P.hs.length) (b:jd P.ss (P.tg.getD l aN.d)=none):gr P.ss (P.hs.map (·.t)) P.tg=none:=by
 rw[h.eq,vp (by rw[h.len];omega),Bj a,List.map_cons,gr,b];rfl
theorem mx.next {P:PH} (h:mx P C l) (b:l<P.tg.length) (e:P.tg.length=P.hs.length) (c:jd P.ss (P.tg.getD l aN.d)=some L):mx P (C.set l (sJ (C.getD l aK.d) L)) (l+1):=by
 have a:l<C.length:=by rw[h.len];omega
 refine⟨by rw[qI];exact h.len,?_,?_⟩
 ·rw[<-h.own];apply List.ext_getElem?
  grind [sJ,cE]
 ·rw[h.eq,vp a,Bj b,List.map_cons,gr,c];simp only[Option.map_map];rw[List.drop_set_of_lt zo]
  congr 1
  grind [sJ,List.take_add_one,List.take_set_of_le]
theorem mx.fin {P:PH} (h:mx P C l) (a:P.tg.length<=l) (b:P.tg.length=P.hs.length):gr P.ss (P.hs.map (·.t)) P.tg=some (C.map (·.t)):=by
 rw[h.eq,List.drop_of_length_le (by rw[h.len];omega),List.take_of_length_le (by rw[h.len];omega)];simp[gr]
variable {O:PS}
theorem TU {q:PS} {ts:List MT} (h:eB O ts=some q) (a:O.ts.length=O.tg.length):q.ts.length=q.tg.length:=by
 unfold eB at h
 grind [Option.map_eq_some_iff]
theorem Ik: ∀(ls:List Bs) {p q:PS},be p ls=some q->p.ts.length=p.tg.length->q.ts.length=q.tg.length
 |[],p,q,h,a=>by cases h;exact a
 |l::ls,p,q,h,a=>by
  rw[be] at h;obtain⟨y,b,c⟩:=Option.bind_eq_some_iff.1 h;unfold hF at b;obtain⟨ts,_,d⟩:=Option.bind_eq_some_iff.1 b;exact Ik ls c (TU d a)
def lV:DH:=⟨[],none,0,[],none,0,[]⟩
def dL (d:DH):List aB:=[OS 9 aN d.sA d.sc d.ss,OS 198 aK d.tA d.tc d.hs,aF cE d.hs]
theorem Hp.dL0 {w:World} (h:Hp W Q [] w):Hp W Q (dL lV) w:=by
 have a:=(h.nilOS (J:=9) (K:=aN)).nilOS (J:=198) (K:=aK);exact a.newBig (F:=cE) 0 gV λw=>OS.emp w
theorem Bk (h:be jc (eA q)=none):eH q=(2,oB):=by grind [eH]
theorem Bl (h:be jc (eA q)=some O):eH q=fU O:=by grind [eH]
theorem Il (h:O.named=false):fU O=(2,oB):=by grind [fU]
theorem Im (h:O.named=true) (a: ¬O.ss.Nodup):fU O=(7,oB):=by grind [fU]
theorem Ip (h:O.named=true) (a:O.ss.Nodup) (b:gr O.ss O.ts O.tg=none):fU O=(6,oB):=by grind [fU]
variable {D:List Tr}
theorem Iq (h:O.named=true) (a:O.ss.Nodup) (b:gr O.ss O.ts O.tg=some D) (c:aQ ⟨O.name,O.ss,D⟩≠0):fU O=(aQ ⟨O.name,O.ss,D⟩,oB):=by grind [fU]
theorem Bm (h:O.named=true) (a:O.ss.Nodup) (b:gr O.ss O.ts O.tg=some D) (c:aQ ⟨O.name,O.ss,D⟩=0):fU O=(0,⟨O.name,O.ss,D⟩):=by grind [fU]
structure IS where
 st:Int
 wt:Bool
 cd:Nat
abbrev ee (ts:List Tr) (i:Nat):Tr:=ts.getD i ed
def kO (ts:List Tr) (st:Int) (ev:Bs) (i:Nat):Bool:=decide ((ee ts i).frm=st/\(ee ts i).ev=ev)
def iv (ts:List Tr) (st:Int) (ev:Bs) (k:Nat):Option Nat:=(List.range' k (ts.length-k)).find? (kO ts st ev)
theorem TV (h: ∀i,l<=i->i<D.length->kO D I q i=false):iv D I q l=none:=by
 unfold iv;rw[List.find?_eq_none];intro i a;obtain⟨b,c⟩:=List.mem_range'_1.1 a;rw[h i b zo];decide
theorem Ir (o:l<=L) (p:L<D.length) (h: ∀i,l<=i->i<L->kO D I q i=false) (f:kO D I q L=true):iv D I q l=some L:=by
 unfold iv;have e:List.range' l (D.length-l)=List.range' l (L-l)++L::List.range' (L+1) (D.length-L-1):=by
  have d:=List.range'_append_1 (s:=l) (m:=L-l) (n:=D.length-L);rw[show L-l+(D.length-L)=D.length-l by omega,show l+(L-l)=L by omega] at d;rw[<-d]
  congr 1
  obtain⟨m,c⟩: ∃m,D.length-L=m+1:=⟨D.length-L-1,zo⟩
  rw[c,List.range'_succ];rfl
 rw[e,List.find?_append];have g:(List.range' l (L-l)).find? (kO D I q)=none:=by
  rw[List.find?_eq_none];intro i j;obtain⟨a,b⟩:=List.mem_range'_1.1 j;rw[h i a zo];decide
 rw[g,List.find?_cons,f];rfl
def cM (ts:List Tr) (s:IS) (ev:Bs) (k:Nat):IS×List Ro×Bool:=match iv ts s.st ev k with
 |none=>(s,[],false)
 |some i=>if (ee ts i).gd.used=false then ({s with st:=(ee ts i).to},(ee ts i).ops,false) else ({s with wt:=true,cd:=i},[⟨false,(ee ts i).gd.reg,0⟩],true)
def gW (q:Nat) (d:DH) (s:IS):List aB:=[aU q (.cells #[.string (bs d.name),.slice d.sA d.ss.length d.sc,.slice d.tA d.hs.length d.tc,.int .i64 s.st,.bool s.wt,.int .i64 s.cd] 257 (0,0)),OS 9 aN d.sA d.sc d.ss,OS 198 aK d.tA d.tc d.hs,aF cE d.hs]
theorem kx (hs:List TH) (i:Nat):ee (hs.map (·.t)) i=(hs.getD i aK.d).t:=Bh hs i
theorem yX {w:World} (h:Hp W Q U w) (a:U[l]?=some (aF cE C)) (e:L<C.length):RS w ax (C.getD L aK.d).A (C.getD L aK.d).t.ops:=
 h.bigOS aK.d a e (G:=λb w=>RS w ax b.A b.t.ops) λi b l=>OS.rs (show(OS 200 ax b.A b.c b.t.ops).sat w i from l)
theorem yY {s:IS} (h: ∀i,l<=i->i<C.length-> ¬((C.getD i aK.d).t.frm=s.st/\(C.getD i aK.d).t.ev=q)):cM (C.map (·.t)) s q l=(s,[],false):=by
 unfold cM;rw[TV λi a b=>qQ (by rw[kx];exact h i a (by simpa using b))]
theorem yZ {s:IS} (a:l<=L) (b:L<C.length) (h: ∀i,l<=i->i<L-> ¬((C.getD i aK.d).t.frm=s.st/\(C.getD i aK.d).t.ev=q)) (c:(C.getD L aK.d).t.frm=s.st/\(C.getD L aK.d).t.ev=q) (e:(C.getD L aK.d).t.gd.used=false):cM (C.map (·.t)) s q l=({s with st:=(C.getD L aK.d).t.to},(C.getD L aK.d).t.ops,false):=by
 unfold cM;rw[Ir a (by simpa using b) (λi f g=>qQ (by rw[kx];exact h i f g)) (qR (by rw[kx];exact c))];simp only[kx];rw[if_pos e]
theorem ya {s:IS} (a:l<=L) (b:L<C.length) (h: ∀i,l<=i->i<L-> ¬((C.getD i aK.d).t.frm=s.st/\(C.getD i aK.d).t.ev=q)) (c:(C.getD L aK.d).t.frm=s.st/\(C.getD L aK.d).t.ev=q) (e:(C.getD L aK.d).t.gd.used=true):cM (C.map (·.t)) s q l=({s with wt:=true,cd:=L},[⟨false,(C.getD L aK.d).t.gd.reg,0⟩],true):=by
 unfold cM;rw[Ir a (by simpa using b) (λi f g=>qQ (by rw[kx];exact h i f g)) (qR (by rw[kx];exact c))];simp only[kx];rw[if_neg (by rw[e];decide)]
def ao (ts:List Tr) (s:IS) (ev:Bs):(IS×List Ro×Bool)×Int:=if s.wt=true then ((s,[],false),9) else (cM ts s ev 0,0)
def Bn (a b:Int):Int:=IntKind.u64.wrap ((BitVec.ofInt IntKind.u64.bits a&&&BitVec.ofInt IntKind.u64.bits b).toNat)
def ak (ts:List Tr) (s:IS) (v:Int):(IS×List Ro×Bool)×Int:=if s.wt=false then ((s,[],false),9)
 else if Bn v (ee ts s.cd).gd.mask=(ee ts s.cd).gd.val then ((⟨(ee ts s.cd).to,false,0⟩,(ee ts s.cd).ops,false),0)
 else (cM ts ⟨s.st,false,0⟩ (ee ts s.cd).ev (s.cd+1),0)
def hK (v:Int):Bs:=Lib.decDigits v.toNat
theorem Bo (h:l<256):(UInt8.ofNat l).toNat=l:=by simp_all
theorem TW (h:l<10):bL (UInt8.ofNat (48+l))=true:=qR (by grind [Bo])
theorem yb (u:Nat): ∀x∈Lib.decDigits u,bL x=true:=by
 induction u using Nat.strongRecOn with
 |_ u a=>
  grind [Lib.decDigits,TW]
theorem TX (u:Nat):Lib.decDigits u≠[]:=by
 rw[Lib.decDigits];split<;>simp
theorem It (n:Nat) (a b:Bs):av n (a++b)=av (av n a) b:=by simp[av]
theorem TY (u:Nat):av 0 (Lib.decDigits u)=u:=by
 induction u using Nat.strongRecOn with
 |_ u a=>
  grind [Lib.decDigits,vn,IU,Bo,It]
theorem Tb (u:Nat) (h:0<u):(Lib.decDigits u).getD 0 0≠48:=by
 induction u using Nat.strongRecOn with
 |_ u a=>
  rw[Lib.decDigits];split
  ·rename_i b;intro k;have c:=congrArg UInt8.toNat k
   grind [Bo]
  grind [Lib.decDigits]
theorem Te (u:Nat):bD (Lib.decDigits u)=false:=by
 grind [yR,yb,Lib.decDigits]
theorem Th (u:Nat):dh (Lib.decDigits u)=true:=by
 grind [lU,Tb,Lib.decDigits,yb]
theorem Tj (h0:0<=I) (a:I<18446744073709551616):fS (hK I)=some (.num I):=by
 grind [hK,TY,yW,Te,Th]
def qw:MT->Bs
 | .nm t=>t
 | .num v=>hK v
 | .sym c=>ft c
def iw (sp:Bs):Nat->Bs
 |0=>[]
 |n+1=>sp++iw sp n
def dZ (sp:Bs):List (Nat×MT)->Bs
 |[]=>[]
 |(n,t)::r=>iw sp n++(qw t++dZ sp r)
theorem Bp (sp:Bs) (a b:List (Nat×MT)):dZ sp (a++b)=dZ sp a++dZ sp b:=by
 induction a with
 |nil=>rfl
 |cons x a c=>grind [dZ]
def Iu:MT->Prop
 | .nm t=>bD t=true
 | .num v=>0<=v/\v<18446744073709551616
 | .sym c=>mv c
def kP:List (Nat×MT)->Prop
 |[]=>True
 |(_+1,_)::_=>True
 |(0,.sym _)::_=>True
 |(0,_)::_=>False
def Ts:MT->List (Nat×MT)->Prop
 | .sym _,_=>True
 |_,r=>kP r
def jY:List (Nat×MT)->Prop
 |[]=>True
 |(n,t)::r=>Iu t/\Ts t r/\jY r
variable {Y:List (Nat×MT)}
theorem yc {b:List (Nat×MT)} (d:jY Y) (g:jY b) (e:kP b):jY (Y++b):=by
 induction Y with
 |nil=>exact g
 |cons x Y h=>
  obtain⟨n,t⟩:=x;refine⟨d.1,?_,h d.2.2⟩;have f:=d.2.1;cases t with
  |sym c=>exact trivial
  |nm w=>
   cases Y with
   |nil=>exact e
   |cons y Y=>obtain⟨m,s⟩:=y;cases m<;>cases s<;>exact f
  |num w=>
   cases Y with
   |nil=>exact e
   |cons y Y=>obtain⟨m,s⟩:=y;cases m<;>cases s<;>exact f
def vq (l:Bs):Prop:=l=[]\/aZ (l.getD 0 0)=false
theorem Iv (h:gq F=true):aZ F=false:=by
 rcases of_decide_eq_true h with rfl|rfl<;>rfl
theorem Tv {r:Bs} (h: ∀x∈q,gq x=true) (h0:q≠[]):vq (q++r):=by
 cases q with
 |nil=>grind
 |cons a s=>exact .inr (Iv (h a (List.mem_cons_self ..)))
theorem Bq {sp:Bs} (h: ∀x∈sp,gq x=true): ∀n,∀x∈iw sp n,gq x=true
 |0,x,a=>by cases a
 |n+1,x,a=>by
  rcases List.mem_append.1 a with a|a
  ·grind
  ·exact Bq h n x a
theorem Ty {r:Bs} (h: ∀x∈q,gq x=true):tk (q++r)=tk r:=by
 induction q with
 |nil=>rfl
 |cons a q b=>grind [IM]
theorem Iw {a:Bs} (hs: ∀x∈q,gq x=true) (h0:q≠[]) (d:vq a) (e:jY Y) (b:kP Y):vq (dZ q Y++a):=by
 cases Y with
 |nil=>exact d
 |cons x Y=>
  obtain⟨n,t⟩:=x;cases n with
  |succ n=>grind [dZ,iw,Tv]
  |zero=>
   cases t with
   |nm w=>exact b.elim
   |num w=>exact b.elim
   |sym c=>
    rcases e.1 with rfl|rfl|rfl|rfl|rfl<;>exact .inr rfl
theorem Ix {w:Bs} (h0:w≠[]) (a: ∀x∈w,aZ x=true) (f:vq q) {t:MT} (g:fS w=some t):tk (w++q)=(tk q).map (λx=>t::x):=by
 obtain⟨b,d⟩:=IT rfl a f;cases h:w with
 |nil=>grind
 |cons c r=>
  rw[h] at a b d g;have e:=a c (List.mem_cons_self ..);have j:gq c=false:=by
   grind [Iv]
  have l:gU c=false:=by
   cases i:gU c with
   |false=>rfl
   |true=>rcases of_decide_eq_true i with rfl|rfl|rfl|rfl<;>exact absurd e zd
  have m: ¬(c=45/\(r++q).getD 0 0=62):=λk=>by rw[k.1] at e;exact absurd e zd
  grind [IQ]
theorem Iy (h:bD q=true):q≠[]/\ ∀x∈q,aZ x=true:=by
 grind [sD,List.getElem_of_mem]
theorem Iz (h:bL F=true):aZ F=true:=by grind [aZ]
theorem JA {sp a:Bs} (hs: ∀x∈sp,gq x=true) (h0:sp≠[]) (e:vq a): ∀ {l:List (Nat×MT)},jY l->tk (dZ sp l++a)=(tk a).map (λx=>l.map (·.2)++x)
 |[],_=>by simp[dZ]
 |(n,t)::r,hg=>by
  have d:=JA hs h0 e hg.2.2;have b: ∀y:Option (List MT),(y.map (λx=>r.map (·.2)++x)).map (λx=>t::x)=y.map (λx=>((n,t)::r).map (·.2)++x):=λy=>by cases y<;>rfl
  simp only[dZ,qL];rw[Ty (Bq hs n)];cases t with
  |nm w=>
   obtain⟨f,g⟩:=Iy hg.1;show tk (w++(dZ sp r++a))=_;rw[Ix f g (Iw hs h0 e hg.2.2 hg.2.1) (Bi hg.1),d,b]
  |num v=>
   show tk (hK v++(dZ sp r++a))=_;rw[Ix (w:=hK v) (TX _) (λx h=>Iz (yb _ x h)) (Iw hs h0 e hg.2.2 hg.2.1) (Tj hg.1.1 hg.1.2),d,b]
  |sym c=>
   show tk (ft c++(dZ sp r++a))=_;rcases hg.1 with rfl|rfl|rfl|rfl|rfl
   ·show tk (58::(dZ sp r++a))=_;rw[vl z6 rfl,d];grind
   ·show tk (59::(dZ sp r++a))=_;rw[vl z6 rfl,d];grind
   ·show tk (38::(dZ sp r++a))=_;rw[vl z6 rfl,d];grind
   ·show tk (61::(dZ sp r++a))=_;rw[vl z6 rfl,d];grind
   ·show tk (45::62::(dZ sp r++a))=_
    grind [IP]
theorem JB (h:aZ F=true):F≠35/\F≠10/\F≠32:=by
 refine⟨?_,?_,?_⟩<;>(rintro rfl;exact absurd h zd)
theorem Tz {t:MT} (h:Iu t): ∀x∈qw t,x≠35/\x≠10/\x≠32:=by
 intro x a;cases t with
 |nm w=>exact JB ((Iy h).2 x a)
 |num v=>exact JB (Iz (yb _ x a))
 |sym c=>
  rcases h with rfl|rfl|rfl|rfl|rfl<;>(revert x;show ∀x∈ft _,_;decide)
theorem Br {sp:Bs} (hs: ∀x∈sp,gq x=true): ∀ {l:List (Nat×MT)},jY l-> ∀x∈dZ sp l,x≠35/\x≠10
 |[],_,x,a=>by cases a
 |(n,t)::r,hg,x,a=>by
  rcases List.mem_append.1 a with a|a
  ·rcases of_decide_eq_true (Bq hs n x a) with rfl|rfl<;>decide
  ·rcases List.mem_append.1 a with a|a
   ·have:=Tz hg.1 x a;grind
   ·exact Br hs hg.2.2 x a
theorem UB {b:Bs} (h: ∀x∈q,x≠35):ai (q++b)=q++ai b:=by
 grind [ai,List.takeWhile_append_of_pos]
theorem UC (h: ∀x∈q,x≠35):ai q=q:=by
 have:=UB (b:=[]) h;simp_all[ai]
theorem UD (hs: ∀x∈q,gq x=true) (h0:q≠[]) (a:jY Y) (p:PS):hF p (dZ q Y)=eB p (Y.map (·.2)):=by
 unfold hF;rw[UC λx b=>(Br hs a x b).1];have:=JA hs h0 (.inl z6) a;grind [IL]
def vr (d:Dv):List (Nat×MT):=[(0,.nm qv),(1,.nm d.name)]
def uT (s:Bs):List (Nat×MT):=[(0,.nm kK),(1,.nm s)]
def oE (g:Gd):List (Nat×MT):=if g.used=true then [(1,.nm oo),(1,.num g.reg),(1,.sym 38),(1,.num g.mask),(1,.sym 61),(1,.num g.val)] else []
def iy (o:Ro):List (Nat×MT):=if o.wr=true then [(1,.nm sF),(1,.num o.reg),(1,.num o.val)] else [(1,.nm uR),(1,.num o.reg)]
def opsL:List Ro->List (Nat×MT)
 |[]=>[]
 |o::r=>(0,.sym 58)::iy o++r.flatMap (λo=>(0,.sym 59)::iy o)
def iU (ss:List Bs) (t:Tr):Bs:=ss.getD t.to.toNat []
def gX (ss:List Bs) (t:Tr):List (Nat×MT):=[(2,.nm kL),(1,.nm t.ev)]++(oE t.gd++([(1,.sym 62),(1,.nm (iU ss t))]++opsL t.ops))
def kQ (d:Dv) (i:Nat):List Tr:=d.ts.filter (λt=>decide (t.frm=(i:Int)))
def kR (d:Dv) (i:Nat):List (List (Nat×MT)):=uT (d.ss.getD i [])::(kQ d i).map (gX d.ss)
def vt (d:Dv):List (List (Nat×MT)):=vr d::(List.range d.ss.length).flatMap (kR d)
def ky (ls:List Bs):Bs:=ls.flatMap (λl=>l++[10])
def kS (d:Dv):Bs:=ky ((vt d).map (dZ [32]))
def u64 (v:Int):Prop:=0<=v/\v<18446744073709551616
def mO (o:Ro):Prop:=u64 o.reg/\u64 o.val
def uU (g:Gd):Prop:=u64 g.reg/\u64 g.mask/\u64 g.val
def sK (t:Tr):Prop:=uU t.gd/\ ∀o∈t.ops,mO o
def du (d:Dv):Prop:= ∀t∈d.ts,sK t
theorem JC {o:Ro} (h:mO o):jY (iy o)/\kP (iy o):=by
 unfold iy;split
 ·exact⟨⟨rfl,trivial,h.1,trivial,h.2,trivial,trivial⟩,trivial⟩
 ·exact⟨⟨rfl,trivial,h.1,trivial,trivial⟩,trivial⟩
theorem JD: ∀ {l:List Ro},(∀o∈l,mO o)->jY (l.flatMap (λo=>(0,MT.sym 59)::iy o))/\kP (l.flatMap (λo=>(0,MT.sym 59)::iy o))
 |[],_=>⟨trivial,trivial⟩
 |o::r,h=>by
  have a:=JD λx b=>h x (List.mem_cons_of_mem _ b);have c:=JC (h o (List.mem_cons_self ..));rw[List.flatMap_cons];exact⟨⟨.inr (.inl z6),trivial,yc c.1 a.1 a.2⟩,trivial⟩
theorem JE {l:List Ro} (h: ∀o∈l,mO o):jY (opsL l)/\kP (opsL l):=by
 cases l with
 |nil=>exact⟨trivial,trivial⟩
 |cons o r=>
  have a:=JD λx b=>h x (List.mem_cons_of_mem _ b);have c:=JC (h o (List.mem_cons_self ..));exact⟨⟨.inl rfl,trivial,yc c.1 a.1 a.2⟩,trivial⟩
variable {T:Gd}
theorem UE (h:uU T):jY (oE T):=by
 unfold oE;split
 ·exact⟨rfl,trivial,h.1,trivial,.inr (.inr (.inl z6)),trivial,h.2.1,trivial,.inr (.inr (.inr (.inl z6))),trivial,h.2.2,trivial,trivial⟩
 ·exact trivial
variable {J:Tr}
theorem UF (b:bD J.ev=true) (c:bD (iU y J)=true) (a:sK J):jY (gX y J):=by
 have d:jY ([(1,.sym 62),(1,.nm (iU y J))]++opsL J.ops):=by
  refine yc ⟨.inr (.inr (.inr (.inr z6))),trivial,c,trivial,trivial⟩ (JE a.2).1 (JE a.2).2
 have e:=yc (UE a.1) d trivial;have f:kP (oE J.gd++([(1,.sym 62),(1,.nm (iU y J))]++opsL J.ops)):=by
  unfold oE;split<;>exact trivial
 exact⟨rfl,trivial,b,by exact f,e⟩
variable {z:Dv}
theorem UG (h:bD z.name=true):jY (vr z):=⟨rfl,trivial,h,trivial,trivial⟩
theorem UH (h:bD q=true):jY (uT q):=⟨rfl,trivial,h,trivial,trivial⟩
def sn:List (Nat×MT)->List MT:=λl=>l.map (·.2)
theorem Bt (a b:List (Nat×MT)):sn (a++b)=sn a++sn b:=qN
theorem JF {o:Ro} (h:cY o=true) (r:List MT):fT (sn (iy o)++r)=some (o,r):=by
 obtain⟨wr,reg,val⟩:=o;cases wr with
 |true=>rfl
 |false=>
  obtain rfl:val=0:=by grind [cY]
  rfl
theorem JG: ∀(l:List Ro) (o:Ro) (n:Nat),l.length<n->(∀x∈o::l,cY x=true)->eO n (sn (iy o)++sn (l.flatMap (λo=>(0,MT.sym 59)::iy o)))=some (o::l)
 |[],o,n+1,_,h=>by
  rw[sI,JF (h o (List.mem_cons_self ..))];rfl
 |p::l,o,n+1,hn,h=>by
  have b:=JG l p n zg λx a=>h x (List.mem_cons_of_mem _ a)
  grind [JF,eO,sn]
theorem UI (l:List Ro):l.length<=(sn (l.flatMap (λo=>(0,MT.sym 59)::iy o))).length:=by
 induction l with
 |nil=>grind
 |cons o l a=>
  grind [sn]
theorem UJ {l:List Ro} (h: ∀x∈l,cY x=true):kM (sn (opsL l))=some l:=by
 cases l with
 |nil=>rfl
 |cons o l=>
  have e:sn (opsL (o::l))= .sym 58::(sn (iy o)++sn (l.flatMap (λo=>(0,MT.sym 59)::iy o))):=by
   show sn ((0,.sym 58)::iy o++_)=_;rw[Bt];rfl
  rw[e];show eO (_+1) _=_
  grind [JG,UI]
theorem UK (h:ch T=true) (r:List MT):mu (sn (oE T)++ .sym 62::r)=some (T,.sym 62::r):=by
 obtain⟨used,reg,mask,val⟩:=T;cases used with
 |true=>rfl
 |false=>
  obtain⟨rfl,rfl,rfl⟩:reg=0/\mask=0/\val=0:=by grind [ch]
  rfl
theorem UL (a:ch J.gd=true) (b: ∀x∈J.ops,cY x=true):fq (sn (gX y J)).tail=some (⟨0,J.ev,J.gd,J.ops,0⟩,iU y J):=by
 have e:(sn (gX y J)).tail= .nm J.ev::(sn (oE J.gd)++ .sym 62::(.nm (iU y J)::sn (opsL J.ops))):=by
  show MT.nm J.ev::sn (oE J.gd++([(1,.sym 62),(1,.nm (iU y J))]++opsL J.ops))=_;rw[Bt,Bt];rfl
 rw[e,uS,UK a];show(kM (sn (opsL J.ops))).map _=_;rw[UJ b];rfl
theorem UM (d:O.named=true) (hs:O.ss≠[]) (a:ch J.gd=true) (b: ∀x∈J.ops,cY x=true):
 eB O (sn (gX y J))=some {O with ts:=O.ts++[⟨(O.ss.length:Int)-1,J.ev,J.gd,J.ops,0⟩],tg:=O.tg++[iU y J]}:=by
 have e:sn (gX y J)= .nm kL::(sn (gX y J)).tail:=rfl;have c:=UL (y:=y) a b;rw[e];show(if O.named=false then _ else if kL=kK then _ else if kL=kL/\O.ss≠[] then (fq (sn (gX y J)).tail).map _ else none)=_;rw[if_neg zg,if_neg zd,if_pos ⟨rfl,hs⟩,c];rfl
theorem UO (a:O.named=true):eB O (sn (uT q))=some {O with ss:=O.ss++[q]}:=by
 show(if O.named=false then _ else if kK=kK then some {O with ss:=O.ss++[q]} else _)=_
 grind
theorem UP (d:Dv):eB jc (sn (vr d))=some {jc with named:=true,name:=d.name}:=rfl
def runT (p:PS):List (List (Nat×MT))->Option PS
 |[]=>some p
 |l::r=>(eB p (sn l)).bind λq=>runT q r
theorem UQ (p:PS): ∀(a b:List (List (Nat×MT))),runT p (a++b)=(runT p a).bind λq=>runT q b:=by
 intro a
 induction a generalizing p with
 |nil=>intro b;rfl
 |cons l r c=>
  intro b;rw[qM,runT,runT];cases eB p (sn l) with
  |none=>rfl
  |some q=>grind
def zT (t:Tr):Tr:={t with to:=0}
theorem JH {ss:List Bs}: ∀(l:List Tr) (p:PS),p.named=true->p.ss≠[]->(∀t∈l,t.frm=(p.ss.length:Int)-1/\ch t.gd=true/\ ∀x∈t.ops,cY x=true)->
 runT p (l.map (gX ss))=some {p with ts:=p.ts++l.map zT,tg:=p.tg++l.map (iU ss)}
 |[],p,_,_,_=>by simp[runT]
 |t::l,p,a,hs,h=>by
  obtain⟨b,c,d⟩:=h t (List.mem_cons_self ..);rw[List.map_cons,runT,UM a hs c d];have e:(⟨(p.ss.length:Int)-1,t.ev,t.gd,t.ops,0⟩:Tr)=zT t:=by rw[<-b];rfl
  have g:=JH (ss:=ss) l {p with ts:=p.ts++[⟨(p.ss.length:Int)-1,t.ev,t.gd,t.ops,0⟩],tg:=p.tg++[iU ss t]} a hs (λx f=>h x (List.mem_cons_of_mem _ f))
  grind
def fu (d:Dv) (i:Nat):List Tr:=(List.range i).flatMap (kQ d)
theorem yd (d:Dv) (i:Nat):fu d (i+1)=fu d i++kQ d i:=by
 grind [fu,List.range_succ]
structure iV (d:Dv):Prop where
 name:bD d.name=true
 pos:0<d.ss.length
 few:d.ss.length<=32
 fewT:d.ts.length<=128
 nms: ∀k,k<d.ss.length->bD (d.ss.getD k [])=true
 tr: ∀t∈d.ts,iM d.ss.length t=true
 asc:d.ts.Pairwise (λa b=>a.frm<=b.frm)
 nd:d.ss.Nodup
theorem sL (h:aQ z=0):iV z:=by
 have c:df z=true:=by
  grind [kJ]
 have e:z.ss.Nodup:=by
  grind [Bd]
 obtain⟨f,a,g,q,k⟩:=(yT z).1 c;have r: ∀i (b:i<z.ts.length),z.ts.getD i ed=z.ts[i]:=λi b=>zg
 refine⟨f,a.1,a.2.1,a.2.2,g,λt s=>?_,?_,e⟩
 ·grind [List.getElem_of_mem]
 ·rw[List.pairwise_iff_getElem];intro i j b u l;have: ∀n,i+n<z.ts.length->(z.ts.getD i ed).frm<=(z.ts.getD (i+n) ed).frm:=by
   intro n
   induction n with
   |zero=>grind
   |succ n m=>
    intro o;have v:=m zo;rcases k (i+(n+1)) o with p|p
    ·omega
    grind
  have w:=this (j-i) zo
  grind
theorem oG (h:iV z) (a:J∈z.ts):0<=J.frm/\J.frm<z.ss.length/\0<=J.to/\J.to<z.ss.length/\bD J.ev=true/\ch J.gd=true/\J.ops.length<=16/\ ∀x∈J.ops,cY x=true:=by
 obtain⟨b,c,e,f,g,i⟩:=(jX _ _).1 (h.tr J a)
 grind [List.getElem_of_mem]
theorem Bu (h:iV z) (a:J∈z.ts):bD (iU z.ss J)=true:=by
 obtain⟨_,_,b,c,_⟩:=oG h a;exact h.nms _ zo
theorem UR (h:l<y.length):y.take (l+1)=y.take l++[y.getD l []]:=by
 simp_all
theorem JI {d:Dv} (h:iV d): ∀i,i<=d.ss.length->runT {jc with named:=true,name:=d.name} ((List.range i).flatMap (kR d))=some ⟨true,d.name,d.ss.take i,(fu d i).map zT,(fu d i).map (iU d.ss)⟩
 |0,_=>rfl
 |i+1,hi=>by
  have c:=JI h i zo;rw[List.range_succ,List.flatMap_append,UQ,c,Option.bind_some];have e:[i].flatMap (kR d)=uT (d.ss.getD i [])::(kQ d i).map (gX d.ss):=by simp[kR]
  rw[e,runT,UO rfl,Option.bind_some];have b:((d.ss.take i)++[d.ss.getD i []]).length=i+1:=zg
  rw[JH (kQ d i) ⟨true,d.name,d.ss.take i++[d.ss.getD i []],(fu d i).map zT,(fu d i).map (iU d.ss)⟩ z6 zm (λt f=>?_)]
  ·grind [yd,UR]
  ·have a:=List.mem_filter.1 f;obtain⟨_,_,_,_,_,g,_,j⟩:=oG h a.1
   grind
theorem JJ: ∀ {l:List Tr} (n:Int),l.Pairwise (λa b=>a.frm<=b.frm)->l.filter (λt=>decide (t.frm<n+1))=l.filter (λt=>decide (t.frm<n))++l.filter (λt=>decide (t.frm=n))
 |[],_,_=>rfl
 |a::l,n,h=>by
  obtain⟨e,c⟩:=List.pairwise_cons.1 h;have d:=JJ n c;by_cases f:a.frm<n
  ·rw[List.filter_cons_of_pos zg,List.filter_cons_of_pos zg,List.filter_cons_of_neg zg,d];rfl
  ·have g:l.filter (λt=>decide (t.frm<n))=[]:=List.filter_eq_nil_iff.2 λx i=>zg
   grind
theorem Bv {d:Dv} (h:iV d): ∀i:Nat,fu d i=d.ts.filter (λt=>decide (t.frm<(i:Int)))
 |0=>by
  refine(List.filter_eq_nil_iff.2 λx a=>?_).symm;have:=(oG h a).1
  grind
 |i+1=>by
  rw[yd,Bv h i,Int.natCast_succ,JJ _ h.asc];rfl
theorem UT (h:iV z):fu z z.ss.length=z.ts:=by
 simp_all[Bv,oG]
theorem UU (h:iV z) (a:J∈z.ts):jd z.ss (iU z.ss J)=some J.to.toNat:=by
 obtain⟨_,_,c,e,_⟩:=oG h a;unfold jd;rw[List.find?_range_eq_some];refine⟨qR rfl,List.mem_range.2 zo,λj b=>?_⟩;have:=sE.1 h.nd j J.to.toNat b zo;simp only[Bool.not_eq_true',decide_eq_false_iff_not];exact this
theorem JK {d:Dv} (h:iV d): ∀ {l:List Tr},(∀t∈l,t∈d.ts)->gr d.ss (l.map zT) (l.map (iU d.ss))=some l
 |[],_=>rfl
 |t::l,a=>by
  have b:=a t (List.mem_cons_self ..);rw[List.map_cons,List.map_cons,gr,UU h b];show(gr d.ss (l.map zT) (l.map (iU d.ss))).map _=_;rw[JK h λx c=>a x (List.mem_cons_of_mem _ c)];have e:({zT t with to:=((t.to.toNat:Nat):Int)}:Tr)=t:=by
   have f:((t.to.toNat:Nat):Int)=t.to:=by have:=(oG h b).2.2.1;omega
   rw[f];rfl
  grind
theorem UV (h:iV z):runT jc (vt z)=some ⟨true,z.name,z.ss,z.ts.map zT,z.ts.map (iU z.ss)⟩:=by
 grind [vt,runT,UP,JI,UT]
theorem UW (h:aQ z=0):fU ⟨true,z.name,z.ss,z.ts.map zT,z.ts.map (iU z.ss)⟩=(0,z):=Bm z6 (sL h).nd (JK (sL h) λ_ a=>a) h
theorem JL: ∀ {ls:List Bs},(∀l∈ls,∀c∈l,c≠10)->eA (ky ls)=ls++[[]]
 |[],_=>rfl
 |l::ls,h=>by
  have b:=JL λx a=>h x (List.mem_cons_of_mem _ a)
  grind [ky,vk]
theorem UX (h:iV z) (e:du z): ∀l∈vt z,jY l:=by
 intro l a;rcases qe.1 a with rfl|a
 ·exact UG h.name
 ·obtain⟨i,c,a⟩:=List.mem_flatMap.1 a;have c:=List.mem_range.1 c;rcases qe.1 a with rfl|a
  ·exact UH (h.nms i c)
  ·obtain⟨t,b,rfl⟩:=List.mem_map.1 a;have b:=(List.mem_filter.1 b).1;exact UF (oG h b).2.2.2.2.1 (Bu h b) (e t b)
theorem JM {sp:Bs} (hs: ∀x∈sp,gq x=true) (h0:sp≠[]): ∀ {ls:List (List (Nat×MT))} (p:PS),(∀l∈ls,jY l)->be p (ls.map (dZ sp))=runT p ls
 |[],p,_=>rfl
 |l::ls,p,h=>by
  rw[List.map_cons,be,runT,UD hs h0 (h l (List.mem_cons_self ..))];show(eB p (sn l)).bind _=_;cases eB p (sn l) with
  |none=>rfl
  |some q=>exact JM hs h0 q λx a=>h x (List.mem_cons_of_mem _ a)
theorem vu: ∀x∈([32]:Bs),gq x=true:=zd
theorem UY (h:aQ z=0) (a:du z):eH (kS z)=(0,z):=by
 have b:=UX (sL h) a;have e:be jc (eA (kS z))=some ⟨true,z.name,z.ss,z.ts.map zT,z.ts.map (iU z.ss)⟩:=by
  unfold kS;rw[JL ?_,Bg,JM vu zm _ b,UV (sL h)]
  ·rfl
  grind [Br,vu]
 grind [Bl,UW]
def Bw:Bs:=[111,102,102]
def JN:Bs:=[115,116,97,114,116]
def vv:Bs:=[105,114,113]
def ah (v:Int) (n:Nat):Int:=(IntKind.u64.wrap v)%n
theorem gI (v:Int) {n:Nat} (h:0<n):0<=ah v n/\ah v n<n:=⟨Int.emod_nonneg _ zo,Int.emod_lt_of_pos _ zo⟩
theorem Bx (v:Int):0<=IntKind.u64.wrap v:=by grind [IntKind.wrap_u64]
theorem vw (v:Int) (h:0<l):(IntKind.u64.wrap v).tmod l=ah v l:=by
 grind [ah,Bx]
theorem my (v:Int) (h:0<l):0<=(IntKind.u64.wrap v).tmod l/\(IntKind.u64.wrap v).tmod l<l:=by
 simp_all[vw,gI]
def uV:List Bs:=[JN,vv,kL,qv,[110,111,110,101],[]]
def ye (k:Int):Bs:=uV.getD (ah k 6).toNat []
def dR:List Bs:=[Bw,kL,[95,120],[83,116,97,116,101,51],oo,[111,110,95,49]]
def vx:List Bs:=[JN,vv,kL,qv]
structure Sml (d:Dv):Prop where
 s:d.ss.length<=40
 t:d.ts.length<=40
 n:d.name.length<=100
 o: ∀i,i<d.ts.length->(ee d.ts i).ops.length<=20/\(ee d.ts i).ev.length<=100
 k: ∀i,i<d.ss.length->(d.ss.getD i []).length<=100
def oM (o:Ro):Ro:=if o.wr=true then o else {o with val:=0}
def gM (g:Gd):Gd:=if g.used=true then ⟨true,g.reg,g.mask.tmod 4,g.val.tmod 4⟩ else ku
def bu (n f:Nat) (t:Tr):Nat:=if f+1<n/\ah t.frm 3=0 then f+1 else f
def jw (n:Nat) (l:List Tr):Nat:=l.foldl (bu n) 0
def qx (n f:Nat) (t:Tr):Tr:=⟨f,vx.getD (t.ev.length%4) [],gM t.gd,(t.ops.take 4).map oM,ah t.to n⟩
def ci (n:Nat):Nat->List Tr->List Tr
 |_,[]=>[]
 |f,t::r=>qx n (bu n f t) t::ci n (bu n f t) r
theorem JO (n:Nat): ∀(l:List Tr) (f:Nat) (t:Tr),ci n f (l++[t])=ci n f l++[qx n (bu n (l.foldl (bu n) f) t) t]
 |[],f,t=>rfl
 |a::l,f,t=>by
  rw[qM,ci,ci,JO n l,qM,List.foldl_cons]
def an (d:Dv):Nat:=1+d.ss.length%6
def cH (d:Dv):Dv:=⟨dR.getD (d.name.length%6) [],dR.take (an d),ci (an d) 0 (d.ts.take 20)⟩
theorem UZ (n:Nat) (l:List Tr) (t:Tr):jw n (l++[t])=bu n (jw n l) t:=by simp[jw]
theorem yf (d:G) {j:List G} (h:l<j.length):j.take (l+1)=j.take l++[j.getD l d]:=by
 simp_all
theorem Bz (d:Dv):0<an d/\an d<=6:=by grind [an]
theorem vy (a b:Nat):(a:Int).tmod (b:Int)=((a%b:Nat):Int):=rfl
theorem qy (a:(L:Int)<(l:Int)-1) (b:ah J.frm 3=0):bu l L J=L+1:=by
 grind [bu]
theorem JP (a: ¬(L:Int)<(l:Int)-1):bu l L J=L:=by
 grind [bu]
theorem JQ (a: ¬ah J.frm 3=0):bu l L J=L:=by
 grind [bu]
theorem CA (h:T.used=true):gM T=⟨true,T.reg,T.mask.tmod 4,T.val.tmod 4⟩:=by grind [gM]
theorem CB (h:T.used=false):gM T=ku:=by grind [gM]
theorem CC {o:Ro} (h:o.wr=true):oM o=o:=by grind [oM]
theorem CD {o:Ro} (h:o.wr=false):oM o=⟨o.wr,o.reg,0⟩:=by grind [oM]
theorem kC7 {n:List G} (h:l<=n.length) (a:l<=L) (b: ¬(l<n.length/\l<L)):n.take l=n.take L:=by
 grind
theorem Ua {H:List TH} (b:L<C.length) (h:H.map (·.t)=ci l 0 ((C.map (·.t)).take L)) {c:Nat} (a:J=qx l (bu l (jw l ((C.map (·.t)).take L)) (C.getD L aK.d).t) (C.getD L aK.d).t):
 (H++[(⟨J,Z,c⟩:TH)]).map (·.t)=ci l 0 ((C.map (·.t)).take (L+1)):=by
 rw[qN,h,yf ed zg,JO,show(C.map (·.t)).getD L ed=(C.getD L aK.d).t from kx C L,a];rfl
theorem Ub (a:L<C.length):jw l ((C.map (·.t)).take (L+1))=bu l (jw l ((C.map (·.t)).take L)) (C.getD L aK.d).t:=by
 rw[yf ed zg,UZ,show(C.map (·.t)).getD L ed=(C.getD L aK.d).t from kx C L]
theorem Hp.bigSnoc8 {w:World} {a b c d e f g:aB} {F:G->aB} {hs:List G} (h':G) {X:aB} (h:Hp W Q [a,b,c,d,e,f,g,aF F hs,X] w) (i:X=F h'):Hp W Q [a,b,c,d,e,f,g,aF F (hs++[h'])] w:=by
 subst i;exact Hp.bigSnoc (U:=[a,b,c,d,e,f,g,aF F hs]) (l:=7) h rfl
theorem JR: ∀q,q<6->bD (dR.getD q [])=true:=zd
theorem cU: ∀q,q<4->bD (vx.getD q [])=true:=zd
theorem yg (n:Nat): ∀(l:List Tr) (f:Nat),(ci n f l).length=l.length
 |[],_=>rfl
 |t::r,f=>by rw[ci,qB,yg n r,qB]
theorem Uc (g:Gd):ch (gM g)=true:=by
 unfold gM;split
 ·rfl
 ·rfl
theorem Ud (o:Ro):cY (oM o)=true:=by
 grind [oM,cY]
theorem vz (t:Tr) (a:L<l):bu l L t<l/\L<=bu l L t:=by
 grind [bu]
theorem Ue (t:Tr) (c:L<l):iM l (qx l L t)=true:=by
 rw[jX];have a:=gI t.to (show 0<l by omega);refine⟨⟨by show(0:Int)<=(L:Int);omega,by show(L:Int)<l;omega⟩,a,cU _ (Nat.mod_lt _ zd),Uc _,?_,?_⟩
 ·show((t.ops.take 4).map oM).length<=16
  grind
 ·intro k b;have e:((t.ops.take 4).map oM).all cY=true:=by
   grind [Ud]
  exact(qp jv).1 e k b
theorem JS (n:Nat): ∀(l:List Tr) (f:Nat),f<n->(ci n f l).all (iM n)=true
 |[],_,_=>rfl
 |t::r,f,a=>by
  rw[ci,List.all_cons,Ue t (vz t a).1,JS n r _ (vz t a).1];rfl
theorem JT (n:Nat): ∀(l:List Tr) (f k:Nat),f<n->k+1<l.length->((ci n f l).getD k ed).frm<=((ci n f l).getD (k+1) ed).frm
 |[],_,_,_,h=>zg
 |[t],_,k,_,h=>zg
 |t::t2::r,f,0,a,_=>by
  have b:=vz t a;have c:=vz t2 b.1;show((bu n f t:Nat):Int)<=((bu n (bu n f t) t2:Nat):Int);omega
 |t::t2::r,f,k+1,a,h=>by
  have b:=vz t a;rw[ci];exact JT n (t2::r) (bu n f t) k b.1 zg
theorem Uf (h:l<=6):(dR.take l).length=l:=by
 rw[qF];exact Nat.min_eq_left h
theorem Ug:dR.Nodup:=zd
theorem CE (d:Dv):aQ (cH d)=0:=by
 have b:=Bz d;have f:=Uf b.2;refine qu ((yT _).2 ⟨JR _ (Nat.mod_lt _ zd),⟨?_,?_,?_⟩,?_,?_,?_⟩) ?_
 ·show 0<(dR.take (an d)).length;omega
 ·show(dR.take (an d)).length<=32;omega
 ·show(ci _ _ _).length<=128
  grind [yg]
 ·intro k c;have a:k<(dR.take (an d)).length:=c;rw[f] at a;have e:(dR.take (an d)).getD k []=dR.getD k []:=zg
  show bD ((dR.take (an d)).getD k [])=true
  grind [JR]
 ·show ∀k,k<(ci _ _ _).length->iM (dR.take (an d)).length _=true;rw[f];exact(qp ed).1 (JS _ _ 0 b.1)
 ·intro k c;have a:k<(ci (an d) 0 (d.ts.take 20)).length:=c;rw[yg] at a
  match k with
  |0=>exact .inl rfl
  |k+1=>exact .inr (JT _ _ 0 k b.1 a)
 ·exact List.Nodup.sublist (List.take_sublist _ _) Ug
theorem Uh (h:iv D I q l=some L):l<=L/\L<D.length/\kO D I q L=true:=by
 unfold iv at h;have c:=List.mem_of_find?_eq_some h;obtain⟨a,b⟩:=List.mem_range'_1.1 c;have d:=List.find?_some h;exact⟨a,zo,d⟩
def hW:Bs:=[32,32,111,110,32]
def ou:Bs:=[32,105,102,32]
def ox:Bs:=[32,38,32]
def oy:Bs:=[32,61,32]
def kT:Bs:=[32,45,62,32]
def mz:Bs:=[119,114,105,116,101,32]
def nA:Bs:=[114,101,97,100,32]
def sM:Bs:=[100,114,105,118,101,114,32]
def oz:Bs:=[115,116,97,116,101,32]
def mP (g:Gd):Bs:=if g.used=true then (((((ou++hK g.reg)++ox)++hK g.mask)++oy)++hK g.val) else []
def lW (o:Ro):Bs:=if o.wr=true then ((mz++hK o.reg)++[32])++hK o.val else nA++hK o.reg
def oH (l:List Ro):Bs:=l.flatMap (λo=>[59,32]++lW o)
def fv:List Ro->Bs
 |[]=>[]
 |o::r=>[58,32]++(lW o++oH r)
def pB (ss:List Bs) (t:Tr):Bs:=(((((hW++t.ev)++mP t.gd)++kT)++iU ss t)++fv t.ops)++[10]
theorem JU (n:Nat) (c:MT) (o:Ro):dZ [32] ((0,c)::iy o)=qw c++([32]++lW o):=by
 unfold iy lW;split<;>simp[dZ,iw,qw,sF,uR,mz,nA]
theorem Ui (l:List Ro):dZ [32] (l.flatMap (λo=>(0,MT.sym 59)::iy o))=oH l:=by
 unfold oH
 induction l with
 |nil=>rfl
 |cons o l a=>
  rw[List.flatMap_cons,List.flatMap_cons,Bp,a,JU 0];rfl
theorem Uj (l:List Ro):dZ [32] (opsL l)=fv l:=by
 cases l with
 |nil=>rfl
 |cons o l=>
  show dZ [32] (((0,.sym 58)::iy o)++l.flatMap (λo=>(0,MT.sym 59)::iy o))=_;rw[Bp,Ui,JU 0];show([58]++([32]++lW o))++oH l=[58,32]++(lW o++oH l)
  simp
theorem Uk (g:Gd):dZ [32] (oE g)=mP g:=by
 unfold oE mP;split
 ·simp[dZ,iw,qw,ft,oo,ou,ox,oy]
 ·rfl
theorem Ul (ss:List Bs) (t:Tr):dZ [32] (gX ss t)++[10]=pB ss t:=by
 simp_all[gX,pB,Bp,Uk,Uj,dZ,iw,qw,ft,kL,hW,kT]
def nB (s:Bs):Bs:=(oz++s)++[10]
theorem Um (s:Bs):dZ [32] (uT s)++[10]=nB s:=by simp[uT,nB,dZ,iw,qw,kK,oz]
def wB (d:Dv):Bs:=(sM++d.name)++[10]
theorem Un (d:Dv):dZ [32] (vr d)++[10]=wB d:=by simp_all[vr,wB,dZ,iw,qw,qv,sM]
def fV (ss:List Bs) (l:List Tr):Bs:=l.flatMap (pB ss)
theorem Uo (ss:List Bs) (l:List Tr):ky ((l.map (gX ss)).map (dZ [32]))=fV ss l:=by
 unfold ky fV
 induction l with
 |nil=>rfl
 |cons t l a=>grind [Ul]
def oT (d:Dv) (i:Nat):Bs:=wB d++(List.range i).flatMap (λi=>nB (d.ss.getD i [])++fV d.ss (kQ d i))
def iT (d:Dv) (i k:Nat):Bs:=(oT d i++nB (d.ss.getD i []))++fV d.ss ((kQ d i).take k)
def jT (d:Dv) (i k:Nat):Bs:=(oT d i++nB (d.ss.getD i []))++fV d.ss ((d.ts.take k).filter (λt=>decide (t.frm=(i:Int))))
theorem JV (a b:List Bs):ky (a++b)=ky a++ky b:=by simp[ky]
theorem Up (d:Dv) (i:Nat):ky ((kR d i).map (dZ [32]))=nB (d.ss.getD i [])++fV d.ss (kQ d i):=by
 grind [kR,ky,Uo,Um]
theorem CF (d:Dv):kS d=oT d d.ss.length:=by
 unfold kS vt oT;rw[List.map_cons];show ky ([_]++_)=_;rw[JV,<-Un];have e:ky (((List.range d.ss.length).flatMap (kR d)).map (dZ [32]))=(List.range d.ss.length).flatMap (λi=>nB (d.ss.getD i [])++fV d.ss (kQ d i)):=by
  generalize List.range d.ss.length=R
  induction R with
  |nil=>rfl
  |cons i R a=>grind [JV,Up]
 grind [ky]
theorem JW (d:Dv):oT d 0=wB d:=by simp[oT]
theorem CG (d:Dv) (i:Nat):oT d (i+1)=iT d i (kQ d i).length:=by
 grind [oT,iT,List.range_succ]
theorem Uq (d:Dv) (i:Nat):jT d i 0=oT d i++nB (d.ss.getD i []):=by simp[jT,fV]
theorem JX (h:l<D.length):D.take (l+1)=D.take l++[D.getD l ed]:=by
 simp_all
theorem Ur (h:L<z.ts.length) (a:(z.ts.getD L ed).frm=(l:Int)):jT z l (L+1)=jT z l L++pB z.ss (z.ts.getD L ed):=by
 grind [jT,JX,fV]
theorem Us (h:L<z.ts.length) (a: ¬(z.ts.getD L ed).frm=(l:Int)):jT z l (L+1)=jT z l L:=by
 grind [jT,JX]
theorem Ut (h:z.ts.length<=L):jT z l L=oT z (l+1):=by
 grind [CG,jT,iT,kQ,List.take_length]
theorem part (m:Int) (h:D.Pairwise (λa b=>a.frm<=b.frm)):D=D.filter (λt=>decide (t.frm<m))++D.filter (λt=>decide (m<=t.frm)):=by
 induction D with
 |nil=>rfl
 |cons a D d=>
  obtain⟨e,f⟩:=List.pairwise_cons.1 h;by_cases c:a.frm<m
  ·grind
  ·have g:D.filter (λt=>decide (t.frm<m))=[]:=List.filter_eq_nil_iff.2 λx i=>zg
   grind
theorem Uu (h:iV z) (i:Nat): ∃R,z.ts=(fu z i++kQ z i)++R/\ ∀t∈R,(i:Int)+1<=t.frm:=by
 refine⟨z.ts.filter (λt=>decide (((i+1:Nat):Int)<=t.frm)),?_,λt a=>?_⟩
 ·rw[<-yd,Bv h];exact part _ h.asc
 grind
theorem Uv (h:iV z) (i k:Nat) (a:k<=(kQ z i).length):(fu z i).length+k<=z.ts.length:=by
 obtain⟨R,b,_⟩:=Uu h i
 grind
theorem nC (h:u64 I):(hK I).length<=20:=by
 unfold hK;rw[Lib.decDigits_length];exact Lib.nDigits_le20 _ (by have:=h.1;have:=h.2;omega)
theorem JY (h:uU T):(mP T).length<=70:=by
 have a:=nC h.1;have b:=nC h.2.1;have c:=nC h.2.2;grind [mP,ou,ox,oy,qB]
theorem JZ {o:Ro} (h:mO o):(lW o).length<=47:=by
 have a:=nC h.1;have b:=nC h.2
 grind [lW,mz,nA,qB]
theorem Ja: ∀ {l:List Ro},(∀o∈l,mO o)->(oH l).length<=49* l.length
 |[],_=>by simp[oH]
 |o::l,h=>by
  have b:=Ja λx a=>h x (List.mem_cons_of_mem _ a)
  grind [JZ,oH]
theorem CH {l:List Ro} (h: ∀o∈l,mO o):(fv l).length<=49* l.length:=by
 cases l with
 |nil=>simp[fv]
 |cons o l=>
  grind [Ja,JZ,fv]
theorem pC (h:bD q=true):q.length<=32:=((sD q).1 h).2.1
theorem Jc (h:iV z) (b:du z) (a:J∈z.ts):(pB z.ss J).length<=150+49* J.ops.length:=by
 have c:=pC (oG h a).2.2.2.2.1;have e:=pC (Bu h a);have f:=JY (b J a).1;have g:=CH (b J a).2;grind [pB,hW,kT,qB]
theorem Jd {d:Dv} (h:iV d) (a:du d) {m:Nat} (b: ∀t∈d.ts,t.ops.length<=m): ∀ {l:List Tr},(∀t∈l,t∈d.ts)->(fV d.ss l).length<=(150+49* m)* l.length
 |[],_=>by simp[fV]
 |t::l,c=>by
  have f:=Jd h a b λx e=>c x (List.mem_cons_of_mem _ e)
  grind [Jc,fV,Nat.mul_succ]
theorem Je {d:Dv} (h:iV d) (a:du d) {m:Nat} (b: ∀t∈d.ts,t.ops.length<=m): ∀i,i<=d.ss.length->(oT d i).length<=40+39* i+(150+49* m)* (fu d i).length
 |0,_=>by
  have:=pC h.name
  grind [JW,wB,sM,qB]
 |i+1,hi=>by
  have e:=Je h a b i zo;have f:=pC (h.nms i zo);have g:=Jd h a b (l:=kQ d i) λt c=>(List.mem_filter.1 c).1
  grind [CG,yd,iT,nB,oz,qB,Nat.mul_add]
theorem Jf (h:iV z) (a:du z) (b: ∀t∈z.ts,t.ops.length<=l) (c:L<=z.ss.length):(oT z L).length<=40+39* z.ss.length+(150+49* l)* z.ts.length:=by
 have f:=Je h a b L c;have e:=Uv h L 0 (qT _);have g:(150+49* l)* (fu z L).length<=(150+49* l)* z.ts.length:=Nat.mul_le_mul_left _ e;omega
theorem Jh (h:iV z): ∀t∈z.ts,t.ops.length<=16:=λt a=>(oG h a).2.2.2.2.2.2.1
theorem CJ (h:iV z) (a:du z) (b:l<=z.ss.length):(oT z l).length<=130000:=by
 have c:=Jf h a (Jh h) b;have e:=h.few;have f:=h.fewT;grind
theorem Ux (h:iV z) (b:du z) (c:l<z.ss.length):(jT z l L).length<=130000:=by
 have a:=CJ h b c;rw[CG] at a;refine qk ?_ a;unfold iT fV;rw[List.take_length];grind [jT,fV,kQ,List.take_append_drop]
theorem Uy (h:iV z) (a:du z) (b:J∈z.ts):(pB z.ss J).length<=1000:=by
 grind [Jc,Jh]
theorem Uz (d:Dv): ∀t∈(cH d).ts,t.ops.length<=4:=by
 have: ∀(n:Nat) (l:List Tr) (f:Nat),∀t∈ci n f l,t.ops.length<=4:=by
  intro n l
  induction l with
  |nil=>intro f t b;cases b
  |cons a l c=>
   intro f t b;rcases qe.1 b with rfl|b
   ·grind [qx]
   grind
 exact this _ _ _
theorem yQ (d:Dv) (a:du (cH d)):(kS (cH d)).length<=7300:=by
 have b:=sL (CE d);rw[CF];have c:=Jf b a (Uz d) (qU _);grind [cH,Bz,yg]
theorem wE (j:du z):du (cH z):=by
 have c: ∀g,uU g->uU (gM g):=by
  intro g c;unfold gM;split
  ·have k:=c.2.1;have m:=c.2.2;refine⟨c.1,?_,?_⟩
   ·have p:g.mask.tmod 4=g.mask%4:=qW k.1;show 0<=g.mask.tmod 4/\g.mask.tmod 4<18446744073709551616
    grind
   ·have p:g.val.tmod 4=g.val%4:=qW m.1;show 0<=g.val.tmod 4/\g.val.tmod 4<18446744073709551616
    grind
  ·exact⟨⟨zd,zd⟩,⟨zd,zd⟩,⟨zd,zd⟩⟩
 have q: ∀o,mO o->mO (oM o):=by
  intro o h;unfold oM;split
  ·exact h
  ·exact⟨h.1,(by decide:(0:Int)<=0),(by decide:(0:Int)<18446744073709551616)⟩
 have: ∀(n:Nat) (l:List Tr) (f:Nat),(∀t∈l,sK t)-> ∀t∈ci n f l,sK t:=by
  intro n l
  induction l with
  |nil=>intro f _ t b;cases b
  |cons a l u=>
   intro f r t b;rcases qe.1 b with rfl|b
   ·have i:=r a (List.mem_cons_self ..);refine⟨c _ i.1,λo s=>?_⟩;obtain⟨v,e,rfl⟩:=List.mem_map.1 s;exact q _ (i.2 _ (List.mem_of_mem_take e))
   grind
 exact this _ _ _ λt b=>j t (List.mem_of_mem_take b)
theorem VA {ops:List Ro} (a: ∀o∈ops,mO o) (b:l<ops.length):mO (ops.getD l ax.d):=a _ (by simp[List.getD,b])
theorem CK (d:DH) (i:Nat):d.d.ts.getD i ed=(d.hs.getD i aK.d).t:=Bh d.hs i
theorem yh (d:DH):d.d.ts.length=d.hs.length:=by show(d.hs.map (·.t)).length=_;rw[qE]
theorem VC (d:DH) (h:l<d.hs.length):(d.hs.getD l aK.d).t∈d.d.ts:=by
 refine List.mem_map.2 ⟨d.hs.getD l aK.d,?_,rfl⟩;simp[List.getD,h]
def lX (d:Dv):Bs:=if aQ d=0 then kS d else []
end Go.Drv
namespace Go.Proofs.YtepmocimmmjinaaGreatDoor
open Go.Proofs Go.Proofs.Tryz
open Go.Shelf
def Tryz.laysPu14_ren:Go.Shelf.Ren:=⟨fun|14=>334|16=>343|17=>344|19=>351|20=>352|21=>353|22=>354|23=>355|24=>356|25=>359|27=>361|26=>360|28=>362|29=>363|30=>364|31=>365|32=>366|33=>367|35=>369|34=>368|36=>370|37=>371|38=>372|39=>373|40=>374|n=>n,fun|9=>9|3=>3|22=>43|24=>483|25=>484|4=>4|34=>500|5=>5|36=>117|37=>246|0=>0|39=>502|21=>21|44=>510|47=>513|50=>516|48=>514|2=>2|52=>518|55=>521|59=>524|60=>505|20=>20|61=>525|65=>528|66=>529|67=>50|n=>n,fun|0=>3|1=>4|2=>5|3=>6|4=>7|n=>n⟩
theorem Tryz.laysPu14:Go.Proofs.LaysPu.n14 prog Tryz.laysPu14_ren:={
 mixed:=zk
 f14:=func334.trans (congrArg some zk)
 f16:=func343.trans (congrArg some zk)
 f17:=func344.trans (congrArg some zk)
 f19:=func351.trans (congrArg some zk)
 f20:=func352.trans (congrArg some zk)
 f21:=func353.trans (congrArg some zk)
 f22:=func354.trans (congrArg some zk)
 f23:=func355.trans (congrArg some zk)
 f24:=func356.trans (congrArg some zk)
 f25:=func359.trans (congrArg some zk)
 f26:=func360.trans (congrArg some zk)
 f27:=func361.trans (congrArg some zk)
 f28:=func362.trans (congrArg some zk)
 f29:=func363.trans (congrArg some zk)
 f30:=func364.trans (congrArg some zk)
 f31:=func365.trans (congrArg some zk)
 f32:=func366.trans (congrArg some zk)
 f33:=func367.trans (congrArg some zk)
 f34:=func368.trans (congrArg some zk)
 f35:=func369.trans (congrArg some zk)
 f36:=func370.trans (congrArg some zk)
 f37:=func371.trans (congrArg some zk)
 f38:=func372.trans (congrArg some zk)
 f39:=func373.trans (congrArg some zk)
 f40:=func374.trans (congrArg some zk)
 t0:=underlying0
 a0:=Tryz.isAgg0
 z0:=Tryz.sizeOf0
 v0:=Tryz.zeroValue0
 i0:=zk
 t2:=underlying2
 a2:=Tryz.isAgg2
 z2:=Tryz.sizeOf2
 v2:=Tryz.zeroValue2
 i2:=zk
 t3:=underlying3
 a3:=Tryz.isAgg3
 z3:=Tryz.sizeOf3
 v3:=Tryz.zeroValue3
 i3:=zk
 t4:=underlying4
 a4:=Tryz.isAgg4
 z4:=Tryz.sizeOf4
 v4:=Tryz.zeroValue4
 i4:=zk
 t5:=underlying5
 a5:=Tryz.isAgg5
 z5:=Tryz.sizeOf5
 v5:=Tryz.zeroValue5
 i5:=zk
 t9:=underlying9
 a9:=Tryz.isAgg9
 z9:=Tryz.sizeOf9
 v9:=Tryz.zeroValue9
 i9:=zk
 t20:=underlying20
 a20:=Tryz.isAgg20
 z20:=Tryz.sizeOf20
 v20:=Tryz.zeroValue20
 i20:=zk
 t21:=underlying21
 a21:=Tryz.isAgg21
 z21:=Tryz.sizeOf21
 v21:=Tryz.zeroValue21
 i21:=zk
 t22:=underlying43
 a22:=Tryz.isAgg43
 z22:=Tryz.sizeOf43
 v22:=Tryz.zeroValue43
 i22:=zk
 t24:=underlying483
 a24:=Tryz.isAgg483
 z24:=Tryz.sizeOf483
 v24:=Tryz.zeroValue483
 i24:=zk
 t25:=underlying484
 a25:=Tryz.isAgg484
 z25:=Tryz.sizeOf484
 v25:=Tryz.zeroValue484
 i25:=zk
 t34:=underlying500
 a34:=Tryz.isAgg500
 z34:=Tryz.sizeOf500
 v34:=Tryz.zeroValue500
 i34:=zk
 c34:=zk
 t36:=underlying117
 a36:=Tryz.isAgg117
 z36:=Tryz.sizeOf117
 v36:=Tryz.zeroValue117
 i36:=zk
 t37:=underlying246
 a37:=Tryz.isAgg246
 z37:=Tryz.sizeOf246
 v37:=Tryz.zeroValue246
 i37:=zk
 t39:=underlying502
 a39:=Tryz.isAgg502
 z39:=Tryz.sizeOf502
 v39:=Tryz.zeroValue502
 i39:=zk
 t44:=underlying510
 a44:=Tryz.isAgg510
 z44:=Tryz.sizeOf510
 v44:=Tryz.zeroValue510
 i44:=zk
 t47:=underlying513
 a47:=Tryz.isAgg513
 z47:=Tryz.sizeOf513
 v47:=Tryz.zeroValue513
 i47:=zk
 t48:=underlying514
 a48:=Tryz.isAgg514
 z48:=Tryz.sizeOf514
 v48:=Tryz.zeroValue514
 i48:=zk
 t50:=underlying516
 a50:=Tryz.isAgg516
 z50:=Tryz.sizeOf516
 v50:=Tryz.zeroValue516
 i50:=zk
 t52:=underlying518
 a52:=Tryz.isAgg518
 z52:=Tryz.sizeOf518
 v52:=Tryz.zeroValue518
 i52:=zk
 t55:=underlying521
 a55:=Tryz.isAgg521
 z55:=Tryz.sizeOf521
 v55:=Tryz.zeroValue521
 i55:=zk
 t59:=underlying524
 a59:=Tryz.isAgg524
 z59:=Tryz.sizeOf524
 v59:=Tryz.zeroValue524
 i59:=zk
 t60:=underlying505
 a60:=Tryz.isAgg505
 z60:=Tryz.sizeOf505
 v60:=Tryz.zeroValue505
 i60:=zk
 t61:=underlying525
 a61:=Tryz.isAgg525
 z61:=Tryz.sizeOf525
 t65:=underlying528
 a65:=Tryz.isAgg528
 z65:=Tryz.sizeOf528
 v65:=Tryz.zeroValue528
 i65:=zk
 t66:=underlying529
 a66:=Tryz.isAgg529
 z66:=Tryz.sizeOf529
 v66:=Tryz.zeroValue529
 i66:=zk
 t67:=underlying50
 a67:=Tryz.isAgg50
 z67:=Tryz.sizeOf50
 v67:=Tryz.zeroValue50
 i67:=zk
 g0:=zk
 m0:=zk
 g1:=zk
 m1:=zk
 g2:=zk
 m2:=zk
 g3:=zk
 m3:=zk
 g4:=zk
 m4:=by kernel_rfl}
end Go.Proofs.YtepmocimmmjinaaGreatDoor
namespace Go.Drv
open Go.Sv
def je (r:List Bool) (t:Tr):List Bool:=if r.getD t.frm.toNat false=true then r.set t.to.toNat true else r
def CL (ts:List Tr) (r:List Bool):List Bool:=ts.foldl je r
def Ji (ts:List Tr) (r:List Bool):Nat->List Bool
 |0=>r
 |k+1=>CL ts (Ji ts r k)
def r0 (n:Nat):List Bool:=(List.replicate n false).set 0 true
def CM (d:Dv):List Bool:=Ji d.ts (r0 d.ss.length) d.ss.length
theorem VD {d:Dv} (h:aQ d=0) (a:l<d.ts.length):iM d.ss.length (ee d.ts l)=true:=by
 have b:df d=true:=by
  unfold aQ at h;cases c:df d with
  |true=>rfl
  |false=>rw[c] at h;simp at h
 exact((yT d).1 b).2.2.2.1 l a
structure RI (d:Dv) (s:IS):Prop where
 r:(CM d).getD s.st.toNat false=true
 n:0<=s.st/\s.st<d.ss.length
 c:s.wt=true->s.cd<d.ts.length/\(ee d.ts s.cd).frm=s.st
variable {D:List Tr}
theorem VE:kO D I q l=true↔(ee D l).frm=I/\(ee D l).ev=q:=decide_eq_true_iff
structure AI (d:Dv) (k:Nat) (s:IS) (ops:List Ro) (wt:Bool):Prop where
 ri:RI d s
 w:s.wt=wt
 o:wt=true->k<=s.cd/\ ∃g,ops=[⟨false,g,0⟩]
structure R2 (d:Dv) (ts':List Tr) (p:Tr->Bool) (s s':IS):Prop where
 ri:RI d s
 st:s'.st=s.st
 wt:s'.wt=s.wt
 c:s.wt=true->s'.cd<ts'.length/\ee ts' s'.cd=ee d.ts s.cd/\ts'.drop (s'.cd+1)=(d.ts.drop (s.cd+1)).filter p
def lY (s:IS):Int:=if s.wt=true then (s.cd:Int) else -1
def qz (T:List Tr) (s:IS) (ev:Bs):Prop:=s.wt=true->s.cd<T.length/\(ee T s.cd).ev=ev
theorem Jm {s:IS} (h:s.wt=false) (ev:Bs) (k:Nat):qz D (cM D s ev k).1 ev:=by
 intro a;unfold cM at a ⊢;cases b:iv D s.st ev k with
 |none=>rw[b] at a;simp only[] at a;rw[h] at a;cases a
 |some i=>
  rw[b] at a;simp only[] at a ⊢;split
  ·rename_i c;rw[if_pos c] at a;simp only[] at a;rw[h] at a;cases a
  ·have:=Uh b;exact⟨this.2.1,(VE.1 this.2.2).2⟩
theorem VF {s:IS} (h:qz D s q) (v:Int):qz D (ak D s v).1.1 q:=by
 unfold ak;cases b:s.wt with
 |false=>rw[if_pos rfl];exact h
 |true=>
  rw[if_neg zd];split
  ·intro b;cases b
  ·rw[(h b).2];exact Jm z6 q _
theorem Jn (a:0<=I) (b:I<=255):IntKind.u8.wrap I=I:=by
 grind [IntKind.wrap_u8]
def iz (s:Bs):Nat×Bool:=if dh s=true/\av 0 s<18446744073709551616 then (av 0 s,true) else (0,false)
theorem VG (h:(iz q).2=true):(dh q=true/\av 0 q<18446744073709551616)/\(iz q).1=av 0 q:=by
 grind [iz]
theorem VH (h:(iz q).2=false): ¬(dh q=true/\av 0 q<18446744073709551616):=by
 grind [iz]
theorem rB (h: ¬(dh q=true/\av 0 q<18446744073709551616)):iz q=(0,false):=if_neg h
theorem VI (h:dh q=true) (a:av 0 q<18446744073709551616):iz q=(av 0 q,true):=if_pos ⟨h,a⟩
theorem VJ (h:l<q.length):q.take (l+1)=q.take l++[q.getD l 0]:=by
 simp_all
theorem uW (h:l<q.length) (a:48<=(q.getD l 0).toNat):((av 0 (q.take (l+1)):Nat):Int)=10* ((av 0 (q.take l):Nat):Int)+(((q.getD l 0).toNat:Int)-48):=by
 grind [VJ,av]
theorem VK (s:Bs) (j:Nat):av 0 (s.take j)<=av 0 s:=by
 grind [List.take_append_drop,It,IV]
theorem VL (l:Bs): ∀n:Nat,n* 10^l.length<=av n l:=by
 induction l with
 |nil=>grind [av]
 |cons c r a=>
  grind [vn,Nat.mul_comm,Nat.mul_assoc]
theorem Jo (h:20<q.length): ¬(dh q=true/\av 0 q<18446744073709551616):=by
 rintro⟨h1,h2⟩;obtain⟨k,l,d⟩:=(lU q).1 h1;cases q with
 |nil=>grind
 |cons c r=>
  have f:20<=r.length:=zg
  have g:bL c=true:=d 0 zm;have i:48<=c.toNat/\c.toNat<=57:=of_decide_eq_true g;have a:c≠48:=by
   grind
  have b:c.toNat≠48:=λe=>a (UInt8.toNat_inj.1 e);have j:=VL r (10* 0+(c.toNat-48));rw[<-vn] at j;have m:10^20<=10^r.length:=Nat.pow_le_pow_right zd f;have n:1* 10^r.length<=(10* 0+(c.toNat-48))* 10^r.length:=Nat.mul_le_mul_right _ zo
  grind
theorem VM (h:1<q.length) (h0:q.getD 0 0=48): ¬(dh q=true/\av 0 q<18446744073709551616):=by
 grind [lU]
theorem yi (h:l<q.length) (a:bL (q.getD l 0)=false): ¬(dh q=true/\av 0 q<18446744073709551616):=by
 grind [lU]
theorem VN (h:dh q=true):bD q=false:=by
 grind [lU,yR]
def pD:MT->Int
 | .nm _=>110
 | .num _=>100
 | .sym n=>n
def dk:MT->Bs
 | .nm t=>t
 |_=>[]
def Jp (t:MT):List Value:=[.int .u8 (pD t),.string (bs (dk t)),.int .u64 (bz t)]
def bS:bO MT where
 f:=Jp
 sz:=3
 d:= .num 0
 len t:=rfl
 pos:=zd
 one t v hv:=by simp[Jp] at hv;rcases hv with rfl|rfl|rfl<;>rfl
theorem CN (s:Bs): ∃r:Bs,s=ai s++r/\(r=[]\/r.getD 0 0=35):=by
 refine⟨s.dropWhile (λc=>decide (c≠35)),(List.takeWhile_append_dropWhile).symm,?_⟩
 induction s with
 |nil=>simp_all
 |cons c r a=>
  grind [List.dropWhile_cons]
theorem VO (s:Bs): ∀x∈ai s,x≠35:=λx a=>by
 unfold ai at a
 induction s with
 |nil=>cases a
 |cons c r b=>
  grind [List.takeWhile_cons]
theorem oI (a:l<(ai q).length):(ai q).getD l 0=q.getD l 0:=by
 obtain⟨r,b,_⟩:=CN q
 grind
theorem CO (s:Bs):(ai s).length<=s.length:=(List.takeWhile_sublist _).length_le
theorem VP (h:(ai q).length<q.length):q.getD (ai q).length 0=35:=by
 obtain⟨r,a,b⟩:=CN q
 grind
theorem CQ (c:l<=(ai q).length) (a:l<q.length) (b: ¬((q.getD l 0).toNat:Int)=35):l<(ai q).length:=by
 rcases Nat.lt_or_ge l (ai q).length with h|h
 ·exact h
 ·obtain rfl:l=(ai q).length:=zo
  exfalso;apply b;rw[VP a];rfl
theorem kIB (a:l<=(ai q).length) (h: ¬l<q.length):l=(ai q).length:=by
 grind [CO]
theorem VQ (c:l<=(ai q).length) (h:((q.getD l 0).toNat:Int)=35):l=(ai q).length:=by
 rcases Nat.lt_or_ge l (ai q).length with a|a
 ·exfalso;have b:(ai q).getD l 0∈ai q:=zg
  refine VO q _ b ?_;rw[oI a];exact UInt8.toNat_inj.1 (show(q.getD l 0).toNat=35 by omega)
 ·omega
theorem yj (h:aZ F=true):(97<=F.toNat/\F.toNat<=122)\/(65<=F.toNat/\F.toNat<=90)\/F.toNat=95\/(48<=F.toNat/\F.toNat<=57):=by
 unfold aZ at h;rw[Bool.or_eq_true] at h;rcases h with h|h
 ·have:=of_decide_eq_true h;omega
 ·have:=of_decide_eq_true h;omega
theorem VR (h:aZ F=true):gq F=false:=qQ λk=>by
 have:=yj h;rcases k with rfl|rfl<;>simp at this
theorem VS (h:aZ F=true):gU F=false:=qQ λk=>by
 have:=yj h;rcases k with rfl|rfl|rfl|rfl<;>simp at this
theorem VT (h:aZ F=true): ¬(F.toNat:Int)=35:=by
 grind [yj]
theorem VU (a:l<=(ai q).length) (h: ¬l<q.length\/aZ (q.getD l 0)=false):l=(ai q).length\/aZ ((ai q).getD l 0)=false:=by
 grind [oI,CO]
theorem VV (a:l<=(ai q).length):(ai q).take l=q.take l:=by
 obtain⟨r,b,_⟩:=CN q
 grind
theorem Jq (a:l<(ai q).length) (d:((q.getD l 0).toNat:Int)=45) (c:l+1<q.length) (e:((q.getD (l+1) 0).toNat:Int)=62):2<=((ai q).drop l).length/\((ai q).drop l).take 2=[45,62]:=by
 have b:l+1<(ai q).length:=CQ a c zo;refine⟨zg,?_⟩;rw[lS a,lS b,oI a,oI b,UInt8.toNat_inj.1 (show(q.getD l 0).toNat=(45:UInt8).toNat by grind),UInt8.toNat_inj.1 (show(q.getD (l+1) 0).toNat=(62:UInt8).toNat by grind)];rfl
theorem CR (a:l<(ai q).length) (h: ¬((q.getD l 0).toNat:Int)=45\/ ¬l+1<q.length\/ ¬((q.getD (l+1) 0).toNat:Int)=62): ¬(2<=((ai q).drop l).length/\((ai q).drop l).take 2=[45,62]):=by
 rintro⟨h1,h2⟩;rw[qG] at h1;have b:l+1<(ai q).length:=zo
 rw[lS a,lS b,oI a,oI b] at h2;simp_all
variable {u:List MT}
theorem Js (h:Rd (ai q) l u) (c:l<(ai q).length) (h0:gq (q.getD l 0)=false) (d:gU (q.getD l 0)=false) (f: ¬(2<=((ai q).drop l).length/\((ai q).drop l).take 2=[45,62])) (e:aZ (q.getD l 0)=false):tk (ai q)=none:=by
 rw[<-oI c] at h0 d e;refine(h.word c h0 d f (qU _) zo (λk a b=>zo) (.inr e)).1 ?_;rw[List.drop_of_length_le zg];rfl
theorem Jt (h:Rd (ai q) l u) (c:l<(ai q).length) (g:aZ (q.getD l 0)=true) (j:l<=L) (f:L<=(ai q).length) (m: ∀k,l<=k->k<L->aZ (q.getD k 0)=true) (ts: ¬L<q.length\/aZ (q.getD L 0)=false):
 (fS ((q.take L).drop l)=none->tk (ai q)=none)/\ ∀t,fS ((q.take L).drop l)=some t->l<L/\Rd (ai q) L (u++[t]):=by
 have d:=g;rw[<-oI c] at d;have:=h.word c (VR d) (VS d) (CR c (.inl (by grind [yj]))) j f (λk a b=>by grind [oI]) (VU f ts);grind [VV]
section
variable {P:Program} {N:NN} {E:Env} {S:World->Prop} {d:Option Nat} {ty:TypeId} {pos:String} {af:Array Edge} {g:Option (Nat×Bool)} {x:Operand}
theorem V4 {b dst e:TypeId} {xs:List Int} (hs:P.underlying b=some (.slice e)) (k:P.underlying e=some (.int .u8)) (c:P.underlying dst=some .string) (o:ev E x=some (.slice Z l L)) (p: ∀w,S w->RS w (aD .u8) Z xs) (q:l=xs.length) (h0:0<xs.length):
 Step P N E S ⟨d,.convert b dst x,ty,pos,af,g⟩ (.string (bs (xs.map λl=>UInt8.ofNat l.toNat))):=λa w r s=>by
 have f:=p w s;have t:=f.form h0;have h:=run_convert_bytes_arg (P:=P) w b e hs k (bk Z) (of Z) l L xs q.symm (λi u=>by
  have:=f.cell (m:=i) (j:=0) zo (v:= .int .u8 (xs.getD i 0)) rfl
  grind [aD]) dst c
 rw[<-t] at h;simp only[execOp,r.ev o,Sem.run_bind,h,Result.andThen_ok,Sem.run_pure];rfl
end
def kB (t:MT):UInt8:=UInt8.ofNat (pD t).toNat
theorem CS (h:mv l):kB (.sym l)=UInt8.ofNat l:=by
 grind [kB,pD]
variable {M:MT}
theorem lZ (b:cF M) (h:kB M=110):M= .nm (dk M):=by
 cases M with
 |nm s=>rfl
 |num v=>exact absurd h (by show UInt8.ofNat 100≠110;decide)
 |sym n=>
  have a:mv n:=b;rw[CS a] at h;rcases a with rfl|rfl|rfl|rfl|rfl<;>exact absurd h zd
theorem la (b:cF M) (h:kB M=100):M= .num (bz M):=by
 cases M with
 |nm s=>exact absurd h (by show UInt8.ofNat 110≠100;decide)
 |num v=>rfl
 |sym n=>
  have a:mv n:=b;rw[CS a] at h;rcases a with rfl|rfl|rfl|rfl|rfl<;>exact absurd h zd
theorem sN (e:cF M) (a:mv l) (h:kB M=UInt8.ofNat l):M= .sym l:=by
 cases M with
 |nm s=>
  have b:UInt8.ofNat 110=UInt8.ofNat l:=h;rcases a with rfl|rfl|rfl|rfl|rfl<;>exact absurd b zd
 |num v=>
  have b:UInt8.ofNat 100=UInt8.ofNat l:=h;rcases a with rfl|rfl|rfl|rfl|rfl<;>exact absurd b zd
 |sym n=>
  have d:mv n:=e;rw[CS d] at h;rcases d with rfl|rfl|rfl|rfl|rfl<;>rcases a with rfl|rfl|rfl|rfl|rfl<;>first|rfl|exact absurd h zd
theorem CT (d:cF M) (a:mv l) (h:pD M=l):M= .sym l:=by
 cases M with
 |nm s=>have b:(110:Int)=l:=h;rcases a with rfl|rfl|rfl|rfl|rfl<;>omega
 |num v=>have b:(100:Int)=l:=h;rcases a with rfl|rfl|rfl|rfl|rfl<;>omega
 |sym n=>have b:(n:Int)=l:=h;grind
abbrev tA (l:List MT) (i:Nat):MT:=l.getD i bS.d
theorem nD (h:l<u.length):u.drop l=tA u l::u.drop (l+1):=by
 simp_all
theorem kU (a: ∀x∈u,cF x) (h:l<u.length):cF (tA u l):=a _ zg
def jf (l:List MT) (n:Nat):Bs:=(l.take n).map kB
theorem VW (h:l<u.length):u.take (l+1)=u.take l++[tA u l]:=by
 simp_all
theorem CU (h:l<u.length):jf u (l+1)=jf u l++[kB (tA u l)]:=by
 grind [jf,VW]
theorem wF (h:jf u l=q) (a:l<=u.length): ∀i,i<l->kB (tA u i)=q.getD i 0:=λi b=>by
 grind [jf]
def pE (c:Nat):List MT->Option (List Ro)
 |[]=>some []
 | .sym d::r=>if d=c then eO (r.length+1) r else none
 |_=>none
theorem VX (l:List MT):pE 58 l=kM l:=by
 unfold pE kM
 grind
theorem CW {o:Ro} {r:List MT} (h:fT u=some (o,r)):r.length+2<=u.length:=by
 unfold fT at h
 grind
theorem m59 (a:l≠59) (o:Ro) (r3:List MT):(match some (o,MT.sym l::r3) with
 |none=>none
 |some (o,[])=>some [o]
 |some (o,.sym 59::r)=>(eO L r).map (λx=>o::x)
 |some _=>none)=(none:Option (List Ro)):=by
 grind
theorem VY: ∀(n m:Nat) (l:List MT),l.length<n->l.length<m->eO n l=eO m l:=by
 intro n
 induction n with
 |zero=>grind
 |succ n b=>
  intro m l c d;obtain⟨k,rfl⟩: ∃k,m=k+1:=⟨m-1,zo⟩
  rw[sI,sI];cases a:fT l with
  |none=>rfl
  |some p=>
   obtain⟨o,r⟩:=p;have e:=CW a
   grind
theorem Jv:pE l (.sym l::u)=match fT u with
 |none=>none
 |some (o,r2)=>(pE 59 r2).map (λx=>o::x):=by
 show(if l=l then eO (u.length+1) u else none)=_;rw[if_pos rfl,sI];cases b:fT u with
 |none=>rfl
 |some p=>
  obtain⟨o,r2⟩:=p;have e:=CW b;cases r2 with
  |nil=>rfl
  |cons t a=>
   cases t with
   |nm s=>rfl
   |num v=>rfl
   |sym n=>
    by_cases d:n=59
    ·subst d;show(eO u.length a).map _=(if 59=59 then eO (a.length+1) a else none).map _
     grind [VY]
    ·show _=(if n=59 then eO (a.length+1) a else none).map _
     grind
theorem VZ (a:0<u.length) (h: ¬pD (tA u 0)=l):pE l u=none:=by
 cases u with
 |nil=>grind
 |cons t r=>
  cases t with
  |nm s=>rfl
  |num v=>rfl
  |sym n=>
   show(if n=l then _ else none)=none;rw[if_neg];intro e;exact h (by show(n:Int)=l;omega)
theorem Va (h:dk M≠[]):M= .nm (dk M):=by
 cases M with
 |nm s=>rfl
 |num v=>exact absurd z6 h
 |sym n=>exact absurd z6 h
theorem Vb (c: ∀x∈u,cF x) (d:3<=u.length) (f:jf u 3=[110,100,100]) (g:dk (tA u 0)=[119,114,105,116,101]):fT u=some (⟨true,bz (tA u 1),bz (tA u 2)⟩,u.drop 3):=by
 have k:=wF f d;have h:=lZ (kU c (show 0<u.length by omega)) (k 0 zd);have i:=la (kU c (show 1<u.length by omega)) (k 1 zd);have j:=la (kU c (show 2<u.length by omega)) (k 2 zd);have e:u=tA u 0::tA u 1::tA u 2::u.drop 3:=by
  have l:=nD (show 0<u.length by omega)
  grind [nD]
 rw[h,g,i,j] at e;generalize bz (tA u 1)=a at e ⊢;generalize bz (tA u 2)=b at e ⊢;generalize u.drop 3=D at e ⊢;rw[e];rfl
theorem CX (b: ∀x∈u,cF x) (c:2<=u.length) (d:jf u 2=[110,100]) (f:dk (tA u 0)=[114,101,97,100]):fT u=some (⟨false,bz (tA u 1),0⟩,u.drop 2):=by
 have k:=wF d c;have g:=lZ (kU b (show 0<u.length by omega)) (k 0 zd);have h:=la (kU b (show 1<u.length by omega)) (k 1 zd);have e:u=tA u 0::tA u 1::u.drop 2:=by
  have i:=nD (show 0<u.length by omega)
  grind [nD]
 rw[g,f,h] at e;generalize bz (tA u 1)=a at e ⊢;generalize u.drop 2=D at e ⊢;rw[e];rfl
theorem sO (d: ¬(3<=u.length/\jf u 3=[110,100,100]/\dk (tA u 0)=[119,114,105,116,101])) (e: ¬(2<=u.length/\jf u 2=[110,100]/\dk (tA u 0)=[114,101,97,100])):fT u=none:=by
 cases b:fT u with
 |none=>rfl
 |some p=>
  exfalso;unfold fT at b;split at b
  ·rename_i k a r0;split at b
   ·rename_i c;split at b
    ·refine d ⟨zm,rfl,c⟩
    grind
   ·split at b
    ·rename_i c;exact e ⟨zm,rfl,c⟩
    grind
  grind
structure LH where
 h:TH
 to:Bs
def ay:bO LH where
 f x:=[.int .i64 x.h.t.frm,.string (bs x.h.t.ev),.bool x.h.t.gd.used,.int .u64 x.h.t.gd.reg,.int .u64 x.h.t.gd.mask,.int .u64 x.h.t.gd.val,.slice x.h.A x.h.t.ops.length x.h.c,.int .i64 x.h.t.to,.string (bs x.to)]
 sz:=9
 d:=⟨gV,[]⟩
 len _:=rfl
 pos:=zd
 one r v hv:=by simp at hv;rcases hv with rfl|rfl|rfl|rfl|rfl|rfl|rfl|rfl|rfl<;>rfl
theorem yk (h: ¬(6<u.length/\jf u 6=[110,100,38,100,61,100]/\dk (tA u 0)=[105,102])):fq (.nm q::u)=iu q ku u:=by
 rw[uS];cases b:mu u with
 |none=>
  show none=_;unfold mu at b;split at b
  ·rfl
  ·rfl
  grind
 |some p=>
  obtain⟨g,r⟩:=p;show iu q g r=iu q ku u;unfold mu at b;split at b
  ·rename_i i a m v r0;split at b
   ·rename_i c;cases b;cases r with
    |nil=>rfl
    |cons x r=>
     exfalso;exact h ⟨zg,rfl,c⟩
   grind
  ·cases b
  grind
theorem Vc (d: ∀x∈u,cF x) (p:6<u.length) (g:jf u 6=[110,100,38,100,61,100]) (h:dk (tA u 0)=[105,102]):fq (.nm q::u)=iu q ⟨true,bz (tA u 1),bz (tA u 3),bz (tA u 5)⟩ (u.drop 6):=by
 have k:=wF g zo;have i:=lZ (kU d (show 0<u.length by omega)) (k 0 zd);have j:=la (kU d (show 1<u.length by omega)) (k 1 zd);have l:=sN (l:=38) (kU d (show 2<u.length by omega)) (.inr (.inr (.inl z6))) (k 2 zd);have m:=la (kU d (show 3<u.length by omega)) (k 3 zd);have n:=sN (l:=61) (kU d (show 4<u.length by omega)) (.inr (.inr (.inr (.inl z6)))) (k 4 zd);have o:=la (kU d (show 5<u.length by omega)) (k 5 zd);have f:u=tA u 0::tA u 1::tA u 2::tA u 3::tA u 4::tA u 5::u.drop 6:=by
  have R:=nD (show 0<u.length by omega)
  grind [nD]
 rw[i,h,j,l,m,n,o] at f;generalize bz (tA u 1)=a at f ⊢;generalize bz (tA u 3)=b at f ⊢;generalize bz (tA u 5)=c at f ⊢;generalize u.drop 6=D at f ⊢;rw[f,uS];rfl
theorem CY {g:Gd} (h: ¬(2<=u.length/\jf u 2=[62,110])):iu q g u=none:=by
 cases a:iu q g u with
 |none=>rfl
 |some x=>
  exfalso;unfold iu at a;split at a
  ·exact h ⟨zg,rfl⟩
  grind
theorem Jw {g:Gd} (b: ∀x∈u,cF x) (d:2<=u.length) (f:jf u 2=[62,110]):iu q g u=(kM (u.drop 2)).map (sH q g (dk (tA u 1))):=by
 have k:=wF f d;have h:=sN (l:=62) (kU b (show 0<u.length by omega)) (.inr (.inr (.inr (.inr z6)))) (k 0 zd);have i:=lZ (kU b (show 1<u.length by omega)) (k 1 zd);have a:u=tA u 0::tA u 1::u.drop 2:=by
  have j:=nD (show 0<u.length by omega)
  grind [nD]
 rw[h,i] at a;generalize dk (tA u 1)=t at a ⊢;generalize u.drop 2=D at a ⊢;rw[a];rfl
theorem Jx (h:u.length<3):fq u=none:=by
 cases a:fq u with
 |none=>rfl
 |some x=>
  exfalso;cases u with
  |nil=>cases a
  |cons t r=>
   cases t with
   |nm e=>
    grind [yk,CY]
   |num v=>cases a
   |sym n=>cases a
theorem Ve (h: ¬ ∃e r,u= .nm e::r):fq u=none:=by
 cases u with
 |nil=>rfl
 |cons t r=>
  cases t with
  |nm e=>grind
  |num v=>rfl
  |sym n=>rfl
structure Vg (w:World) (ts:List MT) (e:Bs) where
 g:Gd
 cur:List MT
 B:Option Addr
 m:Nat
 rs:RS w bS B cur
 cap:cur.length<=m
 ok: ∀x∈cur,cF x
 len:cur.length<=ts.length
 res:fq (ts.drop 1)=iu e g cur
theorem Vh (h0:0<u.length) (c:1<u.length) (a:kB (tA u 0)=110) (k: ∃e r,u.drop 1= .nm e::r):jf u 2=[110,110]:=by
 obtain⟨e,r,b⟩:=k;rw[CU (show 1<u.length by omega),CU (show 0<u.length by omega),a];rw[nD (show 1<u.length by omega)] at b;rw[(List.cons.inj b).1];rfl
structure sP where
 f:Nat
 P:List Bs
 A:Option Addr
 c:Nat
def jg (s:Bs) (i:Nat) (X:sP):Prop:=X.P.length<=i/\((i<=s.length/\X.f<=i/\eA s=X.P++eA (s.drop X.f)/\ ∀k,X.f<=k->k<i->s.getD k 0≠10)\/(i=s.length+1/\eA s=X.P))
theorem jg.start (s:Bs):jg s 0 ⟨0,[],none,0⟩:=⟨qU _,.inl ⟨qT _,qU _,rfl,λk a b=>zo⟩⟩
theorem jg.le {X:sP} (h:jg q l X) (a:l<=q.length):X.f<=l:=by
 rcases h.2 with h|h
 ·grind
 ·omega
theorem Jy (d:L<=q.length) (h: ∀k,l<=k->k<L->q.getD k 0≠10): ∀c∈(q.take L).drop l,c≠10:=λc a=>by
 obtain⟨k,b,rfl⟩:=List.getElem_of_mem a;rw[qG,qF] at b;have:=h (l+k) zo zo
 grind
theorem jg.nl {X:sP} (h:jg q l X) (d:l<q.length) (j:((q.getD l 0).toNat:Int)=10) (A:Option Addr) (c:Nat):jg q (l+1) ⟨l+1,X.P++[(q.take l).drop X.f],A,c⟩:=by
 refine⟨?_,?_⟩
 ·have:=h.1;grind
 rcases h.2 with ⟨i,m,n,o⟩|h
 ·refine .inl ⟨zo,qU _,?_,λk a b=>zg⟩;have e:q.drop X.f=(q.take l).drop X.f++10::q.drop (l+1):=by
   have p:q=q.take l++q.drop l:=(List.take_append_drop l q).symm;have g:q.drop X.f=(q.take l++q.drop l).drop X.f:=zg
   rw[g,List.drop_append_of_le_length zg,lS d,UInt8.toNat_inj.1 (show(q.getD l 0).toNat=(10:UInt8).toNat by grind)]
  grind [vk,Jy]
 ·omega
theorem jg.no {X:sP} (h:jg q l X) (d:l<q.length) (f: ¬((q.getD l 0).toNat:Int)=10):jg q (l+1) X:=by
 refine⟨by have:=h.1;omega,?_⟩;rcases h.2 with ⟨g,j,c,i⟩|h
 ·refine .inl ⟨zo,zo,c,λk a b=>?_⟩;by_cases e:k=l
  ·subst e;intro m;simp_all
  grind
 ·omega
theorem jg.fin {X:sP} (h:jg q l X) (a:l=q.length) (f:Nat) (A:Option Addr) (c:Nat):jg q (l+1) ⟨f,X.P++[(q.take l).drop X.f],A,c⟩:=by
 refine⟨?_,.inr ⟨zo,?_⟩⟩
 ·have:=h.1;grind
 rcases h.2 with ⟨b,d,e,g⟩|h
 ·grind [Be,Jy]
 ·omega
theorem jg.last {X:sP} (h:jg q l X) (a: ¬l<=q.length):eA q=X.P:=by
 rcases h.2 with h|h
 ·omega
 grind
theorem Jz: ∀s:Bs,(eA s).length<=s.length+1
 |[]=>by simp[eA]
 |c::r=>by
  have a:=Jz r
  grind [eA]
theorem KA: ∀s:Bs,∀l∈eA s,l.length<=s.length
 |[],l,h=>by grind [eA]
 |c::r,l,h=>by
  have a:=KA r
  grind [eA]
structure RH where
 named:Bool
 name:Bs
 sA:Option Addr
 sc:Nat
 ss:List Bs
 aA:Option Addr
 ac:Nat
 al:List LH
def RH.ps (X:RH):PS:=⟨X.named,X.name,X.ss,X.al.map (·.h.t),X.al.map (·.to)⟩
def Vi:RH:=⟨false,[],none,0,[],none,0,[]⟩
def nF (x:LH):aB:=cE x.h
theorem KB (d: ∀x∈u,cF x) (h:u.map kB=[110,110]):u=[.nm (dk (tA u 0)),.nm (dk (tA u 1))]:=by
 match u,h,d with
 |[],h,_=>grind
 |[a],h,_=>grind
 |a::b::c::r,h,_=>grind
 |[a,b],h,d=>
  grind [lZ]
section
variable {p:PS} {ts:List MT}
theorem Vj (a: ∀x∈ts,cF x) (b:p.named=false) (h:ts.map kB=[110,110]) (c:dk (tA ts 0)=[100,114,105,118,101,114]):eB p ts=some {p with named:=true,name:=dk (tA ts 1)}:=by
 have e:=KB a h;rw[c] at e;generalize dk (tA ts 1)=n at e ⊢;rw[e];show(if p.named=false then _ else _)=_;rw[if_pos b];rfl
theorem KC (h0:0<ts.length) (a:p.named=false) (h: ¬(ts.map kB=[110,110]/\dk (tA ts 0)=[100,114,105,118,101,114])):eB p ts=none:=by
 cases ts with
 |nil=>grind
 |cons t r=>
  cases t with
  |num v=>rfl
  |sym n=>rfl
  |nm k=>
   show(if p.named=false then _ else _)=_;rw[if_pos a];split
   ·rename_i n;rw[if_neg];intro b;exact h ⟨rfl,b⟩
   ·rfl
theorem Vk (a: ∀x∈ts,cF x) (c:p.named=true) (h:ts.map kB=[110,110]) (b:dk (tA ts 0)=[115,116,97,116,101]):eB p ts=some {p with ss:=p.ss++[dk (tA ts 1)]}:=by
 have e:=KB a h;rw[b] at e;generalize dk (tA ts 1)=n at e ⊢;rw[e];show(if p.named=false then _ else _)=_;rw[if_neg zg];rfl
theorem Vl (c:p.named=true) (b:dk (tA ts 0)=[115,116,97,116,101]) (h: ¬ts.map kB=[110,110]):eB p ts=none:=by
 cases ts with
 |nil=>cases b
 |cons t r=>
  cases t with
  |num v=>rfl
  |sym n=>rfl
  |nm k=>
   have a:k=kK:=b;show(if p.named=false then _ else _)=_;rw[if_neg zg,if_pos a];split
   ·exact absurd z6 h
   ·rfl
theorem KD (c:p.named=true) (b:dk (tA ts 0)=[111,110]) (hs:p.ss≠[]):eB p ts=(fq (ts.drop 1)).map (λx=>{p with ts:=p.ts++[{x.1 with frm:=(p.ss.length:Int)-1}],tg:=p.tg++[x.2]}):=by
 cases ts with
 |nil=>cases b
 |cons t r=>
  cases t with
  |num v=>cases b
  |sym n=>cases b
  |nm k=>
   have a:k=kL:=b;show(if p.named=false then _ else _)=_;rw[if_neg zg,if_neg (by rw[a];decide),if_pos ⟨a,hs⟩];rfl
theorem KE (h0:0<ts.length) (c:p.named=true) (a: ¬dk (tA ts 0)=[115,116,97,116,101]) (b: ¬(dk (tA ts 0)=[111,110]/\p.ss≠[])):eB p ts=none:=by
 cases ts with
 |nil=>grind
 |cons t r=>
  cases t with
  |num v=>rfl
  |sym n=>rfl
  |nm k=>
   show(if p.named=false then _ else _)=_;rw[if_neg zg,if_neg (show ¬k=kK from a),if_neg (show ¬(k=kL/\p.ss≠[]) from b)]
end
def kz (ss:List Bs) (t:Bs):Nat->Int
 |0=> -1
 |k+1=>if ss.getD k []=t then (k:Int) else kz ss t k
theorem Vm (h:y.getD l aN.d=q):kz y q (l+1)=l:=by rw[kz,if_pos (show y.getD l []=q from h)]
theorem Vn (h: ¬y.getD l aN.d=q):kz y q (l+1)=kz y q l:=by rw[kz,if_neg (show ¬y.getD l []=q from h)]
theorem KF {ss:List Bs} {t:Bs}: ∀k,(∀j,j<k->ss.getD j []≠t)->kz ss t k= -1
 |0,_=>rfl
 |k+1,h=>by rw[kz,if_neg (h k zo),KF k λj a=>h j zo]
theorem CZ {ss:List Bs} {t:Bs} {i:Nat}: ∀k,i<k->ss.getD i []=t->(∀j,j<k->ss.getD j []=t->j=i)->kz ss t k=i
 |0,h,_,_=>zo
 |k+1,h,h1,h2=>by
  rw[kz];by_cases e:ss.getD k []=t
  ·grind
  ·rw[if_neg e];refine CZ k ?_ h1 λj a=>h2 j zo
   grind
theorem Vq (h:jd y q=none): ∀j,j<y.length->y.getD j []≠q:=λj a e=>by
 grind [jd]
theorem Vr (h:jd y q=some l):l<y.length/\y.getD l []=q:=by
 grind [jd]
theorem Vs (a:y.Nodup) (h:kz y q y.length<0):jd y q=none:=by
 grind [jd,CZ,sE]
theorem Vu (a:y.Nodup) (h: ¬kz y q y.length<0): ∃i:Nat,kz y q y.length=i/\jd y q=some i:=by
 cases b:jd y q with
 |none=>
  grind [KF,Vq]
 |some i=>
  grind [Vr,CZ,sE]
def bH (y:LH) (i:Int):LH:=⟨sJ y.h i,y.to⟩
structure KG where
 al:List LH
 H:List TH
 tA:Option Addr
 tc:Nat
structure eJ (X:RH) (K:KG) (j:Nat):Prop where
 jl:j<=X.al.length
 len:K.al.length=X.al.length
 hl:K.H.length=j
 rest:K.al.drop j=X.al.drop j
 ho:K.H.map cE=(X.al.take j).map nF
 res:gr X.ss (X.al.map (·.h.t)) (X.al.map (·.to))=(gr X.ss ((X.al.drop j).map (·.h.t)) ((X.al.drop j).map (·.to))).map (λr=>K.H.map (·.t)++r)
theorem eJ.start (X:RH):eJ X ⟨X.al,[],none,0⟩ 0:=⟨qT _,rfl,rfl,rfl,rfl,zm⟩
theorem uX {H:List LH} (h:l<H.length):H.drop l=H.getD l ay.d::H.drop (l+1):=by
 simp_all
theorem eJ.at {X:RH} {K:KG} {j:Nat} (h:eJ X K j) (a:j<X.al.length):K.al.getD j ay.d=X.al.getD j ay.d:=by
 have b:=h.rest;rw[uX (by rw[h.len];exact a),uX a] at b
 grind
theorem eJ.bad {X:RH} {K:KG} (h:eJ X K l) (a:l<X.al.length) (b:jd X.ss (K.al.getD l ay.d).to=none):gr X.ss (X.al.map (·.h.t)) (X.al.map (·.to))=none:=by
 rw[h.res,uX a,List.map_cons,List.map_cons,gr,<-h.at a,b];rfl
theorem eJ.next {X:RH} {K:KG} (h:eJ X K l) (a:l<X.al.length) (b:jd X.ss (K.al.getD l ay.d).to=some L) (A:Option Addr) (c:Nat):
 eJ X ⟨K.al.set l (bH (K.al.getD l ay.d) L),K.H++[sJ (K.al.getD l ay.d).h L],A,c⟩ (l+1):=by
 refine⟨a,by rw[qI];exact h.len,by rw[qD,h.hl];rfl,?_,?_,?_⟩
 ·show(K.al.set l _).drop (l+1)=_;rw[List.drop_set_of_lt zo];have f:=h.rest;rw[uX (by rw[h.len];exact a),uX a] at f
  grind
 ·show(K.H++[_]).map cE=_;have e:X.al.take (l+1)=X.al.take l++[X.al.getD l ay.d]:=by
   simp_all
  rw[qN,h.ho,e,qN,h.at a];rfl
 ·rw[h.res,uX a,List.map_cons,List.map_cons,gr,<-h.at a,b];show Option.map _ (Option.map _ _)=_;rw[Option.map_map]
  congr 1
  funext r
  show K.H.map (λx:TH=>x.t)++(_::r)=(K.H++[_]).map (λx:TH=>x.t)++r;rw[qN,qL];rfl
theorem eJ.fin {X:RH} {K:KG} (h:eJ X K l) (a: ¬l<X.al.length):gr X.ss (X.al.map (·.h.t)) (X.al.map (·.to))=some (K.H.map (·.t)):=by
 rw[h.res,List.drop_of_length_le zo];simp[gr]
theorem eJ.own {X:RH} {K:KG} (h:eJ X K l) (a: ¬l<X.al.length):K.H.map cE=X.al.map nF:=by
 rw[h.ho,List.take_of_length_le zo]
theorem KH {γ:Type} {F:G->aB} {β:γ->aB} {hs:List G} {gs:List γ} (h:hs.map F=gs.map β):aF F hs=aF β gs:=by
 grind [aF]
theorem DR.ofHpL {w:World} {k3:Nat} {tA:Option Addr} {sc tc:Nat} {H:List TH} {al:List LH} (h:Hp W Q U w) (d:U[l]?=some (OS 9 aN Z sc y)) (f:U[L]?=some (OS 198 aK tA tc H)) (a:U[k3]?=some (aF nF al)) (e:H.map cE=al.map nF):DR w ⟨q,Z,sc,y,tA,tc,H⟩:=by
 rw[<-KH e] at a;exact⟨h.os l d,h.os L f,λi g=>h.bigOS gV a g (G:=λb w=>RS w ax b.A b.t.ops) λi b k=>OS.rs (show(OS 200 ax b.A b.c b.t.ops).sat w i from k)⟩
theorem Vv (h:l<y.length):y.take (l+1)=y.take l++[y.getD l aN.d]:=by
 simp_all
theorem KI {p q:PS} (h:be jc (y.take l)=some p) (b:l<y.length) (c:hF p (y.getD l aN.d)=some q):be jc (y.take (l+1))=some q:=by
 rw[Vv b,Bg,h];show(hF p _).bind _=_;rw[c];rfl
theorem KJ {p:PS} (h:be jc (y.take l)=some p) (b:l<y.length) (c:hF p (y.getD l aN.d)=none):be jc y=none:=by
 grind [List.take_append_drop,be,Bg,Bj]
end Go.Drv
