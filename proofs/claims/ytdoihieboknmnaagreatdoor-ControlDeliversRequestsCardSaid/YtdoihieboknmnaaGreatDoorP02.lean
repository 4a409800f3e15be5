/-
  Joined.
-/
import Derived.Test.YtdoihieboknmnaaGreatDoorP01
set_option linter.unusedSimpArgs false
set_option linter.unusedVariables false
namespace Go.Rails
open Go.Sv
structure Rail where
 supply:Int
 up:Int
 down:Int
structure ROp where
 rail:Int
 on:Bool
 start:Int
 done:Int
 deriving DecidableEq
structure St where
 rails:List Rail
 count:List Int
 done:List Int
 clock:Int
def railK:Enc Rail where
 f r:=[.int .i64 r.supply,.int .u64 r.up,.int .u64 r.down]
 sz:=3
 d:=⟨0,0,0⟩
 len _:=rfl
 pos:=by decide
 one r v hv:=by simp at hv;rcases hv with rfl|rfl|rfl<;>rfl
def opK:Enc ROp where
 f r:=[.int .i64 r.rail,.bool r.on,.int .u64 r.start,.int .u64 r.done]
 sz:=4
 d:=⟨0,false,0,0⟩
 len _:=rfl
 pos:=by decide
 one r v hv:=by simp at hv;rcases hv with rfl|rfl|rfl|rfl<;>rfl
def intK (k:IntKind):Enc Int where
 f n:=[.int k n]
 sz:=1
 d:=0
 len _:=rfl
 pos:=by decide
 one r v hv:=by simp at hv;subst hv;rfl
structure RA where
 A0:Option Addr
 c0:Nat
 A1:Option Addr
 c1:Nat
 A2:Option Addr
 c2:Nat
def robj (t:TypeId) (b:Nat) (a:RA) (st:St):List Assn:=
 [Blk b (.cells #[.slice a.A0 st.rails.length a.c0,.slice a.A1 st.rails.length a.c1,.slice a.A2 st.rails.length a.c2,.int .u64 st.clock] t (0,0)),
  OS 210 railK a.A0 a.c0 st.rails,OS 3 (intK .i64) a.A1 a.c1 st.count,OS 44 (intK .u64) a.A2 a.c2 st.done]
structure St.wf (st:St):Prop where
 count:st.count.length=st.rails.length
 done:st.done.length=st.rails.length
def Acy (rails:List Rail) (rk:Nat→Nat):Prop:= ∀i,i<rails.length→ ∀s:Nat,(rails.getD i railK.d).supply=(s:Int)→s<rails.length∧rk s<rk i
def St.c (st:St) (i:Nat):Int:=st.count.getD i 0
def St.t (st:St) (i:Nat):Int:=st.done.getD i 0
def St.r (st:St) (i:Nat):Rail:=st.rails.getD i railK.d
def St.setC (st:St) (i:Nat) (x:Int):St:={st with count:=st.count.set i x}
def St.setD (st:St) (i:Nat) (x:Int):St:={st with done:=st.done.set i x}
def addP:Nat→St→Nat→Int→List ROp→St×List ROp
 |0,st,_,_,ops=>(st,ops)
 |f+1,st,i,now,ops=>
  if st.c i=0 then
   let q:=if 0≤(st.r i).supply then
    let p:=addP f st (st.r i).supply.toNat now ops
    (p.1,p.2,max (max now (st.t i)) (p.1.t (st.r i).supply.toNat))
    else (st,ops,max now (st.t i))
   let dn:=IntKind.u64.wrap (q.2.2+(st.r i).up)
   let st2:=q.1.setD i dn
   (st2.setC i (IntKind.i64.wrap (st2.c i+1)),q.2.1++[⟨i,true,q.2.2,dn⟩])
  else (st.setC i (IntKind.i64.wrap (st.c i+1)),ops)
def kNu (st:St) (i:Int):Nat→Int
 |0=>0
 |k+1=>if (st.r k).supply=i∧0<st.c k then kNu st i k+1 else kNu st i k
theorem kTm {st:St} (h:st.wf) (i:Nat) (x:Int):(st.setC i x).wf:=⟨by simp[St.setC,h.count],h.done⟩
theorem kUB {st:St} (h:st.wf) (i:Nat) (x:Int):(st.setD i x).wf:=⟨h.count,by simp[St.setD,h.done]⟩
theorem kTD (f:Nat): ∀(st:St) (i:Nat) (now:Int) (ops:List ROp),(addP f st i now ops).1.rails=st.rails∧(addP f st i now ops).1.clock=st.clock∧(addP f st i now ops).1.count.length=st.count.length∧(addP f st i now ops).1.done.length=st.done.length∧(addP f st i now ops).2.length≤ops.length+f:=by
 induction f with
 |zero=>intros;simp[addP]
 |succ f a=>
  intro st i now ops;simp only[addP];obtain⟨b,c,d,e,g⟩:=a st (st.r i).supply.toNat now ops;split
  ·split
   ·exact⟨b,c,by simp[St.setC,St.setD,d],by simp[St.setC,St.setD,e],by simp;omega⟩
   ·exact⟨rfl,rfl,by simp[St.setC,St.setD],by simp[St.setC,St.setD],by simp⟩
  ·exact⟨rfl,rfl,by simp[St.setC],rfl,by show ops.length≤_;omega⟩
theorem kTI {f:Nat} {st:St} {i:Nat} {now:Int} {ops:List ROp} (h: ¬st.c i=0):addP (f+1) st i now ops=(st.setC i (IntKind.i64.wrap (st.c i+1)),ops):=by rw[addP,if_neg h]
theorem kTZ {f:Nat} {st a:St} {i s:Nat} {now:Int} {ops b:List ROp} (h:st.c i=0) (hs:(st.r i).supply=(s:Int)) (d:addP f st s now ops=(a,b)):
 addP (f+1) st i now ops=((a.setD i (IntKind.u64.wrap (max (max now (st.t i)) (a.t s)+(a.r i).up))).setC i (IntKind.i64.wrap ((a.setD i (IntKind.u64.wrap (max (max now (st.t i)) (a.t s)+(a.r i).up))).c i+1)),
  b++[⟨i,true,max (max now (st.t i)) (a.t s),IntKind.u64.wrap (max (max now (st.t i)) (a.t s)+(a.r i).up)⟩]):=by
 have e:=(kTD f st s now ops).1;rw[d] at e;have g:a.r i=st.r i:=by unfold St.r;rw[e]
 rw[addP,if_pos h];simp only[hs,qh,d,g,Int.natCast_nonneg,if_true]
theorem kTa {f:Nat} {st:St} {i:Nat} {now:Int} {ops:List ROp} (h:st.c i=0) (hs: ¬0≤(st.r i).supply):
 addP (f+1) st i now ops=((st.setD i (IntKind.u64.wrap (max now (st.t i)+(st.r i).up))).setC i (IntKind.i64.wrap ((st.setD i (IntKind.u64.wrap (max now (st.t i)+(st.r i).up))).c i+1)),
  ops++[⟨i,true,max now (st.t i),IntKind.u64.wrap (max now (st.t i)+(st.r i).up)⟩]):=by
 rw[addP,if_pos h];simp only[hs,if_false]
def St.tick (st:St) (now:Int):St:={st with clock:=now}
def St.ok (st:St) (x now:Int):Prop:=(0≤x∧x<st.rails.length)∧st.clock≤now∧now≤1152921504606846976
instance(st:St) (x now:Int):Decidable (st.ok x now):=inferInstanceAs (Decidable (_∧_))
structure Res where
 st:St
 ops:List ROp
 err:Int
def acqM (f:Nat) (st:St) (x now:Int):Res:=
 if st.ok x now then ⟨(addP f (st.tick now) x.toNat now []).1,(addP f (st.tick now) x.toNat now []).2,0⟩ else ⟨st,[],1⟩
theorem kTx {f:Nat} {st:St} {x now:Int} (h:st.ok x now):acqM f st x now=⟨(addP f (st.tick now) x.toNat now []).1,(addP f (st.tick now) x.toNat now []).2,0⟩:=if_pos h
theorem kVF {f:Nat} {st:St} {x now:Int} (h: ¬st.ok x now):acqM f st x now=⟨st,[],1⟩:=if_neg h
def addR:Nat→St→Nat→Int→List ROp→St×List ROp
 |0,st,_,_,ops=>(st,ops)
 |f+1,st0,i,now,ops=>
  let st:=st0.setC i (IntKind.i64.wrap (st0.c i+1))
  if 1<st.c i then (st,ops)
  else
   let q:=if 0≤(st.r i).supply then
    let p:=addR f st (st.r i).supply.toNat now ops
    (p.1,p.2,max (max now (st.t i)) (p.1.t (st.r i).supply.toNat))
    else (st,ops,max now (st.t i))
   let dn:=IntKind.u64.wrap (q.2.2+(st.r i).up)
   (q.1.setD i dn,q.2.1++[⟨i,true,q.2.2,dn⟩])
def ownM (st:St) (i:Int) (n0:Int):Nat→Int
 |0=>n0
 |k+1=>if (st.r k).supply=i∧0<st.c k then IntKind.i64.wrap (ownM st i n0 k-1) else ownM st i n0 k
structure Link where
 con:Int
 sup:Int
 deriving DecidableEq
def linkK:Enc Link where
 f r:=[.int .i64 r.con,.int .i64 r.sup]
 sz:=2
 d:=⟨0,0⟩
 len _:=rfl
 pos:=by decide
 one r v hv:=by simp at hv;rcases hv with rfl|rfl<;>rfl
def kNv (l:Link):Value:= .agg #[.int .i64 l.con,.int .i64 l.sup]
def okL (n:Int) (l:Link):Prop:=(0≤l.con∧l.con<n)∧0≤l.sup∧l.sup<n
instance(n:Int) (l:Link):Decidable (okL n l):=inferInstanceAs (Decidable (_∧_))
def clM (n:Int) (links:List Link):Int:=
 if n<0∨128<n∨(1024:Int)<links.length then 1
 else if ∀j,j<links.length→okL n (links.getD j linkK.d) then if links.Nodup then 0 else 7 else 1
theorem kBG (ks:List Link) (x:Link):mget (ks.map fun l=>(l,true)) x=if x∈ks then some true else none:=by
 induction ks with
 |nil=>simp[mget]
 |cons a r b=>
  simp only[List.map_cons,mget,b,qe];by_cases h:x=a<;>simp[h]
theorem kEj (ks:List Link) (x:Link):(mget (ks.map fun l=>(l,true)) x).getD false=decide (x∈ks):=by rw[kBG];split<;>simp_all
theorem kAJ {α:Type} (l:List α) (k:Nat) (d:α) (h:k<l.length):l.take (k+1)=l.take k++[l.getD k d]:=by
 simp_all
theorem kBl (links:List Link) (k:Nat) (h:k<links.length) (a:(links.take k).Nodup) (b: ¬links.getD k linkK.d∈links.take k):(links.take (k+1)).Nodup:=by
 grind [kAJ]
theorem kFd (links:List Link) (k:Nat) (h:k<links.length) (b:links.getD k linkK.d∈links.take k): ¬links.Nodup:=by
 intro a;have c:(links.take (k+1)).Nodup:=a.sublist (List.take_sublist _ _)
 grind [kAJ]
structure Hd where
 A:Option Addr
 c:Nat
 ys:List Int
def hdK:Enc Hd where
 f h:=[.slice h.A h.ys.length h.c]
 sz:=1
 d:=⟨none,0,[]⟩
 len _:=rfl
 pos:=by decide
 one r v hv:=by simp at hv;subst hv;rfl
def hdF (h:Hd):Assn:=OS 3 (intK .i64) h.A h.c h.ys
theorem hdRS {w:World} (i:Ids) (b:Hd) (h:(hdF b).sat w i):RS w (intK .i64) b.A b.ys:=OS.rs h
def nbM (links:List Link) (cons:Bool) (s:Nat):List Int:=
 match links with
 |[]=>[]
 |l::r=>if (if cons then l.sup else l.con)=(s:Int) then (if cons then l.con else l.sup)::nbM r cons s else nbM r cons s
theorem kEk (links:List Link) (cons:Bool) (l:Link) (s:Nat):nbM (links++[l]) cons s=nbM links cons s++(if (if cons then l.sup else l.con)=(s:Int) then [if cons then l.con else l.sup] else []):=by
 induction links with
 |nil=>simp[nbM]
 |cons a r b=>
  grind [nbM]
theorem kCz (links:List Link) (cons:Bool) (s:Nat):(nbM links cons s).length≤links.length:=by
 induction links with
 |nil=>simp[nbM]
 |cons a r b=>
  grind [nbM]
theorem kHE {links:List Link} {j s:Nat} {b:Bool} {h:Hd} (a:h.ys=nbM (links.take j) b s):h.ys.length≤links.length:=by
 grind [kCz]
theorem kD0 {links:List Link} {j s n:Nat} {b:Bool} {hs:List Hd} {A:Option Addr} {c:Nat} {y:Int} (e:j<links.length) (h: ∀s,s<n→(hs.getD s hdK.d).ys=nbM (links.take j) b s) (f:hs.length=n) (a:s<n)
 (g:(if b then (links.getD j linkK.d).sup else (links.getD j linkK.d).con)=(s:Int)) (i:(if b then (links.getD j linkK.d).con else (links.getD j linkK.d).sup)=y):
 ∀t,t<n→((hs.set s ⟨A,c,(hs.getD s hdK.d).ys++[y]⟩).getD t hdK.d).ys=nbM (links.take (j+1)) b t:=by
 grind [kAJ,kEk]
theorem kIw {links:List Link} {n:Int} (h: ∀i,i<links.length→okL n (links.getD i linkK.d)) (b:Bool) (s k:Nat) (e:k<(nbM links b s).length):0≤(nbM links b s).getD k 0∧(nbM links b s).getD k 0<n:=by
 have key: ∀l:List Link,(∀x∈l,okL n x)→ ∀y∈nbM l b s,0≤y∧y<n:=by
  intro l
  induction l with
  |nil=>grind [nbM]
  |cons a r f=>
   intro c y g;have j:=c a (by simp)
   grind [okL,nbM]
 refine key links (fun x m=>?_) _ ?_
 ·grind [List.getElem_of_mem]
 grind
def msM (links:List Link) (i:Nat):Int:=
 match links with
 |[]=>0
 |l::r=>if l.con=(i:Int) then msM r i+1 else msM r i
theorem kHF (links:List Link) (l:Link) (i:Nat):msM (links++[l]) i=msM links i+(if l.con=(i:Int) then 1 else 0):=by
 induction links with
 |nil=>simp[msM]
 |cons a r b=>simp only[qM,msM,b];split<;>omega
theorem kNw {links:List Link} {j i n:Nat} {ms:List Int} (a:j<links.length) (h: ∀i,i<n→ms.getD i 0=msM (links.take j) i) (b:ms.length=n) (c:i<n) (e:(links.getD j linkK.d).con=(i:Int)):
 ∀t,t<n→(ms.set i (ms.getD i 0+1)).getD t 0=msM (links.take (j+1)) t:=by
 grind [kAJ,kHF]
theorem kMk (links:List Link) (i:Nat):0≤msM links i∧msM links i≤links.length:=by
 induction links with
 |nil=>simp[msM]
 |cons a r b=>simp only[msM,qB];split<;>omega
theorem kGT (links:List Link) (i j:Nat):0≤msM (links.take j) i∧msM (links.take j) i≤links.length:=by
 have:=kMk (links.take j) i
 grind
def idxM (x:Int) (ms:List Int):Nat→Int
 |0=> -1
 |k+1=>if idxM x ms k= -1 then (if ms.getD k 0=x then (k:Int) else -1) else idxM x ms k
theorem kBH {x:Int} {ms:List Int}: ∀ {k:Nat},idxM x ms k= -1↔ ∀j,j<k→ ¬ms.getD j 0=x
 |0=>by simp[idxM]
 |k+1=>by
  simp only[idxM];have a:=kBH (x:=x) (ms:=ms) (k:=k)
  grind
theorem kAn {x:Int} {ms:List Int}: ∀ {k:Nat},idxM x ms k≠ -1→ ∃i:Nat,idxM x ms k=(i:Int)∧i<k∧ms.getD i 0=x∧ ∀j,j<i→ ¬ms.getD j 0=x
 |0,h=>by grind [idxM]
 |k+1,h=>by
  simp only[idxM] at h ⊢;by_cases a:idxM x ms k= -1
  ·grind [kBH]
  ·rw[if_neg a];obtain⟨i,b,c,d⟩:=kAn a
   grind
theorem kIx {x:Int} {ms:List Int} {k n:Nat} (a:k<n) (h:idxM x ms k= -1) (b:ms.getD k 0=x):idxM x ms n=(k:Int):=by
 have key: ∀d,idxM x ms (k+1+d)=(k:Int):=by
  intro d
  induction d with
  |zero=>grind [idxM]
  |succ d c=>grind [idxM]
 have:=key (n-(k+1))
 grind
def dec1 (ms:List Int) (c:Int):List Int:=ms.set c.toNat (ms.getD c.toNat 0-1)
def decs (ms:List Int) (cs:List Int):Nat→List Int
 |0=>ms
 |k+1=>dec1 (decs ms cs k) (cs.getD k 0)
theorem kA2 (ms cs:List Int) (k:Nat):(decs ms cs k).length=ms.length:=by
 induction k with
 |zero=>rfl
 |succ k a=>grind [decs,dec1]
def nnn (ms:List Int):Nat→Nat
 |0=>0
 |k+1=>nnn ms k+if 0≤ms.getD k 0 then 1 else 0
theorem kQ3 {a b:List Int} {k:Nat} (h: ∀i,i<k→b.getD i 0≤a.getD i 0):nnn b k≤nnn a k:=by
 induction k with
 |zero=>simp[nnn]
 |succ k c=>
  have d:=c fun i e=>h i (by omega);have f:=h k (by omega);simp only[nnn];split<;>split<;>omega
theorem kQ4 {a b:List Int} {k i:Nat} (h: ∀i,i<k→b.getD i 0≤a.getD i 0) (c:i<k) (d:0≤a.getD i 0) (f:b.getD i 0<0):nnn b k<nnn a k:=by
 induction k with
 |zero=>omega
 |succ k g=>
  have l:=h k (by omega);simp only[nnn];by_cases e:i=k
  ·subst e;have:=kQ3 (k:=i) fun j m=>h j (by omega)
   grind
  grind
theorem kAo (ms cs:List Int) (k i:Nat):(decs ms cs k).getD i 0≤ms.getD i 0∧ms.getD i 0-k≤(decs ms cs k).getD i 0:=by
 induction k with
 |zero=>simp[decs]
 |succ k a=>
  grind [decs,dec1]
def kAa (nb:Nat→List Int) (n:Nat):Nat→List Int→List Int→List Int
 |0,_,ord=>ord
 |f+1,ms,ord=>if idxM 0 ms n= -1 then ord else kAa nb n f (decs (ms.set (idxM 0 ms n).toNat (-1)) (nb (idxM 0 ms n).toNat) (nb (idxM 0 ms n).toNat).length) (ord++[idxM 0 ms n])
theorem kHG {ms:List Int} {n:Nat} (h:nnn ms n=0):idxM 0 ms n= -1:=by
 rw[kBH]
 induction n with
 |zero=>grind
 |succ n a=>
  grind [nnn]
theorem kCU {nb:Nat→List Int} {ms:List Int} {n i:Nat} (b:ms.length=n) (a:i<n) (c:ms.getD i 0=0) (cs:List Int) (k:Nat):nnn (decs (ms.set i (-1)) cs k) n<nnn ms n:=by
 refine kQ4 (fun j d=>?_) a (by omega) ?_
 ·refine Int.le_trans (kAo _ _ _ _).1 ?_
  grind
 ·refine Int.lt_of_le_of_lt (kAo _ _ _ _).1 ?_
  grind
theorem kDd (nb:Nat→List Int) (n:Nat): ∀(f g:Nat) (ms ord:List Int),nnn ms n≤f→nnn ms n≤g→ms.length=n→kAa nb n f ms ord=kAa nb n g ms ord:=by
 intro f
 induction f with
 |zero=>
  intro g ms ord h _ _;have:=kHG (ms:=ms) (n:=n) (by omega);cases g<;>simp[kAa,this]
 |succ f j=>
  intro g ms ord h k b;by_cases a:idxM 0 ms n= -1
  ·cases g<;>simp[kAa,a]
  ·obtain⟨i,l,c,d,_⟩:=kAn a;have e:=kCU (nb:=nb) b c d (nb i) (nb i).length;cases g with
   |zero=>omega
   |succ g=>
    grind [kAa,kA2]
def ms0 (n:Nat) (links:List Link):List Int:=(List.range n).map (msM links)
def seqM (n:Nat) (links:List Link):List Int:=kAa (nbM links true) n (nnn (ms0 n links) n) (ms0 n links) []
theorem kQ5 {n:Nat} {links:List Link} {ms:List Int} (a:ms.length=n) (h: ∀i,i<n→ms.getD i 0=msM links i):ms=ms0 n links:=by
 apply List.ext_getElem (by simp[ms0,a])
 grind [ms0]
theorem kGU {nb:Nat→List Int} {n i:Nat} {ms ord:List Int} (b:ms.length=n) (g:idxM 0 ms n=(i:Int)):
 kAa nb n (nnn ms n) ms ord=kAa nb n (nnn (decs (ms.set i (-1)) (nb i) (nb i).length) n) (decs (ms.set i (-1)) (nb i) (nb i).length) (ord++[(i:Int)]):=by
 obtain⟨a,e,c,d,_⟩:=kAn (x:=0) (ms:=ms) (k:=n) (by omega);have:a=i:=by omega
 subst this;have f:=kCU (nb:=nb) b c d (nb a) (nb a).length;have h:kAa nb n (nnn ms n) ms ord=kAa nb n (nnn ms n-1) (decs (ms.set a (-1)) (nb a) (nb a).length) (ord++[(a:Int)]):=by
  rw[show nnn ms n=(nnn ms n-1)+1 from by omega,kAa]
  grind
 grind [kDd,kA2]
theorem kIS {nb:Nat→List Int} {n:Nat} {ms ord:List Int} (a:idxM 0 ms n= -1) (f:Nat):kAa nb n f ms ord=ord:=by
 cases f<;>simp[kAa,a]
def chkM (n:Nat) (links:List Link):Int:=if clM n links≠0 then clM n links else if ((seqM n links).length:Int)≠n then 18 else 0
theorem kDM {n:Nat} {links:List Link} (h:clM n links=0):n≤128∧links.length≤1024∧ ∀j,j<links.length→okL n (links.getD j linkK.d):=by
 grind [clM]
theorem kFe (ms:List Int) (k:Nat):nnn ms k≤k:=by
 induction k with
 |zero=>simp[nnn]
 |succ k a=>simp only[nnn];split<;>omega
theorem kMl {ms:List Int} {i e:Nat} {m:Int} (h:ms.getD e 0≤1024∧m≤ms.getD e 0):(ms.set i (-1)).getD e 0≤1024∧(m≤(ms.set i (-1)).getD e 0∨ -1≤(ms.set i (-1)).getD e 0):=by
 grind
theorem kNx {ms:List Int} {ord:List Int} {ys:List Int} {links:List Link} {n i:Nat}
 (a:ms.length=n∧nnn ms n+ord.length≤n∧(∀i,i<n→ms.getD i 0≤1024∧ -(2000* (ord.length:Int))≤ms.getD i 0)∧kAa (nbM links true) n (nnn ms n) ms ord=seqM n links) (b:links.length≤1024)
 (g:idxM 0 ms n=(i:Int)) (c:i<n) (d:ms.getD i 0=0) (h:ys=nbM links true i):
 (decs (ms.set i (-1)) ys ys.length).length=n∧nnn (decs (ms.set i (-1)) ys ys.length) n+(ord++[(i:Int)]).length≤n∧
  (∀k,k<n→(decs (ms.set i (-1)) ys ys.length).getD k 0≤1024∧ -(2000* ((ord++[(i:Int)]).length:Int))≤(decs (ms.set i (-1)) ys ys.length).getD k 0)∧
  kAa (nbM links true) n (nnn (decs (ms.set i (-1)) ys ys.length) n) (decs (ms.set i (-1)) ys ys.length) (ord++[(i:Int)])=seqM n links:=by
 have e:=kCU (nb:=nbM links true) a.1 c d ys ys.length;have f:ys.length≤1024:=by grind [kCz]
 refine⟨by grind [kA2],by grind,fun k j=>?_,?_⟩
 ·have l:=kAo (ms.set i (-1)) ys ys.length k
  grind
 grind [kGU]
def badR (n:Int) (r:Rail):Prop:=r.supply< -1∨n≤r.supply∨1048576<r.up∨1048576<r.down
instance(n:Int) (r:Rail):Decidable (badR n r):=inferInstanceAs (Decidable (_∨_))
def lkM (rails:List Rail):Nat→List Link
 |0=>[]
 |k+1=>if 0≤(rails.getD k railK.d).supply then lkM rails k++[⟨k,(rails.getD k railK.d).supply⟩] else lkM rails k
theorem kEP (rails:List Rail) (k:Nat):(lkM rails k).length≤k:=by
 induction k with
 |zero=>simp[lkM]
 |succ k a=>
  grind [lkM]
def newE (rails:List Rail):Int:=
 if 64<rails.length then 1
 else if ∀j,j<rails.length→ ¬badR rails.length (rails.getD j railK.d) then chkM rails.length (lkM rails rails.length) else 1
def itM (rails:List Rail) (i:Int):Nat→Int
 |0=>i
 |k+1=>if 0≤itM rails i k then (rails.getD (itM rails i k).toNat railK.d).supply else itM rails i k
def kAM (rails:List Rail):Int:=
 if 64<rails.length then 1
 else if ∀j,j<rails.length→ ¬badR rails.length (rails.getD j railK.d) then
  if ∀j,j<rails.length→itM rails j rails.length<0 then 0 else 18
 else 1
theorem kHH {rails:List Rail} {i:Int} {k:Nat} (h:itM rails i k<0): ∀d,itM rails i (k+d)=itM rails i k
 |0=>rfl
 |d+1=>by rw[show k+(d+1)=(k+d)+1 from by omega,itM,kHH h d,if_neg (by omega)]
theorem kMm {rails:List Rail} {i:Int} (a:i<rails.length) (h: ∀j,j<rails.length→ ¬badR rails.length (rails.getD j railK.d)): ∀k,itM rails i k<rails.length
 |0=>a
 |k+1=>by
  have b:=kMm a h k
  grind [itM,badR]
theorem kNy {rails:List Rail} {i:Int} {k m:Nat} (h:itM rails i k=(m:Int)):itM rails i (k+1)=(rails.getD m railK.d).supply:=by grind [itM]
theorem kIy {rails:List Rail} (h:(64:Int)<rails.length):newE rails=1:=by grind [newE]
theorem kDN {rails:List Rail} {j:Nat} (h: ¬(64:Int)<rails.length) (a:j<rails.length) (b:badR rails.length (rails.getD j railK.d)):newE rails=1:=by grind [newE]
theorem kBS {rails:List Rail} (h: ¬(64:Int)<rails.length) (a: ∀j,j<rails.length→ ¬badR rails.length (rails.getD j railK.d)):newE rails=chkM rails.length (lkM rails rails.length):=by grind [newE]
theorem kIT {rails:List Rail} (h:(64:Int)<rails.length):kAM rails=1:=by grind [kAM]
theorem kCV {rails:List Rail} {j:Nat} (h: ¬(64:Int)<rails.length) (a:j<rails.length) (b:badR rails.length (rails.getD j railK.d)):kAM rails=1:=by grind [kAM]
theorem kAc {rails:List Rail} (h: ¬(64:Int)<rails.length) (a: ∀j,j<rails.length→ ¬badR rails.length (rails.getD j railK.d)) (b: ∀j,j<rails.length→itM rails j rails.length<0):kAM rails=0:=by grind [kAM]
theorem kFf {rails:List Rail} {j:Nat} (h: ¬(64:Int)<rails.length) (a: ∀j,j<rails.length→ ¬badR rails.length (rails.getD j railK.d)) (b:j<rails.length) (c:0≤itM rails j rails.length):kAM rails=18:=by grind [kAM]
def new0 (rails:List Rail):St:=⟨rails,List.replicate rails.length 0,List.replicate rails.length 0,0⟩
structure RCall where
 rel:Bool
 rail:Int
 wait:Int
 raw:Bool
def modM (v:Int) (n:Nat):Int:=(IntKind.u64.wrap v)%n
theorem kA8 (v:Int) {n:Nat} (h:0<n):0≤modM v n∧modM v n<n:=⟨Int.emod_nonneg _ (by omega),Int.emod_lt_of_pos _ (by omega)⟩
def sm1 (raw:List Rail):Nat→List Rail
 |0=>[]
 |k+1=>sm1 raw k++[⟨modM (raw.getD k railK.d).supply (k+1)-1,(raw.getD k railK.d).up.tmod 20,(raw.getD k railK.d).down.tmod 20⟩]
theorem kA3 (a:List Rail) (k:Nat):(sm1 a k).length=k:=by
 induction k with
 |zero=>rfl
 |succ k b=>simp[sm1,b]
theorem kIz (a:List Rail) {k i:Nat} (h:i<k):(sm1 a k).getD i railK.d=⟨modM (a.getD i railK.d).supply (i+1)-1,(a.getD i railK.d).up.tmod 20,(a.getD i railK.d).down.tmod 20⟩:=by
 induction k with
 |zero=>omega
 |succ k b=>
  simp only[sm1];by_cases e:i=k
  ·simp_all[kA3]
  ·have c:i<(sm1 a k).length:=by grind [kA3]
   grind
theorem kEl (a:List Rail) {k i:Nat} (h:i<k): -1≤((sm1 a k).getD i railK.d).supply∧((sm1 a k).getD i railK.d).supply<i:=by
 rw[kIz a h];have:=kA8 (a.getD i railK.d).supply (n:=i+1) (by omega)
 grind
def turn (n:Nat) (r:Rail):Rail:=if 0≤r.supply then {r with supply:=n-1-r.supply} else r
def kA5 (raw:List Rail):List Rail:=
 let n:=min raw.length 8
 if n%2=1 then (List.range n).map fun p=>turn n ((sm1 raw n).getD (n-1-p) railK.d) else sm1 raw n
theorem kHI {n:Nat} {a z:List Rail} (b:z.length=n) (h: ∀i,i<n→z.getD (n-1-i) railK.d=turn n (a.getD i railK.d)):z=(List.range n).map fun p=>turn n (a.getD (n-1-p) railK.d):=by
 apply List.ext_getElem (by grind)
 grind
def kHJ (r:Rail):Prop:=(-9223372036854775808≤r.supply∧r.supply≤9223372036854775807)∧(0≤r.up∧r.up≤18446744073709551615)∧0≤r.down∧r.down≤18446744073709551615
section
variable {rails:List Rail}
def sp (rails:List Rail) (i:Nat):Int:=(rails.getD i railK.d).supply
def Fine (rails:List Rail):Prop:= ∀j,j<rails.length→ ¬badR rails.length (rails.getD j railK.d)
theorem Fine.lt (h:Fine rails) {i:Nat} (a:i<rails.length): -1≤sp rails i∧sp rails i<rails.length:=by
 have:=h i a
 grind [badR,sp]
theorem kDe (rails:List Rail): ∀(k:Nat) (l:Link),l∈lkM rails k→ ∃i:Nat,i<k∧l.con=i∧l.sup=sp rails i∧0≤sp rails i
 |0,l,h=>by simp[lkM] at h
 |k+1,l,h=>by
  simp only[lkM] at h;by_cases hs:0≤(rails.getD k railK.d).supply
  ·rw[if_pos hs] at h;rcases List.mem_append.1 h with h|h
   ·obtain⟨i,a,b⟩:=kDe rails k l h
    grind
   ·simp at h;subst h;exact⟨k,by omega,rfl,rfl,hs⟩
  ·rw[if_neg hs] at h;obtain⟨i,a,b⟩:=kDe rails k l h
   grind
theorem kDf (rails:List Rail): ∀k:Nat,(lkM rails k).Nodup
 |0=>by simp[lkM]
 |k+1=>by
  simp only[lkM];by_cases hs:0≤(rails.getD k railK.d).supply
  ·rw[if_pos hs];refine List.nodup_append.2 ⟨kDf rails k,by simp,fun a c b e=>?_⟩
   grind [kDe]
  ·rw[if_neg hs];exact kDf rails k
theorem kQ6 (h:Fine rails) (c:rails.length≤64):clM rails.length (lkM rails rails.length)=0:=by
 have e:=kEP rails rails.length;rw[clM,if_neg (by omega),if_pos,if_pos (kDf rails _)];intro j f;have a:(lkM rails rails.length).getD j linkK.d∈lkM rails rails.length:=by
  grind
 obtain⟨i,b,g,k,l⟩:=kDe rails _ _ a;have:=h.lt b
 grind [okL]
def cntK (cs:List Int) (e:Int):Nat→Int
 |0=>0
 |k+1=>cntK cs e k+if cs.getD k 0=e then 1 else 0
theorem kDg (cs:List Int) (c e:Int): ∀k,k≤cs.length→cntK (cs++[c]) e k=cntK cs e k
 |0,_=>rfl
 |k+1,h=>by
  simp only[cntK];rw[kDg cs c e k (by omega)]
  grind
theorem kJ0 (cs:List Int) (c e:Int):cntK (cs++[c]) e (cs++[c]).length=cntK cs e cs.length+if c=e then 1 else 0:=by
 simp_all[cntK,kDg]
theorem kEm (ms cs:List Int) (e:Nat) (b:e<ms.length) (a: ∀k,k<cs.length→0≤cs.getD k 0): ∀k,k≤cs.length→(decs ms cs k).getD e 0=ms.getD e 0-cntK cs e k
 |0,_=>by simp[decs,cntK]
 |k+1,hk=>by
  have c:=kEm ms cs e b a k (by omega);have f:=a k (by omega);simp only[decs,dec1,cntK];by_cases d:cs.getD k 0=(e:Int)
  ·grind [qh,kA1,kA2]
  ·rw[if_neg d,kA0 _ _ _ (by omega),c];omega
theorem kMn (rails:List Rail) (s e:Nat): ∀k,cntK (nbM (lkM rails k) true s) e (nbM (lkM rails k) true s).length=if e<k∧sp rails e=(s:Int) then 1 else 0
 |0=>by simp[lkM,nbM,cntK]
 |k+1=>by
  have a:=kMn rails s e k
  grind [lkM,kEk,kJ0,sp]
theorem kQ7 (rails:List Rail) (i:Nat): ∀k,msM (lkM rails k) i=if i<k∧0≤sp rails i then 1 else 0
 |0=>by simp[lkM,msM]
 |k+1=>by
  have a:=kQ7 rails i k
  grind [lkM,kHF,sp]
structure TInv (rails:List Rail) (ms:List Int) (m:Nat):Prop where
 len:ms.length=rails.length
 cnt:nnn ms rails.length+m=rails.length
 open_: ∀i,i<rails.length→0≤ms.getD i 0→ms.getD i 0=if 0≤sp rails i∧0≤ms.getD (sp rails i).toNat 0 then 1 else 0
 rank: ∃rk:Nat→Nat,∀i,i<rails.length→ms.getD i 0<0→rk i<m∧(0≤sp rails i→ms.getD (sp rails i).toNat 0<0∧rk (sp rails i).toNat<rk i)
theorem kQ8 {a b:List Int} {k i:Nat} (d:i<k) (e:0≤a.getD i 0) (f:b.getD i 0<0) (h: ∀j,j<k→j≠i→(0≤b.getD j 0↔0≤a.getD j 0)):nnn b k+1=nnn a k:=by
 have same: ∀k,k≤i→(∀j,j<k→(0≤b.getD j 0↔0≤a.getD j 0))→nnn b k=nnn a k:=by
  intro k
  induction k with
  |zero=>intros;rfl
  |succ k c=>
   grind [nnn]
 induction k with
 |zero=>omega
 |succ k c=>
  grind [nnn]
theorem TInv.step (r:Fine rails) {ms:List Int} {m i:Nat} (h:TInv rails ms m) (t:i<rails.length) (h0:ms.getD i 0=0):
 TInv rails (decs (ms.set i (-1)) (nbM (lkM rails rails.length) true i) (nbM (lkM rails rails.length) true i).length) (m+1):=by
 have n: ∀k,k<(lkM rails rails.length).length→okL rails.length ((lkM rails rails.length).getD k linkK.d):=by
  intro j H;have B:(lkM rails rails.length).getD j linkK.d∈lkM rails rails.length:=by grind
  obtain⟨i,u,C,I,J⟩:=kDe rails _ _ B;have:=r.lt u
  grind [okL]
 have f: ∀e,e<rails.length→(decs (ms.set i (-1)) (nbM (lkM rails rails.length) true i) (nbM (lkM rails rails.length) true i).length).getD e 0=(if e=i then -1 else ms.getD e 0)-if sp rails e=(i:Int) then 1 else 0:=by
  intro e a;rw[kEm _ _ e (by rw[qI,h.len];exact a) (fun k D=>(kIw n true i k D).1) _ (qU _),kMn]
  congr 1
  ·by_cases E:e=i
   ·subst E;rw[if_pos rfl,kA1 _ _ _ _ (by rw[h.len];exact t)]
   grind
  grind
 generalize v:decs (ms.set i (-1)) (nbM (lkM rails rails.length) true i) (nbM (lkM rails rails.length) true i).length=ms' at f;have y: ∀e,e<rails.length→sp rails e=(i:Int)→e≠i→ms.getD e 0=1:=by
  intro e a l b;by_cases s:0≤ms.getD e 0
  ·rw[h.open_ e a s,if_pos ⟨by omega,by grind⟩]
  ·obtain⟨rk,o⟩:=h.rank
   grind [qh]
 have w:sp rails i≠(i:Int):=by
  intro l;have:=h.open_ i t (by omega)
  grind
 have F:ms'.getD i 0= -1:=by grind
 have c: ∀e,e<rails.length→e≠i→(0≤ms'.getD e 0↔0≤ms.getD e 0):=by
  grind
 have p:ms'.length=rails.length:=by rw[←v,kA2,qI,h.len]
 refine⟨p,?_,fun e a s=>?_,?_⟩
 ·have:=kQ8 t (by omega) (by omega) c;have:=h.cnt;omega
 ·have b:e≠i:=by grind
  have g:=(c e a b).1 s;have z:=h.open_ e a g;rw[f e a,if_neg b,z];by_cases l:sp rails e=(i:Int)
  ·grind
  ·rw[if_neg l];by_cases G:0≤sp rails e
   ·have q:=(r.lt a).2
    grind
   grind
 ·obtain⟨rk,o⟩:=h.rank;refine⟨fun e=>if e=i then m else rk e,fun e a s=>?_⟩;by_cases b:e=i
  ·subst b;simp only[if_true];refine⟨by omega,fun l=>?_⟩;have z:=h.open_ e a (by omega);have A:ms.getD (sp rails e).toNat 0<0:=by
    grind
   have q:=(r.lt a).2
   grind
  ·have g:ms.getD e 0<0:=by grind
   have u:=o e a g;simp only[if_neg b];refine⟨by omega,fun l=>?_⟩;have C:=u.2 l;have q:=(r.lt a).2;have x:(sp rails e).toNat≠i:=by grind
   have:=c (sp rails e).toNat (by omega) x
   grind
theorem kEQ (a:Fine rails): ∀(f:Nat) (ms ord:List Int),TInv rails ms ord.length→nnn ms rails.length≤f→
 ∃ms',TInv rails ms' (kAa (nbM (lkM rails rails.length) true) rails.length f ms ord).length∧idxM 0 ms' rails.length= -1
 |0,ms,ord,h,e=>⟨ms,h,kHG (by omega)⟩
 |f+1,ms,ord,h,e=>by
  simp only[kAa];by_cases b:idxM 0 ms rails.length= -1
  ·grind
  ·rw[if_neg b];obtain⟨i,g,c,d,_⟩:=kAn b;rw[g,qh];have k:=h.step a c d;have j:=kCU (nb:=nbM (lkM rails rails.length) true) h.len c d (nbM (lkM rails rails.length) true i) (nbM (lkM rails rails.length) true i).length;exact kEQ a f _ _ (by grind) (by omega)
theorem TInv.start:TInv rails (ms0 rails.length (lkM rails rails.length)) 0:=by
 have c: ∀i,i<rails.length→(ms0 rails.length (lkM rails rails.length)).getD i 0=if 0≤sp rails i then 1 else 0:=by
  grind [ms0,kQ7]
 have a: ∀k,k≤rails.length→nnn (ms0 rails.length (lkM rails rails.length)) k=k:=by
  intro k
  induction k with
  |zero=>intro;rfl
  |succ k d=>
   grind [nnn]
 refine⟨by simp[ms0],by grind,fun i b _=>?_,fun _=>0,fun i b h=>?_⟩
 ·grind [ms0]
 grind
theorem kNz (g:Fine rails):(seqM rails.length (lkM rails rails.length)).length=rails.length↔ ∀j,j<rails.length→itM rails j rails.length<0:=by
 obtain⟨a,c,o⟩:=kEQ g (nnn (ms0 rails.length (lkM rails rails.length)) rails.length) (ms0 rails.length (lkM rails rails.length)) [] TInv.start (qU _);rw[kBH] at o;change TInv rails a (seqM rails.length (lkM rails rails.length)).length at c;generalize (seqM rails.length (lkM rails rails.length)).length=m at c;constructor
 ·intro s;subst s;have t:nnn a rails.length=0:=by have:=c.cnt;omega
  have e: ∀i,i<rails.length→a.getD i 0<0:=by
   have key: ∀k,nnn a k=0→ ∀i,i<k→a.getD i 0<0:=by
    intro k
    induction k with
    |zero=>grind
    |succ k f=>
     grind [nnn]
   grind
  obtain⟨rk,l⟩:=c.rank;intro j x;have key: ∀k,(itM rails j k<0)∨(itM rails j k<rails.length∧rk (itM rails j k).toNat+k≤rk j):=by
   intro k
   induction k with
   |zero=>simp_all[itM]
   |succ k f=>
    rcases f with h|⟨y,z⟩
    ·grind [itM]
    ·by_cases p:0≤itM rails j k
     ·simp only[itM];rw[if_pos p];have b:(itM rails j k).toNat<rails.length:=by omega
      have A:=(l _ b (e _ b)).2;have B:=(g.lt b).2
      grind [sp]
     grind [itM]
  grind
 ·intro q;have t:nnn a rails.length=0:=by
   have key: ∀k,k≤rails.length→nnn a k=0:=by
    intro k
    induction k with
    |zero=>intro;rfl
    |succ k f=>
     intro C;simp only[nnn];rw[f (by omega)];by_cases p:0≤a.getD k 0
     ·exfalso;have r: ∀d,0≤itM rails k d∧itM rails k d<rails.length∧0≤a.getD (itM rails k d).toNat 0:=by
       intro d
       induction d with
       |zero=>grind [itM]
       |succ d n=>
        obtain⟨u,D,v⟩:=n;have b:(itM rails k d).toNat<rails.length:=by omega
        have E:=c.open_ _ b v;have w:=o _ b;by_cases F:0≤sp rails (itM rails k d).toNat∧0≤a.getD (sp rails (itM rails k d).toNat).toNat 0
        ·simp only[itM];rw[if_pos u];have:=(g.lt b).2
         grind [sp]
        grind
      grind
     grind
   grind
  have:=c.cnt;omega
theorem kJ1 (rails:List Rail):newE rails=kAM rails:=by
 unfold newE kAM;by_cases b:64<rails.length
 ·grind
 ·rw[if_neg b,if_neg b];by_cases a: ∀j,j<rails.length→ ¬badR rails.length (rails.getD j railK.d)
  ·rw[if_pos a,if_pos a];unfold chkM;rw[kQ6 a (by omega),if_neg (by simp)];have:=kNz a
   grind
  grind
end
abbrev Sg:=List Bool×List Int
def St.sg (st:St):Sg:=(st.count.map fun c=>decide (0<c),st.done)
def stp (σ:Sg) (o:ROp):Sg:=(σ.1.set o.rail.toNat o.on,σ.2.set o.rail.toNat o.done)
def OkOp (s:List Rail) (σ:Sg) (o:ROp):Prop:=
 ∃i:Nat,o.rail=i∧i<s.length∧σ.1.getD i false≠o.on∧σ.2.getD i 0≤o.start∧
  (0≤o.start∧o.done=o.start+(if o.on then (s.getD i railK.d).up else (s.getD i railK.d).down)∧o.done≤18446744073709551615)∧
  (o.on=true→ ∀p:Nat,sp s i=p→σ.1.getD p false=true∧σ.2.getD p 0≤o.start)∧
  (o.on=false→ ∀k,k<s.length→sp s k=i→σ.1.getD k false=false∧σ.2.getD k 0≤o.start)
def Tr (s:List Rail):Sg→List ROp→Sg→Prop
 |σ,[],τ=>σ=τ
 |σ,o::r,τ=>OkOp s σ o∧Tr s (stp σ o) r τ
structure Good (s:List Rail) (rk:Nat→Nat):Prop where
 len:s.length≤8
 fine: ∀i,i<s.length→ -1≤sp s i∧sp s i<s.length
 ramp: ∀i,i<s.length→(0≤(s.getD i railK.d).up∧(s.getD i railK.d).up<20)∧0≤(s.getD i railK.d).down∧(s.getD i railK.d).down<20
 acy:Acy s rk
 rank: ∀i,i<s.length→rk i<s.length
def St.own (st:St) (j:Nat):Int:=st.c j-kNu st j st.rails.length
structure Inv (s:List Rail) (T:Int) (st:St):Prop where
 rails:st.rails=s
 wf:st.wf
 own: ∀j,j<s.length→0≤st.own j
 tm: ∀j,j<s.length→0≤st.t j∧st.t j≤T
 ord: ∀k,k<s.length→0<st.c k→ ∀p:Nat,sp s k=p→st.t p≤st.t k
theorem kDW (a:List Rail):(kA5 a).length=min a.length 8:=by
 simp only[kA5];split
 ·simp
 ·rw[kA3]
theorem kNR {x:Int} (h:0≤x):0≤x.tmod 20∧x.tmod 20<20:=⟨Int.tmod_nonneg _ h,Int.tmod_lt_of_pos _ (by omega)⟩
theorem kKR {a:List Rail} (h: ∀i,i<a.length→kHJ (a.getD i railK.d)): ∃rk,Good (kA5 a) rk:=by
 have q:=kDW a;have j: ∀i,i<min a.length 8→(0≤((sm1 a (min a.length 8)).getD i railK.d).up∧((sm1 a (min a.length 8)).getD i railK.d).up<20)∧0≤((sm1 a (min a.length 8)).getD i railK.d).down∧((sm1 a (min a.length 8)).getD i railK.d).down<20:=fun i c=>by
  rw[kIz a c];obtain⟨_,n,o⟩:=h i (by omega);exact⟨kNR n.1,kNR o.1⟩
 by_cases l:min a.length 8%2=1
 ·have e:kA5 a=(List.range (min a.length 8)).map fun p=>turn (min a.length 8) ((sm1 a (min a.length 8)).getD (min a.length 8-1-p) railK.d):=by simp only[kA5,if_pos l]
  have m: ∀i,i<min a.length 8→(kA5 a).getD i railK.d=turn (min a.length 8) ((sm1 a (min a.length 8)).getD (min a.length 8-1-i) railK.d):=fun i c=>by
   rw[e];simp[List.getD,c]
  have b: ∀i,i<min a.length 8→sp (kA5 a) i= -1∨((i:Int)<sp (kA5 a) i∧sp (kA5 a) i<(min a.length 8:Nat)):=fun i c=>by
   have r:=kEl a (k:=min a.length 8) (i:=min a.length 8-1-i) (by omega);unfold sp;rw[m i c];unfold turn;split
   ·next hx=>right;simp only[];omega
   ·next hx=>left;omega
  refine⟨fun i=>min a.length 8-1-i,⟨by omega,fun i c=>?_,fun i c=>?_,fun i c p f=>?_,fun i c=>by omega⟩⟩
  ·have:=b i (by omega);omega
  ·rw[m i (by omega)];have:=j (min a.length 8-1-i) (by omega);unfold turn;split<;>exact this
  ·have:=b i (by omega);have g:sp (kA5 a) i=p:=f;omega
 ·have e:kA5 a=sm1 a (min a.length 8):=by simp only[kA5,if_neg l]
  have b: ∀i,i<min a.length 8→ -1≤sp (kA5 a) i∧sp (kA5 a) i<i:=fun i c=>by
   unfold sp;rw[e];exact kEl a c
  refine⟨fun i=>i,⟨by omega,fun i c=>?_,fun i c=>?_,fun i c p f=>?_,fun i c=>by omega⟩⟩
  ·have:=b i (by omega);omega
  ·rw[e];exact j i (by omega)
  ·have:=b i (by omega);have g:sp (kA5 a) i=p:=f;omega
theorem kKS {s:List Rail} {rk:Nat→Nat} (G:Good s rk) {j:Nat} (a:j<s.length): ∀k,itM s j k<0∨ ∃i:Nat,itM s j k=i∧i<s.length∧rk i+k≤rk j
 |0=> .inr ⟨j,rfl,a,by omega⟩
 |k+1=>by
  rcases kKS G a k with h|⟨i,c,e,g⟩
  ·left;rw[itM,if_neg (by omega)];exact h
  ·rw[itM,if_pos (by omega),c,qh];by_cases hs:0≤(s.getD i railK.d).supply
   ·obtain⟨p,b⟩:=qa hs;obtain⟨f,l⟩:=G.acy i e p b;exact .inr ⟨p,b,f,by omega⟩
   ·left;omega
theorem kM6 {s:List Rail} {rk:Nat→Nat} (G:Good s rk):newE s=0:=by
 have b:=G.len;rw[kJ1,kAM,if_neg (by omega),if_pos,if_pos]
 ·intro j a;rcases kKS G a s.length with h|⟨i,c,d,e⟩
  ·exact h
  ·have:=G.rank j a;omega
 ·intro j a;have c:=G.fine j a;have d:=G.ramp j a;unfold sp at c;unfold badR;omega
structure IN (s:List Rail) (m:Nat) (st:St):Prop where
 inv:Inv s (1152921504606846976+160* m) st
 up: ∀j,j<s.length→st.own j≤m
 clock:0≤st.clock∧st.clock≤1152921504606846976
structure Did (s:List Rail) (m:Nat) (st:St) (rel:Bool) (x now:Int) (r:Res):Prop where
 inn:IN s (m+1) r.st
 tr:Tr s st.sg r.ops r.st.sg
 bad:r.err≠0→r.st=st∧r.ops=[]
 good:r.err=0→r.st.clock=now∧ ∃i:Nat,x=i∧i<s.length∧ ∀j,j<s.length→r.st.own j=st.own j+if j=i then (if rel then -1 else 1) else 0
end Go.Rails
