/-
  Joined.
-/
import Derived.Test.YtfmcioghekppjaaGreatDoorP01
set_option linter.unusedSimpArgs false
set_option linter.unusedVariables false
namespace Go.Rails
open Go.Sv
structure Rail where
 supply:Int
 up:Int
 down:Int
structure ROp where
 rail:Int
 on:Bool
 start:Int
 done:Int
 deriving DecidableEq
structure St where
 rails:List Rail
 count:List Int
 done:List Int
 clock:Int
def railK:Enc Rail where
 f r:=[.int .i64 r.supply,.int .u64 r.up,.int .u64 r.down]
 sz:=3
 d:=⟨0,0,0⟩
 len _:=rfl
 pos:=by decide
 one r v hv:=by simp at hv;rcases hv with rfl|rfl|rfl<;>rfl
def intK (k:IntKind):Enc Int where
 f n:=[.int k n]
 sz:=1
 d:=0
 len _:=rfl
 pos:=by decide
 one r v hv:=by simp at hv;subst hv;rfl
structure RA where
 A0:Option Addr
 c0:Nat
 A1:Option Addr
 c1:Nat
 A2:Option Addr
 c2:Nat
def robj (t:TypeId) (b:Nat) (a:RA) (st:St):List Assn:=
 [Blk b (.cells #[.slice a.A0 st.rails.length a.c0,.slice a.A1 st.rails.length a.c1,.slice a.A2 st.rails.length a.c2,.int .u64 st.clock] t (0,0)),
  OS 181 railK a.A0 a.c0 st.rails,OS 3 (intK .i64) a.A1 a.c1 st.count,OS 41 (intK .u64) a.A2 a.c2 st.done]
structure St.wf (st:St):Prop where
 count:st.count.length=st.rails.length
 done:st.done.length=st.rails.length
def Acy (rails:List Rail) (rk:Nat→Nat):Prop:= ∀i,i<rails.length→ ∀s:Nat,(rails.getD i railK.d).supply=(s:Int)→s<rails.length∧rk s<rk i
def St.c (st:St) (i:Nat):Int:=st.count.getD i 0
def St.t (st:St) (i:Nat):Int:=st.done.getD i 0
def St.r (st:St) (i:Nat):Rail:=st.rails.getD i railK.d
def St.setC (st:St) (i:Nat) (x:Int):St:={st with count:=st.count.set i x}
def St.setD (st:St) (i:Nat) (x:Int):St:={st with done:=st.done.set i x}
def addP:Nat→St→Nat→Int→List ROp→St×List ROp
 |0,st,_,_,ops=>(st,ops)
 |f+1,st,i,now,ops=>
  if st.c i=0 then
   let q:=if 0≤(st.r i).supply then
    let p:=addP f st (st.r i).supply.toNat now ops
    (p.1,p.2,max (max now (st.t i)) (p.1.t (st.r i).supply.toNat))
    else (st,ops,max now (st.t i))
   let dn:=IntKind.u64.wrap (q.2.2+(st.r i).up)
   let st2:=q.1.setD i dn
   (st2.setC i (IntKind.i64.wrap (st2.c i+1)),q.2.1++[⟨i,true,q.2.2,dn⟩])
  else (st.setC i (IntKind.i64.wrap (st.c i+1)),ops)
def kNu (st:St) (i:Int):Nat→Int
 |0=>0
 |k+1=>if (st.r k).supply=i∧0<st.c k then kNu st i k+1 else kNu st i k
def St.ok (st:St) (x now:Int):Prop:=(0≤x∧x<st.rails.length)∧st.clock≤now∧now≤1152921504606846976
instance(st:St) (x now:Int):Decidable (st.ok x now):=inferInstanceAs (Decidable (_∧_))
structure Res where
 st:St
 ops:List ROp
 err:Int
def addR:Nat→St→Nat→Int→List ROp→St×List ROp
 |0,st,_,_,ops=>(st,ops)
 |f+1,st0,i,now,ops=>
  let st:=st0.setC i (IntKind.i64.wrap (st0.c i+1))
  if 1<st.c i then (st,ops)
  else
   let q:=if 0≤(st.r i).supply then
    let p:=addR f st (st.r i).supply.toNat now ops
    (p.1,p.2,max (max now (st.t i)) (p.1.t (st.r i).supply.toNat))
    else (st,ops,max now (st.t i))
   let dn:=IntKind.u64.wrap (q.2.2+(st.r i).up)
   (q.1.setD i dn,q.2.1++[⟨i,true,q.2.2,dn⟩])
def ownM (st:St) (i:Int) (n0:Int):Nat→Int
 |0=>n0
 |k+1=>if (st.r k).supply=i∧0<st.c k then IntKind.i64.wrap (ownM st i n0 k-1) else ownM st i n0 k
structure Link where
 con:Int
 sup:Int
 deriving DecidableEq
def linkK:Enc Link where
 f r:=[.int .i64 r.con,.int .i64 r.sup]
 sz:=2
 d:=⟨0,0⟩
 len _:=rfl
 pos:=by decide
 one r v hv:=by simp at hv;rcases hv with rfl|rfl<;>rfl
def kNv (l:Link):Value:= .agg #[.int .i64 l.con,.int .i64 l.sup]
def okL (n:Int) (l:Link):Prop:=(0≤l.con∧l.con<n)∧0≤l.sup∧l.sup<n
instance(n:Int) (l:Link):Decidable (okL n l):=inferInstanceAs (Decidable (_∧_))
def clM (n:Int) (links:List Link):Int:=
 if n<0∨128<n∨(1024:Int)<links.length then 1
 else if ∀j,j<links.length→okL n (links.getD j linkK.d) then if links.Nodup then 0 else 7 else 1
theorem kBG (ks:List Link) (x:Link):mget (ks.map fun l=>(l,true)) x=if x∈ks then some true else none:=by
 induction ks with
 |nil=>simp[mget]
 |cons a r ih=>
  simp only[List.map_cons,mget,ih,qe];by_cases h:x=a<;>simp[h]
theorem kEj (ks:List Link) (x:Link):(mget (ks.map fun l=>(l,true)) x).getD false=decide (x∈ks):=by rw[kBG];split<;>simp_all
theorem kAJ {α:Type} (l:List α) (k:Nat) (d:α) (h:k<l.length):l.take (k+1)=l.take k++[l.getD k d]:=by
 rw[List.take_succ_eq_append_getElem h];simp[List.getD,h]
theorem kBl (links:List Link) (k:Nat) (h:k<links.length) (hn:(links.take k).Nodup) (hx: ¬links.getD k linkK.d∈links.take k):(links.take (k+1)).Nodup:=by
 rw[kAJ links k linkK.d h];exact List.nodup_append.2 ⟨hn,by simp,by intro a ha b hb;simp at hb;subst hb;intro e;subst e;exact hx ha⟩
theorem kFd (links:List Link) (k:Nat) (h:k<links.length) (hx:links.getD k linkK.d∈links.take k): ¬links.Nodup:=by
 intro hn;have h2:(links.take (k+1)).Nodup:=hn.sublist (List.take_sublist _ _);rw[kAJ links k linkK.d h] at h2;exact(List.nodup_append.1 h2).2.2 _ hx _ (by simp) rfl
structure Hd where
 A:Option Addr
 c:Nat
 ys:List Int
def hdK:Enc Hd where
 f h:=[.slice h.A h.ys.length h.c]
 sz:=1
 d:=⟨none,0,[]⟩
 len _:=rfl
 pos:=by decide
 one r v hv:=by simp at hv;subst hv;rfl
def hdF (h:Hd):Assn:=OS 3 (intK .i64) h.A h.c h.ys
theorem hdRS {w:World} (i:Ids) (b:Hd) (h:(hdF b).sat w i):RS w (intK .i64) b.A b.ys:=OS.rs (e:=3) (c:=b.c) h
def nbM (links:List Link) (cons:Bool) (s:Nat):List Int:=
 match links with
 |[]=>[]
 |l::r=>if (if cons then l.sup else l.con)=(s:Int) then (if cons then l.con else l.sup)::nbM r cons s else nbM r cons s
theorem kEk (links:List Link) (cons:Bool) (l:Link) (s:Nat):nbM (links++[l]) cons s=nbM links cons s++(if (if cons then l.sup else l.con)=(s:Int) then [if cons then l.con else l.sup] else []):=by
 induction links with
 |nil=>simp[nbM]
 |cons a r ih=>
  simp only[qM,nbM,ih];by_cases h:(if cons=true then a.sup else a.con)=(s:Int)
  ·rw[if_pos h,if_pos h];rfl
  ·rw[if_neg h,if_neg h]
theorem kCz (links:List Link) (cons:Bool) (s:Nat):(nbM links cons s).length≤links.length:=by
 induction links with
 |nil=>simp[nbM]
 |cons a r ih=>
  simp only[nbM,qB];by_cases h:(if cons=true then a.sup else a.con)=(s:Int)
  ·rw[if_pos h,qB];omega
  ·rw[if_neg h];omega
theorem kHE {links:List Link} {j s:Nat} {b:Bool} {h:Hd} (hh:h.ys=nbM (links.take j) b s):h.ys.length≤links.length:=by
 rw[hh];exact qk (kCz _ _ _) (by simp;omega)
theorem kD0 {links:List Link} {j s n:Nat} {b:Bool} {hs:List Hd} {A:Option Addr} {c:Nat} {y:Int} (hj:j<links.length) (h: ∀s,s<n→(hs.getD s hdK.d).ys=nbM (links.take j) b s) (hl:hs.length=n) (hs3:s<n)
 (h1:(if b then (links.getD j linkK.d).sup else (links.getD j linkK.d).con)=(s:Int)) (h2:(if b then (links.getD j linkK.d).con else (links.getD j linkK.d).sup)=y):
 ∀t,t<n→((hs.set s ⟨A,c,(hs.getD s hdK.d).ys++[y]⟩).getD t hdK.d).ys=nbM (links.take (j+1)) b t:=by
 intro t ht;rw[kAJ links j linkK.d hj,kEk,h1,h2];by_cases e:s=t
 ·subst e;rw[kA1 _ _ _ _ (by omega),if_pos rfl];simp only[];rw[h s ht]
 ·rw[kA0 _ _ _ e,h t ht,if_neg (by omega),qK]
theorem kIw {links:List Link} {n:Int} (h: ∀i,i<links.length→okL n (links.getD i linkK.d)) (b:Bool) (s k:Nat) (hk:k<(nbM links b s).length):0≤(nbM links b s).getD k 0∧(nbM links b s).getD k 0<n:=by
 have key: ∀l:List Link,(∀x∈l,okL n x)→ ∀y∈nbM l b s,0≤y∧y<n:=by
  intro l
  induction l with
  |nil=>intro _ y hy;simp[nbM] at hy
  |cons a r ih=>
   intro hl y hy;have ha:=hl a (by simp);unfold okL at ha;simp only[nbM] at hy;by_cases hc:(if b=true then a.sup else a.con)=(s:Int)
   ·rw[if_pos hc] at hy;rcases qe.1 hy with rfl|hy
    ·cases b<;>simp<;>omega
    ·exact ih (fun x hx=>hl x (by simp[hx])) y hy
   ·rw[if_neg hc] at hy;exact ih (fun x hx=>hl x (by simp[hx])) y hy
 refine key links (fun x hx=>?_) _ ?_
 ·obtain⟨i,hi,rfl⟩:=List.getElem_of_mem hx;have:=h i hi;simpa[List.getD,hi] using this
 ·simp[List.getD,hk]
def msM (links:List Link) (i:Nat):Int:=
 match links with
 |[]=>0
 |l::r=>if l.con=(i:Int) then msM r i+1 else msM r i
theorem kHF (links:List Link) (l:Link) (i:Nat):msM (links++[l]) i=msM links i+(if l.con=(i:Int) then 1 else 0):=by
 induction links with
 |nil=>simp[msM]
 |cons a r ih=>simp only[qM,msM,ih];split<;>omega
theorem kNw {links:List Link} {j i n:Nat} {ms:List Int} (hj:j<links.length) (h: ∀i,i<n→ms.getD i 0=msM (links.take j) i) (hl:ms.length=n) (hi:i<n) (h1:(links.getD j linkK.d).con=(i:Int)):
 ∀t,t<n→(ms.set i (ms.getD i 0+1)).getD t 0=msM (links.take (j+1)) t:=by
 intro t ht;rw[kAJ links j linkK.d hj,kHF,h1];by_cases e:i=t
 ·subst e;rw[kA1 _ _ _ _ (by omega),if_pos rfl,h i ht]
 ·rw[kA0 _ _ _ e,h t ht,if_neg (by omega)];omega
theorem kMk (links:List Link) (i:Nat):0≤msM links i∧msM links i≤links.length:=by
 induction links with
 |nil=>simp[msM]
 |cons a r ih=>simp only[msM,qB];split<;>omega
theorem kGT (links:List Link) (i j:Nat):0≤msM (links.take j) i∧msM (links.take j) i≤links.length:=by
 have:=kMk (links.take j) i;have h2:(links.take j).length≤links.length:=by simp;omega
 omega
def idxM (x:Int) (ms:List Int):Nat→Int
 |0=> -1
 |k+1=>if idxM x ms k= -1 then (if ms.getD k 0=x then (k:Int) else -1) else idxM x ms k
theorem kBH {x:Int} {ms:List Int}: ∀ {k:Nat},idxM x ms k= -1↔ ∀j,j<k→ ¬ms.getD j 0=x
 |0=>by simp[idxM]
 |k+1=>by
  simp only[idxM];have ih:=kBH (x:=x) (ms:=ms) (k:=k);by_cases h:idxM x ms k= -1
  ·rw[if_pos h];have h':=ih.1 h;by_cases h2:ms.getD k 0=x
   ·rw[if_pos h2];exact⟨fun e=>by omega,fun e=>absurd h2 (e k (by omega))⟩
   ·rw[if_neg h2];refine⟨fun _ j hj=>?_,fun _=>rfl⟩;by_cases e:j=k
    ·subst e;exact h2
    ·exact h' j (by omega)
  ·rw[if_neg h];exact⟨fun e=>absurd e h,fun e=>ih.2 fun j hj=>e j (by omega)⟩
theorem kAn {x:Int} {ms:List Int}: ∀ {k:Nat},idxM x ms k≠ -1→ ∃i:Nat,idxM x ms k=(i:Int)∧i<k∧ms.getD i 0=x∧ ∀j,j<i→ ¬ms.getD j 0=x
 |0,h=>by simp[idxM] at h
 |k+1,h=>by
  simp only[idxM] at h ⊢;by_cases h1:idxM x ms k= -1
  ·rw[if_pos h1] at h ⊢;by_cases h2:ms.getD k 0=x
   ·rw[if_pos h2];exact⟨k,rfl,by omega,h2,fun j hj=>(kBH.1 h1) j hj⟩
   ·rw[if_neg h2] at h;exact absurd rfl h
  ·rw[if_neg h1];obtain⟨i,h3,h4,h5⟩:=kAn h1;exact⟨i,h3,by omega,h5⟩
theorem kIx {x:Int} {ms:List Int} {k n:Nat} (hk:k<n) (h:idxM x ms k= -1) (hx:ms.getD k 0=x):idxM x ms n=(k:Int):=by
 have key: ∀d,idxM x ms (k+1+d)=(k:Int):=by
  intro d
  induction d with
  |zero=>simp only[Nat.add_zero,idxM];rw[if_pos h,if_pos hx]
  |succ d ih=>rw[show k+1+(d+1)=(k+1+d)+1 from by omega,idxM,ih,if_neg (by omega)]
 have:=key (n-(k+1));rw[show k+1+(n-(k+1))=n from by omega] at this;exact this
def dec1 (ms:List Int) (c:Int):List Int:=ms.set c.toNat (ms.getD c.toNat 0-1)
def decs (ms:List Int) (cs:List Int):Nat→List Int
 |0=>ms
 |k+1=>dec1 (decs ms cs k) (cs.getD k 0)
theorem kA2 (ms cs:List Int) (k:Nat):(decs ms cs k).length=ms.length:=by
 induction k with
 |zero=>rfl
 |succ k ih=>simp[decs,dec1,ih]
def nnn (ms:List Int):Nat→Nat
 |0=>0
 |k+1=>nnn ms k+if 0≤ms.getD k 0 then 1 else 0
theorem kQ3 {a b:List Int} {k:Nat} (h: ∀i,i<k→b.getD i 0≤a.getD i 0):nnn b k≤nnn a k:=by
 induction k with
 |zero=>simp[nnn]
 |succ k ih=>
  have h1:=ih fun i hi=>h i (by omega);have h2:=h k (by omega);simp only[nnn];split<;>split<;>omega
theorem kQ4 {a b:List Int} {k i:Nat} (h: ∀i,i<k→b.getD i 0≤a.getD i 0) (hi:i<k) (h1:0≤a.getD i 0) (h2:b.getD i 0<0):nnn b k<nnn a k:=by
 induction k with
 |zero=>omega
 |succ k ih=>
  have hk:=h k (by omega);simp only[nnn];by_cases e:i=k
  ·subst e;have:=kQ3 (a:=a) (b:=b) (k:=i) fun j hj=>h j (by omega);rw[if_neg (by omega),if_pos h1];omega
  ·have:=ih (fun j hj=>h j (by omega)) (by omega);split<;>split<;>omega
theorem kAo (ms cs:List Int) (k i:Nat):(decs ms cs k).getD i 0≤ms.getD i 0∧ms.getD i 0-k≤(decs ms cs k).getD i 0:=by
 induction k with
 |zero=>simp[decs]
 |succ k ih=>
  simp only[decs,dec1];by_cases e:(cs.getD k 0).toNat=i
  ·by_cases hl:i<(decs ms cs k).length
   ·rw[e,kA1 _ _ _ _ hl];omega
   ·rw[e,List.set_eq_of_length_le (by omega)];omega
  ·rw[kA0 _ _ _ e];omega
def kAa (nb:Nat→List Int) (n:Nat):Nat→List Int→List Int→List Int
 |0,_,ord=>ord
 |f+1,ms,ord=>if idxM 0 ms n= -1 then ord else kAa nb n f (decs (ms.set (idxM 0 ms n).toNat (-1)) (nb (idxM 0 ms n).toNat) (nb (idxM 0 ms n).toNat).length) (ord++[idxM 0 ms n])
theorem kHG {ms:List Int} {n:Nat} (h:nnn ms n=0):idxM 0 ms n= -1:=by
 rw[kBH]
 induction n with
 |zero=>intro j hj;omega
 |succ n ih=>
  simp only[nnn] at h;intro j hj;by_cases e:j=n
  ·subst e;intro h0;rw[if_pos (by omega)] at h;omega
  ·exact ih (by omega) j (by omega)
theorem kCU {nb:Nat→List Int} {ms:List Int} {n i:Nat} (hl:ms.length=n) (h2:i<n) (h3:ms.getD i 0=0) (cs:List Int) (k:Nat):nnn (decs (ms.set i (-1)) cs k) n<nnn ms n:=by
 refine kQ4 (i:=i) (fun j hj=>?_) h2 (by omega) ?_
 ·refine Int.le_trans (kAo _ _ _ _).1 ?_;by_cases e:i=j
  ·subst e;rw[kA1 _ _ _ _ (by omega)];omega
  ·rw[kA0 _ _ _ e];omega
 ·refine Int.lt_of_le_of_lt (kAo _ _ _ _).1 ?_;rw[kA1 _ _ _ _ (by omega)];omega
theorem kDd (nb:Nat→List Int) (n:Nat): ∀(f g:Nat) (ms ord:List Int),nnn ms n≤f→nnn ms n≤g→ms.length=n→kAa nb n f ms ord=kAa nb n g ms ord:=by
 intro f
 induction f with
 |zero=>
  intro g ms ord h _ _;have:=kHG (ms:=ms) (n:=n) (by omega);cases g<;>simp[kAa,this]
 |succ f ih=>
  intro g ms ord h hg hl;by_cases hx:idxM 0 ms n= -1
  ·cases g<;>simp[kAa,hx]
  ·obtain⟨i,h1,h2,h3,_⟩:=kAn hx;have hlt:=kCU (nb:=nb) hl h2 h3 (nb i) (nb i).length;cases g with
   |zero=>omega
   |succ g=>
    simp only[kAa,if_neg hx,h1,qh];exact ih g _ _ (by omega) (by omega) (by rw[kA2];simpa using hl)
def ms0 (n:Nat) (links:List Link):List Int:=(List.range n).map (msM links)
def seqM (n:Nat) (links:List Link):List Int:=kAa (nbM links true) n (nnn (ms0 n links) n) (ms0 n links) []
theorem kQ5 {n:Nat} {links:List Link} {ms:List Int} (hl:ms.length=n) (h: ∀i,i<n→ms.getD i 0=msM links i):ms=ms0 n links:=by
 apply List.ext_getElem (by simp[ms0,hl]);intro i h1 h2;have:=h i (by omega);simp[List.getD,h1] at this;simp[ms0,this]
theorem kGU {nb:Nat→List Int} {n i:Nat} {ms ord:List Int} (hl:ms.length=n) (h1:idxM 0 ms n=(i:Int)):
 kAa nb n (nnn ms n) ms ord=kAa nb n (nnn (decs (ms.set i (-1)) (nb i) (nb i).length) n) (decs (ms.set i (-1)) (nb i) (nb i).length) (ord++[(i:Int)]):=by
 obtain⟨i',e,h2,h3,_⟩:=kAn (x:=0) (ms:=ms) (k:=n) (by omega);have:i'=i:=by omega
 subst this;have hlt:=kCU (nb:=nb) hl h2 h3 (nb i') (nb i').length;have h0:kAa nb n (nnn ms n) ms ord=kAa nb n (nnn ms n-1) (decs (ms.set i' (-1)) (nb i') (nb i').length) (ord++[(i':Int)]):=by
  rw[show nnn ms n=(nnn ms n-1)+1 from by omega,kAa];simp only[h1,qh];rw[if_neg (by omega)];simp
 rw[h0];exact kDd nb n _ _ _ _ (by omega) (qU _) (by rw[kA2];simpa using hl)
theorem kIS {nb:Nat→List Int} {n:Nat} {ms ord:List Int} (h1:idxM 0 ms n= -1) (f:Nat):kAa nb n f ms ord=ord:=by
 cases f<;>simp[kAa,h1]
def chkM (n:Nat) (links:List Link):Int:=if clM n links≠0 then clM n links else if ((seqM n links).length:Int)≠n then 18 else 0
theorem kDM {n:Nat} {links:List Link} (h:clM n links=0):n≤128∧links.length≤1024∧ ∀j,j<links.length→okL n (links.getD j linkK.d):=by
 unfold clM at h;by_cases h1:(n:Int)<0∨128<(n:Int)∨(1024:Int)<links.length
 ·rw[if_pos h1] at h;omega
 ·rw[if_neg h1] at h;by_cases h2: ∀j,j<links.length→okL n (links.getD j linkK.d)
  ·exact⟨by omega,by omega,h2⟩
  ·rw[if_neg h2] at h;omega
theorem kFe (ms:List Int) (k:Nat):nnn ms k≤k:=by
 induction k with
 |zero=>simp[nnn]
 |succ k ih=>simp only[nnn];split<;>omega
theorem kMl {ms:List Int} {i e:Nat} {m:Int} (h:ms.getD e 0≤1024∧m≤ms.getD e 0):(ms.set i (-1)).getD e 0≤1024∧(m≤(ms.set i (-1)).getD e 0∨ -1≤(ms.set i (-1)).getD e 0):=by
 by_cases he:i=e
 ·subst he;by_cases hl:i<ms.length
  ·rw[kA1 _ _ _ _ hl];omega
  ·rw[List.set_eq_of_length_le (by omega)];omega
 ·rw[kA0 _ _ _ he];omega
theorem kNx {ms:List Int} {ord:List Int} {ys:List Int} {links:List Link} {n i:Nat}
 (hm:ms.length=n∧nnn ms n+ord.length≤n∧(∀i,i<n→ms.getD i 0≤1024∧ -(2000* (ord.length:Int))≤ms.getD i 0)∧kAa (nbM links true) n (nnn ms n) ms ord=seqM n links) (hnl:links.length≤1024)
 (e1:idxM 0 ms n=(i:Int)) (e2:i<n) (e3:ms.getD i 0=0) (hy:ys=nbM links true i):
 (decs (ms.set i (-1)) ys ys.length).length=n∧nnn (decs (ms.set i (-1)) ys ys.length) n+(ord++[(i:Int)]).length≤n∧
  (∀k,k<n→(decs (ms.set i (-1)) ys ys.length).getD k 0≤1024∧ -(2000* ((ord++[(i:Int)]).length:Int))≤(decs (ms.set i (-1)) ys ys.length).getD k 0)∧
  kAa (nbM links true) n (nnn (decs (ms.set i (-1)) ys ys.length) n) (decs (ms.set i (-1)) ys ys.length) (ord++[(i:Int)])=seqM n links:=by
 have hlt:=kCU (nb:=nbM links true) hm.1 e2 e3 ys ys.length;have hyl:ys.length≤1024:=by rw[hy];exact qk (kCz _ _ _) hnl
 refine⟨by rw[kA2,qI];exact hm.1,by rw[qD];simp;omega,fun k hk=>?_,?_⟩
 ·have h1:=kAo (ms.set i (-1)) ys ys.length k;have h2:=kMl (i:=i) (hm.2.2.1 k hk);rw[qD];simp only[qB,qC];omega
 ·rw[←hm.2.2.2,kGU hm.1 e1,hy]
def badR (n:Int) (r:Rail):Prop:=r.supply< -1∨n≤r.supply∨1048576<r.up∨1048576<r.down
instance(n:Int) (r:Rail):Decidable (badR n r):=inferInstanceAs (Decidable (_∨_))
def lkM (rails:List Rail):Nat→List Link
 |0=>[]
 |k+1=>if 0≤(rails.getD k railK.d).supply then lkM rails k++[⟨k,(rails.getD k railK.d).supply⟩] else lkM rails k
theorem kEP (rails:List Rail) (k:Nat):(lkM rails k).length≤k:=by
 induction k with
 |zero=>simp[lkM]
 |succ k ih=>
  simp only[lkM];by_cases h:0≤(rails.getD k railK.d).supply
  ·rw[if_pos h,qD];simp;omega
  ·rw[if_neg h];omega
def newE (rails:List Rail):Int:=
 if 64<rails.length then 1
 else if ∀j,j<rails.length→ ¬badR rails.length (rails.getD j railK.d) then chkM rails.length (lkM rails rails.length) else 1
def itM (rails:List Rail) (i:Int):Nat→Int
 |0=>i
 |k+1=>if 0≤itM rails i k then (rails.getD (itM rails i k).toNat railK.d).supply else itM rails i k
def kAM (rails:List Rail):Int:=
 if 64<rails.length then 1
 else if ∀j,j<rails.length→ ¬badR rails.length (rails.getD j railK.d) then
  if ∀j,j<rails.length→itM rails j rails.length<0 then 0 else 18
 else 1
theorem kHH {rails:List Rail} {i:Int} {k:Nat} (h:itM rails i k<0): ∀d,itM rails i (k+d)=itM rails i k
 |0=>rfl
 |d+1=>by rw[show k+(d+1)=(k+d)+1 from by omega,itM,kHH h d,if_neg (by omega)]
theorem kMm {rails:List Rail} {i:Int} (hi:i<rails.length) (h: ∀j,j<rails.length→ ¬badR rails.length (rails.getD j railK.d)): ∀k,itM rails i k<rails.length
 |0=>hi
 |k+1=>by
  have ih:=kMm hi h k;simp only[itM];by_cases h0:0≤itM rails i k
  ·rw[if_pos h0];have:=h (itM rails i k).toNat (by omega);unfold badR at this;omega
  ·rw[if_neg h0];exact ih
theorem kNy {rails:List Rail} {i:Int} {k m:Nat} (h:itM rails i k=(m:Int)):itM rails i (k+1)=(rails.getD m railK.d).supply:=by rw[itM,h,if_pos (by omega),qh]
theorem kIy {rails:List Rail} (h:(64:Int)<rails.length):newE rails=1:=by rw[newE,if_pos (by omega)]
theorem kDN {rails:List Rail} {j:Nat} (h: ¬(64:Int)<rails.length) (hj:j<rails.length) (hb:badR rails.length (rails.getD j railK.d)):newE rails=1:=by rw[newE,if_neg (by omega),if_neg (fun hall=>hall j hj hb)]
theorem kBS {rails:List Rail} (h: ¬(64:Int)<rails.length) (hb: ∀j,j<rails.length→ ¬badR rails.length (rails.getD j railK.d)):newE rails=chkM rails.length (lkM rails rails.length):=by rw[newE,if_neg (by omega),if_pos hb]
theorem kIT {rails:List Rail} (h:(64:Int)<rails.length):kAM rails=1:=by rw[kAM,if_pos (by omega)]
theorem kCV {rails:List Rail} {j:Nat} (h: ¬(64:Int)<rails.length) (hj:j<rails.length) (hb:badR rails.length (rails.getD j railK.d)):kAM rails=1:=by rw[kAM,if_neg (by omega),if_neg (fun hall=>hall j hj hb)]
theorem kAc {rails:List Rail} (h: ¬(64:Int)<rails.length) (hb: ∀j,j<rails.length→ ¬badR rails.length (rails.getD j railK.d)) (hc: ∀j,j<rails.length→itM rails j rails.length<0):kAM rails=0:=by rw[kAM,if_neg (by omega),if_pos hb,if_pos hc]
theorem kFf {rails:List Rail} {j:Nat} (h: ¬(64:Int)<rails.length) (hb: ∀j,j<rails.length→ ¬badR rails.length (rails.getD j railK.d)) (hj:j<rails.length) (hc:0≤itM rails j rails.length):kAM rails=18:=by rw[kAM,if_neg (by omega),if_pos hb,if_neg (fun hall=>by have:=hall j hj;omega)]
def new0 (rails:List Rail):St:=⟨rails,List.replicate rails.length 0,List.replicate rails.length 0,0⟩
structure RCall where
 rel:Bool
 rail:Int
 wait:Int
 raw:Bool
def modM (v:Int) (n:Nat):Int:=(IntKind.u64.wrap v)%n
theorem kA8 (v:Int) {n:Nat} (h:0<n):0≤modM v n∧modM v n<n:=⟨Int.emod_nonneg _ (by omega),Int.emod_lt_of_pos _ (by omega)⟩
def sm1 (raw:List Rail):Nat→List Rail
 |0=>[]
 |k+1=>sm1 raw k++[⟨modM (raw.getD k railK.d).supply (k+1)-1,(raw.getD k railK.d).up.tmod 20,(raw.getD k railK.d).down.tmod 20⟩]
theorem kA3 (raw:List Rail) (k:Nat):(sm1 raw k).length=k:=by
 induction k with
 |zero=>rfl
 |succ k ih=>simp[sm1,ih]
theorem kIz (raw:List Rail) {k i:Nat} (h:i<k):(sm1 raw k).getD i railK.d=⟨modM (raw.getD i railK.d).supply (i+1)-1,(raw.getD i railK.d).up.tmod 20,(raw.getD i railK.d).down.tmod 20⟩:=by
 induction k with
 |zero=>omega
 |succ k ih=>
  simp only[sm1];by_cases e:i=k
  ·subst e;simp[List.getD,List.getElem?_append_right,kA3]
  ·have hl:i<(sm1 raw k).length:=by rw[kA3];omega
   rw[←ih (by omega)];simp[List.getD,qP hl]
theorem kEl (raw:List Rail) {k i:Nat} (h:i<k): -1≤((sm1 raw k).getD i railK.d).supply∧((sm1 raw k).getD i railK.d).supply<i:=by
 rw[kIz raw h];have:=kA8 (raw.getD i railK.d).supply (n:=i+1) (by omega);simp only[];omega
def turn (n:Nat) (r:Rail):Rail:=if 0≤r.supply then {r with supply:=n-1-r.supply} else r
def kA5 (raw:List Rail):List Rail:=
 let n:=min raw.length 8
 if n%2=1 then (List.range n).map fun p=>turn n ((sm1 raw n).getD (n-1-p) railK.d) else sm1 raw n
theorem kHI {n:Nat} {out z:List Rail} (hz:z.length=n) (h: ∀i,i<n→z.getD (n-1-i) railK.d=turn n (out.getD i railK.d)):z=(List.range n).map fun p=>turn n (out.getD (n-1-p) railK.d):=by
 apply List.ext_getElem (by simp[hz]);intro p h1 h2;have hp:p<n:=by omega
 have:=h (n-1-p) (by omega);rw[show n-1-(n-1-p)=p from by omega] at this;simp only[List.getD,qJ h1,Option.getD_some] at this;simp[this,List.getD]
def kHJ (r:Rail):Prop:=(-9223372036854775808≤r.supply∧r.supply≤9223372036854775807)∧(0≤r.up∧r.up≤18446744073709551615)∧0≤r.down∧r.down≤18446744073709551615
section
variable {rails:List Rail}
def sp (rails:List Rail) (i:Nat):Int:=(rails.getD i railK.d).supply
def Fine (rails:List Rail):Prop:= ∀j,j<rails.length→ ¬badR rails.length (rails.getD j railK.d)
theorem Fine.lt (h:Fine rails) {i:Nat} (hi:i<rails.length): -1≤sp rails i∧sp rails i<rails.length:=by
 have:=h i hi;unfold badR at this;unfold sp;omega
theorem kDe (rails:List Rail): ∀(k:Nat) (l:Link),l∈lkM rails k→ ∃i:Nat,i<k∧l.con=i∧l.sup=sp rails i∧0≤sp rails i
 |0,l,h=>by simp[lkM] at h
 |k+1,l,h=>by
  simp only[lkM] at h;by_cases hs:0≤(rails.getD k railK.d).supply
  ·rw[if_pos hs] at h;rcases List.mem_append.1 h with h|h
   ·obtain⟨i,h1,h2⟩:=kDe rails k l h;exact⟨i,by omega,h2⟩
   ·simp at h;subst h;exact⟨k,by omega,rfl,rfl,hs⟩
  ·rw[if_neg hs] at h;obtain⟨i,h1,h2⟩:=kDe rails k l h;exact⟨i,by omega,h2⟩
theorem kDf (rails:List Rail): ∀k:Nat,(lkM rails k).Nodup
 |0=>by simp[lkM]
 |k+1=>by
  simp only[lkM];by_cases hs:0≤(rails.getD k railK.d).supply
  ·rw[if_pos hs];refine List.nodup_append.2 ⟨kDf rails k,by simp,fun a ha b hb=>?_⟩;simp at hb;subst hb;obtain⟨i,h1,h2,_⟩:=kDe rails k a ha;intro e;rw[e] at h2;simp at h2;omega
  ·rw[if_neg hs];exact kDf rails k
theorem kQ6 (h:Fine rails) (hn:rails.length≤64):clM rails.length (lkM rails rails.length)=0:=by
 have hl:=kEP rails rails.length;rw[clM,if_neg (by omega),if_pos,if_pos (kDf rails _)];intro j hj;have hm:(lkM rails rails.length).getD j linkK.d∈lkM rails rails.length:=by
  simp[List.getD,hj]
 obtain⟨i,h1,h2,h3,h4⟩:=kDe rails _ _ hm;have:=h.lt h1;unfold okL;omega
def cntK (cs:List Int) (e:Int):Nat→Int
 |0=>0
 |k+1=>cntK cs e k+if cs.getD k 0=e then 1 else 0
theorem kDg (cs:List Int) (c e:Int): ∀k,k≤cs.length→cntK (cs++[c]) e k=cntK cs e k
 |0,_=>rfl
 |k+1,h=>by
  simp only[cntK];rw[kDg cs c e k (by omega)];have:(cs++[c]).getD k 0=cs.getD k 0:=by simp[List.getD,qP (show k<cs.length by omega)]
  rw[this]
theorem kJ0 (cs:List Int) (c e:Int):cntK (cs++[c]) e (cs++[c]).length=cntK cs e cs.length+if c=e then 1 else 0:=by
 rw[qD];show cntK (cs++[c]) e (cs.length+1)=_;simp only[cntK];rw[kDg cs c e _ (qU _)];simp[List.getD]
theorem kEm (ms cs:List Int) (e:Nat) (he:e<ms.length) (hc: ∀k,k<cs.length→0≤cs.getD k 0): ∀k,k≤cs.length→(decs ms cs k).getD e 0=ms.getD e 0-cntK cs e k
 |0,_=>by simp[decs,cntK]
 |k+1,hk=>by
  have ih:=kEm ms cs e he hc k (by omega);have h0:=hc k (by omega);simp only[decs,dec1,cntK];by_cases hh:cs.getD k 0=(e:Int)
  ·rw[if_pos hh,hh,qh,kA1 _ _ _ _ (by rw[kA2];exact he),ih];omega
  ·rw[if_neg hh,kA0 _ _ _ (by omega),ih];omega
theorem kMn (rails:List Rail) (s e:Nat): ∀k,cntK (nbM (lkM rails k) true s) e (nbM (lkM rails k) true s).length=if e<k∧sp rails e=(s:Int) then 1 else 0
 |0=>by simp[lkM,nbM,cntK]
 |k+1=>by
  have ih:=kMn rails s e k;simp only[lkM];by_cases hs:0≤(rails.getD k railK.d).supply
  ·rw[if_pos hs,kEk];simp only[if_true];by_cases h2:(rails.getD k railK.d).supply=(s:Int)
   ·rw[if_pos h2,kJ0,ih];by_cases e2:e=k
    ·subst e2;rw[if_neg (by omega),if_pos rfl,if_pos ⟨by omega,h2⟩];rfl
    ·rw[if_neg (show ¬(k:Int)=e by omega)];by_cases h3:e<k∧sp rails e=(s:Int)
     ·rw[if_pos h3,if_pos ⟨by omega,h3.2⟩];rfl
     ·rw[if_neg h3,if_neg (fun h=>h3 ⟨by omega,h.2⟩)];rfl
   ·rw[if_neg h2,qK,ih];by_cases h3:e<k∧sp rails e=(s:Int)
    ·rw[if_pos h3,if_pos ⟨by omega,h3.2⟩]
    ·rw[if_neg h3,if_neg];rintro⟨h4,h5⟩;by_cases e2:e=k
     ·subst e2;exact h2 h5
     ·exact h3 ⟨by omega,h5⟩
  ·rw[if_neg hs,ih];by_cases h3:e<k∧sp rails e=(s:Int)
   ·rw[if_pos h3,if_pos ⟨by omega,h3.2⟩]
   ·rw[if_neg h3,if_neg];rintro⟨h4,h5⟩;by_cases e2:e=k
    ·subst e2;unfold sp at h5;omega
    ·exact h3 ⟨by omega,h5⟩
theorem kQ7 (rails:List Rail) (i:Nat): ∀k,msM (lkM rails k) i=if i<k∧0≤sp rails i then 1 else 0
 |0=>by simp[lkM,msM]
 |k+1=>by
  have ih:=kQ7 rails i k;simp only[lkM];by_cases hs:0≤(rails.getD k railK.d).supply
  ·rw[if_pos hs,kHF,ih];by_cases e2:i=k
   ·subst e2;rw[if_neg (by omega),if_pos rfl,if_pos ⟨by omega,hs⟩];rfl
   ·rw[if_neg (show ¬(k:Int)=i by omega)];by_cases h3:i<k∧0≤sp rails i
    ·rw[if_pos h3,if_pos ⟨by omega,h3.2⟩];rfl
    ·rw[if_neg h3,if_neg (fun h=>h3 ⟨by omega,h.2⟩)];rfl
  ·rw[if_neg hs,ih];by_cases h3:i<k∧0≤sp rails i
   ·rw[if_pos h3,if_pos ⟨by omega,h3.2⟩]
   ·rw[if_neg h3,if_neg];rintro⟨h4,h5⟩;by_cases e2:i=k
    ·subst e2;exact hs h5
    ·exact h3 ⟨by omega,h5⟩
structure TInv (rails:List Rail) (ms:List Int) (m:Nat):Prop where
 len:ms.length=rails.length
 cnt:nnn ms rails.length+m=rails.length
 open_: ∀i,i<rails.length→0≤ms.getD i 0→ms.getD i 0=if 0≤sp rails i∧0≤ms.getD (sp rails i).toNat 0 then 1 else 0
 rank: ∃rk:Nat→Nat,∀i,i<rails.length→ms.getD i 0<0→rk i<m∧(0≤sp rails i→ms.getD (sp rails i).toNat 0<0∧rk (sp rails i).toNat<rk i)
theorem kQ8 {a b:List Int} {k i:Nat} (hi:i<k) (h1:0≤a.getD i 0) (h2:b.getD i 0<0) (h: ∀j,j<k→j≠i→(0≤b.getD j 0↔0≤a.getD j 0)):nnn b k+1=nnn a k:=by
 have same: ∀k,k≤i→(∀j,j<k→(0≤b.getD j 0↔0≤a.getD j 0))→nnn b k=nnn a k:=by
  intro k
  induction k with
  |zero=>intros;rfl
  |succ k ih=>
   intro hk hh;simp only[nnn];rw[ih (by omega) fun j hj=>hh j (by omega)];have:=hh k (by omega);by_cases h0:0≤a.getD k 0
   ·rw[if_pos h0,if_pos (this.2 h0)]
   ·rw[if_neg h0,if_neg (fun x=>h0 (this.1 x))]
 induction k with
 |zero=>omega
 |succ k ih=>
  simp only[nnn];by_cases e:i=k
  ·subst e;rw[same i (qU _) fun j hj=>h j (by omega) (by omega),if_pos h1,if_neg (by omega)]
  ·have:=ih (by omega) fun j hj hne=>h j (by omega) hne;have hk:=h k (by omega) (fun x=>e x.symm);by_cases h0:0≤a.getD k 0
   ·rw[if_pos h0,if_pos (hk.2 h0)];omega
   ·rw[if_neg h0,if_neg (fun x=>h0 (hk.1 x))];omega
theorem TInv.step (hF:Fine rails) {ms:List Int} {m i:Nat} (h:TInv rails ms m) (hi:i<rails.length) (h0:ms.getD i 0=0):
 TInv rails (decs (ms.set i (-1)) (nbM (lkM rails rails.length) true i) (nbM (lkM rails rails.length) true i).length) (m+1):=by
 have hokl: ∀k,k<(lkM rails rails.length).length→okL rails.length ((lkM rails rails.length).getD k linkK.d):=by
  intro j hj;have hm:(lkM rails rails.length).getD j linkK.d∈lkM rails rails.length:=by simp[List.getD,hj]
  obtain⟨i,h1,h2,h3,h4⟩:=kDe rails _ _ hm;have:=hF.lt h1;unfold okL;omega
 have hval: ∀e,e<rails.length→(decs (ms.set i (-1)) (nbM (lkM rails rails.length) true i) (nbM (lkM rails rails.length) true i).length).getD e 0=(if e=i then -1 else ms.getD e 0)-if sp rails e=(i:Int) then 1 else 0:=by
  intro e he;rw[kEm _ _ e (by rw[qI,h.len];exact he) (fun k hk=>(kIw hokl true i k hk).1) _ (qU _),kMn]
  congr 1
  ·by_cases e2:e=i
   ·subst e2;rw[if_pos rfl,kA1 _ _ _ _ (by rw[h.len];exact hi)]
   ·rw[if_neg e2,kA0 _ _ _ (fun x=>e2 x.symm)]
  ·by_cases h3:sp rails e=(i:Int)
   ·rw[if_pos ⟨he,h3⟩,if_pos h3]
   ·rw[if_neg (fun x=>h3 x.2),if_neg h3]
 generalize hms:decs (ms.set i (-1)) (nbM (lkM rails rails.length) true i) (nbM (lkM rails rails.length) true i).length=ms' at hval;have hfed: ∀e,e<rails.length→sp rails e=(i:Int)→e≠i→ms.getD e 0=1:=by
  intro e he hs hne;by_cases hn:0≤ms.getD e 0
  ·rw[h.open_ e he hn,if_pos ⟨by omega,by rw[hs,qh,h0];exact Int.le_refl _⟩]
  ·obtain⟨rk,hrk⟩:=h.rank;have:=(hrk e he (by omega)).2 (by omega);rw[hs,qh,h0] at this;omega
 have hself:sp rails i≠(i:Int):=by
  intro hs;have:=h.open_ i hi (by omega);rw[h0,if_pos ⟨by omega,by rw[hs,qh,h0];exact Int.le_refl _⟩] at this;omega
 have hi':ms'.getD i 0= -1:=by rw[hval i hi,if_pos rfl,if_neg hself];rfl
 have hiff: ∀e,e<rails.length→e≠i→(0≤ms'.getD e 0↔0≤ms.getD e 0):=by
  intro e he hne;rw[hval e he,if_neg hne];by_cases hs:sp rails e=(i:Int)
  ·have:=hfed e he hs hne;rw[if_pos hs];omega
  ·rw[if_neg hs];omega
 have hlen:ms'.length=rails.length:=by rw[←hms,kA2,qI,h.len]
 refine⟨hlen,?_,fun e he hn=>?_,?_⟩
 ·have:=kQ8 (a:=ms) (b:=ms') (k:=rails.length) hi (by omega) (by omega) hiff;have:=h.cnt;omega
 ·have hne:e≠i:=by rintro rfl;omega
  have hn2:=(hiff e he hne).1 hn;have ho:=h.open_ e he hn2;rw[hval e he,if_neg hne,ho];by_cases hs:sp rails e=(i:Int)
  ·rw[if_pos hs,hs,qh,hi',h0,if_pos ⟨by omega,by omega⟩,if_neg (by omega)];rfl
  ·rw[if_neg hs];by_cases hsn:0≤sp rails e
   ·have hlt:=(hF.lt he).2;have:=hiff (sp rails e).toNat (by omega) (by omega);by_cases hp:0≤ms.getD (sp rails e).toNat 0
    ·rw[if_pos ⟨hsn,hp⟩,if_pos ⟨hsn,this.2 hp⟩];rfl
    ·rw[if_neg (fun x=>hp x.2),if_neg (fun x=>hp (this.1 x.2))];rfl
   ·rw[if_neg (fun x=>hsn x.1),if_neg (fun x=>hsn x.1)];rfl
 ·obtain⟨rk,hrk⟩:=h.rank;refine⟨fun e=>if e=i then m else rk e,fun e he hn=>?_⟩;by_cases hne:e=i
  ·subst hne;simp only[if_true];refine⟨by omega,fun hs=>?_⟩;have ho:=h.open_ e he (by omega);have hneg:ms.getD (sp rails e).toNat 0<0:=by
    rw[h0] at ho;by_cases hp:0≤ms.getD (sp rails e).toNat 0
    ·rw[if_pos ⟨hs,hp⟩] at ho;omega
    ·omega
   have hlt:=(hF.lt he).2;have hni:(sp rails e).toNat≠e:=by intro x;apply hself;omega
   have:=hiff (sp rails e).toNat (by omega) hni;rw[if_neg hni];exact⟨by omega,(hrk _ (by omega) hneg).1⟩
  ·have hn2:ms.getD e 0<0:=by have:=hiff e he hne;omega
   have h1:=hrk e he hn2;simp only[if_neg hne];refine⟨by omega,fun hs=>?_⟩;have h2:=h1.2 hs;have hlt:=(hF.lt he).2;have hni:(sp rails e).toNat≠i:=by intro x;rw[x] at h2;omega
   have:=hiff (sp rails e).toNat (by omega) hni;rw[if_neg hni];exact⟨by omega,h2.2⟩
theorem kEQ (hF:Fine rails): ∀(f:Nat) (ms ord:List Int),TInv rails ms ord.length→nnn ms rails.length≤f→
 ∃ms',TInv rails ms' (kAa (nbM (lkM rails rails.length) true) rails.length f ms ord).length∧idxM 0 ms' rails.length= -1
 |0,ms,ord,h,hf=>⟨ms,h,kHG (by omega)⟩
 |f+1,ms,ord,h,hf=>by
  simp only[kAa];by_cases hx:idxM 0 ms rails.length= -1
  ·rw[if_pos hx];exact⟨ms,h,hx⟩
  ·rw[if_neg hx];obtain⟨i,h1,h2,h3,_⟩:=kAn hx;rw[h1,qh];have hs:=h.step hF h2 h3;have hlt:=kCU (nb:=nbM (lkM rails rails.length) true) h.len h2 h3 (nbM (lkM rails rails.length) true i) (nbM (lkM rails rails.length) true i).length;exact kEQ hF f _ _ (by rw[qD];exact hs) (by omega)
theorem TInv.start:TInv rails (ms0 rails.length (lkM rails rails.length)) 0:=by
 have hv: ∀i,i<rails.length→(ms0 rails.length (lkM rails rails.length)).getD i 0=if 0≤sp rails i then 1 else 0:=by
  intro i hi;have:(ms0 rails.length (lkM rails rails.length)).getD i 0=msM (lkM rails rails.length) i:=by simp[ms0,List.getD,hi]
  rw[this,kQ7];by_cases h:0≤sp rails i
  ·rw[if_pos ⟨hi,h⟩,if_pos h]
  ·rw[if_neg (fun x=>h x.2),if_neg h]
 have hnn: ∀k,k≤rails.length→nnn (ms0 rails.length (lkM rails rails.length)) k=k:=by
  intro k
  induction k with
  |zero=>intro;rfl
  |succ k ih=>
   intro hk;simp only[nnn];rw[ih (by omega),if_pos (by rw[hv k (by omega)];split<;>omega)]
 refine⟨by simp[ms0],by rw[hnn _ (qU _)];rfl,fun i hi _=>?_,fun _=>0,fun i hi h=>?_⟩
 ·rw[hv i hi];by_cases h:0≤sp rails i
  ·rw[if_pos h,if_pos];refine⟨h,?_⟩;by_cases hl:(sp rails i).toNat<rails.length
   ·rw[hv _ hl];split<;>omega
   ·have:(ms0 rails.length (lkM rails rails.length)).getD (sp rails i).toNat 0=0:=by
     simp[ms0,List.getD,hl]
    omega
  ·rw[if_neg h,if_neg (fun x=>h x.1)]
 ·rw[hv i hi] at h;split at h<;>omega
theorem kNz (hF:Fine rails):(seqM rails.length (lkM rails rails.length)).length=rails.length↔ ∀j,j<rails.length→itM rails j rails.length<0:=by
 obtain⟨ms,hT,hx⟩:=kEQ hF (nnn (ms0 rails.length (lkM rails rails.length)) rails.length) (ms0 rails.length (lkM rails rails.length)) [] TInv.start (qU _);rw[kBH] at hx;change TInv rails ms (seqM rails.length (lkM rails rails.length)).length at hT;generalize (seqM rails.length (lkM rails rails.length)).length=m at hT;constructor
 ·intro hm;subst hm;have hz:nnn ms rails.length=0:=by have:=hT.cnt;omega
  have hneg: ∀i,i<rails.length→ms.getD i 0<0:=by
   have key: ∀k,nnn ms k=0→ ∀i,i<k→ms.getD i 0<0:=by
    intro k
    induction k with
    |zero=>intro _ i hi;omega
    |succ k ih=>
     intro h i hi;simp only[nnn] at h;by_cases h0:0≤ms.getD k 0
     ·rw[if_pos h0] at h;omega
     ·by_cases e:i=k
      ·subst e;omega
      ·exact ih (by omega) i (by omega)
   exact key _ hz
  obtain⟨rk,hrk⟩:=hT.rank;intro j hj;have key: ∀k,(itM rails j k<0)∨(itM rails j k<rails.length∧rk (itM rails j k).toNat+k≤rk j):=by
   intro k
   induction k with
   |zero=>right;simp only[itM];exact⟨by omega,by simp⟩
   |succ k ih=>
    rcases ih with h|⟨h1,h2⟩
    ·left;simp only[itM];rw[if_neg (by omega)];exact h
    ·by_cases h0:0≤itM rails j k
     ·simp only[itM];rw[if_pos h0];have hi:(itM rails j k).toNat<rails.length:=by omega
      have h3:=(hrk _ hi (hneg _ hi)).2;have h4:=(hF.lt hi).2;by_cases h5:0≤sp rails (itM rails j k).toNat
      ·right;have:=(h3 h5).2;unfold sp at *;exact⟨h4,by omega⟩
      ·left;unfold sp at h5;omega
     ·left;simp only[itM];rw[if_neg h0];omega
  rcases key rails.length with h|⟨_,h2⟩
  ·exact h
  ·have:=(hrk j hj (hneg j hj)).1;omega
 ·intro hall;have hz:nnn ms rails.length=0:=by
   have key: ∀k,k≤rails.length→nnn ms k=0:=by
    intro k
    induction k with
    |zero=>intro;rfl
    |succ k ih=>
     intro hk;simp only[nnn];rw[ih (by omega)];by_cases h0:0≤ms.getD k 0
     ·exfalso;have stay: ∀d,0≤itM rails k d∧itM rails k d<rails.length∧0≤ms.getD (itM rails k d).toNat 0:=by
       intro d
       induction d with
       |zero=>simp only[itM];exact⟨by omega,by omega,by simpa using h0⟩
       |succ d ih2=>
        obtain⟨a1,a2,a3⟩:=ih2;have hi:(itM rails k d).toNat<rails.length:=by omega
        have ho:=hT.open_ _ hi a3;have hne:=hx _ hi;by_cases hc:0≤sp rails (itM rails k d).toNat∧0≤ms.getD (sp rails (itM rails k d).toNat).toNat 0
        ·simp only[itM];rw[if_pos a1];have:=(hF.lt hi).2;unfold sp at *;exact⟨hc.1,this,hc.2⟩
        ·rw[if_neg hc] at ho;exact absurd ho hne
      have:=(stay rails.length).1;have:=hall k (by omega);omega
     ·rw[if_neg h0]
   exact key _ (qU _)
  have:=hT.cnt;omega
theorem kJ1 (rails:List Rail):newE rails=kAM rails:=by
 unfold newE kAM;by_cases h1:64<rails.length
 ·rw[if_pos h1,if_pos h1]
 ·rw[if_neg h1,if_neg h1];by_cases hF: ∀j,j<rails.length→ ¬badR rails.length (rails.getD j railK.d)
  ·rw[if_pos hF,if_pos hF];unfold chkM;rw[kQ6 hF (by omega),if_neg (by simp)];have:=kNz hF;by_cases h2:(seqM rails.length (lkM rails rails.length)).length=rails.length
   ·rw[if_neg (by omega),if_pos (this.1 h2)]
   ·rw[if_pos (by omega),if_neg (fun x=>h2 (this.2 x))]
  ·rw[if_neg hF,if_neg hF]
end
abbrev Sg:=List Bool×List Int
def St.sg (st:St):Sg:=(st.count.map fun c=>decide (0<c),st.done)
def stp (σ:Sg) (o:ROp):Sg:=(σ.1.set o.rail.toNat o.on,σ.2.set o.rail.toNat o.done)
def OkOp (s:List Rail) (σ:Sg) (o:ROp):Prop:=
 ∃i:Nat,o.rail=i∧i<s.length∧σ.1.getD i false≠o.on∧σ.2.getD i 0≤o.start∧
  (0≤o.start∧o.done=o.start+(if o.on then (s.getD i railK.d).up else (s.getD i railK.d).down)∧o.done≤18446744073709551615)∧
  (o.on=true→ ∀p:Nat,sp s i=p→σ.1.getD p false=true∧σ.2.getD p 0≤o.start)∧
  (o.on=false→ ∀k,k<s.length→sp s k=i→σ.1.getD k false=false∧σ.2.getD k 0≤o.start)
def Tr (s:List Rail):Sg→List ROp→Sg→Prop
 |σ,[],τ=>σ=τ
 |σ,o::r,τ=>OkOp s σ o∧Tr s (stp σ o) r τ
structure Good (s:List Rail) (rk:Nat→Nat):Prop where
 len:s.length≤8
 fine: ∀i,i<s.length→ -1≤sp s i∧sp s i<s.length
 ramp: ∀i,i<s.length→(0≤(s.getD i railK.d).up∧(s.getD i railK.d).up<20)∧0≤(s.getD i railK.d).down∧(s.getD i railK.d).down<20
 acy:Acy s rk
 rank: ∀i,i<s.length→rk i<s.length
def St.own (st:St) (j:Nat):Int:=st.c j-kNu st j st.rails.length
structure Inv (s:List Rail) (T:Int) (st:St):Prop where
 rails:st.rails=s
 wf:st.wf
 own: ∀j,j<s.length→0≤st.own j
 tm: ∀j,j<s.length→0≤st.t j∧st.t j≤T
 ord: ∀k,k<s.length→0<st.c k→ ∀p:Nat,sp s k=p→st.t p≤st.t k
theorem kDW (raw:List Rail):(kA5 raw).length=min raw.length 8:=by
 simp only[kA5];split
 ·simp
 ·rw[kA3]
theorem kNR {x:Int} (h:0≤x):0≤x.tmod 20∧x.tmod 20<20:=⟨Int.tmod_nonneg _ h,Int.tmod_lt_of_pos _ (by omega)⟩
theorem kKR {raw:List Rail} (h: ∀i,i<raw.length→kHJ (raw.getD i railK.d)): ∃rk,Good (kA5 raw) rk:=by
 have hl:=kDW raw;have hr: ∀i,i<min raw.length 8→(0≤((sm1 raw (min raw.length 8)).getD i railK.d).up∧((sm1 raw (min raw.length 8)).getD i railK.d).up<20)∧0≤((sm1 raw (min raw.length 8)).getD i railK.d).down∧((sm1 raw (min raw.length 8)).getD i railK.d).down<20:=fun i hi=>by
  rw[kIz raw hi];obtain⟨_,h2,h3⟩:=h i (by omega);exact⟨kNR h2.1,kNR h3.1⟩
 by_cases ho:min raw.length 8%2=1
 ·have he:kA5 raw=(List.range (min raw.length 8)).map fun p=>turn (min raw.length 8) ((sm1 raw (min raw.length 8)).getD (min raw.length 8-1-p) railK.d):=by simp only[kA5,if_pos ho]
  have hg: ∀i,i<min raw.length 8→(kA5 raw).getD i railK.d=turn (min raw.length 8) ((sm1 raw (min raw.length 8)).getD (min raw.length 8-1-i) railK.d):=fun i hi=>by
   rw[he];simp[List.getD,hi]
  have hsup: ∀i,i<min raw.length 8→sp (kA5 raw) i= -1∨((i:Int)<sp (kA5 raw) i∧sp (kA5 raw) i<(min raw.length 8:Nat)):=fun i hi=>by
   have hq:=kEl raw (k:=min raw.length 8) (i:=min raw.length 8-1-i) (by omega);unfold sp;rw[hg i hi];unfold turn;split
   ·next hx=>right;simp only[];omega
   ·next hx=>left;omega
  refine⟨fun i=>min raw.length 8-1-i,⟨by omega,fun i hi=>?_,fun i hi=>?_,fun i hi p hp=>?_,fun i hi=>by omega⟩⟩
  ·have:=hsup i (by omega);omega
  ·rw[hg i (by omega)];have:=hr (min raw.length 8-1-i) (by omega);unfold turn;split<;>exact this
  ·have:=hsup i (by omega);have hp':sp (kA5 raw) i=p:=hp;omega
 ·have he:kA5 raw=sm1 raw (min raw.length 8):=by simp only[kA5,if_neg ho]
  have hsup: ∀i,i<min raw.length 8→ -1≤sp (kA5 raw) i∧sp (kA5 raw) i<i:=fun i hi=>by
   unfold sp;rw[he];exact kEl raw hi
  refine⟨fun i=>i,⟨by omega,fun i hi=>?_,fun i hi=>?_,fun i hi p hp=>?_,fun i hi=>by omega⟩⟩
  ·have:=hsup i (by omega);omega
  ·rw[he];exact hr i (by omega)
  ·have:=hsup i (by omega);have hp':sp (kA5 raw) i=p:=hp;omega
theorem kKS {s:List Rail} {rk:Nat→Nat} (G:Good s rk) {j:Nat} (hj:j<s.length): ∀k,itM s j k<0∨ ∃i:Nat,itM s j k=i∧i<s.length∧rk i+k≤rk j
 |0=> .inr ⟨j,rfl,hj,by omega⟩
 |k+1=>by
  rcases kKS G hj k with h|⟨i,h1,h2,h3⟩
  ·left;rw[itM,if_neg (by omega)];exact h
  ·rw[itM,if_pos (by omega),h1,qh];by_cases hs:0≤(s.getD i railK.d).supply
   ·obtain⟨p,hp⟩:=qa hs;obtain⟨q1,q2⟩:=G.acy i h2 p hp;exact .inr ⟨p,hp,q1,by omega⟩
   ·left;omega
theorem kM6 {s:List Rail} {rk:Nat→Nat} (G:Good s rk):newE s=0:=by
 have hlen:=G.len;rw[kJ1,kAM,if_neg (by omega),if_pos,if_pos]
 ·intro j hj;rcases kKS G hj s.length with h|⟨i,h1,h2,h3⟩
  ·exact h
  ·have:=G.rank j hj;omega
 ·intro j hj;have h1:=G.fine j hj;have h2:=G.ramp j hj;unfold sp at h1;unfold badR;omega
structure IN (s:List Rail) (m:Nat) (st:St):Prop where
 inv:Inv s (1152921504606846976+160* m) st
 up: ∀j,j<s.length→st.own j≤m
 clock:0≤st.clock∧st.clock≤1152921504606846976
structure Did (s:List Rail) (m:Nat) (st:St) (rel:Bool) (x now:Int) (r:Res):Prop where
 inn:IN s (m+1) r.st
 tr:Tr s st.sg r.ops r.st.sg
 bad:r.err≠0→r.st=st∧r.ops=[]
 good:r.err=0→r.st.clock=now∧ ∃i:Nat,x=i∧i<s.length∧ ∀j,j<s.length→r.st.own j=st.own j+if j=i then (if rel then -1 else 1) else 0
end Go.Rails
