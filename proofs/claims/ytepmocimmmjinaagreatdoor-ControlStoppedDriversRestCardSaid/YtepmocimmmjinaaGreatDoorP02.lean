/-
  Joined.
-/
import Derived.Test.YtepmocimmmjinaaGreatDoorP01
set_option linter.unusedSimpArgs false
set_option linter.unusedVariables false
variable {a n y:Nat} {b o:Int} {f v:List Int} {q:Nat->List Int} {w:Bool}
namespace Go.Rails
open Go.Sv
structure ag where
 supply:Int
 up:Int
 down:Int
structure gR where
 rail:Int
 on:Bool
 start:Int
 done:Int
 deriving DecidableEq
structure St where
 rails:List ag
 count:List Int
 done:List Int
 clock:Int
def aE:bO ag where
 f r:=[.int .i64 r.supply,.int .u64 r.up,.int .u64 r.down]
 sz:=3
 d:=⟨0,0,0⟩
 len _:=rfl
 pos:=zd
 one r v hv:=by simp at hv;rcases hv with rfl|rfl|rfl<;>rfl
def dB:bO gR where
 f r:=[.int .i64 r.rail,.bool r.on,.int .u64 r.start,.int .u64 r.done]
 sz:=4
 d:=⟨0,false,0,0⟩
 len _:=rfl
 pos:=zd
 one r v hv:=by simp at hv;rcases hv with rfl|rfl|rfl|rfl<;>rfl
def aD (k:IntKind):bO Int where
 f n:=[.int k n]
 sz:=1
 d:=0
 len _:=rfl
 pos:=zd
 one r v hv:=by simp at hv;subst hv;rfl
structure RA where
 A0:Option Addr
 c0:Nat
 A1:Option Addr
 c1:Nat
 A2:Option Addr
 c2:Nat
def aa (t:TypeId) (b:Nat) (a:RA) (st:St):List aB:=
 [aU b (.cells #[.slice a.A0 st.rails.length a.c0,.slice a.A1 st.rails.length a.c1,.slice a.A2 st.rails.length a.c2,.int .u64 st.clock] t (0,0)),
  OS 190 aE a.A0 a.c0 st.rails,OS 3 (aD .i64) a.A1 a.c1 st.count,OS 43 (aD .u64) a.A2 a.c2 st.done]
structure St.wf (st:St):Prop where
 count:st.count.length=st.rails.length
 done:st.done.length=st.rails.length
def ju (rails:List ag) (rk:Nat->Nat):Prop:= ∀i,i<rails.length-> ∀s:Nat,(rails.getD i aE.d).supply=(s:Int)->s<rails.length/\rk s<rk i
def St.c (st:St) (i:Nat):Int:=st.count.getD i 0
def St.t (st:St) (i:Nat):Int:=st.done.getD i 0
def St.r (st:St) (i:Nat):ag:=st.rails.getD i aE.d
def St.setC (st:St) (i:Nat) (x:Int):St:={st with count:=st.count.set i x}
def St.setD (st:St) (i:Nat) (x:Int):St:={st with done:=st.done.set i x}
def cg:Nat->St->Nat->Int->List gR->St×List gR
 |0,st,_,_,ops=>(st,ops)
 |f+1,st,i,now,ops=>
  if st.c i=0 then
   let q:=if 0<=(st.r i).supply then
    let p:=cg f st (st.r i).supply.toNat now ops
    (p.1,p.2,max (max now (st.t i)) (p.1.t (st.r i).supply.toNat))
    else (st,ops,max now (st.t i))
   let dn:=IntKind.u64.wrap (q.2.2+(st.r i).up)
   let st2:=q.1.setD i dn
   (st2.setC i (IntKind.i64.wrap (st2.c i+1)),q.2.1++[⟨i,true,q.2.2,dn⟩])
  else (st.setC i (IntKind.i64.wrap (st.c i+1)),ops)
def kI (st:St) (i:Int):Nat->Int->Int
 |0,s0=>s0
 |k+1,s0=>if (st.r k).supply=i then max (kI st i k s0) (st.t k) else kI st i k s0
def bx:Nat->St->Nat->Int->List gR->St×List gR
 |0,st,_,_,ops=>(st,ops)
 |f+1,st0,i,now,ops=>
  let st:=st0.setC i (IntKind.i64.wrap (st0.c i-1))
  if 0<st.c i then (st,ops)
  else
   let start:=kI st i st.rails.length (max now (st.t i))
   let dn:=IntKind.u64.wrap (start+(st.r i).down)
   let st2:=st.setD i dn
   let ops2:=ops++[⟨i,false,start,dn⟩]
   if 0<=(st.r i).supply then bx f st2 (st.r i).supply.toNat now ops2 else (st2,ops2)
def hR (st:St) (i:Int):Nat->Int
 |0=>0
 |k+1=>if (st.r k).supply=i/\0<st.c k then hR st i k+1 else hR st i k
theorem Ru (st:St) (i:Int) (k:Nat):0<=hR st i k/\hR st i k<=k:=by
 induction k with
 |zero=>simp[hR]
 |succ k a=>grind [hR]
variable {e:St}
theorem BJ (h:e.wf) (i:Nat) (x:Int):(e.setC i x).wf:=⟨by simp[St.setC,h.count],h.done⟩
theorem HA (h:e.wf) (i:Nat) (x:Int):(e.setD i x).wf:=⟨h.count,by simp[St.setD,h.done]⟩
theorem BK (f:Nat): ∀(st:St) (i:Nat) (now:Int) (ops:List gR),(cg f st i now ops).1.rails=st.rails/\(cg f st i now ops).1.clock=st.clock/\(cg f st i now ops).1.count.length=st.count.length/\(cg f st i now ops).1.done.length=st.done.length/\(cg f st i now ops).2.length<=ops.length+f:=by
 induction f with
 |zero=>grind [cg]
 |succ f a=>
  grind [cg,St.setC,St.setD]
theorem HC (f:Nat): ∀(st:St) (i:Nat) (now:Int) (ops:List gR),(bx f st i now ops).1.rails=st.rails/\(bx f st i now ops).1.clock=st.clock/\(bx f st i now ops).1.count.length=st.count.length/\(bx f st i now ops).1.done.length=st.done.length/\(bx f st i now ops).2.length<=ops.length+f:=by
 induction f with
 |zero=>grind [bx]
 |succ f a=>
  grind [bx,St.setC,St.setD]
variable {h:List gR}
theorem BL (ops: ¬e.c n=0):cg (a+1) e n b h=(e.setC n (IntKind.i64.wrap (e.c n+1)),h):=by grind [cg]
theorem BN {ops:St} {now:List gR} (s:e.c n=0) (hs:(e.r n).supply=(y:Int)) (d:cg a e y b h=(ops,now)):
 cg (a+1) e n b h=((ops.setD n (IntKind.u64.wrap (max (max b (e.t n)) (ops.t y)+(ops.r n).up))).setC n (IntKind.i64.wrap ((ops.setD n (IntKind.u64.wrap (max (max b (e.t n)) (ops.t y)+(ops.r n).up))).c n+1)),
  now++[⟨n,true,max (max b (e.t n)) (ops.t y),IntKind.u64.wrap (max (max b (e.t n)) (ops.t y)+(ops.r n).up)⟩]):=by
 grind [BK,St.r,cg]
theorem BO (ops:e.c n=0) (hs: ¬0<=(e.r n).supply):
 cg (a+1) e n b h=((e.setD n (IntKind.u64.wrap (max b (e.t n)+(e.r n).up))).setC n (IntKind.i64.wrap ((e.setD n (IntKind.u64.wrap (max b (e.t n)+(e.r n).up))).c n+1)),
  h++[⟨n,true,max b (e.t n),IntKind.u64.wrap (max b (e.t n)+(e.r n).up)⟩]):=by
 grind [cg]
theorem HD (ops:0<(e.setC n (IntKind.i64.wrap (e.c n-1))).c n):bx (a+1) e n b h=(e.setC n (IntKind.i64.wrap (e.c n-1)),h):=by
 grind [bx]
theorem yI {st:St} (ops:e.setC n (IntKind.i64.wrap (e.c n-1))=st) (now: ¬0<st.c n) (hs:(st.r n).supply=(y:Int)) (m:kI st n st.rails.length (max b (st.t n))=o):
 bx (a+1) e n b h=bx a (st.setD n (IntKind.u64.wrap (o+(st.r n).down))) y b (h++[⟨n,false,o,IntKind.u64.wrap (o+(st.r n).down)⟩]):=by
 grind [bx]
theorem yJ {st:St} (ops:e.setC n (IntKind.i64.wrap (e.c n-1))=st) (now: ¬0<st.c n) (hs: ¬0<=(st.r n).supply) (m:kI st n st.rails.length (max b (st.t n))=o):
 bx (a+1) e n b h=(st.setD n (IntKind.u64.wrap (o+(st.r n).down)),h++[⟨n,false,o,IntKind.u64.wrap (o+(st.r n).down)⟩]):=by
 grind [bx]
def St.tick (st:St) (now:Int):St:={st with clock:=now}
def St.ok (st:St) (x now:Int):Prop:=(0<=x/\x<st.rails.length)/\st.clock<=now/\now<=1152921504606846976
instance(st:St) (x now:Int):Decidable (st.ok x now):=inferInstanceAs (Decidable (_/\_))
structure lQ where
 st:St
 ops:List gR
 err:Int
def dQ (f:Nat) (st:St) (x now:Int):lQ:=
 if st.ok x now then ⟨(cg f (st.tick now) x.toNat now []).1,(cg f (st.tick now) x.toNat now []).2,0⟩ else ⟨st,[],1⟩
def co (f:Nat) (st:St) (x now:Int):lQ:=
 if st.ok x now then
  if st.c x.toNat<=hR st x st.rails.length then ⟨st,[],9⟩
  else ⟨(bx f (st.tick now) x.toNat now []).1,(bx f (st.tick now) x.toNat now []).2,0⟩
 else ⟨st,[],1⟩
theorem yK (h:(e.r a).supply=b):kI e b (a+1) o=max (kI e b a o) (e.t a):=by grind [kI]
theorem yL (h: ¬(e.r a).supply=b):kI e b (a+1) o=kI e b a o:=by grind [kI]
theorem HE (h:(e.r a).supply=b) (k:0<e.c a):hR e b (a+1)=hR e b a+1:=by grind [hR]
theorem HF (h: ¬(e.r a).supply=b):hR e b (a+1)=hR e b a:=by grind [hR]
theorem HI (h: ¬0<e.c a):hR e b (a+1)=hR e b a:=by grind [hR]
theorem HJ (h:e.ok b o):dQ a e b o=⟨(cg a (e.tick o) b.toNat o []).1,(cg a (e.tick o) b.toNat o []).2,0⟩:=if_pos h
theorem HK (h: ¬e.ok b o):dQ a e b o=⟨e,[],1⟩:=if_neg h
theorem HL (h:e.ok b o) (now: ¬e.c b.toNat<=hR e b e.rails.length):co a e b o=⟨(bx a (e.tick o) b.toNat o []).1,(bx a (e.tick o) b.toNat o []).2,0⟩:=by grind [co]
theorem HM (h:e.ok b o) (now:e.c b.toNat<=hR e b e.rails.length):co a e b o=⟨e,[],9⟩:=by grind [co]
theorem HN (h: ¬e.ok b o):co a e b o=⟨e,[],1⟩:=if_neg h
def cR:Nat->St->Nat->Int->List gR->St×List gR
 |0,st,_,_,ops=>(st,ops)
 |f+1,st0,i,now,ops=>
  let st:=st0.setC i (IntKind.i64.wrap (st0.c i+1))
  if 1<st.c i then (st,ops)
  else
   let q:=if 0<=(st.r i).supply then
    let p:=cR f st (st.r i).supply.toNat now ops
    (p.1,p.2,max (max now (st.t i)) (p.1.t (st.r i).supply.toNat))
    else (st,ops,max now (st.t i))
   let dn:=IntKind.u64.wrap (q.2.2+(st.r i).up)
   (q.1.setD i dn,q.2.1++[⟨i,true,q.2.2,dn⟩])
theorem BP (f:Nat): ∀(st:St) (i:Nat) (now:Int) (ops:List gR),(cR f st i now ops).1.rails=st.rails/\(cR f st i now ops).1.clock=st.clock/\(cR f st i now ops).1.count.length=st.count.length/\(cR f st i now ops).1.done.length=st.done.length/\(cR f st i now ops).2.length<=ops.length+f:=by
 induction f with
 |zero=>grind [cR]
 |succ f a=>
  grind [cR,St.setC,St.setD]
theorem Rv {st:St} (ops:e.setC n (IntKind.i64.wrap (e.c n+1))=st) (now:1<st.c n):cR (a+1) e n b h=(st,h):=by
 grind [cR]
theorem HP {st ops:St} {now:List gR} (d:e.setC n (IntKind.i64.wrap (e.c n+1))=st) (i: ¬1<st.c n) (hs:(st.r n).supply=(y:Int)) (s:cR a st y b h=(ops,now)):
 cR (a+1) e n b h=(ops.setD n (IntKind.u64.wrap (max (max b (st.t n)) (ops.t y)+(ops.r n).up)),now++[⟨n,true,max (max b (st.t n)) (ops.t y),IntKind.u64.wrap (max (max b (st.t n)) (ops.t y)+(ops.r n).up)⟩]):=by
 grind [BP,St.r,cR]
theorem HQ {st:St} (ops:e.setC n (IntKind.i64.wrap (e.c n+1))=st) (now: ¬1<st.c n) (hs: ¬0<=(st.r n).supply):
 cR (a+1) e n b h=(st.setD n (IntKind.u64.wrap (max b (st.t n)+(st.r n).up)),h++[⟨n,true,max b (st.t n),IntKind.u64.wrap (max b (st.t n)+(st.r n).up)⟩]):=by
 grind [cR]
def bi (st:St) (i:Int) (n0:Int):Nat->Int
 |0=>n0
 |k+1=>if (st.r k).supply=i/\0<st.c k then IntKind.i64.wrap (bi st i n0 k-1) else bi st i n0 k
theorem HR (h:(e.r a).supply=b) (k:0<e.c a):bi e b o (a+1)=IntKind.i64.wrap (bi e b o a-1):=by grind [bi]
theorem HS (h: ¬(e.r a).supply=b):bi e b o (a+1)=bi e b o a:=by grind [bi]
theorem HT (h: ¬0<e.c a):bi e b o (a+1)=bi e b o a:=by grind [bi]
def gS (f:Nat) (st:St) (x now:Int):lQ:=
 if st.ok x now then ⟨(cR f (st.tick now) x.toNat now []).1,(cR f (st.tick now) x.toNat now []).2,0⟩ else ⟨st,[],1⟩
def eM (f:Nat) (st:St) (x now:Int):lQ:=
 if st.ok x now then
  if bi st x (st.c x.toNat) st.rails.length=0 then ⟨st,[],9⟩
  else ⟨(bx f (st.tick now) x.toNat now []).1,(bx f (st.tick now) x.toNat now []).2,0⟩
 else ⟨st,[],1⟩
theorem HU (h:e.ok b o):gS a e b o=⟨(cR a (e.tick o) b.toNat o []).1,(cR a (e.tick o) b.toNat o []).2,0⟩:=if_pos h
theorem HW (h: ¬e.ok b o):gS a e b o=⟨e,[],1⟩:=if_neg h
theorem HX (h:e.ok b o) (now: ¬bi e b (e.c b.toNat) e.rails.length=0):eM a e b o=⟨(bx a (e.tick o) b.toNat o []).1,(bx a (e.tick o) b.toNat o []).2,0⟩:=by grind [eM]
theorem HY (h:e.ok b o) (now:bi e b (e.c b.toNat) e.rails.length=0):eM a e b o=⟨e,[],9⟩:=by grind [eM]
theorem Rw (h: ¬e.ok b o):eM a e b o=⟨e,[],1⟩:=if_neg h
structure aX where
 con:Int
 sup:Int
 deriving DecidableEq
def aC:bO aX where
 f r:=[.int .i64 r.con,.int .i64 r.sup]
 sz:=2
 d:=⟨0,0⟩
 len _:=rfl
 pos:=zd
 one r v hv:=by simp at hv;rcases hv with rfl|rfl<;>rfl
def BQ (l:aX):Value:= .agg #[.int .i64 l.con,.int .i64 l.sup]
def cX (n:Int) (l:aX):Prop:=(0<=l.con/\l.con<n)/\0<=l.sup/\l.sup<n
instance(n:Int) (l:aX):Decidable (cX n l):=inferInstanceAs (Decidable (_/\_))
def ec (n:Int) (links:List aX):Int:=
 if n<0\/128<n\/(1024:Int)<links.length then 1
 else if ∀j,j<links.length->cX n (links.getD j aC.d) then if links.Nodup then 0 else 7 else 1
theorem uL (ks:List aX) (x:aX):br (ks.map λl=>(l,true)) x=if x∈ks then some true else none:=by
 induction ks with
 |nil=>simp[br]
 |cons a r b=>
  grind [br]
theorem BT (ks:List aX) (x:aX):(br (ks.map λl=>(l,true)) x).getD false=decide (x∈ks):=by grind [uL]
theorem nz {α:Type} (l:List α) (k:Nat) (d:α) (h:k<l.length):l.take (k+1)=l.take k++[l.getD k d]:=by
 simp_all
theorem HZ (links:List aX) (k:Nat) (h:k<links.length) (a:(links.take k).Nodup) (b: ¬links.getD k aC.d∈links.take k):(links.take (k+1)).Nodup:=by
 grind [nz]
theorem Ha (links:List aX) (k:Nat) (h:k<links.length) (b:links.getD k aC.d∈links.take k): ¬links.Nodup:=by
 intro a;have c:(links.take (k+1)).Nodup:=a.sublist (List.take_sublist _ _)
 grind [nz]
structure Hd where
 A:Option Addr
 c:Nat
 ys:List Int
def dE:bO Hd where
 f h:=[.slice h.A h.ys.length h.c]
 sz:=1
 d:=⟨none,0,[]⟩
 len _:=rfl
 pos:=zd
 one r v hv:=by simp at hv;subst hv;rfl
def cb (h:Hd):aB:=OS 3 (aD .i64) h.A h.c h.ys
theorem oh {w:World} (i:aV) (b:Hd) (h:(cb b).sat w i):RS w (aD .i64) b.A b.ys:=OS.rs h
def bP (links:List aX) (cons:Bool) (s:Nat):List Int:=
 match links with
 |[]=>[]
 |l::r=>if (if cons then l.sup else l.con)=(s:Int) then (if cons then l.con else l.sup)::bP r cons s else bP r cons s
theorem BU (links:List aX) (cons:Bool) (l:aX) (s:Nat):bP (links++[l]) cons s=bP links cons s++(if (if cons then l.sup else l.con)=(s:Int) then [if cons then l.con else l.sup] else []):=by
 induction links with
 |nil=>simp[bP]
 |cons a r b=>
  grind [bP]
theorem BV (links:List aX) (cons:Bool) (s:Nat):(bP links cons s).length<=links.length:=by
 induction links with
 |nil=>simp[bP]
 |cons a r b=>
  grind [bP]
variable {l:List aX}
theorem yM {h:Hd} (b:h.ys=bP (l.take a) w n):h.ys.length<=l.length:=by
 grind [BV]
theorem Rx {hs:List Hd} {A:Option Addr} {c:Nat} (e:a<l.length) (h: ∀n,n<y->(hs.getD n dE.d).ys=bP (l.take a) w n) (f:hs.length=y) (s:n<y)
 (g:(if w then (l.getD a aC.d).sup else (l.getD a aC.d).con)=(n:Int)) (i:(if w then (l.getD a aC.d).con else (l.getD a aC.d).sup)=b):
 ∀t,t<y->((hs.set n ⟨A,c,(hs.getD n dE.d).ys++[b]⟩).getD t dE.d).ys=bP (l.take (a+1)) w t:=by
 grind [nz,BU]
theorem BW (h: ∀i,i<l.length->cX b (l.getD i aC.d)) (n:Bool) (s k:Nat) (e:k<(bP l n s).length):0<=(bP l n s).getD k 0/\(bP l n s).getD k 0<b:=by
 have key: ∀links:List aX,(∀x∈links,cX b x)-> ∀y∈bP links n s,0<=y/\y<b:=by
  intro links
  induction links with
  |nil=>grind [bP]
  |cons a r f=>
   intro c y g;have j:=c a zm
   grind [cX,bP]
 refine key l (λx m=>?_) _ ?_
 ·grind [List.getElem_of_mem]
 grind
def hD (links:List aX) (i:Nat):Int:=
 match links with
 |[]=>0
 |l::r=>if l.con=(i:Int) then hD r i+1 else hD r i
theorem Hb (links:List aX) (l:aX) (i:Nat):hD (links++[l]) i=hD links i+(if l.con=(i:Int) then 1 else 0):=by
 induction links with
 |nil=>simp[hD]
 |cons a r b=>grind [hD]
theorem Ry (ms:a<l.length) (h: ∀n,n<y->f.getD n 0=hD (l.take a) n) (b:f.length=y) (c:n<y) (e:(l.getD a aC.d).con=(n:Int)):
 ∀t,t<y->(f.set n (f.getD n 0+1)).getD t 0=hD (l.take (a+1)) t:=by
 grind [nz,Hb]
theorem Hg (links:List aX) (i:Nat):0<=hD links i/\hD links i<=links.length:=by
 induction links with
 |nil=>simp[hD]
 |cons a r b=>grind [hD]
theorem Rz (links:List aX) (i j:Nat):0<=hD (links.take j) i/\hD (links.take j) i<=links.length:=by
 have:=Hg (links.take j) i
 grind
def bW (x:Int) (ms:List Int):Nat->Int
 |0=> -1
 |k+1=>if bW x ms k= -1 then (if ms.getD k 0=x then (k:Int) else -1) else bW x ms k
theorem uM {x:Int} {ms:List Int}: ∀ {k:Nat},bW x ms k= -1↔ ∀j,j<k-> ¬ms.getD j 0=x
 |0=>by simp[bW]
 |k+1=>by
  simp only[bW];have a:=uM (x:=x) (ms:=ms) (k:=k)
  grind
theorem qo {x:Int} {ms:List Int}: ∀ {k:Nat},bW x ms k≠ -1-> ∃i:Nat,bW x ms k=(i:Int)/\i<k/\ms.getD i 0=x/\ ∀j,j<i-> ¬ms.getD j 0=x
 |0,h=>by grind [bW]
 |k+1,h=>by
  simp only[bW] at h ⊢;by_cases a:bW x ms k= -1
  ·grind [uM]
  ·rw[if_neg a];obtain⟨i,b,c,d⟩:=qo a
   grind
theorem SA (k:a<n) (h:bW b f a= -1) (ms:f.getD a 0=b):bW b f n=(a:Int):=by
 have key: ∀d,bW b f (a+1+d)=(a:Int):=by
  intro d
  induction d with
  |zero=>grind [bW]
  |succ d c=>grind [bW]
 have:=key (n-(a+1))
 grind
def mr (ms:List Int) (c:Int):List Int:=ms.set c.toNat (ms.getD c.toNat 0-1)
def bj (ms:List Int) (cs:List Int):Nat->List Int
 |0=>ms
 |k+1=>mr (bj ms cs k) (cs.getD k 0)
theorem mM (ms cs:List Int) (k:Nat):(bj ms cs k).length=ms.length:=by
 induction k with
 |zero=>rfl
 |succ k a=>grind [bj,mr]
def ce (ms:List Int):Nat->Nat
 |0=>0
 |k+1=>ce ms k+if 0<=ms.getD k 0 then 1 else 0
theorem SB (h: ∀i,i<a->v.getD i 0<=f.getD i 0):ce v a<=ce f a:=by
 induction a with
 |zero=>simp[ce]
 |succ a c=>
  grind [ce]
theorem SC (h: ∀n,n<a->v.getD n 0<=f.getD n 0) (c:n<a) (d:0<=f.getD n 0) (i:v.getD n 0<0):ce v a<ce f a:=by
 induction a with
 |zero=>omega
 |succ a g=>
  have l:=h a zo;simp only[ce];by_cases e:n=a
  ·subst e;have:=SB (a:=n) λj m=>h j zo
   grind
  grind
theorem vh (ms cs:List Int) (k i:Nat):(bj ms cs k).getD i 0<=ms.getD i 0/\ms.getD i 0-k<=(bj ms cs k).getD i 0:=by
 induction k with
 |zero=>simp[bj]
 |succ k a=>
  grind [bj,mr]
def hU (nb:Nat->List Int) (n:Nat):Nat->List Int->List Int->List Int
 |0,_,ord=>ord
 |f+1,ms,ord=>if bW 0 ms n= -1 then ord else hU nb n f (bj (ms.set (bW 0 ms n).toNat (-1)) (nb (bW 0 ms n).toNat) (nb (bW 0 ms n).toNat).length) (ord++[bW 0 ms n])
theorem Hh (h:ce f a=0):bW 0 f a= -1:=by
 rw[uM]
 induction a with
 |zero=>grind
 |succ a n=>
  grind [ce]
theorem vi {nb:Nat->List Int} (b:f.length=a) (i:n<a) (c:f.getD n 0=0) (cs:List Int) (k:Nat):ce (bj (f.set n (-1)) cs k) a<ce f a:=by
 refine SC (λj d=>?_) i zo ?_
 ·refine Int.le_trans (vh _ _ _ _).1 ?_
  grind
 ·refine Int.lt_of_le_of_lt (vh _ _ _ _).1 ?_
  grind
theorem Hi (nb:Nat->List Int) (n:Nat): ∀(f g:Nat) (ms ord:List Int),ce ms n<=f->ce ms n<=g->ms.length=n->hU nb n f ms ord=hU nb n g ms ord:=by
 intro f
 induction f with
 |zero=>
  intro g ms ord h _ _;have:=Hh (f:=ms) (a:=n) zo;cases g<;>simp[hU,this]
 |succ f j=>
  intro g ms ord h k b;by_cases a:bW 0 ms n= -1
  ·cases g<;>simp[hU,a]
  ·obtain⟨i,l,c,d,_⟩:=qo a;have e:=vi (nb:=nb) b c d (nb i) (nb i).length;cases g with
   |zero=>omega
   |succ g=>
    grind [hU,mM]
def bt (n:Nat) (links:List aX):List Int:=(List.range n).map (hD links)
def bQ (n:Nat) (links:List aX):List Int:=hU (bP links true) n (ce (bt n links) n) (bt n links) []
theorem SD (ms:f.length=a) (h: ∀i,i<a->f.getD i 0=hD l i):f=bt a l:=by
 apply List.ext_getElem (by simp[bt,ms])
 grind [bt]
theorem SE (b:f.length=a) (g:bW 0 f a=(n:Int)):
 hU q a (ce f a) f v=hU q a (ce (bj (f.set n (-1)) (q n) (q n).length) a) (bj (f.set n (-1)) (q n) (q n).length) (v++[(n:Int)]):=by
 obtain⟨ord,e,c,d,_⟩:=qo (x:=0) (ms:=f) (k:=a) zo;have:ord=n:=zo
 subst this;have ms:=vi (nb:=q) b c d (q ord) (q ord).length;have h:hU q a (ce f a) f v=hU q a (ce f a-1) (bj (f.set ord (-1)) (q ord) (q ord).length) (v++[(ord:Int)]):=by
  rw[show ce f a=(ce f a-1)+1 from zo,hU]
  grind
 grind [Hi,mM]
theorem SF (ord:bW 0 f a= -1) (ms:Nat):hU q a ms f v=v:=by
 cases ms<;>simp[hU,ord]
def aQ (n:Nat) (links:List aX):Int:=if ec n links≠0 then ec n links else if ((bQ n links).length:Int)≠n then 18 else 0
theorem uN (h:ec a l=0):a<=128/\l.length<=1024/\ ∀j,j<l.length->cX a (l.getD j aC.d):=by
 grind [ec]
theorem Hj (ms:List Int) (k:Nat):ce ms k<=k:=by
 induction k with
 |zero=>simp[ce]
 |succ k a=>grind [ce]
theorem BX {ms:List Int} {i e:Nat} (h:ms.getD e 0<=1024/\b<=ms.getD e 0):(ms.set i (-1)).getD e 0<=1024/\(b<=(ms.set i (-1)).getD e 0\/ -1<=(ms.set i (-1)).getD e 0):=by
 grind
theorem SJ {ys:List Int}
 (i:f.length=a/\ce f a+v.length<=a/\(∀n,n<a->f.getD n 0<=1024/\ -(2000* (v.length:Int))<=f.getD n 0)/\hU (bP l true) a (ce f a) f v=bQ a l) (b:l.length<=1024)
 (g:bW 0 f a=(n:Int)) (c:n<a) (d:f.getD n 0=0) (h:ys=bP l true n):
 (bj (f.set n (-1)) ys ys.length).length=a/\ce (bj (f.set n (-1)) ys ys.length) a+(v++[(n:Int)]).length<=a/\
  (∀k,k<a->(bj (f.set n (-1)) ys ys.length).getD k 0<=1024/\ -(2000* ((v++[(n:Int)]).length:Int))<=(bj (f.set n (-1)) ys ys.length).getD k 0)/\
  hU (bP l true) a (ce (bj (f.set n (-1)) ys ys.length) a) (bj (f.set n (-1)) ys ys.length) (v++[(n:Int)])=bQ a l:=by
 have e:=vi (nb:=bP l true) i.1 c d ys ys.length;have links:ys.length<=1024:=by grind [BV]
 refine⟨by grind [mM],zg,λk j=>?_,?_⟩
 ·have ord:=vh (f.set n (-1)) ys ys.length k
  grind
 grind [SE]
def bd (n:Int) (r:ag):Prop:=r.supply< -1\/n<=r.supply\/1048576<r.up\/1048576<r.down
instance(n:Int) (r:ag):Decidable (bd n r):=inferInstanceAs (Decidable (_\/_))
def cP (rails:List ag):Nat->List aX
 |0=>[]
 |k+1=>if 0<=(rails.getD k aE.d).supply then cP rails k++[⟨k,(rails.getD k aE.d).supply⟩] else cP rails k
theorem Hl (rails:List ag) (k:Nat):(cP rails k).length<=k:=by
 induction k with
 |zero=>simp[cP]
 |succ k a=>
  grind [cP]
def cS (rails:List ag):Int:=
 if 64<rails.length then 1
 else if ∀j,j<rails.length-> ¬bd rails.length (rails.getD j aE.d) then aQ rails.length (cP rails rails.length) else 1
def cx (rails:List ag) (i:Int):Nat->Int
 |0=>i
 |k+1=>if 0<=cx rails i k then (rails.getD (cx rails i k).toNat aE.d).supply else cx rails i k
def ej (rails:List ag):Int:=
 if 64<rails.length then 1
 else if ∀j,j<rails.length-> ¬bd rails.length (rails.getD j aE.d) then
  if ∀j,j<rails.length->cx rails j rails.length<0 then 0 else 18
 else 1
theorem Hm {rails:List ag} {i:Int} {k:Nat} (h:cx rails i k<0): ∀d,cx rails i (k+d)=cx rails i k
 |0=>rfl
 |d+1=>by rw[show k+(d+1)=(k+d)+1 from zo,cx,Hm h d,if_neg zo]
theorem Hn {rails:List ag} {i:Int} (a:i<rails.length) (h: ∀j,j<rails.length-> ¬bd rails.length (rails.getD j aE.d)): ∀k,cx rails i k<rails.length
 |0=>a
 |k+1=>by
  have b:=Hn a h k
  grind [cx,bd]
variable {g:List ag}
theorem SK (h:cx g b a=(n:Int)):cx g b (a+1)=(g.getD n aE.d).supply:=by grind [cx]
theorem SL (h:(64:Int)<g.length):cS g=1:=by grind [cS]
theorem yN (h: ¬(64:Int)<g.length) (j:a<g.length) (b:bd g.length (g.getD a aE.d)):cS g=1:=by grind [cS]
theorem Hq (h: ¬(64:Int)<g.length) (a: ∀j,j<g.length-> ¬bd g.length (g.getD j aE.d)):cS g=aQ g.length (cP g g.length):=by grind [cS]
theorem SM (h:(64:Int)<g.length):ej g=1:=by grind [ej]
theorem yO (h: ¬(64:Int)<g.length) (j:a<g.length) (b:bd g.length (g.getD a aE.d)):ej g=1:=by grind [ej]
theorem uO (h: ¬(64:Int)<g.length) (a: ∀j,j<g.length-> ¬bd g.length (g.getD j aE.d)) (b: ∀j,j<g.length->cx g j g.length<0):ej g=0:=by grind [ej]
theorem SN {j:Nat} (h: ¬(64:Int)<g.length) (a: ∀j,j<g.length-> ¬bd g.length (g.getD j aE.d)) (b:j<g.length) (c:0<=cx g j g.length):ej g=18:=by grind [ej]
def cy (rails:List ag):St:=⟨rails,List.replicate rails.length 0,List.replicate rails.length 0,0⟩
structure Ht where
 rel:Bool
 rail:Int
 wait:Int
 raw:Bool
def ah (v:Int) (n:Nat):Int:=(IntKind.u64.wrap v)%n
theorem gI (v:Int) {n:Nat} (h:0<n):0<=ah v n/\ah v n<n:=⟨Int.emod_nonneg _ zo,Int.emod_lt_of_pos _ zo⟩
def eG (raw:List ag):Nat->List ag
 |0=>[]
 |k+1=>eG raw k++[⟨ah (raw.getD k aE.d).supply (k+1)-1,(raw.getD k aE.d).up.tmod 20,(raw.getD k aE.d).down.tmod 20⟩]
theorem om (raw:List ag) (k:Nat):(eG raw k).length=k:=by
 induction k with
 |zero=>rfl
 |succ k a=>simp[eG,a]
theorem BZ (raw:List ag) (h:n<a):(eG raw a).getD n aE.d=⟨ah (raw.getD n aE.d).supply (n+1)-1,(raw.getD n aE.d).up.tmod 20,(raw.getD n aE.d).down.tmod 20⟩:=by
 induction a with
 |zero=>omega
 |succ a i=>
  simp only[eG];by_cases e:n=a
  ·simp_all[om]
  ·have b:n<(eG raw a).length:=by grind [om]
   grind
theorem yP (raw:List ag) (h:n<a): -1<=((eG raw a).getD n aE.d).supply/\((eG raw a).getD n aE.d).supply<n:=by
 rw[BZ raw h];have:=gI (raw.getD n aE.d).supply (n:=n+1) zo
 grind
def cp (n:Nat) (r:ag):ag:=if 0<=r.supply then {r with supply:=n-1-r.supply} else r
def cH (raw:List ag):List ag:=
 let n:=min raw.length 8
 if n%2=1 then (List.range n).map λp=>cp n ((eG raw n).getD (n-1-p) aE.d) else eG raw n
theorem Hw {z:List ag} (b:z.length=a) (h: ∀i,i<a->z.getD (a-1-i) aE.d=cp a (g.getD i aE.d)):z=(List.range a).map λp=>cp a (g.getD (a-1-p) aE.d):=by
 apply List.ext_getElem zg
 grind
def xy (r:ag):Prop:=(-9223372036854775808<=r.supply/\r.supply<=9223372036854775807)/\(0<=r.up/\r.up<=18446744073709551615)/\0<=r.down/\r.down<=18446744073709551615
section
variable {rails:List ag}
def sp (rails:List ag) (i:Nat):Int:=(rails.getD i aE.d).supply
def lR (rails:List ag):Prop:= ∀j,j<rails.length-> ¬bd rails.length (rails.getD j aE.d)
theorem lR.lt (h:lR rails) (i:a<rails.length): -1<=sp rails a/\sp rails a<rails.length:=by
 have:=h a i
 grind [bd,sp]
theorem vj (rails:List ag): ∀(k:Nat) (l:aX),l∈cP rails k-> ∃i:Nat,i<k/\l.con=i/\l.sup=sp rails i/\0<=sp rails i
 |0,l,h=>by simp[cP] at h
 |k+1,l,h=>by
  simp only[cP] at h;by_cases hs:0<=(rails.getD k aE.d).supply
  ·rw[if_pos hs] at h;rcases List.mem_append.1 h with h|h
   ·obtain⟨i,a,b⟩:=vj rails k l h
    grind
   ·simp at h;subst h;exact⟨k,zo,rfl,rfl,hs⟩
  ·rw[if_neg hs] at h;obtain⟨i,a,b⟩:=vj rails k l h
   grind
theorem Ba (rails:List ag): ∀k:Nat,(cP rails k).Nodup
 |0=>by simp[cP]
 |k+1=>by
  simp only[cP];by_cases hs:0<=(rails.getD k aE.d).supply
  ·rw[if_pos hs];refine List.nodup_append.2 ⟨Ba rails k,zm,λa c b e=>?_⟩
   grind [vj]
  ·rw[if_neg hs];exact Ba rails k
theorem SO (h:lR rails) (c:rails.length<=64):ec rails.length (cP rails rails.length)=0:=by
 have e:=Hl rails rails.length;rw[ec,if_neg zo,if_pos,if_pos (Ba rails _)];intro j f;have a:(cP rails rails.length).getD j aC.d∈cP rails rails.length:=by
  grind
 obtain⟨i,b,g,k,l⟩:=vj rails _ _ a;have:=h.lt b
 grind [cX]
def dz (cs:List Int) (e:Int):Nat->Int
 |0=>0
 |k+1=>dz cs e k+if cs.getD k 0=e then 1 else 0
theorem Hx (cs:List Int) (c e:Int): ∀k,k<=cs.length->dz (cs++[c]) e k=dz cs e k
 |0,_=>rfl
 |k+1,h=>by
  simp only[dz];rw[Hx cs c e k zo]
  grind
theorem SP (cs:List Int) (c e:Int):dz (cs++[c]) e (cs++[c]).length=dz cs e cs.length+if c=e then 1 else 0:=by
 simp_all[dz,Hx]
theorem Bb (ms cs:List Int) (e:Nat) (b:e<ms.length) (a: ∀k,k<cs.length->0<=cs.getD k 0): ∀k,k<=cs.length->(bj ms cs k).getD e 0=ms.getD e 0-dz cs e k
 |0,_=>by simp[bj,dz]
 |k+1,hk=>by
  have c:=Bb ms cs e b a k zo;have f:=a k zo;simp only[bj,mr,dz];by_cases d:cs.getD k 0=(e:Int)
  ·grind [qh,dN,mM]
  ·rw[if_neg d,db _ _ _ zo,c];omega
theorem Hy (rails:List ag) (s e:Nat): ∀k,dz (bP (cP rails k) true s) e (bP (cP rails k) true s).length=if e<k/\sp rails e=(s:Int) then 1 else 0
 |0=>by simp[cP,bP,dz]
 |k+1=>by
  have a:=Hy rails s e k
  grind [cP,BU,SP,sp]
theorem Hz (rails:List ag) (i:Nat): ∀k,hD (cP rails k) i=if i<k/\0<=sp rails i then 1 else 0
 |0=>by simp[cP,hD]
 |k+1=>by
  have a:=Hz rails i k
  grind [cP,Hb,sp]
structure ir (rails:List ag) (ms:List Int) (m:Nat):Prop where
 len:ms.length=rails.length
 cnt:ce ms rails.length+m=rails.length
 open_: ∀i,i<rails.length->0<=ms.getD i 0->ms.getD i 0=if 0<=sp rails i/\0<=ms.getD (sp rails i).toNat 0 then 1 else 0
 rank: ∃rk:Nat->Nat,∀i,i<rails.length->ms.getD i 0<0->rk i<m/\(0<=sp rails i->ms.getD (sp rails i).toNat 0<0/\rk (sp rails i).toNat<rk i)
theorem SQ (d:n<a) (e:0<=f.getD n 0) (i:v.getD n 0<0) (h: ∀j,j<a->j≠n->(0<=v.getD j 0↔0<=f.getD j 0)):ce v a+1=ce f a:=by
 have same: ∀a,a<=n->(∀j,j<a->(0<=v.getD j 0↔0<=f.getD j 0))->ce v a=ce f a:=by
  intro a
  induction a with
  |zero=>intros;rfl
  |succ a c=>
   grind [ce]
 induction a with
 |zero=>omega
 |succ a c=>
  grind [ce]
theorem ir.step (r:lR rails) (h:ir rails f a) (t:n<rails.length) (h0:f.getD n 0=0):
 ir rails (bj (f.set n (-1)) (bP (cP rails rails.length) true n) (bP (cP rails rails.length) true n).length) (a+1):=by
 have ms: ∀k,k<(cP rails rails.length).length->cX rails.length ((cP rails rails.length).getD k aC.d):=by
  intro j H;have B:(cP rails rails.length).getD j aC.d∈cP rails rails.length:=zg
  obtain⟨n,u,C,I,J⟩:=vj rails _ _ B;have:=r.lt u
  grind [cX]
 have m: ∀e,e<rails.length->(bj (f.set n (-1)) (bP (cP rails rails.length) true n) (bP (cP rails rails.length) true n).length).getD e 0=(if e=n then -1 else f.getD e 0)-if sp rails e=(n:Int) then 1 else 0:=by
  intro e i;rw[Bb _ _ e (by rw[qI,h.len];exact i) (λk D=>(BW ms true n k D).1) _ (qU _),Hy]
  congr 1
  ·by_cases E:e=n
   ·subst E;rw[if_pos rfl,dN _ _ _ _ (by rw[h.len];exact t)]
   grind
  grind
 generalize v:bj (f.set n (-1)) (bP (cP rails rails.length) true n) (bP (cP rails rails.length) true n).length=ms' at m;have y: ∀e,e<rails.length->sp rails e=(n:Int)->e≠n->f.getD e 0=1:=by
  intro e i l b;by_cases s:0<=f.getD e 0
  ·rw[h.open_ e i s,if_pos ⟨zo,zg⟩]
  ·obtain⟨rk,o⟩:=h.rank
   grind [qh]
 have w:sp rails n≠(n:Int):=by
  intro l;have:=h.open_ n t zo
  grind
 have F:ms'.getD n 0= -1:=zg
 have c: ∀e,e<rails.length->e≠n->(0<=ms'.getD e 0↔0<=f.getD e 0):=by
  grind
 have p:ms'.length=rails.length:=by rw[<-v,mM,qI,h.len]
 refine⟨p,?_,λe i s=>?_,?_⟩
 ·have:=SQ t zo zo c;have:=h.cnt;omega
 ·have b:e≠n:=zg
  have g:=(c e i b).1 s;have z:=h.open_ e i g;rw[m e i,if_neg b,z];by_cases l:sp rails e=(n:Int)
  ·grind
  ·rw[if_neg l];by_cases G:0<=sp rails e
   ·have q:=(r.lt i).2
    grind
   grind
 ·obtain⟨rk,o⟩:=h.rank;refine⟨λe=>if e=n then a else rk e,λe i s=>?_⟩;by_cases b:e=n
  ·subst b;simp only[if_true];refine⟨zo,λl=>?_⟩;have z:=h.open_ e i zo;have A:f.getD (sp rails e).toNat 0<0:=by
    grind
   have q:=(r.lt i).2
   grind
  ·have g:f.getD e 0<0:=zg
   have u:=o e i g;simp only[if_neg b];refine⟨zo,λl=>?_⟩;have C:=u.2 l;have q:=(r.lt i).2;have x:(sp rails e).toNat≠n:=zg
   have:=c (sp rails e).toNat zo x
   grind
theorem IA (a:lR rails): ∀(f:Nat) (ms ord:List Int),ir rails ms ord.length->ce ms rails.length<=f->
 ∃ms',ir rails ms' (hU (bP (cP rails rails.length) true) rails.length f ms ord).length/\bW 0 ms' rails.length= -1
 |0,ms,ord,h,e=>⟨ms,h,Hh zo⟩
 |f+1,ms,ord,h,e=>by
  simp only[hU];by_cases b:bW 0 ms rails.length= -1
  ·grind
  ·rw[if_neg b];obtain⟨i,g,c,d,_⟩:=qo b;rw[g,qh];have k:=h.step a c d;have j:=vi (nb:=bP (cP rails rails.length) true) h.len c d (bP (cP rails rails.length) true i) (bP (cP rails rails.length) true i).length;exact IA a f _ _ zg zo
theorem ir.start:ir rails (bt rails.length (cP rails rails.length)) 0:=by
 have c: ∀i,i<rails.length->(bt rails.length (cP rails rails.length)).getD i 0=if 0<=sp rails i then 1 else 0:=by
  grind [bt,Hz]
 have a: ∀k,k<=rails.length->ce (bt rails.length (cP rails rails.length)) k=k:=by
  intro k
  induction k with
  |zero=>intro;rfl
  |succ k d=>
   grind [ce]
 refine⟨by simp[bt],zg,λi b _=>?_,λ_=>0,λi b h=>?_⟩
 ·grind [bt]
 grind
theorem SR (g:lR rails):(bQ rails.length (cP rails rails.length)).length=rails.length↔ ∀j,j<rails.length->cx rails j rails.length<0:=by
 obtain⟨a,c,o⟩:=IA g (ce (bt rails.length (cP rails rails.length)) rails.length) (bt rails.length (cP rails rails.length)) [] ir.start (qU _);rw[uM] at o;change ir rails a (bQ rails.length (cP rails rails.length)).length at c;generalize (bQ rails.length (cP rails rails.length)).length=m at c;constructor
 ·intro s;subst s;have t:ce a rails.length=0:=by have:=c.cnt;omega
  have e: ∀i,i<rails.length->a.getD i 0<0:=by
   have key: ∀k,ce a k=0-> ∀i,i<k->a.getD i 0<0:=by
    intro k
    induction k with
    |zero=>grind
    |succ k f=>
     grind [ce]
   grind
  obtain⟨rk,l⟩:=c.rank;intro j x;have key: ∀k,(cx rails j k<0)\/(cx rails j k<rails.length/\rk (cx rails j k).toNat+k<=rk j):=by
   intro k
   induction k with
   |zero=>simp_all[cx]
   |succ k f=>
    rcases f with h|⟨y,z⟩
    ·grind [cx]
    ·by_cases p:0<=cx rails j k
     ·simp only[cx];rw[if_pos p];have b:(cx rails j k).toNat<rails.length:=zo
      have A:=(l _ b (e _ b)).2;have B:=(g.lt b).2
      grind [sp]
     grind [cx]
  grind
 ·intro q;have t:ce a rails.length=0:=by
   have key: ∀k,k<=rails.length->ce a k=0:=by
    intro k
    induction k with
    |zero=>intro;rfl
    |succ k f=>
     intro C;simp only[ce];rw[f zo];by_cases p:0<=a.getD k 0
     ·exfalso;have r: ∀d,0<=cx rails k d/\cx rails k d<rails.length/\0<=a.getD (cx rails k d).toNat 0:=by
       intro d
       induction d with
       |zero=>grind [cx]
       |succ d n=>
        obtain⟨u,D,v⟩:=n;have b:(cx rails k d).toNat<rails.length:=zo
        have E:=c.open_ _ b v;have w:=o _ b;by_cases F:0<=sp rails (cx rails k d).toNat/\0<=a.getD (sp rails (cx rails k d).toNat).toNat 0
        ·simp only[cx];rw[if_pos u];have:=(g.lt b).2
         grind [sp]
        grind
      grind
     grind
   grind
  have:=c.cnt;omega
theorem IB (rails:List ag):cS rails=ej rails:=by
 unfold cS ej;by_cases b:64<rails.length
 ·grind
 ·rw[if_neg b,if_neg b];by_cases a: ∀j,j<rails.length-> ¬bd rails.length (rails.getD j aE.d)
  ·rw[if_pos a,if_pos a];unfold aQ;rw[SO a zo,if_neg zm];have:=SR a
   grind
  grind
end
abbrev Sg:=List Bool×List Int
def St.sg (st:St):Sg:=(st.count.map λc=>decide (0<c),st.done)
def stp (σ:Sg) (o:gR):Sg:=(σ.1.set o.rail.toNat o.on,σ.2.set o.rail.toNat o.done)
def Bc (s:List ag) (σ:Sg) (o:gR):Prop:=
 ∃i:Nat,o.rail=i/\i<s.length/\σ.1.getD i false≠o.on/\σ.2.getD i 0<=o.start/\
  (0<=o.start/\o.done=o.start+(if o.on then (s.getD i aE.d).up else (s.getD i aE.d).down)/\o.done<=18446744073709551615)/\
  (o.on=true-> ∀p:Nat,sp s i=p->σ.1.getD p false=true/\σ.2.getD p 0<=o.start)/\
  (o.on=false-> ∀k,k<s.length->sp s k=i->σ.1.getD k false=false/\σ.2.getD k 0<=o.start)
def Tr (s:List ag):Sg->List gR->Sg->Prop
 |σ,[],τ=>σ=τ
 |σ,o::r,τ=>Bc s σ o/\Tr s (stp σ o) r τ
structure Good (s:List ag) (rk:Nat->Nat):Prop where
 len:s.length<=8
 fine: ∀i,i<s.length-> -1<=sp s i/\sp s i<s.length
 ramp: ∀i,i<s.length->(0<=(s.getD i aE.d).up/\(s.getD i aE.d).up<20)/\0<=(s.getD i aE.d).down/\(s.getD i aE.d).down<20
 acy:ju s rk
 rank: ∀i,i<s.length->rk i<s.length
def St.own (st:St) (j:Nat):Int:=st.c j-hR st j st.rails.length
structure Inv (s:List ag) (T:Int) (st:St):Prop where
 rails:st.rails=s
 wf:st.wf
 own: ∀j,j<s.length->0<=st.own j
 tm: ∀j,j<s.length->0<=st.t j/\st.t j<=T
 ord: ∀k,k<s.length->0<st.c k-> ∀p:Nat,sp s k=p->st.t p<=st.t k
theorem yQ (raw:List ag):(cH raw).length=min raw.length 8:=by
 simp only[cH];split
 ·simp
 ·rw[om]
theorem IC (h:0<=b):0<=b.tmod 20/\b.tmod 20<20:=⟨Int.tmod_nonneg _ h,Int.tmod_lt_of_pos _ zo⟩
theorem SS (h: ∀i,i<g.length->xy (g.getD i aE.d)): ∃rk,Good (cH g) rk:=by
 have o:=yQ g;have raw: ∀i,i<min g.length 8->(0<=((eG g (min g.length 8)).getD i aE.d).up/\((eG g (min g.length 8)).getD i aE.d).up<20)/\0<=((eG g (min g.length 8)).getD i aE.d).down/\((eG g (min g.length 8)).getD i aE.d).down<20:=λi b=>by
  rw[BZ g b];obtain⟨_,m,n⟩:=h i zo;exact⟨IC m.1,IC n.1⟩
 by_cases j:min g.length 8%2=1
 ·have c:cH g=(List.range (min g.length 8)).map λp=>cp (min g.length 8) ((eG g (min g.length 8)).getD (min g.length 8-1-p) aE.d):=by simp only[cH,if_pos j]
  have l: ∀i,i<min g.length 8->(cH g).getD i aE.d=cp (min g.length 8) ((eG g (min g.length 8)).getD (min g.length 8-1-i) aE.d):=λi b=>by
   rw[c];simp[List.getD,b]
  have a: ∀i,i<min g.length 8->sp (cH g) i= -1\/((i:Int)<sp (cH g) i/\sp (cH g) i<(min g.length 8:Nat)):=λi b=>by
   have q:=yP g (a:=min g.length 8) (n:=min g.length 8-1-i) zo;unfold sp;rw[l i b];unfold cp;split
   ·next hx=>right;simp only[];omega
   ·next hx=>left;omega
  refine⟨λi=>min g.length 8-1-i,⟨zo,λi b=>?_,λi b=>?_,λi b p e=>?_,λi b=>zo⟩⟩
  ·have:=a i zo;omega
  ·rw[l i zo];have:=raw (min g.length 8-1-i) zo;unfold cp;split<;>exact this
  ·have:=a i zo;have f:sp (cH g) i=p:=e;omega
 ·have c:cH g=eG g (min g.length 8):=by simp only[cH,if_neg j]
  have a: ∀i,i<min g.length 8-> -1<=sp (cH g) i/\sp (cH g) i<i:=λi b=>by
   unfold sp;rw[c];exact yP g b
  refine⟨λi=>i,⟨zo,λi b=>?_,λi b=>?_,λi b p e=>?_,λi b=>zo⟩⟩
  ·have:=a i zo;omega
  ·rw[c];exact raw i zo
  ·have:=a i zo;have f:sp (cH g) i=p:=e;omega
theorem IE {s:List ag} {rk:Nat->Nat} (G:Good s rk) {j:Nat} (a:j<s.length): ∀k,cx s j k<0\/ ∃i:Nat,cx s j k=i/\i<s.length/\rk i+k<=rk j
 |0=> .inr ⟨j,rfl,a,zo⟩
 |k+1=>by
  rcases IE G a k with h|⟨i,c,e,g⟩
  ·left;rw[cx,if_neg zo];exact h
  ·rw[cx,if_pos zo,c,qh];by_cases hs:0<=(s.getD i aE.d).supply
   ·obtain⟨p,b⟩:=qa hs;obtain⟨f,l⟩:=G.acy i e p b;exact .inr ⟨p,b,f,zo⟩
   ·left;omega
theorem SU {rk:Nat->Nat} (G:Good g rk):cS g=0:=by
 have b:=G.len;rw[IB,ej,if_neg zo,if_pos,if_pos]
 ·intro j a;rcases IE G a g.length with h|⟨i,c,d,e⟩
  ·exact h
  ·have:=G.rank j a;omega
 ·intro j a;have c:=G.fine j a;have d:=G.ramp j a;unfold sp at c;unfold bd;omega
structure IN (s:List ag) (m:Nat) (st:St):Prop where
 inv:Inv s (1152921504606846976+160* m) st
 up: ∀j,j<s.length->st.own j<=m
 clock:0<=st.clock/\st.clock<=1152921504606846976
structure Did (s:List ag) (m:Nat) (st:St) (rel:Bool) (x now:Int) (r:lQ):Prop where
 inn:IN s (m+1) r.st
 tr:Tr s st.sg r.ops r.st.sg
 bad:r.err≠0->r.st=st/\r.ops=[]
 good:r.err=0->r.st.clock=now/\ ∃i:Nat,x=i/\i<s.length/\ ∀j,j<s.length->r.st.own j=st.own j+if j=i then (if rel then -1 else 1) else 0
end Go.Rails
