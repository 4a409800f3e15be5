/-
  Joined.
-/
import Derived.Test.YtepmocimmmjinaaGreatDoorP01
set_option linter.unusedSimpArgs false
set_option linter.unusedVariables false
variable {u P:Nat} {C M:Int} {E:Type} {F:Option Go.Addr} {I:Go.World} {L:Go.Sv.aV} {N:List Go.Sv.aB} {T:Go.Value} {U:Bool} {V:Go.TypeId} {W:Go.Sv.aB} {Z:List Int}
namespace Go.Ios
open Go.Sv
structure MH where
 p:Nat
 base:Int
 len:Int
 own:Int
 A:Option Addr
 c:Nat
 bs:List Int
structure Sp where
 A:Option Addr
 c:Nat
 hs:List MH
structure dm where
 space:Int
 base:Int
 len:Int
 cnt:Int
structure cD where
 space:Int
 addr:Int
 width:Int
 wr:Bool
 val:Int
structure iW where
 a:cD
 own:Int
 live:Bool
 failed:Bool
def bo:bO (Option Nat) where
 f p:=[.pointer (p.map λb=>⟨b,0,none⟩)]
 sz:=1
 d:=none
 len _:=rfl
 pos:=zd
 one r v hv:=by simp at hv;subst hv;rfl
def aD (k:IntKind):bO Int where
 f n:=[.int k n]
 sz:=1
 d:=0
 len _:=rfl
 pos:=zd
 one r v hv:=by simp at hv;subst hv;rfl
def aL:bO dm where
 f r:=[.int .i64 r.space,.int .u64 r.base,.int .u64 r.len,.int .i64 r.cnt]
 sz:=4
 d:=⟨0,0,0,0⟩
 len _:=rfl
 pos:=zd
 one r v hv:=by simp at hv;rcases hv with rfl|rfl|rfl|rfl<;>rfl
def cq:bO iW where
 f r:=[.int .i64 r.a.space,.int .u64 r.a.addr,.int .i64 r.a.width,.bool r.a.wr,.int .u64 r.a.val,.int .i64 r.own,.bool r.live,.bool r.failed]
 sz:=8
 d:=⟨⟨0,0,0,false,0⟩,0,false,false⟩
 len _:=rfl
 pos:=zd
 one r v hv:=by simp at hv;rcases hv with rfl|rfl|rfl|rfl|rfl|rfl|rfl|rfl<;>rfl
def KM (M:List aB):aB where
 sat w I:=Sep M I w
 lt h x hx:=h.lt x hx
 keep h hk:=h.keep hk
def mC (h:MH):List Value:=[.int .u64 h.base,.int .u64 h.len,.int .i64 h.own,.slice h.A h.bs.length h.c]
def kV (h:MH):List aB:=[aU h.p (.cells (mC h).toArray 272 (0,0)),OS 5 (aD .u8) h.A h.c h.bs]
def eK (h:MH):aB:=KM (kV h)
def iX:MH:=⟨0,0,0,0,none,0,[]⟩
def Ce (s:Sp):List aB:=[OS 273 bo s.A s.c (s.hs.map λh=>some h.p),aF eK s.hs]
def fx (s:Sp):aB:=KM (Ce s)
def jE:Sp:=⟨none,0,[]⟩
structure BS where
 sps:List Sp
 total:Int
 en:List Bool
 fA:Option Addr
 fc:Nat
 fl:List dm
 tA:Option Addr
 tc:Nat
 tr:List iW
def aq (s:BS):List Value:=s.sps.map (λp=>Value.slice p.A p.hs.length p.c)++(Value.int .i64 s.total::(s.en.map Value.bool++[Value.slice s.fA s.fl.length s.fc,Value.slice s.tA s.tr.length s.tc]))
def aH (b:Nat) (s:BS):List aB:=[aU b (.cells (aq s).toArray 139 (0,0)),aF fx s.sps,OS 350 aL s.fA s.fc s.fl,OS 55 cq s.tA s.tc s.tr]
structure BS.wf (s:BS):Prop where
 sp:s.sps.length=3
 en:s.en.length=256
abbrev BS.sp (s:BS) (m:Nat):Sp:=s.sps.getD m jE
section
variable {s:BS} (h:s.wf)
include h
theorem mQ:(aq s).length=262:=by simp[aq,h.sp,h.en]
theorem lb (a:u<3):(aq s)[0+u* 1]?=some (.slice (s.sp u).A (s.sp u).hs.length (s.sp u).c):=by
 have b:u<s.sps.length:=by rw[h.sp];exact a
 grind [aq]
theorem wG:(aq s)[0+3]?=some (.int .i64 s.total):=by
 simp[aq,h.sp,List.getElem?_append]
theorem Vw (a:u<256):(aq s)[0+4+u* 1]?=some (.bool (s.en.getD u false)):=by
 have b:u<s.en.length:=by rw[h.en];exact a
 have c: ¬0+4+u* 1<3:=zo
 have d:0+4+u* 1-3=u+1:=zo
 rw[aq,List.getElem?_append,qE,h.sp,if_neg c,d,List.getElem?_cons_succ,List.getElem?_append,qE,if_pos b];grind
theorem uY:(aq s)[0+260]?=some (.slice s.fA s.fl.length s.fc):=by
 rw[aq,List.getElem?_append,qE,h.sp,if_neg zd];show(Value.int .i64 s.total::(s.en.map Value.bool++_))[257]?=_;rw[List.getElem?_cons_succ,List.getElem?_append,qE,h.en,if_neg zd];rfl
theorem yl:(aq s)[0+261]?=some (.slice s.tA s.tr.length s.tc):=by
 rw[aq,List.getElem?_append,qE,h.sp,if_neg zd];show(Value.int .i64 s.total::(s.en.map Value.bool++_))[258]?=_;rw[List.getElem?_cons_succ,List.getElem?_append,qE,h.en,if_neg zd];rfl
end
theorem KN {β:Type}: ∀(l:List β) (o:Nat) (v:β),o<l.length->l.take o++[v]++l.drop (o+[v].length)=l.set o v
 |[],_,_,h=>zg
 |a::l,0,v,_=>zm
 |a::l,o+1,v,h=>by
  have:=KN l o v zg
  grind
section
variable {s:BS} (h:s.wf)
include h
theorem nG {a:BS} (b:u<262) (e:(aq s).set u T=aq a):((aq s).toArray.toList.take u++[T]++(aq s).toArray.toList.drop (u+[T].length)).toArray=(aq a).toArray:=by
 grind [mQ]
theorem Cf (v:Int):(aq s).set (0+3) (.int .i64 v)=aq {s with total:=v}:=by
 simp[aq,List.set_append,h.sp]
theorem Vx (a:u<256) (v:Bool):(aq s).set (0+4+u* 1) (.bool v)=aq {s with en:=s.en.set u v}:=by
 have b:u<s.en.length:=by rw[h.en];exact a
 have c: ¬0+4+u* 1<3:=zo
 have d:0+4+u* 1-3=u+1:=zo
 rw[aq,List.set_append,qE,h.sp,if_neg c,d,List.set_cons_succ,List.set_append,qE,if_pos b];grind [aq,List.map_set]
theorem KO (A:Option Addr) (c:Nat) (l:List dm):(aq s).set (0+260) (.slice A l.length c)=aq {s with fA:=A,fc:=c,fl:=l}:=by
 rw[aq,List.set_append,qE,h.sp,if_neg zd];show _++(Value.int .i64 s.total::(s.en.map Value.bool++_)).set 257 _=_;rw[List.set_cons_succ,List.set_append,qE,h.en,if_neg zd];rfl
theorem KP (A:Option Addr) (c:Nat) (l:List iW):(aq s).set (0+261) (.slice A l.length c)=aq {s with tA:=A,tc:=c,tr:=l}:=by
 rw[aq,List.set_append,qE,h.sp,if_neg zd];show _++(Value.int .i64 s.total::(s.en.map Value.bool++_)).set 258 _=_;rw[List.set_cons_succ,List.set_append,qE,h.en,if_neg zd];rfl
theorem Cg (d:u<3) (q:Sp):(aq s).set (0+u* 1) (.slice q.A q.hs.length q.c)=aq {s with sps:=s.sps.set u q}:=by
 have a:0+u* 1<3:=zo
 have b:0+u* 1=u:=zo
 rw[aq,List.set_append,qE,h.sp,if_pos a,b];grind [aq,List.map_set]
end
def MR (w:World) (h:MH):Prop:=w.heap[h.p]?=some (.cells (mC h).toArray 272 (0,0))/\RS w (aD .u8) h.A h.bs
def gY (w:World) (q:Sp):Prop:=RS w bo q.A (q.hs.map λh=>some h.p)/\ ∀i,i<q.hs.length->MR w (q.hs.getD i iX)
def cV (w w':World):Prop:= ∀(x:Nat) (o:Obj),w.heap[x]?=some o->w'.heap[x]?=some o
theorem MR.keep {w w':World} {h:MH} (k:MR w h) (hs:cV w w'):MR w' h:=⟨hs _ _ k.1,k.2.keep λo a=>hs _ _ a⟩
theorem gY.keep {w w':World} {q:Sp} (k:gY w q) (hs:cV w w'):gY w' q:=⟨k.1.keep λo a=>hs _ _ a,λi b=>(k.2 i b).keep hs⟩
theorem pF {w':World} (h:Hp L I N w') (hI: ∀x,¬L x):cV I w':=λx o a=>h.ro a (hI x)
theorem Vy {h:MH} (k:(eK h).sat I L):MR I h:=by
 obtain⟨c,d,_,_,a,e,f,_,_,b,_⟩:=k;exact⟨a.2,OS.rs b⟩
theorem KQ {β:Type} {F:β->aB} {w:World} {G:β->Prop} (d: ∀i b,(F b).sat w i->G b): ∀(hs:List β) (i:aV),Sep (hs.map F) i w-> ∀b∈hs,G b
 |[],_,_,b,c=>by cases c
 |a::hs,i,⟨g,e,_,_,h,f⟩,b,c=>by
  rcases qe.1 c with rfl|c
  ·grind
  ·exact KQ d hs e f b c
theorem Vz {q:Sp} (k:(fx q).sat I L):gY I q:=by
 obtain⟨f,g,_,_,a,c,h,_,_,d,_⟩:=k;refine⟨OS.rs a,λn j=>KQ (G:=MR I) (λL b e=>Vy e) q.hs c d _ ?_⟩
 grind
theorem Hp.spr {w:World} (h:Sv.Hp L I N w) {sps:List Sp} (a:N[u]?=some (aF fx sps)) (c:P<sps.length):gY w (sps.getD P jE):=
 h.bigOS (G:=λq w=>gY w q) jE a c λi b d=>Vz d
theorem gY.ptr {q:Sp} (k:gY I q) (a:u<q.hs.length):I.cell? ⟨bk q.A,of q.A+u* 1,none⟩=some (.pointer (some ⟨(q.hs.getD u iX).p,0,none⟩)):=by
 have:=k.1.cell0 (p:=u) (O:= .pointer (some ⟨(q.hs.getD u iX).p,0,none⟩)) zg (by
  have:(q.hs.map λh=>some h.p).getD u bo.d=some (q.hs.getD u iX).p:=zg
  rw[this];rfl)
 exact this
theorem MR.cell {w:World} {h:MH} (k:MR w h) {o:Nat} {v:Value} (a:(mC h)[o]?=some v):w.cell? ⟨h.p,o,none⟩=some v:=by
 rw[dy k.1];grind
def ah (v:Int) (n:Nat):Int:=(IntKind.u64.wrap v)%n
theorem gI (v:Int) {n:Nat} (h:0<n):0<=ah v n/\ah v n<n:=⟨Int.emod_nonneg _ zo,Int.emod_lt_of_pos _ zo⟩
theorem Bx (v:Int):0<=IntKind.u64.wrap v:=by grind [IntKind.wrap_u64]
theorem vw (v:Int) (h:0<u):(IntKind.u64.wrap v).tmod u=ah v u:=by
 grind [ah,Bx]
theorem my (v:Int) (h:0<u):0<=(IntKind.u64.wrap v).tmod u/\(IntKind.u64.wrap v).tmod u<u:=by
 simp_all[vw,gI]
def aY (x:Int):Prop:=0<=x/\x<=18446744073709551615
def wH (b l:Int):Int:=IntKind.u64.wrap (b+IntKind.u64.wrap (l-1))
def bC (b l:Int):Prop:=1<=l/\l<=1048576/\b+(l-1)<=18446744073709551615
instance(b l:Int):Decidable (bC b l):=inferInstanceAs (Decidable (_/\_/\_))
theorem sQ (a:aY C) (h:bC C M):wH C M=C+(M-1):=by
 grind [aY,bC,wH,az]
theorem Ch (a:aY C) (c:1<=M) (d:M<=1048576):C<=wH C M↔bC C M:=by
 unfold aY at a;constructor
 ·intro h;refine⟨c,d,?_⟩
  grind [wH,IntKind.wrap_u64]
 ·intro h;rw[sQ a h];omega
def kW (b l b2 l2:Int):Prop:=b<=b2+(l2-1)/\b2<=b+(l-1)
instance(b l b2 l2:Int):Decidable (kW b l b2 l2):=inferInstanceAs (Decidable (_/\_))
def kX (p:Nat->Bool):Nat->Nat
 |0=>0
 |k+1=>if kX p k<k then kX p k else if p k then k else k+1
theorem ym {p:Nat->Bool}: ∀ {k:Nat},(∀j,j<k->p j=false)->kX p k=k
 |0,_=>rfl
 |k+1,h=>by rw[kX,ym λj a=>h j zo,if_neg (Nat.lt_irrefl _),h k zo];rfl
theorem yo {p:Nat->Bool} {i:Nat} (h: ∀j,j<i->p j=false) (a:p i=true): ∀ {k:Nat},i<k->kX p k=i
 |0,b=>zo
 |k+1,b=>by
  by_cases e:i=k
  ·grind [kX,ym]
  ·rw[kX,yo h a (show i<k by omega),if_pos zo]
theorem WA (p:Nat->Bool) (k:Nat):kX p k<=k/\(∀j,j<kX p k->p j=false)/\(kX p k<k->p (kX p k)=true):=by
 induction k with
 |zero=>grind [kX]
 |succ k a=>
  grind [kX]
abbrev MH.lst (h:MH):Int:=h.base+(h.len-1)
structure MH.ok (h:MH):Prop where
 b:aY h.base
 r:bC h.base h.len
 o1:0<=h.own
 o2:h.own<256
 d:(h.bs=[]/\h.A=none)\/(h.bs.length=h.len.toNat/\h.A≠none)
 y: ∀i,0<=h.bs.getD i 0/\h.bs.getD i 0<=255
abbrev mh (hs:List MH) (i:Nat):MH:=hs.getD i iX
structure iR (hs:List MH):Prop where
 each: ∀i,i<hs.length->(mh hs i).ok
 sort: ∀i j,i<j->j<hs.length->(mh hs i).lst<(mh hs j).base
def ab (hs:List MH) (x:Int):Nat:=kX (λi=>decide (x<=(mh hs i).lst)) hs.length
def mR (hs:List MH) (x:Int):Option Nat:=if ab hs x<hs.length/\(mh hs (ab hs x)).base<=x then some (ab hs x) else none
variable {H:List MH}
theorem iR.mono (h:iR H) (b:u<=P) (a:P<H.length):(mh H u).lst<=(mh H P).lst:=by
 by_cases e:u=P
 ·grind
 ·have c:=h.sort u P zo a;have d:=(h.each P a).r
  grind [bC]
theorem KR (d:u<=H.length) (a: ∀k,k<u-> ¬C<=(mh H k).lst) (b: ∀k,u<=k->k<H.length->C<=(mh H k).lst):ab H C=u:=by
 by_cases e:u=H.length
 ·grind [ab,ym]
 ·exact yo (λj c=>qQ (a j c)) (qR (b u (qU _) zo)) zo
theorem sR (hs:List MH) (x:Int):ab hs x<=hs.length/\(∀j,j<ab hs x-> ¬x<=(mh hs j).lst)/\(ab hs x<hs.length->x<=(mh hs (ab hs x)).lst):=by
 obtain⟨a,b,c⟩:=WA (λi=>decide (x<=(mh hs i).lst)) hs.length;exact⟨a,λj d=>of_decide_eq_false (b j d),λh=>of_decide_eq_true (c h)⟩
theorem WB (h:ab H C=H.length):mR H C=none:=if_neg λk=>zo
theorem WC (h:C<(mh H (ab H C)).base):mR H C=none:=if_neg λk=>zo
theorem WD (a: ¬ab H C=H.length) (b: ¬C<(mh H (ab H C)).base):mR H C=some (ab H C):=if_pos ⟨by grind [sR],zo⟩
theorem Ci (h:mR H C=some u):u<H.length/\(mh H u).base<=C/\C<=(mh H u).lst:=by
 grind [mR,sR]
theorem uZ (h:iR H) (a:u<H.length) (d:(mh H u).base<=C) (b:C<=(mh H u).lst):mR H C=some u:=by
 have e:ab H C=u:=yo (p:=λu=>decide (C<=(mh H u).lst)) (λj c=>qQ (λf=>by
  have g:(mh H j).lst<(mh H u).base:=h.sort j u c a;omega)) (qR b) a
 grind [mR]
theorem WE (h:iR H) (a:mR H C=none) (b:u<H.length): ¬((mh H u).base<=C/\C<=(mh H u).lst):=λk=>by
 rw[uZ h b k.1 k.2] at a;cases a
structure BS.ok (s:BS):Prop where
 wf:s.wf
 sp: ∀m,m<3->iR (s.sp m).hs
 tot:s.total=(((s.sp 0).hs.length+(s.sp 1).hs.length+(s.sp 2).hs.length:Nat):Int)
 max:s.total<=256
 fl:s.fl.length<=64
 fr: ∀i,i<s.fl.length->aY (s.fl.getD i aL.d).base/\bC (s.fl.getD i aL.d).base (s.fl.getD i aL.d).len/\1<=(s.fl.getD i aL.d).cnt/\(s.fl.getD i aL.d).cnt<=64
 tr:s.tr.length<=65536
theorem BS.ok.len {s:BS} (h:s.ok) (a:u<3):(s.sp u).hs.length<=256:=by
 have b:=h.tot;have c:=h.max
 grind
theorem MR.rng {h:MH} (k:MR I h): ∀j v,[Value.int .u64 h.base,Value.int .u64 h.len][j]?=some v->I.cell? ⟨h.p,0+j,none⟩=some v:=λj v a=>by
 rw[Nat.zero_add];refine k.cell ?_
 match j,a with
 |0,a=>exact a
 |1,a=>exact a
theorem half (i j:Nat):((i:Int)+(j:Int)).fdiv (2^min (1:Int).toNat IntKind.u64.bits)=(((i+j)/2:Nat):Int):=by
 have e:(2:Int)^min (1:Int).toNat IntKind.u64.bits=2:=zd
 grind
def ek (s:BS) (z x:Int):Option Nat:=if 0<=z/\z<3 then mR (s.sp z.toNat).hs x else none
def ep (s:BS) (z x:Int):Option Addr:=match ek s z x with
 |some i=>some ⟨(mh (s.sp z.toNat).hs i).p,0,none⟩
 |none=>none
def bi (s:BS) (z x:Int):Int:=match ek s z x with
 |some i=>(mh (s.sp z.toNat).hs i).own
 |none=> -1
variable {D:BS}
theorem KS (h: ¬(0<=C/\C<3)):ek D C M=none:=if_neg h
theorem sS (h:u<3):ek D u C=mR (D.sp u).hs C:=by
 grind [ek]
theorem wJ (h:ek D C M=none):ep D C M=none:=by rw[ep,h]
theorem sT (h:ek D u C=some P):ep D u C=some ⟨(mh (D.sp u).hs P).p,0,none⟩:=by grind [ep]
theorem wK (d:D.ok) (h: ¬ep D C M=none): ∃(m i:Nat),C=(m:Int)/\m<3/\ek D m M=some i/\i<(D.sp m).hs.length/\(mh (D.sp m).hs i).base<=M/\M<=(mh (D.sp m).hs i).lst:=by
 by_cases a:0<=C/\C<3
 ·obtain⟨m,rfl⟩:=qa a.1;have b:m<3:=zo
  cases c:ek D m M with
  |none=>grind [wJ]
  |some i=>
   have e:=Ci ((sS (D:=D) (C:=M) b).symm.trans c)
   grind
 grind [wJ,KS]
theorem wL (h:ep D C M=none):ek D C M=none:=by
 grind [ep]
def mT:BS:=⟨List.replicate 3 jE,0,List.replicate 256 false,none,0,[],none,0,[]⟩
theorem Ck:mT.ok where
 wf:=⟨rfl,by show(List.replicate 256 false).length=256;grind⟩
 sp m hm:=by
  have:(mT.sp m)=jE:=by
   obtain rfl|rfl|rfl:m=0\/m=1\/m=2:=zo
   ·rfl
   ·rfl
   ·rfl
  rw[this];exact⟨λi hi=>by grind [jE],λi j h1 h2=>by grind [jE]⟩
 tot:=rfl
 max:=by show(0:Int)<=256;omega
 fl:=by show 0<=64;omega
 fr i hi:=absurd hi (Nat.not_lt_zero _)
 tr:=by show 0<=65536;omega
theorem WF (w:World):(fx jE).sat w (λ_=>False):=
 ⟨λ_=>False,λ_=>False,λx=>zm,λ_ h=>h.elim,OS.emp w,λ_=>False,λ_=>False,λx=>zm,λ_ h=>h.elim,λ_ h=>h,λ_ h=>h⟩
theorem BS.ok.en {s:BS} (h:s.ok) (m:Nat) (v:Bool):BS.ok {s with en:=s.en.set m v}:=
 ⟨⟨h.wf.sp,by simpa using h.wf.en⟩,h.sp,h.tot,h.max,h.fl,h.fr,h.tr⟩
theorem BS.ok.noTr (h:D.ok):BS.ok {D with tA:=none,tc:=0,tr:=[]}:=
 ⟨⟨h.wf.sp,h.wf.en⟩,h.sp,h.tot,h.max,h.fl,h.fr,by show 0<=65536;omega⟩
theorem KT {l l2:List E} (d:E) (h:u<l.length):(l++l2).getD u d=l.getD u d:=zg
theorem KU {l:List E} {y:E} (d:E):(l++[y]).getD l.length d=y:=zg
def kY (s:BS) (f:dm) (A:Option Addr) (c:Nat):BS:={s with fA:=A,fc:=c,fl:=s.fl++[f]}
theorem BS.ok.flt (h:D.ok) {f:dm} (b:aY f.base) (g:bC f.base f.len) (j:1<=f.cnt) (k:f.cnt<=64) (n:D.fl.length<64) (A:Option Addr) (c:Nat):(kY D f A c).ok:=
 ⟨⟨h.wf.sp,h.wf.en⟩,h.sp,h.tot,h.max,by show(D.fl++[f]).length<=64;rw[qD];simp;omega,λi l=>by
  have m:i<D.fl.length+1:=by simpa[kY] using l
  show aY ((D.fl++[f]).getD i aL.d).base/\_;by_cases e:i<D.fl.length
  ·have a:(kY D f A c).fl.getD i aL.d=D.fl.getD i aL.d:=KT _ e;rw[a,KT _ e];exact h.fr i e
  ·obtain rfl:i=D.fl.length:=zo
   have a:(kY D f A c).fl.getD D.fl.length aL.d=f:=KU _;rw[a,KU];exact⟨b,g,j,k⟩,h.tr⟩
section
variable {I0:aV} {w0 w:World} {B0:aB} {R:List aB} {sps:List Sp} {m:Nat}
theorem KW (a b x e:E) (R:List E):(a::b::x::(R++[e])).Perm (x::a::b::e::R):=
 ((((qi e R).cons x).cons b).cons a).trans (((List.Perm.swap x b (e::R)).cons a).trans (List.Perm.swap x a (b::e::R)))
theorem yp (h:Hp I0 w0 (B0::aF fx sps::R) w) (a:m<sps.length):
 Hp I0 w0 (B0::OS 273 bo (sps.getD m jE).A (sps.getD m jE).c ((sps.getD m jE).hs.map λh=>some h.p)::aF eK (sps.getD m jE).hs::aF fx (sps.eraseIdx m)::R) w:=by
 have b:=h.focus jE (k:=1) z6 a;have d:=b.splice (k:=1) (A:=fx (sps.getD m jE)) (M:=Ce (sps.getD m jE)) z6 λi e=>e;exact d.perm (KW _ _ _ _ _)
theorem Cl {q:Sp} (h:Hp I0 w0 (B0::OS 273 bo q.A q.c (q.hs.map λh=>some h.p)::aF eK q.hs::aF fx (sps.eraseIdx m)::R) w) (a:m<sps.length):
 Hp I0 w0 (B0::aF fx (sps.set m q)::R) w:=by
 have b:=h.perm (KW _ _ _ _ _).symm;have d:Hp I0 w0 (fx q::(B0::(R++[aF fx (sps.eraseIdx m)]))) w:=Hp.bundle (M:=Ce q) (R:=B0::(R++[aF fx (sps.eraseIdx m)])) b λi e=>e;have f:Hp I0 w0 ((B0::fx q::R)++[aF fx (sps.eraseIdx m)]) w:=d.perm (List.Perm.swap _ _ _);exact f.unfocus (k:=1) z6 a
theorem WG {h:MH} {hs a:List MH} (c:(h::hs).Perm a) (k:Sep (kV h++[aF eK hs]) L w):(aF eK a).sat w L:=by
 obtain⟨d,f,hI,g,j,q,r,l,m,n,o⟩:=Sep.append.1 k;have b:Sep (eK h::hs.map eK) L w:=⟨d,f,hI,g,j,n.ext λx=>by rw[l x];exact⟨.inl,λe=>e.elim id λp=>absurd p (o x)⟩⟩
 exact Sep.perm (c.map eK) b
theorem Cn {h:MH} {hs a:List MH} {c:aB} (k:Hp I0 w0 (B0::W::aF eK hs::c::(R++kV h)) w) (d:(h::hs).Perm a):Hp I0 w0 (B0::W::aF eK a::c::R) w:=by
 have e:(B0::W::aF eK hs::c::(R++kV h)).Perm ((kV h++[aF eK hs])++(B0::W::c::R)):=by
  have f:(B0::W::aF eK hs::c::(R++kV h)).Perm (aF eK hs::(B0::W::c::R)++kV h):=
   (((List.Perm.swap (aF eK hs) W _).cons B0).trans (List.Perm.swap (aF eK hs) B0 _))
  have g:(aF eK hs::(B0::W::c::R)++kV h).Perm (kV h++(aF eK hs::(B0::W::c::R))):=qf;refine(f.trans g).trans ?_;simp_all
 have j:=(k.perm e).bundle (A:=aF eK a) λi l=>WG d l;exact j.perm (((List.Perm.swap B0 (aF eK a) _).trans ((List.Perm.swap W (aF eK a) _).cons B0)))
end
set_option maxRecDepth 10000 in
theorem KX (n:Nat): ∀(r c:Nat),Builtin.growBy n r c+768<=2^r* (c+768)
 |0,c=>by grind [Builtin.growBy]
 |r+1,c=>by
  rw[Builtin.growBy];split
  ·simp_all[Nat.le_mul_of_pos_left,Nat.two_pow_pos]
  ·have h:=KX n r (c+(c+768)/4);have a:2^r* (c+(c+768)/4+768)<=2^r* (2* (c+768)):=Nat.mul_le_mul_left _ zo
   grind
theorem WH (h:P<u) (a:u<=1000000):Builtin.nextslicecap u P<=20000000:=by
 unfold Builtin.nextslicecap;split
 ·omega
 ·split
  ·omega
  ·have:=KX u 4 P
   grind
theorem WI {ze:Program} {w:World} {K:bO E} {B:Option Addr} {ys zs:List E} {t tR:TypeId} {by_:Nat} {f:FuncId} {fn:Func} (h:Hp L I N w) (k1 k2:Nat)
 (hk1:N[k1]?=some (OS V K B P zs)) (hk2:(N.eraseIdx k1)[k2]?=some (OS V K F u ys)) (hf:ze.funcs[f]?=some fn) (hname:(fn.name== "runtime.NumGoroutine")=false) (hb:fn.body.isNone=true) (hn:Extern.findNext fn=none)
 (he:Extern.find fn=some (Extern.SlicesOverlaps.overlaps #[t,t] #[tR])) (hu:ze.underlying t=some (.slice V)) (hi:TI ze V T K.sz by_) (hc:0<u) (hz:zs≠[]) (l n1 n2 c3:Nat):
 (callFunc f #[.slice B n1 P,.slice (dY F l K.sz u) n2 c3]).run ze w= .ok (.value (.bool false)) w:=by
 rw[run_callFunc_extern hf hname hb hn he];have key:(Extern.SlicesOverlaps.overlaps #[t,t] #[tR] #[.slice B n1 P,.slice (dY F l K.sz u) n2 c3]).run ze w= .ok (.bool false) w:=by
  obtain⟨i,j,hB,hL,hd,_⟩:=h.at hk1;obtain⟨i2,j2,hJ,_,hA,_⟩:=hL.perm (nv hk2);rcases hB with ⟨_,h0,_⟩|⟨gb,cur,rfl,hI,hbb,_,_,hsz,_⟩
  ·grind
  ·rcases hA with ⟨rfl,_,rfl,_⟩|⟨ga,cur2,rfl,hI2,hba,_,_,hsz2,_⟩
   ·omega
   ·have hne:gb≠ga:=λV=>hd gb ((hI gb).2 z6) ((hJ gb).2 (.inl ((hI2 gb).2 V)));have hsh: ∃off,dY (some ⟨ga,0,none⟩) l K.sz u=some ⟨ga,off,none⟩:=by
     grind [dY,Addr.add]
    obtain⟨off,hoff⟩:=hsh;rw[hoff];exact Lib.run_overlaps_apart w t tR V hu K.sz (λw=>hi.sizeOf w) ⟨gb,0,none⟩ ⟨ga,off,none⟩ n1 P n2 c3 hne V V cur.size cur2.size (by grind [World.shape?]) (by grind [World.shape?])
     (by rw[hsz2];have:=Nat.mul_pos hc K.pos;omega) (by grind [World.frozen?]) (by grind [World.frozen?])
 simp_all
def bf {β:Type} (l:List β) (i:Nat) (y:β):List β:=l.take i++[y]++l.drop i
theorem yr {l:List E} (y:E) (h:u<=l.length):(bf l u y).length=l.length+1:=by
 grind [bf]
theorem KY (l:List E) (i:Nat) (y:E):(y::l).Perm (bf l i y):=by
 have h:(bf l i y).Perm (y::(l.take i++l.drop i)):=by
  grind [bf,List.perm_middle]
 rw[List.take_append_drop] at h;exact h.symm
theorem WJ {γ:Type} (f:E->γ) (l:List E) (i:Nat) (y:E):(bf l i y).map f=bf (l.map f) i (f y):=by
 grind [bf,List.map_take,List.map_drop]
theorem WK {l:List E} (y d:E) (h:u<=l.length) (k:Nat):(bf l u y).getD k d=if k<u then l.getD k d else if k=u then y else l.getD (k-1) d:=by
 grind [bf]
theorem Cp {l:List E} (p z:E) (h:u<l.length):(l.take u++List.replicate (l.length+1-u) z).take u++[p].take (min 1 (u+(l.length+1-u)-u))++(l.take u++List.replicate (l.length+1-u) z).drop (u+min 1 (u+(l.length+1-u)-u))=l.take u++[p]++List.replicate (l.length-u) z:=by
 have a:(l.take u).length=u:=zg
 have e:min 1 (u+(l.length+1-u)-u)=1:=zo
 rw[e,List.take_append_of_le_length zo,List.take_of_length_le (l:=l.take u) zo,List.drop_append,a,List.drop_of_length_le (l:=l.take u) zo,Nat.add_sub_cancel_left,List.drop_replicate]
 grind
theorem Cq {l:List E} (p z:E) (h:u<l.length):(l.take u++[p]++List.replicate (l.length-u) z).take (u+1)++(l.drop u).take (min (l.length-u) (u+(l.length+1-u)-(u+1)))++(l.take u++[p]++List.replicate (l.length-u) z).drop (u+1+min (l.length-u) (u+(l.length+1-u)-(u+1)))=bf l u p:=by
 have a:(l.take u++[p]).length=u+1:=zg
 have e:min (l.length-u) (u+(l.length+1-u)-(u+1))=l.length-u:=zo
 have d:(l.take u++[p]++List.replicate (l.length-u) z).drop (u+1+(l.length-u))=[]:=List.drop_of_length_le zg;rw[e,List.take_append_of_le_length zo,List.take_of_length_le (l:=l.take u++[p]) zo,List.take_of_length_le (l:=l.drop u) zg,d,qK];rfl
theorem Cr {l:List E} (h:u<l.length):l.take (u+1)++(l.drop u).take (min (l.length+1-u) (l.length+1-(u+1)))++l.drop (u+1+min (l.length+1-u) (l.length+1-(u+1)))=l.take (u+1)++l.drop u:=by
 grind [List.drop_of_length_le]
theorem Cs {l:List E} (p:E) (h:u<l.length):(l.take (u+1)++l.drop u).take u++[p].take (min 1 (l.length+1-u))++(l.take (u+1)++l.drop u).drop (u+min 1 (l.length+1-u))=bf l u p:=by
 have a:(l.take (u+1)).length=u+1:=zg
 have e:min 1 (l.length+1-u)=1:=zo
 rw[e,List.take_append_of_le_length zo,List.take_take,Nat.min_eq_left zo,List.drop_append,a,List.drop_of_length_le (l:=l.take (u+1)) zo,Nat.sub_self];rfl
theorem Cu {l:List E} (p:E) (h:u=l.length):l++[p]=bf l u p:=by
 grind [bf]
def kZ (s:BS) (m:Nat) (h:MH) (A:Option Addr) (c:Nat):BS:=
 {s with sps:=s.sps.set m ⟨A,c,bf (s.sp m).hs (ab (s.sp m).hs h.base) h⟩,total:=s.total+1}
def busy (hs:List MH) (b l:Int):Prop:=ab hs b<hs.length/\kW (mh hs (ab hs b)).base (mh hs (ab hs b)).len b l
instance(hs:List MH) (b l:Int):Decidable (busy hs b l):=inferInstanceAs (Decidable (_/\_))
theorem KZ {w:World} {j a:Nat} {o:Int} {d f:aB} (k:D.sps.length=3) (l:u<3)
 (h:Hp L I [W,OS 273 bo F j (bf ((D.sp u).hs.map λh=>some h.p) P (some a)),aF eK (D.sp u).hs,aF fx (D.sps.eraseIdx u),d,f,aU a (.cells #[.int .u64 C,.int .u64 M,.int .i64 o,.slice none 0 0] 272 (0,0))] w):
 Hp L I [W,aF fx (D.sps.set u ⟨F,j,bf (D.sp u).hs P ⟨a,C,M,o,none,0,[]⟩⟩),d,f] w:=by
 have n:=Cn (R:=[d,f]) (h:=⟨a,C,M,o,none,0,[]⟩) (h.nilOS (J:=5) (K:=aD .u8)) (KY (D.sp u).hs P ⟨a,C,M,o,none,0,[]⟩)
 grind [Cl,WJ]
def cf (l:List Int) (k:Nat):Int:=l.getD k 0
def pw (j:Nat):Int:=((2^(8* j):Nat):Int)
def gL (l:List Int) (k:Nat):Nat->Int
 |0=>0
 |j+1=>gL l k j+cf l (k+j)* pw j
def okB (l:List Int):Prop:= ∀i,0<=l.getD i 0/\l.getD i 0<=255
theorem Cx (j:Nat):0<pw j:=by unfold pw;have:=Nat.two_pow_pos (8* j);omega
theorem wM (j:Nat):pw (j+1)=256* pw j:=by
 grind [pw]
theorem yt (h:u<=8):pw u<=18446744073709551616:=by
 have:2^(8* u)<=2^64:=Nat.pow_le_pow_right zo zo
 grind [pw]
theorem Cy {l:List Int} (h:okB l) (k:Nat): ∀j,0<=gL l k j/\gL l k j<pw j
 |0=>by simp[gL,pw]
 |j+1=>by
  have b:=Cy h k j;have a:=h (k+j);have c:=Cx j;have d:cf l (k+j)* pw j<=255* pw j:=Int.mul_le_mul_of_nonneg_right a.2 zo;have e:0<=cf l (k+j)* pw j:=Int.mul_nonneg a.1 zo
  grind [gL,wM]
theorem WL (k j:Nat):gL [] k j=0:=by
 induction j with
 |zero=>rfl
 |succ j a=>grind [gL,cf]
theorem Ka (h0:0<=C) (a:C<=255) (d:u<8):0<=C* pw u/\C* pw u<=18446744073709551615:=by
 have e:=Cx u;have f:C* pw u<=255* pw u:=Int.mul_le_mul_of_nonneg_right a zo;have c:=yt (u:=u+1) zo;rw[wM] at c;exact⟨Int.mul_nonneg h0 zo,zo⟩
theorem Kg (a:u<8):(2:Int)^min (8* (u:Int)).toNat IntKind.u64.bits=pw u:=by
 have e:min (8* (u:Int)).toNat IntKind.u64.bits=8* u:=by
  have:IntKind.u64.bits=64:=rfl;omega
 grind [pw]
theorem Cz (h0:0<=C) (a:C<=255) (c:u<8):IntKind.u64.wrap (C* 2^min (8* (u:Int)).toNat IntKind.u64.bits)=C* pw u:=by
 grind [Kg,Ka,az]
theorem WM (c:0<=C) (e:C<pw u) (h0:0<=M) (f:M<=255) (g:u<8):IntKind.u64.wrap ((BitVec.ofInt IntKind.u64.bits C|||BitVec.ofInt IntKind.u64.bits (M* pw u)).toNat)=C+M* pw u:=by
 have d:=Ka h0 f g;have h:=yt (u:=u) zo;show IntKind.u64.wrap ((BitVec.ofInt 64 C|||BitVec.ofInt 64 (M* pw u)).toNat)=C+M* pw u;rw[Gh c zo d.1 d.2];obtain⟨x,rfl⟩:=qa c;obtain⟨y,rfl⟩:=qa h0;have i:x<2^(8* u):=by grind [pw]
 have k:((y:Int)* pw u).toNat=2^(8* u)* y:=by
  grind [pw]
 grind [Nat.two_pow_add_eq_or_of_lt]
def jx (v:Int) (j:Nat):Int:=(v/pw j)%256
theorem Ki (v:Int) (j:Nat):0<=jx v j/\jx v j<=255:=by
 grind [jx]
theorem Kj (a:u<8) (b:0<=C):IntKind.u8.wrap (C.fdiv (2^min (8* (u:Int)).toNat IntKind.u64.bits))=jx C u:=by
 rw[Kg a,Int.fdiv_eq_ediv_of_nonneg _ (by have:=Cx u;omega),IntKind.wrap_u8];rfl
def gu (l:List Int) (k:Nat) (v:Int):Nat->List Int
 |0=>l
 |j+1=>(gu l k v j).set (k+j) (jx v j)
theorem wO (l:List Int) (k:Nat) (v:Int) (j:Nat):(gu l k v j).length=l.length:=by
 induction j with
 |zero=>rfl
 |succ j a=>grind [gu]
def dF (h:MH):List Int:=if h.bs=[] then List.replicate h.len.toNat 0 else h.bs
theorem Kk {h:MH} (k:Nat):cf (dF h) k=cf h.bs k:=by
 grind [dF,cf]
theorem DA {h:MH} (a:h.ok):(dF h).length=h.len.toNat:=by
 unfold dF;split
 ·simp
 ·rename_i e;rcases a.d with ⟨b,_⟩|⟨b,_⟩
  ·grind
  grind
theorem DB {l:List Int} {k:Nat} (v:Int): ∀ {j:Nat},k+j<=l.length-> ∀i,cf (gu l k v j) i=if k<=i/\i<k+j then jx v (i-k) else cf l i
 |0,_,i=>by grind [gu]
 |j+1,h,i=>by
  have a:=DB (l:=l) (k:=k) v (j:=j) zo i
  grind [gu,cf,wO]
theorem WN {w:World} {K:bO E} {ys:List E} (h:Hp L I N w) (k:Nat) (a:N[k]?=some (OS V K F u ys)) (b:0<ys.length):F≠none:=by
 obtain⟨i,j,d,_⟩:=h.at a;rcases d with ⟨_,l,_⟩|⟨g,f,rfl,_⟩
 ·grind
 ·simp
end Go.Ios
namespace Go.Sv
theorem KV.toRet {P:Program} {N:NN} {fn:Func} {R:Ending->World->Prop} {E:Env} {S:World->Prop} (h:KV N (bodyPost P fn R .ret) E S):KV N (bodyPost P fn R .normal) E S:=λa w b c=>h a w b c
theorem T2 {c:Program} {ze:NN} {Q:Exit->Act->World->Prop} {by_:Env} {ops:Array Oper} {pos:String} {af:Array Edge} {g:Option (Nat×Bool)} {x:Operand} {KK:Act->World->Prop} {K:bO E} {ys:List E} {e t:TypeId}
 (k l:Nat) {n d:Nat} (f:c.underlying t=some (.slice e)) (h:TI c e T K.sz P) (b:T.cells.size=K.sz) (i: ∀v∈T.cells.toList,v.oneCell'=true) (j:N[k]?=some (OS e K F u ys))
 (m:ev by_ x=some (.slice (dY F l K.sz u) n d)) (o:ys.length<=l) (p:l+n<=u) (q:dJ ze ops ⟨none,.call ⟨.builtin .clear,#[x],#[t]⟩,V,pos,af,g⟩ by_) (r:KV ze KK by_ (Hp L I N)):
 OV c ze ops Q ⟨none,.call ⟨.builtin .clear,#[x],#[t]⟩,V,pos,af,g⟩ by_ (Hp L I N) KK:=
 U2 k l f h b i j m o p q λa w s A=>r a w (s.put_none (.tuple #[])) A
end Go.Sv
namespace Go.Ios
open Go.Sv
def bM {β:Type} (l:List β) (i:Nat):List β:=l.take i++l.drop (i+1)
theorem sU {l:List E} (h:u<l.length):(bM l u).length=l.length-1:=by
 simp only[bM,qD,qF,qG];omega
def et (w:Int):Prop:=w=1\/w=2\/w=4\/w=8
instance(w:Int):Decidable (et w):=inferInstanceAs (Decidable (_\/_\/_\/_))
def bZ (a:cD):Prop:=et a.width/\(0<=a.space/\a.space<3)/\a.addr.tmod a.width=0
instance(a:cD):Decidable (bZ a):=inferInstanceAs (Decidable (_/\(_/\_)/\_))
variable {G:cD}
theorem Kl (h:bZ G) (b:aY G.addr):bC G.addr G.width:=by
 obtain⟨c,_,d⟩:=h;unfold aY at b;unfold bC;rcases c with e|e|e|e<;>rw[e] at d ⊢
 ·omega
 ·have:G.addr.tmod 2=G.addr%2:=qW b.1;omega
 ·have:G.addr.tmod 4=G.addr%4:=qW b.1;omega
 ·have:G.addr.tmod 8=G.addr%8:=qW b.1;omega
def jF (f:dm) (a:cD):Prop:=f.space=a.space/\kW f.base f.len a.addr a.width
instance(f:dm) (a:cD):Decidable (jF f a):=inferInstanceAs (Decidable (_/\_))
def eC (l:List dm) (a:cD):Nat:=kX (λi=>decide (jF (l.getD i aL.d) a)) l.length
def dS (l:List dm) (a:cD):List dm:=
 if eC l a<l.length then
  if (l.getD (eC l a) aL.d).cnt=1 then bM l (eC l a)
  else l.set (eC l a) {l.getD (eC l a) aL.d with cnt:=(l.getD (eC l a) aL.d).cnt-1}
 else l
variable {K:List dm}
theorem WO (h: ∀j,j<u-> ¬jF (K.getD j aL.d) G) (b:u<K.length) (c:jF (K.getD u aL.d) G):eC K G=u:=
 yo (p:=λu=>decide (jF (K.getD u aL.d) G)) (λj e=>qQ (h j e)) (qR c) b
theorem WP (h: ∀j,j<K.length-> ¬jF (K.getD j aL.d) G):eC K G=K.length:=
 ym (p:=λi=>decide (jF (K.getD i aL.d) G)) λj b=>qQ (h j b)
theorem WQ (h:eC K G=u) (b:u<K.length) (c:(K.getD u aL.d).cnt=1):dS K G=bM K u:=by rw[dS,h,if_pos b,if_pos c]
theorem WR (h:eC K G=u) (b:u<K.length) (c: ¬(K.getD u aL.d).cnt=1):dS K G=K.set u {K.getD u aL.d with cnt:=(K.getD u aL.d).cnt-1}:=by rw[dS,h,if_pos b,if_neg c]
theorem WS (h:eC K G=K.length):dS K G=K:=by rw[dS,h,if_neg (Nat.lt_irrefl _)]
def hX (w:Int):Int:=if w=1 then 255 else if w=2 then 65535 else if w=4 then 4294967295 else 18446744073709551615
theorem Ko (h:et C):(18446744073709551615:Int).fdiv (2^min (64-8* C).toNat IntKind.u64.bits)=hX C:=by
 rcases h with rfl|rfl|rfl|rfl<;>decide
theorem WT (h:et C):0<=hX C/\hX C<=18446744073709551615:=by
 rcases h with rfl|rfl|rfl|rfl<;>decide
theorem WU {S:World->Prop} {b c d:Value} (h: ∀w,S w-> ∀j v,[T,b,c,d][j]?=some v->w.cell? ⟨u,0+j,none⟩=some v): ∀w,S w-> ∀j v,[b,c][j]?=some v->w.cell? ⟨u,0+1+j,none⟩=some v:=λw g j v f=>by
 have e:0+1+j=0+(j+1):=zo
 rw[e];refine h w g (j+1) v ?_
 match j,f with
 |0,f=>exact f
 |1,f=>exact f
def fW (s:BS) (a:cD):Bool:=match ek s a.space a.addr with
 |some i=>s.en.getD (mh (s.sp a.space.toNat).hs i).own.toNat false&&decide (a.addr+a.width-1<=(mh (s.sp a.space.toNat).hs i).lst)
 |none=>false
def hM (s:BS) (a:cD):Bool:=fW s a&&decide (eC s.fl a<s.fl.length)
def bu (s:BS) (a:cD):BS:=if fW s a=true then {s with fl:=dS s.fl a} else s
def eD (s:BS) (m i:Nat) (h:MH):BS:={s with sps:=s.sps.set m {s.sp m with hs:=(s.sp m).hs.set i h}}
def fi (s:BS) (a:cD):Nat:=(ek s a.space a.addr).getD 0
def fh (s:BS) (a:cD):MH:=mh (s.sp a.space.toNat).hs (fi s a)
def wQ (h:MH) (a:cD) (A:Option Addr) (c:Nat):MH:={h with A:=A,c:=c,bs:=gu (dF h) (a.addr-h.base).toNat a.val a.width.toNat}
def ka (s:BS) (a:cD):Prop:=a.wr=true/\fW s a=true/\hM s a=false
instance(s:BS) (a:cD):Decidable (ka s a):=inferInstanceAs (Decidable (_/\_/\_))
def eP (s:BS) (a:cD) (A:Option Addr) (c:Nat):BS:=if ka s a then eD (bu s a) a.space.toNat (fi s a) (wQ (fh s a) a A c) else bu s a
def nH (s:BS) (a:cD):Int:=if a.wr=true then ((a.val.toNat&&&(hX a.width).toNat:Nat):Int) else if fW s a=true then (if hM s a=true then 0 else gL (fh s a).bs (a.addr-(fh s a).base).toNat a.width.toNat) else hX a.width
def rec (s:BS) (a:cD):iW:=⟨{a with val:=nH s a},bi s a.space a.addr,fW s a,hM s a⟩
def fy (s:BS) (a:cD) (A:Option Addr) (c:Nat) (tA:Option Addr) (tc:Nat):BS:={eP s a A c with tA:=tA,tc:=tc,tr:=s.tr++[rec s a]}
def nI (s:BS) (a:cD):Int:=if hM s a=true then 0 else if a.wr=true then 0 else nH s a
def nJ (s:BS) (a:cD):Int:=if hM s a=true then 15 else 0
variable {D:BS}
theorem Ku (h:ek D G.space G.addr=none):fW D G=false:=by rw[fW,h]
theorem DC (h:ek D G.space G.addr=some u):fi D G=u:=by rw[fi,h];rfl
theorem yu (b:G.space=u) (h:ek D u G.addr=some P):fW D G=(D.en.getD (mh (D.sp u).hs P).own.toNat false&&decide (G.addr+G.width-1<=(mh (D.sp u).hs P).lst)):=by
 rw[fW,b,h];rfl
theorem DD (f:D.ok) (h:fW D G=true): ∃(m i:Nat),G.space=(m:Int)/\m<3/\ek D m G.addr=some i/\i<(D.sp m).hs.length/\(mh (D.sp m).hs i).base<=G.addr/\G.addr+G.width-1<=(mh (D.sp m).hs i).lst/\D.en.getD (mh (D.sp m).hs i).own.toNat false=true/\fh D G=mh (D.sp m).hs i/\fi D G=i:=by
 by_cases c:ep D G.space G.addr=none
 ·rw[Ku (wL c)] at h;cases h
 ·obtain⟨m,i,e,g,b,j,k,l⟩:=wK f c;rw[yu e b,qg,qj] at h;have d:fi D G=i:=DC (by rw[e];exact b);exact⟨m,i,e,g,b,j,k,h.2,h.1,by rw[fh,d,e];rfl,d⟩
theorem qy (h:fW D G=true):bu D G={D with fl:=dS D.fl G}:=if_pos h
theorem WV (h:fW D G=false):bu D G=D:=if_neg (by rw[h];decide)
theorem yv (s:BS) (a:cD):(bu s a).sps=s.sps:=by unfold bu;split<;>rfl
theorem DE (s:BS) (a:cD):(bu s a).en=s.en:=by unfold bu;split<;>rfl
theorem Kw (s:BS) (a:cD):(bu s a).tr=s.tr/\(bu s a).tA=s.tA/\(bu s a).tc=s.tc:=by unfold bu;split<;>exact⟨rfl,rfl,rfl⟩
theorem DF (h:D.wf):(bu D G).wf:=⟨by rw[yv];exact h.sp,by rw[DE];exact h.en⟩
theorem WW (h:D.wf):(eP D G F u).wf:=by
 unfold eP;split
 ·exact⟨by show((bu D G).sps.set _ _).length=3;rw[qI];exact(DF h).sp,(DF h).en⟩
 ·exact DF h
theorem WX (s:BS) (a:cD) (A:Option Addr) (c:Nat):(eP s a A c).tr=s.tr/\(eP s a A c).tA=s.tA/\(eP s a A c).tc=s.tc:=by
 unfold eP;split
 ·exact Kw s a
 ·exact Kw s a
theorem LA (h0:aY C) (a:et M):IntKind.u64.wrap ((BitVec.ofInt IntKind.u64.bits C&&&BitVec.ofInt IntKind.u64.bits (hX M)).toNat)=((C.toNat&&&(hX M).toNat:Nat):Int):=by
 have:=WT a;exact RN h0.1 h0.2 this.1 this.2
section
variable {I0:aV} {w0 w:World} {B0:aB} {R:List aB} {sps:List Sp} {m i:Nat}
theorem LC {q:Sp} {h0:MH} (h:Hp I0 w0 (B0::aF fx sps::R) w) (b:m<sps.length) (d:sps.getD m jE=q) (a:i<q.hs.length) (e:q.hs.getD i iX=h0):
 Hp I0 w0 (kV h0++(B0::OS 273 bo q.A q.c (q.hs.map λh=>some h.p)::aF eK (q.hs.eraseIdx i)::aF fx (sps.eraseIdx m)::R)) w:=by
 subst d;subst e;have f:=yp h b;have g:=f.focus iX (k:=2) z6 a;have j:=g.splice (k:=2) (A:=eK ((sps.getD m jE).hs.getD i iX)) (M:=kV ((sps.getD m jE).hs.getD i iX)) z6 λi a=>a;refine j.perm (List.Perm.append_left _ ?_);show(B0::OS 273 bo _ _ _::aF fx (sps.eraseIdx m)::(R++[aF eK _])).Perm _;refine List.Perm.cons _ (List.Perm.cons _ ?_)
 grind [qi]
theorem LD {q:Sp} {h0 h':MH} (h:Hp I0 w0 (kV h'++(B0::OS 273 bo q.A q.c (q.hs.map λh=>some h.p)::aF eK (q.hs.eraseIdx i)::aF fx (sps.eraseIdx m)::R)) w) (e:m<sps.length) (a:i<q.hs.length) (f:h'.p=(q.hs.getD i iX).p):
 Hp I0 w0 (B0::aF fx (sps.set m {q with hs:=q.hs.set i h'})::R) w:=by
 have b:Hp I0 w0 (eK h'::(B0::OS 273 bo q.A q.c (q.hs.map λh=>some h.p)::aF eK (q.hs.eraseIdx i)::aF fx (sps.eraseIdx m)::R)) w:=Hp.bundle (M:=kV h') h λi a=>a;have d:(eK h'::(B0::OS 273 bo q.A q.c (q.hs.map λh=>some h.p)::aF eK (q.hs.eraseIdx i)::aF fx (sps.eraseIdx m)::R)).Perm
  ((B0::OS 273 bo q.A q.c (q.hs.map λh=>some h.p)::eK h'::aF fx (sps.eraseIdx m)::R)++[aF eK (q.hs.eraseIdx i)]):=by
  refine(List.Perm.swap _ _ _).trans (List.Perm.cons _ ((List.Perm.swap _ _ _).trans (List.Perm.cons _ (List.Perm.cons _ ?_))));exact(List.Perm.swap _ _ _).trans (List.Perm.cons _ (qi _ _).symm)
 have g:=(b.perm d).unfocus (k:=2) z6 a
 grind [List.map_set,uF,Cl]
end
theorem WY (s:BS) (i:Nat) (h:MH) (a:u<s.sps.length):aq (eD s u i h)=aq s:=by
 grind [List.map_set,uF,aq,eD]
theorem LF (b:Nat) (s:BS) (i:Nat) (h:MH) (a:u<s.sps.length):aH b (eD s u i h)=[aU b (.cells (aq s).toArray 139 (0,0)),aF fx (s.sps.set u {s.sp u with hs:=(s.sp u).hs.set i h}),OS 350 aL s.fA s.fc s.fl,OS 55 cq s.tA s.tc s.tr]:=by
 rw[aH,WY s i h a];rfl
theorem wT (h: ¬ka D G):eP D G none 0=bu D G:=if_neg h
theorem WZ (h:ka D G) (b:G.space=u) (d:fi D G=P) (e:fh D G=mh (D.sp u).hs P) (A:Option Addr) (c:Nat):eP D G A c=eD {D with fl:=dS D.fl G} u P (wQ (mh (D.sp u).hs P) G A c):=by
 rw[eP,if_pos h,qy h.2.1,b,d,e,qh]
theorem DG (h:G.wr=true):nH D G=((G.val.toNat&&&(hX G.width).toNat:Nat):Int):=if_pos h
theorem Wa (h:G.wr=false) (b:fW D G=false):nH D G=hX G.width:=by rw[nH,if_neg (by rw[h];decide),if_neg (by rw[b];decide)]
theorem Wb (h:G.wr=false) (b:fW D G=true) (c:hM D G=true):nH D G=0:=by rw[nH,if_neg (by rw[h];decide),if_pos b,if_pos c]
theorem Wc (h:G.wr=false) (c:fW D G=true) (d:hM D G=false) (b:fh D G=mh (D.sp u).hs P):nH D G=gL (mh (D.sp u).hs P).bs (G.addr-(mh (D.sp u).hs P).base).toNat G.width.toNat:=by
 rw[nH,if_neg (by rw[h];decide),if_pos c,if_neg (by rw[d];decide),b]
end Go.Ios
namespace Go.Ios
theorem ua (h:(!U)=true):U=false:=by cases U<;>simp_all
theorem sW (h:(!U)=false):U=true:=by cases U<;>simp_all
end Go.Ios
namespace Go.Ios
open Go.Sv
theorem sX (l:List E) (m k:Nat) (y d:E) (h:m<l.length):(l.set m y).getD k d=if k=m then y else l.getD k d:=by
 grind
theorem Wd {hs:List MH} (b:iR hs) {h:MH} (m:h.ok) (s: ¬busy hs h.base h.len):iR (bf hs (ab hs h.base) h):=by
 obtain⟨n,C,t⟩:=sR hs h.base;have o:(bf hs (ab hs h.base) h).length=hs.length+1:=yr h n;have u:=m.r;unfold bC at u;have p: ∀j,j<ab hs h.base->(mh hs j).lst<h.base:=λj c=>zg
 have d: ∀j,ab hs h.base<=j->j<hs.length->h.lst<(mh hs j).base:=λj c f=>by
  have g:ab hs h.base<hs.length:=zo
  have v:=t g;have w: ¬kW (mh hs (ab hs h.base)).base (mh hs (ab hs h.base)).len h.base h.len:=λk=>s ⟨g,k⟩;unfold kW at w;have x:h.base<=(mh hs (ab hs h.base)).base+((mh hs (ab hs h.base)).len-1):=v;have D:h.base+(h.len-1)<(mh hs (ab hs h.base)).base:=zo
  by_cases e:j=ab hs h.base
  ·grind
  ·have E:(mh hs (ab hs h.base)).base+((mh hs (ab hs h.base)).len-1)<(mh hs j).base:=b.sort _ j zo f;have F:=(b.each _ g).r
   grind [bC]
 have a: ∀k,mh (bf hs (ab hs h.base) h) k=if k<ab hs h.base then mh hs k else if k=ab hs h.base then h else mh hs (k-1):=λk=>WK h iX n k
 refine⟨λi y=>?_,λi j l c=>?_⟩
 ·rw[o] at y;rw[a i];split
  ·exact b.each i zo
  ·split
   ·exact m
   ·exact b.each (i-1) zo
 ·rw[o] at c;rw[a i,a j];by_cases q:j<ab hs h.base
  ·rw[if_pos q,if_pos zo];exact b.sort i j l zo
  ·rw[if_neg q];by_cases z:j=ab hs h.base
   ·grind
   ·rw[if_neg z];by_cases A:i<ab hs h.base
    ·grind
    ·rw[if_neg A];by_cases B:i=ab hs h.base
     ·grind
     ·rw[if_neg B];exact b.sort (i-1) (j-1) zo zo
variable {D:BS}
theorem sY (a:D.ok) (b:u<3) (h:MH) (A:Option Addr) (c k:Nat):(kZ D u h A c).sp k=if k=u then ⟨A,c,bf (D.sp u).hs (ab (D.sp u).hs h.base) h⟩ else D.sp k:=
 sX _ _ _ _ _ (by rw[a.wf.sp];exact b)
theorem LJ (a:D.ok) (b:u<3) {h:MH} (g:h.ok) (i: ¬busy (D.sp u).hs h.base h.len) (j:D.total≠256) (A:Option Addr) (c:Nat):(kZ D u h A c).ok:=by
 have l:=yr h (sR (D.sp u).hs h.base).1;have e:=a.tot;have f:=a.max;refine⟨⟨by show(D.sps.set u _).length=3;rw[qI];exact a.wf.sp,a.wf.en⟩,λk d=>?_,?_,by show D.total+1<=256;omega,a.fl,a.fr,a.tr⟩
 ·rw[sY a b];split
  ·exact Wd (a.sp u b) g i
  ·exact a.sp k d
 ·rw[sY a b,sY a b,sY a b];show D.total+1=_
  grind
theorem rC {l:List E} (d:E) (h:u<l.length) (k:Nat):(bM l u).getD k d=if k<u then l.getD k d else l.getD (k+1) d:=by
 grind [bM]
theorem We (l:List dm) (a:cD):(dS l a).length<=l.length:=by
 unfold dS;split
 ·rename_i h;split
  ·rw[sU h];omega
  ·rw[qI];omega
 ·exact qU _
def okF (f:dm):Prop:=aY f.base/\bC f.base f.len/\1<=f.cnt/\f.cnt<=64
theorem Wf {l:List dm} {a:cD} (h: ∀i,i<l.length->okF (l.getD i aL.d)): ∀i,i<(dS l a).length->okF ((dS l a).getD i aL.d):=by
 unfold dS;split
 ·rename_i b;split
  ·intro i c;rw[sU b] at c;rw[rC _ b];split
   ·exact h i zo
   ·exact h (i+1) zo
  ·rename_i g;intro i c;rw[qI] at c;rw[sX _ _ _ _ _ b];split
   ·obtain⟨e,f,j,k⟩:=h _ b;exact⟨e,f,by show 1<=(l.getD (eC l a) aL.d).cnt-1;omega,by show(l.getD (eC l a) aL.d).cnt-1<=64;omega⟩
   ·exact h i c
 ·exact h
theorem Wg (b:D.ok) (a:cD):(bu D a).ok:=by
 unfold bu;split
 ·exact⟨⟨b.wf.sp,b.wf.en⟩,b.sp,b.tot,b.max,qk (We _ _) b.fl,Wf b.fr,b.tr⟩
 ·exact b
theorem rD (a:u<D.sps.length) (i:Nat) (h:MH) (k:Nat):(eD D u i h).sp k=if k=u then {D.sp u with hs:=(D.sp u).hs.set i h} else D.sp k:=sX _ _ _ _ _ a
theorem LK (b:D.ok) (o:u<3) (q:P<(D.sp u).hs.length) {h:MH} (r:h.ok) (i:h.base=(mh (D.sp u).hs P).base) (v:h.len=(mh (D.sp u).hs P).len):(eD D u P h).ok:=by
 have c:u<D.sps.length:=by rw[b.wf.sp];exact o
 have a: ∀k,((eD D u P h).sp k).hs.length=(D.sp k).hs.length:=λk=>by
  grind [rD]
 refine⟨⟨by show(D.sps.set u _).length=3;rw[qI];exact b.wf.sp,b.wf.en⟩,λk d=>?_,?_,b.max,b.fl,b.fr,b.tr⟩
 ·rw[rD c];split
  ·have p:=b.sp u o;have t: ∀j,mh ((D.sp u).hs.set P h) j=if j=P then h else mh (D.sp u).hs j:=λj=>sX _ _ _ _ _ q
   have e: ∀j,(mh ((D.sp u).hs.set P h) j).base=(mh (D.sp u).hs j).base/\(mh ((D.sp u).hs.set P h) j).len=(mh (D.sp u).hs j).len:=λj=>by
    grind
   refine⟨λj w=>?_,λj l f x=>?_⟩
   ·have g:j<(D.sp u).hs.length:=zg
    show(mh ((D.sp u).hs.set P h) j).ok;rw[t j];split
    ·exact r
    ·exact p.each j g
   ·have n:l<(D.sp u).hs.length:=zg
    show(mh ((D.sp u).hs.set P h) j).base+((mh ((D.sp u).hs.set P h) j).len-1)<(mh ((D.sp u).hs.set P h) l).base;rw[(e j).1,(e j).2,(e l).1];exact p.sort j l f n
  ·exact b.sp k d
 ·rw[a 0,a 1,a 2];exact b.tot
theorem LL {h:MH} (d:h.ok) {a:cD} (e:F≠none) (k:h.base<=a.addr) (f:a.addr+a.width-1<=h.lst) (l:1<=a.width):(wQ h a F u).ok:=by
 have g:=d.b;have m:=DA d;unfold aY at g;have j:a.addr+a.width-1<=h.base+(h.len-1):=f;refine⟨d.b,d.r,d.o1,d.o2,.inr ⟨?_,e⟩,λi=>?_⟩
 ·show(gu _ _ _ _).length=h.len.toNat
  grind [wO]
 ·show 0<=cf (gu _ _ _ _) i/\cf (gu _ _ _ _) i<=255;rw[DB _ zg,Kk];split
  ·exact Ki _ _
  ·exact d.y i
theorem Wh (e:D.ok) {a:cD} (r:bZ a) (t:ka D a->F≠none) (tA:Option Addr) (tc:Nat) (w:D.tr.length≠65536):(fy D a F u tA tc).ok:=by
 have n:=Wg e a;have b:(eP D a F u).ok:=by
  unfold eP;split
  ·rename_i o;obtain⟨m,i,f,p,x,q,g,h,c,j,k⟩:=DD e o.2.1;have d:(bu D a).sp m=D.sp m:=by unfold BS.sp;rw[yv]
   rw[f,k,j,qh];have l:1<=a.width:=by have:=r.1;unfold et at this;omega
   exact LK n p (by rw[d];exact q) (LL ((e.sp m p).each i q) (t o) g h l) (by rw[d];rfl) (by rw[d];rfl)
  ·exact n
 have v:=e.tr;exact⟨⟨b.wf.sp,b.wf.en⟩,b.sp,b.tot,b.max,b.fl,b.fr,by show(D.tr++[rec D a]).length<=65536;rw[qD];simp;omega⟩
theorem DI (s:BS) (a:cD) (A:Option Addr) (c:Nat) (tA:Option Addr) (tc:Nat):(fy s a A c tA tc).en=s.en/\(fy s a A c tA tc).fl=(if fW s a=true then dS s.fl a else s.fl)/\(fy s a A c tA tc).tr=s.tr++[rec s a]:=by
 refine⟨?_,?_,rfl⟩
 ·show(eP s a A c).en=_;unfold eP;split
  ·exact DE s a
  ·exact DE s a
 ·show(eP s a A c).fl=_;have b:(bu s a).fl=(if fW s a=true then dS s.fl a else s.fl):=by unfold bu;split<;>rfl
  unfold eP;split
  ·exact b
  ·exact b
theorem Wi {hs:List MH} (h:iR hs) (c:u<hs.length) (j:(mh hs u).base<=C) (d:C<=(mh hs u).lst):ab hs C=u:=by
 refine KR zo (λk b f=>?_) (λk b a=>?_)
 ·have:=h.sort k u b c;omega
 ·by_cases e:k=u
  ·rw[e];exact d
  ·have f:=h.sort u k zo a;have g:=(h.each k a).r;have l:(mh hs k).lst=(mh hs k).base+((mh hs k).len-1):=rfl;unfold bC at g;omega
def hZ (s:BS) (m i:Nat):BS:={s with sps:=s.sps.set m ⟨(s.sp m).A,(s.sp m).c,bM (s.sp m).hs i⟩,total:=s.total-1}
theorem Wj {γ:Type} (f:E->γ) (l:List E) (i:Nat):(bM l i).map f=bM (l.map f) i:=by
 simp[bM,List.map_take,List.map_drop]
theorem Wl {w:World} {b:Nat} {c d:aB} (f:D.sps.length=3) (o:u<3) (g:P<(D.sp u).hs.length)
 (h:Hp L I [W,OS 273 bo F b (bM ((D.sp u).hs.map λh=>some h.p) P),aF eK (D.sp u).hs,aF fx (D.sps.eraseIdx u),c,d] w):
 Hp L I [W,aF fx (D.sps.set u ⟨F,b,bM (D.sp u).hs P⟩),c,d] w:=by
 have j:=h.focus iX (k:=2) z6 g;have e:=j.sel [0,0,4,1,1,1] rfl;refine Cl (q:=⟨F,b,bM (D.sp u).hs P⟩) ?_ zo;have l:bM ((D.sp u).hs.map λh=>some h.p) P=(bM (D.sp u).hs P).map λh=>some h.p:=(Wj _ _ _).symm;have n:(D.sp u).hs.eraseIdx P=bM (D.sp u).hs P:=List.eraseIdx_eq_take_drop_succ ..;rw[l,n] at e;exact e
def iC (s:BS) (z p0 q0:Int) (m i:Nat):Prop:=z=(m:Int)/\m<3/\i<(s.sp m).hs.length/\(mh (s.sp m).hs i).base=p0/\(mh (s.sp m).hs i).len=q0
theorem LM {e:Int} (c:D.ok) (h:iC D C M e u P):ek D C M=some P:=by
 obtain⟨rfl,a,d,rfl,rfl⟩:=h;rw[sS a];have f:=((c.sp u a).each P d).r;unfold bC at f;exact uZ (c.sp u a) d (Int.le_refl _) (by show _<=_+(_-1);omega)
theorem Wm {b:Int} (c:D.ok) (h:ep D C M=none): ¬ ∃m i:Nat,iC D C M b m i:=by
 rintro⟨m,i,k⟩;have:=LM c k;rw[wL h] at this;cases this
theorem Wo (h:D.ok) (j:ek D u C=some P) (b: ¬((mh (D.sp u).hs P).base=C/\(mh (D.sp u).hs P).len=M)): ¬ ∃c f:Nat,iC D u C M c f:=by
 rintro⟨c,f,k⟩;have g:=LM h k;rw[j] at g;cases g;obtain⟨e,_,_,l,n⟩:=k;obtain rfl:u=c:=zo
 exact b ⟨l,n⟩
end Go.Ios
set_option linter.unusedSectionVars false
namespace Go.Ios
open Go.Sv
structure RH where
 sp:Int
 base:Int
 len:Int
 own:Int
 A:Option Addr
 c:Nat
 bs:List Int
def aW:bO RH where
 f r:=[.int .i64 r.sp,.int .u64 r.base,.int .u64 r.len,.int .i64 r.own,.slice r.A r.bs.length r.c]
 sz:=5
 d:=⟨0,0,0,0,none,0,[]⟩
 len _:=rfl
 pos:=zd
 one r v hv:=by simp at hv;rcases hv with rfl|rfl|rfl|rfl|rfl<;>rfl
def gm (r:RH):aB:=OS 5 (aD .u8) r.A r.c r.bs
structure RB where
 mA:Option Addr
 mc:Nat
 ms:List RH
 en:List Bool
 fA:Option Addr
 fc:Nat
 fl:List dm
 tA:Option Addr
 tc:Nat
 tr:List iW
def bg (s:RB):List Value:=Value.slice s.mA s.ms.length s.mc::(s.en.map Value.bool++[Value.slice s.fA s.fl.length s.fc,Value.slice s.tA s.tr.length s.tc])
def bJ (b:Nat) (s:RB):List aB:=[aU b (.cells (bg s).toArray 114 (0,0)),OS 307 aW s.mA s.mc s.ms,aF gm s.ms,OS 352 aL s.fA s.fc s.fl,OS 55 cq s.tA s.tc s.tr]
abbrev rh (ms:List RH) (i:Nat):RH:=ms.getD i aW.d
structure RH.ok (q:RH):Prop where
 s1:0<=q.sp
 s2:q.sp<3
 b:aY q.base
 r:bC q.base q.len
 o1:0<=q.own
 o2:q.own<256
 l:q.bs.length=q.len.toNat
 y: ∀i,0<=q.bs.getD i 0/\q.bs.getD i 0<=255
structure RB.ok (s:RB):Prop where
 en:s.en.length=256
 each: ∀i,i<s.ms.length->(rh s.ms i).ok
 max:s.ms.length<=256
 fl:s.fl.length<=1000
 fr: ∀i,i<s.fl.length->aY (s.fl.getD i aL.d).base/\bC (s.fl.getD i aL.d).base (s.fl.getD i aL.d).len/\0<=(s.fl.getD i aL.d).cnt/\(s.fl.getD i aL.d).cnt<=64
 tr:s.tr.length<=65536
section
variable {s:RB} (h:s.en.length=256)
include h
theorem ub:(bg s).length=259:=by simp[bg,h]
theorem fj:(bg s)[0]?=some (.slice s.mA s.ms.length s.mc):=rfl
theorem LN (b:u<256):(bg s)[0+1+u* 1]?=some (.bool (s.en.getD u false)):=by
 have a:u<s.en.length:=by rw[h];exact b
 have c:0+1+u* 1=u+1:=zo
 rw[bg,c,List.getElem?_cons_succ,List.getElem?_append,qE,if_pos a];simp[List.getD,a]
theorem ue:(bg s)[0+257]?=some (.slice s.fA s.fl.length s.fc):=by
 rw[bg];show(Value.slice s.mA s.ms.length s.mc::(s.en.map Value.bool++_))[257]?=_;rw[List.getElem?_cons_succ,List.getElem?_append,qE,h,if_neg zd];rfl
theorem DJ:(bg s)[0+258]?=some (.slice s.tA s.tr.length s.tc):=by
 rw[bg];show(Value.slice s.mA s.ms.length s.mc::(s.en.map Value.bool++_))[258]?=_;rw[List.getElem?_cons_succ,List.getElem?_append,qE,h,if_neg zd];rfl
theorem wV {a:RB} (b:u<259) (e:(bg s).set u T=bg a):((bg s).toArray.toList.take u++[T]++(bg s).toArray.toList.drop (u+[T].length)).toArray=(bg a).toArray:=by
 show((bg s).take u++[T]++(bg s).drop (u+[T].length)).toArray=_;rw[KN _ _ _ (by rw[ub h];exact b),e]
theorem LO (A:Option Addr) (c:Nat) (l:List RH):(bg s).set 0 (.slice A l.length c)=bg {s with mA:=A,mc:=c,ms:=l}:=rfl
theorem Wp (a:u<256) (v:Bool):(bg s).set (0+1+u* 1) (.bool v)=bg {s with en:=s.en.set u v}:=by
 have b:u<s.en.length:=by rw[h];exact a
 have c:0+1+u* 1=u+1:=zo
 rw[bg,c,List.set_cons_succ,List.set_append,qE,if_pos b];simp[bg,List.map_set]
theorem Wq (A:Option Addr) (c:Nat) (l:List dm):(bg s).set (0+257) (.slice A l.length c)=bg {s with fA:=A,fc:=c,fl:=l}:=by
 rw[bg];show(Value.slice s.mA s.ms.length s.mc::(s.en.map Value.bool++_)).set 257 _=_;rw[List.set_cons_succ,List.set_append,qE,h,if_neg zd];rfl
theorem Ws (A:Option Addr) (c:Nat) (l:List iW):(bg s).set (0+258) (.slice A l.length c)=bg {s with tA:=A,tc:=c,tr:=l}:=by
 rw[bg];show(Value.slice s.mA s.ms.length s.mc::(s.en.map Value.bool++_)).set 258 _=_;rw[List.set_cons_succ,List.set_append,qE,h,if_neg zd];rfl
end
def cj (b l x:Int):Prop:=b<=x/\x-b<l
instance(b l x:Int):Decidable (cj b l x):=inferInstanceAs (Decidable (_/\_))
def oJ (b l b2 l2:Int):Prop:=cj b l b2\/cj b2 l2 b
instance(b l b2 l2:Int):Decidable (oJ b l b2 l2):=inferInstanceAs (Decidable (_\/_))
def cJ (ms:List RH) (z x:Int) (i:Nat):Prop:=(rh ms i).sp=z/\cj (rh ms i).base (rh ms i).len x
instance(ms:List RH) (z x:Int) (i:Nat):Decidable (cJ ms z x i):=inferInstanceAs (Decidable (_/\_))
def fR (ms:List RH) (z x:Int):Int:=match (List.range ms.length).find? (λi=>decide (cJ ms z x i)) with
 |some i=>i
 |none=> -1
variable {J:List RH}
theorem LP (a:u<J.length) (h:cJ J C M u) (b: ∀k,k<u-> ¬cJ J C M k):fR J C M=u:=by
 have:(List.range J.length).find? (λi=>decide (cJ J C M i))=some u:=by
  rw[List.find?_range_eq_some];exact⟨qR h,by simpa using a,λk c=>by simpa using b k c⟩
 rw[fR,this]
theorem LQ (a: ∀k,k<J.length-> ¬cJ J C M k):fR J C M= -1:=by
 have:(List.range J.length).find? (λi=>decide (cJ J C M i))=none:=by
  rw[List.find?_eq_none];intro k b;simpa using a k (by simpa using b)
 rw[fR,this]
theorem Wu (ms:List RH) (z x:Int):(fR ms z x= -1/\ ∀k,k<ms.length-> ¬cJ ms z x k)\/ ∃j:Nat,fR ms z x=j/\j<ms.length/\cJ ms z x j/\ ∀k,k<j-> ¬cJ ms z x k:=by
 by_cases h: ∃j,j<ms.length/\cJ ms z x j
 ·have key: ∀n,(∃j,j<n/\j<ms.length/\cJ ms z x j)-> ∃j,j<ms.length/\cJ ms z x j/\ ∀k,k<j-> ¬cJ ms z x k:=by
   intro n
   induction n with
   |zero=>rintro⟨j,d,_⟩;omega
   |succ n l=>
    rintro⟨j,d,b,e⟩;by_cases f: ∃k,k<j/\cJ ms z x k
    ·obtain⟨k,c,a⟩:=f;exact l ⟨k,zo,zo,a⟩
    ·exact⟨j,b,e,λk c a=>f ⟨k,c,a⟩⟩
  obtain⟨j,d,b⟩:=h;obtain⟨j,e,g,i⟩:=key ms.length ⟨j,d,d,b⟩;exact .inr ⟨j,LP e g i,e,g,i⟩
 ·have b: ∀k,k<ms.length-> ¬cJ ms z x k:=λk f a=>h ⟨k,f,a⟩;exact .inl ⟨LQ b,b⟩
theorem sZ (h:RS I aW F J) (b:u<J.length): ∀j v,[Value.int .u64 (rh J u).base,Value.int .u64 (rh J u).len][j]?=some v->I.cell? ⟨bk F,of F+u* 5+1+j,none⟩=some v
 |0,v,a=>h.cell (j:=1) b a
 |1,v,a=>h.cell (j:=2) b a
 |j+2,v,a=>by simp at a
variable {K:List dm}
theorem DK (h:RS I aL F K) (b:u<K.length): ∀j v,[Value.int .u64 (K.getD u aL.d).base,Value.int .u64 (K.getD u aL.d).len][j]?=some v->I.cell? ⟨bk F,of F+u* 4+1+j,none⟩=some v
 |0,v,a=>h.cell (j:=1) b a
 |1,v,a=>h.cell (j:=2) b a
 |j+2,v,a=>by simp at a
theorem sa (h:0<=fR J C M): ∃i:Nat,fR J C M=i/\i<J.length/\cJ J C M i/\ ∀k,k<i-> ¬cJ J C M k:=by
 rcases Wu J C M with ⟨e,_⟩|a
 ·omega
 ·exact a
def eR (ms:List RH) (z x:Int):Int:=if 0<=fR ms z x then (rh ms (fR ms z x).toNat).own else -1
def se (ms:List RH) (z x:Int):Int:=if 0<=fR ms z x then (rh ms (fR ms z x).toNat).bs.getD (x-(rh ms (fR ms z x).toNat).base).toNat 0 else 0
theorem Wv (h:fR J C M=u):eR J C M=(rh J u).own:=by rw[eR,if_pos zo,h,qh]
theorem Ww (h:fR J C M=u):se J C M=(rh J u).bs.getD (M-(rh J u).base).toNat 0:=by rw[se,if_pos zo,h,qh]
theorem LR {w:World} (h:Hp L I N w) (k:Nat) (a:N[k]?=some (aF gm J)) (b:u<J.length):RS w (aD .u8) (J.getD u aW.d).A (J.getD u aW.d).bs:=
 h.bigOS (G:=λr w=>RS w (aD .u8) r.A r.bs) aW.d a b λ_ r e=>OS.rs (show(OS 5 (aD .u8) r.A r.c r.bs).sat w _ from e)
theorem OS.same {K:bO E} {ys zs:List E} (j:zs.length=ys.length) (k:flat K zs=flat K ys) (h:(OS V K F u ys).sat I L):(OS V K F u zs).sat I L:=by
 rcases h with ⟨a,b,d⟩|⟨g,f,a,b,d,o,l,m,n⟩
 ·refine .inl ⟨a,?_,d⟩;subst b;exact List.length_eq_zero_iff.1 j
 ·exact .inr ⟨g,f,a,b,d,zo,l,m,by rw[j,k];exact n⟩
theorem LS {K:bO E} {ys:List E} {d y:E} (a:u<ys.length) (h:K.f y=K.f (ys.getD u d)):flat K (ys.set u y)=flat K ys:=by
 unfold flat;rw[List.flatMap_def,List.flatMap_def,List.map_set,h]
 congr 1
 refine uF ?_;simp[List.getD,a]
def dG (s:RB) (i:Nat) (l:List Int):RB:={s with ms:=s.ms.set i {s.ms.getD i aW.d with bs:=l}}
section
variable {I0:aV} {w0 w:World} {b:Nat} {s:RB} {i:Nat}
theorem Wx (h:Hp I0 w0 (bJ b s) w) (a:i<s.ms.length):
 Hp I0 w0 [aU b (.cells (bg s).toArray 114 (0,0)),OS 307 aW s.mA s.mc s.ms,OS 5 (aD .u8) (s.ms.getD i aW.d).A (s.ms.getD i aW.d).c (s.ms.getD i aW.d).bs,OS 352 aL s.fA s.fc s.fl,OS 55 cq s.tA s.tc s.tr,aF gm (s.ms.eraseIdx i)] w:=
 Hp.focus h aW.d (k:=2) z6 a
theorem Wy (h:Hp I0 w0 [aU b (.cells (bg s).toArray 114 (0,0)),OS 307 aW s.mA s.mc s.ms,OS 5 (aD .u8) (s.ms.getD i aW.d).A (s.ms.getD i aW.d).c Z,OS 352 aL s.fA s.fc s.fl,OS 55 cq s.tA s.tc s.tr,aF gm (s.ms.eraseIdx i)] w) (a:i<s.ms.length) (f:Z.length=(s.ms.getD i aW.d).bs.length):
 Hp I0 w0 (bJ b (dG s i Z)) w:=by
 have g:Hp I0 w0 ([aU b (.cells (bg s).toArray 114 (0,0)),OS 307 aW s.mA s.mc s.ms,gm {s.ms.getD i aW.d with bs:=Z},OS 352 aL s.fA s.fc s.fl,OS 55 cq s.tA s.tc s.tr]++[aF gm (s.ms.eraseIdx i)]) w:=h;have j:=g.unfocus (k:=2) z6 a;have m:Hp I0 w0 (([aU b (.cells (bg s).toArray 114 (0,0)),aF gm (s.ms.set i {s.ms.getD i aW.d with bs:=Z}),OS 352 aL s.fA s.fc s.fl,OS 55 cq s.tA s.tc s.tr])++[OS 307 aW s.mA s.mc s.ms]) w:=j.sel [0,1,1,1,0] rfl;have n:=m.last (B:=OS 307 aW s.mA s.mc (s.ms.set i {s.ms.getD i aW.d with bs:=Z})) λJ o=>OS.same (qI ..) (LS (d:=aW.d) a (by show[_,_,_,_,Value.slice _ Z.length _]=[_,_,_,_,Value.slice _ _ _];rw[f])) o;have p:=n.sel [0,3,0,0,0] rfl;have e:bg (dG s i Z)=bg s:=by
  rw[bg,bg,dG];show Value.slice s.mA (s.ms.set i _).length s.mc::_=_;rw[qI]
 rw[bJ,e];exact p
end
def kb (l:List dm):Nat->Nat
 |0=>0
 |j+1=>kb l j+if 0<(l.getD j aL.d).cnt then 1 else 0
theorem Wz (h:0<(K.getD u aL.d).cnt):(kb K u:Int)+1=(kb K (u+1):Nat):=by rw[kb,if_pos h];omega
theorem XA (h: ¬0<(K.getD u aL.d).cnt):(kb K u:Int)=(kb K (u+1):Nat):=by rw[kb,if_neg h];omega
theorem LU (l:List dm): ∀j,kb l j<=j
 |0=>qU _
 |j+1=>by rw[kb];have:=LU l j;split<;>omega
def sf (s:RB) (f:dm) (A:Option Addr) (c:Nat):RB:={s with fA:=A,fc:=c,fl:=s.fl++[f]}
def gB (f:dm) (a:cD):Prop:=0<f.cnt/\f.space=a.space/\oJ f.base f.len a.addr a.width
def jG (s:RB) (j:Nat):RB:={s with fl:=s.fl.set j {s.fl.getD j aL.d with cnt:=(s.fl.getD j aL.d).cnt-1}}
theorem XB (b:Nat) (s:RB) (j:Nat):bJ b (jG s j)=[aU b (.cells (bg s).toArray 114 (0,0)),OS 307 aW s.mA s.mc s.ms,aF gm s.ms,OS 352 aL s.fA s.fc (s.fl.set j {s.fl.getD j aL.d with cnt:=(s.fl.getD j aL.d).cnt-1}),OS 55 cq s.tA s.tc s.tr]:=by
 have e:bg (jG s j)=bg s:=by
  rw[bg,bg,jG];show _::(_++[Value.slice s.fA (s.fl.set j _).length s.fc,_])=_;rw[qI]
 rw[bJ,e];rfl
def dT (z p0 q0 o:Int) (A:Option Addr):RH:=⟨z,p0,q0,o,A,q0.toNat,List.replicate q0.toNat 0⟩
def ld (s:RB) (r:RH) (A:Option Addr) (c:Nat):RB:={s with mA:=A,mc:=c,ms:=s.ms++[r]}
def lB (ms:List RH) (z p0 q0:Int) (i:Nat):Prop:=(rh ms i).sp=z/\oJ (rh ms i).base (rh ms i).len p0 q0
theorem cR {w:World} {a b d:aB} {r:RH} (h:Hp L I [W,a,aF gm J,b,d,OS 5 (aD .u8) r.A r.c r.bs] w):Hp L I [W,a,aF gm (J++[r]),b,d] w:=by
 have g:Hp L I ([gm r,aF gm J]++[W,a,b,d]) w:=h.sel [5,2,0,0,0,0] rfl;have j:=g.bundle (A:=aF gm (J++[r])) λi k=>by
  obtain⟨l,m,hI,n,o,y,z,p,q,s,t⟩:=k;have f:Sep (gm r::J.map gm) i w:=⟨l,m,hI,n,o,s.ext λx=>by rw[p x];exact⟨.inl,λe=>e.elim id λu=>absurd u (t x)⟩⟩
  have v:(r::J).Perm (J++[r]):=(qi r J).symm;exact Sep.perm (v.map gm) f
 exact j.sel [1,1,0,0,0] rfl
def nK (s:RB) (j:Nat) (A:Option Addr) (c:Nat):RB:={s with mA:=A,mc:=c,ms:=bM s.ms j}
theorem DL {w:World} {a b c:aB} (h:Hp L I [W,a,aF gm J,b,c] w) (g:u<J.length):Hp L I [W,a,aF gm (bM J u),b,c] w:=by
 have i:=h.focus aW.d (k:=2) z6 g;have f:=i.sel [0,0,3,1,1] rfl;have e:J.eraseIdx u=bM J u:=List.eraseIdx_eq_take_drop_succ ..;rw[e] at f;exact f
theorem LV (l:List Int) (k:Nat): ∀n,gL l k (n+1)=cf l k+256* gL l (k+1) n
 |0=>by simp[gL,pw]
 |n+1=>by
  rw[gL,LV l k n,gL,wM,show k+1+n=k+(n+1) by omega,Int.mul_add];have:cf l (k+(n+1))* (256* pw n)=256* (cf l (k+(n+1))* pw n):=by rw[Int.mul_left_comm]
  omega
def oL (l:List Int) (o:Nat) (v:Int) (n:Nat):Nat->List Int
 |0=>l
 |j+1=>(oL l o v n j).set (o+(n-(j+1))) (jx v (n-(j+1)))
theorem DM (l:List Int) (o:Nat) (v:Int) (n:Nat): ∀j,(oL l o v n j).length=l.length
 |0=>rfl
 |j+1=>by rw[oL,qI,DM l o v n j]
def bT (a:cD):Int:=((a.val.toNat&&&(hX a.width).toNat:Nat):Int)
def cL (s:RB) (a:cD):Prop:=0<=fR s.ms a.space a.addr/\fR s.ms a.space a.addr=fR s.ms a.space (a.addr+(a.width-1))/\s.en.getD (rh s.ms (fR s.ms a.space a.addr).toNat).own.toNat false=true
instance(s:RB) (a:cD):Decidable (cL s a):=inferInstanceAs (Decidable (_/\_/\_))
def wW (s:RB) (t:iW) (A:Option Addr) (c:Nat):RB:={s with tA:=A,tc:=c,tr:=s.tr++[t]}
structure sh (s:RB) (a:cD) (s2:RB) (v:Int) (lv fl:Bool):Prop where
 live:lv=decide (cL s a)
 dead:lv=false->s2=s/\fl=false/\v=if a.wr=true then bT a else hX a.width
 fail:lv=true->fl=true->(∃j:Nat,j<s.fl.length/\gB (s.fl.getD j aL.d) a/\(∀k,k<j-> ¬gB (s.fl.getD k aL.d) a)/\s2=jG s j)/\v=if a.wr=true then bT a else 0
 good:lv=true->fl=false->(∀k,k<s.fl.length-> ¬gB (s.fl.getD k aL.d) a)/\ ∃i:Nat,fR s.ms a.space a.addr=i/\i<s.ms.length/\(if a.wr=true then v=bT a/\s2=dG s i (oL (s.ms.getD i aW.d).bs (a.addr-(s.ms.getD i aW.d).base).toNat (bT a) a.width.toNat a.width.toNat) else v=gL (s.ms.getD i aW.d).bs (a.addr-(s.ms.getD i aW.d).base).toNat a.width.toNat/\s2=s)
 tr:s2.tr=s.tr/\s2.tA=s.tA/\s2.tc=s.tc/\s2.en=s.en
structure rE (s:RB) (a:cD) (f:Bool) (s2:RB):Prop where
 yes:f=true-> ∃j:Nat,j<s.fl.length/\gB (s.fl.getD j aL.d) a/\(∀k,k<j-> ¬gB (s.fl.getD k aL.d) a)/\s2=jG s j
 no:f=false->(∀k,k<s.fl.length-> ¬gB (s.fl.getD k aL.d) a)/\s2=s
theorem rE.at {s b:RB} {a:cD} (h:rE s {a with val:=C} U b):rE s a U b:=⟨h.yes,h.no⟩
def LB (s:RB) (a:cD) (i j:Nat):List Int:=if a.wr=true then oL (s.ms.getD i aW.d).bs (a.addr-(s.ms.getD i aW.d).base).toNat (bT a) a.width.toNat j else (s.ms.getD i aW.d).bs
def VB (s:RB) (a:cD) (i j:Nat):Int:=if a.wr=true then bT a else gL (s.ms.getD i aW.d).bs ((a.addr-(s.ms.getD i aW.d).base).toNat+(a.width.toNat-j)) j
theorem jH (s:RB) (a:cD) (i j:Nat):(LB s a i j).length=(s.ms.getD i aW.d).bs.length:=by
 unfold LB;split
 ·exact DM ..
 ·rfl
theorem XC {s:RB} (a:u<s.ms.length):dG s u (s.ms.getD u aW.d).bs=s:=by
 have e:s.ms.set u {s.ms.getD u aW.d with bs:=(s.ms.getD u aW.d).bs}=s.ms:=uF (by simp[List.getD,a]);rw[dG,e]
theorem DN {a:cD} (h:aY a.val):aY (bT a):=by
 unfold bT aY;unfold aY at h;have:a.val.toNat&&&(hX a.width).toNat<=a.val.toNat:=Nat.and_le_left;omega
section
variable {s:RB} {a:cD} {i j:Nat}
theorem LW (h:a.wr=true):LB s a i (j+1)=(LB s a i j).set ((a.addr-(s.ms.getD i aW.d).base).toNat+(a.width.toNat-(j+1))) (jx (bT a) (a.width.toNat-(j+1))):=by
 unfold LB;rw[if_pos h,if_pos h,oL]
theorem yw (h:a.wr=false) (j:Nat):LB s a i j=(s.ms.getD i aW.d).bs:=by
 unfold LB;rw[if_neg (by rw[h];decide)]
theorem DP:LB s a i 0=(s.ms.getD i aW.d).bs:=by unfold LB;split<;>rfl
theorem wX (h:a.wr=true) (j:Nat):VB s a i j=bT a:=by unfold VB;rw[if_pos h]
theorem wY:VB s a i 0=if a.wr=true then bT a else 0:=by
 unfold VB;split
 ·rfl
 ·rfl
theorem LX (h:a.wr=false) (b:j<a.width.toNat):VB s a i (j+1)=256* VB s a i j+cf (s.ms.getD i aW.d).bs ((a.addr-(s.ms.getD i aW.d).base).toNat+(a.width.toNat-(j+1))):=by
 unfold VB;rw[if_neg (by rw[h];decide),if_neg (by rw[h];decide),LV,show(a.addr-(s.ms.getD i aW.d).base).toNat+(a.width.toNat-(j+1))+1=(a.addr-(s.ms.getD i aW.d).base).toNat+(a.width.toNat-j) by omega];omega
theorem XD (h:a.wr=false) (b:okB (s.ms.getD i aW.d).bs):0<=VB s a i j/\VB s a i j<pw j:=by
 unfold VB;rw[if_neg (by rw[h];decide)];exact Cy b _ _
theorem DQ (h0:0<=C) (b:C<pw u) (c:u<8):IntKind.u64.wrap (C* 2^min (8:Int).toNat IntKind.u64.bits)=256* C:=by
 have e:(2:Int)^min (8:Int).toNat IntKind.u64.bits=256:=zd
 have a:=yt (u:=u+1) zo;rw[wM] at a;rw[e,Int.mul_comm];exact az zo zo
theorem XF (h0:0<=C) (d:C<pw u) (f:u<8) (a:0<=M) (g:M<=255):IntKind.u64.wrap ((BitVec.ofInt IntKind.u64.bits (256* C)|||BitVec.ofInt IntKind.u64.bits M).toNat)=256* C+M:=by
 have c:=yt (u:=u+1) zo;rw[wM] at c;show IntKind.u64.wrap ((BitVec.ofInt 64 (256* C)|||BitVec.ofInt 64 M).toNat)=256* C+M;rw[Gh zo zo a zo];obtain⟨x,rfl⟩:=qa h0;obtain⟨b,rfl⟩:=qa a;have e:(256* (x:Int)).toNat=2^8* x:=zo
 rw[e,qh,<-Nat.two_pow_add_eq_or_of_lt (show b<2^8 by omega)];omega
theorem uf (c:0<=fR s.ms a.space a.addr) (f:fR s.ms a.space a.addr=fR s.ms a.space (a.addr+(a.width-1))) (g:fR s.ms a.space a.addr=(u:Int)):decide (cL s a)=s.en.getD (s.ms.getD u aW.d).own.toNat false:=by
 have e:(fR s.ms a.space a.addr).toNat=u:=zo
 cases b:s.en.getD (s.ms.getD u aW.d).own.toNat false with
 |true=>exact qR ⟨c,f,by rw[e];exact b⟩
 |false=>exact qQ λk=>by have:=k.2.2;rw[e,b] at this;cases this
theorem oO (h:decide (cL s a)=false) (b:C=if a.wr=true then bT a else hX a.width):sh s a s C (decide (cL s a)) false:=
 ⟨rfl,λ_=>⟨rfl,rfl,b⟩,λk=>(by rw[h] at k;cases k),λk=>(by rw[h] at k;cases k),rfl,rfl,rfl,rfl⟩
theorem oP {b:RB} (h:decide (cL s a)=true) (d:rE s a true b) (e:C=if a.wr=true then bT a else 0):sh s a b C (decide (cL s a)) true:=by
 obtain⟨j,f,g,i,c⟩:=d.yes rfl;refine⟨rfl,λk=>(by rw[h] at k;cases k),λ_ _=>⟨⟨j,f,g,i,c⟩,e⟩,λ_ k=>(by cases k),?_⟩;rw[c];exact⟨rfl,rfl,rfl,rfl⟩
theorem wZ {e:RB} (h:decide (cL s a)=true) (f:rE s a false e) (c:fR s.ms a.space a.addr=(i:Int)) (d:i<s.ms.length):sh s a (dG s i (LB s a i a.width.toNat)) (VB s a i a.width.toNat) (decide (cL s a)) false:=by
 refine⟨rfl,λk=>(by rw[h] at k;cases k),λ_ k=>(by cases k),λ_ _=>⟨(f.no rfl).1,i,c,d,?_⟩,rfl,rfl,rfl,rfl⟩;by_cases b:a.wr=true
 ·rw[if_pos b,wX b];refine⟨rfl,?_⟩;unfold LB;rw[if_pos b]
 ·have g:a.wr=false:=by simpa using b
  rw[if_neg b,yw g,XC d];refine⟨?_,rfl⟩;unfold VB;rw[if_neg b,Nat.sub_self,Nat.add_zero]
variable {I0:aV} {w0 w:World} {b:Nat} {X Y:aB}
theorem XG (h:Hp I0 w0 (bJ b s++[X,Y]) w) (a:i<s.ms.length):
 Hp I0 w0 [aU b (.cells (bg s).toArray 114 (0,0)),OS 307 aW s.mA s.mc s.ms,OS 5 (aD .u8) (s.ms.getD i aW.d).A (s.ms.getD i aW.d).c (s.ms.getD i aW.d).bs,OS 352 aL s.fA s.fc s.fl,OS 55 cq s.tA s.tc s.tr,X,Y,aF gm (s.ms.eraseIdx i)] w:=
 Hp.focus h aW.d (k:=2) z6 a
theorem XH (h:Hp I0 w0 [aU b (.cells (bg s).toArray 114 (0,0)),OS 307 aW s.mA s.mc s.ms,OS 5 (aD .u8) (s.ms.getD i aW.d).A (s.ms.getD i aW.d).c Z,OS 352 aL s.fA s.fc s.fl,OS 55 cq s.tA s.tc s.tr,X,Y,aF gm (s.ms.eraseIdx i)] w) (a:i<s.ms.length) (f:Z.length=(s.ms.getD i aW.d).bs.length):
 Hp I0 w0 (bJ b (dG s i Z)++[X,Y]) w:=by
 have g:Hp I0 w0 ([aU b (.cells (bg s).toArray 114 (0,0)),OS 307 aW s.mA s.mc s.ms,gm {s.ms.getD i aW.d with bs:=Z},OS 352 aL s.fA s.fc s.fl,OS 55 cq s.tA s.tc s.tr,X,Y]++[aF gm (s.ms.eraseIdx i)]) w:=h;have j:=g.unfocus (k:=2) z6 a;have m:Hp I0 w0 (([aU b (.cells (bg s).toArray 114 (0,0)),aF gm (s.ms.set i {s.ms.getD i aW.d with bs:=Z}),OS 352 aL s.fA s.fc s.fl,OS 55 cq s.tA s.tc s.tr,X,Y])++[OS 307 aW s.mA s.mc s.ms]) w:=j.sel [0,1,1,1,1,1,0] rfl;have n:=m.last (B:=OS 307 aW s.mA s.mc (s.ms.set i {s.ms.getD i aW.d with bs:=Z})) λJ o=>OS.same (qI ..) (LS (d:=aW.d) a (by show[_,_,_,_,Value.slice _ Z.length _]=[_,_,_,_,Value.slice _ _ _];rw[f])) o;have p:=n.sel [0,5,0,0,0,0,0] rfl;have e:bg (dG s i Z)=bg s:=by
  rw[bg,bg,dG];show Value.slice s.mA (s.ms.set i _).length s.mc::_=_;rw[qI]
 rw[bJ,e];exact p
end
theorem XI {o:Int} (b:aY C) (c:bC C M) (d:0<=o) (e:o<256):(⟨u,C,M,o,none,0,[]⟩:MH).ok:=⟨b,c,d,e,.inl zr,λi=>zm⟩
def kc (s:BS) (z x:Int):Int:=match ek s z x with
 |some i=>cf (mh (s.sp z.toNat).hs i).bs (x-(mh (s.sp z.toNat).hs i).base).toNat
 |none=>0
theorem XJ (l:List Int) (k:Nat):gL l k 1=cf l k:=by
 rw[gL,gL];have:pw 0=1:=rfl;rw[this];simp
variable {D:BS}
theorem LY (h:ek D u C=some P):kc D u C=cf (mh (D.sp u).hs P).bs (C-(mh (D.sp u).hs P).base).toNat:=by rw[kc,h];rfl
def jh (hs:List MH) (x:Int):Int:=match mR hs x with
 |some i=>(mh hs i).own
 |none=> -1
variable {H:List MH}
theorem Lf (h:iR H) (a:u<H.length) (b:(mh H u).base<=C) (c:C<=(mh H u).lst):jh H C=(mh H u).own:=by rw[jh,uZ h a b c]
theorem Lg (h:iR H) (x:Int):(jh H x= -1/\ ∀i,i<H.length-> ¬((mh H i).base<=x/\x<=(mh H i).lst))\/ ∃i,i<H.length/\(mh H i).base<=x/\x<=(mh H i).lst/\jh H x=(mh H i).own:=by
 cases a:mR H x with
 |none=>exact .inl ⟨by rw[jh,a],λi b=>WE h a b⟩
 |some i=>have:=Ci a;exact .inr ⟨i,this.1,this.2.1,this.2.2,by rw[jh,a]⟩
theorem XK (a:iR H) (q:1<=M):busy H C M↔ ∃x,C<=x/\x<C+M/\ ¬jh H x= -1:=by
 obtain⟨s,d,c⟩:=sR H C;constructor
 ·rintro⟨ha,hv⟩;unfold kW at hv;have f:=(a.each _ ha).r;have g:=(a.each _ ha).o1;unfold bC at f;have h:C<=(mh H (ab H C)).base+((mh H (ab H C)).len-1):=c ha;refine⟨max C (mh H (ab H C)).base,zo,zo,?_⟩;rw[Lf a ha zo (by show max C _<=(mh H (ab H C)).base+((mh H (ab H C)).len-1);omega)];omega
 ·rintro⟨x,hx1,hx2,hx3⟩;rcases Lg a x with ⟨e,_⟩|⟨i,j,h,t,e⟩
  ·exact absurd e hx3
  ·have k:ab H C<=i:=by
    rcases Nat.lt_or_ge i (ab H C) with b|b
    ·have:=d i b;omega
    ·exact b
   have l:(mh H (ab H C)).base<=(mh H i).base:=by
    by_cases m:ab H C=i
    ·rw[m];exact Int.le_refl _
    ·have u:(mh H (ab H C)).base+((mh H (ab H C)).len-1)<(mh H i).base:=a.sort _ i zo j;have o:=(a.each (ab H C) zo).r;unfold bC at o;omega
   have v:C<=(mh H (ab H C)).base+((mh H (ab H C)).len-1):=c zo;exact⟨zo,by unfold kW;omega⟩
def iY (ow:List Int) (p:Nat) (n:Nat) (c:Nat):Bool:=decide (0<n/\ ∀x,x<c->ow.getD (p+x) 0=0)
theorem Lh (ow:List Int) (p n:Nat):iY ow p n 0=decide (0<n):=decide_eq_decide.2 ⟨λh=>h.1,λh=>⟨h,λx a=>zo⟩⟩
structure MI (s:BS) (ow:List Int) (j:Nat):Prop where
 ok:s.ok
 len:ow.length=128
 tot:s.total<=j
 own: ∀x:Nat,x<128->jh (s.sp 1).hs x=ow.getD x 0-1
structure Op where
 kind:Int
 space:Int
 addr:Int
 len:Int
 width:Int
 own:Int
 wr:Bool
 val:Int
 raw:Bool
def dB:bO Op where
 f r:=[.int .i64 r.kind,.int .i64 r.space,.int .u64 r.addr,.int .u64 r.len,.int .i64 r.width,.int .i64 r.own,.bool r.wr,.int .u64 r.val,.bool r.raw]
 sz:=9
 d:=⟨0,0,0,0,0,0,false,0,false⟩
 len _:=rfl
 pos:=zd
 one r v hv:=by simp at hv;rcases hv with rfl|rfl|rfl|rfl|rfl|rfl|rfl|rfl|rfl<;>rfl
structure MZ where
 s:BS
 ow:List Int
structure Tu where
 b:Int
 l:Int
 o:Int
 y:Int
def jy (h:MH) (x:Int):Tu:=⟨h.base,h.len,h.own,cf h.bs (x-h.base).toNat⟩
def yx (q:RH) (x:Int):Tu:=⟨q.base,q.len,q.own,cf q.bs (x-q.base).toNat⟩
def iZ (s:BS) (z x:Int) (t:Tu):Prop:= ∃(m i:Nat),z=(m:Int)/\m<3/\i<(s.sp m).hs.length/\(mh (s.sp m).hs i).base<=x/\x<=(mh (s.sp m).hs i).lst/\t=jy (mh (s.sp m).hs i) x
def sj (ms:List RH) (z x:Int) (t:Tu):Prop:= ∃i:Nat,i<ms.length/\cJ ms z x i/\t=yx (rh ms i) x
def DS (ms:List RH):Prop:= ∀(i j:Nat) (z x:Int),i<ms.length->j<ms.length->cJ ms z x i->cJ ms z x j->i=j
variable {S:Tu}
theorem DT (e:D.ok) (h:iZ D C M S): ∃(m i:Nat),C=(m:Int)/\m<3/\ek D m M=some i/\i<(D.sp m).hs.length/\(mh (D.sp m).hs i).base<=M/\M<=(mh (D.sp m).hs i).lst/\S=jy (mh (D.sp m).hs i) M:=by
 obtain⟨m,i,rfl,a,b,c,d,f⟩:=h;exact⟨m,i,rfl,a,by rw[sS a];exact uZ (e.sp m a) b c d,b,c,d,f⟩
theorem Li (a:u<3) (h:ek D u C=some P):iZ D u C (jy (mh (D.sp u).hs P) C):=by
 rw[sS a] at h;obtain⟨b,c,d⟩:=Ci h;exact⟨u,P,rfl,a,b,c,d,rfl⟩
theorem XL (b:D.ok) (h:iZ D C M S):bi D C M=S.o/\kc D C M=S.y/\(ek D C M).isSome=true:=by
 obtain⟨m,i,rfl,c,a,d,e,f,rfl⟩:=DT b h;refine⟨by rw[bi,a];rfl,by rw[LY a];rfl,zg⟩
theorem XM {l:List E} (d:E) (h:u<l.length):l.getD u d∈l:=by
 grind
theorem XN {l:List E} {y:E} (d:E) (h:y∈l): ∃i,i<l.length/\l.getD i d=y:=by
 obtain⟨i,a,e⟩:=List.getElem_of_mem h;exact⟨i,a,zg⟩
theorem Lj:iZ D C M S↔ ∃(m:Nat) (h:MH),C=(m:Int)/\m<3/\h∈(D.sp m).hs/\h.base<=M/\M<=h.lst/\S=jy h M:=by
 constructor
 ·rintro⟨m,i,hz,hm,a,h1,h2,h3⟩
  grind [XM]
 ·rintro⟨m,h,hz,hm,hh,h1,h2,h3⟩;obtain⟨i,a,rfl⟩:=XN iX hh;exact⟨m,i,hz,hm,a,h1,h2,h3⟩
theorem Lk (b:D.ok) (a:u<3) (h:MH) (A:Option Addr) (c:Nat):
 iZ (kZ D u h A c) C M S↔(C=u/\h.base<=M/\M<=h.lst/\S=jy h M)\/iZ D C M S:=by
 rw[Lj,Lj];have d:=KY (D.sp u).hs (ab (D.sp u).hs h.base) h;constructor
 ·grind [sY]
 ·rintro(⟨rfl,h3,h4,h5⟩|⟨k,h2,rfl,hk3,hh,h3,h4,h5⟩)
  ·exact⟨u,h,rfl,a,by grind [sY],h3,h4,h5⟩
  ·refine⟨k,h2,rfl,hk3,?_,h3,h4,h5⟩
   grind [sY]
theorem Ll (b:D.ok) (a:u<3) (g:1<=M):busy (D.sp u).hs C M↔ ∃x t,C<=x/\x<C+M/\iZ D u x t:=by
 rw[XK (b.sp u a) g];constructor
 ·rintro⟨x,h1,h2,h3⟩;rcases Lg (b.sp u a) x with ⟨e,_⟩|⟨i,c,d,f,_⟩
  ·grind
  ·exact⟨x,_,h1,h2,u,i,rfl,a,c,d,f,rfl⟩
 ·rintro⟨x,t,h1,h2,m2,i,e,_,c,d,f,_⟩;obtain rfl:u=m2:=zo
  refine⟨x,h1,h2,λh=>?_⟩;rw[Lf (b.sp u a) c d f] at h;have:=((b.sp u a).each i c).o1;omega
theorem XO (a:D.ok) {q:Int}:(∃m i:Nat,iC D C M q m i)↔ ∃t,iZ D C M t/\t.b=M/\t.l=q:=by
 constructor
 ·rintro⟨m,i,rfl,hm,hi,e1,e2⟩;have c:=((a.sp m hm).each i hi).r;unfold bC at c;exact⟨_,⟨m,i,rfl,hm,hi,zo,zg,rfl⟩,e1,e2⟩
 ·rintro⟨t,⟨m,i,rfl,hm,hi,h1,h2,rfl⟩,e1,e2⟩;exact⟨m,i,rfl,hm,hi,e1,e2⟩
theorem iR.uq (h:iR H) (a:u<H.length) (b:P<H.length) (c:(mh H u).base<=C) (d:C<=(mh H u).lst) (e:(mh H P).base<=C) (f:C<=(mh H P).lst):u=P:=by
 have g:=uZ h a c d;have k:=uZ h b e f
 grind
theorem rF (a:D.ok) (b:u<3) (i k:Nat):(hZ D u i).sp k=if k=u then ⟨(D.sp u).A,(D.sp u).c,bM (D.sp u).hs i⟩ else D.sp k:=
 sX _ _ _ _ _ (by rw[a.wf.sp];exact b)
theorem Lm {l:List E} (d:E) (h:u<l.length) {P:E->Prop}:(∃k,k<(bM l u).length/\P ((bM l u).getD k d))↔ ∃k,k<l.length/\k≠u/\P (l.getD k d):=by
 have b:=sU h;constructor
 ·grind [rC]
 ·rintro⟨k,hk,hne,hp⟩;by_cases a:k<u
  ·exact⟨k,zo,by grind [rC]⟩
  ·refine⟨k-1,zo,?_⟩
   grind [rC]
theorem XP (v:D.ok) {q:Int} (w:iC D C M q u P) {z x:Int}:iZ (hZ D u P) z x S↔iZ D z x S/\ ¬(z=C/\M<=x/\x<M+q):=by
 obtain⟨rfl,d,f,rfl,rfl⟩:=w;constructor
 ·rintro⟨k,j,rfl,hk3,hj,h1,h2,rfl⟩;by_cases e:k=u
  ·subst e;have b:((hZ D k P).sp k).hs=bM (D.sp k).hs P:=by grind [rF]
   rw[b] at hj h1 h2 ⊢;obtain⟨n,c,a,g,l,r⟩:=(Lm iX f (P:=λh=>h.base<=x/\x<=h.lst/\jy (mh (bM (D.sp k).hs P) j) x=jy h x)).1 ⟨j,hj,h1,h2,rfl⟩;refine⟨⟨k,n,rfl,d,c,g,l,r⟩,λt=>a ?_⟩;exact(v.sp k d).uq c f g l t.2.1 zg
  ·have b:(hZ D u P).sp k=D.sp k:=by grind [rF]
   rw[b] at hj h1 h2 ⊢;exact⟨⟨k,j,rfl,hk3,hj,h1,h2,rfl⟩,λt=>e zo⟩
 ·rintro⟨⟨k,j,rfl,hk3,hj,h1,h2,rfl⟩,c⟩;by_cases e:k=u
  ·subst e;have b:((hZ D k P).sp k).hs=bM (D.sp k).hs P:=by grind [rF]
   have a:j≠P:=λe=>c (by
    grind)
   obtain⟨n,c,g,l,r⟩:=(Lm iX f (P:=λh=>h.base<=x/\x<=h.lst/\jy (mh (D.sp k).hs j) x=jy h x)).2 ⟨j,hj,a,h1,h2,rfl⟩;exact⟨k,n,rfl,d,zg,zg,zg,zg⟩
  ·have b:(hZ D u P).sp k=D.sp k:=by grind [rF]
   exact⟨k,j,rfl,hk3,zg,zg,zg,by rw[b]⟩
def jz (m p v:Int) (n:Nat) (z x:Int) (t:Tu):Tu:=if z=m/\p<=x/\x<p+n then {t with y:=jx v (x-p).toNat} else t
theorem Lp (g:D.ok) (a:u<3) (l:P<(D.sp u).hs.length) {n:Nat} (E:(mh (D.sp u).hs P).base<=C) (p:C+n-1<=(mh (D.sp u).hs P).lst) (F:1<=n) (A:Option Addr) (c:Nat) {z x:Int}:
 iZ (eD D u P {mh (D.sp u).hs P with A:=A,c:=c,bs:=gu (dF (mh (D.sp u).hs P)) (C-(mh (D.sp u).hs P).base).toNat M n}) z x S↔ ∃t0,iZ D z x t0/\S=jz u C M n z x t0:=by
 have o:u<D.sps.length:=by rw[g.wf.sp];exact a
 have q:=(g.sp u a).each P l;have w:=q.r;unfold bC at w;have y:C+n-1<=(mh (D.sp u).hs P).base+((mh (D.sp u).hs P).len-1):=p;obtain⟨h',b⟩: ∃h',h'=({mh (D.sp u).hs P with A:=A,c:=c,bs:=gu (dF (mh (D.sp u).hs P)) (C-(mh (D.sp u).hs P).base).toNat M n}:MH):=⟨_,rfl⟩
 rw[<-b];have key: ∀x,(mh (D.sp u).hs P).base<=x->jy h' x=jz u C M n u x (jy (mh (D.sp u).hs P) x):=λx G=>by
  grind [DB,DA,Kk,jy,jz]
 constructor
 ·rintro⟨k,j,rfl,hk3,hj,g1,g2,rfl⟩;rw[rD o] at hj g1 g2 ⊢;by_cases e:k=u
  ·subst e;rw[if_pos rfl] at hj g1 g2 ⊢;simp only[qI] at hj;by_cases f:j=P
   ·subst f;have d:mh ((D.sp k).hs.set j h') j=h':=dN _ _ _ _ hj;simp only[] at g1 g2 ⊢;rw[d] at g1 g2 ⊢;have B:h'.base=(mh (D.sp k).hs j).base:=by rw[b]
    have t:h'.lst=(mh (D.sp k).hs j).lst:=by rw[b]
    rw[B] at g1;rw[t] at g2;exact⟨_,⟨k,j,rfl,a,hj,g1,g2,rfl⟩,key x g1⟩
   ·have d:mh ((D.sp k).hs.set P h') j=mh (D.sp k).hs j:=db _ _ _ (λh=>f h.symm);simp only[] at g1 g2 ⊢;rw[d] at g1 g2 ⊢;refine⟨_,⟨k,j,rfl,a,hj,g1,g2,rfl⟩,?_⟩;rw[jz,if_neg λv=>f ((g.sp k a).uq hj l g1 g2 zo zg)]
  ·rw[if_neg e] at hj g1 g2 ⊢;exact⟨_,⟨k,j,rfl,hk3,hj,g1,g2,rfl⟩,by grind [jz]⟩
 ·rintro⟨t0,⟨k,j,rfl,hk3,hj,g1,g2,rfl⟩,rfl⟩;by_cases e:k=u
  ·subst e;by_cases f:j=P
   ·subst f;have d:mh ((eD D k j h').sp k).hs j=h':=by grind [rD]
    refine⟨k,j,rfl,a,by grind [rD],?_,?_,?_⟩
    ·grind
    ·grind
    grind
   ·have d:mh ((eD D k P h').sp k).hs j=mh (D.sp k).hs j:=by grind [rD]
    refine⟨k,j,rfl,a,by grind [rD],zg,zg,?_⟩;rw[d,jz,if_neg λv=>f ((g.sp k a).uq hj l g1 g2 zo zg)]
  ·have d:(eD D u P h').sp k=D.sp k:=by grind [rD]
   exact⟨k,j,rfl,hk3,zg,zg,zg,by grind [jz]⟩
theorem so (l:List E) (q d:E) (k:Nat):(l++[q]).getD k d=if k<l.length then l.getD k d else if k=l.length then q else d:=by
 grind
theorem XQ {q:RH}:sj (J++[q]) C M S↔(q.sp=C/\cj q.base q.len M/\S=yx q M)\/sj J C M S:=by
 constructor
 ·rintro⟨i,hi,hh,rfl⟩;unfold cJ rh at hh;rw[qD,List.length_singleton] at hi;unfold rh;rw[so] at hh ⊢;by_cases e:i<J.length
  ·rw[if_pos e] at hh ⊢;exact .inr ⟨i,e,hh,rfl⟩
  grind
 ·rintro(⟨h1,h2,rfl⟩|⟨i,hi,hh,rfl⟩)
  ·refine⟨J.length,zm,?_,?_⟩
   ·grind [cJ]
   grind
  ·refine⟨i,zg,?_,?_⟩
   ·grind [cJ]
   grind
theorem XR (f:DS J) {q:RH} (e: ∀(x:Int) (t:Tu),cj q.base q.len x-> ¬sj J q.sp x t):DS (J++[q]):=by
 intro i j z x g h b a;unfold cJ rh at b a;rw[so] at b a;simp only[qD,List.length_singleton] at g h;by_cases d:i<J.length
 ·rw[if_pos d] at b;by_cases c:j<J.length
  ·rw[if_pos c] at a;exact f i j z x d c b a
  ·rw[if_neg c,if_pos zo] at a;exact absurd ⟨i,d,by rw[a.1];exact b,rfl⟩ (e x _ a.2)
 ·rw[if_neg d,if_pos zo] at b;by_cases c:j<J.length
  ·rw[if_pos c] at a;exact absurd ⟨j,c,by rw[b.1];exact a,rfl⟩ (e x _ b.2)
  ·omega
theorem Lr {n:Int} (d:1<=n) (b: ∀i,i<J.length->1<=(rh J i).len):(∃i,i<J.length/\lB J C M n i)↔ ∃x t,M<=x/\x<M+n/\sj J C x t:=by
 constructor
 ·rintro⟨i,hi,h1,a⟩;have:=b i hi;rcases a with a|a
  ·exact⟨M,_,zo,zo,i,hi,⟨h1,a⟩,rfl⟩
  ·exact⟨(rh J i).base,_,a.1,by have:=a.2;omega,i,hi,⟨h1,zo,zo⟩,rfl⟩
 ·rintro⟨x,t,h1,a,i,hi,⟨h3,h4,h5⟩,_⟩;refine⟨i,hi,h3,?_⟩;by_cases c:(rh J i).base<=M
  ·exact .inl ⟨c,zo⟩
  ·exact .inr ⟨zo,zo⟩
theorem XS {r:RB} (a:u<r.ms.length) (l:List Int) (k:Nat):rh (dG r u l).ms k=if k=u then {rh r.ms u with bs:=l} else rh r.ms k:=sX _ _ _ _ _ a
def DU (l:List dm):List dm:=l.filter λf=>decide (0<f.cnt)
structure jI (s:BS) (r:RB) (n:Nat):Prop where
 sk:s.ok
 rk:r.ok
 uq:DS r.ms
 lk: ∀z x t,iZ s z x t↔sj r.ms z x t
 en:s.en=r.en
 tr:s.tr=r.tr
 tot:s.total=r.ms.length
 fl:s.fl=DU r.fl
 nf:r.fl.length<=n
abbrev ke (z p q o:Int):Prop:=(0<=z/\z<3)/\bC p q/\0<=o/\o<256
abbrev oQ (z p q n:Int):Prop:=(0<=z/\z<3)/\bC p q/\1<=n/\n<=64
section
variable {s:BS} {r:RB} {n:Nat}
theorem jI.up (R:jI s r n):jI s r (n+1):=⟨R.sk,R.rk,R.uq,R.lk,R.en,R.tr,R.tot,R.fl,by have:=R.nf;omega⟩
inductive eS (s:BS) (z p q o:Int):Int->BS->Prop
 |bad: ¬ke z p q o->eS s z p q o 1 s
 |busy (m:Nat):z=(m:Int)->ke z p q o->busy (s.sp m).hs p q->eS s z p q o 17 s
 |full (m:Nat):z=(m:Int)->ke z p q o-> ¬Ios.busy (s.sp m).hs p q->s.total=256->eS s z p q o 8 s
 |done (m bp:Nat) (A:Option Addr) (c:Nat):z=(m:Int)->ke z p q o-> ¬Ios.busy (s.sp m).hs p q->s.total≠256->eS s z p q o 0 (kZ s m ⟨bp,p,q,o,none,0,[]⟩ A c)
inductive gC (r:RB) (z p q o:Int):Int->RB->Prop
 |bad: ¬ke z p q o->gC r z p q o 1 r
 |busy:ke z p q o->(∃i,i<r.ms.length/\lB r.ms z p q i)->gC r z p q o 17 r
 |full:ke z p q o->(∀i,i<r.ms.length-> ¬lB r.ms z p q i)->r.ms.length=256->gC r z p q o 8 r
 |done (A A2:Option Addr) (c2:Nat):ke z p q o->(∀i,i<r.ms.length-> ¬lB r.ms z p q i)->r.ms.length≠256->gC r z p q o 0 (ld r (dT z p q o A) A2 c2)
theorem wb (a:r.ok): ∀i,i<r.ms.length->1<=(rh r.ms i).len:=λi b=>by have:=(a.each i b).r;grind [bC]
theorem jI.busy (R:jI s r n) {m:Nat} (b:m<3) {p q:Int} (a:1<=q):Ios.busy (s.sp m).hs p q↔ ∃i,i<r.ms.length/\lB r.ms m p q i:=by
 rw[Ll R.sk b a,Lr a (wb R.rk)];constructor
 ·rintro⟨x,t,h1,h2,h3⟩;exact⟨x,t,h1,h2,(R.lk _ _ _).1 h3⟩
 ·rintro⟨x,t,h1,h2,h3⟩;exact⟨x,t,h1,h2,(R.lk _ _ _).2 h3⟩
theorem Ls {q o:Int} (b:aY M) (a:ke C M q o):(dT C M q o F).ok:=
 ⟨a.1.1,a.1.2,b,a.2.1,a.2.2.1,a.2.2.2,by simp[dT],λi=>by grind [dT]⟩
theorem Lu (a:r.ok) {q:RH} (f:q.ok) (g:r.ms.length≠256) (A:Option Addr) (c:Nat):(ld r q A c).ok:=by
 have:=a.max;refine⟨a.en,λi h=>?_,by show(r.ms++[q]).length<=256;grind,a.fl,a.fr,a.tr⟩;show((r.ms++[q]).getD i aW.d).ok;have b:i<r.ms.length+1:=by grind [ld]
 rw[so];by_cases e:i<r.ms.length
 ·rw[if_pos e];exact a.each i e
 grind
theorem jI.map (R:jI s r n) {q o e p:Int} {D:BS} {r2:RB} (E:aY M) (d:eS s C M q o e D) (a:gC r C M q o p r2):e=p/\jI D r2 (n+1):=by
 by_cases g:ke C M q o
 ·have j:1<=q:=g.2.1.1;cases d with
  |bad h=>grind
  |busy m i _ f=>
   subst i;have b:=(R.busy zg j).1 f;cases a with
   |bad h=>grind
   |busy _ _=>exact⟨rfl,R.up⟩
   |full _ h _=>grind
   |done _ _ _ _ h _=>grind
  |full m i _ f F=>
   subst i;have b:=λk=>f ((R.busy zg j).2 k);have l:=R.tot;cases a with
   |bad h=>grind
   |busy _ h=>grind
   |full _ _ _=>exact⟨rfl,R.up⟩
   |done _ _ _ _ _ h=>grind
  |done m G A c i _ f F=>
   subst i;have u:m<3:=zg
   have b:=λk=>f ((R.busy u j).2 k);have l:=R.tot;cases a with
   |bad h=>grind
   |busy _ h=>grind
   |full _ _ h=>grind
   |done v J K _ L z=>
    refine⟨rfl,?_⟩;have N:(⟨G,M,q,o,none,0,[]⟩:MH).ok:=XI E g.2.1 g.2.2.1 g.2.2.2;have w: ∀(x:Int) (t:Tu),cj M q x-> ¬sj r.ms m x t:=λx t H y=>b ((Lr j (wb R.rk)).2 ⟨x,t,H.1,by have:=H.2;omega,y⟩);refine⟨LJ R.sk u N f F A c,Lu R.rk (Ls E g) z J K,XR R.uq w,λC x t=>?_,R.en,R.tr,?_,R.fl,by have:=R.nf;show r.fl.length<=n+1;omega⟩
    ·rw[Lk R.sk u];show _↔sj (r.ms++[dT m M q o v]) C x t;rw[XQ,R.lk];have I:jy ⟨G,M,q,o,none,0,[]⟩ x=yx (dT m M q o v) x:=by
      grind [jy,yx,dT,cf]
     constructor
     ·rintro(⟨d,a,h3,h4⟩|h)
      ·refine .inl ⟨d.symm,⟨a,?_⟩,h4.trans I⟩;have O:x<=M+(q-1):=h3;show x-M<q;omega
      grind
     ·rintro(⟨d,a,h3⟩|h)
      ·have B:M<=x:=a.1;have P:x-M<q:=a.2;exact .inl ⟨d.symm,B,zg,h3.trans I.symm⟩
      grind
    ·show s.total+1=((r.ms++[dT m M q o v]).length:Int)
     grind
 ·cases d with
  |bad _=>cases a with
   |bad _=>exact⟨rfl,R.up⟩
   |busy h=>grind
   |full h=>grind
   |done _ _ _ h=>grind
  |busy _ _ h=>grind
  |full _ _ h=>grind
  |done _ _ _ _ _ h=>grind
inductive rG (s:BS) (z p q:Int):Int->BS->Prop
 |no:(¬ ∃m i:Nat,iC s z p q m i)->rG s z p q 6 s
 |yes (m i:Nat):iC s z p q m i->rG s z p q 0 (hZ s m i)
inductive yz (r:RB) (z p q:Int):Int->RB->Prop
 |no:(∀k,k<r.ms.length-> ¬((rh r.ms k).sp=z/\(rh r.ms k).base=p/\(rh r.ms k).len=q))->yz r z p q 6 r
 |yes (j:Nat) (A:Option Addr) (c:Nat):j<r.ms.length->(rh r.ms j).sp=z/\(rh r.ms j).base=p/\(rh r.ms j).len=q->yz r z p q 0 (nK r j A c)
theorem XT (c:s.ok) {q:Int} (j:iC s C M q u P):(hZ s u P).ok:=by
 obtain⟨_,d,f,_⟩:=j;have r:=sU f;have l:iR (bM (s.sp u).hs P):=by
  have e:=c.sp u d;refine⟨λk n=>?_,λa b g t=>?_⟩
  ·unfold mh;rw[rC _ f];split
   ·exact e.each k zo
   ·exact e.each (k+1) zo
  ·unfold mh;rw[rC _ f,rC _ f];split<;>split
   ·exact e.sort a b g zo
   ·exact e.sort a (b+1) zo zo
   ·omega
   ·exact e.sort (a+1) (b+1) zo zo
 have i:=c.tot;have o:=c.max;refine⟨⟨by show(s.sps.set u _).length=3;rw[qI];exact c.wf.sp,c.wf.en⟩,λk h=>?_,?_,by show s.total-1<=256;omega,c.fl,c.fr,c.tr⟩
 ·rw[rF c d];split
  ·grind
  ·exact c.sp k h
 ·rw[rF c d,rF c d,rF c d];show s.total-1=_
  grind
theorem XU (a:r.ok) (e:u<r.ms.length) (A:Option Addr) (c:Nat):(nK r u A c).ok:=by
 have g:=sU e;have:=a.max;refine⟨a.en,λk b=>?_,by show(bM r.ms u).length<=256;omega,a.fl,a.fr,a.tr⟩;have f:k<(bM r.ms u).length:=b;show((bM r.ms u).getD k aW.d).ok;rw[rC _ e];split
 ·exact a.each k zo
 ·exact a.each (k+1) zo
inductive oS (s:BS) (o:Int) (v:Bool):Int->BS->Prop
 |bad: ¬(0<=o/\o<256)->oS s o v 1 s
 |done:0<=o/\o<256->oS s o v 0 {s with en:=s.en.set o.toNat v}
inductive sq (r:RB) (o:Int) (v:Bool):Int->RB->Prop
 |bad: ¬(0<=o/\o<256)->sq r o v 1 r
 |done:0<=o/\o<256->sq r o v 0 {r with en:=r.en.set o.toNat v}
theorem jI.enb (R:jI s r n) {c:Int} {d:BS} {r2:RB} (f:oS s C U M d) (b:sq r C U c r2):M=c/\jI d r2 (n+1):=by
 cases f with
 |bad h=>cases b with
  |bad _=>exact⟨rfl,R.up⟩
  |done b=>grind
 |done h=>cases b with
  |bad b=>grind
  |done _=>
   have a:=R.rk;exact⟨rfl,R.sk.en _ _,⟨by show(r.en.set _ _).length=256;rw[qI];exact a.en,a.each,a.max,a.fl,a.fr,a.tr⟩,R.uq,R.lk,by show s.en.set _ _=r.en.set _ _;rw[R.en],R.tr,R.tot,R.fl,R.up.nf⟩
inductive we (s:BS) (z p q c:Int):Int->BS->Prop
 |bad: ¬oQ z p q c->we s z p q c 1 s
 |full:oQ z p q c->s.fl.length=64->we s z p q c 8 s
 |done (A:Option Addr) (d:Nat):oQ z p q c->s.fl.length≠64->we s z p q c 0 (kY s ⟨z,p,q,c⟩ A d)
inductive wg (r:RB) (z p q c:Int):Int->RB->Prop
 |bad: ¬oQ z p q c->wg r z p q c 1 r
 |full:oQ z p q c->64<=kb r.fl r.fl.length->wg r z p q c 8 r
 |done (A:Option Addr) (d:Nat):oQ z p q c-> ¬64<=kb r.fl r.fl.length->wg r z p q c 0 (sf r ⟨z,p,q,c⟩ A d)
end
structure RI (s:BS) (h:MH) (m:Nat) (B:Int) (o w:Nat) (v:Int) (t:Nat):Prop where
 ok:s.ok
 e:(s.sp m).hs=[h]
 b:h.base=B
 l:h.len=64
 own:h.own=o
 en:s.en.getD o false=true
 fl:s.fl=[]
 tr:s.tr.length<=t
 by': ∀j,j<w->cf h.bs (16+j)=jx v j
structure RZ where
 t:Nat
 s:BS
 h:MH
theorem XV (c:u<3) (a:et P) (d:0<=C) (b:C%64=0):bZ ⟨u,C+16,P,U,M⟩:=by
 refine⟨a,⟨by show(0:Int)<=u;omega,by show(u:Int)<3;omega⟩,?_⟩;show(C+16).tmod (P:Int)=0;rw[qW zo];rcases a with e|e|e|e<;>rw[e]<;>omega
theorem mU (b:u<3) (a:0<=C):bZ ⟨u,C,1,true,M⟩:=by
 refine⟨.inl rfl,⟨by show(0:Int)<=u;omega,by show(u:Int)<3;omega⟩,?_⟩;show C.tmod 1=0;rw[qW a];omega
section
variable {s:BS} {r:RB} {n:Nat} {a:cD}
structure XW (s:BS) (r:RB) (z x:Int) (m i j:Nat):Prop where
 ez:z=(m:Int)
 lm:m<3
 f:ek s m x=some i
 li:i<(s.sp m).hs.length
 b1:(mh (s.sp m).hs i).base<=x
 b2:x<=(mh (s.sp m).hs i).lst
 g:fR r.ms z x=j
 lj:j<r.ms.length
 h:cJ r.ms z x j
 eb:(mh (s.sp m).hs i).base=(rh r.ms j).base
 el:(mh (s.sp m).hs i).len=(rh r.ms j).len
 eo:(mh (s.sp m).hs i).own=(rh r.ms j).own
 ey:cf (mh (s.sp m).hs i).bs (x-(mh (s.sp m).hs i).base).toNat=cf (rh r.ms j).bs (x-(rh r.ms j).base).toNat
theorem XX (a:r.ok) (c:u<r.fl.length) (h:0<(r.fl.getD u aL.d).cnt):(jG r u).ok:=by
 refine⟨a.en,a.each,a.max,by show(r.fl.set u _).length<=1000;rw[qI];exact a.fl,λi g=>?_,a.tr⟩;have b:i<r.fl.length:=by simpa[jG] using g
 have e:(jG r u).fl.getD i aL.d=if i=u then {r.fl.getD u aL.d with cnt:=(r.fl.getD u aL.d).cnt-1} else r.fl.getD i aL.d:=sX _ _ _ _ _ c
 rw[e];have f:=a.fr u c;split
 ·exact⟨f.1,f.2.1,by show 0<=(r.fl.getD u aL.d).cnt-1;omega,by show(r.fl.getD u aL.d).cnt-1<=64;omega⟩
 ·exact a.fr i b
theorem Lv (a:r.ok) (f:u<r.ms.length) (g:Z.length=(rh r.ms u).bs.length) (h: ∀k,0<=cf Z k/\cf Z k<=255):(dG r u Z).ok:=by
 refine⟨a.en,λk d=>?_,by show(r.ms.set u _).length<=256;rw[qI];exact a.max,a.fl,a.fr,a.tr⟩;have e:k<r.ms.length:=by simpa[dG] using d
 rw[XS f];split
 ·have c:=a.each u f;exact⟨c.s1,c.s2,c.b,c.r,c.o1,c.o2,g.trans c.l,h⟩
 ·exact a.each k e
inductive kg (s:BS) (a:cD):Int->Int->BS->Prop
 |bad: ¬bZ a->kg s a 0 1 s
 |full:bZ a->s.tr.length=65536->kg s a 0 8 s
 |done (A:Option Addr) (c:Nat) (tA:Option Addr) (tc:Nat):bZ a->s.tr.length≠65536->(ka s a->A≠none)->kg s a (nI s a) (nJ s a) (fy s a A c tA tc)
inductive nL (r:RB) (a:cD):Int->Int->RB->Prop
 |bad: ¬bZ a->nL r a 0 1 r
 |full:bZ a->65536<=r.tr.length->nL r a 0 8 r
 |done (r2:RB) (x:Int) (lv fl:Bool) (A:Option Addr) (c:Nat):bZ a-> ¬65536<=r.tr.length->sh r a r2 x lv fl->nL r a (if fl=true then 0 else if a.wr=true then 0 else x) (if fl=true then 15 else 0) (wW r2 ⟨{a with val:=x},eR r.ms a.space a.addr,lv,fl⟩ A c)
theorem zE {s a:BS} (h:a.sps=s.sps) {t:Tu}:iZ a C M t↔iZ s C M t:=by
 unfold iZ BS.sp;rw[h]
inductive rH (s:BS) (z x v:Int):Bool->BS->Prop
 |no:ek s z x=none->rH s z x v false s
 |yes (m i:Nat) (A:Option Addr) (c:Nat):z=(m:Int)->m<3->ek s z x=some i->i<(s.sp m).hs.length->A≠none->rH s z x v true (eD s m i {mh (s.sp m).hs i with A:=A,c:=c,bs:=gu (dF (mh (s.sp m).hs i)) (x-(mh (s.sp m).hs i).base).toNat v 1})
inductive zG (r:RB) (z x v:Int):Bool->RB->Prop
 |no: ¬0<=fR r.ms z x->zG r z x v false r
 |yes (i:Nat):fR r.ms z x=i->i<r.ms.length->zG r z x v true (dG r i ((rh r.ms i).bs.set (x-(rh r.ms i).base).toNat v))
def nM:RB:=⟨none,0,[],List.replicate 256 false,none,0,[],none,0,[]⟩
theorem jI.start:jI mT nM 0 where
 sk:=Ck
 rk:=⟨by show(List.replicate 256 false).length=256;exact qH,λi hi=>absurd hi (Nat.not_lt_zero _),by show 0<=256;omega,by show 0<=1000;omega,λi hi=>absurd hi (Nat.not_lt_zero _),by show 0<=65536;omega⟩
 uq i j z x hi:=absurd hi (Nat.not_lt_zero _)
 lk z x t:=by
  constructor
  ·rintro⟨m,i,_,hm,hi,_⟩;have:(mT.sp m).hs.length=0:=by
    obtain rfl|rfl|rfl:m=0\/m=1\/m=2:=zo
    ·rfl
    ·rfl
    ·rfl
   omega
  ·rintro⟨i,hi,_⟩;exact absurd hi (Nat.not_lt_zero _)
 en:=rfl
 tr:=rfl
 tot:=rfl
 fl:=rfl
 nf:=qU _
end
end Go.Ios
