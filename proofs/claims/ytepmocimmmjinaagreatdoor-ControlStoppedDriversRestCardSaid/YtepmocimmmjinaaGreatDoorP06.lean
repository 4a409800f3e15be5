/-
  Joined.
-/
import Derived.Test.YtepmocimmmjinaaGreatDoorRows
import Derived.JoinedOf
import Derived.ProofKit
import Derived.Test.YtepmocimmmjinaaGreatDoorP02
import Derived.Test.YtepmocimmmjinaaGreatDoorP03
import Derived.Test.YtepmocimmmjinaaGreatDoorP04
import Derived.Test.YtepmocimmmjinaaGreatDoorP05
import Derived.Test.YtepmocimmmjinaaGreatDoorProg
set_option linter.unusedSimpArgs false
set_option linter.unusedVariables false
variable {h:Nat} {y:List Go.Rails.aX} {D:Int} {H:List Int} {J:Go.World} {M:List Go.Sv.aB} {O:List Bool} {Q:Go.Sv.aV} {U:Option Go.Addr} {Z:Nat->Nat->Bool}
namespace Go.Proofs.YtepmocimmmjinaaGreatDoor
open Go Go.RowKit
set_option maxRecDepth 100000 in
theorem GN:laidOutB Tryz.prog=true:=zk
set_option maxRecDepth 100000 in
theorem YG:mapsRowed Tryz.prog=true:=zk
set_option maxRecDepth 100000 in
theorem YH:Tryz.prog.mayEnter=true:=zk
end Go.Proofs.YtepmocimmmjinaaGreatDoor
namespace Go.Dg
open Go.Sv Go.Rails
def kl (g:List Bool) (e:Nat):List aX->Int
 |[]=>0
 |l::r=>kl g e r+if l.con=(e:Int)/\g.getD l.sup.toNat false=false then 1 else 0
def tH (e i:Nat):List aX->Int
 |[]=>0
 |l::r=>tH e i r+if l.con=(e:Int)/\l.sup=(i:Int) then 1 else 0
def fM (links:List aX) (g:List Bool) (i:Nat):Bool:=!g.getD i false&&links.all λl=>!decide (l.con=(i:Int))||g.getD l.sup.toNat false
def iI (f:Nat->Bool) (n:Nat):Nat->Int
 |0=> -1
 |c+1=>if f (n-1-c) then ((n-1-c:Nat):Int) else iI f n c
def jm (links:List aX) (n:Nat):Nat->List Bool->List Int->List Int×List Bool
 |0,g,o=>(o,g)
 |f+1,g,o=>if iI (fM links g) n n<0 then (o,g) else jm links n f (g.set (iI (fM links g) n n).toNat true) (o++[iI (fM links g) n n])
def gF (n:Nat) (links:List aX):List Int×List Bool:=jm links n n (List.replicate n false) []
theorem ui (f:Nat->Bool) (n:Nat): ∀c,c<=n->(iI f n c= -1/\(∀i,n-c<=i->i<n->f i=false))\/ ∃i:Nat,iI f n c=(i:Int)/\n-c<=i/\i<n/\f i=true/\ ∀j,n-c<=j->j<i->f j=false
 |0,_=> .inl ⟨rfl,λi a b=>zo⟩
 |c+1,h=>by
  simp only[iI];by_cases d:f (n-1-c)=true
  ·grind
  ·rw[if_neg d];rcases ui f n c zo with ⟨a,b⟩|⟨i,a,b,e,g,k⟩
   ·grind
   grind
theorem Mm (g:List Bool) (e:Nat): ∀links,0<=kl g e links
 |[]=>by simp[kl]
 |l::r=>by have:=Mm g e r;grind [kl]
theorem uj (g:List Bool) (e:Nat): ∀links,kl g e links=0↔ ∀l∈links,l.con=(e:Int)->g.getD l.sup.toNat false=true
 |[]=>by simp[kl]
 |l::r=>by
  have h0:=Mm g e r;have a:=uj g e r
  grind [kl]
theorem rV:fM y O h=true↔O.getD h false=false/\kl O h y=0:=by
 grind [uj,fM]
theorem Mn (c e:Int) (cs:List Int): ∀k,dz (c::cs) e (k+1)=dz cs e k+if c=e then 1 else 0
 |0=>by grind [dz]
 |k+1=>by
  have a:=Mn c e cs k
  grind [dz]
theorem Mo (e i:Nat): ∀links:List aX,dz (bP links true i) e (bP links true i).length=tH e i links
 |[]=>rfl
 |l::r=>by
  have a:=Mo e i r
  grind [bP,tH,Mn]
theorem Mp (g:List Bool) (e i:Nat) (a:i<g.length) (b:g.getD i false=false): ∀links:List aX,(∀l∈links,0<=l.sup)->kl (g.set i true) e links=kl g e links-tH e i links
 |[],_=>by simp[kl,tH]
 |l::r,h=>by
  have d:=Mp g e i a b r λx c=>h x (List.mem_cons_of_mem _ c)
  grind [kl,tH]
theorem Du: ∀(g:List Bool) (i:Nat),i<g.length->g.getD i false=false->(g.set i true).count false+1=g.count false
 |[],i,h,_=>zg
 |b::r,0,_,h=>zg
 |b::r,i+1,h,hg=>by
  grind
theorem zZ: ∀(g:List Bool),g.count false=0↔ ∀i,i<g.length->g.getD i false=true
 |g=>by
  grind [List.count_eq_zero,List.getElem_of_mem]
structure SI (links:List aX) (n:Nat) (ms:List Int) (g:List Bool):Prop where
 lm:ms.length=n
 lg:g.length=n
 gone: ∀i,i<n->g.getD i false=true->ms.getD i 0<0
 open_: ∀i,i<n->g.getD i false=false->ms.getD i 0=kl g i links
theorem SI.zero (g:SI y h H O) {i:Nat} (a:i<h):H.getD i 0=0↔fM y O i=true:=by
 rw[rV];constructor
 ·intro c;cases b:O.getD i false with
  |true=>have:=g.gone i a b;omega
  |false=>exact⟨rfl,by rw[<-g.open_ i a b];exact c⟩
 ·rintro⟨h1,h2⟩;rw[g.open_ i a h1];exact h2
theorem SI.idx (g:SI y h H O):iI (fM y O) h h=bW 0 H h:=by
 rcases ui (fM y O) h h (qU _) with ⟨a,f⟩|⟨i,a,f,b,e,r⟩
 ·rw[a];symm;rw[uM];intro j k l;have:=(g.zero k).1 l
  grind
 ·have c:bW 0 H h≠ -1:=by
   intro x;rw[uM] at x;exact x i b ((g.zero b).2 e)
  obtain⟨j,m,o,p,q⟩:=qo c;rw[a,m];have s:=(g.zero o).1 p;by_cases d:i<j
  ·exact absurd ((g.zero b).2 e) (q i d)
  grind
theorem SI.step (g:SI y h H O) (m: ∀j,j<y.length->cX h (y.getD j aC.d)) {i:Nat} (p:i<h) (h0:H.getD i 0=0):
 SI y h (bj (H.set i (-1)) (bP y true i) (bP y true i).length) (O.set i true):=by
 have q:=rV.1 ((g.zero p).1 h0);have r: ∀l∈y,0<=l.sup:=by
  grind [List.getElem_of_mem,cX]
 have f: ∀e,e<h->(bj (H.set i (-1)) (bP y true i) (bP y true i).length).getD e 0=(H.set i (-1)).getD e 0-tH e i y:=by
  intro e a;rw[Bb _ _ e (by rw[qI,g.lm];exact a) (λk s=>(BW m true i k s).1) _ (qU _),Mo]
 have o:=λe=>(vh (H.set i (-1)) (bP y true i) (bP y true i).length e).1;refine⟨by rw[mM,qI,g.lm],by rw[qI,g.lg],λe a b=>?_,λe a b=>?_⟩
 ·have:=o e;by_cases c:e=i
  ·subst c;rw[dN _ _ _ _ (by rw[g.lm];exact a)] at this;omega
  ·rw[db _ _ _ (λx=>c x.symm)] at this b;have:=g.gone e a b;omega
 ·by_cases c:e=i
  ·subst c;rw[dN _ _ _ _ (by rw[g.lg];exact a)] at b;grind
  ·rw[db _ _ _ (λx=>c x.symm)] at b;rw[f e a,db _ _ _ (λx=>c x.symm),g.open_ e a b,Mp O e i (by rw[g.lg];exact p) q.1 y r]
theorem Mq {links:List aX} {n:Nat} (a: ∀j,j<links.length->cX n (links.getD j aC.d)): ∀(f:Nat) (ms:List Int) (g:List Bool) (o:List Int),SI links n ms g->hU (bP links true) n f ms o=(jm links n f g o).1
 |0,_,_,_,_=>rfl
 |f+1,ms,g,o,h=>by
  simp only[hU,jm];rw[h.idx];by_cases b:bW 0 ms n= -1
  ·grind
  ·obtain⟨i,c,e,k,_⟩:=qo b;rw[if_neg b,if_neg zo,c,qh];exact Mq a f _ _ _ (h.step a e k)
theorem SI.start {links:List aX} (b: ∀j,j<links.length->cX h (links.getD j aC.d)):SI links h (bt h links) (List.replicate h false):=by
 have a: ∀e,∀ls:List aX,(∀l∈ls,0<=l.sup/\l.sup<h)->kl (List.replicate h false) e ls=hD ls e:=by
  intro e ls
  induction ls with
  |nil=>intro _;rfl
  |cons l r c=>
   intro n;have k:=n l (List.mem_cons_self ..);have:(List.replicate h false).getD l.sup.toNat false=false:=by
    grind
   simp only[kl,hD,this,and_true,c λx f=>n x (List.mem_cons_of_mem _ f)]
   grind
 refine⟨by simp[bt],zm,λi g m=>?_,λi g _=>?_⟩
 ·grind
 grind [bt,List.getElem_of_mem,cX]
theorem Dw (a: ∀j,j<y.length->cX h (y.getD j aC.d)):bQ h y=(gF h y).1:=by
 have n:=SI.start a;unfold bQ gF;rw[Hi _ _ _ h _ _ (qU _) (Hj _ _) n.lm]
 grind [Mq]
structure RI (links:List aX) (n:Nat) (g:List Bool) (m:Nat):Prop where
 len:g.length=n
 cnt:g.count false+m=n
 rank: ∃rk:Nat->Nat,∀i,i<n->g.getD i false=true->rk i<m/\ ∀l∈links,l.con=(i:Int)->g.getD l.sup.toNat false=true/\rk l.sup.toNat<rk i
theorem RI.step {m:Nat} (g:RI y h O m) {i:Nat} (f:i<h) (b:fM y O i=true):RI y h (O.set i true) (m+1):=by
 rw[rV,uj] at b;obtain⟨rk,j⟩:=g.rank;refine⟨by rw[qI,g.len],?_,λe=>if e=i then m else rk e,λe s t=>?_⟩
 ·have:=Du O i (by rw[g.len];exact f) b.1;have:=g.cnt;omega
 ·have a: ∀x,O.getD x false=true->x≠i/\(O.set i true).getD x false=true:=by
   grind
  by_cases k:e=i
  ·subst k;simp only[if_true];refine⟨zo,λl o p=>?_⟩;have c:=b.2 l o p;have d:=a _ c;rw[if_neg d.1];refine⟨d.2,?_⟩;have q:l.sup.toNat<h:=by
    by_cases r:l.sup.toNat<h
    ·exact r
    ·rw[List.getD,List.getElem?_eq_none (by rw[g.len];omega)] at c;grind
   grind
  grind
theorem Dx {links:List aX} {n:Nat}: ∀(f:Nat) (g:List Bool) (o:List Int),RI links n g o.length->g.count false<=f->
 RI links n (jm links n f g o).2 (jm links n f g o).1.length/\ ∀i,i<n->fM links (jm links n f g o).2 i=false
 |0,g,o,h,d=>by
  refine⟨h,λi e=>?_⟩;have:=(zZ g).1 zo i (by rw[h.len];exact e);show fM links g i=false
  grind [fM]
 |f+1,g,o,h,d=>by
  simp only[jm];rcases ui (fM links g) n n (qU _) with ⟨a,j⟩|⟨i,a,j,b,c,k⟩
  ·grind
  ·rw[if_neg zo,a,qh];have:=Du g i (by rw[h.len];exact b) (rV.1 c).1;exact Dx f _ _ (by rw[qD];exact h.step b c) zo
theorem RI.start {links:List aX}:RI links h (List.replicate h false) 0:=by
 refine⟨zm,zm,λ_=>0,λi a b=>?_⟩
 grind
def W0 (links:List aX) (a b:Nat):Bool:=links.any λl=>decide (l.con=(a:Int)/\l.sup=(b:Int))
def wR (k:Nat) (W:Nat->Nat->Bool) (a b:Nat):Bool:=W a b||(W a k&&W k b)
def wI (links:List aX):Nat->Nat->Nat->Bool
 |0=>W0 links
 |k+1=>wR k (wI links k)
theorem Dy (links:List aX) (a b:Nat) (h:W0 links a b=true): ∀k,wI links k a b=true
 |0=>h
 |k+1=>by simp[wI,wR,Dy links a b h k]
theorem Mr (links:List aX): ∀k a b c,c<k->wI links k a c=true->wI links k c b=true->wI links k a b=true
 |0,_,_,_,h,_,_=>zo
 |k+1,a,b,c,h,h1,h2=>by
  have d:=λa b c h=>Mr links k a b c h;simp only[wI,wR,Bool.or_eq_true,qg] at h1 h2 ⊢
  grind
theorem xH (links:List aX) (R:Nat->Nat->Prop) (h0: ∀a b,W0 links a b=true->R a b) (d: ∀a b c,R a c->R c b->R a b): ∀k a b,wI links k a b=true->R a b
 |0,a,b,h=>h0 a b h
 |k+1,a,b,h=>by
  simp only[wI,wR,Bool.or_eq_true,qg] at h;rcases h with h|⟨e,f⟩
  ·exact xH links R h0 d k a b h
  ·exact d a b k (xH links R h0 d k a k e) (xH links R h0 d k k b f)
theorem za {b:Nat}:W0 y h b=true↔ ∃l∈y,l.con=(h:Int)/\l.sup=(b:Int):=by
 grind [W0]
def cT (f:Nat->Bool):Nat->Nat
 |0=>0
 |k+1=>cT f k+if f k then 1 else 0
theorem Ms {f g:Nat->Bool}: ∀k,(∀i,i<k->f i=true->g i=true)->cT f k<=cT g k
 |0,_=>qU _
 |k+1,h=>by
  have a:=Ms k λi b=>h i zo
  grind [cT]
theorem Dz {f g:Nat->Bool}: ∀k j,(∀i,i<k->f i=true->g i=true)->j<k->f j=false->g j=true->cT f k<cT g k
 |0,_,_,h,_,_=>zo
 |k+1,j,h,hj,h1,h2=>by
  simp only[cT];by_cases e:j=k
  ·subst e;have:=Ms j λi a=>h i zo
   grind
  ·have b:=Dz k j (λi a=>h i zo) zo h1 h2
   grind
theorem YI (G: ∀j,j<y.length->cX h (y.getD j aC.d)):(gF h y).1.length=h↔ ∀i,i<h->wI y h i i=false:=by
 have v: ∀l∈y,(0<=l.con/\l.con<h)/\0<=l.sup/\l.sup<h:=by
  grind [List.getElem_of_mem,cX]
 obtain⟨hI,e⟩:=Dx h (List.replicate h false) [] RI.start zm;change RI y h (gF h y).2 (gF h y).1.length at hI;change ∀i,i<h->fM y (gF h y).2 i=false at e;generalize (gF h y).1.length=m at *;generalize (gF h y).2=g at *;have C:=hI.cnt;constructor
 ·intro K i k;have r:=(zZ g).1 zo;obtain⟨rk,w⟩:=hI.rank;cases links:wI y h i i with
  |false=>rfl
  |true=>
   have:=xH y (λa b=>rk b<rk a) (λa b n=>by
    obtain⟨l,p,D,H⟩:=za.1 n;have E:=v l p;have:=((w a zo (r a (by rw[hI.len];omega))).2 l p D).2;simp_all) (λa b c D H=>zo) h i i links
   omega
 ·intro links;by_cases I:g.count false=0
  ·omega
  ·exfalso;have q: ∀f i,i<h->g.getD i false=false->cT (wI y h i) h<=f->False:=by
    intro f
    induction f with
    |zero=>
     intro i k s z;have t:=e i k;rw[Bool.eq_false_iff,Ne,rV,uj] at t;apply t;refine⟨s,λl p A=>?_⟩;exfalso;have E:=v l p;have o:wI y h i l.sup.toNat=true:=Dy y _ _ (za.2 ⟨l,p,A,zo⟩) h;have:=Dz (f:=λ_=>false) h l.sup.toNat (λ_ _ n=>zg) zo z6 o;omega
    |succ f J=>
     intro i k s z;have t:=e i k;rw[Bool.eq_false_iff,Ne,rV,uj] at t;apply t;refine⟨s,λl p A=>?_⟩;cases u:g.getD l.sup.toNat false with
     |true=>rfl
     |false=>
      exfalso;have E:=v l p;have o:wI y h i l.sup.toNat=true:=Dy y _ _ (za.2 ⟨l,p,A,zo⟩) h;refine J l.sup.toNat zo u ?_;have:=Dz h l.sup.toNat (λx u n=>Mr y h i x _ zo o n) zo (links _ zo) o;omega
   have B: ∃i,i<h/\g.getD i false=false:=by
    by_cases F: ∃i,i<h/\g.getD i false=false
    ·exact F
    ·exfalso;apply I;rw[zZ];intro i k;cases u:g.getD i false with
     |true=>rfl
     |false=>exact absurd ⟨i,by rw[hI.len] at k;exact k,u⟩ F
   obtain⟨i,k,s⟩:=B;exact q _ i k s (qU _)
theorem YJ (a: ∀j,j<y.length->cX h (y.getD j aC.d)):(bQ h y).length=h↔ ∀i,i<h->wI y h i i=false:=by
 grind [Dw,YI]
end Go.Dg
namespace Go.Pw
open Go.Sv Go.Rails Go.Dg
theorem OS.cong {α:Type} {e:TypeId} {K:bO α} {ys a:List α} (c:ys.length=a.length) (b:flat K ys=flat K a):OS e K U h ys=OS e K U h a:=by
 grind [OS]
theorem Au {α:Type} {K:bO α} {ys:List α} {y:α} (a:h<ys.length) (m:K.f y=K.f (ys.getD h K.d)):flat K (ys.set h y)=flat K ys:=by
 unfold flat;rw[List.flatMap_def,List.flatMap_def]
 congr 1
 apply List.ext_getElem zm
 grind
def ad:bO Bool where
 f b:=[.bool b]
 sz:=1
 d:=false
 len _:=rfl
 pos:=zd
 one r v hv:=by simp at hv;subst hv;rfl
structure BR where
 A:Option Addr
 c:Nat
 ys:List Bool
def cz:BR:=⟨none,0,[]⟩
def lF:bO BR where
 f r:=[.slice r.A r.ys.length r.c]
 sz:=1
 d:=cz
 len _:=rfl
 pos:=zd
 one r v hv:=by simp at hv;subst hv;rfl
def km (r:BR):aB:=OS 4 ad r.A r.c r.ys
theorem jn (i:aV) (b:BR) (h:(km b).sat J i):RS J ad b.A b.ys:=OS.rs (e:=4) (c:=b.c) h
def je (r:BR) (b:Nat):BR:={r with ys:=r.ys.set b true}
theorem Mt {w:World} {t:TypeId} {a b:Nat} {d:List BR} (c:Hp Q J [OS t lF U h d,OS 4 ad (d.getD a cz).A (d.getD a cz).c ((d.getD a cz).ys.set b true),aF km (d.eraseIdx a)] w) (e:a<d.length):
 Hp Q J [OS t lF U h (d.set a (je (d.getD a cz) b)),aF km (d.set a (je (d.getD a cz) b))] w:=by
 have f:=Hp.unfocus (L:=[_,_]) (k:=1) (hs:=d) (m:=a) (h':=je (d.getD a cz) b) (F:=km) c z6 e;simp_all[OS,lF,je,Au]
theorem YK {w:World} {t:TypeId} {B:Option Addr} {d a:Nat} {b:List BR} (ys:Hp Q J [OS t lF U h (b.set a ⟨B,d,O⟩),aF km b,OS 4 ad B d O] w) (e:a<b.length):
 Hp Q J [OS t lF U h (b.set a ⟨B,d,O⟩),aF km (b.set a ⟨B,d,O⟩)] w:=by
 have f:=Hp.focus ys (k:=1) (m:=a) cz z6 e;have g:Hp Q J ([OS t lF U h (b.set a ⟨B,d,O⟩),OS 4 ad B d O]++[aF km (b.eraseIdx a)]) w:=f.sel [0,1,1] rfl;exact Hp.unfocus (L:=[_,_]) (k:=1) (hs:=b) (m:=a) (h':=⟨B,d,O⟩) (F:=km) g z6 e
def MI (n:Nat) (rows:List BR) (W:Nat->Nat->Bool):Prop:=rows.length=n/\ ∀a,a<n->(rows.getD a cz).ys.length=n/\ ∀b,b<n->(rows.getD a cz).ys.getD b false=W a b
theorem MI.congr {c:List BR} {f:Nat->Nat->Bool} (W:MI h c Z) (e: ∀a b,a<h->b<h->Z a b=f a b):MI h c f:=
 ⟨W.1,λa d=>⟨(W.2 a d).1,λb g=>by rw[(W.2 a d).2 b g,e a b d g]⟩⟩
theorem MI.st {i k:Nat} {c:List BR} {j:Nat->Nat->Bool} (W:MI h c Z) (f:i<h) (p:k<h) (o:j i k=true) (l: ∀a b,a<h->b<h-> ¬(a=i/\b=k)->j a b=Z a b):MI h (c.set i (je (c.getD i cz) k)) j:=by
 refine⟨by rw[qI];exact W.1,λa g=>?_⟩;by_cases e:i=a
 ·subst e;rw[show(c.set i (je (c.getD i cz) k)).getD i cz=je (c.getD i cz) k by simp[List.getD,W.1,f]];refine⟨by simp only[je,qI];exact(W.2 i f).1,λb d=>?_⟩;by_cases m:k=b
  ·subst m;rw[o];have q:=(W.2 i f).1;grind [je]
  ·rw[l i b g d (λx=>m x.2.symm),<-(W.2 i f).2 b d]
   grind [je]
 ·rw[show(c.set i (je (c.getD i cz) k)).getD a cz=c.getD a cz by grind];exact⟨(W.2 a g).1,λb d=>by rw[l a b g d (λx=>e x.1.symm)];exact(W.2 a g).2 b d⟩
theorem Mu (links:List aX) (j a b:Nat) (c:j<links.length):W0 (links.take (j+1)) a b=(W0 (links.take j) a b||decide ((links.getD j aC.d).con=(a:Int)/\(links.getD j aC.d).sup=(b:Int))):=by
 grind [nz,W0]
theorem MI.link {j i k:Nat} {c:List BR} (n:MI h c (W0 (y.take j))) (l:j<y.length) (e:i<h) (f:k<h) (m:(y.getD j aC.d).con=(i:Int)) (o:(y.getD j aC.d).sup=(k:Int)):MI h (c.set i (je (c.getD i cz) k)) (W0 (y.take (j+1))):=
 n.st e f (by grind [Mu]) (λa b p q g=>by
  grind [Mu])
def wP (k:Nat) (W:Nat->Nat->Bool) (A B a b:Nat):Bool:=if a<A\/(a=A/\b<B) then wR k W a b else W a b
theorem YL (k:Nat) (W:Nat->Nat->Bool) (b:Nat):wR k W k b=W k b:=by grind [wR]
theorem MI.beg {k:Nat} {c:List BR} (W:MI h c Z):MI h c (wP k Z 0 0):=W.congr λa b _ _=>by simp[wP]
theorem MI.fin {k:Nat} {c:List BR} (links:MI h c (wP k (wI y k) h 0)):MI h c (wI y (k+1)):=links.congr λa b d _=>by simp[wP,d,wI]
theorem MI.row {k a:Nat} {c:List BR} (W:MI h c (wP k Z a h)):MI h c (wP k Z (a+1) 0):=W.congr λx b _ d=>by
 grind [wP]
theorem MI.skip {k a:Nat} {c:List BR} (W:MI h c (wP k Z a 0)) (d:Z a k=false):MI h c (wP k Z (a+1) 0):=W.congr λx b _ e=>by
 grind [wP,wR]
theorem MI.rowv {k a:Nat} {b:List BR} (W:MI h b (wP k Z a 0)) (c:a<h) (d:k<h):(b.getD a cz).ys.getD k false=Z a k:=by
 rw[(W.2 a c).2 k d];simp[wP]
theorem MI.kv {k a b:Nat} {c:List BR} (W:MI h c (wP k Z a b)) (d:b<h) (e:k<h):(c.getD k cz).ys.getD b false=Z k b:=by
 rw[(W.2 k e).2 b d];grind [wP,YL]
theorem MI.one {k a b:Nat} {c:List BR} (W:MI h c (wP k Z a b)) (d:a<h) (e:b<h) (g:Z a k=true) (i:Z k b=true):MI h (c.set a (je (c.getD a cz) b)) (wP k Z a (b+1)):=
 W.st d e (by grind [wP,wR]) (λx y j l f=>by
  grind [wP])
theorem MI.zero {k a b:Nat} {c:List BR} (W:MI h c (wP k Z a b)) (d:a<h) (e:b<h) (f:Z k b=false):MI h c (wP k Z a (b+1)):=W.congr λx y g i=>by
 grind [wP,wR]
theorem MI.new {c:List BR} (n:c.length=h) (d: ∀a,a<h->(c.getD a cz).ys=List.replicate h false):MI h c (W0 []):=
 ⟨n,λa e=>⟨zg,λb f=>by grind [W0]⟩⟩
def jo (n:Int) (links:List aX):Bool:=decide (n<0\/128<n\/(1024:Int)<links.length)||!links.all λl=>decide (cX n l)
theorem xI:jo D y=false↔ ¬(D<0\/128<D\/(1024:Int)<y.length)/\ ∀j,j<y.length->cX D (y.getD j aC.d):=by
 grind [jo,List.getElem_of_mem]
theorem zb (h:D<0\/128<D\/(1024:Int)<y.length):true=jo D y:=by
 grind [xI]
theorem xJ (a:h<y.length) (j: ¬cX D (y.getD h aC.d)):true=jo D y:=by
 grind [xI]
theorem Mv (h:jo D y=true):ec D y=1:=by
 grind [ec,xI]
theorem Mw (h:jo D y=false):ec D y=if y.Nodup then 0 else 7:=by
 grind [xI,ec]
theorem EA (links:ec h y=0):aQ h y=if ∀i,i<h->wI y h i i=false then 0 else 18:=by
 have a:=uN links
 grind [YJ,aQ]
theorem YM (a:h<y.length) (j: ∀i,i<h->y.getD h aC.d≠y.getD i aC.d): ¬y.getD h aC.d∈y.take h:=by
 grind [List.getElem_of_mem]
theorem YN {k:Nat} (a:h<y.length) (b:k<h) (j:y.getD h aC.d=y.getD k aC.d): ¬y.Nodup:=by
 refine Ha y h a ?_;rw[j];have:(y.take h)[k]' zg=y.getD k aC.d:=zg
 grind
theorem YO {b:List BR} {i:Nat} (c:b.length=h) (d:i<h) (B: ∀a,a<i->(b.getD a cz).ys=List.replicate h false): ∀a,a<i+1->((b.set i ⟨U,h,List.replicate h false⟩).getD a cz).ys=List.replicate h false:=by
 grind [db]
def iY (links:List aX) (g:List Bool) (i k:Nat):Bool:=!g.getD i false&&(links.take k).all λl=>!decide (l.con=(i:Int))||g.getD l.sup.toNat false
theorem Lh (links:List aX) (g:List Bool) (i:Nat):iY links g i 0=!g.getD i false:=by simp[iY]
theorem EB (links:List aX) (g:List Bool) (i:Nat):iY links g i links.length=fM links g i:=by simp[iY,fM]
theorem EC {k:Nat} (a:k<y.length):iY y O h (k+1)=(iY y O h k&&(!decide ((y.getD k aC.d).con=(h:Int))||O.getD (y.getD k aC.d).sup.toNat false)):=by
 rw[iY,nz y k aC.d a,List.all_append];simp[iY,Bool.and_assoc]
theorem Mx {links:List aX} {g:List Bool} {i k:Nat} (h:iY links g i k=false): ∀d,k+d<=links.length->iY links g i (k+d)=false
 |0,_=>h
 |d+1,hd=>by rw[<-Nat.add_assoc,EC zo,Mx h d zo];rfl
theorem zf {k:Nat} (i:iY y O h k=false) (a:k<=y.length):fM y O h=false:=by
 rw[<-EB];have:=Mx i (y.length-k) zo;rwa [show k+(y.length-k)=y.length by omega] at this
theorem My {k j:Nat} (a:k<y.length) (i:iY y O h k=true) (b:(y.getD k aC.d).con=(h:Int)) (c:(y.getD k aC.d).sup=(j:Int)):iY y O h (k+1)=O.getD j false:=by
 rw[EC a,i,b,c];simp
theorem YP {k:Nat} (a:k<y.length) (i:iY y O h k=true) (b:(y.getD k aC.d).con≠(h:Int)):iY y O h (k+1)=true:=by
 rw[EC a,i,qQ b];rfl
theorem Mz {f:Nat->Bool} {c:Nat} (n:f (h-1-c)=true):iI f h (c+1)=((h-1-c:Nat):Int):=by simp[iI,n]
theorem YQ {f:Nat->Bool} {c:Nat} (n:f (h-1-c)=false):iI f h (c+1)=iI f h c:=by simp[iI,n]
theorem YR (f:Nat->Bool) (n c:Nat) (h:c<=n): -1<=iI f n c/\iI f n c<n:=by
 rcases ui f n c h with ⟨a,_⟩|⟨i,a,_,b,_⟩<;>omega
structure mW (links:List aX) (n:Nat) (g:List Bool) (o:List Int):Prop where
 len:g.length=n
 cnt:o.length+g.count false=n
 run: ∃f,g.count false<=f/\jm links n f g o=gF n links
theorem mW.start (links:List aX) (n:Nat):mW links n (List.replicate n false) []:=⟨zm,zm,n,zm,rfl⟩
theorem mW.stop (o:mW y h O H) (a:iI (fM y O) h h<0):gF h y=(H,O):=by
 obtain⟨f,_,b⟩:=o.run;rw[<-b];cases f with
 |zero=>rfl
 |succ f=>rw[jm,if_pos a]
theorem mW.fr {i:Nat} (d:iI (fM y O) h h=(i:Int)):i<h/\O.getD i false=false:=by
 rcases ui (fM y O) h h (qU _) with ⟨a,_⟩|⟨j,a,e,b,c,_⟩
 ·omega
 ·have:i=j:=zo
  subst this;exact⟨b,(rV.1 c).1⟩
theorem mW.next {i:Nat} (o:mW y h O H) (a:iI (fM y O) h h=(i:Int)):mW y h (O.set i true) (H++[(i:Int)])/\(O.set i true).count false<O.count false:=by
 have b:=mW.fr a;have d:=Du O i (by rw[o.len];exact b.1) b.2;obtain⟨f,e,c⟩:=o.run;have j:=o.cnt;refine⟨⟨by rw[qI];exact o.len,by rw[qD,List.length_singleton];omega,?_⟩,zo⟩;cases f with
 |zero=>omega
 |succ f=>refine⟨f,zo,?_⟩;rw[jm,if_neg zo,a,qh] at c;exact c
theorem YS (links:ec h y≠0):aQ h y=ec h y:=by rw[aQ,if_pos links]
theorem YT {i:Nat} (links:ec h y=0) (a:i<h) (b:wI y h i i=true):aQ h y=18:=by
 rw[EA links,if_neg];intro x;have:=x i a;rw[b] at this;exact absurd this zm
theorem YU (links:ec h y=0) (a: ∀i,i<h->wI y h i i=false):aQ h y=0:=by rw[EA links,if_pos a]
theorem NA (links:aQ h y=0):ec h y=0:=by
 by_cases a:ec h y=0
 ·exact a
 ·rw[aQ,if_pos a] at links;exact links
theorem NB (links:aQ h y=0):(bQ h y).length=h:=by
 have a:=NA links;simp only[aQ,a] at links;by_cases e:(bQ h y).length=h
 ·exact e
 ·rw[if_neg zm,if_pos zo] at links;exact absurd links zm
end Go.Pw
namespace Go.Sv
section
variable {P:Program} {N:NN} {E:Env} {ty:TypeId} {pos:String} {af:Array Edge} {g:Option (Nat×Bool)} {x:Operand}
theorem V5 {S:World->Prop} {t c:TypeId} {ze:Value} {by_ q b o:Nat} {dd:Option Nat} (m:P.underlying t=some (.array q c)) (i:TI P c ze h by_) (j:ev E x=some (.pointer (some ⟨b,o,none⟩))):
 Step P N E S ⟨dd,.slice t x none none none,ty,pos,af,g⟩ (.slice (some ⟨b,o,none⟩) q q):=λa w k _=>by
 have d:P.arrayLen t=q:=by grind [Program.arrayLen]
 have e:P.elem t=c:=by grind [Program.elem]
 have f:=run_sliceAt_array_all (P:=P) w t ⟨b,o,none⟩ zg;rw[d,e] at f;simp only[i.sizeOf,Result.andThen_ok] at f;have l:slicedAt ⟨b,o,none⟩ 0 q q h= .slice (some ⟨b,o,none⟩) q q:=by
  grind [slicedAt,Addr.add]
 rw[l] at f;simp only[execOp,k.ev j,Option.map_none,Sem.run_bind,f,Result.andThen_ok,Sem.run_pure]
end
theorem Hp.cellsO {w:World} (b:Hp Q J M w) (k o:Nat) (vs:List Value) {cs:Array Value} {t:TypeId} {a:Nat×Nat} (c:M[k]?=some (aU h (.cells cs t a))) (d:(cs.toList.drop o).take vs.length=vs):
 ∀j v,vs[j]?=some v->w.cell? ⟨h,o+j,none⟩=some v:=λj v e=>by
 rw[dy (b.blk k c)]
 grind
end Go.Sv
namespace Go.Pw
open Go.Sv Go.Rails Go.Dg
structure au where
 par:Int
 r0:Hd
 r1:Hd
 r2:Hd
 r3:Hd
 d0:Int
 d1:Int
 d2:Int
 d3:Int
 d4:Int
 d5:Int
 wd:Int
 ws:Int
def bN:Hd:=⟨none,0,[]⟩
def zh:au:=⟨0,bN,bN,bN,bN,0,0,0,0,0,0,0,0⟩
def au.rl (d:au):Nat->Hd
 |0=>d.r0
 |1=>d.r1
 |2=>d.r2
 |_=>d.r3
def au.dp (d:au):Nat->Int
 |0=>d.d0
 |1=>d.d1
 |2=>d.d2
 |3=>d.d3
 |4=>d.d4
 |_=>d.d5
def au.dl (d:au):List Int:=[d.d0,d.d1,d.d2,d.d3,d.d4,d.d5]
def sl (h:Hd):Value:= .slice h.A h.ys.length h.c
def dH (d:au):List Value:=[.int .i64 d.par,.slice d.r0.A d.r0.ys.length d.r0.c,.slice d.r1.A d.r1.ys.length d.r1.c,.slice d.r2.A d.r2.ys.length d.r2.c,.slice d.r3.A d.r3.ys.length d.r3.c,.int .i64 d.d0,.int .i64 d.d1,.int .i64 d.d2,.int .i64 d.d3,.int .i64 d.d4,.int .i64 d.d5,.int .i64 d.wd,.int .i64 d.ws]
def aM:bO au where
 f:=dH
 sz:=13
 d:=zh
 len _:=rfl
 pos:=zd
 one r v hv:=by simp[dH] at hv;rcases hv with rfl|rfl|rfl|rfl|rfl|rfl|rfl|rfl|rfl|rfl|rfl|rfl|rfl<;>rfl
theorem pO (d:au): ∀ {k:Nat},k<4->(dH d).toArray.toList[0+1+k* 1]?=some (.slice (d.rl k).A (d.rl k).ys.length (d.rl k).c)
 |0,_=>rfl
 |1,_=>rfl
 |2,_=>rfl
 |3,_=>rfl
 |k+4,h=>zo
theorem tI (d:au): ∀ {k:Nat},k<6->(dH d).toArray.toList[0+5+k* 1]?=some (.int .i64 (d.dp k))
 |0,_=>rfl
 |1,_=>rfl
 |2,_=>rfl
 |3,_=>rfl
 |4,_=>rfl
 |5,_=>rfl
 |k+6,h=>zo
def dU (ys:List Int):Prop:= ∀i,i<ys.length->0<i->ys.getD (i-1) (aD .i64).d<ys.getD i (aD .i64).d
def nW (ys:List Int):Prop:= ∀i,i<ys.length->0<i->ys.getD (i-1) (aD .i64).d<=ys.getD i (aD .i64).d
def eF (m:Int) (ys:List Int):Prop:= ∀i,i<ys.length->0<=ys.getD i (aD .i64).d/\ys.getD i (aD .i64).d<m
instance(ys:List Int):Decidable (dU ys):=inferInstanceAs (Decidable (∀i,i<ys.length->0<i->ys.getD (i-1) (aD .i64).d<ys.getD i (aD .i64).d))
instance(ys:List Int):Decidable (nW ys):=inferInstanceAs (Decidable (∀i,i<ys.length->0<i->ys.getD (i-1) (aD .i64).d<=ys.getD i (aD .i64).d))
instance(m:Int) (ys:List Int):Decidable (eF m ys):=inferInstanceAs (Decidable (∀i,i<ys.length->0<=ys.getD i (aD .i64).d/\ys.getD i (aD .i64).d<m))
theorem ED {ys:List Int} (h:dU ys): ∀d i,i+d<ys.length->ys.getD i (aD .i64).d+d<=ys.getD (i+d) (aD .i64).d
 |0,i,_=>zm
 |d+1,i,hd=>by
  have a:=ED h d i zo;have b:=h (i+d+1) zo zo
  grind
theorem YV (h:dU H):eF D H↔(0<H.length->0<=H.getD 0 (aD .i64).d/\H.getD (H.length-1) (aD .i64).d<D):=by
 constructor
 ·intro a b;exact⟨(a 0 b).1,(a _ zo).2⟩
 ·intro c i e;have:=c zo;have f:=ED h i 0 zo;have g:=ED h (H.length-1-i) i zo
  grind
def tJ (d:au) (m:Int):Prop:= ∀k,k<4->dU (d.rl k).ys/\eF m (d.rl k).ys
def pP (d:au):Prop:=d.d0=0/\nW d.dl/\d.d5<=4
instance(d:au) (m:Int):Decidable (tJ d m):=inferInstanceAs (Decidable (∀k,k<4->dU (d.rl k).ys/\eF m (d.rl k).ys))
instance(d:au):Decidable (pP d):=inferInstanceAs (Decidable (_/\_/\_))
def au.ok (d:au) (i m:Int):Prop:=(-1<=d.par/\d.par<i)/\tJ d m/\pP d/\(0<=d.ws/\d.ws<=4)/\0<=d.wd/\d.wd<=3
instance(d:au) (i m:Int):Decidable (d.ok i m):=inferInstanceAs (Decidable (_/\_/\_/\_/\_))
theorem xK (d:au):pP d↔d.d0=0/\ ∀k,k<6->(0<=d.dp k/\d.dp k<=4)/\(0<k->d.dp (k-1)<=d.dp k):=by
 have e:nW d.dl↔d.d0<=d.d1/\d.d1<=d.d2/\d.d2<=d.d3/\d.d3<=d.d4/\d.d4<=d.d5:=by
  constructor
  ·intro h;exact⟨h 1 (by show 1<6;decide) zd,h 2 (by show 2<6;decide) zd,h 3 (by show 3<6;decide) zd,h 4 (by show 4<6;decide) zd,h 5 (by show 5<6;decide) zd⟩
  ·rintro⟨h1,h2,h3,h4,h5⟩ i a b;have a:i<6:=a
   match i,a,b with
   |1,_,_=>exact h1
   |2,_,_=>exact h2
   |3,_,_=>exact h3
   |4,_,_=>exact h4
   |5,_,_=>exact h5
   |0,_,b=>omega
   |i+6,a,_=>omega
 unfold pP;rw[e];constructor
 ·rintro⟨h0,⟨h1,h2,h3,h4,h5⟩,h6⟩;refine⟨h0,λk c=>?_⟩
  match k,c with
  |0,_=>exact⟨⟨by show 0<=d.d0;omega,by show d.d0<=4;omega⟩,λh=>zo⟩
  |1,_=>exact⟨⟨by show 0<=d.d1;omega,by show d.d1<=4;omega⟩,λ_=>h1⟩
  |2,_=>exact⟨⟨by show 0<=d.d2;omega,by show d.d2<=4;omega⟩,λ_=>h2⟩
  |3,_=>exact⟨⟨by show 0<=d.d3;omega,by show d.d3<=4;omega⟩,λ_=>h3⟩
  |4,_=>exact⟨⟨by show 0<=d.d4;omega,by show d.d4<=4;omega⟩,λ_=>h4⟩
  |5,_=>exact⟨⟨by show 0<=d.d5;omega,h6⟩,λ_=>h5⟩
  |k+6,c=>omega
 ·rintro⟨h0,h⟩;exact⟨h0,⟨(h 1 zd).2 zd,(h 2 zd).2 zd,(h 3 zd).2 zd,(h 4 zd).2 zd,(h 5 zd).2 zd⟩,(h 5 zd).1.2⟩
def ew (ds:List au) (m:Int):Int:=if (64:Int)<ds.length\/m<0\/64<m then 1 else if ∀i,i<ds.length->(ds.getD i aM.d).ok i m then 0 else 1
theorem uk {ds:List au} (h:(64:Int)<ds.length\/D<0\/64<D):ew ds D=1:=by grind [ew]
theorem pQ {ds:List au} (a:h<ds.length) (i: ¬(ds.getD h aM.d).ok h D):ew ds D=1:=by
 grind [ew]
theorem EE {ds:List au} (h: ¬((64:Int)<ds.length\/D<0\/64<D)) (a: ∀i,i<ds.length->(ds.getD i aM.d).ok i D):ew ds D=0:=by grind [ew]
theorem YW {ds:List au} (h:ew ds D=0):ds.length<=64/\(0<=D/\D<=64)/\ ∀i,i<ds.length->(ds.getD i aM.d).ok i D:=by
 grind [ew]
def au.rs (d:au) (w:World):Prop:= ∀k,k<4->RS w (aD .i64) (d.rl k).A (d.rl k).ys
def au.sm (d:au) (b:Nat):Prop:= ∀k,k<4->(d.rl k).ys.length<=b
theorem RS.inBlk {o:Nat} {cs:Array Value} {t:TypeId} {a:Nat×Nat} (ys:J.heap[h]?=some (.cells cs t a)) (c: ∀j v,(flat (aD .i64) H)[j]?=some v->cs[o+j]?=some v):RS J (aD .i64) (some ⟨h,o,none⟩) H:=
 .inr ⟨cs,t,a,rfl,ys,c⟩
theorem YX (d:au): ∀j v,(flat (aD .i64) d.dl)[j]?=some v->(dH d).toArray[5+j]?=some v:=by
 intro j v h
 match j,h with
 |0,h=>exact h
 |1,h=>exact h
 |2,h=>exact h
 |3,h=>exact h
 |4,h=>exact h
 |5,h=>exact h
 |j+6,h=>cases h
end Go.Pw
namespace Go.Sv
theorem Hp.nilBig {w:World} {β:Type} {F:β->aB} (h:Hp Q J M w):Hp Q J (M++[aF F []]) w:=by
 obtain⟨I,a,b,c⟩:=h;exact⟨I,Sep.append.2 ⟨I,λ_=>False,λx=>zm,λ_ _ h=>h,a,λ_=>False,λ_=>False,λx=>zm,λ_ h=>h.elim,(λ_ h=>h:Sep [] (λ_=>False) w),λ_ h=>h⟩,b,c⟩
end Go.Sv
namespace Go.Pw
open Go.Sv Go.Rails Go.Dg
def au.setR (d:au) (k:Nat) (h:Hd):au:=match k with
 |0=>{d with r0:=h}
 |1=>{d with r1:=h}
 |2=>{d with r2:=h}
 |_=>{d with r3:=h}
def au.rls (d:au):List Hd:=[d.r0,d.r1,d.r2,d.r3]
theorem EF (d:au): ∀ {k:Nat} (h:Hd),k<4->((dH d).toArray.toList.take (0+1+k* 1)++[Value.slice h.A h.ys.length h.c]++(dH d).toArray.toList.drop (0+1+k* 1+[Value.slice h.A h.ys.length h.c].length)).toArray=(dH (d.setR k h)).toArray
 |0,_,_=>rfl
 |1,_,_=>rfl
 |2,_,_=>rfl
 |3,_,_=>rfl
 |k+4,_,h=>zo
structure lq (d e:au) (k:Nat):Prop where
 par:e.par=d.par
 dl:e.dl=d.dl
 wd:e.wd=d.wd
 ws:e.ws=d.ws
 ys: ∀j,j<4->(e.rl j).ys=(d.rl j).ys
 old: ∀j,k<=j->j<4->e.rl j=d.rl j
theorem lq.refl (d:au):lq d d 0:=⟨rfl,rfl,rfl,rfl,λ_ _=>rfl,λ_ _ _=>rfl⟩
theorem lq.step {d e:au}: ∀ {k:Nat},lq d e k->k<4-> ∀ {A:Option Addr} {c:Nat},lq d (e.setR k ⟨A,c,(d.rl k).ys⟩) (k+1):=by
 intro k h f A c
 match k,f,h with
 |0,_,h=>exact⟨h.par,h.dl,h.wd,h.ws,λj a=>by match j,a with|0,_=>rfl|1,_=>exact h.ys 1 zd|2,_=>exact h.ys 2 zd|3,_=>exact h.ys 3 zd|j+4,a=>omega,λj b a=>by match j,a,b with|1,_,_=>exact h.old 1 zd zd|2,_,_=>exact h.old 2 zd zd|3,_,_=>exact h.old 3 zd zd|0,_,b=>omega|j+4,a,_=>omega⟩
 |1,_,h=>exact⟨h.par,h.dl,h.wd,h.ws,λj a=>by match j,a with|0,_=>exact h.ys 0 zd|1,_=>rfl|2,_=>exact h.ys 2 zd|3,_=>exact h.ys 3 zd|j+4,a=>omega,λj b a=>by match j,a,b with|2,_,_=>exact h.old 2 zd zd|3,_,_=>exact h.old 3 zd zd|0,_,b=>omega|1,_,b=>omega|j+4,a,_=>omega⟩
 |2,_,h=>exact⟨h.par,h.dl,h.wd,h.ws,λj a=>by match j,a with|0,_=>exact h.ys 0 zd|1,_=>exact h.ys 1 zd|2,_=>rfl|3,_=>exact h.ys 3 zd|j+4,a=>omega,λj b a=>by match j,a,b with|3,_,_=>exact h.old 3 zd zd|0,_,b=>omega|1,_,b=>omega|2,_,b=>omega|j+4,a,_=>omega⟩
 |3,_,h=>exact⟨h.par,h.dl,h.wd,h.ws,λj a=>by match j,a with|0,_=>exact h.ys 0 zd|1,_=>exact h.ys 1 zd|2,_=>exact h.ys 2 zd|3,_=>rfl|j+4,a=>omega,λj b a=>zo⟩
 |k+4,f,_=>omega
theorem NC (e:au) (h:Hd): ∀ {k:Nat},k<4->(e.setR k h).rls.take (k+1)=e.rls.take k++[h]
 |0,_=>rfl
 |1,_=>rfl
 |2,_=>rfl
 |3,_=>rfl
 |k+4,h=>zo
def cm (d:au):aB:=aF cb d.rls
structure TT where
 b:Nat
 dA:Option Addr
 dc:Nat
 es:List au
 sA:Option Addr
 sc:Nat
 st:List Int
 rb:Nat
 ra:RA
 rs:St
 clk:Int
def zj (t:TT):List aB:=[aU t.b (.cells #[.slice t.dA t.es.length t.dc,.slice t.sA t.st.length t.sc,.pointer (some ⟨t.rb,0,none⟩),.int .u64 t.clk] 255 (0,0)),OS 60 aM t.dA t.dc t.es,aF cm t.es,OS 3 (aD .i64) t.sA t.sc t.st]++aa 404 t.rb t.ra t.rs
structure TG where
 es:List au
 dA:Option Addr
 dc:Nat
 sA:Option Addr
 sc:Nat
 st:List Int
def lr (ds es:List au):Prop:= ∀j,j<es.length->lq (ds.getD j aM.d) (es.getD j aM.d) 4
theorem lr.snoc {ds es:List au} {e:au} (h:lr ds es) (c:lq (ds.getD es.length aM.d) e 4):lr ds (es++[e]):=by
 intro j a;rw[qD] at a;by_cases b:j<es.length
 ·have:=h j b;grind
 grind
def cZ (ds:List au) (rs:List ag):Int:=if ew ds rs.length≠0 then ew ds rs.length else cS rs
structure pR where
 b:Nat
 A:Option Addr
 n:Nat
 c:Nat
 sA:Option Addr
 sc:Nat
 st:List Int
 rb:Nat
 ra:RA
 rs:St
 clk:Int
def gX (t:pR):List aB:=[aU t.b (.cells #[.slice t.A t.n t.c,.pointer (some ⟨t.rb,0,none⟩),.slice t.sA t.st.length t.sc,.int .u64 t.clk] 327 (0,0)),OS 3 (aD .i64) t.sA t.sc t.st]++aa 396 t.rb t.ra t.rs
theorem ND {ds:List au} {rs:List ag} (h: ¬ew ds rs.length≠0):cZ ds rs=ej rs:=by grind [cZ,IB]
structure cu where
 par:Int
 sup:Hd
 dly:Int
def NF:cu:=⟨0,⟨none,0,[]⟩,0⟩
def ar:bO cu where
 f d:=[.int .i64 d.par,.slice d.sup.A d.sup.ys.length d.sup.c,.int .u64 d.dly]
 sz:=3
 d:=NF
 len _:=rfl
 pos:=zd
 one r v hv:=by simp at hv;rcases hv with rfl|rfl|rfl<;>rfl
def cv (i:Nat) (d:cu) (k:Nat):List aX:=(if 0<=d.par then [⟨i,d.par⟩] else [])++(d.sup.ys.take k).map λs=>⟨i,s⟩
def aj (ids:List cu):Nat->List aX
 |0=>[]
 |i+1=>aj ids i++cv i (ids.getD i ar.d) (ids.getD i ar.d).sup.ys.length
def bh (n:Int) (d:cu):Prop:=d.par< -1\/n<=d.par\/1048576<d.dly\/(1024:Int)<d.sup.ys.length
instance(n:Int) (d:cu):Decidable (bh n d):=inferInstanceAs (Decidable (_\/_\/_\/_))
def bI (ids:List cu):Int:=if (64:Int)<ids.length\/ ∃i,i<ids.length/\bh ids.length (ids.getD i ar.d) then 1 else aQ ids.length (aj ids ids.length)
theorem NG {ids:List cu} (h:(64:Int)<ids.length):bI ids=1:=by grind [bI]
theorem rW {ids:List cu} (a:h<ids.length) (i:bh ids.length (ids.getD h ar.d)):bI ids=1:=by grind [bI]
theorem um {ids:List cu} (h: ¬(64:Int)<ids.length) (a: ∀i,i<ids.length-> ¬bh ids.length (ids.getD i ar.d)):bI ids=aQ ids.length (aj ids ids.length):=by
 grind [bI]
theorem NH (links:jo h y=true):aQ h y=1:=by
 grind [Mv,aQ]
theorem YY (links:(1024:Int)<y.length):aQ h y=1:=NH (zb (.inr (.inr links))).symm
theorem NI {l:aX} (a:l∈y) (links: ¬cX h l):aQ h y=1:=by
 grind [List.getElem_of_mem,NH,xJ]
theorem EG {ids:List cu} {l:aX}: ∀ {i m:Nat},i<m->l∈cv i (ids.getD i ar.d) (ids.getD i ar.d).sup.ys.length->l∈aj ids m
 |i,0,h,_=>zo
 |i,m+1,h,hl=>by
  rw[aj,List.mem_append];by_cases e:i=m
  ·grind
  ·exact .inl (EG zo hl)
theorem NJ {ids:List cu} {k:Nat} (a:h<ids.length) (b:k<(ids.getD h ar.d).sup.ys.length) (i:(ids.getD h ar.d).sup.ys.getD k (aD .i64).d<0\/ids.length<=(ids.getD h ar.d).sup.ys.getD k (aD .i64).d):bI ids=1:=by
 unfold bI;split
 ·rfl
 ·refine NI (l:=⟨h,(ids.getD h ar.d).sup.ys.getD k (aD .i64).d⟩) (EG a ?_) (by grind [cX])
  grind [cv]
theorem tM (i:Nat) (d:cu) (k:Nat):(cv i d k).length<=1+k:=by
 grind [cv]
theorem uo {d:cu} {k:Nat} (a:k<d.sup.ys.length):cv h d (k+1)=cv h d k++[⟨h,d.sup.ys.getD k (aD .i64).d⟩]:=by
 grind [cv,List.take_succ_eq_append_getElem]
theorem zl {d:cu} (i:0<=d.par):cv h d 0=[⟨h,d.par⟩]:=by simp[cv,i]
theorem zn {d:cu} (i: ¬0<=d.par):cv h d 0=[]:=by simp[cv,i]
theorem tN {ids:List cu}: ∀ {m:Nat},(∀i,i<m->(ids.getD i ar.d).sup.ys.length<=1024)->(aj ids m).length<=m* 1025
 |0,_=>by simp[aj]
 |m+1,h=>by
  have a:=tN (m:=m) λi b=>h i zo
  grind [tM,aj]
end Go.Pw
namespace Go.Pw
open Go.Sv Go.Rails
def fD (l:List Int):Prop:= ∀i,i<l.length->(l.getD i (aD .u64).d).tmod 256=0
instance(l:List Int):Decidable (fD l):=inferInstanceAs (Decidable (∀i,i<l.length->(l.getD i (aD .u64).d).tmod 256=0))
def fZ (x:Int):Prop:=x.tmod 4=0/\x<256
instance(x:Int):Decidable (fZ x):=inferInstanceAs (Decidable (_/\_))
end Go.Pw
namespace Go.Pw
open Go.Sv Go.Drv
def kn (t:Tr):Prop:=fZ t.gd.reg/\ ∀k,k<t.ops.length->fZ (t.ops.getD k ax.d).reg
instance(t:Tr):Decidable (kn t):=inferInstanceAs (Decidable (_/\ ∀k,k<t.ops.length->fZ (t.ops.getD k ax.d).reg))
def gZ (ts:List Tr):Prop:= ∀i,i<ts.length->kn (ts.getD i ed)
instance(ts:List Tr):Decidable (gZ ts):=inferInstanceAs (Decidable (∀i,i<ts.length->kn (ts.getD i ed)))
theorem NK (hs:List TH) (a:h<hs.length):(hs.map (·.t)).getD h ed=(hs.getD h aK.d).t:=by simp[List.getD,a]
theorem NL {hs:List TH} (h: ∀i,i<hs.length->kn (hs.getD i aK.d).t):gZ (hs.map (·.t)):=λi a=>by rw[qE] at a;rw[NK hs a];exact h i a
theorem ur {hs:List TH} (i:gZ (hs.map (·.t))) (a:h<hs.length):kn (hs.getD h aK.d).t:=by
 have:=i h (by rw[qE];exact a);rwa [NK hs a] at this
theorem ut {s:Bs} (h:(eH s).1=0):Go.Drv.aQ (eH s).2=0:=by
 unfold eH at h ⊢;cases b:be jc (eA s) with
 |none=>rw[b] at h;exact absurd h zd
 |some p=>
  rw[b] at h;simp only at h ⊢;unfold fU at h ⊢;by_cases c:p.named=false
  ·rw[if_pos c] at h;exact absurd h zd
  ·rw[if_neg c] at h ⊢;by_cases d: ¬p.ss.Nodup
   ·rw[if_pos d] at h;exact absurd h zd
   ·rw[if_neg d] at h ⊢;cases e:gr p.ss p.ts p.tg with
    |none=>rw[e] at h;simp at h
    |some f=>
     rw[e] at h;simp only at h ⊢;by_cases a:Go.Drv.aQ ⟨p.name,p.ss,f⟩=0
     ·rw[if_pos a];exact a
     ·rw[if_neg a] at h;exact absurd h a
end Go.Pw
namespace Go.Pw
open Go.Sv Go.Rails
structure bR where
 fn:Int
 pw:au
 il:cu
 drv:Bs
def mX (d:bR):List Value:=[.int .i64 d.fn,.int .i64 d.pw.par,.slice d.pw.r0.A d.pw.r0.ys.length d.pw.r0.c,.slice d.pw.r1.A d.pw.r1.ys.length d.pw.r1.c,.slice d.pw.r2.A d.pw.r2.ys.length d.pw.r2.c,.slice d.pw.r3.A d.pw.r3.ys.length d.pw.r3.c,.int .i64 d.pw.d0,.int .i64 d.pw.d1,.int .i64 d.pw.d2,.int .i64 d.pw.d3,.int .i64 d.pw.d4,.int .i64 d.pw.d5,.int .i64 d.pw.wd,.int .i64 d.pw.ws,.int .i64 d.il.par,.slice d.il.sup.A d.il.sup.ys.length d.il.sup.c,.int .u64 d.il.dly,.string (bs d.drv)]
def YZ:bR:=⟨0,zh,NF,[]⟩
def aG:bO bR where
 f:=mX
 sz:=18
 d:=YZ
 len _:=rfl
 pos:=zd
 one r v hv:=by simp[mX] at hv;rcases hv with rfl|rfl|rfl|rfl|rfl|rfl|rfl|rfl|rfl|rfl|rfl|rfl|rfl|rfl|rfl|rfl|rfl|rfl<;>rfl
abbrev bq (ds:List bR):List cu:=ds.map (·.il)
theorem pS (ds:List bR) (a:h<ds.length):(bq ds).getD h ar.d=(ds.getD h aG.d).il:=by simp[bq,List.getD,a]
theorem EH (ds:List bR) (a:h<ds.length):aj (bq ds) (h+1)=aj (bq ds) h++cv h (ds.getD h aG.d).il (ds.getD h aG.d).il.sup.ys.length:=by rw[aj,pS ds a]
structure LG where
 A:Option Addr
 c:Nat
theorem so {d:Int}:(H++[D]).getD h d=if h<H.length then H.getD h d else if h=H.length then D else d:=by
 by_cases i:h<H.length
 ·rw[if_pos i];simp[List.getD,qP i]
 ·rw[if_neg i];by_cases e:h=H.length
  ·rw[if_pos e];subst e;simp[List.getD]
  ·rw[if_neg e];rw[List.getD,List.getElem?_eq_none (by simp;omega)];rfl
theorem Yd (v:eF h H):eF ((h+1:Nat):Int) (H++[(h:Int)]):=by
 intro i a;rw[qD,List.length_singleton] at a;rw[so];by_cases e:i<H.length
 ·rw[if_pos e];have:=v i e;omega
 ·rw[if_neg e,if_pos zo];omega
theorem Yf (v:eF h H):eF ((h+1:Nat):Int) H:=λi a=>by have:=v i a;omega
theorem Yi {m:Nat} (v:eF h H) (b:h<=m):eF m H:=λi a=>by have:=v i a;omega
theorem Yj (v:dU H) (a:eF h H):dU (H++[(h:Int)]):=by
 intro i b c;rw[qD,List.length_singleton] at b;rw[so,so,if_pos zo];by_cases e:i<H.length
 ·rw[if_pos e];exact v i e c
 ·rw[if_neg e,if_pos zo];have:=a (i-1) zo;omega
def bX (k:Nat) (a:Int):Int:=1048576+256* (((k:Int)* 5+ah a 12)%12)
theorem EI (k:Nat) (a:Int):1048576<=bX k a/\bX k a<=1051392/\(bX k a)%256=0:=by unfold bX;omega
end Go.Pw
namespace Go.Sv
theorem RS.cellAt {α:Type} {K:bO α} {ys:List α} (o:RS J K U ys) (m j:Nat) {v:Value} (a:m<ys.length) (b:h=of U+m* K.sz+j) (c:(K.f (ys.getD m K.d))[j]?=some v):J.cell? ⟨bk U,h,none⟩=some v:=by
 subst b;exact o.cell a c
end Go.Sv
namespace Go.Pw
open Go.Sv Go.Drv
theorem Yk (d:bR): ∀ {k:Nat},k<4->(mX d)[2+k]?=some (.slice (d.pw.rl k).A (d.pw.rl k).ys.length (d.pw.rl k).c)
 |0,_=>rfl
 |1,_=>rfl
 |2,_=>rfl
 |3,_=>rfl
 |k+4,h=>zo
def gl:bO DH where
 f d:=[.string (bs d.name),.slice d.sA d.ss.length d.sc,.slice d.tA d.hs.length d.tc]
 sz:=3
 d:=⟨[],none,0,[],none,0,[]⟩
 len _:=rfl
 pos:=zd
 one r v hv:=by simp at hv;rcases hv with rfl|rfl|rfl<;>rfl
def bR.few (d:bR):Prop:=(∀k,k<4->(d.pw.rl k).ys.length<=20)/\d.il.sup.ys.length<=20/\d.drv.length<=200
def Yl (ds:List bR) (drs:List DH) (n:Nat):Prop:=(ds.length<=8/\drs.length<=8/\n<=20)/\(∀i,i<ds.length->(ds.getD i aG.d).few)/\ ∀i,i<drs.length->(drs.getD i gl.d).hs.length<=40/\(drs.getD i gl.d).ss.length<=40
end Go.Pw
namespace Go.Pw
open Go.Sv Go.Rails
structure nX where
 b:Nat
 A:Option Addr
 n:Nat
 c:Nat
 lA:Option Addr
 lc:Nat
 lk:List aX
 oA:Option Addr
 oc:Nat
 on:List Bool
 uA:Option Addr
 uc:Nat
 us:List Int
 sA:Option Addr
 sc:Nat
 si:List Int
 clk:Int
def ko (t:nX):List aB:=[aU t.b (.cells #[.slice t.A t.n t.c,.slice t.lA t.lk.length t.lc,.slice t.oA t.on.length t.oc,.slice t.uA t.us.length t.uc,.slice t.sA t.si.length t.sc,.int .u64 t.clk] 329 (0,0)),OS 4 ad t.oA t.oc t.on,OS 3 (aD .i64) t.uA t.uc t.us,OS 43 (aD .u64) t.sA t.sc t.si,OS 219 aC t.lA t.lc t.lk]
structure cK where
 sup:Hd
 con:Hd
 dly:Int
 act:Bool
 use:Int
 sin:Int
def bt:cK:=⟨bN,bN,0,false,0,0⟩
def cK.wD (m:cK) (x:Int):cK:=⟨m.sup,m.con,x,m.act,m.use,m.sin⟩
def cK.wS (m:cK) (x:Hd):cK:=⟨x,m.con,m.dly,m.act,m.use,m.sin⟩
def cK.wC (m:cK) (x:Hd):cK:=⟨m.sup,x,m.dly,m.act,m.use,m.sin⟩
def aO:bO cK where
 f m:=[.slice m.sup.A m.sup.ys.length m.sup.c,.slice m.con.A m.con.ys.length m.con.c,.int .u64 m.dly,.bool m.act,.int .i64 m.use,.int .u64 m.sin]
 sz:=6
 d:=bt
 len _:=rfl
 pos:=zd
 one r v hv:=by simp at hv;rcases hv with rfl|rfl|rfl|rfl|rfl|rfl<;>rfl
def ba (m:cK):aB:=aP [cb m.sup,cb m.con]
theorem Ys {w:World} {ms:List cK} (m:Hp Q J (M++[aF ba ms]) w) (a:h<ms.length):Hp Q J (cb (ms.getD h bt).sup::cb (ms.getD h bt).con::(M++[aF ba (ms.eraseIdx h)])) w:=by
 have b:Hp Q J (aF ba ms::M) w:=m.perm (qi _ _);have c:=b.focus (k:=0) (m:=h) bt z6 a;exact Hp.unbun (M:=[cb (ms.getD h bt).sup,cb (ms.getD h bt).con]) c
theorem Yt {w:World} {ms:List cK} {a:cK} (m:Hp Q J (cb a.sup::cb a.con::(M++[aF ba (ms.eraseIdx h)])) w) (b:h<ms.length):Hp Q J (M++[aF ba (ms.set h a)]) w:=by
 have c:Hp Q J (ba a::(M++[aF ba (ms.eraseIdx h)])) w:=Hp.bun (M:=[cb a.sup,cb a.con]) m;have d:=Hp.unfocus (L:=ba a::M) (k:=0) (hs:=ms) (m:=h) (h':=a) (F:=ba) c z6 b;exact d.perm (qi _ _).symm
def ib (ids:List cu) (links:List aX) (n i j k:Nat) (ms:List cK):Prop:=ms.length=n/\ ∀s,s<n->(ms.getD s bt).sup.ys=bP (links.take j) false s/\(ms.getD s bt).con.ys=bP (links.take k) true s/\(ms.getD s bt).dly=(if s<i then (ids.getD s ar.d).dly else 0)/\(ms.getD s bt).act=false/\(ms.getD s bt).use=0/\(ms.getD s bt).sin=0
theorem ib.base (ids:List cu) (links:List aX) (n:Nat):ib ids links n 0 0 0 (List.replicate n bt):=by
 refine⟨qH,λs a=>?_⟩;have e:(List.replicate n bt).getD s bt=bt:=zg
 rw[e];exact⟨rfl,rfl,rfl,rfl,rfl,rfl⟩
theorem ib.step {ids:List cu} {i j k b c k2 s:Nat} {ms:List cK} {a:cK} (n:ib ids y h i j k ms) (hs:s<h) (g:a.act=false/\a.use=0/\a.sin=0)
 (h0: ∀t,t<h->t≠s->bP (y.take c) false t=bP (y.take j) false t/\bP (y.take k2) true t=bP (y.take k) true t/\(t<b↔t<i))
 (l:a.sup.ys=bP (y.take c) false s) (m:a.con.ys=bP (y.take k2) true s) (o:a.dly=if s<b then (ids.getD s ar.d).dly else 0):ib ids y h b c k2 (ms.set s a):=by
 refine⟨by rw[qI];exact n.1,λt f=>?_⟩;by_cases e:s=t
 ·subst e;rw[dN _ _ _ _ (by rw[n.1];exact hs)];grind
 ·rw[db _ _ _ e];obtain⟨p,q,r,u⟩:=n.2 t f
  grind
theorem ib.dly {ids:List cu} {links:List aX} {n i:Nat} {ms:List cK} (h:ib ids links n i 0 0 ms) (a:i<n):ib ids links n (i+1) 0 0 (ms.set i ((ms.getD i aO.d).wD (ids.getD i ar.d).dly)):=by
 obtain⟨b,c,g,e⟩:=h.2 i a;exact h.step a e (λt j f=>⟨rfl,rfl,zo⟩) b c (by rw[if_pos zo];rfl)
theorem zp (a:h<y.length) (b:Bool) (t:Nat):bP (y.take (h+1)) b t=bP (y.take h) b t++(if (if b then (y.getD h aC.d).sup else (y.getD h aC.d).con)=(t:Int) then [if b then (y.getD h aC.d).con else (y.getD h aC.d).sup] else []):=by
 grind [nz,BU]
theorem ib.supS {ids:List cu} {i j k s:Nat} {ms:List cK} (n:ib ids y h i j k ms) (a:j<y.length) (b:(y.getD j aC.d).con=s) (hs:s<h) (A:Option Addr) (c:Nat):ib ids y h i (j+1) k (ms.set s ((ms.getD s aO.d).wS ⟨A,c,(ms.getD s aO.d).sup.ys++[(y.getD j aC.d).sup]⟩)):=by
 obtain⟨e,f,g,l⟩:=n.2 s hs;refine n.step hs l (λt o m=>⟨?_,rfl,Iff.rfl⟩) ?_ f g
 ·grind [zp]
 ·rw[zp a,b,<-e];simp only[qX,if_false,if_true];rfl
theorem ib.conS {ids:List cu} {i j k s:Nat} {ms:List cK} (n:ib ids y h i j k ms) (a:k<y.length) (b:(y.getD k aC.d).sup=s) (hs:s<h) (A:Option Addr) (c:Nat):ib ids y h i j (k+1) (ms.set s ((ms.getD s aO.d).wC ⟨A,c,(ms.getD s aO.d).con.ys++[(y.getD k aC.d).con]⟩)):=by
 obtain⟨e,f,g,l⟩:=n.2 s hs;refine n.step hs l (λt o m=>⟨rfl,?_,Iff.rfl⟩) e ?_ g
 ·grind [zp]
 ·rw[zp a,if_pos rfl,b,if_pos rfl,if_pos rfl,<-f];rfl
theorem ib.len {ids:List cu} {i j k s:Nat} {ms:List cK} (n:ib ids y h i j k ms) (hs:s<h):(ms.getD s aO.d).sup.ys.length<=y.length/\(ms.getD s aO.d).con.ys.length<=y.length:=⟨yM (n.2 s hs).1,yM (n.2 s hs).2.1⟩
theorem Yu {ids:List cu} (i:0<=(ids.getD h ar.d).par):((aj ids h).length:Int)+((ids.getD h ar.d).sup.ys.length:Int)+1=((aj ids (h+1)).length:Int):=by grind [aj,cv]
theorem Yv {ids:List cu} (i: ¬0<=(ids.getD h ar.d).par):((aj ids h).length:Int)+((ids.getD h ar.d).sup.ys.length:Int)=((aj ids (h+1)).length:Int):=by grind [aj,cv]
theorem Yy {ids:List cu} (h: ¬(64:Int)<ids.length) (a: ∀i,i<ids.length-> ¬bh ids.length (ids.getD i ar.d)) (b:(1024:Int)<(aj ids ids.length).length):bI ids=1:=(um h a).trans (YY b)
theorem Yz (links:aQ h y=0) {j:Nat} (a:j<y.length):cX h (y.getD j aC.d):=by
 by_cases e:cX h (y.getD j aC.d)
 ·exact e
 ·exact absurd ((NI zg e).symm.trans links) zd
theorem ZA {β:Type} {F:β->aB} {hs a:List β} (h:hs.map F=a.map F):aF F hs=aF F a:=by
 grind [aF]
theorem ZB {β:Type} {F:β->aB} {hs:List β} (d:β) {a:β} (b:h<hs.length) (m:F a=F (hs.getD h d)):aF F (hs.set h a)=aF F hs:=by
 refine ZA ?_;apply List.ext_getElem zm
 grind
theorem Hp.nilMs {I0:aV} {w0 w:World} {A B C D:aB} (h:Hp I0 w0 [A,B,C,D] w): ∀n,Hp I0 w0 [A,B,C,D,aF ba (List.replicate n bt)] w
 |0=>Hp.nilBig (F:=ba) h
 |n+1=>by
  have a:=((Hp.nilMs h n).nilOS (J:=3) (K:=aD .i64)).nilOS (J:=3) (K:=aD .i64);have b:Hp I0 w0 [cb bN,cb bN,A,B,C,D,aF ba (List.replicate n bt)] w:=a.sel [5,5,0,0,0,0,0] rfl;have c:Hp I0 w0 (ba bt::[A,B,C,D,aF ba (List.replicate n bt)]) w:=Hp.bun (M:=[cb bN,cb bN]) b;have d:Hp I0 w0 ([A,B,C,D,aF ba (List.replicate n bt)]++[ba bt]) w:=c.sel [1,1,1,1,1,0] rfl;have f:=Hp.bigSnoc (l:=4) d rfl;rw[List.replicate_succ'];exact f
theorem NM {w:World} {A B C D E G:aB} {ms:List cK} (m:Hp Q J [A,B,C,D,E,G,aF ba ms] w) (a:h<ms.length):Hp Q J [cb (ms.getD h aO.d).sup,cb (ms.getD h aO.d).con,A,B,C,D,E,G,aF ba (ms.eraseIdx h)] w:=Ys (M:=[A,B,C,D,E,G]) m a
theorem NQ {w:World} {A B C D E:aB} {ms:List cK} (a:cK) (m:Hp Q J [cb a.sup,cb a.con,A,B,C,D,E,aF ba (ms.eraseIdx h)] w) (b:h<ms.length):Hp Q J [A,B,C,D,E,aF ba (ms.set h a)] w:=Yt (M:=[A,B,C,D,E]) m b
end Go.Pw
namespace Go.Pw
open Go.Sv Go.Rails Go.Dg
theorem NR (links:aQ h y=0):(bQ h y).length=h:=by
 grind [aQ]
structure MG where
 b:Nat
 A:Option Addr
 c:Nat
 ms:List cK
 oA:Option Addr
 oc:Nat
 od:List Int
 clk:Int
def rX (t:MG):List aB:=[aU t.b (.cells #[.slice t.A t.ms.length t.c,.slice t.oA t.od.length t.oc,.int .u64 t.clk] 228 (0,0)),OS 225 aO t.A t.c t.ms,aF ba t.ms,OS 3 (aD .i64) t.oA t.oc t.od]
def MG.fresh (t:MG) (ids:List cu):Prop:=ib ids (aj ids ids.length) ids.length ids.length (aj ids ids.length).length (aj ids ids.length).length t.ms/\t.od=bQ ids.length (aj ids ids.length)/\t.clk=0
structure UN where
 own:Int
 pw:au
 base:Int
 q:Nat
 d:Go.Drv.DH
 st:Go.Drv.IS
 stp:Bool
 qA:Option Addr
 qc:Nat
 qs:List Bs
 wk:Bool
 rem:Int
def rY (u:UN):List Value:=[.int .i64 u.own,.int .i64 u.pw.par,.slice u.pw.r0.A u.pw.r0.ys.length u.pw.r0.c,.slice u.pw.r1.A u.pw.r1.ys.length u.pw.r1.c,.slice u.pw.r2.A u.pw.r2.ys.length u.pw.r2.c,.slice u.pw.r3.A u.pw.r3.ys.length u.pw.r3.c,.int .i64 u.pw.d0,.int .i64 u.pw.d1,.int .i64 u.pw.d2,.int .i64 u.pw.d3,.int .i64 u.pw.d4,.int .i64 u.pw.d5,.int .i64 u.pw.wd,.int .i64 u.pw.ws,.int .u64 u.base,.pointer (some ⟨u.q,0,none⟩),.bool u.stp,.slice u.qA u.qs.length u.qc,.bool u.wk,.int .i64 u.rem]
def uu:UN:=⟨0,zh,0,0,⟨[],none,0,[],none,0,[]⟩,⟨0,false,0⟩,false,none,0,[],false,0⟩
def aI:bO UN where
 f:=rY
 sz:=20
 d:=uu
 len _:=rfl
 pos:=zd
 one r v hv:=by simp[rY] at hv;rcases hv with rfl|rfl|rfl|rfl|rfl|rfl|rfl|rfl|rfl|rfl|rfl|rfl|rfl|rfl|rfl|rfl|rfl|rfl|rfl|rfl<;>rfl
def hO (u:UN):aB:=aP (cm u.pw::OS 9 aN u.qA u.qc u.qs::Go.Drv.gW u.q u.d u.st)
theorem ZC {w:World} {e:au} {d:Go.Drv.DH} (own base rem:Int) (q:Hp Q J ([cm e]++Go.Drv.gW h d ⟨0,false,0⟩) w):Hp Q J [hO ⟨own,e,base,h,d,⟨0,false,0⟩,false,none,0,[],false,rem⟩] w:=by
 have a:=(q.nilOS (J:=9) (K:=aN)).sel [0,4,0,0,0,0] rfl;exact Hp.bun (M:=cm e::OS 9 aN none 0 []::Go.Drv.gW h d ⟨0,false,0⟩) (R:=[]) a
def tP:List Value:=[.int .i64 0,.int .i64 0,.slice none 0 0,.slice none 0 0,.slice none 0 0,.slice none 0 0,.int .i64 0,.int .i64 0,.int .i64 0,.int .i64 0,.int .i64 0,.int .i64 0,.int .i64 0,.int .i64 0,.int .u64 0,.pointer none,.bool false,.slice none 0 0,.bool false,.int .i64 0]
def dW (d:bR):Prop:=(0<=d.fn/\d.fn<255/\d.pw.par=d.il.par)/\(d.pw.r1.ys=[]/\d.pw.r2.ys=[]/\d.pw.r3.ys=[])/\(Go.Drv.eH d.drv).1=0/\gZ (Go.Drv.eH d.drv).2.ts
theorem ZD {d:bR} (h:dW d): ∀ {k:Nat},0<k->k<4->(d.pw.rl k).ys=[]
 |1,_,_=>h.2.1.1
 |2,_,_=>h.2.1.2.1
 |3,_,_=>h.2.1.2.2
 |0,h0,_=>zo
 |k+4,_,h4=>zo
theorem ZE {d:au} (k: ∀j,j<h->0<j->(d.rl j).ys=[]) (a: ¬(0:Int)<((d.rl h).ys.length:Int)): ∀j,j<h+1->0<j->(d.rl j).ys=[]:=λj b c=>by
 by_cases e:j=h
 ·simp_all
 grind
theorem ZF {d:au} (k: ∀j,j<h->0<j->(d.rl j).ys=[]) (b: ¬(h:Int)≠0): ∀j,j<h+1->0<j->(d.rl j).ys=[]:=λj c a=>k j zo a
def UN.of (u:UN) (d:bR) (base:Int):Prop:=(u.own=d.fn/\lq d.pw u.pw 4/\u.base=base)/\u.d.d=(Go.Drv.eH d.drv).2/\u.st=⟨0,false,0⟩/\u.stp=false/\u.qs=[]/\u.wk=false/\u.rem=4
end Go.Pw
namespace Go.Sv
theorem NS (k k2:IntKind) (x:Int): ∀(es:List MapEntry) (m:List Int) (i:Nat),es.map (·.key)=m.map (λl:Int=>Value.int k l)->
 Instr.findNow (.int k2) (.int k x) es i=some ((m.findIdx? (λy=>decide (x=y))).bind λj=>(es[j]?).map λe=>(i+j,e.val))
 |[],[],i,_=>by grind [Instr.findNow]
 |e::es,y::m,i,h=>by
  simp only[List.map_cons,List.cons.injEq] at h;have hs:Instr.sameNow (.int k2) (.int k x) e.key=some (decide (x=y)):=by grind [Instr.sameNow]
  simp only[Instr.findNow,hs,List.findIdx?_cons];by_cases a:x=y
  ·grind
  ·simp only[a,decide_false,qX,if_false];rw[NS k k2 x es m (i+1) h.2];cases b:m.findIdx? (λy=>decide (x=y)) with
   |none=>simp
   |some j=>grind
 |[],_::_,_,h=>zg
 |_::_,[],_,h=>zg
theorem dD.int {P:Program} {kt:TypeId} {k k2:IntKind} (hu:P.underlying kt=some (.int k2)):dD P kt (Value.int k) where
 check em x w:=by
  show(Instr.checkKey em (9999+1) kt _).run P w=_;rw[Instr.checkKey];simp_all[run_underlying]
 find x es ms h w:=by
  simp only[Instr.findKey,Sem.run_bind,run_underlying hu,Result.andThen_ok,NS k k2 x es ms 0 h,Nat.zero_add,Sem.run_pure]
theorem zq (x:Int): ∀l:List Int,br (l.map λy=>(y,true)) x=if x∈l then some true else none
 |[]=>by simp[br]
 |y::l=>by
  simp only[List.map_cons,br,zq x l,qe]
  grind
theorem NT (x:Int) (l:List Int):(br (l.map λy=>(y,true)) x).getD false=decide (x∈l):=by grind [zq]
end Go.Sv
namespace Go.Pw
open Go.Sv Go.Rails Go.Dg
structure CP where
 b:Nat
 uA:Option Addr
 uc:Nat
 us:List UN
 t:TT
 m:MG
 bb:Nat
 oA:Option Addr
 oc:Nat
 od:List Int
def mY (p:CP):List aB:=[aU p.b (.cells #[.slice p.uA p.us.length p.uc,.pointer (some ⟨p.t.b,0,none⟩),.pointer (some ⟨p.m.b,0,none⟩),.pointer (some ⟨p.bb,0,none⟩),.slice p.oA p.od.length p.oc] 124 (0,0)),OS 134 aI p.uA p.uc p.us,aF hO p.us,OS 3 (aD .i64) p.oA p.oc p.od]++(zj p.t++rX p.m)
abbrev kq (ds:List bR):List au:=ds.map (·.pw)
abbrev pU (ds:List bR):List Int:=ds.map (·.fn)
theorem nY (ds:List bR) (a:h<ds.length):(kq ds).getD h aM.d=(ds.getD h aG.d).pw:=zg
theorem EJ (ds:List bR) (a:h<ds.length):(pU ds).getD h 0=(ds.getD h aG.d).fn:=zg
def bR.inn (d:bR) (w:World):Prop:=d.pw.rs w/\d.pw.sm 1000000/\RS w (aD .i64) d.il.sup.A d.il.sup.ys/\d.drv.length<=900000
variable {W:List bR}
theorem NU (a:bI (bq W)=0):aQ W.length (aj (bq W) W.length)=0/\ ∀i,i<W.length-> ¬bh W.length (W.getD i aG.d).il:=by
 grind [bI]
theorem EK (h:W.length<=64) (a: ∀i,i<W.length-> ¬bh W.length (W.getD i aG.d).il):(aj (bq W) W.length).length<=1000000:=by
 grind [tN,bh]
structure dI (ds:List bR) (rs:List ag) (bs:List Int):Prop where
 n:ds.length<=16
 nb:bs.length=ds.length
 aln:fD bs
 un: ∀i,i<ds.length->dW (ds.getD i aG.d)
 ow:(pU ds).Nodup
 tr:cZ (kq ds) rs=0
 mg:bI (bq ds)=0
theorem dI.lk {rs:List ag} (h:dI W rs H):aQ W.length (aj (bq W) W.length)=0/\ ∀i,i<W.length-> ¬bh W.length (W.getD i aG.d).il:=NU h.mg
structure CP.fresh (p:CP) (ds:List bR) (rs:List ag) (bs:List Int) (bb:Nat):Prop where
 bb:p.bb=bb
 un:p.us.length=ds.length
 us: ∀i,i<ds.length->(p.us.getD i uu).of (ds.getD i aG.d) (bs.getD i 0)
 trs:p.t.rs=cy rs
 tst:p.t.st=List.replicate ds.length 4
 tck:p.t.clk=0
 tn:p.t.es.length=ds.length
 tcp:lr (kq ds) p.t.es
 mg:p.m.fresh (bq ds)
 od:p.od=bQ ds.length (aj (bq ds) ds.length)
structure PG where
 us:List UN
 uA:Option Addr
 uc:Nat
 pA:Option Addr
 pc:Nat
 iA:Option Addr
 ic:Nat
theorem gP {β γ:Type} (f:β->γ) (l:List β) (d:β) (i:h<l.length):(l.take (h+1)).map f=(l.take h).map f++[f (l.getD h d)]:=by
 grind [List.take_succ_eq_append_getElem]
theorem ZG (i:h<H.length) (b:H.getD h D∈H.take h): ¬H.Nodup:=λa=>by
 have c:=a.sublist (List.take_sublist (h+1) H)
 grind [List.take_succ_eq_append_getElem]
theorem xL {β:Type} {us:List β} {u d:β} {P:Nat->β->Prop} (a:us.length=h) (i: ∀j,j<h->P j (us.getD j d)) (b:P h u): ∀j,j<h+1->P j ((us++[u]).getD j d):=λj c=>by
 by_cases e:j<h
 ·have:=i j e;rwa [List.getD,qP zo]
 ·obtain rfl:j=h:=zo
  rw[List.getD,List.getElem?_append_right zo,a,Nat.sub_self];exact b
theorem NV {us:List UN} {u:UN} (i:(h<=W.length/\us.length=h)/\(∀j,j<h->dW (W.getD j aG.d)/\(us.getD j uu).of (W.getD j aG.d) (H.getD j (aD .u64).d))/\((W.take h).map (·.fn)).Nodup) (l:h<W.length)
 (c:dW (W.getD h aG.d)) (g:u.of (W.getD h aG.d) (H.getD h (aD .u64).d)) (f:u.own∉(W.take h).map (·.fn)):
 (h+1<=W.length/\(us++[u]).length=h+1)/\(∀j,j<h+1->dW (W.getD j aG.d)/\((us++[u]).getD j uu).of (W.getD j aG.d) (H.getD j (aD .u64).d))/\((W.take (h+1)).map (·.fn)).Nodup:=by
 refine⟨⟨zo,by rw[qD,List.length_singleton,i.1.2]⟩,xL (P:=λj x=>dW (W.getD j aG.d)/\x.of (W.getD j aG.d) (H.getD j (aD .u64).d)) i.1.2 i.2.1 ⟨c,g⟩,?_⟩;rw[gP (·.fn) W aG.d l,List.nodup_append];refine⟨i.2.2,zm,λa m b k e=>f ?_⟩;rw[qm] at k;rw[g.1.1,<-k,<-e];exact m
theorem ZH (h:((W.take W.length).map (·.fn)).Nodup):(pU W).Nodup:=by rwa [List.take_length] at h
theorem EL (a:h<W.length) (b:(W.getD h aG.d).fn∈(W.take h).map (·.fn)): ¬(pU W).Nodup:=by
 refine ZG (h:=h) (D:=0) (by rw[qE];exact a) ?_;rw[EJ W a,List.map_take.symm];exact b
theorem NW {b:World} {mb:Nat} {u:UN} {X B c:aB} {iA:Option Addr} {pc ic:Nat} (e:u.of (W.getD h aG.d) D) (a:h<W.length)
 (base:Hp Q J [c,OM mb (Value.int .i64) Value.bool (((W.take h).map (·.fn)).map (λy=>(y,true))++[(u.own,true)]),X,B,OS 60 aM U pc ((W.take h).map (·.pw)++[(W.getD h aG.d).pw]),OS 62 ar iA ic ((W.take h).map (·.il)++[(W.getD h aG.d).il])] b):
 Hp Q J [c,OM mb (Value.int .i64) Value.bool (((W.take (h+1)).map (·.fn)).map (λy=>(y,true))),X,B,OS 60 aM U pc ((W.take (h+1)).map (·.pw)),OS 62 ar iA ic ((W.take (h+1)).map (·.il))] b:=by
 rw[gP (·.fn) W aG.d a,gP (·.pw) W aG.d a,gP (·.il) W aG.d a,qN,<-e.1.1];exact base
end Go.Pw
namespace Go.Pw
open Go.Sv Go.Ios
def jp (ps:Nat->Int×Int) (s0:BS):Nat->BS->Prop
 |0,s=>s=s0
 |i+1,s=> ∃s1 s2 e,jp ps s0 i s1/\eS s1 0 (ps i).1 256 (ps i).2 0 s2/\oS s2 (ps i).2 false e s
def lG (ps:Nat->Int×Int) (s0:RB):Nat->RB->Prop
 |0,s=>s=s0
 |i+1,s=> ∃s1 s2 e,lG ps s0 i s1/\gC s1 0 (ps i).1 256 (ps i).2 0 s2/\sq s2 (ps i).2 false e s
def tQ (ps:Nat->Int×Int) (s0:BS) (n:Nat) (e:Int) (s:BS):Prop:=(e=0/\jp ps s0 n s)\/(e≠0/\ ∃i s1,i<n/\jp ps s0 i s1/\eS s1 0 (ps i).1 256 (ps i).2 e s)
def xM (ps:Nat->Int×Int) (s0:RB) (n:Nat) (e:Int) (s:RB):Prop:=(e=0/\lG ps s0 n s)\/(e≠0/\ ∃i s1,i<n/\lG ps s0 i s1/\gC s1 0 (ps i).1 256 (ps i).2 e s)
theorem EM {s d:BS} {p q o e:Int} (a:s.ok) (f:aY p) (h:eS s D p q o e d):d.ok:=by
 cases h with
 |bad _=>exact a
 |busy _ _ _ _=>exact a
 |full _ _ _ _ _=>exact a
 |done m l A c n b g j=>
  have k:m<3:=zo
  exact LJ a k ⟨f,b.2.1,b.2.2.1,b.2.2.2,.inl zr,λi=>zm⟩ g j A c
theorem EN {s a:BS} {e:Int} {v:Bool} (b:s.ok) (h:oS s D v e a):a.ok:=by
 cases h with
 |bad _=>exact b
 |done c=>exact b.en D.toNat v
theorem EO {s b:RB} {p q o e:Int} (a:s.ok) (c:aY p) (h:gC s D p q o e b):b.ok:=by
 cases h with
 |bad _=>exact a
 |busy _ _=>exact a
 |full _ _ _=>exact a
 |done A d f g i j=>grind [Lu,Ls]
theorem NX {s b:RB} {e:Int} {v:Bool} (a:s.ok) (h:sq s D v e b):b.ok:=by
 cases h with
 |bad _=>exact a
 |done c=>exact⟨by show(s.en.set _ _).length=256;rw[qI];exact a.en,a.each,a.max,a.fl,a.fr,a.tr⟩
theorem jp.ok {ps:Nat->Int×Int} {a:BS} (b:a.ok): ∀ {i:Nat} {s:BS},(∀j,j<i->aY (ps j).1)->jp ps a i s->s.ok
 |0,s,_,h=>by cases h;exact b
 |i+1,s,hu,⟨s1,s2,e,h1,h2,h3⟩=>EN (EM (jp.ok b (λj c=>hu j zo) h1) (hu i zo) h2) h3
theorem lG.ok {ps:Nat->Int×Int} {a:RB} (b:a.ok): ∀ {i:Nat} {s:RB},(∀j,j<i->aY (ps j).1)->lG ps a i s->s.ok
 |0,s,_,h=>by cases h;exact b
 |i+1,s,hu,⟨s1,s2,e,h1,h2,h3⟩=>NX (EO (lG.ok b (λj c=>hu j zo) h1) (hu i zo) h2) h3
theorem jp.rel {ps:Nat->Int×Int} {a:BS} {r0:RB} {b:Nat} (R:jI a r0 b): ∀ {i:Nat} {s:BS} {r:RB},(∀j,j<i->aY (ps j).1)->jp ps a i s->lG ps r0 i r-> ∃n,jI s r n
 |0,s,r,_,h,h'=>by cases h;cases h';grind
 |i+1,s,r,hu,⟨s1,s2,e,h1,h2,h3⟩,⟨r1,r2,e',g1,g2,g3⟩=>by
  obtain⟨n,c⟩:=jp.rel R (λj d=>hu j zo) h1 g1;exact⟨_,(((c.map (hu i zo) h2 g2).2).enb h3 g3).2⟩
theorem jp.pre {ps:Nat->Int×Int} {b:BS} {i:Nat}: ∀ {n:Nat} {s:BS},jp ps b n s->i<n-> ∃a d,jp ps b i a/\eS a 0 (ps i).1 256 (ps i).2 0 d
 |n+1,s,⟨a,d,e,h1,h2,h3⟩,hi=>by
  by_cases c:i=n
  ·grind
  ·exact jp.pre h1 zo
theorem lG.pre {ps:Nat->Int×Int} {b:RB} {i:Nat}: ∀ {n:Nat} {s:RB},lG ps b n s->i<n-> ∃a d,lG ps b i a/\gC a 0 (ps i).1 256 (ps i).2 0 d
 |n+1,s,⟨a,d,e,h1,h2,h3⟩,hi=>by
  by_cases c:i=n
  ·grind
  ·exact lG.pre h1 zo
theorem ZI {ps:Nat->Int×Int} {o s:BS} {r0 r:RB} {y:Nat} {f:Int} (R:jI o r0 y) (x: ∀j,j<h->aY (ps j).1) (n:tQ ps o h D s) (g:xM ps r0 h f r):D=f:=by
 have key: ∀ {i b a p q D f},i<h->jp ps o i b->lG ps r0 i a->eS b 0 (ps i).1 256 (ps i).2 D p->gC a 0 (ps i).1 256 (ps i).2 f q->D=f:=λ{i b a p q D f} t k d u l=>by
  obtain⟨m,z⟩:=jp.rel R (λj v=>x j zo) k d;exact(z.map (x i t) u l).1
 rcases n with ⟨A,n⟩|⟨A,i,b,t,k,u⟩
 ·rcases g with ⟨w,g⟩|⟨w,j,a,v,d,l⟩
  ·grind
  ·obtain⟨b,p,k,u⟩:=n.pre v
   grind
 ·rcases g with ⟨w,g⟩|⟨w,j,a,v,d,l⟩
  ·obtain⟨a,q,d,l⟩:=g.pre t
   grind
  ·rcases Nat.lt_trichotomy i j with c|c|c
   ·obtain⟨B,C,e,E⟩:=d.pre c
    grind
   ·grind
   ·obtain⟨F,G,H,I⟩:=k.pre c
    grind
section
variable {I0:aV} {w0 w:World} {p:CP} {X:List aB}
def cG (p:CP):aB:=aU p.b (.cells #[.slice p.uA p.us.length p.uc,.pointer (some ⟨p.t.b,0,none⟩),.pointer (some ⟨p.m.b,0,none⟩),.pointer (some ⟨p.bb,0,none⟩),.slice p.oA p.od.length p.oc] 124 (0,0))
def jK (p:CP):aB:=OS 134 aI p.uA p.uc p.us
def zt (p:CP):List aB:=[aF hO p.us,OS 3 (Rails.aD .i64) p.oA p.oc p.od]++(zj p.t++rX p.m)
theorem tT (h:Hp I0 w0 (X++M) w):Hp I0 w0 (X++[aP M]) w:=
 (Hp.bun (h.perm qf)).perm (qi _ _).symm
theorem EP {Y:List aB} (h:Hp I0 w0 (X++[aP M]++Y) w):Hp I0 w0 (X++M++Y) w:=by
 have a:Hp I0 w0 (aP M::(X++Y)) w:=h.perm (by
  simp_all)
 have b:=Hp.unbun (M:=M) a;refine b.perm ?_
 grind [qf]
theorem ZJ (h:Hp I0 w0 (X++mY p) w):Hp I0 w0 (X++[cG p,jK p,aP (zt p)]) w:=by
 have a:Hp I0 w0 ((X++[cG p,jK p])++zt p) w:=by rw[qL];exact h
 have b:=tT a
 grind
theorem ZK (h:Hp I0 w0 ([cG p,jK p,aP (zt p)]++X) w):Hp I0 w0 (mY p++X) w:=EP (X:=[cG p,jK p]) (Y:=X) h
end
def jL (ds:List bR) (bs:List Int) (i:Nat):Int×Int:=(bs.getD i (Rails.aD .u64).d,(ds.getD i aG.d).fn)
def xN (A B C:Option Addr) (ds:List bR) (rs:List Rails.ag) (bs:List Int):aV:=λb=>(ds≠[]/\b=bk A)\/(rs≠[]/\b=bk B)\/(bs≠[]/\b=bk C)\/ ∃i,i<ds.length/\((∃k,k<4/\((ds.getD i aG.d).pw.rl k).ys≠[]/\b=bk ((ds.getD i aG.d).pw.rl k).A)\/((ds.getD i aG.d).il.sup.ys≠[]/\b=bk (ds.getD i aG.d).il.sup.A))
end Go.Pw
namespace Go.Pw
open Go.Sv Go.Rails Go.Dg
theorem ZL {ds:List bR} (h: ∀j,j<ds.length-> ∀k,k<j->(ds.getD k aG.d).fn≠(ds.getD j aG.d).fn):(pU ds).Nodup:=by
 rw[List.Nodup,List.pairwise_iff_getElem];intro i j c a b;rw[qE] at c a;have:=h j a i b;simpa[List.getD,c,a] using this
theorem ZM {ds:List bR} {k:Nat} (b:h<ds.length) (e:k<h) (i:(ds.getD k aG.d).fn=(ds.getD h aG.d).fn): ¬(pU ds).Nodup:=λc=>by
 rw[List.Nodup,List.pairwise_iff_getElem] at c;have:=c k h (by rw[qE];omega) (by rw[qE];exact b) e;have a:k<ds.length:=zo
 simp[List.getD,b,a] at i;simp only[List.getElem_map] at this;exact this i
theorem rZ {ds:List bR} {P:Nat->Prop} (i: ∀j,j<h->P j) (a:P h): ∀j,j<h+1->P j:=λj b=>by
 by_cases e:j=h
 ·subst e;exact a
 ·exact i j zo
theorem ER {d:bR} (a:0<=d.fn) (b:d.fn<255) (c:d.pw.par=d.il.par) (g: ¬(0:Int)<(d.pw.r1.ys.length:Int)+(d.pw.r2.ys.length:Int)+(d.pw.r3.ys.length:Int)) (e:(Go.Drv.eH d.drv).1=0) (f:gZ (Go.Drv.eH d.drv).2.ts):dW d:=
 ⟨⟨a,b,c⟩,⟨qO zo,qO zo,qO zo⟩,e,f⟩
theorem ZN {d:bR} (h:dW d): ¬(0:Int)<(d.pw.r1.ys.length:Int)+(d.pw.r2.ys.length:Int)+(d.pw.r3.ys.length:Int):=by
 obtain⟨a,b,c⟩:=h.2.1;rw[a,b,c];decide
end Go.Pw
namespace Go.Sv
theorem Fx.bun {P:Program} {f:FuncId} {vs:List Value} {w:World} {M:List aB} {ro:aV} {post:Value->List aB->Prop} (h:Fx P f vs w M ro post):Fx P f vs w [aP M] ro (λv L=> ∃c,post v c/\L=[aP c]):=λI d a=>by
 obtain⟨i,j,hI,p,g,l⟩:=d;have e: ∀x,I x↔i x:=λx=>by rw[hI x];exact⟨λk=>k.elim id λk=>absurd k (l x),.inl⟩
 have b:I=i:=funext λx=>propext (e x);subst b;exact(h I g a).mono λe q ⟨v,m,n,o,r⟩=>⟨v,_,n,⟨m,o,rfl⟩,Hp.bun (R:=[]) zg⟩
end Go.Sv
namespace Go.Pw
open Go.Sv Go.Rails Go.Dg
structure SH where
 A:Option Addr
 c:Nat
 ys:List Bs
def ie:SH:=⟨none,0,[]⟩
def ig:bO SH where
 f h:=[.slice h.A h.ys.length h.c]
 sz:=1
 d:=ie
 len _:=rfl
 pos:=zd
 one r v hv:=by simp at hv;subst hv;rfl
def jq (h:SH):aB:=OS 9 aN h.A h.c h.ys
structure RI where
 q:Nat
 d:Go.Drv.DH
 pos:Int
 wt:Int
 ev:Bs
def zu:RI:=⟨0,⟨[],none,0,[],none,0,[]⟩,0,0,[]⟩
def cN:bO RI where
 f r:=[.pointer (some ⟨r.q,0,none⟩)]
 sz:=1
 d:=zu
 len _:=rfl
 pos:=zd
 one r v hv:=by simp at hv;subst hv;rfl
def uv (r:RI):List aB:=aU r.q (.cells #[.string (bs r.d.name),.slice r.d.sA r.d.ss.length r.d.sc,.slice r.d.tA r.d.hs.length r.d.tc,.int .i64 r.pos,.int .i64 r.wt,.string (bs r.ev)] 321 (0,0))::Go.Drv.dL r.d
def ij (r:RI):aB:=aP (uv r)
def RI.of (r:RI) (d:bR):Prop:=r.d.d=(Go.Drv.eH d.drv).2/\r.pos=0/\r.wt= -1/\r.ev=[]
section
variable {I0:aV} {w0 w:World} {X:List aB}
theorem ZO {rs:List RI} (r:RI) (h:Hp I0 w0 (X++(aF ij rs::uv r)) w):Hp I0 w0 (X++[aF ij (rs++[r])]) w:=by
 have a:Hp I0 w0 ((X++[aF ij rs])++uv r) w:=zg
 have b:Hp I0 w0 ((X++[aF ij rs])++[ij r]) w:=tT a;have c:Hp I0 w0 ((aF ij rs::X)++[ij r]) w:=b.perm ((qi _ _).append_right _);have d:=Hp.bigSnoc (U:=aF ij rs::X) (l:=0) c rfl;exact d.perm (qi _ _).symm
theorem NY (h:Hp I0 w0 X w): ∀n,Hp I0 w0 (X++[aF jq (List.replicate n ie)]) w
 |0=>Hp.nilBig (F:=jq) h
 |n+1=>by
  have a:Hp I0 w0 ((X++[aF jq (List.replicate n ie)])++[jq ie]) w:=(NY h n).nilOS (J:=9) (K:=aN);have b:Hp I0 w0 ((aF jq (List.replicate n ie)::X)++[jq ie]) w:=a.perm ((qi _ _).append_right _);have c:=Hp.bigSnoc (U:=aF jq (List.replicate n ie)::X) (l:=0) b rfl;have d:Hp I0 w0 (aF jq (List.replicate n ie++[ie])::X) w:=c;rw[List.replicate_succ'];exact d.perm (qi _ _).symm
theorem ZP {T Y:List aB} (n:Nat) (h:Hp I0 w0 (M++[aP T]++([aP Y]++X)) w):Hp I0 w0 (M++([aF jq (List.replicate n ie)]++(T++Y))++X) w:=by
 have d:Hp I0 w0 (M++T++([aP Y]++X)) w:=EP h;have a:Hp I0 w0 ((M++T)++[aP Y]++X) w:=zg
 have b:Hp I0 w0 ((M++T)++Y++X) w:=EP a;have c:=NY b n;refine c.perm ((qi _ _).trans ?_);have:(M++([aF jq (List.replicate n ie)]++(T++Y))++X)=M++(aF jq (List.replicate n ie)::(T++Y++X)):=zm
 rw[this,show M++T++Y++X=M++(T++Y++X) by simp];exact List.perm_middle.symm
end
structure RP where
 b:Nat
 A:Option Addr
 c:Nat
 n:Nat
 bA:Option Addr
 bc:Nat
 bs:List Int
 bb:Nat
 t:pR
 m:nX
 qA:Option Addr
 qc:Nat
 ds:List RI
 sA:Option Addr
 sc:Nat
 stp:List Bool
 uA:Option Addr
 uc:Nat
 que:List SH
 wA:Option Addr
 wc:Nat
 wk:List Bool
 xA:Option Addr
 xc:Nat
 was:List Int
 lA:Option Addr
 lc:Nat
 lk:List aX
 pc:Nat
 pw:List au
 ic:Nat
 il:List cu
def dK (p:RP):aB:=aU p.b (.cells #[.slice p.A p.n p.c,.slice p.bA p.bs.length p.bc,.pointer (some ⟨p.bb,0,none⟩),.pointer (some ⟨p.t.b,0,none⟩),.pointer (some ⟨p.m.b,0,none⟩),.slice p.qA p.ds.length p.qc,.slice p.sA p.n p.sc,.slice p.uA p.n p.uc,.slice p.wA p.n p.wc,.slice p.xA p.n p.xc,.slice p.lA p.lk.length p.lc] 211 (0,0))
def ZQ (p:RP):List aB:=[OS 43 (aD .u64) p.bA p.bc p.bs,OS 4 ad p.sA p.sc p.stp,OS 69 ig p.uA p.uc p.que,OS 4 ad p.wA p.wc p.wk,OS 3 (aD .i64) p.xA p.xc p.was,OS 215 cN p.qA p.qc p.ds,aF ij p.ds,OS 60 aM p.t.A p.pc p.pw,OS 62 ar p.m.A p.ic p.il,aF jq p.que]++(gX p.t++ko p.m)
def xO (p:RP):List aB:=dK p::OS 219 aC p.lA p.lc p.lk::ZQ p
theorem ZR {w:World} {a:aB} (p:RP) (n:Nat) (c:p.que=List.replicate n ie) (h:Hp Q J [dK p,OS 219 aC p.lA p.lc p.lk,OS 43 (aD .u64) p.bA p.bc p.bs,OS 4 ad p.sA p.sc p.stp,OS 69 ig p.uA p.uc p.que,OS 4 ad p.wA p.wc p.wk,OS 3 (aD .i64) p.xA p.xc p.was,OS 215 cN p.qA p.qc p.ds,aF ij p.ds,OS 60 aM p.t.A p.pc p.pw,OS 62 ar p.m.A p.ic p.il,aP (gX p.t),aP (ko p.m),a] w):Hp Q J (xO p++[a]) w:=by
 have b:=ZP (M:=[dK p,OS 219 aC p.lA p.lc p.lk,OS 43 (aD .u64) p.bA p.bc p.bs,OS 4 ad p.sA p.sc p.stp,OS 69 ig p.uA p.uc p.que,OS 4 ad p.wA p.wc p.wk,OS 3 (aD .i64) p.xA p.xc p.was,OS 215 cN p.qA p.qc p.ds,aF ij p.ds,OS 60 aM p.t.A p.pc p.pw,OS 62 ar p.m.A p.ic p.il]) (T:=gX p.t) (Y:=ko p.m) (X:=[a]) n h;rw[<-c] at b;exact b
structure RP.fresh (p:RP) (ds:List bR) (rs:List ag) (bs:List Int) (A:Option Addr) (c bb:Nat):Prop where
 A:p.A=A
 n:p.n=ds.length
 c:p.c=c
 bs:p.bs=bs
 bb:p.bb=bb
 tn:p.t.n=ds.length
 trs:p.t.rs=cy rs
 tst:p.t.st=List.replicate ds.length 4
 tck:p.t.clk=0
 mn:p.m.n=ds.length
 mlk:p.m.lk=aj (bq ds) ds.length
 mon:p.m.on=List.replicate ds.length false
 mus:p.m.us=List.replicate ds.length 0
 msi:p.m.si=List.replicate ds.length 0
 mck:p.m.clk=0
 dn:p.ds.length=ds.length
 di: ∀i,i<ds.length->(p.ds.getD i zu).of (ds.getD i aG.d)
 stp:p.stp=List.replicate ds.length false
 que:p.que=List.replicate ds.length ie
 wk:p.wk=List.replicate ds.length false
 wn:p.was.length=ds.length
 wa: ∀i,i<ds.length->p.was.getD i 0=4
 lk:p.lk=aj (bq ds) ds.length
 pw:p.pw=kq ds
 il:p.il=bq ds
structure RG where
 pA:Option Addr
 pc:Nat
 iA:Option Addr
 ic:Nat
 qA:Option Addr
 qc:Nat
 rs:List RI
 lA:Option Addr
 lc:Nat
 ws:List Int
structure P4 where
 pA:Option Addr
 pc:Nat
 iA:Option Addr
 ic:Nat
theorem ZS {i:Nat} (a:H.length=h) (b:i<h) (n: ∀j,j<i->H.getD j 0=4):(H.set i 4).length=h/\ ∀j,j<i+1->(H.set i 4).getD j 0=4:=by
 grind [db]
def au.setD (d:au) (k:Nat) (v:Int):au:=match k with
 |0=>{d with d0:=v}
 |1=>{d with d1:=v}
 |2=>{d with d2:=v}
 |3=>{d with d3:=v}
 |4=>{d with d4:=v}
 |_=>{d with d5:=v}
theorem ZT (d:au): ∀ {k:Nat} (v:Int),k<6->((dH d).toArray.toList.take (0+5+k* 1)++[Value.int .i64 v]++(dH d).toArray.toList.drop (0+5+k* 1+[Value.int .i64 v].length)).toArray=(dH (d.setD k v)).toArray
 |0,_,_=>rfl
 |1,_,_=>rfl
 |2,_,_=>rfl
 |3,_,_=>rfl
 |4,_,_=>rfl
 |5,_,_=>rfl
 |k+6,_,h=>zo
theorem NZ (d:au) (v:Int) {j:Nat} (a:h<6) (b:j<6):(d.setD h v).dp j=if j=h then v else d.dp j:=by
 obtain rfl|rfl|rfl|rfl|rfl|rfl:h=0\/h=1\/h=2\/h=3\/h=4\/h=5:=zo
 all_goals (obtain rfl|rfl|rfl|rfl|rfl|rfl:j=0\/j=1\/j=2\/j=3\/j=4\/j=5:=by omega)<;>rfl
theorem ZU (d:au) (v:Int) (k j:Nat):(d.setD k v).rl j=d.rl j:=by
 unfold au.setD;split<;>(unfold au.rl;rfl)
theorem ZV (d:au) (v:Int) (k:Nat):cm (d.setD k v)=cm d:=by
 unfold au.setD;split<;>rfl
theorem ZW (d:au) (k:Hd) {j:Nat} (a:h<4) (b:j<4):(d.setR h k).rl j=if j=h then k else d.rl j:=by
 obtain rfl|rfl|rfl|rfl:h=0\/h=1\/h=2\/h=3:=zo
 all_goals (obtain rfl|rfl|rfl|rfl:j=0\/j=1\/j=2\/j=3:=by omega)<;>rfl
theorem ZX (d:au) (k:Hd) (a:h<4):(d.setR h k).rls=d.rls.set h k:=by
 obtain rfl|rfl|rfl|rfl:h=0\/h=1\/h=2\/h=3:=zo
 all_goals rfl
structure jM (e:au) (i:Nat) (m:Int):Prop where
 par: -1<=e.par/\e.par<i
 rl: ∀j,j<4->dU (e.rl j).ys/\eF m (e.rl j).ys/\(e.rl j).ys.length<=3
 ws:0<=e.ws/\e.ws<=4
 wd:0<=e.wd/\e.wd<=3
 d0:e.d0=0
def ik (e:au) (k:Nat):Prop:= ∀j,j<k->(0<=e.dp j/\e.dp j<=4)/\(0<j->e.dp (j-1)<=e.dp j)
theorem jM.setR {e:au} {i:Nat} {m:Int} (h:jM e i m) {k:Nat} (b:k<4) (A:Option Addr) (c:Nat) {ys:List Int} (d:ys.length<=3) (f:dU ys) (g:eF m ys):jM (e.setR k ⟨A,c,ys⟩) i m:=by
 obtain rfl|rfl|rfl|rfl:k=0\/k=1\/k=2\/k=3:=zo
 all_goals
  refine⟨h.par,λj a=>?_,h.ws,h.wd,h.d0⟩;rw[ZW e _ zd a];split
  ·grind
  ·exact h.rl j a
theorem jM.setD {e:au} {i:Nat} {m:Int} (h:jM e i m) {k:Nat} (h0:0<k) (b:k<6) (v:Int):jM (e.setD k v) i m:=by
 obtain rfl|rfl|rfl|rfl|rfl:k=1\/k=2\/k=3\/k=4\/k=5:=zo
 all_goals exact⟨h.par,λj a=>by rw[ZU];exact h.rl j a,h.ws,h.wd,h.d0⟩
theorem ik.step {e:au} (v:ik e h) (h0:0<h) (a:h<6) (b:0<=D) (c:D<=4):ik (e.setD h (max (e.dp (h-1)) D)) (h+1):=by
 intro j d;have f:=v (h-1) zo;by_cases g:j=h
 ·grind [NZ]
 ·have i:=v j zo
  grind [NZ]
theorem ik.setR {e:au} {n:Nat} (h:ik e n) {k:Nat} (a:k<4) (x:Hd):ik (e.setR k x) n:=by
 obtain rfl|rfl|rfl|rfl:k=0\/k=1\/k=2\/k=3:=zo
 all_goals exact h
theorem jM.base {p s d:Int} (e:0<=p/\p<(h:Int)+1) (b:0<=s/\s<5) (c:0<=d/\d<4):jM ⟨p-1,bN,bN,bN,bN,0,0,0,0,0,0,d,s⟩ h D:=by
 refine⟨⟨zg,zg⟩,λj f=>?_,⟨b.1,zg⟩,⟨c.1,zg⟩,rfl⟩;obtain rfl|rfl|rfl|rfl:j=0\/j=1\/j=2\/j=3:=zo
 all_goals exact⟨λh a=>absurd a (Nat.not_lt_zero _),λh a=>absurd a (Nat.not_lt_zero _),qT _⟩
theorem ik.base {s d:Int}:ik ⟨D,bN,bN,bN,bN,0,0,0,0,0,0,d,s⟩ 1:=λj a=>by
 obtain rfl:j=0:=zo
 exact⟨⟨show(0:Int)<=0 from zd,show(0:Int)<=4 from zd⟩,λh=>zo⟩
section
variable {I0:aV} {w0 w:World} {X Y:List aB}
theorem uw {A:aB} (h:Hp I0 w0 (A::Y) w):Hp I0 w0 Y w:=by
 have a:Hp I0 w0 (aP Y::[A]) w:=Hp.bun (M:=Y) (h.perm (qi _ _).symm);have b:=Hp.unbun (M:=Y) (R:=[]) (a.sel [0] z6)
 grind
theorem zw {e:au} (b:h<4) {h':Hd} (k:Hp I0 w0 (X++[cm e,cb h']) w):Hp I0 w0 (X++[cm (e.setR h h')]) w:=by
 have a:h<e.rls.length:=b;have c:Hp I0 w0 (aF cb e.rls::(cb h'::X)) w:=k.perm (qf (l₁:=X) (l₂:=[cm e,cb h']));have d:=c.focus (k:=0) (m:=h) bN z6 a;have f:Hp I0 w0 ((cb h'::X)++[aF cb (e.rls.eraseIdx h)]) w:=uw d;have i:=Hp.unfocus (k:=0) f z6 a;have g:Hp I0 w0 (cm (e.setR h h')::X) w:=by grind [cm,ZX]
 exact g.perm (qi _ _).symm
theorem ZY (h:Hp I0 w0 X w) (p d s:Int):Hp I0 w0 (X++[cm ⟨p,bN,bN,bN,bN,0,0,0,0,0,0,d,s⟩]) w:=by
 have e:Hp I0 w0 (X++[OS 3 (aD .i64) none 0 []]) w:=h.nilOS;have f:Hp I0 w0 (X++[OS 3 (aD .i64) none 0 []]++[OS 3 (aD .i64) none 0 []]) w:=e.nilOS;have g:Hp I0 w0 (X++[OS 3 (aD .i64) none 0 []]++[OS 3 (aD .i64) none 0 []]++[OS 3 (aD .i64) none 0 []]) w:=f.nilOS;have q:Hp I0 w0 (X++[OS 3 (aD .i64) none 0 []]++[OS 3 (aD .i64) none 0 []]++[OS 3 (aD .i64) none 0 []]++[OS 3 (aD .i64) none 0 []]) w:=g.nilOS;have k:Hp I0 w0 (X++[cb bN,cb bN,cb bN,cb bN]) w:=by grind [cb,bN]
 obtain⟨I,l,m,n⟩:=k;refine⟨I,?_,m,n⟩;obtain⟨i,j,a,b,c,o⟩:=Sep.append.1 l;exact Sep.append.2 ⟨i,j,a,b,c,⟨j,λ_=>False,λx=>zm,λ_ _ h=>h,o,λ_ h=>h⟩⟩
end
structure SG where
 A:Option Addr
 c:Nat
 es:List au
end Go.Pw
namespace Go.Pw
open Go.Sv Go.Drv
def uV:List Bs:=[[115,116,97,114,116],[115,116,111,112],[115,117,115,112,101,110,100],[114,101,115,117,109,101],[105,114,113],[112,111,108,108]]
def oV (o:Ro):Ro:=⟨o.wr,o.reg%64* 4,o.val⟩
def pV (i:Nat) (t:Tr):Tr:=⟨t.frm,uV.getD ((((t.ev.length:Int)+i+t.to)%6).toNat) [],⟨t.gd.used,t.gd.reg%64* 4,t.gd.mask,t.gd.val⟩,t.ops.map oV,t.to⟩
def jN (d:Dv):Dv:=⟨d.name,d.ss,d.ts.mapIdx pV⟩
theorem ES: ∀ {k:Nat},k<6->(#[Value.string (bs [115,116,97,114,116]),.string (bs [115,116,111,112]),.string (bs [115,117,115,112,101,110,100]),.string (bs [114,101,115,117,109,101]),.string (bs [105,114,113]),.string (bs [112,111,108,108])]).toList[0+k* 1]?=some (.string (bs (uV.getD k [])))
 |0,_=>rfl
 |1,_=>rfl
 |2,_=>rfl
 |3,_=>rfl
 |4,_=>rfl
 |5,_=>rfl
 |k+6,h=>zo
def xP (i:Nat) (h:TH) (ys:List Ro):TH:=⟨⟨h.t.frm,uV.getD ((((h.t.ev.length:Int)+i+h.t.to)%6).toNat) [],⟨h.t.gd.used,h.t.gd.reg%64* 4,h.t.gd.mask,h.t.gd.val⟩,ys,h.t.to⟩,h.A,h.c⟩
theorem ZZ {i:TH} {ys:List Ro} (e:ys=i.t.ops.map oV):(xP h i ys).t=pV h i.t:=by subst e;rfl
def pX (hs gs:List TH) (i:Nat):Prop:=gs.length=hs.length/\ ∀j,j<hs.length->(j<i->(gs.getD j gV).t=pV j (hs.getD j gV).t)/\(¬j<i->gs.getD j gV=hs.getD j gV)
theorem pX.base (hs:List TH):pX hs hs 0:=⟨rfl,λj a=>⟨λh=>zo,λ_=>rfl⟩⟩
theorem pX.step {hs gs:List TH} (i:pX hs gs h) (a:h<hs.length) {ys:List Ro} (e:ys=(gs.getD h gV).t.ops.map oV):pX hs (gs.set h (xP h (gs.getD h gV) ys)) (h+1):=by
 have d:gs.getD h gV=hs.getD h gV:=(i.2 h a).2 zo;refine⟨by rw[qI];exact i.1,λj b=>?_⟩;by_cases c:h=j
 ·subst c;rw[dN _ _ _ _ (by rw[i.1];exact a)]
  grind [ZZ]
 ·rw[db _ _ _ c];exact⟨λk=>(i.2 j b).1 zo,λk=>(i.2 j b).2 zo⟩
theorem pX.done {hs gs:List TH} (h:pX hs gs hs.length):gs.map (·.t)=(hs.map (·.t)).mapIdx pV:=by
 apply List.ext_getElem (by simp[h.1]);intro j c d;have a:j<hs.length:=zg
 have b:j<gs.length:=zg
 have:=(h.2 j a).1 a
 grind
def oW (os ys:List Ro) (k:Nat):Prop:=ys.length=os.length/\ ∀j,j<os.length->(j<k->ys.getD j jv=oV (os.getD j jv))/\(¬j<k->ys.getD j jv=os.getD j jv)
theorem oW.base (os:List Ro):oW os os 0:=⟨rfl,λj a=>⟨λh=>zo,λ_=>rfl⟩⟩
theorem oW.step {os ys:List Ro} (k:oW os ys h) (a:h<os.length):oW os (ys.set h (oV (ys.getD h ax.d))) (h+1):=by
 have e:ys.getD h ax.d=os.getD h jv:=(k.2 h a).2 zo;refine⟨by rw[qI];exact k.1,λj b=>?_⟩;by_cases c:h=j
 ·subst c;rw[dN _ _ _ _ (by rw[k.1];exact a)]
  grind
 ·rw[db _ _ _ c];exact⟨λx=>(k.2 j b).1 zo,λx=>(k.2 j b).2 zo⟩
theorem oW.done {os ys:List Ro} (h:oW os ys os.length):ys=os.map oV:=by
 apply List.ext_getElem (by simp[h.1]);intro j b c;have a:j<os.length:=zg
 have:=(h.2 j a).1 a
 grind
theorem zx {d:Dv} (h:du d):du (jN d):=by
 intro t b;obtain⟨i,c,rfl⟩:=List.getElem_of_mem b;simp only[jN,List.length_mapIdx] at c;have a:=h (d.ts[i]) (List.getElem_mem _);simp only[jN,List.getElem_mapIdx];refine⟨⟨?_,a.1.2⟩,λo e=>?_⟩
 ·have:=a.1.1;unfold u64 at this;exact⟨by show 0<=_%64* 4;omega,by show _%64* 4<_;omega⟩
 ·obtain⟨p,f,rfl⟩:=List.mem_map.1 e;have:=a.2 p f;refine⟨?_,this.2⟩;have g:=this.1;unfold u64 at g;exact⟨by show 0<=_%64* 4;omega,by show _%64* 4<_;omega⟩
theorem Za {d:DH} (a:h<d.hs.length):(d.hs.getD h gV).t∈d.d.ts:=by
 have:(d.hs.getD h gV)=d.hs[h]:=zg
 rw[this];exact List.mem_map.2 ⟨_,List.getElem_mem _,rfl⟩
theorem Zd {t:Tr} {ys:List Ro} (k:sK t) (a:oW t.ops ys h) (b:h<t.ops.length):u64 (ys.getD h ax.d).reg:=by
 have c:ys.getD h ax.d=t.ops.getD h jv:=(a.2 h b).2 zo;rw[c];have:t.ops.getD h jv=t.ops[h]:=zg
 rw[this];exact(k.2 _ (List.getElem_mem _)).1
def jO (d:Dv):Bs:=lX (jN (cH d))
theorem Na {d:Dv} (h:du d):(jO d).length<=130000:=by
 grind [jO,lX,CF,CJ,sL,zx,wE]
section
variable {I0:aV} {w0 w:World} {X:List aB} {gs:List TH} {i:Nat}
theorem Ze (h:Hp I0 w0 (X++[aF cE gs]) w) (a:i<gs.length):Hp I0 w0 (X++[cE (gs.getD i gV),aF cE (gs.eraseIdx i)]) w:=by
 have b:Hp I0 w0 (aF cE gs::X) w:=h.perm (qi _ _);have c:Hp I0 w0 ((cE (gs.getD i gV)::X)++[aF cE (gs.eraseIdx i)]) w:=b.focus (k:=0) (m:=i) gV z6 a;have d:=c.perm ((qi (cE (gs.getD i gV)) X).symm.append_right [aF cE (gs.eraseIdx i)]);grind
theorem Zf (h':TH) (h:Hp I0 w0 (X++[cE h',aF cE (gs.eraseIdx i)]) w) (a:i<gs.length):Hp I0 w0 (X++[aF cE (gs.set i h')]) w:=by
 have b:Hp I0 w0 ((X++[cE h'])++[aF cE (gs.eraseIdx i)]) w:=zg
 have c:Hp I0 w0 ((cE h'::X)++[aF cE (gs.eraseIdx i)]) w:=b.perm ((qi (cE h') X).append_right _);have d:=Hp.unfocus (k:=0) c z6 a;exact d.perm (qi _ _).symm
end
end Go.Pw
namespace Go.Pw
open Go.Sv Go.Rails
def fk (d:bR):aB:=aP [cm d.pw,cb d.il.sup]
def gf (e:au):au:=⟨e.par,e.r0,bN,bN,bN,e.d0,e.d1,e.d2,e.d3,e.d4,e.d5,e.wd,e.ws⟩
structure gv (ys:List Int) (i:Nat) (p:Int):Prop where
 r: ∀s∈ys,(0<=s/\s<i)/\s≠p
 n:ys.Nodup
theorem gv.nil (i:Nat) (p:Int):gv [] i p:=⟨λs h=>(List.not_mem_nil h).elim,List.nodup_nil⟩
theorem gv.snoc {s d:Int} (p:gv H h D) (f:0<=s/\s<h) (g:s≠D) (k: ∀j,j<H.length->H.getD j d≠s):gv (H++[s]) h D:=by
 refine⟨λx c=>?_,?_⟩
 ·rcases List.mem_append.1 c with c|c
  ·exact p.r x c
  grind
 ·rw[List.nodup_append];refine⟨p.n,zm,λa l b m e=>?_⟩
  grind [List.getElem_of_mem]
def gg (drs:List Go.Drv.DH) (i:Nat):Bs:=if i<drs.length then jO (drs.getD i gl.d).d else jO ⟨[],[],[]⟩
structure eT (d:bR) (i:Nat) (m arr:Int) (drs:List Go.Drv.DH):Prop where
 fn:d.fn=((i:Int)* 7+ah arr 9)%200
 sm:jM d.pw i m
 dp:ik d.pw 6
 r1:d.pw.r1.ys=[]
 r2:d.pw.r2.ys=[]
 r3:d.pw.r3.ys=[]
 par:d.il.par=d.pw.par
 dly:0<=d.il.dly/\d.il.dly<12
 sl:d.il.sup.ys.length<=6
 su:gv d.il.sup.ys i d.pw.par
 drv:d.drv=gg drs i
theorem Nb {drs:List Go.Drv.DH} (h: ∀i,i<drs.length->Go.Drv.du (drs.getD i gl.d).d) (i:Nat):(gg drs i).length<=130000:=by
 unfold gg;split
 ·grind [Na]
 ·exact Na λt a=>(List.not_mem_nil a).elim
theorem Nc (ds:List bR) (k:Nat) (a:h<((ds.take k).map (·.pw)).length):h<ds.length/\((ds.take k).map (·.pw)).getD h aM.d=(ds.getD h aG.d).pw:=by
 grind
theorem Zg (d:bR): ∀(j:Nat) (v:Value),(aM.f d.pw)[j]?=some v->(mX d)[1+j]?=some v
 |0,_,h=>h
 |1,_,h=>h
 |2,_,h=>h
 |3,_,h=>h
 |4,_,h=>h
 |5,_,h=>h
 |6,_,h=>h
 |7,_,h=>h
 |8,_,h=>h
 |9,_,h=>h
 |10,_,h=>h
 |11,_,h=>h
 |12,_,h=>h
 |j+13,v,h=>by simp[aM,dH] at h
theorem jM.clr {e:au} (m:jM e h D):jM (gf e) h D:=by
 refine⟨m.par,λj b=>?_,m.ws,m.wd,m.d0⟩;obtain rfl|rfl|rfl|rfl:j=0\/j=1\/j=2\/j=3:=zo
 ·exact m.rl 0 b
 all_goals exact⟨λh a=>absurd a (Nat.not_lt_zero _),λh a=>absurd a (Nat.not_lt_zero _),qT _⟩
theorem ik.clr {e:au} (n:ik e h):ik (gf e) h:=n
section
variable {I0:aV} {w0 w:World} {X:List aB}
theorem Zh {e:au} (h:Hp I0 w0 (X++[cm e]) w):Hp I0 w0 (X++[cm (gf e)]) w:=by
 have nl: ∀ {Y:List aB},Hp I0 w0 Y w->Hp I0 w0 (Y++[cb bN]) w:=λh=>h.nilOS;have a:=nl h;rw[qL] at a;have b:=nl (zw (h:=1) zd a);rw[qL] at b;have c:=nl (zw (h:=2) zd b);rw[qL] at c;exact zw (h:=3) zd c
theorem Zi {β:Type} {F:β->aB} {hs:List β} (d:β) (m:h<hs.length) (i:Hp I0 w0 (X++[aF F (hs.drop h)]) w):Hp I0 w0 (X++[aF F (hs.drop (h+1)),F (hs.getD h d)]) w:=by
 have e:hs.drop h=hs.getD h d::hs.drop (h+1):=by simp_all
 rw[e] at i;have c:Hp I0 w0 (aF F (hs.getD h d::hs.drop (h+1))::X) w:=i.perm (qi _ _);have f:=c.splice (k:=0) (M:=[F (hs.getD h d),aF F (hs.drop (h+1))]) z6 λq g=>by
  obtain⟨a,b,c,f,j,l⟩:=g;exact⟨a,b,c,f,j,⟨b,λ_=>False,λx=>zm,λ_ _ i=>i,l,λ_ i=>i⟩⟩
 refine f.perm ?_;have:([F (hs.getD h d),aF F (hs.drop (h+1))]++X).Perm (X++[F (hs.getD h d),aF F (hs.drop (h+1))]):=qf;exact this.trans (List.Perm.append_left X (List.Perm.swap _ _ _))
theorem Zj {ds:List bR} (d:bR) (h:Hp I0 w0 (X++[aF fk ds,cm d.pw,cb d.il.sup]) w):Hp I0 w0 (X++[aF fk (ds++[d])]) w:=by
 have a:Hp I0 w0 ((X++[aF fk ds])++[cm d.pw,cb d.il.sup]) w:=zg
 have b:Hp I0 w0 ((X++[aF fk ds])++[fk d]) w:=tT a;have c:Hp I0 w0 ((aF fk ds::X)++[fk d]) w:=b.perm ((qi _ _).append_right _);have e:=Hp.bigSnoc (U:=aF fk ds::X) (l:=0) c rfl;exact e.perm (qi _ _).symm
end
structure HG where
 dA:Option Addr
 dc:Nat
 ds:List bR
 bA:Option Addr
 bc:Nat
 bs:List Int
theorem Zk {ds:List bR} {n:Nat} {arr:Int} {drs:List Go.Drv.DH} {d:bR} {b:Int} (m:(h<=n/\ds.length=h/\H.length=h)/\ ∀j,j<h->eT (ds.getD j aG.d) j D arr drs/\H.getD j (aD .u64).d=bX j arr) (c:eT d h D arr drs) (e:b=bX h arr): ∀j,j<h+1->eT ((ds++[d]).getD j aG.d) j D arr drs/\(H++[b]).getD j (aD .u64).d=bX j arr:=λj a=>
 ⟨xL (P:=λj x=>eT x j D arr drs) m.1.2.1 (λj a=>(m.2 j a).1) c j a,xL (P:=λj x=>x=bX j arr) m.1.2.2 (λj a=>(m.2 j a).2) e j a⟩
end Go.Pw
namespace Go.Sv
theorem OS.own {α:Type} {K:bO α} {e:TypeId} {ys:List α} (I:(OS e K U h ys).sat J Q) (b:ys≠[]):Q (bk U):=by
 rcases I with ⟨_,I,_⟩|⟨g,a,rfl,hI,_⟩
 ·grind
 ·exact(hI _).2 rfl
theorem Sep.mem {β:Type} {F:β->aB} {w:World}: ∀ {hs:List β} {I:aV},Sep (hs.map F) I w-> ∀b∈hs,∃i:aV,(F b).sat w i/\ ∀x,i x->I x
 |a::hs,I,h,b,c=>by
  obtain⟨i,j,hI,m,e,f⟩:=h;rcases qe.1 c with rfl|c
  ·exact⟨i,e,λx d=>(hI x).2 (.inl d)⟩
  ·obtain⟨k,g,l⟩:=Sep.mem f b c;exact⟨k,g,λx d=>(hI x).2 (.inr (l x d))⟩
theorem Zl {w:World} {Z:List aB} (h:Hp Q J (M++Z) w):Hp Q J M w:=by
 have a:=Hp.unbun (M:=M) (R:=[]) ((Hp.bun (M:=M) (R:=Z) h).sel [0] z6)
 grind
theorem RS.lt {α:Type} {K:bO α} {ys:List α} (h:RS J K U ys) (a:ys≠[]):bk U<J.heap.size:=by
 rcases h with h|⟨cs,t,b,_,h,_⟩
 ·grind
 grind
end Go.Sv
namespace Go.Pw
open Go.Sv Go.Rails
def lu (z:HG):Prop:=(z.ds.length<=6/\z.bs.length<=6)/\(∀i,i<z.ds.length->(z.ds.getD i aG.d).pw.sm 1000000/\(z.ds.getD i aG.d).drv.length<=900000)/\ ∀i,i<z.bs.length->Ios.aY (z.bs.getD i (aD .u64).d)
theorem Nd (e:au) (a:h<4):e.rl h∈e.rls:=by
 obtain rfl|rfl|rfl|rfl:h=0\/h=1\/h=2\/h=3:=zo
 all_goals simp[au.rl,au.rls]
theorem Zn {d:bR} (h:(fk d).sat J Q):d.pw.rs J/\RS J (aD .i64) d.il.sup.A d.il.sup.ys:=by
 obtain⟨a,b,_,_,f,c,e,_,_,g,_⟩:=h;refine⟨λk l=>?_,oh c d.il.sup g⟩;obtain⟨j,m,_⟩:=Sep.mem (F:=cb) f _ (Nd d.pw l)
 grind [oh]
theorem Zo {d:bR} (h:(fk d).sat J Q):(∀k,k<4->(d.pw.rl k).ys≠[]->Q (bk (d.pw.rl k).A))/\(d.il.sup.ys≠[]->Q (bk d.il.sup.A)):=by
 obtain⟨a,b,hI,_,g,c,e,l,_,m,_⟩:=h;refine⟨λk n f=>?_,λf=>(hI _).2 (.inr ((l _).2 (.inl (OS.own m f))))⟩;obtain⟨j,o,p⟩:=Sep.mem (F:=cb) g _ (Nd d.pw n);exact(hI _).2 (.inl (p _ (OS.own o f)))
section
variable {I0:aV} {w0 w:World} {X:List aB} {z:HG} {rA:Option Addr} {rc:Nat} {rs:List ag}
theorem Zp (h:Hp I0 w0 ([OS 64 aG z.dA z.dc z.ds,aF fk z.ds,OS 190 aE rA rc rs,OS 43 (aD .u64) z.bA z.bc z.bs]++X) w) (c:lu z):RS w aG z.dA z.ds/\RS w aE rA rs/\RS w (aD .u64) z.bA z.bs/\ ∀i,i<z.ds.length->(z.ds.getD i aG.d).inn w:=by
 refine⟨h.os 0 rfl,h.os 2 rfl,h.os 3 rfl,λi a=>?_⟩;have e:=h.bigOS (k:=1) (F:=fk) (G:=λb w=>b.pw.rs w/\RS w (aD .i64) b.il.sup.A b.il.sup.ys) aG.d z6 a λi b k=>Zn k;exact⟨e.1,(c.2.1 i a).1,e.2,(c.2.1 i a).2⟩
theorem Zq (hs:H≠[]->bk U=bk z.bA/\z.bs≠[]) (c:xN z.dA rA U z.ds rs H h):cn I0 w0 ([OS 64 aG z.dA z.dc z.ds,aF fk z.ds,OS 190 aE rA rc rs,OS 43 (aD .u64) z.bA z.bc z.bs]++X) h:=by
 refine .inr ?_;rcases c with ⟨a,rfl⟩|⟨a,rfl⟩|⟨a,rfl⟩|⟨i,f,a⟩
 ·exact⟨0,_,rfl,λw I b=>OS.own b a⟩
 ·exact⟨2,_,rfl,λw I b=>OS.own b a⟩
 ·rw[(hs a).1];exact⟨3,_,rfl,λw I b=>OS.own b (hs a).2⟩
 ·refine⟨1,_,rfl,λw I b=>?_⟩;have e:z.ds.getD i aG.d∈z.ds:=zg
  obtain⟨j,g,k⟩:=Sep.mem (F:=fk) b _ e
  grind [Zo]
end
theorem Nf {B C:Option Addr} {ds:List bR} {rs:List ag} (hI: ∀x,¬Q x) (f:RS J aG U ds) (g:RS J aE B rs) (j:RS J (aD .u64) C H) (c: ∀i,i<ds.length->(ds.getD i aG.d).inn J) (l:xN U B C ds rs H h):cn Q J M h:=by
 refine .inl ⟨hI h,?_⟩;rcases l with ⟨b,rfl⟩|⟨b,rfl⟩|⟨b,rfl⟩|⟨i,e,b⟩
 ·exact f.lt b
 ·exact g.lt b
 ·exact j.lt b
 ·rcases b with ⟨k,m,a,rfl⟩|⟨a,rfl⟩
  ·exact((c i e).1 k m).lt a
  ·exact(c i e).2.2.1.lt a
structure LZ where
 z:HG
 dr:Nat
structure HV where
 A:Option Addr
 n:Nat
 c:Nat
 B:Option Addr
 m:Nat
 d:Nat
 C:Option Addr
 q:Nat
 e:Nat
def pY (z:HG):Nat->Option Addr
 |0=>z.bA
 |_=>dY z.bA 1 1 z.bc
theorem Zr (z:HG): ∀dr,bk (pY z dr)=bk z.bA
 |0=>rfl
 |dr+1=>by
  show bk (dY z.bA 1 1 z.bc)=_;unfold dY;split
  ·rfl
  ·cases z.bA<;>rfl
theorem OS.len {α:Type} {K:bO α} {e:TypeId} {ys:List α} (I:(OS e K U h ys).sat J Q):ys.length<=h:=by
 rcases I with ⟨_,rfl,_⟩|⟨g,a,_,_,_,I,_⟩
 ·grind
 grind
theorem Zu {z:HG} (h:RS J (aD .u64) z.bA z.bs) (a:z.bs.length<=z.bc): ∀ {dr:Nat},dr<=1->RS J (aD .u64) (pY z dr) (z.bs.drop dr)
 |0,_=>h
 |1,_=>h.drop 1 a
 |dr+2,h=>zo
def Zx (z:HG) (rA:Option Addr) (rc m:Nat) (dr:Nat):HV:=⟨z.dA,z.ds.length,z.dc,rA,m,rc,pY z dr,z.bs.length-dr,z.bc-dr⟩
structure SpX where
 d:bR
 bs:List Int
 dr:Nat
theorem lu.gen {z:HG} {arr:Int} {drs:List Go.Drv.DH} (b:z.ds.length<=6) (e:z.bs.length=z.ds.length) (f: ∀i,i<drs.length->Go.Drv.du (drs.getD i gl.d).d) (h: ∀i,i<z.ds.length->eT (z.ds.getD i aG.d) i D arr drs/\z.bs.getD i (aD .u64).d=bX i arr):lu z:=by
 refine⟨⟨b,zo⟩,λi a=>⟨λk c=>qk ((h i a).1.sm.rl k c).2.2 zd,?_⟩,λi a=>?_⟩
 ·rw[(h i a).1.drv];grind [Nb]
 ·rw[(h i zo).2];have:=EI i arr;grind [Ios.aY]
theorem Ng {i:Nat} (v: ∀j,j<h->Ios.aY (H.getD j (aD .u64).d)) (c:H.length=h) (a:Ios.aY D): ∀j,j<h->Ios.aY ((H.set i D).getD j (aD .u64).d):=λj b=>by
 by_cases e:i=j
 ·subst e;rw[dN _ _ _ _ zo];exact a
 ·rw[db _ _ _ e];exact v j b
structure pZ (I:aV) (w:World) (HH:List aB) (V:HV) (ds:List bR) (rs:List ag) (bs:List Int):Prop where
 n:V.n=ds.length
 m:V.m=rs.length
 q:V.q=bs.length
 l1:ds.length<=1000000
 l2:rs.length<=1000000
 l3:bs.length<=1000000
 u: ∀i,i<bs.length->Ios.aY (bs.getD i (aD .u64).d)
 rd: ∀X w',Hp I w (HH++X) w'->RS w' aG V.A ds/\RS w' aE V.B rs/\RS w' (aD .u64) V.C bs/\ ∀i,i<ds.length->(ds.getD i aG.d).inn w'
 ro: ∀X b,xN V.A V.B V.C ds rs bs b->cn I w (HH++X) b
def xQ (z:HG) (rA:Option Addr) (rc:Nat) (rs:List ag):List aB:=[OS 64 aG z.dA z.dc z.ds,aF fk z.ds,OS 190 aE rA rc rs,OS 43 (aD .u64) z.bA z.bc z.bs]
theorem pZ.made {z:HG} (a:lu z) (c:h<=1) {rc:Nat} {rs:List ag} (l2:rs.length<=1000000):pZ Q J (xQ z U rc rs) (Zx z U rc rs.length h) z.ds rs (z.bs.drop h):=by
 refine⟨rfl,rfl,(qG ..).symm,by have:=a.1.1;omega,l2,by rw[qG];have:=a.1.2;omega,λi f=>?_,λX r rA=>?_,λX b g=>?_⟩
 ·rw[qG] at f;have e:(z.bs.drop h).getD i (aD .u64).d=z.bs.getD (h+i) (aD .u64).d:=zg
  rw[e];exact a.2.2 _ zo
 ·obtain⟨l,m,n,o⟩:=Zp rA a;obtain⟨i,j,p,_⟩:=rA.at (k:=3) rfl;exact⟨l,m,Zu n (OS.len p) c,o⟩
 ·refine Zq (U:=pY z h) (H:=z.bs.drop h) (λq=>⟨Zr z h,λe=>q zg⟩) g
end Go.Pw
namespace Go.Pw
open Go.Sv Go.Rails Go.Dg
structure nZ (rk:Nat->Nat) (K:Int) (st:St):Prop where
 wf:st.wf
 acy:ju st.rails rk
 r8: ∀i,i<st.rails.length->rk i<8
 up: ∀i,i<st.rails.length->0<=(st.r i).up/\(st.r i).up<20
 cl:st.clock=0
 c: ∀i,i<st.rails.length->0<=st.c i/\st.c i<=K
 t0: ∀i,i<st.rails.length->st.c i=0->st.t i=0
 t: ∀i,i<st.rails.length->0<=st.t i/\st.t i<=20* (rk i+1)
structure Tkn (rk:Nat->Nat) (K:Int) (i:Nat) (st st':St):Prop where
 ra:st'.rails=st.rails
 ok:nZ rk (K+1) st'
 on:st'.c i≠0
 ge: ∀j,j<st.rails.length->st.c j<=st'.c j
 no: ∀j,rk i<rk j->st'.c j=st.c j/\st'.t j=st.t j
theorem ET {d:cu} {l:aX} (i:l∈cv h d d.sup.ys.length):l.con=(h:Int)/\((0<=d.par/\l.sup=d.par)\/l.sup∈d.sup.ys):=by
 grind [cv]
theorem EU {ids:List cu} {l:aX}: ∀ {m:Nat},l∈aj ids m-> ∃i,i<m/\l∈cv i (ids.getD i ar.d) (ids.getD i ar.d).sup.ys.length
 |0,h=>(List.not_mem_nil h).elim
 |m+1,h=>by
  rw[aj,List.mem_append] at h;rcases h with h|h
  ·obtain⟨i,a,h⟩:=EU h;grind
  grind
theorem Zy {d:cu} (j:d.par=D) (p:gv d.sup.ys h D):(cv h d d.sup.ys.length).Nodup:=by
 unfold cv;rw[List.nodup_append,List.take_length];refine⟨zg,?_,?_⟩
 ·have k:=p.n
  grind
 ·intro a c b f e;subst e;split at c
  ·rw[qm] at c;subst c;obtain⟨s,g,e⟩:=List.mem_map.1 f;injection e with l m
   exact(p.r s g).2 zg
  grind
section
variable {ids:List cu} {n:Nat}
def lx (d:cu) (i:Nat):Prop:=(-1<=d.par/\d.par<i)/\(0<=d.dly/\d.dly<12)/\d.sup.ys.length<=6/\gv d.sup.ys i d.par
theorem Ni (h: ∀i,i<n->lx (ids.getD i ar.d) i): ∀m,m<=n->(aj ids m).Nodup
 |0,_=>List.nodup_nil
 |m+1,hm=>by
  rw[aj,List.nodup_append];refine⟨Ni h m zo,Zy z6 (h m zo).2.2.2,λa c b f e=>?_⟩;subst e;obtain⟨i,j,g⟩:=EU c;have k:=(ET g).1;have l:=(ET f).1;omega
theorem Nj (h: ∀i,i<n->lx (ids.getD i ar.d) i): ∀m,m<=n->(aj ids m).length<=m* 7
 |0,_=>qT _
 |m+1,hm=>by
  have a:=Nj h m zo;have b:=tM m (ids.getD m ar.d) (ids.getD m ar.d).sup.ys.length;have c:=(h m zo).2.2.1
  grind [aj]
theorem Nk (h: ∀i,i<n->lx (ids.getD i ar.d) i) {l:aX} (e:l∈aj ids n): ∃i:Nat,i<n/\l.con=(i:Int)/\0<=l.sup/\l.sup<i:=by
 obtain⟨i,a,f⟩:=EU e;obtain⟨g,j⟩:=ET f;have b:=h i a;refine⟨i,a,g,?_⟩;rcases j with ⟨c,k⟩|c
 ·have:=b.1;omega
 ·exact(b.2.2.2.r _ c).1
theorem Zz (l:n<=64) (h: ∀i,i<n->lx (ids.getD i ar.d) i):aQ n (aj ids n)=0:=by
 have g:=Nj h n (qU _);have f: ∀j,j<(aj ids n).length->cX n ((aj ids n).getD j aC.d):=λj m=>by
  grind [List.getElem_mem,Nk,cX]
 have k:ec n (aj ids n)=0:=by
  unfold ec;rw[if_neg zo,if_pos f,if_pos (Ni h n (qU _))]
 rw[EA k,if_pos];intro i o;cases e:wI (aj ids n) n i i with
 |false=>rfl
 |true=>
  have:=xH (aj ids n) (λa b=>b<a) (λa b p=>by
   grind [za,Nk]) (λa b c q r=>zo) n i i e
  omega
theorem kM7 (a:ids.length<=64) (h: ∀i,i<ids.length->lx (ids.getD i ar.d) i):bI ids=0:=by
 grind [um,Zz,lx,bh]
end
theorem kRV {e:au} (m:jM e h D) (b:ik e 6):e.ok h D:=
 ⟨m.par,λk a=>⟨(m.rl k a).1,(m.rl k a).2.1⟩,(xK e).2 ⟨m.d0,b⟩,m.ws,m.wd⟩
theorem EV: ∀ {k:Nat},k<6->Go.Drv.bD (uV.getD k [])=true
 |0,_=>zd
 |1,_=>zd
 |2,_=>zd
 |3,_=>zd
 |4,_=>zd
 |5,_=>zd
 |k+6,h=>zo
theorem kRW {i:Nat} {t:Go.Drv.Tr} (n:Go.Drv.iM h t=true):Go.Drv.iM h (pV i t)=true:=by
 simp only[Go.Drv.iM,qg,qj] at n ⊢;obtain⟨⟨⟨⟨f,k⟩,d⟩,l⟩,e⟩:=n;refine⟨⟨⟨⟨f,EV zo⟩,?_⟩,by grind [pV]⟩,?_⟩
 ·simp only[Go.Drv.ch,Bool.or_eq_true,qj] at d ⊢;rcases d with d|⟨a,b,c⟩
  ·exact .inl d
  ·exact .inr ⟨by show _%64* 4=0;grind,b,c⟩
 ·rw[List.all_eq_true] at e ⊢;intro o g;obtain⟨p,j,rfl⟩:=List.mem_map.1 g;exact e p j
theorem EW {d:Go.Drv.Dv} (a:h<d.ts.length):(jN d).ts.getD h Go.Drv.ed=pV h (d.ts.getD h Go.Drv.ed):=by
 grind [jN]
theorem kRX {d:Go.Drv.Dv} (h:Go.Drv.aQ d=0):Go.Drv.aQ (jN d)=0:=by
 have m:Go.Drv.df d=true/\d.ss.Nodup:=by
  grind [Go.Drv.aQ]
 have k:(jN d).ts.length=d.ts.length:=by simp[jN]
 have n:Go.Drv.df (jN d)=true:=by
  have l:=m.1;simp only[Go.Drv.df,qg,qj,List.all_eq_true] at l ⊢;obtain⟨⟨⟨⟨a,b⟩,c⟩,e⟩,f⟩:=l;refine⟨⟨⟨⟨a,by rw[k];exact b⟩,c⟩,λt o=>?_⟩,λi j=>?_⟩
  ·grind [kRW,jN]
  ·rw[k] at j;have g:=f i j;rw[List.mem_range] at j;unfold Go.Drv.uP at g ⊢;rcases g with g|g
   ·grind
   ·right;rw[EW j,EW zo];exact g
 grind [Go.Drv.aQ,jN]
theorem zy {d:Go.Drv.Dv} (h:Go.Drv.du d):Go.Drv.eH (jO d)=(0,jN (Go.Drv.cH d)):=by
 grind [kRX,Go.Drv.CE,jO,Go.Drv.lX,Go.Drv.UY,zx,Go.Drv.wE]
theorem Nl (h:0<=D):fZ (D%64* 4):=by
 grind [fZ]
theorem kRY {d:Go.Drv.Dv} (h:Go.Drv.du d):gZ (jN d).ts:=by
 intro i b;have f:(jN d).ts.length=d.ts.length:=by simp[jN]
 rw[f] at b;rw[EW b];have g:d.ts.getD i Go.Drv.ed∈d.ts:=by
  grind
 have c:=h _ g;refine⟨Nl c.1.1.1,λk j=>?_⟩;have a:k<(d.ts.getD i Go.Drv.ed).ops.length:=by grind [pV]
 have e:(pV i (d.ts.getD i Go.Drv.ed)).ops.getD k Go.Drv.ax.d=oV ((d.ts.getD i Go.Drv.ed).ops[k]):=by
  show(((d.ts.getD i Go.Drv.ed).ops.map oV)).getD k Go.Drv.ax.d=_
  grind
 rw[e];exact Nl (c.2 _ (List.getElem_mem a)).1.1
theorem kRZ {ds:List bR} {rs:List ag} {drs:List Go.Drv.DH} (r:ds.length<=6) (f:H.length=ds.length) (s: ∀i,i<drs.length->Go.Drv.du (drs.getD i gl.d).d) (k:rs.length<=8) (l:cS rs=0)
 (h: ∀i,i<ds.length->eT (ds.getD i aG.d) i rs.length D drs/\H.getD i (aD .u64).d=bX i D):dI ds rs H:=by
 refine⟨zo,f,λi a=>?_,λi a=>?_,?_,?_,?_⟩
 ·grind [bX]
 ·have g:=(h i a).1;have b: ∃d,Go.Drv.du d/\Go.Drv.eH (ds.getD i aG.d).drv=(0,jN (Go.Drv.cH d)):=by
   rw[g.drv];unfold gg;split
   ·grind [zy]
   ·have m:Go.Drv.du ⟨[],[],[]⟩:=λt o=>(List.not_mem_nil o).elim
    grind [zy]
  obtain⟨d,m,p⟩:=b;have u:=g.fn;have v:=gI D (n:=9) zd;refine⟨⟨zo,zo,g.par.symm⟩,⟨g.r1,g.r2,g.r3⟩,by rw[p],?_⟩
  grind [kRY,Go.Drv.wE]
 ·unfold pU;rw[List.nodup_iff_pairwise_ne,List.pairwise_iff_getElem];intro i j a w q;have c:i<ds.length:=zg
  have e:j<ds.length:=zg
  have x:=(h i c).1.fn;have y:=(h j e).1.fn
  grind
 ·rw[cZ,EE zg]
  ·grind
  ·intro i a;simp only[kq,qE] at a;rw[nY ds a];exact kRV (h i a).1.sm (h i a).1.dp
 ·refine kM7 zg λi a=>?_;simp only[bq,qE] at a;rw[pS ds a];have g:=(h i a).1;refine⟨by rw[g.par];exact g.sm.par,g.dly,g.sl,by rw[g.par];exact g.su⟩
structure Tp (R:Int->Int->Prop) (n:Nat) (o:List Int):Prop where
 nd:o.Nodup
 rg: ∀x∈o,∃i:Nat,i<n/\x=(i:Int)
 up: ∀k,k<o.length-> ∀p,R (o.getD k 0) p->p∈o.take k
section
variable {R:Int->Int->Prop} {links:List aX} {n:Nat} {o:List Int}
theorem Tp.snoc (i:Tp R n o) (d:h<n) (b:(h:Int)∉o) (hs: ∀p,R h p->p∈o):Tp R n (o++[(h:Int)]):=by
 refine⟨?_,?_,λk c p f=>?_⟩
 ·rw[List.nodup_append];have:=i.nd
  grind
 ·intro x a;rw[List.mem_append] at a;rcases a with a|a
  ·exact i.rg x a
  grind
 ·rw[qD,List.length_singleton] at c;by_cases e:k<o.length
  ·rw[List.take_append_of_le_length zo];refine i.up k e p ?_
   grind
  grind
def eJ (links:List aX) (x p:Int):Prop:= ∃l∈links,l.con=x/\l.sup=p
theorem Nm (a: ∀l∈links,0<=l.sup/\l.sup<n): ∀(f:Nat) (g:List Bool) (o:List Int),Tp (eJ links) n o->g.length=n->(∀i,i<n->(g.getD i false=true↔(i:Int)∈o))->
 Tp (eJ links) n (jm links n f g o).1/\ ∀i,i<n->((jm links n f g o).2.getD i false=true↔(i:Int)∈(jm links n f g o).1)
 |0,g,o,h,d,b=>⟨h,b⟩
 |f+1,g,o,h,d,b=>by
  simp only[jm];rcases ui (fM links g) n n (qU _) with ⟨c,e⟩|⟨i,c,e,k,m,r⟩
  ·grind
  ·rw[if_neg zo,c,qh];rw[rV,uj] at m;refine Nm a f _ _ (h.snoc k (λs=>?_) ?_) zg λj t=>?_
   ·grind
   ·rintro p ⟨l,q,u,rfl⟩
    grind
   grind
theorem EY (a: ∀j,j<links.length->cX n (links.getD j aC.d)) (e:(bQ n links).length=n):Tp (eJ links) n (bQ n links)/\ ∀i:Nat,i<n->(i:Int)∈bQ n links:=by
 have b: ∀l∈links,0<=l.sup/\l.sup<n:=λl m=>by
  obtain⟨j,f,rfl⟩:=List.getElem_of_mem m;have:=a j f;simp only[List.getD,f,qJ,Option.getD_some] at this;exact this.2
 rw[Dw a] at e ⊢;have o:Tp (eJ links) n []:=⟨List.nodup_nil,λx p=>(by cases p),λk r=>zg⟩
 have g:=Nm b n (List.replicate n false) [] o zm λi c=>zg
 have h:=Dx (links:=links) n (List.replicate n false) [] (RI.start (links:=links)) zm;refine⟨g.1,λi c=>(g.2 i c).1 ?_⟩;have s:=h.1.cnt;have q:(jm links n n (List.replicate n false) []).2.count false=0:=by
  have:(jm links n n (List.replicate n false) []).1.length=n:=e;omega
 exact(zZ _).1 q i (by rw[h.1.len];exact c)
def lH (r:List Bool):List Int->List Bool
 |[]=>r
 |s::ss=>lH (r.set s.toNat true) ss
theorem Nn: ∀(ss:List Int) (r:List Bool),(lH r ss).length=r.length
 |[],r=>rfl
 |s::ss,r=>by rw[lH,Nn ss,qI]
theorem zz: ∀(ss:List Int) (r:List Bool) (i:Nat),i<r.length->(∀s∈ss,0<=s)->((lH r ss).getD i false=true↔r.getD i false=true\/(i:Int)∈ss)
 |[],r,i,a,h=>by simp[lH]
 |s::ss,r,i,a,h=>by
  rw[lH,zz ss _ i zg λx b=>h x zg]
  grind [Int.toNat_of_nonneg]
def dX (sup:Nat->List Int) (O:List Int) (r0:List Bool):Nat->List Bool
 |0=>r0
 |c+1=>let r:=dX sup O r0 c
  let i:=(O.getD (O.length-1-c) 0).toNat
  if r.getD i false=true then lH r (sup i) else r
theorem EZ (sup:Nat->List Int) (O:List Int) (r0:List Bool): ∀c,(dX sup O r0 c).length=r0.length
 |0=>rfl
 |c+1=>by rw[dX];split<;>simp[Nn,EZ sup O r0 c]
theorem Np {sup:Nat->List Int} {O:List Int} {r0:List Bool} (h:Tp (eJ links) r0.length O) (hs: ∀i s,s∈sup i->0<=s) {i:Nat} (a:i<r0.length): ∀c,r0.getD i false=true->(dX sup O r0 c).getD i false=true
 |0,h0=>h0
 |c+1,h0=>by
  have:=Np h hs a c h0
  grind [dX,zz]
theorem Nq {sup:Nat->List Int} {O:List Int} {r0:List Bool} (h:Tp (eJ links) r0.length O) (u:O.length=r0.length) (hs: ∀i:Nat,i<r0.length-> ∀s,s∈sup i↔eJ links i s) (a: ∀i s,s∈sup i->0<=s): ∀c,c<=O.length->
 ∀k,O.length-c<=k->k<O.length->(dX sup O r0 c).getD (O.getD k 0).toNat false=true-> ∀s∈sup (O.getD k 0).toNat,(dX sup O r0 c).getD s.toNat false=true
 |0,v,k,w,f=>zo
 |c+1,v,k,w,f=>by
  have b: ∀j,j<O.length-> ∃i:Nat,i<r0.length/\O.getD j 0=(i:Int):=λj x=>h.rg _ zg;have y:=Nq h u hs a c zo;have o:=EZ sup O r0 c;obtain⟨i,E,p⟩:=b k f;obtain⟨r,z,l⟩:=b (O.length-1-c) zo;rw[dX];simp only[l,p,qh];have d: ∀s∈sup r,s∈O.take (O.length-1-c):=λs g=>h.up _ zo s zg;have m: ∀s∈sup i,∃j:Nat,j<r0.length/\s=(j:Int):=λs g=>h.rg s (List.mem_of_mem_take (h.up k f s zg));by_cases A:(dX sup O r0 c).getD r false=true
  ·rw[if_pos A];intro B s g;obtain⟨j,x,rfl⟩:=m s g;rw[qh,zz _ _ _ zo (a _)];by_cases e:k=O.length-1-c
   ·grind
   ·left;have t:=y k zo f;rw[p,qh] at t;have:=t (by
     rcases(zz _ _ _ zo (a _)).1 B with n|n
     ·exact n
     ·exfalso;have C:=d _ n;obtain⟨q,D,eq⟩:=List.getElem_of_mem C;rw[qF] at D;rw[List.getElem_take] at eq;have F:O[k]=(i:Int):=zg
      have:=(List.nodup_iff_pairwise_ne.1 h.nd)
      grind [List.pairwise_iff_getElem]) _ g
    simp_all
  grind [qh]
def jP (r:List Bool) (O:List Int):Nat->List Int
 |0=>[]
 |c+1=>if r.getD (O.getD c 0).toNat false=true then jP r O c++[O.getD c 0] else jP r O c
theorem AA {r:List Bool} {O:List Int} {x:Int}: ∀c,c<=O.length->(x∈jP r O c↔x∈O.take c/\r.getD x.toNat false=true)
 |0,h=>by simp[jP]
 |c+1,h=>by
  have a:=AA (x:=x) (r:=r) (O:=O) c zo
  grind [nz,jP]
theorem Nr {r:List Bool} {O:List Int} (h:Tp R n O) (d: ∀x∈O,r.getD x.toNat false=true-> ∀p,R x p->r.getD p.toNat false=true): ∀c,c<=O.length->Tp R n (jP r O c)
 |0,_=>⟨List.nodup_nil,λx a=>(by cases a),λk m=>by grind [jP]⟩
 |c+1,hc=>by
  have f:=Nr h d c zo;rw[jP];split
  ·rename_i g;have b:O.getD c 0∈O:=zg
   obtain⟨i,j,e⟩:=h.rg _ b;rw[e] at g b ⊢;refine f.snoc j (λa=>?_) λp o=>?_
   ·have:=((AA c zo).1 a).1;obtain⟨q,l,eq⟩:=List.getElem_of_mem this;rw[qF] at l;rw[List.getElem_take] at eq;have s:=(List.nodup_iff_pairwise_ne.1 h.nd)
    grind [List.pairwise_iff_getElem]
   ·have:=h.up c zo p zg
    grind [AA]
  grind
end
theorem Ea {i:Nat} {s:Int}: ∀ {links:List aX},s∈bP links false i↔eJ links i s
 |[]=>by simp[bP,eJ]
 |l::r=>by
  have a:=Ea (i:=i) (s:=s) (links:=r)
  grind [eJ,bP]
def AB (m:MG) (d:Nat):List Bool:=dX (λi=>(m.ms.getD i bt).sup.ys) m.od ((List.replicate m.ms.length false).set d true) m.od.length
def AD (m:MG) (d:Nat):List Int:=jP (AB m d) m.od m.od.length
section
variable {ids:List cu} {m:MG} {d:Nat}
theorem qu (links:aQ h y=0):(∀j,j<y.length->cX h (y.getD j aC.d))/\(bQ h y).length=h:=by
 grind [aQ,ec]
theorem MG.fresh.len (h:m.fresh ids):m.ms.length=ids.length:=h.1.1
theorem kXV (h:m.fresh ids) (w:aQ ids.length (aj ids ids.length)=0) (D:d<ids.length):
 m.od.length=ids.length/\Tp (eJ (aj ids ids.length)) ids.length m.od/\Tp (eJ (aj ids ids.length)) ids.length (AD m d)/\(d:Int)∈AD m d:=by
 obtain⟨q,g⟩:=qu w;obtain⟨f,y⟩:=EY q g;rw[<-h.2.1] at f y g;have r:=h.len;have z:((List.replicate m.ms.length false).set d true).length=ids.length:=zg
 have t: ∀i:Nat,i<ids.length-> ∀s,s∈(m.ms.getD i bt).sup.ys↔eJ (aj ids ids.length) i s:=λi a s=>by
  have:=(h.1.2 i a).1
  grind [Ea]
 have b: ∀i s,s∈(m.ms.getD i bt).sup.ys->0<=s:=λi s n=>by
  by_cases e:i<ids.length
  ·obtain⟨l,r,_,rfl⟩:=(t i e s).1 n;obtain⟨j,u,rfl⟩:=List.getElem_of_mem r;have:=q j u;simp only[List.getD,u,qJ,Option.getD_some] at this;exact this.2.1
  ·have:m.ms.getD i bt=bt:=zg
   rw[this] at n;cases n
 have c:Tp (eJ (aj ids ids.length)) ((List.replicate m.ms.length false).set d true).length m.od:=zg
 have o:=Nq (sup:=λi=>(m.ms.getD i bt).sup.ys) c zg (λi a=>t i zo) b m.od.length (qU _);have A:(AB m d).getD d false=true:=Np c b zo _ zg;refine⟨g,f,Nr f (λx v B p E=>?_) _ (qU _),(AA _ (qU _)).2 ⟨zg,zg⟩⟩;obtain⟨k,C,rfl⟩:=List.getElem_of_mem v;have e:m.od.getD k 0=m.od[k]:=zg
 have a:=f.rg _ v;obtain⟨i,a,F⟩:=a;have:=o k zo C (by rw[e];exact B) p (by
  grind)
 exact this
theorem kYj (a:h<ids.length) (b:0<=(ids.getD h ar.d).par):eJ (aj ids ids.length) h (ids.getD h ar.d).par:=
 ⟨⟨h,(ids.getD h ar.d).par⟩,EG a (by grind [cv]),rfl,rfl⟩
end
structure AcI (rk:Nat->Nat) (K:Int) (st st':St) (ys:List Int):Prop where
 ra:st'.rails=st.rails
 ok:nZ rk (K+ys.length) st'
 on: ∀r∈ys,st'.c r.toNat≠0
 ge: ∀j,j<st.rails.length->st.c j≠0->st'.c j≠0
structure AE (rk:Nat->Nat) (es:List au) (K:Int) (S st:List Int) (rs:St):Prop where
 len:st.length=es.length
 st: ∀i:Nat,i<es.length->st.getD i 0=if (i:Int)∈S then 0 else 4
 ok:nZ rk K rs
 on: ∀i:Nat,i<es.length->(i:Int)∈S-> ∀r∈(es.getD i zh).r0.ys,rs.c r.toNat≠0
theorem Nt {rs:List ag} {rk:Nat->Nat} (b:ju rs rk) (c: ∀i,i<rs.length->rk i<8) (f: ∀i,i<rs.length->0<=(rs.getD i aE.d).up/\(rs.getD i aE.d).up<20):nZ rk 0 (cy rs):=by
 have e: ∀i,(List.replicate rs.length (0:Int)).getD i 0=0:=λi=>by simp only[List.getD,List.getElem?_replicate];split<;>rfl
 refine⟨⟨by simp[cy],by simp[cy]⟩,b,c,f,rfl,λi a=>?_,λi a _=>e i,λi a=>?_⟩
 ·show 0<=(List.replicate rs.length (0:Int)).getD i 0/\_;rw[e];exact⟨Int.le_refl _,Int.le_of_eq (e i)⟩
 ·show 0<=(List.replicate rs.length (0:Int)).getD i 0/\(List.replicate rs.length (0:Int)).getD i 0<=_;rw[e];omega
theorem kXW (raw:List ag) (j: ∀i,i<raw.length->0<=(raw.getD i aE.d).up): ∃rk,nZ rk 0 (cy (cH raw)):=by
 have c: ∀n k,k<n->n<=raw.length->(-1<=((eG raw n).getD k aE.d).supply/\((eG raw n).getD k aE.d).supply<k)/\0<=((eG raw n).getD k aE.d).up/\((eG raw n).getD k aE.d).up<20:=λn k h e=>by
  rw[BZ raw h];have q:=gI (raw.getD k aE.d).supply (n:=k+1) zo;have l:=j k zo;have m:(raw.getD k aE.d).up.tmod 20=(raw.getD k aE.d).up%20:=qW l;simp only[m];omega
 unfold cH;obtain⟨n,e⟩: ∃n,n=min raw.length 8:=⟨_,rfl⟩
 simp only[<-e];split
 ·have f: ∀i,i<n->((List.range n).map λp=>cp n ((eG raw n).getD (n-1-p) aE.d)).getD i aE.d=cp n ((eG raw n).getD (n-1-i) aE.d):=λi a=>by simp[List.getD,a]
  refine⟨λi=>n-1-i,Nt (λi a s b=>?_) (λi a=>zo) λi a=>?_⟩
  ·simp only[qE,List.length_range] at a ⊢;rw[f i a] at b;have:=c n (n-1-i) zo zo;by_cases g:0<=((eG raw n).getD (n-1-i) aE.d).supply
   ·rw[cp,if_pos g] at b;have o:(n:Int)-1-((eG raw n).getD (n-1-i) aE.d).supply=s:=b;omega
   ·rw[cp,if_neg g] at b;omega
  ·simp only[qE,List.length_range] at a;rw[f i a];have:=c n (n-1-i) zo zo;unfold cp;split<;>exact this.2
 ·refine⟨λi=>i,Nt (λi a s b=>?_) (λi a=>?_) λi a=>?_⟩
  ·rw[om] at a ⊢;have:=c n i a zo;omega
  ·rw[om] at a;omega
  ·rw[om] at a;exact(c n i a zo).2
theorem AF (j:h<H.length):H.getD h (aD .i64).d∈H:=by
 rw[show H.getD h (aD .i64).d=H[h] by simp[List.getD,j]];exact List.getElem_mem j
structure iJ where
 dev:Int
 res:Bool
 tim:Int
def bE:bO iJ where
 f o:=[.int .i64 o.dev,.bool o.res,.int .u64 o.tim]
 sz:=3
 d:=⟨0,false,0⟩
 len _:=rfl
 pos:=zd
 one r v hv:=by simp at hv;rcases hv with rfl|rfl|rfl<;>rfl
structure Eb (m:MG) (n:Nat):Prop where
 le:n<=64
 len:m.ms.length=n
 ol:m.od.length<=64
 rg: ∀k,k<m.od.length-> ∃i:Nat,i<n/\m.od.getD k (aD .i64).d=(i:Int)
 sup: ∀i,i<n-> ∀j,j<(m.ms.getD i aO.d).sup.ys.length->0<=(m.ms.getD i aO.d).sup.ys.getD j (aD .i64).d/\(m.ms.getD i aO.d).sup.ys.getD j (aD .i64).d<n
 sl: ∀i,i<n->(m.ms.getD i aO.d).sup.ys.length<=1000000
structure Ec (m:MG) (n:Nat):Prop where
 r:Eb m n
 nd:m.od.Nodup
 act: ∀i,i<n->(m.ms.getD i aO.d).act=false
 use: ∀i,i<n->(m.ms.getD i aO.d).use=0
 clk:m.clk=0
theorem MG.fresh.mgO {m:MG} {ids:List cu} (h:m.fresh ids) (v:aQ ids.length (aj ids ids.length)=0) (w:ids.length<=64) (n:(aj ids ids.length).length<=1000000):Ec m ids.length:=by
 obtain⟨o,p⟩:=qu v;obtain⟨f,z⟩:=EY o p;rw[<-h.2.1] at f p;have g: ∀i,i<ids.length->(m.ms.getD i bt).sup.ys=bP (aj ids ids.length) false i:=λi c=>by rw[(h.1.2 i c).1,List.take_length]
 refine⟨⟨w,h.len,zo,λk x=>f.rg _ ?_,λi c j y=>?_,λi c=>?_⟩,f.nd,λi c=>(h.1.2 i c).2.2.2.1,λi c=>(h.1.2 i c).2.2.2.2.1,h.2.2⟩
 ·exact AF x
 ·have r:(m.ms.getD i bt).sup.ys.getD j (aD .i64).d∈(m.ms.getD i bt).sup.ys:=AF y;rw[g i c] at r;obtain⟨l,n,_,e⟩:=Ea.1 r;obtain⟨q,s,rfl⟩:=List.getElem_of_mem n;have t:=o q s;simp only[List.getD,s,qJ,Option.getD_some] at t;have u:=t.2;rw[e,<-g i c] at u;exact u
 ·show(m.ms.getD i bt).sup.ys.length<=_;rw[g i c];have: ∀(l:List aX) (b:Bool) (i:Nat),(bP l b i).length<=l.length:=λl b i=>by
   induction l with
   |nil=>simp[bP]
   |cons a l A=>rw[bP];grind
  have:=this (aj ids ids.length) false i;omega
theorem kYk {β:Type} {F:β->aB} {a b:List β} (h:a.map F=b.map F):aF F a=aF F b:=by unfold aF;simp only[h]
structure GtI (m:MG) (d c:Nat) (ms:List cK):Prop where
 mf:ms.map ba=m.ms.map ba
 use:(ms.getD d aO.d).use=1
 act: ∀i,i<m.ms.length->(ms.getD i aO.d).act=true->(i:Int)∈m.od.take c
section
variable {m:MG} {n d c i:Nat} {ms:List cK}
end
theorem kUQ (r:List Bool) (ss:List Int) (c:h<ss.length):lH r (ss.take (h+1))=(lH r (ss.take h)).set (ss.getD h (aD .i64).d).toNat true:=by
 rw[nz ss h (aD .i64).d c];have: ∀(a b:List Int) (r:List Bool),lH r (a++b)=lH (lH r a) b:=λa=>by
  induction a with
  |nil=>intro b r;rfl
  |cons x a e=>intro b r;exact e b _
 rw[this];rfl
theorem kXX (m:MG) (d c:Nat):(dX (λi=>(m.ms.getD i bt).sup.ys) m.od ((List.replicate m.ms.length false).set d true) c).length=m.ms.length:=by
 rw[EZ,qI,qH]
theorem tU {w:World} {i:Nat} {ms:List cK} (k:Hp Q J M w) (a:M[h]?=some (aF ba ms)) (b:i<ms.length):RS w (aD .i64) (ms.getD i aO.d).sup.A (ms.getD i aO.d).sup.ys:=
 k.bigOS (G:=λm w=>RS w (aD .i64) m.sup.A m.sup.ys) aO.d a b λj m c=>by
  obtain⟨_,_,_,_,e,_⟩:=c;exact OS.rs e
theorem kWS {sup:Nat->List Int} {r:List Bool} {i:Nat} (a:r=dX sup H O h) (b:H.getD (H.length-1-h) (aD .i64).d=(i:Int)) (c:r.getD i ad.d=true):lH r (sup i)=dX sup H O (h+1):=by
 subst a;have e:H.getD (H.length-1-h) 0=(i:Int):=b;rw[dX];simp only[e,qh];exact(if_pos c).symm
theorem kXY {sup:Nat->List Int} {r:List Bool} {i:Nat} (b:r=dX sup H O h) (e:H.getD (H.length-1-h) (aD .i64).d=(i:Int)) (c:r.getD i ad.d=false):r=dX sup H O (h+1):=by
 subst b;have f:H.getD (H.length-1-h) 0=(i:Int):=e;rw[dX];simp only[f,qh];exact(if_neg (by intro a;have g:(dX sup H O h).getD i false=false:=c;rw[g] at a;cases a)).symm
structure GetG where
 ms:List cK
 A:Option Addr
 c:Nat
end Go.Pw
namespace Go.Pw
open Go.Sv Go.Ios
structure RD where
 on:Bool
 base:Int
 own:Int
 val:Nat->Int
def aR:RD:=⟨false,0,0,λ_=>0⟩
def RD.tu (g:RD) (x:Int):Tu:=⟨g.base,256,g.own,g.val (x-g.base).toNat⟩
def RD.hit (g:RD) (x:Int):Prop:=g.on=true/\g.base<=x/\x<g.base+256
def okB (b:Int):Prop:=0<=b/\b%256=0/\b<=1099511627776
structure BM (s:BS) (rs:List RD):Prop where
 ok:s.ok
 n:rs.length<=100
 tot:s.total=((rs.countP λg=>g.on:Nat):Int)
 mem: ∀x t,iZ s 0 x t↔ ∃i,i<rs.length/\(rs.getD i aR).hit x/\t=(rs.getD i aR).tu x
 al: ∀i,i<rs.length->(rs.getD i aR).on=true->okB (rs.getD i aR).base
 dj: ∀i j,i<rs.length->j<rs.length->(rs.getD i aR).on=true->(rs.getD j aR).on=true->(rs.getD i aR).base=(rs.getD j aR).base->i=j
theorem okB.u (h:okB D):aY D:=by grind [okB,aY]
theorem okB.eq {b x:Int} (c:okB D) (d:okB b) (e:D<=x) (f:x<D+256) (g:b<=x) (h:x<b+256):D=b:=by
 grind [okB]
theorem AG (rs:List RD) (a:h<rs.length) (g:RD):(((rs.set h g).countP λg=>g.on:Nat):Int)=((rs.countP λg=>g.on:Nat):Int)-(if (rs.getD h aR).on=true then 1 else 0)+(if g.on=true then 1 else 0):=by
 grind
section
variable {s s2:BS} {rs:List RD} {i:Nat}
theorem BM.t0 (h:BM s rs):s.total<=100:=by
 have a:=h.tot;have b:=List.countP_le_length (l:=rs) (p:=λg=>g.on);have c:=h.n;omega
theorem BM.map (h:BM s rs) (q:i<rs.length) (l:(rs.getD i aR).on=false) {o e:Int} (v:okB D) (C:0<=o/\o<256) (b: ∀j,j<rs.length->(rs.getD j aR).on=true->(rs.getD j aR).base≠D)
 (w:eS s 0 D 256 o e s2):e=0/\BM s2 (rs.set i ⟨true,D,o,λ_=>0⟩):=by
 have N:ke 0 D 256 o:=⟨⟨zo,zo⟩,by grind [okB,bC],C⟩
 have r:=EM h.ok v.u w;have E: ¬Ios.busy (s.sp 0).hs D 256:=by
  rw[Ll h.ok zd zd];rintro⟨x,t,g,a,f⟩;obtain⟨j,d,⟨y,F,G⟩,_⟩:=(h.mem x t).1 f;exact b j d y (okB.eq (h.al j d y) v F G g a)
 have H:=h.t0;cases w with
 |bad g=>grind
 |busy m z _ I=>
  grind
 |full m z _ _ J=>omega
 |done m O A c z _ P J=>
  obtain rfl:m=0:=zo
  refine⟨rfl,r,by rw[qI];exact h.n,?_,λx t=>?_,λj d p=>?_,λj k d B g a f=>?_⟩
  ·rw[AG rs q,l,<-h.tot];show s.total+1=s.total-0+1;omega
  ·rw[show((0:Int)=((0:Nat):Int)) from rfl,Lk h.ok zd];constructor
   ·rintro(⟨_,g,a,f⟩|g)
    ·refine⟨i,zg,?_⟩;rw[dN _ _ _ _ q];have K:x<=D+(256-1):=a;refine⟨⟨rfl,g,zg⟩,?_⟩
     grind [jy,RD.tu,cf]
    ·obtain⟨j,d,a,f⟩:=(h.mem x t).1 g;have L:i≠j:=λe=>by subst e;rw[a.1] at l;grind
     refine⟨j,zg,?_⟩
     grind
   ·rintro⟨j,d,a,f⟩;rw[qI] at d;by_cases e:i=j
    ·subst e;rw[dN _ _ _ _ q] at a f;refine .inl ⟨rfl,a.2.1,?_,by grind [jy,RD.tu,cf]⟩;have Q:x<D+256:=a.2.2
     grind
    ·rw[db _ _ _ e] at a f;exact .inr ((h.mem x t).2 ⟨j,d,a,f⟩)
  ·rw[qI] at d;by_cases e:i=j
   ·grind
   ·rw[db _ _ _ e] at p ⊢;exact h.al j d p
  ·rw[qI] at d B;by_cases e:i=j
   ·grind
   ·by_cases M:i=k
    ·grind
    ·rw[db _ _ _ e] at g f;rw[db _ _ _ M] at a f;exact h.dj j k d B g a f
theorem BM.unm (h:BM s rs) (f:i<rs.length) (c:(rs.getD i aR).on=true) (y:rG s 0 (rs.getD i aR).base 256 D s2):D=0/\BM s2 (rs.set i {rs.getD i aR with on:=false}):=by
 have q:iZ s 0 (rs.getD i aR).base ((rs.getD i aR).tu (rs.getD i aR).base):=(h.mem _ _).2 ⟨i,f,⟨c,Int.le_refl _,zo⟩,rfl⟩;have r:=(XO h.ok).2 ⟨_,q,rfl,rfl⟩;cases y with
 |no o=>exact absurd r o
 |yes m k o=>
  refine⟨rfl,XT h.ok o,by rw[qI];exact h.n,?_,λx t=>?_,λj a d=>?_,λj k' a v g p l=>?_⟩
  ·rw[AG rs f,c,<-h.tot];show s.total-1=s.total-1+0;omega
  ·rw[XP h.ok o];constructor
   ·rintro⟨p,l⟩;obtain⟨j,a,b,u⟩:=(h.mem x t).1 p;have z:i≠j:=λD=>by subst D;exact l ⟨rfl,b.2.1,b.2.2⟩
    exact⟨j,zg,zg⟩
   ·rintro⟨j,a,b,u⟩;rw[qI] at a;by_cases D:i=j
    ·subst D;rw[dN _ _ _ _ f] at b;exact absurd b.1 zm
    ·rw[db _ _ _ D] at b u;refine⟨(h.mem x t).2 ⟨j,a,b,u⟩,λw=>D (h.dj i j f a c b.1 (okB.eq (h.al i f c) (h.al j a b.1) w.2.1 w.2.2 b.2.1 b.2.2))⟩
  ·rw[qI] at a;by_cases D:i=j
   ·grind
   ·rw[db _ _ _ D] at d ⊢;exact h.al j a d
  ·rw[qI] at a v;by_cases D:i=j
   ·grind
   ·by_cases A:i=k'
    ·grind
    ·rw[db _ _ _ D] at g l;rw[db _ _ _ A] at p l;exact h.dj j k' a v g p l
theorem BM.en (h:BM s rs) {e:Int} {v:Bool} (b:oS s D v e s2):BM s2 rs:=by
 have a:=EN h.ok b;cases b with
 |bad _=>exact h
 |done c=>exact⟨a,h.n,h.tot,λx t=>(zE z6).trans (h.mem x t),h.al,h.dj⟩
theorem BM.see (k:BM s rs) (b:i<rs.length) (a:(rs.getD i aR).on=true) (g:h<256):bi s 0 ((rs.getD i aR).base+h)=(rs.getD i aR).own/\kc s 0 ((rs.getD i aR).base+h)=(rs.getD i aR).val h/\(ek s 0 ((rs.getD i aR).base+h)).isSome=true:=by
 have c:=(k.mem ((rs.getD i aR).base+h) _).2 ⟨i,b,⟨a,zo,zo⟩,rfl⟩;obtain⟨d,e,f⟩:=XL k.ok c;refine⟨d,?_,f⟩;rw[e];show(rs.getD i aR).val ((rs.getD i aR).base+h-(rs.getD i aR).base).toNat=_;grind
end
def RD.put (g:RD) (k:Nat) (v:Int):RD:={g with val:=λj=>if j=k then v else g.val j}
theorem BM.poke {s E:BS} {rs:List RD} (i:BM s rs) (f:h<rs.length) (l:(rs.getD h aR).on=true) {k:Nat} (H:k<256) (U:0<=D/\D<=255) {b:Bool} (I:rH s 0 ((rs.getD h aR).base+k) D b E):
 b=true/\BM E (rs.set h ((rs.getD h aR).put k D)):=by
 obtain⟨_,_,V⟩:=i.see f l H;cases I with
 |no r=>grind
 |yes m j A c W X J q K=>
  obtain rfl:m=0:=zo
  have C:=Li (u:=0) zd J;obtain⟨L,u,M,N,O,P,w,v,_⟩:=DT i.ok C;obtain rfl:L=0:=zo
  obtain rfl:u=j:=zg
  have Q:=v;have R:({mh (s.sp 0).hs u with A:=A,c:=c,bs:=gu (dF (mh (s.sp 0).hs u)) ((rs.getD h aR).base+k-(mh (s.sp 0).hs u).base).toNat D 1}:MH).ok:=LL (a:=⟨0,(rs.getD h aR).base+k,1,true,D⟩) ((i.ok.sp 0 zd).each u q) K w zg zg;have S:jx D 0=D:=by unfold jx pw;omega
  have hI:=λ(x:Int) (t:Tu)=>Lp i.ok zd q (M:=D) (n:=1) w zg zo A c (z:=0) (x:=x) (S:=t);have p:=i.al h f l;refine⟨rfl,LK i.ok zd q R z6 rfl,by rw[qI];exact i.n,?_,λx t=>?_,λj q o=>?_,λa b g F r d y=>?_⟩
  ·rw[AG rs f,<-i.tot];show s.total=s.total-_+(if (rs.getD h aR).on=true then 1 else 0)
   omega
  ·rw[hI x t];constructor
   ·rintro⟨t0,r,rfl⟩;obtain⟨a,g,d,rfl⟩:=(i.mem x t0).1 r;refine⟨a,zg,?_⟩;by_cases e:h=a
    ·subst e;rw[dN _ _ _ _ f];refine⟨d,?_⟩;unfold jz RD.tu RD.put;by_cases T:x=(rs.getD h aR).base+k
     ·grind
     ·have:=d.2
      grind
    ·rw[db _ _ _ e];refine⟨d,?_⟩;unfold jz;rw[if_neg];rintro⟨_,y,G⟩;exact e (i.dj h a f g l d.1 (okB.eq p (i.al a g d.1) zo zo d.2.1 d.2.2))
   ·rintro⟨a,g,d,rfl⟩;rw[qI] at g;by_cases e:h=a
    ·subst e;rw[dN _ _ _ _ f] at d ⊢;refine⟨(rs.getD h aR).tu x,(i.mem x _).2 ⟨h,f,d,rfl⟩,?_⟩;unfold jz RD.tu RD.put;by_cases T:x=(rs.getD h aR).base+k
     ·grind
     ·have G:(rs.getD h aR).base<=x/\x<(rs.getD h aR).base+256:=d.2
      grind
    ·rw[db _ _ _ e] at d ⊢;refine⟨_,(i.mem x _).2 ⟨a,g,d,rfl⟩,?_⟩;unfold jz;rw[if_neg];rintro⟨_,y,G⟩;exact e (i.dj h a f g l d.1 (okB.eq p (i.al a g d.1) zo zo d.2.1 d.2.2))
  ·rw[qI] at q;by_cases e:h=j
   ·subst e;rw[dN _ _ _ _ f];exact p
   ·rw[db _ _ _ e] at o ⊢;exact i.al j q o
  ·rw[qI] at g F;have B: ∀c,((rs.set h ((rs.getD h aR).put k D)).getD c aR).on=(rs.getD c aR).on/\((rs.set h ((rs.getD h aR).put k D)).getD c aR).base=(rs.getD c aR).base:=λc=>by
    by_cases e:h=c
    ·subst e;rw[dN _ _ _ _ f];exact⟨rfl,rfl⟩
    grind
   rw[(B a).1] at r;rw[(B b).1] at d;rw[(B a).2,(B b).2] at y;exact i.dj a b g F r d y
def eV (ps:Nat->Int×Int) (n i:Nat):List RD:=(List.range n).map λj=>if j<i then ⟨true,(ps j).1,(ps j).2,λ_=>0⟩ else aR
theorem re (ps:Nat->Int×Int) (n i:Nat):(eV ps n i).length=n:=by simp[eV]
theorem AH (ps:Nat->Int×Int) {i j:Nat} (a:j<h):(eV ps h i).getD j aR=if j<i then ⟨true,(ps j).1,(ps j).2,λ_=>0⟩ else aR:=by
 grind [eV]
theorem kPH (ps:Nat->Int×Int) {i:Nat} (a:i<h):(eV ps h i).set i ⟨true,(ps i).1,(ps i).2,λ_=>0⟩=eV ps h (i+1):=by
 apply List.ext_getElem (by simp[re])
 grind [eV]
theorem bm0 (ps:Nat->Int×Int) (n:h<=100):BM mT (eV ps h 0):=by
 have c: ∀j,j<h->((eV ps h 0).getD j aR).on=false:=λj d=>by rw[AH ps d,if_neg zo];rfl
 refine⟨Ck,by grind [re],?_,λx t=>?_,λi a e=>?_,λi j a d b k l=>?_⟩
 ·have:(eV ps h 0).countP (λg=>g.on)=0:=by
   rw[List.countP_eq_zero];intro g f;obtain⟨j,_,rfl⟩:=List.mem_map.1 f;simp[aR]
  rw[this];rfl
 ·constructor
  ·intro b;obtain⟨m,i,o,p,a,_⟩:=b;obtain rfl:m=0:=zo
   exact absurd a (by show ¬i<0;omega)
  ·rintro⟨i,a,b,_⟩;rw[re] at a;have:=b.1;grind
 ·grind [re]
 grind [re]
section
variable {ps:Nat->Int×Int} {n:Nat}
def jQ (ps:Nat->Int×Int) (n:Nat):Prop:=n<=100/\(∀i,i<n->okB (ps i).1/\0<=(ps i).2/\(ps i).2<256)/\ ∀i j,i<n->j<n->(ps i).1=(ps j).1->i=j
theorem Nu (d:jQ ps n) (b:h<n) {s k:BS} (e:BM s (eV ps n h)) (l:eS s 0 (ps h).1 256 (ps h).2 D k):D=0/\BM k (eV ps n (h+1)):=by
 have:=e.map (i:=h) (by grind [re]) (by rw[AH ps b,if_neg zo];rfl) (d.2.1 h b).1 (d.2.1 h b).2 (λj f a g=>by
  rw[re] at f;rw[AH ps f] at a g;by_cases c:j<h
  ·rw[if_pos c] at g;have:=d.2.2 j h f b g;omega
  ·rw[if_neg c] at a;cases a) l
 grind [kPH]
theorem Ee (a:jQ ps n): ∀ {i:Nat} {s:BS},i<=n->jp ps mT i s->BM s (eV ps n i)
 |0,s,_,h=>by cases h;exact bm0 ps a.1
 |i+1,s,hi,⟨s1,s2,e,h1,h2,h3⟩=>(Nu a zo (Ee a zo h1) h2).2.en h3
theorem kPI (a:jQ ps n) {s:BS} (h:tQ ps mT n D s):D=0/\BM s (eV ps n n):=by
 rcases h with ⟨b,c⟩|⟨b,i,g,d,c,f⟩
 ·grind [Ee]
 ·exact absurd (Nu a d (Ee a zo c) f).1 b
end
theorem Nv {j:Nat} (b:h<12) (c:j<12) (i:bX h D=bX j D):h=j:=by
 grind [bX]
theorem Nw (i:Nat) (a:Int):okB (bX i a):=by
 grind [bX,okB]
theorem kRa {ds:List bR} (c:ds.length<=6) (h: ∀i,i<ds.length->(0<=(ds.getD i aG.d).fn/\(ds.getD i aG.d).fn<255)/\H.getD i (Rails.aD .u64).d=bX i D):jQ (jL ds H) ds.length:=by
 refine⟨zo,λi a=>?_,λi j a b e=>?_⟩
 ·grind [jL,Nw]
 ·unfold jL at e;rw[(h i a).2,(h j b).2] at e;exact Nv zo zo e
def fF (f:Nat->Int) (j:Nat):Nat->Int:=λm=>if m<j then f m else 0
def kA (rs:List RD) (to:Nat->Int) (k:Nat):List RD:=rs.mapIdx λj g=>if to j=g.base then g else if j<k then {g with on:=false} else g
def lI (rs:List RD) (to:Nat->Int) (k:Nat):List RD:=rs.mapIdx λj g=>if to j=g.base then g else if j<k then ⟨true,to j,g.own,fF g.val 256⟩ else {g with on:=false}
section
variable {rs:List RD} {to:Nat->Int} {k:Nat}
theorem oX:(kA rs to k).length=rs.length:=by simp[kA]
theorem pa:(lI rs to k).length=rs.length:=by simp[lI]
theorem xR (a:h<rs.length):(kA rs to k).getD h aR=if to h=(rs.getD h aR).base then rs.getD h aR else if h<k then {rs.getD h aR with on:=false} else rs.getD h aR:=by
 grind [kA]
theorem ux (a:h<rs.length):(lI rs to k).getD h aR=if to h=(rs.getD h aR).base then rs.getD h aR else if h<k then ⟨true,to h,(rs.getD h aR).own,fF (rs.getD h aR).val 256⟩ else {rs.getD h aR with on:=false}:=by
 grind [lI]
theorem uy {a b:List RD} (c:a.length=b.length) (h: ∀j,j<a.length->a.getD j aR=b.getD j aR):a=b:=by
 grind [List.ext_getElem]
theorem kM8:kA rs to 0=rs:=uy oX λj a=>by
 grind [oX,xR]
theorem kPJ:kA rs to rs.length=lI rs to 0:=uy (by rw[oX,pa]) λj a=>by
 grind [oX,xR,ux]
theorem kI0 (a:k<rs.length) (h:to k=(rs.getD k aR).base):kA rs to (k+1)=kA rs to k:=uy (by grind [oX]) λj b=>by
 grind [oX,xR]
theorem Nx (a:k<rs.length):(kA rs to k).getD k aR=rs.getD k aR:=by
 grind [xR]
theorem kM9 (a:k<rs.length) (h:to k≠(rs.getD k aR).base):(kA rs to k).set k {(kA rs to k).getD k aR with on:=false}=kA rs to (k+1):=uy (by grind [oX]) λj b=>by
 grind [oX,xR,db]
theorem kI1 (a:k<rs.length) (h:to k=(rs.getD k aR).base):lI rs to (k+1)=lI rs to k:=uy (by grind [pa]) λj b=>by
 grind [pa,ux]
def kC (rs:List RD) (to:Nat->Int) (k m:Nat):List RD:=(lI rs to k).set k ⟨true,to k,(rs.getD k aR).own,fF (rs.getD k aR).val m⟩
theorem Ef:(kC rs to k h).length=rs.length:=by grind [kC,pa]
theorem Ny (a:k<rs.length):(kC rs to k h).getD k aR=⟨true,to k,(rs.getD k aR).own,fF (rs.getD k aR).val h⟩:=by
 grind [kC,pa]
theorem kPK (a:k<rs.length):(kC rs to k h).set k (((kC rs to k h).getD k aR).put h ((rs.getD k aR).val h))=kC rs to k (h+1):=by
 rw[Ny a,kC,List.set_set,kC];congr 1;unfold RD.put fF;grind
theorem kKX (a:k<rs.length) (h:to k≠(rs.getD k aR).base):kC rs to k 256=lI rs to (k+1):=uy (by rw[Ef,pa]) λj b=>by
 grind [Ef,ux,kC,db]
variable {s s2:BS}
theorem kGA (h:BM s (kA rs to k)) (a:k<rs.length) (b:(rs.getD k aR).on=true) (c:to k≠(rs.getD k aR).base) (d:rG s 0 (rs.getD k aR).base 256 D s2):BM s2 (kA rs to (k+1)):=by
 have f:=Nx (to:=to) a;have:=(h.unm (i:=k) (by grind [oX]) zg (by rw[f];exact d)).2
 grind [kM9]
theorem kKY (h:BM s (lI rs to k)) (f:k<rs.length) (b: ∀j,j<rs.length->okB (to j)) (c: ∀i j,i<rs.length->j<rs.length->to i=to j->i=j) (g:to k≠(rs.getD k aR).base) (l:0<=(rs.getD k aR).own/\(rs.getD k aR).own<256)
 (m:eS s 0 (to k) 256 (rs.getD k aR).own D s2):D=0/\BM s2 (kC rs to k 0):=by
 have a:((lI rs to k).getD k aR).on=false:=by grind [ux]
 have d:=h.map (i:=k) (by grind [pa]) a (b k f) l (λj o n p=>by
  grind [pa,ux]) m
 refine⟨d.1,?_⟩;have q:=d.2;have r:fF (rs.getD k aR).val 0=λ_=>0:=by grind [fF]
 grind [kC]
theorem kRb (m:BM s (kC rs to k h)) (c:k<rs.length) (d:h<256) (e:0<=(rs.getD k aR).val h/\(rs.getD k aR).val h<=255) {b:Bool} (f:rH s 0 (to k+h) ((rs.getD k aR).val h) b s2):BM s2 (kC rs to k (h+1)):=by
 have a:=Ny (to:=to) (h:=h) c;have:=(m.poke (h:=k) (by grind [Ef]) (by rw[a]) d e (by rw[a];exact f)).2
 grind [kPK]
end
end Go.Pw
namespace Go.Pw
open Go.Sv Go.Rails Go.Dg
theorem kT6 {P C:Prop} {α β:Type} {E A B:α->β->Prop} (h:(P-> ∃a b,E a b/\(A a b\/B a b))/\(¬P->C)):(P/\ ∃a b,E a b/\A a b)\/(P/\ ∃a b,E a b/\B a b)\/(¬P/\C):=by
 by_cases c:P
 ·obtain⟨a,b,e,d|d⟩:=h.1 c
  ·exact .inl ⟨c,a,b,e,d⟩
  ·exact .inr (.inl ⟨c,a,b,e,d⟩)
 ·exact .inr (.inr ⟨c,h.2 c⟩)
theorem xS {w:World} (c:Hp Q J (M++[aU h (.cells (Ios.bg Ios.nM).toArray 114 (0,0))]) w):Hp Q J (M++[aP (Ios.bJ h Ios.nM)]) w:=by
 refine tT ?_;have a:=(((c.nilOS (J:=307) (K:=Ios.aW)).newBig 0 Ios.aW.d (F:=Ios.gm) OS.emp).nilOS (J:=352) (K:=Ios.aL)).nilOS (J:=55) (K:=Ios.cq);simp only[qL] at a;exact a
theorem kPL {d:bR} (h:d.few) (a:d.pw.rs J) (b:RS J (aD .i64) d.il.sup.A d.il.sup.ys):d.inn J:=
 ⟨a,λk c=>qk (h.1 k c) zd,b,qk h.2.2 zd⟩
theorem tV (v:Int):Ios.aY (IntKind.u64.wrap v):=by
 rw[IntKind.wrap_u64];unfold Ios.aY;omega
def tB (t:TT):aB:=aU t.b (.cells #[.slice t.dA t.es.length t.dc,.slice t.sA t.st.length t.sc,.pointer (some ⟨t.rb,0,none⟩),.int .u64 t.clk] 255 (0,0))
def tS (t:TT):aB:=OS 3 (aD .i64) t.sA t.sc t.st
def mB (t:MG):aB:=aU t.b (.cells #[.slice t.A t.ms.length t.c,.slice t.oA t.od.length t.oc,.int .u64 t.clk] 228 (0,0))
def mS (t:MG):aB:=OS 225 aO t.A t.c t.ms
def AJ (p:CP):List aB:=[OS 3 (aD .i64) p.oA p.oc p.od,OS 60 aM p.t.dA p.t.dc p.t.es,aF cm p.t.es,aP (aa 404 p.t.rb p.t.ra p.t.rs),aF ba p.m.ms,OS 3 (aD .i64) p.m.oA p.m.oc p.m.od]
def Eg (p:CP):List aB:=[cG p,jK p,tB p.t,tS p.t,aF hO p.us,mB p.m,mS p.m,aP (AJ p)]
section
variable {I0:aV} {w0 w:World} {p:CP} {X:List aB}
theorem kRc (h:Hp I0 w0 (mY p++X) w):Hp I0 w0 (Eg p++X) w:=by
 have e:mY p++X=([cG p,jK p,aF hO p.us,OS 3 (aD .i64) p.oA p.oc p.od,tB p.t,OS 60 aM p.t.dA p.t.dc p.t.es,aF cm p.t.es,tS p.t]++aa 404 p.t.rb p.t.ra p.t.rs)++([mB p.m,mS p.m,aF ba p.m.ms,OS 3 (aD .i64) p.m.oA p.m.oc p.m.od]++X):=by
  unfold mY zj rX;simp only[qL,qM,List.nil_append];rfl
 rw[e] at h;have a:=h.perm ((qf).append_right _);rw[qL] at a;have b:=Hp.bun a;have c:=b.perm (gH (ks:=[4,5,5,0,7,7,0,0,1,1,0,0,0]) z6);have d:Hp I0 w0 ([aP (AJ p)]++([cG p,jK p,tB p.t,tS p.t,aF hO p.us,mB p.m,mS p.m]++X)) w:=Hp.bun c;exact d.perm (gH (ks:=[1,1,1,1,1,1,1,0]) z6)
end
structure CPr (p:CP) (w:World):Prop where
 pb:w.heap[p.b]?=some (.cells #[.slice p.uA p.us.length p.uc,.pointer (some ⟨p.t.b,0,none⟩),.pointer (some ⟨p.m.b,0,none⟩),.pointer (some ⟨p.bb,0,none⟩),.slice p.oA p.od.length p.oc] 124 (0,0))
 us:RS w aI p.uA p.us
 tb:w.heap[p.t.b]?=some (.cells #[.slice p.t.dA p.t.es.length p.t.dc,.slice p.t.sA p.t.st.length p.t.sc,.pointer (some ⟨p.t.rb,0,none⟩),.int .u64 p.t.clk] 255 (0,0))
 ts:RS w (aD .i64) p.t.sA p.t.st
 mb:w.heap[p.m.b]?=some (.cells #[.slice p.m.A p.m.ms.length p.m.c,.slice p.m.oA p.m.od.length p.m.oc,.int .u64 p.m.clk] 228 (0,0))
 ms:RS w aO p.m.A p.m.ms
 dr: ∀i,i<p.us.length->w.heap[(p.us.getD i aI.d).q]?=some (.cells #[.string (bs (p.us.getD i aI.d).d.name),.slice (p.us.getD i aI.d).d.sA (p.us.getD i aI.d).d.ss.length (p.us.getD i aI.d).d.sc,.slice (p.us.getD i aI.d).d.tA (p.us.getD i aI.d).d.hs.length (p.us.getD i aI.d).d.tc,.int .i64 (p.us.getD i aI.d).st.st,.bool (p.us.getD i aI.d).st.wt,.int .i64 (p.us.getD i aI.d).st.cd] 257 (0,0))
def xT (h:Hd):aB:=OS 5 (aD .u8) h.A h.c h.ys
def xU:Hd:=⟨none,0,[]⟩
def bG (f:Nat->Int) (n:Nat):List Int:=(List.range n).map f
theorem jr (f:Nat->Int) (n:Nat):(bG f n).length=n:=by simp[bG]
theorem uz (f:Nat->Int) {i:Nat} (n:i<h) (d:Int):(bG f h).getD i d=f i:=by grind [bG]
theorem kKZ (f:Nat->Int) (n:Nat):List.replicate n 0=bG (fF f 0) n:=by
 apply List.ext_getElem (by simp[bG])
 grind [bG,fF]
theorem kMA (f:Nat->Int) {i:Nat} (n:i<h):(bG (fF f i) h).set i (f i)=bG (fF f (i+1)) h:=by
 apply List.ext_getElem (by simp[bG])
 grind [bG,fF]
theorem kMB (f:Nat->Int) (n:Nat):bG (fF f n) n=bG f n:=by
 simp_all[bG,fF]
theorem kRe {β:Type} {F:β->aB} {hs:List β} {w:World} (d:β) {a:β} (b:h<hs.length) (m:Hp Q J (M++[aF F hs,F a]) w):Hp Q J (M++[aF F (hs.set h a)]) w:=by
 have c:=m.perm qf;have e:=c.focus (k:=0) d z6 b;have f:=uw e;have g:=Hp.unfocus (k:=0) f z6 b;exact g.perm (qi _ _).symm
structure oY (rs:List RD) (to:Nat->Int) (k:Nat) (cs:List Hd):Prop where
 n:cs.length=rs.length
 on: ∀j,j<k->to j≠(rs.getD j aR).base->(cs.getD j dE.d).ys=bG (rs.getD j aR).val 256/\(cs.getD j dE.d).A≠none
 off: ∀j,j<rs.length->(k<=j\/to j=(rs.getD j aR).base)->cs.getD j dE.d=xU
section
variable {rs:List RD} {to:Nat->Int} {k:Nat} {cs:List Hd}
theorem oY.zero:oY rs to 0 (List.replicate rs.length xU):=
 ⟨zm,λj a=>zo,λj a _=>zg⟩
theorem oY.keep (h:oY rs to k cs) (e:to k=(rs.getD k aR).base):oY rs to (k+1) cs:=by
 refine⟨h.n,λj a b=>h.on j ?_ b,λj a b=>h.off j a ?_⟩
 ·grind
 grind
theorem oY.step (h:oY rs to k cs) (d:k<rs.length) {c:Hd} (g:to k≠(rs.getD k aR).base) (f:c.ys=bG (rs.getD k aR).val 256/\c.A≠none):oY rs to (k+1) (cs.set k c):=by
 refine⟨by rw[qI];exact h.n,λj b a=>?_,λj b a=>?_⟩
 ·by_cases e:k=j
  ·subst e;rw[dN _ _ _ _ (by rw[h.n];exact d)];exact f
  ·rw[db _ _ _ e];exact h.on j zo a
 ·have e:k≠j:=by
   grind
  rw[db _ _ _ e];refine h.off j b ?_
  grind
end
def fm (us:List UN) (to:Nat->Int) (k:Nat):List UN:=us.mapIdx λj u=>if j<k then {u with base:=to j} else u
section
variable {us:List UN} {to:Nat->Int} {k:Nat}
theorem na:(fm us to k).length=us.length:=by simp[fm]
theorem vA (a:h<us.length):(fm us to k).getD h aI.d=if h<k then {us.getD h aI.d with base:=to h} else us.getD h aI.d:=by
 grind [fm]
theorem Eh {a b:List UN} (c:a.length=b.length) (h: ∀j,j<a.length->a.getD j aI.d=b.getD j aI.d):a=b:=by
 grind [List.ext_getElem]
theorem kMC:fm us to 0=us:=Eh na λj a=>by
 grind [na,vA]
theorem kI3 (b:k<us.length) (h:to k=(us.getD k aI.d).base):fm us to (k+1)=fm us to k:=Eh (by grind [na]) λj a=>by
 rw[na] at a;rw[vA a,vA a];by_cases e:j=k
 ·simp_all
 grind
theorem kI4 (a:k<us.length):(fm us to k).set k {(fm us to k).getD k aI.d with base:=to k}=fm us to (k+1):=Eh (by grind [na]) λj b=>by
 grind [na,vA,db]
end
structure MvP (p:CP) (rs:List RD):Prop where
 n:rs.length=p.us.length
 few:p.us.length<=16
 off:p.t.es.length=p.us.length/\p.t.st=List.replicate p.us.length 4
 u: ∀i,i<p.us.length->(rs.getD i aR).base=(p.us.getD i aI.d).base/\(rs.getD i aR).own=(p.us.getD i aI.d).own/\(rs.getD i aR).on=true
 o: ∀i,i<p.us.length->0<=(p.us.getD i aI.d).own/\(p.us.getD i aI.d).own<256/\okB (p.us.getD i aI.d).base
 v: ∀i,i<p.us.length-> ∀m,0<=(rs.getD i aR).val m/\(rs.getD i aR).val m<=255
def tL (t:TT):List aB:=[tB t,OS 60 aM t.dA t.dc t.es,aF cm t.es,tS t,aP (aa 404 t.rb t.ra t.rs)]
structure Nz (t:TT) (S:List Int) (now:Int):Prop where
 st: ∀i:Nat,(i:Int)∈S->t.st.getD i (aD .i64).d=0
 up: ∀i:Nat,(i:Int)∈S->0<=(t.es.getD i aM.d).par->(t.es.getD i aM.d).par∈S
 on: ∀i:Nat,(i:Int)∈S-> ∀j,j<(t.es.getD i aM.d).r0.ys.length->((0<=(t.es.getD i aM.d).r0.ys.getD j (aD .i64).d/\(t.es.getD i aM.d).r0.ys.getD j (aD .i64).d<t.rs.rails.length)/\ ¬t.rs.c ((t.es.getD i aM.d).r0.ys.getD j (aD .i64).d).toNat=0)/\t.rs.t ((t.es.getD i aM.d).r0.ys.getD j (aD .i64).d).toNat<=now
structure AK (t:TT):Prop where
 n:t.es.length<=64
 st:t.st.length=t.es.length
 par: ∀i,i<t.es.length-> -1<=(t.es.getD i aM.d).par/\(t.es.getD i aM.d).par<i
 rl: ∀i,i<t.es.length->(t.es.getD i aM.d).r0.ys.length<=8
 rg: ∀i,i<t.es.length-> ∀r∈(t.es.getD i aM.d).r0.ys,0<=r/\r<t.rs.rails.length
 asc: ∀i,i<t.es.length->dU (t.es.getD i aM.d).r0.ys
 wf:t.rs.wf
theorem AE.zero {rk:Nat->Nat} {es:List au} {rs:St} (h:nZ rk 0 rs):AE rk es (8* (0:Nat)) [] (List.replicate es.length 4) rs:=
 ⟨zm,λi a=>by simp[List.getD,a],h,λi a b=>by cases b⟩
end Go.Pw
namespace Go.Pw
open Go.Sv Go.Ios
def RD.wr4 (g:RD) (k:Nat) (v:Int):RD:={g with val:=λj=>if k<=j/\j<k+4 then jx v (j-k) else g.val j}
def rd4 (f:Nat->Int) (k:Nat):Int:=f k+f (k+1)* 256+f (k+2)* 65536+f (k+3)* 16777216
theorem BM.put {s p:BS} {rs:List RD} (i:BM s rs) (q:h<rs.length) (o:(rs.getD h aR).on=true) {k:Nat} (F:k+4<=256) (v:Int) (u:p.ok) (C:p.total=s.total) (hI: ∀x t,iZ p 0 x t↔ ∃t0,iZ s 0 x t0/\t=jz 0 ((rs.getD h aR).base+k) v 4 0 x t0):BM p (rs.set h ((rs.getD h aR).wr4 k v)):=by
 have w:=i.al h q o;have g: ∀c,((rs.set h ((rs.getD h aR).wr4 k v)).getD c aR).on=(rs.getD c aR).on/\((rs.set h ((rs.getD h aR).wr4 k v)).getD c aR).base=(rs.getD c aR).base/\ ∀x,(rs.getD c aR).hit x->((rs.set h ((rs.getD h aR).wr4 k v)).getD c aR).tu x=if c=h then jz 0 ((rs.getD h aR).base+k) v 4 0 x ((rs.getD c aR).tu x) else (rs.getD c aR).tu x:=λc=>by
  by_cases e:h=c
  ·subst e;rw[dN _ _ _ _ q];refine⟨rfl,rfl,λx l=>?_⟩;have d:=l.2
   grind [jz,RD.tu,RD.wr4]
  grind
 have D: ∀c,c<rs.length-> ∀x,(rs.getD c aR).hit x->jz 0 ((rs.getD h aR).base+k) v 4 0 x ((rs.getD c aR).tu x)=((rs.set h ((rs.getD h aR).wr4 k v)).getD c aR).tu x:=λc z x l=>by
  rw[(g c).2.2 x l];split
  ·rfl
  ·rename_i e;unfold jz;rw[if_neg];rintro⟨_,y,h4⟩;exact e (i.dj h c q z o l.1 (okB.eq w (i.al c z l.1) (x:=x) zo zo l.2.1 l.2.2)).symm
 have E: ∀c x,((rs.set h ((rs.getD h aR).wr4 k v)).getD c aR).hit x↔(rs.getD c aR).hit x:=λc x=>by grind [RD.hit]
 refine⟨u,by rw[qI];exact i.n,?_,λx t=>?_,λj A f=>?_,λa b m B r d y=>?_⟩
 ·rw[AG rs q,C,<-i.tot]
  grind
 ·rw[hI x t,qI];constructor
  ·rintro⟨t0,r,rfl⟩;obtain⟨a,m,d,rfl⟩:=(i.mem x t0).1 r
   grind
  ·rintro⟨a,m,d,rfl⟩;rw[E] at d;exact⟨_,(i.mem x _).2 ⟨a,m,d,rfl⟩,(D a m x d).symm⟩
 ·rw[qI] at A;rw[(g j).1] at f;rw[(g j).2.1];exact i.al j A f
 ·rw[qI] at m B;rw[(g a).1] at r;rw[(g b).1] at d;rw[(g a).2.1,(g b).2.1] at y;exact i.dj a b m B r d y
end Go.Pw
namespace Go.Pw
open Go.Sv Go.Ios Go.Drv
def opY (ys:List Int) (o:Ro):List Int:=if o.wr=true then gu ys o.reg.toNat o.val 4 else ys
def Ei (ys:List Int) (os:List Ro):List Int:=os.foldl opY ys
def pe (ts:List Tr):Nat->IS×List Ro×Bool->List Int->IS×List Int
 |0,a,ys=>(a.1,ys)
 |f+1,a,ys=>if a.2.2=true then pe ts f (ak ts a.1 (rd4 (cf ys) (ee ts a.1.cd).gd.reg.toNat)).1 ys else (a.1,Ei ys a.2.1)
def kZH (ts:List Tr) (s:IS) (ev:Bs) (ys:List Int):IS×List Int:=pe ts (ts.length+1) (cM ts s ev 0) ys
structure ly (ts:List Tr) (k:Nat) (a:IS×List Ro×Bool):Prop where
 wt:a.1.wt=a.2.2
 on:a.2.2=true->a.1.cd<ts.length/\k<=a.1.cd/\a.2.1=[⟨false,(ee ts a.1.cd).gd.reg,0⟩]
 ops:a.2.1.length<=16
 reg: ∀o∈a.2.1,0<=o.reg/\o.reg%4=0/\o.reg<256/\aY o.val
def nc (ts:List Tr):Prop:= ∀i,i<ts.length->((0<=(ee ts i).gd.reg/\(ee ts i).gd.reg%4=0)/\(ee ts i).gd.reg<256)/\(ee ts i).ops.length<=16/\ ∀o∈(ee ts i).ops,0<=o.reg/\o.reg%4=0/\o.reg<256/\aY o.val
section
variable {ts:List Tr} {s:IS} {ev:Bs} {k:Nat}
theorem OA (c:nc ts) (hs:s.wt=false):ly ts k (cM ts s ev k):=by
 unfold cM;cases h:iv ts s.st ev k with
 |none=>exact⟨hs,λh=>(by cases h),qT _,λo a=>(by cases a)⟩
 |some i=>
  have b:=List.mem_of_find?_eq_some h;rw[List.mem_range'_1] at b;obtain⟨f,d,e⟩:=c i zo;simp only[];split
  ·exact⟨hs,λh=>(by cases h),d,e⟩
  ·refine⟨rfl,λ_=>⟨zg,b.1,rfl⟩,zm,λo a=>?_⟩
   grind [aY]
theorem OB {a:IS×List Ro×Bool} (d:nc ts) (h:ly ts k a) (c:a.2.2=true) (v:Int):ly ts (a.1.cd+1) (ak ts a.1 v).1/\(ak ts a.1 v).2=0:=by
 have b:=h.on c;have e:a.1.wt=true:=by rw[h.wt,c]
 obtain⟨i,f,g⟩:=d a.1.cd b.1;unfold ak;rw[if_neg zg];split
 ·exact⟨⟨rfl,λh=>(by cases h),f,g⟩,rfl⟩
 grind [OA]
end
def xV (ts:List Tr):List Bs->IS×List Int->IS×List Int
 |[],p=>p
 |e::es,p=>xV ts es (kZH ts p.1 e p.2)
def OC (ps:Nat->Int×Int) (n d:Nat) (ys:List Int):List RD:=(List.range n).map λj=>⟨true,(ps j).1,(ps j).2,if j=d then cf ys else λ_=>0⟩
end Go.Pw
namespace Go.Pw
open Go.Sv Go.Ios
structure cV (s s2:BS):Prop where
 ok:s2.ok
 bm: ∀rs,BM s rs->BM s2 rs
 fl:s2.fl=s.fl
 tr:s2.tr=s.tr
theorem cV.refl {s:BS} (h:s.ok):cV s s:=⟨h,λ_ h=>h,rfl,rfl⟩
theorem cV.trans {a b c:BS} (h:cV a b) (g:cV b c):cV a c:=⟨g.ok,λrs k=>g.bm rs (h.bm rs k),g.fl.trans h.fl,g.tr.trans h.tr⟩
theorem cV.en {s a:BS} {o e:Int} {v:Bool} (b:s.ok) (h:oS s o v e a):cV s a:=
 ⟨EN b h,λ_ k=>k.en h,by cases h<;>rfl,by cases h<;>rfl⟩
structure Qt (s:BS) (k:Nat):Prop where
 fl:s.fl=[]
 tr:s.tr.length<=k
end Go.Pw
namespace Go.Pw
open Go.Sv Go.Rails Go.Dg
section
variable {I0:aV} {w0 w:World} {p:CP} {X:List aB}
def xW (u:UN):aB:=OS 9 aN u.qA u.qc u.qs
def iB (u:UN) (s:Drv.IS):aB:=aP (Drv.gW u.q u.d s)
theorem kZI {u:UN} {s:Drv.IS} (k:Hp I0 w0 M w) (a:M[h]?=some (iB u s)):w.heap[u.q]?=some (.cells #[.string (bs u.d.name),.slice u.d.sA u.d.ss.length u.d.sc,.slice u.d.tA u.d.hs.length u.d.tc,.int .i64 s.st,.bool s.wt,.int .i64 s.cd] 257 (0,0)):=by
 obtain⟨i,j,b,_⟩:=k.at a;obtain⟨_,_,_,_,c,_⟩:=b;exact c.2
end
section
variable {us:List UN} {d:Nat} {A:Option Addr} {c:Nat} {ys:List Bs}
end
structure xX (o:Drv.Ro):Prop where
 r0:0<=o.reg
 r4:o.reg%4=0
 rm:o.reg<256
 v:Ios.aY o.val
structure PfG where
 f:Nat
 k:Nat
 a:Drv.IS×List Drv.Ro×Bool
 s:Ios.BS
 A:Option Addr
 c:Nat
structure PfI (ts:List Drv.Tr) (ps:Nat->Int×Int) (n d T:Nat) (ys:List Int) (r:Drv.IS×List Int) (z:PfG):Prop where
 run:pe ts z.f z.a ys=r
 act:ly ts z.k z.a
 k:z.k<=ts.length
 f:ts.length<z.k+z.f
 bm:BM z.s (OC ps n d ys)
 qt:Qt z.s T
structure DvG where
 k:Nat
 A:Option Addr
 c:Nat
 s:Ios.BS
structure DvI (ts:List Drv.Tr) (ps:Nat->Int×Int) (n d i T:Nat) (l:List Bs) (A0:Option Addr) (r0:Drv.IS×List Int) (z:DvG):Prop where
 lo:i<d->z.k=0
 hi:d<i->z.k=l.length
 k:z.k<=l.length
 c:(l.drop z.k).length<=z.c
 rs: ∀w,RS w aN A0 l->RS w aN z.A (l.drop z.k)
 bm:BM z.s (OC ps n d (xV ts (l.take z.k) r0).2)
 qt:Qt z.s (T* z.k)
end Go.Pw
namespace Go.Drv
open Go.Sv
def cO (q:Nat) (d:DH) (st wi:Int) (ev:Bs):List aB:=[aU q (.cells #[.string (bs d.name),.slice d.sA d.ss.length d.sc,.slice d.tA d.hs.length d.tc,.int .i64 st,.int .i64 wi,.string (bs ev)] 321 (0,0)),OS 9 aN d.sA d.sc d.ss,OS 198 aK d.tA d.tc d.hs,aF cE d.hs]
end Go.Drv
namespace Go.Pw
open Go.Sv Go.Rails Go.Dg
structure pf where
 kd:Int
 dv:Int
 nm:Int
 wt:Int
 fl:Bool
 rw:Bool
def fP:bO pf where
 f c:=[.int .i64 c.kd,.int .i64 c.dv,.int .i64 c.nm,.int .u64 c.wt,.bool c.fl,.bool c.rw]
 sz:=6
 d:=⟨0,0,0,0,false,false⟩
 len _:=rfl
 pos:=zd
 one r v hv:=by simp at hv;rcases hv with rfl|rfl|rfl|rfl|rfl|rfl<;>rfl
def OD:List Bs:=[[115,116,97,114,116],[115,116,111,112],[115,117,115,112,101,110,100],[114,101,115,117,109,101],[105,114,113],[112,111,108,108],[110,111,110,101]]
def ye (x:Int):Bs:=OD.getD (ah x 7).toNat []
structure Ej where
 f:Nat
 k:Nat
 a:Drv.IS×List Drv.Ro×Bool
 A:Option Addr
 c:Nat
structure FoI (ts:List Drv.Tr) (ys:List Int) (ev:Bs) (r:Drv.IS×List Int) (z:Ej):Prop where
 run:pe ts z.f z.a ys=r
 act:ly ts z.k z.a
 k:z.k<=ts.length
 f:ts.length<z.k+z.f
 ev:Drv.qz ts z.a.1 ev
def rI (q:Nat) (d:Drv.DH) (s:Drv.IS) (ev:Bs):aB:=aP (Drv.cO q d s.st (Drv.lY s) ev)
theorem kZK {w:World} {q:Nat} {d:Drv.DH} {s:Drv.IS} {ev:Bs} (k:Hp Q J M w) (a:M[h]?=some (rI q d s ev)):w.heap[q]?=some (.cells #[.string (bs d.name),.slice d.sA d.ss.length d.sc,.slice d.tA d.hs.length d.tc,.int .i64 s.st,.int .i64 (Drv.lY s),.string (bs ev)] 321 (0,0)):=by
 obtain⟨i,j,b,_⟩:=k.at a;obtain⟨_,_,_,_,c,_⟩:=b;exact c.2
structure jZ (m:MG) (n:Nat):Prop where
 r:Eb m n
 con: ∀i,i<n-> ∀j,j<(m.ms.getD i aO.d).con.ys.length->0<=(m.ms.getD i aO.d).con.ys.getD j (aD .i64).d/\(m.ms.getD i aO.d).con.ys.getD j (aD .i64).d<n
 cl: ∀i,i<n->(m.ms.getD i aO.d).con.ys.length<=1000000
def eW (ms:List cK):Nat:=ms.countP (·.act)
def bU (a b:List cK):Prop:=a.length=b.length/\ ∀i,(a.getD i aO.d).sup=(b.getD i aO.d).sup/\(a.getD i aO.d).con=(b.getD i aO.d).con
section
variable {m:MG} {n i:Nat} {a b c ms:List cK} {x:cK}
theorem bU.refl (a:List cK):bU a a:=⟨rfl,λ_=>⟨rfl,rfl⟩⟩
theorem bU.trans (h:bU a b) (g:bU b c):bU a c:=⟨h.1.trans g.1,λi=>⟨(h.2 i).1.trans (g.2 i).1,(h.2 i).2.trans (g.2 i).2⟩⟩
theorem bU.set (b:x.sup=(a.getD i aO.d).sup) (c:x.con=(a.getD i aO.d).con):bU (a.set i x) a:=by
 refine⟨qI,λj=>?_⟩;by_cases e:i=j
 ·subst e;by_cases f:i<a.length
  ·rw[dN _ _ _ _ f];exact⟨b,c⟩
  ·rw[List.set_eq_of_length_le zo];exact⟨rfl,rfl⟩
 ·rw[db _ _ _ e];exact⟨rfl,rfl⟩
theorem bU.act {v:Bool}:bU (a.set i {a.getD i aO.d with act:=v}) a:=bU.set rfl rfl
theorem bU.use {v:Int}:bU (a.set i {a.getD i aO.d with use:=v}) a:=bU.set rfl rfl
theorem bU.sin {v:Int}:bU (a.set i {a.getD i aO.d with sin:=v}) a:=bU.set rfl rfl
theorem bU.big (h:bU a b):aF ba a=aF ba b:=kYk (by
 apply List.ext_getElem (by simp[h.1]);intro j c e;have f:j<a.length:=by simpa using c
 have g:j<b.length:=by simpa using e
 have i:a.getD j aO.d=a[j]:=by simp[List.getD,f]
 have k:b.getD j aO.d=b[j]:=by simp[List.getD,g]
 have:=h.2 j;rw[i,k] at this;rw[List.getElem_map,List.getElem_map];unfold ba;rw[this.1,this.2])
theorem jZ.w (h:jZ m n) (g:bU ms m.ms) (k:Int):jZ {m with ms:=ms,clk:=k} n:=
 ⟨⟨h.r.le,g.1.trans h.r.len,h.r.ol,h.r.rg,λi a=>by show ∀j,j<(ms.getD i aO.d).sup.ys.length->_;rw[(g.2 i).1];exact h.r.sup i a,λi a=>by show(ms.getD i aO.d).sup.ys.length<=_;rw[(g.2 i).1];exact h.r.sl i a⟩,
  λi a=>by show ∀j,j<(ms.getD i aO.d).con.ys.length->_;rw[(g.2 i).2];exact h.con i a,λi a=>by show(ms.getD i aO.d).con.ys.length<=_;rw[(g.2 i).2];exact h.cl i a⟩
theorem vB (ms:List cK):eW ms<=ms.length:=List.countP_le_length
theorem OE (a:i<ms.length):eW (ms.set i x)+(if (ms.getD i aO.d).act=true then 1 else 0)=eW ms+(if x.act=true then 1 else 0):=by
 unfold eW
 induction ms generalizing i with
 |nil=>exact absurd a (Nat.not_lt_zero _)
 |cons y ms b=>cases i with
  |zero=>simp only[List.set_cons_zero,List.countP_cons,List.getD_cons_zero];omega
  |succ i=>simp only[List.set_cons_succ,List.countP_cons,List.getD_cons_succ];have:=b (i:=i) (by simpa using a);omega
theorem kXc (a:i<ms.length) (b:(ms.getD i aO.d).act=true):eW (ms.set i {ms.getD i aO.d with act:=false})+1=eW ms:=by
 have:=OE (x:={ms.getD i aO.d with act:=false}) a;rw[if_pos b,if_neg zm] at this;exact this
theorem Ek (a:i<ms.length) (b:x.act=(ms.getD i aO.d).act):eW (ms.set i x)=eW ms:=by
 have:=OE (x:=x) a;rw[b] at this;omega
theorem kXd (a:i<ms.length):eW (ms.set i {ms.getD i aO.d with sin:=D})=eW ms:=Ek a rfl
end
theorem tW {w:World} {i:Nat} {ms:List cK} (k:Hp Q J M w) (a:M[h]?=some (aF ba ms)) (b:i<ms.length):RS w (aD .i64) (ms.getD i aO.d).con.A (ms.getD i aO.d).con.ys:=
 k.bigOS (G:=λm w=>RS w (aD .i64) m.con.A m.con.ys) aO.d a b λj m c=>by
  obtain⟨_,_,_,_,_,e⟩:=c;obtain⟨_,_,_,_,f,_⟩:=e;exact OS.rs f
structure mZ where
 ms:List cK
 A:Option Addr
 c:Nat
 l:List iJ
structure xY (m:MG) (k:Nat) (z:mZ):Prop where
 sm:bU z.ms m.ms
 ct:z.l.length+eW z.ms<=k
theorem xY.on {m:MG} {i:Nat} {z:mZ} (k:xY m h z) (a:i<z.ms.length) (b:(z.ms.getD i aO.d).act=true) (A:Option Addr) (c:Nat) (o:iJ):xY m h ⟨z.ms.set i {z.ms.getD i aO.d with act:=false},A,c,z.l++[o]⟩/\eW (z.ms.set i {z.ms.getD i aO.d with act:=false})<eW z.ms:=by
 have f:=kXc a b;have e:bU (z.ms.set i {z.ms.getD i aO.d with act:=false}) z.ms:=bU.set rfl rfl;refine⟨⟨e.trans k.sm,?_⟩,zo⟩;have:=k.ct;show(z.l++[o]).length+eW (z.ms.set i {z.ms.getD i aO.d with act:=false})<=h;rw[qD,List.length_singleton];omega
structure R8 where
 t:nX
 ic:Nat
 il:List cu
structure R8k (b n:Nat) (z:R8):Prop where
 at_:z.t.b=b
 tn:z.t.n=n
 le:n<=64
 il:z.il.length=n
 on:z.t.on.length=n
 us:z.t.us.length=n
 si:z.t.si.length=n
 ll:z.t.lk.length<=1000000
 lk: ∀k,k<z.t.lk.length->cX n (z.t.lk.getD k aC.d)
def ma (l:List Bool):Nat:=l.countP (· =true)
theorem El (l:List Bool):ma l<=l.length:=List.countP_le_length
theorem kXe {x:Bool} (a:h<O.length):ma (O.set h x)+(if O.getD h ad.d=true then 1 else 0)=ma O+(if x=true then 1 else 0):=by
 unfold ma
 induction O generalizing h with
 |nil=>exact absurd a (Nat.not_lt_zero _)
 |cons y O b=>cases h with
  |zero=>simp only[List.set_cons_zero,List.countP_cons,List.getD_cons_zero,qj];omega
  |succ h=>simp only[List.set_cons_succ,List.countP_cons,List.getD_cons_succ];have:=b (h:=h) (by simpa using a);omega
theorem kXf (a:h<O.length) (i:O.getD h ad.d=true):ma (O.set h false)+1=ma O:=by
 have:=kXe (x:=false) a;rw[if_pos i,if_neg zm] at this;exact this
end Go.Pw
namespace Go.Sv
theorem Fx.bun2 {P:Program} {f:FuncId} {vs:List Value} {post:Value->List aB->List aB->Prop} (h:Fx P f vs J M Q (λv L=> ∃a R,post v a R/\L=a++R)):Fx P f vs J [aP M] Q (λv L=> ∃a R,post v a R/\L=aP a::R):=λI d b=>by
 obtain⟨i,j,hI,q,g,l⟩:=d;have e: ∀x,I x↔i x:=λx=>by rw[hI x];exact⟨λk=>k.elim id λk=>absurd k (l x),.inl⟩
 have c:I=i:=funext λx=>propext (e x);subst c;exact(h I g b).mono λe r ⟨v,s,m,⟨a,R,n,o⟩,p⟩=>⟨v,_,m,⟨a,R,n,rfl⟩,Hp.bun (by rw[<-o];exact p)⟩
end Go.Sv
namespace Go.Pw
open Go.Sv Go.Rails Go.Dg
theorem pg {w:World} {i:Nat} {es:List au} (k:Hp Q J M w) (a:M[h]?=some (aF cm es)) (b:i<es.length):RS w (aD .i64) (es.getD i aM.d).r0.A (es.getD i aM.d).r0.ys:=
 k.bigOS (G:=λd w=>RS w (aD .i64) d.r0.A d.r0.ys) aM.d a b λj d c=>by
  obtain⟨_,_,_,_,e,_⟩:=c;exact OS.rs e
structure SetG where
 A:Option Addr
 c:Nat
 xs:List gR
def gw (d:au) (s:Int):Hd:=if s=4 then bN else d.rl s.toNat
def Em (w:World) (d:au):Prop:= ∀k,k<4->RS w (aD .i64) (d.rl k).A (d.rl k).ys/\(d.rl k).ys.length<=1000
theorem fO {d:au} (h:Em J d) (h0:0<=D) (a:D<=4):RS J (aD .i64) (gw d D).A (gw d D).ys/\(gw d D).ys.length<=1000:=by
 unfold gw;by_cases e:D=4
 ·rw[if_pos e];exact⟨.inl rfl,qT _⟩
 ·rw[if_neg e];exact h _ zo
structure eY (rk:Nat->Nat) (st:St):Prop where
 wf:st.wf
 acy:ju st.rails rk
 r8: ∀i,i<st.rails.length->rk i<8
section
variable {rk:Nat->Nat} {st:St}
theorem eY.w (h:eY rk st) {s:St} (a:s.rails=st.rails) (b:s.count.length=st.count.length) (c:s.done.length=st.done.length):eY rk s:=
 ⟨⟨by rw[a,b];exact h.wf.count,by rw[a,c];exact h.wf.done⟩,by rw[a];exact h.acy,by rw[a];exact h.r8⟩
theorem eY.acq (h:eY rk st) (x now:Int):eY rk (dQ 8 st x now).st/\(dQ 8 st x now).st.rails=st.rails/\(dQ 8 st x now).ops.length<=8:=by
 by_cases e:st.ok x now
 ·rw[HJ e];obtain⟨a,_,b,c,d⟩:=BK 8 (st.tick now) x.toNat now [];exact⟨h.w a b c,a,by simpa using d⟩
 ·rw[HK e];exact⟨h,rfl,qT _⟩
theorem eY.rel (h:eY rk st) (x now:Int):eY rk (co 8 st x now).st/\(co 8 st x now).st.rails=st.rails/\(co 8 st x now).ops.length<=8:=by
 by_cases e:st.ok x now
 ·by_cases a:st.c x.toNat<=hR st x st.rails.length
  ·rw[HM e a];exact⟨h,rfl,qT _⟩
  ·rw[HL e a];obtain⟨b,_,d,f,g⟩:=HC 8 (st.tick now) x.toNat now [];exact⟨h.w b d f,b,by simpa using g⟩
 ·rw[HN e];exact⟨h,rfl,qT _⟩
end
structure gh (rk:Nat->Nat) (t:TT):Prop where
 ok:AK t
 ra:eY rk t.rs
 sv: ∀i,i<t.es.length->0<=t.st.getD i (aD .i64).d/\t.st.getD i (aD .i64).d<=4
 ln: ∀i,i<t.es.length-> ∀k,k<4->((t.es.getD i aM.d).rl k).ys.length<=1000
def TT.go (t:TT) (st:List Int) (rs:St) (k:Int):TT:={t with st:=st,rs:=rs,clk:=k}
theorem gh.go {rk:Nat->Nat} {t:TT} (h:gh rk t) {st:List Int} {rs:St} (k:Int) (b:st.length=t.st.length) (c: ∀i,i<t.es.length->0<=st.getD i (aD .i64).d/\st.getD i (aD .i64).d<=4) (a:eY rk rs) (e:rs.rails=t.rs.rails):gh rk (t.go st rs k):=
 ⟨⟨h.ok.n,b.trans h.ok.st,h.ok.par,h.ok.rl,by show ∀i,i<t.es.length-> ∀r∈(t.es.getD i aM.d).r0.ys,0<=r/\r<rs.rails.length;rw[e];exact h.ok.rg,h.ok.asc,a.wf⟩,a,c,h.ln⟩
theorem OG {i:Nat} (x: ∀j,j<h->0<=H.getD j (aD .i64).d/\H.getD j (aD .i64).d<=4) (a:0<=D/\D<=4) (c:H.length=h): ∀j,j<h->0<=(H.set i D).getD j (aD .i64).d/\(H.set i D).getD j (aD .i64).d<=4:=λj b=>by
 by_cases e:i=j
 ·subst e;rw[dN _ _ _ _ zo];exact a
 ·rw[db _ _ _ e];exact x j b
theorem xZ {w:World} {i j:Nat} {es:List au} (L:Hp Q J M w) (a:M[h]?=some (aF cm es)) (b:i<es.length) (c:j<4):RS w (aD .i64) ((es.getD i aM.d).rl j).A ((es.getD i aM.d).rl j).ys:=
 L.bigOS (G:=λd w=>RS w (aD .i64) (d.rl j).A (d.rl j).ys) aM.d a b λk d e=>by
  obtain⟨_,_,_,_,f,_,_,_,_,g,_,_,_,_,l,_,_,_,_,m,_⟩:=e
  match j,c with
  |0,_=>exact OS.rs f
  |1,_=>exact OS.rs g
  |2,_=>exact OS.rs l
  |3,_=>exact OS.rs m
structure vC where
 rs:St
 A:Option Addr
 c:Nat
 xs:List gR
structure gi where
 st:List Int
 rs:St
 k:Int
def TT.gz (t:TT) (z:gi):TT:=t.go z.st z.rs z.k
end Go.Pw
namespace Go.Pw
open Go.Sv Go.Ios
def im (a b:List RD):Prop:=a.length=b.length/\ ∀i,(a.getD i aR).on=(b.getD i aR).on/\(a.getD i aR).base=(b.getD i aR).base/\(a.getD i aR).own=(b.getD i aR).own
theorem im.refl (a:List RD):im a a:=⟨rfl,λ_=>⟨rfl,rfl,rfl⟩⟩
theorem im.trans {a b c:List RD} (h:im a b) (g:im b c):im a c:=⟨h.1.trans g.1,λi=>⟨(h.2 i).1.trans (g.2 i).1,(h.2 i).2.1.trans (g.2 i).2.1,(h.2 i).2.2.trans (g.2 i).2.2⟩⟩
theorem im.wr4 {rs:List RD} {i:Nat} (a:i<rs.length) (k:Nat) (v:Int):im (rs.set i ((rs.getD i aR).wr4 k v)) rs:=by
 refine⟨qI,λj=>?_⟩;by_cases e:i=j
 ·subst e;rw[dN _ _ _ _ a];exact⟨rfl,rfl,rfl⟩
 ·rw[db _ _ _ e];exact⟨rfl,rfl,rfl⟩
theorem yv (s:BS) (a:cD):(bu s a).sps=s.sps/\(bu s a).total=s.total:=by unfold bu;split<;>exact⟨rfl,rfl⟩
theorem BM.accG {s F:BS} {rs:List RD} (i:BM s rs) (u:h<rs.length) (f:(rs.getD h aR).on=true) {k:Nat} (O:k+4<=256) (Y:k%4=0) {w:Bool} {v2 P:Int} {a:cD} (d:a=⟨0,(rs.getD h aR).base+k,4,w,D⟩) (Q:kg s a v2 P F):
 ∃rs2,BM F rs2/\im rs2 rs/\F.en=s.en/\ ∀e∈F.tr,e∈s.tr\/(e.own=(rs.getD h aR).own/\e.a.space=0/\e.a.width=4/\e.a.addr=(rs.getD h aR).base+k/\e.live=s.en.getD (rs.getD h aR).own.toNat false):=by
 cases Q with
 |bad _=>exact⟨rs,i,im.refl _,rfl,λe q=> .inl q⟩
 |full _ _=>exact⟨rs,i,im.refl _,rfl,λe q=> .inl q⟩
 |done A c tA tc H I R=>
  have J:=i.al h u f;have S:=J;unfold okB at S;have K:=(i.mem ((rs.getD h aR).base+k) _).2 ⟨h,u,⟨f,zo,zo⟩,rfl⟩;obtain⟨m,j,Z,T,U,V,W,X,r⟩:=DT i.ok K;obtain rfl:m=0:=zo
  have eb:(rs.getD h aR).base=(mh (s.sp 0).hs j).base:=congrArg Tu.b r;have el:256=(mh (s.sp 0).hs j).len:=congrArg Tu.l r;have eo:(rs.getD h aR).own=(mh (s.sp 0).hs j).own:=congrArg Tu.o r;have y:(mh (s.sp 0).hs j).lst=(rs.getD h aR).base+255:=by show(mh (s.sp 0).hs j).base+((mh (s.sp 0).hs j).len-1)=_;omega
  have g:ek s a.space a.addr=some j:=by rw[d];exact U
  have L:fW s a=s.en.getD (rs.getD h aR).own.toNat false:=by
   rw[yu (u:=0) (by rw[d];rfl) (by rw[d] at g ⊢;exact g),<-eo,y];rw[d,qR (by show(rs.getD h aR).base+k+4-1<=_;omega),Bool.and_true]
  have M:fh s a=mh (s.sp 0).hs j:=by rw[fh,DC g,d];rfl
  have z:=Wh (u:=c) i.ok H R tA tc I;have B:bi s a.space a.addr=(rs.getD h aR).own:=by rw[d];exact(i.see u f (h:=k) zo).1
  have N: ∀e∈(fy s a A c tA tc).tr,e∈s.tr\/(e.own=(rs.getD h aR).own/\e.a.space=0/\e.a.width=4/\e.a.addr=(rs.getD h aR).base+k/\e.live=s.en.getD (rs.getD h aR).own.toNat false):=λe q=>by
   rw[(DI s a A c tA tc).2.2,List.mem_append,qm] at q;rcases q with q|rfl
   ·exact .inl q
   ·exact .inr ⟨B,by show a.space=0;rw[d],by show a.width=4;rw[d],by show a.addr=_;rw[d],L⟩
  have G:=yv s a;by_cases C:ka s a
  ·have v:eP s a A c=eD (bu s a) 0 j {mh (s.sp 0).hs j with A:=A,c:=c,bs:=gu (dF (mh (s.sp 0).hs j)) ((rs.getD h aR).base+k-(mh (s.sp 0).hs j).base).toNat D 4}:=by
    rw[eP,if_pos C,M,DC g,d];rfl
   have E:(fy s a A c tA tc).sps=(eD s 0 j {mh (s.sp 0).hs j with A:=A,c:=c,bs:=gu (dF (mh (s.sp 0).hs j)) ((rs.getD h aR).base+k-(mh (s.sp 0).hs j).base).toNat D 4}).sps/\(fy s a A c tA tc).total=s.total:=by
    refine⟨?_,?_⟩
    ·show(eP s a A c).sps=_;rw[v];unfold eD BS.sp;simp only[];rw[G.1]
    ·show(eP s a A c).total=_;rw[v];exact G.2
   refine⟨_,i.put u f O D z E.2 λx t=>?_,im.wr4 u k D,(DI s a A c tA tc).1,N⟩;rw[zE E.1];exact Lp i.ok (u:=0) T V (C:=(rs.getD h aR).base+k) (M:=D) (n:=4) zo zo zo A c
  ·have E:(fy s a A c tA tc).sps=s.sps/\(fy s a A c tA tc).total=s.total:=by
    have:eP s a A c=bu s a:=by rw[eP,if_neg C]
    exact⟨by show(eP s a A c).sps=_;rw[this];exact G.1,by show(eP s a A c).total=_;rw[this];exact G.2⟩
   exact⟨rs,⟨z,i.n,by rw[E.2];exact i.tot,λx t=>by rw[zE E.1];exact i.mem x t,i.al,i.dj⟩,im.refl _,(DI s a A c tA tc).1,N⟩
end Go.Pw
namespace Go.Pw
open Go.Sv Go.Rails Go.Dg
structure tX where
 t:pR
 pc:Nat
 es:List au
structure vD (rk:Nat->Nat) (s:tX) (z:gi):Prop where
 n:s.es.length<=64
 st:z.st.length=s.es.length
 par: ∀i,i<s.es.length-> -1<=(s.es.getD i aM.d).par/\(s.es.getD i aM.d).par<i
 sv: ∀i,i<s.es.length->0<=z.st.getD i (aD .i64).d/\z.st.getD i (aD .i64).d<=4
 ra:eY rk z.rs
 ln: ∀i,i<s.es.length-> ∀k,k<4->((s.es.getD i aM.d).rl k).ys.length<=1000
theorem vD.set {rk:Nat->Nat} {s:tX} {z:gi} (h:vD rk s z) {x:Nat} {v:Int} (a:0<=v/\v<=4) {rs:St} (b:eY rk rs) (k:Int):vD rk s ⟨z.st.set x v,rs,k⟩:=
 ⟨h.n,qI.trans h.st,h.par,OG h.sv a h.st,b,h.ln⟩
theorem eY.acR {rk:Nat->Nat} {st:St} (h:eY rk st) (x now:Int):eY rk (gS 8 st x now).st/\(gS 8 st x now).ops.length<=8:=by
 by_cases e:st.ok x now
 ·rw[HU e];obtain⟨a,_,b,c,d⟩:=BP 8 (st.tick now) x.toNat now [];exact⟨h.w a b c,by simpa using d⟩
 ·rw[HW e];exact⟨h,qT _⟩
theorem eY.reR {rk:Nat->Nat} {st:St} (h:eY rk st) (x now:Int):eY rk (eM 8 st x now).st/\(eM 8 st x now).ops.length<=8:=by
 by_cases e:st.ok x now
 ·by_cases a:bi st x (st.c x.toNat) st.rails.length=0
  ·rw[HY e a];exact⟨h,qT _⟩
  ·rw[HX e a];obtain⟨b,_,d,f,g⟩:=HC 8 (st.tick now) x.toNat now [];exact⟨h.w b d f,by simpa using g⟩
 ·unfold eM;rw[if_neg e];exact⟨h,qT _⟩
def En (s:tX) (z:gi):List aB:=[aU s.t.b (.cells #[.slice s.t.A s.es.length s.t.c,.pointer (some ⟨s.t.rb,0,none⟩),.slice s.t.sA s.es.length s.t.sc,.int .u64 z.k] 327 (0,0)),OS 3 (aD .i64) s.t.sA s.t.sc z.st,aP (aa 396 s.t.rb s.t.ra z.rs),OS 60 aM s.t.A s.pc s.es,aF cm s.es]
def ca (rk:Nat->Nat) (s:tX):aB:=Ob (vD rk s) (En s)
section
variable {I0:aV} {w0 w:World} {rk:Nat->Nat} {s:tX}
theorem lz (z:gi) (a:vD rk s z) (h:Hp I0 w0 (En s z) w):Hp I0 w0 [ca rk s] w:=Hp.ob1 z a h
end
structure tY where
 m:nX
 ic:Nat
 il:List cu
structure vE where
 on:List Bool
 us:List Int
 si:List Int
 k:Int
structure ph (s:tY):Prop where
 n:s.il.length<=64
 ll:s.m.lk.length<=1024
 lk: ∀k,k<s.m.lk.length->cX s.il.length (s.m.lk.getD k aC.d)
 ck:aQ s.il.length s.m.lk=0
 od: ∀j,j<(bQ s.il.length s.m.lk).length->0<=(bQ s.il.length s.m.lk).getD j (aD .i64).d/\(bQ s.il.length s.m.lk).getD j (aD .i64).d<s.il.length
structure ng (s:tY) (z:vE):Prop where
 on:z.on.length=s.il.length
 us:z.us.length=s.il.length
 si:z.si.length=s.il.length
def iK (s:tY) (z:vE):List aB:=[aU s.m.b (.cells #[.slice s.m.A s.il.length s.m.c,.slice s.m.lA s.m.lk.length s.m.lc,.slice s.m.oA s.il.length s.m.oc,.slice s.m.uA s.il.length s.m.uc,.slice s.m.sA s.il.length s.m.sc,.int .u64 z.k] 329 (0,0)),OS 4 ad s.m.oA s.m.oc z.on,OS 3 (aD .i64) s.m.uA s.m.uc z.us,OS 43 (aD .u64) s.m.sA s.m.sc z.si,OS 219 aC s.m.lA s.m.lc s.m.lk,OS 62 ar s.m.A s.ic s.il]
def dM (s:tY):aB:=Ob (ng s) (iK s)
section
variable {I0:aV} {w0 w:World} {s:tY}
theorem pj (z:vE) (a:ng s z) (h:Hp I0 w0 (iK s z) w):Hp I0 w0 [dM s] w:=Hp.ob1 z a h
end
structure AL where
 z:vE
 A:Option Addr
 c:Nat
 l:List iJ
def dq (c K:Nat):aB:=Ob (λr:Ios.RB=>r.ok/\r.fl.length<=K) (Ios.bJ c)
def fo (r:RI):aB:=Ob (λz:Drv.IS×Bs=>z.1.wt=false) (λz=>[rI r.q r.d z.1 z.2])
def RP.tS (p:RP):tX:=⟨p.t,p.pc,p.pw⟩
def RP.mS (p:RP):tY:=⟨p.m,p.ic,p.il⟩
def AM (o b:Int) (e:Ios.iW):Prop:=e.own=o/\e.a.space=0/\e.a.width=4/\b<=e.a.addr/\e.a.addr<b+256
def ja (s0:Ios.BS) (rs0:List RD) (o b:Int) (s:Ios.BS):Prop:= ∃rs,BM s rs/\im rs rs0/\ ∀e∈s.tr,e∈s0.tr\/AM o b e
section
variable {s0 s s2:Ios.BS} {rs0 rs:List RD} {o b:Int}
theorem ja.refl (h:BM s rs):ja s rs o b s:=⟨rs,h,im.refl _,λe a=> .inl a⟩
theorem ja.same (h:ja s0 rs0 o b s) (g:cV s s2):ja s0 rs0 o b s2:=by
 obtain⟨rs,a,c,d⟩:=h;exact⟨rs,g.bm rs a,c,λe f=>d e (by rw[<-g.tr];exact f)⟩
theorem ja.ok (h:ja s0 rs0 o b s):s.ok:=by
 obtain⟨rs,a,_⟩:=h;exact a.ok
theorem ja.acc (v:ja s0 rs0 o b s) (l:h<rs0.length) (c:(rs0.getD h aR).on=true) (m:(rs0.getD h aR).own=o) (d:(rs0.getD h aR).base=b) {q:Drv.Ro} (f:xX q) {w:Bool} {v2 n:Int} (p:Ios.kg s ⟨0,b+q.reg,4,w,D⟩ v2 n s2):ja s0 rs0 o b s2:=by
 obtain⟨rs,r,g,t⟩:=v;have j:=f.r0;have u:=f.r4;have x:=f.rm;have a:=g.2 h;obtain⟨rs2,y,z,_,A⟩:=r.accG (h:=h) (k:=q.reg.toNat) (w:=w) (D:=D) (by rw[g.1];exact l) (by rw[a.1];exact c) zo zo (by rw[a.2.1,d,Int.toNat_of_nonneg j]) p;refine⟨rs2,y,z.trans g,λe B=>(A e B).elim (λv=>t e v) λv=> .inr ⟨?_,v.2.1,v.2.2.1,?_,?_⟩⟩
 ·rw[v.1,a.2.2];exact m
 ·rw[v.2.2.2.1,a.2.1,d];omega
 ·rw[v.2.2.2.1,a.2.1,d];omega
end
structure nh (ts:List Drv.Tr) (f k:Nat) (a:Drv.IS×List Drv.Ro×Bool):Prop where
 act:ly ts k a
 kle:k<=ts.length
 flt:ts.length<k+f
theorem nh.start {ts:List Drv.Tr} {s:Drv.IS} {ev:Bs} (a:nc ts) (hs:s.wt=false):nh ts (ts.length+1) 0 (Drv.ao ts s ev).1:=by
 have e:Drv.ao ts s ev=(Drv.cM ts s ev 0,0):=by unfold Drv.ao;rw[if_neg (by rw[hs];decide)]
 rw[e];exact⟨OA a hs,qT _,zo⟩
theorem nh.step {ts:List Drv.Tr} {k:Nat} {a:Drv.IS×List Drv.Ro×Bool} (f:nh ts h k a) (c:nc ts) (b:a.2.2=true) (v:Int):nh ts (h-1) (a.1.cd+1) (Drv.ak ts a.1 v).1/\(Drv.ak ts a.1 v).2=0/\h-1<h:=by
 have d:=f.act.on b;have e:=f.flt;have g:=f.kle;exact⟨⟨(OB c f.act b _).1,zo,zo⟩,(OB c f.act b _).2,zo⟩
theorem nh.reg {ts:List Drv.Tr} {f k:Nat} {a:Drv.IS×List Drv.Ro×Bool} (h:nh ts f k a): ∀o∈a.2.1,xX o:=λo b=>⟨(h.act.reg o b).1,(h.act.reg o b).2.1,(h.act.reg o b).2.2.1,(h.act.reg o b).2.2.2⟩
structure PvG where
 f:Nat
 k:Nat
 a:Drv.IS×List Drv.Ro×Bool
 s:Ios.BS
 A:Option Addr
 c:Nat
end Go.Pw
namespace Go.Ios
section
variable {r r2:RB}
theorem OH {l:List Int} (o:Nat) (v:Int) (n:Nat) (h: ∀k,0<=cf l k/\cf l k<=255): ∀j k,0<=cf (oL l o v n j) k/\cf (oL l o v n j) k<=255
 |0,k=>h k
 |j+1,k=>by
  rw[oL];generalize b:oL l o v n j=l2;have a:=OH o v n h j k;rw[b] at a;unfold cf at a ⊢;rw[List.getD_eq_getElem?_getD,List.getElem?_set] at *;split
  ·split
   ·exact Ki _ _
   ·simp
  ·exact a
theorem BX (i:Nat) (b:0<=D/\D<=255) (h: ∀k,0<=cf H k/\cf H k<=255) (k:Nat):0<=cf (H.set i D) k/\cf (H.set i D) k<=255:=by
 have a:=h k;unfold cf at a ⊢;rw[List.getD_eq_getElem?_getD,List.getElem?_set] at *;split
 ·split
  ·exact b
  ·simp
 ·exact a
def Kp (r r2:RB):Prop:=r2.ok/\r2.fl.length<=r.fl.length
theorem OI (d:r.ok) {a:cD} {e:Int} (h:nL r a D e r2):Kp r r2:=by
 cases h with
 |bad _=>exact⟨d,qU _⟩
 |full _ _=>exact⟨d,qU _⟩
 |done q x n fl A c t u b=>
  obtain⟨o,w,z,B⟩:=b.tr;have fin:q.ok->q.fl.length<=r.fl.length->Kp r (wW q ⟨{a with val:=x},eR r.ms a.space a.addr,n,fl⟩ A c):=λf p=>
   ⟨⟨f.en,f.each,f.max,f.fl,f.fr,by show(q.tr++[_]).length<=65536;rw[o];simp;omega⟩,p⟩
  cases g:n with
  |false=>
   rw[g] at b fin;obtain⟨rfl,_⟩:=b.dead rfl;exact fin d (qU _)
  |true=>
   rw[g] at b fin;cases i:fl with
   |true=>
    rw[i] at b fin;obtain⟨⟨j,l,s,_,rfl⟩,_⟩:=b.fail rfl rfl;exact fin (XX d l s.1) (by show(r.fl.set j _).length<=_;rw[qI];exact qU _)
   |false=>
    rw[i] at b fin;obtain⟨_,j,_,l,m⟩:=b.good rfl rfl;by_cases k:a.wr=true
    ·rw[if_pos k] at m;obtain⟨_,rfl⟩:=m;exact fin (Lv d l (DM ..) (OH _ _ _ (d.each j l).y _)) (qU _)
    ·rw[if_neg k] at m;obtain⟨_,rfl⟩:=m;exact fin d (qU _)
theorem OJ (a:r.ok) {x v:Int} {b:Bool} (d:0<=v/\v<=255) (h:zG r D x v b r2):Kp r r2:=by
 cases h with
 |no _=>exact⟨a,qU _⟩
 |yes i _ c=>exact⟨Lv a c qI (BX _ d (a.each i c).y),qU _⟩
theorem OL (a:r.ok) {p q e:Int} (h:yz r D p q e r2):Kp r r2:=by
 cases h with
 |no _=>exact⟨a,qU _⟩
 |yes j A c b _=>exact⟨XU a b A c,qU _⟩
theorem OO (a:r.ok) {p q c e:Int} (j:aY p) (l:r.fl.length<1000) (h:wg r D p q c e r2):r2.ok/\r2.fl.length<=r.fl.length+1:=by
 cases h with
 |bad _=>exact⟨a,zo⟩
 |full _ _=>exact⟨a,zo⟩
 |done A d g _=>
  refine⟨⟨a.en,a.each,a.max,by show(r.fl++[_]).length<=1000;simp;omega,λi k=>?_,a.tr⟩,by show(r.fl++[_]).length<=_;simp⟩;have b:i<(r.fl++[(⟨D,p,q,c⟩:dm)]).length:=k;show aY ((r.fl++[_]).getD i aL.d).base/\_;by_cases e:i<r.fl.length
  ·have f:(r.fl++[(⟨D,p,q,c⟩:dm)]).getD i aL.d=r.fl.getD i aL.d:=by simp[List.getD,qP e]
   show aY ((r.fl++[(⟨D,p,q,c⟩:dm)]).getD i aL.d).base/\bC ((r.fl++[(⟨D,p,q,c⟩:dm)]).getD i aL.d).base ((r.fl++[(⟨D,p,q,c⟩:dm)]).getD i aL.d).len/\0<=((r.fl++[(⟨D,p,q,c⟩:dm)]).getD i aL.d).cnt/\((r.fl++[(⟨D,p,q,c⟩:dm)]).getD i aL.d).cnt<=64;rw[f];exact a.fr i e
  ·have f:(r.fl++[(⟨D,p,q,c⟩:dm)]).getD i aL.d=⟨D,p,q,c⟩:=by
    obtain rfl:i=r.fl.length:=by simp at b;omega
    simp[List.getD]
   show aY ((r.fl++[(⟨D,p,q,c⟩:dm)]).getD i aL.d).base/\bC ((r.fl++[(⟨D,p,q,c⟩:dm)]).getD i aL.d).base ((r.fl++[(⟨D,p,q,c⟩:dm)]).getD i aL.d).len/\0<=((r.fl++[(⟨D,p,q,c⟩:dm)]).getD i aL.d).cnt/\((r.fl++[(⟨D,p,q,c⟩:dm)]).getD i aL.d).cnt<=64;rw[f];unfold oQ at g;exact⟨j,g.2.1,by show 0<=c;omega,by show c<=64;omega⟩
end
end Go.Ios
namespace Go.Pw
open Go.Sv Go.Rails Go.Dg
section
variable {I0:aV} {w0 w:World} {X:List aB} {rs:List RI} {d:Nat}
theorem OP (a:d<rs.length) (h:Hp I0 w0 (X++[aF fo rs]) w):Hp I0 w0 (fo (rs.getD d cN.d)::(X++[aF fo (rs.eraseIdx d)])) w:=by
 have b:Hp I0 w0 (aF fo rs::X) w:=h.perm (qi _ _);exact b.focus (k:=0) (m:=d) cN.d z6 a
theorem OQ (a:d<rs.length) {s:Drv.IS} {ev:Bs} (c:s.wt=false) (h:Hp I0 w0 (X++[aF fo (rs.eraseIdx d),rI (rs.getD d cN.d).q (rs.getD d cN.d).d s ev]) w):Hp I0 w0 (X++[aF fo rs]) w:=by
 have f:Hp I0 w0 ((X++[aF fo (rs.eraseIdx d)])++[rI (rs.getD d cN.d).q (rs.getD d cN.d).d s ev]) w:=by rw[qL];exact h
 have g:Hp I0 w0 ((X++[aF fo (rs.eraseIdx d)])++[fo (rs.getD d cN.d)]) w:=Hp.obE (φ:=λz:Drv.IS×Bs=>z.1.wt=false) (F:=λz=>[rI (rs.getD d cN.d).q (rs.getD d cN.d).d z.1 z.2]) (s,ev) c f;have i:Hp I0 w0 (fo (rs.getD d cN.d)::(X++[aF fo (rs.eraseIdx d)])) w:=g.perm (qi _ _);have b:=Hp.unfocus (L:=fo (rs.getD d cN.d)::X) (k:=0) (hs:=rs) (m:=d) (h':=rs.getD d cN.d) (F:=fo) i z6 a;have e:rs.set d (rs.getD d cN.d)=rs:=by
  have:rs.getD d cN.d=rs[d]:=by simp[List.getD,a]
  rw[this];exact List.set_getElem_self a
 rw[e] at b;exact b.perm (qi _ _).symm
end
structure gj (p:RP) (ds:List bR):Prop where
 pn:p.n=ds.length
 le:ds.length<=16
 pb:p.bs.length=ds.length
 pd:p.ds.length=ds.length
 il:p.il.length=ds.length
 lk:ph p.mS
def lJ (l:List Int):Array Value:=(l.map (Value.int .u8 ·)).toArray
def ni (n:Nat) (l:List Int):Prop:=l.length=n/\ ∀i,0<=l.getD i 0/\l.getD i 0<=255
theorem kWW (n:Nat):(List.replicate n (Value.int .u8 0)).toArray=lJ (List.replicate n 0):=by unfold lJ;rw[List.map_replicate]
theorem ni.zero (n:Nat):ni n (List.replicate n 0):=⟨qH,λi=>by simp only[List.getD,List.getElem?_replicate];split<;>simp⟩
section
variable {n o:Nat} {x:Int} {l:List Int}
theorem ni.set (h:ni n l) (a:0<=x/\x<=255):ni n (l.set o x):=by
 refine⟨qI.trans h.1,λi=>?_⟩;have:=h.2 i;rw[List.getD_eq_getElem?_getD,List.getElem?_set] at *;split
 ·split
  ·exact a
  ·simp
 ·exact this
theorem kXg (h:ni n l) (a:o<n):(lJ l).toList[o]?=some (Value.int .u8 (l.getD o 0)):=by
 have b:=h.1;unfold lJ;simp[List.getElem?_map,List.getD,show o<l.length by omega]
theorem kXh (h:ni n l) (a:o<n):((lJ l).toList.take o++[Value.int .u8 x]++(lJ l).toList.drop (o+[Value.int .u8 x].length)).toArray=lJ (l.set o x):=by
 have b:=h.1;unfold lJ;rw[List.map_set,List.set_eq_take_append_cons_drop,if_pos (by simp;omega)];simp
theorem kWX (h:ni n l) (a:o<n):o+[Value.int .u8 x].length<=(lJ l).size:=by
 have b:=h.1;unfold lJ;simp;omega
end
theorem kYm {r:Ios.RB} (a:r.ok) (z x:Int):0<=Ios.se r.ms z x/\Ios.se r.ms z x<=255:=by
 unfold Ios.se;split
 ·by_cases h:(Ios.fR r.ms z x).toNat<r.ms.length
  ·exact(a.each _ h).y _
  ·have e:r.ms.getD (Ios.fR r.ms z x).toNat Ios.aW.d=Ios.aW.d:=by simp[List.getD,show r.ms.length<=(Ios.fR r.ms z x).toNat by omega]
   show 0<=(r.ms.getD (Ios.fR r.ms z x).toNat Ios.aW.d).bs.getD _ 0/\(r.ms.getD (Ios.fR r.ms z x).toNat Ios.aW.d).bs.getD _ 0<=255;rw[e];simp[Ios.aW]
 ·decide
def cK.wU (m:cK) (x:Int):cK:=⟨m.sup,m.con,m.dly,m.act,x,m.sin⟩
def cK.wN (m:cK) (x:Int):cK:=⟨m.sup,m.con,m.dly,m.act,m.use,x⟩
def fe (u:UN):aB:=Ob (λs:Drv.IS=>s.wt=false) (λs=>[iB u s])
section
variable {I0:aV} {w0 w:World} {X:List aB} {us:List UN} {d:Nat}
theorem OT (a:d<us.length) (h:Hp I0 w0 (X++[aF fe us]) w):Hp I0 w0 (fe (us.getD d aI.d)::(X++[aF fe (us.eraseIdx d)])) w:=by
 have b:Hp I0 w0 (aF fe us::X) w:=h.perm (qi _ _);exact b.focus (k:=0) (m:=d) aI.d z6 a
theorem OU (a:d<us.length) {s:Drv.IS} (c:s.wt=false) (h:Hp I0 w0 (X++[aF fe (us.eraseIdx d),iB (us.getD d aI.d) s]) w):Hp I0 w0 (X++[aF fe us]) w:=by
 have f:Hp I0 w0 ((X++[aF fe (us.eraseIdx d)])++[iB (us.getD d aI.d) s]) w:=by rw[qL];exact h
 have g:Hp I0 w0 ((X++[aF fe (us.eraseIdx d)])++[fe (us.getD d aI.d)]) w:=Hp.obE (φ:=λs:Drv.IS=>s.wt=false) (F:=λs=>[iB (us.getD d aI.d) s]) s c f;have i:Hp I0 w0 (fe (us.getD d aI.d)::(X++[aF fe (us.eraseIdx d)])) w:=g.perm (qi _ _);have b:=Hp.unfocus (L:=fe (us.getD d aI.d)::X) (k:=0) (hs:=us) (m:=d) (h':=us.getD d aI.d) (F:=fe) i z6 a;have e:us.set d (us.getD d aI.d)=us:=by
  have:us.getD d aI.d=us[d]:=by simp[List.getD,a]
  rw[this];exact List.set_getElem_self a
 rw[e] at b;exact b.perm (qi _ _).symm
end
def mD (us:List UN) (rs:List RD):Prop:=rs.length=us.length/\ ∀i,i<us.length->(rs.getD i aR).on=true/\(rs.getD i aR).own=(us.getD i aI.d).own/\(rs.getD i aR).base=(us.getD i aI.d).base
def Eo (us:List UN) (rs:List RD) (x:Int) (us2:List UN) (s s2:Ios.BS):Prop:=
 (us2=us\/ ∃d:Nat,x=d/\d<us.length/\us2=us.set d {us.getD d aI.d with stp:=true})/\((0<=x/\x<us.length)->us2=us.set x.toNat {us.getD x.toNat aI.d with stp:=true})/\
 (cV s s2\/ ∃d:Nat,d<us.length/\(us.getD d aI.d).stp=false/\ja s rs (us.getD d aI.d).own (us.getD d aI.d).base s2)
section
variable {s s2:Ios.BS} {rs:List RD}
theorem BM.keep (h:BM s rs) (a:s2.ok) (b:s2.sps=s.sps) (c:s2.total=s.total):BM s2 rs:=
 ⟨a,h.n,by rw[c];exact h.tot,λx t=>by rw[Ios.zE b];exact h.mem x t,h.al,h.dj⟩
theorem BM.plan (h:BM s rs) {q c e:Int} (b:Ios.aY D) (f:Ios.we s 0 D q c e s2):BM s2 rs/\s2.tr=s.tr:=by
 cases f with
 |bad _=>exact⟨h,rfl⟩
 |full _ _=>exact⟨h,rfl⟩
 |done A d a g=>
  unfold Ios.oQ at a;have i:=h.ok.fl;exact⟨h.keep (h.ok.flt b a.2.1 (by show 1<=c;omega) (by show c<=64;omega) zo A d) z6 rfl,rfl⟩
theorem BM.pk (h:BM s rs) {v:Int} (l:0<=v/\v<=255) {b:Bool} (f:Ios.rH s 0 D v b s2):(∃rs2,BM s2 rs2/\im rs2 rs)/\s2.tr=s.tr:=by
 have n:=f;cases f with
 |no _=>exact⟨⟨rs,h,im.refl _⟩,rfl⟩
 |yes m j A c r t o u w=>
  obtain rfl:m=0:=zo
  obtain⟨i,g,⟨d,y,z⟩,_⟩:=(h.mem _ _).1 (Ios.Li (D:=s) (u:=0) (P:=j) (C:=D) zd o);have p:D=(rs.getD i aR).base+((D-(rs.getD i aR).base).toNat:Nat):=zo
  have q:=(h.poke g d (k:=(D-(rs.getD i aR).base).toNat) zo l (by rw[<-p];exact n)).2;refine⟨⟨_,q,qI,λa=>?_⟩,rfl⟩;by_cases e:i=a
  ·subst e;rw[dN _ _ _ _ g];exact⟨rfl,rfl,rfl⟩
  ·rw[db _ _ _ e];exact⟨rfl,rfl,rfl⟩
theorem BM.val (h:BM s rs) {i k:Nat} (b:i<rs.length) (a:(rs.getD i aR).on=true) (c:k<256):0<=(rs.getD i aR).val k/\(rs.getD i aR).val k<=255:=by
 rw[<-(h.see b a c).2.1];unfold Ios.kc;split
 ·rename_i j f;by_cases d:j<(s.sp 0).hs.length
  ·exact((h.ok.sp 0 zd).each j d).y _
  ·have e:(s.sp 0).hs.getD j Ios.iX=Ios.iX:=by rw[List.getD_eq_getElem?_getD,List.getElem?_eq_none zo];rfl
   show 0<=((s.sp 0).hs.getD j Ios.iX).bs.getD _ 0/\((s.sp 0).hs.getD j Ios.iX).bs.getD _ 0<=255;rw[e];simp[Ios.iX]
 ·decide
end
structure tZ where
 us:List UN
 z:gi
 ms:List cK
 k:Int
 s:Ios.BS
 A:Option Addr
 c:Nat
 l:List Bs
def AN (p:CP) (x:tZ):List aB:=[cG p,OS 134 aI p.uA p.uc x.us,aP (tL (p.t.gz x.z)),aP (Ios.aH p.bb x.s),aU p.m.b (.cells #[.slice p.m.A p.m.ms.length p.m.c,.slice p.m.oA p.m.od.length p.m.oc,.int .u64 x.k] 228 (0,0)),OS 225 aO p.m.A p.m.c x.ms,aF ba p.m.ms,OS 3 (aD .i64) p.m.oA p.m.oc p.m.od,OS 9 aN x.A x.c x.l,aF fe p.us]
structure kD (p:CP) (d:Nat):Prop where
 fw:p.us.length<=16
 tn:p.t.es.length=p.us.length
 mw:jZ p.m p.us.length
 hd:d<p.us.length
 ow: ∀i,i<p.us.length->0<=(p.us.getD i aI.d).own/\(p.us.getD i aI.d).own<256
 od: ∀i,i<p.us.length->i≠d->(p.us.getD i aI.d).own≠(p.us.getD d aI.d).own
structure eg (p:CP) (rk:Nat->Nat) (d q:Nat) (sb:Bool) (T:Ios.iW->Prop) (x:tZ):Prop where
 ul:x.us.length=p.us.length
 tt:gh rk (p.t.gz x.z)
 sm:bU x.ms p.m.ms
 qq:(x.us.getD d aI.d).qA=x.A/\(x.us.getD d aI.d).qc=x.c/\(x.us.getD d aI.d).qs=x.l
 ql:x.l.length=q
 u: ∀i,i<p.us.length->(x.us.getD i aI.d).own=(p.us.getD i aI.d).own/\(x.us.getD i aI.d).q=(p.us.getD i aI.d).q/\(i≠d->(x.us.getD i aI.d).qs=[])
 sd:(x.us.getD d aI.d).stp=sb
 bm: ∃rs,BM x.s rs/\mD x.us rs
 tr: ∀e∈x.s.tr,T e
def eL (p:CP) (rk:Nat->Nat) (d q:Nat) (sb:Bool) (T:Ios.iW->Prop):aB:=Ob (eg p rk d q sb T) (AN p)
def me (a b:List UN):Prop:=b.length=a.length/\ ∀i,(b.getD i aI.d).own=(a.getD i aI.d).own/\(b.getD i aI.d).q=(a.getD i aI.d).q/\(b.getD i aI.d).base=(a.getD i aI.d).base/\(b.getD i aI.d).qA=(a.getD i aI.d).qA/\(b.getD i aI.d).qc=(a.getD i aI.d).qc/\(b.getD i aI.d).qs=(a.getD i aI.d).qs
section
variable {us us2:List UN} {rs rs2:List RD} {d:Nat} {x:UN}
theorem me.refl:me us us:=⟨rfl,λ_=>⟨rfl,rfl,rfl,rfl,rfl,rfl⟩⟩
theorem me.set (h:x.own=(us.getD d aI.d).own/\x.q=(us.getD d aI.d).q/\x.base=(us.getD d aI.d).base/\x.qA=(us.getD d aI.d).qA/\x.qc=(us.getD d aI.d).qc/\x.qs=(us.getD d aI.d).qs):me us (us.set d x):=by
 refine⟨qI,λi=>?_⟩;by_cases e:d=i
 ·subst e;by_cases a:d<us.length
  ·rw[dN _ _ _ _ a];exact h
  ·rw[List.set_eq_of_length_le zo];exact⟨rfl,rfl,rfl,rfl,rfl,rfl⟩
 ·rw[db _ _ _ e];exact⟨rfl,rfl,rfl,rfl,rfl,rfl⟩
theorem mD.usr (h:mD us rs) (g:me us us2):mD us2 rs:=⟨h.1.trans g.1.symm,λi c=>by
 have a:=h.2 i (by rw[<-g.1];exact c);have b:=g.2 i;exact⟨a.1,by rw[b.1];exact a.2.1,by rw[b.2.2.1];exact a.2.2⟩⟩
theorem mD.sm (h:mD us rs) (g:im rs2 rs):mD us rs2:=⟨g.1.trans h.1,λi c=>by
 have a:=h.2 i c;have b:=g.2 i;exact⟨by rw[b.1];exact a.1,by rw[b.2.2];exact a.2.1,by rw[b.2.1];exact a.2.2⟩⟩
end
section
variable {p:CP} {rk:Nat->Nat} {d q:Nat} {sb:Bool} {T:Ios.iW->Prop} {x:tZ}
theorem eg.keep (h:eg p rk d q sb T x) {z:gi} {ms:List cK} {k:Int} {s:Ios.BS} (a:gh rk (p.t.gz z)) (b:bU ms p.m.ms) (hs:cV x.s s):eg p rk d q sb T {x with z:=z,ms:=ms,k:=k,s:=s}:=by
 obtain⟨rs,c,f⟩:=h.bm;exact⟨h.ul,a,b,h.qq,h.ql,h.u,h.sd,⟨rs,hs.bm rs c,f⟩,by show ∀e∈s.tr,T e;rw[hs.tr];exact h.tr⟩
theorem eg.un (h:eg p rk d q sb T x) {us2:List UN} {b:Bool} {s:Ios.BS} (g:me x.us us2) (hs:(us2.getD d aI.d).stp=b) (f: ∃rs,BM s rs/\mD us2 rs) (j: ∀e∈s.tr,T e):eg p rk d q b T {x with us:=us2,s:=s}:=
 ⟨g.1.trans h.ul,h.tt,h.sm,by have a:=g.2 d;exact⟨a.2.2.2.1.trans h.qq.1,a.2.2.2.2.1.trans h.qq.2.1,a.2.2.2.2.2.trans h.qq.2.2⟩,h.ql,λi k=>by
  have a:=g.2 i;have c:=h.u i k;exact⟨a.1.trans c.1,a.2.1.trans c.2.1,λe=>a.2.2.2.2.2.trans (c.2.2 e)⟩,hs,f,j⟩
theorem eg.wake (h:eg p rk d q sb T x) {us2:List UN} {o:Bool} (g:us2=x.us\/ ∃i:Nat,us2=x.us.set i {x.us.getD i aI.d with wk:=o}):eg p rk d q sb T {x with us:=us2}:=by
 have a:me x.us us2:=by
  rcases g with rfl|⟨i,rfl⟩
  ·exact me.refl
  ·exact me.set ⟨rfl,rfl,rfl,rfl,rfl,rfl⟩
 have b:(us2.getD d aI.d).stp=sb:=by
  rcases g with rfl|⟨i,rfl⟩
  ·exact h.sd
  ·by_cases e:i=d
   ·subst e;by_cases c:i<x.us.length
    ·rw[dN _ _ _ _ c];exact h.sd
    ·rw[List.set_eq_of_length_le zo];exact h.sd
   ·rw[db _ _ _ e];exact h.sd
 obtain⟨rs,f,j⟩:=h.bm;exact h.un a b ⟨rs,f,j.usr a⟩ h.tr
theorem eg.stop (h:eg p rk d q sb T x) {rs:List RD} (m:BM x.s rs) (j:mD x.us rs) {us2:List UN} {k:Ios.BS} (g:Eo x.us rs D us2 x.s k) {a:Bool} (hs:(us2.getD d aI.d).stp=a)
 (hT: ∀i,i<p.us.length->(x.us.getD i aI.d).stp=false-> ∀e,AM (p.us.getD i aI.d).own (x.us.getD i aI.d).base e->T e):eg p rk d q a T {x with us:=us2,s:=k}:=by
 have c:me x.us us2:=by
  rcases g.1 with rfl|⟨i,_,_,rfl⟩
  ·exact me.refl
  ·exact me.set ⟨rfl,rfl,rfl,rfl,rfl,rfl⟩
 rcases g.2.2 with l|⟨i,n,f,rs2,o,r,t⟩
 ·exact h.un c hs ⟨rs,l.bm rs m,j.usr c⟩ (by rw[l.tr];exact h.tr)
 ·have b:i<p.us.length:=by rw[<-h.ul];exact n
  exact h.un c hs ⟨rs2,o,(j.sm r).usr c⟩ λe v=>(t e v).elim (h.tr e) λw=>hT i b f e (by rw[<-(h.u i b).1];exact w)
theorem eg.bus (h:eg p rk d q sb T x) {a:Ios.BS} (hs: ∀rs,BM x.s rs-> ∃rs2,BM a rs2/\im rs2 rs) (b:a.tr=x.s.tr):eg p rk d q sb T {x with s:=a}:=by
 obtain⟨rs,c,f⟩:=h.bm;obtain⟨rs2,g,i⟩:=hs rs c;exact⟨h.ul,h.tt,h.sm,h.qq,h.ql,h.u,h.sd,⟨rs2,g,f.sm i⟩,by show ∀e∈a.tr,T e;rw[b];exact h.tr⟩
theorem eg.take (h:eg p rk d q sb T x) (b:Ios.iW->Prop):eg p rk d q sb b {x with s:={x.s with tA:=none,tc:=0,tr:=[]}}:=by
 obtain⟨rs,a,c⟩:=h.bm;exact⟨h.ul,h.tt,h.sm,h.qq,h.ql,h.u,h.sd,⟨rs,a.keep a.ok.noTr rfl rfl,c⟩,λe f=>by cases f⟩
theorem eg.req (c:eg p rk d q sb T x) (k:d<p.us.length) {ev:Bs}:eg p rk d (q+1) sb T {x with us:=x.us.set d {x.us.getD d aI.d with qA:=U,qc:=h,qs:=x.l++[ev]},A:=U,c:=h,l:=x.l++[ev]}:=by
 obtain⟨rs,m,j⟩:=c.bm;have a:d<x.us.length:=by rw[c.ul];exact k
 refine⟨qI.trans c.ul,c.tt,c.sm,by show((x.us.set d _).getD d aI.d).qA=U/\_;rw[dN _ _ _ _ a];exact⟨rfl,rfl,rfl⟩,by show(x.l++[ev]).length=q+1;rw[qD,c.ql];rfl,λi f=>?_,by show((x.us.set d _).getD d aI.d).stp=sb;rw[dN _ _ _ _ a];exact c.sd,⟨rs,m,j.1.trans qI.symm,λi f=>?_⟩,c.tr⟩
 ·have b:=c.u i f;show((x.us.set d _).getD i aI.d).own=_/\((x.us.set d _).getD i aI.d).q=_/\(i≠d->((x.us.set d _).getD i aI.d).qs=[])
  by_cases e:d=i
  ·subst e;rw[dN _ _ _ _ a];exact⟨b.1,b.2.1,λn=>absurd z6 n⟩
  ·rw[db _ _ _ e];exact b
 ·have g:i<x.us.length:=by rw[<-@qI _ x.us];exact f
  have b:=j.2 i g;show _/\_=((x.us.set d _).getD i aI.d).own/\_=((x.us.set d _).getD i aI.d).base;by_cases e:d=i
  ·subst e;rw[dN _ _ _ _ a];exact b
  ·rw[db _ _ _ e];exact b
theorem eg.okb (i:eg p rk d q sb T x) (e:h<p.us.length):okB (x.us.getD h aI.d).base:=by
 obtain⟨g,f,a⟩:=i.bm;have b:h<x.us.length:=by rw[i.ul];exact e
 have c:=a.2 h b;rw[<-c.2.2];exact f.al h (by rw[a.1];exact b) c.1
theorem eg.move (h:eg p rk d q sb T x) (n:d<p.us.length) {rs:List RD} (l:mD x.us rs) {to:Nat->Int} {g:Ios.BS} (o:BM g (lI rs to rs.length)) (r:g.tr=x.s.tr):eg p rk d q sb T {x with us:=fm x.us to x.us.length,s:=g}:=by
 have j: ∀i,i<x.us.length->(fm x.us to x.us.length).getD i aI.d={x.us.getD i aI.d with base:=to i}:=λi a=>by rw[vA a,if_pos a]
 have c:d<x.us.length:=by rw[h.ul];exact n
 refine⟨na.trans h.ul,h.tt,h.sm,by show((fm x.us to x.us.length).getD d aI.d).qA=_/\_;rw[j d c];exact h.qq,h.ql,λi a=>?_,by show((fm x.us to x.us.length).getD d aI.d).stp=_;rw[j d c];exact h.sd,⟨_,o,?_,λi a=>?_⟩,by show ∀e∈g.tr,T e;rw[r];exact h.tr⟩
 ·show((fm x.us to x.us.length).getD i aI.d).own=_/\((fm x.us to x.us.length).getD i aI.d).q=_/\(i≠d->((fm x.us to x.us.length).getD i aI.d).qs=[])
  rw[j i (by rw[h.ul];exact a)];exact h.u i a
 ·rw[pa];exact l.1.trans na.symm
 ·have b:i<x.us.length:=by rw[<-na (us:=x.us) (to:=to) (k:=x.us.length)];exact a
  have f:i<rs.length:=by rw[l.1];exact b
  have m:=l.2 i b;show _/\_=((fm x.us to x.us.length).getD i aI.d).own/\_=((fm x.us to x.us.length).getD i aI.d).base;rw[j i b,ux f];by_cases e:to i=(rs.getD i aR).base
  ·rw[if_pos e];exact⟨m.1,m.2.1,e.symm⟩
  ·rw[if_neg e,if_pos f];exact⟨rfl,m.2.1,rfl⟩
end
end Go.Pw
namespace Go.Pw
open Go.Sv Go.Ios Go.Drv
theorem kYn {d:Dv} (q:gZ d.ts) (r:aQ d=0) (s:du d):nc d.ts:=λi f=>by
 have h:=q i f;have t:=(jX _ _).1 (VD r f);have u:ee d.ts i∈d.ts:=by simp only[ee,List.getD,f,qJ,Option.getD_some];exact List.getElem_mem _
 have j:=s _ u;have l: ∀x:Int,fZ x->u64 x->0<=x/\x%4=0/\x<256:=λx a b=>by unfold fZ at a;unfold u64 at b;have:=qW (a:=x) (b:=4) b.1;omega
 have c:=l _ h.1 j.1.1;refine⟨⟨⟨c.1,c.2.1⟩,c.2.2⟩,t.2.2.2.2.1,λo m=>?_⟩;obtain⟨k,n,rfl⟩:=List.getElem_of_mem m;have v:=h.2 k n;have p:=j.2 _ m;have e:(ee d.ts i).ops.getD k ax.d=(ee d.ts i).ops[k]:=by rw[List.getD,qJ n];rfl
 have g:=l _ (e▸v) p.1;have w:=p.2;unfold u64 at w;exact⟨g.1,g.2.1,g.2.2,by unfold aY;omega⟩
end Go.Pw
namespace Go.Pw
open Go.Sv Go.Rails Go.Dg
theorem kKb {s:Ios.BS} {rs:List RD} {to:Nat->Int} (k:BM s (kA rs to h)) (a:h<rs.length) (b:(rs.getD h aR).on=true):bG (λm=>Ios.kc s 0 ((rs.getD h aR).base+(m:Int))) 256=bG (rs.getD h aR).val 256:=by
 unfold bG;refine List.map_congr_left λm c=>?_;have d:=Nx (to:=to) a;have:=(k.see (i:=h) (by grind [oX]) zg (List.mem_range.1 c)).2.1
 grind
end Go.Pw
namespace Go.Sv
theorem Fx.bunR {P:Program} {f:FuncId} {vs:List Value} {post:Value->List aB->Prop} (h:Fx P f vs J M Q post):Fx P f vs J M Q (λv L=> ∃ro,post v ro/\L=[aP ro]):=λI b a=>
 (h I b a).mono λe i ⟨v,c,d,g,j⟩=>⟨v,_,d,⟨c,g,rfl⟩,Hp.bun (R:=[]) zg⟩
end Go.Sv
namespace Go.Pw
open Go.Sv Go.Rails Go.Dg
section
variable {ps:Nat->Int×Int} {l:List Int} {n i:Nat}
end
section
variable {s:Ios.BS} {rs:List RD} {to:Nat->Int}
end
structure MvQ (p p2:CP) (to:Nat->Int):Prop where
 us:p2.us=fm p.us to p.us.length
 t:p2.t=p.t
 m:p2.m=p.m
 bb:p2.bb=p.bb
 b:p2.b=p.b
theorem OW (f:Nat->Int) (n:Nat):bG f n++[f n]=bG f (n+1):=by grind [bG,List.range_succ]
theorem kXi (h:D∈H): ∃j,j<H.length/\H.getD j (aD .i64).d=D:=by
 obtain⟨j,a,rfl⟩:=List.getElem_of_mem h;exact⟨j,a,by simp[List.getD,a]⟩
section
variable {p:CP} {ds:List bR} {rs:List ag} {bs:List Int} {bb:Nat} {arr:Int} {drs:List Go.Drv.DH}
theorem kVk (b:p.fresh ds rs bs bb) (q:ds.length<=6) (l:rs.length<=8) (m: ∀i,i<ds.length->eT (ds.getD i aG.d) i rs.length arr drs):AK p.t:=by
 have k: ∀i,i<p.t.es.length->lq (ds.getD i aG.d).pw (p.t.es.getD i aM.d) 4:=λi a=>by
  have:=b.tcp i a;rwa [nY ds (by rw[<-b.tn];exact a)] at this
 have e: ∀i,i<p.t.es.length->(p.t.es.getD i aM.d).r0.ys=(ds.getD i aG.d).pw.r0.ys:=λi a=>(k i a).ys 0 zd;have f:p.t.rs.rails=rs:=by rw[b.trs];rfl
 have c: ∀i,i<p.t.es.length->eT (ds.getD i aG.d) i rs.length arr drs:=λi a=>m i (by rw[<-b.tn];exact a);have g: ∀i,i<p.t.es.length-> ∀r∈(ds.getD i aG.d).pw.r0.ys,0<=r/\r<(rs.length:Int):=λi a r n=>by
  obtain⟨j,o,rfl⟩:=kXi n;exact((c i a).sm.rl 0 zd).2.1 j o
 have h: ∀i,i<p.t.es.length->dU (ds.getD i aG.d).pw.r0.ys:=λi a=>((c i a).sm.rl 0 zd).1;refine⟨by rw[b.tn];omega,by rw[b.tst,b.tn];simp,λi a=>?_,λi a=>?_,λi a=>?_,λi a=>?_,by rw[b.trs];exact⟨by simp[cy],by simp[cy]⟩⟩
 ·rw[(k i a).par];exact(c i a).sm.par
 ·rw[e i a];have:(ds.getD i aG.d).pw.r0.ys.length<=3:=((c i a).sm.rl 0 zd).2.2;omega
 ·rw[e i a,f];exact g i a
 ·rw[e i a];exact h i a
theorem kXj (e: ∀h,h<drs.length->Go.Drv.du (drs.getD h gl.d).d) {b:bR} (g:eT b h D arr drs) (f:dW b):nc (Go.Drv.eH b.drv).2.ts:=by
 have c: ∃d,Go.Drv.du d/\Go.Drv.eH b.drv=(0,jN (Go.Drv.cH d)):=by
  rw[g.drv];unfold gg;split
  ·exact⟨_,e h (by assumption),zy (e h (by assumption))⟩
  ·have a:Go.Drv.du ⟨[],[],[]⟩:=λt m=>(List.not_mem_nil m).elim;exact⟨_,a,zy a⟩
 obtain⟨d,a,j⟩:=c;have k:=ut f.2.2.1;refine kYn f.2.2.2 k ?_;rw[j];exact zx (Go.Drv.wE a)
theorem kVl (b:p.fresh ds rs bs bb) (j:ds.length<=6) (h: ∀i,i<ds.length->eT (ds.getD i aG.d) i rs.length arr drs): ∀i,i<p.t.es.length->0<=(p.t.es.getD i aM.d).par->eJ (aj (bq ds) (bq ds).length) i (p.t.es.getD i aM.d).par:=λi c f=>by
 have g:=b.tcp i c;have a:i<ds.length:=by rw[<-b.tn];exact c
 rw[nY ds a] at g;have e:(p.t.es.getD i aM.d).par=((bq ds).getD i ar.d).par:=by rw[g.par,pS ds a,(h i a).par]
 rw[e] at f ⊢;exact kYj (by simpa using a) f
end
structure LwF (p:CP) (ds:List bR) (bs:List Int) (d:Nat):Prop where
 n:p.us.length=ds.length
 few:p.us.length<=16
 tn:p.t.es.length=p.us.length
 tok:AK p.t
 clk:p.t.clk=0
 mg:Ec p.m p.us.length
 ow:(p.us.getD d aI.d).own=(jL ds bs d).2/\(p.us.getD d aI.d).base=(jL ds bs d).1
 o2:0<=(jL ds bs d).2/\(jL ds bs d).2<256
 ob:okB (jL ds bs d).1
 stp:(p.us.getD d aI.d).stp=false
 qs: ∀i,i<p.us.length->(p.us.getD i aI.d).qs=[]
 st:(p.us.getD d aI.d).st=⟨0,false,0⟩
 ud:(p.us.getD d aI.d).d.d=(Go.Drv.eH (ds.getD d aG.d).drv).2
 pr:(Go.Drv.eH (ds.getD d aG.d).drv).1=0
 dl:(ds.getD d aG.d).drv.length<=900000
 rg:nc (Go.Drv.eH (ds.getD d aG.d).drv).2.ts
 go:Tp (eJ (aj (bq ds) (bq ds).length)) p.t.es.length (AD p.m d)/\(d:Int)∈AD p.m d
 par: ∀i,i<p.t.es.length->0<=(p.t.es.getD i aM.d).par->eJ (aj (bq ds) (bq ds).length) i (p.t.es.getD i aM.d).par
theorem lw {p:CP} {ds:List bR} {rs:List ag} {drs:List Go.Drv.DH} (b:p.fresh ds rs H h) (s:ds.length<=6) (n:rs.length<=8) (f:dI ds rs H) (g:jQ (jL ds H) ds.length) (m: ∀i,i<ds.length->eT (ds.getD i aG.d) i rs.length D drs) (u: ∀i,i<drs.length->Go.Drv.du (drs.getD i gl.d).d) (o: ∃rk,nZ rk 0 (cy rs)) {d:Nat} (a:d<ds.length):LwF p ds H d/\ ∃rk,AE rk p.t.es (8* (0:Nat)) [] p.t.st p.t.rs:=by
 have c:(bq ds).length=ds.length:=qE _;have j:=f.lk;have k:=λi (q:i<p.us.length)=>b.us i (b.un▸q);have e:d<p.us.length:=by rw[b.un];exact a
 have r:=b.tn;have l:=kXV (d:=d) b.mg (by rw[c];exact j.1) (by rw[c];exact a);refine⟨⟨b.un,by have:=b.un;omega,by rw[r,b.un],kVk b s n m,b.tck,?_,⟨(k d e).1.1,(k d e).1.2.2⟩,⟨(g.2.1 d a).2.1,(g.2.1 d a).2.2⟩,(g.2.1 d a).1,(k d e).2.2.2.1,λi q=>(k i q).2.2.2.2.1,(k d e).2.2.1,(k d e).2.1,(f.un d a).2.2.1,?_,kXj u (m d a) (f.un d a),⟨?_,l.2.2.2⟩,kVl b s m⟩,?_⟩
 ·have v:=b.mg.mgO (by rw[c];exact j.1) (by rw[c];omega) (by rw[c];exact EK zo j.2);rw[c,<-b.un] at v;exact v
 ·rw[(m d a).drv];exact qk (Nb u d) zd
 ·rw[r,<-c];exact l.2.2.1
 ·obtain⟨rk,arr⟩:=o;refine⟨rk,?_⟩;rw[b.trs,b.tst,<-r];exact AE.zero arr
end Go.Pw
namespace Go.Sv
def Wk (A B:aB):Prop:= ∀w i,A.sat w i-> ∃j:aV,(∀x,j x->i x)/\B.sat w j
section
variable {A B:aB} {β:Type} {F G:β->aB} {I0:aV} {w0 w:World} {L:List aB}
theorem Wk.list: ∀ {l:List β},(∀a∈l,Wk (F a) (G a))-> ∀ {w:World} {i:aV},Sep (l.map F) i w-> ∃j:aV,(∀x,j x->i x)/\Sep (l.map G) j w
 |[],_,w,i,h=>⟨i,λ_ c=>c,h⟩
 |a::l,e,w,i,⟨p,q,n,o,r,s⟩=>by
  obtain⟨f,g,t⟩:=e a zm w p r;obtain⟨k,m,u⟩:=Wk.list (λb v=>e b (by simp[v])) s;exact⟨λx=>f x\/k x,λx c=>(n x).2 (c.imp (g x) (m x)),f,k,λ_=>Iff.rfl,λx c d=>o x (g x c) (m x d),t,u⟩
theorem Wk.big {l:List β} (h: ∀a∈l,Wk (F a) (G a)):Wk (aF F l) (aF G l):=λw i b=>Wk.list h b
theorem Hp.wk (h:Hp I0 w0 (A::L) w) (d:Wk A B):Hp I0 w0 (B::L) w:=by
 obtain⟨I,⟨i,j,hI,e,f,g⟩,k,l⟩:=h;obtain⟨b,c,m⟩:=d w i f;exact⟨λx=>b x\/j x,⟨b,j,λ_=>Iff.rfl,λx a=>e x (c x a),m,g⟩,k,λx a=>l x ((hI x).2 (a.imp (c x) id))⟩
theorem Hp.wkE (h:Hp I0 w0 (L++[A]) w) (a:Wk A B):Hp I0 w0 (L++[B]) w:=((h.perm (qi _ _)).wk a).perm (qi _ _).symm
theorem Hp.un {A:aB} {L:List aB} (f: ∀ {I0:aV} {w0 w:World},Hp I0 w0 M w->Hp I0 w0 L w) (h:Hp I0 w0 (A::M) w):Hp I0 w0 (A::L) w:=by
 obtain⟨I,⟨i,j,hI,e,g,k⟩,l,m⟩:=h;obtain⟨J,c,_,n⟩:=f (Hp.start k);have d: ∀x,J x->j x:=λx a=>(n x a).resolve_right (by have:=c.lt x a;omega);exact⟨λx=>i x\/J x,⟨i,J,λ_=>Iff.rfl,λx a b=>e x a (d x b),g,c⟩,l,λx a=>m x ((hI x).2 (a.imp id (d x)))⟩
theorem Wk.of (h: ∀I0 w0 w,Hp I0 w0 [A] w->Hp I0 w0 [B] w):Wk A B:=λw i c=>by
 obtain⟨I,⟨p,q,hI,e,b,f⟩,_,d⟩:=h i w w (Hp.start (show Sep [A] i w from⟨i,λ_=>False,λx=>zm,λ_ _ a=>a,c,λ_ a=>a⟩));exact⟨p,λx a=>(d x ((hI x).2 (.inl a))).resolve_right (by have:=B.lt b x a;omega),b⟩
end
end Go.Sv
namespace Go.Pw
open Go.Sv Go.Rails Go.Dg
theorem kZL {u:UN} (b:u.st.wt=false):Wk (hO u) (fe u):=Wk.of λI0 c w h=>by
 have a:Hp I0 c ((cm u.pw::OS 9 aN u.qA u.qc u.qs::Go.Drv.gW u.q u.d u.st)++[]) w:=Hp.unbun h;rw[qK] at a;exact Hp.ob1 (φ:=λs:Drv.IS=>s.wt=false) (F:=λs=>[iB u s]) u.st b (Hp.bun (R:=[]) (by rw[qK];exact uw (uw a)))
def ta (p:CP) (rk:Nat->Nat) (d q:Nat) (sb:Bool) (T:Ios.iW->Prop):aB:=Ob (λx=>eg p rk d q sb T x/\x.k=0/\ ∀i,(x.ms.getD i aO.d).use<255) (AN p)
def te (p:CP) (d:Nat) (s:Ios.BS):tZ:=⟨p.us,⟨p.t.st,p.t.rs,p.t.clk⟩,p.m.ms,p.m.clk,s,(p.us.getD d aI.d).qA,(p.us.getD d aI.d).qc,(p.us.getD d aI.d).qs⟩
section
variable {I0:aV} {w0 w:World} {p:CP} {X:List aB} {rk:Nat->Nat} {d:Nat} {s:Ios.BS} {T:Ios.iW->Prop}
theorem kZM (a:d<p.us.length) (b: ∀u∈p.us,u.st.wt=false) (hI:eg p rk d 0 false T (te p d s)) (r:p.m.clk=0) (f: ∀i,(p.m.ms.getD i aO.d).use<255) (h:Hp I0 w0 (Eg p++(aP (Ios.aH p.bb s)::X)) w):Hp I0 w0 (ta p rk d 0 false T::X) w:=by
 have v:Hp I0 w0 ([aP (AJ p)]++([cG p,jK p,tB p.t,tS p.t,aF hO p.us,mB p.m,mS p.m,aP (Ios.aH p.bb s)]++X)) w:=h.perm (gH (ks:=[7]) z6);have x:Hp I0 w0 ([OS 3 (aD .i64) p.oA p.oc p.od,OS 60 aM p.t.dA p.t.dc p.t.es,aF cm p.t.es,aP (aa 404 p.t.rb p.t.ra p.t.rs),aF ba p.m.ms,OS 3 (aD .i64) p.m.oA p.m.oc p.m.od,cG p,jK p,tB p.t,tS p.t,aF hO p.us,mB p.m,mS p.m,aP (Ios.aH p.bb s)]++X) w:=Hp.unbun (M:=AJ p) v;have y:Hp I0 w0 (tL p.t++([OS 3 (aD .i64) p.oA p.oc p.od,aF ba p.m.ms,OS 3 (aD .i64) p.m.oA p.m.oc p.m.od,cG p,jK p,aF hO p.us,mB p.m,mS p.m,aP (Ios.aH p.bb s)]++X)) w:=x.perm (gH (ks:=[8,1,1,6,1]) z6);have z:Hp I0 w0 ([aP (tL p.t),OS 3 (aD .i64) p.oA p.oc p.od,aF ba p.m.ms,OS 3 (aD .i64) p.m.oA p.m.oc p.m.od,cG p,jK p,aF hO p.us,mB p.m,mS p.m,aP (Ios.aH p.bb s)]++X) w:=Hp.bun y;have A:Hp I0 w0 ([aF hO p.us]++([aP (tL p.t),OS 3 (aD .i64) p.oA p.oc p.od,aF ba p.m.ms,OS 3 (aD .i64) p.m.oA p.m.oc p.m.od,cG p,jK p,mB p.m,mS p.m,aP (Ios.aH p.bb s)]++X)) w:=z.perm (gH (ks:=[6]) z6);have B:Hp I0 w0 (hO (p.us.getD d aI.d)::(([aP (tL p.t),OS 3 (aD .i64) p.oA p.oc p.od,aF ba p.m.ms,OS 3 (aD .i64) p.m.oA p.m.oc p.m.od,cG p,jK p,mB p.m,mS p.m,aP (Ios.aH p.bb s)]++X)++[aF hO (p.us.eraseIdx d)])) w:=Hp.focus (k:=0) (m:=d) A aI.d z6 a;have g:(p.us.getD d aI.d).st.wt=false:=b _ (by rw[show p.us.getD d aI.d=p.us[d] from by simp[List.getD,a]];exact List.getElem_mem a);have C:=uw (Hp.unbun (M:=cm (p.us.getD d aI.d).pw::OS 9 aN (p.us.getD d aI.d).qA (p.us.getD d aI.d).qc (p.us.getD d aI.d).qs::Drv.gW (p.us.getD d aI.d).q (p.us.getD d aI.d).d (p.us.getD d aI.d).st) B);have D:Hp I0 w0 (Drv.gW (p.us.getD d aI.d).q (p.us.getD d aI.d).d (p.us.getD d aI.d).st++(xW (p.us.getD d aI.d)::(([aP (tL p.t),OS 3 (aD .i64) p.oA p.oc p.od,aF ba p.m.ms,OS 3 (aD .i64) p.m.oA p.m.oc p.m.od,cG p,jK p,mB p.m,mS p.m,aP (Ios.aH p.bb s)]++X)++[aF hO (p.us.eraseIdx d)]))) w:=C.perm List.perm_middle.symm;have E:Hp I0 w0 (iB (p.us.getD d aI.d) (p.us.getD d aI.d).st::((xW (p.us.getD d aI.d)::([aP (tL p.t),OS 3 (aD .i64) p.oA p.oc p.od,aF ba p.m.ms,OS 3 (aD .i64) p.m.oA p.m.oc p.m.od,cG p,jK p,mB p.m,mS p.m,aP (Ios.aH p.bb s)]++X))++[aF hO (p.us.eraseIdx d)])) w:=Hp.bun D;have j:Hp I0 w0 ((fe (p.us.getD d aI.d)::(xW (p.us.getD d aI.d)::([aP (tL p.t),OS 3 (aD .i64) p.oA p.oc p.od,aF ba p.m.ms,OS 3 (aD .i64) p.m.oA p.m.oc p.m.od,cG p,jK p,mB p.m,mS p.m,aP (Ios.aH p.bb s)]++X)))++[aF hO (p.us.eraseIdx d)]) w:=Hp.ob (φ:=λs:Drv.IS=>s.wt=false) (F:=λs=>[iB (p.us.getD d aI.d) s]) _ g E;have l:=Hp.wkE j (Wk.big (G:=fe) λu f=>kZL (b u (List.mem_of_mem_eraseIdx f)));have c:=Hp.unfocus (k:=0) (hs:=p.us) (m:=d) (h':=p.us.getD d aI.d) (F:=fe) l z6 a;have e:p.us.set d (p.us.getD d aI.d)=p.us:=by
  have:p.us.getD d aI.d=p.us[d]:=by simp[List.getD,a]
  rw[this];exact List.set_getElem_self a
 rw[e] at c;have n:Hp I0 w0 ([aF fe p.us,xW (p.us.getD d aI.d),aP (tL p.t),OS 3 (aD .i64) p.oA p.oc p.od,aF ba p.m.ms,OS 3 (aD .i64) p.m.oA p.m.oc p.m.od,cG p,jK p,mB p.m,mS p.m,aP (Ios.aH p.bb s)]++X) w:=c;have o:Hp I0 w0 ([OS 3 (aD .i64) p.oA p.oc p.od]++([aF fe p.us,xW (p.us.getD d aI.d),aP (tL p.t),aF ba p.m.ms,OS 3 (aD .i64) p.m.oA p.m.oc p.m.od,cG p,jK p,mB p.m,mS p.m,aP (Ios.aH p.bb s)]++X)) w:=n.perm (gH (ks:=[3]) z6);exact Hp.ob (te p d s) ⟨hI,r,f⟩ ((uw o).perm (gH (ks:=[5,5,2,6,4,4,2,2,1,0]) z6))
end
section
variable {p:CP} {ds:List bR} {rs:List ag} {bs:List Int} {bb:Nat} {arr:Int} {drs:List Go.Drv.DH} {d:Nat}
theorem kVm (i:H.Nodup) {j:Nat} (a:h<H.length) (b:j<H.length) (e:H.getD h 0=H.getD j 0):h=j:=by
 have d:=List.nodup_iff_pairwise_ne.1 i;rw[List.pairwise_iff_getElem] at d;have f:H.getD h 0=H[h]:=by simp[List.getD,a]
 have g:H.getD j 0=H[j]:=by simp[List.getD,b]
 rw[f,g] at e;rcases Nat.lt_trichotomy h j with c|c|c
 ·exact absurd e (d h j a b c)
 ·exact c
 ·exact absurd e.symm (d j h b a c)
theorem kZN (l:List aX) (b:Bool) (i:Nat):(bP l b i).length<=l.length:=by
 induction l with
 |nil=>simp[bP]
 |cons a l c=>rw[bP];grind
theorem MG.fresh.mgW {m:MG} {ids:List cu} (h:m.fresh ids) (p:Ec m ids.length) (t:aQ ids.length (aj ids ids.length)=0) (f:(aj ids ids.length).length<=1000000):jZ m ids.length:=by
 obtain⟨u,w⟩:=qu t;have c: ∀i,i<ids.length->(m.ms.getD i bt).con.ys=bP (aj ids ids.length) true i:=λi b=>by rw[(h.1.2 i b).2.1,List.take_length]
 have nb: ∀ {l:List aX} {i:Nat} {s:Int},s∈bP l true i-> ∃e∈l,e.con=s:=by
  intro l
  induction l with
  |nil=>simp[bP]
  |cons a l x=>intro i s;rw[bP];grind
 refine⟨p.r,λi b j v=>?_,λi b=>?_⟩
 ·have g:(m.ms.getD i bt).con.ys.getD j (aD .i64).d∈(m.ms.getD i bt).con.ys:=AF v;rw[c i b] at g;obtain⟨l,f,e⟩:=nb g;obtain⟨q,k,rfl⟩:=List.getElem_of_mem f;have n:=u q k;simp only[List.getD,k,qJ,Option.getD_some] at n;have o:=n.1;rw[e,<-c i b] at o;exact o
 ·show(m.ms.getD i bt).con.ys.length<=_;rw[c i b];have:=kZN (aj ids ids.length) true i;omega
theorem eY.rl0 {rk:Nat->Nat} {st:St} (h:nZ rk D st):eY rk st:=⟨h.wf,h.acy,h.r8⟩
theorem kWY (b:p.fresh ds rs bs bb) (I:ds.length<=6) (z:rs.length<=8) (l:dI ds rs bs) (o:jQ (jL ds bs) ds.length) (D: ∀i,i<ds.length->eT (ds.getD i aG.d) i rs.length arr drs) (J: ∀i,i<drs.length->Go.Drv.du (drs.getD i gl.d).d) {rk:Nat->Nat} (q:nZ rk 0 (cy rs)) (h:d<ds.length) {s:Ios.BS} (K:BM s (eV (jL ds bs) ds.length ds.length)):kD p d/\eg p rk d 0 false (λ_=>True) (te p d s)/\(∀u∈p.us,u.st.wt=false)/\p.m.clk=0/\ ∀i,(p.m.ms.getD i aO.d).use<255:=by
 have L:=λi (a:i<ds.length)=>(lw b I z l o D J ⟨rk,q⟩ a).1;have g:=L d h;have j:(bq ds).length=ds.length:=qE _;have v:=l.lk;have w:=EK (W:=ds) zo v.2;have E:=b.mg.mgW (by rw[j,<-b.un];exact g.mg) (by rw[j];exact v.1) (by rw[j];exact w);rw[j,<-b.un] at E;have n:d<p.us.length:=by rw[b.un];exact h
 have f: ∀i,i<p.us.length->(p.us.getD i aI.d).own=(ds.getD i aG.d).fn:=λi a=>(b.us i (b.un▸a)).1.1;have A:=l.ow;refine⟨⟨g.few,g.tn,E,n,λi a=>?_,λi a B F=>B ?_⟩,⟨rfl,⟨g.tok,?_,λi a=>?_,λi a k G=>?_⟩,bU.refl _,⟨rfl,rfl,rfl⟩,?_,λi a=>⟨rfl,rfl,λ_=>g.qs i a⟩,g.stp,⟨_,K,?_,λi a=>?_⟩,λ_ _=>trivial⟩,λu x=>?_,g.mg.clk,λi=>?_⟩
 ·have y:=(o.2.1 i (b.un▸a)).2;rw[f i a];exact y
 ·rw[f i a,f d n,<-EJ ds (b.un▸a),<-EJ ds h] at F;have c:i<(pU ds).length:=by rw[qE];exact b.un▸a
  have C:d<(pU ds).length:=by rw[qE];exact h
  exact kVm A c C F
 ·show eY rk p.t.rs;rw[b.trs];exact eY.rl0 q
 ·show 0<=p.t.st.getD i (aD .i64).d/\p.t.st.getD i (aD .i64).d<=4;rw[b.tst];simp only[List.getD,List.getElem?_replicate];split<;>simp[aD]
 ·have c:i<ds.length:=by rw[<-b.tn];exact a
  have H:=b.tcp i a;rw[nY ds c] at H;have:=((D i c).sm.rl k G).2.2;show((p.t.es.getD i aM.d).rl k).ys.length<=1000;rw[H.ys k G];omega
 ·show(p.us.getD d aI.d).qs.length=0;rw[g.qs d n];rfl
 ·rw[re];exact b.un.symm
 ·have c:i<ds.length:=b.un▸a;have x:=b.us i c;rw[AH _ c,if_pos c];exact⟨rfl,x.1.1.symm,x.1.2.2.symm⟩
 ·obtain⟨i,a,rfl⟩:=List.getElem_of_mem x;have y:=(b.us i (b.un▸a)).2.2.1;have e:p.us.getD i uu=p.us[i]:=by simp[List.getD,a]
  rw[e] at y;rw[y]
 ·by_cases e:i<p.us.length
  ·rw[g.mg.use i e];decide
  ·have M:p.m.ms.getD i aO.d=aO.d:=by rw[List.getD,List.getElem?_eq_none (by rw[g.mg.r.len];omega)];rfl
   rw[M];decide
end
section
variable {I0:aV} {w0 w:World} {p:CP} {X:List aB} {s:Ios.BS}
theorem kXk (h:Hp I0 w0 (aP (mY p++Ios.aH p.bb s)::X) w):Hp I0 w0 (Eg p++(aP (Ios.aH p.bb s)::X)) w:=by
 have a:=Hp.unbun h;rw[qL] at a;have b:Hp I0 w0 (Ios.aH p.bb s++(mY p++X)) w:=a.perm (by rw[<-qL,<-qL];exact qf.append_right _);have c:Hp I0 w0 (aP (Ios.aH p.bb s)::(mY p++X)) w:=Hp.bun b;exact kRc (c.perm List.perm_middle.symm)
end
section
variable {ps:Nat->Int×Int} {r0:Ios.RB}
theorem OX: ∀ {i:Nat} {r:Ios.RB},lG ps r0 i r->r.fl=r0.fl
 |0,r,h=>by cases h;rfl
 |i+1,r,⟨s1,s2,e,h1,h2,h3⟩=>by
  have a:=OX h1;have b:s2.fl=s1.fl:=by cases h2;rfl
  have c:r.fl=s2.fl:=by cases h3<;>rfl
  rw[c,b,a]
end
theorem OY {ids:List cu}: ∀ {m:Nat},(∀i,i<m->(ids.getD i ar.d).sup.ys.length<=6)->(aj ids m).length<=m* 7
 |0,_=>by simp[aj]
 |m+1,h=>by
  have a:=OY (m:=m) λi b=>h i zo;have c:=tM m (ids.getD m ar.d) (ids.getD m ar.d).sup.ys.length;have e:=h m zo;rw[aj,qD];omega
theorem kZO {r:RI} (h:r.pos=0/\r.wt= -1/\r.ev=[]):Wk (ij r) (fo r):=Wk.of λI0 b w c=>by
 obtain⟨f,g,i⟩:=h;have a:Hp I0 b (uv r++[]) w:=Hp.unbun c;rw[qK] at a;have e:uv r=Drv.cO r.q r.d 0 (-1) []:=by unfold uv;rw[f,g,i];rfl
 rw[e] at a;exact Hp.ob1 (φ:=λz:Drv.IS×Bs=>z.1.wt=false) (F:=λz=>[rI r.q r.d z.1 z.2]) (⟨0,false,0⟩,[]) z6 (Hp.bun (R:=[]) (by rw[qK];exact a))
theorem kZP {ds:List bR}:Wk (aF fk ds) (aF cm (kq ds)):=by
 have a:Wk (aF fk ds) (aF (λd:bR=>cm d.pw) ds):=Wk.big λd _=>Wk.of λI0 b w c=>by
  have f:Hp I0 b ([cm d.pw,cb d.il.sup]++[]) w:=Hp.unbun c;exact f.sel [0] rfl
 have e:aF (λd:bR=>cm d.pw) ds=aF cm (kq ds):=by unfold aF;simp only[kq,List.map_map];rfl
 rw[<-e];exact a
structure xa (p:RP) (ds:List bR) (rk:Nat->Nat):Prop where
 S:gj p ds
 tn:p.t.n=p.pw.length/\p.t.st.length=p.pw.length
 mn:p.m.n=p.il.length/\p.m.on.length=p.il.length/\p.m.us.length=p.il.length/\p.m.si.length=p.il.length
 t:vD rk p.tS ⟨p.t.st,p.t.rs,p.t.clk⟩
 pw:p.pw=kq ds
 ri: ∀r∈p.ds,r.pos=0/\r.wt= -1/\r.ev=[]
section
variable {p:RP} {ds:List bR} {rs:List ag} {bs:List Int} {A:Option Addr} {c bb:Nat} {arr:Int} {drs:List Go.Drv.DH}
theorem kWZ (a:p.fresh ds rs bs A c bb) (F:ds.length<=6) (l:dI ds rs bs) (s: ∀i,i<ds.length->eT (ds.getD i aG.d) i rs.length arr drs) {rk:Nat->Nat} (u:nZ rk 0 (cy rs)):xa p ds rk:=by
 have g:p.pw.length=ds.length:=by rw[a.pw];exact qE _
 have b:p.il.length=ds.length:=by rw[a.il];exact qE _
 have o:=l.lk;obtain⟨v,x⟩:=qu o.1;obtain⟨y,_⟩:=EY v x;have q: ∀i,i<ds.length->p.pw.getD i aM.d=(ds.getD i aG.d).pw:=λi f=>by rw[a.pw];exact nY ds f
 have z:ph p.mS:=by
  refine⟨by show p.il.length<=64;omega,?_,?_,?_,?_⟩
  ·show p.m.lk.length<=1024;rw[a.mlk];have:=OY (ids:=bq ds) (m:=ds.length) λi f=>by rw[pS ds f];exact(s i f).sl
   omega
  ·show ∀k,k<p.m.lk.length->cX p.il.length (p.m.lk.getD k aC.d);rw[a.mlk,b];exact v
  ·show aQ p.il.length p.m.lk=0;rw[a.mlk,b];exact o.1
  ·show ∀j,j<(bQ p.il.length p.m.lk).length->0<=(bQ p.il.length p.m.lk).getD j (aD .i64).d/\(bQ p.il.length p.m.lk).getD j (aD .i64).d<p.il.length;rw[a.mlk,b];intro j B;obtain⟨i,f,e⟩:=y.rg _ (AF B);have C:(bQ ds.length (aj (bq ds) ds.length)).getD j (aD .i64).d=(i:Int):=e;rw[C];omega
 refine⟨⟨a.n,zo,by rw[a.bs];exact l.nb,a.dn,b,z⟩,⟨by rw[g];exact a.tn,by rw[g,a.tst,qH]⟩,⟨by rw[b];exact a.mn,by rw[b,a.mon,qH],by rw[b,a.mus,qH],by rw[b,a.msi,qH]⟩,⟨by show p.pw.length<=64;omega,by show p.t.st.length=p.pw.length;rw[g,a.tst,qH],λi f=>?_,λi f=>?_,?_,λi f k D=>?_⟩,a.pw,λr E=>?_⟩
 ·have h:i<ds.length:=by rw[<-g];exact f
  show -1<=(p.pw.getD i aM.d).par/\(p.pw.getD i aM.d).par<i;rw[q i h];exact(s i h).sm.par
 ·show 0<=p.t.st.getD i (aD .i64).d/\p.t.st.getD i (aD .i64).d<=4;rw[a.tst];simp only[List.getD,List.getElem?_replicate];split<;>simp[aD]
 ·show eY rk p.t.rs;rw[a.trs];exact eY.rl0 u
 ·have h:i<ds.length:=by rw[<-g];exact f
  show((p.pw.getD i aM.d).rl k).ys.length<=1000;rw[q i h];have:=((s i h).sm.rl k D).2.2;omega
 ·obtain⟨i,f,rfl⟩:=List.getElem_of_mem E;have w:=(a.di i (a.dn▸f)).2;have e:p.ds.getD i zu=p.ds[i]:=by simp[List.getD,f]
  rw[e] at w;exact w
end
structure TrG where
 st:List Int
 rs:St
section
variable {I0:aV} {w0 w:World} {L:List aB} {k:Nat} {t:TT}
theorem kZQ (h:Hp I0 w0 L w) (a:L[k]?=some (aP (tL t))):w.heap[t.b]?=some (.cells #[.slice t.dA t.es.length t.dc,.slice t.sA t.st.length t.sc,.pointer (some ⟨t.rb,0,none⟩),.int .u64 t.clk] 255 (0,0)):=by
 obtain⟨i,j,c,_⟩:=h.at a;obtain⟨_,_,_,_,d,_⟩:=c;exact d.2
theorem kZR (h:Hp I0 w0 L w) (a:L[k]?=some (aP (tL t))):RS w (aD .i64) t.sA t.st:=by
 obtain⟨i,j,b,_⟩:=h.at a;obtain⟨_,_,_,_,_,_,_,_,_,_,_,_,_,_,_,_,_,_,_,c,_⟩:=b;exact OS.rs c
end
end Go.Pw
namespace Go.Sv
theorem J7 {P:Program} {Own F:List aB} {E:Env} (ks:List Nat) {fn c:Func} {g:FuncId} {d:List Value} {ro:aV} {u post:Value->List aB->Prop} (y:fn.results= #[])
 (q:P.funcs[g]?=some c) (r:c.body.isSome=true) (i:(c.name== "runtime.NumGoroutine")=false) (z:cQ ks M=some (Own,F)) (m: ∀w,Hp Q J M w->sC P g d w Own ro u) (hro: ∀b,ro b->cn Q J F b)
 (k: ∀v2 j,u v2 j-> ∃p,post (.tuple #[]) p/\ ∀w,Hp Q J (F++j) w->Hp Q J p w):
 KV ⟨h,[⟨.fn (.func g) #[],d.toArray⟩]⟩ (BI P fn (λe w'=> ∃v j,e= .returned v/\post v j/\Hp Q J j w') .ret) E (Hp Q J M):=λa w A x=>by
 show Leaves P fn a.tmps _ a.defers .returning w;rw[A.defers];have o:c.body.isNone=false:=by cases n:c.body<;>simp_all
 have s: ¬c.name= "runtime.NumGoroutine":=by simpa using i
 have t: ¬c.body=none:=by intro n;rw[n] at o;simp at o
 refine leaves_cons (f:=g) (args:=d.toArray) zm (by simp[invoke,callFunc,q,s,t]) ((CallsD.frame z x hro (m w x)).mono ?_);rintro e u' w' ⟨rfl,v2,j,rfl,l,B⟩;obtain⟨p,C,D⟩:=k v2 j l;exact⟨.tuple #[],results_none y _ _ _,_,p,rfl,C,D w' B⟩
end Go.Sv
namespace Go.Proofs.YtepmocimmmjinaaGreatDoor.Pw
open Go Go.Sv
set_option maxRecDepth 100000
theorem AO:Fx Tryz.prog 5 [] J [] no (λv L=>v= .bool true/\L=[]):=Ex.YF (f:=12) zk zk
end Go.Proofs.YtepmocimmmjinaaGreatDoor.Pw
