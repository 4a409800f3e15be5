/-
  Joined.
-/
import Derived.Test.YtfmcioghekppjaaGreatDoorRows
import Derived.JoinedOf
import Derived.ProofKit
import Derived.Test.YtfmcioghekppjaaGreatDoorP02
import Derived.Test.YtfmcioghekppjaaGreatDoorP03
import Derived.Test.YtfmcioghekppjaaGreatDoorP04
import Derived.Test.YtfmcioghekppjaaGreatDoorP05
import Derived.Test.YtfmcioghekppjaaGreatDoorProg
set_option linter.unusedSimpArgs false
set_option linter.unusedVariables false
namespace Go.Proofs.YtfmcioghekppjaaGreatDoor
open Go Go.RowKit
set_option maxRecDepth 100000 in
theorem kHD:laidOutB Tryz.prog=true:=by kernel_rfl
set_option maxRecDepth 100000 in
theorem kIQ:mapsRowed Tryz.prog=true:=by kernel_rfl
set_option maxRecDepth 100000 in
theorem kIv:Tryz.prog.mayEnter=true:=by kernel_rfl
end Go.Proofs.YtfmcioghekppjaaGreatDoor
namespace Go.Dg
open Go.Sv Go.Rails
def opn (g:List Bool) (e:Nat):List Link→Int
 |[]=>0
 |l::r=>opn g e r+if l.con=(e:Int)∧g.getD l.sup.toNat false=false then 1 else 0
def lkc (e i:Nat):List Link→Int
 |[]=>0
 |l::r=>lkc e i r+if l.con=(e:Int)∧l.sup=(i:Int) then 1 else 0
def kCW (links:List Link) (g:List Bool) (i:Nat):Bool:=!g.getD i false&&links.all fun l=>!decide (l.con=(i:Int))||g.getD l.sup.toNat false
def dnM (f:Nat→Bool) (n:Nat):Nat→Int
 |0=> -1
 |c+1=>if f (n-1-c) then ((n-1-c:Nat):Int) else dnM f n c
def kCX (links:List Link) (n:Nat):Nat→List Bool→List Int→List Int×List Bool
 |0,g,o=>(o,g)
 |f+1,g,o=>if dnM (kCW links g) n n<0 then (o,g) else kCX links n f (g.set (dnM (kCW links g) n n).toNat true) (o++[dnM (kCW links g) n n])
def remM (n:Nat) (links:List Link):List Int×List Bool:=kCX links n n (List.replicate n false) []
theorem kEn (f:Nat→Bool) (n:Nat): ∀c,c≤n→(dnM f n c= -1∧(∀i,n-c≤i→i<n→f i=false))∨ ∃i:Nat,dnM f n c=(i:Int)∧n-c≤i∧i<n∧f i=true∧ ∀j,n-c≤j→j<i→f j=false
 |0,_=> .inl ⟨rfl,fun i h1 h2=>by omega⟩
 |c+1,h=>by
  simp only[dnM];by_cases hf:f (n-1-c)=true
  ·rw[if_pos hf];exact .inr ⟨n-1-c,rfl,by omega,by omega,hf,fun j h1 h2=>by omega⟩
  ·rw[if_neg hf];rcases kEn f n c (by omega) with ⟨h1,h2⟩|⟨i,h1,h2,h3,h4,h5⟩
   ·refine .inl ⟨h1,fun i hi hn=>?_⟩;by_cases e:i=n-1-c
    ·subst e;simpa using hf
    ·exact h2 i (by omega) hn
   ·refine .inr ⟨i,h1,by omega,h3,h4,fun j hj hji=>?_⟩;by_cases e:j=n-1-c
    ·subst e;simpa using hf
    ·exact h5 j (by omega) hji
theorem kER (g:List Bool) (e:Nat): ∀links,0≤opn g e links
 |[]=>by simp[opn]
 |l::r=>by have:=kER g e r;simp only[opn];split<;>omega
theorem kCY (g:List Bool) (e:Nat): ∀links,opn g e links=0↔ ∀l∈links,l.con=(e:Int)→g.getD l.sup.toNat false=true
 |[]=>by simp[opn]
 |l::r=>by
  have h0:=kER g e r;have ih:=kCY g e r;simp only[opn,List.forall_mem_cons];by_cases h:l.con=(e:Int)∧g.getD l.sup.toNat false=false
  ·rw[if_pos h];constructor
   ·intro x;omega
   ·intro x;have:=x.1 h.1;rw[h.2] at this;exact absurd this (by simp)
  ·rw[if_neg h,Int.add_zero,ih];constructor
   ·intro x;refine⟨fun hc=>?_,x⟩;cases hg:g.getD l.sup.toNat false with
    |true=>rfl
    |false=>exact absurd ⟨hc,hg⟩ h
   ·intro x;exact x.2
theorem kBI {links:List Link} {g:List Bool} {i:Nat}:kCW links g i=true↔g.getD i false=false∧opn g i links=0:=by
 rw[kCY];simp only[kCW,qg,Bool.not_eq_true',List.all_eq_true,Bool.or_eq_true,Bool.not_eq_true',decide_eq_false_iff_not];constructor
 ·rintro⟨h1,h2⟩;refine⟨h1,fun l hl hc=>?_⟩;rcases h2 l hl with h|h
  ·exact absurd hc h
  ·exact h
 ·rintro⟨h1,h2⟩;refine⟨h1,fun l hl=>?_⟩;by_cases hc:l.con=(i:Int)
  ·exact .inr (h2 l hl hc)
  ·exact .inl hc
theorem kFg (c e:Int) (cs:List Int): ∀k,cntK (c::cs) e (k+1)=cntK cs e k+if c=e then 1 else 0
 |0=>by simp[cntK,List.getD]
 |k+1=>by
  have ih:=kFg c e cs k;rw[cntK,ih];simp only[cntK,List.getD_cons_succ];omega
theorem kJ2 (e i:Nat): ∀links:List Link,cntK (nbM links true i) e (nbM links true i).length=lkc e i links
 |[]=>rfl
 |l::r=>by
  have ih:=kJ2 e i r;simp only[nbM,lkc,if_true];by_cases h:l.sup=(i:Int)
  ·rw[if_pos h,qB,kFg,ih];by_cases h2:l.con=(e:Int)
   ·rw[if_pos h2,if_pos ⟨h2,h⟩]
   ·rw[if_neg h2,if_neg (fun x=>h2 x.1)]
  ·rw[if_neg h,ih,if_neg (fun x=>h x.2)];omega
theorem kJ3 (g:List Bool) (e i:Nat) (hi:i<g.length) (hg:g.getD i false=false): ∀links:List Link,(∀l∈links,0≤l.sup)→opn (g.set i true) e links=opn g e links-lkc e i links
 |[],_=>by simp[opn,lkc]
 |l::r,h=>by
  have ih:=kJ3 g e i hi hg r fun x hx=>h x (List.mem_cons_of_mem _ hx);have h0:=h l (List.mem_cons_self ..);simp only[opn,lkc];rw[ih];by_cases h2:l.sup=(i:Int)
  ·have e1:l.sup.toNat=i:=by omega
   rw[e1,hg];have:(g.set i true).getD i false=true:=by simp[List.getD,hi]
   rw[this,if_neg (show ¬(l.con=(e:Int)∧true=false) by simp)];by_cases h3:l.con=(e:Int)
   ·rw[if_pos ⟨h3,rfl⟩,if_pos ⟨h3,h2⟩];omega
   ·rw[if_neg (fun x=>h3 x.1),if_neg (fun x=>h3 x.1)];omega
  ·have:(g.set i true).getD l.sup.toNat false=g.getD l.sup.toNat false:=by
    simp only[List.getD,List.getElem?_set];rw[if_neg (by omega)]
   rw[this,if_neg (fun x:l.con=(e:Int)∧l.sup=(i:Int)=>h2 x.2)];omega
theorem kDh: ∀(g:List Bool) (i:Nat),i<g.length→g.getD i false=false→(g.set i true).count false+1=g.count false
 |[],i,h,_=>by simp at h
 |b::r,0,_,h=>by simp[List.getD] at h;subst h;simp
 |b::r,i+1,h,hg=>by
  have:=kDh r i (by simpa using h) (by simpa[List.getD] using hg);simp only[List.set_cons_succ,List.count_cons];omega
theorem kD1: ∀(g:List Bool),g.count false=0↔ ∀i,i<g.length→g.getD i false=true
 |g=>by
  rw[List.count_eq_zero];constructor
  ·intro h i hi;cases hb:g.getD i false with
   |true=>rfl
   |false=>
    have h9:g[i]=false:=by rw[List.getD,qJ hi] at hb;exact hb
    exact absurd (by rw[←h9];exact List.getElem_mem hi) h
  ·intro h hm;obtain⟨i,hi,he⟩:=List.getElem_of_mem hm;have:=h i hi;simp[List.getD,hi,he] at this
structure SI (links:List Link) (n:Nat) (ms:List Int) (g:List Bool):Prop where
 lm:ms.length=n
 lg:g.length=n
 gone: ∀i,i<n→g.getD i false=true→ms.getD i 0<0
 open_: ∀i,i<n→g.getD i false=false→ms.getD i 0=opn g i links
theorem SI.zero {links:List Link} {n:Nat} {ms:List Int} {g:List Bool} (h:SI links n ms g) {i:Nat} (hi:i<n):ms.getD i 0=0↔kCW links g i=true:=by
 rw[kBI];constructor
 ·intro h0;cases hg:g.getD i false with
  |true=>have:=h.gone i hi hg;omega
  |false=>exact⟨rfl,by rw[←h.open_ i hi hg];exact h0⟩
 ·rintro⟨h1,h2⟩;rw[h.open_ i hi h1];exact h2
theorem SI.idx {links:List Link} {n:Nat} {ms:List Int} {g:List Bool} (h:SI links n ms g):dnM (kCW links g) n n=idxM 0 ms n:=by
 rcases kEn (kCW links g) n n (qU _) with ⟨h1,h2⟩|⟨i,h1,h2,h3,h4,h5⟩
 ·rw[h1];symm;rw[kBH];intro j hj h0;have:=(h.zero hj).1 h0;rw[h2 j (by omega) hj] at this;exact absurd this (by simp)
 ·have hne:idxM 0 ms n≠ -1:=by
   intro x;rw[kBH] at x;exact x i h3 ((h.zero h3).2 h4)
  obtain⟨j,e1,e2,e3,e4⟩:=kAn hne;rw[h1,e1];have h6:=(h.zero e2).1 e3;by_cases hlt:i<j
  ·exact absurd ((h.zero h3).2 h4) (e4 i hlt)
  ·by_cases hgt:j<i
   ·rw[h5 j (by omega) hgt] at h6;exact absurd h6 (by simp)
   ·have:i=j:=by omega
    rw[this]
theorem SI.step {links:List Link} {n:Nat} {ms:List Int} {g:List Bool} (h:SI links n ms g) (hok: ∀j,j<links.length→okL n (links.getD j linkK.d)) {i:Nat} (hi:i<n) (h0:ms.getD i 0=0):
 SI links n (decs (ms.set i (-1)) (nbM links true i) (nbM links true i).length) (g.set i true):=by
 have hf:=kBI.1 ((h.zero hi).1 h0);have hs: ∀l∈links,0≤l.sup:=by
  intro l hl;obtain⟨j,hj,he⟩:=List.getElem_of_mem hl;have:=hok j hj;simp[List.getD,hj,he,okL] at this;omega
 have hval: ∀e,e<n→(decs (ms.set i (-1)) (nbM links true i) (nbM links true i).length).getD e 0=(ms.set i (-1)).getD e 0-lkc e i links:=by
  intro e he;rw[kEm _ _ e (by rw[qI,h.lm];exact he) (fun k hk=>(kIw hok true i k hk).1) _ (qU _),kJ2]
 have hle:=fun e=>(kAo (ms.set i (-1)) (nbM links true i) (nbM links true i).length e).1;refine⟨by rw[kA2,qI,h.lm],by rw[qI,h.lg],fun e he hg=>?_,fun e he hg=>?_⟩
 ·have:=hle e;by_cases e1:e=i
  ·subst e1;rw[kA1 _ _ _ _ (by rw[h.lm];exact he)] at this;omega
  ·rw[kA0 _ _ _ (fun x=>e1 x.symm)] at this hg;have:=h.gone e he hg;omega
 ·by_cases e1:e=i
  ·subst e1;rw[kA1 _ _ _ _ (by rw[h.lg];exact he)] at hg;exact absurd hg (by simp)
  ·rw[kA0 _ _ _ (fun x=>e1 x.symm)] at hg;rw[hval e he,kA0 _ _ _ (fun x=>e1 x.symm),h.open_ e he hg,kJ3 g e i (by rw[h.lg];exact hi) hf.1 links hs]
theorem kMo {links:List Link} {n:Nat} (hok: ∀j,j<links.length→okL n (links.getD j linkK.d)): ∀(f:Nat) (ms:List Int) (g:List Bool) (o:List Int),SI links n ms g→kAa (nbM links true) n f ms o=(kCX links n f g o).1
 |0,_,_,_,_=>rfl
 |f+1,ms,g,o,h=>by
  simp only[kAa,kCX];rw[h.idx];by_cases hx:idxM 0 ms n= -1
  ·rw[if_pos hx,if_pos (by omega)]
  ·obtain⟨i,h1,h2,h3,_⟩:=kAn hx;rw[if_neg hx,if_neg (by omega),h1,qh];exact kMo hok f _ _ _ (h.step hok h2 h3)
theorem SI.start {links:List Link} {n:Nat} (hok: ∀j,j<links.length→okL n (links.getD j linkK.d)):SI links n (ms0 n links) (List.replicate n false):=by
 have hopn: ∀e,∀ls:List Link,(∀l∈ls,0≤l.sup∧l.sup<n)→opn (List.replicate n false) e ls=msM ls e:=by
  intro e ls
  induction ls with
  |nil=>intro _;rfl
  |cons l r ih=>
   intro h;have h1:=h l (List.mem_cons_self ..);have:(List.replicate n false).getD l.sup.toNat false=false:=by
    simp[List.getD,List.getElem?_replicate];split<;>rfl
   simp only[opn,msM,this,and_true,ih fun x hx=>h x (List.mem_cons_of_mem _ hx)];split<;>omega
 refine⟨by simp[ms0],by simp,fun i hi hg=>?_,fun i hi _=>?_⟩
 ·simp[List.getD,hi] at hg
 ·have:(ms0 n links).getD i 0=msM links i:=by simp[ms0,List.getD,hi]
  rw[this,hopn];intro l hl;obtain⟨j,hj,he⟩:=List.getElem_of_mem hl;have:=hok j hj;simp[List.getD,hj,he,okL] at this;omega
theorem kO0 {links:List Link} {n:Nat} (hok: ∀j,j<links.length→okL n (links.getD j linkK.d)):seqM n links=(remM n links).1:=by
 have h:=SI.start (n:=n) hok;unfold seqM remM;rw[kDd _ _ _ n _ _ (qU _) (kFe _ _) h.lm];exact kMo hok n _ _ _ h
structure RI (links:List Link) (n:Nat) (g:List Bool) (m:Nat):Prop where
 len:g.length=n
 cnt:g.count false+m=n
 rank: ∃rk:Nat→Nat,∀i,i<n→g.getD i false=true→rk i<m∧ ∀l∈links,l.con=(i:Int)→g.getD l.sup.toNat false=true∧rk l.sup.toNat<rk i
theorem RI.step {links:List Link} {n m:Nat} {g:List Bool} (h:RI links n g m) {i:Nat} (hi:i<n) (hf:kCW links g i=true):RI links n (g.set i true) (m+1):=by
 rw[kBI,kCY] at hf;obtain⟨rk,hrk⟩:=h.rank;refine⟨by rw[qI,h.len],?_,fun e=>if e=i then m else rk e,fun e he hg=>?_⟩
 ·have:=kDh g i (by rw[h.len];exact hi) hf.1;have:=h.cnt;omega
 ·have hmono: ∀x,g.getD x false=true→x≠i∧(g.set i true).getD x false=true:=by
   intro x hx;have hne:x≠i:=by rintro rfl;rw[hf.1] at hx;exact absurd hx (by simp)
   exact⟨hne,by rw[kA0 _ _ _ (fun y=>hne y.symm)];exact hx⟩
  by_cases e1:e=i
  ·subst e1;simp only[if_true];refine⟨by omega,fun l hl hc=>?_⟩;have h1:=hf.2 l hl hc;have h2:=hmono _ h1;rw[if_neg h2.1];refine⟨h2.2,?_⟩;have hlt:l.sup.toNat<n:=by
    by_cases hh:l.sup.toNat<n
    ·exact hh
    ·rw[List.getD,List.getElem?_eq_none (by rw[h.len];omega)] at h1;exact absurd h1 (by simp)
   exact(hrk _ hlt h1).1
  ·rw[kA0 _ _ _ (fun x=>e1 x.symm)] at hg;have h1:=hrk e he hg;simp only[if_neg e1];refine⟨by omega,fun l hl hc=>?_⟩;have h2:=h1.2 l hl hc;have h3:=hmono _ h2.1;rw[if_neg h3.1];exact⟨h3.2,h2.2⟩
theorem kJ4 {links:List Link} {n:Nat}: ∀(f:Nat) (g:List Bool) (o:List Int),RI links n g o.length→g.count false≤f→
 RI links n (kCX links n f g o).2 (kCX links n f g o).1.length∧ ∀i,i<n→kCW links (kCX links n f g o).2 i=false
 |0,g,o,h,hf=>by
  refine⟨h,fun i hi=>?_⟩;have:=(kD1 g).1 (by omega) i (by rw[h.len];exact hi);show kCW links g i=false;rw[kCW,this];rfl
 |f+1,g,o,h,hf=>by
  simp only[kCX];rcases kEn (kCW links g) n n (qU _) with ⟨h1,h2⟩|⟨i,h1,h2,h3,h4,h5⟩
  ·rw[if_pos (by omega)];exact⟨h,fun i hi=>h2 i (by omega) hi⟩
  ·rw[if_neg (by omega),h1,qh];have:=kDh g i (by rw[h.len];exact h3) (kBI.1 h4).1;exact kJ4 f _ _ (by rw[qD];exact h.step h3 h4) (by omega)
theorem RI.start {links:List Link} {n:Nat}:RI links n (List.replicate n false) 0:=by
 refine⟨by simp,by simp,fun _=>0,fun i hi hg=>?_⟩;simp[List.getD,hi] at hg
def W0 (links:List Link) (a b:Nat):Bool:=links.any fun l=>decide (l.con=(a:Int)∧l.sup=(b:Int))
def wR (k:Nat) (W:Nat→Nat→Bool) (a b:Nat):Bool:=W a b||(W a k&&W k b)
def wI (links:List Link):Nat→Nat→Nat→Bool
 |0=>W0 links
 |k+1=>wR k (wI links k)
theorem kGV (links:List Link) (a b:Nat) (h:W0 links a b=true): ∀k,wI links k a b=true
 |0=>h
 |k+1=>by simp[wI,wR,kGV links a b h k]
theorem kHK (links:List Link): ∀k a b c,c<k→wI links k a c=true→wI links k c b=true→wI links k a b=true
 |0,_,_,_,h,_,_=>by omega
 |k+1,a,b,c,h,h1,h2=>by
  have ih:=fun a b c h=>kHK links k a b c h;simp only[wI,wR,Bool.or_eq_true,qg] at h1 h2 ⊢;by_cases e:c=k
  ·subst e;have h1:wI links c a c=true:=by rcases h1 with h|h;exact h;exact h.1
   have h2:wI links c c b=true:=by rcases h2 with h|h;exact h;exact h.2
   exact .inr ⟨h1,h2⟩
  ·have hc:c<k:=by omega
   rcases h1 with h1|⟨h1,h1'⟩
   ·rcases h2 with h2|⟨h2,h2'⟩
    ·exact .inl (ih a b c hc h1 h2)
    ·exact .inr ⟨ih a k c hc h1 h2,h2'⟩
   ·rcases h2 with h2|⟨h2,h2'⟩
    ·exact .inr ⟨h1,ih k b c hc h1' h2⟩
    ·exact .inr ⟨h1,h2'⟩
theorem kCZ (links:List Link) (R:Nat→Nat→Prop) (h0: ∀a b,W0 links a b=true→R a b) (ht: ∀a b c,R a c→R c b→R a b): ∀k a b,wI links k a b=true→R a b
 |0,a,b,h=>h0 a b h
 |k+1,a,b,h=>by
  simp only[wI,wR,Bool.or_eq_true,qg] at h;rcases h with h|⟨h1,h2⟩
  ·exact kCZ links R h0 ht k a b h
  ·exact ht a b k (kCZ links R h0 ht k a k h1) (kCZ links R h0 ht k k b h2)
theorem kHL {links:List Link} {a b:Nat}:W0 links a b=true↔ ∃l∈links,l.con=(a:Int)∧l.sup=(b:Int):=by
 simp[W0,List.any_eq_true]
def cT (f:Nat→Bool):Nat→Nat
 |0=>0
 |k+1=>cT f k+if f k then 1 else 0
theorem kQ9 {f g:Nat→Bool}: ∀k,(∀i,i<k→f i=true→g i=true)→cT f k≤cT g k
 |0,_=>qU _
 |k+1,h=>by
  have ih:=kQ9 (f:=f) (g:=g) k fun i hi=>h i (by omega);have:=h k (by omega);simp only[cT];cases hf:f k<;>cases hg:g k<;>simp_all<;>omega
theorem kO1 {f g:Nat→Bool}: ∀k j,(∀i,i<k→f i=true→g i=true)→j<k→f j=false→g j=true→cT f k<cT g k
 |0,_,_,h,_,_=>by omega
 |k+1,j,h,hj,h1,h2=>by
  simp only[cT];by_cases e:j=k
  ·subst e;have:=kQ9 (f:=f) (g:=g) j fun i hi=>h i (by omega);simp[h1,h2];omega
  ·have ih:=kO1 (f:=f) (g:=g) k j (fun i hi=>h i (by omega)) (by omega) h1 h2;have:=h k (by omega);cases hf:f k<;>cases hg:g k<;>simp_all<;>omega
theorem kO2 {links:List Link} {n:Nat} (hok: ∀j,j<links.length→okL n (links.getD j linkK.d)):(remM n links).1.length=n↔ ∀i,i<n→wI links n i i=false:=by
 have hr: ∀l∈links,(0≤l.con∧l.con<n)∧0≤l.sup∧l.sup<n:=by
  intro l hl;obtain⟨j,hj,he⟩:=List.getElem_of_mem hl;have:=hok j hj;simpa[List.getD,hj,he,okL] using this
 obtain⟨hI,hfree⟩:=kJ4 (links:=links) (n:=n) n (List.replicate n false) [] RI.start (by simp);change RI links n (remM n links).2 (remM n links).1.length at hI;change ∀i,i<n→kCW links (remM n links).2 i=false at hfree;generalize (remM n links).1.length=m at *;generalize (remM n links).2=g at *;have hcnt:=hI.cnt;constructor
 ·intro hm i hi;have hall:=(kD1 g).1 (by omega);obtain⟨rk,hrk⟩:=hI.rank;cases hw:wI links n i i with
  |false=>rfl
  |true=>
   have:=kCZ links (fun a b=>rk b<rk a) (fun a b h=>by
    obtain⟨l,hl,h1,h2⟩:=kHL.1 h;have hb:=hr l hl;have:=((hrk a (by omega) (hall a (by rw[hI.len];omega))).2 l hl h1).2;rw[h2,qh] at this;exact this) (fun a b c h1 h2=>by omega) n i i hw
   omega
 ·intro hw;by_cases hz:g.count false=0
  ·omega
  ·exfalso;have hdesc: ∀f i,i<n→g.getD i false=false→cT (wI links n i) n≤f→False:=by
    intro f
    induction f with
    |zero=>
     intro i hi hg hle;have hf:=hfree i hi;rw[Bool.eq_false_iff,Ne,kBI,kCY] at hf;apply hf;refine⟨hg,fun l hl hc=>?_⟩;exfalso;have hb:=hr l hl;have hi2:wI links n i l.sup.toNat=true:=kGV links _ _ (kHL.2 ⟨l,hl,hc,by omega⟩) n;have:=kO1 (f:=fun _=>false) (g:=wI links n i) n l.sup.toNat (fun _ _ h=>by simp at h) (by omega) rfl hi2;omega
    |succ f ih=>
     intro i hi hg hle;have hf:=hfree i hi;rw[Bool.eq_false_iff,Ne,kBI,kCY] at hf;apply hf;refine⟨hg,fun l hl hc=>?_⟩;cases hx:g.getD l.sup.toNat false with
     |true=>rfl
     |false=>
      exfalso;have hb:=hr l hl;have hi2:wI links n i l.sup.toNat=true:=kGV links _ _ (kHL.2 ⟨l,hl,hc,by omega⟩) n;refine ih l.sup.toNat (by omega) hx ?_;have:=kO1 (f:=wI links n l.sup.toNat) (g:=wI links n i) n l.sup.toNat (fun x hx h=>kHK links n i x _ (by omega) hi2 h) (by omega) (hw _ (by omega)) hi2;omega
   have hex: ∃i,i<n∧g.getD i false=false:=by
    by_cases hh: ∃i,i<n∧g.getD i false=false
    ·exact hh
    ·exfalso;apply hz;rw[kD1];intro i hi;cases hx:g.getD i false with
     |true=>rfl
     |false=>exact absurd ⟨i,by rw[hI.len] at hi;exact hi,hx⟩ hh
   obtain⟨i,hi,hg⟩:=hex;exact hdesc _ i hi hg (qU _)
theorem kO3 {links:List Link} {n:Nat} (hok: ∀j,j<links.length→okL n (links.getD j linkK.d)):(seqM n links).length=n↔ ∀i,i<n→wI links n i i=false:=by
 rw[kO0 hok];exact kO2 hok
end Go.Dg
namespace Go.Pw
open Go.Sv Go.Rails Go.Dg
theorem OS.cong {α:Type} {e:TypeId} {K:Enc α} {A:Option Addr} {c:Nat} {ys ys':List α} (h:ys.length=ys'.length) (h2:flat K ys=flat K ys'):OS e K A c ys=OS e K A c ys':=by
 have h3:(ys=[])=(ys'=[]):=by simp[←List.length_eq_zero_iff,h]
 have hs:(OS e K A c ys).sat=(OS e K A c ys').sat:=by funext w I;simp only[OS,h,h2,h3]
 generalize OS e K A c ys=X at hs ⊢;generalize OS e K A c ys'=Y at hs ⊢;cases X;cases Y;simp only at hs;subst hs;rfl
theorem kEh {α:Type} {K:Enc α} {ys:List α} {m:Nat} {y:α} (hm:m<ys.length) (h:K.f y=K.f (ys.getD m K.d)):flat K (ys.set m y)=flat K ys:=by
 unfold flat;rw[List.flatMap_def,List.flatMap_def]
 congr 1
 apply List.ext_getElem (by simp);intro i h1 h2;simp only[List.getElem_map,List.getElem_set];split
 ·rename_i e;subst e;rw[h];simp[List.getD,hm]
 ·rfl
def bolK:Enc Bool where
 f b:=[.bool b]
 sz:=1
 d:=false
 len _:=rfl
 pos:=by decide
 one r v hv:=by simp at hv;subst hv;rfl
structure BR where
 A:Option Addr
 c:Nat
 ys:List Bool
def brD:BR:=⟨none,0,[]⟩
def brK:Enc BR where
 f r:=[.slice r.A r.ys.length r.c]
 sz:=1
 d:=brD
 len _:=rfl
 pos:=by decide
 one r v hv:=by simp at hv;subst hv;rfl
def brF (r:BR):Assn:=OS 4 bolK r.A r.c r.ys
theorem brRS {w:World} (i:Ids) (b:BR) (h:(brF b).sat w i):RS w bolK b.A b.ys:=OS.rs (e:=4) (c:=b.c) h
def stR (r:BR) (b:Nat):BR:={r with ys:=r.ys.set b true}
theorem kMp {I0:Ids} {w0 w:World} {t:TypeId} {A:Option Addr} {c a b:Nat} {rows:List BR} (h:Hp I0 w0 [OS t brK A c rows,OS 4 bolK (rows.getD a brD).A (rows.getD a brD).c ((rows.getD a brD).ys.set b true),Big brF (rows.eraseIdx a)] w) (ha:a<rows.length):
 Hp I0 w0 [OS t brK A c (rows.set a (stR (rows.getD a brD) b)),Big brF (rows.set a (stR (rows.getD a brD) b))] w:=by
 have h1:=Hp.unfocus (L:=[_,_]) (k:=1) (hs:=rows) (m:=a) (h':=stR (rows.getD a brD) b) (F:=brF) h rfl ha;have h2:OS t brK A c (rows.set a (stR (rows.getD a brD) b))=OS t brK A c rows:=OS.cong (by simp) (kEh ha (by simp[brK,stR,BR.ys]));rw[h2];exact h1
theorem kQD {I0:Ids} {w0 w:World} {t:TypeId} {A B:Option Addr} {c d a:Nat} {rows:List BR} {ys:List Bool} (h:Hp I0 w0 [OS t brK A c (rows.set a ⟨B,d,ys⟩),Big brF rows,OS 4 bolK B d ys] w) (ha:a<rows.length):
 Hp I0 w0 [OS t brK A c (rows.set a ⟨B,d,ys⟩),Big brF (rows.set a ⟨B,d,ys⟩)] w:=by
 have h1:=Hp.focus h (k:=1) (m:=a) brD rfl ha;have h2:Hp I0 w0 ([OS t brK A c (rows.set a ⟨B,d,ys⟩),OS 4 bolK B d ys]++[Big brF (rows.eraseIdx a)]) w:=h1.sel [0,1,1] rfl;exact Hp.unfocus (L:=[_,_]) (k:=1) (hs:=rows) (m:=a) (h':=⟨B,d,ys⟩) (F:=brF) h2 rfl ha
def MI (n:Nat) (rows:List BR) (W:Nat→Nat→Bool):Prop:=rows.length=n∧ ∀a,a<n→(rows.getD a brD).ys.length=n∧ ∀b,b<n→(rows.getD a brD).ys.getD b false=W a b
theorem MI.congr {n:Nat} {rows:List BR} {W W':Nat→Nat→Bool} (h:MI n rows W) (e: ∀a b,a<n→b<n→W a b=W' a b):MI n rows W':=
 ⟨h.1,fun a ha=>⟨(h.2 a ha).1,fun b hb=>by rw[(h.2 a ha).2 b hb,e a b ha hb]⟩⟩
theorem MI.st {n i k:Nat} {rows:List BR} {W W':Nat→Nat→Bool} (h:MI n rows W) (hi:i<n) (hk:k<n) (h1:W' i k=true) (h2: ∀a b,a<n→b<n→ ¬(a=i∧b=k)→W' a b=W a b):MI n (rows.set i (stR (rows.getD i brD) k)) W':=by
 refine⟨by rw[qI];exact h.1,fun a ha=>?_⟩;by_cases e:i=a
 ·subst e;rw[show(rows.set i (stR (rows.getD i brD) k)).getD i brD=stR (rows.getD i brD) k by simp[List.getD,h.1,hi]];refine⟨by simp only[stR,qI];exact(h.2 i hi).1,fun b hb=>?_⟩;by_cases e2:k=b
  ·subst e2;rw[h1];have hl:=(h.2 i hi).1;simp only[stR];rw[kA1 _ _ _ _ (by rw[hl];exact hb)]
  ·rw[h2 i b ha hb (fun x=>e2 x.2.symm),←(h.2 i hi).2 b hb];simp only[stR];rw[kA0 _ _ _ e2]
 ·rw[show(rows.set i (stR (rows.getD i brD) k)).getD a brD=rows.getD a brD by simp only[List.getD,List.getElem?_set];rw[if_neg e]];exact⟨(h.2 a ha).1,fun b hb=>by rw[h2 a b ha hb (fun x=>e x.1.symm)];exact(h.2 a ha).2 b hb⟩
theorem kJ8 (links:List Link) (j a b:Nat) (hj:j<links.length):W0 (links.take (j+1)) a b=(W0 (links.take j) a b||decide ((links.getD j linkK.d).con=(a:Int)∧(links.getD j linkK.d).sup=(b:Int))):=by
 rw[kAJ links j linkK.d hj];simp[W0]
theorem MI.link {links:List Link} {n j i k:Nat} {rows:List BR} (h:MI n rows (W0 (links.take j))) (hj:j<links.length) (hi:i<n) (hk:k<n) (h1:(links.getD j linkK.d).con=(i:Int)) (h2:(links.getD j linkK.d).sup=(k:Int)):MI n (rows.set i (stR (rows.getD i brD) k)) (W0 (links.take (j+1))):=
 h.st hi hk (by rw[kJ8 _ _ _ _ hj,h1,h2];simp) (fun a b ha hb hne=>by
  rw[kJ8 _ _ _ _ hj,h1,h2,qQ (by rintro⟨x,y⟩;exact hne ⟨by omega,by omega⟩),Bool.or_false])
def wP (k:Nat) (W:Nat→Nat→Bool) (A B a b:Nat):Bool:=if a<A∨(a=A∧b<B) then wR k W a b else W a b
theorem kQE (k:Nat) (W:Nat→Nat→Bool) (b:Nat):wR k W k b=W k b:=by simp only[wR];cases W k b<;>cases W k k<;>rfl
theorem MI.beg {n k:Nat} {rows:List BR} {W:Nat→Nat→Bool} (h:MI n rows W):MI n rows (wP k W 0 0):=h.congr fun a b _ _=>by simp[wP]
theorem MI.fin {n k:Nat} {rows:List BR} {links:List Link} (h:MI n rows (wP k (wI links k) n 0)):MI n rows (wI links (k+1)):=h.congr fun a b ha _=>by simp[wP,ha,wI]
theorem MI.row {n k a:Nat} {rows:List BR} {W:Nat→Nat→Bool} (h:MI n rows (wP k W a n)):MI n rows (wP k W (a+1) 0):=h.congr fun x b _ hb=>by
 simp only[wP];by_cases e:x<a∨x=a
 ·rw[if_pos (by omega),if_pos (by omega)]
 ·rw[if_neg (by omega),if_neg (by omega)]
theorem MI.skip {n k a:Nat} {rows:List BR} {W:Nat→Nat→Bool} (h:MI n rows (wP k W a 0)) (hw:W a k=false):MI n rows (wP k W (a+1) 0):=h.congr fun x b _ hb=>by
 simp only[wP];by_cases e:x<a
 ·rw[if_pos (by omega),if_pos (by omega)]
 ·by_cases e2:x=a
  ·subst e2;rw[if_neg (by omega),if_pos (by omega)];simp[wR,hw]
  ·rw[if_neg (by omega),if_neg (by omega)]
theorem MI.rowv {n k a:Nat} {rows:List BR} {W:Nat→Nat→Bool} (h:MI n rows (wP k W a 0)) (ha:a<n) (hk:k<n):(rows.getD a brD).ys.getD k false=W a k:=by
 rw[(h.2 a ha).2 k hk];simp[wP]
theorem MI.kv {n k a b:Nat} {rows:List BR} {W:Nat→Nat→Bool} (h:MI n rows (wP k W a b)) (hb:b<n) (hk:k<n):(rows.getD k brD).ys.getD b false=W k b:=by
 rw[(h.2 k hk).2 b hb];simp only[wP];split
 ·exact kQE k W b
 ·rfl
theorem MI.one {n k a b:Nat} {rows:List BR} {W:Nat→Nat→Bool} (h:MI n rows (wP k W a b)) (ha:a<n) (hb:b<n) (h1:W a k=true) (h2:W k b=true):MI n (rows.set a (stR (rows.getD a brD) b)) (wP k W a (b+1)):=
 h.st ha hb (by simp[wP,wR,h1,h2]) (fun x y hx hy hne=>by
  simp only[wP];by_cases e:x<a∨(x=a∧y<b)
  ·rw[if_pos e,if_pos (by omega)]
  ·rw[if_neg e,if_neg (by omega)])
theorem MI.zero {n k a b:Nat} {rows:List BR} {W:Nat→Nat→Bool} (h:MI n rows (wP k W a b)) (ha:a<n) (hb:b<n) (h2:W k b=false):MI n rows (wP k W a (b+1)):=h.congr fun x y hx hy=>by
 simp only[wP];by_cases e:x<a∨(x=a∧y<b)
 ·rw[if_pos e,if_pos (by omega)]
 ·by_cases e2:x=a∧y=b
  ·obtain⟨rfl,rfl⟩:=e2;rw[if_neg e,if_pos (by omega)];simp[wR,h2]
  ·rw[if_neg e,if_neg (by omega)]
theorem MI.new {n:Nat} {rows:List BR} (h:rows.length=n) (hr: ∀a,a<n→(rows.getD a brD).ys=List.replicate n false):MI n rows (W0 []):=
 ⟨h,fun a ha=>⟨by rw[hr a ha];simp,fun b hb=>by rw[hr a ha];simp[List.getD,hb,W0]⟩⟩
def invB (n:Int) (links:List Link):Bool:=decide (n<0∨128<n∨(1024:Int)<links.length)||!links.all fun l=>decide (okL n l)
theorem kFk {n:Int} {links:List Link}:invB n links=false↔ ¬(n<0∨128<n∨(1024:Int)<links.length)∧ ∀j,j<links.length→okL n (links.getD j linkK.d):=by
 simp only[invB,Bool.or_eq_false_iff,decide_eq_false_iff_not,Bool.not_eq_false',List.all_eq_true,qj];refine and_congr_right fun _=>⟨fun h j hj=>h _ (by simp[List.getD,hj]),fun h l hl=>?_⟩
 obtain⟨j,hj,he⟩:=List.getElem_of_mem hl;have:=h j hj;simpa[List.getD,hj,he] using this
theorem kDQ {n:Int} {links:List Link} (h:n<0∨128<n∨(1024:Int)<links.length):true=invB n links:=by
 cases hb:invB n links with
 |true=>rfl
 |false=>exact absurd h (kFk.1 hb).1
theorem kDk {n:Int} {links:List Link} {j:Nat} (hj:j<links.length) (h: ¬okL n (links.getD j linkK.d)):true=invB n links:=by
 cases hb:invB n links with
 |true=>rfl
 |false=>exact absurd ((kFk.1 hb).2 j hj) h
theorem kJ9 {n:Int} {links:List Link} (h:invB n links=true):clM n links=1:=by
 unfold clM;split
 ·rfl
 ·rename_i h1;rw[if_neg];intro h2;have:=kFk.2 ⟨h1,h2⟩;rw[h] at this;exact absurd this (by simp)
theorem kHN {n:Int} {links:List Link} (h:invB n links=false):clM n links=if links.Nodup then 0 else 7:=by
 have:=kFk.1 h;unfold clM;rw[if_neg this.1,if_pos this.2]
theorem kEt {n:Nat} {links:List Link} (h:clM n links=0):chkM n links=if ∀i,i<n→wI links n i i=false then 0 else 18:=by
 have h1:=kDM h;have h2:=kO3 (n:=n) h1.2.2;simp only[chkM,h];rw[if_neg (by simp)];by_cases e:(seqM n links).length=n
 ·rw[if_neg (by omega),if_pos (h2.1 e)]
 ·rw[if_pos (by omega),if_neg (fun x=>e (h2.2 x))]
theorem kLJ {links:List Link} {j:Nat} (hj:j<links.length) (h: ∀i,i<j→links.getD j linkK.d≠links.getD i linkK.d): ¬links.getD j linkK.d∈links.take j:=by
 intro hm;obtain⟨i,hi,he⟩:=List.getElem_of_mem hm;simp only[qF] at hi;refine h i (by omega) ?_;rw[List.getElem_take] at he;rw[←he];simp[List.getD,show i<links.length by omega]
theorem kFl {links:List Link} {j k:Nat} (hj:j<links.length) (hk:k<j) (h:links.getD j linkK.d=links.getD k linkK.d): ¬links.Nodup:=by
 refine kFd links j hj ?_;rw[h];have:(links.take j)[k]'(by simp;omega)=links.getD k linkK.d:=by simp[List.getD,show k<links.length by omega]
 rw[←this];exact List.getElem_mem _
theorem kO5 {rows:List BR} {n i:Nat} {B:Option Addr} (hl:rows.length=n) (hi:i<n) (h: ∀a,a<i→(rows.getD a brD).ys=List.replicate n false): ∀a,a<i+1→((rows.set i ⟨B,n,List.replicate n false⟩).getD a brD).ys=List.replicate n false:=by
 intro a ha;by_cases e:i=a
 ·subst e;rw[kA1 _ _ _ _ (by omega)]
 ·rw[kA0 _ _ _ e];exact h a (by omega)
structure RmI (links:List Link) (n:Nat) (g:List Bool) (o:List Int):Prop where
 len:g.length=n
 cnt:o.length+g.count false=n
 run: ∃f,g.count false≤f∧kCX links n f g o=remM n links
theorem kLK {n:Nat} {links:List Link} (h:clM n links≠0):chkM n links=clM n links:=by rw[chkM,if_pos h]
theorem kJA {n i:Nat} {links:List Link} (h:clM n links=0) (hi:i<n) (hw:wI links n i i=true):chkM n links=18:=by
 rw[kEt h,if_neg];intro x;have:=x i hi;rw[hw] at this;exact absurd this (by simp)
theorem kJB {n:Nat} {links:List Link} (h:clM n links=0) (hw: ∀i,i<n→wI links n i i=false):chkM n links=0:=by rw[kEt h,if_pos hw]
end Go.Pw
namespace Go.Sv
section
variable {P:Program} {N:NN} {E:Env} {ty:TypeId} {pos:String} {af:Array Edge} {g:Option (Nat×Bool)} {x:Operand}
theorem Step.sliceArr {S:World→Prop} {t te:TypeId} {ze:Value} {sz by_ q b o:Nat} {dd:Option Nat} (hu:P.underlying t=some (.array q te)) (hi:TI P te ze sz by_) (hx:ev E x=some (.pointer (some ⟨b,o,none⟩))):
 Step P N E S ⟨dd,.slice t x none none none,ty,pos,af,g⟩ (.slice (some ⟨b,o,none⟩) q q):=fun a w hf _=>by
 have hal:P.arrayLen t=q:=by simp[Program.arrayLen,hu]
 have hel:P.elem t=te:=by simp[Program.elem,hu]
 have h:=run_sliceAt_array_all (P:=P) w t ⟨b,o,none⟩ (by rw[hal,hel];exact hu);rw[hal,hel] at h;simp only[hi.sizeOf,Result.andThen_ok] at h;have e1:slicedAt ⟨b,o,none⟩ 0 q q sz= .slice (some ⟨b,o,none⟩) q q:=by
  unfold slicedAt;simp[Addr.add]
 rw[e1] at h;simp only[execOp,hf.ev hx,Option.map_none,Sem.run_bind,h,Result.andThen_ok,Sem.run_pure]
end
theorem Hp.cellsO {I0:Ids} {w0 w:World} {L:List Assn} (h:Hp I0 w0 L w) (k o:Nat) (vs:List Value) {b:Nat} {cs:Array Value} {t:TypeId} {fz:Nat×Nat} (hk:L[k]?=some (Blk b (.cells cs t fz))) (hv:(cs.toList.drop o).take vs.length=vs):
 ∀j v,vs[j]?=some v→w.cell? ⟨b,o+j,none⟩=some v:=fun j v hj=>by
 rw[kAA (h.blk k hk)];rw[←hv,List.getElem?_take] at hj;split at hj
 ·rw[List.getElem?_drop] at hj;simpa using hj
 ·cases hj
end Go.Sv
namespace Go.Pw
open Go.Sv Go.Rails Go.Dg
structure PDv where
 par:Int
 r0:Hd
 r1:Hd
 r2:Hd
 r3:Hd
 d0:Int
 d1:Int
 d2:Int
 d3:Int
 d4:Int
 d5:Int
 wd:Int
 ws:Int
def hd0:Hd:=⟨none,0,[]⟩
def pd0:PDv:=⟨0,hd0,hd0,hd0,hd0,0,0,0,0,0,0,0,0⟩
def PDv.rl (d:PDv):Nat→Hd
 |0=>d.r0
 |1=>d.r1
 |2=>d.r2
 |_=>d.r3
def PDv.dp (d:PDv):Nat→Int
 |0=>d.d0
 |1=>d.d1
 |2=>d.d2
 |3=>d.d3
 |4=>d.d4
 |_=>d.d5
def PDv.dl (d:PDv):List Int:=[d.d0,d.d1,d.d2,d.d3,d.d4,d.d5]
def sl (h:Hd):Value:= .slice h.A h.ys.length h.c
def pdC (d:PDv):List Value:=[.int .i64 d.par,.slice d.r0.A d.r0.ys.length d.r0.c,.slice d.r1.A d.r1.ys.length d.r1.c,.slice d.r2.A d.r2.ys.length d.r2.c,.slice d.r3.A d.r3.ys.length d.r3.c,.int .i64 d.d0,.int .i64 d.d1,.int .i64 d.d2,.int .i64 d.d3,.int .i64 d.d4,.int .i64 d.d5,.int .i64 d.wd,.int .i64 d.ws]
def pdK:Enc PDv where
 f:=pdC
 sz:=13
 d:=pd0
 len _:=rfl
 pos:=by decide
 one r v hv:=by simp[pdC] at hv;rcases hv with rfl|rfl|rfl|rfl|rfl|rfl|rfl|rfl|rfl|rfl|rfl|rfl|rfl<;>rfl
theorem kGW (d:PDv): ∀ {k:Nat},k<4→(pdC d).toArray.toList[0+1+k* 1]?=some (.slice (d.rl k).A (d.rl k).ys.length (d.rl k).c)
 |0,_=>rfl
 |1,_=>rfl
 |2,_=>rfl
 |3,_=>rfl
 |k+4,h=>by omega
theorem kED (d:PDv): ∀ {k:Nat},k<6→(pdC d).toArray.toList[0+5+k* 1]?=some (.int .i64 (d.dp k))
 |0,_=>rfl
 |1,_=>rfl
 |2,_=>rfl
 |3,_=>rfl
 |4,_=>rfl
 |5,_=>rfl
 |k+6,h=>by omega
def ascP (ys:List Int):Prop:= ∀i,i<ys.length→0<i→ys.getD (i-1) (intK .i64).d<ys.getD i (intK .i64).d
def srtP (ys:List Int):Prop:= ∀i,i<ys.length→0<i→ys.getD (i-1) (intK .i64).d≤ys.getD i (intK .i64).d
def rngP (m:Int) (ys:List Int):Prop:= ∀i,i<ys.length→0≤ys.getD i (intK .i64).d∧ys.getD i (intK .i64).d<m
instance(ys:List Int):Decidable (ascP ys):=inferInstanceAs (Decidable (∀i,i<ys.length→0<i→ys.getD (i-1) (intK .i64).d<ys.getD i (intK .i64).d))
instance(ys:List Int):Decidable (srtP ys):=inferInstanceAs (Decidable (∀i,i<ys.length→0<i→ys.getD (i-1) (intK .i64).d≤ys.getD i (intK .i64).d))
instance(m:Int) (ys:List Int):Decidable (rngP m ys):=inferInstanceAs (Decidable (∀i,i<ys.length→0≤ys.getD i (intK .i64).d∧ys.getD i (intK .i64).d<m))
theorem kJC {ys:List Int} (h:ascP ys): ∀d i,i+d<ys.length→ys.getD i (intK .i64).d+d≤ys.getD (i+d) (intK .i64).d
 |0,i,_=>by simp
 |d+1,i,hd=>by
  have h1:=kJC h d i (by omega);have h2:=h (i+d+1) (by omega) (by omega);rw[show i+d+1-1=i+d by omega] at h2;rw[show i+(d+1)=i+d+1 by omega];omega
theorem kO6 {ys:List Int} {m:Int} (h:ascP ys):rngP m ys↔(0<ys.length→0≤ys.getD 0 (intK .i64).d∧ys.getD (ys.length-1) (intK .i64).d<m):=by
 constructor
 ·intro hr h0;exact⟨(hr 0 h0).1,(hr _ (by omega)).2⟩
 ·intro he i hi;have:=he (by omega);have h1:=kJC h i 0 (by omega);have h2:=kJC h (ys.length-1-i) i (by omega);rw[Nat.zero_add] at h1;rw[show i+(ys.length-1-i)=ys.length-1 by omega] at h2;omega
def kCE (d:PDv) (m:Int):Prop:= ∀k,k<4→ascP (d.rl k).ys∧rngP m (d.rl k).ys
def kAb (d:PDv):Prop:=d.d0=0∧srtP d.dl∧d.d5≤4
instance(d:PDv) (m:Int):Decidable (kCE d m):=inferInstanceAs (Decidable (∀k,k<4→ascP (d.rl k).ys∧rngP m (d.rl k).ys))
instance(d:PDv):Decidable (kAb d):=inferInstanceAs (Decidable (_∧_∧_))
def PDv.ok (d:PDv) (i m:Int):Prop:=(-1≤d.par∧d.par<i)∧kCE d m∧kAb d∧(0≤d.ws∧d.ws≤4)∧0≤d.wd∧d.wd≤3
instance(d:PDv) (i m:Int):Decidable (d.ok i m):=inferInstanceAs (Decidable (_∧_∧_∧_∧_))
theorem kCb (d:PDv):kAb d↔d.d0=0∧ ∀k,k<6→(0≤d.dp k∧d.dp k≤4)∧(0<k→d.dp (k-1)≤d.dp k):=by
 have e:srtP d.dl↔d.d0≤d.d1∧d.d1≤d.d2∧d.d2≤d.d3∧d.d3≤d.d4∧d.d4≤d.d5:=by
  constructor
  ·intro h;exact⟨h 1 (by show 1<6;decide) (by decide),h 2 (by show 2<6;decide) (by decide),h 3 (by show 3<6;decide) (by decide),h 4 (by show 4<6;decide) (by decide),h 5 (by show 5<6;decide) (by decide)⟩
  ·rintro⟨h1,h2,h3,h4,h5⟩ i hi hp;have hi:i<6:=hi
   match i,hi,hp with
   |1,_,_=>exact h1
   |2,_,_=>exact h2
   |3,_,_=>exact h3
   |4,_,_=>exact h4
   |5,_,_=>exact h5
   |0,_,hp=>omega
   |i+6,hi,_=>omega
 unfold kAb;rw[e];constructor
 ·rintro⟨h0,⟨h1,h2,h3,h4,h5⟩,h6⟩;refine⟨h0,fun k hk=>?_⟩
  match k,hk with
  |0,_=>exact⟨⟨by show 0≤d.d0;omega,by show d.d0≤4;omega⟩,fun h=>by omega⟩
  |1,_=>exact⟨⟨by show 0≤d.d1;omega,by show d.d1≤4;omega⟩,fun _=>h1⟩
  |2,_=>exact⟨⟨by show 0≤d.d2;omega,by show d.d2≤4;omega⟩,fun _=>h2⟩
  |3,_=>exact⟨⟨by show 0≤d.d3;omega,by show d.d3≤4;omega⟩,fun _=>h3⟩
  |4,_=>exact⟨⟨by show 0≤d.d4;omega,by show d.d4≤4;omega⟩,fun _=>h4⟩
  |5,_=>exact⟨⟨by show 0≤d.d5;omega,h6⟩,fun _=>h5⟩
  |k+6,hk=>omega
 ·rintro⟨h0,h⟩;exact⟨h0,⟨(h 1 (by decide)).2 (by decide),(h 2 (by decide)).2 (by decide),(h 3 (by decide)).2 (by decide),(h 4 (by decide)).2 (by decide),(h 5 (by decide)).2 (by decide)⟩,(h 5 (by decide)).1.2⟩
def chkD (ds:List PDv) (m:Int):Int:=if (64:Int)<ds.length∨m<0∨64<m then 1 else if ∀i,i<ds.length→(ds.getD i pdK.d).ok i m then 0 else 1
theorem kC0 {ds:List PDv} {m:Int} (h:(64:Int)<ds.length∨m<0∨64<m):chkD ds m=1:=by rw[chkD,if_pos h]
theorem kAu {ds:List PDv} {m:Int} {i:Nat} (hi:i<ds.length) (h: ¬(ds.getD i pdK.d).ok i m):chkD ds m=1:=by
 unfold chkD;split
 ·rfl
 ·rw[if_neg (fun x=>h (x i hi))]
theorem kGX {ds:List PDv} {m:Int} (h: ¬((64:Int)<ds.length∨m<0∨64<m)) (h2: ∀i,i<ds.length→(ds.getD i pdK.d).ok i m):chkD ds m=0:=by rw[chkD,if_neg h,if_pos h2]
theorem kJD {ds:List PDv} {m:Int} (h:chkD ds m=0):ds.length≤64∧(0≤m∧m≤64)∧ ∀i,i<ds.length→(ds.getD i pdK.d).ok i m:=by
 unfold chkD at h;split at h
 ·exact absurd h (by decide)
 ·split at h
  ·rename_i h1 h2;exact⟨by omega,by omega,h2⟩
  ·exact absurd h (by decide)
def PDv.rs (d:PDv) (w:World):Prop:= ∀k,k<4→RS w (intK .i64) (d.rl k).A (d.rl k).ys
def PDv.sm (d:PDv) (b:Nat):Prop:= ∀k,k<4→(d.rl k).ys.length≤b
theorem RS.inBlk {w:World} {b o:Nat} {cs:Array Value} {t:TypeId} {fz:Nat×Nat} {ys:List Int} (h:w.heap[b]?=some (.cells cs t fz)) (hc: ∀j v,(flat (intK .i64) ys)[j]?=some v→cs[o+j]?=some v):RS w (intK .i64) (some ⟨b,o,none⟩) ys:=
 .inr ⟨cs,t,fz,rfl,h,hc⟩
theorem kLL (d:PDv): ∀j v,(flat (intK .i64) d.dl)[j]?=some v→(pdC d).toArray[5+j]?=some v:=by
 intro j v h
 match j,h with
 |0,h=>exact h
 |1,h=>exact h
 |2,h=>exact h
 |3,h=>exact h
 |4,h=>exact h
 |5,h=>exact h
 |j+6,h=>cases h
end Go.Pw
namespace Go.Sv
theorem Hp.nilBig {I0:Ids} {w0 w:World} {L:List Assn} {β:Type} {F:β→Assn} (h:Hp I0 w0 L w):Hp I0 w0 (L++[Big F []]) w:=by
 obtain⟨I,hs,hx,hi⟩:=h;exact⟨I,Sep.append.2 ⟨I,fun _=>False,fun x=>by simp,fun _ _ h=>h,hs,fun _=>False,fun _=>False,fun x=>by simp,fun _ h=>h.elim,(fun _ h=>h:Sep [] (fun _=>False) w),fun _ h=>h⟩,hx,hi⟩
end Go.Sv
namespace Go.Pw
open Go.Sv Go.Rails Go.Dg
def PDv.setR (d:PDv) (k:Nat) (h:Hd):PDv:=match k with
 |0=>{d with r0:=h}
 |1=>{d with r1:=h}
 |2=>{d with r2:=h}
 |_=>{d with r3:=h}
def PDv.rls (d:PDv):List Hd:=[d.r0,d.r1,d.r2,d.r3]
theorem kEz (d:PDv): ∀ {k:Nat} (h:Hd),k<4→((pdC d).toArray.toList.take (0+1+k* 1)++[Value.slice h.A h.ys.length h.c]++(pdC d).toArray.toList.drop (0+1+k* 1+[Value.slice h.A h.ys.length h.c].length)).toArray=(pdC (d.setR k h)).toArray
 |0,_,_=>rfl
 |1,_,_=>rfl
 |2,_,_=>rfl
 |3,_,_=>rfl
 |k+4,_,h=>by omega
structure Cpy (d e:PDv) (k:Nat):Prop where
 par:e.par=d.par
 dl:e.dl=d.dl
 wd:e.wd=d.wd
 ws:e.ws=d.ws
 ys: ∀j,j<4→(e.rl j).ys=(d.rl j).ys
 old: ∀j,k≤j→j<4→e.rl j=d.rl j
theorem Cpy.refl (d:PDv):Cpy d d 0:=⟨rfl,rfl,rfl,rfl,fun _ _=>rfl,fun _ _ _=>rfl⟩
theorem Cpy.step {d e:PDv}: ∀ {k:Nat},Cpy d e k→k<4→ ∀ {A:Option Addr} {c:Nat},Cpy d (e.setR k ⟨A,c,(d.rl k).ys⟩) (k+1):=by
 intro k h hk A c
 match k,hk,h with
 |0,_,h=>exact⟨h.par,h.dl,h.wd,h.ws,fun j hj=>by match j,hj with|0,_=>rfl|1,_=>exact h.ys 1 (by decide)|2,_=>exact h.ys 2 (by decide)|3,_=>exact h.ys 3 (by decide)|j+4,hj=>omega,fun j h1 hj=>by match j,hj,h1 with|1,_,_=>exact h.old 1 (by decide) (by decide)|2,_,_=>exact h.old 2 (by decide) (by decide)|3,_,_=>exact h.old 3 (by decide) (by decide)|0,_,h1=>omega|j+4,hj,_=>omega⟩
 |1,_,h=>exact⟨h.par,h.dl,h.wd,h.ws,fun j hj=>by match j,hj with|0,_=>exact h.ys 0 (by decide)|1,_=>rfl|2,_=>exact h.ys 2 (by decide)|3,_=>exact h.ys 3 (by decide)|j+4,hj=>omega,fun j h1 hj=>by match j,hj,h1 with|2,_,_=>exact h.old 2 (by decide) (by decide)|3,_,_=>exact h.old 3 (by decide) (by decide)|0,_,h1=>omega|1,_,h1=>omega|j+4,hj,_=>omega⟩
 |2,_,h=>exact⟨h.par,h.dl,h.wd,h.ws,fun j hj=>by match j,hj with|0,_=>exact h.ys 0 (by decide)|1,_=>exact h.ys 1 (by decide)|2,_=>rfl|3,_=>exact h.ys 3 (by decide)|j+4,hj=>omega,fun j h1 hj=>by match j,hj,h1 with|3,_,_=>exact h.old 3 (by decide) (by decide)|0,_,h1=>omega|1,_,h1=>omega|2,_,h1=>omega|j+4,hj,_=>omega⟩
 |3,_,h=>exact⟨h.par,h.dl,h.wd,h.ws,fun j hj=>by match j,hj with|0,_=>exact h.ys 0 (by decide)|1,_=>exact h.ys 1 (by decide)|2,_=>exact h.ys 2 (by decide)|3,_=>rfl|j+4,hj=>omega,fun j h1 hj=>by omega⟩
 |k+4,hk,_=>omega
theorem kHV (e:PDv) (h:Hd): ∀ {k:Nat},k<4→(e.setR k h).rls.take (k+1)=e.rls.take k++[h]
 |0,_=>rfl
 |1,_=>rfl
 |2,_=>rfl
 |3,_=>rfl
 |k+4,h=>by omega
def pdF (d:PDv):Assn:=Big hdF d.rls
structure TT where
 b:Nat
 dA:Option Addr
 dc:Nat
 es:List PDv
 sA:Option Addr
 sc:Nat
 st:List Int
 rb:Nat
 ra:RA
 rs:St
 clk:Int
def ttL (t:TT):List Assn:=[Blk t.b (.cells #[.slice t.dA t.es.length t.dc,.slice t.sA t.st.length t.sc,.pointer (some ⟨t.rb,0,none⟩),.int .u64 t.clk] 225 (0,0)),OS 57 pdK t.dA t.dc t.es,Big pdF t.es,OS 3 (intK .i64) t.sA t.sc t.st]++robj 348 t.rb t.ra t.rs
structure TG where
 es:List PDv
 dA:Option Addr
 dc:Nat
 sA:Option Addr
 sc:Nat
 st:List Int
def Cpys (ds es:List PDv):Prop:= ∀j,j<es.length→Cpy (ds.getD j pdK.d) (es.getD j pdK.d) 4
theorem Cpys.snoc {ds es:List PDv} {e:PDv} (h:Cpys ds es) (hc:Cpy (ds.getD es.length pdK.d) e 4):Cpys ds (es++[e]):=by
 intro j hj;rw[qD] at hj;by_cases e1:j<es.length
 ·have:=h j e1;simpa[List.getD,qP e1] using this
 ·have:j=es.length:=by simp at hj;omega
  subst this;simpa[List.getD] using hc
def newT (ds:List PDv) (rs:List Rail):Int:=if chkD ds rs.length≠0 then chkD ds rs.length else newE rs
structure TR27 where
 b:Nat
 A:Option Addr
 n:Nat
 c:Nat
 sA:Option Addr
 sc:Nat
 st:List Int
 rb:Nat
 ra:RA
 rs:St
 clk:Int
def trL (t:TR27):List Assn:=[Blk t.b (.cells #[.slice t.A t.n t.c,.pointer (some ⟨t.rb,0,none⟩),.slice t.sA t.st.length t.sc,.int .u64 t.clk] 295 (0,0)),OS 3 (intK .i64) t.sA t.sc t.st]++robj 344 t.rb t.ra t.rs
theorem kEU {ds:List PDv} {rs:List Rail} (h: ¬chkD ds rs.length≠0):newT ds rs=kAM rs:=by rw[newT,if_neg h,kJ1]
structure IDv where
 par:Int
 sup:Hd
 dly:Int
def idD:IDv:=⟨0,⟨none,0,[]⟩,0⟩
def idK:Enc IDv where
 f d:=[.int .i64 d.par,.slice d.sup.A d.sup.ys.length d.sup.c,.int .u64 d.dly]
 sz:=3
 d:=idD
 len _:=rfl
 pos:=by decide
 one r v hv:=by simp at hv;rcases hv with rfl|rfl|rfl<;>rfl
def lk1 (i:Nat) (d:IDv) (k:Nat):List Link:=(if 0≤d.par then [⟨i,d.par⟩] else [])++(d.sup.ys.take k).map fun s=>⟨i,s⟩
def lkI (ids:List IDv):Nat→List Link
 |0=>[]
 |i+1=>lkI ids i++lk1 i (ids.getD i idK.d) (ids.getD i idK.d).sup.ys.length
def badI (n:Int) (d:IDv):Prop:=d.par< -1∨n≤d.par∨1048576<d.dly∨(1024:Int)<d.sup.ys.length
instance(n:Int) (d:IDv):Decidable (badI n d):=inferInstanceAs (Decidable (_∨_∨_∨_))
def newI (ids:List IDv):Int:=if (64:Int)<ids.length∨ ∃i,i<ids.length∧badI ids.length (ids.getD i idK.d) then 1 else chkM ids.length (lkI ids ids.length)
theorem kHW {ids:List IDv} (h:(64:Int)<ids.length):newI ids=1:=by rw[newI,if_pos (.inl h)]
theorem kB8 {ids:List IDv} {i:Nat} (hi:i<ids.length) (h:badI ids.length (ids.getD i idK.d)):newI ids=1:=by rw[newI,if_pos (.inr ⟨i,hi,h⟩)]
theorem kC1 {ids:List IDv} (h: ¬(64:Int)<ids.length) (h2: ∀i,i<ids.length→ ¬badI ids.length (ids.getD i idK.d)):newI ids=chkM ids.length (lkI ids ids.length):=by
 rw[newI,if_neg];rintro(x|⟨i,hi,x⟩)
 ·exact h x
 ·exact h2 i hi x
theorem kHX {n:Nat} {links:List Link} (h:invB n links=true):chkM n links=1:=by
 have h1:=kJ9 h;rw[chkM,if_pos (by rw[h1];decide),h1]
theorem kJM {n:Nat} {links:List Link} (h:(1024:Int)<links.length):chkM n links=1:=kHX (kDQ (.inr (.inr h))).symm
theorem kHY {n:Nat} {links:List Link} {l:Link} (hm:l∈links) (h: ¬okL n l):chkM n links=1:=by
 obtain⟨j,hj,he⟩:=List.getElem_of_mem hm;exact kHX (kDk (j:=j) hj (by simpa[List.getD,hj,he] using h)).symm
theorem kJN {ids:List IDv} {l:Link}: ∀ {i m:Nat},i<m→l∈lk1 i (ids.getD i idK.d) (ids.getD i idK.d).sup.ys.length→l∈lkI ids m
 |i,0,h,_=>by omega
 |i,m+1,h,hl=>by
  rw[lkI,List.mem_append];by_cases e:i=m
  ·subst e;exact .inr hl
  ·exact .inl (kJN (by omega) hl)
theorem kHZ {ids:List IDv} {i k:Nat} (hi:i<ids.length) (hk:k<(ids.getD i idK.d).sup.ys.length) (h:(ids.getD i idK.d).sup.ys.getD k (intK .i64).d<0∨ids.length≤(ids.getD i idK.d).sup.ys.getD k (intK .i64).d):newI ids=1:=by
 unfold newI;split
 ·rfl
 ·refine kHY (l:=⟨i,(ids.getD i idK.d).sup.ys.getD k (intK .i64).d⟩) (kJN hi ?_) (by intro x;unfold okL at x;simp only at x;omega);rw[lk1,List.mem_append];right;rw[List.mem_map];refine⟨(ids.getD i idK.d).sup.ys.getD k (intK .i64).d,?_,rfl⟩;rw[List.take_length];generalize (ids.getD i idK.d).sup.ys=ys at hk ⊢;rw[show ys.getD k (intK .i64).d=ys[k] by simp[List.getD,hk]];exact List.getElem_mem _
theorem kCJ (i:Nat) (d:IDv) (k:Nat):(lk1 i d k).length≤1+k:=by
 simp only[lk1,qD,qE,qF];split<;>simp<;>omega
theorem kBW {i:Nat} {d:IDv} {k:Nat} (hk:k<d.sup.ys.length):lk1 i d (k+1)=lk1 i d k++[⟨i,d.sup.ys.getD k (intK .i64).d⟩]:=by
 rw[lk1,lk1,List.take_succ_eq_append_getElem hk,qN,←qL];congr 1;simp[List.getD,hk]
theorem kF0 {i:Nat} {d:IDv} (h:0≤d.par):lk1 i d 0=[⟨i,d.par⟩]:=by simp[lk1,h]
theorem kF1 {i:Nat} {d:IDv} (h: ¬0≤d.par):lk1 i d 0=[]:=by simp[lk1,h]
theorem kCK {ids:List IDv}: ∀ {m:Nat},(∀i,i<m→(ids.getD i idK.d).sup.ys.length≤1024)→(lkI ids m).length≤m* 1025
 |0,_=>by simp[lkI]
 |m+1,h=>by
  have h1:=kCK (m:=m) fun i hi=>h i (by omega);have h2:=kCJ m (ids.getD m idK.d) (ids.getD m idK.d).sup.ys.length;have h3:=h m (by omega);rw[lkI,qD];omega
end Go.Pw
namespace Go.Pw
open Go.Sv Go.Rails
def alnP (l:List Int):Prop:= ∀i,i<l.length→(l.getD i (intK .u64).d).tmod 256=0
instance(l:List Int):Decidable (alnP l):=inferInstanceAs (Decidable (∀i,i<l.length→(l.getD i (intK .u64).d).tmod 256=0))
def regP (x:Int):Prop:=x.tmod 4=0∧x<256
instance(x:Int):Decidable (regP x):=inferInstanceAs (Decidable (_∧_))
end Go.Pw
namespace Go.Pw
open Go.Sv Go.Drv
def fitT (t:Tr):Prop:=regP t.gd.reg∧ ∀k,k<t.ops.length→regP (t.ops.getD k roK.d).reg
instance(t:Tr):Decidable (fitT t):=inferInstanceAs (Decidable (_∧ ∀k,k<t.ops.length→regP (t.ops.getD k roK.d).reg))
def fitD (ts:List Tr):Prop:= ∀i,i<ts.length→fitT (ts.getD i tr0)
instance(ts:List Tr):Decidable (fitD ts):=inferInstanceAs (Decidable (∀i,i<ts.length→fitT (ts.getD i tr0)))
theorem kN1 (hs:List TH) {i:Nat} (hi:i<hs.length):(hs.map (·.t)).getD i tr0=(hs.getD i thK.d).t:=by simp[List.getD,hi]
theorem kJO {hs:List TH} (h: ∀i,i<hs.length→fitT (hs.getD i thK.d).t):fitD (hs.map (·.t)):=fun i hi=>by rw[qE] at hi;rw[kN1 hs hi];exact h i hi
theorem kD4 {hs:List TH} (h:fitD (hs.map (·.t))) {i:Nat} (hi:i<hs.length):fitT (hs.getD i thK.d).t:=by
 have:=h i (by rw[qE];exact hi);rwa [kN1 hs hi] at this
theorem kDo {s:Bs} (h:(kAH s).1=0):Go.Drv.chkM (kAH s).2=0:=by
 unfold kAH at h ⊢;cases hr:runM ps0 (kA4 s) with
 |none=>rw[hr] at h;exact absurd h (by decide)
 |some p=>
  rw[hr] at h;simp only at h ⊢;unfold finM at h ⊢;by_cases h1:p.named=false
  ·rw[if_pos h1] at h;exact absurd h (by decide)
  ·rw[if_neg h1] at h ⊢;by_cases h2: ¬p.ss.Nodup
   ·rw[if_pos h2] at h;exact absurd h (by decide)
   ·rw[if_neg h2] at h ⊢;cases hl:kB1 p.ss p.ts p.tg with
    |none=>rw[hl] at h;simp at h
    |some ts=>
     rw[hl] at h;simp only at h ⊢;by_cases h3:Go.Drv.chkM ⟨p.name,p.ss,ts⟩=0
     ·rw[if_pos h3];exact h3
     ·rw[if_neg h3] at h;exact absurd h h3
end Go.Pw
namespace Go.Pw
open Go.Sv Go.Rails
structure BDv where
 fn:Int
 pw:PDv
 il:IDv
 drv:Bs
def bdC (d:BDv):List Value:=[.int .i64 d.fn,.int .i64 d.pw.par,.slice d.pw.r0.A d.pw.r0.ys.length d.pw.r0.c,.slice d.pw.r1.A d.pw.r1.ys.length d.pw.r1.c,.slice d.pw.r2.A d.pw.r2.ys.length d.pw.r2.c,.slice d.pw.r3.A d.pw.r3.ys.length d.pw.r3.c,.int .i64 d.pw.d0,.int .i64 d.pw.d1,.int .i64 d.pw.d2,.int .i64 d.pw.d3,.int .i64 d.pw.d4,.int .i64 d.pw.d5,.int .i64 d.pw.wd,.int .i64 d.pw.ws,.int .i64 d.il.par,.slice d.il.sup.A d.il.sup.ys.length d.il.sup.c,.int .u64 d.il.dly,.string (bs d.drv)]
def bd0:BDv:=⟨0,pd0,idD,[]⟩
def bdK:Enc BDv where
 f:=bdC
 sz:=18
 d:=bd0
 len _:=rfl
 pos:=by decide
 one r v hv:=by simp[bdC] at hv;rcases hv with rfl|rfl|rfl|rfl|rfl|rfl|rfl|rfl|rfl|rfl|rfl|rfl|rfl|rfl|rfl|rfl|rfl|rfl<;>rfl
abbrev ilL (ds:List BDv):List IDv:=ds.map (·.il)
theorem kEF (ds:List BDv) {i:Nat} (hi:i<ds.length):(ilL ds).getD i idK.d=(ds.getD i bdK.d).il:=by simp[ilL,List.getD,hi]
theorem kF2 (ds:List BDv) {i:Nat} (hi:i<ds.length):lkI (ilL ds) (i+1)=lkI (ilL ds) i++lk1 i (ds.getD i bdK.d).il (ds.getD i bdK.d).il.sup.ys.length:=by rw[lkI,kEF ds hi]
structure LG where
 A:Option Addr
 c:Nat
theorem kBX {ys:List Int} {x d:Int} {i:Nat}:(ys++[x]).getD i d=if i<ys.length then ys.getD i d else if i=ys.length then x else d:=by
 by_cases h:i<ys.length
 ·rw[if_pos h];simp[List.getD,qP h]
 ·rw[if_neg h];by_cases e:i=ys.length
  ·rw[if_pos e];subst e;simp[List.getD]
  ·rw[if_neg e];rw[List.getD,List.getElem?_eq_none (by simp;omega)];rfl
theorem kLR {ys:List Int} {v:Nat} (h:rngP v ys):rngP ((v+1:Nat):Int) (ys++[(v:Int)]):=by
 intro i hi;rw[qD,List.length_singleton] at hi;rw[kBX];by_cases e:i<ys.length
 ·rw[if_pos e];have:=h i e;omega
 ·rw[if_neg e,if_pos (by omega)];omega
theorem kQR {ys:List Int} {v:Nat} (h:rngP v ys):rngP ((v+1:Nat):Int) ys:=fun i hi=>by have:=h i hi;omega
theorem kN2 {ys:List Int} {v m:Nat} (h:rngP v ys) (hv:v≤m):rngP m ys:=fun i hi=>by have:=h i hi;omega
theorem kLS {ys:List Int} {v:Nat} (h:ascP ys) (hr:rngP v ys):ascP (ys++[(v:Int)]):=by
 intro i hi hp;rw[qD,List.length_singleton] at hi;rw[kBX,kBX,if_pos (by omega)];by_cases e:i<ys.length
 ·rw[if_pos e];exact h i e hp
 ·rw[if_neg e,if_pos (by omega)];have:=hr (i-1) (by omega);omega
def plcM (k:Nat) (a:Int):Int:=1048576+256* (((k:Int)* 5+modM a 12)%12)
theorem kQS (k:Nat) (a:Int):1048576≤plcM k a∧plcM k a≤1051392∧(plcM k a)%256=0:=by unfold plcM;omega
end Go.Pw
namespace Go.Sv
theorem RS.cellAt {α:Type} {K:Enc α} {w:World} {A:Option Addr} {ys:List α} (h:RS w K A ys) (m j:Nat) {o:Nat} {v:Value} (hm:m<ys.length) (ho:o=of A+m* K.sz+j) (hv:(K.f (ys.getD m K.d))[j]?=some v):w.cell? ⟨bk A,o,none⟩=some v:=by
 subst ho;exact h.cell hm hv
end Go.Sv
namespace Go.Pw
open Go.Sv Go.Drv
theorem kSO (d:BDv): ∀ {k:Nat},k<4→(bdC d)[2+k]?=some (.slice (d.pw.rl k).A (d.pw.rl k).ys.length (d.pw.rl k).c)
 |0,_=>rfl
 |1,_=>rfl
 |2,_=>rfl
 |3,_=>rfl
 |k+4,h=>by omega
def dhK:Enc DH where
 f d:=[.string (bs d.name),.slice d.sA d.ss.length d.sc,.slice d.tA d.hs.length d.tc]
 sz:=3
 d:=⟨[],none,0,[],none,0,[]⟩
 len _:=rfl
 pos:=by decide
 one r v hv:=by simp at hv;rcases hv with rfl|rfl|rfl<;>rfl
def BDv.few (d:BDv):Prop:=(∀k,k<4→(d.pw.rl k).ys.length≤20)∧d.il.sup.ys.length≤20∧d.drv.length≤200
def Few (ds:List BDv) (drs:List DH) (n:Nat):Prop:=(ds.length≤8∧drs.length≤8∧n≤20)∧(∀i,i<ds.length→(ds.getD i bdK.d).few)∧ ∀i,i<drs.length→(drs.getD i dhK.d).hs.length≤40∧(drs.getD i dhK.d).ss.length≤40
end Go.Pw
namespace Go.Pw
open Go.Sv Go.Rails
structure RM28 where
 b:Nat
 A:Option Addr
 n:Nat
 c:Nat
 lA:Option Addr
 lc:Nat
 lk:List Link
 oA:Option Addr
 oc:Nat
 on:List Bool
 uA:Option Addr
 uc:Nat
 us:List Int
 sA:Option Addr
 sc:Nat
 si:List Int
 clk:Int
def rmL (t:RM28):List Assn:=[Blk t.b (.cells #[.slice t.A t.n t.c,.slice t.lA t.lk.length t.lc,.slice t.oA t.on.length t.oc,.slice t.uA t.us.length t.uc,.slice t.sA t.si.length t.sc,.int .u64 t.clk] 297 (0,0)),OS 4 bolK t.oA t.oc t.on,OS 3 (intK .i64) t.uA t.uc t.us,OS 41 (intK .u64) t.sA t.sc t.si,OS 211 linkK t.lA t.lc t.lk]
structure MSt where
 sup:Hd
 con:Hd
 dly:Int
 act:Bool
 use:Int
 sin:Int
def ms0:MSt:=⟨hd0,hd0,0,false,0,0⟩
def MSt.wD (m:MSt) (x:Int):MSt:=⟨m.sup,m.con,x,m.act,m.use,m.sin⟩
def MSt.wS (m:MSt) (x:Hd):MSt:=⟨x,m.con,m.dly,m.act,m.use,m.sin⟩
def MSt.wC (m:MSt) (x:Hd):MSt:=⟨m.sup,x,m.dly,m.act,m.use,m.sin⟩
def msK:Enc MSt where
 f m:=[.slice m.sup.A m.sup.ys.length m.sup.c,.slice m.con.A m.con.ys.length m.con.c,.int .u64 m.dly,.bool m.act,.int .i64 m.use,.int .u64 m.sin]
 sz:=6
 d:=ms0
 len _:=rfl
 pos:=by decide
 one r v hv:=by simp at hv;rcases hv with rfl|rfl|rfl|rfl|rfl|rfl<;>rfl
def msF (m:MSt):Assn:=Bun [hdF m.sup,hdF m.con]
theorem kQT {I0:Ids} {w0 w:World} {L:List Assn} {ms:List MSt} {m:Nat} (h:Hp I0 w0 (L++[Big msF ms]) w) (hm:m<ms.length):Hp I0 w0 (hdF (ms.getD m ms0).sup::hdF (ms.getD m ms0).con::(L++[Big msF (ms.eraseIdx m)])) w:=by
 have h1:Hp I0 w0 (Big msF ms::L) w:=h.perm (qi _ _);have h2:=h1.focus (k:=0) (m:=m) ms0 rfl hm;exact Hp.unbun (M:=[hdF (ms.getD m ms0).sup,hdF (ms.getD m ms0).con]) h2
theorem kOI {I0:Ids} {w0 w:World} {L:List Assn} {ms:List MSt} {m:Nat} {a:MSt} (h:Hp I0 w0 (hdF a.sup::hdF a.con::(L++[Big msF (ms.eraseIdx m)])) w) (hm:m<ms.length):Hp I0 w0 (L++[Big msF (ms.set m a)]) w:=by
 have h1:Hp I0 w0 (msF a::(L++[Big msF (ms.eraseIdx m)])) w:=Hp.bun (M:=[hdF a.sup,hdF a.con]) h;have h2:=Hp.unfocus (L:=msF a::L) (k:=0) (hs:=ms) (m:=m) (h':=a) (F:=msF) h1 rfl hm;exact h2.perm (qi _ _).symm
def MSI (ids:List IDv) (links:List Link) (n i j k:Nat) (ms:List MSt):Prop:=ms.length=n∧ ∀s,s<n→(ms.getD s ms0).sup.ys=nbM (links.take j) false s∧(ms.getD s ms0).con.ys=nbM (links.take k) true s∧(ms.getD s ms0).dly=(if s<i then (ids.getD s idK.d).dly else 0)∧(ms.getD s ms0).act=false∧(ms.getD s ms0).use=0∧(ms.getD s ms0).sin=0
theorem MSI.base (ids:List IDv) (links:List Link) (n:Nat):MSI ids links n 0 0 0 (List.replicate n ms0):=by
 refine⟨qH,fun s hs=>?_⟩;have e:(List.replicate n ms0).getD s ms0=ms0:=by simp[List.getD,hs]
 rw[e];exact⟨rfl,rfl,rfl,rfl,rfl,rfl⟩
theorem MSI.step {ids:List IDv} {links:List Link} {n i j k i2 j2 k2 s:Nat} {ms:List MSt} {a:MSt} (h:MSI ids links n i j k ms) (hs:s<n) (ha:a.act=false∧a.use=0∧a.sin=0)
 (h0: ∀t,t<n→t≠s→nbM (links.take j2) false t=nbM (links.take j) false t∧nbM (links.take k2) true t=nbM (links.take k) true t∧(t<i2↔t<i))
 (h1:a.sup.ys=nbM (links.take j2) false s) (h2:a.con.ys=nbM (links.take k2) true s) (h3:a.dly=if s<i2 then (ids.getD s idK.d).dly else 0):MSI ids links n i2 j2 k2 (ms.set s a):=by
 refine⟨by rw[qI];exact h.1,fun t ht=>?_⟩;by_cases e:s=t
 ·subst e;rw[kA1 _ _ _ _ (by rw[h.1];exact hs)];exact⟨h1,h2,h3,ha⟩
 ·rw[kA0 _ _ _ e];obtain⟨g1,g2,g3,g4⟩:=h.2 t ht;obtain⟨f1,f2,f3⟩:=h0 t ht fun x=>e x.symm;refine⟨by rw[f1];exact g1,by rw[f2];exact g2,?_,g4⟩;rw[g3];by_cases x:t<i
  ·rw[if_pos x,if_pos (f3.2 x)]
  ·rw[if_neg x,if_neg fun y=>x (f3.1 y)]
theorem MSI.dly {ids:List IDv} {links:List Link} {n i:Nat} {ms:List MSt} (h:MSI ids links n i 0 0 ms) (hi:i<n):MSI ids links n (i+1) 0 0 (ms.set i ((ms.getD i msK.d).wD (ids.getD i idK.d).dly)):=by
 obtain⟨g1,g2,g3,g4⟩:=h.2 i hi;exact h.step hi g4 (fun t ht hne=>⟨rfl,rfl,by omega⟩) g1 g2 (by rw[if_pos (by omega)];rfl)
theorem kF3 {links:List Link} {j:Nat} (hj:j<links.length) (b:Bool) (t:Nat):nbM (links.take (j+1)) b t=nbM (links.take j) b t++(if (if b then (links.getD j linkK.d).sup else (links.getD j linkK.d).con)=(t:Int) then [if b then (links.getD j linkK.d).con else (links.getD j linkK.d).sup] else []):=by
 rw[kAJ links j linkK.d hj,kEk]
theorem MSI.supS {ids:List IDv} {links:List Link} {n i j k s:Nat} {ms:List MSt} (h:MSI ids links n i j k ms) (hj:j<links.length) (hc:(links.getD j linkK.d).con=s) (hs:s<n) (A:Option Addr) (c:Nat):MSI ids links n i (j+1) k (ms.set s ((ms.getD s msK.d).wS ⟨A,c,(ms.getD s msK.d).sup.ys++[(links.getD j linkK.d).sup]⟩)):=by
 obtain⟨g1,g2,g3,g4⟩:=h.2 s hs;refine h.step hs g4 (fun t ht hne=>⟨?_,rfl,Iff.rfl⟩) ?_ g2 g3
 ·rw[kF3 hj,hc];simp only[qX,if_false];rw[if_neg (by omega),qK]
 ·rw[kF3 hj,hc,←g1];simp only[qX,if_false,if_true];rfl
theorem MSI.conS {ids:List IDv} {links:List Link} {n i j k s:Nat} {ms:List MSt} (h:MSI ids links n i j k ms) (hj:k<links.length) (hc:(links.getD k linkK.d).sup=s) (hs:s<n) (A:Option Addr) (c:Nat):MSI ids links n i j (k+1) (ms.set s ((ms.getD s msK.d).wC ⟨A,c,(ms.getD s msK.d).con.ys++[(links.getD k linkK.d).con]⟩)):=by
 obtain⟨g1,g2,g3,g4⟩:=h.2 s hs;refine h.step hs g4 (fun t ht hne=>⟨rfl,?_,Iff.rfl⟩) g1 ?_ g3
 ·rw[kF3 hj,if_pos rfl,hc,if_neg (by omega),qK]
 ·rw[kF3 hj,if_pos rfl,hc,if_pos rfl,if_pos rfl,←g2];rfl
theorem MSI.len {ids:List IDv} {links:List Link} {n i j k s:Nat} {ms:List MSt} (h:MSI ids links n i j k ms) (hs:s<n):(ms.getD s msK.d).sup.ys.length≤links.length∧(ms.getD s msK.d).con.ys.length≤links.length:=⟨kHE (h.2 s hs).1,kHE (h.2 s hs).2.1⟩
theorem kOJ {ids:List IDv} {i:Nat} (h:0≤(ids.getD i idK.d).par):((lkI ids i).length:Int)+((ids.getD i idK.d).sup.ys.length:Int)+1=((lkI ids (i+1)).length:Int):=by rw[lkI,lk1,if_pos h];simp;omega
theorem kOK {ids:List IDv} {i:Nat} (h: ¬0≤(ids.getD i idK.d).par):((lkI ids i).length:Int)+((ids.getD i idK.d).sup.ys.length:Int)=((lkI ids (i+1)).length:Int):=by rw[lkI,lk1,if_neg h];simp
theorem kJP {ids:List IDv} (h: ¬(64:Int)<ids.length) (h2: ∀i,i<ids.length→ ¬badI ids.length (ids.getD i idK.d)) (h3:(1024:Int)<(lkI ids ids.length).length):newI ids=1:=(kC1 h h2).trans (kJM h3)
theorem kOL {n:Nat} {links:List Link} (h:chkM n links=0) {j:Nat} (hj:j<links.length):okL n (links.getD j linkK.d):=by
 by_cases e:okL n (links.getD j linkK.d)
 ·exact e
 ·exact absurd ((kHY (by simp[List.getD,hj]) e).symm.trans h) (by decide)
theorem kN3 {β:Type} {F:β→Assn} {hs hs':List β} (h:hs.map F=hs'.map F):Big F hs=Big F hs':=by
 have e:(Big F hs).sat=(Big F hs').sat:=by funext w I;show Sep (hs.map F) I w=Sep (hs'.map F) I w;rw[h]
 generalize Big F hs=X at e ⊢;generalize Big F hs'=Y at e ⊢;cases X;cases Y;simp only at e;subst e;rfl
theorem kQU {β:Type} {F:β→Assn} {hs:List β} {m:Nat} (d:β) {a:β} (hm:m<hs.length) (h:F a=F (hs.getD m d)):Big F (hs.set m a)=Big F hs:=by
 refine kN3 ?_;apply List.ext_getElem (by simp);intro i h1 h2;simp only[List.getElem_map,List.getElem_set];split
 ·rename_i e;subst e;rw[h];simp[List.getD,hm]
 ·rfl
theorem Hp.nilMs {I0:Ids} {w0 w:World} {A B C D:Assn} (h:Hp I0 w0 [A,B,C,D] w): ∀n,Hp I0 w0 [A,B,C,D,Big msF (List.replicate n ms0)] w
 |0=>Hp.nilBig (F:=msF) h
 |n+1=>by
  have h1:=((Hp.nilMs h n).nilOS (e:=3) (K:=intK .i64)).nilOS (e:=3) (K:=intK .i64);have h2:Hp I0 w0 [hdF hd0,hdF hd0,A,B,C,D,Big msF (List.replicate n ms0)] w:=h1.sel [5,5,0,0,0,0,0] rfl;have h3:Hp I0 w0 (msF ms0::[A,B,C,D,Big msF (List.replicate n ms0)]) w:=Hp.bun (M:=[hdF hd0,hdF hd0]) h2;have h4:Hp I0 w0 ([A,B,C,D,Big msF (List.replicate n ms0)]++[msF ms0]) w:=h3.sel [1,1,1,1,1,0] rfl;have h5:=Hp.bigSnoc (k:=4) h4 rfl;rw[List.replicate_succ'];exact h5
theorem kJQ {I0:Ids} {w0 w:World} {A B C D E G:Assn} {ms:List MSt} {m:Nat} (h:Hp I0 w0 [A,B,C,D,E,G,Big msF ms] w) (hm:m<ms.length):Hp I0 w0 [hdF (ms.getD m msK.d).sup,hdF (ms.getD m msK.d).con,A,B,C,D,E,G,Big msF (ms.eraseIdx m)] w:=kQT (L:=[A,B,C,D,E,G]) h hm
theorem kHa {I0:Ids} {w0 w:World} {A B C D E:Assn} {ms:List MSt} {m:Nat} (a:MSt) (h:Hp I0 w0 [hdF a.sup,hdF a.con,A,B,C,D,E,Big msF (ms.eraseIdx m)] w) (hm:m<ms.length):Hp I0 w0 [A,B,C,D,E,Big msF (ms.set m a)] w:=kOI (L:=[A,B,C,D,E]) h hm
end Go.Pw
namespace Go.Pw
open Go.Sv Go.Rails Go.Dg
theorem kJW {n:Nat} {links:List Link} (h:chkM n links=0):(seqM n links).length=n:=by
 unfold chkM at h;by_cases e:clM n links≠0
 ·rw[if_pos e] at h;exact absurd h e
 ·rw[if_neg e] at h;by_cases e2:((seqM n links).length:Int)≠n
  ·rw[if_pos e2] at h;exact absurd h (by decide)
  ·omega
structure MG where
 b:Nat
 A:Option Addr
 c:Nat
 ms:List MSt
 oA:Option Addr
 oc:Nat
 od:List Int
 clk:Int
def mgL (t:MG):List Assn:=[Blk t.b (.cells #[.slice t.A t.ms.length t.c,.slice t.oA t.od.length t.oc,.int .u64 t.clk] 230 (0,0)),OS 227 msK t.A t.c t.ms,Big msF t.ms,OS 3 (intK .i64) t.oA t.oc t.od]
def MG.fresh (t:MG) (ids:List IDv):Prop:=MSI ids (lkI ids ids.length) ids.length ids.length (lkI ids ids.length).length (lkI ids ids.length).length t.ms∧t.od=seqM ids.length (lkI ids ids.length)∧t.clk=0
structure UN where
 own:Int
 pw:PDv
 base:Int
 q:Nat
 d:Go.Drv.DH
 st:Go.Drv.IS
 stp:Bool
 qA:Option Addr
 qc:Nat
 qs:List Bs
 wk:Bool
 rem:Int
def unC (u:UN):List Value:=[.int .i64 u.own,.int .i64 u.pw.par,.slice u.pw.r0.A u.pw.r0.ys.length u.pw.r0.c,.slice u.pw.r1.A u.pw.r1.ys.length u.pw.r1.c,.slice u.pw.r2.A u.pw.r2.ys.length u.pw.r2.c,.slice u.pw.r3.A u.pw.r3.ys.length u.pw.r3.c,.int .i64 u.pw.d0,.int .i64 u.pw.d1,.int .i64 u.pw.d2,.int .i64 u.pw.d3,.int .i64 u.pw.d4,.int .i64 u.pw.d5,.int .i64 u.pw.wd,.int .i64 u.pw.ws,.int .u64 u.base,.pointer (some ⟨u.q,0,none⟩),.bool u.stp,.slice u.qA u.qs.length u.qc,.bool u.wk,.int .i64 u.rem]
def un0:UN:=⟨0,pd0,0,0,⟨[],none,0,[],none,0,[]⟩,⟨0,false,0⟩,false,none,0,[],false,0⟩
def unK:Enc UN where
 f:=unC
 sz:=20
 d:=un0
 len _:=rfl
 pos:=by decide
 one r v hv:=by simp[unC] at hv;rcases hv with rfl|rfl|rfl|rfl|rfl|rfl|rfl|rfl|rfl|rfl|rfl|rfl|rfl|rfl|rfl|rfl|rfl|rfl|rfl|rfl<;>rfl
def unF (u:UN):Assn:=Bun (pdF u.pw::OS 9 strK u.qA u.qc u.qs::Go.Drv.kGb u.q u.d u.st)
theorem kON {I0:Ids} {w0 w:World} {e:PDv} {q:Nat} {d:Go.Drv.DH} (own base rem:Int) (h:Hp I0 w0 ([pdF e]++Go.Drv.kGb q d ⟨0,false,0⟩) w):Hp I0 w0 [unF ⟨own,e,base,q,d,⟨0,false,0⟩,false,none,0,[],false,rem⟩] w:=by
 have h1:=(h.nilOS (e:=9) (K:=strK)).sel [0,4,0,0,0,0] rfl;exact Hp.bun (M:=pdF e::OS 9 strK none 0 []::Go.Drv.kGb q d ⟨0,false,0⟩) (R:=[]) h1
def unZ:List Value:=[.int .i64 0,.int .i64 0,.slice none 0 0,.slice none 0 0,.slice none 0 0,.slice none 0 0,.int .i64 0,.int .i64 0,.int .i64 0,.int .i64 0,.int .i64 0,.int .i64 0,.int .i64 0,.int .i64 0,.int .u64 0,.pointer none,.bool false,.slice none 0 0,.bool false,.int .i64 0]
def unOk (d:BDv):Prop:=(0≤d.fn∧d.fn<255∧d.pw.par=d.il.par)∧(d.pw.r1.ys=[]∧d.pw.r2.ys=[]∧d.pw.r3.ys=[])∧(Go.Drv.kAH d.drv).1=0∧fitD (Go.Drv.kAH d.drv).2.ts
theorem kOO {d:BDv} (h:unOk d): ∀ {k:Nat},0<k→k<4→(d.pw.rl k).ys=[]
 |1,_,_=>h.2.1.1
 |2,_,_=>h.2.1.2.1
 |3,_,_=>h.2.1.2.2
 |0,h0,_=>by omega
 |k+4,_,h4=>by omega
theorem kSP {d:PDv} {k:Nat} (h: ∀j,j<k→0<j→(d.rl j).ys=[]) (hk: ¬(0:Int)<((d.rl k).ys.length:Int)): ∀j,j<k+1→0<j→(d.rl j).ys=[]:=fun j hj h0=>by
 by_cases e:j=k
 ·subst e;exact qO (by omega)
 ·exact h j (by omega) h0
theorem kSQ {d:PDv} {k:Nat} (h: ∀j,j<k→0<j→(d.rl j).ys=[]) (hk: ¬(k:Int)≠0): ∀j,j<k+1→0<j→(d.rl j).ys=[]:=fun j hj h0=>h j (by omega) h0
def UN.of (u:UN) (d:BDv) (base:Int):Prop:=(u.own=d.fn∧Cpy d.pw u.pw 4∧u.base=base)∧u.d.d=(Go.Drv.kAH d.drv).2∧u.st=⟨0,false,0⟩∧u.stp=false∧u.qs=[]∧u.wk=false∧u.rem=4
end Go.Pw
namespace Go.Sv
theorem kDp (k k2:IntKind) (x:Int): ∀(es:List MapEntry) (m:List Int) (i:Nat),es.map (·.key)=m.map (fun l:Int=>Value.int k l)→
 Instr.findNow (.int k2) (.int k x) es i=some ((m.findIdx? (fun y=>decide (x=y))).bind fun j=>(es[j]?).map fun e=>(i+j,e.val))
 |[],[],i,_=>by simp[Instr.findNow]
 |e::es,y::m,i,h=>by
  simp only[List.map_cons,List.cons.injEq] at h;have hs:Instr.sameNow (.int k2) (.int k x) e.key=some (decide (x=y)):=by rw[h.1];simp[Instr.sameNow];rfl
  simp only[Instr.findNow,hs,List.findIdx?_cons];by_cases hxy:x=y
  ·simp[hxy]
  ·simp only[hxy,decide_false,qX,if_false];rw[kDp k k2 x es m (i+1) h.2];cases hf:m.findIdx? (fun y=>decide (x=y)) with
   |none=>simp
   |some j=>simp[Nat.add_assoc,Nat.add_comm 1 j]
 |[],_::_,_,h=>by simp at h
 |_::_,[],_,h=>by simp at h
theorem KeyT.int {P:Program} {kt:TypeId} {k k2:IntKind} (hu:P.underlying kt=some (.int k2)):KeyT P kt (Value.int k) where
 check em x w:=by
  show(Instr.checkKey em (9999+1) kt _).run P w=_;rw[Instr.checkKey];simp only[Sem.run_bind,run_underlying hu,Result.andThen_ok,Sem.run_pure]
 find x es ms h w:=by
  simp only[Instr.findKey,Sem.run_bind,run_underlying hu,Result.andThen_ok,kDp k k2 x es ms 0 h,Nat.zero_add,Sem.run_pure]
theorem kF5 (x:Int): ∀l:List Int,mget (l.map fun y=>(y,true)) x=if x∈l then some true else none
 |[]=>by simp[mget]
 |y::l=>by
  simp only[List.map_cons,mget,kF5 x l,qe];by_cases h:x=y
  ·simp[h]
  ·simp[h]
theorem kJX (x:Int) (l:List Int):(mget (l.map fun y=>(y,true)) x).getD false=decide (x∈l):=by rw[kF5];split<;>simp_all
end Go.Sv
namespace Go.Pw
open Go.Sv Go.Rails Go.Dg
structure CP where
 b:Nat
 uA:Option Addr
 uc:Nat
 us:List UN
 t:TT
 m:MG
 bb:Nat
 oA:Option Addr
 oc:Nat
 od:List Int
def cpL (p:CP):List Assn:=[Blk p.b (.cells #[.slice p.uA p.us.length p.uc,.pointer (some ⟨p.t.b,0,none⟩),.pointer (some ⟨p.m.b,0,none⟩),.pointer (some ⟨p.bb,0,none⟩),.slice p.oA p.od.length p.oc] 121 (0,0)),OS 126 unK p.uA p.uc p.us,Big unF p.us,OS 3 (intK .i64) p.oA p.oc p.od]++(ttL p.t++mgL p.m)
abbrev pwL (ds:List BDv):List PDv:=ds.map (·.pw)
abbrev fnL (ds:List BDv):List Int:=ds.map (·.fn)
theorem kGc (ds:List BDv) {i:Nat} (hi:i<ds.length):(pwL ds).getD i pdK.d=(ds.getD i bdK.d).pw:=by simp[pwL,List.getD,hi]
theorem kSR (ds:List BDv) {i:Nat} (hi:i<ds.length):(fnL ds).getD i 0=(ds.getD i bdK.d).fn:=by simp[fnL,List.getD,hi]
def BDv.inn (d:BDv) (w:World):Prop:=d.pw.rs w∧d.pw.sm 1000000∧RS w (intK .i64) d.il.sup.A d.il.sup.ys∧d.drv.length≤900000
theorem kFr {ds:List BDv} (hm:newI (ilL ds)=0):chkM ds.length (lkI (ilL ds) ds.length)=0∧ ∀i,i<ds.length→ ¬badI ds.length (ds.getD i bdK.d).il:=by
 unfold newI at hm;rw[qE] at hm;split at hm
 ·exact absurd hm (by decide)
 ·rename_i hn;refine⟨hm,fun i hi hb=>hn (.inr ⟨i,hi,?_⟩)⟩;rw[kEF ds hi];exact hb
theorem kQW {ds:List BDv} (h:ds.length≤64) (h2: ∀i,i<ds.length→ ¬badI ds.length (ds.getD i bdK.d).il):(lkI (ilL ds) ds.length).length≤1000000:=by
 have:=kCK (ids:=ilL ds) (m:=ds.length) fun i hi=>by rw[kEF ds hi];have:=h2 i hi;unfold badI at this;omega
 omega
structure PwOk (ds:List BDv) (rs:List Rail) (bs:List Int):Prop where
 n:ds.length≤16
 nb:bs.length=ds.length
 aln:alnP bs
 un: ∀i,i<ds.length→unOk (ds.getD i bdK.d)
 ow:(fnL ds).Nodup
 tr:newT (pwL ds) rs=0
 mg:newI (ilL ds)=0
theorem PwOk.lk {ds:List BDv} {rs:List Rail} {bs:List Int} (h:PwOk ds rs bs):chkM ds.length (lkI (ilL ds) ds.length)=0∧ ∀i,i<ds.length→ ¬badI ds.length (ds.getD i bdK.d).il:=kFr h.mg
structure CP.fresh (p:CP) (ds:List BDv) (rs:List Rail) (bs:List Int) (bb:Nat):Prop where
 bb:p.bb=bb
 un:p.us.length=ds.length
 us: ∀i,i<ds.length→(p.us.getD i un0).of (ds.getD i bdK.d) (bs.getD i 0)
 trs:p.t.rs=new0 rs
 tst:p.t.st=List.replicate ds.length 4
 tck:p.t.clk=0
 tn:p.t.es.length=ds.length
 tcp:Cpys (pwL ds) p.t.es
 mg:p.m.fresh (ilL ds)
 od:p.od=seqM ds.length (lkI (ilL ds) ds.length)
structure PG where
 us:List UN
 uA:Option Addr
 uc:Nat
 pA:Option Addr
 pc:Nat
 iA:Option Addr
 ic:Nat
theorem kAB {β γ:Type} (f:β→γ) (l:List β) (d:β) {i:Nat} (h:i<l.length):(l.take (i+1)).map f=(l.take i).map f++[f (l.getD i d)]:=by
 rw[List.take_succ_eq_append_getElem h,qN];simp[List.getD,h]
theorem kLU {l:List Int} {d:Int} {i:Nat} (h:i<l.length) (hx:l.getD i d∈l.take i): ¬l.Nodup:=fun hn=>by
 have hs:=hn.sublist (List.take_sublist (i+1) l);rw[List.take_succ_eq_append_getElem h] at hs;have:l.getD i d=l[i]:=by simp[List.getD,h]
 rw[this] at hx;exact(List.nodup_append.1 hs).2.2 _ hx _ (by simp) rfl
theorem kC2 {β:Type} {us:List β} {u d:β} {P:Nat→β→Prop} {i:Nat} (hl:us.length=i) (h: ∀j,j<i→P j (us.getD j d)) (hu:P i u): ∀j,j<i+1→P j ((us++[u]).getD j d):=fun j hj=>by
 by_cases e:j<i
 ·have:=h j e;rwa [List.getD,qP (by omega)]
 ·obtain rfl:j=i:=by omega
  rw[List.getD,List.getElem?_append_right (by omega),hl,Nat.sub_self];exact hu
theorem kJY {ds:List BDv} {bs:List Int} {i:Nat} {us:List UN} {u:UN} (h:(i≤ds.length∧us.length=i)∧(∀j,j<i→unOk (ds.getD j bdK.d)∧(us.getD j un0).of (ds.getD j bdK.d) (bs.getD j (intK .u64).d))∧((ds.take i).map (·.fn)).Nodup) (hi:i<ds.length)
 (hok:unOk (ds.getD i bdK.d)) (hu:u.of (ds.getD i bdK.d) (bs.getD i (intK .u64).d)) (hin:u.own∉(ds.take i).map (·.fn)):
 (i+1≤ds.length∧(us++[u]).length=i+1)∧(∀j,j<i+1→unOk (ds.getD j bdK.d)∧((us++[u]).getD j un0).of (ds.getD j bdK.d) (bs.getD j (intK .u64).d))∧((ds.take (i+1)).map (·.fn)).Nodup:=by
 refine⟨⟨by omega,by rw[qD,List.length_singleton,h.1.2]⟩,kC2 (P:=fun j x=>unOk (ds.getD j bdK.d)∧x.of (ds.getD j bdK.d) (bs.getD j (intK .u64).d)) h.1.2 h.2.1 ⟨hok,hu⟩,?_⟩;rw[kAB (·.fn) ds bdK.d hi,List.nodup_append];refine⟨h.2.2,by simp,fun a ha b hb e=>hin ?_⟩;rw[qm] at hb;rw[hu.1.1,←hb,←e];exact ha
theorem kSS {ds:List BDv} (h:((ds.take ds.length).map (·.fn)).Nodup):(fnL ds).Nodup:=by rwa [List.take_length] at h
theorem kLV {ds:List BDv} {i:Nat} (hi:i<ds.length) (hx:(ds.getD i bdK.d).fn∈(ds.take i).map (·.fn)): ¬(fnL ds).Nodup:=by
 refine kLU (i:=i) (d:=0) (by rw[qE];exact hi) ?_;rw[kSR ds hi,List.map_take.symm];exact hx
theorem kJZ {I:Ids} {w w2:World} {ds:List BDv} {i mb:Nat} {u:UN} {X B P0:Assn} {pA iA:Option Addr} {pc ic:Nat} {base:Int} (hu:u.of (ds.getD i bdK.d) base) (hi:i<ds.length)
 (h:Hp I w [P0,OM mb (Value.int .i64) Value.bool (((ds.take i).map (·.fn)).map (fun y=>(y,true))++[(u.own,true)]),X,B,OS 57 pdK pA pc ((ds.take i).map (·.pw)++[(ds.getD i bdK.d).pw]),OS 59 idK iA ic ((ds.take i).map (·.il)++[(ds.getD i bdK.d).il])] w2):
 Hp I w [P0,OM mb (Value.int .i64) Value.bool (((ds.take (i+1)).map (·.fn)).map (fun y=>(y,true))),X,B,OS 57 pdK pA pc ((ds.take (i+1)).map (·.pw)),OS 59 idK iA ic ((ds.take (i+1)).map (·.il))] w2:=by
 rw[kAB (·.fn) ds bdK.d hi,kAB (·.pw) ds bdK.d hi,kAB (·.il) ds bdK.d hi,qN,←hu.1.1];exact h
end Go.Pw
namespace Go.Pw
open Go.Sv Go.Ios
def OkO (ps:Nat→Int×Int) (s0:BS):Nat→BS→Prop
 |0,s=>s=s0
 |i+1,s=> ∃s1 s2 e,OkO ps s0 i s1∧MapO s1 0 (ps i).1 256 (ps i).2 0 s2∧EnO s2 (ps i).2 false e s
def OkR (ps:Nat→Int×Int) (s0:RB):Nat→RB→Prop
 |0,s=>s=s0
 |i+1,s=> ∃s1 s2 e,OkR ps s0 i s1∧MapR s1 0 (ps i).1 256 (ps i).2 0 s2∧EnR s2 (ps i).2 false e s
def EndO (ps:Nat→Int×Int) (s0:BS) (n:Nat) (e:Int) (s:BS):Prop:=(e=0∧OkO ps s0 n s)∨(e≠0∧ ∃i s1,i<n∧OkO ps s0 i s1∧MapO s1 0 (ps i).1 256 (ps i).2 e s)
def EndR (ps:Nat→Int×Int) (s0:RB) (n:Nat) (e:Int) (s:RB):Prop:=(e=0∧OkR ps s0 n s)∨(e≠0∧ ∃i s1,i<n∧OkR ps s0 i s1∧MapR s1 0 (ps i).1 256 (ps i).2 e s)
theorem kGk {s s2:BS} {z p q o e:Int} (hk:s.ok) (hp:isU p) (h:MapO s z p q o e s2):s2.ok:=by
 cases h with
 |bad _=>exact hk
 |busy _ _ _ _=>exact hk
 |full _ _ _ _ _=>exact hk
 |done m bp A c hz hg hb ht=>
  have hm:m<3:=by omega
  exact kJl hk hm ⟨hp,hg.2.1,hg.2.2.1,hg.2.2.2,.inl ⟨rfl,rfl⟩,fun i=>by simp⟩ hb ht A c
theorem kJw {s s2:BS} {o e:Int} {v:Bool} (hk:s.ok) (h:EnO s o v e s2):s2.ok:=by
 cases h with
 |bad _=>exact hk
 |done ho=>exact hk.en o.toNat v
theorem kJx {s s2:RB} {z p q o e:Int} (hk:s.ok) (hp:isU p) (h:MapR s z p q o e s2):s2.ok:=by
 cases h with
 |bad _=>exact hk
 |busy _ _=>exact hk
 |full _ _ _=>exact hk
 |done A A2 c2 hg hb ht=>exact kJv hk (kJu hp hg) ht A2 c2
theorem kQi {s s2:RB} {o e:Int} {v:Bool} (hk:s.ok) (h:EnR s o v e s2):s2.ok:=by
 cases h with
 |bad _=>exact hk
 |done ho=>exact⟨by show(s.en.set _ _).length=256;rw[qI];exact hk.en,hk.each,hk.max,hk.fl,hk.fr,hk.tr⟩
theorem OkO.ok {ps:Nat→Int×Int} {s0:BS} (hk:s0.ok): ∀ {i:Nat} {s:BS},(∀j,j<i→isU (ps j).1)→OkO ps s0 i s→s.ok
 |0,s,_,h=>by cases h;exact hk
 |i+1,s,hu,⟨s1,s2,e,h1,h2,h3⟩=>kJw (kGk (OkO.ok hk (fun j hj=>hu j (by omega)) h1) (hu i (by omega)) h2) h3
theorem OkR.ok {ps:Nat→Int×Int} {s0:RB} (hk:s0.ok): ∀ {i:Nat} {s:RB},(∀j,j<i→isU (ps j).1)→OkR ps s0 i s→s.ok
 |0,s,_,h=>by cases h;exact hk
 |i+1,s,hu,⟨s1,s2,e,h1,h2,h3⟩=>kQi (kJx (OkR.ok hk (fun j hj=>hu j (by omega)) h1) (hu i (by omega)) h2) h3
theorem OkO.rel {ps:Nat→Int×Int} {s0:BS} {r0:RB} {n0:Nat} (R:Rel s0 r0 n0): ∀ {i:Nat} {s:BS} {r:RB},(∀j,j<i→isU (ps j).1)→OkO ps s0 i s→OkR ps r0 i r→ ∃n,Rel s r n
 |0,s,r,_,h,h'=>by cases h;cases h';exact⟨_,R⟩
 |i+1,s,r,hu,⟨s1,s2,e,h1,h2,h3⟩,⟨r1,r2,e',g1,g2,g3⟩=>by
  obtain⟨n,R1⟩:=OkO.rel R (fun j hj=>hu j (by omega)) h1 g1;exact⟨_,(((R1.map (hu i (by omega)) h2 g2).2).enb h3 g3).2⟩
theorem OkO.pre {ps:Nat→Int×Int} {s0:BS} {i:Nat}: ∀ {n:Nat} {s:BS},OkO ps s0 n s→i<n→ ∃s1 s2,OkO ps s0 i s1∧MapO s1 0 (ps i).1 256 (ps i).2 0 s2
 |n+1,s,⟨s1,s2,e,h1,h2,h3⟩,hi=>by
  by_cases c:i=n
  ·subst c;exact⟨s1,s2,h1,h2⟩
  ·exact OkO.pre h1 (by omega)
theorem OkR.pre {ps:Nat→Int×Int} {s0:RB} {i:Nat}: ∀ {n:Nat} {s:RB},OkR ps s0 n s→i<n→ ∃s1 s2,OkR ps s0 i s1∧MapR s1 0 (ps i).1 256 (ps i).2 0 s2
 |n+1,s,⟨s1,s2,e,h1,h2,h3⟩,hi=>by
  by_cases c:i=n
  ·subst c;exact⟨s1,s2,h1,h2⟩
  ·exact OkR.pre h1 (by omega)
theorem kQj {ps:Nat→Int×Int} {s0 s:BS} {r0 r:RB} {n n0:Nat} {e f:Int} (R:Rel s0 r0 n0) (hu: ∀j,j<n→isU (ps j).1) (h:EndO ps s0 n e s) (g:EndR ps r0 n f r):e=f:=by
 have key: ∀ {i s1 r1 s2 r2 e f},i<n→OkO ps s0 i s1→OkR ps r0 i r1→MapO s1 0 (ps i).1 256 (ps i).2 e s2→MapR r1 0 (ps i).1 256 (ps i).2 f r2→e=f:=fun {i s1 r1 s2 r2 e f} hi h1 g1 h2 g2=>by
  obtain⟨m,R1⟩:=OkO.rel R (fun j hj=>hu j (by omega)) h1 g1;exact(R1.map (hu i hi) h2 g2).1
 rcases h with ⟨he,h⟩|⟨he,i,s1,hi,h1,h2⟩
 ·rcases g with ⟨hf,g⟩|⟨hf,j,r1,hj,g1,g2⟩
  ·rw[he,hf]
  ·obtain⟨s1,s2,h1,h2⟩:=h.pre hj;rw[he,key hj h1 g1 h2 g2]
 ·rcases g with ⟨hf,g⟩|⟨hf,j,r1,hj,g1,g2⟩
  ·obtain⟨r1,r2,g1,g2⟩:=g.pre hi;rw[hf,key hi h1 g1 h2 g2]
  ·rcases Nat.lt_trichotomy i j with c|c|c
   ·obtain⟨r3,r4,g3,g4⟩:=g1.pre c;exact absurd (key hi h1 g3 h2 g4) he
   ·subst c;exact key hi h1 g1 h2 g2
   ·obtain⟨s3,s4,h3,h4⟩:=h1.pre c;exact absurd (key hj h3 g1 h4 g2).symm hf
section
variable {I0:Ids} {w0 w:World} {p:CP} {X:List Assn}
def cpB (p:CP):Assn:=Blk p.b (.cells #[.slice p.uA p.us.length p.uc,.pointer (some ⟨p.t.b,0,none⟩),.pointer (some ⟨p.m.b,0,none⟩),.pointer (some ⟨p.bb,0,none⟩),.slice p.oA p.od.length p.oc] 121 (0,0))
def cpU (p:CP):Assn:=OS 126 unK p.uA p.uc p.us
def cpR (p:CP):List Assn:=[Big unF p.us,OS 3 (Rails.intK .i64) p.oA p.oc p.od]++(ttL p.t++mgL p.m)
theorem kDu {M:List Assn} (h:Hp I0 w0 (X++M) w):Hp I0 w0 (X++[Bun M]) w:=
 (Hp.bun (h.perm qf)).perm (qi _ _).symm
theorem kJy {M Y:List Assn} (h:Hp I0 w0 (X++[Bun M]++Y) w):Hp I0 w0 (X++M++Y) w:=by
 have h1:Hp I0 w0 (Bun M::(X++Y)) w:=h.perm (by
  rw[qL];exact List.perm_middle)
 have h2:=Hp.unbun (M:=M) h1;refine h2.perm ?_;rw[←qL];exact(qf (l₁:=M) (l₂:=X)).append_right Y
theorem kOf (h:Hp I0 w0 (X++cpL p) w):Hp I0 w0 (X++[cpB p,cpU p,Bun (cpR p)]) w:=by
 have h1:Hp I0 w0 ((X++[cpB p,cpU p])++cpR p) w:=by rw[qL];exact h
 have h2:=kDu h1;rw[qL] at h2;exact h2
theorem kQk (h:Hp I0 w0 ([cpB p,cpU p,Bun (cpR p)]++X) w):Hp I0 w0 (cpL p++X) w:=kJy (X:=[cpB p,cpU p]) (Y:=X) h
end
def psM (ds:List BDv) (bs:List Int) (i:Nat):Int×Int:=(bs.getD i (Rails.intK .u64).d,(ds.getD i bdK.d).fn)
def roP (A B C:Option Addr) (ds:List BDv) (rs:List Rails.Rail) (bs:List Int):Ids:=fun b=>(ds≠[]∧b=bk A)∨(rs≠[]∧b=bk B)∨(bs≠[]∧b=bk C)∨ ∃i,i<ds.length∧((∃k,k<4∧((ds.getD i bdK.d).pw.rl k).ys≠[]∧b=bk ((ds.getD i bdK.d).pw.rl k).A)∨((ds.getD i bdK.d).il.sup.ys≠[]∧b=bk (ds.getD i bdK.d).il.sup.A))
end Go.Pw
namespace Go.Pw
open Go.Sv Go.Rails Go.Dg
theorem kSW {ds:List BDv} (h: ∀j,j<ds.length→ ∀k,k<j→(ds.getD k bdK.d).fn≠(ds.getD j bdK.d).fn):(fnL ds).Nodup:=by
 rw[List.Nodup,List.pairwise_iff_getElem];intro i j hi hj hij;rw[qE] at hi hj;have:=h j hj i hij;simpa[List.getD,hi,hj] using this
theorem kQl {ds:List BDv} {i k:Nat} (hi:i<ds.length) (hk:k<i) (h:(ds.getD k bdK.d).fn=(ds.getD i bdK.d).fn): ¬(fnL ds).Nodup:=fun hn=>by
 rw[List.Nodup,List.pairwise_iff_getElem] at hn;have:=hn k i (by rw[qE];omega) (by rw[qE];exact hi) hk;have hk2:k<ds.length:=by omega
 simp[List.getD,hi,hk2] at h;simp only[List.getElem_map] at this;exact this h
theorem kBv {ds:List BDv} {i:Nat} {P:Nat→Prop} (h: ∀j,j<i→P j) (h2:P i): ∀j,j<i+1→P j:=fun j hj=>by
 by_cases e:j=i
 ·subst e;exact h2
 ·exact h j (by omega)
theorem kGl {d:BDv} (h1:0≤d.fn) (h2:d.fn<255) (h3:d.pw.par=d.il.par) (h4: ¬(0:Int)<(d.pw.r1.ys.length:Int)+(d.pw.r2.ys.length:Int)+(d.pw.r3.ys.length:Int)) (h5:(Go.Drv.kAH d.drv).1=0) (h6:fitD (Go.Drv.kAH d.drv).2.ts):unOk d:=
 ⟨⟨h1,h2,h3⟩,⟨qO (by omega),qO (by omega),qO (by omega)⟩,h5,h6⟩
theorem kLc {d:BDv} (h:unOk d): ¬(0:Int)<(d.pw.r1.ys.length:Int)+(d.pw.r2.ys.length:Int)+(d.pw.r3.ys.length:Int):=by
 obtain⟨h1,h2,h3⟩:=h.2.1;rw[h1,h2,h3];decide
end Go.Pw
namespace Go.Sv
theorem Fx.bun {P:Program} {f:FuncId} {vs:List Value} {w:World} {M:List Assn} {ro:Ids} {post:Value→List Assn→Prop} (h:Fx P f vs w M ro post):Fx P f vs w [Bun M] ro (fun v L=> ∃M2,post v M2∧L=[Bun M2]):=fun I hs hro=>by
 obtain⟨i,j,hI,hd,hM,hj⟩:=hs;have e: ∀x,I x↔i x:=fun x=>by rw[hI x];exact⟨fun k=>k.elim id fun k=>absurd k (hj x),.inl⟩
 have hI2:I=i:=funext fun x=>propext (e x);subst hI2;exact(h I hM hro).mono fun e w' ⟨v,L',e1,hp,hh⟩=>⟨v,_,e1,⟨L',hp,rfl⟩,Hp.bun (R:=[]) (by rw[qK];exact hh)⟩
end Go.Sv
namespace Go.Pw
open Go.Sv Go.Rails Go.Dg
structure SH where
 A:Option Addr
 c:Nat
 ys:List Bs
def sh0:SH:=⟨none,0,[]⟩
def shK:Enc SH where
 f h:=[.slice h.A h.ys.length h.c]
 sz:=1
 d:=sh0
 len _:=rfl
 pos:=by decide
 one r v hv:=by simp at hv;subst hv;rfl
def shF (h:SH):Assn:=OS 9 strK h.A h.c h.ys
structure RI where
 q:Nat
 d:Go.Drv.DH
 pos:Int
 wt:Int
 ev:Bs
def ri0:RI:=⟨0,⟨[],none,0,[],none,0,[]⟩,0,0,[]⟩
def riK:Enc RI where
 f r:=[.pointer (some ⟨r.q,0,none⟩)]
 sz:=1
 d:=ri0
 len _:=rfl
 pos:=by decide
 one r v hv:=by simp at hv;subst hv;rfl
def riL (r:RI):List Assn:=Blk r.q (.cells #[.string (bs r.d.name),.slice r.d.sA r.d.ss.length r.d.sc,.slice r.d.tA r.d.hs.length r.d.tc,.int .i64 r.pos,.int .i64 r.wt,.string (bs r.ev)] 289 (0,0))::Go.Drv.dL r.d
def riF (r:RI):Assn:=Bun (riL r)
def RI.of (r:RI) (d:BDv):Prop:=r.d.d=(Go.Drv.kAH d.drv).2∧r.pos=0∧r.wt= -1∧r.ev=[]
section
variable {I0:Ids} {w0 w:World} {X:List Assn}
theorem kQm {rs:List RI} (r:RI) (h:Hp I0 w0 (X++(Big riF rs::riL r)) w):Hp I0 w0 (X++[Big riF (rs++[r])]) w:=by
 have h1:Hp I0 w0 ((X++[Big riF rs])++riL r) w:=by rw[qL];exact h
 have h2:Hp I0 w0 ((X++[Big riF rs])++[riF r]) w:=kDu h1;have h3:Hp I0 w0 ((Big riF rs::X)++[riF r]) w:=h2.perm ((qi _ _).append_right _);have h4:=Hp.bigSnoc (L:=Big riF rs::X) (k:=0) h3 rfl;exact h4.perm (qi _ _).symm
theorem kQn (h:Hp I0 w0 X w): ∀n,Hp I0 w0 (X++[Big shF (List.replicate n sh0)]) w
 |0=>Hp.nilBig (F:=shF) h
 |n+1=>by
  have h1:Hp I0 w0 ((X++[Big shF (List.replicate n sh0)])++[shF sh0]) w:=(kQn h n).nilOS (e:=9) (K:=strK);have h2:Hp I0 w0 ((Big shF (List.replicate n sh0)::X)++[shF sh0]) w:=h1.perm ((qi _ _).append_right _);have h3:=Hp.bigSnoc (L:=Big shF (List.replicate n sh0)::X) (k:=0) h2 rfl;have h4:Hp I0 w0 (Big shF (List.replicate n sh0++[sh0])::X) w:=h3;rw[List.replicate_succ'];exact h4.perm (qi _ _).symm
theorem kQo {Y T M:List Assn} (n:Nat) (h:Hp I0 w0 (Y++[Bun T]++([Bun M]++X)) w):Hp I0 w0 (Y++([Big shF (List.replicate n sh0)]++(T++M))++X) w:=by
 have h1:Hp I0 w0 (Y++T++([Bun M]++X)) w:=kJy h;have h2:Hp I0 w0 ((Y++T)++[Bun M]++X) w:=by rw[qL];exact h1
 have h3:Hp I0 w0 ((Y++T)++M++X) w:=kJy h2;have h4:=kQn h3 n;refine h4.perm ((qi _ _).trans ?_);have:(Y++([Big shF (List.replicate n sh0)]++(T++M))++X)=Y++(Big shF (List.replicate n sh0)::(T++M++X)):=by simp
 rw[this,show Y++T++M++X=Y++(T++M++X) by simp];exact List.perm_middle.symm
end
structure RP where
 b:Nat
 A:Option Addr
 c:Nat
 n:Nat
 bA:Option Addr
 bc:Nat
 bs:List Int
 bb:Nat
 t:TR27
 m:RM28
 qA:Option Addr
 qc:Nat
 ds:List RI
 sA:Option Addr
 sc:Nat
 stp:List Bool
 uA:Option Addr
 uc:Nat
 que:List SH
 wA:Option Addr
 wc:Nat
 wk:List Bool
 xA:Option Addr
 xc:Nat
 was:List Int
 lA:Option Addr
 lc:Nat
 lk:List Link
 pc:Nat
 pw:List PDv
 ic:Nat
 il:List IDv
def rpB (p:RP):Assn:=Blk p.b (.cells #[.slice p.A p.n p.c,.slice p.bA p.bs.length p.bc,.pointer (some ⟨p.bb,0,none⟩),.pointer (some ⟨p.t.b,0,none⟩),.pointer (some ⟨p.m.b,0,none⟩),.slice p.qA p.ds.length p.qc,.slice p.sA p.n p.sc,.slice p.uA p.n p.uc,.slice p.wA p.n p.wc,.slice p.xA p.n p.xc,.slice p.lA p.lk.length p.lc] 203 (0,0))
def rpR (p:RP):List Assn:=[OS 41 (intK .u64) p.bA p.bc p.bs,OS 4 bolK p.sA p.sc p.stp,OS 63 shK p.uA p.uc p.que,OS 4 bolK p.wA p.wc p.wk,OS 3 (intK .i64) p.xA p.xc p.was,OS 207 riK p.qA p.qc p.ds,Big riF p.ds,OS 57 pdK p.t.A p.pc p.pw,OS 59 idK p.m.A p.ic p.il,Big shF p.que]++(trL p.t++rmL p.m)
def rpL (p:RP):List Assn:=rpB p::OS 211 linkK p.lA p.lc p.lk::rpR p
theorem kOg {I0:Ids} {w0 w:World} {X0:Assn} (p:RP) (n:Nat) (hq:p.que=List.replicate n sh0) (h:Hp I0 w0 [rpB p,OS 211 linkK p.lA p.lc p.lk,OS 41 (intK .u64) p.bA p.bc p.bs,OS 4 bolK p.sA p.sc p.stp,OS 63 shK p.uA p.uc p.que,OS 4 bolK p.wA p.wc p.wk,OS 3 (intK .i64) p.xA p.xc p.was,OS 207 riK p.qA p.qc p.ds,Big riF p.ds,OS 57 pdK p.t.A p.pc p.pw,OS 59 idK p.m.A p.ic p.il,Bun (trL p.t),Bun (rmL p.m),X0] w):Hp I0 w0 (rpL p++[X0]) w:=by
 have h2:=kQo (Y:=[rpB p,OS 211 linkK p.lA p.lc p.lk,OS 41 (intK .u64) p.bA p.bc p.bs,OS 4 bolK p.sA p.sc p.stp,OS 63 shK p.uA p.uc p.que,OS 4 bolK p.wA p.wc p.wk,OS 3 (intK .i64) p.xA p.xc p.was,OS 207 riK p.qA p.qc p.ds,Big riF p.ds,OS 57 pdK p.t.A p.pc p.pw,OS 59 idK p.m.A p.ic p.il]) (T:=trL p.t) (M:=rmL p.m) (X:=[X0]) n h;rw[←hq] at h2;exact h2
structure RP.fresh (p:RP) (ds:List BDv) (rs:List Rail) (bs:List Int) (A:Option Addr) (c bb:Nat):Prop where
 A:p.A=A
 n:p.n=ds.length
 c:p.c=c
 bs:p.bs=bs
 bb:p.bb=bb
 tn:p.t.n=ds.length
 trs:p.t.rs=new0 rs
 tst:p.t.st=List.replicate ds.length 4
 tck:p.t.clk=0
 mn:p.m.n=ds.length
 mlk:p.m.lk=lkI (ilL ds) ds.length
 mon:p.m.on=List.replicate ds.length false
 mus:p.m.us=List.replicate ds.length 0
 msi:p.m.si=List.replicate ds.length 0
 mck:p.m.clk=0
 dn:p.ds.length=ds.length
 di: ∀i,i<ds.length→(p.ds.getD i ri0).of (ds.getD i bdK.d)
 stp:p.stp=List.replicate ds.length false
 que:p.que=List.replicate ds.length sh0
 wk:p.wk=List.replicate ds.length false
 wn:p.was.length=ds.length
 wa: ∀i,i<ds.length→p.was.getD i 0=4
 lk:p.lk=lkI (ilL ds) ds.length
 pw:p.pw=pwL ds
 il:p.il=ilL ds
structure RG where
 pA:Option Addr
 pc:Nat
 iA:Option Addr
 ic:Nat
 qA:Option Addr
 qc:Nat
 rs:List RI
 lA:Option Addr
 lc:Nat
 ws:List Int
structure P4 where
 pA:Option Addr
 pc:Nat
 iA:Option Addr
 ic:Nat
theorem kOh {ws:List Int} {n i:Nat} (hl:ws.length=n) (hi:i<n) (h: ∀j,j<i→ws.getD j 0=4):(ws.set i 4).length=n∧ ∀j,j<i+1→(ws.set i 4).getD j 0=4:=by
 refine⟨by rw[qI];exact hl,fun j hj=>?_⟩;by_cases e:i=j
 ·subst e;exact kA1 _ _ _ _ (by omega)
 ·rw[kA0 _ _ _ e];exact h j (by omega)
def PDv.setD (d:PDv) (k:Nat) (v:Int):PDv:=match k with
 |0=>{d with d0:=v}
 |1=>{d with d1:=v}
 |2=>{d with d2:=v}
 |3=>{d with d3:=v}
 |4=>{d with d4:=v}
 |_=>{d with d5:=v}
theorem kCe (d:PDv): ∀ {k:Nat} (v:Int),k<6→((pdC d).toArray.toList.take (0+5+k* 1)++[Value.int .i64 v]++(pdC d).toArray.toList.drop (0+5+k* 1+[Value.int .i64 v].length)).toArray=(pdC (d.setD k v)).toArray
 |0,_,_=>rfl
 |1,_,_=>rfl
 |2,_,_=>rfl
 |3,_,_=>rfl
 |4,_,_=>rfl
 |5,_,_=>rfl
 |k+6,_,h=>by omega
theorem kFA (d:PDv) (v:Int) {k j:Nat} (hk:k<6) (hj:j<6):(d.setD k v).dp j=if j=k then v else d.dp j:=by
 obtain rfl|rfl|rfl|rfl|rfl|rfl:k=0∨k=1∨k=2∨k=3∨k=4∨k=5:=by omega
 all_goals (obtain rfl|rfl|rfl|rfl|rfl|rfl:j=0∨j=1∨j=2∨j=3∨j=4∨j=5:=by omega)<;>rfl
theorem kOi (d:PDv) (v:Int) (k j:Nat):(d.setD k v).rl j=d.rl j:=by
 unfold PDv.setD;split<;>(unfold PDv.rl;rfl)
theorem kDS (d:PDv) (v:Int) (k:Nat):pdF (d.setD k v)=pdF d:=by
 unfold PDv.setD;split<;>rfl
theorem kOj (d:PDv) (h:Hd) {k j:Nat} (hk:k<4) (hj:j<4):(d.setR k h).rl j=if j=k then h else d.rl j:=by
 obtain rfl|rfl|rfl|rfl:k=0∨k=1∨k=2∨k=3:=by omega
 all_goals (obtain rfl|rfl|rfl|rfl:j=0∨j=1∨j=2∨j=3:=by omega)<;>rfl
theorem kLd (d:PDv) (h:Hd) {k:Nat} (hk:k<4):(d.setR k h).rls=d.rls.set k h:=by
 obtain rfl|rfl|rfl|rfl:k=0∨k=1∨k=2∨k=3:=by omega
 all_goals rfl
structure SmA (e:PDv) (i:Nat) (m:Int):Prop where
 par: -1≤e.par∧e.par<i
 rl: ∀j,j<4→ascP (e.rl j).ys∧rngP m (e.rl j).ys∧(e.rl j).ys.length≤3
 ws:0≤e.ws∧e.ws≤4
 wd:0≤e.wd∧e.wd≤3
 d0:e.d0=0
def DpA (e:PDv) (k:Nat):Prop:= ∀j,j<k→(0≤e.dp j∧e.dp j≤4)∧(0<j→e.dp (j-1)≤e.dp j)
theorem SmA.setR {e:PDv} {i:Nat} {m:Int} (h:SmA e i m) {k:Nat} (hk:k<4) (A:Option Addr) (c:Nat) {ys:List Int} (h1:ys.length≤3) (h2:ascP ys) (h3:rngP m ys):SmA (e.setR k ⟨A,c,ys⟩) i m:=by
 obtain rfl|rfl|rfl|rfl:k=0∨k=1∨k=2∨k=3:=by omega
 all_goals
  refine⟨h.par,fun j hj=>?_,h.ws,h.wd,h.d0⟩;rw[kOj e _ (by decide) hj];split
  ·exact⟨h2,h3,h1⟩
  ·exact h.rl j hj
theorem SmA.setD {e:PDv} {i:Nat} {m:Int} (h:SmA e i m) {k:Nat} (h0:0<k) (hk:k<6) (v:Int):SmA (e.setD k v) i m:=by
 obtain rfl|rfl|rfl|rfl|rfl:k=1∨k=2∨k=3∨k=4∨k=5:=by omega
 all_goals exact⟨h.par,fun j hj=>by rw[kOi];exact h.rl j hj,h.ws,h.wd,h.d0⟩
theorem DpA.step {e:PDv} {k:Nat} (h:DpA e k) (h0:0<k) (hk:k<6) {v:Int} (h1:0≤v) (h2:v≤4):DpA (e.setD k (max (e.dp (k-1)) v)) (k+1):=by
 intro j hj;have hb:=h (k-1) (by omega);by_cases e1:j=k
 ·subst e1;rw[kFA e _ hk hk,if_pos rfl,kFA e _ hk (by omega),if_neg (by omega)];refine⟨by omega,fun _=>by omega⟩
 ·have hh:=h j (by omega);rw[kFA e _ hk (by omega),if_neg e1];refine⟨hh.1,fun hj0=>?_⟩;rw[kFA e _ hk (by omega),if_neg (by omega)];exact hh.2 hj0
theorem DpA.setR {e:PDv} {n:Nat} (h:DpA e n) {k:Nat} (hk:k<4) (x:Hd):DpA (e.setR k x) n:=by
 obtain rfl|rfl|rfl|rfl:k=0∨k=1∨k=2∨k=3:=by omega
 all_goals exact h
theorem SmA.base {i:Nat} {m p s d:Int} (h1:0≤p∧p<(i:Int)+1) (h2:0≤s∧s<5) (h3:0≤d∧d<4):SmA ⟨p-1,hd0,hd0,hd0,hd0,0,0,0,0,0,0,d,s⟩ i m:=by
 refine⟨⟨by show -1≤p-1;omega,by show p-1<i;omega⟩,fun j hj=>?_,⟨h2.1,by show s≤4;omega⟩,⟨h3.1,by show d≤3;omega⟩,rfl⟩;obtain rfl|rfl|rfl|rfl:j=0∨j=1∨j=2∨j=3:=by omega
 all_goals exact⟨fun i hi=>absurd hi (Nat.not_lt_zero _),fun i hi=>absurd hi (Nat.not_lt_zero _),qT _⟩
theorem DpA.base {p s d:Int}:DpA ⟨p,hd0,hd0,hd0,hd0,0,0,0,0,0,0,d,s⟩ 1:=fun j hj=>by
 obtain rfl:j=0:=by omega
 exact⟨⟨show(0:Int)≤0 from by decide,show(0:Int)≤4 from by decide⟩,fun h=>by omega⟩
section
variable {I0:Ids} {w0 w:World} {X Y:List Assn}
theorem kNC {A:Assn} (h:Hp I0 w0 (A::Y) w):Hp I0 w0 Y w:=by
 have h1:Hp I0 w0 (Bun Y::[A]) w:=Hp.bun (M:=Y) (h.perm (qi _ _).symm);have h2:=Hp.unbun (M:=Y) (R:=[]) (h1.sel [0] rfl);rwa [qK] at h2
theorem kHh {e:PDv} {k:Nat} (hk:k<4) {h':Hd} (h:Hp I0 w0 (X++[pdF e,hdF h']) w):Hp I0 w0 (X++[pdF (e.setR k h')]) w:=by
 have hl:k<e.rls.length:=hk;have h1:Hp I0 w0 (Big hdF e.rls::(hdF h'::X)) w:=h.perm (qf (l₁:=X) (l₂:=[pdF e,hdF h']));have h2:=h1.focus (k:=0) (m:=k) hd0 rfl hl;have h3:Hp I0 w0 ((hdF h'::X)++[Big hdF (e.rls.eraseIdx k)]) w:=kNC h2;have h4:=Hp.unfocus (k:=0) h3 rfl hl;have h5:Hp I0 w0 (pdF (e.setR k h')::X) w:=by unfold pdF;rw[kLd e h' hk];exact h4
 exact h5.perm (qi _ _).symm
theorem kSX (h:Hp I0 w0 X w) (p d s:Int):Hp I0 w0 (X++[pdF ⟨p,hd0,hd0,hd0,hd0,0,0,0,0,0,0,d,s⟩]) w:=by
 have h1:Hp I0 w0 (X++[OS 3 (intK .i64) none 0 []]) w:=h.nilOS;have h2:Hp I0 w0 (X++[OS 3 (intK .i64) none 0 []]++[OS 3 (intK .i64) none 0 []]) w:=h1.nilOS;have h3:Hp I0 w0 (X++[OS 3 (intK .i64) none 0 []]++[OS 3 (intK .i64) none 0 []]++[OS 3 (intK .i64) none 0 []]) w:=h2.nilOS;have h4:Hp I0 w0 (X++[OS 3 (intK .i64) none 0 []]++[OS 3 (intK .i64) none 0 []]++[OS 3 (intK .i64) none 0 []]++[OS 3 (intK .i64) none 0 []]) w:=h3.nilOS;have h5:Hp I0 w0 (X++[hdF hd0,hdF hd0,hdF hd0,hdF hd0]) w:=by simpa[hdF,hd0] using h4
 obtain⟨I,hs,he,hi⟩:=h5;refine⟨I,?_,he,hi⟩;obtain⟨i,j,a,b,c,d'⟩:=Sep.append.1 hs;exact Sep.append.2 ⟨i,j,a,b,c,⟨j,fun _=>False,fun x=>by simp,fun _ _ h=>h,d',fun _ h=>h⟩⟩
end
structure SG where
 A:Option Addr
 c:Nat
 es:List PDv
end Go.Pw
namespace Go.Pw
open Go.Sv Go.Drv
def evL:List Bs:=[[115,116,97,114,116],[115,116,111,112],[115,117,115,112,101,110,100],[114,101,115,117,109,101],[105,114,113],[112,111,108,108]]
def reO (o:Ro):Ro:=⟨o.wr,o.reg%64* 4,o.val⟩
def reT (i:Nat) (t:Tr):Tr:=⟨t.frm,evL.getD ((((t.ev.length:Int)+i+t.to)%6).toNat) [],⟨t.gd.used,t.gd.reg%64* 4,t.gd.mask,t.gd.val⟩,t.ops.map reO,t.to⟩
def reM (d:Dv):Dv:=⟨d.name,d.ss,d.ts.mapIdx reT⟩
theorem evAt: ∀ {k:Nat},k<6→(#[Value.string (bs [115,116,97,114,116]),.string (bs [115,116,111,112]),.string (bs [115,117,115,112,101,110,100]),.string (bs [114,101,115,117,109,101]),.string (bs [105,114,113]),.string (bs [112,111,108,108])]).toList[0+k* 1]?=some (.string (bs (evL.getD k [])))
 |0,_=>rfl
 |1,_=>rfl
 |2,_=>rfl
 |3,_=>rfl
 |4,_=>rfl
 |5,_=>rfl
 |k+6,h=>by omega
def reH (i:Nat) (h:TH) (ys:List Ro):TH:=⟨⟨h.t.frm,evL.getD ((((h.t.ev.length:Int)+i+h.t.to)%6).toNat) [],⟨h.t.gd.used,h.t.gd.reg%64* 4,h.t.gd.mask,h.t.gd.val⟩,ys,h.t.to⟩,h.A,h.c⟩
theorem kSc {i:Nat} {h:TH} {ys:List Ro} (e:ys=h.t.ops.map reO):(reH i h ys).t=reT i h.t:=by subst e;rfl
def ReI (hs gs:List TH) (i:Nat):Prop:=gs.length=hs.length∧ ∀j,j<hs.length→(j<i→(gs.getD j thD).t=reT j (hs.getD j thD).t)∧(¬j<i→gs.getD j thD=hs.getD j thD)
theorem ReI.base (hs:List TH):ReI hs hs 0:=⟨rfl,fun j hj=>⟨fun h=>by omega,fun _=>rfl⟩⟩
theorem ReI.step {hs gs:List TH} {i:Nat} (h:ReI hs gs i) (hi:i<hs.length) {ys:List Ro} (e:ys=(gs.getD i thD).t.ops.map reO):ReI hs (gs.set i (reH i (gs.getD i thD) ys)) (i+1):=by
 have hg:gs.getD i thD=hs.getD i thD:=(h.2 i hi).2 (by omega);refine⟨by rw[qI];exact h.1,fun j hj=>?_⟩;by_cases e1:i=j
 ·subst e1;rw[kA1 _ _ _ _ (by rw[h.1];exact hi)];exact⟨fun _=>by rw[kSc e,hg],fun k=>by omega⟩
 ·rw[kA0 _ _ _ e1];exact⟨fun k=>(h.2 j hj).1 (by omega),fun k=>(h.2 j hj).2 (by omega)⟩
theorem ReI.done {hs gs:List TH} (h:ReI hs gs hs.length):gs.map (·.t)=(hs.map (·.t)).mapIdx reT:=by
 apply List.ext_getElem (by simp[h.1]);intro j h1 h2;have hj:j<hs.length:=by rw[←h.1];simpa using h1
 have hj2:j<gs.length:=by rw[h.1];exact hj
 have:=(h.2 j hj).1 hj;simp only[List.getElem_map,List.getElem_mapIdx];simpa[List.getD,hj,hj2] using this
def RoI (os ys:List Ro) (k:Nat):Prop:=ys.length=os.length∧ ∀j,j<os.length→(j<k→ys.getD j ro0=reO (os.getD j ro0))∧(¬j<k→ys.getD j ro0=os.getD j ro0)
theorem RoI.base (os:List Ro):RoI os os 0:=⟨rfl,fun j hj=>⟨fun h=>by omega,fun _=>rfl⟩⟩
theorem RoI.step {os ys:List Ro} {k:Nat} (h:RoI os ys k) (hk:k<os.length):RoI os (ys.set k (reO (ys.getD k roK.d))) (k+1):=by
 have hg:ys.getD k roK.d=os.getD k ro0:=(h.2 k hk).2 (by omega);refine⟨by rw[qI];exact h.1,fun j hj=>?_⟩;by_cases e1:k=j
 ·subst e1;rw[kA1 _ _ _ _ (by rw[h.1];exact hk)];exact⟨fun _=>by rw[hg],fun x=>by omega⟩
 ·rw[kA0 _ _ _ e1];exact⟨fun x=>(h.2 j hj).1 (by omega),fun x=>(h.2 j hj).2 (by omega)⟩
theorem RoI.done {os ys:List Ro} (h:RoI os ys os.length):ys=os.map reO:=by
 apply List.ext_getElem (by simp[h.1]);intro j h1 h2;have hj:j<os.length:=by rw[←h.1];exact h1
 have:=(h.2 j hj).1 hj;simp only[List.getElem_map];simpa[List.getD,hj,h1] using this
theorem kP5 {d:Dv} (h:rgD d):rgD (reM d):=by
 intro t ht;obtain⟨i,hi,rfl⟩:=List.getElem_of_mem ht;simp only[reM,List.length_mapIdx] at hi;have hr:=h (d.ts[i]) (List.getElem_mem _);simp only[reM,List.getElem_mapIdx];refine⟨⟨?_,hr.1.2⟩,fun o ho=>?_⟩
 ·have:=hr.1.1;unfold u64 at this;exact⟨by show 0≤_%64* 4;omega,by show _%64* 4<_;omega⟩
 ·obtain⟨p,hp,rfl⟩:=List.mem_map.1 ho;have:=hr.2 p hp;refine⟨?_,this.2⟩;have h1:=this.1;unfold u64 at h1;exact⟨by show 0≤_%64* 4;omega,by show _%64* 4<_;omega⟩
theorem kSd {d:DH} {i:Nat} (hi:i<d.hs.length):(d.hs.getD i thD).t∈d.d.ts:=by
 have:(d.hs.getD i thD)=d.hs[i]:=by simp[List.getD,hi]
 rw[this];exact List.mem_map.2 ⟨_,List.getElem_mem _,rfl⟩
theorem kR5 {t:Tr} {ys:List Ro} {k:Nat} (h:rgT t) (hr:RoI t.ops ys k) (hk:k<t.ops.length):u64 (ys.getD k roK.d).reg:=by
 have hg:ys.getD k roK.d=t.ops.getD k ro0:=(hr.2 k hk).2 (by omega);rw[hg];have:t.ops.getD k ro0=t.ops[k]:=by simp[List.getD,hk]
 rw[this];exact(h.2 _ (List.getElem_mem _)).1
def txtM (d:Dv):Bs:=fmtR (reM (kA5 d))
theorem kKK {d:Dv} (h:rgD d):(txtM d).length≤130000:=by
 unfold txtM fmtR;split
 ·rename_i hc;rw[kKC];exact kKJ (kGn hc) (kP5 (kDy h)) (qU _)
 ·exact qT _
section
variable {I0:Ids} {w0 w:World} {X:List Assn} {gs:List TH} {i:Nat}
theorem kR6 (h:Hp I0 w0 (X++[Big opA gs]) w) (hi:i<gs.length):Hp I0 w0 (X++[opA (gs.getD i thD),Big opA (gs.eraseIdx i)]) w:=by
 have h1:Hp I0 w0 (Big opA gs::X) w:=h.perm (qi _ _);have h2:Hp I0 w0 ((opA (gs.getD i thD)::X)++[Big opA (gs.eraseIdx i)]) w:=h1.focus (k:=0) (m:=i) thD rfl hi;have h3:=h2.perm ((qi (opA (gs.getD i thD)) X).symm.append_right [Big opA (gs.eraseIdx i)]);rwa [qL] at h3
theorem kP6 (h':TH) (h:Hp I0 w0 (X++[opA h',Big opA (gs.eraseIdx i)]) w) (hi:i<gs.length):Hp I0 w0 (X++[Big opA (gs.set i h')]) w:=by
 have h1:Hp I0 w0 ((X++[opA h'])++[Big opA (gs.eraseIdx i)]) w:=by rw[qL];exact h
 have h2:Hp I0 w0 ((opA h'::X)++[Big opA (gs.eraseIdx i)]) w:=h1.perm ((qi (opA h') X).append_right _);have h3:=Hp.unfocus (k:=0) h2 rfl hi;exact h3.perm (qi _ _).symm
end
end Go.Pw
namespace Go.Pw
open Go.Sv Go.Rails
def hwF (d:BDv):Assn:=Bun [pdF d.pw,hdF d.il.sup]
def clrP (e:PDv):PDv:=⟨e.par,e.r0,hd0,hd0,hd0,e.d0,e.d1,e.d2,e.d3,e.d4,e.d5,e.wd,e.ws⟩
structure SupO (ys:List Int) (i:Nat) (p:Int):Prop where
 r: ∀s∈ys,(0≤s∧s<i)∧s≠p
 n:ys.Nodup
theorem SupO.nil (i:Nat) (p:Int):SupO [] i p:=⟨fun s h=>(List.not_mem_nil h).elim,List.nodup_nil⟩
theorem SupO.snoc {ys:List Int} {i:Nat} {p s d:Int} (h:SupO ys i p) (h1:0≤s∧s<i) (h2:s≠p) (h3: ∀j,j<ys.length→ys.getD j d≠s):SupO (ys++[s]) i p:=by
 refine⟨fun x hx=>?_,?_⟩
 ·rcases List.mem_append.1 hx with hx|hx
  ·exact h.r x hx
  ·rw[qm] at hx;subst hx;exact⟨h1,h2⟩
 ·rw[List.nodup_append];refine⟨h.n,by simp,fun a ha b hb e=>?_⟩;rw[qm] at hb;obtain⟨j,hj,rfl⟩:=List.getElem_of_mem ha;exact h3 j hj (by simp[List.getD,hj];rw[e,hb])
def drvM (drs:List Go.Drv.DH) (i:Nat):Bs:=if i<drs.length then txtM (drs.getD i dhK.d).d else txtM ⟨[],[],[]⟩
structure GenD (d:BDv) (i:Nat) (m arr:Int) (drs:List Go.Drv.DH):Prop where
 fn:d.fn=((i:Int)* 7+modM arr 9)%200
 sm:SmA d.pw i m
 dp:DpA d.pw 6
 r1:d.pw.r1.ys=[]
 r2:d.pw.r2.ys=[]
 r3:d.pw.r3.ys=[]
 par:d.il.par=d.pw.par
 dly:0≤d.il.dly∧d.il.dly<12
 sl:d.il.sup.ys.length≤6
 su:SupO d.il.sup.ys i d.pw.par
 drv:d.drv=drvM drs i
theorem kP7 {drs:List Go.Drv.DH} (h: ∀i,i<drs.length→Go.Drv.rgD (drs.getD i dhK.d).d) (i:Nat):(drvM drs i).length≤130000:=by
 unfold drvM;split
 ·exact kKK (h i (by assumption))
 ·exact kKK fun t ht=>(List.not_mem_nil ht).elim
theorem kR7 (ds:List BDv) (k:Nat) {i:Nat} (hi:i<((ds.take k).map (·.pw)).length):i<ds.length∧((ds.take k).map (·.pw)).getD i pdK.d=(ds.getD i bdK.d).pw:=by
 rw[qE,qF] at hi;have h1:i<ds.length:=by omega
 have h2:i<k:=by omega
 refine⟨h1,?_⟩;simp[List.getD,List.getElem?_take,h1,h2]
theorem kSe (d:BDv): ∀(j:Nat) (v:Value),(pdK.f d.pw)[j]?=some v→(bdC d)[1+j]?=some v
 |0,_,h=>h
 |1,_,h=>h
 |2,_,h=>h
 |3,_,h=>h
 |4,_,h=>h
 |5,_,h=>h
 |6,_,h=>h
 |7,_,h=>h
 |8,_,h=>h
 |9,_,h=>h
 |10,_,h=>h
 |11,_,h=>h
 |12,_,h=>h
 |j+13,v,h=>by simp[pdK,pdC] at h
theorem SmA.clr {e:PDv} {i:Nat} {m:Int} (h:SmA e i m):SmA (clrP e) i m:=by
 refine⟨h.par,fun j hj=>?_,h.ws,h.wd,h.d0⟩;obtain rfl|rfl|rfl|rfl:j=0∨j=1∨j=2∨j=3:=by omega
 ·exact h.rl 0 hj
 all_goals exact⟨fun i hi=>absurd hi (Nat.not_lt_zero _),fun i hi=>absurd hi (Nat.not_lt_zero _),qT _⟩
theorem DpA.clr {e:PDv} {n:Nat} (h:DpA e n):DpA (clrP e) n:=h
section
variable {I0:Ids} {w0 w:World} {X:List Assn}
theorem kSf {e:PDv} (h:Hp I0 w0 (X++[pdF e]) w):Hp I0 w0 (X++[pdF (clrP e)]) w:=by
 have nl: ∀ {Y:List Assn},Hp I0 w0 Y w→Hp I0 w0 (Y++[hdF hd0]) w:=fun h=>h.nilOS;have h1:=nl h;rw[qL] at h1;have h2:=nl (kHh (k:=1) (by decide) h1);rw[qL] at h2;have h3:=nl (kHh (k:=2) (by decide) h2);rw[qL] at h3;exact kHh (k:=3) (by decide) h3
theorem kSg {β:Type} {F:β→Assn} {hs:List β} {i:Nat} (d:β) (hi:i<hs.length) (h:Hp I0 w0 (X++[Big F (hs.drop i)]) w):Hp I0 w0 (X++[Big F (hs.drop (i+1)),F (hs.getD i d)]) w:=by
 have e:hs.drop i=hs.getD i d::hs.drop (i+1):=by rw[List.drop_eq_getElem_cons hi];simp[List.getD,hi]
 rw[e] at h;have h1:Hp I0 w0 (Big F (hs.getD i d::hs.drop (i+1))::X) w:=h.perm (qi _ _);have h2:=h1.splice (k:=0) (M:=[F (hs.getD i d),Big F (hs.drop (i+1))]) rfl fun q hq=>by
  obtain⟨a,b,h1,h2,h3,h4⟩:=hq;exact⟨a,b,h1,h2,h3,⟨b,fun _=>False,fun x=>by simp,fun _ _ h=>h,h4,fun _ h=>h⟩⟩
 refine h2.perm ?_;have:([F (hs.getD i d),Big F (hs.drop (i+1))]++X).Perm (X++[F (hs.getD i d),Big F (hs.drop (i+1))]):=qf;exact this.trans (List.Perm.append_left X (List.Perm.swap _ _ _))
theorem kR8 {ds:List BDv} (d:BDv) (h:Hp I0 w0 (X++[Big hwF ds,pdF d.pw,hdF d.il.sup]) w):Hp I0 w0 (X++[Big hwF (ds++[d])]) w:=by
 have h1:Hp I0 w0 ((X++[Big hwF ds])++[pdF d.pw,hdF d.il.sup]) w:=by rw[qL];exact h
 have h2:Hp I0 w0 ((X++[Big hwF ds])++[hwF d]) w:=kDu h1;have h3:Hp I0 w0 ((Big hwF ds::X)++[hwF d]) w:=h2.perm ((qi _ _).append_right _);have h4:=Hp.bigSnoc (L:=Big hwF ds::X) (k:=0) h3 rfl;exact h4.perm (qi _ _).symm
end
structure HG where
 dA:Option Addr
 dc:Nat
 ds:List BDv
 bA:Option Addr
 bc:Nat
 bs:List Int
theorem kLq {ds:List BDv} {bs:List Int} {i n:Nat} {m arr:Int} {drs:List Go.Drv.DH} {d:BDv} {b:Int} (h:(i≤n∧ds.length=i∧bs.length=i)∧ ∀j,j<i→GenD (ds.getD j bdK.d) j m arr drs∧bs.getD j (intK .u64).d=plcM j arr) (h1:GenD d i m arr drs) (h2:b=plcM i arr): ∀j,j<i+1→GenD ((ds++[d]).getD j bdK.d) j m arr drs∧(bs++[b]).getD j (intK .u64).d=plcM j arr:=fun j hj=>
 ⟨kC2 (P:=fun j x=>GenD x j m arr drs) h.1.2.1 (fun j hj=>(h.2 j hj).1) h1 j hj,kC2 (P:=fun j x=>x=plcM j arr) h.1.2.2 (fun j hj=>(h.2 j hj).2) h2 j hj⟩
end Go.Pw
namespace Go.Sv
theorem OS.own {α:Type} {K:Enc α} {e:TypeId} {A:Option Addr} {c:Nat} {ys:List α} {w:World} {I:Ids} (h:(OS e K A c ys).sat w I) (hn:ys≠[]):I (bk A):=by
 rcases h with ⟨_,h,_⟩|⟨g,cur,rfl,hI,_⟩
 ·exact absurd h hn
 ·exact(hI _).2 rfl
theorem Sep.mem {β:Type} {F:β→Assn} {w:World}: ∀ {hs:List β} {I:Ids},Sep (hs.map F) I w→ ∀b∈hs,∃i:Ids,(F b).sat w i∧ ∀x,i x→I x
 |a::hs,I,h,b,hb=>by
  obtain⟨i,j,hI,hd,hA,hS⟩:=h;rcases qe.1 hb with rfl|hb
  ·exact⟨i,hA,fun x hx=>(hI x).2 (.inl hx)⟩
  ·obtain⟨k,h1,h2⟩:=Sep.mem hS b hb;exact⟨k,h1,fun x hx=>(hI x).2 (.inr (h2 x hx))⟩
theorem kR9 {I0:Ids} {w0 w:World} {X Z:List Assn} (h:Hp I0 w0 (X++Z) w):Hp I0 w0 X w:=by
 have h2:=Hp.unbun (M:=X) (R:=[]) ((Hp.bun (M:=X) (R:=Z) h).sel [0] rfl);rwa [qK] at h2
theorem RS.lt {α:Type} {K:Enc α} {w:World} {A:Option Addr} {ys:List α} (h:RS w K A ys) (hn:ys≠[]):bk A<w.heap.size:=by
 rcases h with h|⟨cs,t,fz,_,h,_⟩
 ·exact absurd h hn
 ·exact kAW h
end Go.Sv
namespace Go.Pw
open Go.Sv Go.Rails
def HwOk (z:HG):Prop:=(z.ds.length≤6∧z.bs.length≤6)∧(∀i,i<z.ds.length→(z.ds.getD i bdK.d).pw.sm 1000000∧(z.ds.getD i bdK.d).drv.length≤900000)∧ ∀i,i<z.bs.length→Ios.isU (z.bs.getD i (intK .u64).d)
theorem kNM (e:PDv) {k:Nat} (hk:k<4):e.rl k∈e.rls:=by
 obtain rfl|rfl|rfl|rfl:k=0∨k=1∨k=2∨k=3:=by omega
 all_goals simp[PDv.rl,PDv.rls]
theorem kRA {w:World} {i:Ids} {d:BDv} (h:(hwF d).sat w i):d.pw.rs w∧RS w (intK .i64) d.il.sup.A d.il.sup.ys:=by
 obtain⟨a,b,_,_,h1,c,e,_,_,h2,_⟩:=h;refine⟨fun k hk=>?_,hdRS c d.il.sup h2⟩;obtain⟨j,h3,_⟩:=Sep.mem (F:=hdF) h1 _ (kNM d.pw hk);exact hdRS j _ h3
theorem kNN {w:World} {i:Ids} {d:BDv} (h:(hwF d).sat w i):(∀k,k<4→(d.pw.rl k).ys≠[]→i (bk (d.pw.rl k).A))∧(d.il.sup.ys≠[]→i (bk d.il.sup.A)):=by
 obtain⟨a,b,hI,_,h1,c,e,hJ,_,h2,_⟩:=h;refine⟨fun k hk hn=>?_,fun hn=>(hI _).2 (.inr ((hJ _).2 (.inl (OS.own h2 hn))))⟩;obtain⟨j,h3,h4⟩:=Sep.mem (F:=hdF) h1 _ (kNM d.pw hk);exact(hI _).2 (.inl (h4 _ (OS.own h3 hn)))
section
variable {I0:Ids} {w0 w:World} {X:List Assn} {z:HG} {rA:Option Addr} {rc:Nat} {rs:List Rail}
theorem rdH (h:Hp I0 w0 ([OS 61 bdK z.dA z.dc z.ds,Big hwF z.ds,OS 181 railK rA rc rs,OS 41 (intK .u64) z.bA z.bc z.bs]++X) w) (hk:HwOk z):RS w bdK z.dA z.ds∧RS w railK rA rs∧RS w (intK .u64) z.bA z.bs∧ ∀i,i<z.ds.length→(z.ds.getD i bdK.d).inn w:=by
 refine⟨h.os 0 rfl,h.os 2 rfl,h.os 3 rfl,fun i hi=>?_⟩;have h1:=h.bigOS (k:=1) (F:=hwF) (G:=fun b w=>b.pw.rs w∧RS w (intK .i64) b.il.sup.A b.il.sup.ys) bdK.d rfl hi fun i b k=>kRA k;exact⟨h1.1,(hk.2.1 i hi).1,h1.2,(hk.2.1 i hi).2⟩
theorem roH {sA:Option Addr} {sbs:List Int} (hs:sbs≠[]→bk sA=bk z.bA∧z.bs≠[]) {b:Nat} (hb:roP z.dA rA sA z.ds rs sbs b):RoOk I0 w0 ([OS 61 bdK z.dA z.dc z.ds,Big hwF z.ds,OS 181 railK rA rc rs,OS 41 (intK .u64) z.bA z.bc z.bs]++X) b:=by
 refine .inr ?_;rcases hb with ⟨h1,rfl⟩|⟨h1,rfl⟩|⟨h1,rfl⟩|⟨i,hi,h1⟩
 ·exact⟨0,_,rfl,fun w I h=>OS.own h h1⟩
 ·exact⟨2,_,rfl,fun w I h=>OS.own h h1⟩
 ·rw[(hs h1).1];exact⟨3,_,rfl,fun w I h=>OS.own h (hs h1).2⟩
 ·refine⟨1,_,rfl,fun w I h=>?_⟩;have hm:z.ds.getD i bdK.d∈z.ds:=by simp[List.getD,hi]
  obtain⟨j,h3,h4⟩:=Sep.mem (F:=hwF) h _ hm;rcases h1 with ⟨k,hk,hn,rfl⟩|⟨hn,rfl⟩
  ·exact h4 _ ((kNN h3).1 k hk hn)
  ·exact h4 _ ((kNN h3).2 hn)
end
theorem roR {I0:Ids} {w:World} {F:List Assn} {A B C:Option Addr} {ds:List BDv} {rs:List Rail} {bs:List Int} (hI: ∀x,¬I0 x) (h1:RS w bdK A ds) (h2:RS w railK B rs) (h3:RS w (intK .u64) C bs) (h4: ∀i,i<ds.length→(ds.getD i bdK.d).inn w) {b:Nat} (hb:roP A B C ds rs bs b):RoOk I0 w F b:=by
 refine .inl ⟨hI b,?_⟩;rcases hb with ⟨h,rfl⟩|⟨h,rfl⟩|⟨h,rfl⟩|⟨i,hi,h⟩
 ·exact h1.lt h
 ·exact h2.lt h
 ·exact h3.lt h
 ·rcases h with ⟨k,hk,hn,rfl⟩|⟨hn,rfl⟩
  ·exact((h4 i hi).1 k hk).lt hn
  ·exact(h4 i hi).2.2.1.lt hn
structure LZ where
 z:HG
 dr:Nat
structure HV where
 A:Option Addr
 n:Nat
 c:Nat
 B:Option Addr
 m:Nat
 d:Nat
 C:Option Addr
 q:Nat
 e:Nat
def sliA (z:HG):Nat→Option Addr
 |0=>z.bA
 |_=>shA z.bA 1 1 z.bc
theorem kRB (z:HG): ∀dr,bk (sliA z dr)=bk z.bA
 |0=>rfl
 |dr+1=>by
  show bk (shA z.bA 1 1 z.bc)=_;unfold shA;split
  ·rfl
  ·cases z.bA<;>rfl
theorem OS.len {α:Type} {K:Enc α} {e:TypeId} {A:Option Addr} {c:Nat} {ys:List α} {w:World} {I:Ids} (h:(OS e K A c ys).sat w I):ys.length≤c:=by
 rcases h with ⟨_,rfl,_⟩|⟨g,cur,_,_,_,h,_⟩
 ·exact qT _
 ·exact h
theorem kRC {w:World} {z:HG} (h:RS w (intK .u64) z.bA z.bs) (hc:z.bs.length≤z.bc): ∀ {dr:Nat},dr≤1→RS w (intK .u64) (sliA z dr) (z.bs.drop dr)
 |0,_=>h
 |1,_=>h.drop 1 hc
 |dr+2,h=>by omega
def hvH (z:HG) (rA:Option Addr) (rc m:Nat) (dr:Nat):HV:=⟨z.dA,z.ds.length,z.dc,rA,m,rc,sliA z dr,z.bs.length-dr,z.bc-dr⟩
structure SpX where
 d:BDv
 bs:List Int
 dr:Nat
theorem HwOk.gen {z:HG} {m arr:Int} {drs:List Go.Drv.DH} (h1:z.ds.length≤6) (h2:z.bs.length=z.ds.length) (hd: ∀i,i<drs.length→Go.Drv.rgD (drs.getD i dhK.d).d) (h: ∀i,i<z.ds.length→GenD (z.ds.getD i bdK.d) i m arr drs∧z.bs.getD i (intK .u64).d=plcM i arr):HwOk z:=by
 refine⟨⟨h1,by omega⟩,fun i hi=>⟨fun k hk=>qk ((h i hi).1.sm.rl k hk).2.2 (by decide),?_⟩,fun i hi=>?_⟩
 ·rw[(h i hi).1.drv];exact qk (kP7 hd i) (by decide)
 ·rw[(h i (by omega)).2];have:=kQS i arr;unfold Ios.isU;omega
structure KeyH (I:Ids) (w:World) (HH:List Assn) (V:HV) (ds:List BDv) (rs:List Rail) (bs:List Int):Prop where
 n:V.n=ds.length
 m:V.m=rs.length
 q:V.q=bs.length
 l1:ds.length≤1000000
 l2:rs.length≤1000000
 l3:bs.length≤1000000
 u: ∀i,i<bs.length→Ios.isU (bs.getD i (intK .u64).d)
 rd: ∀X w',Hp I w (HH++X) w'→RS w' bdK V.A ds∧RS w' railK V.B rs∧RS w' (intK .u64) V.C bs∧ ∀i,i<ds.length→(ds.getD i bdK.d).inn w'
 ro: ∀X b,roP V.A V.B V.C ds rs bs b→RoOk I w (HH++X) b
def hwHH (z:HG) (rA:Option Addr) (rc:Nat) (rs:List Rail):List Assn:=[OS 61 bdK z.dA z.dc z.ds,Big hwF z.ds,OS 181 railK rA rc rs,OS 41 (intK .u64) z.bA z.bc z.bs]
theorem KeyH.made {I:Ids} {w:World} {z:HG} (hz:HwOk z) {dr:Nat} (hdr:dr≤1) {rA:Option Addr} {rc:Nat} {rs:List Rail} (l2:rs.length≤1000000):KeyH I w (hwHH z rA rc rs) (hvH z rA rc rs.length dr) z.ds rs (z.bs.drop dr):=by
 refine⟨rfl,rfl,(qG ..).symm,by have:=hz.1.1;omega,l2,by rw[qG];have:=hz.1.2;omega,fun i hi=>?_,fun X w' h=>?_,fun X b hb=>?_⟩
 ·rw[qG] at hi;have e:(z.bs.drop dr).getD i (intK .u64).d=z.bs.getD (dr+i) (intK .u64).d:=by simp[List.getD]
  rw[e];exact hz.2.2 _ (by omega)
 ·obtain⟨g1,g2,g3,g4⟩:=rdH h hz;obtain⟨i,j,hA,_⟩:=h.at (k:=3) rfl;exact⟨g1,g2,kRC g3 (OS.len hA) hdr,g4⟩
 ·refine roH (sA:=sliA z dr) (sbs:=z.bs.drop dr) (fun hs=>⟨kRB z dr,fun e=>hs (by rw[e];exact List.drop_nil)⟩) hb
end Go.Pw
namespace Go.Pw
open Go.Sv Go.Ios
structure RD where
 on:Bool
 base:Int
 own:Int
 val:Nat→Int
def rd0:RD:=⟨false,0,0,fun _=>0⟩
def RD.tu (g:RD) (x:Int):Tu:=⟨g.base,256,g.own,g.val (x-g.base).toNat⟩
def RD.hit (g:RD) (x:Int):Prop:=g.on=true∧g.base≤x∧x<g.base+256
def okB (b:Int):Prop:=0≤b∧b%256=0∧b≤1099511627776
structure BM (s:BS) (rs:List RD):Prop where
 ok:s.ok
 n:rs.length≤100
 tot:s.total=((rs.countP fun g=>g.on:Nat):Int)
 mem: ∀x t,inM s 0 x t↔ ∃i,i<rs.length∧(rs.getD i rd0).hit x∧t=(rs.getD i rd0).tu x
 al: ∀i,i<rs.length→(rs.getD i rd0).on=true→okB (rs.getD i rd0).base
 dj: ∀i j,i<rs.length→j<rs.length→(rs.getD i rd0).on=true→(rs.getD j rd0).on=true→(rs.getD i rd0).base=(rs.getD j rd0).base→i=j
theorem okB.u {b:Int} (h:okB b):isU b:=by unfold okB at h;unfold isU;omega
theorem okB.eq {a b x:Int} (ha:okB a) (hb:okB b) (h1:a≤x) (h2:x<a+256) (h3:b≤x) (h4:x<b+256):a=b:=by
 unfold okB at ha hb;omega
theorem kGu (rs:List RD) {i:Nat} (hi:i<rs.length) (g:RD):(((rs.set i g).countP fun g=>g.on:Nat):Int)=((rs.countP fun g=>g.on:Nat):Int)-(if (rs.getD i rd0).on=true then 1 else 0)+(if g.on=true then 1 else 0):=by
 induction rs generalizing i with
 |nil=>exact absurd hi (by simp)
 |cons a l ih=>
  cases i with
  |zero=>simp only[List.set_cons_zero,List.countP_cons,List.getD_cons_zero];split<;>split<;>omega
  |succ i=>
   have:=ih (i:=i) (by simpa using hi);simp only[List.set_cons_succ,List.countP_cons,List.getD_cons_succ];split<;>omega
section
variable {s s2:BS} {rs:List RD} {i:Nat}
theorem BM.t0 (h:BM s rs):s.total≤100:=by
 have h1:=h.tot;have h2:=List.countP_le_length (l:=rs) (p:=fun g=>g.on);have h3:=h.n;omega
theorem BM.map (h:BM s rs) (hi:i<rs.length) (hoff:(rs.getD i rd0).on=false) {b o e:Int} (hb:okB b) (ho:0≤o∧o<256) (hf: ∀j,j<rs.length→(rs.getD j rd0).on=true→(rs.getD j rd0).base≠b)
 (hm:MapO s 0 b 256 o e s2):e=0∧BM s2 (rs.set i ⟨true,b,o,fun _=>0⟩):=by
 have hg:kD9 0 b 256 o:=⟨⟨by omega,by omega⟩,by unfold okB at hb;unfold okR;omega,ho⟩
 have hok:=kGk h.ok hb.u hm;have hnb: ¬Ios.busy (s.sp 0).hs b 256:=by
  rw[kJt h.ok (by decide) (by decide)];rintro⟨x,t,h1,h2,h3⟩;obtain⟨j,hj,⟨g1,g2,g3⟩,_⟩:=(h.mem x t).1 h3;exact hf j hj g1 (okB.eq (h.al j hj g1) hb g2 g3 h1 h2)
 have ht0:=h.t0;cases hm with
 |bad h1=>exact absurd hg h1
 |busy m hz _ hb'=>
  obtain rfl:m=0:=by omega
  exact absurd hb' hnb
 |full m hz _ _ ht=>omega
 |done m bp A c hz _ hn ht=>
  obtain rfl:m=0:=by omega
  refine⟨rfl,hok,by rw[qI];exact h.n,?_,fun x t=>?_,fun j hj hon=>?_,fun j k hj hk h1 h2 h3=>?_⟩
  ·rw[kGu rs hi,hoff,←h.tot];show s.total+1=s.total-0+1;omega
  ·rw[show((0:Int)=((0:Nat):Int)) from rfl,kJs h.ok (by decide)];constructor
   ·rintro(⟨_,h1,h2,h3⟩|h1)
    ·refine⟨i,by rw[qI];exact hi,?_⟩;rw[kA1 _ _ _ _ hi];have h2':x≤b+(256-1):=h2;refine⟨⟨rfl,h1,by show x<b+256;omega⟩,?_⟩;rw[h3];simp[tuM,RD.tu,byt]
    ·obtain⟨j,hj,h2,h3⟩:=(h.mem x t).1 h1;have hne:i≠j:=fun e=>by subst e;rw[h2.1] at hoff;cases hoff
     refine⟨j,by rw[qI];exact hj,?_⟩;rw[kA0 _ _ _ hne];exact⟨h2,h3⟩
   ·rintro⟨j,hj,h2,h3⟩;rw[qI] at hj;by_cases e:i=j
    ·subst e;rw[kA1 _ _ _ _ hi] at h2 h3;refine .inl ⟨rfl,h2.2.1,?_,by rw[h3];simp[tuM,RD.tu,byt]⟩;have h4:x<b+256:=h2.2.2;show x≤b+(256-1);omega
    ·rw[kA0 _ _ _ e] at h2 h3;exact .inr ((h.mem x t).2 ⟨j,hj,h2,h3⟩)
  ·rw[qI] at hj;by_cases e:i=j
   ·subst e;rw[kA1 _ _ _ _ hi];exact hb
   ·rw[kA0 _ _ _ e] at hon ⊢;exact h.al j hj hon
  ·rw[qI] at hj hk;by_cases e:i=j
   ·by_cases e2:i=k
    ·omega
    ·subst e;rw[kA1 _ _ _ _ hi,kA0 _ _ _ e2] at h3;rw[kA0 _ _ _ e2] at h2;exact absurd h3.symm (hf k hk h2)
   ·by_cases e2:i=k
    ·subst e2;rw[kA1 _ _ _ _ hi,kA0 _ _ _ e] at h3;rw[kA0 _ _ _ e] at h1;exact absurd h3 (hf j hj h1)
    ·rw[kA0 _ _ _ e] at h1 h3;rw[kA0 _ _ _ e2] at h2 h3;exact h.dj j k hj hk h1 h2 h3
theorem BM.unm (h:BM s rs) (hi:i<rs.length) (hon:(rs.getD i rd0).on=true) {e:Int} (hu:UnO s 0 (rs.getD i rd0).base 256 e s2):e=0∧BM s2 (rs.set i {rs.getD i rd0 with on:=false}):=by
 have hin:inM s 0 (rs.getD i rd0).base ((rs.getD i rd0).tu (rs.getD i rd0).base):=(h.mem _ _).2 ⟨i,hi,⟨hon,Int.le_refl _,by omega⟩,rfl⟩;have hex:=(kQh h.ok).2 ⟨_,hin,rfl,rfl⟩;cases hu with
 |no h1=>exact absurd hex h1
 |yes m k h1=>
  refine⟨rfl,kOe h.ok h1,by rw[qI];exact h.n,?_,fun x t=>?_,fun j hj hon'=>?_,fun j k' hj hk h1' h2 h3=>?_⟩
  ·rw[kGu rs hi,hon,←h.tot];show s.total-1=s.total-1+0;omega
  ·rw[kOa h.ok h1];constructor
   ·rintro⟨h2,h3⟩;obtain⟨j,hj,h4,h5⟩:=(h.mem x t).1 h2;have hne:i≠j:=fun e=>by subst e;exact h3 ⟨rfl,h4.2.1,h4.2.2⟩
    exact⟨j,by rw[qI];exact hj,by rw[kA0 _ _ _ hne];exact⟨h4,h5⟩⟩
   ·rintro⟨j,hj,h4,h5⟩;rw[qI] at hj;by_cases e:i=j
    ·subst e;rw[kA1 _ _ _ _ hi] at h4;exact absurd h4.1 (by simp)
    ·rw[kA0 _ _ _ e] at h4 h5;refine⟨(h.mem x t).2 ⟨j,hj,h4,h5⟩,fun h6=>e (h.dj i j hi hj hon h4.1 (okB.eq (h.al i hi hon) (h.al j hj h4.1) h6.2.1 h6.2.2 h4.2.1 h4.2.2))⟩
  ·rw[qI] at hj;by_cases e:i=j
   ·subst e;rw[kA1 _ _ _ _ hi] at hon';exact absurd hon' (by simp)
   ·rw[kA0 _ _ _ e] at hon' ⊢;exact h.al j hj hon'
  ·rw[qI] at hj hk;by_cases e:i=j
   ·subst e;rw[kA1 _ _ _ _ hi] at h1';exact absurd h1' (by simp)
   ·by_cases e2:i=k'
    ·subst e2;rw[kA1 _ _ _ _ hi] at h2;exact absurd h2 (by simp)
    ·rw[kA0 _ _ _ e] at h1' h3;rw[kA0 _ _ _ e2] at h2 h3;exact h.dj j k' hj hk h1' h2 h3
theorem BM.en (h:BM s rs) {o e:Int} {v:Bool} (he:EnO s o v e s2):BM s2 rs:=by
 have hok:=kJw h.ok he;cases he with
 |bad _=>exact h
 |done ho=>exact⟨hok,h.n,h.tot,fun x t=>(kM5 rfl).trans (h.mem x t),h.al,h.dj⟩
theorem BM.see (h:BM s rs) (hi:i<rs.length) (hon:(rs.getD i rd0).on=true) {k:Nat} (hk:k<256):ownM s 0 ((rs.getD i rd0).base+k)=(rs.getD i rd0).own∧pkM s 0 ((rs.getD i rd0).base+k)=(rs.getD i rd0).val k∧(fnd s 0 ((rs.getD i rd0).base+k)).isSome=true:=by
 have hin:=(h.mem ((rs.getD i rd0).base+k) _).2 ⟨i,hi,⟨hon,by omega,by omega⟩,rfl⟩;obtain⟨h1,h2,h3⟩:=kOX h.ok hin;refine⟨h1,?_,h3⟩;rw[h2];show(rs.getD i rd0).val ((rs.getD i rd0).base+k-(rs.getD i rd0).base).toNat=_;rw[show((rs.getD i rd0).base+(k:Int)-(rs.getD i rd0).base).toNat=k by omega]
theorem BM.none (h:BM s rs) {x:Int} (hx: ∀i,i<rs.length→ ¬(rs.getD i rd0).hit x):ownM s 0 x= -1:=
 (kQg fun t ht=>by obtain⟨j,hj,h1,_⟩:=(h.mem x t).1 ht;exact hx j hj h1).1
end
end Go.Pw
namespace Go.Pw
open Go.Sv Go.Rails Go.Dg
theorem kGv {i:Nat} {d:IDv} {l:Link} (h:l∈lk1 i d d.sup.ys.length):l.con=(i:Int)∧((0≤d.par∧l.sup=d.par)∨l.sup∈d.sup.ys):=by
 unfold lk1 at h;rw[List.mem_append] at h;rcases h with h|h
 ·split at h
  ·rw[qm] at h;subst h;exact⟨rfl,.inl ⟨by assumption,rfl⟩⟩
  ·exact(List.not_mem_nil h).elim
 ·rw[List.take_length] at h;obtain⟨s,hs,rfl⟩:=List.mem_map.1 h;exact⟨rfl,.inr hs⟩
theorem kKT {ids:List IDv} {l:Link}: ∀ {m:Nat},l∈lkI ids m→ ∃i,i<m∧l∈lk1 i (ids.getD i idK.d) (ids.getD i idK.d).sup.ys.length
 |0,h=>(List.not_mem_nil h).elim
 |m+1,h=>by
  rw[lkI,List.mem_append] at h;rcases h with h|h
  ·obtain⟨i,hi,h⟩:=kKT h;exact⟨i,by omega,h⟩
  ·exact⟨m,by omega,h⟩
theorem kRU {i:Nat} {d:IDv} {p:Int} (hp:d.par=p) (h:SupO d.sup.ys i p):(lk1 i d d.sup.ys.length).Nodup:=by
 unfold lk1;rw[List.nodup_append,List.take_length];refine⟨by split<;>simp,?_,?_⟩
 ·have h1:=h.n;rw[List.nodup_iff_pairwise_ne] at h1 ⊢;exact List.Pairwise.map _ (fun a b hab e=>hab (by injection e)) h1
 ·intro a ha b hb e;subst e;split at ha
  ·rw[qm] at ha;subst ha;obtain⟨s,hs,e⟩:=List.mem_map.1 hb;injection e with e1 e2
   exact(h.r s hs).2 (by rw[e2,hp])
  ·exact(List.not_mem_nil ha).elim
section
variable {ids:List IDv} {n:Nat}
def GenI (d:IDv) (i:Nat):Prop:=(-1≤d.par∧d.par<i)∧(0≤d.dly∧d.dly<12)∧d.sup.ys.length≤6∧SupO d.sup.ys i d.par
theorem kNS (h: ∀i,i<n→GenI (ids.getD i idK.d) i): ∀m,m≤n→(lkI ids m).Nodup
 |0,_=>List.nodup_nil
 |m+1,hm=>by
  rw[lkI,List.nodup_append];refine⟨kNS h m (by omega),kRU rfl (h m (by omega)).2.2.2,fun a ha b hb e=>?_⟩;subst e;obtain⟨i,hi,h1⟩:=kKT ha;have h2:=(kGv h1).1;have h3:=(kGv hb).1;omega
theorem kNT (h: ∀i,i<n→GenI (ids.getD i idK.d) i): ∀m,m≤n→(lkI ids m).length≤m* 7
 |0,_=>qT _
 |m+1,hm=>by
  have h1:=kNT h m (by omega);have h2:=kCJ m (ids.getD m idK.d) (ids.getD m idK.d).sup.ys.length;have h3:=(h m (by omega)).2.2.1;rw[lkI,qD];omega
theorem kHx (h: ∀i,i<n→GenI (ids.getD i idK.d) i) {l:Link} (hl:l∈lkI ids n): ∃i:Nat,i<n∧l.con=(i:Int)∧0≤l.sup∧l.sup<i:=by
 obtain⟨i,hi,h1⟩:=kKT hl;obtain⟨h2,h3⟩:=kGv h1;have hg:=h i hi;refine⟨i,hi,h2,?_⟩;rcases h3 with ⟨h4,h5⟩|h4
 ·have:=hg.1;omega
 ·exact(hg.2.2.2.r _ h4).1
theorem kPF (hn:n≤64) (h: ∀i,i<n→GenI (ids.getD i idK.d) i):chkM n (lkI ids n)=0:=by
 have hlen:=kNT h n (qU _);have hok: ∀j,j<(lkI ids n).length→okL n ((lkI ids n).getD j linkK.d):=fun j hj=>by
  have hm:(lkI ids n).getD j linkK.d∈lkI ids n:=by
   rw[show(lkI ids n).getD j linkK.d=(lkI ids n)[j] by simp[List.getD,hj]];exact List.getElem_mem _
  obtain⟨i,hi,h2,h3,h4⟩:=kHx h hm;unfold okL;omega
 have hc:clM n (lkI ids n)=0:=by
  unfold clM;rw[if_neg (by omega),if_pos hok,if_pos (kNS h n (qU _))]
 rw[kEt hc,if_pos];intro i hi;cases e:wI (lkI ids n) n i i with
 |false=>rfl
 |true=>
  have:=kCZ (lkI ids n) (fun a b=>b<a) (fun a b h0=>by
   obtain⟨l,hl,h1,h2⟩:=kHL.1 h0;obtain⟨i,hi,h3,h4,h5⟩:=kHx h hl;omega) (fun a b c h1 h2=>by omega) n i i e
  omega
theorem kM7 (hn:ids.length≤64) (h: ∀i,i<ids.length→GenI (ids.getD i idK.d) i):newI ids=0:=by
 rw[kC1 (by omega) fun i hi=>?_]
 ·exact kPF hn h
 ·have:=h i hi;unfold GenI at this;unfold badI;omega
end
theorem kRV {e:PDv} {i:Nat} {m:Int} (h:SmA e i m) (hd:DpA e 6):e.ok i m:=
 ⟨h.par,fun k hk=>⟨(h.rl k hk).1,(h.rl k hk).2.1⟩,(kCb e).2 ⟨h.d0,hd⟩,h.ws,h.wd⟩
theorem evNm: ∀ {k:Nat},k<6→Go.Drv.isNm (evL.getD k [])=true
 |0,_=>by decide
 |1,_=>by decide
 |2,_=>by decide
 |3,_=>by decide
 |4,_=>by decide
 |5,_=>by decide
 |k+6,h=>by omega
theorem kRW {n i:Nat} {t:Go.Drv.Tr} (h:Go.Drv.okT n t=true):Go.Drv.okT n (reT i t)=true:=by
 simp only[Go.Drv.okT,qg,qj] at h ⊢;obtain⟨⟨⟨⟨h1,h2⟩,h3⟩,h4⟩,h5⟩:=h;refine⟨⟨⟨⟨h1,evNm (by omega)⟩,?_⟩,by simpa[reT] using h4⟩,?_⟩
 ·simp only[Go.Drv.gdOk,Bool.or_eq_true,qj] at h3 ⊢;rcases h3 with h3|⟨a,b,c⟩
  ·exact .inl h3
  ·exact .inr ⟨by show _%64* 4=0;rw[a];rfl,b,c⟩
 ·rw[List.all_eq_true] at h5 ⊢;intro o ho;obtain⟨p,hp,rfl⟩:=List.mem_map.1 ho;exact h5 p hp
theorem kPG {d:Go.Drv.Dv} {i:Nat} (hi:i<d.ts.length):(reM d).ts.getD i Go.Drv.tr0=reT i (d.ts.getD i Go.Drv.tr0):=by
 simp[reM,List.getD,hi]
theorem kRX {d:Go.Drv.Dv} (h:Go.Drv.chkM d=0):Go.Drv.chkM (reM d)=0:=by
 have hA:Go.Drv.chkA d=true∧d.ss.Nodup:=by
  unfold Go.Drv.chkM at h;split at h
  ·rename_i h1;split at h
   ·exact⟨h1,by assumption⟩
   ·exact absurd h (by decide)
  ·exact absurd h (by decide)
 have hl:(reM d).ts.length=d.ts.length:=by simp[reM]
 have hB:Go.Drv.chkA (reM d)=true:=by
  have h1:=hA.1;simp only[Go.Drv.chkA,qg,qj,List.all_eq_true] at h1 ⊢;obtain⟨⟨⟨⟨a,b⟩,c⟩,e⟩,f⟩:=h1;refine⟨⟨⟨⟨a,by rw[hl];exact b⟩,c⟩,fun t ht=>?_⟩,fun i hi=>?_⟩
  ·obtain⟨i,hi,rfl⟩:=List.getElem_of_mem ht;rw[hl] at hi;have h2:=kRW (i:=i) (e _ (List.getElem_mem hi));simpa[reM] using h2
  ·rw[hl] at hi;have h2:=f i hi;rw[List.mem_range] at hi;unfold Go.Drv.kFm at h2 ⊢;rcases h2 with h2|h2
   ·exact .inl h2
   ·right;rw[kPG hi,kPG (by omega)];exact h2
 unfold Go.Drv.chkM;rw[if_pos hB,if_pos (show(reM d).ss.Nodup from hA.2)]
theorem kG9 {d:Go.Drv.Dv} (h:Go.Drv.rgD d):Go.Drv.kAH (txtM d)=(0,reM (Go.Drv.kA5 d)):=by
 have h1:=kRX (Go.Drv.kFE d);unfold txtM Go.Drv.fmtR;rw[if_pos h1];exact Go.Drv.kIb h1 (kP5 (Go.Drv.kDy h))
theorem kNU {x:Int} (h:0≤x):regP (x%64* 4):=by
 unfold regP;rw[qW (by omega)];omega
theorem kRY {d:Go.Drv.Dv} (h:Go.Drv.rgD d):fitD (reM d).ts:=by
 intro i hi;have hl:(reM d).ts.length=d.ts.length:=by simp[reM]
 rw[hl] at hi;rw[kPG hi];have hm:d.ts.getD i Go.Drv.tr0∈d.ts:=by
  rw[show d.ts.getD i Go.Drv.tr0=d.ts[i] by simp[List.getD,hi]];exact List.getElem_mem _
 have hr:=h _ hm;refine⟨kNU hr.1.1.1,fun k hk=>?_⟩;have hk':k<(d.ts.getD i Go.Drv.tr0).ops.length:=by simpa[reT] using hk
 have e:(reT i (d.ts.getD i Go.Drv.tr0)).ops.getD k Go.Drv.roK.d=reO ((d.ts.getD i Go.Drv.tr0).ops[k]):=by
  show(((d.ts.getD i Go.Drv.tr0).ops.map reO)).getD k Go.Drv.roK.d=_;generalize (d.ts.getD i Go.Drv.tr0).ops=l at hk' ⊢;simp[List.getD,hk']
 rw[e];exact kNU (hr.2 _ (List.getElem_mem hk')).1.1
theorem kRZ {ds:List BDv} {rs:List Rail} {bs:List Int} {arr:Int} {drs:List Go.Drv.DH} (hn:ds.length≤6) (hb:bs.length=ds.length) (hd: ∀i,i<drs.length→Go.Drv.rgD (drs.getD i dhK.d).d) (hrs:rs.length≤8) (hrg:newE rs=0)
 (h: ∀i,i<ds.length→GenD (ds.getD i bdK.d) i rs.length arr drs∧bs.getD i (intK .u64).d=plcM i arr):PwOk ds rs bs:=by
 refine⟨by omega,hb,fun i hi=>?_,fun i hi=>?_,?_,?_,?_⟩
 ·rw[(h i (by omega)).2];unfold plcM;rw[qW (by omega)];omega
 ·have g:=(h i hi).1;have hpr: ∃d,Go.Drv.rgD d∧Go.Drv.kAH (ds.getD i bdK.d).drv=(0,reM (Go.Drv.kA5 d)):=by
   rw[g.drv];unfold drvM;split
   ·exact⟨_,hd i (by assumption),kG9 (hd i (by assumption))⟩
   ·have hr:Go.Drv.rgD ⟨[],[],[]⟩:=fun t ht=>(List.not_mem_nil ht).elim;exact⟨_,hr,kG9 hr⟩
  obtain⟨d,hr,hp⟩:=hpr;have hf:=g.fn;have hm:=kA8 arr (n:=9) (by decide);refine⟨⟨by omega,by omega,g.par.symm⟩,⟨g.r1,g.r2,g.r3⟩,by rw[hp],?_⟩;rw[hp];exact kRY (Go.Drv.kDy hr)
 ·unfold fnL;rw[List.nodup_iff_pairwise_ne,List.pairwise_iff_getElem];intro i j hi hj hij;have hi':i<ds.length:=by simpa using hi
  have hj':j<ds.length:=by simpa using hj
  have gi:=(h i hi').1.fn;have gj:=(h j hj').1.fn;have hm:=kA8 arr (n:=9) (by decide);have ei:ds.getD i bdK.d=ds[i]:=by simp[List.getD,hi']
  have ej:ds.getD j bdK.d=ds[j]:=by simp[List.getD,hj']
  rw[ei] at gi;rw[ej] at gj;simp only[List.getElem_map];omega
 ·rw[newT,kGX (by simp only[pwL,qE];omega)]
  ·simpa using hrg
  ·intro i hi;simp only[pwL,qE] at hi;rw[kGc ds hi];exact kRV (h i hi).1.sm (h i hi).1.dp
 ·refine kM7 (by simp only[ilL,qE];omega) fun i hi=>?_;simp only[ilL,qE] at hi;rw[kEF ds hi];have g:=(h i hi).1;refine⟨by rw[g.par];exact g.sm.par,g.dly,g.sl,by rw[g.par];exact g.su⟩
end Go.Pw
namespace Go.Pw
open Go.Sv Go.Ios
def RD.put (g:RD) (k:Nat) (v:Int):RD:={g with val:=fun j=>if j=k then v else g.val j}
theorem BM.poke {s s2:BS} {rs:List RD} {i:Nat} (h:BM s rs) (hi:i<rs.length) (hon:(rs.getD i rd0).on=true) {k:Nat} (hk:k<256) {v:Int} (hv:0≤v∧v≤255) {b:Bool} (hp:PkO s 0 ((rs.getD i rd0).base+k) v b s2):
 b=true∧BM s2 (rs.set i ((rs.getD i rd0).put k v)):=by
 obtain⟨_,_,hs⟩:=h.see hi hon hk;cases hp with
 |no h1=>rw[h1] at hs;cases hs
 |yes m j A c hz hm hf hj hA=>
  obtain rfl:m=0:=by omega
  have hin:=kJq (s:=s) (m:=0) (i:=j) (x:=(rs.getD i rd0).base+k) (by decide) hf;obtain⟨m2,j2,hz2,hm2,hf2,hj2,hb1,hb2,_⟩:=kJp h.ok hin;obtain rfl:m2=0:=by omega
  obtain rfl:j2=j:=by have hf3:fnd s 0 ((rs.getD i rd0).base+k)=some j2:=hf2;rw[hf] at hf3;exact(qY hf3).symm
  have hb3:(rs.getD i rd0).base+k≤(mh (s.sp 0).hs j2).base+((mh (s.sp 0).hs j2).len-1):=hb2;have hH:({mh (s.sp 0).hs j2 with A:=A,c:=c,bs:=wrK (raw0 (mh (s.sp 0).hs j2)) ((rs.getD i rd0).base+k-(mh (s.sp 0).hs j2).base).toNat v 1}:MH).ok:=kQe (a:=⟨0,(rs.getD i rd0).base+k,1,true,v⟩) ((h.ok.sp 0 (by decide)).each j2 hj) hA hb1 (by show(rs.getD i rd0).base+(k:Int)+1-1≤_;omega) (by show(1:Int)≤1;omega);have hv0:byo v 0=v:=by unfold byo pw;omega
  have hI:=fun(x:Int) (t:Tu)=>kOb h.ok (m:=0) (by decide) hj (p:=(rs.getD i rd0).base+k) (v:=v) (n:=1) hb1 (by show(rs.getD i rd0).base+(k:Int)+((1:Nat):Int)-1≤_;omega) (by omega) A c (z:=0) (x:=x) (t:=t);have hal:=h.al i hi hon;refine⟨rfl,kOT h.ok (by decide) hj hH rfl rfl,by rw[qI];exact h.n,?_,fun x t=>?_,fun j hj hon'=>?_,fun a b ha hb h1 h2 h3=>?_⟩
  ·rw[kGu rs hi,←h.tot];show s.total=s.total-_+(if (rs.getD i rd0).on=true then 1 else 0)
   omega
  ·rw[hI x t];constructor
   ·rintro⟨t0,h1,rfl⟩;obtain⟨a,ha,h2,rfl⟩:=(h.mem x t0).1 h1;refine⟨a,by rw[qI];exact ha,?_⟩;by_cases e:i=a
    ·subst e;rw[kA1 _ _ _ _ hi];refine⟨h2,?_⟩;unfold upd RD.tu RD.put;by_cases hx:x=(rs.getD i rd0).base+k
     ·rw[if_pos ⟨rfl,by omega,by omega⟩];subst hx;show Tu.mk _ _ _ (byo v _)=Tu.mk _ _ _ _;rw[show((rs.getD i rd0).base+(k:Int)-((rs.getD i rd0).base+k)).toNat=0 by omega,hv0];rw[show((rs.getD i rd0).base+(k:Int)-(rs.getD i rd0).base).toNat=k by omega];simp
     ·have:=h2.2;rw[if_neg (by omega)];simp only[];rw[if_neg (by omega)]
    ·rw[kA0 _ _ _ e];refine⟨h2,?_⟩;unfold upd;rw[if_neg];rintro⟨_,h3,h4⟩;exact e (h.dj i a hi ha hon h2.1 (okB.eq hal (h.al a ha h2.1) (x:=x) (by omega) (by omega) h2.2.1 h2.2.2))
   ·rintro⟨a,ha,h2,rfl⟩;rw[qI] at ha;by_cases e:i=a
    ·subst e;rw[kA1 _ _ _ _ hi] at h2 ⊢;refine⟨(rs.getD i rd0).tu x,(h.mem x _).2 ⟨i,hi,h2,rfl⟩,?_⟩;unfold upd RD.tu RD.put;by_cases hx:x=(rs.getD i rd0).base+k
     ·rw[if_pos ⟨rfl,by omega,by omega⟩];subst hx;show Tu.mk _ _ _ _=Tu.mk _ _ _ (byo v _);rw[show((rs.getD i rd0).base+(k:Int)-((rs.getD i rd0).base+k)).toNat=0 by omega,hv0];simp only[];rw[show((rs.getD i rd0).base+(k:Int)-(rs.getD i rd0).base).toNat=k by omega];simp
     ·have h4:(rs.getD i rd0).base≤x∧x<(rs.getD i rd0).base+256:=h2.2;rw[if_neg (by omega)];simp only[];rw[if_neg (by omega)]
    ·rw[kA0 _ _ _ e] at h2 ⊢;refine⟨_,(h.mem x _).2 ⟨a,ha,h2,rfl⟩,?_⟩;unfold upd;rw[if_neg];rintro⟨_,h3,h4⟩;exact e (h.dj i a hi ha hon h2.1 (okB.eq hal (h.al a ha h2.1) (x:=x) (by omega) (by omega) h2.2.1 h2.2.2))
  ·rw[qI] at hj;by_cases e:i=j
   ·subst e;rw[kA1 _ _ _ _ hi];exact hal
   ·rw[kA0 _ _ _ e] at hon' ⊢;exact h.al j hj hon'
  ·rw[qI] at ha hb;have hg: ∀c,((rs.set i ((rs.getD i rd0).put k v)).getD c rd0).on=(rs.getD c rd0).on∧((rs.set i ((rs.getD i rd0).put k v)).getD c rd0).base=(rs.getD c rd0).base:=fun c=>by
    by_cases e:i=c
    ·subst e;rw[kA1 _ _ _ _ hi];exact⟨rfl,rfl⟩
    ·rw[kA0 _ _ _ e];exact⟨rfl,rfl⟩
   rw[(hg a).1] at h1;rw[(hg b).1] at h2;rw[(hg a).2,(hg b).2] at h3;exact h.dj a b ha hb h1 h2 h3
def rdsM (ps:Nat→Int×Int) (n i:Nat):List RD:=(List.range n).map fun j=>if j<i then ⟨true,(ps j).1,(ps j).2,fun _=>0⟩ else rd0
theorem kBc (ps:Nat→Int×Int) (n i:Nat):(rdsM ps n i).length=n:=by simp[rdsM]
theorem kHy (ps:Nat→Int×Int) {n i j:Nat} (hj:j<n):(rdsM ps n i).getD j rd0=if j<i then ⟨true,(ps j).1,(ps j).2,fun _=>0⟩ else rd0:=by
 simp[rdsM,List.getD,hj]
theorem kPH (ps:Nat→Int×Int) {n i:Nat} (hi:i<n):(rdsM ps n i).set i ⟨true,(ps i).1,(ps i).2,fun _=>0⟩=rdsM ps n (i+1):=by
 apply List.ext_getElem (by simp[kBc]);intro j h1 h2;have hj:j<n:=by simpa[rdsM] using h2
 rw[List.getElem_set];simp only[rdsM,List.getElem_map,List.getElem_range];by_cases e:i=j
 ·subst e;rw[if_pos rfl,if_pos (by omega)]
 ·rw[if_neg e];by_cases e2:j<i
  ·rw[if_pos e2,if_pos (by omega)]
  ·rw[if_neg e2,if_neg (by omega)]
theorem bm0 (ps:Nat→Int×Int) {n:Nat} (hn:n≤100):BM bs0 (rdsM ps n 0):=by
 have hoff: ∀j,j<n→((rdsM ps n 0).getD j rd0).on=false:=fun j hj=>by rw[kHy ps hj,if_neg (by omega)];rfl
 refine⟨kJd,by rw[kBc];exact hn,?_,fun x t=>?_,fun i hi hon=>?_,fun i j hi hj h1 h2 h3=>?_⟩
 ·have:(rdsM ps n 0).countP (fun g=>g.on)=0:=by
   rw[List.countP_eq_zero];intro g hg;obtain⟨j,_,rfl⟩:=List.mem_map.1 hg;simp[rd0]
  rw[this];rfl
 ·constructor
  ·intro h1;obtain⟨m,i,hz,hm,hi,_⟩:=h1;obtain rfl:m=0:=by omega
   exact absurd hi (by show ¬i<0;omega)
  ·rintro⟨i,hi,h1,_⟩;rw[kBc] at hi;have:=h1.1;rw[hoff i hi] at this;cases this
 ·rw[kBc] at hi;rw[hoff i hi] at hon;cases hon
 ·rw[kBc] at hi;rw[hoff i hi] at h1;cases h1
section
variable {ps:Nat→Int×Int} {n:Nat}
def PsOk (ps:Nat→Int×Int) (n:Nat):Prop:=n≤100∧(∀i,i<n→okB (ps i).1∧0≤(ps i).2∧(ps i).2<256)∧ ∀i j,i<n→j<n→(ps i).1=(ps j).1→i=j
theorem kHz (hp:PsOk ps n) {i:Nat} (hi:i<n) {s s2:BS} {e:Int} (h:BM s (rdsM ps n i)) (hm:MapO s 0 (ps i).1 256 (ps i).2 e s2):e=0∧BM s2 (rdsM ps n (i+1)):=by
 have:=h.map (i:=i) (by rw[kBc];exact hi) (by rw[kHy ps hi,if_neg (by omega)];rfl) (hp.2.1 i hi).1 (hp.2.1 i hi).2 (fun j hj hon hb=>by
  rw[kBc] at hj;rw[kHy ps hj] at hon hb;by_cases c:j<i
  ·rw[if_pos c] at hb;have:=hp.2.2 j i hj hi hb;omega
  ·rw[if_neg c] at hon;cases hon) hm
 rw[kPH ps hi] at this;exact this
theorem kKU (hp:PsOk ps n): ∀ {i:Nat} {s:BS},i≤n→OkO ps bs0 i s→BM s (rdsM ps n i)
 |0,s,_,h=>by cases h;exact bm0 ps hp.1
 |i+1,s,hi,⟨s1,s2,e,h1,h2,h3⟩=>(kHz hp (by omega) (kKU hp (by omega) h1) h2).2.en h3
theorem kPI (hp:PsOk ps n) {e:Int} {s:BS} (h:EndO ps bs0 n e s):e=0∧BM s (rdsM ps n n):=by
 rcases h with ⟨h1,h2⟩|⟨h1,i,s1,hi,h2,h3⟩
 ·exact⟨h1,kKU hp (qU _) h2⟩
 ·exact absurd (kHz hp hi (kKU hp (by omega) h2) h3).1 h1
end
theorem kKV {a:Int} {i j:Nat} (hi:i<12) (hj:j<12) (h:plcM i a=plcM j a):i=j:=by
 unfold plcM at h;have:=kA8 a (n:=12) (by decide);omega
theorem kKW (i:Nat) (a:Int):okB (plcM i a):=by
 unfold plcM okB;omega
theorem kRa {ds:List BDv} {bs:List Int} {arr:Int} (hn:ds.length≤6) (h: ∀i,i<ds.length→(0≤(ds.getD i bdK.d).fn∧(ds.getD i bdK.d).fn<255)∧bs.getD i (Rails.intK .u64).d=plcM i arr):PsOk (psM ds bs) ds.length:=by
 refine⟨by omega,fun i hi=>?_,fun i j hi hj e=>?_⟩
 ·obtain⟨h1,h2⟩:=h i hi;unfold psM;rw[h2];exact⟨kKW _ _,h1.1,by show(ds.getD i bdK.d).fn<256;omega⟩
 ·unfold psM at e;rw[(h i hi).2,(h j hj).2] at e;exact kKV (by omega) (by omega) e
def clip (f:Nat→Int) (j:Nat):Nat→Int:=fun m=>if m<j then f m else 0
def mvA (rs:List RD) (to:Nat→Int) (k:Nat):List RD:=rs.mapIdx fun j g=>if to j=g.base then g else if j<k then {g with on:=false} else g
def mvB (rs:List RD) (to:Nat→Int) (k:Nat):List RD:=rs.mapIdx fun j g=>if to j=g.base then g else if j<k then ⟨true,to j,g.own,clip g.val 256⟩ else {g with on:=false}
section
variable {rs:List RD} {to:Nat→Int} {k:Nat}
theorem kAk:(mvA rs to k).length=rs.length:=by simp[mvA]
theorem kB4:(mvB rs to k).length=rs.length:=by simp[mvB]
theorem kDH {j:Nat} (hj:j<rs.length):(mvA rs to k).getD j rd0=if to j=(rs.getD j rd0).base then rs.getD j rd0 else if j<k then {rs.getD j rd0 with on:=false} else rs.getD j rd0:=by
 simp[mvA,List.getD,hj]
theorem kCm {j:Nat} (hj:j<rs.length):(mvB rs to k).getD j rd0=if to j=(rs.getD j rd0).base then rs.getD j rd0 else if j<k then ⟨true,to j,(rs.getD j rd0).own,clip (rs.getD j rd0).val 256⟩ else {rs.getD j rd0 with on:=false}:=by
 simp[mvB,List.getD,hj]
theorem kDI {a b:List RD} (hl:a.length=b.length) (h: ∀j,j<a.length→a.getD j rd0=b.getD j rd0):a=b:=by
 apply List.ext_getElem hl;intro j h1 h2;have:=h j h1;simpa[List.getD,h1,h2] using this
theorem kM8:mvA rs to 0=rs:=kDI kAk fun j hj=>by
 rw[kAk] at hj;rw[kDH hj];split
 ·rfl
 ·rw[if_neg (by omega)]
theorem kPJ:mvA rs to rs.length=mvB rs to 0:=kDI (by rw[kAk,kB4]) fun j hj=>by
 rw[kAk] at hj;rw[kDH hj,kCm hj];split
 ·rfl
 ·first|rw[if_pos hj,if_neg (by omega)]|rw[if_neg (show ¬j<0 by omega)]
theorem kI0 (hk:k<rs.length) (h:to k=(rs.getD k rd0).base):mvA rs to (k+1)=mvA rs to k:=kDI (by rw[kAk,kAk]) fun j hj=>by
 rw[kAk] at hj;rw[kDH hj,kDH hj];split
 ·rfl
 ·by_cases e:j=k
  ·subst e;contradiction
  ·by_cases c:j<k
   ·rw[if_pos c,if_pos (by omega)]
   ·rw[if_neg c,if_neg (by omega)]
theorem kFL (hk:k<rs.length):(mvA rs to k).getD k rd0=rs.getD k rd0:=by
 rw[kDH hk];split
 ·rfl
 ·rw[if_neg (by omega)]
theorem kM9 (hk:k<rs.length) (h:to k≠(rs.getD k rd0).base):(mvA rs to k).set k {(mvA rs to k).getD k rd0 with on:=false}=mvA rs to (k+1):=kDI (by rw[qI,kAk,kAk]) fun j hj=>by
 rw[qI,kAk] at hj;by_cases e:k=j
 ·subst e;rw[kA1 _ _ _ _ (by rw[kAk];exact hk),kFL hk,kDH hk,if_neg h,if_pos (by omega)]
 ·rw[kA0 _ _ _ e,kDH hj,kDH hj];split
  ·rfl
  ·by_cases c:j<k
   ·rw[if_pos c,if_pos (by omega)]
   ·rw[if_neg c,if_neg (by omega)]
theorem kI1 (hk:k<rs.length) (h:to k=(rs.getD k rd0).base):mvB rs to (k+1)=mvB rs to k:=kDI (by rw[kB4,kB4]) fun j hj=>by
 rw[kB4] at hj;rw[kCm hj,kCm hj];split
 ·rfl
 ·by_cases e:j=k
  ·subst e;contradiction
  ·by_cases c:j<k
   ·rw[if_pos c,if_pos (by omega)]
   ·rw[if_neg c,if_neg (by omega)]
def mvC (rs:List RD) (to:Nat→Int) (k m:Nat):List RD:=(mvB rs to k).set k ⟨true,to k,(rs.getD k rd0).own,clip (rs.getD k rd0).val m⟩
theorem kGw {m:Nat}:(mvC rs to k m).length=rs.length:=by rw[mvC,qI,kB4]
theorem kFM {m:Nat} (hk:k<rs.length):(mvC rs to k m).getD k rd0=⟨true,to k,(rs.getD k rd0).own,clip (rs.getD k rd0).val m⟩:=by
 rw[mvC,kA1 _ _ _ _ (by rw[kB4];exact hk)]
theorem kPK {m:Nat} (hk:k<rs.length):(mvC rs to k m).set k (((mvC rs to k m).getD k rd0).put m ((rs.getD k rd0).val m))=mvC rs to k (m+1):=by
 rw[kFM hk,mvC,List.set_set,mvC]
 congr 1
 unfold RD.put clip
 congr 1
 funext j
 simp only[];by_cases e:j=m
 ·subst e;rw[if_pos rfl,if_pos (by omega)]
 ·rw[if_neg e];by_cases c:j<m
  ·rw[if_pos c,if_pos (by omega)]
  ·rw[if_neg c,if_neg (by omega)]
theorem kKX (hk:k<rs.length) (h:to k≠(rs.getD k rd0).base):mvC rs to k 256=mvB rs to (k+1):=kDI (by rw[kGw,kB4]) fun j hj=>by
 rw[kGw] at hj;by_cases e:k=j
 ·subst e;rw[kFM hk,kCm hk,if_neg h,if_pos (by omega)]
 ·rw[mvC,kA0 _ _ _ e,kCm hj,kCm hj];split
  ·rfl
  ·by_cases c:j<k
   ·rw[if_pos c,if_pos (by omega)]
   ·rw[if_neg c,if_neg (by omega)]
variable {s s2:BS}
theorem kGA (h:BM s (mvA rs to k)) (hk:k<rs.length) (hon:(rs.getD k rd0).on=true) (hne:to k≠(rs.getD k rd0).base) {e:Int} (hu:UnO s 0 (rs.getD k rd0).base 256 e s2):BM s2 (mvA rs to (k+1)):=by
 have h1:=kFL (to:=to) hk;have:=(h.unm (i:=k) (by rw[kAk];exact hk) (by rw[h1];exact hon) (by rw[h1];exact hu)).2;rwa [kM9 hk hne] at this
theorem kKY (h:BM s (mvB rs to k)) (hk:k<rs.length) (hto: ∀j,j<rs.length→okB (to j)) (hinj: ∀i j,i<rs.length→j<rs.length→to i=to j→i=j) (hne:to k≠(rs.getD k rd0).base) (ho:0≤(rs.getD k rd0).own∧(rs.getD k rd0).own<256) {e:Int}
 (hm:MapO s 0 (to k) 256 (rs.getD k rd0).own e s2):e=0∧BM s2 (mvC rs to k 0):=by
 have hoff:((mvB rs to k).getD k rd0).on=false:=by rw[kCm hk,if_neg hne,if_neg (by omega)]
 have h1:=h.map (i:=k) (by rw[kB4];exact hk) hoff (hto k hk) ho (fun j hj hon hb=>by
  rw[kB4] at hj;rw[kCm hj] at hon hb;have hjk:j=k:=by
   split at hb
   ·rename_i c;exact hinj j k hj hk (by rw[c,hb])
   ·split at hb
    ·exact hinj j k hj hk hb
    ·rename_i c1 c2;rw[if_neg c1,if_neg c2] at hon;cases hon
  subst hjk;rw[if_neg hne,if_neg (by omega)] at hon;cases hon) hm
 refine⟨h1.1,?_⟩;have h2:=h1.2;have e0:clip (rs.getD k rd0).val 0=fun _=>0:=by funext j;unfold clip;rw[if_neg (by omega)]
 unfold mvC;rw[e0];exact h2
theorem kRb {m:Nat} (h:BM s (mvC rs to k m)) (hk:k<rs.length) (hm:m<256) (hv:0≤(rs.getD k rd0).val m∧(rs.getD k rd0).val m≤255) {b:Bool} (hp:PkO s 0 (to k+m) ((rs.getD k rd0).val m) b s2):BM s2 (mvC rs to k (m+1)):=by
 have h1:=kFM (to:=to) (m:=m) hk;have:=(h.poke (i:=k) (by rw[kGw];exact hk) (by rw[h1]) hm hv (by rw[h1];exact hp)).2;rwa [kPK hk] at this
theorem kI2 {j:Nat} (hj:j<rs.length) (hon:(rs.getD j rd0).on=true):((mvB rs to rs.length).getD j rd0).on=true∧((mvB rs to rs.length).getD j rd0).base=to j∧((mvB rs to rs.length).getD j rd0).own=(rs.getD j rd0).own∧ ∀m,m<256→((mvB rs to rs.length).getD j rd0).val m=(rs.getD j rd0).val m:=by
 rw[kCm hj];split
 ·rename_i c;exact⟨hon,c.symm,rfl,fun _ _=>rfl⟩
 ·exact⟨rfl,rfl,rfl,fun m hm=>by show clip _ 256 m=_;unfold clip;rw[if_pos hm]⟩
end
end Go.Pw
namespace Go.Pw
open Go.Sv Go.Rails Go.Dg
theorem kT6 {P C:Prop} {α β:Type} {E A B:α→β→Prop} (h:(P→ ∃a b,E a b∧(A a b∨B a b))∧(¬P→C)):(P∧ ∃a b,E a b∧A a b)∨(P∧ ∃a b,E a b∧B a b)∨(¬P∧C):=by
 by_cases hp:P
 ·obtain⟨a,b,h1,h2|h2⟩:=h.1 hp
  ·exact .inl ⟨hp,a,b,h1,h2⟩
  ·exact .inr (.inl ⟨hp,a,b,h1,h2⟩)
 ·exact .inr (.inr ⟨hp,h.2 hp⟩)
theorem kCO {I0:Ids} {w0 w:World} {X:List Assn} {c:Nat} (h:Hp I0 w0 (X++[Blk c (.cells (Ios.rbC Ios.rb0).toArray 110 (0,0))]) w):Hp I0 w0 (X++[Bun (Ios.rbL c Ios.rb0)]) w:=by
 refine kDu ?_;have h1:=(((h.nilOS (e:=275) (K:=Ios.rhK)).newBig 0 Ios.rhK.d (F:=Ios.rhA) OS.emp).nilOS (e:=473) (K:=Ios.fltK)).nilOS (e:=477) (K:=Ios.trcK);simp only[qL] at h1;exact h1
theorem kPL {d:BDv} {w:World} (h:d.few) (h1:d.pw.rs w) (h2:RS w (intK .i64) d.il.sup.A d.il.sup.ys):d.inn w:=
 ⟨h1,fun k hk=>qk (h.1 k hk) (by decide),h2,qk h.2.2 (by decide)⟩
def tB (t:TT):Assn:=Blk t.b (.cells #[.slice t.dA t.es.length t.dc,.slice t.sA t.st.length t.sc,.pointer (some ⟨t.rb,0,none⟩),.int .u64 t.clk] 225 (0,0))
def tS (t:TT):Assn:=OS 3 (intK .i64) t.sA t.sc t.st
def mB (t:MG):Assn:=Blk t.b (.cells #[.slice t.A t.ms.length t.c,.slice t.oA t.od.length t.oc,.int .u64 t.clk] 230 (0,0))
def mS (t:MG):Assn:=OS 227 msK t.A t.c t.ms
def cpX (p:CP):List Assn:=[OS 3 (intK .i64) p.oA p.oc p.od,OS 57 pdK p.t.dA p.t.dc p.t.es,Big pdF p.t.es,Bun (robj 348 p.t.rb p.t.ra p.t.rs),Big msF p.m.ms,OS 3 (intK .i64) p.m.oA p.m.oc p.m.od]
def cpV (p:CP):List Assn:=[cpB p,cpU p,tB p.t,tS p.t,Big unF p.us,mB p.m,mS p.m,Bun (cpX p)]
section
variable {I0:Ids} {w0 w:World} {p:CP} {X:List Assn}
theorem kRc (h:Hp I0 w0 (cpL p++X) w):Hp I0 w0 (cpV p++X) w:=by
 have e:cpL p++X=([cpB p,cpU p,Big unF p.us,OS 3 (intK .i64) p.oA p.oc p.od,tB p.t,OS 57 pdK p.t.dA p.t.dc p.t.es,Big pdF p.t.es,tS p.t]++robj 348 p.t.rb p.t.ra p.t.rs)++([mB p.m,mS p.m,Big msF p.m.ms,OS 3 (intK .i64) p.m.oA p.m.oc p.m.od]++X):=by
  unfold cpL ttL mgL;simp only[qL,qM,List.nil_append];rfl
 rw[e] at h;have h1:=h.perm ((qf (l₂:=robj 348 p.t.rb p.t.ra p.t.rs)).append_right _);rw[qL] at h1;have h2:Hp I0 w0 (Bun (robj 348 p.t.rb p.t.ra p.t.rs)::cpB p::cpU p::Big unF p.us::OS 3 (intK .i64) p.oA p.oc p.od::tB p.t::OS 57 pdK p.t.dA p.t.dc p.t.es::Big pdF p.t.es::tS p.t::mB p.m::mS p.m::Big msF p.m.ms::OS 3 (intK .i64) p.m.oA p.m.oc p.m.od::X) w:=Hp.bun h1;have h3:Hp I0 w0 (cpX p++([cpB p,cpU p,tB p.t,tS p.t,Big unF p.us,mB p.m,mS p.m]++X)) w:=h2.perm (kAg (S:=cpX p++[cpB p,cpU p,tB p.t,tS p.t,Big unF p.us,mB p.m,mS p.m]) (R:=X) (ks:=[4,5,5,0,7,7,0,0,1,1,0,0,0]) rfl);have h4:Hp I0 w0 ([Bun (cpX p)]++([cpB p,cpU p,tB p.t,tS p.t,Big unF p.us,mB p.m,mS p.m]++X)) w:=Hp.bun h3;exact h4.perm (kAg (L:=Bun (cpX p)::cpB p::cpU p::tB p.t::tS p.t::Big unF p.us::mB p.m::mS p.m::X) (S:=cpV p) (R:=X) (ks:=[1,1,1,1,1,1,1,0]) rfl)
end
structure CPr (p:CP) (w:World):Prop where
 pb:w.heap[p.b]?=some (.cells #[.slice p.uA p.us.length p.uc,.pointer (some ⟨p.t.b,0,none⟩),.pointer (some ⟨p.m.b,0,none⟩),.pointer (some ⟨p.bb,0,none⟩),.slice p.oA p.od.length p.oc] 121 (0,0))
 us:RS w unK p.uA p.us
 tb:w.heap[p.t.b]?=some (.cells #[.slice p.t.dA p.t.es.length p.t.dc,.slice p.t.sA p.t.st.length p.t.sc,.pointer (some ⟨p.t.rb,0,none⟩),.int .u64 p.t.clk] 225 (0,0))
 ts:RS w (intK .i64) p.t.sA p.t.st
 mb:w.heap[p.m.b]?=some (.cells #[.slice p.m.A p.m.ms.length p.m.c,.slice p.m.oA p.m.od.length p.m.oc,.int .u64 p.m.clk] 230 (0,0))
 ms:RS w msK p.m.A p.m.ms
 dr: ∀i,i<p.us.length→w.heap[(p.us.getD i unK.d).q]?=some (.cells #[.string (bs (p.us.getD i unK.d).d.name),.slice (p.us.getD i unK.d).d.sA (p.us.getD i unK.d).d.ss.length (p.us.getD i unK.d).d.sc,.slice (p.us.getD i unK.d).d.tA (p.us.getD i unK.d).d.hs.length (p.us.getD i unK.d).d.tc,.int .i64 (p.us.getD i unK.d).st.st,.bool (p.us.getD i unK.d).st.wt,.int .i64 (p.us.getD i unK.d).st.cd] 232 (0,0))
theorem kRd {I0:Ids} {w0 w:World} {p:CP} {X:List Assn} (h:Hp I0 w0 ([cpB p,cpU p,tB p.t,tS p.t,Big unF p.us,mB p.m,mS p.m]++X) w):CPr p w:=
 ⟨h.blk 0 rfl,h.os 1 rfl,h.blk 2 rfl,h.os 3 rfl,h.blk 5 rfl,h.os 6 rfl,fun i hi=>
  h.bigOS (k:=4) (F:=unF) (G:=fun u w=>w.heap[u.q]?=some (.cells #[.string (bs u.d.name),.slice u.d.sA u.d.ss.length u.d.sc,.slice u.d.tA u.d.hs.length u.d.tc,.int .i64 u.st.st,.bool u.st.wt,.int .i64 u.st.cd] 232 (0,0))) unK.d rfl hi fun j u hu=>by
   obtain⟨_,_,_,_,_,_,_,_,_,_,_,_,_,_,hb,_⟩:=hu;exact hb.2⟩
def ctF (h:Hd):Assn:=OS 5 (intK .u8) h.A h.c h.ys
def ct0:Hd:=⟨none,0,[]⟩
def vals (f:Nat→Int) (n:Nat):List Int:=(List.range n).map f
theorem kB9 (f:Nat→Int) (n:Nat):(vals f n).length=n:=by simp[vals]
theorem kE0 (f:Nat→Int) {n i:Nat} (h:i<n) (d:Int):(vals f n).getD i d=f i:=by simp[vals,List.getD,h]
theorem kKZ (f:Nat→Int) (n:Nat):List.replicate n 0=vals (clip f 0) n:=by
 apply List.ext_getElem (by simp[vals]);intro i h1 h2;simp[vals,clip]
theorem kMA (f:Nat→Int) {n i:Nat} (h:i<n):(vals (clip f i) n).set i (f i)=vals (clip f (i+1)) n:=by
 apply List.ext_getElem (by simp[vals]);intro j h1 h2;rw[List.getElem_set];simp only[vals,List.getElem_map,List.getElem_range];unfold clip;by_cases e:i=j
 ·subst e;rw[if_pos rfl,if_pos (by omega)]
 ·rw[if_neg e];by_cases c:j<i
  ·rw[if_pos c,if_pos (by omega)]
  ·rw[if_neg c,if_neg (by omega)]
theorem kMB (f:Nat→Int) (n:Nat):vals (clip f n) n=vals f n:=by
 apply List.ext_getElem (by simp[vals]);intro j h1 h2;have hj:j<n:=by simpa[vals] using h2
 simp only[vals,List.getElem_map,List.getElem_range];unfold clip;rw[if_pos hj]
theorem kRe {β:Type} {F:β→Assn} {hs:List β} {I0:Ids} {w0 w:World} {X:List Assn} (d:β) {m:Nat} {a:β} (hm:m<hs.length) (h:Hp I0 w0 (X++[Big F hs,F a]) w):Hp I0 w0 (X++[Big F (hs.set m a)]) w:=by
 have h1:Hp I0 w0 (Big F hs::F a::X) w:=h.perm qf;have h2:Hp I0 w0 (F (hs.getD m d)::(F a::X++[Big F (hs.eraseIdx m)])) w:=h1.focus (k:=0) d rfl hm;have h3:=kNC h2;have h4:Hp I0 w0 (Big F (hs.set m a)::X) w:=Hp.unfocus (k:=0) h3 rfl hm;exact h4.perm (qi _ _).symm
structure CtM (rs:List RD) (to:Nat→Int) (k:Nat) (cs:List Hd):Prop where
 n:cs.length=rs.length
 on: ∀j,j<k→to j≠(rs.getD j rd0).base→(cs.getD j hdK.d).ys=vals (rs.getD j rd0).val 256∧(cs.getD j hdK.d).A≠none
 off: ∀j,j<rs.length→(k≤j∨to j=(rs.getD j rd0).base)→cs.getD j hdK.d=ct0
section
variable {rs:List RD} {to:Nat→Int} {k:Nat} {cs:List Hd}
theorem CtM.zero:CtM rs to 0 (List.replicate rs.length ct0):=
 ⟨by simp,fun j hj=>by omega,fun j hj _=>by simp[List.getD,hj]⟩
theorem CtM.keep (h:CtM rs to k cs) (e:to k=(rs.getD k rd0).base):CtM rs to (k+1) cs:=by
 refine⟨h.n,fun j hj hn=>h.on j ?_ hn,fun j hj hn=>h.off j hj ?_⟩
 ·by_cases c:j=k
  ·subst c;exact absurd e hn
  ·omega
 ·rcases hn with hn|hn
  ·exact .inl (by omega)
  ·exact .inr hn
theorem CtM.step (h:CtM rs to k cs) (hk:k<rs.length) {c:Hd} (hn:to k≠(rs.getD k rd0).base) (hc:c.ys=vals (rs.getD k rd0).val 256∧c.A≠none):CtM rs to (k+1) (cs.set k c):=by
 refine⟨by rw[qI];exact h.n,fun j hj hne=>?_,fun j hj hne=>?_⟩
 ·by_cases e:k=j
  ·subst e;rw[kA1 _ _ _ _ (by rw[h.n];exact hk)];exact hc
  ·rw[kA0 _ _ _ e];exact h.on j (by omega) hne
 ·have e:k≠j:=by
   intro e;subst e;rcases hne with g|g
   ·omega
   ·exact hn g
  rw[kA0 _ _ _ e];refine h.off j hj ?_;rcases hne with g|g
  ·exact .inl (by omega)
  ·exact .inr g
end
def mvU (us:List UN) (to:Nat→Int) (k:Nat):List UN:=us.mapIdx fun j u=>if j<k then {u with base:=to j} else u
section
variable {us:List UN} {to:Nat→Int} {k:Nat}
theorem kAV:(mvU us to k).length=us.length:=by simp[mvU]
theorem kCn {j:Nat} (hj:j<us.length):(mvU us to k).getD j unK.d=if j<k then {us.getD j unK.d with base:=to j} else us.getD j unK.d:=by
 simp[mvU,List.getD,hj]
theorem kKa {a b:List UN} (hl:a.length=b.length) (h: ∀j,j<a.length→a.getD j unK.d=b.getD j unK.d):a=b:=by
 apply List.ext_getElem hl;intro j h1 h2;have:=h j h1;simpa[List.getD,h1,h2] using this
theorem kMC:mvU us to 0=us:=kKa kAV fun j hj=>by
 rw[kAV] at hj;rw[kCn hj,if_neg (by omega)]
theorem kI3 (hk:k<us.length) (h:to k=(us.getD k unK.d).base):mvU us to (k+1)=mvU us to k:=kKa (by rw[kAV,kAV]) fun j hj=>by
 rw[kAV] at hj;rw[kCn hj,kCn hj];by_cases e:j=k
 ·subst e;rw[if_pos (by omega),if_neg (by omega),h]
 ·by_cases c:j<k
  ·rw[if_pos c,if_pos (by omega)]
  ·rw[if_neg c,if_neg (by omega)]
theorem kI4 (hk:k<us.length):(mvU us to k).set k {(mvU us to k).getD k unK.d with base:=to k}=mvU us to (k+1):=kKa (by rw[qI,kAV,kAV]) fun j hj=>by
 rw[qI,kAV] at hj;by_cases e:k=j
 ·subst e;rw[kA1 _ _ _ _ (by rw[kAV];exact hk),kCn hk,if_neg (by omega),kCn hk,if_pos (by omega)]
 ·rw[kA0 _ _ _ e,kCn hj,kCn hj];by_cases c:j<k
  ·rw[if_pos c,if_pos (by omega)]
  ·rw[if_neg c,if_neg (by omega)]
theorem kPM:Big unF (mvU us to k)=Big unF us:=by
 refine kN3 ?_;apply List.ext_getElem (by simp[kAV]);intro j h1 h2;simp only[List.getElem_map,mvU,List.getElem_mapIdx];split<;>rfl
end
structure MvP (p:CP) (rs:List RD):Prop where
 n:rs.length=p.us.length
 few:p.us.length≤16
 off:p.t.es.length=p.us.length∧p.t.st=List.replicate p.us.length 4
 u: ∀i,i<p.us.length→(rs.getD i rd0).base=(p.us.getD i unK.d).base∧(rs.getD i rd0).own=(p.us.getD i unK.d).own∧(rs.getD i rd0).on=true
 o: ∀i,i<p.us.length→0≤(p.us.getD i unK.d).own∧(p.us.getD i unK.d).own<256∧okB (p.us.getD i unK.d).base
 v: ∀i,i<p.us.length→ ∀m,0≤(rs.getD i rd0).val m∧(rs.getD i rd0).val m≤255
theorem kKb {s:Ios.BS} {rs:List RD} {to:Nat→Int} {k:Nat} (h:BM s (mvA rs to k)) (hk:k<rs.length) (hon:(rs.getD k rd0).on=true):vals (fun m=>Ios.pkM s 0 ((rs.getD k rd0).base+(m:Int))) 256=vals (rs.getD k rd0).val 256:=by
 unfold vals;refine List.map_congr_left fun m hm=>?_;have h1:=kFL (to:=to) hk;have:=(h.see (i:=k) (by rw[kAk];exact hk) (by rw[h1];exact hon) (List.mem_range.1 hm)).2.1;rwa [h1] at this
theorem kRf {p:CP} {to:Nat→Int} {k:Nat}:cpB {p with us:=mvU p.us to k}=cpB p:=
 congrArg (fun n=>Blk p.b (.cells #[.slice p.uA n p.uc,.pointer (some ⟨p.t.b,0,none⟩),.pointer (some ⟨p.m.b,0,none⟩),.pointer (some ⟨p.bb,0,none⟩),.slice p.oA p.od.length p.oc] 121 (0,0))) kAV
theorem kNV {l:List Int} {n i:Nat} (h:l=List.replicate n 4) (hi:i<n):l.getD i (intK .i64).d≠0:=by
 subst h;simp[List.getD,hi]
theorem kRg {l:List Int} (h: ∀i,i<l.length→okB (l.getD i (intK .u64).d)):alnP l:=by
 intro i hi;have:=h i hi;rw[qW this.1];exact this.2.1
end Go.Pw
namespace Go.Sv
theorem Fx.bunR {P:Program} {f:FuncId} {vs:List Value} {w:World} {Own:List Assn} {ro:Ids} {post:Value→List Assn→Prop} (h:Fx P f vs w Own ro post):Fx P f vs w Own ro (fun v L=> ∃M,post v M∧L=[Bun M]):=fun I hs hro=>
 (h I hs hro).mono fun e w' ⟨v,L',e1,hp,hh⟩=>⟨v,_,e1,⟨L',hp,rfl⟩,Hp.bun (R:=[]) (by rw[qK];exact hh)⟩
end Go.Sv
namespace Go.Pw
open Go.Sv Go.Rails Go.Dg
def pkV (l:List Int) (n i j:Nat):Nat→Int:=fun k=>if k* n+j<i then l.getD (k* n+j) (intK .u8).d else 0
def rdB (ps:Nat→Int×Int) (l:List Int) (n i:Nat):List RD:=(List.range n).map fun j=>⟨true,(ps j).1,(ps j).2,pkV l n i j⟩
section
variable {ps:Nat→Int×Int} {l:List Int} {n i:Nat}
theorem kAf:(rdB ps l n i).length=n:=by simp[rdB]
theorem kBf {j:Nat} (hj:j<n):(rdB ps l n i).getD j rd0=⟨true,(ps j).1,(ps j).2,pkV l n i j⟩:=by simp[rdB,List.getD,hj]
theorem kMD:rdsM ps n n=rdB ps l n 0:=kDI (by rw[kBc,kAf]) fun j hj=>by
 rw[kBc] at hj;rw[kHy ps hj,if_pos hj,kBf hj]
 congr 1
theorem kPN {m q:Nat} (hn:0<n) (hm:m=i%n) (hq:q=i/n):(rdB ps l n i).set m (((rdB ps l n i).getD m rd0).put q (l.getD i (intK .u8).d))=rdB ps l n (i+1):=kDI (by rw[qI,kAf,kAf]) fun j hj=>by
 rw[qI,kAf] at hj;have hmn:m<n:=hm▸Nat.mod_lt _ hn;have hi:q* n+m=i:=by rw[hm,hq,Nat.mul_comm];exact Nat.div_add_mod i n
 rw[kBf hj];by_cases e:m=j
 ·subst e;rw[kA1 _ _ _ _ (by rw[kAf];exact hmn),kBf hmn];unfold RD.put
  congr 1
  funext k
  show(if k=q then _ else pkV l n i m k)=pkV l n (i+1) m k;unfold pkV;by_cases c:k=q
  ·subst c;rw[if_pos rfl,hi,if_pos (by omega)]
  ·rw[if_neg c];have hne:k* n+m≠i:=fun h=>c (Nat.eq_of_mul_eq_mul_right hn (by omega));by_cases c2:k* n+m<i
   ·rw[if_pos c2,if_pos (by omega)]
   ·rw[if_neg c2,if_neg (by omega)]
 ·rw[kA0 _ _ _ e,kBf hj]
  congr 1
  funext k
  unfold pkV;have hne:k* n+j≠i:=fun h=>e (by
   rw[hm,←h,Nat.add_comm,Nat.add_mul_mod_self_right,Nat.mod_eq_of_lt hj])
  by_cases c2:k* n+j<i
  ·rw[if_pos c2,if_pos (by omega)]
  ·rw[if_neg c2,if_neg (by omega)]
theorem kPO {s s2:Ios.BS} {m q:Nat} (h:BM s (rdB ps l n i)) (hn:0<n) (hi:i<200) (hm:m=i%n) (hq:q=i/n) (hv:0≤l.getD i (intK .u8).d∧l.getD i (intK .u8).d≤255) {b:Bool} (hp:Ios.PkO s 0 ((ps m).1+(q:Int)) (l.getD i (intK .u8).d) b s2):b=true∧BM s2 (rdB ps l n (i+1)):=by
 have hmn:m<n:=hm▸Nat.mod_lt _ hn;have hq2:q≤i:=hq▸Nat.div_le_self _ _;have h1:=kBf (ps:=ps) (l:=l) (i:=i) hmn;have:=h.poke (i:=m) (k:=q) (by rw[kAf];exact hmn) (by rw[h1]) (by omega) hv (by rw[h1];exact hp);rwa [kPN hn hm hq] at this
theorem kKc {s:Ios.BS} (h:BM s (rdB ps l n i)) (hx:i=l.length∨n=0):BM s (rdB ps l n l.length):=by
 rcases hx with rfl|rfl
 ·exact h
 ·exact h
theorem kRh (h: ∀i,i<l.length→0≤l.getD i (intK .u8).d∧l.getD i (intK .u8).d≤255) (i:Nat):0≤l.getD i (intK .u8).d∧l.getD i (intK .u8).d≤255:=by
 by_cases c:i<l.length
 ·exact h i c
 ·have e:l.getD i (intK .u8).d=0:=by simp[List.getD,Nat.le_of_not_lt c,intK]
  rw[e];omega
theorem kRi {m q:Nat} (hn:0<n) (hi:i<l.length) (hm:m=i%n) (hq:q=i/n):pkV l n l.length m q=l.getD i (intK .u8).d:=by
 have h:q* n+m=i:=by rw[hm,hq,Nat.mul_comm];exact Nat.div_add_mod i n
 unfold pkV;rw[h,if_pos hi]
end
section
variable {s:Ios.BS} {rs:List RD} {to:Nat→Int}
theorem kNW (h:BM s (mvB rs to rs.length)) {j k:Nat} (hj:j<rs.length) (hon:(rs.getD j rd0).on=true) (hk:k<256):Ios.ownM s 0 (to j+k)=(rs.getD j rd0).own∧Ios.pkM s 0 (to j+k)=(rs.getD j rd0).val k∧(Ios.fnd s 0 (to j+k)).isSome=true:=by
 obtain⟨h1,h2,h3,h4⟩:=kI2 (to:=to) hj hon;have:=h.see (i:=j) (by rw[kB4];exact hj) h1 hk;rw[h2,h3,h4 k hk] at this;exact this
theorem kPP (h:BM s (mvB rs to rs.length)) (hon: ∀j,j<rs.length→(rs.getD j rd0).on=true) (hto: ∀j,j<rs.length→okB (to j)) {b:Int} (hb:okB b) (hne: ∀j,j<rs.length→to j≠b):Ios.ownM s 0 b= -1:=
 h.none fun j hj hh=>by
  rw[kB4] at hj;obtain⟨h1,h2,_,_⟩:=kI2 (to:=to) hj (hon j hj);obtain⟨_,h3,h4⟩:=hh;rw[h2] at h3 h4;exact hne j hj (okB.eq (hto j hj) hb h3 h4 (Int.le_refl _) (by omega))
end
structure MvQ (p p2:CP) (to:Nat→Int):Prop where
 us:p2.us=mvU p.us to p.us.length
 t:p2.t=p.t
 m:p2.m=p.m
 bb:p2.bb=p.bb
 b:p2.b=p.b
theorem MvQ.base {p p2:CP} {to:Nat→Int} (h:MvQ p p2 to) {d:Nat} (hd:d<p.us.length):(p2.us.getD d unK.d).base=to d:=by
 rw[h.us,kCn hd,if_pos hd]
theorem kME {p:CP} {ds:List BDv} {rs:List Rail} {bs l:List Int} {bb i:Nat} (hf:p.fresh ds rs bs bb) (hok:PwOk ds rs bs) (hps:PsOk (psM ds bs) ds.length) (hl: ∀i,0≤l.getD i (intK .u8).d∧l.getD i (intK .u8).d≤255):MvP p (rdB (psM ds bs) l ds.length i):=by
 have hn:=hf.un;have hu:=fun j (hj:j<p.us.length)=>hf.us j (hn▸hj);refine⟨by rw[kAf,hn],by rw[hn];exact hok.n,⟨by rw[hf.tn,hn],by rw[hf.tst,hn]⟩,fun j hj=>?_,fun j hj=>?_,fun j hj m=>?_⟩
 ·rw[kBf (hn▸hj)];exact⟨(hu j hj).1.2.2.symm,(hu j hj).1.1.symm,rfl⟩
 ·have h1:=hps.2.1 j (hn▸hj);have h2:(p.us.getD j unK.d).own=(psM ds bs j).2:=(hu j hj).1.1;have h3:(p.us.getD j unK.d).base=(psM ds bs j).1:=(hu j hj).1.2.2;rw[h2,h3];exact⟨h1.2.1,h1.2.2,h1.1⟩
 ·rw[kBf (hn▸hj)];show 0≤pkV l _ _ _ _∧pkV l _ _ _ _≤255;unfold pkV;split
  ·exact hl _
  ·omega
theorem kPQ {I0:Ids} {w0 w:World} {p:CP} {M:List Assn} (h:Hp I0 w0 [Bun (cpL p++M)] w):Hp I0 w0 (cpV p++[Bun M]) w:=by
 have h1:Hp I0 w0 (cpL p++M) w:=by
  have:=Hp.unbun (R:=[]) h;rwa [qK] at this
 exact kDu (kRc h1)
theorem kNX {i n m:Nat} (h:m=i%n):(i:Int).tmod (n:Int)=(m:Int):=by
 subst h;rw[qW (by omega)];rfl
theorem kNY {i n q:Nat} (h:q=i/n) (hi:i≤1000000):IntKind.i64.wrap ((i:Int).tdiv (n:Int))=(q:Int):=by
 have h1:(i:Int).tdiv (n:Int)=(q:Int):=by subst h;rw[Int.tdiv_eq_ediv_of_nonneg (by omega)];rfl
 have h2:q≤i:=h▸Nat.div_le_self _ _;rw[h1];exact wI64 (by omega) (by omega)
theorem kGB (f:Nat→Int) (n:Nat):vals f n++[f n]=vals f (n+1):=by simp[vals,List.range_succ]
end Go.Pw
namespace Go.Proofs.YtfmcioghekppjaaGreatDoor.Pw
open Go Go.Sv
set_option maxRecDepth 100000
theorem kFb {w:World}:Fx Tryz.prog 5 [] w [] no (fun v L=>v= .bool true∧L=[]):=Ex.kSI (d:=12) (by kernel_rfl) (by kernel_rfl)
end Go.Proofs.YtfmcioghekppjaaGreatDoor.Pw
