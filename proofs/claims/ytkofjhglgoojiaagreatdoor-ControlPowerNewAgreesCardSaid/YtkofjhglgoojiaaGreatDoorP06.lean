/-
  Joined.
-/
import Derived.Test.YtkofjhglgoojiaaGreatDoorRows
import Derived.JoinedOf
import Derived.ProofKit
import Derived.Test.YtkofjhglgoojiaaGreatDoorP02
import Derived.Test.YtkofjhglgoojiaaGreatDoorP03
import Derived.Test.YtkofjhglgoojiaaGreatDoorP04
import Derived.Test.YtkofjhglgoojiaaGreatDoorP05
import Derived.Test.YtkofjhglgoojiaaGreatDoorProg
set_option linter.unusedSimpArgs false
set_option linter.unusedVariables false
namespace Go.Proofs.YtkofjhglgoojiaaGreatDoor
open Go Go.RowKit
set_option maxRecDepth 100000 in
theorem jLaidOut:laidOutB Tryz.prog=true:=by kernel_rfl
set_option maxRecDepth 100000 in
theorem jMapsRowed:mapsRowed Tryz.prog=true:=by kernel_rfl
set_option maxRecDepth 100000 in
theorem jMayEnter:Tryz.prog.mayEnter=true:=by kernel_rfl
end Go.Proofs.YtkofjhglgoojiaaGreatDoor
namespace Go.Dg
open Go.Sv Go.Rails
def opn (g:List Bool) (e:Nat):List Link→Int
 |[]=>0
 |l::r=>opn g e r+if l.con=(e:Int)∧g.getD l.sup.toNat false=false then 1 else 0
def lkc (e i:Nat):List Link→Int
 |[]=>0
 |l::r=>lkc e i r+if l.con=(e:Int)∧l.sup=(i:Int) then 1 else 0
def freeB (links:List Link) (g:List Bool) (i:Nat):Bool:=!g.getD i false&&links.all fun l=>!decide (l.con=(i:Int))||g.getD l.sup.toNat false
def dnM (f:Nat→Bool) (n:Nat):Nat→Int
 |0=> -1
 |c+1=>if f (n-1-c) then ((n-1-c:Nat):Int) else dnM f n c
def remRun (links:List Link) (n:Nat):Nat→List Bool→List Int→List Int×List Bool
 |0,g,o=>(o,g)
 |f+1,g,o=>if dnM (freeB links g) n n<0 then (o,g) else remRun links n f (g.set (dnM (freeB links g) n n).toNat true) (o++[dnM (freeB links g) n n])
def remM (n:Nat) (links:List Link):List Int×List Bool:=remRun links n n (List.replicate n false) []
theorem dnM_spec (f:Nat→Bool) (n:Nat): ∀c,c≤n→(dnM f n c= -1∧(∀i,n-c≤i→i<n→f i=false))∨ ∃i:Nat,dnM f n c=(i:Int)∧n-c≤i∧i<n∧f i=true∧ ∀j,n-c≤j→j<i→f j=false
 |0,_=> .inl ⟨rfl,fun i h1 h2=>by omega⟩
 |c+1,h=>by
  simp only[dnM]
  by_cases hf:f (n-1-c)=true
  ·rw[if_pos hf]
   exact .inr ⟨n-1-c,rfl,by omega,by omega,hf,fun j h1 h2=>by omega⟩
  ·rw[if_neg hf]
   rcases dnM_spec f n c (by omega) with ⟨h1,h2⟩|⟨i,h1,h2,h3,h4,h5⟩
   ·refine .inl ⟨h1,fun i hi hn=>?_⟩
    by_cases e:i=n-1-c
    ·subst e;simpa using hf
    ·exact h2 i (by omega) hn
   ·refine .inr ⟨i,h1,by omega,h3,h4,fun j hj hji=>?_⟩
    by_cases e:j=n-1-c
    ·subst e;simpa using hf
    ·exact h5 j (by omega) hji
theorem opn_nonneg (g:List Bool) (e:Nat): ∀links,0≤opn g e links
 |[]=>by simp[opn]
 |l::r=>by have:=opn_nonneg g e r;simp only[opn];split<;>omega
theorem opn_zero (g:List Bool) (e:Nat): ∀links,opn g e links=0↔ ∀l∈links,l.con=(e:Int)→g.getD l.sup.toNat false=true
 |[]=>by simp[opn]
 |l::r=>by
  have h0:=opn_nonneg g e r
  have ih:=opn_zero g e r
  simp only[opn,List.forall_mem_cons]
  by_cases h:l.con=(e:Int)∧g.getD l.sup.toNat false=false
  ·rw[if_pos h]
   constructor
   ·intro x;omega
   ·intro x;have:=x.1 h.1;rw[h.2] at this;exact absurd this (by simp)
  ·rw[if_neg h,Int.add_zero,ih]
   constructor
   ·intro x;refine⟨fun hc=>?_,x⟩
    cases hg:g.getD l.sup.toNat false with
    |true=>rfl
    |false=>exact absurd ⟨hc,hg⟩ h
   ·intro x;exact x.2
theorem freeB_iff {links:List Link} {g:List Bool} {i:Nat}:freeB links g i=true↔g.getD i false=false∧opn g i links=0:=by
 rw[opn_zero];simp only[freeB,Bool.and_eq_true,Bool.not_eq_true',List.all_eq_true,Bool.or_eq_true,Bool.not_eq_true',decide_eq_false_iff_not]
 constructor
 ·rintro⟨h1,h2⟩;refine⟨h1,fun l hl hc=>?_⟩
  rcases h2 l hl with h|h
  ·exact absurd hc h
  ·exact h
 ·rintro⟨h1,h2⟩;refine⟨h1,fun l hl=>?_⟩
  by_cases hc:l.con=(i:Int)
  ·exact .inr (h2 l hl hc)
  ·exact .inl hc
theorem cntK_cons (c e:Int) (cs:List Int): ∀k,cntK (c::cs) e (k+1)=cntK cs e k+if c=e then 1 else 0
 |0=>by simp[cntK,List.getD]
 |k+1=>by
  have ih:=cntK_cons c e cs k
  rw[cntK,ih];simp only[cntK,List.getD_cons_succ];omega
theorem cntK_nb (e i:Nat): ∀links:List Link,cntK (nbM links true i) e (nbM links true i).length=lkc e i links
 |[]=>rfl
 |l::r=>by
  have ih:=cntK_nb e i r
  simp only[nbM,lkc,if_true]
  by_cases h:l.sup=(i:Int)
  ·rw[if_pos h,List.length_cons,cntK_cons,ih]
   by_cases h2:l.con=(e:Int)
   ·rw[if_pos h2,if_pos ⟨h2,h⟩]
   ·rw[if_neg h2,if_neg (fun x=>h2 x.1)]
  ·rw[if_neg h,ih,if_neg (fun x=>h x.2)];omega
theorem opn_set (g:List Bool) (e i:Nat) (hi:i<g.length) (hg:g.getD i false=false): ∀links:List Link,(∀l∈links,0≤l.sup)→opn (g.set i true) e links=opn g e links-lkc e i links
 |[],_=>by simp[opn,lkc]
 |l::r,h=>by
  have ih:=opn_set g e i hi hg r fun x hx=>h x (List.mem_cons_of_mem _ hx)
  have h0:=h l (List.mem_cons_self ..)
  simp only[opn,lkc]
  rw[ih]
  by_cases h2:l.sup=(i:Int)
  ·have e1:l.sup.toNat=i:=by omega
   rw[e1,hg]
   have:(g.set i true).getD i false=true:=by simp[List.getD,hi]
   rw[this,if_neg (show ¬(l.con=(e:Int)∧true=false) by simp)]
   by_cases h3:l.con=(e:Int)
   ·rw[if_pos ⟨h3,rfl⟩,if_pos ⟨h3,h2⟩];omega
   ·rw[if_neg (fun x=>h3 x.1),if_neg (fun x=>h3 x.1)];omega
  ·have:(g.set i true).getD l.sup.toNat false=g.getD l.sup.toNat false:=by
    simp only[List.getD,List.getElem?_set];rw[if_neg (by omega)]
   rw[this,if_neg (fun x:l.con=(e:Int)∧l.sup=(i:Int)=>h2 x.2)];omega
theorem count_set: ∀(g:List Bool) (i:Nat),i<g.length→g.getD i false=false→(g.set i true).count false+1=g.count false
 |[],i,h,_=>by simp at h
 |b::r,0,_,h=>by simp[List.getD] at h;subst h;simp
 |b::r,i+1,h,hg=>by
  have:=count_set r i (by simpa using h) (by simpa[List.getD] using hg)
  simp only[List.set_cons_succ,List.count_cons];omega
theorem count_zero: ∀(g:List Bool),g.count false=0↔ ∀i,i<g.length→g.getD i false=true
 |g=>by
  rw[List.count_eq_zero]
  constructor
  ·intro h i hi
   cases hb:g.getD i false with
   |true=>rfl
   |false=>
    have h9:g[i]=false:=by rw[List.getD,List.getElem?_eq_getElem hi] at hb;exact hb
    exact absurd (by rw[←h9];exact List.getElem_mem hi) h
  ·intro h hm
   obtain⟨i,hi,he⟩:=List.getElem_of_mem hm
   have:=h i hi
   simp[List.getD,hi,he] at this
structure SI (links:List Link) (n:Nat) (ms:List Int) (g:List Bool):Prop where
 lm:ms.length=n
 lg:g.length=n
 gone: ∀i,i<n→g.getD i false=true→ms.getD i 0<0
 open_: ∀i,i<n→g.getD i false=false→ms.getD i 0=opn g i links
theorem SI.zero {links:List Link} {n:Nat} {ms:List Int} {g:List Bool} (h:SI links n ms g) {i:Nat} (hi:i<n):ms.getD i 0=0↔freeB links g i=true:=by
 rw[freeB_iff]
 constructor
 ·intro h0
  cases hg:g.getD i false with
  |true=>have:=h.gone i hi hg;omega
  |false=>exact⟨rfl,by rw[←h.open_ i hi hg];exact h0⟩
 ·rintro⟨h1,h2⟩;rw[h.open_ i hi h1];exact h2
theorem SI.idx {links:List Link} {n:Nat} {ms:List Int} {g:List Bool} (h:SI links n ms g):dnM (freeB links g) n n=idxM 0 ms n:=by
 rcases dnM_spec (freeB links g) n n (Nat.le_refl _) with ⟨h1,h2⟩|⟨i,h1,h2,h3,h4,h5⟩
 ·rw[h1];symm;rw[idxM_none];intro j hj h0
  have:=(h.zero hj).1 h0
  rw[h2 j (by omega) hj] at this;exact absurd this (by simp)
 ·have hne:idxM 0 ms n≠ -1:=by
   intro x;rw[idxM_none] at x;exact x i h3 ((h.zero h3).2 h4)
  obtain⟨j,e1,e2,e3,e4⟩:=idxM_some hne
  rw[h1,e1]
  have h6:=(h.zero e2).1 e3
  by_cases hlt:i<j
  ·exact absurd ((h.zero h3).2 h4) (e4 i hlt)
  ·by_cases hgt:j<i
   ·rw[h5 j (by omega) hgt] at h6;exact absurd h6 (by simp)
   ·have:i=j:=by omega
    rw[this]
theorem SI.step {links:List Link} {n:Nat} {ms:List Int} {g:List Bool} (h:SI links n ms g) (hok: ∀j,j<links.length→okL n (links.getD j linkK.d)) {i:Nat} (hi:i<n) (h0:ms.getD i 0=0):
 SI links n (decs (ms.set i (-1)) (nbM links true i) (nbM links true i).length) (g.set i true):=by
 have hf:=freeB_iff.1 ((h.zero hi).1 h0)
 have hs: ∀l∈links,0≤l.sup:=by
  intro l hl;obtain⟨j,hj,he⟩:=List.getElem_of_mem hl
  have:=hok j hj;simp[List.getD,hj,he,okL] at this;omega
 have hval: ∀e,e<n→(decs (ms.set i (-1)) (nbM links true i) (nbM links true i).length).getD e 0=(ms.set i (-1)).getD e 0-lkc e i links:=by
  intro e he
  rw[decs_cnt _ _ e (by rw[List.length_set,h.lm];exact he) (fun k hk=>(nbM_ok hok true i k hk).1) _ (Nat.le_refl _),cntK_nb]
 have hle:=fun e=>(decs_getD_le (ms.set i (-1)) (nbM links true i) (nbM links true i).length e).1
 refine⟨by rw[decs_length,List.length_set,h.lm],by rw[List.length_set,h.lg],fun e he hg=>?_,fun e he hg=>?_⟩
 ·have:=hle e
  by_cases e1:e=i
  ·subst e1;rw[getD_set_self _ _ _ _ (by rw[h.lm];exact he)] at this;omega
  ·rw[getD_set_other _ _ _ (fun x=>e1 x.symm)] at this hg
   have:=h.gone e he hg;omega
 ·by_cases e1:e=i
  ·subst e1;rw[getD_set_self _ _ _ _ (by rw[h.lg];exact he)] at hg;exact absurd hg (by simp)
  ·rw[getD_set_other _ _ _ (fun x=>e1 x.symm)] at hg
   rw[hval e he,getD_set_other _ _ _ (fun x=>e1 x.symm),h.open_ e he hg,opn_set g e i (by rw[h.lg];exact hi) hf.1 links hs]
theorem run_eq {links:List Link} {n:Nat} (hok: ∀j,j<links.length→okL n (links.getD j linkK.d)): ∀(f:Nat) (ms:List Int) (g:List Bool) (o:List Int),SI links n ms g→seqRun (nbM links true) n f ms o=(remRun links n f g o).1
 |0,_,_,_,_=>rfl
 |f+1,ms,g,o,h=>by
  simp only[seqRun,remRun]
  rw[h.idx]
  by_cases hx:idxM 0 ms n= -1
  ·rw[if_pos hx,if_pos (by omega)]
  ·obtain⟨i,h1,h2,h3,_⟩:=idxM_some hx
   rw[if_neg hx,if_neg (by omega),h1,Int.toNat_natCast]
   exact run_eq hok f _ _ _ (h.step hok h2 h3)
theorem SI.start {links:List Link} {n:Nat} (hok: ∀j,j<links.length→okL n (links.getD j linkK.d)):SI links n (ms0 n links) (List.replicate n false):=by
 have hopn: ∀e,∀ls:List Link,(∀l∈ls,0≤l.sup∧l.sup<n)→opn (List.replicate n false) e ls=msM ls e:=by
  intro e ls
  induction ls with
  |nil=>intro _;rfl
  |cons l r ih=>
   intro h
   have h1:=h l (List.mem_cons_self ..)
   have:(List.replicate n false).getD l.sup.toNat false=false:=by
    simp[List.getD,List.getElem?_replicate];split<;>rfl
   simp only[opn,msM,this,and_true,ih fun x hx=>h x (List.mem_cons_of_mem _ hx)]
   split<;>omega
 refine⟨by simp[ms0],by simp,fun i hi hg=>?_,fun i hi _=>?_⟩
 ·simp[List.getD,hi] at hg
 ·have:(ms0 n links).getD i 0=msM links i:=by simp[ms0,List.getD,hi]
  rw[this,hopn]
  intro l hl;obtain⟨j,hj,he⟩:=List.getElem_of_mem hl
  have:=hok j hj;simp[List.getD,hj,he,okL] at this;omega
theorem seq_rem {links:List Link} {n:Nat} (hok: ∀j,j<links.length→okL n (links.getD j linkK.d)):seqM n links=(remM n links).1:=by
 have h:=SI.start (n:=n) hok
 unfold seqM remM
 rw[seqRun_fuel _ _ _ n _ _ (Nat.le_refl _) (nnn_bound _ _) h.lm]
 exact run_eq hok n _ _ _ h
structure RI (links:List Link) (n:Nat) (g:List Bool) (m:Nat):Prop where
 len:g.length=n
 cnt:g.count false+m=n
 rank: ∃rk:Nat→Nat,∀i,i<n→g.getD i false=true→rk i<m∧ ∀l∈links,l.con=(i:Int)→g.getD l.sup.toNat false=true∧rk l.sup.toNat<rk i
theorem RI.step {links:List Link} {n m:Nat} {g:List Bool} (h:RI links n g m) {i:Nat} (hi:i<n) (hf:freeB links g i=true):RI links n (g.set i true) (m+1):=by
 rw[freeB_iff,opn_zero] at hf
 obtain⟨rk,hrk⟩:=h.rank
 refine⟨by rw[List.length_set,h.len],?_,fun e=>if e=i then m else rk e,fun e he hg=>?_⟩
 ·have:=count_set g i (by rw[h.len];exact hi) hf.1
  have:=h.cnt;omega
 ·have hmono: ∀x,g.getD x false=true→x≠i∧(g.set i true).getD x false=true:=by
   intro x hx
   have hne:x≠i:=by rintro rfl;rw[hf.1] at hx;exact absurd hx (by simp)
   exact⟨hne,by rw[getD_set_other _ _ _ (fun y=>hne y.symm)];exact hx⟩
  by_cases e1:e=i
  ·subst e1
   simp only[if_true]
   refine⟨by omega,fun l hl hc=>?_⟩
   have h1:=hf.2 l hl hc
   have h2:=hmono _ h1
   rw[if_neg h2.1]
   refine⟨h2.2,?_⟩
   have hlt:l.sup.toNat<n:=by
    by_cases hh:l.sup.toNat<n
    ·exact hh
    ·rw[List.getD,List.getElem?_eq_none (by rw[h.len];omega)] at h1;exact absurd h1 (by simp)
   exact(hrk _ hlt h1).1
  ·rw[getD_set_other _ _ _ (fun x=>e1 x.symm)] at hg
   have h1:=hrk e he hg
   simp only[if_neg e1]
   refine⟨by omega,fun l hl hc=>?_⟩
   have h2:=h1.2 l hl hc
   have h3:=hmono _ h2.1
   rw[if_neg h3.1]
   exact⟨h3.2,h2.2⟩
theorem rem_end {links:List Link} {n:Nat}: ∀(f:Nat) (g:List Bool) (o:List Int),RI links n g o.length→g.count false≤f→
 RI links n (remRun links n f g o).2 (remRun links n f g o).1.length∧ ∀i,i<n→freeB links (remRun links n f g o).2 i=false
 |0,g,o,h,hf=>by
  refine⟨h,fun i hi=>?_⟩
  have:=(count_zero g).1 (by omega) i (by rw[h.len];exact hi)
  show freeB links g i=false
  rw[freeB,this];rfl
 |f+1,g,o,h,hf=>by
  simp only[remRun]
  rcases dnM_spec (freeB links g) n n (Nat.le_refl _) with ⟨h1,h2⟩|⟨i,h1,h2,h3,h4,h5⟩
  ·rw[if_pos (by omega)];exact⟨h,fun i hi=>h2 i (by omega) hi⟩
  ·rw[if_neg (by omega),h1,Int.toNat_natCast]
   have:=count_set g i (by rw[h.len];exact h3) (freeB_iff.1 h4).1
   exact rem_end f _ _ (by rw[List.length_append];exact h.step h3 h4) (by omega)
theorem RI.start {links:List Link} {n:Nat}:RI links n (List.replicate n false) 0:=by
 refine⟨by simp,by simp,fun _=>0,fun i hi hg=>?_⟩
 simp[List.getD,hi] at hg
def W0 (links:List Link) (a b:Nat):Bool:=links.any fun l=>decide (l.con=(a:Int)∧l.sup=(b:Int))
def wR (k:Nat) (W:Nat→Nat→Bool) (a b:Nat):Bool:=W a b||(W a k&&W k b)
def wI (links:List Link):Nat→Nat→Nat→Bool
 |0=>W0 links
 |k+1=>wR k (wI links k)
theorem wI_mono (links:List Link) (a b:Nat) (h:W0 links a b=true): ∀k,wI links k a b=true
 |0=>h
 |k+1=>by simp[wI,wR,wI_mono links a b h k]
theorem wI_trans (links:List Link): ∀k a b c,c<k→wI links k a c=true→wI links k c b=true→wI links k a b=true
 |0,_,_,_,h,_,_=>by omega
 |k+1,a,b,c,h,h1,h2=>by
  have ih:=fun a b c h=>wI_trans links k a b c h
  simp only[wI,wR,Bool.or_eq_true,Bool.and_eq_true] at h1 h2 ⊢
  by_cases e:c=k
  ·subst e
   have h1:wI links c a c=true:=by rcases h1 with h|h;exact h;exact h.1
   have h2:wI links c c b=true:=by rcases h2 with h|h;exact h;exact h.2
   exact .inr ⟨h1,h2⟩
  ·have hc:c<k:=by omega
   rcases h1 with h1|⟨h1,h1'⟩
   ·rcases h2 with h2|⟨h2,h2'⟩
    ·exact .inl (ih a b c hc h1 h2)
    ·exact .inr ⟨ih a k c hc h1 h2,h2'⟩
   ·rcases h2 with h2|⟨h2,h2'⟩
    ·exact .inr ⟨h1,ih k b c hc h1' h2⟩
    ·exact .inr ⟨h1,h2'⟩
theorem wI_sound (links:List Link) (R:Nat→Nat→Prop) (h0: ∀a b,W0 links a b=true→R a b) (ht: ∀a b c,R a c→R c b→R a b): ∀k a b,wI links k a b=true→R a b
 |0,a,b,h=>h0 a b h
 |k+1,a,b,h=>by
  simp only[wI,wR,Bool.or_eq_true,Bool.and_eq_true] at h
  rcases h with h|⟨h1,h2⟩
  ·exact wI_sound links R h0 ht k a b h
  ·exact ht a b k (wI_sound links R h0 ht k a k h1) (wI_sound links R h0 ht k k b h2)
theorem W0_iff {links:List Link} {a b:Nat}:W0 links a b=true↔ ∃l∈links,l.con=(a:Int)∧l.sup=(b:Int):=by
 simp[W0,List.any_eq_true]
def cT (f:Nat→Bool):Nat→Nat
 |0=>0
 |k+1=>cT f k+if f k then 1 else 0
theorem cT_le {f g:Nat→Bool}: ∀k,(∀i,i<k→f i=true→g i=true)→cT f k≤cT g k
 |0,_=>Nat.le_refl _
 |k+1,h=>by
  have ih:=cT_le (f:=f) (g:=g) k fun i hi=>h i (by omega)
  have:=h k (by omega)
  simp only[cT]
  cases hf:f k<;>cases hg:g k<;>simp_all<;>omega
theorem cT_lt {f g:Nat→Bool}: ∀k j,(∀i,i<k→f i=true→g i=true)→j<k→f j=false→g j=true→cT f k<cT g k
 |0,_,_,h,_,_=>by omega
 |k+1,j,h,hj,h1,h2=>by
  simp only[cT]
  by_cases e:j=k
  ·subst e
   have:=cT_le (f:=f) (g:=g) j fun i hi=>h i (by omega)
   simp[h1,h2];omega
  ·have ih:=cT_lt (f:=f) (g:=g) k j (fun i hi=>h i (by omega)) (by omega) h1 h2
   have:=h k (by omega)
   cases hf:f k<;>cases hg:g k<;>simp_all<;>omega
theorem rem_iff {links:List Link} {n:Nat} (hok: ∀j,j<links.length→okL n (links.getD j linkK.d)):(remM n links).1.length=n↔ ∀i,i<n→wI links n i i=false:=by
 have hr: ∀l∈links,(0≤l.con∧l.con<n)∧0≤l.sup∧l.sup<n:=by
  intro l hl;obtain⟨j,hj,he⟩:=List.getElem_of_mem hl
  have:=hok j hj;simpa[List.getD,hj,he,okL] using this
 obtain⟨hI,hfree⟩:=rem_end (links:=links) (n:=n) n (List.replicate n false) [] RI.start (by simp)
 change RI links n (remM n links).2 (remM n links).1.length at hI
 change ∀i,i<n→freeB links (remM n links).2 i=false at hfree
 generalize (remM n links).1.length=m at *
 generalize (remM n links).2=g at *
 have hcnt:=hI.cnt
 constructor
 ·intro hm i hi
  have hall:=(count_zero g).1 (by omega)
  obtain⟨rk,hrk⟩:=hI.rank
  cases hw:wI links n i i with
  |false=>rfl
  |true=>
   have:=wI_sound links (fun a b=>rk b<rk a) (fun a b h=>by
    obtain⟨l,hl,h1,h2⟩:=W0_iff.1 h
    have hb:=hr l hl
    have:=((hrk a (by omega) (hall a (by rw[hI.len];omega))).2 l hl h1).2
    rw[h2,Int.toNat_natCast] at this;exact this) (fun a b c h1 h2=>by omega) n i i hw
   omega
 ·intro hw
  by_cases hz:g.count false=0
  ·omega
  ·exfalso
   have hdesc: ∀f i,i<n→g.getD i false=false→cT (wI links n i) n≤f→False:=by
    intro f
    induction f with
    |zero=>
     intro i hi hg hle
     have hf:=hfree i hi
     rw[Bool.eq_false_iff,Ne,freeB_iff,opn_zero] at hf
     apply hf;refine⟨hg,fun l hl hc=>?_⟩
     exfalso
     have hb:=hr l hl
     have hi2:wI links n i l.sup.toNat=true:=wI_mono links _ _ (W0_iff.2 ⟨l,hl,hc,by omega⟩) n
     have:=cT_lt (f:=fun _=>false) (g:=wI links n i) n l.sup.toNat (fun _ _ h=>by simp at h) (by omega) rfl hi2
     omega
    |succ f ih=>
     intro i hi hg hle
     have hf:=hfree i hi
     rw[Bool.eq_false_iff,Ne,freeB_iff,opn_zero] at hf
     apply hf;refine⟨hg,fun l hl hc=>?_⟩
     cases hx:g.getD l.sup.toNat false with
     |true=>rfl
     |false=>
      exfalso
      have hb:=hr l hl
      have hi2:wI links n i l.sup.toNat=true:=wI_mono links _ _ (W0_iff.2 ⟨l,hl,hc,by omega⟩) n
      refine ih l.sup.toNat (by omega) hx ?_
      have:=cT_lt (f:=wI links n l.sup.toNat) (g:=wI links n i) n l.sup.toNat (fun x hx h=>wI_trans links n i x _ (by omega) hi2 h) (by omega) (hw _ (by omega)) hi2
      omega
   have hex: ∃i,i<n∧g.getD i false=false:=by
    by_cases hh: ∃i,i<n∧g.getD i false=false
    ·exact hh
    ·exfalso;apply hz;rw[count_zero];intro i hi
     cases hx:g.getD i false with
     |true=>rfl
     |false=>exact absurd ⟨i,by rw[hI.len] at hi;exact hi,hx⟩ hh
   obtain⟨i,hi,hg⟩:=hex
   exact hdesc _ i hi hg (Nat.le_refl _)
theorem seq_iff {links:List Link} {n:Nat} (hok: ∀j,j<links.length→okL n (links.getD j linkK.d)):(seqM n links).length=n↔ ∀i,i<n→wI links n i i=false:=by
 rw[seq_rem hok];exact rem_iff hok
end Go.Dg
namespace Go.Pw
open Go.Sv Go.Rails Go.Dg
theorem OS.cong {α:Type} {e:TypeId} {K:Enc α} {A:Option Addr} {c:Nat} {ys ys':List α} (h:ys.length=ys'.length) (h2:flat K ys=flat K ys'):OS e K A c ys=OS e K A c ys':=by
 have h3:(ys=[])=(ys'=[]):=by simp[←List.length_eq_zero_iff,h]
 have hs:(OS e K A c ys).sat=(OS e K A c ys').sat:=by funext w I;simp only[OS,h,h2,h3]
 generalize OS e K A c ys=X at hs ⊢;generalize OS e K A c ys'=Y at hs ⊢
 cases X;cases Y;simp only at hs;subst hs;rfl
theorem flat_set {α:Type} {K:Enc α} {ys:List α} {m:Nat} {y:α} (hm:m<ys.length) (h:K.f y=K.f (ys.getD m K.d)):flat K (ys.set m y)=flat K ys:=by
 unfold flat
 rw[List.flatMap_def,List.flatMap_def]
 congr 1
 apply List.ext_getElem (by simp)
 intro i h1 h2
 simp only[List.getElem_map,List.getElem_set]
 split
 ·rename_i e;subst e;rw[h];simp[List.getD,hm]
 ·rfl
def bolK:Enc Bool where
 f b:=[.bool b]
 sz:=1
 d:=false
 len _:=rfl
 pos:=by decide
 one r v hv:=by simp at hv;subst hv;rfl
structure BR where
 A:Option Addr
 c:Nat
 ys:List Bool
def brD:BR:=⟨none,0,[]⟩
def brK:Enc BR where
 f r:=[.slice r.A r.ys.length r.c]
 sz:=1
 d:=brD
 len _:=rfl
 pos:=by decide
 one r v hv:=by simp at hv;subst hv;rfl
def brF (r:BR):Assn:=OS 4 bolK r.A r.c r.ys
theorem brRS {w:World} (i:Ids) (b:BR) (h:(brF b).sat w i):RS w bolK b.A b.ys:=OS.rs (e:=4) (c:=b.c) h
def stR (r:BR) (b:Nat):BR:={r with ys:=r.ys.set b true}
theorem mt_set {I0:Ids} {w0 w:World} {t:TypeId} {A:Option Addr} {c a b:Nat} {rows:List BR} (h:Hp I0 w0 [OS t brK A c rows,OS 4 bolK (rows.getD a brD).A (rows.getD a brD).c ((rows.getD a brD).ys.set b true),Big brF (rows.eraseIdx a)] w) (ha:a<rows.length):
 Hp I0 w0 [OS t brK A c (rows.set a (stR (rows.getD a brD) b)),Big brF (rows.set a (stR (rows.getD a brD) b))] w:=by
 have h1:=Hp.unfocus (L:=[_,_]) (k:=1) (hs:=rows) (m:=a) (h':=stR (rows.getD a brD) b) (F:=brF) h rfl ha
 have h2:OS t brK A c (rows.set a (stR (rows.getD a brD) b))=OS t brK A c rows:=OS.cong (by simp) (flat_set ha (by simp[brK,stR,BR.ys]))
 rw[h2];exact h1
theorem mt_new {I0:Ids} {w0 w:World} {t:TypeId} {A B:Option Addr} {c d a:Nat} {rows:List BR} {ys:List Bool} (h:Hp I0 w0 [OS t brK A c (rows.set a ⟨B,d,ys⟩),Big brF rows,OS 4 bolK B d ys] w) (ha:a<rows.length):
 Hp I0 w0 [OS t brK A c (rows.set a ⟨B,d,ys⟩),Big brF (rows.set a ⟨B,d,ys⟩)] w:=by
 have h1:=Hp.focus h (k:=1) (m:=a) brD rfl ha
 have h2:Hp I0 w0 ([OS t brK A c (rows.set a ⟨B,d,ys⟩),OS 4 bolK B d ys]++[Big brF (rows.eraseIdx a)]) w:=h1.sel [0,1,1] rfl
 exact Hp.unfocus (L:=[_,_]) (k:=1) (hs:=rows) (m:=a) (h':=⟨B,d,ys⟩) (F:=brF) h2 rfl ha
def MI (n:Nat) (rows:List BR) (W:Nat→Nat→Bool):Prop:=rows.length=n∧ ∀a,a<n→(rows.getD a brD).ys.length=n∧ ∀b,b<n→(rows.getD a brD).ys.getD b false=W a b
theorem MI.congr {n:Nat} {rows:List BR} {W W':Nat→Nat→Bool} (h:MI n rows W) (e: ∀a b,a<n→b<n→W a b=W' a b):MI n rows W':=
 ⟨h.1,fun a ha=>⟨(h.2 a ha).1,fun b hb=>by rw[(h.2 a ha).2 b hb,e a b ha hb]⟩⟩
theorem MI.st {n i k:Nat} {rows:List BR} {W W':Nat→Nat→Bool} (h:MI n rows W) (hi:i<n) (hk:k<n) (h1:W' i k=true) (h2: ∀a b,a<n→b<n→ ¬(a=i∧b=k)→W' a b=W a b):MI n (rows.set i (stR (rows.getD i brD) k)) W':=by
 refine⟨by rw[List.length_set];exact h.1,fun a ha=>?_⟩
 by_cases e:i=a
 ·subst e
  rw[show(rows.set i (stR (rows.getD i brD) k)).getD i brD=stR (rows.getD i brD) k by simp[List.getD,h.1,hi]]
  refine⟨by simp only[stR,List.length_set];exact(h.2 i hi).1,fun b hb=>?_⟩
  by_cases e2:k=b
  ·subst e2;rw[h1];have hl:=(h.2 i hi).1;simp only[stR];rw[getD_set_self _ _ _ _ (by rw[hl];exact hb)]
  ·rw[h2 i b ha hb (fun x=>e2 x.2.symm),←(h.2 i hi).2 b hb]
   simp only[stR];rw[getD_set_other _ _ _ e2]
 ·rw[show(rows.set i (stR (rows.getD i brD) k)).getD a brD=rows.getD a brD by simp only[List.getD,List.getElem?_set];rw[if_neg e]]
  exact⟨(h.2 a ha).1,fun b hb=>by rw[h2 a b ha hb (fun x=>e x.1.symm)];exact(h.2 a ha).2 b hb⟩
theorem W0_snoc (links:List Link) (j a b:Nat) (hj:j<links.length):W0 (links.take (j+1)) a b=(W0 (links.take j) a b||decide ((links.getD j linkK.d).con=(a:Int)∧(links.getD j linkK.d).sup=(b:Int))):=by
 rw[take_succ_getD links j linkK.d hj];simp[W0]
theorem MI.link {links:List Link} {n j i k:Nat} {rows:List BR} (h:MI n rows (W0 (links.take j))) (hj:j<links.length) (hi:i<n) (hk:k<n) (h1:(links.getD j linkK.d).con=(i:Int)) (h2:(links.getD j linkK.d).sup=(k:Int)):MI n (rows.set i (stR (rows.getD i brD) k)) (W0 (links.take (j+1))):=
 h.st hi hk (by rw[W0_snoc _ _ _ _ hj,h1,h2];simp) (fun a b ha hb hne=>by
  rw[W0_snoc _ _ _ _ hj,h1,h2,decide_eq_false (by rintro⟨x,y⟩;exact hne ⟨by omega,by omega⟩),Bool.or_false])
def wP (k:Nat) (W:Nat→Nat→Bool) (A B a b:Nat):Bool:=if a<A∨(a=A∧b<B) then wR k W a b else W a b
theorem wR_row (k:Nat) (W:Nat→Nat→Bool) (b:Nat):wR k W k b=W k b:=by simp only[wR];cases W k b<;>cases W k k<;>rfl
theorem MI.beg {n k:Nat} {rows:List BR} {W:Nat→Nat→Bool} (h:MI n rows W):MI n rows (wP k W 0 0):=h.congr fun a b _ _=>by simp[wP]
theorem MI.fin {n k:Nat} {rows:List BR} {links:List Link} (h:MI n rows (wP k (wI links k) n 0)):MI n rows (wI links (k+1)):=h.congr fun a b ha _=>by simp[wP,ha,wI]
theorem MI.row {n k a:Nat} {rows:List BR} {W:Nat→Nat→Bool} (h:MI n rows (wP k W a n)):MI n rows (wP k W (a+1) 0):=h.congr fun x b _ hb=>by
 simp only[wP]
 by_cases e:x<a∨x=a
 ·rw[if_pos (by omega),if_pos (by omega)]
 ·rw[if_neg (by omega),if_neg (by omega)]
theorem MI.skip {n k a:Nat} {rows:List BR} {W:Nat→Nat→Bool} (h:MI n rows (wP k W a 0)) (hw:W a k=false):MI n rows (wP k W (a+1) 0):=h.congr fun x b _ hb=>by
 simp only[wP]
 by_cases e:x<a
 ·rw[if_pos (by omega),if_pos (by omega)]
 ·by_cases e2:x=a
  ·subst e2;rw[if_neg (by omega),if_pos (by omega)];simp[wR,hw]
  ·rw[if_neg (by omega),if_neg (by omega)]
theorem MI.rowv {n k a:Nat} {rows:List BR} {W:Nat→Nat→Bool} (h:MI n rows (wP k W a 0)) (ha:a<n) (hk:k<n):(rows.getD a brD).ys.getD k false=W a k:=by
 rw[(h.2 a ha).2 k hk];simp[wP]
theorem MI.kv {n k a b:Nat} {rows:List BR} {W:Nat→Nat→Bool} (h:MI n rows (wP k W a b)) (hb:b<n) (hk:k<n):(rows.getD k brD).ys.getD b false=W k b:=by
 rw[(h.2 k hk).2 b hb];simp only[wP];split
 ·exact wR_row k W b
 ·rfl
theorem MI.one {n k a b:Nat} {rows:List BR} {W:Nat→Nat→Bool} (h:MI n rows (wP k W a b)) (ha:a<n) (hb:b<n) (h1:W a k=true) (h2:W k b=true):MI n (rows.set a (stR (rows.getD a brD) b)) (wP k W a (b+1)):=
 h.st ha hb (by simp[wP,wR,h1,h2]) (fun x y hx hy hne=>by
  simp only[wP]
  by_cases e:x<a∨(x=a∧y<b)
  ·rw[if_pos e,if_pos (by omega)]
  ·rw[if_neg e,if_neg (by omega)])
theorem MI.zero {n k a b:Nat} {rows:List BR} {W:Nat→Nat→Bool} (h:MI n rows (wP k W a b)) (ha:a<n) (hb:b<n) (h2:W k b=false):MI n rows (wP k W a (b+1)):=h.congr fun x y hx hy=>by
 simp only[wP]
 by_cases e:x<a∨(x=a∧y<b)
 ·rw[if_pos e,if_pos (by omega)]
 ·by_cases e2:x=a∧y=b
  ·obtain⟨rfl,rfl⟩:=e2;rw[if_neg e,if_pos (by omega)];simp[wR,h2]
  ·rw[if_neg e,if_neg (by omega)]
theorem MI.new {n:Nat} {rows:List BR} (h:rows.length=n) (hr: ∀a,a<n→(rows.getD a brD).ys=List.replicate n false):MI n rows (W0 []):=
 ⟨h,fun a ha=>⟨by rw[hr a ha];simp,fun b hb=>by rw[hr a ha];simp[List.getD,hb,W0]⟩⟩
def invB (n:Int) (links:List Link):Bool:=decide (n<0∨128<n∨(1024:Int)<links.length)||!links.all fun l=>decide (okL n l)
theorem invB_f {n:Int} {links:List Link}:invB n links=false↔ ¬(n<0∨128<n∨(1024:Int)<links.length)∧ ∀j,j<links.length→okL n (links.getD j linkK.d):=by
 simp only[invB,Bool.or_eq_false_iff,decide_eq_false_iff_not,Bool.not_eq_false',List.all_eq_true,decide_eq_true_eq]
 refine and_congr_right fun _=>⟨fun h j hj=>h _ (by simp[List.getD,hj]),fun h l hl=>?_⟩
 obtain⟨j,hj,he⟩:=List.getElem_of_mem hl
 have:=h j hj;simpa[List.getD,hj,he] using this
theorem invB_far {n:Int} {links:List Link} (h:n<0∨128<n∨(1024:Int)<links.length):true=invB n links:=by
 cases hb:invB n links with
 |true=>rfl
 |false=>exact absurd h (invB_f.1 hb).1
theorem invB_at {n:Int} {links:List Link} {j:Nat} (hj:j<links.length) (h: ¬okL n (links.getD j linkK.d)):true=invB n links:=by
 cases hb:invB n links with
 |true=>rfl
 |false=>exact absurd ((invB_f.1 hb).2 j hj) h
theorem clM_bad {n:Int} {links:List Link} (h:invB n links=true):clM n links=1:=by
 unfold clM
 split
 ·rfl
 ·rename_i h1
  rw[if_neg];intro h2
  have:=invB_f.2 ⟨h1,h2⟩;rw[h] at this;exact absurd this (by simp)
theorem clM_good {n:Int} {links:List Link} (h:invB n links=false):clM n links=if links.Nodup then 0 else 7:=by
 have:=invB_f.1 h
 unfold clM;rw[if_neg this.1,if_pos this.2]
theorem chkM_clo {n:Nat} {links:List Link} (h:clM n links=0):chkM n links=if ∀i,i<n→wI links n i i=false then 0 else 18:=by
 have h1:=clM_zero h
 have h2:=seq_iff (n:=n) h1.2.2
 simp only[chkM,h]
 rw[if_neg (by simp)]
 by_cases e:(seqM n links).length=n
 ·rw[if_neg (by omega),if_pos (h2.1 e)]
 ·rw[if_pos (by omega),if_neg (fun x=>e (h2.2 x))]
theorem nin_take {links:List Link} {j:Nat} (hj:j<links.length) (h: ∀i,i<j→links.getD j linkK.d≠links.getD i linkK.d): ¬links.getD j linkK.d∈links.take j:=by
 intro hm
 obtain⟨i,hi,he⟩:=List.getElem_of_mem hm
 simp only[List.length_take] at hi
 refine h i (by omega) ?_
 rw[List.getElem_take] at he
 rw[←he];simp[List.getD,show i<links.length by omega]
theorem not_nodup_at {links:List Link} {j k:Nat} (hj:j<links.length) (hk:k<j) (h:links.getD j linkK.d=links.getD k linkK.d): ¬links.Nodup:=by
 refine not_nodup links j hj ?_
 rw[h]
 have:(links.take j)[k]'(by simp;omega)=links.getD k linkK.d:=by simp[List.getD,show k<links.length by omega]
 rw[←this];exact List.getElem_mem _
theorem row_new {rows:List BR} {n i:Nat} {B:Option Addr} (hl:rows.length=n) (hi:i<n) (h: ∀a,a<i→(rows.getD a brD).ys=List.replicate n false): ∀a,a<i+1→((rows.set i ⟨B,n,List.replicate n false⟩).getD a brD).ys=List.replicate n false:=by
 intro a ha
 by_cases e:i=a
 ·subst e;rw[getD_set_self _ _ _ _ (by omega)]
 ·rw[getD_set_other _ _ _ e];exact h a (by omega)
def frB (links:List Link) (g:List Bool) (i k:Nat):Bool:=!g.getD i false&&(links.take k).all fun l=>!decide (l.con=(i:Int))||g.getD l.sup.toNat false
theorem frB_zero (links:List Link) (g:List Bool) (i:Nat):frB links g i 0=!g.getD i false:=by simp[frB]
theorem frB_len (links:List Link) (g:List Bool) (i:Nat):frB links g i links.length=freeB links g i:=by simp[frB,freeB]
theorem frB_succ {links:List Link} {g:List Bool} {i k:Nat} (hk:k<links.length):frB links g i (k+1)=(frB links g i k&&(!decide ((links.getD k linkK.d).con=(i:Int))||g.getD (links.getD k linkK.d).sup.toNat false)):=by
 rw[frB,take_succ_getD links k linkK.d hk,List.all_append];simp[frB,Bool.and_assoc]
theorem frB_mono {links:List Link} {g:List Bool} {i k:Nat} (h:frB links g i k=false): ∀d,k+d≤links.length→frB links g i (k+d)=false
 |0,_=>h
 |d+1,hd=>by rw[←Nat.add_assoc,frB_succ (by omega),frB_mono h d (by omega)];rfl
theorem frB_no {links:List Link} {g:List Bool} {i k:Nat} (h:frB links g i k=false) (hk:k≤links.length):freeB links g i=false:=by
 rw[←frB_len];have:=frB_mono h (links.length-k) (by omega)
 rwa [show k+(links.length-k)=links.length by omega] at this
theorem frB_s1 {links:List Link} {g:List Bool} {i k j:Nat} (hk:k<links.length) (h:frB links g i k=true) (h1:(links.getD k linkK.d).con=(i:Int)) (h2:(links.getD k linkK.d).sup=(j:Int)):frB links g i (k+1)=g.getD j false:=by
 rw[frB_succ hk,h,h1,h2];simp
theorem frB_s0 {links:List Link} {g:List Bool} {i k:Nat} (hk:k<links.length) (h:frB links g i k=true) (h1:(links.getD k linkK.d).con≠(i:Int)):frB links g i (k+1)=true:=by
 rw[frB_succ hk,h,decide_eq_false h1];rfl
theorem dn_yes {f:Nat→Bool} {n c:Nat} (h:f (n-1-c)=true):dnM f n (c+1)=((n-1-c:Nat):Int):=by simp[dnM,h]
theorem dn_no {f:Nat→Bool} {n c:Nat} (h:f (n-1-c)=false):dnM f n (c+1)=dnM f n c:=by simp[dnM,h]
theorem dn_bd (f:Nat→Bool) (n c:Nat) (h:c≤n): -1≤dnM f n c∧dnM f n c<n:=by
 rcases dnM_spec f n c h with ⟨h1,_⟩|⟨i,h1,_,h3,_⟩<;>omega
structure RmI (links:List Link) (n:Nat) (g:List Bool) (o:List Int):Prop where
 len:g.length=n
 cnt:o.length+g.count false=n
 run: ∃f,g.count false≤f∧remRun links n f g o=remM n links
theorem RmI.start (links:List Link) (n:Nat):RmI links n (List.replicate n false) []:=⟨by simp,by simp,n,by simp,rfl⟩
theorem RmI.stop {links:List Link} {n:Nat} {g:List Bool} {o:List Int} (h:RmI links n g o) (hx:dnM (freeB links g) n n<0):remM n links=(o,g):=by
 obtain⟨f,_,h2⟩:=h.run
 rw[←h2];cases f with
 |zero=>rfl
 |succ f=>rw[remRun,if_pos hx]
theorem RmI.fr {links:List Link} {n i:Nat} {g:List Bool} (hx:dnM (freeB links g) n n=(i:Int)):i<n∧g.getD i false=false:=by
 rcases dnM_spec (freeB links g) n n (Nat.le_refl _) with ⟨h1,_⟩|⟨j,h1,h2,h3,h4,_⟩
 ·omega
 ·have:i=j:=by omega
  subst this;exact⟨h3,(freeB_iff.1 h4).1⟩
theorem RmI.next {links:List Link} {n i:Nat} {g:List Bool} {o:List Int} (h:RmI links n g o) (hx:dnM (freeB links g) n n=(i:Int)):RmI links n (g.set i true) (o++[(i:Int)])∧(g.set i true).count false<g.count false:=by
 have hf:=RmI.fr hx
 have hc:=count_set g i (by rw[h.len];exact hf.1) hf.2
 obtain⟨f,h1,h2⟩:=h.run
 have h4:=h.cnt
 refine⟨⟨by rw[List.length_set];exact h.len,by rw[List.length_append,List.length_singleton];omega,?_⟩,by omega⟩
 cases f with
 |zero=>omega
 |succ f=>refine⟨f,by omega,?_⟩;rw[remRun,if_neg (by omega),hx,Int.toNat_natCast] at h2;exact h2
theorem chkM_dup {n:Nat} {links:List Link} (h:clM n links≠0):chkM n links=clM n links:=by rw[chkM,if_pos h]
theorem chkM_loop {n i:Nat} {links:List Link} (h:clM n links=0) (hi:i<n) (hw:wI links n i i=true):chkM n links=18:=by
 rw[chkM_clo h,if_neg];intro x;have:=x i hi;rw[hw] at this;exact absurd this (by simp)
theorem chkM_free {n:Nat} {links:List Link} (h:clM n links=0) (hw: ∀i,i<n→wI links n i i=false):chkM n links=0:=by rw[chkM_clo h,if_pos hw]
theorem chkM_ok {n:Nat} {links:List Link} (h:chkM n links=0):clM n links=0:=by
 by_cases h1:clM n links=0
 ·exact h1
 ·rw[chkM,if_pos h1] at h;exact h
theorem seq_len {n:Nat} {links:List Link} (h:chkM n links=0):(seqM n links).length=n:=by
 have h1:=chkM_ok h
 simp only[chkM,h1] at h
 by_cases e:(seqM n links).length=n
 ·exact e
 ·rw[if_neg (by simp),if_pos (by omega)] at h;exact absurd h (by simp)
end Go.Pw
namespace Go.Sv
section
variable {P:Program} {N:NN} {E:Env} {ty:TypeId} {pos:String} {af:Array Edge} {g:Option (Nat×Bool)} {x:Operand}
theorem Step.sliceArr {S:World→Prop} {t te:TypeId} {ze:Value} {sz by_ q b o:Nat} {dd:Option Nat} (hu:P.underlying t=some (.array q te)) (hi:TI P te ze sz by_) (hx:ev E x=some (.pointer (some ⟨b,o,none⟩))):
 Step P N E S ⟨dd,.slice t x none none none,ty,pos,af,g⟩ (.slice (some ⟨b,o,none⟩) q q):=fun a w hf _=>by
 have hal:P.arrayLen t=q:=by simp[Program.arrayLen,hu]
 have hel:P.elem t=te:=by simp[Program.elem,hu]
 have h:=run_sliceAt_array_all (P:=P) w t ⟨b,o,none⟩ (by rw[hal,hel];exact hu)
 rw[hal,hel] at h
 simp only[hi.sizeOf,Result.andThen_ok] at h
 have e1:slicedAt ⟨b,o,none⟩ 0 q q sz= .slice (some ⟨b,o,none⟩) q q:=by
  unfold slicedAt
  simp[Addr.add]
 rw[e1] at h
 simp only[execOp,hf.ev hx,Option.map_none,Sem.run_bind,h,Result.andThen_ok,Sem.run_pure]
end
theorem Hp.cellsO {I0:Ids} {w0 w:World} {L:List Assn} (h:Hp I0 w0 L w) (k o:Nat) (vs:List Value) {b:Nat} {cs:Array Value} {t:TypeId} {fz:Nat×Nat} (hk:L[k]?=some (Blk b (.cells cs t fz))) (hv:(cs.toList.drop o).take vs.length=vs):
 ∀j v,vs[j]?=some v→w.cell? ⟨b,o+j,none⟩=some v:=fun j v hj=>by
 rw[cell_of (h.blk k hk)]
 rw[←hv,List.getElem?_take] at hj
 split at hj
 ·rw[List.getElem?_drop] at hj;simpa using hj
 ·cases hj
end Go.Sv
namespace Go.Pw
open Go.Sv Go.Rails Go.Dg
structure PDv where
 par:Int
 r0:Hd
 r1:Hd
 r2:Hd
 r3:Hd
 d0:Int
 d1:Int
 d2:Int
 d3:Int
 d4:Int
 d5:Int
 wd:Int
 ws:Int
def hd0:Hd:=⟨none,0,[]⟩
def pd0:PDv:=⟨0,hd0,hd0,hd0,hd0,0,0,0,0,0,0,0,0⟩
def PDv.rl (d:PDv):Nat→Hd
 |0=>d.r0
 |1=>d.r1
 |2=>d.r2
 |_=>d.r3
def PDv.dp (d:PDv):Nat→Int
 |0=>d.d0
 |1=>d.d1
 |2=>d.d2
 |3=>d.d3
 |4=>d.d4
 |_=>d.d5
def PDv.dl (d:PDv):List Int:=[d.d0,d.d1,d.d2,d.d3,d.d4,d.d5]
def sl (h:Hd):Value:= .slice h.A h.ys.length h.c
def pdC (d:PDv):List Value:=[.int .i64 d.par,.slice d.r0.A d.r0.ys.length d.r0.c,.slice d.r1.A d.r1.ys.length d.r1.c,.slice d.r2.A d.r2.ys.length d.r2.c,.slice d.r3.A d.r3.ys.length d.r3.c,.int .i64 d.d0,.int .i64 d.d1,.int .i64 d.d2,.int .i64 d.d3,.int .i64 d.d4,.int .i64 d.d5,.int .i64 d.wd,.int .i64 d.ws]
def pdK:Enc PDv where
 f:=pdC
 sz:=13
 d:=pd0
 len _:=rfl
 pos:=by decide
 one r v hv:=by simp[pdC] at hv;rcases hv with rfl|rfl|rfl|rfl|rfl|rfl|rfl|rfl|rfl|rfl|rfl|rfl|rfl<;>rfl
theorem pd_rl (d:PDv): ∀ {k:Nat},k<4→(pdC d).toArray.toList[0+1+k* 1]?=some (.slice (d.rl k).A (d.rl k).ys.length (d.rl k).c)
 |0,_=>rfl
 |1,_=>rfl
 |2,_=>rfl
 |3,_=>rfl
 |k+4,h=>by omega
theorem pd_dp (d:PDv): ∀ {k:Nat},k<6→(pdC d).toArray.toList[0+5+k* 1]?=some (.int .i64 (d.dp k))
 |0,_=>rfl
 |1,_=>rfl
 |2,_=>rfl
 |3,_=>rfl
 |4,_=>rfl
 |5,_=>rfl
 |k+6,h=>by omega
def ascP (ys:List Int):Prop:= ∀i,i<ys.length→0<i→ys.getD (i-1) (intK .i64).d<ys.getD i (intK .i64).d
def srtP (ys:List Int):Prop:= ∀i,i<ys.length→0<i→ys.getD (i-1) (intK .i64).d≤ys.getD i (intK .i64).d
def rngP (m:Int) (ys:List Int):Prop:= ∀i,i<ys.length→0≤ys.getD i (intK .i64).d∧ys.getD i (intK .i64).d<m
instance(ys:List Int):Decidable (ascP ys):=inferInstanceAs (Decidable (∀i,i<ys.length→0<i→ys.getD (i-1) (intK .i64).d<ys.getD i (intK .i64).d))
instance(ys:List Int):Decidable (srtP ys):=inferInstanceAs (Decidable (∀i,i<ys.length→0<i→ys.getD (i-1) (intK .i64).d≤ys.getD i (intK .i64).d))
instance(m:Int) (ys:List Int):Decidable (rngP m ys):=inferInstanceAs (Decidable (∀i,i<ys.length→0≤ys.getD i (intK .i64).d∧ys.getD i (intK .i64).d<m))
theorem asc_up {ys:List Int} (h:ascP ys): ∀d i,i+d<ys.length→ys.getD i (intK .i64).d+d≤ys.getD (i+d) (intK .i64).d
 |0,i,_=>by simp
 |d+1,i,hd=>by
  have h1:=asc_up h d i (by omega)
  have h2:=h (i+d+1) (by omega) (by omega)
  rw[show i+d+1-1=i+d by omega] at h2
  rw[show i+(d+1)=i+d+1 by omega];omega
theorem asc_rng {ys:List Int} {m:Int} (h:ascP ys):rngP m ys↔(0<ys.length→0≤ys.getD 0 (intK .i64).d∧ys.getD (ys.length-1) (intK .i64).d<m):=by
 constructor
 ·intro hr h0;exact⟨(hr 0 h0).1,(hr _ (by omega)).2⟩
 ·intro he i hi
  have:=he (by omega)
  have h1:=asc_up h i 0 (by omega)
  have h2:=asc_up h (ys.length-1-i) i (by omega)
  rw[Nat.zero_add] at h1
  rw[show i+(ys.length-1-i)=ys.length-1 by omega] at h2
  omega
def railsOk (d:PDv) (m:Int):Prop:= ∀k,k<4→ascP (d.rl k).ys∧rngP m (d.rl k).ys
def deepOk (d:PDv):Prop:=d.d0=0∧srtP d.dl∧d.d5≤4
instance(d:PDv) (m:Int):Decidable (railsOk d m):=inferInstanceAs (Decidable (∀k,k<4→ascP (d.rl k).ys∧rngP m (d.rl k).ys))
instance(d:PDv):Decidable (deepOk d):=inferInstanceAs (Decidable (_∧_∧_))
def PDv.ok (d:PDv) (i m:Int):Prop:=(-1≤d.par∧d.par<i)∧railsOk d m∧deepOk d∧(0≤d.ws∧d.ws≤4)∧0≤d.wd∧d.wd≤3
instance(d:PDv) (i m:Int):Decidable (d.ok i m):=inferInstanceAs (Decidable (_∧_∧_∧_∧_))
theorem deep_iff (d:PDv):deepOk d↔d.d0=0∧ ∀k,k<6→(0≤d.dp k∧d.dp k≤4)∧(0<k→d.dp (k-1)≤d.dp k):=by
 have e:srtP d.dl↔d.d0≤d.d1∧d.d1≤d.d2∧d.d2≤d.d3∧d.d3≤d.d4∧d.d4≤d.d5:=by
  constructor
  ·intro h
   exact⟨h 1 (by show 1<6;decide) (by decide),h 2 (by show 2<6;decide) (by decide),h 3 (by show 3<6;decide) (by decide),h 4 (by show 4<6;decide) (by decide),h 5 (by show 5<6;decide) (by decide)⟩
  ·rintro⟨h1,h2,h3,h4,h5⟩ i hi hp
   have hi:i<6:=hi
   match i,hi,hp with
   |1,_,_=>exact h1
   |2,_,_=>exact h2
   |3,_,_=>exact h3
   |4,_,_=>exact h4
   |5,_,_=>exact h5
   |0,_,hp=>omega
   |i+6,hi,_=>omega
 unfold deepOk;rw[e]
 constructor
 ·rintro⟨h0,⟨h1,h2,h3,h4,h5⟩,h6⟩
  refine⟨h0,fun k hk=>?_⟩
  match k,hk with
  |0,_=>exact⟨⟨by show 0≤d.d0;omega,by show d.d0≤4;omega⟩,fun h=>by omega⟩
  |1,_=>exact⟨⟨by show 0≤d.d1;omega,by show d.d1≤4;omega⟩,fun _=>h1⟩
  |2,_=>exact⟨⟨by show 0≤d.d2;omega,by show d.d2≤4;omega⟩,fun _=>h2⟩
  |3,_=>exact⟨⟨by show 0≤d.d3;omega,by show d.d3≤4;omega⟩,fun _=>h3⟩
  |4,_=>exact⟨⟨by show 0≤d.d4;omega,by show d.d4≤4;omega⟩,fun _=>h4⟩
  |5,_=>exact⟨⟨by show 0≤d.d5;omega,h6⟩,fun _=>h5⟩
  |k+6,hk=>omega
 ·rintro⟨h0,h⟩
  exact⟨h0,⟨(h 1 (by decide)).2 (by decide),(h 2 (by decide)).2 (by decide),(h 3 (by decide)).2 (by decide),(h 4 (by decide)).2 (by decide),(h 5 (by decide)).2 (by decide)⟩,(h 5 (by decide)).1.2⟩
def chkD (ds:List PDv) (m:Int):Int:=if (64:Int)<ds.length∨m<0∨64<m then 1 else if ∀i,i<ds.length→(ds.getD i pdK.d).ok i m then 0 else 1
theorem chkD_far {ds:List PDv} {m:Int} (h:(64:Int)<ds.length∨m<0∨64<m):chkD ds m=1:=by rw[chkD,if_pos h]
theorem chkD_bad {ds:List PDv} {m:Int} {i:Nat} (hi:i<ds.length) (h: ¬(ds.getD i pdK.d).ok i m):chkD ds m=1:=by
 unfold chkD;split
 ·rfl
 ·rw[if_neg (fun x=>h (x i hi))]
theorem chkD_ok {ds:List PDv} {m:Int} (h: ¬((64:Int)<ds.length∨m<0∨64<m)) (h2: ∀i,i<ds.length→(ds.getD i pdK.d).ok i m):chkD ds m=0:=by rw[chkD,if_neg h,if_pos h2]
theorem chkD_zero {ds:List PDv} {m:Int} (h:chkD ds m=0):ds.length≤64∧(0≤m∧m≤64)∧ ∀i,i<ds.length→(ds.getD i pdK.d).ok i m:=by
 unfold chkD at h;split at h
 ·exact absurd h (by decide)
 ·split at h
  ·rename_i h1 h2;exact⟨by omega,by omega,h2⟩
  ·exact absurd h (by decide)
def PDv.rs (d:PDv) (w:World):Prop:= ∀k,k<4→RS w (intK .i64) (d.rl k).A (d.rl k).ys
def PDv.sm (d:PDv) (b:Nat):Prop:= ∀k,k<4→(d.rl k).ys.length≤b
theorem RS.inBlk {w:World} {b o:Nat} {cs:Array Value} {t:TypeId} {fz:Nat×Nat} {ys:List Int} (h:w.heap[b]?=some (.cells cs t fz)) (hc: ∀j v,(flat (intK .i64) ys)[j]?=some v→cs[o+j]?=some v):RS w (intK .i64) (some ⟨b,o,none⟩) ys:=
 .inr ⟨cs,t,fz,rfl,h,hc⟩
theorem dl_cells (d:PDv): ∀j v,(flat (intK .i64) d.dl)[j]?=some v→(pdC d).toArray[5+j]?=some v:=by
 intro j v h
 match j,h with
 |0,h=>exact h
 |1,h=>exact h
 |2,h=>exact h
 |3,h=>exact h
 |4,h=>exact h
 |5,h=>exact h
 |j+6,h=>cases h
end Go.Pw
namespace Go.Sv
theorem Hp.nilBig {I0:Ids} {w0 w:World} {L:List Assn} {β:Type} {F:β→Assn} (h:Hp I0 w0 L w):Hp I0 w0 (L++[Big F []]) w:=by
 obtain⟨I,hs,hx,hi⟩:=h
 exact⟨I,Sep.append.2 ⟨I,fun _=>False,fun x=>by simp,fun _ _ h=>h,hs,fun _=>False,fun _=>False,fun x=>by simp,fun _ h=>h.elim,(fun _ h=>h:Sep [] (fun _=>False) w),fun _ h=>h⟩,hx,hi⟩
end Go.Sv
namespace Go.Pw
open Go.Sv Go.Rails Go.Dg
def PDv.setR (d:PDv) (k:Nat) (h:Hd):PDv:=match k with
 |0=>{d with r0:=h}
 |1=>{d with r1:=h}
 |2=>{d with r2:=h}
 |_=>{d with r3:=h}
def PDv.rls (d:PDv):List Hd:=[d.r0,d.r1,d.r2,d.r3]
theorem pd_store (d:PDv): ∀ {k:Nat} (h:Hd),k<4→((pdC d).toArray.toList.take (0+1+k* 1)++[Value.slice h.A h.ys.length h.c]++(pdC d).toArray.toList.drop (0+1+k* 1+[Value.slice h.A h.ys.length h.c].length)).toArray=(pdC (d.setR k h)).toArray
 |0,_,_=>rfl
 |1,_,_=>rfl
 |2,_,_=>rfl
 |3,_,_=>rfl
 |k+4,_,h=>by omega
structure Cpy (d e:PDv) (k:Nat):Prop where
 par:e.par=d.par
 dl:e.dl=d.dl
 wd:e.wd=d.wd
 ws:e.ws=d.ws
 ys: ∀j,j<4→(e.rl j).ys=(d.rl j).ys
 old: ∀j,k≤j→j<4→e.rl j=d.rl j
theorem Cpy.refl (d:PDv):Cpy d d 0:=⟨rfl,rfl,rfl,rfl,fun _ _=>rfl,fun _ _ _=>rfl⟩
theorem Cpy.step {d e:PDv}: ∀ {k:Nat},Cpy d e k→k<4→ ∀ {A:Option Addr} {c:Nat},Cpy d (e.setR k ⟨A,c,(d.rl k).ys⟩) (k+1):=by
 intro k h hk A c
 match k,hk,h with
 |0,_,h=>exact⟨h.par,h.dl,h.wd,h.ws,fun j hj=>by match j,hj with|0,_=>rfl|1,_=>exact h.ys 1 (by decide)|2,_=>exact h.ys 2 (by decide)|3,_=>exact h.ys 3 (by decide)|j+4,hj=>omega,fun j h1 hj=>by match j,hj,h1 with|1,_,_=>exact h.old 1 (by decide) (by decide)|2,_,_=>exact h.old 2 (by decide) (by decide)|3,_,_=>exact h.old 3 (by decide) (by decide)|0,_,h1=>omega|j+4,hj,_=>omega⟩
 |1,_,h=>exact⟨h.par,h.dl,h.wd,h.ws,fun j hj=>by match j,hj with|0,_=>exact h.ys 0 (by decide)|1,_=>rfl|2,_=>exact h.ys 2 (by decide)|3,_=>exact h.ys 3 (by decide)|j+4,hj=>omega,fun j h1 hj=>by match j,hj,h1 with|2,_,_=>exact h.old 2 (by decide) (by decide)|3,_,_=>exact h.old 3 (by decide) (by decide)|0,_,h1=>omega|1,_,h1=>omega|j+4,hj,_=>omega⟩
 |2,_,h=>exact⟨h.par,h.dl,h.wd,h.ws,fun j hj=>by match j,hj with|0,_=>exact h.ys 0 (by decide)|1,_=>exact h.ys 1 (by decide)|2,_=>rfl|3,_=>exact h.ys 3 (by decide)|j+4,hj=>omega,fun j h1 hj=>by match j,hj,h1 with|3,_,_=>exact h.old 3 (by decide) (by decide)|0,_,h1=>omega|1,_,h1=>omega|2,_,h1=>omega|j+4,hj,_=>omega⟩
 |3,_,h=>exact⟨h.par,h.dl,h.wd,h.ws,fun j hj=>by match j,hj with|0,_=>exact h.ys 0 (by decide)|1,_=>exact h.ys 1 (by decide)|2,_=>exact h.ys 2 (by decide)|3,_=>rfl|j+4,hj=>omega,fun j h1 hj=>by omega⟩
 |k+4,hk,_=>omega
theorem rls_take (e:PDv) (h:Hd): ∀ {k:Nat},k<4→(e.setR k h).rls.take (k+1)=e.rls.take k++[h]
 |0,_=>rfl
 |1,_=>rfl
 |2,_=>rfl
 |3,_=>rfl
 |k+4,h=>by omega
def pdF (d:PDv):Assn:=Big hdF d.rls
structure TT where
 b:Nat
 dA:Option Addr
 dc:Nat
 es:List PDv
 sA:Option Addr
 sc:Nat
 st:List Int
 rb:Nat
 ra:RA
 rs:St
 clk:Int
def ttL (t:TT):List Assn:=[Blk t.b (.cells #[.slice t.dA t.es.length t.dc,.slice t.sA t.st.length t.sc,.pointer (some ⟨t.rb,0,none⟩),.int .u64 t.clk] 278 (0,0)),OS 36 pdK t.dA t.dc t.es,Big pdF t.es,OS 3 (intK .i64) t.sA t.sc t.st]++robj 328 t.rb t.ra t.rs
structure TG where
 es:List PDv
 dA:Option Addr
 dc:Nat
 sA:Option Addr
 sc:Nat
 st:List Int
def Cpys (ds es:List PDv):Prop:= ∀j,j<es.length→Cpy (ds.getD j pdK.d) (es.getD j pdK.d) 4
theorem Cpys.snoc {ds es:List PDv} {e:PDv} (h:Cpys ds es) (hc:Cpy (ds.getD es.length pdK.d) e 4):Cpys ds (es++[e]):=by
 intro j hj
 rw[List.length_append] at hj
 by_cases e1:j<es.length
 ·have:=h j e1;simpa[List.getD,List.getElem?_append_left e1] using this
 ·have:j=es.length:=by simp at hj;omega
  subst this;simpa[List.getD] using hc
def newT (ds:List PDv) (rs:List Rail):Int:=if chkD ds rs.length≠0 then chkD ds rs.length else newE rs
structure TR27 where
 b:Nat
 A:Option Addr
 n:Nat
 c:Nat
 sA:Option Addr
 sc:Nat
 st:List Int
 rb:Nat
 ra:RA
 rs:St
 clk:Int
def trL (t:TR27):List Assn:=[Blk t.b (.cells #[.slice t.A t.n t.c,.pointer (some ⟨t.rb,0,none⟩),.slice t.sA t.st.length t.sc,.int .u64 t.clk] 236 (0,0)),OS 3 (intK .i64) t.sA t.sc t.st]++robj 302 t.rb t.ra t.rs
theorem newT_rails {ds:List PDv} {rs:List Rail} (h: ¬chkD ds rs.length≠0):newT ds rs=newRE rs:=by rw[newT,if_neg h,newE_eq]
structure IDv where
 par:Int
 sup:Hd
 dly:Int
def idD:IDv:=⟨0,⟨none,0,[]⟩,0⟩
def idK:Enc IDv where
 f d:=[.int .i64 d.par,.slice d.sup.A d.sup.ys.length d.sup.c,.int .u64 d.dly]
 sz:=3
 d:=idD
 len _:=rfl
 pos:=by decide
 one r v hv:=by simp at hv;rcases hv with rfl|rfl|rfl<;>rfl
def lk1 (i:Nat) (d:IDv) (k:Nat):List Link:=(if 0≤d.par then [⟨i,d.par⟩] else [])++(d.sup.ys.take k).map fun s=>⟨i,s⟩
def lkI (ids:List IDv):Nat→List Link
 |0=>[]
 |i+1=>lkI ids i++lk1 i (ids.getD i idK.d) (ids.getD i idK.d).sup.ys.length
def badI (n:Int) (d:IDv):Prop:=d.par< -1∨n≤d.par∨1048576<d.dly∨(1024:Int)<d.sup.ys.length
instance(n:Int) (d:IDv):Decidable (badI n d):=inferInstanceAs (Decidable (_∨_∨_∨_))
def newI (ids:List IDv):Int:=if (64:Int)<ids.length∨ ∃i,i<ids.length∧badI ids.length (ids.getD i idK.d) then 1 else chkM ids.length (lkI ids ids.length)
theorem newI_far {ids:List IDv} (h:(64:Int)<ids.length):newI ids=1:=by rw[newI,if_pos (.inl h)]
theorem newI_bad {ids:List IDv} {i:Nat} (hi:i<ids.length) (h:badI ids.length (ids.getD i idK.d)):newI ids=1:=by rw[newI,if_pos (.inr ⟨i,hi,h⟩)]
theorem newI_chk {ids:List IDv} (h: ¬(64:Int)<ids.length) (h2: ∀i,i<ids.length→ ¬badI ids.length (ids.getD i idK.d)):newI ids=chkM ids.length (lkI ids ids.length):=by
 rw[newI,if_neg];rintro(x|⟨i,hi,x⟩)
 ·exact h x
 ·exact h2 i hi x
theorem chkM_inv {n:Nat} {links:List Link} (h:invB n links=true):chkM n links=1:=by
 have h1:=clM_bad h
 rw[chkM,if_pos (by rw[h1];decide),h1]
theorem chkM_long {n:Nat} {links:List Link} (h:(1024:Int)<links.length):chkM n links=1:=chkM_inv (invB_far (.inr (.inr h))).symm
theorem chkM_mem {n:Nat} {links:List Link} {l:Link} (hm:l∈links) (h: ¬okL n l):chkM n links=1:=by
 obtain⟨j,hj,he⟩:=List.getElem_of_mem hm
 exact chkM_inv (invB_at (j:=j) hj (by simpa[List.getD,hj,he] using h)).symm
theorem lkI_mem {ids:List IDv} {l:Link}: ∀ {i m:Nat},i<m→l∈lk1 i (ids.getD i idK.d) (ids.getD i idK.d).sup.ys.length→l∈lkI ids m
 |i,0,h,_=>by omega
 |i,m+1,h,hl=>by
  rw[lkI,List.mem_append]
  by_cases e:i=m
  ·subst e;exact .inr hl
  ·exact .inl (lkI_mem (by omega) hl)
theorem newI_sup {ids:List IDv} {i k:Nat} (hi:i<ids.length) (hk:k<(ids.getD i idK.d).sup.ys.length) (h:(ids.getD i idK.d).sup.ys.getD k (intK .i64).d<0∨ids.length≤(ids.getD i idK.d).sup.ys.getD k (intK .i64).d):newI ids=1:=by
 unfold newI;split
 ·rfl
 ·refine chkM_mem (l:=⟨i,(ids.getD i idK.d).sup.ys.getD k (intK .i64).d⟩) (lkI_mem hi ?_) (by intro x;unfold okL at x;simp only at x;omega)
  rw[lk1,List.mem_append];right
  rw[List.mem_map]
  refine⟨(ids.getD i idK.d).sup.ys.getD k (intK .i64).d,?_,rfl⟩
  rw[List.take_length]
  generalize (ids.getD i idK.d).sup.ys=ys at hk ⊢
  rw[show ys.getD k (intK .i64).d=ys[k] by simp[List.getD,hk]];exact List.getElem_mem _
theorem lk1_len (i:Nat) (d:IDv) (k:Nat):(lk1 i d k).length≤1+k:=by
 simp only[lk1,List.length_append,List.length_map,List.length_take];split<;>simp<;>omega
theorem lk1_snoc {i:Nat} {d:IDv} {k:Nat} (hk:k<d.sup.ys.length):lk1 i d (k+1)=lk1 i d k++[⟨i,d.sup.ys.getD k (intK .i64).d⟩]:=by
 rw[lk1,lk1,List.take_succ_eq_append_getElem hk,List.map_append,←List.append_assoc];congr 1;simp[List.getD,hk]
theorem lk1_pos {i:Nat} {d:IDv} (h:0≤d.par):lk1 i d 0=[⟨i,d.par⟩]:=by simp[lk1,h]
theorem lk1_neg {i:Nat} {d:IDv} (h: ¬0≤d.par):lk1 i d 0=[]:=by simp[lk1,h]
theorem lkI_len {ids:List IDv}: ∀ {m:Nat},(∀i,i<m→(ids.getD i idK.d).sup.ys.length≤1024)→(lkI ids m).length≤m* 1025
 |0,_=>by simp[lkI]
 |m+1,h=>by
  have h1:=lkI_len (m:=m) fun i hi=>h i (by omega)
  have h2:=lk1_len m (ids.getD m idK.d) (ids.getD m idK.d).sup.ys.length
  have h3:=h m (by omega)
  rw[lkI,List.length_append];omega
end Go.Pw
namespace Go.Pw
open Go.Sv Go.Rails
def alnP (l:List Int):Prop:= ∀i,i<l.length→(l.getD i (intK .u64).d).tmod 256=0
instance(l:List Int):Decidable (alnP l):=inferInstanceAs (Decidable (∀i,i<l.length→(l.getD i (intK .u64).d).tmod 256=0))
def regP (x:Int):Prop:=x.tmod 4=0∧x<256
instance(x:Int):Decidable (regP x):=inferInstanceAs (Decidable (_∧_))
end Go.Pw
namespace Go.Pw
open Go.Sv Go.Drv
def fitT (t:Tr):Prop:=regP t.gd.reg∧ ∀k,k<t.ops.length→regP (t.ops.getD k roK.d).reg
instance(t:Tr):Decidable (fitT t):=inferInstanceAs (Decidable (_∧ ∀k,k<t.ops.length→regP (t.ops.getD k roK.d).reg))
def fitD (ts:List Tr):Prop:= ∀i,i<ts.length→fitT (ts.getD i tr0)
instance(ts:List Tr):Decidable (fitD ts):=inferInstanceAs (Decidable (∀i,i<ts.length→fitT (ts.getD i tr0)))
theorem fit_th (hs:List TH) {i:Nat} (hi:i<hs.length):(hs.map (·.t)).getD i tr0=(hs.getD i thK.d).t:=by simp[List.getD,hi]
theorem fitD_of {hs:List TH} (h: ∀i,i<hs.length→fitT (hs.getD i thK.d).t):fitD (hs.map (·.t)):=fun i hi=>by rw[List.length_map] at hi;rw[fit_th hs hi];exact h i hi
theorem fitD_at {hs:List TH} (h:fitD (hs.map (·.t))) {i:Nat} (hi:i<hs.length):fitT (hs.getD i thK.d).t:=by
 have:=h i (by rw[List.length_map];exact hi);rwa [fit_th hs hi] at this
theorem parse_chk {s:Bs} (h:(parseM s).1=0):Go.Drv.chkM (parseM s).2=0:=by
 unfold parseM at h ⊢
 cases hr:runM ps0 (splitNL s) with
 |none=>rw[hr] at h;exact absurd h (by decide)
 |some p=>
  rw[hr] at h
  simp only at h ⊢
  unfold finM at h ⊢
  by_cases h1:p.named=false
  ·rw[if_pos h1] at h;exact absurd h (by decide)
  ·rw[if_neg h1] at h ⊢
   by_cases h2: ¬p.ss.Nodup
   ·rw[if_pos h2] at h;exact absurd h (by decide)
   ·rw[if_neg h2] at h ⊢
    cases hl:linkM p.ss p.ts p.tg with
    |none=>rw[hl] at h;simp at h
    |some ts=>
     rw[hl] at h
     simp only at h ⊢
     by_cases h3:Go.Drv.chkM ⟨p.name,p.ss,ts⟩=0
     ·rw[if_pos h3];exact h3
     ·rw[if_neg h3] at h;exact absurd h h3
end Go.Pw
namespace Go.Pw
open Go.Sv Go.Rails
structure BDv where
 fn:Int
 pw:PDv
 il:IDv
 drv:Bs
def bdC (d:BDv):List Value:=[.int .i64 d.fn,.int .i64 d.pw.par,.slice d.pw.r0.A d.pw.r0.ys.length d.pw.r0.c,.slice d.pw.r1.A d.pw.r1.ys.length d.pw.r1.c,.slice d.pw.r2.A d.pw.r2.ys.length d.pw.r2.c,.slice d.pw.r3.A d.pw.r3.ys.length d.pw.r3.c,.int .i64 d.pw.d0,.int .i64 d.pw.d1,.int .i64 d.pw.d2,.int .i64 d.pw.d3,.int .i64 d.pw.d4,.int .i64 d.pw.d5,.int .i64 d.pw.wd,.int .i64 d.pw.ws,.int .i64 d.il.par,.slice d.il.sup.A d.il.sup.ys.length d.il.sup.c,.int .u64 d.il.dly,.string (bs d.drv)]
def bd0:BDv:=⟨0,pd0,idD,[]⟩
def bdK:Enc BDv where
 f:=bdC
 sz:=18
 d:=bd0
 len _:=rfl
 pos:=by decide
 one r v hv:=by simp[bdC] at hv;rcases hv with rfl|rfl|rfl|rfl|rfl|rfl|rfl|rfl|rfl|rfl|rfl|rfl|rfl|rfl|rfl|rfl|rfl|rfl<;>rfl
abbrev ilL (ds:List BDv):List IDv:=ds.map (·.il)
theorem il_at (ds:List BDv) {i:Nat} (hi:i<ds.length):(ilL ds).getD i idK.d=(ds.getD i bdK.d).il:=by simp[ilL,List.getD,hi]
theorem lkI_succ (ds:List BDv) {i:Nat} (hi:i<ds.length):lkI (ilL ds) (i+1)=lkI (ilL ds) i++lk1 i (ds.getD i bdK.d).il (ds.getD i bdK.d).il.sup.ys.length:=by rw[lkI,il_at ds hi]
theorem list_eq {xs ys:List Int} {d:Int} (hl:xs.length=ys.length) (h: ∀i,i<xs.length→xs.getD i d=ys.getD i d):xs=ys:=by
 apply List.ext_getElem hl
 intro i h1 h2
 have:=h i h1;simpa[List.getD,h1,h2] using this
structure LG where
 A:Option Addr
 c:Nat
theorem getD_app {ys:List Int} {x d:Int} {i:Nat}:(ys++[x]).getD i d=if i<ys.length then ys.getD i d else if i=ys.length then x else d:=by
 by_cases h:i<ys.length
 ·rw[if_pos h];simp[List.getD,List.getElem?_append_left h]
 ·rw[if_neg h]
  by_cases e:i=ys.length
  ·rw[if_pos e];subst e;simp[List.getD]
  ·rw[if_neg e];rw[List.getD,List.getElem?_eq_none (by simp;omega)];rfl
theorem rng_snoc {ys:List Int} {v:Nat} (h:rngP v ys):rngP ((v+1:Nat):Int) (ys++[(v:Int)]):=by
 intro i hi
 rw[List.length_append,List.length_singleton] at hi
 rw[getD_app]
 by_cases e:i<ys.length
 ·rw[if_pos e];have:=h i e;omega
 ·rw[if_neg e,if_pos (by omega)];omega
theorem rng_up {ys:List Int} {v:Nat} (h:rngP v ys):rngP ((v+1:Nat):Int) ys:=fun i hi=>by have:=h i hi;omega
theorem rng_le {ys:List Int} {v m:Nat} (h:rngP v ys) (hv:v≤m):rngP m ys:=fun i hi=>by have:=h i hi;omega
theorem asc_snoc {ys:List Int} {v:Nat} (h:ascP ys) (hr:rngP v ys):ascP (ys++[(v:Int)]):=by
 intro i hi hp
 rw[List.length_append,List.length_singleton] at hi
 rw[getD_app,getD_app,if_pos (by omega)]
 by_cases e:i<ys.length
 ·rw[if_pos e];exact h i e hp
 ·rw[if_neg e,if_pos (by omega)];have:=hr (i-1) (by omega);omega
def plcM (k:Nat) (a:Int):Int:=1048576+256* (((k:Int)* 5+modM a 12)%12)
theorem plc_bd (k:Nat) (a:Int):1048576≤plcM k a∧plcM k a≤1051392∧(plcM k a)%256=0:=by unfold plcM;omega
end Go.Pw
namespace Go.Sv
theorem RS.cellAt {α:Type} {K:Enc α} {w:World} {A:Option Addr} {ys:List α} (h:RS w K A ys) (m j:Nat) {o:Nat} {v:Value} (hm:m<ys.length) (ho:o=of A+m* K.sz+j) (hv:(K.f (ys.getD m K.d))[j]?=some v):w.cell? ⟨bk A,o,none⟩=some v:=by
 subst ho;exact h.cell hm hv
end Go.Sv
namespace Go.Pw
open Go.Sv Go.Drv
theorem bd_rl (d:BDv): ∀ {k:Nat},k<4→(bdC d)[2+k]?=some (.slice (d.pw.rl k).A (d.pw.rl k).ys.length (d.pw.rl k).c)
 |0,_=>rfl
 |1,_=>rfl
 |2,_=>rfl
 |3,_=>rfl
 |k+4,h=>by omega
def dhK:Enc DH where
 f d:=[.string (bs d.name),.slice d.sA d.ss.length d.sc,.slice d.tA d.hs.length d.tc]
 sz:=3
 d:=⟨[],none,0,[],none,0,[]⟩
 len _:=rfl
 pos:=by decide
 one r v hv:=by simp at hv;rcases hv with rfl|rfl|rfl<;>rfl
def BDv.few (d:BDv):Prop:=(∀k,k<4→(d.pw.rl k).ys.length≤20)∧d.il.sup.ys.length≤20∧d.drv.length≤200
def Few (ds:List BDv) (drs:List DH) (n:Nat):Prop:=(ds.length≤8∧drs.length≤8∧n≤20)∧(∀i,i<ds.length→(ds.getD i bdK.d).few)∧ ∀i,i<drs.length→(drs.getD i dhK.d).hs.length≤40∧(drs.getD i dhK.d).ss.length≤40
end Go.Pw
namespace Go.Pw
open Go.Sv Go.Rails
structure RM28 where
 b:Nat
 A:Option Addr
 n:Nat
 c:Nat
 lA:Option Addr
 lc:Nat
 lk:List Link
 oA:Option Addr
 oc:Nat
 on:List Bool
 uA:Option Addr
 uc:Nat
 us:List Int
 sA:Option Addr
 sc:Nat
 si:List Int
 clk:Int
def rmL (t:RM28):List Assn:=[Blk t.b (.cells #[.slice t.A t.n t.c,.slice t.lA t.lk.length t.lc,.slice t.oA t.on.length t.oc,.slice t.uA t.us.length t.uc,.slice t.sA t.si.length t.sc,.int .u64 t.clk] 238 (0,0)),OS 4 bolK t.oA t.oc t.on,OS 3 (intK .i64) t.uA t.uc t.us,OS 37 (intK .u64) t.sA t.sc t.si,OS 138 linkK t.lA t.lc t.lk]
structure MSt where
 sup:Hd
 con:Hd
 dly:Int
 act:Bool
 use:Int
 sin:Int
def ms0:MSt:=⟨hd0,hd0,0,false,0,0⟩
def MSt.wD (m:MSt) (x:Int):MSt:=⟨m.sup,m.con,x,m.act,m.use,m.sin⟩
def MSt.wS (m:MSt) (x:Hd):MSt:=⟨x,m.con,m.dly,m.act,m.use,m.sin⟩
def MSt.wC (m:MSt) (x:Hd):MSt:=⟨m.sup,x,m.dly,m.act,m.use,m.sin⟩
def msK:Enc MSt where
 f m:=[.slice m.sup.A m.sup.ys.length m.sup.c,.slice m.con.A m.con.ys.length m.con.c,.int .u64 m.dly,.bool m.act,.int .i64 m.use,.int .u64 m.sin]
 sz:=6
 d:=ms0
 len _:=rfl
 pos:=by decide
 one r v hv:=by simp at hv;rcases hv with rfl|rfl|rfl|rfl|rfl|rfl<;>rfl
def msF (m:MSt):Assn:=Bun [hdF m.sup,hdF m.con]
theorem msOpen {I0:Ids} {w0 w:World} {L:List Assn} {ms:List MSt} {m:Nat} (h:Hp I0 w0 (L++[Big msF ms]) w) (hm:m<ms.length):Hp I0 w0 (hdF (ms.getD m ms0).sup::hdF (ms.getD m ms0).con::(L++[Big msF (ms.eraseIdx m)])) w:=by
 have h1:Hp I0 w0 (Big msF ms::L) w:=h.perm (List.perm_append_singleton _ _)
 have h2:=h1.focus (k:=0) (m:=m) ms0 rfl hm
 exact Hp.unbun (M:=[hdF (ms.getD m ms0).sup,hdF (ms.getD m ms0).con]) h2
theorem msClose {I0:Ids} {w0 w:World} {L:List Assn} {ms:List MSt} {m:Nat} {a:MSt} (h:Hp I0 w0 (hdF a.sup::hdF a.con::(L++[Big msF (ms.eraseIdx m)])) w) (hm:m<ms.length):Hp I0 w0 (L++[Big msF (ms.set m a)]) w:=by
 have h1:Hp I0 w0 (msF a::(L++[Big msF (ms.eraseIdx m)])) w:=Hp.bun (M:=[hdF a.sup,hdF a.con]) h
 have h2:=Hp.unfocus (L:=msF a::L) (k:=0) (hs:=ms) (m:=m) (h':=a) (F:=msF) h1 rfl hm
 exact h2.perm (List.perm_append_singleton _ _).symm
def MSI (ids:List IDv) (links:List Link) (n i j k:Nat) (ms:List MSt):Prop:=ms.length=n∧ ∀s,s<n→(ms.getD s ms0).sup.ys=nbM (links.take j) false s∧(ms.getD s ms0).con.ys=nbM (links.take k) true s∧(ms.getD s ms0).dly=(if s<i then (ids.getD s idK.d).dly else 0)∧(ms.getD s ms0).act=false∧(ms.getD s ms0).use=0∧(ms.getD s ms0).sin=0
theorem MSI.base (ids:List IDv) (links:List Link) (n:Nat):MSI ids links n 0 0 0 (List.replicate n ms0):=by
 refine⟨List.length_replicate,fun s hs=>?_⟩
 have e:(List.replicate n ms0).getD s ms0=ms0:=by simp[List.getD,hs]
 rw[e];exact⟨rfl,rfl,rfl,rfl,rfl,rfl⟩
theorem MSI.step {ids:List IDv} {links:List Link} {n i j k i2 j2 k2 s:Nat} {ms:List MSt} {a:MSt} (h:MSI ids links n i j k ms) (hs:s<n) (ha:a.act=false∧a.use=0∧a.sin=0)
 (h0: ∀t,t<n→t≠s→nbM (links.take j2) false t=nbM (links.take j) false t∧nbM (links.take k2) true t=nbM (links.take k) true t∧(t<i2↔t<i))
 (h1:a.sup.ys=nbM (links.take j2) false s) (h2:a.con.ys=nbM (links.take k2) true s) (h3:a.dly=if s<i2 then (ids.getD s idK.d).dly else 0):MSI ids links n i2 j2 k2 (ms.set s a):=by
 refine⟨by rw[List.length_set];exact h.1,fun t ht=>?_⟩
 by_cases e:s=t
 ·subst e;rw[getD_set_self _ _ _ _ (by rw[h.1];exact hs)];exact⟨h1,h2,h3,ha⟩
 ·rw[getD_set_other _ _ _ e]
  obtain⟨g1,g2,g3,g4⟩:=h.2 t ht
  obtain⟨f1,f2,f3⟩:=h0 t ht fun x=>e x.symm
  refine⟨by rw[f1];exact g1,by rw[f2];exact g2,?_,g4⟩
  rw[g3];by_cases x:t<i
  ·rw[if_pos x,if_pos (f3.2 x)]
  ·rw[if_neg x,if_neg fun y=>x (f3.1 y)]
theorem MSI.dly {ids:List IDv} {links:List Link} {n i:Nat} {ms:List MSt} (h:MSI ids links n i 0 0 ms) (hi:i<n):MSI ids links n (i+1) 0 0 (ms.set i ((ms.getD i msK.d).wD (ids.getD i idK.d).dly)):=by
 obtain⟨g1,g2,g3,g4⟩:=h.2 i hi
 exact h.step hi g4 (fun t ht hne=>⟨rfl,rfl,by omega⟩) g1 g2 (by rw[if_pos (by omega)];rfl)
theorem nb_snoc {links:List Link} {j:Nat} (hj:j<links.length) (b:Bool) (t:Nat):nbM (links.take (j+1)) b t=nbM (links.take j) b t++(if (if b then (links.getD j linkK.d).sup else (links.getD j linkK.d).con)=(t:Int) then [if b then (links.getD j linkK.d).con else (links.getD j linkK.d).sup] else []):=by
 rw[take_succ_getD links j linkK.d hj,nbM_snoc]
theorem MSI.supS {ids:List IDv} {links:List Link} {n i j k s:Nat} {ms:List MSt} (h:MSI ids links n i j k ms) (hj:j<links.length) (hc:(links.getD j linkK.d).con=s) (hs:s<n) (A:Option Addr) (c:Nat):MSI ids links n i (j+1) k (ms.set s ((ms.getD s msK.d).wS ⟨A,c,(ms.getD s msK.d).sup.ys++[(links.getD j linkK.d).sup]⟩)):=by
 obtain⟨g1,g2,g3,g4⟩:=h.2 s hs
 refine h.step hs g4 (fun t ht hne=>⟨?_,rfl,Iff.rfl⟩) ?_ g2 g3
 ·rw[nb_snoc hj,hc];simp only[Bool.false_eq_true,if_false];rw[if_neg (by omega),List.append_nil]
 ·rw[nb_snoc hj,hc,←g1];simp only[Bool.false_eq_true,if_false,if_true];rfl
theorem MSI.conS {ids:List IDv} {links:List Link} {n i j k s:Nat} {ms:List MSt} (h:MSI ids links n i j k ms) (hj:k<links.length) (hc:(links.getD k linkK.d).sup=s) (hs:s<n) (A:Option Addr) (c:Nat):MSI ids links n i j (k+1) (ms.set s ((ms.getD s msK.d).wC ⟨A,c,(ms.getD s msK.d).con.ys++[(links.getD k linkK.d).con]⟩)):=by
 obtain⟨g1,g2,g3,g4⟩:=h.2 s hs
 refine h.step hs g4 (fun t ht hne=>⟨rfl,?_,Iff.rfl⟩) g1 ?_ g3
 ·rw[nb_snoc hj,if_pos rfl,hc,if_neg (by omega),List.append_nil]
 ·rw[nb_snoc hj,if_pos rfl,hc,if_pos rfl,if_pos rfl,←g2];rfl
theorem MSI.len {ids:List IDv} {links:List Link} {n i j k s:Nat} {ms:List MSt} (h:MSI ids links n i j k ms) (hs:s<n):(ms.getD s msK.d).sup.ys.length≤links.length∧(ms.getD s msK.d).con.ys.length≤links.length:=⟨nb_len (h.2 s hs).1,nb_len (h.2 s hs).2.1⟩
theorem lkT_pos {ids:List IDv} {i:Nat} (h:0≤(ids.getD i idK.d).par):((lkI ids i).length:Int)+((ids.getD i idK.d).sup.ys.length:Int)+1=((lkI ids (i+1)).length:Int):=by rw[lkI,lk1,if_pos h];simp;omega
theorem lkT_neg {ids:List IDv} {i:Nat} (h: ¬0≤(ids.getD i idK.d).par):((lkI ids i).length:Int)+((ids.getD i idK.d).sup.ys.length:Int)=((lkI ids (i+1)).length:Int):=by rw[lkI,lk1,if_neg h];simp
theorem newI_long {ids:List IDv} (h: ¬(64:Int)<ids.length) (h2: ∀i,i<ids.length→ ¬badI ids.length (ids.getD i idK.d)) (h3:(1024:Int)<(lkI ids ids.length).length):newI ids=1:=(newI_chk h h2).trans (chkM_long h3)
theorem chk_okL {n:Nat} {links:List Link} (h:chkM n links=0) {j:Nat} (hj:j<links.length):okL n (links.getD j linkK.d):=by
 by_cases e:okL n (links.getD j linkK.d)
 ·exact e
 ·exact absurd ((chkM_mem (by simp[List.getD,hj]) e).symm.trans h) (by decide)
theorem bigMap {β:Type} {F:β→Assn} {hs hs':List β} (h:hs.map F=hs'.map F):Big F hs=Big F hs':=by
 have e:(Big F hs).sat=(Big F hs').sat:=by funext w I;show Sep (hs.map F) I w=Sep (hs'.map F) I w;rw[h]
 generalize Big F hs=X at e ⊢;generalize Big F hs'=Y at e ⊢
 cases X;cases Y;simp only at e;subst e;rfl
theorem bigSet {β:Type} {F:β→Assn} {hs:List β} {m:Nat} (d:β) {a:β} (hm:m<hs.length) (h:F a=F (hs.getD m d)):Big F (hs.set m a)=Big F hs:=by
 refine bigMap ?_
 apply List.ext_getElem (by simp)
 intro i h1 h2
 simp only[List.getElem_map,List.getElem_set]
 split
 ·rename_i e;subst e;rw[h];simp[List.getD,hm]
 ·rfl
theorem Hp.nilMs {I0:Ids} {w0 w:World} {A B C D:Assn} (h:Hp I0 w0 [A,B,C,D] w): ∀n,Hp I0 w0 [A,B,C,D,Big msF (List.replicate n ms0)] w
 |0=>Hp.nilBig (F:=msF) h
 |n+1=>by
  have h1:=((Hp.nilMs h n).nilOS (e:=3) (K:=intK .i64)).nilOS (e:=3) (K:=intK .i64)
  have h2:Hp I0 w0 [hdF hd0,hdF hd0,A,B,C,D,Big msF (List.replicate n ms0)] w:=h1.sel [5,5,0,0,0,0,0] rfl
  have h3:Hp I0 w0 (msF ms0::[A,B,C,D,Big msF (List.replicate n ms0)]) w:=Hp.bun (M:=[hdF hd0,hdF hd0]) h2
  have h4:Hp I0 w0 ([A,B,C,D,Big msF (List.replicate n ms0)]++[msF ms0]) w:=h3.sel [1,1,1,1,1,0] rfl
  have h5:=Hp.bigSnoc (k:=4) h4 rfl
  rw[List.replicate_succ'];exact h5
theorem msOpen6 {I0:Ids} {w0 w:World} {A B C D E G:Assn} {ms:List MSt} {m:Nat} (h:Hp I0 w0 [A,B,C,D,E,G,Big msF ms] w) (hm:m<ms.length):Hp I0 w0 [hdF (ms.getD m msK.d).sup,hdF (ms.getD m msK.d).con,A,B,C,D,E,G,Big msF (ms.eraseIdx m)] w:=msOpen (L:=[A,B,C,D,E,G]) h hm
theorem msClose5 {I0:Ids} {w0 w:World} {A B C D E:Assn} {ms:List MSt} {m:Nat} (a:MSt) (h:Hp I0 w0 [hdF a.sup,hdF a.con,A,B,C,D,E,Big msF (ms.eraseIdx m)] w) (hm:m<ms.length):Hp I0 w0 [A,B,C,D,E,Big msF (ms.set m a)] w:=msClose (L:=[A,B,C,D,E]) h hm
end Go.Pw
namespace Go.Pw
open Go.Sv Go.Rails Go.Dg
theorem chk_len {n:Nat} {links:List Link} (h:chkM n links=0):(seqM n links).length=n:=by
 unfold chkM at h
 by_cases e:clM n links≠0
 ·rw[if_pos e] at h;exact absurd h e
 ·rw[if_neg e] at h
  by_cases e2:((seqM n links).length:Int)≠n
  ·rw[if_pos e2] at h;exact absurd h (by decide)
  ·omega
structure MG where
 b:Nat
 A:Option Addr
 c:Nat
 ms:List MSt
 oA:Option Addr
 oc:Nat
 od:List Int
 clk:Int
def mgL (t:MG):List Assn:=[Blk t.b (.cells #[.slice t.A t.ms.length t.c,.slice t.oA t.od.length t.oc,.int .u64 t.clk] 281 (0,0)),OS 283 msK t.A t.c t.ms,Big msF t.ms,OS 3 (intK .i64) t.oA t.oc t.od]
def MG.fresh (t:MG) (ids:List IDv):Prop:=MSI ids (lkI ids ids.length) ids.length ids.length (lkI ids ids.length).length (lkI ids ids.length).length t.ms∧t.od=seqM ids.length (lkI ids ids.length)∧t.clk=0
structure UN where
 own:Int
 pw:PDv
 base:Int
 q:Nat
 d:Go.Drv.DH
 st:Go.Drv.IS
 stp:Bool
 qA:Option Addr
 qc:Nat
 qs:List Bs
 wk:Bool
 rem:Int
def unC (u:UN):List Value:=[.int .i64 u.own,.int .i64 u.pw.par,.slice u.pw.r0.A u.pw.r0.ys.length u.pw.r0.c,.slice u.pw.r1.A u.pw.r1.ys.length u.pw.r1.c,.slice u.pw.r2.A u.pw.r2.ys.length u.pw.r2.c,.slice u.pw.r3.A u.pw.r3.ys.length u.pw.r3.c,.int .i64 u.pw.d0,.int .i64 u.pw.d1,.int .i64 u.pw.d2,.int .i64 u.pw.d3,.int .i64 u.pw.d4,.int .i64 u.pw.d5,.int .i64 u.pw.wd,.int .i64 u.pw.ws,.int .u64 u.base,.pointer (some ⟨u.q,0,none⟩),.bool u.stp,.slice u.qA u.qs.length u.qc,.bool u.wk,.int .i64 u.rem]
def un0:UN:=⟨0,pd0,0,0,⟨[],none,0,[],none,0,[]⟩,⟨0,false,0⟩,false,none,0,[],false,0⟩
def unK:Enc UN where
 f:=unC
 sz:=20
 d:=un0
 len _:=rfl
 pos:=by decide
 one r v hv:=by simp[unC] at hv;rcases hv with rfl|rfl|rfl|rfl|rfl|rfl|rfl|rfl|rfl|rfl|rfl|rfl|rfl|rfl|rfl|rfl|rfl|rfl|rfl|rfl<;>rfl
def unF (u:UN):Assn:=Bun (pdF u.pw::OS 9 strK u.qA u.qc u.qs::Go.Drv.instL u.q u.d u.st)
theorem unClose {I0:Ids} {w0 w:World} {e:PDv} {q:Nat} {d:Go.Drv.DH} (own base rem:Int) (h:Hp I0 w0 ([pdF e]++Go.Drv.instL q d ⟨0,false,0⟩) w):Hp I0 w0 [unF ⟨own,e,base,q,d,⟨0,false,0⟩,false,none,0,[],false,rem⟩] w:=by
 have h1:=(h.nilOS (e:=9) (K:=strK)).sel [0,4,0,0,0,0] rfl
 exact Hp.bun (M:=pdF e::OS 9 strK none 0 []::Go.Drv.instL q d ⟨0,false,0⟩) (R:=[]) h1
def unZ:List Value:=[.int .i64 0,.int .i64 0,.slice none 0 0,.slice none 0 0,.slice none 0 0,.slice none 0 0,.int .i64 0,.int .i64 0,.int .i64 0,.int .i64 0,.int .i64 0,.int .i64 0,.int .i64 0,.int .i64 0,.int .u64 0,.pointer none,.bool false,.slice none 0 0,.bool false,.int .i64 0]
def unOk (d:BDv):Prop:=(0≤d.fn∧d.fn<255∧d.pw.par=d.il.par)∧(d.pw.r1.ys=[]∧d.pw.r2.ys=[]∧d.pw.r3.ys=[])∧(Go.Drv.parseM d.drv).1=0∧fitD (Go.Drv.parseM d.drv).2.ts
theorem unOk_rl {d:BDv} (h:unOk d): ∀ {k:Nat},0<k→k<4→(d.pw.rl k).ys=[]
 |1,_,_=>h.2.1.1
 |2,_,_=>h.2.1.2.1
 |3,_,_=>h.2.1.2.2
 |0,h0,_=>by omega
 |k+4,_,h4=>by omega
theorem nil_a {d:PDv} {k:Nat} (h: ∀j,j<k→0<j→(d.rl j).ys=[]) (hk: ¬(0:Int)<((d.rl k).ys.length:Int)): ∀j,j<k+1→0<j→(d.rl j).ys=[]:=fun j hj h0=>by
 by_cases e:j=k
 ·subst e;exact List.eq_nil_of_length_eq_zero (by omega)
 ·exact h j (by omega) h0
theorem nil_b {d:PDv} {k:Nat} (h: ∀j,j<k→0<j→(d.rl j).ys=[]) (hk: ¬(k:Int)≠0): ∀j,j<k+1→0<j→(d.rl j).ys=[]:=fun j hj h0=>h j (by omega) h0
def UN.of (u:UN) (d:BDv) (base:Int):Prop:=(u.own=d.fn∧Cpy d.pw u.pw 4∧u.base=base)∧u.d.d=(Go.Drv.parseM d.drv).2∧u.st=⟨0,false,0⟩∧u.stp=false∧u.qs=[]∧u.wk=false∧u.rem=4
end Go.Pw
namespace Go.Sv
theorem findNow_int (k k2:IntKind) (x:Int): ∀(es:List MapEntry) (m:List Int) (i:Nat),es.map (·.key)=m.map (fun l:Int=>Value.int k l)→
 Instr.findNow (.int k2) (.int k x) es i=some ((m.findIdx? (fun y=>decide (x=y))).bind fun j=>(es[j]?).map fun e=>(i+j,e.val))
 |[],[],i,_=>by simp[Instr.findNow]
 |e::es,y::m,i,h=>by
  simp only[List.map_cons,List.cons.injEq] at h
  have hs:Instr.sameNow (.int k2) (.int k x) e.key=some (decide (x=y)):=by rw[h.1];simp[Instr.sameNow];rfl
  simp only[Instr.findNow,hs,List.findIdx?_cons]
  by_cases hxy:x=y
  ·simp[hxy]
  ·simp only[hxy,decide_false,Bool.false_eq_true,if_false]
   rw[findNow_int k k2 x es m (i+1) h.2]
   cases hf:m.findIdx? (fun y=>decide (x=y)) with
   |none=>simp
   |some j=>simp[Nat.add_assoc,Nat.add_comm 1 j]
 |[],_::_,_,h=>by simp at h
 |_::_,[],_,h=>by simp at h
theorem KeyT.int {P:Program} {kt:TypeId} {k k2:IntKind} (hu:P.underlying kt=some (.int k2)):KeyT P kt (Value.int k) where
 check em x w:=by
  show(Instr.checkKey em (9999+1) kt _).run P w=_
  rw[Instr.checkKey]
  simp only[Sem.run_bind,run_underlying hu,Result.andThen_ok,Sem.run_pure]
 find x es ms h w:=by
  simp only[Instr.findKey,Sem.run_bind,run_underlying hu,Result.andThen_ok,findNow_int k k2 x es ms 0 h,Nat.zero_add,Sem.run_pure]
theorem mget_ti (x:Int): ∀l:List Int,mget (l.map fun y=>(y,true)) x=if x∈l then some true else none
 |[]=>by simp[mget]
 |y::l=>by
  simp only[List.map_cons,mget,mget_ti x l,List.mem_cons]
  by_cases h:x=y
  ·simp[h]
  ·simp[h]
theorem mget_di (x:Int) (l:List Int):(mget (l.map fun y=>(y,true)) x).getD false=decide (x∈l):=by rw[mget_ti];split<;>simp_all
end Go.Sv
namespace Go.Pw
open Go.Sv Go.Rails Go.Dg
structure CP where
 b:Nat
 uA:Option Addr
 uc:Nat
 us:List UN
 t:TT
 m:MG
 bb:Nat
 oA:Option Addr
 oc:Nat
 od:List Int
def cpL (p:CP):List Assn:=[Blk p.b (.cells #[.slice p.uA p.us.length p.uc,.pointer (some ⟨p.t.b,0,none⟩),.pointer (some ⟨p.m.b,0,none⟩),.pointer (some ⟨p.bb,0,none⟩),.slice p.oA p.od.length p.oc] 113 (0,0)),OS 116 unK p.uA p.uc p.us,Big unF p.us,OS 3 (intK .i64) p.oA p.oc p.od]++(ttL p.t++mgL p.m)
abbrev pwL (ds:List BDv):List PDv:=ds.map (·.pw)
abbrev fnL (ds:List BDv):List Int:=ds.map (·.fn)
theorem pw_at (ds:List BDv) {i:Nat} (hi:i<ds.length):(pwL ds).getD i pdK.d=(ds.getD i bdK.d).pw:=by simp[pwL,List.getD,hi]
theorem fn_at (ds:List BDv) {i:Nat} (hi:i<ds.length):(fnL ds).getD i 0=(ds.getD i bdK.d).fn:=by simp[fnL,List.getD,hi]
def BDv.inn (d:BDv) (w:World):Prop:=d.pw.rs w∧d.pw.sm 1000000∧RS w (intK .i64) d.il.sup.A d.il.sup.ys∧d.drv.length≤900000
theorem newI_zero {ds:List BDv} (hm:newI (ilL ds)=0):chkM ds.length (lkI (ilL ds) ds.length)=0∧ ∀i,i<ds.length→ ¬badI ds.length (ds.getD i bdK.d).il:=by
 unfold newI at hm
 rw[List.length_map] at hm
 split at hm
 ·exact absurd hm (by decide)
 ·rename_i hn
  refine⟨hm,fun i hi hb=>hn (.inr ⟨i,hi,?_⟩)⟩
  rw[il_at ds hi];exact hb
theorem lk_len {ds:List BDv} (h:ds.length≤64) (h2: ∀i,i<ds.length→ ¬badI ds.length (ds.getD i bdK.d).il):(lkI (ilL ds) ds.length).length≤1000000:=by
 have:=lkI_len (ids:=ilL ds) (m:=ds.length) fun i hi=>by rw[il_at ds hi];have:=h2 i hi;unfold badI at this;omega
 omega
structure PwOk (ds:List BDv) (rs:List Rail) (bs:List Int):Prop where
 n:ds.length≤16
 nb:bs.length=ds.length
 aln:alnP bs
 un: ∀i,i<ds.length→unOk (ds.getD i bdK.d)
 ow:(fnL ds).Nodup
 tr:newT (pwL ds) rs=0
 mg:newI (ilL ds)=0
theorem PwOk.lk {ds:List BDv} {rs:List Rail} {bs:List Int} (h:PwOk ds rs bs):chkM ds.length (lkI (ilL ds) ds.length)=0∧ ∀i,i<ds.length→ ¬badI ds.length (ds.getD i bdK.d).il:=newI_zero h.mg
structure CP.fresh (p:CP) (ds:List BDv) (rs:List Rail) (bs:List Int) (bb:Nat):Prop where
 bb:p.bb=bb
 un:p.us.length=ds.length
 us: ∀i,i<ds.length→(p.us.getD i un0).of (ds.getD i bdK.d) (bs.getD i 0)
 trs:p.t.rs=new0 rs
 tst:p.t.st=List.replicate ds.length 4
 tck:p.t.clk=0
 tn:p.t.es.length=ds.length
 tcp:Cpys (pwL ds) p.t.es
 mg:p.m.fresh (ilL ds)
 od:p.od=seqM ds.length (lkI (ilL ds) ds.length)
structure PG where
 us:List UN
 uA:Option Addr
 uc:Nat
 pA:Option Addr
 pc:Nat
 iA:Option Addr
 ic:Nat
theorem tk_snoc {β γ:Type} (f:β→γ) (l:List β) (d:β) {i:Nat} (h:i<l.length):(l.take (i+1)).map f=(l.take i).map f++[f (l.getD i d)]:=by
 rw[List.take_succ_eq_append_getElem h,List.map_append];simp[List.getD,h]
theorem nodup_no {l:List Int} {d:Int} {i:Nat} (h:i<l.length) (hx:l.getD i d∈l.take i): ¬l.Nodup:=fun hn=>by
 have hs:=hn.sublist (List.take_sublist (i+1) l)
 rw[List.take_succ_eq_append_getElem h] at hs
 have:l.getD i d=l[i]:=by simp[List.getD,h]
 rw[this] at hx
 exact(List.nodup_append.1 hs).2.2 _ hx _ (by simp) rfl
theorem snoc_all {β:Type} {us:List β} {u d:β} {P:Nat→β→Prop} {i:Nat} (hl:us.length=i) (h: ∀j,j<i→P j (us.getD j d)) (hu:P i u): ∀j,j<i+1→P j ((us++[u]).getD j d):=fun j hj=>by
 by_cases e:j<i
 ·have:=h j e;rwa [List.getD,List.getElem?_append_left (by omega)]
 ·obtain rfl:j=i:=by omega
  rw[List.getD,List.getElem?_append_right (by omega),hl,Nat.sub_self];exact hu
theorem np_step {ds:List BDv} {bs:List Int} {i:Nat} {us:List UN} {u:UN} (h:(i≤ds.length∧us.length=i)∧(∀j,j<i→unOk (ds.getD j bdK.d)∧(us.getD j un0).of (ds.getD j bdK.d) (bs.getD j (intK .u64).d))∧((ds.take i).map (·.fn)).Nodup) (hi:i<ds.length)
 (hok:unOk (ds.getD i bdK.d)) (hu:u.of (ds.getD i bdK.d) (bs.getD i (intK .u64).d)) (hin:u.own∉(ds.take i).map (·.fn)):
 (i+1≤ds.length∧(us++[u]).length=i+1)∧(∀j,j<i+1→unOk (ds.getD j bdK.d)∧((us++[u]).getD j un0).of (ds.getD j bdK.d) (bs.getD j (intK .u64).d))∧((ds.take (i+1)).map (·.fn)).Nodup:=by
 refine⟨⟨by omega,by rw[List.length_append,List.length_singleton,h.1.2]⟩,snoc_all (P:=fun j x=>unOk (ds.getD j bdK.d)∧x.of (ds.getD j bdK.d) (bs.getD j (intK .u64).d)) h.1.2 h.2.1 ⟨hok,hu⟩,?_⟩
 rw[tk_snoc (·.fn) ds bdK.d hi,List.nodup_append]
 refine⟨h.2.2,by simp,fun a ha b hb e=>hin ?_⟩
 rw[List.mem_singleton] at hb
 rw[hu.1.1,←hb,←e];exact ha
theorem np_nd {ds:List BDv} (h:((ds.take ds.length).map (·.fn)).Nodup):(fnL ds).Nodup:=by rwa [List.take_length] at h
theorem np_no {ds:List BDv} {i:Nat} (hi:i<ds.length) (hx:(ds.getD i bdK.d).fn∈(ds.take i).map (·.fn)): ¬(fnL ds).Nodup:=by
 refine nodup_no (i:=i) (d:=0) (by rw[List.length_map];exact hi) ?_
 rw[fn_at ds hi,List.map_take.symm];exact hx
theorem np_heap {I:Ids} {w w2:World} {ds:List BDv} {i mb:Nat} {u:UN} {X B P0:Assn} {pA iA:Option Addr} {pc ic:Nat} {base:Int} (hu:u.of (ds.getD i bdK.d) base) (hi:i<ds.length)
 (h:Hp I w [P0,OM mb (Value.int .i64) Value.bool (((ds.take i).map (·.fn)).map (fun y=>(y,true))++[(u.own,true)]),X,B,OS 36 pdK pA pc ((ds.take i).map (·.pw)++[(ds.getD i bdK.d).pw]),OS 39 idK iA ic ((ds.take i).map (·.il)++[(ds.getD i bdK.d).il])] w2):
 Hp I w [P0,OM mb (Value.int .i64) Value.bool (((ds.take (i+1)).map (·.fn)).map (fun y=>(y,true))),X,B,OS 36 pdK pA pc ((ds.take (i+1)).map (·.pw)),OS 39 idK iA ic ((ds.take (i+1)).map (·.il))] w2:=by
 rw[tk_snoc (·.fn) ds bdK.d hi,tk_snoc (·.pw) ds bdK.d hi,tk_snoc (·.il) ds bdK.d hi,List.map_append,←hu.1.1];exact h
end Go.Pw
namespace Go.Pw
open Go.Sv Go.Ios
def OkO (ps:Nat→Int×Int) (s0:BS):Nat→BS→Prop
 |0,s=>s=s0
 |i+1,s=> ∃s1 s2 e,OkO ps s0 i s1∧MapO s1 0 (ps i).1 256 (ps i).2 0 s2∧EnO s2 (ps i).2 false e s
def OkR (ps:Nat→Int×Int) (s0:RB):Nat→RB→Prop
 |0,s=>s=s0
 |i+1,s=> ∃s1 s2 e,OkR ps s0 i s1∧MapR s1 0 (ps i).1 256 (ps i).2 0 s2∧EnR s2 (ps i).2 false e s
def EndO (ps:Nat→Int×Int) (s0:BS) (n:Nat) (e:Int) (s:BS):Prop:=(e=0∧OkO ps s0 n s)∨(e≠0∧ ∃i s1,i<n∧OkO ps s0 i s1∧MapO s1 0 (ps i).1 256 (ps i).2 e s)
def EndR (ps:Nat→Int×Int) (s0:RB) (n:Nat) (e:Int) (s:RB):Prop:=(e=0∧OkR ps s0 n s)∨(e≠0∧ ∃i s1,i<n∧OkR ps s0 i s1∧MapR s1 0 (ps i).1 256 (ps i).2 e s)
theorem mapO_ok {s s2:BS} {z p q o e:Int} (hk:s.ok) (hp:isU p) (h:MapO s z p q o e s2):s2.ok:=by
 cases h with
 |bad _=>exact hk
 |busy _ _ _ _=>exact hk
 |full _ _ _ _ _=>exact hk
 |done m bp A c hz hg hb ht=>
  have hm:m<3:=by omega
  exact mapG_ok hk hm ⟨hp,hg.2.1,hg.2.2.1,hg.2.2.2,.inl ⟨rfl,rfl⟩,fun i=>by simp⟩ hb ht A c
theorem enO_ok {s s2:BS} {o e:Int} {v:Bool} (hk:s.ok) (h:EnO s o v e s2):s2.ok:=by
 cases h with
 |bad _=>exact hk
 |done ho=>exact hk.en o.toNat v
theorem mapR_ok {s s2:RB} {z p q o e:Int} (hk:s.ok) (hp:isU p) (h:MapR s z p q o e s2):s2.ok:=by
 cases h with
 |bad _=>exact hk
 |busy _ _=>exact hk
 |full _ _ _=>exact hk
 |done A A2 c2 hg hb ht=>exact radd_ok hk (rnew_ok hp hg) ht A2 c2
theorem enR_ok {s s2:RB} {o e:Int} {v:Bool} (hk:s.ok) (h:EnR s o v e s2):s2.ok:=by
 cases h with
 |bad _=>exact hk
 |done ho=>exact⟨by show(s.en.set _ _).length=256;rw[List.length_set];exact hk.en,hk.each,hk.max,hk.fl,hk.fr,hk.tr⟩
theorem OkO.ok {ps:Nat→Int×Int} {s0:BS} (hk:s0.ok): ∀ {i:Nat} {s:BS},(∀j,j<i→isU (ps j).1)→OkO ps s0 i s→s.ok
 |0,s,_,h=>by cases h;exact hk
 |i+1,s,hu,⟨s1,s2,e,h1,h2,h3⟩=>enO_ok (mapO_ok (OkO.ok hk (fun j hj=>hu j (by omega)) h1) (hu i (by omega)) h2) h3
theorem OkR.ok {ps:Nat→Int×Int} {s0:RB} (hk:s0.ok): ∀ {i:Nat} {s:RB},(∀j,j<i→isU (ps j).1)→OkR ps s0 i s→s.ok
 |0,s,_,h=>by cases h;exact hk
 |i+1,s,hu,⟨s1,s2,e,h1,h2,h3⟩=>enR_ok (mapR_ok (OkR.ok hk (fun j hj=>hu j (by omega)) h1) (hu i (by omega)) h2) h3
theorem OkO.rel {ps:Nat→Int×Int} {s0:BS} {r0:RB} {n0:Nat} (R:Rel s0 r0 n0): ∀ {i:Nat} {s:BS} {r:RB},(∀j,j<i→isU (ps j).1)→OkO ps s0 i s→OkR ps r0 i r→ ∃n,Rel s r n
 |0,s,r,_,h,h'=>by cases h;cases h';exact⟨_,R⟩
 |i+1,s,r,hu,⟨s1,s2,e,h1,h2,h3⟩,⟨r1,r2,e',g1,g2,g3⟩=>by
  obtain⟨n,R1⟩:=OkO.rel R (fun j hj=>hu j (by omega)) h1 g1
  exact⟨_,(((R1.map (hu i (by omega)) h2 g2).2).enb h3 g3).2⟩
theorem OkO.pre {ps:Nat→Int×Int} {s0:BS} {i:Nat}: ∀ {n:Nat} {s:BS},OkO ps s0 n s→i<n→ ∃s1 s2,OkO ps s0 i s1∧MapO s1 0 (ps i).1 256 (ps i).2 0 s2
 |n+1,s,⟨s1,s2,e,h1,h2,h3⟩,hi=>by
  by_cases c:i=n
  ·subst c;exact⟨s1,s2,h1,h2⟩
  ·exact OkO.pre h1 (by omega)
theorem OkR.pre {ps:Nat→Int×Int} {s0:RB} {i:Nat}: ∀ {n:Nat} {s:RB},OkR ps s0 n s→i<n→ ∃s1 s2,OkR ps s0 i s1∧MapR s1 0 (ps i).1 256 (ps i).2 0 s2
 |n+1,s,⟨s1,s2,e,h1,h2,h3⟩,hi=>by
  by_cases c:i=n
  ·subst c;exact⟨s1,s2,h1,h2⟩
  ·exact OkR.pre h1 (by omega)
theorem end_eq {ps:Nat→Int×Int} {s0 s:BS} {r0 r:RB} {n n0:Nat} {e f:Int} (R:Rel s0 r0 n0) (hu: ∀j,j<n→isU (ps j).1) (h:EndO ps s0 n e s) (g:EndR ps r0 n f r):e=f:=by
 have key: ∀ {i s1 r1 s2 r2 e f},i<n→OkO ps s0 i s1→OkR ps r0 i r1→MapO s1 0 (ps i).1 256 (ps i).2 e s2→MapR r1 0 (ps i).1 256 (ps i).2 f r2→e=f:=fun {i s1 r1 s2 r2 e f} hi h1 g1 h2 g2=>by
  obtain⟨m,R1⟩:=OkO.rel R (fun j hj=>hu j (by omega)) h1 g1
  exact(R1.map (hu i hi) h2 g2).1
 rcases h with ⟨he,h⟩|⟨he,i,s1,hi,h1,h2⟩
 ·rcases g with ⟨hf,g⟩|⟨hf,j,r1,hj,g1,g2⟩
  ·rw[he,hf]
  ·obtain⟨s1,s2,h1,h2⟩:=h.pre hj
   rw[he,key hj h1 g1 h2 g2]
 ·rcases g with ⟨hf,g⟩|⟨hf,j,r1,hj,g1,g2⟩
  ·obtain⟨r1,r2,g1,g2⟩:=g.pre hi
   rw[hf,key hi h1 g1 h2 g2]
  ·rcases Nat.lt_trichotomy i j with c|c|c
   ·obtain⟨r3,r4,g3,g4⟩:=g1.pre c
    exact absurd (key hi h1 g3 h2 g4) he
   ·subst c;exact key hi h1 g1 h2 g2
   ·obtain⟨s3,s4,h3,h4⟩:=h1.pre c
    exact absurd (key hj h3 g1 h4 g2).symm hf
section
variable {I0:Ids} {w0 w:World} {p:CP} {X:List Assn}
def cpB (p:CP):Assn:=Blk p.b (.cells #[.slice p.uA p.us.length p.uc,.pointer (some ⟨p.t.b,0,none⟩),.pointer (some ⟨p.m.b,0,none⟩),.pointer (some ⟨p.bb,0,none⟩),.slice p.oA p.od.length p.oc] 113 (0,0))
def cpU (p:CP):Assn:=OS 116 unK p.uA p.uc p.us
def cpR (p:CP):List Assn:=[Big unF p.us,OS 3 (Rails.intK .i64) p.oA p.oc p.od]++(ttL p.t++mgL p.m)
theorem bunEnd {M:List Assn} (h:Hp I0 w0 (X++M) w):Hp I0 w0 (X++[Bun M]) w:=
 (Hp.bun (h.perm List.perm_append_comm)).perm (List.perm_append_singleton _ _).symm
theorem bunOff {M Y:List Assn} (h:Hp I0 w0 (X++[Bun M]++Y) w):Hp I0 w0 (X++M++Y) w:=by
 have h1:Hp I0 w0 (Bun M::(X++Y)) w:=h.perm (by
  rw[List.append_assoc];exact List.perm_middle)
 have h2:=Hp.unbun (M:=M) h1
 refine h2.perm ?_
 rw[←List.append_assoc];exact(List.perm_append_comm (l₁:=M) (l₂:=X)).append_right Y
theorem cpClose (h:Hp I0 w0 (X++cpL p) w):Hp I0 w0 (X++[cpB p,cpU p,Bun (cpR p)]) w:=by
 have h1:Hp I0 w0 ((X++[cpB p,cpU p])++cpR p) w:=by rw[List.append_assoc];exact h
 have h2:=bunEnd h1
 rw[List.append_assoc] at h2;exact h2
theorem cpOpen (h:Hp I0 w0 ([cpB p,cpU p,Bun (cpR p)]++X) w):Hp I0 w0 (cpL p++X) w:=bunOff (X:=[cpB p,cpU p]) (Y:=X) h
end
def psM (ds:List BDv) (bs:List Int) (i:Nat):Int×Int:=(bs.getD i (Rails.intK .u64).d,(ds.getD i bdK.d).fn)
def roP (A B C:Option Addr) (ds:List BDv) (rs:List Rails.Rail) (bs:List Int):Ids:=fun b=>(ds≠[]∧b=bk A)∨(rs≠[]∧b=bk B)∨(bs≠[]∧b=bk C)∨ ∃i,i<ds.length∧((∃k,k<4∧((ds.getD i bdK.d).pw.rl k).ys≠[]∧b=bk ((ds.getD i bdK.d).pw.rl k).A)∨((ds.getD i bdK.d).il.sup.ys≠[]∧b=bk (ds.getD i bdK.d).il.sup.A))
end Go.Pw
namespace Go.Pw
open Go.Sv Go.Rails Go.Dg
theorem fn_nd {ds:List BDv} (h: ∀j,j<ds.length→ ∀k,k<j→(ds.getD k bdK.d).fn≠(ds.getD j bdK.d).fn):(fnL ds).Nodup:=by
 rw[List.Nodup,List.pairwise_iff_getElem]
 intro i j hi hj hij
 rw[List.length_map] at hi hj
 have:=h j hj i hij
 simpa[List.getD,hi,hj] using this
theorem fn_dup {ds:List BDv} {i k:Nat} (hi:i<ds.length) (hk:k<i) (h:(ds.getD k bdK.d).fn=(ds.getD i bdK.d).fn): ¬(fnL ds).Nodup:=fun hn=>by
 rw[List.Nodup,List.pairwise_iff_getElem] at hn
 have:=hn k i (by rw[List.length_map];omega) (by rw[List.length_map];exact hi) hk
 have hk2:k<ds.length:=by omega
 simp[List.getD,hi,hk2] at h
 simp only[List.getElem_map] at this
 exact this h
theorem vd_step {ds:List BDv} {i:Nat} {P:Nat→Prop} (h: ∀j,j<i→P j) (h2:P i): ∀j,j<i+1→P j:=fun j hj=>by
 by_cases e:j=i
 ·subst e;exact h2
 ·exact h j (by omega)
theorem unOk_of {d:BDv} (h1:0≤d.fn) (h2:d.fn<255) (h3:d.pw.par=d.il.par) (h4: ¬(0:Int)<(d.pw.r1.ys.length:Int)+(d.pw.r2.ys.length:Int)+(d.pw.r3.ys.length:Int)) (h5:(Go.Drv.parseM d.drv).1=0) (h6:fitD (Go.Drv.parseM d.drv).2.ts):unOk d:=
 ⟨⟨h1,h2,h3⟩,⟨List.eq_nil_of_length_eq_zero (by omega),List.eq_nil_of_length_eq_zero (by omega),List.eq_nil_of_length_eq_zero (by omega)⟩,h5,h6⟩
theorem unOk_len {d:BDv} (h:unOk d): ¬(0:Int)<(d.pw.r1.ys.length:Int)+(d.pw.r2.ys.length:Int)+(d.pw.r3.ys.length:Int):=by
 obtain⟨h1,h2,h3⟩:=h.2.1
 rw[h1,h2,h3];decide
end Go.Pw
namespace Go.Sv
theorem Fx.bun {P:Program} {f:FuncId} {vs:List Value} {w:World} {M:List Assn} {ro:Ids} {post:Value→List Assn→Prop} (h:Fx P f vs w M ro post):Fx P f vs w [Bun M] ro (fun v L=> ∃M2,post v M2∧L=[Bun M2]):=fun I hs hro=>by
 obtain⟨i,j,hI,hd,hM,hj⟩:=hs
 have e: ∀x,I x↔i x:=fun x=>by rw[hI x];exact⟨fun k=>k.elim id fun k=>absurd k (hj x),.inl⟩
 have hI2:I=i:=funext fun x=>propext (e x)
 subst hI2
 exact(h I hM hro).mono fun e w' ⟨v,L',e1,hp,hh⟩=>⟨v,_,e1,⟨L',hp,rfl⟩,Hp.bun (R:=[]) (by rw[List.append_nil];exact hh)⟩
end Go.Sv
namespace Go.Pw
open Go.Sv Go.Rails Go.Dg
structure SH where
 A:Option Addr
 c:Nat
 ys:List Bs
def sh0:SH:=⟨none,0,[]⟩
def shK:Enc SH where
 f h:=[.slice h.A h.ys.length h.c]
 sz:=1
 d:=sh0
 len _:=rfl
 pos:=by decide
 one r v hv:=by simp at hv;subst hv;rfl
def shF (h:SH):Assn:=OS 9 strK h.A h.c h.ys
structure RI where
 q:Nat
 d:Go.Drv.DH
 pos:Int
 wt:Int
 ev:Bs
def ri0:RI:=⟨0,⟨[],none,0,[],none,0,[]⟩,0,0,[]⟩
def riK:Enc RI where
 f r:=[.pointer (some ⟨r.q,0,none⟩)]
 sz:=1
 d:=ri0
 len _:=rfl
 pos:=by decide
 one r v hv:=by simp at hv;subst hv;rfl
def riL (r:RI):List Assn:=Blk r.q (.cells #[.string (bs r.d.name),.slice r.d.sA r.d.ss.length r.d.sc,.slice r.d.tA r.d.hs.length r.d.tc,.int .i64 r.pos,.int .i64 r.wt,.string (bs r.ev)] 230 (0,0))::Go.Drv.dL r.d
def riF (r:RI):Assn:=Bun (riL r)
def RI.of (r:RI) (d:BDv):Prop:=r.d.d=(Go.Drv.parseM d.drv).2∧r.pos=0∧r.wt= -1∧r.ev=[]
section
variable {I0:Ids} {w0 w:World} {X:List Assn}
theorem riSnoc {rs:List RI} (r:RI) (h:Hp I0 w0 (X++(Big riF rs::riL r)) w):Hp I0 w0 (X++[Big riF (rs++[r])]) w:=by
 have h1:Hp I0 w0 ((X++[Big riF rs])++riL r) w:=by rw[List.append_assoc];exact h
 have h2:Hp I0 w0 ((X++[Big riF rs])++[riF r]) w:=bunEnd h1
 have h3:Hp I0 w0 ((Big riF rs::X)++[riF r]) w:=h2.perm ((List.perm_append_singleton _ _).append_right _)
 have h4:=Hp.bigSnoc (L:=Big riF rs::X) (k:=0) h3 rfl
 exact h4.perm (List.perm_append_singleton _ _).symm
theorem nilSh (h:Hp I0 w0 X w): ∀n,Hp I0 w0 (X++[Big shF (List.replicate n sh0)]) w
 |0=>Hp.nilBig (F:=shF) h
 |n+1=>by
  have h1:Hp I0 w0 ((X++[Big shF (List.replicate n sh0)])++[shF sh0]) w:=(nilSh h n).nilOS (e:=9) (K:=strK)
  have h2:Hp I0 w0 ((Big shF (List.replicate n sh0)::X)++[shF sh0]) w:=h1.perm ((List.perm_append_singleton _ _).append_right _)
  have h3:=Hp.bigSnoc (L:=Big shF (List.replicate n sh0)::X) (k:=0) h2 rfl
  have h4:Hp I0 w0 (Big shF (List.replicate n sh0++[sh0])::X) w:=h3
  rw[List.replicate_succ'];exact h4.perm (List.perm_append_singleton _ _).symm
theorem rpOpen {Y T M:List Assn} (n:Nat) (h:Hp I0 w0 (Y++[Bun T]++([Bun M]++X)) w):Hp I0 w0 (Y++([Big shF (List.replicate n sh0)]++(T++M))++X) w:=by
 have h1:Hp I0 w0 (Y++T++([Bun M]++X)) w:=bunOff h
 have h2:Hp I0 w0 ((Y++T)++[Bun M]++X) w:=by rw[List.append_assoc];exact h1
 have h3:Hp I0 w0 ((Y++T)++M++X) w:=bunOff h2
 have h4:=nilSh h3 n
 refine h4.perm ((List.perm_append_singleton _ _).trans ?_)
 have:(Y++([Big shF (List.replicate n sh0)]++(T++M))++X)=Y++(Big shF (List.replicate n sh0)::(T++M++X)):=by simp
 rw[this,show Y++T++M++X=Y++(T++M++X) by simp]
 exact List.perm_middle.symm
end
structure RP where
 b:Nat
 A:Option Addr
 c:Nat
 n:Nat
 bA:Option Addr
 bc:Nat
 bs:List Int
 bb:Nat
 t:TR27
 m:RM28
 qA:Option Addr
 qc:Nat
 ds:List RI
 sA:Option Addr
 sc:Nat
 stp:List Bool
 uA:Option Addr
 uc:Nat
 que:List SH
 wA:Option Addr
 wc:Nat
 wk:List Bool
 xA:Option Addr
 xc:Nat
 was:List Int
 lA:Option Addr
 lc:Nat
 lk:List Link
 pc:Nat
 pw:List PDv
 ic:Nat
 il:List IDv
def rpB (p:RP):Assn:=Blk p.b (.cells #[.slice p.A p.n p.c,.slice p.bA p.bs.length p.bc,.pointer (some ⟨p.bb,0,none⟩),.pointer (some ⟨p.t.b,0,none⟩),.pointer (some ⟨p.m.b,0,none⟩),.slice p.qA p.ds.length p.qc,.slice p.sA p.n p.sc,.slice p.uA p.n p.uc,.slice p.wA p.n p.wc,.slice p.xA p.n p.xc,.slice p.lA p.lk.length p.lc] 130 (0,0))
def rpR (p:RP):List Assn:=[OS 37 (intK .u64) p.bA p.bc p.bs,OS 4 bolK p.sA p.sc p.stp,OS 63 shK p.uA p.uc p.que,OS 4 bolK p.wA p.wc p.wk,OS 3 (intK .i64) p.xA p.xc p.was,OS 134 riK p.qA p.qc p.ds,Big riF p.ds,OS 36 pdK p.t.A p.pc p.pw,OS 39 idK p.m.A p.ic p.il,Big shF p.que]++(trL p.t++rmL p.m)
def rpL (p:RP):List Assn:=rpB p::OS 138 linkK p.lA p.lc p.lk::rpR p
theorem rpClose {I0:Ids} {w0 w:World} {X0:Assn} (p:RP) (n:Nat) (hq:p.que=List.replicate n sh0) (h:Hp I0 w0 [rpB p,OS 138 linkK p.lA p.lc p.lk,OS 37 (intK .u64) p.bA p.bc p.bs,OS 4 bolK p.sA p.sc p.stp,OS 63 shK p.uA p.uc p.que,OS 4 bolK p.wA p.wc p.wk,OS 3 (intK .i64) p.xA p.xc p.was,OS 134 riK p.qA p.qc p.ds,Big riF p.ds,OS 36 pdK p.t.A p.pc p.pw,OS 39 idK p.m.A p.ic p.il,Bun (trL p.t),Bun (rmL p.m),X0] w):Hp I0 w0 (rpL p++[X0]) w:=by
 have h2:=rpOpen (Y:=[rpB p,OS 138 linkK p.lA p.lc p.lk,OS 37 (intK .u64) p.bA p.bc p.bs,OS 4 bolK p.sA p.sc p.stp,OS 63 shK p.uA p.uc p.que,OS 4 bolK p.wA p.wc p.wk,OS 3 (intK .i64) p.xA p.xc p.was,OS 134 riK p.qA p.qc p.ds,Big riF p.ds,OS 36 pdK p.t.A p.pc p.pw,OS 39 idK p.m.A p.ic p.il]) (T:=trL p.t) (M:=rmL p.m) (X:=[X0]) n h
 rw[←hq] at h2
 exact h2
structure RP.fresh (p:RP) (ds:List BDv) (rs:List Rail) (bs:List Int) (A:Option Addr) (c bb:Nat):Prop where
 A:p.A=A
 n:p.n=ds.length
 c:p.c=c
 bs:p.bs=bs
 bb:p.bb=bb
 tn:p.t.n=ds.length
 trs:p.t.rs=new0 rs
 tst:p.t.st=List.replicate ds.length 4
 tck:p.t.clk=0
 mn:p.m.n=ds.length
 mlk:p.m.lk=lkI (ilL ds) ds.length
 mon:p.m.on=List.replicate ds.length false
 mus:p.m.us=List.replicate ds.length 0
 msi:p.m.si=List.replicate ds.length 0
 mck:p.m.clk=0
 dn:p.ds.length=ds.length
 di: ∀i,i<ds.length→(p.ds.getD i ri0).of (ds.getD i bdK.d)
 stp:p.stp=List.replicate ds.length false
 que:p.que=List.replicate ds.length sh0
 wk:p.wk=List.replicate ds.length false
 wn:p.was.length=ds.length
 wa: ∀i,i<ds.length→p.was.getD i 0=4
 lk:p.lk=lkI (ilL ds) ds.length
 pw:p.pw=pwL ds
 il:p.il=ilL ds
structure RG where
 pA:Option Addr
 pc:Nat
 iA:Option Addr
 ic:Nat
 qA:Option Addr
 qc:Nat
 rs:List RI
 lA:Option Addr
 lc:Nat
 ws:List Int
structure P4 where
 pA:Option Addr
 pc:Nat
 iA:Option Addr
 ic:Nat
theorem ws_step {ws:List Int} {n i:Nat} (hl:ws.length=n) (hi:i<n) (h: ∀j,j<i→ws.getD j 0=4):(ws.set i 4).length=n∧ ∀j,j<i+1→(ws.set i 4).getD j 0=4:=by
 refine⟨by rw[List.length_set];exact hl,fun j hj=>?_⟩
 by_cases e:i=j
 ·subst e;exact getD_set_self _ _ _ _ (by omega)
 ·rw[getD_set_other _ _ _ e];exact h j (by omega)
def PDv.setD (d:PDv) (k:Nat) (v:Int):PDv:=match k with
 |0=>{d with d0:=v}
 |1=>{d with d1:=v}
 |2=>{d with d2:=v}
 |3=>{d with d3:=v}
 |4=>{d with d4:=v}
 |_=>{d with d5:=v}
theorem pd_storeD (d:PDv): ∀ {k:Nat} (v:Int),k<6→((pdC d).toArray.toList.take (0+5+k* 1)++[Value.int .i64 v]++(pdC d).toArray.toList.drop (0+5+k* 1+[Value.int .i64 v].length)).toArray=(pdC (d.setD k v)).toArray
 |0,_,_=>rfl
 |1,_,_=>rfl
 |2,_,_=>rfl
 |3,_,_=>rfl
 |4,_,_=>rfl
 |5,_,_=>rfl
 |k+6,_,h=>by omega
theorem dp_setD (d:PDv) (v:Int) {k j:Nat} (hk:k<6) (hj:j<6):(d.setD k v).dp j=if j=k then v else d.dp j:=by
 obtain rfl|rfl|rfl|rfl|rfl|rfl:k=0∨k=1∨k=2∨k=3∨k=4∨k=5:=by omega
 all_goals (obtain rfl|rfl|rfl|rfl|rfl|rfl:j=0∨j=1∨j=2∨j=3∨j=4∨j=5:=by omega)<;>rfl
theorem rl_setD (d:PDv) (v:Int) (k j:Nat):(d.setD k v).rl j=d.rl j:=by
 unfold PDv.setD;split<;>(unfold PDv.rl;rfl)
theorem rls_setD (d:PDv) (v:Int) (k:Nat):pdF (d.setD k v)=pdF d:=by
 unfold PDv.setD;split<;>rfl
theorem rl_setR (d:PDv) (h:Hd) {k j:Nat} (hk:k<4) (hj:j<4):(d.setR k h).rl j=if j=k then h else d.rl j:=by
 obtain rfl|rfl|rfl|rfl:k=0∨k=1∨k=2∨k=3:=by omega
 all_goals (obtain rfl|rfl|rfl|rfl:j=0∨j=1∨j=2∨j=3:=by omega)<;>rfl
theorem rls_setR (d:PDv) (h:Hd) {k:Nat} (hk:k<4):(d.setR k h).rls=d.rls.set k h:=by
 obtain rfl|rfl|rfl|rfl:k=0∨k=1∨k=2∨k=3:=by omega
 all_goals rfl
structure SmA (e:PDv) (i:Nat) (m:Int):Prop where
 par: -1≤e.par∧e.par<i
 rl: ∀j,j<4→ascP (e.rl j).ys∧rngP m (e.rl j).ys∧(e.rl j).ys.length≤3
 ws:0≤e.ws∧e.ws≤4
 wd:0≤e.wd∧e.wd≤3
 d0:e.d0=0
def DpA (e:PDv) (k:Nat):Prop:= ∀j,j<k→(0≤e.dp j∧e.dp j≤4)∧(0<j→e.dp (j-1)≤e.dp j)
theorem SmA.setR {e:PDv} {i:Nat} {m:Int} (h:SmA e i m) {k:Nat} (hk:k<4) (A:Option Addr) (c:Nat) {ys:List Int} (h1:ys.length≤3) (h2:ascP ys) (h3:rngP m ys):SmA (e.setR k ⟨A,c,ys⟩) i m:=by
 obtain rfl|rfl|rfl|rfl:k=0∨k=1∨k=2∨k=3:=by omega
 all_goals
  refine⟨h.par,fun j hj=>?_,h.ws,h.wd,h.d0⟩
  rw[rl_setR e _ (by decide) hj];split
  ·exact⟨h2,h3,h1⟩
  ·exact h.rl j hj
theorem SmA.setD {e:PDv} {i:Nat} {m:Int} (h:SmA e i m) {k:Nat} (h0:0<k) (hk:k<6) (v:Int):SmA (e.setD k v) i m:=by
 obtain rfl|rfl|rfl|rfl|rfl:k=1∨k=2∨k=3∨k=4∨k=5:=by omega
 all_goals exact⟨h.par,fun j hj=>by rw[rl_setD];exact h.rl j hj,h.ws,h.wd,h.d0⟩
theorem DpA.step {e:PDv} {k:Nat} (h:DpA e k) (h0:0<k) (hk:k<6) {v:Int} (h1:0≤v) (h2:v≤4):DpA (e.setD k (max (e.dp (k-1)) v)) (k+1):=by
 intro j hj
 have hb:=h (k-1) (by omega)
 by_cases e1:j=k
 ·subst e1
  rw[dp_setD e _ hk hk,if_pos rfl,dp_setD e _ hk (by omega),if_neg (by omega)]
  refine⟨by omega,fun _=>by omega⟩
 ·have hh:=h j (by omega)
  rw[dp_setD e _ hk (by omega),if_neg e1]
  refine⟨hh.1,fun hj0=>?_⟩
  rw[dp_setD e _ hk (by omega),if_neg (by omega)]
  exact hh.2 hj0
theorem DpA.setR {e:PDv} {n:Nat} (h:DpA e n) {k:Nat} (hk:k<4) (x:Hd):DpA (e.setR k x) n:=by
 obtain rfl|rfl|rfl|rfl:k=0∨k=1∨k=2∨k=3:=by omega
 all_goals exact h
theorem SmA.base {i:Nat} {m p s d:Int} (h1:0≤p∧p<(i:Int)+1) (h2:0≤s∧s<5) (h3:0≤d∧d<4):SmA ⟨p-1,hd0,hd0,hd0,hd0,0,0,0,0,0,0,d,s⟩ i m:=by
 refine⟨⟨by show -1≤p-1;omega,by show p-1<i;omega⟩,fun j hj=>?_,⟨h2.1,by show s≤4;omega⟩,⟨h3.1,by show d≤3;omega⟩,rfl⟩
 obtain rfl|rfl|rfl|rfl:j=0∨j=1∨j=2∨j=3:=by omega
 all_goals exact⟨fun i hi=>absurd hi (Nat.not_lt_zero _),fun i hi=>absurd hi (Nat.not_lt_zero _),Nat.zero_le _⟩
theorem DpA.base {p s d:Int}:DpA ⟨p,hd0,hd0,hd0,hd0,0,0,0,0,0,0,d,s⟩ 1:=fun j hj=>by
 obtain rfl:j=0:=by omega
 exact⟨⟨show(0:Int)≤0 from by decide,show(0:Int)≤4 from by decide⟩,fun h=>by omega⟩
section
variable {I0:Ids} {w0 w:World} {X Y:List Assn}
theorem dropHd {A:Assn} (h:Hp I0 w0 (A::Y) w):Hp I0 w0 Y w:=by
 have h1:Hp I0 w0 (Bun Y::[A]) w:=Hp.bun (M:=Y) (h.perm (List.perm_append_singleton _ _).symm)
 have h2:=Hp.unbun (M:=Y) (R:=[]) (h1.sel [0] rfl)
 rwa [List.append_nil] at h2
theorem pdSwap {e:PDv} {k:Nat} (hk:k<4) {h':Hd} (h:Hp I0 w0 (X++[pdF e,hdF h']) w):Hp I0 w0 (X++[pdF (e.setR k h')]) w:=by
 have hl:k<e.rls.length:=hk
 have h1:Hp I0 w0 (Big hdF e.rls::(hdF h'::X)) w:=h.perm (List.perm_append_comm (l₁:=X) (l₂:=[pdF e,hdF h']))
 have h2:=h1.focus (k:=0) (m:=k) hd0 rfl hl
 have h3:Hp I0 w0 ((hdF h'::X)++[Big hdF (e.rls.eraseIdx k)]) w:=dropHd h2
 have h4:=Hp.unfocus (k:=0) h3 rfl hl
 have h5:Hp I0 w0 (pdF (e.setR k h')::X) w:=by unfold pdF;rw[rls_setR e h' hk];exact h4
 exact h5.perm (List.perm_append_singleton _ _).symm
theorem nilPd (h:Hp I0 w0 X w) (p d s:Int):Hp I0 w0 (X++[pdF ⟨p,hd0,hd0,hd0,hd0,0,0,0,0,0,0,d,s⟩]) w:=by
 have h1:Hp I0 w0 (X++[OS 3 (intK .i64) none 0 []]) w:=h.nilOS
 have h2:Hp I0 w0 (X++[OS 3 (intK .i64) none 0 []]++[OS 3 (intK .i64) none 0 []]) w:=h1.nilOS
 have h3:Hp I0 w0 (X++[OS 3 (intK .i64) none 0 []]++[OS 3 (intK .i64) none 0 []]++[OS 3 (intK .i64) none 0 []]) w:=h2.nilOS
 have h4:Hp I0 w0 (X++[OS 3 (intK .i64) none 0 []]++[OS 3 (intK .i64) none 0 []]++[OS 3 (intK .i64) none 0 []]++[OS 3 (intK .i64) none 0 []]) w:=h3.nilOS
 have h5:Hp I0 w0 (X++[hdF hd0,hdF hd0,hdF hd0,hdF hd0]) w:=by simpa[hdF,hd0] using h4
 obtain⟨I,hs,he,hi⟩:=h5
 refine⟨I,?_,he,hi⟩
 obtain⟨i,j,a,b,c,d'⟩:=Sep.append.1 hs
 exact Sep.append.2 ⟨i,j,a,b,c,⟨j,fun _=>False,fun x=>by simp,fun _ _ h=>h,d',fun _ h=>h⟩⟩
end
structure SG where
 A:Option Addr
 c:Nat
 es:List PDv
end Go.Pw
namespace Go.Pw
open Go.Sv Go.Drv
def evL:List Bs:=[[115,116,97,114,116],[115,116,111,112],[115,117,115,112,101,110,100],[114,101,115,117,109,101],[105,114,113],[112,111,108,108]]
def reO (o:Ro):Ro:=⟨o.wr,o.reg%64* 4,o.val⟩
def reT (i:Nat) (t:Tr):Tr:=⟨t.frm,evL.getD ((((t.ev.length:Int)+i+t.to)%6).toNat) [],⟨t.gd.used,t.gd.reg%64* 4,t.gd.mask,t.gd.val⟩,t.ops.map reO,t.to⟩
def reM (d:Dv):Dv:=⟨d.name,d.ss,d.ts.mapIdx reT⟩
theorem evAt: ∀ {k:Nat},k<6→(#[Value.string (bs [115,116,97,114,116]),.string (bs [115,116,111,112]),.string (bs [115,117,115,112,101,110,100]),.string (bs [114,101,115,117,109,101]),.string (bs [105,114,113]),.string (bs [112,111,108,108])]).toList[0+k* 1]?=some (.string (bs (evL.getD k [])))
 |0,_=>rfl
 |1,_=>rfl
 |2,_=>rfl
 |3,_=>rfl
 |4,_=>rfl
 |5,_=>rfl
 |k+6,h=>by omega
def reH (i:Nat) (h:TH) (ys:List Ro):TH:=⟨⟨h.t.frm,evL.getD ((((h.t.ev.length:Int)+i+h.t.to)%6).toNat) [],⟨h.t.gd.used,h.t.gd.reg%64* 4,h.t.gd.mask,h.t.gd.val⟩,ys,h.t.to⟩,h.A,h.c⟩
theorem reH_t {i:Nat} {h:TH} {ys:List Ro} (e:ys=h.t.ops.map reO):(reH i h ys).t=reT i h.t:=by subst e;rfl
def ReI (hs gs:List TH) (i:Nat):Prop:=gs.length=hs.length∧ ∀j,j<hs.length→(j<i→(gs.getD j thD).t=reT j (hs.getD j thD).t)∧(¬j<i→gs.getD j thD=hs.getD j thD)
theorem ReI.base (hs:List TH):ReI hs hs 0:=⟨rfl,fun j hj=>⟨fun h=>by omega,fun _=>rfl⟩⟩
theorem ReI.step {hs gs:List TH} {i:Nat} (h:ReI hs gs i) (hi:i<hs.length) {ys:List Ro} (e:ys=(gs.getD i thD).t.ops.map reO):ReI hs (gs.set i (reH i (gs.getD i thD) ys)) (i+1):=by
 have hg:gs.getD i thD=hs.getD i thD:=(h.2 i hi).2 (by omega)
 refine⟨by rw[List.length_set];exact h.1,fun j hj=>?_⟩
 by_cases e1:i=j
 ·subst e1
  rw[getD_set_self _ _ _ _ (by rw[h.1];exact hi)]
  exact⟨fun _=>by rw[reH_t e,hg],fun k=>by omega⟩
 ·rw[getD_set_other _ _ _ e1]
  exact⟨fun k=>(h.2 j hj).1 (by omega),fun k=>(h.2 j hj).2 (by omega)⟩
theorem ReI.done {hs gs:List TH} (h:ReI hs gs hs.length):gs.map (·.t)=(hs.map (·.t)).mapIdx reT:=by
 apply List.ext_getElem (by simp[h.1])
 intro j h1 h2
 have hj:j<hs.length:=by rw[←h.1];simpa using h1
 have hj2:j<gs.length:=by rw[h.1];exact hj
 have:=(h.2 j hj).1 hj
 simp only[List.getElem_map,List.getElem_mapIdx]
 simpa[List.getD,hj,hj2] using this
def RoI (os ys:List Ro) (k:Nat):Prop:=ys.length=os.length∧ ∀j,j<os.length→(j<k→ys.getD j ro0=reO (os.getD j ro0))∧(¬j<k→ys.getD j ro0=os.getD j ro0)
theorem RoI.base (os:List Ro):RoI os os 0:=⟨rfl,fun j hj=>⟨fun h=>by omega,fun _=>rfl⟩⟩
theorem RoI.step {os ys:List Ro} {k:Nat} (h:RoI os ys k) (hk:k<os.length):RoI os (ys.set k (reO (ys.getD k roK.d))) (k+1):=by
 have hg:ys.getD k roK.d=os.getD k ro0:=(h.2 k hk).2 (by omega)
 refine⟨by rw[List.length_set];exact h.1,fun j hj=>?_⟩
 by_cases e1:k=j
 ·subst e1
  rw[getD_set_self _ _ _ _ (by rw[h.1];exact hk)]
  exact⟨fun _=>by rw[hg],fun x=>by omega⟩
 ·rw[getD_set_other _ _ _ e1]
  exact⟨fun x=>(h.2 j hj).1 (by omega),fun x=>(h.2 j hj).2 (by omega)⟩
theorem RoI.done {os ys:List Ro} (h:RoI os ys os.length):ys=os.map reO:=by
 apply List.ext_getElem (by simp[h.1])
 intro j h1 h2
 have hj:j<os.length:=by rw[←h.1];exact h1
 have:=(h.2 j hj).1 hj
 simp only[List.getElem_map]
 simpa[List.getD,hj,h1] using this
theorem re_rg {d:Dv} (h:rgD d):rgD (reM d):=by
 intro t ht
 obtain⟨i,hi,rfl⟩:=List.getElem_of_mem ht
 simp only[reM,List.length_mapIdx] at hi
 have hr:=h (d.ts[i]) (List.getElem_mem _)
 simp only[reM,List.getElem_mapIdx]
 refine⟨⟨?_,hr.1.2⟩,fun o ho=>?_⟩
 ·have:=hr.1.1;unfold u64 at this;exact⟨by show 0≤_%64* 4;omega,by show _%64* 4<_;omega⟩
 ·obtain⟨p,hp,rfl⟩:=List.mem_map.1 ho
  have:=hr.2 p hp
  refine⟨?_,this.2⟩
  have h1:=this.1;unfold u64 at h1;exact⟨by show 0≤_%64* 4;omega,by show _%64* 4<_;omega⟩
theorem mem_t {d:DH} {i:Nat} (hi:i<d.hs.length):(d.hs.getD i thD).t∈d.d.ts:=by
 have:(d.hs.getD i thD)=d.hs[i]:=by simp[List.getD,hi]
 rw[this];exact List.mem_map.2 ⟨_,List.getElem_mem _,rfl⟩
theorem ro_u64 {t:Tr} {ys:List Ro} {k:Nat} (h:rgT t) (hr:RoI t.ops ys k) (hk:k<t.ops.length):u64 (ys.getD k roK.d).reg:=by
 have hg:ys.getD k roK.d=t.ops.getD k ro0:=(hr.2 k hk).2 (by omega)
 rw[hg]
 have:t.ops.getD k ro0=t.ops[k]:=by simp[List.getD,hk]
 rw[this];exact(h.2 _ (List.getElem_mem _)).1
def txtM (d:Dv):Bs:=fmtR (reM (someM d))
theorem txt_len {d:Dv} (h:rgD d):(txtM d).length≤130000:=by
 unfold txtM fmtR
 split
 ·rename_i hc
  rw[fmt_eq]
  exact oT_max (ok_of hc) (re_rg (some_rg h)) (Nat.le_refl _)
 ·exact Nat.zero_le _
section
variable {I0:Ids} {w0 w:World} {X:List Assn} {gs:List TH} {i:Nat}
theorem opOpen (h:Hp I0 w0 (X++[Big opA gs]) w) (hi:i<gs.length):Hp I0 w0 (X++[opA (gs.getD i thD),Big opA (gs.eraseIdx i)]) w:=by
 have h1:Hp I0 w0 (Big opA gs::X) w:=h.perm (List.perm_append_singleton _ _)
 have h2:Hp I0 w0 ((opA (gs.getD i thD)::X)++[Big opA (gs.eraseIdx i)]) w:=h1.focus (k:=0) (m:=i) thD rfl hi
 have h3:=h2.perm ((List.perm_append_singleton (opA (gs.getD i thD)) X).symm.append_right [Big opA (gs.eraseIdx i)])
 rwa [List.append_assoc] at h3
theorem opClose (h':TH) (h:Hp I0 w0 (X++[opA h',Big opA (gs.eraseIdx i)]) w) (hi:i<gs.length):Hp I0 w0 (X++[Big opA (gs.set i h')]) w:=by
 have h1:Hp I0 w0 ((X++[opA h'])++[Big opA (gs.eraseIdx i)]) w:=by rw[List.append_assoc];exact h
 have h2:Hp I0 w0 ((opA h'::X)++[Big opA (gs.eraseIdx i)]) w:=h1.perm ((List.perm_append_singleton (opA h') X).append_right _)
 have h3:=Hp.unfocus (k:=0) h2 rfl hi
 exact h3.perm (List.perm_append_singleton _ _).symm
end
end Go.Pw
namespace Go.Pw
open Go.Sv Go.Rails
def hwF (d:BDv):Assn:=Bun [pdF d.pw,hdF d.il.sup]
def clrP (e:PDv):PDv:=⟨e.par,e.r0,hd0,hd0,hd0,e.d0,e.d1,e.d2,e.d3,e.d4,e.d5,e.wd,e.ws⟩
structure SupO (ys:List Int) (i:Nat) (p:Int):Prop where
 r: ∀s∈ys,(0≤s∧s<i)∧s≠p
 n:ys.Nodup
theorem SupO.nil (i:Nat) (p:Int):SupO [] i p:=⟨fun s h=>(List.not_mem_nil h).elim,List.nodup_nil⟩
theorem SupO.snoc {ys:List Int} {i:Nat} {p s d:Int} (h:SupO ys i p) (h1:0≤s∧s<i) (h2:s≠p) (h3: ∀j,j<ys.length→ys.getD j d≠s):SupO (ys++[s]) i p:=by
 refine⟨fun x hx=>?_,?_⟩
 ·rcases List.mem_append.1 hx with hx|hx
  ·exact h.r x hx
  ·rw[List.mem_singleton] at hx;subst hx;exact⟨h1,h2⟩
 ·rw[List.nodup_append]
  refine⟨h.n,by simp,fun a ha b hb e=>?_⟩
  rw[List.mem_singleton] at hb
  obtain⟨j,hj,rfl⟩:=List.getElem_of_mem ha
  exact h3 j hj (by simp[List.getD,hj];rw[e,hb])
def drvM (drs:List Go.Drv.DH) (i:Nat):Bs:=if i<drs.length then txtM (drs.getD i dhK.d).d else txtM ⟨[],[],[]⟩
structure GenD (d:BDv) (i:Nat) (m arr:Int) (drs:List Go.Drv.DH):Prop where
 fn:d.fn=((i:Int)* 7+modM arr 9)%200
 sm:SmA d.pw i m
 dp:DpA d.pw 6
 r1:d.pw.r1.ys=[]
 r2:d.pw.r2.ys=[]
 r3:d.pw.r3.ys=[]
 par:d.il.par=d.pw.par
 dly:0≤d.il.dly∧d.il.dly<12
 sl:d.il.sup.ys.length≤6
 su:SupO d.il.sup.ys i d.pw.par
 drv:d.drv=drvM drs i
theorem drv_len {drs:List Go.Drv.DH} (h: ∀i,i<drs.length→Go.Drv.rgD (drs.getD i dhK.d).d) (i:Nat):(drvM drs i).length≤130000:=by
 unfold drvM;split
 ·exact txt_len (h i (by assumption))
 ·exact txt_len fun t ht=>(List.not_mem_nil ht).elim
theorem pk_at (ds:List BDv) (k:Nat) {i:Nat} (hi:i<((ds.take k).map (·.pw)).length):i<ds.length∧((ds.take k).map (·.pw)).getD i pdK.d=(ds.getD i bdK.d).pw:=by
 rw[List.length_map,List.length_take] at hi
 have h1:i<ds.length:=by omega
 have h2:i<k:=by omega
 refine⟨h1,?_⟩
 simp[List.getD,List.getElem?_take,h1,h2]
theorem bd_pw (d:BDv): ∀(j:Nat) (v:Value),(pdK.f d.pw)[j]?=some v→(bdC d)[1+j]?=some v
 |0,_,h=>h
 |1,_,h=>h
 |2,_,h=>h
 |3,_,h=>h
 |4,_,h=>h
 |5,_,h=>h
 |6,_,h=>h
 |7,_,h=>h
 |8,_,h=>h
 |9,_,h=>h
 |10,_,h=>h
 |11,_,h=>h
 |12,_,h=>h
 |j+13,v,h=>by simp[pdK,pdC] at h
theorem SmA.clr {e:PDv} {i:Nat} {m:Int} (h:SmA e i m):SmA (clrP e) i m:=by
 refine⟨h.par,fun j hj=>?_,h.ws,h.wd,h.d0⟩
 obtain rfl|rfl|rfl|rfl:j=0∨j=1∨j=2∨j=3:=by omega
 ·exact h.rl 0 hj
 all_goals exact⟨fun i hi=>absurd hi (Nat.not_lt_zero _),fun i hi=>absurd hi (Nat.not_lt_zero _),Nat.zero_le _⟩
theorem DpA.clr {e:PDv} {n:Nat} (h:DpA e n):DpA (clrP e) n:=h
section
variable {I0:Ids} {w0 w:World} {X:List Assn}
theorem pdClr {e:PDv} (h:Hp I0 w0 (X++[pdF e]) w):Hp I0 w0 (X++[pdF (clrP e)]) w:=by
 have nl: ∀ {Y:List Assn},Hp I0 w0 Y w→Hp I0 w0 (Y++[hdF hd0]) w:=fun h=>h.nilOS
 have h1:=nl h
 rw[List.append_assoc] at h1
 have h2:=nl (pdSwap (k:=1) (by decide) h1)
 rw[List.append_assoc] at h2
 have h3:=nl (pdSwap (k:=2) (by decide) h2)
 rw[List.append_assoc] at h3
 exact pdSwap (k:=3) (by decide) h3
theorem bigHd {β:Type} {F:β→Assn} {hs:List β} {i:Nat} (d:β) (hi:i<hs.length) (h:Hp I0 w0 (X++[Big F (hs.drop i)]) w):Hp I0 w0 (X++[Big F (hs.drop (i+1)),F (hs.getD i d)]) w:=by
 have e:hs.drop i=hs.getD i d::hs.drop (i+1):=by rw[List.drop_eq_getElem_cons hi];simp[List.getD,hi]
 rw[e] at h
 have h1:Hp I0 w0 (Big F (hs.getD i d::hs.drop (i+1))::X) w:=h.perm (List.perm_append_singleton _ _)
 have h2:=h1.splice (k:=0) (M:=[F (hs.getD i d),Big F (hs.drop (i+1))]) rfl fun q hq=>by
  obtain⟨a,b,h1,h2,h3,h4⟩:=hq
  exact⟨a,b,h1,h2,h3,⟨b,fun _=>False,fun x=>by simp,fun _ _ h=>h,h4,fun _ h=>h⟩⟩
 refine h2.perm ?_
 have:([F (hs.getD i d),Big F (hs.drop (i+1))]++X).Perm (X++[F (hs.getD i d),Big F (hs.drop (i+1))]):=List.perm_append_comm
 exact this.trans (List.Perm.append_left X (List.Perm.swap _ _ _))
theorem hwSnoc {ds:List BDv} (d:BDv) (h:Hp I0 w0 (X++[Big hwF ds,pdF d.pw,hdF d.il.sup]) w):Hp I0 w0 (X++[Big hwF (ds++[d])]) w:=by
 have h1:Hp I0 w0 ((X++[Big hwF ds])++[pdF d.pw,hdF d.il.sup]) w:=by rw[List.append_assoc];exact h
 have h2:Hp I0 w0 ((X++[Big hwF ds])++[hwF d]) w:=bunEnd h1
 have h3:Hp I0 w0 ((Big hwF ds::X)++[hwF d]) w:=h2.perm ((List.perm_append_singleton _ _).append_right _)
 have h4:=Hp.bigSnoc (L:=Big hwF ds::X) (k:=0) h3 rfl
 exact h4.perm (List.perm_append_singleton _ _).symm
end
structure HG where
 dA:Option Addr
 dc:Nat
 ds:List BDv
 bA:Option Addr
 bc:Nat
 bs:List Int
theorem gen_step {ds:List BDv} {bs:List Int} {i n:Nat} {m arr:Int} {drs:List Go.Drv.DH} {d:BDv} {b:Int} (h:(i≤n∧ds.length=i∧bs.length=i)∧ ∀j,j<i→GenD (ds.getD j bdK.d) j m arr drs∧bs.getD j (intK .u64).d=plcM j arr) (h1:GenD d i m arr drs) (h2:b=plcM i arr): ∀j,j<i+1→GenD ((ds++[d]).getD j bdK.d) j m arr drs∧(bs++[b]).getD j (intK .u64).d=plcM j arr:=fun j hj=>
 ⟨snoc_all (P:=fun j x=>GenD x j m arr drs) h.1.2.1 (fun j hj=>(h.2 j hj).1) h1 j hj,snoc_all (P:=fun j x=>x=plcM j arr) h.1.2.2 (fun j hj=>(h.2 j hj).2) h2 j hj⟩
end Go.Pw
namespace Go.Sv
theorem OS.own {α:Type} {K:Enc α} {e:TypeId} {A:Option Addr} {c:Nat} {ys:List α} {w:World} {I:Ids} (h:(OS e K A c ys).sat w I) (hn:ys≠[]):I (bk A):=by
 rcases h with ⟨_,h,_⟩|⟨g,cur,rfl,hI,_⟩
 ·exact absurd h hn
 ·exact(hI _).2 rfl
theorem Sep.mem {β:Type} {F:β→Assn} {w:World}: ∀ {hs:List β} {I:Ids},Sep (hs.map F) I w→ ∀b∈hs,∃i:Ids,(F b).sat w i∧ ∀x,i x→I x
 |a::hs,I,h,b,hb=>by
  obtain⟨i,j,hI,hd,hA,hS⟩:=h
  rcases List.mem_cons.1 hb with rfl|hb
  ·exact⟨i,hA,fun x hx=>(hI x).2 (.inl hx)⟩
  ·obtain⟨k,h1,h2⟩:=Sep.mem hS b hb
   exact⟨k,h1,fun x hx=>(hI x).2 (.inr (h2 x hx))⟩
theorem dropTl {I0:Ids} {w0 w:World} {X Z:List Assn} (h:Hp I0 w0 (X++Z) w):Hp I0 w0 X w:=by
 have h2:=Hp.unbun (M:=X) (R:=[]) ((Hp.bun (M:=X) (R:=Z) h).sel [0] rfl)
 rwa [List.append_nil] at h2
theorem RS.lt {α:Type} {K:Enc α} {w:World} {A:Option Addr} {ys:List α} (h:RS w K A ys) (hn:ys≠[]):bk A<w.heap.size:=by
 rcases h with h|⟨cs,t,fz,_,h,_⟩
 ·exact absurd h hn
 ·exact lt_of_some h
end Go.Sv
namespace Go.Pw
open Go.Sv Go.Rails
def HwOk (z:HG):Prop:=(z.ds.length≤6∧z.bs.length≤6)∧(∀i,i<z.ds.length→(z.ds.getD i bdK.d).pw.sm 1000000∧(z.ds.getD i bdK.d).drv.length≤900000)∧ ∀i,i<z.bs.length→Ios.isU (z.bs.getD i (intK .u64).d)
theorem rl_mem (e:PDv) {k:Nat} (hk:k<4):e.rl k∈e.rls:=by
 obtain rfl|rfl|rfl|rfl:k=0∨k=1∨k=2∨k=3:=by omega
 all_goals simp[PDv.rl,PDv.rls]
theorem hw_inn {w:World} {i:Ids} {d:BDv} (h:(hwF d).sat w i):d.pw.rs w∧RS w (intK .i64) d.il.sup.A d.il.sup.ys:=by
 obtain⟨a,b,_,_,h1,c,e,_,_,h2,_⟩:=h
 refine⟨fun k hk=>?_,hdRS c d.il.sup h2⟩
 obtain⟨j,h3,_⟩:=Sep.mem (F:=hdF) h1 _ (rl_mem d.pw hk)
 exact hdRS j _ h3
theorem hw_own {w:World} {i:Ids} {d:BDv} (h:(hwF d).sat w i):(∀k,k<4→(d.pw.rl k).ys≠[]→i (bk (d.pw.rl k).A))∧(d.il.sup.ys≠[]→i (bk d.il.sup.A)):=by
 obtain⟨a,b,hI,_,h1,c,e,hJ,_,h2,_⟩:=h
 refine⟨fun k hk hn=>?_,fun hn=>(hI _).2 (.inr ((hJ _).2 (.inl (OS.own h2 hn))))⟩
 obtain⟨j,h3,h4⟩:=Sep.mem (F:=hdF) h1 _ (rl_mem d.pw hk)
 exact(hI _).2 (.inl (h4 _ (OS.own h3 hn)))
section
variable {I0:Ids} {w0 w:World} {X:List Assn} {z:HG} {rA:Option Addr} {rc:Nat} {rs:List Rail}
theorem rdH (h:Hp I0 w0 ([OS 41 bdK z.dA z.dc z.ds,Big hwF z.ds,OS 183 railK rA rc rs,OS 37 (intK .u64) z.bA z.bc z.bs]++X) w) (hk:HwOk z):RS w bdK z.dA z.ds∧RS w railK rA rs∧RS w (intK .u64) z.bA z.bs∧ ∀i,i<z.ds.length→(z.ds.getD i bdK.d).inn w:=by
 refine⟨h.os 0 rfl,h.os 2 rfl,h.os 3 rfl,fun i hi=>?_⟩
 have h1:=h.bigOS (k:=1) (F:=hwF) (G:=fun b w=>b.pw.rs w∧RS w (intK .i64) b.il.sup.A b.il.sup.ys) bdK.d rfl hi fun i b k=>hw_inn k
 exact⟨h1.1,(hk.2.1 i hi).1,h1.2,(hk.2.1 i hi).2⟩
theorem roH {sA:Option Addr} {sbs:List Int} (hs:sbs≠[]→bk sA=bk z.bA∧z.bs≠[]) {b:Nat} (hb:roP z.dA rA sA z.ds rs sbs b):RoOk I0 w0 ([OS 41 bdK z.dA z.dc z.ds,Big hwF z.ds,OS 183 railK rA rc rs,OS 37 (intK .u64) z.bA z.bc z.bs]++X) b:=by
 refine .inr ?_
 rcases hb with ⟨h1,rfl⟩|⟨h1,rfl⟩|⟨h1,rfl⟩|⟨i,hi,h1⟩
 ·exact⟨0,_,rfl,fun w I h=>OS.own h h1⟩
 ·exact⟨2,_,rfl,fun w I h=>OS.own h h1⟩
 ·rw[(hs h1).1];exact⟨3,_,rfl,fun w I h=>OS.own h (hs h1).2⟩
 ·refine⟨1,_,rfl,fun w I h=>?_⟩
  have hm:z.ds.getD i bdK.d∈z.ds:=by simp[List.getD,hi]
  obtain⟨j,h3,h4⟩:=Sep.mem (F:=hwF) h _ hm
  rcases h1 with ⟨k,hk,hn,rfl⟩|⟨hn,rfl⟩
  ·exact h4 _ ((hw_own h3).1 k hk hn)
  ·exact h4 _ ((hw_own h3).2 hn)
end
theorem roR {I0:Ids} {w:World} {F:List Assn} {A B C:Option Addr} {ds:List BDv} {rs:List Rail} {bs:List Int} (hI: ∀x,¬I0 x) (h1:RS w bdK A ds) (h2:RS w railK B rs) (h3:RS w (intK .u64) C bs) (h4: ∀i,i<ds.length→(ds.getD i bdK.d).inn w) {b:Nat} (hb:roP A B C ds rs bs b):RoOk I0 w F b:=by
 refine .inl ⟨hI b,?_⟩
 rcases hb with ⟨h,rfl⟩|⟨h,rfl⟩|⟨h,rfl⟩|⟨i,hi,h⟩
 ·exact h1.lt h
 ·exact h2.lt h
 ·exact h3.lt h
 ·rcases h with ⟨k,hk,hn,rfl⟩|⟨hn,rfl⟩
  ·exact((h4 i hi).1 k hk).lt hn
  ·exact(h4 i hi).2.2.1.lt hn
structure LZ where
 z:HG
 dr:Nat
structure HV where
 A:Option Addr
 n:Nat
 c:Nat
 B:Option Addr
 m:Nat
 d:Nat
 C:Option Addr
 q:Nat
 e:Nat
def sliA (z:HG):Nat→Option Addr
 |0=>z.bA
 |_=>shA z.bA 1 1 z.bc
theorem sli_bk (z:HG): ∀dr,bk (sliA z dr)=bk z.bA
 |0=>rfl
 |dr+1=>by
  show bk (shA z.bA 1 1 z.bc)=_
  unfold shA;split
  ·rfl
  ·cases z.bA<;>rfl
theorem OS.len {α:Type} {K:Enc α} {e:TypeId} {A:Option Addr} {c:Nat} {ys:List α} {w:World} {I:Ids} (h:(OS e K A c ys).sat w I):ys.length≤c:=by
 rcases h with ⟨_,rfl,_⟩|⟨g,cur,_,_,_,h,_⟩
 ·exact Nat.zero_le _
 ·exact h
theorem sli_rs {w:World} {z:HG} (h:RS w (intK .u64) z.bA z.bs) (hc:z.bs.length≤z.bc): ∀ {dr:Nat},dr≤1→RS w (intK .u64) (sliA z dr) (z.bs.drop dr)
 |0,_=>h
 |1,_=>h.drop 1 hc
 |dr+2,h=>by omega
def hvH (z:HG) (rA:Option Addr) (rc m:Nat) (dr:Nat):HV:=⟨z.dA,z.ds.length,z.dc,rA,m,rc,sliA z dr,z.bs.length-dr,z.bc-dr⟩
theorem bd_storeR (d:BDv): ∀ {k:Nat} (h:Hd),k<4→((bdC d).toArray.toList.take (0+1+1+k* 1)++[Value.slice h.A h.ys.length h.c]++(bdC d).toArray.toList.drop (0+1+1+k* 1+[Value.slice h.A h.ys.length h.c].length)).toArray=(bdC {d with pw:=d.pw.setR k h}).toArray
 |0,_,_=>rfl
 |1,_,_=>rfl
 |2,_,_=>rfl
 |3,_,_=>rfl
 |k+4,_,h=>by omega
def regL:List Bs:=[[50,53,50],[50,53,52],[50,53,54],[52]]
structure SpX where
 d:BDv
 bs:List Int
 dr:Nat
def SpX.ok (x:SpX) (n:Nat):Prop:=(x.d.pw.sm 1000000∧x.d.drv.length≤900000)∧x.bs.length=n∧(∀i,i<n→Ios.isU (x.bs.getD i (intK .u64).d))∧x.dr≤1
theorem HwOk.set {z:HG} (h:HwOk z) {x:SpX} (hx:x.ok z.bs.length) {i:Nat}:HwOk ⟨z.dA,z.dc,z.ds.set i x.d,z.bA,z.bc,x.bs⟩:=by
 refine⟨⟨by show(z.ds.set i x.d).length≤6;rw[List.length_set];exact h.1.1,by show x.bs.length≤6;rw[hx.2.1];exact h.1.2⟩,fun j hj=>?_,fun j hj=>hx.2.2.1 j (by rw[←hx.2.1];exact hj)⟩
 have hj:j<z.ds.length:=by simpa using hj
 show((z.ds.set i x.d).getD j bdK.d).pw.sm 1000000∧((z.ds.set i x.d).getD j bdK.d).drv.length≤900000
 by_cases e:i=j
 ·subst e;rw[getD_set_self _ _ _ _ hj];exact hx.1
 ·rw[getD_set_other _ _ _ e];exact h.2.1 j hj
theorem HwOk.gen {z:HG} {m arr:Int} {drs:List Go.Drv.DH} (h1:z.ds.length≤6) (h2:z.bs.length=z.ds.length) (hd: ∀i,i<drs.length→Go.Drv.rgD (drs.getD i dhK.d).d) (h: ∀i,i<z.ds.length→GenD (z.ds.getD i bdK.d) i m arr drs∧z.bs.getD i (intK .u64).d=plcM i arr):HwOk z:=by
 refine⟨⟨h1,by omega⟩,fun i hi=>⟨fun k hk=>Nat.le_trans ((h i hi).1.sm.rl k hk).2.2 (by decide),?_⟩,fun i hi=>?_⟩
 ·rw[(h i hi).1.drv];exact Nat.le_trans (drv_len hd i) (by decide)
 ·rw[(h i (by omega)).2];have:=plc_bd i arr;unfold Ios.isU;omega
theorem sm_setR {d:PDv} {k:Nat} {h:Hd} (hd:d.sm 1000000) (hk:k<4) (hh:h.ys.length≤1000000):(d.setR k h).sm 1000000:=fun j hj=>by
 rw[rl_setR d h hk hj];split
 ·exact hh
 ·exact hd j hj
theorem isU_set {l:List Int} {n i:Nat} {v:Int} (h: ∀j,j<n→Ios.isU (l.getD j (intK .u64).d)) (hl:l.length=n) (hv:Ios.isU v): ∀j,j<n→Ios.isU ((l.set i v).getD j (intK .u64).d):=fun j hj=>by
 by_cases e:i=j
 ·subst e;rw[getD_set_self _ _ _ _ (by omega)];exact hv
 ·rw[getD_set_other _ _ _ e];exact h j hj
theorem SpX.mk0 {z:HG} (h:HwOk z) {i:Nat} (hi:i<z.ds.length) {d:BDv} (h1:d.pw=(z.ds.getD i bdK.d).pw) (h2:d.drv=(z.ds.getD i bdK.d).drv):SpX.ok ⟨d,z.bs,0⟩ z.bs.length:=⟨⟨by show d.pw.sm _;rw[h1];exact(h.2.1 i hi).1,by show d.drv.length≤_;rw[h2];exact(h.2.1 i hi).2⟩,rfl,h.2.2,Nat.zero_le _⟩
theorem SpX.mk1 {z:HG} (h:HwOk z) {i:Nat} (hi:i<z.ds.length) {j:Nat} {v:Int} (hv:Ios.isU v):SpX.ok ⟨z.ds.getD i bdK.d,z.bs.set j v,0⟩ z.bs.length:=⟨h.2.1 i hi,List.length_set ..,isU_set h.2.2 rfl hv,Nat.zero_le _⟩
theorem SpX.mk2 {z:HG} (h:HwOk z) {i:Nat} (hi:i<z.ds.length):SpX.ok ⟨z.ds.getD i bdK.d,z.bs,1⟩ z.bs.length:=⟨h.2.1 i hi,rfl,h.2.2,Nat.le_refl _⟩
theorem SpX.mk3 {z:HG} (h:HwOk z) {i k:Nat} (hi:i<z.ds.length) (hk:k<4) (A:Option Addr):SpX.ok ⟨⟨(z.ds.getD i bdK.d).fn,(z.ds.getD i bdK.d).pw.setR k ⟨A,1,[0]⟩,(z.ds.getD i bdK.d).il,(z.ds.getD i bdK.d).drv⟩,z.bs,0⟩ z.bs.length:=⟨⟨sm_setR (h.2.1 i hi).1 hk (show 1≤1000000 by decide),(h.2.1 i hi).2⟩,rfl,h.2.2,Nat.zero_le _⟩
theorem SpX.mk4 {z:HG} (h:HwOk z) {i:Nat} (hi:i<z.ds.length) {s:Bs} (hs:s.length≤900000):SpX.ok ⟨⟨(z.ds.getD i bdK.d).fn,(z.ds.getD i bdK.d).pw,(z.ds.getD i bdK.d).il,s⟩,z.bs,0⟩ z.bs.length:=⟨⟨(h.2.1 i hi).1,hs⟩,rfl,h.2.2,Nat.zero_le _⟩
theorem reg_len {k:Nat} (hk:k<4):(regL.getD k []).length≤3:=by
 obtain rfl|rfl|rfl|rfl:k=0∨k=1∨k=2∨k=3:=by omega
 all_goals decide
structure KeyH (I:Ids) (w:World) (HH:List Assn) (V:HV) (ds:List BDv) (rs:List Rail) (bs:List Int):Prop where
 n:V.n=ds.length
 m:V.m=rs.length
 q:V.q=bs.length
 l1:ds.length≤1000000
 l2:rs.length≤1000000
 l3:bs.length≤1000000
 u: ∀i,i<bs.length→Ios.isU (bs.getD i (intK .u64).d)
 rd: ∀X w',Hp I w (HH++X) w'→RS w' bdK V.A ds∧RS w' railK V.B rs∧RS w' (intK .u64) V.C bs∧ ∀i,i<ds.length→(ds.getD i bdK.d).inn w'
 ro: ∀X b,roP V.A V.B V.C ds rs bs b→RoOk I w (HH++X) b
def hwHH (z:HG) (rA:Option Addr) (rc:Nat) (rs:List Rail):List Assn:=[OS 41 bdK z.dA z.dc z.ds,Big hwF z.ds,OS 183 railK rA rc rs,OS 37 (intK .u64) z.bA z.bc z.bs]
theorem KeyH.raw {I:Ids} {w:World} {HH:List Assn} (hI: ∀x,¬I x) {A B C:Option Addr} {c d e:Nat} {ds:List BDv} {rs:List Rail} {bs:List Int} (h1:RS w bdK A ds) (h2:RS w railK B rs) (h3:RS w (intK .u64) C bs) (h4: ∀i,i<ds.length→(ds.getD i bdK.d).inn w) (l1:ds.length≤1000000) (l2:rs.length≤1000000) (l3:bs.length≤1000000) (u: ∀i,i<bs.length→Ios.isU (bs.getD i (intK .u64).d)):KeyH I w HH ⟨A,ds.length,c,B,rs.length,d,C,bs.length,e⟩ ds rs bs:=
 ⟨rfl,rfl,rfl,l1,l2,l3,u,fun X w' h=>⟨h.rs h1 fun _=>hI _,h.rs h2 fun _=>hI _,h.rs h3 fun _=>hI _,fun i hi=>⟨fun k hk=>h.rs ((h4 i hi).1 k hk) fun _=>hI _,(h4 i hi).2.1,h.rs (h4 i hi).2.2.1 fun _=>hI _,(h4 i hi).2.2.2⟩⟩,fun X b hb=>roR hI h1 h2 h3 h4 hb⟩
theorem KeyH.made {I:Ids} {w:World} {z:HG} (hz:HwOk z) {dr:Nat} (hdr:dr≤1) {rA:Option Addr} {rc:Nat} {rs:List Rail} (l2:rs.length≤1000000):KeyH I w (hwHH z rA rc rs) (hvH z rA rc rs.length dr) z.ds rs (z.bs.drop dr):=by
 refine⟨rfl,rfl,(List.length_drop ..).symm,by have:=hz.1.1;omega,l2,by rw[List.length_drop];have:=hz.1.2;omega,fun i hi=>?_,fun X w' h=>?_,fun X b hb=>?_⟩
 ·rw[List.length_drop] at hi
  have e:(z.bs.drop dr).getD i (intK .u64).d=z.bs.getD (dr+i) (intK .u64).d:=by simp[List.getD]
  rw[e];exact hz.2.2 _ (by omega)
 ·obtain⟨g1,g2,g3,g4⟩:=rdH h hz
  obtain⟨i,j,hA,_⟩:=h.at (k:=3) rfl
  exact⟨g1,g2,sli_rs g3 (OS.len hA) hdr,g4⟩
 ·refine roH (sA:=sliA z dr) (sbs:=z.bs.drop dr) (fun hs=>⟨sli_bk z dr,fun e=>hs (by rw[e];exact List.drop_nil)⟩) hb
def hvN (v0 v1:HV):Nat→HV
 |0=>v0
 |_=>v1
theorem cpKeep {I0:Ids} {w0 w:World} {X Y:List Assn} {p:CP} (h:Hp I0 w0 (X++[Bun (cpL p++Y)]) w):Hp I0 w0 (X++[cpB p,OS 3 (intK .i64) p.oA p.oc p.od]) w:=by
 have h1:Hp I0 w0 (Bun (cpL p++Y)::X) w:=h.perm (List.perm_append_singleton _ _)
 have h2:Hp I0 w0 (cpB p::cpU p::Big unF p.us::OS 3 (intK .i64) p.oA p.oc p.od::((ttL p.t++mgL p.m)++Y++X)) w:=by
  have:=Hp.unbun h1
  simpa[cpL,cpB,cpU] using this
 have h3:Hp I0 w0 (Big unF p.us::cpB p::OS 3 (intK .i64) p.oA p.oc p.od::((ttL p.t++mgL p.m)++Y++X)) w:=dropHd (h2.perm ((List.Perm.swap _ _ _).trans (List.Perm.cons _ (List.Perm.swap _ _ _))))
 have h4:=dropHd h3
 have h5:Hp I0 w0 ((X++[cpB p,OS 3 (intK .i64) p.oA p.oc p.od])++((ttL p.t++mgL p.m)++Y)) w:=h4.perm (by
  show([cpB p,OS 3 (intK .i64) p.oA p.oc p.od]++((ttL p.t++mgL p.m++Y)++X)).Perm _
  have e1:([cpB p,OS 3 (intK .i64) p.oA p.oc p.od]++((ttL p.t++mgL p.m++Y)++X)).Perm (X++([cpB p,OS 3 (intK .i64) p.oA p.oc p.od]++(ttL p.t++mgL p.m++Y))):=by
   rw[←List.append_assoc];exact List.perm_append_comm
  rw[List.append_assoc X];exact e1)
 exact dropTl h5
theorem pdRs {I0:Ids} {w0 w:World} {X:List Assn} {ds:List BDv} {i k:Nat} {h':Hd} (hi:i<ds.length) (hk:k<4) {a:BDv} (ha:a.pw.rls=(ds.getD i bdK.d).pw.rls.set k h'∧a.il.sup=(ds.getD i bdK.d).il.sup) (h:Hp I0 w0 (X++[Big hwF ds,hdF h']) w):Hp I0 w0 (X++[Big hwF (ds.set i a)]) w:=by
 have h1:Hp I0 w0 (Big hwF ds::(hdF h'::X)) w:=h.perm (List.perm_append_comm (l₁:=X) (l₂:=[Big hwF ds,hdF h']))
 have h2:Hp I0 w0 (hwF (ds.getD i bdK.d)::((hdF h'::X)++[Big hwF (ds.eraseIdx i)])) w:=h1.focus (k:=0) (m:=i) bdK.d rfl hi
 have h3:Hp I0 w0 ([pdF (ds.getD i bdK.d).pw,hdF (ds.getD i bdK.d).il.sup]++((hdF h'::X)++[Big hwF (ds.eraseIdx i)])) w:=Hp.unbun h2
 have h4:Hp I0 w0 ((hdF (ds.getD i bdK.d).il.sup::X++[Big hwF (ds.eraseIdx i)])++[pdF (ds.getD i bdK.d).pw,hdF h']) w:=h3.perm (by
  refine List.Perm.trans ?_ (List.perm_append_comm (l₁:=[pdF (ds.getD i bdK.d).pw,hdF h']))
  exact List.Perm.cons _ (List.Perm.swap _ _ _))
 have h5:=pdSwap hk h4
 have h6:Hp I0 w0 ([pdF ((ds.getD i bdK.d).pw.setR k h'),hdF (ds.getD i bdK.d).il.sup]++(X++[Big hwF (ds.eraseIdx i)])) w:=h5.perm (List.perm_append_singleton _ _)
 have h7:Hp I0 w0 (hwF a::(X++[Big hwF (ds.eraseIdx i)])) w:=by
  have:=Hp.bun h6
  have e:hwF a=Bun [pdF ((ds.getD i bdK.d).pw.setR k h'),hdF (ds.getD i bdK.d).il.sup]:=by
   unfold hwF pdF;rw[ha.1,ha.2,rls_setR _ _ hk]
  rw[e];exact this
 have h8:Hp I0 w0 ((hwF a::X)++[Big hwF (ds.eraseIdx i)]) w:=h7
 have h9:=Hp.unfocus (k:=0) h8 rfl hi
 exact h9.perm (List.perm_append_singleton _ _).symm
end Go.Pw
namespace Go.Pw
open Go.Sv Go.Rails Go.Dg
theorem three {P C:Prop} {α β:Type} {E A B:α→β→Prop} (h:(P→ ∃a b,E a b∧(A a b∨B a b))∧(¬P→C)):(P∧ ∃a b,E a b∧A a b)∨(P∧ ∃a b,E a b∧B a b)∨(¬P∧C):=by
 by_cases hp:P
 ·obtain⟨a,b,h1,h2|h2⟩:=h.1 hp
  ·exact .inl ⟨hp,a,b,h1,h2⟩
  ·exact .inr (.inl ⟨hp,a,b,h1,h2⟩)
 ·exact .inr (.inr ⟨hp,h.2 hp⟩)
theorem rpKeep {I0:Ids} {w0 w:World} {X Y:List Assn} {p:RP} (h:Hp I0 w0 (X++(rpL p++Y)) w):Hp I0 w0 (X++[rpB p,OS 138 linkK p.lA p.lc p.lk]) w:=by
 have e:X++(rpL p++Y)=(X++[rpB p,OS 138 linkK p.lA p.lc p.lk])++(rpR p++Y):=by simp[rpL]
 rw[e] at h
 exact dropTl h
theorem rbNew {I0:Ids} {w0 w:World} {X:List Assn} {c:Nat} (h:Hp I0 w0 (X++[Blk c (.cells (Ios.rbC Ios.rb0).toArray 59 (0,0))]) w):Hp I0 w0 (X++[Bun (Ios.rbL c Ios.rb0)]) w:=by
 refine bunEnd ?_
 have h1:=(((h.nilOS (e:=215) (K:=Ios.rhK)).newBig 0 Ios.rhK.d (F:=Ios.rhA) OS.emp).nilOS (e:=452) (K:=Ios.fltK)).nilOS (e:=456) (K:=Ios.trcK)
 simp only[List.append_assoc] at h1
 exact h1
theorem few_inn {d:BDv} {w:World} (h:d.few) (h1:d.pw.rs w) (h2:RS w (intK .i64) d.il.sup.A d.il.sup.ys):d.inn w:=
 ⟨h1,fun k hk=>Nat.le_trans (h.1 k hk) (by decide),h2,Nat.le_trans h.2.2 (by decide)⟩
theorem isU_wrap (v:Int):Ios.isU (IntKind.u64.wrap v):=by
 rw[IntKind.wrap_u64];unfold Ios.isU;omega
theorem PwOk.seq {ds:List BDv} {rs:List Rail} {bs:List Int} (h:PwOk ds rs bs):(lkI (ilL ds) ds.length).length≤1000000∧chkM ds.length (lkI (ilL ds) ds.length)=0∧(seqM ds.length (lkI (ilL ds) ds.length)).length=ds.length:=by
 obtain⟨h1,h2⟩:=h.lk
 refine⟨?_,h1,chk_len h1⟩
 have h3:=lkI_len (ids:=ilL ds) (m:=ds.length) fun i hi=>by
  have:=h2 i hi
  rw[il_at ds hi];unfold badI at this;omega
 have:=h.n
 omega
theorem keyN {I:Ids} {w:World} {HH:List Assn} {v0 v1:HV} (h0: ∃ds rs bs,KeyH I w HH v0 ds rs bs) (h1: ∃ds rs bs,KeyH I w HH v1 ds rs bs): ∀j,∃ds rs bs,KeyH I w HH (hvN v0 v1 j) ds rs bs
 |0=>h0
 |_+1=>h1
theorem ds_set {z:HG} {i:Nat} {a:BDv} {I:Ids} {w0 w:World} {X:List Assn} (hi:i<z.ds.length) (h1:a.pw=(z.ds.getD i bdK.d).pw) (h2:a.il.sup=(z.ds.getD i bdK.d).il.sup) (h:Hp I w0 (X++[Big hwF z.ds]) w):Hp I w0 (X++[Big hwF (z.ds.set i a)]) w:=by
 rw[bigSet (F:=hwF) bdK.d hi (by unfold hwF;rw[h1,h2])];exact h
end Go.Pw
namespace Go.Proofs.YtkofjhglgoojiaaGreatDoor.Pw
open Go Go.Sv
set_option maxRecDepth 100000
theorem awake_fn {w:World}:Fx Tryz.prog 5 [] w [] no (fun v L=>v= .bool true∧L=[]):=Ex.yes_ok (d:=12) (by kernel_rfl) (by kernel_rfl)
end Go.Proofs.YtkofjhglgoojiaaGreatDoor.Pw
