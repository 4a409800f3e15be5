/-
  Joined.
-/
import Derived.Test.YtdoihieboknmnaaGreatDoorRows
import Derived.JoinedOf
import Derived.ProofKit
import Derived.Test.YtdoihieboknmnaaGreatDoorP02
import Derived.Test.YtdoihieboknmnaaGreatDoorP03
import Derived.Test.YtdoihieboknmnaaGreatDoorP04
import Derived.Test.YtdoihieboknmnaaGreatDoorP05
import Derived.Test.YtdoihieboknmnaaGreatDoorProg
set_option linter.unusedSimpArgs false
set_option linter.unusedVariables false
namespace Go.Proofs.YtdoihieboknmnaaGreatDoor
open Go Go.RowKit
set_option maxRecDepth 100000 in
theorem kHD:laidOutB Tryz.prog=true:=by kernel_rfl
set_option maxRecDepth 100000 in
theorem kIQ:mapsRowed Tryz.prog=true:=by kernel_rfl
set_option maxRecDepth 100000 in
theorem kIv:Tryz.prog.mayEnter=true:=by kernel_rfl
end Go.Proofs.YtdoihieboknmnaaGreatDoor
namespace Go.Dg
open Go.Sv Go.Rails
def opn (g:List Bool) (e:Nat):List Link→Int
 |[]=>0
 |l::r=>opn g e r+if l.con=(e:Int)∧g.getD l.sup.toNat false=false then 1 else 0
def lkc (e i:Nat):List Link→Int
 |[]=>0
 |l::r=>lkc e i r+if l.con=(e:Int)∧l.sup=(i:Int) then 1 else 0
def kCW (links:List Link) (g:List Bool) (i:Nat):Bool:=!g.getD i false&&links.all fun l=>!decide (l.con=(i:Int))||g.getD l.sup.toNat false
def dnM (f:Nat→Bool) (n:Nat):Nat→Int
 |0=> -1
 |c+1=>if f (n-1-c) then ((n-1-c:Nat):Int) else dnM f n c
def kCX (links:List Link) (n:Nat):Nat→List Bool→List Int→List Int×List Bool
 |0,g,o=>(o,g)
 |f+1,g,o=>if dnM (kCW links g) n n<0 then (o,g) else kCX links n f (g.set (dnM (kCW links g) n n).toNat true) (o++[dnM (kCW links g) n n])
def remM (n:Nat) (links:List Link):List Int×List Bool:=kCX links n n (List.replicate n false) []
theorem kEn (f:Nat→Bool) (n:Nat): ∀c,c≤n→(dnM f n c= -1∧(∀i,n-c≤i→i<n→f i=false))∨ ∃i:Nat,dnM f n c=(i:Int)∧n-c≤i∧i<n∧f i=true∧ ∀j,n-c≤j→j<i→f j=false
 |0,_=> .inl ⟨rfl,fun i a b=>by omega⟩
 |c+1,h=>by
  simp only[dnM];by_cases d:f (n-1-c)=true
  ·grind
  ·rw[if_neg d];rcases kEn f n c (by omega) with ⟨a,b⟩|⟨i,a,b,e,g,k⟩
   ·grind
   grind
theorem kER (g:List Bool) (e:Nat): ∀links,0≤opn g e links
 |[]=>by simp[opn]
 |l::r=>by have:=kER g e r;simp only[opn];split<;>omega
theorem kCY (g:List Bool) (e:Nat): ∀links,opn g e links=0↔ ∀l∈links,l.con=(e:Int)→g.getD l.sup.toNat false=true
 |[]=>by simp[opn]
 |l::r=>by
  have h0:=kER g e r;have a:=kCY g e r
  grind [opn]
theorem kBI {links:List Link} {g:List Bool} {i:Nat}:kCW links g i=true↔g.getD i false=false∧opn g i links=0:=by
 grind [kCY,kCW]
theorem kFg (c e:Int) (cs:List Int): ∀k,cntK (c::cs) e (k+1)=cntK cs e k+if c=e then 1 else 0
 |0=>by grind [cntK]
 |k+1=>by
  have a:=kFg c e cs k
  grind [cntK]
theorem kJ2 (e i:Nat): ∀links:List Link,cntK (nbM links true i) e (nbM links true i).length=lkc e i links
 |[]=>rfl
 |l::r=>by
  have a:=kJ2 e i r
  grind [nbM,lkc,kFg]
theorem kJ3 (g:List Bool) (e i:Nat) (a:i<g.length) (b:g.getD i false=false): ∀links:List Link,(∀l∈links,0≤l.sup)→opn (g.set i true) e links=opn g e links-lkc e i links
 |[],_=>by simp[opn,lkc]
 |l::r,h=>by
  have d:=kJ3 g e i a b r fun x c=>h x (List.mem_cons_of_mem _ c)
  grind [opn,lkc]
theorem kDh: ∀(g:List Bool) (i:Nat),i<g.length→g.getD i false=false→(g.set i true).count false+1=g.count false
 |[],i,h,_=>by grind
 |b::r,0,_,h=>by grind
 |b::r,i+1,h,hg=>by
  grind
theorem kD1: ∀(g:List Bool),g.count false=0↔ ∀i,i<g.length→g.getD i false=true
 |g=>by
  grind [List.count_eq_zero,List.getElem_of_mem]
structure SI (links:List Link) (n:Nat) (ms:List Int) (g:List Bool):Prop where
 lm:ms.length=n
 lg:g.length=n
 gone: ∀i,i<n→g.getD i false=true→ms.getD i 0<0
 open_: ∀i,i<n→g.getD i false=false→ms.getD i 0=opn g i links
theorem SI.zero {links:List Link} {n:Nat} {ms:List Int} {g:List Bool} (h:SI links n ms g) {i:Nat} (a:i<n):ms.getD i 0=0↔kCW links g i=true:=by
 rw[kBI];constructor
 ·intro c;cases b:g.getD i false with
  |true=>have:=h.gone i a b;omega
  |false=>exact⟨rfl,by rw[←h.open_ i a b];exact c⟩
 ·rintro⟨h1,h2⟩;rw[h.open_ i a h1];exact h2
theorem SI.idx {links:List Link} {n:Nat} {ms:List Int} {g:List Bool} (h:SI links n ms g):dnM (kCW links g) n n=idxM 0 ms n:=by
 rcases kEn (kCW links g) n n (qU _) with ⟨a,f⟩|⟨i,a,f,b,e,r⟩
 ·rw[a];symm;rw[kBH];intro j k l;have:=(h.zero k).1 l
  grind
 ·have c:idxM 0 ms n≠ -1:=by
   intro x;rw[kBH] at x;exact x i b ((h.zero b).2 e)
  obtain⟨j,m,o,p,q⟩:=kAn c;rw[a,m];have s:=(h.zero o).1 p;by_cases d:i<j
  ·exact absurd ((h.zero b).2 e) (q i d)
  grind
theorem SI.step {links:List Link} {n:Nat} {ms:List Int} {g:List Bool} (h:SI links n ms g) (m: ∀j,j<links.length→okL n (links.getD j linkK.d)) {i:Nat} (p:i<n) (h0:ms.getD i 0=0):
 SI links n (decs (ms.set i (-1)) (nbM links true i) (nbM links true i).length) (g.set i true):=by
 have q:=kBI.1 ((h.zero p).1 h0);have r: ∀l∈links,0≤l.sup:=by
  grind [List.getElem_of_mem,okL]
 have f: ∀e,e<n→(decs (ms.set i (-1)) (nbM links true i) (nbM links true i).length).getD e 0=(ms.set i (-1)).getD e 0-lkc e i links:=by
  intro e a;rw[kEm _ _ e (by rw[qI,h.lm];exact a) (fun k s=>(kIw m true i k s).1) _ (qU _),kJ2]
 have o:=fun e=>(kAo (ms.set i (-1)) (nbM links true i) (nbM links true i).length e).1;refine⟨by rw[kA2,qI,h.lm],by rw[qI,h.lg],fun e a b=>?_,fun e a b=>?_⟩
 ·have:=o e;by_cases c:e=i
  ·subst c;rw[kA1 _ _ _ _ (by rw[h.lm];exact a)] at this;omega
  ·rw[kA0 _ _ _ (fun x=>c x.symm)] at this b;have:=h.gone e a b;omega
 ·by_cases c:e=i
  ·subst c;rw[kA1 _ _ _ _ (by rw[h.lg];exact a)] at b;grind
  ·rw[kA0 _ _ _ (fun x=>c x.symm)] at b;rw[f e a,kA0 _ _ _ (fun x=>c x.symm),h.open_ e a b,kJ3 g e i (by rw[h.lg];exact p) q.1 links r]
theorem kMo {links:List Link} {n:Nat} (a: ∀j,j<links.length→okL n (links.getD j linkK.d)): ∀(f:Nat) (ms:List Int) (g:List Bool) (o:List Int),SI links n ms g→kAa (nbM links true) n f ms o=(kCX links n f g o).1
 |0,_,_,_,_=>rfl
 |f+1,ms,g,o,h=>by
  simp only[kAa,kCX];rw[h.idx];by_cases b:idxM 0 ms n= -1
  ·grind
  ·obtain⟨i,c,e,k,_⟩:=kAn b;rw[if_neg b,if_neg (by omega),c,qh];exact kMo a f _ _ _ (h.step a e k)
theorem SI.start {links:List Link} {n:Nat} (b: ∀j,j<links.length→okL n (links.getD j linkK.d)):SI links n (ms0 n links) (List.replicate n false):=by
 have a: ∀e,∀ls:List Link,(∀l∈ls,0≤l.sup∧l.sup<n)→opn (List.replicate n false) e ls=msM ls e:=by
  intro e ls
  induction ls with
  |nil=>intro _;rfl
  |cons l r c=>
   intro h;have k:=h l (List.mem_cons_self ..);have:(List.replicate n false).getD l.sup.toNat false=false:=by
    simp[List.getD,List.getElem?_replicate];split<;>rfl
   simp only[opn,msM,this,and_true,c fun x f=>h x (List.mem_cons_of_mem _ f)];split<;>omega
 refine⟨by simp[ms0],by simp,fun i g m=>?_,fun i g _=>?_⟩
 ·grind
 grind [ms0,List.getElem_of_mem,okL]
theorem kO0 {links:List Link} {n:Nat} (a: ∀j,j<links.length→okL n (links.getD j linkK.d)):seqM n links=(remM n links).1:=by
 have h:=SI.start a;unfold seqM remM;rw[kDd _ _ _ n _ _ (qU _) (kFe _ _) h.lm]
 grind [kMo]
structure RI (links:List Link) (n:Nat) (g:List Bool) (m:Nat):Prop where
 len:g.length=n
 cnt:g.count false+m=n
 rank: ∃rk:Nat→Nat,∀i,i<n→g.getD i false=true→rk i<m∧ ∀l∈links,l.con=(i:Int)→g.getD l.sup.toNat false=true∧rk l.sup.toNat<rk i
theorem RI.step {links:List Link} {n m:Nat} {g:List Bool} (h:RI links n g m) {i:Nat} (f:i<n) (b:kCW links g i=true):RI links n (g.set i true) (m+1):=by
 rw[kBI,kCY] at b;obtain⟨rk,j⟩:=h.rank;refine⟨by rw[qI,h.len],?_,fun e=>if e=i then m else rk e,fun e s t=>?_⟩
 ·have:=kDh g i (by rw[h.len];exact f) b.1;have:=h.cnt;omega
 ·have a: ∀x,g.getD x false=true→x≠i∧(g.set i true).getD x false=true:=by
   grind
  by_cases k:e=i
  ·subst k;simp only[if_true];refine⟨by omega,fun l o p=>?_⟩;have c:=b.2 l o p;have d:=a _ c;rw[if_neg d.1];refine⟨d.2,?_⟩;have q:l.sup.toNat<n:=by
    by_cases r:l.sup.toNat<n
    ·exact r
    ·rw[List.getD,List.getElem?_eq_none (by rw[h.len];omega)] at c;grind
   grind
  grind
theorem kJ4 {links:List Link} {n:Nat}: ∀(f:Nat) (g:List Bool) (o:List Int),RI links n g o.length→g.count false≤f→
 RI links n (kCX links n f g o).2 (kCX links n f g o).1.length∧ ∀i,i<n→kCW links (kCX links n f g o).2 i=false
 |0,g,o,h,d=>by
  refine⟨h,fun i e=>?_⟩;have:=(kD1 g).1 (by omega) i (by rw[h.len];exact e);show kCW links g i=false
  grind [kCW]
 |f+1,g,o,h,d=>by
  simp only[kCX];rcases kEn (kCW links g) n n (qU _) with ⟨a,j⟩|⟨i,a,j,b,c,k⟩
  ·grind
  ·rw[if_neg (by omega),a,qh];have:=kDh g i (by rw[h.len];exact b) (kBI.1 c).1;exact kJ4 f _ _ (by rw[qD];exact h.step b c) (by omega)
theorem RI.start {links:List Link} {n:Nat}:RI links n (List.replicate n false) 0:=by
 refine⟨by simp,by simp,fun _=>0,fun i a b=>?_⟩
 grind
def W0 (links:List Link) (a b:Nat):Bool:=links.any fun l=>decide (l.con=(a:Int)∧l.sup=(b:Int))
def wR (k:Nat) (W:Nat→Nat→Bool) (a b:Nat):Bool:=W a b||(W a k&&W k b)
def wI (links:List Link):Nat→Nat→Nat→Bool
 |0=>W0 links
 |k+1=>wR k (wI links k)
theorem kGV (links:List Link) (a b:Nat) (h:W0 links a b=true): ∀k,wI links k a b=true
 |0=>h
 |k+1=>by simp[wI,wR,kGV links a b h k]
theorem kHK (links:List Link): ∀k a b c,c<k→wI links k a c=true→wI links k c b=true→wI links k a b=true
 |0,_,_,_,h,_,_=>by omega
 |k+1,a,b,c,h,h1,h2=>by
  have d:=fun a b c h=>kHK links k a b c h;simp only[wI,wR,Bool.or_eq_true,qg] at h1 h2 ⊢
  grind
theorem kCZ (links:List Link) (R:Nat→Nat→Prop) (h0: ∀a b,W0 links a b=true→R a b) (d: ∀a b c,R a c→R c b→R a b): ∀k a b,wI links k a b=true→R a b
 |0,a,b,h=>h0 a b h
 |k+1,a,b,h=>by
  simp only[wI,wR,Bool.or_eq_true,qg] at h;rcases h with h|⟨e,f⟩
  ·exact kCZ links R h0 d k a b h
  ·exact d a b k (kCZ links R h0 d k a k e) (kCZ links R h0 d k k b f)
theorem kHL {links:List Link} {a b:Nat}:W0 links a b=true↔ ∃l∈links,l.con=(a:Int)∧l.sup=(b:Int):=by
 grind [W0]
def cT (f:Nat→Bool):Nat→Nat
 |0=>0
 |k+1=>cT f k+if f k then 1 else 0
theorem kQ9 {f g:Nat→Bool}: ∀k,(∀i,i<k→f i=true→g i=true)→cT f k≤cT g k
 |0,_=>qU _
 |k+1,h=>by
  have a:=kQ9 k fun i b=>h i (by omega);have:=h k (by omega);simp only[cT];cases c:f k<;>cases d:g k<;>simp_all<;>omega
theorem kO1 {f g:Nat→Bool}: ∀k j,(∀i,i<k→f i=true→g i=true)→j<k→f j=false→g j=true→cT f k<cT g k
 |0,_,_,h,_,_=>by omega
 |k+1,j,h,hj,h1,h2=>by
  simp only[cT];by_cases e:j=k
  ·subst e;have:=kQ9 j fun i a=>h i (by omega)
   grind
  ·have b:=kO1 k j (fun i a=>h i (by omega)) (by omega) h1 h2;have:=h k (by omega);cases c:f k<;>cases d:g k<;>simp_all<;>omega
theorem kO2 {links:List Link} {n:Nat} (G: ∀j,j<links.length→okL n (links.getD j linkK.d)):(remM n links).1.length=n↔ ∀i,i<n→wI links n i i=false:=by
 have v: ∀l∈links,(0≤l.con∧l.con<n)∧0≤l.sup∧l.sup<n:=by
  grind [List.getElem_of_mem,okL]
 obtain⟨hI,e⟩:=kJ4 n (List.replicate n false) [] RI.start (by simp);change RI links n (remM n links).2 (remM n links).1.length at hI;change ∀i,i<n→kCW links (remM n links).2 i=false at e;generalize (remM n links).1.length=m at *;generalize (remM n links).2=g at *;have C:=hI.cnt;constructor
 ·intro K i k;have r:=(kD1 g).1 (by omega);obtain⟨rk,w⟩:=hI.rank;cases y:wI links n i i with
  |false=>rfl
  |true=>
   have:=kCZ links (fun a b=>rk b<rk a) (fun a b h=>by
    obtain⟨l,p,D,H⟩:=kHL.1 h;have E:=v l p;have:=((w a (by omega) (r a (by rw[hI.len];omega))).2 l p D).2;simp_all) (fun a b c D H=>by omega) n i i y
   omega
 ·intro y;by_cases I:g.count false=0
  ·omega
  ·exfalso;have q: ∀f i,i<n→g.getD i false=false→cT (wI links n i) n≤f→False:=by
    intro f
    induction f with
    |zero=>
     intro i k s z;have t:=e i k;rw[Bool.eq_false_iff,Ne,kBI,kCY] at t;apply t;refine⟨s,fun l p A=>?_⟩;exfalso;have E:=v l p;have o:wI links n i l.sup.toNat=true:=kGV links _ _ (kHL.2 ⟨l,p,A,by omega⟩) n;have:=kO1 (f:=fun _=>false) n l.sup.toNat (fun _ _ h=>by grind) (by omega) rfl o;omega
    |succ f J=>
     intro i k s z;have t:=e i k;rw[Bool.eq_false_iff,Ne,kBI,kCY] at t;apply t;refine⟨s,fun l p A=>?_⟩;cases u:g.getD l.sup.toNat false with
     |true=>rfl
     |false=>
      exfalso;have E:=v l p;have o:wI links n i l.sup.toNat=true:=kGV links _ _ (kHL.2 ⟨l,p,A,by omega⟩) n;refine J l.sup.toNat (by omega) u ?_;have:=kO1 n l.sup.toNat (fun x u h=>kHK links n i x _ (by omega) o h) (by omega) (y _ (by omega)) o;omega
   have B: ∃i,i<n∧g.getD i false=false:=by
    by_cases F: ∃i,i<n∧g.getD i false=false
    ·exact F
    ·exfalso;apply I;rw[kD1];intro i k;cases u:g.getD i false with
     |true=>rfl
     |false=>exact absurd ⟨i,by rw[hI.len] at k;exact k,u⟩ F
   obtain⟨i,k,s⟩:=B;exact q _ i k s (qU _)
theorem kO3 {links:List Link} {n:Nat} (a: ∀j,j<links.length→okL n (links.getD j linkK.d)):(seqM n links).length=n↔ ∀i,i<n→wI links n i i=false:=by
 grind [kO0,kO2]
end Go.Dg
namespace Go.Pw
open Go.Sv Go.Rails Go.Dg
theorem OS.cong {α:Type} {e:TypeId} {K:Enc α} {A:Option Addr} {c:Nat} {ys a:List α} (h:ys.length=a.length) (b:flat K ys=flat K a):OS e K A c ys=OS e K A c a:=by
 grind [OS]
theorem kEh {α:Type} {K:Enc α} {ys:List α} {m:Nat} {y:α} (a:m<ys.length) (h:K.f y=K.f (ys.getD m K.d)):flat K (ys.set m y)=flat K ys:=by
 unfold flat;rw[List.flatMap_def,List.flatMap_def]
 congr 1
 apply List.ext_getElem (by simp)
 grind
def bolK:Enc Bool where
 f b:=[.bool b]
 sz:=1
 d:=false
 len _:=rfl
 pos:=by decide
 one r v hv:=by simp at hv;subst hv;rfl
structure BR where
 A:Option Addr
 c:Nat
 ys:List Bool
def brD:BR:=⟨none,0,[]⟩
def brK:Enc BR where
 f r:=[.slice r.A r.ys.length r.c]
 sz:=1
 d:=brD
 len _:=rfl
 pos:=by decide
 one r v hv:=by simp at hv;subst hv;rfl
def brF (r:BR):Assn:=OS 4 bolK r.A r.c r.ys
theorem brRS {w:World} (i:Ids) (b:BR) (h:(brF b).sat w i):RS w bolK b.A b.ys:=OS.rs (e:=4) (c:=b.c) h
def stR (r:BR) (b:Nat):BR:={r with ys:=r.ys.set b true}
theorem kMp {I0:Ids} {w0 w:World} {t:TypeId} {A:Option Addr} {c a b:Nat} {d:List BR} (h:Hp I0 w0 [OS t brK A c d,OS 4 bolK (d.getD a brD).A (d.getD a brD).c ((d.getD a brD).ys.set b true),Big brF (d.eraseIdx a)] w) (e:a<d.length):
 Hp I0 w0 [OS t brK A c (d.set a (stR (d.getD a brD) b)),Big brF (d.set a (stR (d.getD a brD) b))] w:=by
 have f:=Hp.unfocus (L:=[_,_]) (k:=1) (hs:=d) (m:=a) (h':=stR (d.getD a brD) b) (F:=brF) h rfl e;simp_all[OS,brK,stR,kEh]
theorem kQD {I0:Ids} {w0 w:World} {t:TypeId} {A B:Option Addr} {c d a:Nat} {b:List BR} {ys:List Bool} (h:Hp I0 w0 [OS t brK A c (b.set a ⟨B,d,ys⟩),Big brF b,OS 4 bolK B d ys] w) (e:a<b.length):
 Hp I0 w0 [OS t brK A c (b.set a ⟨B,d,ys⟩),Big brF (b.set a ⟨B,d,ys⟩)] w:=by
 have f:=Hp.focus h (k:=1) (m:=a) brD rfl e;have g:Hp I0 w0 ([OS t brK A c (b.set a ⟨B,d,ys⟩),OS 4 bolK B d ys]++[Big brF (b.eraseIdx a)]) w:=f.sel [0,1,1] rfl;exact Hp.unfocus (L:=[_,_]) (k:=1) (hs:=b) (m:=a) (h':=⟨B,d,ys⟩) (F:=brF) g rfl e
def MI (n:Nat) (rows:List BR) (W:Nat→Nat→Bool):Prop:=rows.length=n∧ ∀a,a<n→(rows.getD a brD).ys.length=n∧ ∀b,b<n→(rows.getD a brD).ys.getD b false=W a b
theorem MI.congr {n:Nat} {c:List BR} {W f:Nat→Nat→Bool} (h:MI n c W) (e: ∀a b,a<n→b<n→W a b=f a b):MI n c f:=
 ⟨h.1,fun a d=>⟨(h.2 a d).1,fun b g=>by rw[(h.2 a d).2 b g,e a b d g]⟩⟩
theorem MI.st {n i k:Nat} {c:List BR} {W j:Nat→Nat→Bool} (h:MI n c W) (f:i<n) (p:k<n) (o:j i k=true) (l: ∀a b,a<n→b<n→ ¬(a=i∧b=k)→j a b=W a b):MI n (c.set i (stR (c.getD i brD) k)) j:=by
 refine⟨by rw[qI];exact h.1,fun a g=>?_⟩;by_cases e:i=a
 ·subst e;rw[show(c.set i (stR (c.getD i brD) k)).getD i brD=stR (c.getD i brD) k by simp[List.getD,h.1,f]];refine⟨by simp only[stR,qI];exact(h.2 i f).1,fun b d=>?_⟩;by_cases m:k=b
  ·subst m;rw[o];have q:=(h.2 i f).1;grind [stR]
  ·rw[l i b g d (fun x=>m x.2.symm),←(h.2 i f).2 b d]
   grind [stR]
 ·rw[show(c.set i (stR (c.getD i brD) k)).getD a brD=c.getD a brD by grind];exact⟨(h.2 a g).1,fun b d=>by rw[l a b g d (fun x=>e x.1.symm)];exact(h.2 a g).2 b d⟩
theorem kJ8 (links:List Link) (j a b:Nat) (c:j<links.length):W0 (links.take (j+1)) a b=(W0 (links.take j) a b||decide ((links.getD j linkK.d).con=(a:Int)∧(links.getD j linkK.d).sup=(b:Int))):=by
 grind [kAJ,W0]
theorem MI.link {links:List Link} {n j i k:Nat} {c:List BR} (h:MI n c (W0 (links.take j))) (l:j<links.length) (e:i<n) (f:k<n) (m:(links.getD j linkK.d).con=(i:Int)) (o:(links.getD j linkK.d).sup=(k:Int)):MI n (c.set i (stR (c.getD i brD) k)) (W0 (links.take (j+1))):=
 h.st e f (by grind [kJ8]) (fun a b p q g=>by
  grind [kJ8])
def wP (k:Nat) (W:Nat→Nat→Bool) (A B a b:Nat):Bool:=if a<A∨(a=A∧b<B) then wR k W a b else W a b
theorem kQE (k:Nat) (W:Nat→Nat→Bool) (b:Nat):wR k W k b=W k b:=by grind [wR]
theorem MI.beg {n k:Nat} {c:List BR} {W:Nat→Nat→Bool} (h:MI n c W):MI n c (wP k W 0 0):=h.congr fun a b _ _=>by simp[wP]
theorem MI.fin {n k:Nat} {c:List BR} {links:List Link} (h:MI n c (wP k (wI links k) n 0)):MI n c (wI links (k+1)):=h.congr fun a b d _=>by simp[wP,d,wI]
theorem MI.row {n k a:Nat} {c:List BR} {W:Nat→Nat→Bool} (h:MI n c (wP k W a n)):MI n c (wP k W (a+1) 0):=h.congr fun x b _ d=>by
 grind [wP]
theorem MI.skip {n k a:Nat} {c:List BR} {W:Nat→Nat→Bool} (h:MI n c (wP k W a 0)) (d:W a k=false):MI n c (wP k W (a+1) 0):=h.congr fun x b _ e=>by
 grind [wP,wR]
theorem MI.rowv {n k a:Nat} {b:List BR} {W:Nat→Nat→Bool} (h:MI n b (wP k W a 0)) (c:a<n) (d:k<n):(b.getD a brD).ys.getD k false=W a k:=by
 rw[(h.2 a c).2 k d];simp[wP]
theorem MI.kv {n k a b:Nat} {c:List BR} {W:Nat→Nat→Bool} (h:MI n c (wP k W a b)) (d:b<n) (e:k<n):(c.getD k brD).ys.getD b false=W k b:=by
 rw[(h.2 k e).2 b d];grind [wP,kQE]
theorem MI.one {n k a b:Nat} {c:List BR} {W:Nat→Nat→Bool} (h:MI n c (wP k W a b)) (d:a<n) (e:b<n) (g:W a k=true) (i:W k b=true):MI n (c.set a (stR (c.getD a brD) b)) (wP k W a (b+1)):=
 h.st d e (by grind [wP,wR]) (fun x y j l f=>by
  grind [wP])
theorem MI.zero {n k a b:Nat} {c:List BR} {W:Nat→Nat→Bool} (h:MI n c (wP k W a b)) (d:a<n) (e:b<n) (f:W k b=false):MI n c (wP k W a (b+1)):=h.congr fun x y g i=>by
 grind [wP,wR]
theorem MI.new {n:Nat} {c:List BR} (h:c.length=n) (d: ∀a,a<n→(c.getD a brD).ys=List.replicate n false):MI n c (W0 []):=
 ⟨h,fun a e=>⟨by grind,fun b f=>by grind [W0]⟩⟩
def invB (n:Int) (links:List Link):Bool:=decide (n<0∨128<n∨(1024:Int)<links.length)||!links.all fun l=>decide (okL n l)
theorem kFk {n:Int} {links:List Link}:invB n links=false↔ ¬(n<0∨128<n∨(1024:Int)<links.length)∧ ∀j,j<links.length→okL n (links.getD j linkK.d):=by
 grind [invB,List.getElem_of_mem]
theorem kDQ {n:Int} {links:List Link} (h:n<0∨128<n∨(1024:Int)<links.length):true=invB n links:=by
 grind [kFk]
theorem kDk {n:Int} {links:List Link} {j:Nat} (a:j<links.length) (h: ¬okL n (links.getD j linkK.d)):true=invB n links:=by
 grind [kFk]
theorem kJ9 {n:Int} {links:List Link} (h:invB n links=true):clM n links=1:=by
 grind [clM,kFk]
theorem kHN {n:Int} {links:List Link} (h:invB n links=false):clM n links=if links.Nodup then 0 else 7:=by
 grind [kFk,clM]
theorem kEt {n:Nat} {links:List Link} (h:clM n links=0):chkM n links=if ∀i,i<n→wI links n i i=false then 0 else 18:=by
 have a:=kDM h
 grind [kO3,chkM]
theorem kLJ {links:List Link} {j:Nat} (a:j<links.length) (h: ∀i,i<j→links.getD j linkK.d≠links.getD i linkK.d): ¬links.getD j linkK.d∈links.take j:=by
 grind [List.getElem_of_mem]
theorem kFl {links:List Link} {j k:Nat} (a:j<links.length) (b:k<j) (h:links.getD j linkK.d=links.getD k linkK.d): ¬links.Nodup:=by
 refine kFd links j a ?_;rw[h];have:(links.take j)[k]'(by grind)=links.getD k linkK.d:=by grind
 grind
theorem kO5 {b:List BR} {n i:Nat} {B:Option Addr} (c:b.length=n) (d:i<n) (h: ∀a,a<i→(b.getD a brD).ys=List.replicate n false): ∀a,a<i+1→((b.set i ⟨B,n,List.replicate n false⟩).getD a brD).ys=List.replicate n false:=by
 grind [kA0]
structure RmI (links:List Link) (n:Nat) (g:List Bool) (o:List Int):Prop where
 len:g.length=n
 cnt:o.length+g.count false=n
 run: ∃f,g.count false≤f∧kCX links n f g o=remM n links
theorem kLK {n:Nat} {links:List Link} (h:clM n links≠0):chkM n links=clM n links:=by rw[chkM,if_pos h]
theorem kJA {n i:Nat} {links:List Link} (h:clM n links=0) (a:i<n) (b:wI links n i i=true):chkM n links=18:=by
 rw[kEt h,if_neg];intro x;have:=x i a;rw[b] at this;exact absurd this (by simp)
theorem kJB {n:Nat} {links:List Link} (h:clM n links=0) (a: ∀i,i<n→wI links n i i=false):chkM n links=0:=by rw[kEt h,if_pos a]
end Go.Pw
namespace Go.Sv
section
variable {P:Program} {N:NN} {E:Env} {ty:TypeId} {pos:String} {af:Array Edge} {g:Option (Nat×Bool)} {x:Operand}
theorem Step.sliceArr {S:World→Prop} {t c:TypeId} {ze:Value} {f by_ q b o:Nat} {dd:Option Nat} (m:P.underlying t=some (.array q c)) (i:TI P c ze f by_) (j:ev E x=some (.pointer (some ⟨b,o,none⟩))):
 Step P N E S ⟨dd,.slice t x none none none,ty,pos,af,g⟩ (.slice (some ⟨b,o,none⟩) q q):=fun a w k _=>by
 have d:P.arrayLen t=q:=by grind [Program.arrayLen]
 have e:P.elem t=c:=by grind [Program.elem]
 have h:=run_sliceAt_array_all (P:=P) w t ⟨b,o,none⟩ (by grind);rw[d,e] at h;simp only[i.sizeOf,Result.andThen_ok] at h;have l:slicedAt ⟨b,o,none⟩ 0 q q f= .slice (some ⟨b,o,none⟩) q q:=by
  grind [slicedAt,Addr.add]
 rw[l] at h;simp only[execOp,k.ev j,Option.map_none,Sem.run_bind,h,Result.andThen_ok,Sem.run_pure]
end
theorem Hp.cellsO {I0:Ids} {w0 w:World} {L:List Assn} (h:Hp I0 w0 L w) (k o:Nat) (vs:List Value) {b:Nat} {cs:Array Value} {t:TypeId} {a:Nat×Nat} (c:L[k]?=some (Blk b (.cells cs t a))) (d:(cs.toList.drop o).take vs.length=vs):
 ∀j v,vs[j]?=some v→w.cell? ⟨b,o+j,none⟩=some v:=fun j v e=>by
 rw[kAA (h.blk k c)]
 grind
end Go.Sv
namespace Go.Pw
open Go.Sv Go.Rails Go.Dg
structure PDv where
 par:Int
 r0:Hd
 r1:Hd
 r2:Hd
 r3:Hd
 d0:Int
 d1:Int
 d2:Int
 d3:Int
 d4:Int
 d5:Int
 wd:Int
 ws:Int
def hd0:Hd:=⟨none,0,[]⟩
def pd0:PDv:=⟨0,hd0,hd0,hd0,hd0,0,0,0,0,0,0,0,0⟩
def PDv.rl (d:PDv):Nat→Hd
 |0=>d.r0
 |1=>d.r1
 |2=>d.r2
 |_=>d.r3
def PDv.dp (d:PDv):Nat→Int
 |0=>d.d0
 |1=>d.d1
 |2=>d.d2
 |3=>d.d3
 |4=>d.d4
 |_=>d.d5
def PDv.dl (d:PDv):List Int:=[d.d0,d.d1,d.d2,d.d3,d.d4,d.d5]
def sl (h:Hd):Value:= .slice h.A h.ys.length h.c
def pdC (d:PDv):List Value:=[.int .i64 d.par,.slice d.r0.A d.r0.ys.length d.r0.c,.slice d.r1.A d.r1.ys.length d.r1.c,.slice d.r2.A d.r2.ys.length d.r2.c,.slice d.r3.A d.r3.ys.length d.r3.c,.int .i64 d.d0,.int .i64 d.d1,.int .i64 d.d2,.int .i64 d.d3,.int .i64 d.d4,.int .i64 d.d5,.int .i64 d.wd,.int .i64 d.ws]
def pdK:Enc PDv where
 f:=pdC
 sz:=13
 d:=pd0
 len _:=rfl
 pos:=by decide
 one r v hv:=by simp[pdC] at hv;rcases hv with rfl|rfl|rfl|rfl|rfl|rfl|rfl|rfl|rfl|rfl|rfl|rfl|rfl<;>rfl
theorem kGW (d:PDv): ∀ {k:Nat},k<4→(pdC d).toArray.toList[0+1+k* 1]?=some (.slice (d.rl k).A (d.rl k).ys.length (d.rl k).c)
 |0,_=>rfl
 |1,_=>rfl
 |2,_=>rfl
 |3,_=>rfl
 |k+4,h=>by omega
theorem kED (d:PDv): ∀ {k:Nat},k<6→(pdC d).toArray.toList[0+5+k* 1]?=some (.int .i64 (d.dp k))
 |0,_=>rfl
 |1,_=>rfl
 |2,_=>rfl
 |3,_=>rfl
 |4,_=>rfl
 |5,_=>rfl
 |k+6,h=>by omega
def ascP (ys:List Int):Prop:= ∀i,i<ys.length→0<i→ys.getD (i-1) (intK .i64).d<ys.getD i (intK .i64).d
def srtP (ys:List Int):Prop:= ∀i,i<ys.length→0<i→ys.getD (i-1) (intK .i64).d≤ys.getD i (intK .i64).d
def rngP (m:Int) (ys:List Int):Prop:= ∀i,i<ys.length→0≤ys.getD i (intK .i64).d∧ys.getD i (intK .i64).d<m
instance(ys:List Int):Decidable (ascP ys):=inferInstanceAs (Decidable (∀i,i<ys.length→0<i→ys.getD (i-1) (intK .i64).d<ys.getD i (intK .i64).d))
instance(ys:List Int):Decidable (srtP ys):=inferInstanceAs (Decidable (∀i,i<ys.length→0<i→ys.getD (i-1) (intK .i64).d≤ys.getD i (intK .i64).d))
instance(m:Int) (ys:List Int):Decidable (rngP m ys):=inferInstanceAs (Decidable (∀i,i<ys.length→0≤ys.getD i (intK .i64).d∧ys.getD i (intK .i64).d<m))
theorem kJC {ys:List Int} (h:ascP ys): ∀d i,i+d<ys.length→ys.getD i (intK .i64).d+d≤ys.getD (i+d) (intK .i64).d
 |0,i,_=>by simp
 |d+1,i,hd=>by
  have a:=kJC h d i (by omega);have b:=h (i+d+1) (by omega) (by omega)
  grind
theorem kO6 {ys:List Int} {m:Int} (h:ascP ys):rngP m ys↔(0<ys.length→0≤ys.getD 0 (intK .i64).d∧ys.getD (ys.length-1) (intK .i64).d<m):=by
 constructor
 ·intro a b;exact⟨(a 0 b).1,(a _ (by omega)).2⟩
 ·intro c i e;have:=c (by omega);have f:=kJC h i 0 (by omega);have g:=kJC h (ys.length-1-i) i (by omega)
  grind
def kCE (d:PDv) (m:Int):Prop:= ∀k,k<4→ascP (d.rl k).ys∧rngP m (d.rl k).ys
def kAb (d:PDv):Prop:=d.d0=0∧srtP d.dl∧d.d5≤4
instance(d:PDv) (m:Int):Decidable (kCE d m):=inferInstanceAs (Decidable (∀k,k<4→ascP (d.rl k).ys∧rngP m (d.rl k).ys))
instance(d:PDv):Decidable (kAb d):=inferInstanceAs (Decidable (_∧_∧_))
def PDv.ok (d:PDv) (i m:Int):Prop:=(-1≤d.par∧d.par<i)∧kCE d m∧kAb d∧(0≤d.ws∧d.ws≤4)∧0≤d.wd∧d.wd≤3
instance(d:PDv) (i m:Int):Decidable (d.ok i m):=inferInstanceAs (Decidable (_∧_∧_∧_∧_))
theorem kCb (d:PDv):kAb d↔d.d0=0∧ ∀k,k<6→(0≤d.dp k∧d.dp k≤4)∧(0<k→d.dp (k-1)≤d.dp k):=by
 have e:srtP d.dl↔d.d0≤d.d1∧d.d1≤d.d2∧d.d2≤d.d3∧d.d3≤d.d4∧d.d4≤d.d5:=by
  constructor
  ·intro h;exact⟨h 1 (by show 1<6;decide) (by decide),h 2 (by show 2<6;decide) (by decide),h 3 (by show 3<6;decide) (by decide),h 4 (by show 4<6;decide) (by decide),h 5 (by show 5<6;decide) (by decide)⟩
  ·rintro⟨h1,h2,h3,h4,h5⟩ i a b;have a:i<6:=a
   match i,a,b with
   |1,_,_=>exact h1
   |2,_,_=>exact h2
   |3,_,_=>exact h3
   |4,_,_=>exact h4
   |5,_,_=>exact h5
   |0,_,b=>omega
   |i+6,a,_=>omega
 unfold kAb;rw[e];constructor
 ·rintro⟨h0,⟨h1,h2,h3,h4,h5⟩,h6⟩;refine⟨h0,fun k c=>?_⟩
  match k,c with
  |0,_=>exact⟨⟨by show 0≤d.d0;omega,by show d.d0≤4;omega⟩,fun h=>by omega⟩
  |1,_=>exact⟨⟨by show 0≤d.d1;omega,by show d.d1≤4;omega⟩,fun _=>h1⟩
  |2,_=>exact⟨⟨by show 0≤d.d2;omega,by show d.d2≤4;omega⟩,fun _=>h2⟩
  |3,_=>exact⟨⟨by show 0≤d.d3;omega,by show d.d3≤4;omega⟩,fun _=>h3⟩
  |4,_=>exact⟨⟨by show 0≤d.d4;omega,by show d.d4≤4;omega⟩,fun _=>h4⟩
  |5,_=>exact⟨⟨by show 0≤d.d5;omega,h6⟩,fun _=>h5⟩
  |k+6,c=>omega
 ·rintro⟨h0,h⟩;exact⟨h0,⟨(h 1 (by decide)).2 (by decide),(h 2 (by decide)).2 (by decide),(h 3 (by decide)).2 (by decide),(h 4 (by decide)).2 (by decide),(h 5 (by decide)).2 (by decide)⟩,(h 5 (by decide)).1.2⟩
def chkD (ds:List PDv) (m:Int):Int:=if (64:Int)<ds.length∨m<0∨64<m then 1 else if ∀i,i<ds.length→(ds.getD i pdK.d).ok i m then 0 else 1
theorem kC0 {ds:List PDv} {m:Int} (h:(64:Int)<ds.length∨m<0∨64<m):chkD ds m=1:=by grind [chkD]
theorem kAu {ds:List PDv} {m:Int} {i:Nat} (a:i<ds.length) (h: ¬(ds.getD i pdK.d).ok i m):chkD ds m=1:=by
 grind [chkD]
theorem kGX {ds:List PDv} {m:Int} (h: ¬((64:Int)<ds.length∨m<0∨64<m)) (a: ∀i,i<ds.length→(ds.getD i pdK.d).ok i m):chkD ds m=0:=by grind [chkD]
theorem kJD {ds:List PDv} {m:Int} (h:chkD ds m=0):ds.length≤64∧(0≤m∧m≤64)∧ ∀i,i<ds.length→(ds.getD i pdK.d).ok i m:=by
 grind [chkD]
def PDv.rs (d:PDv) (w:World):Prop:= ∀k,k<4→RS w (intK .i64) (d.rl k).A (d.rl k).ys
def PDv.sm (d:PDv) (b:Nat):Prop:= ∀k,k<4→(d.rl k).ys.length≤b
theorem RS.inBlk {w:World} {b o:Nat} {cs:Array Value} {t:TypeId} {a:Nat×Nat} {ys:List Int} (h:w.heap[b]?=some (.cells cs t a)) (c: ∀j v,(flat (intK .i64) ys)[j]?=some v→cs[o+j]?=some v):RS w (intK .i64) (some ⟨b,o,none⟩) ys:=
 .inr ⟨cs,t,a,rfl,h,c⟩
theorem kLL (d:PDv): ∀j v,(flat (intK .i64) d.dl)[j]?=some v→(pdC d).toArray[5+j]?=some v:=by
 intro j v h
 match j,h with
 |0,h=>exact h
 |1,h=>exact h
 |2,h=>exact h
 |3,h=>exact h
 |4,h=>exact h
 |5,h=>exact h
 |j+6,h=>cases h
end Go.Pw
namespace Go.Sv
theorem Hp.nilBig {I0:Ids} {w0 w:World} {L:List Assn} {β:Type} {F:β→Assn} (h:Hp I0 w0 L w):Hp I0 w0 (L++[Big F []]) w:=by
 obtain⟨I,a,b,c⟩:=h;exact⟨I,Sep.append.2 ⟨I,fun _=>False,fun x=>by simp,fun _ _ h=>h,a,fun _=>False,fun _=>False,fun x=>by simp,fun _ h=>h.elim,(fun _ h=>h:Sep [] (fun _=>False) w),fun _ h=>h⟩,b,c⟩
end Go.Sv
namespace Go.Pw
open Go.Sv Go.Rails Go.Dg
def PDv.setR (d:PDv) (k:Nat) (h:Hd):PDv:=match k with
 |0=>{d with r0:=h}
 |1=>{d with r1:=h}
 |2=>{d with r2:=h}
 |_=>{d with r3:=h}
def PDv.rls (d:PDv):List Hd:=[d.r0,d.r1,d.r2,d.r3]
theorem kEz (d:PDv): ∀ {k:Nat} (h:Hd),k<4→((pdC d).toArray.toList.take (0+1+k* 1)++[Value.slice h.A h.ys.length h.c]++(pdC d).toArray.toList.drop (0+1+k* 1+[Value.slice h.A h.ys.length h.c].length)).toArray=(pdC (d.setR k h)).toArray
 |0,_,_=>rfl
 |1,_,_=>rfl
 |2,_,_=>rfl
 |3,_,_=>rfl
 |k+4,_,h=>by omega
structure Cpy (d e:PDv) (k:Nat):Prop where
 par:e.par=d.par
 dl:e.dl=d.dl
 wd:e.wd=d.wd
 ws:e.ws=d.ws
 ys: ∀j,j<4→(e.rl j).ys=(d.rl j).ys
 old: ∀j,k≤j→j<4→e.rl j=d.rl j
theorem Cpy.refl (d:PDv):Cpy d d 0:=⟨rfl,rfl,rfl,rfl,fun _ _=>rfl,fun _ _ _=>rfl⟩
theorem Cpy.step {d e:PDv}: ∀ {k:Nat},Cpy d e k→k<4→ ∀ {A:Option Addr} {c:Nat},Cpy d (e.setR k ⟨A,c,(d.rl k).ys⟩) (k+1):=by
 intro k h f A c
 match k,f,h with
 |0,_,h=>exact⟨h.par,h.dl,h.wd,h.ws,fun j a=>by match j,a with|0,_=>rfl|1,_=>exact h.ys 1 (by decide)|2,_=>exact h.ys 2 (by decide)|3,_=>exact h.ys 3 (by decide)|j+4,a=>omega,fun j b a=>by match j,a,b with|1,_,_=>exact h.old 1 (by decide) (by decide)|2,_,_=>exact h.old 2 (by decide) (by decide)|3,_,_=>exact h.old 3 (by decide) (by decide)|0,_,b=>omega|j+4,a,_=>omega⟩
 |1,_,h=>exact⟨h.par,h.dl,h.wd,h.ws,fun j a=>by match j,a with|0,_=>exact h.ys 0 (by decide)|1,_=>rfl|2,_=>exact h.ys 2 (by decide)|3,_=>exact h.ys 3 (by decide)|j+4,a=>omega,fun j b a=>by match j,a,b with|2,_,_=>exact h.old 2 (by decide) (by decide)|3,_,_=>exact h.old 3 (by decide) (by decide)|0,_,b=>omega|1,_,b=>omega|j+4,a,_=>omega⟩
 |2,_,h=>exact⟨h.par,h.dl,h.wd,h.ws,fun j a=>by match j,a with|0,_=>exact h.ys 0 (by decide)|1,_=>exact h.ys 1 (by decide)|2,_=>rfl|3,_=>exact h.ys 3 (by decide)|j+4,a=>omega,fun j b a=>by match j,a,b with|3,_,_=>exact h.old 3 (by decide) (by decide)|0,_,b=>omega|1,_,b=>omega|2,_,b=>omega|j+4,a,_=>omega⟩
 |3,_,h=>exact⟨h.par,h.dl,h.wd,h.ws,fun j a=>by match j,a with|0,_=>exact h.ys 0 (by decide)|1,_=>exact h.ys 1 (by decide)|2,_=>exact h.ys 2 (by decide)|3,_=>rfl|j+4,a=>omega,fun j b a=>by omega⟩
 |k+4,f,_=>omega
theorem kHV (e:PDv) (h:Hd): ∀ {k:Nat},k<4→(e.setR k h).rls.take (k+1)=e.rls.take k++[h]
 |0,_=>rfl
 |1,_=>rfl
 |2,_=>rfl
 |3,_=>rfl
 |k+4,h=>by omega
def pdF (d:PDv):Assn:=Big hdF d.rls
structure TT where
 b:Nat
 dA:Option Addr
 dc:Nat
 es:List PDv
 sA:Option Addr
 sc:Nat
 st:List Int
 rb:Nat
 ra:RA
 rs:St
 clk:Int
def ttL (t:TT):List Assn:=[Blk t.b (.cells #[.slice t.dA t.es.length t.dc,.slice t.sA t.st.length t.sc,.pointer (some ⟨t.rb,0,none⟩),.int .u64 t.clk] 258 (0,0)),OS 55 pdK t.dA t.dc t.es,Big pdF t.es,OS 3 (intK .i64) t.sA t.sc t.st]++robj 376 t.rb t.ra t.rs
structure TG where
 es:List PDv
 dA:Option Addr
 dc:Nat
 sA:Option Addr
 sc:Nat
 st:List Int
def Cpys (ds es:List PDv):Prop:= ∀j,j<es.length→Cpy (ds.getD j pdK.d) (es.getD j pdK.d) 4
theorem Cpys.snoc {ds es:List PDv} {e:PDv} (h:Cpys ds es) (c:Cpy (ds.getD es.length pdK.d) e 4):Cpys ds (es++[e]):=by
 intro j a;rw[qD] at a;by_cases b:j<es.length
 ·have:=h j b;grind
 grind
def newT (ds:List PDv) (rs:List Rail):Int:=if chkD ds rs.length≠0 then chkD ds rs.length else newE rs
structure TR27 where
 b:Nat
 A:Option Addr
 n:Nat
 c:Nat
 sA:Option Addr
 sc:Nat
 st:List Int
 rb:Nat
 ra:RA
 rs:St
 clk:Int
def trL (t:TR27):List Assn:=[Blk t.b (.cells #[.slice t.A t.n t.c,.pointer (some ⟨t.rb,0,none⟩),.slice t.sA t.st.length t.sc,.int .u64 t.clk] 319 (0,0)),OS 3 (intK .i64) t.sA t.sc t.st]++robj 368 t.rb t.ra t.rs
theorem kEU {ds:List PDv} {rs:List Rail} (h: ¬chkD ds rs.length≠0):newT ds rs=kAM rs:=by grind [newT,kJ1]
structure IDv where
 par:Int
 sup:Hd
 dly:Int
def idD:IDv:=⟨0,⟨none,0,[]⟩,0⟩
def idK:Enc IDv where
 f d:=[.int .i64 d.par,.slice d.sup.A d.sup.ys.length d.sup.c,.int .u64 d.dly]
 sz:=3
 d:=idD
 len _:=rfl
 pos:=by decide
 one r v hv:=by simp at hv;rcases hv with rfl|rfl|rfl<;>rfl
def lk1 (i:Nat) (d:IDv) (k:Nat):List Link:=(if 0≤d.par then [⟨i,d.par⟩] else [])++(d.sup.ys.take k).map fun s=>⟨i,s⟩
def lkI (ids:List IDv):Nat→List Link
 |0=>[]
 |i+1=>lkI ids i++lk1 i (ids.getD i idK.d) (ids.getD i idK.d).sup.ys.length
def badI (n:Int) (d:IDv):Prop:=d.par< -1∨n≤d.par∨1048576<d.dly∨(1024:Int)<d.sup.ys.length
instance(n:Int) (d:IDv):Decidable (badI n d):=inferInstanceAs (Decidable (_∨_∨_∨_))
def newI (ids:List IDv):Int:=if (64:Int)<ids.length∨ ∃i,i<ids.length∧badI ids.length (ids.getD i idK.d) then 1 else chkM ids.length (lkI ids ids.length)
theorem kHW {ids:List IDv} (h:(64:Int)<ids.length):newI ids=1:=by grind [newI]
theorem kB8 {ids:List IDv} {i:Nat} (a:i<ids.length) (h:badI ids.length (ids.getD i idK.d)):newI ids=1:=by grind [newI]
theorem kC1 {ids:List IDv} (h: ¬(64:Int)<ids.length) (a: ∀i,i<ids.length→ ¬badI ids.length (ids.getD i idK.d)):newI ids=chkM ids.length (lkI ids ids.length):=by
 grind [newI]
theorem kHX {n:Nat} {links:List Link} (h:invB n links=true):chkM n links=1:=by
 grind [kJ9,chkM]
theorem kJM {n:Nat} {links:List Link} (h:(1024:Int)<links.length):chkM n links=1:=kHX (kDQ (.inr (.inr h))).symm
theorem kHY {n:Nat} {links:List Link} {l:Link} (a:l∈links) (h: ¬okL n l):chkM n links=1:=by
 grind [List.getElem_of_mem,kHX,kDk]
theorem kJN {ids:List IDv} {l:Link}: ∀ {i m:Nat},i<m→l∈lk1 i (ids.getD i idK.d) (ids.getD i idK.d).sup.ys.length→l∈lkI ids m
 |i,0,h,_=>by omega
 |i,m+1,h,hl=>by
  rw[lkI,List.mem_append];by_cases e:i=m
  ·grind
  ·exact .inl (kJN (by omega) hl)
theorem kHZ {ids:List IDv} {i k:Nat} (a:i<ids.length) (b:k<(ids.getD i idK.d).sup.ys.length) (h:(ids.getD i idK.d).sup.ys.getD k (intK .i64).d<0∨ids.length≤(ids.getD i idK.d).sup.ys.getD k (intK .i64).d):newI ids=1:=by
 unfold newI;split
 ·rfl
 ·refine kHY (l:=⟨i,(ids.getD i idK.d).sup.ys.getD k (intK .i64).d⟩) (kJN a ?_) (by grind [okL])
  grind [lk1]
theorem kCJ (i:Nat) (d:IDv) (k:Nat):(lk1 i d k).length≤1+k:=by
 grind [lk1]
theorem kBW {i:Nat} {d:IDv} {k:Nat} (a:k<d.sup.ys.length):lk1 i d (k+1)=lk1 i d k++[⟨i,d.sup.ys.getD k (intK .i64).d⟩]:=by
 grind [lk1,List.take_succ_eq_append_getElem]
theorem kF0 {i:Nat} {d:IDv} (h:0≤d.par):lk1 i d 0=[⟨i,d.par⟩]:=by simp[lk1,h]
theorem kF1 {i:Nat} {d:IDv} (h: ¬0≤d.par):lk1 i d 0=[]:=by simp[lk1,h]
theorem kCK {ids:List IDv}: ∀ {m:Nat},(∀i,i<m→(ids.getD i idK.d).sup.ys.length≤1024)→(lkI ids m).length≤m* 1025
 |0,_=>by simp[lkI]
 |m+1,h=>by
  have a:=kCK (m:=m) fun i b=>h i (by omega)
  grind [kCJ,lkI]
end Go.Pw
namespace Go.Pw
open Go.Sv Go.Rails
def alnP (l:List Int):Prop:= ∀i,i<l.length→(l.getD i (intK .u64).d).tmod 256=0
instance(l:List Int):Decidable (alnP l):=inferInstanceAs (Decidable (∀i,i<l.length→(l.getD i (intK .u64).d).tmod 256=0))
def regP (x:Int):Prop:=x.tmod 4=0∧x<256
instance(x:Int):Decidable (regP x):=inferInstanceAs (Decidable (_∧_))
end Go.Pw
namespace Go.Pw
open Go.Sv Go.Drv
def fitT (t:Tr):Prop:=regP t.gd.reg∧ ∀k,k<t.ops.length→regP (t.ops.getD k roK.d).reg
instance(t:Tr):Decidable (fitT t):=inferInstanceAs (Decidable (_∧ ∀k,k<t.ops.length→regP (t.ops.getD k roK.d).reg))
def fitD (ts:List Tr):Prop:= ∀i,i<ts.length→fitT (ts.getD i tr0)
instance(ts:List Tr):Decidable (fitD ts):=inferInstanceAs (Decidable (∀i,i<ts.length→fitT (ts.getD i tr0)))
theorem kN1 (hs:List TH) {i:Nat} (a:i<hs.length):(hs.map (·.t)).getD i tr0=(hs.getD i thK.d).t:=by simp[List.getD,a]
theorem kJO {hs:List TH} (h: ∀i,i<hs.length→fitT (hs.getD i thK.d).t):fitD (hs.map (·.t)):=fun i a=>by rw[qE] at a;rw[kN1 hs a];exact h i a
theorem kD4 {hs:List TH} (h:fitD (hs.map (·.t))) {i:Nat} (a:i<hs.length):fitT (hs.getD i thK.d).t:=by
 have:=h i (by rw[qE];exact a);rwa [kN1 hs a] at this
theorem kDo {s:Bs} (h:(kAH s).1=0):Go.Drv.chkM (kAH s).2=0:=by
 unfold kAH at h ⊢;cases b:runM ps0 (kA4 s) with
 |none=>rw[b] at h;exact absurd h (by decide)
 |some p=>
  rw[b] at h;simp only at h ⊢;unfold finM at h ⊢;by_cases c:p.named=false
  ·rw[if_pos c] at h;exact absurd h (by decide)
  ·rw[if_neg c] at h ⊢;by_cases d: ¬p.ss.Nodup
   ·rw[if_pos d] at h;exact absurd h (by decide)
   ·rw[if_neg d] at h ⊢;cases e:kB1 p.ss p.ts p.tg with
    |none=>rw[e] at h;simp at h
    |some f=>
     rw[e] at h;simp only at h ⊢;by_cases a:Go.Drv.chkM ⟨p.name,p.ss,f⟩=0
     ·rw[if_pos a];exact a
     ·rw[if_neg a] at h;exact absurd h a
end Go.Pw
namespace Go.Pw
open Go.Sv Go.Rails
structure BDv where
 fn:Int
 pw:PDv
 il:IDv
 drv:Bs
def bdC (d:BDv):List Value:=[.int .i64 d.fn,.int .i64 d.pw.par,.slice d.pw.r0.A d.pw.r0.ys.length d.pw.r0.c,.slice d.pw.r1.A d.pw.r1.ys.length d.pw.r1.c,.slice d.pw.r2.A d.pw.r2.ys.length d.pw.r2.c,.slice d.pw.r3.A d.pw.r3.ys.length d.pw.r3.c,.int .i64 d.pw.d0,.int .i64 d.pw.d1,.int .i64 d.pw.d2,.int .i64 d.pw.d3,.int .i64 d.pw.d4,.int .i64 d.pw.d5,.int .i64 d.pw.wd,.int .i64 d.pw.ws,.int .i64 d.il.par,.slice d.il.sup.A d.il.sup.ys.length d.il.sup.c,.int .u64 d.il.dly,.string (bs d.drv)]
def bd0:BDv:=⟨0,pd0,idD,[]⟩
def bdK:Enc BDv where
 f:=bdC
 sz:=18
 d:=bd0
 len _:=rfl
 pos:=by decide
 one r v hv:=by simp[bdC] at hv;rcases hv with rfl|rfl|rfl|rfl|rfl|rfl|rfl|rfl|rfl|rfl|rfl|rfl|rfl|rfl|rfl|rfl|rfl|rfl<;>rfl
abbrev ilL (ds:List BDv):List IDv:=ds.map (·.il)
theorem kEF (ds:List BDv) {i:Nat} (a:i<ds.length):(ilL ds).getD i idK.d=(ds.getD i bdK.d).il:=by simp[ilL,List.getD,a]
theorem kF2 (ds:List BDv) {i:Nat} (a:i<ds.length):lkI (ilL ds) (i+1)=lkI (ilL ds) i++lk1 i (ds.getD i bdK.d).il (ds.getD i bdK.d).il.sup.ys.length:=by rw[lkI,kEF ds a]
structure LG where
 A:Option Addr
 c:Nat
theorem kBX {ys:List Int} {x d:Int} {i:Nat}:(ys++[x]).getD i d=if i<ys.length then ys.getD i d else if i=ys.length then x else d:=by
 by_cases h:i<ys.length
 ·rw[if_pos h];simp[List.getD,qP h]
 ·rw[if_neg h];by_cases e:i=ys.length
  ·rw[if_pos e];subst e;simp[List.getD]
  ·rw[if_neg e];rw[List.getD,List.getElem?_eq_none (by simp;omega)];rfl
theorem kLR {ys:List Int} {v:Nat} (h:rngP v ys):rngP ((v+1:Nat):Int) (ys++[(v:Int)]):=by
 intro i a;rw[qD,List.length_singleton] at a;rw[kBX];by_cases e:i<ys.length
 ·rw[if_pos e];have:=h i e;omega
 ·rw[if_neg e,if_pos (by omega)];omega
theorem kQR {ys:List Int} {v:Nat} (h:rngP v ys):rngP ((v+1:Nat):Int) ys:=fun i a=>by have:=h i a;omega
theorem kN2 {ys:List Int} {v m:Nat} (h:rngP v ys) (b:v≤m):rngP m ys:=fun i a=>by have:=h i a;omega
theorem kLS {ys:List Int} {v:Nat} (h:ascP ys) (a:rngP v ys):ascP (ys++[(v:Int)]):=by
 intro i b c;rw[qD,List.length_singleton] at b;rw[kBX,kBX,if_pos (by omega)];by_cases e:i<ys.length
 ·rw[if_pos e];exact h i e c
 ·rw[if_neg e,if_pos (by omega)];have:=a (i-1) (by omega);omega
def plcM (k:Nat) (a:Int):Int:=1048576+256* (((k:Int)* 5+modM a 12)%12)
theorem kQS (k:Nat) (a:Int):1048576≤plcM k a∧plcM k a≤1051392∧(plcM k a)%256=0:=by unfold plcM;omega
end Go.Pw
namespace Go.Sv
theorem RS.cellAt {α:Type} {K:Enc α} {w:World} {A:Option Addr} {ys:List α} (h:RS w K A ys) (m j:Nat) {o:Nat} {v:Value} (a:m<ys.length) (b:o=of A+m* K.sz+j) (c:(K.f (ys.getD m K.d))[j]?=some v):w.cell? ⟨bk A,o,none⟩=some v:=by
 subst b;exact h.cell a c
end Go.Sv
namespace Go.Pw
open Go.Sv Go.Drv
theorem kSO (d:BDv): ∀ {k:Nat},k<4→(bdC d)[2+k]?=some (.slice (d.pw.rl k).A (d.pw.rl k).ys.length (d.pw.rl k).c)
 |0,_=>rfl
 |1,_=>rfl
 |2,_=>rfl
 |3,_=>rfl
 |k+4,h=>by omega
def dhK:Enc DH where
 f d:=[.string (bs d.name),.slice d.sA d.ss.length d.sc,.slice d.tA d.hs.length d.tc]
 sz:=3
 d:=⟨[],none,0,[],none,0,[]⟩
 len _:=rfl
 pos:=by decide
 one r v hv:=by simp at hv;rcases hv with rfl|rfl|rfl<;>rfl
def BDv.few (d:BDv):Prop:=(∀k,k<4→(d.pw.rl k).ys.length≤20)∧d.il.sup.ys.length≤20∧d.drv.length≤200
def Few (ds:List BDv) (drs:List DH) (n:Nat):Prop:=(ds.length≤8∧drs.length≤8∧n≤20)∧(∀i,i<ds.length→(ds.getD i bdK.d).few)∧ ∀i,i<drs.length→(drs.getD i dhK.d).hs.length≤40∧(drs.getD i dhK.d).ss.length≤40
end Go.Pw
namespace Go.Pw
open Go.Sv Go.Rails
structure RM28 where
 b:Nat
 A:Option Addr
 n:Nat
 c:Nat
 lA:Option Addr
 lc:Nat
 lk:List Link
 oA:Option Addr
 oc:Nat
 on:List Bool
 uA:Option Addr
 uc:Nat
 us:List Int
 sA:Option Addr
 sc:Nat
 si:List Int
 clk:Int
def rmL (t:RM28):List Assn:=[Blk t.b (.cells #[.slice t.A t.n t.c,.slice t.lA t.lk.length t.lc,.slice t.oA t.on.length t.oc,.slice t.uA t.us.length t.uc,.slice t.sA t.si.length t.sc,.int .u64 t.clk] 321 (0,0)),OS 4 bolK t.oA t.oc t.on,OS 3 (intK .i64) t.uA t.uc t.us,OS 44 (intK .u64) t.sA t.sc t.si,OS 227 linkK t.lA t.lc t.lk]
structure MSt where
 sup:Hd
 con:Hd
 dly:Int
 act:Bool
 use:Int
 sin:Int
def ms0:MSt:=⟨hd0,hd0,0,false,0,0⟩
def MSt.wD (m:MSt) (x:Int):MSt:=⟨m.sup,m.con,x,m.act,m.use,m.sin⟩
def MSt.wS (m:MSt) (x:Hd):MSt:=⟨x,m.con,m.dly,m.act,m.use,m.sin⟩
def MSt.wC (m:MSt) (x:Hd):MSt:=⟨m.sup,x,m.dly,m.act,m.use,m.sin⟩
def msK:Enc MSt where
 f m:=[.slice m.sup.A m.sup.ys.length m.sup.c,.slice m.con.A m.con.ys.length m.con.c,.int .u64 m.dly,.bool m.act,.int .i64 m.use,.int .u64 m.sin]
 sz:=6
 d:=ms0
 len _:=rfl
 pos:=by decide
 one r v hv:=by simp at hv;rcases hv with rfl|rfl|rfl|rfl|rfl|rfl<;>rfl
def msF (m:MSt):Assn:=Bun [hdF m.sup,hdF m.con]
theorem kQT {I0:Ids} {w0 w:World} {L:List Assn} {ms:List MSt} {m:Nat} (h:Hp I0 w0 (L++[Big msF ms]) w) (a:m<ms.length):Hp I0 w0 (hdF (ms.getD m ms0).sup::hdF (ms.getD m ms0).con::(L++[Big msF (ms.eraseIdx m)])) w:=by
 have b:Hp I0 w0 (Big msF ms::L) w:=h.perm (qi _ _);have c:=b.focus (k:=0) (m:=m) ms0 rfl a;exact Hp.unbun (M:=[hdF (ms.getD m ms0).sup,hdF (ms.getD m ms0).con]) c
theorem kOI {I0:Ids} {w0 w:World} {L:List Assn} {ms:List MSt} {m:Nat} {a:MSt} (h:Hp I0 w0 (hdF a.sup::hdF a.con::(L++[Big msF (ms.eraseIdx m)])) w) (b:m<ms.length):Hp I0 w0 (L++[Big msF (ms.set m a)]) w:=by
 have c:Hp I0 w0 (msF a::(L++[Big msF (ms.eraseIdx m)])) w:=Hp.bun (M:=[hdF a.sup,hdF a.con]) h;have d:=Hp.unfocus (L:=msF a::L) (k:=0) (hs:=ms) (m:=m) (h':=a) (F:=msF) c rfl b;exact d.perm (qi _ _).symm
def MSI (ids:List IDv) (links:List Link) (n i j k:Nat) (ms:List MSt):Prop:=ms.length=n∧ ∀s,s<n→(ms.getD s ms0).sup.ys=nbM (links.take j) false s∧(ms.getD s ms0).con.ys=nbM (links.take k) true s∧(ms.getD s ms0).dly=(if s<i then (ids.getD s idK.d).dly else 0)∧(ms.getD s ms0).act=false∧(ms.getD s ms0).use=0∧(ms.getD s ms0).sin=0
theorem MSI.base (ids:List IDv) (links:List Link) (n:Nat):MSI ids links n 0 0 0 (List.replicate n ms0):=by
 refine⟨qH,fun s a=>?_⟩;have e:(List.replicate n ms0).getD s ms0=ms0:=by grind
 rw[e];exact⟨rfl,rfl,rfl,rfl,rfl,rfl⟩
theorem MSI.step {ids:List IDv} {links:List Link} {n i j k b c k2 s:Nat} {ms:List MSt} {a:MSt} (h:MSI ids links n i j k ms) (hs:s<n) (g:a.act=false∧a.use=0∧a.sin=0)
 (h0: ∀t,t<n→t≠s→nbM (links.take c) false t=nbM (links.take j) false t∧nbM (links.take k2) true t=nbM (links.take k) true t∧(t<b↔t<i))
 (l:a.sup.ys=nbM (links.take c) false s) (m:a.con.ys=nbM (links.take k2) true s) (o:a.dly=if s<b then (ids.getD s idK.d).dly else 0):MSI ids links n b c k2 (ms.set s a):=by
 refine⟨by rw[qI];exact h.1,fun t f=>?_⟩;by_cases e:s=t
 ·subst e;rw[kA1 _ _ _ _ (by rw[h.1];exact hs)];grind
 ·rw[kA0 _ _ _ e];obtain⟨p,q,r,u⟩:=h.2 t f
  grind
theorem MSI.dly {ids:List IDv} {links:List Link} {n i:Nat} {ms:List MSt} (h:MSI ids links n i 0 0 ms) (a:i<n):MSI ids links n (i+1) 0 0 (ms.set i ((ms.getD i msK.d).wD (ids.getD i idK.d).dly)):=by
 obtain⟨b,c,g,e⟩:=h.2 i a;exact h.step a e (fun t j f=>⟨rfl,rfl,by omega⟩) b c (by rw[if_pos (by omega)];rfl)
theorem kF3 {links:List Link} {j:Nat} (a:j<links.length) (b:Bool) (t:Nat):nbM (links.take (j+1)) b t=nbM (links.take j) b t++(if (if b then (links.getD j linkK.d).sup else (links.getD j linkK.d).con)=(t:Int) then [if b then (links.getD j linkK.d).con else (links.getD j linkK.d).sup] else []):=by
 grind [kAJ,kEk]
theorem MSI.supS {ids:List IDv} {links:List Link} {n i j k s:Nat} {ms:List MSt} (h:MSI ids links n i j k ms) (a:j<links.length) (b:(links.getD j linkK.d).con=s) (hs:s<n) (A:Option Addr) (c:Nat):MSI ids links n i (j+1) k (ms.set s ((ms.getD s msK.d).wS ⟨A,c,(ms.getD s msK.d).sup.ys++[(links.getD j linkK.d).sup]⟩)):=by
 obtain⟨e,f,g,l⟩:=h.2 s hs;refine h.step hs l (fun t o m=>⟨?_,rfl,Iff.rfl⟩) ?_ f g
 ·grind [kF3]
 ·rw[kF3 a,b,←e];simp only[qX,if_false,if_true];rfl
theorem MSI.conS {ids:List IDv} {links:List Link} {n i j k s:Nat} {ms:List MSt} (h:MSI ids links n i j k ms) (a:k<links.length) (b:(links.getD k linkK.d).sup=s) (hs:s<n) (A:Option Addr) (c:Nat):MSI ids links n i j (k+1) (ms.set s ((ms.getD s msK.d).wC ⟨A,c,(ms.getD s msK.d).con.ys++[(links.getD k linkK.d).con]⟩)):=by
 obtain⟨e,f,g,l⟩:=h.2 s hs;refine h.step hs l (fun t o m=>⟨rfl,?_,Iff.rfl⟩) e ?_ g
 ·grind [kF3]
 ·rw[kF3 a,if_pos rfl,b,if_pos rfl,if_pos rfl,←f];rfl
theorem MSI.len {ids:List IDv} {links:List Link} {n i j k s:Nat} {ms:List MSt} (h:MSI ids links n i j k ms) (hs:s<n):(ms.getD s msK.d).sup.ys.length≤links.length∧(ms.getD s msK.d).con.ys.length≤links.length:=⟨kHE (h.2 s hs).1,kHE (h.2 s hs).2.1⟩
theorem kOJ {ids:List IDv} {i:Nat} (h:0≤(ids.getD i idK.d).par):((lkI ids i).length:Int)+((ids.getD i idK.d).sup.ys.length:Int)+1=((lkI ids (i+1)).length:Int):=by grind [lkI,lk1]
theorem kOK {ids:List IDv} {i:Nat} (h: ¬0≤(ids.getD i idK.d).par):((lkI ids i).length:Int)+((ids.getD i idK.d).sup.ys.length:Int)=((lkI ids (i+1)).length:Int):=by grind [lkI,lk1]
theorem kJP {ids:List IDv} (h: ¬(64:Int)<ids.length) (a: ∀i,i<ids.length→ ¬badI ids.length (ids.getD i idK.d)) (b:(1024:Int)<(lkI ids ids.length).length):newI ids=1:=(kC1 h a).trans (kJM b)
theorem kOL {n:Nat} {links:List Link} (h:chkM n links=0) {j:Nat} (a:j<links.length):okL n (links.getD j linkK.d):=by
 by_cases e:okL n (links.getD j linkK.d)
 ·exact e
 ·exact absurd ((kHY (by grind) e).symm.trans h) (by decide)
theorem kN3 {β:Type} {F:β→Assn} {hs a:List β} (h:hs.map F=a.map F):Big F hs=Big F a:=by
 grind [Big]
theorem kQU {β:Type} {F:β→Assn} {hs:List β} {m:Nat} (d:β) {a:β} (b:m<hs.length) (h:F a=F (hs.getD m d)):Big F (hs.set m a)=Big F hs:=by
 refine kN3 ?_;apply List.ext_getElem (by simp)
 grind
theorem Hp.nilMs {I0:Ids} {w0 w:World} {A B C D:Assn} (h:Hp I0 w0 [A,B,C,D] w): ∀n,Hp I0 w0 [A,B,C,D,Big msF (List.replicate n ms0)] w
 |0=>Hp.nilBig (F:=msF) h
 |n+1=>by
  have a:=((Hp.nilMs h n).nilOS (e:=3) (K:=intK .i64)).nilOS (e:=3) (K:=intK .i64);have b:Hp I0 w0 [hdF hd0,hdF hd0,A,B,C,D,Big msF (List.replicate n ms0)] w:=a.sel [5,5,0,0,0,0,0] rfl;have c:Hp I0 w0 (msF ms0::[A,B,C,D,Big msF (List.replicate n ms0)]) w:=Hp.bun (M:=[hdF hd0,hdF hd0]) b;have d:Hp I0 w0 ([A,B,C,D,Big msF (List.replicate n ms0)]++[msF ms0]) w:=c.sel [1,1,1,1,1,0] rfl;have f:=Hp.bigSnoc (k:=4) d rfl;rw[List.replicate_succ'];exact f
theorem kJQ {I0:Ids} {w0 w:World} {A B C D E G:Assn} {ms:List MSt} {m:Nat} (h:Hp I0 w0 [A,B,C,D,E,G,Big msF ms] w) (a:m<ms.length):Hp I0 w0 [hdF (ms.getD m msK.d).sup,hdF (ms.getD m msK.d).con,A,B,C,D,E,G,Big msF (ms.eraseIdx m)] w:=kQT (L:=[A,B,C,D,E,G]) h a
theorem kHa {I0:Ids} {w0 w:World} {A B C D E:Assn} {ms:List MSt} {m:Nat} (a:MSt) (h:Hp I0 w0 [hdF a.sup,hdF a.con,A,B,C,D,E,Big msF (ms.eraseIdx m)] w) (b:m<ms.length):Hp I0 w0 [A,B,C,D,E,Big msF (ms.set m a)] w:=kOI (L:=[A,B,C,D,E]) h b
end Go.Pw
namespace Go.Pw
open Go.Sv Go.Rails Go.Dg
theorem kJW {n:Nat} {links:List Link} (h:chkM n links=0):(seqM n links).length=n:=by
 grind [chkM]
structure MG where
 b:Nat
 A:Option Addr
 c:Nat
 ms:List MSt
 oA:Option Addr
 oc:Nat
 od:List Int
 clk:Int
def mgL (t:MG):List Assn:=[Blk t.b (.cells #[.slice t.A t.ms.length t.c,.slice t.oA t.od.length t.oc,.int .u64 t.clk] 236 (0,0)),OS 233 msK t.A t.c t.ms,Big msF t.ms,OS 3 (intK .i64) t.oA t.oc t.od]
def MG.fresh (t:MG) (ids:List IDv):Prop:=MSI ids (lkI ids ids.length) ids.length ids.length (lkI ids ids.length).length (lkI ids ids.length).length t.ms∧t.od=seqM ids.length (lkI ids ids.length)∧t.clk=0
structure UN where
 own:Int
 pw:PDv
 base:Int
 q:Nat
 d:Go.Drv.DH
 st:Go.Drv.IS
 stp:Bool
 qA:Option Addr
 qc:Nat
 qs:List Bs
 wk:Bool
 rem:Int
def unC (u:UN):List Value:=[.int .i64 u.own,.int .i64 u.pw.par,.slice u.pw.r0.A u.pw.r0.ys.length u.pw.r0.c,.slice u.pw.r1.A u.pw.r1.ys.length u.pw.r1.c,.slice u.pw.r2.A u.pw.r2.ys.length u.pw.r2.c,.slice u.pw.r3.A u.pw.r3.ys.length u.pw.r3.c,.int .i64 u.pw.d0,.int .i64 u.pw.d1,.int .i64 u.pw.d2,.int .i64 u.pw.d3,.int .i64 u.pw.d4,.int .i64 u.pw.d5,.int .i64 u.pw.wd,.int .i64 u.pw.ws,.int .u64 u.base,.pointer (some ⟨u.q,0,none⟩),.bool u.stp,.slice u.qA u.qs.length u.qc,.bool u.wk,.int .i64 u.rem]
def un0:UN:=⟨0,pd0,0,0,⟨[],none,0,[],none,0,[]⟩,⟨0,false,0⟩,false,none,0,[],false,0⟩
def unK:Enc UN where
 f:=unC
 sz:=20
 d:=un0
 len _:=rfl
 pos:=by decide
 one r v hv:=by simp[unC] at hv;rcases hv with rfl|rfl|rfl|rfl|rfl|rfl|rfl|rfl|rfl|rfl|rfl|rfl|rfl|rfl|rfl|rfl|rfl|rfl|rfl|rfl<;>rfl
def unF (u:UN):Assn:=Bun (pdF u.pw::OS 9 strK u.qA u.qc u.qs::Go.Drv.kGb u.q u.d u.st)
theorem kON {I0:Ids} {w0 w:World} {e:PDv} {q:Nat} {d:Go.Drv.DH} (own base rem:Int) (h:Hp I0 w0 ([pdF e]++Go.Drv.kGb q d ⟨0,false,0⟩) w):Hp I0 w0 [unF ⟨own,e,base,q,d,⟨0,false,0⟩,false,none,0,[],false,rem⟩] w:=by
 have a:=(h.nilOS (e:=9) (K:=strK)).sel [0,4,0,0,0,0] rfl;exact Hp.bun (M:=pdF e::OS 9 strK none 0 []::Go.Drv.kGb q d ⟨0,false,0⟩) (R:=[]) a
def unZ:List Value:=[.int .i64 0,.int .i64 0,.slice none 0 0,.slice none 0 0,.slice none 0 0,.slice none 0 0,.int .i64 0,.int .i64 0,.int .i64 0,.int .i64 0,.int .i64 0,.int .i64 0,.int .i64 0,.int .i64 0,.int .u64 0,.pointer none,.bool false,.slice none 0 0,.bool false,.int .i64 0]
def unOk (d:BDv):Prop:=(0≤d.fn∧d.fn<255∧d.pw.par=d.il.par)∧(d.pw.r1.ys=[]∧d.pw.r2.ys=[]∧d.pw.r3.ys=[])∧(Go.Drv.kAH d.drv).1=0∧fitD (Go.Drv.kAH d.drv).2.ts
theorem kOO {d:BDv} (h:unOk d): ∀ {k:Nat},0<k→k<4→(d.pw.rl k).ys=[]
 |1,_,_=>h.2.1.1
 |2,_,_=>h.2.1.2.1
 |3,_,_=>h.2.1.2.2
 |0,h0,_=>by omega
 |k+4,_,h4=>by omega
theorem kSP {d:PDv} {k:Nat} (h: ∀j,j<k→0<j→(d.rl j).ys=[]) (a: ¬(0:Int)<((d.rl k).ys.length:Int)): ∀j,j<k+1→0<j→(d.rl j).ys=[]:=fun j b c=>by
 by_cases e:j=k
 ·simp_all
 grind
theorem kSQ {d:PDv} {k:Nat} (h: ∀j,j<k→0<j→(d.rl j).ys=[]) (b: ¬(k:Int)≠0): ∀j,j<k+1→0<j→(d.rl j).ys=[]:=fun j c a=>h j (by omega) a
def UN.of (u:UN) (d:BDv) (base:Int):Prop:=(u.own=d.fn∧Cpy d.pw u.pw 4∧u.base=base)∧u.d.d=(Go.Drv.kAH d.drv).2∧u.st=⟨0,false,0⟩∧u.stp=false∧u.qs=[]∧u.wk=false∧u.rem=4
end Go.Pw
namespace Go.Sv
theorem kDp (k k2:IntKind) (x:Int): ∀(es:List MapEntry) (m:List Int) (i:Nat),es.map (·.key)=m.map (fun l:Int=>Value.int k l)→
 Instr.findNow (.int k2) (.int k x) es i=some ((m.findIdx? (fun y=>decide (x=y))).bind fun j=>(es[j]?).map fun e=>(i+j,e.val))
 |[],[],i,_=>by grind [Instr.findNow]
 |e::es,y::m,i,h=>by
  simp only[List.map_cons,List.cons.injEq] at h;have hs:Instr.sameNow (.int k2) (.int k x) e.key=some (decide (x=y)):=by grind [Instr.sameNow]
  simp only[Instr.findNow,hs,List.findIdx?_cons];by_cases a:x=y
  ·grind
  ·simp only[a,decide_false,qX,if_false];rw[kDp k k2 x es m (i+1) h.2];cases b:m.findIdx? (fun y=>decide (x=y)) with
   |none=>simp
   |some j=>grind
 |[],_::_,_,h=>by grind
 |_::_,[],_,h=>by grind
theorem KeyT.int {P:Program} {kt:TypeId} {k k2:IntKind} (hu:P.underlying kt=some (.int k2)):KeyT P kt (Value.int k) where
 check em x w:=by
  show(Instr.checkKey em (9999+1) kt _).run P w=_;rw[Instr.checkKey];simp_all[run_underlying]
 find x es ms h w:=by
  simp only[Instr.findKey,Sem.run_bind,run_underlying hu,Result.andThen_ok,kDp k k2 x es ms 0 h,Nat.zero_add,Sem.run_pure]
theorem kF5 (x:Int): ∀l:List Int,mget (l.map fun y=>(y,true)) x=if x∈l then some true else none
 |[]=>by simp[mget]
 |y::l=>by
  simp only[List.map_cons,mget,kF5 x l,qe]
  grind
theorem kJX (x:Int) (l:List Int):(mget (l.map fun y=>(y,true)) x).getD false=decide (x∈l):=by grind [kF5]
end Go.Sv
namespace Go.Pw
open Go.Sv Go.Rails Go.Dg
structure CP where
 b:Nat
 uA:Option Addr
 uc:Nat
 us:List UN
 t:TT
 m:MG
 bb:Nat
 oA:Option Addr
 oc:Nat
 od:List Int
def cpL (p:CP):List Assn:=[Blk p.b (.cells #[.slice p.uA p.us.length p.uc,.pointer (some ⟨p.t.b,0,none⟩),.pointer (some ⟨p.m.b,0,none⟩),.pointer (some ⟨p.bb,0,none⟩),.slice p.oA p.od.length p.oc] 126 (0,0)),OS 131 unK p.uA p.uc p.us,Big unF p.us,OS 3 (intK .i64) p.oA p.oc p.od]++(ttL p.t++mgL p.m)
abbrev pwL (ds:List BDv):List PDv:=ds.map (·.pw)
abbrev fnL (ds:List BDv):List Int:=ds.map (·.fn)
theorem kGc (ds:List BDv) {i:Nat} (a:i<ds.length):(pwL ds).getD i pdK.d=(ds.getD i bdK.d).pw:=by grind
theorem kSR (ds:List BDv) {i:Nat} (a:i<ds.length):(fnL ds).getD i 0=(ds.getD i bdK.d).fn:=by grind
def BDv.inn (d:BDv) (w:World):Prop:=d.pw.rs w∧d.pw.sm 1000000∧RS w (intK .i64) d.il.sup.A d.il.sup.ys∧d.drv.length≤900000
theorem kFr {ds:List BDv} (a:newI (ilL ds)=0):chkM ds.length (lkI (ilL ds) ds.length)=0∧ ∀i,i<ds.length→ ¬badI ds.length (ds.getD i bdK.d).il:=by
 grind [newI]
theorem kQW {ds:List BDv} (h:ds.length≤64) (a: ∀i,i<ds.length→ ¬badI ds.length (ds.getD i bdK.d).il):(lkI (ilL ds) ds.length).length≤1000000:=by
 grind [kCK,badI]
structure PwOk (ds:List BDv) (rs:List Rail) (bs:List Int):Prop where
 n:ds.length≤16
 nb:bs.length=ds.length
 aln:alnP bs
 un: ∀i,i<ds.length→unOk (ds.getD i bdK.d)
 ow:(fnL ds).Nodup
 tr:newT (pwL ds) rs=0
 mg:newI (ilL ds)=0
theorem PwOk.lk {ds:List BDv} {rs:List Rail} {bs:List Int} (h:PwOk ds rs bs):chkM ds.length (lkI (ilL ds) ds.length)=0∧ ∀i,i<ds.length→ ¬badI ds.length (ds.getD i bdK.d).il:=kFr h.mg
structure CP.fresh (p:CP) (ds:List BDv) (rs:List Rail) (bs:List Int) (bb:Nat):Prop where
 bb:p.bb=bb
 un:p.us.length=ds.length
 us: ∀i,i<ds.length→(p.us.getD i un0).of (ds.getD i bdK.d) (bs.getD i 0)
 trs:p.t.rs=new0 rs
 tst:p.t.st=List.replicate ds.length 4
 tck:p.t.clk=0
 tn:p.t.es.length=ds.length
 tcp:Cpys (pwL ds) p.t.es
 mg:p.m.fresh (ilL ds)
 od:p.od=seqM ds.length (lkI (ilL ds) ds.length)
structure PG where
 us:List UN
 uA:Option Addr
 uc:Nat
 pA:Option Addr
 pc:Nat
 iA:Option Addr
 ic:Nat
theorem kAB {β γ:Type} (f:β→γ) (l:List β) (d:β) {i:Nat} (h:i<l.length):(l.take (i+1)).map f=(l.take i).map f++[f (l.getD i d)]:=by
 grind [List.take_succ_eq_append_getElem]
theorem kLU {l:List Int} {d:Int} {i:Nat} (h:i<l.length) (b:l.getD i d∈l.take i): ¬l.Nodup:=fun a=>by
 have c:=a.sublist (List.take_sublist (i+1) l)
 grind [List.take_succ_eq_append_getElem]
theorem kC2 {β:Type} {us:List β} {u d:β} {P:Nat→β→Prop} {i:Nat} (a:us.length=i) (h: ∀j,j<i→P j (us.getD j d)) (b:P i u): ∀j,j<i+1→P j ((us++[u]).getD j d):=fun j c=>by
 by_cases e:j<i
 ·have:=h j e;rwa [List.getD,qP (by omega)]
 ·obtain rfl:j=i:=by omega
  rw[List.getD,List.getElem?_append_right (by omega),a,Nat.sub_self];exact b
theorem kJY {ds:List BDv} {bs:List Int} {i:Nat} {us:List UN} {u:UN} (h:(i≤ds.length∧us.length=i)∧(∀j,j<i→unOk (ds.getD j bdK.d)∧(us.getD j un0).of (ds.getD j bdK.d) (bs.getD j (intK .u64).d))∧((ds.take i).map (·.fn)).Nodup) (l:i<ds.length)
 (c:unOk (ds.getD i bdK.d)) (g:u.of (ds.getD i bdK.d) (bs.getD i (intK .u64).d)) (f:u.own∉(ds.take i).map (·.fn)):
 (i+1≤ds.length∧(us++[u]).length=i+1)∧(∀j,j<i+1→unOk (ds.getD j bdK.d)∧((us++[u]).getD j un0).of (ds.getD j bdK.d) (bs.getD j (intK .u64).d))∧((ds.take (i+1)).map (·.fn)).Nodup:=by
 refine⟨⟨by omega,by rw[qD,List.length_singleton,h.1.2]⟩,kC2 (P:=fun j x=>unOk (ds.getD j bdK.d)∧x.of (ds.getD j bdK.d) (bs.getD j (intK .u64).d)) h.1.2 h.2.1 ⟨c,g⟩,?_⟩;rw[kAB (·.fn) ds bdK.d l,List.nodup_append];refine⟨h.2.2,by simp,fun a m b k e=>f ?_⟩;rw[qm] at k;rw[g.1.1,←k,←e];exact m
theorem kSS {ds:List BDv} (h:((ds.take ds.length).map (·.fn)).Nodup):(fnL ds).Nodup:=by rwa [List.take_length] at h
theorem kLV {ds:List BDv} {i:Nat} (a:i<ds.length) (b:(ds.getD i bdK.d).fn∈(ds.take i).map (·.fn)): ¬(fnL ds).Nodup:=by
 refine kLU (i:=i) (d:=0) (by rw[qE];exact a) ?_;rw[kSR ds a,List.map_take.symm];exact b
theorem kJZ {I:Ids} {w b:World} {ds:List BDv} {i mb:Nat} {u:UN} {X B c:Assn} {pA iA:Option Addr} {pc ic:Nat} {base:Int} (e:u.of (ds.getD i bdK.d) base) (a:i<ds.length)
 (h:Hp I w [c,OM mb (Value.int .i64) Value.bool (((ds.take i).map (·.fn)).map (fun y=>(y,true))++[(u.own,true)]),X,B,OS 55 pdK pA pc ((ds.take i).map (·.pw)++[(ds.getD i bdK.d).pw]),OS 57 idK iA ic ((ds.take i).map (·.il)++[(ds.getD i bdK.d).il])] b):
 Hp I w [c,OM mb (Value.int .i64) Value.bool (((ds.take (i+1)).map (·.fn)).map (fun y=>(y,true))),X,B,OS 55 pdK pA pc ((ds.take (i+1)).map (·.pw)),OS 57 idK iA ic ((ds.take (i+1)).map (·.il))] b:=by
 rw[kAB (·.fn) ds bdK.d a,kAB (·.pw) ds bdK.d a,kAB (·.il) ds bdK.d a,qN,←e.1.1];exact h
end Go.Pw
namespace Go.Pw
open Go.Sv Go.Ios
def OkO (ps:Nat→Int×Int) (s0:BS):Nat→BS→Prop
 |0,s=>s=s0
 |i+1,s=> ∃s1 s2 e,OkO ps s0 i s1∧MapO s1 0 (ps i).1 256 (ps i).2 0 s2∧EnO s2 (ps i).2 false e s
def OkR (ps:Nat→Int×Int) (s0:RB):Nat→RB→Prop
 |0,s=>s=s0
 |i+1,s=> ∃s1 s2 e,OkR ps s0 i s1∧MapR s1 0 (ps i).1 256 (ps i).2 0 s2∧EnR s2 (ps i).2 false e s
def EndO (ps:Nat→Int×Int) (s0:BS) (n:Nat) (e:Int) (s:BS):Prop:=(e=0∧OkO ps s0 n s)∨(e≠0∧ ∃i s1,i<n∧OkO ps s0 i s1∧MapO s1 0 (ps i).1 256 (ps i).2 e s)
def EndR (ps:Nat→Int×Int) (s0:RB) (n:Nat) (e:Int) (s:RB):Prop:=(e=0∧OkR ps s0 n s)∨(e≠0∧ ∃i s1,i<n∧OkR ps s0 i s1∧MapR s1 0 (ps i).1 256 (ps i).2 e s)
theorem kGk {s d:BS} {z p q o e:Int} (a:s.ok) (f:isU p) (h:MapO s z p q o e d):d.ok:=by
 cases h with
 |bad _=>exact a
 |busy _ _ _ _=>exact a
 |full _ _ _ _ _=>exact a
 |done m l A c n b g j=>
  have k:m<3:=by omega
  exact kJl a k ⟨f,b.2.1,b.2.2.1,b.2.2.2,.inl ⟨rfl,rfl⟩,fun i=>by simp⟩ g j A c
theorem kJw {s a:BS} {o e:Int} {v:Bool} (b:s.ok) (h:EnO s o v e a):a.ok:=by
 cases h with
 |bad _=>exact b
 |done c=>exact b.en o.toNat v
theorem kJx {s b:RB} {z p q o e:Int} (a:s.ok) (c:isU p) (h:MapR s z p q o e b):b.ok:=by
 cases h with
 |bad _=>exact a
 |busy _ _=>exact a
 |full _ _ _=>exact a
 |done A d f g i j=>grind [kJv,kJu]
theorem kQi {s b:RB} {o e:Int} {v:Bool} (a:s.ok) (h:EnR s o v e b):b.ok:=by
 cases h with
 |bad _=>exact a
 |done c=>exact⟨by show(s.en.set _ _).length=256;rw[qI];exact a.en,a.each,a.max,a.fl,a.fr,a.tr⟩
theorem OkO.ok {ps:Nat→Int×Int} {a:BS} (b:a.ok): ∀ {i:Nat} {s:BS},(∀j,j<i→isU (ps j).1)→OkO ps a i s→s.ok
 |0,s,_,h=>by cases h;exact b
 |i+1,s,hu,⟨s1,s2,e,h1,h2,h3⟩=>kJw (kGk (OkO.ok b (fun j c=>hu j (by omega)) h1) (hu i (by omega)) h2) h3
theorem OkR.ok {ps:Nat→Int×Int} {a:RB} (b:a.ok): ∀ {i:Nat} {s:RB},(∀j,j<i→isU (ps j).1)→OkR ps a i s→s.ok
 |0,s,_,h=>by cases h;exact b
 |i+1,s,hu,⟨s1,s2,e,h1,h2,h3⟩=>kQi (kJx (OkR.ok b (fun j c=>hu j (by omega)) h1) (hu i (by omega)) h2) h3
theorem OkO.rel {ps:Nat→Int×Int} {a:BS} {r0:RB} {b:Nat} (R:Rel a r0 b): ∀ {i:Nat} {s:BS} {r:RB},(∀j,j<i→isU (ps j).1)→OkO ps a i s→OkR ps r0 i r→ ∃n,Rel s r n
 |0,s,r,_,h,h'=>by cases h;cases h';grind
 |i+1,s,r,hu,⟨s1,s2,e,h1,h2,h3⟩,⟨r1,r2,e',g1,g2,g3⟩=>by
  obtain⟨n,c⟩:=OkO.rel R (fun j d=>hu j (by omega)) h1 g1;exact⟨_,(((c.map (hu i (by omega)) h2 g2).2).enb h3 g3).2⟩
theorem OkO.pre {ps:Nat→Int×Int} {b:BS} {i:Nat}: ∀ {n:Nat} {s:BS},OkO ps b n s→i<n→ ∃a d,OkO ps b i a∧MapO a 0 (ps i).1 256 (ps i).2 0 d
 |n+1,s,⟨a,d,e,h1,h2,h3⟩,hi=>by
  by_cases c:i=n
  ·grind
  ·exact OkO.pre h1 (by omega)
theorem OkR.pre {ps:Nat→Int×Int} {b:RB} {i:Nat}: ∀ {n:Nat} {s:RB},OkR ps b n s→i<n→ ∃a d,OkR ps b i a∧MapR a 0 (ps i).1 256 (ps i).2 0 d
 |n+1,s,⟨a,d,e,h1,h2,h3⟩,hi=>by
  by_cases c:i=n
  ·grind
  ·exact OkR.pre h1 (by omega)
theorem kQj {ps:Nat→Int×Int} {o s:BS} {r0 r:RB} {n y:Nat} {e f:Int} (R:Rel o r0 y) (x: ∀j,j<n→isU (ps j).1) (h:EndO ps o n e s) (g:EndR ps r0 n f r):e=f:=by
 have key: ∀ {i b a p q e f},i<n→OkO ps o i b→OkR ps r0 i a→MapO b 0 (ps i).1 256 (ps i).2 e p→MapR a 0 (ps i).1 256 (ps i).2 f q→e=f:=fun {i b a p q e f} t k d u l=>by
  obtain⟨m,z⟩:=OkO.rel R (fun j v=>x j (by omega)) k d;exact(z.map (x i t) u l).1
 rcases h with ⟨A,h⟩|⟨A,i,b,t,k,u⟩
 ·rcases g with ⟨w,g⟩|⟨w,j,a,v,d,l⟩
  ·grind
  ·obtain⟨b,p,k,u⟩:=h.pre v
   grind
 ·rcases g with ⟨w,g⟩|⟨w,j,a,v,d,l⟩
  ·obtain⟨a,q,d,l⟩:=g.pre t
   grind
  ·rcases Nat.lt_trichotomy i j with c|c|c
   ·obtain⟨B,C,D,E⟩:=d.pre c
    grind
   ·grind
   ·obtain⟨F,G,H,I⟩:=k.pre c
    grind
section
variable {I0:Ids} {w0 w:World} {p:CP} {X:List Assn}
def cpB (p:CP):Assn:=Blk p.b (.cells #[.slice p.uA p.us.length p.uc,.pointer (some ⟨p.t.b,0,none⟩),.pointer (some ⟨p.m.b,0,none⟩),.pointer (some ⟨p.bb,0,none⟩),.slice p.oA p.od.length p.oc] 126 (0,0))
def cpU (p:CP):Assn:=OS 131 unK p.uA p.uc p.us
def cpR (p:CP):List Assn:=[Big unF p.us,OS 3 (Rails.intK .i64) p.oA p.oc p.od]++(ttL p.t++mgL p.m)
theorem kDu {M:List Assn} (h:Hp I0 w0 (X++M) w):Hp I0 w0 (X++[Bun M]) w:=
 (Hp.bun (h.perm qf)).perm (qi _ _).symm
theorem kJy {M Y:List Assn} (h:Hp I0 w0 (X++[Bun M]++Y) w):Hp I0 w0 (X++M++Y) w:=by
 have a:Hp I0 w0 (Bun M::(X++Y)) w:=h.perm (by
  simp_all)
 have b:=Hp.unbun (M:=M) a;refine b.perm ?_
 grind [qf]
theorem kOf (h:Hp I0 w0 (X++cpL p) w):Hp I0 w0 (X++[cpB p,cpU p,Bun (cpR p)]) w:=by
 have a:Hp I0 w0 ((X++[cpB p,cpU p])++cpR p) w:=by rw[qL];exact h
 have b:=kDu a
 grind
theorem kQk (h:Hp I0 w0 ([cpB p,cpU p,Bun (cpR p)]++X) w):Hp I0 w0 (cpL p++X) w:=kJy (X:=[cpB p,cpU p]) (Y:=X) h
end
def psM (ds:List BDv) (bs:List Int) (i:Nat):Int×Int:=(bs.getD i (Rails.intK .u64).d,(ds.getD i bdK.d).fn)
def roP (A B C:Option Addr) (ds:List BDv) (rs:List Rails.Rail) (bs:List Int):Ids:=fun b=>(ds≠[]∧b=bk A)∨(rs≠[]∧b=bk B)∨(bs≠[]∧b=bk C)∨ ∃i,i<ds.length∧((∃k,k<4∧((ds.getD i bdK.d).pw.rl k).ys≠[]∧b=bk ((ds.getD i bdK.d).pw.rl k).A)∨((ds.getD i bdK.d).il.sup.ys≠[]∧b=bk (ds.getD i bdK.d).il.sup.A))
end Go.Pw
namespace Go.Pw
open Go.Sv Go.Rails Go.Dg
theorem kSW {ds:List BDv} (h: ∀j,j<ds.length→ ∀k,k<j→(ds.getD k bdK.d).fn≠(ds.getD j bdK.d).fn):(fnL ds).Nodup:=by
 rw[List.Nodup,List.pairwise_iff_getElem];intro i j c a b;rw[qE] at c a;have:=h j a i b;simpa[List.getD,c,a] using this
theorem kQl {ds:List BDv} {i k:Nat} (b:i<ds.length) (e:k<i) (h:(ds.getD k bdK.d).fn=(ds.getD i bdK.d).fn): ¬(fnL ds).Nodup:=fun c=>by
 rw[List.Nodup,List.pairwise_iff_getElem] at c;have:=c k i (by rw[qE];omega) (by rw[qE];exact b) e;have a:k<ds.length:=by omega
 simp[List.getD,b,a] at h;simp only[List.getElem_map] at this;exact this h
theorem kBv {ds:List BDv} {i:Nat} {P:Nat→Prop} (h: ∀j,j<i→P j) (a:P i): ∀j,j<i+1→P j:=fun j b=>by
 by_cases e:j=i
 ·subst e;exact a
 ·exact h j (by omega)
theorem kGl {d:BDv} (a:0≤d.fn) (b:d.fn<255) (c:d.pw.par=d.il.par) (g: ¬(0:Int)<(d.pw.r1.ys.length:Int)+(d.pw.r2.ys.length:Int)+(d.pw.r3.ys.length:Int)) (e:(Go.Drv.kAH d.drv).1=0) (f:fitD (Go.Drv.kAH d.drv).2.ts):unOk d:=
 ⟨⟨a,b,c⟩,⟨qO (by omega),qO (by omega),qO (by omega)⟩,e,f⟩
theorem kLc {d:BDv} (h:unOk d): ¬(0:Int)<(d.pw.r1.ys.length:Int)+(d.pw.r2.ys.length:Int)+(d.pw.r3.ys.length:Int):=by
 obtain⟨a,b,c⟩:=h.2.1;rw[a,b,c];decide
end Go.Pw
namespace Go.Sv
theorem Fx.bun {P:Program} {f:FuncId} {vs:List Value} {w:World} {M:List Assn} {ro:Ids} {post:Value→List Assn→Prop} (h:Fx P f vs w M ro post):Fx P f vs w [Bun M] ro (fun v L=> ∃c,post v c∧L=[Bun c]):=fun I d a=>by
 obtain⟨i,j,hI,p,g,l⟩:=d;have e: ∀x,I x↔i x:=fun x=>by rw[hI x];exact⟨fun k=>k.elim id fun k=>absurd k (l x),.inl⟩
 have b:I=i:=funext fun x=>propext (e x);subst b;exact(h I g a).mono fun e q ⟨v,m,n,o,r⟩=>⟨v,_,n,⟨m,o,rfl⟩,Hp.bun (R:=[]) (by grind)⟩
end Go.Sv
namespace Go.Pw
open Go.Sv Go.Rails Go.Dg
structure SH where
 A:Option Addr
 c:Nat
 ys:List Bs
def sh0:SH:=⟨none,0,[]⟩
def shK:Enc SH where
 f h:=[.slice h.A h.ys.length h.c]
 sz:=1
 d:=sh0
 len _:=rfl
 pos:=by decide
 one r v hv:=by simp at hv;subst hv;rfl
def shF (h:SH):Assn:=OS 9 strK h.A h.c h.ys
structure RI where
 q:Nat
 d:Go.Drv.DH
 pos:Int
 wt:Int
 ev:Bs
def ri0:RI:=⟨0,⟨[],none,0,[],none,0,[]⟩,0,0,[]⟩
def riK:Enc RI where
 f r:=[.pointer (some ⟨r.q,0,none⟩)]
 sz:=1
 d:=ri0
 len _:=rfl
 pos:=by decide
 one r v hv:=by simp at hv;subst hv;rfl
def riL (r:RI):List Assn:=Blk r.q (.cells #[.string (bs r.d.name),.slice r.d.sA r.d.ss.length r.d.sc,.slice r.d.tA r.d.hs.length r.d.tc,.int .i64 r.pos,.int .i64 r.wt,.string (bs r.ev)] 73 (0,0))::Go.Drv.dL r.d
def riF (r:RI):Assn:=Bun (riL r)
def RI.of (r:RI) (d:BDv):Prop:=r.d.d=(Go.Drv.kAH d.drv).2∧r.pos=0∧r.wt= -1∧r.ev=[]
section
variable {I0:Ids} {w0 w:World} {X:List Assn}
theorem kQm {rs:List RI} (r:RI) (h:Hp I0 w0 (X++(Big riF rs::riL r)) w):Hp I0 w0 (X++[Big riF (rs++[r])]) w:=by
 have a:Hp I0 w0 ((X++[Big riF rs])++riL r) w:=by grind
 have b:Hp I0 w0 ((X++[Big riF rs])++[riF r]) w:=kDu a;have c:Hp I0 w0 ((Big riF rs::X)++[riF r]) w:=b.perm ((qi _ _).append_right _);have d:=Hp.bigSnoc (L:=Big riF rs::X) (k:=0) c rfl;exact d.perm (qi _ _).symm
theorem kQn (h:Hp I0 w0 X w): ∀n,Hp I0 w0 (X++[Big shF (List.replicate n sh0)]) w
 |0=>Hp.nilBig (F:=shF) h
 |n+1=>by
  have a:Hp I0 w0 ((X++[Big shF (List.replicate n sh0)])++[shF sh0]) w:=(kQn h n).nilOS (e:=9) (K:=strK);have b:Hp I0 w0 ((Big shF (List.replicate n sh0)::X)++[shF sh0]) w:=a.perm ((qi _ _).append_right _);have c:=Hp.bigSnoc (L:=Big shF (List.replicate n sh0)::X) (k:=0) b rfl;have d:Hp I0 w0 (Big shF (List.replicate n sh0++[sh0])::X) w:=c;rw[List.replicate_succ'];exact d.perm (qi _ _).symm
theorem kQo {Y T M:List Assn} (n:Nat) (h:Hp I0 w0 (Y++[Bun T]++([Bun M]++X)) w):Hp I0 w0 (Y++([Big shF (List.replicate n sh0)]++(T++M))++X) w:=by
 have d:Hp I0 w0 (Y++T++([Bun M]++X)) w:=kJy h;have a:Hp I0 w0 ((Y++T)++[Bun M]++X) w:=by grind
 have b:Hp I0 w0 ((Y++T)++M++X) w:=kJy a;have c:=kQn b n;refine c.perm ((qi _ _).trans ?_);have:(Y++([Big shF (List.replicate n sh0)]++(T++M))++X)=Y++(Big shF (List.replicate n sh0)::(T++M++X)):=by simp
 rw[this,show Y++T++M++X=Y++(T++M++X) by simp];exact List.perm_middle.symm
end
structure RP where
 b:Nat
 A:Option Addr
 c:Nat
 n:Nat
 bA:Option Addr
 bc:Nat
 bs:List Int
 bb:Nat
 t:TR27
 m:RM28
 qA:Option Addr
 qc:Nat
 ds:List RI
 sA:Option Addr
 sc:Nat
 stp:List Bool
 uA:Option Addr
 uc:Nat
 que:List SH
 wA:Option Addr
 wc:Nat
 wk:List Bool
 xA:Option Addr
 xc:Nat
 was:List Int
 lA:Option Addr
 lc:Nat
 lk:List Link
 pc:Nat
 pw:List PDv
 ic:Nat
 il:List IDv
def rpB (p:RP):Assn:=Blk p.b (.cells #[.slice p.A p.n p.c,.slice p.bA p.bs.length p.bc,.pointer (some ⟨p.bb,0,none⟩),.pointer (some ⟨p.t.b,0,none⟩),.pointer (some ⟨p.m.b,0,none⟩),.slice p.qA p.ds.length p.qc,.slice p.sA p.n p.sc,.slice p.uA p.n p.uc,.slice p.wA p.n p.wc,.slice p.xA p.n p.xc,.slice p.lA p.lk.length p.lc] 224 (0,0))
def rpR (p:RP):List Assn:=[OS 44 (intK .u64) p.bA p.bc p.bs,OS 4 bolK p.sA p.sc p.stp,OS 45 shK p.uA p.uc p.que,OS 4 bolK p.wA p.wc p.wk,OS 3 (intK .i64) p.xA p.xc p.was,OS 60 riK p.qA p.qc p.ds,Big riF p.ds,OS 55 pdK p.t.A p.pc p.pw,OS 57 idK p.m.A p.ic p.il,Big shF p.que]++(trL p.t++rmL p.m)
def rpL (p:RP):List Assn:=rpB p::OS 227 linkK p.lA p.lc p.lk::rpR p
theorem kOg {I0:Ids} {w0 w:World} {a:Assn} (p:RP) (n:Nat) (c:p.que=List.replicate n sh0) (h:Hp I0 w0 [rpB p,OS 227 linkK p.lA p.lc p.lk,OS 44 (intK .u64) p.bA p.bc p.bs,OS 4 bolK p.sA p.sc p.stp,OS 45 shK p.uA p.uc p.que,OS 4 bolK p.wA p.wc p.wk,OS 3 (intK .i64) p.xA p.xc p.was,OS 60 riK p.qA p.qc p.ds,Big riF p.ds,OS 55 pdK p.t.A p.pc p.pw,OS 57 idK p.m.A p.ic p.il,Bun (trL p.t),Bun (rmL p.m),a] w):Hp I0 w0 (rpL p++[a]) w:=by
 have b:=kQo (Y:=[rpB p,OS 227 linkK p.lA p.lc p.lk,OS 44 (intK .u64) p.bA p.bc p.bs,OS 4 bolK p.sA p.sc p.stp,OS 45 shK p.uA p.uc p.que,OS 4 bolK p.wA p.wc p.wk,OS 3 (intK .i64) p.xA p.xc p.was,OS 60 riK p.qA p.qc p.ds,Big riF p.ds,OS 55 pdK p.t.A p.pc p.pw,OS 57 idK p.m.A p.ic p.il]) (T:=trL p.t) (M:=rmL p.m) (X:=[a]) n h;rw[←c] at b;exact b
structure RP.fresh (p:RP) (ds:List BDv) (rs:List Rail) (bs:List Int) (A:Option Addr) (c bb:Nat):Prop where
 A:p.A=A
 n:p.n=ds.length
 c:p.c=c
 bs:p.bs=bs
 bb:p.bb=bb
 tn:p.t.n=ds.length
 trs:p.t.rs=new0 rs
 tst:p.t.st=List.replicate ds.length 4
 tck:p.t.clk=0
 mn:p.m.n=ds.length
 mlk:p.m.lk=lkI (ilL ds) ds.length
 mon:p.m.on=List.replicate ds.length false
 mus:p.m.us=List.replicate ds.length 0
 msi:p.m.si=List.replicate ds.length 0
 mck:p.m.clk=0
 dn:p.ds.length=ds.length
 di: ∀i,i<ds.length→(p.ds.getD i ri0).of (ds.getD i bdK.d)
 stp:p.stp=List.replicate ds.length false
 que:p.que=List.replicate ds.length sh0
 wk:p.wk=List.replicate ds.length false
 wn:p.was.length=ds.length
 wa: ∀i,i<ds.length→p.was.getD i 0=4
 lk:p.lk=lkI (ilL ds) ds.length
 pw:p.pw=pwL ds
 il:p.il=ilL ds
structure RG where
 pA:Option Addr
 pc:Nat
 iA:Option Addr
 ic:Nat
 qA:Option Addr
 qc:Nat
 rs:List RI
 lA:Option Addr
 lc:Nat
 ws:List Int
structure P4 where
 pA:Option Addr
 pc:Nat
 iA:Option Addr
 ic:Nat
theorem kOh {ws:List Int} {n i:Nat} (a:ws.length=n) (b:i<n) (h: ∀j,j<i→ws.getD j 0=4):(ws.set i 4).length=n∧ ∀j,j<i+1→(ws.set i 4).getD j 0=4:=by
 grind [kA0]
def PDv.setD (d:PDv) (k:Nat) (v:Int):PDv:=match k with
 |0=>{d with d0:=v}
 |1=>{d with d1:=v}
 |2=>{d with d2:=v}
 |3=>{d with d3:=v}
 |4=>{d with d4:=v}
 |_=>{d with d5:=v}
theorem kCe (d:PDv): ∀ {k:Nat} (v:Int),k<6→((pdC d).toArray.toList.take (0+5+k* 1)++[Value.int .i64 v]++(pdC d).toArray.toList.drop (0+5+k* 1+[Value.int .i64 v].length)).toArray=(pdC (d.setD k v)).toArray
 |0,_,_=>rfl
 |1,_,_=>rfl
 |2,_,_=>rfl
 |3,_,_=>rfl
 |4,_,_=>rfl
 |5,_,_=>rfl
 |k+6,_,h=>by omega
theorem kFA (d:PDv) (v:Int) {k j:Nat} (a:k<6) (b:j<6):(d.setD k v).dp j=if j=k then v else d.dp j:=by
 obtain rfl|rfl|rfl|rfl|rfl|rfl:k=0∨k=1∨k=2∨k=3∨k=4∨k=5:=by omega
 all_goals (obtain rfl|rfl|rfl|rfl|rfl|rfl:j=0∨j=1∨j=2∨j=3∨j=4∨j=5:=by omega)<;>rfl
theorem kOi (d:PDv) (v:Int) (k j:Nat):(d.setD k v).rl j=d.rl j:=by
 unfold PDv.setD;split<;>(unfold PDv.rl;rfl)
theorem kDS (d:PDv) (v:Int) (k:Nat):pdF (d.setD k v)=pdF d:=by
 unfold PDv.setD;split<;>rfl
theorem kOj (d:PDv) (h:Hd) {k j:Nat} (a:k<4) (b:j<4):(d.setR k h).rl j=if j=k then h else d.rl j:=by
 obtain rfl|rfl|rfl|rfl:k=0∨k=1∨k=2∨k=3:=by omega
 all_goals (obtain rfl|rfl|rfl|rfl:j=0∨j=1∨j=2∨j=3:=by omega)<;>rfl
theorem kLd (d:PDv) (h:Hd) {k:Nat} (a:k<4):(d.setR k h).rls=d.rls.set k h:=by
 obtain rfl|rfl|rfl|rfl:k=0∨k=1∨k=2∨k=3:=by omega
 all_goals rfl
structure SmA (e:PDv) (i:Nat) (m:Int):Prop where
 par: -1≤e.par∧e.par<i
 rl: ∀j,j<4→ascP (e.rl j).ys∧rngP m (e.rl j).ys∧(e.rl j).ys.length≤3
 ws:0≤e.ws∧e.ws≤4
 wd:0≤e.wd∧e.wd≤3
 d0:e.d0=0
def DpA (e:PDv) (k:Nat):Prop:= ∀j,j<k→(0≤e.dp j∧e.dp j≤4)∧(0<j→e.dp (j-1)≤e.dp j)
theorem SmA.setR {e:PDv} {i:Nat} {m:Int} (h:SmA e i m) {k:Nat} (b:k<4) (A:Option Addr) (c:Nat) {ys:List Int} (d:ys.length≤3) (f:ascP ys) (g:rngP m ys):SmA (e.setR k ⟨A,c,ys⟩) i m:=by
 obtain rfl|rfl|rfl|rfl:k=0∨k=1∨k=2∨k=3:=by omega
 all_goals
  refine⟨h.par,fun j a=>?_,h.ws,h.wd,h.d0⟩;rw[kOj e _ (by decide) a];split
  ·grind
  ·exact h.rl j a
theorem SmA.setD {e:PDv} {i:Nat} {m:Int} (h:SmA e i m) {k:Nat} (h0:0<k) (b:k<6) (v:Int):SmA (e.setD k v) i m:=by
 obtain rfl|rfl|rfl|rfl|rfl:k=1∨k=2∨k=3∨k=4∨k=5:=by omega
 all_goals exact⟨h.par,fun j a=>by rw[kOi];exact h.rl j a,h.ws,h.wd,h.d0⟩
theorem DpA.step {e:PDv} {k:Nat} (h:DpA e k) (h0:0<k) (a:k<6) {v:Int} (b:0≤v) (c:v≤4):DpA (e.setD k (max (e.dp (k-1)) v)) (k+1):=by
 intro j d;have f:=h (k-1) (by omega);by_cases g:j=k
 ·grind [kFA]
 ·have i:=h j (by omega)
  grind [kFA]
theorem DpA.setR {e:PDv} {n:Nat} (h:DpA e n) {k:Nat} (a:k<4) (x:Hd):DpA (e.setR k x) n:=by
 obtain rfl|rfl|rfl|rfl:k=0∨k=1∨k=2∨k=3:=by omega
 all_goals exact h
theorem SmA.base {i:Nat} {m p s d:Int} (e:0≤p∧p<(i:Int)+1) (b:0≤s∧s<5) (c:0≤d∧d<4):SmA ⟨p-1,hd0,hd0,hd0,hd0,0,0,0,0,0,0,d,s⟩ i m:=by
 refine⟨⟨by grind,by grind⟩,fun j f=>?_,⟨b.1,by grind⟩,⟨c.1,by grind⟩,rfl⟩;obtain rfl|rfl|rfl|rfl:j=0∨j=1∨j=2∨j=3:=by omega
 all_goals exact⟨fun i a=>absurd a (Nat.not_lt_zero _),fun i a=>absurd a (Nat.not_lt_zero _),qT _⟩
theorem DpA.base {p s d:Int}:DpA ⟨p,hd0,hd0,hd0,hd0,0,0,0,0,0,0,d,s⟩ 1:=fun j a=>by
 obtain rfl:j=0:=by omega
 exact⟨⟨show(0:Int)≤0 from by decide,show(0:Int)≤4 from by decide⟩,fun h=>by omega⟩
section
variable {I0:Ids} {w0 w:World} {X Y:List Assn}
theorem kNC {A:Assn} (h:Hp I0 w0 (A::Y) w):Hp I0 w0 Y w:=by
 have a:Hp I0 w0 (Bun Y::[A]) w:=Hp.bun (M:=Y) (h.perm (qi _ _).symm);have b:=Hp.unbun (M:=Y) (R:=[]) (a.sel [0] rfl)
 grind
theorem kHh {e:PDv} {k:Nat} (b:k<4) {h':Hd} (h:Hp I0 w0 (X++[pdF e,hdF h']) w):Hp I0 w0 (X++[pdF (e.setR k h')]) w:=by
 have a:k<e.rls.length:=b;have c:Hp I0 w0 (Big hdF e.rls::(hdF h'::X)) w:=h.perm (qf (l₁:=X) (l₂:=[pdF e,hdF h']));have d:=c.focus (k:=0) (m:=k) hd0 rfl a;have f:Hp I0 w0 ((hdF h'::X)++[Big hdF (e.rls.eraseIdx k)]) w:=kNC d;have i:=Hp.unfocus (k:=0) f rfl a;have g:Hp I0 w0 (pdF (e.setR k h')::X) w:=by grind [pdF,kLd]
 exact g.perm (qi _ _).symm
theorem kSX (h:Hp I0 w0 X w) (p d s:Int):Hp I0 w0 (X++[pdF ⟨p,hd0,hd0,hd0,hd0,0,0,0,0,0,0,d,s⟩]) w:=by
 have e:Hp I0 w0 (X++[OS 3 (intK .i64) none 0 []]) w:=h.nilOS;have f:Hp I0 w0 (X++[OS 3 (intK .i64) none 0 []]++[OS 3 (intK .i64) none 0 []]) w:=e.nilOS;have g:Hp I0 w0 (X++[OS 3 (intK .i64) none 0 []]++[OS 3 (intK .i64) none 0 []]++[OS 3 (intK .i64) none 0 []]) w:=f.nilOS;have q:Hp I0 w0 (X++[OS 3 (intK .i64) none 0 []]++[OS 3 (intK .i64) none 0 []]++[OS 3 (intK .i64) none 0 []]++[OS 3 (intK .i64) none 0 []]) w:=g.nilOS;have k:Hp I0 w0 (X++[hdF hd0,hdF hd0,hdF hd0,hdF hd0]) w:=by grind [hdF,hd0]
 obtain⟨I,l,m,n⟩:=k;refine⟨I,?_,m,n⟩;obtain⟨i,j,a,b,c,o⟩:=Sep.append.1 l;exact Sep.append.2 ⟨i,j,a,b,c,⟨j,fun _=>False,fun x=>by simp,fun _ _ h=>h,o,fun _ h=>h⟩⟩
end
structure SG where
 A:Option Addr
 c:Nat
 es:List PDv
end Go.Pw
namespace Go.Pw
open Go.Sv Go.Drv
def evL:List Bs:=[[115,116,97,114,116],[115,116,111,112],[115,117,115,112,101,110,100],[114,101,115,117,109,101],[105,114,113],[112,111,108,108]]
def reO (o:Ro):Ro:=⟨o.wr,o.reg%64* 4,o.val⟩
def reT (i:Nat) (t:Tr):Tr:=⟨t.frm,evL.getD ((((t.ev.length:Int)+i+t.to)%6).toNat) [],⟨t.gd.used,t.gd.reg%64* 4,t.gd.mask,t.gd.val⟩,t.ops.map reO,t.to⟩
def reM (d:Dv):Dv:=⟨d.name,d.ss,d.ts.mapIdx reT⟩
theorem evAt: ∀ {k:Nat},k<6→(#[Value.string (bs [115,116,97,114,116]),.string (bs [115,116,111,112]),.string (bs [115,117,115,112,101,110,100]),.string (bs [114,101,115,117,109,101]),.string (bs [105,114,113]),.string (bs [112,111,108,108])]).toList[0+k* 1]?=some (.string (bs (evL.getD k [])))
 |0,_=>rfl
 |1,_=>rfl
 |2,_=>rfl
 |3,_=>rfl
 |4,_=>rfl
 |5,_=>rfl
 |k+6,h=>by omega
def reH (i:Nat) (h:TH) (ys:List Ro):TH:=⟨⟨h.t.frm,evL.getD ((((h.t.ev.length:Int)+i+h.t.to)%6).toNat) [],⟨h.t.gd.used,h.t.gd.reg%64* 4,h.t.gd.mask,h.t.gd.val⟩,ys,h.t.to⟩,h.A,h.c⟩
theorem kSc {i:Nat} {h:TH} {ys:List Ro} (e:ys=h.t.ops.map reO):(reH i h ys).t=reT i h.t:=by subst e;rfl
def ReI (hs gs:List TH) (i:Nat):Prop:=gs.length=hs.length∧ ∀j,j<hs.length→(j<i→(gs.getD j thD).t=reT j (hs.getD j thD).t)∧(¬j<i→gs.getD j thD=hs.getD j thD)
theorem ReI.base (hs:List TH):ReI hs hs 0:=⟨rfl,fun j a=>⟨fun h=>by omega,fun _=>rfl⟩⟩
theorem ReI.step {hs gs:List TH} {i:Nat} (h:ReI hs gs i) (a:i<hs.length) {ys:List Ro} (e:ys=(gs.getD i thD).t.ops.map reO):ReI hs (gs.set i (reH i (gs.getD i thD) ys)) (i+1):=by
 have d:gs.getD i thD=hs.getD i thD:=(h.2 i a).2 (by omega);refine⟨by rw[qI];exact h.1,fun j b=>?_⟩;by_cases c:i=j
 ·subst c;rw[kA1 _ _ _ _ (by rw[h.1];exact a)]
  grind [kSc]
 ·rw[kA0 _ _ _ c];exact⟨fun k=>(h.2 j b).1 (by omega),fun k=>(h.2 j b).2 (by omega)⟩
theorem ReI.done {hs gs:List TH} (h:ReI hs gs hs.length):gs.map (·.t)=(hs.map (·.t)).mapIdx reT:=by
 apply List.ext_getElem (by simp[h.1]);intro j c d;have a:j<hs.length:=by grind
 have b:j<gs.length:=by grind
 have:=(h.2 j a).1 a
 grind
def RoI (os ys:List Ro) (k:Nat):Prop:=ys.length=os.length∧ ∀j,j<os.length→(j<k→ys.getD j ro0=reO (os.getD j ro0))∧(¬j<k→ys.getD j ro0=os.getD j ro0)
theorem RoI.base (os:List Ro):RoI os os 0:=⟨rfl,fun j a=>⟨fun h=>by omega,fun _=>rfl⟩⟩
theorem RoI.step {os ys:List Ro} {k:Nat} (h:RoI os ys k) (a:k<os.length):RoI os (ys.set k (reO (ys.getD k roK.d))) (k+1):=by
 have e:ys.getD k roK.d=os.getD k ro0:=(h.2 k a).2 (by omega);refine⟨by rw[qI];exact h.1,fun j b=>?_⟩;by_cases c:k=j
 ·subst c;rw[kA1 _ _ _ _ (by rw[h.1];exact a)]
  grind
 ·rw[kA0 _ _ _ c];exact⟨fun x=>(h.2 j b).1 (by omega),fun x=>(h.2 j b).2 (by omega)⟩
theorem RoI.done {os ys:List Ro} (h:RoI os ys os.length):ys=os.map reO:=by
 apply List.ext_getElem (by simp[h.1]);intro j b c;have a:j<os.length:=by grind
 have:=(h.2 j a).1 a
 grind
theorem kP5 {d:Dv} (h:rgD d):rgD (reM d):=by
 intro t b;obtain⟨i,c,rfl⟩:=List.getElem_of_mem b;simp only[reM,List.length_mapIdx] at c;have a:=h (d.ts[i]) (List.getElem_mem _);simp only[reM,List.getElem_mapIdx];refine⟨⟨?_,a.1.2⟩,fun o e=>?_⟩
 ·have:=a.1.1;unfold u64 at this;exact⟨by show 0≤_%64* 4;omega,by show _%64* 4<_;omega⟩
 ·obtain⟨p,f,rfl⟩:=List.mem_map.1 e;have:=a.2 p f;refine⟨?_,this.2⟩;have g:=this.1;unfold u64 at g;exact⟨by show 0≤_%64* 4;omega,by show _%64* 4<_;omega⟩
theorem kSd {d:DH} {i:Nat} (a:i<d.hs.length):(d.hs.getD i thD).t∈d.d.ts:=by
 have:(d.hs.getD i thD)=d.hs[i]:=by grind
 rw[this];exact List.mem_map.2 ⟨_,List.getElem_mem _,rfl⟩
theorem kR5 {t:Tr} {ys:List Ro} {k:Nat} (h:rgT t) (a:RoI t.ops ys k) (b:k<t.ops.length):u64 (ys.getD k roK.d).reg:=by
 have c:ys.getD k roK.d=t.ops.getD k ro0:=(a.2 k b).2 (by omega);rw[c];have:t.ops.getD k ro0=t.ops[k]:=by grind
 rw[this];exact(h.2 _ (List.getElem_mem _)).1
def txtM (d:Dv):Bs:=fmtR (reM (kA5 d))
theorem kKK {d:Dv} (h:rgD d):(txtM d).length≤130000:=by
 grind [txtM,fmtR,kKC,kKJ,kGn,kP5,kDy]
section
variable {I0:Ids} {w0 w:World} {X:List Assn} {gs:List TH} {i:Nat}
theorem kR6 (h:Hp I0 w0 (X++[Big opA gs]) w) (a:i<gs.length):Hp I0 w0 (X++[opA (gs.getD i thD),Big opA (gs.eraseIdx i)]) w:=by
 have b:Hp I0 w0 (Big opA gs::X) w:=h.perm (qi _ _);have c:Hp I0 w0 ((opA (gs.getD i thD)::X)++[Big opA (gs.eraseIdx i)]) w:=b.focus (k:=0) (m:=i) thD rfl a;have d:=c.perm ((qi (opA (gs.getD i thD)) X).symm.append_right [Big opA (gs.eraseIdx i)]);grind
theorem kP6 (h':TH) (h:Hp I0 w0 (X++[opA h',Big opA (gs.eraseIdx i)]) w) (a:i<gs.length):Hp I0 w0 (X++[Big opA (gs.set i h')]) w:=by
 have b:Hp I0 w0 ((X++[opA h'])++[Big opA (gs.eraseIdx i)]) w:=by grind
 have c:Hp I0 w0 ((opA h'::X)++[Big opA (gs.eraseIdx i)]) w:=b.perm ((qi (opA h') X).append_right _);have d:=Hp.unfocus (k:=0) c rfl a;exact d.perm (qi _ _).symm
end
end Go.Pw
namespace Go.Pw
open Go.Sv Go.Rails
def hwF (d:BDv):Assn:=Bun [pdF d.pw,hdF d.il.sup]
def clrP (e:PDv):PDv:=⟨e.par,e.r0,hd0,hd0,hd0,e.d0,e.d1,e.d2,e.d3,e.d4,e.d5,e.wd,e.ws⟩
structure SupO (ys:List Int) (i:Nat) (p:Int):Prop where
 r: ∀s∈ys,(0≤s∧s<i)∧s≠p
 n:ys.Nodup
theorem SupO.nil (i:Nat) (p:Int):SupO [] i p:=⟨fun s h=>(List.not_mem_nil h).elim,List.nodup_nil⟩
theorem SupO.snoc {ys:List Int} {i:Nat} {p s d:Int} (h:SupO ys i p) (f:0≤s∧s<i) (g:s≠p) (k: ∀j,j<ys.length→ys.getD j d≠s):SupO (ys++[s]) i p:=by
 refine⟨fun x c=>?_,?_⟩
 ·rcases List.mem_append.1 c with c|c
  ·exact h.r x c
  grind
 ·rw[List.nodup_append];refine⟨h.n,by simp,fun a l b m e=>?_⟩
  grind [List.getElem_of_mem]
def drvM (drs:List Go.Drv.DH) (i:Nat):Bs:=if i<drs.length then txtM (drs.getD i dhK.d).d else txtM ⟨[],[],[]⟩
structure GenD (d:BDv) (i:Nat) (m arr:Int) (drs:List Go.Drv.DH):Prop where
 fn:d.fn=((i:Int)* 7+modM arr 9)%200
 sm:SmA d.pw i m
 dp:DpA d.pw 6
 r1:d.pw.r1.ys=[]
 r2:d.pw.r2.ys=[]
 r3:d.pw.r3.ys=[]
 par:d.il.par=d.pw.par
 dly:0≤d.il.dly∧d.il.dly<12
 sl:d.il.sup.ys.length≤6
 su:SupO d.il.sup.ys i d.pw.par
 drv:d.drv=drvM drs i
theorem kP7 {drs:List Go.Drv.DH} (h: ∀i,i<drs.length→Go.Drv.rgD (drs.getD i dhK.d).d) (i:Nat):(drvM drs i).length≤130000:=by
 unfold drvM;split
 ·grind [kKK]
 ·exact kKK fun t a=>(List.not_mem_nil a).elim
theorem kR7 (ds:List BDv) (k:Nat) {i:Nat} (a:i<((ds.take k).map (·.pw)).length):i<ds.length∧((ds.take k).map (·.pw)).getD i pdK.d=(ds.getD i bdK.d).pw:=by
 grind
theorem kSe (d:BDv): ∀(j:Nat) (v:Value),(pdK.f d.pw)[j]?=some v→(bdC d)[1+j]?=some v
 |0,_,h=>h
 |1,_,h=>h
 |2,_,h=>h
 |3,_,h=>h
 |4,_,h=>h
 |5,_,h=>h
 |6,_,h=>h
 |7,_,h=>h
 |8,_,h=>h
 |9,_,h=>h
 |10,_,h=>h
 |11,_,h=>h
 |12,_,h=>h
 |j+13,v,h=>by simp[pdK,pdC] at h
theorem SmA.clr {e:PDv} {i:Nat} {m:Int} (h:SmA e i m):SmA (clrP e) i m:=by
 refine⟨h.par,fun j b=>?_,h.ws,h.wd,h.d0⟩;obtain rfl|rfl|rfl|rfl:j=0∨j=1∨j=2∨j=3:=by omega
 ·exact h.rl 0 b
 all_goals exact⟨fun i a=>absurd a (Nat.not_lt_zero _),fun i a=>absurd a (Nat.not_lt_zero _),qT _⟩
theorem DpA.clr {e:PDv} {n:Nat} (h:DpA e n):DpA (clrP e) n:=h
section
variable {I0:Ids} {w0 w:World} {X:List Assn}
theorem kSf {e:PDv} (h:Hp I0 w0 (X++[pdF e]) w):Hp I0 w0 (X++[pdF (clrP e)]) w:=by
 have nl: ∀ {Y:List Assn},Hp I0 w0 Y w→Hp I0 w0 (Y++[hdF hd0]) w:=fun h=>h.nilOS;have a:=nl h;rw[qL] at a;have b:=nl (kHh (k:=1) (by decide) a);rw[qL] at b;have c:=nl (kHh (k:=2) (by decide) b);rw[qL] at c;exact kHh (k:=3) (by decide) c
theorem kSg {β:Type} {F:β→Assn} {hs:List β} {i:Nat} (d:β) (m:i<hs.length) (h:Hp I0 w0 (X++[Big F (hs.drop i)]) w):Hp I0 w0 (X++[Big F (hs.drop (i+1)),F (hs.getD i d)]) w:=by
 have e:hs.drop i=hs.getD i d::hs.drop (i+1):=by simp_all
 rw[e] at h;have c:Hp I0 w0 (Big F (hs.getD i d::hs.drop (i+1))::X) w:=h.perm (qi _ _);have f:=c.splice (k:=0) (M:=[F (hs.getD i d),Big F (hs.drop (i+1))]) rfl fun q g=>by
  obtain⟨a,b,c,f,j,l⟩:=g;exact⟨a,b,c,f,j,⟨b,fun _=>False,fun x=>by simp,fun _ _ h=>h,l,fun _ h=>h⟩⟩
 refine f.perm ?_;have:([F (hs.getD i d),Big F (hs.drop (i+1))]++X).Perm (X++[F (hs.getD i d),Big F (hs.drop (i+1))]):=qf;exact this.trans (List.Perm.append_left X (List.Perm.swap _ _ _))
theorem kR8 {ds:List BDv} (d:BDv) (h:Hp I0 w0 (X++[Big hwF ds,pdF d.pw,hdF d.il.sup]) w):Hp I0 w0 (X++[Big hwF (ds++[d])]) w:=by
 have a:Hp I0 w0 ((X++[Big hwF ds])++[pdF d.pw,hdF d.il.sup]) w:=by grind
 have b:Hp I0 w0 ((X++[Big hwF ds])++[hwF d]) w:=kDu a;have c:Hp I0 w0 ((Big hwF ds::X)++[hwF d]) w:=b.perm ((qi _ _).append_right _);have e:=Hp.bigSnoc (L:=Big hwF ds::X) (k:=0) c rfl;exact e.perm (qi _ _).symm
end
structure HG where
 dA:Option Addr
 dc:Nat
 ds:List BDv
 bA:Option Addr
 bc:Nat
 bs:List Int
theorem kLq {ds:List BDv} {bs:List Int} {i n:Nat} {m arr:Int} {drs:List Go.Drv.DH} {d:BDv} {b:Int} (h:(i≤n∧ds.length=i∧bs.length=i)∧ ∀j,j<i→GenD (ds.getD j bdK.d) j m arr drs∧bs.getD j (intK .u64).d=plcM j arr) (c:GenD d i m arr drs) (e:b=plcM i arr): ∀j,j<i+1→GenD ((ds++[d]).getD j bdK.d) j m arr drs∧(bs++[b]).getD j (intK .u64).d=plcM j arr:=fun j a=>
 ⟨kC2 (P:=fun j x=>GenD x j m arr drs) h.1.2.1 (fun j a=>(h.2 j a).1) c j a,kC2 (P:=fun j x=>x=plcM j arr) h.1.2.2 (fun j a=>(h.2 j a).2) e j a⟩
end Go.Pw
namespace Go.Sv
theorem OS.own {α:Type} {K:Enc α} {e:TypeId} {A:Option Addr} {c:Nat} {ys:List α} {w:World} {I:Ids} (h:(OS e K A c ys).sat w I) (b:ys≠[]):I (bk A):=by
 rcases h with ⟨_,h,_⟩|⟨g,a,rfl,hI,_⟩
 ·grind
 ·exact(hI _).2 rfl
theorem Sep.mem {β:Type} {F:β→Assn} {w:World}: ∀ {hs:List β} {I:Ids},Sep (hs.map F) I w→ ∀b∈hs,∃i:Ids,(F b).sat w i∧ ∀x,i x→I x
 |a::hs,I,h,b,c=>by
  obtain⟨i,j,hI,m,e,f⟩:=h;rcases qe.1 c with rfl|c
  ·exact⟨i,e,fun x d=>(hI x).2 (.inl d)⟩
  ·obtain⟨k,g,l⟩:=Sep.mem f b c;exact⟨k,g,fun x d=>(hI x).2 (.inr (l x d))⟩
theorem kR9 {I0:Ids} {w0 w:World} {X Z:List Assn} (h:Hp I0 w0 (X++Z) w):Hp I0 w0 X w:=by
 have a:=Hp.unbun (M:=X) (R:=[]) ((Hp.bun (M:=X) (R:=Z) h).sel [0] rfl)
 grind
theorem RS.lt {α:Type} {K:Enc α} {w:World} {A:Option Addr} {ys:List α} (h:RS w K A ys) (a:ys≠[]):bk A<w.heap.size:=by
 rcases h with h|⟨cs,t,b,_,h,_⟩
 ·grind
 grind
end Go.Sv
namespace Go.Pw
open Go.Sv Go.Rails
def HwOk (z:HG):Prop:=(z.ds.length≤6∧z.bs.length≤6)∧(∀i,i<z.ds.length→(z.ds.getD i bdK.d).pw.sm 1000000∧(z.ds.getD i bdK.d).drv.length≤900000)∧ ∀i,i<z.bs.length→Ios.isU (z.bs.getD i (intK .u64).d)
theorem kNM (e:PDv) {k:Nat} (a:k<4):e.rl k∈e.rls:=by
 obtain rfl|rfl|rfl|rfl:k=0∨k=1∨k=2∨k=3:=by omega
 all_goals simp[PDv.rl,PDv.rls]
theorem kRA {w:World} {i:Ids} {d:BDv} (h:(hwF d).sat w i):d.pw.rs w∧RS w (intK .i64) d.il.sup.A d.il.sup.ys:=by
 obtain⟨a,b,_,_,f,c,e,_,_,g,_⟩:=h;refine⟨fun k l=>?_,hdRS c d.il.sup g⟩;obtain⟨j,m,_⟩:=Sep.mem (F:=hdF) f _ (kNM d.pw l)
 grind [hdRS]
theorem kNN {w:World} {i:Ids} {d:BDv} (h:(hwF d).sat w i):(∀k,k<4→(d.pw.rl k).ys≠[]→i (bk (d.pw.rl k).A))∧(d.il.sup.ys≠[]→i (bk d.il.sup.A)):=by
 obtain⟨a,b,hI,_,g,c,e,l,_,m,_⟩:=h;refine⟨fun k n f=>?_,fun f=>(hI _).2 (.inr ((l _).2 (.inl (OS.own m f))))⟩;obtain⟨j,o,p⟩:=Sep.mem (F:=hdF) g _ (kNM d.pw n);exact(hI _).2 (.inl (p _ (OS.own o f)))
section
variable {I0:Ids} {w0 w:World} {X:List Assn} {z:HG} {rA:Option Addr} {rc:Nat} {rs:List Rail}
theorem rdH (h:Hp I0 w0 ([OS 59 bdK z.dA z.dc z.ds,Big hwF z.ds,OS 210 railK rA rc rs,OS 44 (intK .u64) z.bA z.bc z.bs]++X) w) (c:HwOk z):RS w bdK z.dA z.ds∧RS w railK rA rs∧RS w (intK .u64) z.bA z.bs∧ ∀i,i<z.ds.length→(z.ds.getD i bdK.d).inn w:=by
 refine⟨h.os 0 rfl,h.os 2 rfl,h.os 3 rfl,fun i a=>?_⟩;have e:=h.bigOS (k:=1) (F:=hwF) (G:=fun b w=>b.pw.rs w∧RS w (intK .i64) b.il.sup.A b.il.sup.ys) bdK.d rfl a fun i b k=>kRA k;exact⟨e.1,(c.2.1 i a).1,e.2,(c.2.1 i a).2⟩
theorem roH {sA:Option Addr} {sbs:List Int} (hs:sbs≠[]→bk sA=bk z.bA∧z.bs≠[]) {b:Nat} (c:roP z.dA rA sA z.ds rs sbs b):RoOk I0 w0 ([OS 59 bdK z.dA z.dc z.ds,Big hwF z.ds,OS 210 railK rA rc rs,OS 44 (intK .u64) z.bA z.bc z.bs]++X) b:=by
 refine .inr ?_;rcases c with ⟨a,rfl⟩|⟨a,rfl⟩|⟨a,rfl⟩|⟨i,f,a⟩
 ·exact⟨0,_,rfl,fun w I h=>OS.own h a⟩
 ·exact⟨2,_,rfl,fun w I h=>OS.own h a⟩
 ·rw[(hs a).1];exact⟨3,_,rfl,fun w I h=>OS.own h (hs a).2⟩
 ·refine⟨1,_,rfl,fun w I h=>?_⟩;have e:z.ds.getD i bdK.d∈z.ds:=by grind
  obtain⟨j,g,k⟩:=Sep.mem (F:=hwF) h _ e
  grind [kNN]
end
theorem roR {I0:Ids} {w:World} {F:List Assn} {A B C:Option Addr} {ds:List BDv} {rs:List Rail} {bs:List Int} (hI: ∀x,¬I0 x) (f:RS w bdK A ds) (g:RS w railK B rs) (j:RS w (intK .u64) C bs) (c: ∀i,i<ds.length→(ds.getD i bdK.d).inn w) {b:Nat} (l:roP A B C ds rs bs b):RoOk I0 w F b:=by
 refine .inl ⟨hI b,?_⟩;rcases l with ⟨h,rfl⟩|⟨h,rfl⟩|⟨h,rfl⟩|⟨i,e,h⟩
 ·exact f.lt h
 ·exact g.lt h
 ·exact j.lt h
 ·rcases h with ⟨k,m,a,rfl⟩|⟨a,rfl⟩
  ·exact((c i e).1 k m).lt a
  ·exact(c i e).2.2.1.lt a
structure LZ where
 z:HG
 dr:Nat
structure HV where
 A:Option Addr
 n:Nat
 c:Nat
 B:Option Addr
 m:Nat
 d:Nat
 C:Option Addr
 q:Nat
 e:Nat
def sliA (z:HG):Nat→Option Addr
 |0=>z.bA
 |_=>shA z.bA 1 1 z.bc
theorem kRB (z:HG): ∀dr,bk (sliA z dr)=bk z.bA
 |0=>rfl
 |dr+1=>by
  show bk (shA z.bA 1 1 z.bc)=_;unfold shA;split
  ·rfl
  ·cases z.bA<;>rfl
theorem OS.len {α:Type} {K:Enc α} {e:TypeId} {A:Option Addr} {c:Nat} {ys:List α} {w:World} {I:Ids} (h:(OS e K A c ys).sat w I):ys.length≤c:=by
 rcases h with ⟨_,rfl,_⟩|⟨g,a,_,_,_,h,_⟩
 ·grind
 grind
theorem kRC {w:World} {z:HG} (h:RS w (intK .u64) z.bA z.bs) (a:z.bs.length≤z.bc): ∀ {dr:Nat},dr≤1→RS w (intK .u64) (sliA z dr) (z.bs.drop dr)
 |0,_=>h
 |1,_=>h.drop 1 a
 |dr+2,h=>by omega
def hvH (z:HG) (rA:Option Addr) (rc m:Nat) (dr:Nat):HV:=⟨z.dA,z.ds.length,z.dc,rA,m,rc,sliA z dr,z.bs.length-dr,z.bc-dr⟩
structure SpX where
 d:BDv
 bs:List Int
 dr:Nat
theorem HwOk.gen {z:HG} {m arr:Int} {drs:List Go.Drv.DH} (b:z.ds.length≤6) (e:z.bs.length=z.ds.length) (f: ∀i,i<drs.length→Go.Drv.rgD (drs.getD i dhK.d).d) (h: ∀i,i<z.ds.length→GenD (z.ds.getD i bdK.d) i m arr drs∧z.bs.getD i (intK .u64).d=plcM i arr):HwOk z:=by
 refine⟨⟨b,by omega⟩,fun i a=>⟨fun k c=>qk ((h i a).1.sm.rl k c).2.2 (by decide),?_⟩,fun i a=>?_⟩
 ·rw[(h i a).1.drv];grind [kP7]
 ·rw[(h i (by omega)).2];have:=kQS i arr;grind [Ios.isU]
structure KeyH (I:Ids) (w:World) (HH:List Assn) (V:HV) (ds:List BDv) (rs:List Rail) (bs:List Int):Prop where
 n:V.n=ds.length
 m:V.m=rs.length
 q:V.q=bs.length
 l1:ds.length≤1000000
 l2:rs.length≤1000000
 l3:bs.length≤1000000
 u: ∀i,i<bs.length→Ios.isU (bs.getD i (intK .u64).d)
 rd: ∀X w',Hp I w (HH++X) w'→RS w' bdK V.A ds∧RS w' railK V.B rs∧RS w' (intK .u64) V.C bs∧ ∀i,i<ds.length→(ds.getD i bdK.d).inn w'
 ro: ∀X b,roP V.A V.B V.C ds rs bs b→RoOk I w (HH++X) b
def hwHH (z:HG) (rA:Option Addr) (rc:Nat) (rs:List Rail):List Assn:=[OS 59 bdK z.dA z.dc z.ds,Big hwF z.ds,OS 210 railK rA rc rs,OS 44 (intK .u64) z.bA z.bc z.bs]
theorem KeyH.made {I:Ids} {w:World} {z:HG} (a:HwOk z) {dr:Nat} (c:dr≤1) {rA:Option Addr} {rc:Nat} {rs:List Rail} (l2:rs.length≤1000000):KeyH I w (hwHH z rA rc rs) (hvH z rA rc rs.length dr) z.ds rs (z.bs.drop dr):=by
 refine⟨rfl,rfl,(qG ..).symm,by have:=a.1.1;omega,l2,by rw[qG];have:=a.1.2;omega,fun i f=>?_,fun X r h=>?_,fun X b g=>?_⟩
 ·rw[qG] at f;have e:(z.bs.drop dr).getD i (intK .u64).d=z.bs.getD (dr+i) (intK .u64).d:=by grind
  rw[e];exact a.2.2 _ (by omega)
 ·obtain⟨l,m,n,o⟩:=rdH h a;obtain⟨i,j,p,_⟩:=h.at (k:=3) rfl;exact⟨l,m,kRC n (OS.len p) c,o⟩
 ·refine roH (sA:=sliA z dr) (sbs:=z.bs.drop dr) (fun q=>⟨kRB z dr,fun e=>q (by grind)⟩) g
end Go.Pw
namespace Go.Pw
open Go.Sv Go.Rails Go.Dg
structure Rl0 (rk:Nat→Nat) (K:Int) (st:St):Prop where
 wf:st.wf
 acy:Acy st.rails rk
 r8: ∀i,i<st.rails.length→rk i<8
 up: ∀i,i<st.rails.length→0≤(st.r i).up∧(st.r i).up<20
 cl:st.clock=0
 c: ∀i,i<st.rails.length→0≤st.c i∧st.c i≤K
 t0: ∀i,i<st.rails.length→st.c i=0→st.t i=0
 t: ∀i,i<st.rails.length→0≤st.t i∧st.t i≤20* (rk i+1)
theorem stC (st:St) (i j:Nat) (x:Int) (h:st.wf) (a:i<st.rails.length):(st.setC i x).c j=if i=j then x else st.c j:=by
 have:=h.count;by_cases e:i=j
 ·subst e;rw[if_pos rfl];exact kA1 _ _ _ _ (by omega)
 ·rw[if_neg e];exact kA0 _ _ _ e
theorem stD (st:St) (i j:Nat) (x:Int) (h:st.wf) (a:i<st.rails.length):(st.setD i x).t j=if i=j then x else st.t j:=by
 have:=h.done;by_cases e:i=j
 ·subst e;rw[if_pos rfl];exact kA1 _ _ _ _ (by omega)
 ·rw[if_neg e];exact kA0 _ _ _ e
structure Tkn (rk:Nat→Nat) (K:Int) (i:Nat) (st st':St):Prop where
 ra:st'.rails=st.rails
 ok:Rl0 rk (K+1) st'
 on:st'.c i≠0
 ge: ∀j,j<st.rails.length→st.c j≤st'.c j
 no: ∀j,rk i<rk j→st'.c j=st.c j∧st'.t j=st.t j
theorem kUO {rk:Nat→Nat} {K:Int} (v:0≤K) (n:K<1000000): ∀(f:Nat) (st:St) (i:Nat) (ops:List ROp),Rl0 rk K st→i<st.rails.length→rk i<f→Tkn rk K i st (addP f st i 0 ops).1
 |0,st,i,ops,h,b,w=>by omega
 |f+1,st,i,ops,h,b,w=>by
  have x:=h.c i b;by_cases g:st.c i=0
  ·obtain⟨s,m⟩|m:(∃s:Nat,(st.r i).supply=(s:Int))∨ ¬0≤(st.r i).supply:=by
    by_cases e:0≤(st.r i).supply
    ·exact .inl ⟨(st.r i).supply.toNat,by omega⟩
    grind
   ·have o:=h.acy i b s m;have T:=kUO v n f st s ops h o.1 (by omega);have y:=h.up i b;have z:=T.ok.t s (by rw[T.ra];grind);have t0:=h.t0 i b g;have p:=T.no i o.2;have A:=h.r8 s o.1;have e:(addP (f+1) st i 0 ops).1=((addP f st s 0 ops).1.setD i ((addP f st s 0 ops).1.t s+(st.r i).up)).setC i 1:=by
     rw[addP,if_pos g,m];simp only[if_pos (Int.natCast_nonneg s),qh];rw[t0,show max (max (0:Int) 0) ((addP f st s 0 ops).1.t s)=(addP f st s 0 ops).1.t s from by omega,wU64 (by omega) (by omega)];rw[show(((addP f st s 0 ops).1.setD i ((addP f st s 0 ops).1.t s+(st.r i).up)).c i)=(addP f st s 0 ops).1.c i from rfl,p.1,g];rfl
    rw[e];generalize (addP f st s 0 ops).1=q at T z p ⊢;have u:i<q.rails.length:=by rw[T.ra];exact b
    have l:(q.setD i (q.t s+(st.r i).up)).wf:=kUB T.ok.wf i _;have d: ∀j,((q.setD i (q.t s+(st.r i).up)).setC i 1).c j=if i=j then 1 else q.c j:=fun j=>stC _ i j _ l u
    have k: ∀j,((q.setD i (q.t s+(st.r i).up)).setC i 1).t j=if i=j then q.t s+(st.r i).up else q.t j:=fun j=>stD q i j _ T.ok.wf u
    exact⟨T.ra,⟨kTm l i 1,T.ok.acy,T.ok.r8,T.ok.up,T.ok.cl,fun j a=>by rw[d];have:=T.ok.c j a;grind,fun j a=>by rw[d,k];have:=T.ok.t0 j a;grind,fun j a=>by rw[k];have:=T.ok.t j a;grind⟩,by grind,fun j a=>by rw[d];have:=T.ge j a;grind,fun j a=>by rw[d,k];have:=T.no j (by omega);grind⟩
   ·have y:=h.up i b;have t0:=h.t0 i b g;have e:(addP (f+1) st i 0 ops).1=(st.setD i (st.r i).up).setC i 1:=by
     rw[addP,if_pos g];simp only[if_neg m];rw[t0,show max (0:Int) 0+(st.r i).up=(st.r i).up from by omega,wU64 (by omega) (by omega)];rw[show((st.setD i (st.r i).up).c i)=st.c i from rfl,g];rfl
    rw[e];have l:(st.setD i (st.r i).up).wf:=kUB h.wf i _;have d: ∀j,((st.setD i (st.r i).up).setC i 1).c j=if i=j then 1 else st.c j:=fun j=>stC _ i j _ l b
    have k: ∀j,((st.setD i (st.r i).up).setC i 1).t j=if i=j then (st.r i).up else st.t j:=fun j=>stD st i j _ h.wf b
    exact⟨rfl,⟨kTm l i 1,h.acy,h.r8,h.up,h.cl,fun j a=>by rw[d];have:=h.c j a;grind,fun j a=>by rw[d,k];have:=h.t0 j a;grind,fun j a=>by rw[k];have:=h.t j a;grind⟩,by grind,fun j a=>by grind,fun j a=>by grind⟩
  ·rw[kTI g,wI64 (by omega) (by omega)];have d: ∀j,(st.setC i (st.c i+1)).c j=if i=j then st.c i+1 else st.c j:=fun j=>stC _ i j _ h.wf b
   exact⟨rfl,⟨kTm h.wf i _,h.acy,h.r8,h.up,h.cl,fun j a=>by rw[d];have:=h.c j a;grind,fun j a=>by rw[d];have:=h.t0 j a;have:=h.c j a;show _→st.t j=0;grind,h.t⟩,by grind,fun j a=>by grind,fun j a=>⟨by grind,rfl⟩⟩
theorem kW3 {rk:Nat→Nat} {K:Int} {st:St} {i:Nat} (c:0≤K) (a:K<1000000) (h:Rl0 rk K st) (d:i<st.rails.length) {f:Nat} (g:rk i<f):Tkn rk K i st (acqM f st i 0).st:=by
 have b:=h.cl;rw[kTx ⟨⟨by omega,by omega⟩,by omega,by decide⟩];have e:st.tick 0=st:=by cases st;grind [St.tick]
 simp_all[kUO]
theorem Rl0.pow {rk:Nat→Nat} {K:Int} {st:St} (h:Rl0 rk K st) {i:Nat} (a:i<st.rails.length):st.t i≤100000:=by
 have:=h.t i a;have:=h.r8 i a;omega
theorem kGv {i:Nat} {d:IDv} {l:Link} (h:l∈lk1 i d d.sup.ys.length):l.con=(i:Int)∧((0≤d.par∧l.sup=d.par)∨l.sup∈d.sup.ys):=by
 grind [lk1]
theorem kKT {ids:List IDv} {l:Link}: ∀ {m:Nat},l∈lkI ids m→ ∃i,i<m∧l∈lk1 i (ids.getD i idK.d) (ids.getD i idK.d).sup.ys.length
 |0,h=>(List.not_mem_nil h).elim
 |m+1,h=>by
  rw[lkI,List.mem_append] at h;rcases h with h|h
  ·obtain⟨i,a,h⟩:=kKT h;grind
  grind
theorem kRU {i:Nat} {d:IDv} {p:Int} (j:d.par=p) (h:SupO d.sup.ys i p):(lk1 i d d.sup.ys.length).Nodup:=by
 unfold lk1;rw[List.nodup_append,List.take_length];refine⟨by grind,?_,?_⟩
 ·have k:=h.n
  grind
 ·intro a c b f e;subst e;split at c
  ·rw[qm] at c;subst c;obtain⟨s,g,e⟩:=List.mem_map.1 f;injection e with l m
   exact(h.r s g).2 (by grind)
  grind
section
variable {ids:List IDv} {n:Nat}
def GenI (d:IDv) (i:Nat):Prop:=(-1≤d.par∧d.par<i)∧(0≤d.dly∧d.dly<12)∧d.sup.ys.length≤6∧SupO d.sup.ys i d.par
theorem kNS (h: ∀i,i<n→GenI (ids.getD i idK.d) i): ∀m,m≤n→(lkI ids m).Nodup
 |0,_=>List.nodup_nil
 |m+1,hm=>by
  rw[lkI,List.nodup_append];refine⟨kNS h m (by omega),kRU rfl (h m (by omega)).2.2.2,fun a c b f e=>?_⟩;subst e;obtain⟨i,j,g⟩:=kKT c;have k:=(kGv g).1;have l:=(kGv f).1;omega
theorem kNT (h: ∀i,i<n→GenI (ids.getD i idK.d) i): ∀m,m≤n→(lkI ids m).length≤m* 7
 |0,_=>qT _
 |m+1,hm=>by
  have a:=kNT h m (by omega);have b:=kCJ m (ids.getD m idK.d) (ids.getD m idK.d).sup.ys.length;have c:=(h m (by omega)).2.2.1
  grind [lkI]
theorem kHx (h: ∀i,i<n→GenI (ids.getD i idK.d) i) {l:Link} (e:l∈lkI ids n): ∃i:Nat,i<n∧l.con=(i:Int)∧0≤l.sup∧l.sup<i:=by
 obtain⟨i,a,f⟩:=kKT e;obtain⟨g,j⟩:=kGv f;have b:=h i a;refine⟨i,a,g,?_⟩;rcases j with ⟨c,k⟩|c
 ·have:=b.1;omega
 ·exact(b.2.2.2.r _ c).1
theorem kPF (l:n≤64) (h: ∀i,i<n→GenI (ids.getD i idK.d) i):chkM n (lkI ids n)=0:=by
 have g:=kNT h n (qU _);have f: ∀j,j<(lkI ids n).length→okL n ((lkI ids n).getD j linkK.d):=fun j m=>by
  grind [List.getElem_mem,kHx,okL]
 have k:clM n (lkI ids n)=0:=by
  unfold clM;rw[if_neg (by omega),if_pos f,if_pos (kNS h n (qU _))]
 rw[kEt k,if_pos];intro i o;cases e:wI (lkI ids n) n i i with
 |false=>rfl
 |true=>
  have:=kCZ (lkI ids n) (fun a b=>b<a) (fun a b p=>by
   grind [kHL,kHx]) (fun a b c q r=>by omega) n i i e
  omega
theorem kM7 (a:ids.length≤64) (h: ∀i,i<ids.length→GenI (ids.getD i idK.d) i):newI ids=0:=by
 grind [kC1,kPF,GenI,badI]
end
theorem kRV {e:PDv} {i:Nat} {m:Int} (h:SmA e i m) (b:DpA e 6):e.ok i m:=
 ⟨h.par,fun k a=>⟨(h.rl k a).1,(h.rl k a).2.1⟩,(kCb e).2 ⟨h.d0,b⟩,h.ws,h.wd⟩
theorem evNm: ∀ {k:Nat},k<6→Go.Drv.isNm (evL.getD k [])=true
 |0,_=>by decide
 |1,_=>by decide
 |2,_=>by decide
 |3,_=>by decide
 |4,_=>by decide
 |5,_=>by decide
 |k+6,h=>by omega
theorem kRW {n i:Nat} {t:Go.Drv.Tr} (h:Go.Drv.okT n t=true):Go.Drv.okT n (reT i t)=true:=by
 simp only[Go.Drv.okT,qg,qj] at h ⊢;obtain⟨⟨⟨⟨f,k⟩,d⟩,l⟩,e⟩:=h;refine⟨⟨⟨⟨f,evNm (by omega)⟩,?_⟩,by grind [reT]⟩,?_⟩
 ·simp only[Go.Drv.gdOk,Bool.or_eq_true,qj] at d ⊢;rcases d with d|⟨a,b,c⟩
  ·exact .inl d
  ·exact .inr ⟨by show _%64* 4=0;grind,b,c⟩
 ·rw[List.all_eq_true] at e ⊢;intro o g;obtain⟨p,j,rfl⟩:=List.mem_map.1 g;exact e p j
theorem kPG {d:Go.Drv.Dv} {i:Nat} (a:i<d.ts.length):(reM d).ts.getD i Go.Drv.tr0=reT i (d.ts.getD i Go.Drv.tr0):=by
 grind [reM]
theorem kRX {d:Go.Drv.Dv} (h:Go.Drv.chkM d=0):Go.Drv.chkM (reM d)=0:=by
 have m:Go.Drv.chkA d=true∧d.ss.Nodup:=by
  grind [Go.Drv.chkM]
 have k:(reM d).ts.length=d.ts.length:=by simp[reM]
 have n:Go.Drv.chkA (reM d)=true:=by
  have l:=m.1;simp only[Go.Drv.chkA,qg,qj,List.all_eq_true] at l ⊢;obtain⟨⟨⟨⟨a,b⟩,c⟩,e⟩,f⟩:=l;refine⟨⟨⟨⟨a,by rw[k];exact b⟩,c⟩,fun t o=>?_⟩,fun i j=>?_⟩
  ·grind [kRW,reM]
  ·rw[k] at j;have g:=f i j;rw[List.mem_range] at j;unfold Go.Drv.kFm at g ⊢;rcases g with g|g
   ·grind
   ·right;rw[kPG j,kPG (by omega)];exact g
 grind [Go.Drv.chkM,reM]
theorem kG9 {d:Go.Drv.Dv} (h:Go.Drv.rgD d):Go.Drv.kAH (txtM d)=(0,reM (Go.Drv.kA5 d)):=by
 grind [kRX,Go.Drv.kFE,txtM,Go.Drv.fmtR,Go.Drv.kIb,kP5,Go.Drv.kDy]
theorem kNU {x:Int} (h:0≤x):regP (x%64* 4):=by
 grind [regP]
theorem kRY {d:Go.Drv.Dv} (h:Go.Drv.rgD d):fitD (reM d).ts:=by
 intro i b;have f:(reM d).ts.length=d.ts.length:=by simp[reM]
 rw[f] at b;rw[kPG b];have g:d.ts.getD i Go.Drv.tr0∈d.ts:=by
  grind
 have c:=h _ g;refine⟨kNU c.1.1.1,fun k j=>?_⟩;have a:k<(d.ts.getD i Go.Drv.tr0).ops.length:=by grind [reT]
 have e:(reT i (d.ts.getD i Go.Drv.tr0)).ops.getD k Go.Drv.roK.d=reO ((d.ts.getD i Go.Drv.tr0).ops[k]):=by
  show(((d.ts.getD i Go.Drv.tr0).ops.map reO)).getD k Go.Drv.roK.d=_
  grind
 rw[e];exact kNU (c.2 _ (List.getElem_mem a)).1.1
theorem kRZ {ds:List BDv} {rs:List Rail} {bs:List Int} {arr:Int} {drs:List Go.Drv.DH} (r:ds.length≤6) (f:bs.length=ds.length) (s: ∀i,i<drs.length→Go.Drv.rgD (drs.getD i dhK.d).d) (k:rs.length≤8) (l:newE rs=0)
 (h: ∀i,i<ds.length→GenD (ds.getD i bdK.d) i rs.length arr drs∧bs.getD i (intK .u64).d=plcM i arr):PwOk ds rs bs:=by
 refine⟨by omega,f,fun i a=>?_,fun i a=>?_,?_,?_,?_⟩
 ·grind [plcM]
 ·have g:=(h i a).1;have b: ∃d,Go.Drv.rgD d∧Go.Drv.kAH (ds.getD i bdK.d).drv=(0,reM (Go.Drv.kA5 d)):=by
   rw[g.drv];unfold drvM;split
   ·grind [kG9]
   ·have m:Go.Drv.rgD ⟨[],[],[]⟩:=fun t o=>(List.not_mem_nil o).elim
    grind [kG9]
  obtain⟨d,m,p⟩:=b;have u:=g.fn;have v:=kA8 arr (n:=9) (by decide);refine⟨⟨by omega,by omega,g.par.symm⟩,⟨g.r1,g.r2,g.r3⟩,by rw[p],?_⟩
  grind [kRY,Go.Drv.kDy]
 ·unfold fnL;rw[List.nodup_iff_pairwise_ne,List.pairwise_iff_getElem];intro i j a w q;have c:i<ds.length:=by grind
  have e:j<ds.length:=by grind
  have x:=(h i c).1.fn;have y:=(h j e).1.fn
  grind
 ·rw[newT,kGX (by grind)]
  ·grind
  ·intro i a;simp only[pwL,qE] at a;rw[kGc ds a];exact kRV (h i a).1.sm (h i a).1.dp
 ·refine kM7 (by grind) fun i a=>?_;simp only[ilL,qE] at a;rw[kEF ds a];have g:=(h i a).1;refine⟨by rw[g.par];exact g.sm.par,g.dly,g.sl,by rw[g.par];exact g.su⟩
structure Tp (R:Int→Int→Prop) (n:Nat) (o:List Int):Prop where
 nd:o.Nodup
 rg: ∀x∈o,∃i:Nat,i<n∧x=(i:Int)
 up: ∀k,k<o.length→ ∀p,R (o.getD k 0) p→p∈o.take k
section
variable {R:Int→Int→Prop} {links:List Link} {n:Nat} {o:List Int}
theorem Tp.snoc (h:Tp R n o) {i:Nat} (d:i<n) (b:(i:Int)∉o) (hs: ∀p,R i p→p∈o):Tp R n (o++[(i:Int)]):=by
 refine⟨?_,?_,fun k c p f=>?_⟩
 ·rw[List.nodup_append];have:=h.nd
  grind
 ·intro x a;rw[List.mem_append] at a;rcases a with a|a
  ·exact h.rg x a
  grind
 ·rw[qD,List.length_singleton] at c;by_cases e:k<o.length
  ·rw[List.take_append_of_le_length (by omega)];refine h.up k e p ?_
   grind
  grind
def LkR (links:List Link) (x p:Int):Prop:= ∃l∈links,l.con=x∧l.sup=p
theorem kVA (a: ∀l∈links,0≤l.sup∧l.sup<n): ∀(f:Nat) (g:List Bool) (o:List Int),Tp (LkR links) n o→g.length=n→(∀i,i<n→(g.getD i false=true↔(i:Int)∈o))→
 Tp (LkR links) n (kCX links n f g o).1∧ ∀i,i<n→((kCX links n f g o).2.getD i false=true↔(i:Int)∈(kCX links n f g o).1)
 |0,g,o,h,d,b=>⟨h,b⟩
 |f+1,g,o,h,d,b=>by
  simp only[kCX];rcases kEn (kCW links g) n n (qU _) with ⟨c,e⟩|⟨i,c,e,k,m,r⟩
  ·grind
  ·rw[if_neg (by omega),c,qh];rw[kBI,kCY] at m;refine kVA a f _ _ (h.snoc k (fun s=>?_) ?_) (by grind) fun j t=>?_
   ·grind
   ·rintro p ⟨l,q,u,rfl⟩
    grind
   grind
theorem kVB (a: ∀j,j<links.length→okL n (links.getD j linkK.d)) (e:(seqM n links).length=n):Tp (LkR links) n (seqM n links)∧ ∀i:Nat,i<n→(i:Int)∈seqM n links:=by
 have b: ∀l∈links,0≤l.sup∧l.sup<n:=fun l m=>by
  obtain⟨j,f,rfl⟩:=List.getElem_of_mem m;have:=a j f;simp only[List.getD,f,qJ,Option.getD_some] at this;exact this.2
 rw[kO0 a] at e ⊢;have o:Tp (LkR links) n []:=⟨List.nodup_nil,fun x p=>(by cases p),fun k r=>by grind⟩
 have g:=kVA b n (List.replicate n false) [] o (by simp) fun i c=>by grind
 have h:=kJ4 (links:=links) n (List.replicate n false) [] (RI.start (links:=links)) (by simp);refine⟨g.1,fun i c=>(g.2 i c).1 ?_⟩;have s:=h.1.cnt;have q:(kCX links n n (List.replicate n false) []).2.count false=0:=by
  have:(kCX links n n (List.replicate n false) []).1.length=n:=e;omega
 exact(kD1 _).1 q i (by rw[h.1.len];exact c)
def kT7 (r:List Bool):List Int→List Bool
 |[]=>r
 |s::ss=>kT7 (r.set s.toNat true) ss
theorem kTW: ∀(ss:List Int) (r:List Bool),(kT7 r ss).length=r.length
 |[],r=>rfl
 |s::ss,r=>by rw[kT7,kTW ss,qI]
theorem kTC: ∀(ss:List Int) (r:List Bool) (i:Nat),i<r.length→(∀s∈ss,0≤s)→((kT7 r ss).getD i false=true↔r.getD i false=true∨(i:Int)∈ss)
 |[],r,i,a,h=>by simp[kT7]
 |s::ss,r,i,a,h=>by
  rw[kT7,kTC ss _ i (by grind) fun x b=>h x (by grind)]
  grind [Int.toNat_of_nonneg]
def reqM (sup:Nat→List Int) (O:List Int) (r0:List Bool):Nat→List Bool
 |0=>r0
 |c+1=>let r:=reqM sup O r0 c
  let i:=(O.getD (O.length-1-c) 0).toNat
  if r.getD i false=true then kT7 r (sup i) else r
theorem kTc (sup:Nat→List Int) (O:List Int) (r0:List Bool): ∀c,(reqM sup O r0 c).length=r0.length
 |0=>rfl
 |c+1=>by rw[reqM];split<;>simp[kTW,kTc sup O r0 c]
theorem kTj {sup:Nat→List Int} {O:List Int} {r0:List Bool} (h:Tp (LkR links) r0.length O) (hs: ∀i s,s∈sup i→0≤s) {i:Nat} (a:i<r0.length): ∀c,r0.getD i false=true→(reqM sup O r0 c).getD i false=true
 |0,h0=>h0
 |c+1,h0=>by
  have:=kTj h hs a c h0
  grind [reqM,kTC]
theorem kUP {sup:Nat→List Int} {O:List Int} {r0:List Bool} (h:Tp (LkR links) r0.length O) (u:O.length=r0.length) (hs: ∀i:Nat,i<r0.length→ ∀s,s∈sup i↔LkR links i s) (a: ∀i s,s∈sup i→0≤s): ∀c,c≤O.length→
 ∀k,O.length-c≤k→k<O.length→(reqM sup O r0 c).getD (O.getD k 0).toNat false=true→ ∀s∈sup (O.getD k 0).toNat,(reqM sup O r0 c).getD s.toNat false=true
 |0,v,k,w,f=>by omega
 |c+1,v,k,w,f=>by
  have b: ∀j,j<O.length→ ∃i:Nat,i<r0.length∧O.getD j 0=(i:Int):=fun j x=>h.rg _ (by grind);have y:=kUP h u hs a c (by omega);have o:=kTc sup O r0 c;obtain⟨i,E,p⟩:=b k f;obtain⟨r,z,l⟩:=b (O.length-1-c) (by omega);rw[reqM];simp only[l,p,qh];have d: ∀s∈sup r,s∈O.take (O.length-1-c):=fun s g=>h.up _ (by omega) s (by grind);have m: ∀s∈sup i,∃j:Nat,j<r0.length∧s=(j:Int):=fun s g=>h.rg s (List.mem_of_mem_take (h.up k f s (by grind)));by_cases A:(reqM sup O r0 c).getD r false=true
  ·rw[if_pos A];intro B s g;obtain⟨j,x,rfl⟩:=m s g;rw[qh,kTC _ _ _ (by omega) (a _)];by_cases e:k=O.length-1-c
   ·grind
   ·left;have t:=y k (by omega) f;rw[p,qh] at t;have:=t (by
     rcases(kTC _ _ _ (by omega) (a _)).1 B with n|n
     ·exact n
     ·exfalso;have C:=d _ n;obtain⟨q,D,eq⟩:=List.getElem_of_mem C;rw[qF] at D;rw[List.getElem_take] at eq;have F:O[k]=(i:Int):=by grind
      have:=(List.nodup_iff_pairwise_ne.1 h.nd)
      grind [List.pairwise_iff_getElem]) _ g
    simp_all
  grind [qh]
def opsG (r:List Bool) (O:List Int):Nat→List Int
 |0=>[]
 |c+1=>if r.getD (O.getD c 0).toNat false=true then opsG r O c++[O.getD c 0] else opsG r O c
theorem kTM {r:List Bool} {O:List Int} {x:Int}: ∀c,c≤O.length→(x∈opsG r O c↔x∈O.take c∧r.getD x.toNat false=true)
 |0,h=>by simp[opsG]
 |c+1,h=>by
  have a:=kTM (x:=x) (r:=r) (O:=O) c (by omega)
  grind [kAJ,opsG]
theorem kUQ {r:List Bool} {O:List Int} (h:Tp R n O) (d: ∀x∈O,r.getD x.toNat false=true→ ∀p,R x p→r.getD p.toNat false=true): ∀c,c≤O.length→Tp R n (opsG r O c)
 |0,_=>⟨List.nodup_nil,fun x a=>(by cases a),fun k m=>by grind [opsG]⟩
 |c+1,hc=>by
  have f:=kUQ h d c (by omega);rw[opsG];split
  ·rename_i g;have b:O.getD c 0∈O:=by grind
   obtain⟨i,j,e⟩:=h.rg _ b;rw[e] at g b ⊢;refine f.snoc j (fun a=>?_) fun p o=>?_
   ·have:=((kTM c (by omega)).1 a).1;obtain⟨q,l,eq⟩:=List.getElem_of_mem this;rw[qF] at l;rw[List.getElem_take] at eq;have s:=(List.nodup_iff_pairwise_ne.1 h.nd)
    grind [List.pairwise_iff_getElem]
   ·have:=h.up c (by omega) p (by grind)
    grind [kTM]
  grind
end
theorem kUR {i:Nat} {s:Int}: ∀ {links:List Link},s∈nbM links false i↔LkR links i s
 |[]=>by simp[nbM,LkR]
 |l::r=>by
  have a:=kUR (i:=i) (s:=s) (links:=r)
  grind [LkR,nbM]
def rqM (m:MG) (d:Nat):List Bool:=reqM (fun i=>(m.ms.getD i ms0).sup.ys) m.od ((List.replicate m.ms.length false).set d true) m.od.length
def goM (m:MG) (d:Nat):List Int:=opsG (rqM m d) m.od m.od.length
section
variable {ids:List IDv} {m:MG} {d:Nat}
theorem kJE {n:Nat} {links:List Link} (h:chkM n links=0):(∀j,j<links.length→okL n (links.getD j linkK.d))∧(seqM n links).length=n:=by
 grind [chkM,clM]
theorem MG.fresh.len (h:m.fresh ids):m.ms.length=ids.length:=h.1.1
theorem kVQ (h:m.fresh ids) (w:chkM ids.length (lkI ids ids.length)=0) (D:d<ids.length):
 m.od.length=ids.length∧Tp (LkR (lkI ids ids.length)) ids.length m.od∧Tp (LkR (lkI ids ids.length)) ids.length (goM m d)∧(d:Int)∈goM m d:=by
 obtain⟨q,g⟩:=kJE w;obtain⟨f,y⟩:=kVB q g;rw[←h.2.1] at f y g;have r:=h.len;have z:((List.replicate m.ms.length false).set d true).length=ids.length:=by grind
 have t: ∀i:Nat,i<ids.length→ ∀s,s∈(m.ms.getD i ms0).sup.ys↔LkR (lkI ids ids.length) i s:=fun i a s=>by
  have:=(h.1.2 i a).1
  grind [kUR]
 have b: ∀i s,s∈(m.ms.getD i ms0).sup.ys→0≤s:=fun i s n=>by
  by_cases e:i<ids.length
  ·obtain⟨l,r,_,rfl⟩:=(t i e s).1 n;obtain⟨j,u,rfl⟩:=List.getElem_of_mem r;have:=q j u;simp only[List.getD,u,qJ,Option.getD_some] at this;exact this.2.1
  ·have:m.ms.getD i ms0=ms0:=by grind
   rw[this] at n;cases n
 have c:Tp (LkR (lkI ids ids.length)) ((List.replicate m.ms.length false).set d true).length m.od:=by grind
 have o:=kUP (sup:=fun i=>(m.ms.getD i ms0).sup.ys) c (by grind) (fun i a=>t i (by omega)) b m.od.length (qU _);have A:(rqM m d).getD d false=true:=kTj c b (by omega) _ (by grind);refine⟨g,f,kUQ f (fun x v B p E=>?_) _ (qU _),(kTM _ (qU _)).2 ⟨by grind,by grind⟩⟩;obtain⟨k,C,rfl⟩:=List.getElem_of_mem v;have e:m.od.getD k 0=m.od[k]:=by grind
 have a:=f.rg _ v;obtain⟨i,a,F⟩:=a;have:=o k (by omega) C (by rw[e];exact B) p (by
  grind)
 exact this
theorem kW4 {i:Nat} (a:i<ids.length) (b:0≤(ids.getD i idK.d).par):LkR (lkI ids ids.length) i (ids.getD i idK.d).par:=
 ⟨⟨i,(ids.getD i idK.d).par⟩,kJN a (by grind [lk1]),rfl,rfl⟩
end
def acqs (f:Nat) (st:St) (ys:List Int):St:=ys.foldl (fun s r=>(acqM f s r 0).st) st
theorem kTP (f:Nat) (st:St) (ys:List Int) {j:Nat} (a:j<ys.length):acqs f st (ys.take (j+1))=(acqM f (acqs f st (ys.take j)) (ys.getD j 0) 0).st:=by
 rw[kAJ ys j 0 a];simp[acqs]
structure AcI (rk:Nat→Nat) (K:Int) (st st':St) (ys:List Int):Prop where
 ra:st'.rails=st.rails
 ok:Rl0 rk (K+ys.length) st'
 on: ∀r∈ys,st'.c r.toNat≠0
 ge: ∀j,j<st.rails.length→st.c j≠0→st'.c j≠0
theorem kTd {rk:Nat→Nat} {f:Nat} {K:Int} {st:St} {ys:List Int} (m:0≤K) (g:K<1000) (h:Rl0 rk K st) (l: ∀i,i<st.rails.length→rk i<f) (a: ∀r∈ys,0≤r∧r<st.rails.length) (n:ys.length≤1000): ∀j,j≤ys.length→AcI rk K st (acqs f st (ys.take j)) (ys.take j)
 |0,_=>⟨rfl,by show Rl0 rk (K+((0:Nat):Int)) st;rw[show K+((0:Nat):Int)=K from by omega];exact h,fun r a=>(by cases a),fun j _ h=>h⟩
 |j+1,hj=>by
  have b:=kTd m g h l a n j (by omega);rw[kTP f st ys hj];have o:ys.getD j 0∈ys:=by simp only[List.getD,show j<ys.length by omega,qJ,Option.getD_some];exact List.getElem_mem _
  have p:=a _ o;obtain⟨x,k⟩: ∃x:Nat,ys.getD j 0=(x:Int):=⟨(ys.getD j 0).toNat,by omega⟩
  rw[k] at p;have d:(ys.take j).length=j:=by rw[qF];omega
  have T:=kW3 (i:=x) (f:=f) (by omega) (by rw[d];omega) b.ok (by rw[b.ra];omega) (l x (by omega));rw[k];refine⟨T.ra.trans b.ra,?_,fun r a=>?_,fun q s t=>?_⟩
  ·have:=T.ok;rw[d] at this;rw[qF,show min (j+1) ys.length=j+1 by omega];have e:K+((j+1:Nat):Int)=K+j+1:=by omega
   rw[e];exact this
  ·rw[kAJ ys j 0 hj,List.mem_append,qm,k] at a;rcases a with a|a
   ·have u:=b.on r a;have z:=a;have v:=List.mem_of_mem_take a;have A:=a;have w:=(by exact(show 0≤r∧r<st.rails.length from by grind))
    have:=T.ge r.toNat (by rw[b.ra];omega);have y:=b.ok.c r.toNat (by rw[b.ra];omega);omega
   ·rw[a,qh];exact T.on
  ·have u:=b.ge q s t;have:=T.ge q (by rw[b.ra];omega);have y:=b.ok.c q (by rw[b.ra];omega);omega
structure TrI (rk:Nat→Nat) (es:List PDv) (K:Int) (S st:List Int) (rs:St):Prop where
 len:st.length=es.length
 st: ∀i:Nat,i<es.length→st.getD i 0=if (i:Int)∈S then 0 else 4
 ok:Rl0 rk K rs
 on: ∀i:Nat,i<es.length→(i:Int)∈S→ ∀r∈(es.getD i pd0).r0.ys,rs.c r.toNat≠0
theorem TrI.step {rk:Nat→Nat} {es:List PDv} {K:Int} {S st:List Int} {rs:St} {f:Nat} (h:TrI rk es K S st rs) (g:0≤K) (d:K<1000) (k: ∀i,i<rs.rails.length→rk i<f) {i:Nat} (o:i<es.length) (l: ∀r∈(es.getD i pd0).r0.ys,0≤r∧r<rs.rails.length) (m:(es.getD i pd0).r0.ys.length≤1000) (n: ∀j:Nat,j<es.length→ ∀r∈(es.getD j pd0).r0.ys,0≤r∧r<rs.rails.length):
 TrI rk es (K+(es.getD i pd0).r0.ys.length) (S++[(i:Int)]) (st.set i 0) (acqs f rs (es.getD i pd0).r0.ys)∧(acqs f rs (es.getD i pd0).r0.ys).rails=rs.rails:=by
 have A:=kTd g d h.ok k l m _ (qU _);rw[List.take_length] at A;refine⟨⟨by rw[qI];exact h.len,fun j c=>?_,A.ok,fun j c b r a=>?_⟩,A.ra⟩
 ·have:=h.len;by_cases e:i=j
  ·subst e;rw[kA1 _ _ _ _ (by omega)];simp
  ·rw[kA0 _ _ _ e,h.st j c];have:(j:Int)≠i:=by omega
   grind
 ·rw[List.mem_append,qm] at b;rcases b with b|b
  ·have p:=n j c r a;exact A.ge _ (by omega) (h.on j c b r a)
  ·obtain rfl:j=i:=by omega
   exact A.on r a
theorem kUS {rs:List Rail} {rk:Nat→Nat} (b:Acy rs rk) (c: ∀i,i<rs.length→rk i<8) (f: ∀i,i<rs.length→0≤(rs.getD i railK.d).up∧(rs.getD i railK.d).up<20):Rl0 rk 0 (new0 rs):=by
 have e: ∀i,(List.replicate rs.length (0:Int)).getD i 0=0:=fun i=>by simp only[List.getD,List.getElem?_replicate];split<;>rfl
 refine⟨⟨by simp[new0],by simp[new0]⟩,b,c,f,rfl,fun i a=>?_,fun i a _=>e i,fun i a=>?_⟩
 ·show 0≤(List.replicate rs.length (0:Int)).getD i 0∧_;rw[e];exact⟨Int.le_refl _,Int.le_of_eq (e i)⟩
 ·show 0≤(List.replicate rs.length (0:Int)).getD i 0∧(List.replicate rs.length (0:Int)).getD i 0≤_;rw[e];omega
theorem kVR (a:List Rail) (l: ∀i,i<a.length→0≤(a.getD i railK.d).up): ∃rk,Rl0 rk 0 (new0 (kA5 a)):=by
 have e: ∀n k,k<n→n≤a.length→(-1≤((sm1 a n).getD k railK.d).supply∧((sm1 a n).getD k railK.d).supply<k)∧0≤((sm1 a n).getD k railK.d).up∧((sm1 a n).getD k railK.d).up<20:=fun n k h f=>by
  rw[kIz a h];have r:=kA8 (a.getD k railK.d).supply (n:=k+1) (by omega);have m:=l k (by omega);have o:(a.getD k railK.d).up.tmod 20=(a.getD k railK.d).up%20:=qW m;simp only[o];omega
 unfold kA5;obtain⟨n,f⟩: ∃n,n=min a.length 8:=⟨_,rfl⟩
 simp only[←f];split
 ·have g: ∀i,i<n→((List.range n).map fun p=>turn n ((sm1 a n).getD (n-1-p) railK.d)).getD i railK.d=turn n ((sm1 a n).getD (n-1-i) railK.d):=fun i b=>by simp[List.getD,b]
  refine⟨fun i=>n-1-i,kUS (fun i b s c=>?_) (fun i b=>by omega) fun i b=>?_⟩
  ·simp only[qE,List.length_range] at b ⊢;rw[g i b] at c;have:=e n (n-1-i) (by omega) (by omega);by_cases j:0≤((sm1 a n).getD (n-1-i) railK.d).supply
   ·rw[turn,if_pos j] at c;have q:(n:Int)-1-((sm1 a n).getD (n-1-i) railK.d).supply=s:=c;omega
   ·rw[turn,if_neg j] at c;omega
  ·simp only[qE,List.length_range] at b;rw[g i b];have:=e n (n-1-i) (by omega) (by omega);unfold turn;split<;>exact this.2
 ·refine⟨fun i=>i,kUS (fun i b s c=>?_) (fun i b=>?_) fun i b=>?_⟩
  ·rw[kA3] at b ⊢;have:=e n i b (by omega);omega
  ·rw[kA3] at b;omega
  ·rw[kA3] at b;exact(e n i b (by omega)).2
theorem kTN {l:List Int} {j:Nat} (h:j<l.length):l.getD j (intK .i64).d∈l:=by
 rw[show l.getD j (intK .i64).d=l[j] by simp[List.getD,h]];exact List.getElem_mem h
structure POp where
 dev:Int
 res:Bool
 tim:Int
def popK:Enc POp where
 f o:=[.int .i64 o.dev,.bool o.res,.int .u64 o.tim]
 sz:=3
 d:=⟨0,false,0⟩
 len _:=rfl
 pos:=by decide
 one r v hv:=by simp at hv;rcases hv with rfl|rfl|rfl<;>rfl
def pop1 (x:Int):POp:=⟨x,true,0⟩
structure MgR (m:MG) (n:Nat):Prop where
 le:n≤64
 len:m.ms.length=n
 ol:m.od.length≤64
 rg: ∀k,k<m.od.length→ ∃i:Nat,i<n∧m.od.getD k (intK .i64).d=(i:Int)
 sup: ∀i,i<n→ ∀j,j<(m.ms.getD i msK.d).sup.ys.length→0≤(m.ms.getD i msK.d).sup.ys.getD j (intK .i64).d∧(m.ms.getD i msK.d).sup.ys.getD j (intK .i64).d<n
 sl: ∀i,i<n→(m.ms.getD i msK.d).sup.ys.length≤1000000
structure MgO (m:MG) (n:Nat):Prop where
 r:MgR m n
 nd:m.od.Nodup
 act: ∀i,i<n→(m.ms.getD i msK.d).act=false
 use: ∀i,i<n→(m.ms.getD i msK.d).use=0
 clk:m.clk=0
theorem MG.fresh.mgO {m:MG} {ids:List IDv} (h:m.fresh ids) (v:chkM ids.length (lkI ids ids.length)=0) (w:ids.length≤64) (n:(lkI ids ids.length).length≤1000000):MgO m ids.length:=by
 obtain⟨o,p⟩:=kJE v;obtain⟨f,z⟩:=kVB o p;rw[←h.2.1] at f p;have g: ∀i,i<ids.length→(m.ms.getD i ms0).sup.ys=nbM (lkI ids ids.length) false i:=fun i c=>by rw[(h.1.2 i c).1,List.take_length]
 refine⟨⟨w,h.len,by omega,fun k x=>f.rg _ ?_,fun i c j y=>?_,fun i c=>?_⟩,f.nd,fun i c=>(h.1.2 i c).2.2.2.1,fun i c=>(h.1.2 i c).2.2.2.2.1,h.2.2⟩
 ·exact kTN x
 ·have r:(m.ms.getD i ms0).sup.ys.getD j (intK .i64).d∈(m.ms.getD i ms0).sup.ys:=kTN y;rw[g i c] at r;obtain⟨l,n,_,e⟩:=kUR.1 r;obtain⟨q,s,rfl⟩:=List.getElem_of_mem n;have t:=o q s;simp only[List.getD,s,qJ,Option.getD_some] at t;have u:=t.2;rw[e,←g i c] at u;exact u
 ·show(m.ms.getD i ms0).sup.ys.length≤_;rw[g i c];have: ∀(l:List Link) (b:Bool) (i:Nat),(nbM l b i).length≤l.length:=fun l b i=>by
   induction l with
   |nil=>simp[nbM]
   |cons a l A=>rw[nbM];grind
  have:=this (lkI ids ids.length) false i;omega
def msU (m:MG) (d:Nat):List MSt:=m.ms.set d {m.ms.getD d msK.d with use:=1}
theorem kUT {ms:List MSt} {i:Nat} {a:MSt} (b:a.sup=(ms.getD i msK.d).sup) (c:a.con=(ms.getD i msK.d).con):(ms.set i a).map msF=ms.map msF:=by
 apply List.ext_getElem (by simp);intro j h f;rw[List.getElem_map,List.getElem_map,List.getElem_set];split
 ·rename_i e;subst e;have g:i<ms.length:=by simpa using f
  have e:ms.getD i msK.d=ms[i]:=by simp[List.getD,g]
  rw[e] at b c;unfold msF;rw[b,c]
 ·rfl
theorem kUU {β:Type} {F:β→Assn} {a b:List β} (h:a.map F=b.map F):Big F a=Big F b:=by unfold Big;simp only[h]
structure GtI (m:MG) (d c:Nat) (ms:List MSt):Prop where
 mf:ms.map msF=m.ms.map msF
 use:(ms.getD d msK.d).use=1
 act: ∀i,i<m.ms.length→(ms.getD i msK.d).act=true→(i:Int)∈m.od.take c
section
variable {m:MG} {n d c i:Nat} {ms:List MSt}
theorem GtI.len (h:GtI m d c ms):ms.length=m.ms.length:=by have:=congrArg List.length h.mf;simpa using this
theorem GtI.start (a:MgO m n) (g:d<n):GtI m d 0 (msU m d):=by
 have h:=a.r.len;refine⟨kUT rfl rfl,by unfold msU;rw[kA1 _ _ _ _ (by omega)],fun i c b=>?_⟩;have f:=a.act i (by omega);have:((msU m d).getD i msK.d).act=(m.ms.getD i msK.d).act:=by
  unfold msU;by_cases e:d=i
  ·subst e;rw[kA1 _ _ _ _ c]
  ·rw[kA0 _ _ _ e]
 rw[this,f] at b;cases b
theorem GtI.skip (h:GtI m d c ms):GtI m d (c+1) ms:=
 ⟨h.mf,h.use,fun i a b=>(List.take_sublist_take_left (Nat.le_succ c)).mem (h.act i a b)⟩
theorem GtI.step (h:GtI m d c ms) (f:c<m.od.length) (g:m.od.getD c (intK .i64).d=(i:Int)) (k:i<m.ms.length):GtI m d (c+1) (ms.set i {ms.getD i msK.d with act:=true}):=by
 have n:=h.len;refine⟨(kUT (a:={ms.getD i msK.d with act:=true}) rfl rfl).trans h.mf,?_,fun j l b=>?_⟩
 ·by_cases e:i=d
  ·subst e;rw[kA1 _ _ _ _ (by omega)];exact h.use
  ·rw[kA0 _ _ _ e];exact h.use
 ·by_cases e:i=j
  ·subst e;rw[kAJ m.od c (intK .i64).d f,g];simp
  ·rw[kA0 _ _ _ e] at b;exact h.skip.act j l b
theorem GtI.idle (h:GtI m d c ms) (b:m.od.Nodup) (f:c<m.od.length) (g:m.od.getD c (intK .i64).d=(i:Int)) (a:i<m.ms.length):(ms.getD i msK.d).act=false:=by
 cases e:(ms.getD i msK.d).act with
 |false=>rfl
 |true=>
  exfalso;have:=h.act i a e;rw[←g] at this;exact kLU f this b
end
theorem kTp (r:List Bool) (ss:List Int) {j:Nat} (c:j<ss.length):kT7 r (ss.take (j+1))=(kT7 r (ss.take j)).set (ss.getD j (intK .i64).d).toNat true:=by
 rw[kAJ ss j (intK .i64).d c];have: ∀(a b:List Int) (r:List Bool),kT7 r (a++b)=kT7 (kT7 r a) b:=fun a=>by
  induction a with
  |nil=>intro b r;rfl
  |cons x a e=>intro b r;exact e b _
 rw[this];rfl
theorem kVS (m:MG) (d c:Nat):(reqM (fun i=>(m.ms.getD i ms0).sup.ys) m.od ((List.replicate m.ms.length false).set d true) c).length=m.ms.length:=by
 rw[kTc,qI,qH]
theorem kW5 (m:MG) (d x:Nat):rqM {m with ms:=msU m x,clk:=0} d=rqM m d:=by
 unfold rqM;have a:(fun i=>((msU m x).getD i ms0).sup.ys)=fun i=>(m.ms.getD i ms0).sup.ys:=by
  funext i
  unfold msU;by_cases e:x=i
  ·subst e;by_cases h:x<m.ms.length
   ·show((m.ms.set x _).getD x ms0).sup.ys=_;rw[kA1 _ _ _ _ h];rfl
   ·rw[List.set_eq_of_length_le (by omega)]
  ·rw[kA0 _ _ _ e]
 simp only[a,show(msU m x).length=m.ms.length from qI]
theorem MgR.use {m:MG} {n:Nat} (h:MgR m n) (x:Nat):MgR {m with ms:=msU m x,clk:=0} n:=by
 have b: ∀i,((msU m x).getD i msK.d).sup=(m.ms.getD i msK.d).sup:=fun i=>by
  unfold msU;by_cases e:x=i
  ·subst e;by_cases h:x<m.ms.length
   ·rw[kA1 _ _ _ _ h]
   ·rw[List.set_eq_of_length_le (by omega)]
  ·rw[kA0 _ _ _ e]
 refine⟨h.le,by show(msU m x).length=n;unfold msU;rw[qI];exact h.len,h.ol,h.rg,fun i a=>?_,fun i a=>?_⟩
 ·show ∀j,j<((msU m x).getD i msK.d).sup.ys.length→0≤((msU m x).getD i msK.d).sup.ys.getD j (intK .i64).d∧((msU m x).getD i msK.d).sup.ys.getD j (intK .i64).d<n;rw[b];exact h.sup i a
 ·show((msU m x).getD i msK.d).sup.ys.length≤_;rw[b];exact h.sl i a
theorem kTq (r:List Bool) (O:List Int): ∀c,(opsG r O c).length≤c
 |0=>qU _
 |c+1=>by have:=kTq r O c;rw[opsG];split<;>simp<;>omega
theorem msRS {I0:Ids} {w0 w:World} {L:List Assn} {k i:Nat} {ms:List MSt} (h:Hp I0 w0 L w) (a:L[k]?=some (Big msF ms)) (b:i<ms.length):RS w (intK .i64) (ms.getD i msK.d).sup.A (ms.getD i msK.d).sup.ys:=
 h.bigOS (G:=fun m w=>RS w (intK .i64) m.sup.A m.sup.ys) msK.d a b fun j m c=>by
  obtain⟨_,_,_,_,e,_⟩:=c;exact OS.rs e
theorem kTz {sup:Nat→List Int} {O:List Int} {r0 r:List Bool} {c i:Nat} (a:r=reqM sup O r0 c) (b:O.getD (O.length-1-c) (intK .i64).d=(i:Int)) (h:r.getD i bolK.d=true):kT7 r (sup i)=reqM sup O r0 (c+1):=by
 subst a;have e:O.getD (O.length-1-c) 0=(i:Int):=b;rw[reqM];simp only[e,qh];exact(if_pos h).symm
theorem kUV {sup:Nat→List Int} {O:List Int} {r0 r:List Bool} {c i:Nat} (b:r=reqM sup O r0 c) (e:O.getD (O.length-1-c) (intK .i64).d=(i:Int)) (h:r.getD i bolK.d=false):r=reqM sup O r0 (c+1):=by
 subst b;have f:O.getD (O.length-1-c) 0=(i:Int):=e;rw[reqM];simp only[f,qh];exact(if_neg (by intro a;have g:(reqM sup O r0 c).getD i false=false:=h;rw[g] at a;cases a)).symm
theorem kTO {r:List Bool} {O:List Int} {c i:Nat} (a:O.getD c (intK .i64).d=(i:Int)) (h:r.getD i bolK.d=true):(opsG r O c).map pop1++[⟨i,true,0⟩]=(opsG r O (c+1)).map pop1:=by
 have b:O.getD c 0=(i:Int):=a;rw[opsG];simp only[b,qh];have e:r.getD i false=true:=h;rw[if_pos e,qN];rfl
theorem kTe {r:List Bool} {O:List Int} {c i:Nat} (b:O.getD c (intK .i64).d=(i:Int)) (h:r.getD i bolK.d=false):opsG r O (c+1)=opsG r O c:=by
 have e:O.getD c 0=(i:Int):=b;rw[opsG];simp only[e,qh];exact if_neg (by intro a;have f:r.getD i false=false:=h;rw[f] at a;cases a)
structure GetG where
 ms:List MSt
 A:Option Addr
 c:Nat
end Go.Pw
namespace Go.Pw
open Go.Sv Go.Ios
structure RD where
 on:Bool
 base:Int
 own:Int
 val:Nat→Int
def rd0:RD:=⟨false,0,0,fun _=>0⟩
def RD.tu (g:RD) (x:Int):Tu:=⟨g.base,256,g.own,g.val (x-g.base).toNat⟩
def RD.hit (g:RD) (x:Int):Prop:=g.on=true∧g.base≤x∧x<g.base+256
def okB (b:Int):Prop:=0≤b∧b%256=0∧b≤1099511627776
structure BM (s:BS) (rs:List RD):Prop where
 ok:s.ok
 n:rs.length≤100
 tot:s.total=((rs.countP fun g=>g.on:Nat):Int)
 mem: ∀x t,inM s 0 x t↔ ∃i,i<rs.length∧(rs.getD i rd0).hit x∧t=(rs.getD i rd0).tu x
 al: ∀i,i<rs.length→(rs.getD i rd0).on=true→okB (rs.getD i rd0).base
 dj: ∀i j,i<rs.length→j<rs.length→(rs.getD i rd0).on=true→(rs.getD j rd0).on=true→(rs.getD i rd0).base=(rs.getD j rd0).base→i=j
theorem okB.u {b:Int} (h:okB b):isU b:=by grind [okB,isU]
theorem okB.eq {a b x:Int} (c:okB a) (d:okB b) (e:a≤x) (f:x<a+256) (g:b≤x) (h:x<b+256):a=b:=by
 grind [okB]
theorem kGu (rs:List RD) {i:Nat} (a:i<rs.length) (g:RD):(((rs.set i g).countP fun g=>g.on:Nat):Int)=((rs.countP fun g=>g.on:Nat):Int)-(if (rs.getD i rd0).on=true then 1 else 0)+(if g.on=true then 1 else 0):=by
 grind
section
variable {s s2:BS} {rs:List RD} {i:Nat}
theorem BM.t0 (h:BM s rs):s.total≤100:=by
 have a:=h.tot;have b:=List.countP_le_length (l:=rs) (p:=fun g=>g.on);have c:=h.n;omega
theorem BM.map (h:BM s rs) (q:i<rs.length) (l:(rs.getD i rd0).on=false) {b o e:Int} (v:okB b) (C:0≤o∧o<256) (D: ∀j,j<rs.length→(rs.getD j rd0).on=true→(rs.getD j rd0).base≠b)
 (w:MapO s 0 b 256 o e s2):e=0∧BM s2 (rs.set i ⟨true,b,o,fun _=>0⟩):=by
 have N:kD9 0 b 256 o:=⟨⟨by omega,by omega⟩,by grind [okB,okR],C⟩
 have r:=kGk h.ok v.u w;have E: ¬Ios.busy (s.sp 0).hs b 256:=by
  rw[kJt h.ok (by decide) (by decide)];rintro⟨x,t,g,a,f⟩;obtain⟨j,d,⟨y,F,G⟩,_⟩:=(h.mem x t).1 f;exact D j d y (okB.eq (h.al j d y) v F G g a)
 have H:=h.t0;cases w with
 |bad g=>grind
 |busy m z _ I=>
  grind
 |full m z _ _ J=>omega
 |done m O A c z _ P J=>
  obtain rfl:m=0:=by omega
  refine⟨rfl,r,by rw[qI];exact h.n,?_,fun x t=>?_,fun j d p=>?_,fun j k d B g a f=>?_⟩
  ·rw[kGu rs q,l,←h.tot];show s.total+1=s.total-0+1;omega
  ·rw[show((0:Int)=((0:Nat):Int)) from rfl,kJs h.ok (by decide)];constructor
   ·rintro(⟨_,g,a,f⟩|g)
    ·refine⟨i,by grind,?_⟩;rw[kA1 _ _ _ _ q];have K:x≤b+(256-1):=a;refine⟨⟨rfl,g,by grind⟩,?_⟩
     grind [tuM,RD.tu,byt]
    ·obtain⟨j,d,a,f⟩:=(h.mem x t).1 g;have L:i≠j:=fun e=>by subst e;rw[a.1] at l;grind
     refine⟨j,by grind,?_⟩
     grind
   ·rintro⟨j,d,a,f⟩;rw[qI] at d;by_cases e:i=j
    ·subst e;rw[kA1 _ _ _ _ q] at a f;refine .inl ⟨rfl,a.2.1,?_,by grind [tuM,RD.tu,byt]⟩;have Q:x<b+256:=a.2.2
     grind
    ·rw[kA0 _ _ _ e] at a f;exact .inr ((h.mem x t).2 ⟨j,d,a,f⟩)
  ·rw[qI] at d;by_cases e:i=j
   ·grind
   ·rw[kA0 _ _ _ e] at p ⊢;exact h.al j d p
  ·rw[qI] at d B;by_cases e:i=j
   ·grind
   ·by_cases M:i=k
    ·grind
    ·rw[kA0 _ _ _ e] at g f;rw[kA0 _ _ _ M] at a f;exact h.dj j k d B g a f
theorem BM.en (h:BM s rs) {o e:Int} {v:Bool} (b:EnO s o v e s2):BM s2 rs:=by
 have a:=kJw h.ok b;cases b with
 |bad _=>exact h
 |done c=>exact⟨a,h.n,h.tot,fun x t=>(kM5 rfl).trans (h.mem x t),h.al,h.dj⟩
theorem BM.see (h:BM s rs) (b:i<rs.length) (a:(rs.getD i rd0).on=true) {k:Nat} (g:k<256):ownM s 0 ((rs.getD i rd0).base+k)=(rs.getD i rd0).own∧pkM s 0 ((rs.getD i rd0).base+k)=(rs.getD i rd0).val k∧(fnd s 0 ((rs.getD i rd0).base+k)).isSome=true:=by
 have c:=(h.mem ((rs.getD i rd0).base+k) _).2 ⟨i,b,⟨a,by omega,by omega⟩,rfl⟩;obtain⟨d,e,f⟩:=kOX h.ok c;refine⟨d,?_,f⟩;rw[e];show(rs.getD i rd0).val ((rs.getD i rd0).base+k-(rs.getD i rd0).base).toNat=_;grind
end
def rdsM (ps:Nat→Int×Int) (n i:Nat):List RD:=(List.range n).map fun j=>if j<i then ⟨true,(ps j).1,(ps j).2,fun _=>0⟩ else rd0
theorem kBc (ps:Nat→Int×Int) (n i:Nat):(rdsM ps n i).length=n:=by simp[rdsM]
theorem kHy (ps:Nat→Int×Int) {n i j:Nat} (a:j<n):(rdsM ps n i).getD j rd0=if j<i then ⟨true,(ps j).1,(ps j).2,fun _=>0⟩ else rd0:=by
 grind [rdsM]
theorem kPH (ps:Nat→Int×Int) {n i:Nat} (a:i<n):(rdsM ps n i).set i ⟨true,(ps i).1,(ps i).2,fun _=>0⟩=rdsM ps n (i+1):=by
 apply List.ext_getElem (by simp[kBc])
 grind [rdsM]
theorem bm0 (ps:Nat→Int×Int) {n:Nat} (h:n≤100):BM bs0 (rdsM ps n 0):=by
 have c: ∀j,j<n→((rdsM ps n 0).getD j rd0).on=false:=fun j d=>by rw[kHy ps d,if_neg (by omega)];rfl
 refine⟨kJd,by grind [kBc],?_,fun x t=>?_,fun i a e=>?_,fun i j a d b k l=>?_⟩
 ·have:(rdsM ps n 0).countP (fun g=>g.on)=0:=by
   rw[List.countP_eq_zero];intro g f;obtain⟨j,_,rfl⟩:=List.mem_map.1 f;simp[rd0]
  rw[this];rfl
 ·constructor
  ·intro b;obtain⟨m,i,o,p,a,_⟩:=b;obtain rfl:m=0:=by omega
   exact absurd a (by show ¬i<0;omega)
  ·rintro⟨i,a,b,_⟩;rw[kBc] at a;have:=b.1;grind
 ·grind [kBc]
 grind [kBc]
section
variable {ps:Nat→Int×Int} {n:Nat}
def PsOk (ps:Nat→Int×Int) (n:Nat):Prop:=n≤100∧(∀i,i<n→okB (ps i).1∧0≤(ps i).2∧(ps i).2<256)∧ ∀i j,i<n→j<n→(ps i).1=(ps j).1→i=j
theorem kHz (d:PsOk ps n) {i:Nat} (b:i<n) {s k:BS} {e:Int} (h:BM s (rdsM ps n i)) (l:MapO s 0 (ps i).1 256 (ps i).2 e k):e=0∧BM k (rdsM ps n (i+1)):=by
 have:=h.map (i:=i) (by grind [kBc]) (by rw[kHy ps b,if_neg (by omega)];rfl) (d.2.1 i b).1 (d.2.1 i b).2 (fun j f a g=>by
  rw[kBc] at f;rw[kHy ps f] at a g;by_cases c:j<i
  ·rw[if_pos c] at g;have:=d.2.2 j i f b g;omega
  ·rw[if_neg c] at a;cases a) l
 grind [kPH]
theorem kKU (a:PsOk ps n): ∀ {i:Nat} {s:BS},i≤n→OkO ps bs0 i s→BM s (rdsM ps n i)
 |0,s,_,h=>by cases h;exact bm0 ps a.1
 |i+1,s,hi,⟨s1,s2,e,h1,h2,h3⟩=>(kHz a (by omega) (kKU a (by omega) h1) h2).2.en h3
theorem kPI (a:PsOk ps n) {e:Int} {s:BS} (h:EndO ps bs0 n e s):e=0∧BM s (rdsM ps n n):=by
 rcases h with ⟨b,c⟩|⟨b,i,g,d,c,f⟩
 ·grind [kKU]
 ·exact absurd (kHz a d (kKU a (by omega) c) f).1 b
end
theorem kKV {a:Int} {i j:Nat} (b:i<12) (c:j<12) (h:plcM i a=plcM j a):i=j:=by
 grind [plcM]
theorem kKW (i:Nat) (a:Int):okB (plcM i a):=by
 grind [plcM,okB]
theorem kRa {ds:List BDv} {bs:List Int} {arr:Int} (c:ds.length≤6) (h: ∀i,i<ds.length→(0≤(ds.getD i bdK.d).fn∧(ds.getD i bdK.d).fn<255)∧bs.getD i (Rails.intK .u64).d=plcM i arr):PsOk (psM ds bs) ds.length:=by
 refine⟨by omega,fun i a=>?_,fun i j a b e=>?_⟩
 ·grind [psM,kKW]
 ·unfold psM at e;rw[(h i a).2,(h j b).2] at e;exact kKV (by omega) (by omega) e
section
variable {rs:List RD} {to:Nat→Int} {k:Nat}
theorem kDI {a b:List RD} (c:a.length=b.length) (h: ∀j,j<a.length→a.getD j rd0=b.getD j rd0):a=b:=by
 grind [List.ext_getElem]
variable {s s2:BS}
end
end Go.Pw
namespace Go.Pw
open Go.Sv Go.Rails Go.Dg
theorem kT6 {P C:Prop} {α β:Type} {E A B:α→β→Prop} (h:(P→ ∃a b,E a b∧(A a b∨B a b))∧(¬P→C)):(P∧ ∃a b,E a b∧A a b)∨(P∧ ∃a b,E a b∧B a b)∨(¬P∧C):=by
 by_cases c:P
 ·obtain⟨a,b,e,d|d⟩:=h.1 c
  ·exact .inl ⟨c,a,b,e,d⟩
  ·exact .inr (.inl ⟨c,a,b,e,d⟩)
 ·exact .inr (.inr ⟨c,h.2 c⟩)
theorem kCO {I0:Ids} {w0 w:World} {X:List Assn} {c:Nat} (h:Hp I0 w0 (X++[Blk c (.cells (Ios.rbC Ios.rb0).toArray 117 (0,0))]) w):Hp I0 w0 (X++[Bun (Ios.rbL c Ios.rb0)]) w:=by
 refine kDu ?_;have a:=(((h.nilOS (e:=313) (K:=Ios.rhK)).newBig 0 Ios.rhK.d (F:=Ios.rhA) OS.emp).nilOS (e:=510) (K:=Ios.fltK)).nilOS (e:=381) (K:=Ios.trcK);simp only[qL] at a;exact a
theorem kPL {d:BDv} {w:World} (h:d.few) (a:d.pw.rs w) (b:RS w (intK .i64) d.il.sup.A d.il.sup.ys):d.inn w:=
 ⟨a,fun k c=>qk (h.1 k c) (by decide),b,qk h.2.2 (by decide)⟩
def tB (t:TT):Assn:=Blk t.b (.cells #[.slice t.dA t.es.length t.dc,.slice t.sA t.st.length t.sc,.pointer (some ⟨t.rb,0,none⟩),.int .u64 t.clk] 258 (0,0))
def tS (t:TT):Assn:=OS 3 (intK .i64) t.sA t.sc t.st
def mB (t:MG):Assn:=Blk t.b (.cells #[.slice t.A t.ms.length t.c,.slice t.oA t.od.length t.oc,.int .u64 t.clk] 236 (0,0))
def mS (t:MG):Assn:=OS 233 msK t.A t.c t.ms
def cpX (p:CP):List Assn:=[OS 3 (intK .i64) p.oA p.oc p.od,OS 55 pdK p.t.dA p.t.dc p.t.es,Big pdF p.t.es,Bun (robj 376 p.t.rb p.t.ra p.t.rs),Big msF p.m.ms,OS 3 (intK .i64) p.m.oA p.m.oc p.m.od]
def cpV (p:CP):List Assn:=[cpB p,cpU p,tB p.t,tS p.t,Big unF p.us,mB p.m,mS p.m,Bun (cpX p)]
section
variable {I0:Ids} {w0 w:World} {p:CP} {X:List Assn}
theorem kRc (h:Hp I0 w0 (cpL p++X) w):Hp I0 w0 (cpV p++X) w:=by
 have e:cpL p++X=([cpB p,cpU p,Big unF p.us,OS 3 (intK .i64) p.oA p.oc p.od,tB p.t,OS 55 pdK p.t.dA p.t.dc p.t.es,Big pdF p.t.es,tS p.t]++robj 376 p.t.rb p.t.ra p.t.rs)++([mB p.m,mS p.m,Big msF p.m.ms,OS 3 (intK .i64) p.m.oA p.m.oc p.m.od]++X):=by
  unfold cpL ttL mgL;simp only[qL,qM,List.nil_append];rfl
 rw[e] at h;have a:=h.perm ((qf).append_right _);rw[qL] at a;have b:=Hp.bun a;have c:=b.perm (kAg (ks:=[4,5,5,0,7,7,0,0,1,1,0,0,0]) rfl);have d:Hp I0 w0 ([Bun (cpX p)]++([cpB p,cpU p,tB p.t,tS p.t,Big unF p.us,mB p.m,mS p.m]++X)) w:=Hp.bun c;exact d.perm (kAg (ks:=[1,1,1,1,1,1,1,0]) rfl)
end
structure CPr (p:CP) (w:World):Prop where
 pb:w.heap[p.b]?=some (.cells #[.slice p.uA p.us.length p.uc,.pointer (some ⟨p.t.b,0,none⟩),.pointer (some ⟨p.m.b,0,none⟩),.pointer (some ⟨p.bb,0,none⟩),.slice p.oA p.od.length p.oc] 126 (0,0))
 us:RS w unK p.uA p.us
 tb:w.heap[p.t.b]?=some (.cells #[.slice p.t.dA p.t.es.length p.t.dc,.slice p.t.sA p.t.st.length p.t.sc,.pointer (some ⟨p.t.rb,0,none⟩),.int .u64 p.t.clk] 258 (0,0))
 ts:RS w (intK .i64) p.t.sA p.t.st
 mb:w.heap[p.m.b]?=some (.cells #[.slice p.m.A p.m.ms.length p.m.c,.slice p.m.oA p.m.od.length p.m.oc,.int .u64 p.m.clk] 236 (0,0))
 ms:RS w msK p.m.A p.m.ms
 dr: ∀i,i<p.us.length→w.heap[(p.us.getD i unK.d).q]?=some (.cells #[.string (bs (p.us.getD i unK.d).d.name),.slice (p.us.getD i unK.d).d.sA (p.us.getD i unK.d).d.ss.length (p.us.getD i unK.d).d.sc,.slice (p.us.getD i unK.d).d.tA (p.us.getD i unK.d).d.hs.length (p.us.getD i unK.d).d.tc,.int .i64 (p.us.getD i unK.d).st.st,.bool (p.us.getD i unK.d).st.wt,.int .i64 (p.us.getD i unK.d).st.cd] 260 (0,0))
def ct0:Hd:=⟨none,0,[]⟩
def vals (f:Nat→Int) (n:Nat):List Int:=(List.range n).map f
structure CtM (rs:List RD) (to:Nat→Int) (k:Nat) (cs:List Hd):Prop where
 n:cs.length=rs.length
 on: ∀j,j<k→to j≠(rs.getD j rd0).base→(cs.getD j hdK.d).ys=vals (rs.getD j rd0).val 256∧(cs.getD j hdK.d).A≠none
 off: ∀j,j<rs.length→(k≤j∨to j=(rs.getD j rd0).base)→cs.getD j hdK.d=ct0
section
variable {rs:List RD} {to:Nat→Int} {k:Nat} {cs:List Hd}
end
def mvU (us:List UN) (to:Nat→Int) (k:Nat):List UN:=us.mapIdx fun j u=>if j<k then {u with base:=to j} else u
section
variable {us:List UN} {to:Nat→Int} {k:Nat}
end
structure MvP (p:CP) (rs:List RD):Prop where
 n:rs.length=p.us.length
 few:p.us.length≤16
 off:p.t.es.length=p.us.length∧p.t.st=List.replicate p.us.length 4
 u: ∀i,i<p.us.length→(rs.getD i rd0).base=(p.us.getD i unK.d).base∧(rs.getD i rd0).own=(p.us.getD i unK.d).own∧(rs.getD i rd0).on=true
 o: ∀i,i<p.us.length→0≤(p.us.getD i unK.d).own∧(p.us.getD i unK.d).own<256∧okB (p.us.getD i unK.d).base
 v: ∀i,i<p.us.length→ ∀m,0≤(rs.getD i rd0).val m∧(rs.getD i rd0).val m≤255
def tL (t:TT):List Assn:=[tB t,OS 55 pdK t.dA t.dc t.es,Big pdF t.es,tS t,Bun (robj 376 t.rb t.ra t.rs)]
structure AcS (t:TT) (S:List Int) (now:Int):Prop where
 st: ∀i:Nat,(i:Int)∈S→t.st.getD i (intK .i64).d=0
 up: ∀i:Nat,(i:Int)∈S→0≤(t.es.getD i pdK.d).par→(t.es.getD i pdK.d).par∈S
 on: ∀i:Nat,(i:Int)∈S→ ∀j,j<(t.es.getD i pdK.d).r0.ys.length→((0≤(t.es.getD i pdK.d).r0.ys.getD j (intK .i64).d∧(t.es.getD i pdK.d).r0.ys.getD j (intK .i64).d<t.rs.rails.length)∧ ¬t.rs.c ((t.es.getD i pdK.d).r0.ys.getD j (intK .i64).d).toNat=0)∧t.rs.t ((t.es.getD i pdK.d).r0.ys.getD j (intK .i64).d).toNat≤now
structure TOk (t:TT):Prop where
 n:t.es.length≤64
 st:t.st.length=t.es.length
 par: ∀i,i<t.es.length→ -1≤(t.es.getD i pdK.d).par∧(t.es.getD i pdK.d).par<i
 rl: ∀i,i<t.es.length→(t.es.getD i pdK.d).r0.ys.length≤8
 rg: ∀i,i<t.es.length→ ∀r∈(t.es.getD i pdK.d).r0.ys,0≤r∧r<t.rs.rails.length
 asc: ∀i,i<t.es.length→ascP (t.es.getD i pdK.d).r0.ys
 wf:t.rs.wf
theorem TrI.mono {rk:Nat→Nat} {es:List PDv} {K K2:Int} {S st:List Int} {rs:St} (h:TrI rk es K S st rs) (b:K≤K2):TrI rk es K2 S st rs:=
 ⟨h.len,h.st,⟨h.ok.wf,h.ok.acy,h.ok.r8,h.ok.up,h.ok.cl,fun i a=>by have:=h.ok.c i a;omega,h.ok.t0,h.ok.t⟩,h.on⟩
theorem TrI.go {rk:Nat→Nat} {t:TT} {R:Int→Int→Prop} {O:List Int} {k:Nat} (h:TrI rk t.es (8* k) (O.take k) t.st t.rs) (c:TOk t) (m:Tp R t.es.length O) (l:k<O.length) (s:O.length≤64) (u: ∀i,i<t.es.length→0≤(t.es.getD i pdK.d).par→R i (t.es.getD i pdK.d).par):
 ∃i:Nat,O.getD k (intK .i64).d=(i:Int)∧i<t.es.length∧t.st.getD i (intK .i64).d=4∧(0≤(t.es.getD i pdK.d).par→t.st.getD (t.es.getD i pdK.d).par.toNat (intK .i64).d=0)∧(∀j,0≤t.st.getD j (intK .i64).d)∧TrI rk t.es (8* (k+1:Nat)) (O.take (k+1)) (t.st.set i 0) (acqs 8 t.rs (t.es.getD i pdK.d).r0.ys)∧(acqs 8 t.rs (t.es.getD i pdK.d).r0.ys).rails=t.rs.rails:=by
 have v:=kTN l;obtain⟨i,a,e⟩:=m.rg _ v;have b: ∀j:Nat,j<t.es.length→t.st.getD j (intK .i64).d=if (j:Int)∈O.take k then 0 else 4:=fun j g=>h.st j g
 have n:(i:Int)∉O.take k:=fun o=>by rw[←e] at o;exact kLU l o m.nd
 have p:=h.step (f:=8) (by omega) (by omega) h.ok.r8 a (c.rg i a) (by have:(t.es.getD i pd0).r0.ys.length≤8:=c.rl i a;omega) (fun j g=>c.rg j g);refine⟨i,e,a,by rw[b i a,if_neg n],fun q=>?_,fun j=>?_,?_,p.2⟩
 ·have r:=c.par i a;have w:(t.es.getD i pdK.d).par∈O.take k:=m.up k l _ (by have:=u i a q;rw[←e] at this;exact this);have x:=b (t.es.getD i pdK.d).par.toNat (by omega);rw[x,if_pos (by rw[Int.toNat_of_nonneg q];exact w)]
 ·by_cases g:j<t.es.length
  ·rw[b j g];split<;>decide
  ·have:=c.st;rw[show t.st.getD j (intK .i64).d=0 by rw[List.getD,List.getElem?_eq_none (by omega)];rfl];decide
 ·have r:=p.1.mono (K2:=8* ((k+1:Nat):Int)) (by have:(t.es.getD i pd0).r0.ys.length≤8:=c.rl i a;omega);rw[kAJ O k (intK .i64).d l,e];exact r
theorem TrI.acs {rk:Nat→Nat} {t:TT} {K:Int} {R:Int→Int→Prop} {S:List Int} (h:TrI rk t.es K S t.st t.rs) (m:TOk t) (f:Tp R t.es.length S) (n: ∀i,i<t.es.length→0≤(t.es.getD i pdK.d).par→R i (t.es.getD i pdK.d).par):AcS t S 100000:=by
 have b: ∀i:Nat,(i:Int)∈S→i<t.es.length:=fun i a=>by obtain⟨j,g,e⟩:=f.rg _ a;omega
 refine⟨fun i a=>?_,fun i a o=>?_,fun i a j g=>?_⟩
 ·exact(h.st i (b i a)).trans (if_pos a)
 ·obtain⟨k,l,e⟩:=List.getElem_of_mem a;exact List.mem_of_mem_take (f.up k l _ (by rw[show S.getD k 0=S[k] by simp[List.getD,l],e];exact n i (b i a) o))
 ·have c:=kTN g;have p:=m.rg i (b i a) _ c;exact⟨⟨p,h.on i (b i a) a _ c⟩,h.ok.pow (by omega)⟩
theorem TrI.zero {rk:Nat→Nat} {es:List PDv} {rs:St} (h:Rl0 rk 0 rs):TrI rk es (8* (0:Nat)) [] (List.replicate es.length 4) rs:=
 ⟨by simp,fun i a=>by simp[List.getD,a],h,fun i a b=>by cases b⟩
def tW (t:TT) (st:List Int) (rs:St):TT:={t with st:=st,rs:=rs,clk:=0}
theorem kUW {t:TT} (h:t.clk=0):tW t t.st t.rs=t:=by cases t;simp at h;subst h;rfl
theorem TOk.w {t:TT} {st:List Int} {rs:St} (h:TOk t) (a:st.length=t.st.length) (b:rs.rails=t.rs.rails) (c:rs.wf):TOk (tW t st rs):=
 ⟨h.n,a.trans h.st,h.par,h.rl,by show ∀i,i<t.es.length→ ∀r∈(t.es.getD i pdK.d).r0.ys,0≤r∧r<rs.rails.length;rw[b];exact h.rg,h.asc,c⟩
end Go.Pw
namespace Go.Pw
open Go.Sv Go.Ios
def RD.wr4 (g:RD) (k:Nat) (v:Int):RD:={g with val:=fun j=>if k≤j∧j<k+4 then byo v (j-k) else g.val j}
def rd4 (f:Nat→Int) (k:Nat):Int:=f k+f (k+1)* 256+f (k+2)* 65536+f (k+3)* 16777216
def ac4 (rs:List RD) (i k:Nat) (w:Bool) (v:Int):List RD:=if w=true then rs.set i ((rs.getD i rd0).wr4 k v) else rs
theorem rdL4 (l:List Int) (k:Nat):rdL l k 4=rd4 (byt l) k:=by
 grind [rdL,rd4,pw]
theorem BM.put {s p:BS} {rs:List RD} {i:Nat} (h:BM s rs) (q:i<rs.length) (o:(rs.getD i rd0).on=true) {k:Nat} (F:k+4≤256) (v:Int) (u:p.ok) (C:p.total=s.total) (hI: ∀x t,inM p 0 x t↔ ∃t0,inM s 0 x t0∧t=upd 0 ((rs.getD i rd0).base+k) v 4 0 x t0):BM p (rs.set i ((rs.getD i rd0).wr4 k v)):=by
 have w:=h.al i q o;have g: ∀c,((rs.set i ((rs.getD i rd0).wr4 k v)).getD c rd0).on=(rs.getD c rd0).on∧((rs.set i ((rs.getD i rd0).wr4 k v)).getD c rd0).base=(rs.getD c rd0).base∧ ∀x,(rs.getD c rd0).hit x→((rs.set i ((rs.getD i rd0).wr4 k v)).getD c rd0).tu x=if c=i then upd 0 ((rs.getD i rd0).base+k) v 4 0 x ((rs.getD c rd0).tu x) else (rs.getD c rd0).tu x:=fun c=>by
  by_cases e:i=c
  ·subst e;rw[kA1 _ _ _ _ q];refine⟨rfl,rfl,fun x l=>?_⟩;have d:=l.2
   grind [upd,RD.tu,RD.wr4]
  grind
 have D: ∀c,c<rs.length→ ∀x,(rs.getD c rd0).hit x→upd 0 ((rs.getD i rd0).base+k) v 4 0 x ((rs.getD c rd0).tu x)=((rs.set i ((rs.getD i rd0).wr4 k v)).getD c rd0).tu x:=fun c z x l=>by
  rw[(g c).2.2 x l];split
  ·rfl
  ·rename_i e;unfold upd;rw[if_neg];rintro⟨_,y,h4⟩;exact e (h.dj i c q z o l.1 (okB.eq w (h.al c z l.1) (x:=x) (by omega) (by omega) l.2.1 l.2.2)).symm
 have E: ∀c x,((rs.set i ((rs.getD i rd0).wr4 k v)).getD c rd0).hit x↔(rs.getD c rd0).hit x:=fun c x=>by grind [RD.hit]
 refine⟨u,by rw[qI];exact h.n,?_,fun x t=>?_,fun j A f=>?_,fun a b m B r d y=>?_⟩
 ·rw[kGu rs q,C,←h.tot]
  grind
 ·rw[hI x t,qI];constructor
  ·rintro⟨t0,r,rfl⟩;obtain⟨a,m,d,rfl⟩:=(h.mem x t0).1 r
   grind
  ·rintro⟨a,m,d,rfl⟩;rw[E] at d;exact⟨_,(h.mem x _).2 ⟨a,m,d,rfl⟩,(D a m x d).symm⟩
 ·rw[qI] at A;rw[(g j).1] at f;rw[(g j).2.1];exact h.al j A f
 ·rw[qI] at m B;rw[(g a).1] at r;rw[(g b).1] at d;rw[(g a).2.1,(g b).2.1] at y;exact h.dj a b m B r d y
theorem BM.acc {s:BS} {rs:List RD} {i:Nat} (h:BM s rs) (B:i<rs.length) (d:(rs.getD i rd0).on=true) (N:s.fl=[]) (O:s.en.getD (rs.getD i rd0).own.toNat false=true) {k:Nat} (P:k+4≤256) (Z:k%4=0) {w:Bool} {v:Int} {a:Acs} (C:a=⟨0,(rs.getD i rd0).base+k,4,w,v⟩):
 wfA a∧accE s a=0∧(w=false→accV s a=rd4 (rs.getD i rd0).val k)∧ ∀(A:Option Addr) (c:Nat) (tA:Option Addr) (tc:Nat),(wrs s a→A≠Option.none)→s.tr.length<65536→BM (accS s a A c tA tc) (ac4 rs i k w v)∧(accS s a A c tA tc).fl=[]∧(accS s a A c tA tc).en=s.en∧(accS s a A c tA tc).tr.length=s.tr.length+1:=by
 have D:=h.al i B d;have Q:=D;unfold okB at Q;have E:=(h.mem ((rs.getD i rd0).base+k) _).2 ⟨i,B,⟨d,by omega,by omega⟩,rfl⟩;obtain⟨m,j,hz,K,hf,L,R,S,f⟩:=kJp h.ok E;obtain rfl:m=0:=by omega
 have eb:(rs.getD i rd0).base=(mh (s.sp 0).hs j).base:=congrArg Tu.b f;have el:256=(mh (s.sp 0).hs j).len:=congrArg Tu.l f;have eo:(rs.getD i rd0).own=(mh (s.sp 0).hs j).own:=congrArg Tu.o f;have M:(mh (s.sp 0).hs j).lst=(rs.getD i rd0).base+255:=by grind
 have T: ∀q:Nat,q<256→byt (mh (s.sp 0).hs j).bs q=(rs.getD i rd0).val q:=fun q U=>by
  obtain⟨_,h2,_⟩:=h.see B d U;have V:fnd s 0 ((rs.getD i rd0).base+q)=some j:=by
   have:=kC4 (h.ok.sp 0 K) L (x:=(rs.getD i rd0).base+q) (by omega) (by omega)
   grind [kDs]
  grind [pkM]
 have F:fnd s a.space a.addr=some j:=by grind
 have g:lvM s a=true:=by
  grind [kTb]
 have e:flM s a=false:=by grind [flM]
 have r:wfA a:=by rw[C];refine⟨.inr (.inr (.inl rfl)),⟨Int.le_refl _,show(0:Int)<3 by decide⟩,?_⟩;grind
 have u:fh s a=mh (s.sp 0).hs j:=by grind [fh,kTn]
 refine⟨r,by grind [accE],fun hw=>?_,fun A c tA tc W ht=>?_⟩
 ·have G:a.wr=false:=by grind
  rw[accV,vlM,e,G,g];simp only[qX,if_false,if_true];rw[u,C]
  grind [rdL4,rd4]
 ·have y:=kVP (c:=c) h.ok r W tA tc (by omega);have X:=kVw s a A c tA tc;have H:useL s.fl a=s.fl:=by grind [useL]
  have I:stF s a=s:=by unfold stF;rw[H];split<;>rfl
  refine⟨?_,by grind,X.1,by grind⟩;unfold ac4;cases w with
  |true=>
   rw[if_pos rfl];have J:wrs s a:=⟨by rw[C],g,e⟩
   have z:(accS s a A c tA tc).sps=(setM s 0 j {mh (s.sp 0).hs j with A:=A,c:=c,bs:=wrK (raw0 (mh (s.sp 0).hs j)) ((rs.getD i rd0).base+k-(mh (s.sp 0).hs j).base).toNat v 4}).sps∧(accS s a A c tA tc).total=s.total:=by
    have:stW s a A c=setM s 0 j {mh (s.sp 0).hs j with A:=A,c:=c,bs:=wrK (raw0 (mh (s.sp 0).hs j)) ((rs.getD i rd0).base+k-(mh (s.sp 0).hs j).base).toNat v 4}:=by
     rw[stW,if_pos J,I,u,kTn F,C];rfl
    exact⟨by show(stW s a A c).sps=_;grind,by show(stW s a A c).total=_;rw[this];rfl⟩
   refine h.put B d P v y z.2 fun x t=>?_;rw[kM5 z.1];exact kOb h.ok (m:=0) K L (p:=(rs.getD i rd0).base+k) (v:=v) (n:=4) (by omega) (by omega) (by omega) A c
  |false=>
   rw[if_neg (by decide)];have z:(accS s a A c tA tc).sps=s.sps∧(accS s a A c tA tc).total=s.total:=by
    have Y: ¬wrs s a:=fun x=>by have:=x.1;grind
    have:stW s a A c=s:=by grind [stW]
    exact⟨by show(stW s a A c).sps=_;grind,by show(stW s a A c).total=_;grind⟩
   exact⟨y,h.n,by rw[z.2];exact h.tot,fun x t=>by rw[kM5 z.1];exact h.mem x t,h.al,h.dj⟩
end Go.Pw
namespace Go.Pw
open Go.Sv Go.Ios Go.Drv
def opY (ys:List Int) (o:Ro):List Int:=if o.wr=true then wrK ys o.reg.toNat o.val 4 else ys
def opsY (ys:List Int) (os:List Ro):List Int:=os.foldl opY ys
def runY (ts:List Tr):Nat→IS×List Ro×Bool→List Int→IS×List Int
 |0,a,ys=>(a.1,ys)
 |f+1,a,ys=>if a.2.2=true then runY ts f (rplM ts a.1 (rd4 (byt ys) (trA ts a.1.cd).gd.reg.toNat)).1 ys else (a.1,opsY ys a.2.1)
def kT8 (ts:List Tr) (s:IS) (ev:Bs) (ys:List Int):IS×List Int:=runY ts (ts.length+1) (conM ts s ev 0) ys
structure ActY (ts:List Tr) (k:Nat) (a:IS×List Ro×Bool):Prop where
 wt:a.1.wt=a.2.2
 on:a.2.2=true→a.1.cd<ts.length∧k≤a.1.cd∧a.2.1=[⟨false,(trA ts a.1.cd).gd.reg,0⟩]
 ops:a.2.1.length≤16
 reg: ∀o∈a.2.1,0≤o.reg∧o.reg%4=0∧o.reg<256∧isU o.val
def RgY (ts:List Tr):Prop:= ∀i,i<ts.length→((0≤(trA ts i).gd.reg∧(trA ts i).gd.reg%4=0)∧(trA ts i).gd.reg<256)∧(trA ts i).ops.length≤16∧ ∀o∈(trA ts i).ops,0≤o.reg∧o.reg%4=0∧o.reg<256∧isU o.val
section
variable {ts:List Tr} {s:IS} {ev:Bs} {k:Nat}
theorem kTQ (c:RgY ts) (hs:s.wt=false):ActY ts k (conM ts s ev k):=by
 unfold conM;cases h:fndM ts s.st ev k with
 |none=>exact⟨hs,fun h=>(by cases h),qT _,fun o a=>(by cases a)⟩
 |some i=>
  have b:=List.mem_of_find?_eq_some h;rw[List.mem_range'_1] at b;obtain⟨f,d,e⟩:=c i (by omega);simp only[];split
  ·exact⟨hs,fun h=>(by cases h),d,e⟩
  ·refine⟨rfl,fun _=>⟨by grind,b.1,rfl⟩,by simp,fun o a=>?_⟩
   grind [isU]
theorem kTR {a:IS×List Ro×Bool} (d:RgY ts) (h:ActY ts k a) (c:a.2.2=true) (v:Int):ActY ts (a.1.cd+1) (rplM ts a.1 v).1∧(rplM ts a.1 v).2=0:=by
 have b:=h.on c;have e:a.1.wt=true:=by rw[h.wt,c]
 obtain⟨i,f,g⟩:=d a.1.cd b.1;unfold rplM;rw[if_neg (by grind)];split
 ·exact⟨⟨rfl,fun h=>(by cases h),f,g⟩,rfl⟩
 grind [kTQ]
theorem kT9 {a:IS×List Ro×Bool} {f:Nat} {ys:List Int} (b:a.2.2=true):runY ts (f+1) a ys=runY ts f (rplM ts a.1 (rd4 (byt ys) (trA ts a.1.cd).gd.reg.toNat)).1 ys:=by grind [runY]
theorem kTE {a:IS×List Ro×Bool} {f:Nat} {ys:List Int} (b:a.2.2=false):runY ts (f+1) a ys=(a.1,opsY ys a.2.1):=by grind [runY]
theorem kUX (c:RgY ts): ∀(f:Nat) (a:IS×List Ro×Bool) (ys:List Int) (k:Nat),ActY ts k a→ts.length<k+f→(runY ts f a ys).1.wt=false
 |0,a,ys,k,h,d=>by
  rw[runY];rw[h.wt];cases b:a.2.2 with
  |false=>rfl
  |true=>have:=h.on b;omega
 |f+1,a,ys,k,h,d=>by
  cases b:a.2.2 with
  |true=>
   rw[kT9 b];have:=(h.on b).2.1;exact kUX c f _ ys _ (kTR c h b _).1 (by omega)
  |false=>rw[kTE b];show a.1.wt=false;rw[h.wt,b]
theorem kU0 (a:RgY ts) (hs:s.wt=false) (ys:List Int):(kT8 ts s ev ys).1.wt=false:=kUX a _ _ _ 0 (kTQ a hs) (by omega)
theorem kUY (ys:List Int) (o:Ro):(opY ys o).length=ys.length:=by grind [opY,kBL]
theorem kTF: ∀(os:List Ro) (ys:List Int),(opsY ys os).length=ys.length
 |[],ys=>rfl
 |o::os,ys=>by show(opsY (opY ys o) os).length=_;rw[kTF os,kUY]
theorem kUZ (os:List Ro) (o:Ro) (ys:List Int):opsY ys (os++[o])=opY (opsY ys os) o:=by simp[opsY]
theorem kTf: ∀(f:Nat) (a:IS×List Ro×Bool) (ys:List Int),(runY ts f a ys).2.length=ys.length
 |0,a,ys=>rfl
 |f+1,a,ys=>by
  cases b:a.2.2 with
  |true=>rw[kT9 b,kTf f]
  |false=>grind [kTE,kTF]
end
def evsY (ts:List Tr):List Bs→IS×List Int→IS×List Int
 |[],p=>p
 |e::es,p=>evsY ts es (kT8 ts p.1 e p.2)
theorem kTG (ts:List Tr): ∀(es:List Bs) (e:Bs) (p:IS×List Int),evsY ts (es++[e]) p=kT8 ts (evsY ts es p).1 e (evsY ts es p).2
 |[],e,p=>rfl
 |x::es,e,p=>by rw[qM,evsY,evsY,kTG ts es]
theorem kTr {ts:List Tr} (a:RgY ts): ∀(es:List Bs) (p:IS×List Int),p.1.wt=false→(evsY ts es p).1.wt=false∧(evsY ts es p).2.length=p.2.length
 |[],p,h=>⟨h,rfl⟩
 |e::es,p,h=>by
  rw[evsY];have:=kTr a es _ (kU0 (ev:=e) a h p.2);exact⟨this.1,by rw[this.2];exact kTf _ _ _⟩
def rdY (ps:Nat→Int×Int) (n d:Nat) (ys:List Int):List RD:=(List.range n).map fun j=>⟨true,(ps j).1,(ps j).2,if j=d then byt ys else fun _=>0⟩
theorem kUa (ps:Nat→Int×Int) {n:Nat} (d:Nat) (ys:List Int) {j:Nat} (a:j<n):(rdY ps n d ys).getD j rd0=⟨true,(ps j).1,(ps j).2,if j=d then byt ys else fun _=>0⟩:=by grind [rdY]
theorem kUb (ps:Nat→Int×Int) (n d:Nat) (ys:List Int):(rdY ps n d ys).length=n:=by simp[rdY]
theorem kVT (ps:Nat→Int×Int) {n d:Nat} (a:d<n) {ys:List Int} {o:Ro} (b:o.reg.toNat+4≤ys.length):ac4 (rdY ps n d ys) d o.reg.toNat o.wr o.val=rdY ps n d (opY ys o):=by
 unfold ac4 opY;cases o.wr with
 |false=>rfl
 |true=>
  rw[if_pos rfl,if_pos rfl];apply List.ext_getElem (by simp[rdY]);intro j c f;rw[List.getElem_set];have g:j<n:=by grind [rdY]
  split
  ·rename_i e;subst e;rw[kUa ps d ys a];simp only[rdY,List.getElem_map,List.getElem_range,if_true,RD.wr4]
   congr 1;grind [kGi]
  grind [rdY]
end Go.Pw
namespace Go.Pw
open Go.Sv Go.Ios
structure Same (s s2:BS):Prop where
 ok:s2.ok
 bm: ∀rs,BM s rs→BM s2 rs
 fl:s2.fl=s.fl
 tr:s2.tr=s.tr
theorem Same.refl {s:BS} (h:s.ok):Same s s:=⟨h,fun _ h=>h,rfl,rfl⟩
theorem Same.trans {a b c:BS} (h:Same a b) (g:Same b c):Same a c:=⟨g.ok,fun rs k=>g.bm rs (h.bm rs k),g.fl.trans h.fl,g.tr.trans h.tr⟩
theorem Same.en {s a:BS} {o e:Int} {v:Bool} (b:s.ok) (h:EnO s o v e a):Same s a:=
 ⟨kJw b h,fun _ k=>k.en h,by cases h<;>rfl,by cases h<;>rfl⟩
theorem kVU {s a:BS} {o e:Int} (b:s.ok) (c:0≤o∧o<256) (h:EnO s o true e a):a.en.getD o.toNat false=true:=by
 cases h with
 |bad h=>exact absurd c h
 |done h=>
  show(s.en.set o.toNat true).getD o.toNat false=true;rw[kA1 _ _ _ _ (by rw[b.wf.en];omega)]
structure Qt (s:BS) (k:Nat):Prop where
 fl:s.fl=[]
 tr:s.tr.length≤k
theorem Qt.same {s a:BS} {k:Nat} (h:Qt s k) (g:Same s a):Qt a k:=⟨g.fl.trans h.fl,by rw[g.tr];exact h.tr⟩
theorem Qt.mono {s:BS} {k l:Nat} (h:Qt s k) (g:k≤l):Qt s l:=⟨h.fl,qk h.tr g⟩
theorem kVC {ps:Nat→Int×Int}: ∀ {i:Nat} {s:BS},OkO ps bs0 i s→Qt s 0
 |0,s,h=>by cases h;exact⟨rfl,qU _⟩
 |i+1,s,⟨s1,s2,e,h1,h2,h3⟩=>by
  have h:=kVC h1;have g:Qt s2 0:=by
   cases h2 with
   |done m j A c a b d f=>exact⟨h.fl,h.tr⟩
  cases h3 with
  |bad _=>exact g
  |done _=>exact⟨g.fl,g.tr⟩
theorem kVV {ps:Nat→Int×Int} {n:Nat} {e:Int} {s:BS} (h:EndO ps bs0 n e s) (a:e=0):Qt s 0:=by
 rcases h with ⟨_,b⟩|⟨c,_⟩
 ·exact kVC b
 ·exact absurd a c
def lstY (l0:Int) (ys:List Int) (os:List Drv.Ro):Int:=(os.foldl (fun p o=>(opY p.1 o,if o.wr=true then p.2 else rd4 (byt p.1) o.reg.toNat)) (ys,l0)).2
theorem kWM (a:Int): ∀(os:List Drv.Ro) (ys:List Int),(os.foldl (fun p o=>(opY p.1 o,if o.wr=true then p.2 else rd4 (byt p.1) o.reg.toNat)) (ys,a)).1=opsY ys os:=by
 intro os
 induction os generalizing a with
 |nil=>intro ys;rfl
 |cons o os b=>intro ys;rw[List.foldl_cons,b];rfl
theorem kUc (a:Int) (ys:List Int) (os:List Drv.Ro) (o:Drv.Ro):lstY a ys (os++[o])=if o.wr=true then lstY a ys os else rd4 (byt (opsY ys os)) o.reg.toNat:=by
 unfold lstY;rw[List.foldl_append];simp only[List.foldl_cons,List.foldl_nil];rw[kWM]
theorem kTA (a:Int) (ys:List Int) (os:List Drv.Ro) {k:Nat} (b:k<os.length):lstY a ys (os.take (k+1))=if (os.getD k Drv.roK.d).wr=true then lstY a ys (os.take k) else rd4 (byt (opsY ys (os.take k))) (os.getD k Drv.roK.d).reg.toNat:=by
 rw[Rails.kAJ os k Drv.roK.d b,kUc]
theorem kTB (ys:List Int) (os:List Drv.Ro) {k:Nat} (a:k<os.length):opsY ys (os.take (k+1))=opY (opsY ys (os.take k)) (os.getD k Drv.roK.d):=by
 rw[Rails.kAJ os k Drv.roK.d a,kUZ]
end Go.Pw
namespace Go.Pw
open Go.Sv Go.Rails Go.Dg
section
variable {I0:Ids} {w0 w:World} {p:CP} {X:List Assn}
def UqB (u:UN):Assn:=OS 9 strK u.qA u.qc u.qs
def iB (u:UN) (s:Drv.IS):Assn:=Bun (Drv.kGb u.q u.d s)
theorem kWN {d:Nat} (f:d<p.us.length) (h:Hp I0 w0 (X++cpV p) w):Hp I0 w0 (X++([cpB p,cpU p,Bun (tL p.t),UqB (p.us.getD d unK.d),iB (p.us.getD d unK.d) (p.us.getD d unK.d).st]++mgL p.m)) w:=by
 have g:Hp I0 w0 ([cpB p,cpU p,tB p.t,tS p.t,Big unF p.us,mB p.m,mS p.m,Bun (cpX p)]++X) w:=h.perm qf;have i:Hp I0 w0 ([Bun (cpX p)]++([cpB p,cpU p,tB p.t,tS p.t,Big unF p.us,mB p.m,mS p.m]++X)) w:=g.perm (kAg (ks:=[7]) rfl);have j:Hp I0 w0 ([OS 3 (intK .i64) p.oA p.oc p.od,OS 55 pdK p.t.dA p.t.dc p.t.es,Big pdF p.t.es,Bun (robj 376 p.t.rb p.t.ra p.t.rs),Big msF p.m.ms,OS 3 (intK .i64) p.m.oA p.m.oc p.m.od,cpB p,cpU p,tB p.t,tS p.t,Big unF p.us,mB p.m,mS p.m]++X) w:=Hp.unbun (M:=cpX p) i;have l:Hp I0 w0 (tL p.t++([OS 3 (intK .i64) p.oA p.oc p.od,Big msF p.m.ms,OS 3 (intK .i64) p.m.oA p.m.oc p.m.od,cpB p,cpU p,Big unF p.us,mB p.m,mS p.m]++X)) w:=j.perm (kAg (ks:=[8,1,1,6,1]) rfl);have n:Hp I0 w0 ([Bun (tL p.t),OS 3 (intK .i64) p.oA p.oc p.od,Big msF p.m.ms,OS 3 (intK .i64) p.m.oA p.m.oc p.m.od,cpB p,cpU p,Big unF p.us,mB p.m,mS p.m]++X) w:=Hp.bun l;have o:Hp I0 w0 ([Big unF p.us]++([Bun (tL p.t),OS 3 (intK .i64) p.oA p.oc p.od,cpB p,cpU p,mB p.m,mS p.m,Big msF p.m.ms,OS 3 (intK .i64) p.m.oA p.m.oc p.m.od]++X)) w:=n.perm (kAg (S:=[Big unF p.us,Bun (tL p.t),OS 3 (intK .i64) p.oA p.oc p.od,cpB p,cpU p,mB p.m,mS p.m,Big msF p.m.ms,OS 3 (intK .i64) p.m.oA p.m.oc p.m.od]) (R:=X) (ks:=[6,0,0,2,2,2,2,0,0]) rfl);have r:Hp I0 w0 (unF (p.us.getD d unK.d)::(([Bun (tL p.t),OS 3 (intK .i64) p.oA p.oc p.od,cpB p,cpU p,mB p.m,mS p.m,Big msF p.m.ms,OS 3 (intK .i64) p.m.oA p.m.oc p.m.od]++X)++[Big unF (p.us.eraseIdx d)])) w:=Hp.focus (k:=0) (m:=d) o unK.d rfl f;have s:=kNC (Hp.unbun (M:=pdF (p.us.getD d unK.d).pw::OS 9 strK (p.us.getD d unK.d).qA (p.us.getD d unK.d).qc (p.us.getD d unK.d).qs::Drv.kGb (p.us.getD d unK.d).q (p.us.getD d unK.d).d (p.us.getD d unK.d).st) r);have a:Hp I0 w0 (Drv.kGb (p.us.getD d unK.d).q (p.us.getD d unK.d).d (p.us.getD d unK.d).st++(UqB (p.us.getD d unK.d)::(([Bun (tL p.t),OS 3 (intK .i64) p.oA p.oc p.od,cpB p,cpU p,mB p.m,mS p.m,Big msF p.m.ms,OS 3 (intK .i64) p.m.oA p.m.oc p.m.od]++X)++[Big unF (p.us.eraseIdx d)]))) w:=s.perm List.perm_middle.symm;have b:Hp I0 w0 ([iB (p.us.getD d unK.d) (p.us.getD d unK.d).st,UqB (p.us.getD d unK.d),Bun (tL p.t),OS 3 (intK .i64) p.oA p.oc p.od,cpB p,cpU p,mB p.m,mS p.m,Big msF p.m.ms,OS 3 (intK .i64) p.m.oA p.m.oc p.m.od]++(X++[Big unF (p.us.eraseIdx d)])) w:=Hp.bun a;have c:Hp I0 w0 (([cpB p,cpU p,Bun (tL p.t),UqB (p.us.getD d unK.d),iB (p.us.getD d unK.d) (p.us.getD d unK.d).st]++mgL p.m)++([OS 3 (intK .i64) p.oA p.oc p.od]++(X++[Big unF (p.us.eraseIdx d)]))) w:=b.perm (kAg (S:=[cpB p,cpU p,Bun (tL p.t),UqB (p.us.getD d unK.d),iB (p.us.getD d unK.d) (p.us.getD d unK.d).st]++mgL p.m) (ks:=[4,4,2,1,0,1,1,1,1]) rfl);have e:Hp I0 w0 ((X++([cpB p,cpU p,Bun (tL p.t),UqB (p.us.getD d unK.d),iB (p.us.getD d unK.d) (p.us.getD d unK.d).st]++mgL p.m))++([Big unF (p.us.eraseIdx d)]++[OS 3 (intK .i64) p.oA p.oc p.od])) w:=c.perm (by
  generalize [cpB p,cpU p,Bun (tL p.t),UqB (p.us.getD d unK.d),iB (p.us.getD d unK.d) (p.us.getD d unK.d).st]++mgL p.m=Y;refine((qf (l₁:=[OS 3 (intK .i64) p.oA p.oc p.od])).append_left Y).trans ?_;simp only[←qL];exact((qf (l₁:=Y) (l₂:=X)).append_right _).append_right _)
 exact kR9 e
theorem kWO {L:List Assn} {k:Nat} {u:UN} {s:Drv.IS} (h:Hp I0 w0 L w) (a:L[k]?=some (iB u s)):w.heap[u.q]?=some (.cells #[.string (bs u.d.name),.slice u.d.sA u.d.ss.length u.d.sc,.slice u.d.tA u.d.hs.length u.d.tc,.int .i64 s.st,.bool s.wt,.int .i64 s.cd] 260 (0,0)):=by
 obtain⟨i,j,b,_⟩:=h.at a;obtain⟨_,_,_,_,c,_⟩:=b;exact c.2
end
def UqU (us:List UN) (d:Nat) (A:Option Addr) (c:Nat) (ys:List Bs):List UN:=us.set d {us.getD d unK.d with qA:=A,qc:=c,qs:=ys}
section
variable {us:List UN} {d:Nat} {A:Option Addr} {c:Nat} {ys:List Bs}
theorem kTS:(UqU us d A c ys).length=us.length:=qI
theorem kTs (h:d<us.length):(UqU us d A c ys).getD d unK.d={us.getD d unK.d with qA:=A,qc:=c,qs:=ys}:=kA1 _ _ _ _ h
theorem kW6 {i:Nat} (h:d≠i):(UqU us d A c ys).getD i unK.d=us.getD i unK.d:=kA0 _ _ _ h
theorem kW7 (h:d<us.length) (a:Option Addr) (b:Nat) (ys2:List Bs):(UqU us d A c ys).set d {(UqU us d A c ys).getD d unK.d with qA:=a,qc:=b,qs:=ys2}=UqU us d a b ys2:=by
 rw[kTs h];unfold UqU;rw[List.set_set]
theorem kVW (h:d<us.length):UqU us d (us.getD d unK.d).qA (us.getD d unK.d).qc (us.getD d unK.d).qs=us:=by
 unfold UqU;have e:us.getD d unK.d=us[d]:=by simp[List.getD,h]
 rw[show({us.getD d unK.d with qA:=(us.getD d unK.d).qA,qc:=(us.getD d unK.d).qc,qs:=(us.getD d unK.d).qs}:UN)=us.getD d unK.d from rfl,e];exact List.set_getElem_self h
theorem kTX (i:Nat):((UqU us d A c ys).getD i unK.d).own=(us.getD i unK.d).own∧((UqU us d A c ys).getD i unK.d).base=(us.getD i unK.d).base∧((UqU us d A c ys).getD i unK.d).stp=(us.getD i unK.d).stp∧((UqU us d A c ys).getD i unK.d).q=(us.getD i unK.d).q:=by
 by_cases e:d=i
 ·subst e;by_cases h:d<us.length
  ·rw[kTs h];exact⟨rfl,rfl,rfl,rfl⟩
  ·unfold UqU;rw[List.set_eq_of_length_le (by omega)];exact⟨rfl,rfl,rfl,rfl⟩
 ·rw[kW6 e];exact⟨rfl,rfl,rfl,rfl⟩
end
structure RoP (o:Drv.Ro):Prop where
 r0:0≤o.reg
 r4:o.reg%4=0
 rm:o.reg<256
 v:Ios.isU o.val
theorem accY {s:Ios.BS} {ps:Nat→Int×Int} {n d T:Nat} {ys:List Int} {o:Drv.Ro} {v:Int} (p:BM s (rdY ps n d ys)) (g:Qt s T) (E:T<65536) (j:d<n) (F:ys.length=256) (l:s.en.getD (ps d).2.toNat false=true) (m:RoP o) (q:o.wr=true→v=o.val):
 Ios.wfA ⟨0,(ps d).1+o.reg,4,o.wr,v⟩∧Ios.accE s ⟨0,(ps d).1+o.reg,4,o.wr,v⟩=0∧(o.wr=false→Ios.accV s ⟨0,(ps d).1+o.reg,4,o.wr,v⟩=rd4 (Ios.byt ys) o.reg.toNat)∧ ∀(A:Option Addr) (c:Nat) (tA:Option Addr) (tc:Nat),(Ios.wrs s ⟨0,(ps d).1+o.reg,4,o.wr,v⟩→A≠Option.none)→BM (Ios.accS s ⟨0,(ps d).1+o.reg,4,o.wr,v⟩ A c tA tc) (rdY ps n d (opY ys o))∧Qt (Ios.accS s ⟨0,(ps d).1+o.reg,4,o.wr,v⟩ A c tA tc) (T+1):=by
 have r:=m.r0;have G:=m.r4;have H:=m.rm;have b:=kUa ps d ys j;rw[if_pos rfl] at b;have h:=p.acc (i:=d) (k:=o.reg.toNat) (w:=o.wr) (v:=v) (a:=⟨0,(ps d).1+o.reg,4,o.wr,v⟩) (by rw[kUb];exact j) (by rw[b]) g.fl (by rw[b];exact l) (by omega) (by omega) (by rw[b];show _=Ios.Acs.mk 0 ((ps d).1+((o.reg.toNat:Nat):Int)) 4 o.wr v;rw[Int.toNat_of_nonneg r]);obtain⟨t,u,x,y⟩:=h;refine⟨t,u,fun f=>by rw[x f,b],fun A c tA tc z=>?_⟩;obtain⟨B,C,I,D⟩:=y A c tA tc z (by have:=g.tr;omega);refine⟨?_,C,by rw[D];have:=g.tr;omega⟩;have e:ac4 (rdY ps n d ys) d o.reg.toNat o.wr v=rdY ps n d (opY ys o):=by
  rw[←kVT ps j (by omega)];unfold ac4;by_cases f:o.wr=true
  ·rw[if_pos f,if_pos f,q f]
  ·rw[if_neg f,if_neg f]
 rw[←e];exact B
structure PfG where
 f:Nat
 k:Nat
 a:Drv.IS×List Drv.Ro×Bool
 s:Ios.BS
 A:Option Addr
 c:Nat
structure PfI (ts:List Drv.Tr) (ps:Nat→Int×Int) (n d T:Nat) (ys:List Int) (r:Drv.IS×List Int) (z:PfG):Prop where
 run:runY ts z.f z.a ys=r
 act:ActY ts z.k z.a
 k:z.k≤ts.length
 f:ts.length<z.k+z.f
 bm:BM z.s (rdY ps n d ys)
 qt:Qt z.s T
theorem PfI.start {ts:List Drv.Tr} {ps:Nat→Int×Int} {n d T:Nat} {ys:List Int} {s:Drv.IS} {ev:Bs} {b:Ios.BS} {A:Option Addr} {c:Nat} (a:RgY ts) (hs:s.wt=false) (f:BM b (rdY ps n d ys)) (g:Qt b T):PfI ts ps n d T ys (kT8 ts s ev ys) ⟨ts.length+1,0,(Drv.hdlM ts s ev).1,b,A,c⟩:=by
 have e:Drv.hdlM ts s ev=(Drv.conM ts s ev 0,0):=by unfold Drv.hdlM;rw[if_neg (by rw[hs];decide)]
 rw[e];exact⟨rfl,kTQ a hs,qT _,by show ts.length<0+(ts.length+1);omega,f,g⟩
theorem PfI.step {ts:List Drv.Tr} {ps:Nat→Int×Int} {n d T i:Nat} {ys:List Int} {r:Drv.IS×List Int} {z:PfG} (h:PfI ts ps n d T ys r z) (l:RgY ts) (g:z.a.2.2=true) {b:Ios.BS} {A:Option Addr} {c:Nat} (m:BM b (rdY ps n d ys)) (o:Qt b i):PfI ts ps n d i ys r ⟨z.f-1,z.a.1.cd+1,(Drv.rplM ts z.a.1 (rd4 (Ios.byt ys) (Drv.trA ts z.a.1.cd).gd.reg.toNat)).1,b,A,c⟩:=by
 have p:=h.act.on g;have q:=h.f;have s:=h.k;have e:z.f=(z.f-1)+1:=by omega
 refine⟨?_,(kTR l h.act g _).1,by show z.a.1.cd+1≤_;omega,by show ts.length<z.a.1.cd+1+(z.f-1);omega,m,o⟩;have j:=h.run;rw[e,kT9 g] at j;exact j
theorem PfI.done {ts:List Drv.Tr} {ps:Nat→Int×Int} {n d T:Nat} {ys:List Int} {r:Drv.IS×List Int} {z:PfG} (h:PfI ts ps n d T ys r z) (c:z.a.2.2=false):r=(z.a.1,opsY ys z.a.2.1):=by
 have g:=h.f;have i:=h.k;have e:z.f=(z.f-1)+1:=by omega
 have b:=h.run;rw[e,kTE c] at b;exact b.symm
structure DvG where
 k:Nat
 A:Option Addr
 c:Nat
 s:Ios.BS
structure DvI (ts:List Drv.Tr) (ps:Nat→Int×Int) (n d i T:Nat) (l:List Bs) (A0:Option Addr) (r0:Drv.IS×List Int) (z:DvG):Prop where
 lo:i<d→z.k=0
 hi:d<i→z.k=l.length
 k:z.k≤l.length
 c:(l.drop z.k).length≤z.c
 rs: ∀w,RS w strK A0 l→RS w strK z.A (l.drop z.k)
 bm:BM z.s (rdY ps n d (evsY ts (l.take z.k) r0).2)
 qt:Qt z.s (T* z.k)
theorem DvI.step {ts:List Drv.Tr} {ps:Nat→Int×Int} {n d T:Nat} {l:List Bs} {b:Option Addr} {r0:Drv.IS×List Int} {z:DvG} (h:DvI ts ps n d d T l b r0 z) (e:z.k<l.length) {a:Ios.BS} (g:BM a (rdY ps n d (kT8 ts (evsY ts (l.take z.k) r0).1 (l.getD z.k []) (evsY ts (l.take z.k) r0).2).2)) (i:Qt a (T* z.k+T)):DvI ts ps n d d T l b r0 ⟨z.k+1,shA z.A 1 1 z.c,z.c-1,a⟩:=by
 have j:=h.c;rw[qG] at j;refine⟨fun m=>by omega,fun m=>by omega,e,by show(l.drop (z.k+1)).length≤z.c-1;rw[qG];omega,fun w o=>?_,?_,by show Qt a (T* (z.k+1));rw[Nat.mul_succ];exact i⟩
 ·have f:=(h.rs w o).drop 1 h.c;rw[List.drop_drop] at f;exact f
 ·show BM a (rdY ps n d (evsY ts (l.take (z.k+1)) r0).2);rw[kAJ l z.k [] e,kTG];exact g
theorem DvI.next {ts:List Drv.Tr} {ps:Nat→Int×Int} {n d i T:Nat} {l:List Bs} {a:Option Addr} {r0:Drv.IS×List Int} {z:DvG} (h:DvI ts ps n d i T l a r0 z) (b:i=d→z.k=l.length):DvI ts ps n d (i+1) T l a r0 z:=by
 refine⟨fun f=>h.lo (by omega),fun f=>?_,h.k,h.c,h.rs,h.bm,h.qt⟩;by_cases e:i=d
 ·exact b e
 ·exact h.hi (by omega)
end Go.Pw
namespace Go.Drv
open Go.Sv
def rinC (q:Nat) (d:DH) (st wi:Int) (ev:Bs):List Assn:=[Blk q (.cells #[.string (bs d.name),.slice d.sA d.ss.length d.sc,.slice d.tA d.hs.length d.tc,.int .i64 st,.int .i64 wi,.string (bs ev)] 73 (0,0)),OS 9 strK d.sA d.sc d.ss,OS 150 thK d.tA d.tc d.hs,Big opA d.hs]
end Go.Drv
namespace Go.Pw
open Go.Sv Go.Rails Go.Dg
structure CaV where
 kd:Int
 dv:Int
 nm:Int
 wt:Int
 fl:Bool
 rw:Bool
def caK:Enc CaV where
 f c:=[.int .i64 c.kd,.int .i64 c.dv,.int .i64 c.nm,.int .u64 c.wt,.bool c.fl,.bool c.rw]
 sz:=6
 d:=⟨0,0,0,0,false,false⟩
 len _:=rfl
 pos:=by decide
 one r v hv:=by simp at hv;rcases hv with rfl|rfl|rfl|rfl|rfl|rfl<;>rfl
def evC:List Bs:=[[115,116,97,114,116],[115,116,111,112],[115,117,115,112,101,110,100],[114,101,115,117,109,101],[105,114,113],[112,111,108,108],[110,111,110,101]]
def evM (x:Int):Bs:=evC.getD (modM x 7).toNat []
abbrev evsM (l:List CaV):List Bs:=l.map fun c=>evM c.nm
theorem kVD (l:List CaV) {k:Nat} (h:k<l.length):(evsM l).take (k+1)=(evsM l).take k++[evM (l.getD k caK.d).nm]:=by
 rw[kAJ (evsM l) k [] (by simpa using h)]
 congr 2
 simp[List.getD,h]
structure FoG where
 f:Nat
 k:Nat
 a:Drv.IS×List Drv.Ro×Bool
 A:Option Addr
 c:Nat
structure FoI (ts:List Drv.Tr) (ys:List Int) (ev:Bs) (r:Drv.IS×List Int) (z:FoG):Prop where
 run:runY ts z.f z.a ys=r
 act:ActY ts z.k z.a
 k:z.k≤ts.length
 f:ts.length<z.k+z.f
 ev:Drv.EvI ts z.a.1 ev
theorem FoI.start {ts:List Drv.Tr} {ys:List Int} {s:Drv.IS} {ev:Bs} {A:Option Addr} {c:Nat} (a:RgY ts) (hs:s.wt=false):FoI ts ys ev (kT8 ts s ev ys) ⟨ts.length+1,0,(Drv.hdlM ts s ev).1,A,c⟩:=by
 have e:Drv.hdlM ts s ev=(Drv.conM ts s ev 0,0):=by unfold Drv.hdlM;rw[if_neg (by rw[hs];decide)]
 rw[e];exact⟨rfl,kTQ a hs,qT _,by show ts.length<0+(ts.length+1);omega,Drv.kUd hs ev 0⟩
theorem FoI.step {ts:List Drv.Tr} {ys:List Int} {ev:Bs} {r:Drv.IS×List Int} {z:FoG} (h:FoI ts ys ev r z) (g:RgY ts) (b:z.a.2.2=true) (A:Option Addr) (c:Nat):FoI ts ys ev r ⟨z.f-1,z.a.1.cd+1,(Drv.rplM ts z.a.1 (rd4 (Ios.byt ys) (Drv.trA ts z.a.1.cd).gd.reg.toNat)).1,A,c⟩:=by
 have i:=h.act.on b;have j:=h.f;have l:=h.k;have e:z.f=(z.f-1)+1:=by omega
 refine⟨?_,(kTR g h.act b _).1,by show z.a.1.cd+1≤_;omega,by show ts.length<z.a.1.cd+1+(z.f-1);omega,Drv.kVX h.ev _⟩;have d:=h.run;rw[e,kT9 b] at d;exact d
theorem FoI.done {ts:List Drv.Tr} {ys:List Int} {ev:Bs} {r:Drv.IS×List Int} {z:FoG} (h:FoI ts ys ev r z) (c:z.a.2.2=false):r=(z.a.1,opsY ys z.a.2.1):=by
 have d:=h.f;have g:=h.k;have e:z.f=(z.f-1)+1:=by omega
 have b:=h.run;rw[e,kTE c] at b;exact b.symm
theorem kW8 {l:List Int} {k:Nat} {v:Int} (h:Ios.okB l): ∀j,k+j≤l.length→Ios.okB (Ios.wrK l k v j)
 |0,_=>h
 |j+1,hk=>fun i=>by
  have:=Ios.kGi (l:=l) (k:=k) v hk i;show 0≤Ios.byt (Ios.wrK l k v (j+1)) i∧Ios.byt (Ios.wrK l k v (j+1)) i≤255;rw[this];split
  ·exact Ios.kQb _ _
  ·exact h i
theorem kUe {ys:List Int} (h:Ios.okB ys) (c:ys.length=256): ∀(os:List Drv.Ro),(∀o∈os,RoP o)→Ios.okB (opsY ys os):=by
 intro os
 induction os generalizing ys with
 |nil=>intro _;exact h
 |cons o os d=>
  intro b;have a:=b o (by simp);have f:=a.r0;have g:=a.r4;have i:=a.rm;refine d ?_ (by rw[kUY];exact c) fun x e=>b x (by simp[e]);unfold opY;split
  ·exact kW8 h 4 (by omega)
  ·exact h
theorem kUf {ts:List Drv.Tr} (e:RgY ts) {ys:List Int} (h:Ios.okB ys) (g:ys.length=256): ∀(f k:Nat) (a:Drv.IS×List Drv.Ro×Bool),ActY ts k a→Ios.okB (runY ts f a ys).2
 |0,k,a,b=>h
 |f+1,k,a,b=>by
  cases d:a.2.2 with
  |true=>rw[kT9 d];exact kUf e h g f _ _ (kTR e b d _).1
  |false=>rw[kTE d];exact kUe h g _ fun o c=>⟨(b.reg o c).1,(b.reg o c).2.1,(b.reg o c).2.2.1,(b.reg o c).2.2.2⟩
theorem kUg {ts:List Drv.Tr} (a:RgY ts): ∀(es:List Bs) (p:Drv.IS×List Int),p.1.wt=false→Ios.okB p.2→p.2.length=256→Ios.okB (evsY ts es p).2
 |[],p,_,h,_=>h
 |e::es,p,b,h,c=>by
  rw[evsY];refine kUg a es _ (kU0 (ev:=e) a b p.2) ?_ (by unfold kT8;rw[kTf];exact c);unfold kT8;exact kUf a h c _ 0 _ (kTQ a b)
theorem okB0 (n:Nat):Ios.okB (List.replicate n 0):=fun i=>by
 simp only[List.getD,List.getElem?_replicate];split<;>simp
def rI (q:Nat) (d:Drv.DH) (s:Drv.IS) (ev:Bs):Assn:=Bun (Drv.rinC q d s.st (Drv.wtI s) ev)
theorem kWQ {I0:Ids} {w0 w:World} {L:List Assn} {k q:Nat} {d:Drv.DH} {s:Drv.IS} {ev:Bs} (h:Hp I0 w0 L w) (a:L[k]?=some (rI q d s ev)):w.heap[q]?=some (.cells #[.string (bs d.name),.slice d.sA d.ss.length d.sc,.slice d.tA d.hs.length d.tc,.int .i64 s.st,.int .i64 (Drv.wtI s),.string (bs ev)] 73 (0,0)):=by
 obtain⟨i,j,b,_⟩:=h.at a;obtain⟨_,_,_,_,c,_⟩:=b;exact c.2
theorem kW9 {l:List Int} {k:Nat}:l.getD k (intK .u8).d=Ios.rdL l k 1:=by
 show _=0+Ios.byt l (k+0)* Ios.pw 0;have:Ios.pw 0=1:=rfl;rw[this,Int.zero_add,Int.mul_one];rfl
theorem orY {Y:List Int} {R j:Nat} (h:Ios.okB Y) (a:j<8):IntKind.u64.wrap ((BitVec.ofInt IntKind.u64.bits (Ios.rdL Y R j)|||BitVec.ofInt IntKind.u64.bits (Y.getD (R+j) (intK .u8).d* Ios.pw j)).toNat)=Ios.rdL Y R (j+1):=
 Ios.orB (Ios.kNA h R j).1 (Ios.kNA h R j).2 (h (R+j)).1 (h (R+j)).2 a
end Go.Pw
namespace Go.Pw
open Go.Sv Go.Ios Go.Drv
theorem kWB {d:Dv} (q:fitD d.ts) (r:chkM d=0) (s:rgD d):RgY d.ts:=fun i f=>by
 have h:=q i f;have t:=(kAD _ _).1 (kWP r f);have u:trA d.ts i∈d.ts:=by simp only[trA,List.getD,f,qJ,Option.getD_some];exact List.getElem_mem _
 have j:=s _ u;have l: ∀x:Int,regP x→u64 x→0≤x∧x%4=0∧x<256:=fun x a b=>by unfold regP at a;unfold u64 at b;have:=qW (a:=x) (b:=4) b.1;omega
 have c:=l _ h.1 j.1.1;refine⟨⟨⟨c.1,c.2.1⟩,c.2.2⟩,t.2.2.2.2.1,fun o m=>?_⟩;obtain⟨k,n,rfl⟩:=List.getElem_of_mem m;have v:=h.2 k n;have p:=j.2 _ m;have e:(trA d.ts i).ops.getD k roK.d=(trA d.ts i).ops[k]:=by rw[List.getD,qJ n];rfl
 have g:=l _ (e▸v) p.1;have w:=p.2;unfold u64 at w;exact⟨g.1,g.2.1,g.2.2,by unfold isU;omega⟩
end Go.Pw
namespace Go.Pw
open Go.Sv Go.Rails Go.Dg
end Go.Pw
namespace Go.Sv
theorem Fx.bunR {P:Program} {f:FuncId} {vs:List Value} {w:World} {Own:List Assn} {ro:Ids} {post:Value→List Assn→Prop} (h:Fx P f vs w Own ro post):Fx P f vs w Own ro (fun v L=> ∃M,post v M∧L=[Bun M]):=fun I b a=>
 (h I b a).mono fun e i ⟨v,c,d,g,j⟩=>⟨v,_,d,⟨c,g,rfl⟩,Hp.bun (R:=[]) (by grind)⟩
end Go.Sv
namespace Go.Pw
open Go.Sv Go.Rails Go.Dg
section
variable {ps:Nat→Int×Int} {l:List Int} {n i:Nat}
end
section
variable {s:Ios.BS} {rs:List RD} {to:Nat→Int}
end
structure MvQ (p p2:CP) (to:Nat→Int):Prop where
 us:p2.us=mvU p.us to p.us.length
 t:p2.t=p.t
 m:p2.m=p.m
 bb:p2.bb=p.bb
 b:p2.b=p.b
theorem kPQ {I0:Ids} {w0 w:World} {p:CP} {M:List Assn} (h:Hp I0 w0 [Bun (cpL p++M)] w):Hp I0 w0 (cpV p++[Bun M]) w:=by
 have a:Hp I0 w0 (cpL p++M) w:=by
  have:=Hp.unbun (R:=[]) h
  grind
 grind [kDu,kRc]
theorem kVZ {l:List Int} {r:Int} (h:r∈l): ∃j,j<l.length∧l.getD j (intK .i64).d=r:=by
 obtain⟨j,a,rfl⟩:=List.getElem_of_mem h;exact⟨j,a,by simp[List.getD,a]⟩
section
variable {p:CP} {ds:List BDv} {rs:List Rail} {bs:List Int} {bb:Nat} {arr:Int} {drs:List Go.Drv.DH}
theorem kUh (b:p.fresh ds rs bs bb) (q:ds.length≤6) (l:rs.length≤8) (m: ∀i,i<ds.length→GenD (ds.getD i bdK.d) i rs.length arr drs):TOk p.t:=by
 have k: ∀i,i<p.t.es.length→Cpy (ds.getD i bdK.d).pw (p.t.es.getD i pdK.d) 4:=fun i a=>by
  have:=b.tcp i a;rwa [kGc ds (by rw[←b.tn];exact a)] at this
 have e: ∀i,i<p.t.es.length→(p.t.es.getD i pdK.d).r0.ys=(ds.getD i bdK.d).pw.r0.ys:=fun i a=>(k i a).ys 0 (by decide);have f:p.t.rs.rails=rs:=by rw[b.trs];rfl
 have c: ∀i,i<p.t.es.length→GenD (ds.getD i bdK.d) i rs.length arr drs:=fun i a=>m i (by rw[←b.tn];exact a);have g: ∀i,i<p.t.es.length→ ∀r∈(ds.getD i bdK.d).pw.r0.ys,0≤r∧r<(rs.length:Int):=fun i a r n=>by
  obtain⟨j,o,rfl⟩:=kVZ n;exact((c i a).sm.rl 0 (by decide)).2.1 j o
 have h: ∀i,i<p.t.es.length→ascP (ds.getD i bdK.d).pw.r0.ys:=fun i a=>((c i a).sm.rl 0 (by decide)).1;refine⟨by rw[b.tn];omega,by rw[b.tst,b.tn];simp,fun i a=>?_,fun i a=>?_,fun i a=>?_,fun i a=>?_,by rw[b.trs];exact⟨by simp[new0],by simp[new0]⟩⟩
 ·rw[(k i a).par];exact(c i a).sm.par
 ·rw[e i a];have:(ds.getD i bdK.d).pw.r0.ys.length≤3:=((c i a).sm.rl 0 (by decide)).2.2;omega
 ·rw[e i a,f];exact g i a
 ·rw[e i a];exact h i a
theorem kVa (e: ∀i,i<drs.length→Go.Drv.rgD (drs.getD i dhK.d).d) {b:BDv} {i:Nat} {m:Int} (g:GenD b i m arr drs) (f:unOk b):RgY (Go.Drv.kAH b.drv).2.ts:=by
 have c: ∃d,Go.Drv.rgD d∧Go.Drv.kAH b.drv=(0,reM (Go.Drv.kA5 d)):=by
  rw[g.drv];unfold drvM;split
  ·exact⟨_,e i (by assumption),kG9 (e i (by assumption))⟩
  ·have a:Go.Drv.rgD ⟨[],[],[]⟩:=fun t h=>(List.not_mem_nil h).elim;exact⟨_,a,kG9 a⟩
 obtain⟨d,a,j⟩:=c;have k:=kDo f.2.2.1;refine kWB f.2.2.2 k ?_;rw[j];exact kP5 (Go.Drv.kDy a)
theorem kUz (ps:Nat→Int×Int) (n d:Nat):rdsM ps n n=rdY ps n d (List.replicate 256 0):=kDI (by rw[kBc,kUb]) fun j a=>by
 rw[kBc] at a;rw[kHy ps a,if_pos a,kUa ps d _ a];have e:Ios.byt (List.replicate 256 0)=fun _=>0:=by
  funext k;simp only[Ios.byt,List.getD,List.getElem?_replicate];split<;>rfl
 rw[e,ite_self]
theorem kUi (b:p.fresh ds rs bs bb) (j:ds.length≤6) (h: ∀i,i<ds.length→GenD (ds.getD i bdK.d) i rs.length arr drs): ∀i,i<p.t.es.length→0≤(p.t.es.getD i pdK.d).par→LkR (lkI (ilL ds) (ilL ds).length) i (p.t.es.getD i pdK.d).par:=fun i c f=>by
 have g:=b.tcp i c;have a:i<ds.length:=by rw[←b.tn];exact c
 rw[kGc ds a] at g;have e:(p.t.es.getD i pdK.d).par=((ilL ds).getD i idK.d).par:=by rw[g.par,kEF ds a,(h i a).par]
 rw[e] at f ⊢;exact kW4 (by simpa using a) f
end
structure LwF (p:CP) (ds:List BDv) (bs:List Int) (d:Nat):Prop where
 n:p.us.length=ds.length
 few:p.us.length≤16
 tn:p.t.es.length=p.us.length
 tok:TOk p.t
 clk:p.t.clk=0
 mg:MgO p.m p.us.length
 ow:(p.us.getD d unK.d).own=(psM ds bs d).2∧(p.us.getD d unK.d).base=(psM ds bs d).1
 o2:0≤(psM ds bs d).2∧(psM ds bs d).2<256
 ob:okB (psM ds bs d).1
 stp:(p.us.getD d unK.d).stp=false
 qs: ∀i,i<p.us.length→(p.us.getD i unK.d).qs=[]
 st:(p.us.getD d unK.d).st=⟨0,false,0⟩
 ud:(p.us.getD d unK.d).d.d=(Go.Drv.kAH (ds.getD d bdK.d).drv).2
 pr:(Go.Drv.kAH (ds.getD d bdK.d).drv).1=0
 dl:(ds.getD d bdK.d).drv.length≤900000
 rg:RgY (Go.Drv.kAH (ds.getD d bdK.d).drv).2.ts
 go:Tp (LkR (lkI (ilL ds) (ilL ds).length)) p.t.es.length (goM p.m d)∧(d:Int)∈goM p.m d
 par: ∀i,i<p.t.es.length→0≤(p.t.es.getD i pdK.d).par→LkR (lkI (ilL ds) (ilL ds).length) i (p.t.es.getD i pdK.d).par
theorem lw {p:CP} {ds:List BDv} {rs:List Rail} {bs:List Int} {bb:Nat} {arr:Int} {drs:List Go.Drv.DH} (b:p.fresh ds rs bs bb) (s:ds.length≤6) (n:rs.length≤8) (f:PwOk ds rs bs) (g:PsOk (psM ds bs) ds.length) (m: ∀i,i<ds.length→GenD (ds.getD i bdK.d) i rs.length arr drs) (u: ∀i,i<drs.length→Go.Drv.rgD (drs.getD i dhK.d).d) (o: ∃rk,Rl0 rk 0 (new0 rs)) {d:Nat} (a:d<ds.length):LwF p ds bs d∧ ∃rk,TrI rk p.t.es (8* (0:Nat)) [] p.t.st p.t.rs:=by
 have c:(ilL ds).length=ds.length:=qE _;have j:=f.lk;have k:=fun i (q:i<p.us.length)=>b.us i (b.un▸q);have e:d<p.us.length:=by rw[b.un];exact a
 have r:=b.tn;have l:=kVQ (d:=d) b.mg (by rw[c];exact j.1) (by rw[c];exact a);refine⟨⟨b.un,by have:=b.un;omega,by rw[r,b.un],kUh b s n m,b.tck,?_,⟨(k d e).1.1,(k d e).1.2.2⟩,⟨(g.2.1 d a).2.1,(g.2.1 d a).2.2⟩,(g.2.1 d a).1,(k d e).2.2.2.1,fun i q=>(k i q).2.2.2.2.1,(k d e).2.2.1,(k d e).2.1,(f.un d a).2.2.1,?_,kVa u (m d a) (f.un d a),⟨?_,l.2.2.2⟩,kUi b s m⟩,?_⟩
 ·have v:=b.mg.mgO (by rw[c];exact j.1) (by rw[c];omega) (by rw[c];exact kQW (by omega) j.2);rw[c,←b.un] at v;exact v
 ·rw[(m d a).drv];exact qk (kP7 u d) (by decide)
 ·rw[r,←c];exact l.2.2.1
 ·obtain⟨rk,h⟩:=o;refine⟨rk,?_⟩;rw[b.trs,b.tst,←r];exact TrI.zero h
end Go.Pw
namespace Go.Sv
theorem Fx.bun2 {P:Program} {f:FuncId} {vs:List Value} {w:World} {M:List Assn} {ro:Ids} {post:Value→List Assn→List Assn→Prop} (h:Fx P f vs w M ro (fun v L=> ∃a R,post v a R∧L=a++R)):Fx P f vs w [Bun M] ro (fun v L=> ∃a R,post v a R∧L=Bun a::R):=fun I d b=>by
 obtain⟨i,j,hI,q,g,l⟩:=d;have e: ∀x,I x↔i x:=fun x=>by rw[hI x];exact⟨fun k=>k.elim id fun k=>absurd k (l x),.inl⟩
 have c:I=i:=funext fun x=>propext (e x);subst c;exact(h I g b).mono fun e r ⟨v,s,m,⟨a,R,n,o⟩,p⟩=>⟨v,_,m,⟨a,R,n,rfl⟩,Hp.bun (by rw[←o];exact p)⟩
end Go.Sv
namespace Go.Pw
open Go.Sv Go.Rails Go.Dg
theorem pdR0 {I0:Ids} {w0 w:World} {L:List Assn} {k i:Nat} {es:List PDv} (h:Hp I0 w0 L w) (a:L[k]?=some (Big pdF es)) (b:i<es.length):RS w (intK .i64) (es.getD i pdK.d).r0.A (es.getD i pdK.d).r0.ys:=
 h.bigOS (G:=fun d w=>RS w (intK .i64) d.r0.A d.r0.ys) pdK.d a b fun j d c=>by
  obtain⟨_,_,_,_,e,_⟩:=c;exact OS.rs e
structure SetG where
 A:Option Addr
 c:Nat
 xs:List ROp
end Go.Pw
namespace Go.Sv
theorem OS.cap {α:Type} {K:Enc α} {I0:Ids} {w0 w:World} {L:List Assn} {k:Nat} {e:TypeId} {A:Option Addr} {c:Nat} {ys:List α} (h:Hp I0 w0 L w) (a:L[k]?=some (OS e K A c ys)):ys.length≤c:=by
 obtain⟨i,j,b,_⟩:=h.at a;rcases b with ⟨_,rfl,rfl,_⟩|⟨_,_,_,_,_,d,_⟩
 ·exact qU _
 ·exact d
theorem KV.retD0 {P:Program} {I0:Ids} {w0:World} {L Own F:List Assn} {E:Env} (ks:List Nat) {n:Nat} {fn c:Func} {g:FuncId} {d:List Value} {ro:Ids} {x post:Value→List Assn→Prop} (z:fn.results= #[])
 (q:P.funcs[g]?=some c) (r:c.body.isSome=true) (i:(c.name== "runtime.NumGoroutine")=false) (A:kAL ks L=some (Own,F)) (m: ∀w,Hp I0 w0 L w→FxD P g d w Own ro x) (s: ∀b,ro b→RoOk I0 w0 F b)
 (k: ∀v2 j,x v2 j→ ∃p,post (.tuple #[]) p∧ ∀w,Hp I0 w0 (F++j) w→Hp I0 w0 p w):
 KV ⟨n,[⟨.fn (.func g) #[],d.toArray⟩]⟩ (kRj P fn (fun e w'=> ∃v j,e= .returned v∧post v j∧Hp I0 w0 j w') .ret) E (Hp I0 w0 L):=fun a w B y=>by
 show Leaves P fn a.tmps _ a.defers .returning w;rw[B.defers];have o:c.body.isNone=false:=by cases h:c.body<;>simp_all
 have t: ¬c.name= "runtime.NumGoroutine":=by simpa using i
 have u: ¬c.body=none:=by intro h;rw[h] at o;simp at o
 refine leaves_cons (f:=g) (args:=d.toArray) (by simp) (by simp[invoke,callFunc,q,t,u]) ((CallsD.frame A y s (m w y)).mono ?_);rintro e u' w' ⟨rfl,v2,j,rfl,l,C⟩;obtain⟨p,D,G⟩:=k v2 j l;exact⟨.tuple #[],results_none z _ _ _,_,p,rfl,D,G w' C⟩
end Go.Sv
namespace Go.Pw
open Go.Sv Go.Rails Go.Dg
structure TrG where
 st:List Int
 rs:St
section
variable {I0:Ids} {w0 w:World} {L:List Assn} {k:Nat} {t:TT}
theorem kWR (h:Hp I0 w0 L w) (a:L[k]?=some (Bun (tL t))):w.heap[t.b]?=some (.cells #[.slice t.dA t.es.length t.dc,.slice t.sA t.st.length t.sc,.pointer (some ⟨t.rb,0,none⟩),.int .u64 t.clk] 258 (0,0)):=by
 obtain⟨i,j,c,_⟩:=h.at a;obtain⟨_,_,_,_,d,_⟩:=c;exact d.2
theorem kWS (h:Hp I0 w0 L w) (a:L[k]?=some (Bun (tL t))):RS w (intK .i64) t.sA t.st:=by
 obtain⟨i,j,b,_⟩:=h.at a;obtain⟨_,_,_,_,_,_,_,_,_,_,_,_,_,_,_,_,_,_,_,c,_⟩:=b;exact OS.rs c
end
end Go.Pw
namespace Go.Proofs.YtdoihieboknmnaaGreatDoor.Pw
open Go Go.Sv
set_option maxRecDepth 100000
theorem kFb {w:World}:Fx Tryz.prog 5 [] w [] no (fun v L=>v= .bool true∧L=[]):=Ex.kSI (d:=12) (by kernel_rfl) (by kernel_rfl)
end Go.Proofs.YtdoihieboknmnaaGreatDoor.Pw
