/-
  Joined.
-/
import Derived.Test.YtkofjhglgoojiaaGreatDoorP17
set_option linter.unusedSimpArgs false
set_option linter.unusedVariables false
namespace Go.Proofs.YtkofjhglgoojiaaGreatDoor.Dv
set_option maxRecDepth 100000
set_option maxHeartbeats 20000000
open Go.Tk Go.Sv Go.Drv
attribute [local irreducible] KV SV OV Step Code.wp wpList Exit.then Exit.inBlock Blk OS Big Bun
theorem cloneS_fn {A:Option Addr} {n c:Nat} {l:List Bs} {w:World} (hs:RS w strK A l) (hn:n=l.length) (hl:l.length≤1000000):Fx Tryz.prog 185 [.slice A n c] w [] no (fun v L=> ∃A2 c2,v= .slice A2 l.length c2∧L=[OS 9 strK A2 c2 l]):=by
 subst hn
 refine Fb ?_
 intro I hro hI
 refine J9 ?_
 refine RV.op (OV.split gno (Step.nilSl Tryz.underlying63 rfl rfl) rfl (fun hz=>?_) (fun hz=>?_))
 refine J10 ?_
 refine E0 ?_
 subst hz
 obtain rfl:=RS.nil_of hs
 exact KV.ret1 rfl rfl _ (fun _ h=>h.nilOS) ⟨none,0,rfl,rfl⟩
 refine J7 ?_
 refine RV.op (OV.buildSlice (K:=strK) ([]) rfl (Bs63_0_) rfl rfl (by omega) gno rfl (fun b3_0=>?_))
 refine J1 ?_
 refine RV.op (Ye 0 rfl rfl rfl rfl rfl (fun w h=>h.rs hs (fun _=>hI _)) (by simp only[List.length_nil];omega) (fun A2 c2=>?_))
 refine J4 ?_
 refine E1 ?_
 exact Rb rfl rfl ⟨A2,c2,rfl,rfl⟩
theorem cloneT_fn {A:Option Addr} {n c:Nat} {l:List TH} {w:World} (hs:RS w thK A l) (hn:n=l.length) (hl:l.length≤1000000):Fx Tryz.prog 186 [.slice A n c] w [] no (fun v L=> ∃A2 c2,v= .slice A2 l.length c2∧L=[OS 191 thK A2 c2 l]):=by
 subst hn
 refine Fb ?_
 intro I hro hI
 refine J9 ?_
 refine RV.op (OV.split gno (Step.nilSl Tryz.underlying64 rfl rfl) rfl (fun hz=>?_) (fun hz=>?_))
 refine J10 ?_
 refine E0 ?_
 subst hz
 obtain rfl:=RS.nil_of hs
 exact KV.ret1 rfl rfl _ (fun _ h=>h.nilOS) ⟨none,0,rfl,rfl⟩
 refine J7 ?_
 refine RV.op (OV.buildSlice (K:=thK) ([]) rfl (Bs64_0_) rfl rfl (by omega) gno rfl (fun b3_0=>?_))
 refine J1 ?_
 refine RV.op (Ye 0 rfl rfl rfl rfl rfl (fun w h=>h.rs hs (fun _=>hI _)) (by simp only[List.length_nil];omega) (fun A2 c2=>?_))
 refine J4 ?_
 refine E1 ?_
 exact Rb rfl rfl ⟨A2,c2,rfl,rfl⟩
theorem cloneO_fn {A:Option Addr} {n c:Nat} {l:List Ro} {w:World} (hs:RS w roK A l) (hn:n=l.length) (hl:l.length≤1000000):Fx Tryz.prog 187 [.slice A n c] w [] no (fun v L=> ∃A2 c2,v= .slice A2 l.length c2∧L=[OS 193 roK A2 c2 l]):=by
 subst hn
 refine Fb ?_
 intro I hro hI
 refine J9 ?_
 refine RV.op (OV.split gno (Step.nilSl Tryz.underlying189 rfl rfl) rfl (fun hz=>?_) (fun hz=>?_))
 refine J10 ?_
 refine E0 ?_
 subst hz
 obtain rfl:=RS.nil_of hs
 exact KV.ret1 rfl rfl _ (fun _ h=>h.nilOS) ⟨none,0,rfl,rfl⟩
 refine J7 ?_
 refine RV.op (OV.buildSlice (K:=roK) ([]) rfl (Bs189_0_) rfl rfl (by omega) gno rfl (fun b3_0=>?_))
 refine J1 ?_
 refine RV.op (Ye 0 rfl rfl rfl rfl rfl (fun w h=>h.rs hs (fun _=>hI _)) (by simp only[List.length_nil];omega) (fun A2 c2=>?_))
 refine J4 ?_
 refine E1 ?_
 exact Rb rfl rfl ⟨A2,c2,rfl,rfl⟩
def cpT (h:TH) (A:Option Addr) (c:Nat):TH:={h with A:=A,c:=c}
theorem take_cp {H:List TH} {j:Nat} {x:TH} (h:j<H.length):(H.set j x).take (j+1)=H.take j++[x]:=by
 rw[List.take_add_one,List.take_set_of_le (Nat.le_refl _)]
 simp[List.getElem?_set,h]
structure CpI (d:DH) (H:List TH) (j:Nat):Prop where
 le:j≤d.hs.length
 len:H.length=d.hs.length
 t:H.map (·.t)=d.hs.map (·.t)
 r:H.drop j=d.hs.drop j
theorem CpI.at {d:DH} {H:List TH} {j:Nat} (h:CpI d H j) (hj:j<d.hs.length):H.getD j thK.d=d.hs.getD j thK.d:=by
 have h1:=h.r
 rw[dropTH (by rw[h.len];exact hj),dropTH hj] at h1
 exact(List.cons.inj h1).1
theorem CpI.next {d:DH} {H:List TH} {j:Nat} (h:CpI d H j) (hj:j<d.hs.length) (A:Option Addr) (c:Nat):CpI d (H.set j (cpT (H.getD j thK.d) A c)) (j+1):=by
 have hjH:j<H.length:=by rw[h.len];exact hj
 refine⟨hj,by rw[List.length_set];exact h.len,?_,?_⟩
 ·rw[←h.t]
  apply List.ext_getElem?
  intro k
  rw[List.getElem?_map,List.getElem?_map,List.getElem?_set]
  split
  ·rename_i e;subst e
   rw[List.getElem?_eq_getElem hjH]
   simp[List.getD,List.getElem?_eq_getElem hjH,cpT]
  ·rfl
 ·rw[List.drop_set_of_lt (by omega)]
  have h1:=h.r
  rw[dropTH hjH,dropTH hj] at h1
  exact(List.cons.inj h1).2
theorem copy_fn (d:DH) {w:World} (hd:DR w d) (hl1:d.ss.length≤1000000) (hl2:d.hs.length≤1000000) (hl3: ∀i,i<d.hs.length→(th d.hs i).t.ops.length≤1000000):Fx Tryz.prog 170 [.agg #[.string (bs d.name),.slice d.sA d.ss.length d.sc,.slice d.tA d.hs.length d.tc]] w [] no (fun v L=> ∃d2:DH,d2.d=d.d∧v= .agg #[.string (bs d2.name),.slice d2.sA d2.ss.length d2.sc,.slice d2.tA d2.hs.length d2.tc]∧L=dL d2):=by
 refine Fb ?_
 intro I hro hI
 refine J2 ?_
 refine RV.op (Yb #[_,_,_] rfl rfl (fun b=>?_))
 refine RV.op (OV.alloc #[.string (Sv.bs []),.slice none 0 0,.slice none 0 0] I66.h rfl gno rfl (fun p=>?_))
 refine J6 ?_
 refine RV.op (Yc [] (F:=[_,_]) rfl rfl (fun w h=>cloneS_fn (DR.keep h hd hI).s rfl hl1) (fun v L' hp=>?_))
 obtain⟨sA2,sc2,rfl,rfl⟩:=hp
 refine J1 ?_
 refine Zw 0 [_] #[_,_,_] ?_
 refine J6 ?_
 refine RV.op (Yc [] (F:=[_,_,_]) rfl rfl (fun w h=>cloneT_fn (DR.keep h hd hI).t rfl hl2) (fun v L' hp=>?_))
 obtain⟨tA2,tc2,rfl,rfl⟩:=hp
 refine J1 ?_
 refine Zw 0 [_] #[_,_,_] ?_
 refine J4 ?_
 refine KV.heap (fun w h=>h.newBig (F:=opA) 0 thD fun w=>OS.emp w) ?_
 refine J8 ?_
 refine E5 ?_
 refine CV.loop2 (fun(j:Nat) (H:List TH)=>CpI d H j) (fun(j:Nat) (H:List TH)=>d.hs.length-j) (fun(j:Nat) (H:List TH)=>[(1,.pointer (some ⟨b,0,none⟩)),(2,.pointer (some ⟨p,0,none⟩)),(14,.int .i64 d.hs.length),(15,.int .i64 j)]) (fun(j:Nat) (H:List TH)=>Hp I w [Blk b (.cells #[.string (bs d.name),.slice sA2 d.ss.length sc2,.slice tA2 d.hs.length tc2] 66 (0,0)),Blk p (.cells #[.string (bs []),.slice none 0 0,.slice none 0 0] 66 (0,0)),OS 9 strK sA2 sc2 d.ss,OS 191 thK tA2 tc2 H,Big opA (H.take j)]) (0) (d.hs) ⟨Nat.zero_le _,rfl,rfl,rfl⟩ (sb rfl) (fun _ h=>h) ?_
 intro j H hinv
 refine J2 ?_
 refine Jlt rfl rfl (fun hj=>?_) (fun hj=>?_)
 refine J14 ?_
 have hHl:=hinv.len
 rw[←hinv.len]
 refine An (Hp I w [Blk b (.cells #[.string (bs d.name),.slice sA2 d.ss.length sc2,.slice tA2 H.length tc2] 66 (0,0))]) 13 ?_
 refine W 0 ?_
 refine W 1 ?_
 refine W 2 ?_
 refine W 3 ?_
 refine W 4 ?_
 refine W 5 ?_
 refine V1 6 ?_
 refine OV.step gno (Ti (fun w h=>h.os 3 rfl) rfl rfl (rfl) _ rfl (by omega)) rfl ?_
 refine Wn ?_
 refine W 7 ?_
 refine V1 8 ?_
 refine OV.step gno (Tc rfl (fun w h=>(h.os 3 rfl).cell (by omega) rfl)) rfl ?_
 refine Wn ?_
 refine V1 9 ?_
 refine Yc [] (F:=[_,_,_,_,_]) rfl rfl (fun w h=>cloneO_fn (hinv.at (by omega)▸((DR.keep h hd hI).o j (by omega))) rfl (hinv.at (by omega)▸hl3 j (by omega))) (fun v L' hp=>?_)
 obtain⟨A3,c3,rfl,rfl⟩:=hp
 refine Wn ?_
 refine V1 10 ?_
 refine OV.step gno (Ti (fun w h=>h.os 3 rfl) rfl rfl (rfl) _ rfl (by omega)) rfl ?_
 refine Wn ?_
 refine W 11 ?_
 refine V1 12 ?_
 refine Yx 3 (j) (cpT (H.getD j thK.d) A3 c3) (j:=6) [_] rfl rfl rfl rfl rfl (by omega) rfl ?_
 refine E6 ?_
 refine KV.heap (fun w h=>Hp.bigSnoc (L:=[_,_,_,_,_]) (F:=opA) (h':=cpT (H.getD j thK.d) A3 c3) (k:=4) h rfl) ?_
 refine Wn ?_
 refine Vd ?_
 refine J7 ?_
 refine E5 ?_
 exact KV.loop2 (x:=j) (y:=H) (j+1) (H.set j (cpT (H.getD j thK.d) A3 c3)) (hinv.next (by omega) A3 c3) (by omega) (sb rfl) (fun _ h=>by rw[take_cp (by omega)];exact h)
 refine J12 ?_
 refine Zw 1 [_,_,_] #[_,_,_] ?_
 refine J3 ?_
 refine K4 [1,1,1,1] rfl ?_
 obtain rfl:j=d.hs.length:=by have:=hinv.le;omega
 exact KV.retC1 [_,_,_] rfl rfl Tryz.underlying66 rfl I66.h rfl (fun w h=>h.cells 0 rfl) _ (fun _ h=>h.sel [1,1,1] rfl) ⟨⟨d.name,sA2,sc2,d.ss,tA2,tc2,H⟩,by unfold DH.d;rw[hinv.t],by rw[hinv.len],by rw[List.take_of_length_le (by rw[hinv.len];exact Nat.le_refl _)];rfl⟩
theorem chk_zero {d:Dv} (h:chkM d=0):chkA d=true:=by
 unfold chkM at h
 cases hc:chkA d with
 |true=>rfl
 |false=>rw[hc] at h;simp at h
structure Bnd (d:DH):Prop where
 s:d.ss.length≤32
 t:d.hs.length≤128
 o: ∀i,i<d.hs.length→(d.hs.getD i thK.d).t.ops.length≤16
theorem chk_bnd {d:DH} (h:chkM d.d=0):Bnd d:=by
 have h1:=(chkD_iff d).1 (chk_zero h)
 refine⟨h1.2.1.2.1,h1.2.1.2.2,fun i hi=>?_⟩
 have h2:=(okT_iff _ _).1 (h1.2.2.2.1 i hi)
 have e:(th d.hs i).t.ops.length=(d.hs.getD i thK.d).t.ops.length:=rfl
 omega
theorem new_fn (d:DH) {w:World} (hd:DR w d):Fx Tryz.prog 145 [.agg #[.string (bs d.name),.slice d.sA d.ss.length d.sc,.slice d.tA d.hs.length d.tc]] w [] no (fun v L=>(chkM d.d=0∧ ∃(q:Nat) (d2:DH),d2.d=d.d∧v= .tuple #[.pointer (some ⟨q,0,none⟩),.int .i64 0]∧L=instL q d2 (⟨0,false,0⟩:IS))∨(chkM d.d≠0∧v= .tuple #[.pointer none,.int .i64 (chkM d.d)]∧L=[])):=by
 refine Fb ?_
 intro I hro hI
 refine J2 ?_
 refine RV.op (Yb #[_,_,_] rfl rfl (fun b=>?_))
 refine J8 ?_
 refine RV.op (Yc [] (F:=[_]) rfl rfl (fun w h=>check_fn d (DR.keep h hd hI)) (fun v L' hp=>?_))
 obtain⟨rfl,rfl⟩:=hp
 refine J6 ?_
 refine Jne rfl rfl (fun hck=>?_) (fun hck=>?_)
 refine J12 ?_
 refine E0 ?_
 exact Rc rfl rfl rfl (.inr ⟨hck,rfl,rfl⟩)
 have hck0:=Decidable.not_not.1 hck
 have hbd:=chk_bnd hck0
 refine J8 ?_
 refine RV.op (Yc [] (F:=[_]) rfl rfl (fun w h=>copy_fn d (DR.keep h hd hI) (by have:=hbd.s;omega) (by have:=hbd.t;omega) (fun i hi=>by have:=hbd.o i hi;exact Nat.le_trans this (by decide))) (fun v L' hp=>?_))
 obtain⟨d2,he,rfl,rfl⟩:=hp
 refine Jr (Step.build rfl (Bd363_0 _ _ _)) ?_
 refine RV.op (Yb #[_,_,_,_,_,_] rfl rfl (fun q=>?_))
 refine J5 ?_
 refine K4 [4,1,1,1] rfl ?_
 exact Rc rfl rfl rfl (.inl ⟨hck0,q,d2,he,rfl,rfl⟩)
end Go.Proofs.YtkofjhglgoojiaaGreatDoor.Dv
