/-
  Joined.
-/
import Derived.Test.YtkofjhglgoojiaaGreatDoorP20
set_option linter.unusedSimpArgs false
set_option linter.unusedVariables false
namespace Go.Proofs.YtkofjhglgoojiaaGreatDoor.Rl
set_option maxRecDepth 100000
set_option maxHeartbeats 20000000
open Go.Tk Go.Sv Go.Rails
attribute [local irreducible] KV SV OV Step Code.wp wpList Exit.then Exit.inBlock Blk OS Big Bun
theorem mod_fn (v:Int) (n:Nat) (hn:0<n) (hn2:n≤1000000):FxP Tryz.prog 7 [.int .i64 v,.int .i64 n] (.int .i64 (modM v n)):=by
 refine Fp ?_
 intro wp
 refine J8 ?_
 refine Jr (Step.convI Tryz.underlying3 Tryz.underlying101 rfl (rfl)) ?_
 refine J1 ?_
 refine Jr (Step.convI Tryz.underlying3 Tryz.underlying101 rfl (wU64 (by omega) (by omega))) ?_
 refine Jr (Step.rem rfl rfl (by omega) (Int.tmod_eq_emod_of_nonneg (wrap_u64_nonneg v))) ?_
 refine Jr (Step.convI Tryz.underlying101 Tryz.underlying3 rfl (wI64 (Int.le_trans (by decide) (modM_lt v hn).1) (by have:=(modM_lt v hn).2;unfold modM at this;omega))) ?_
 refine J4 ?_
 exact KV.retP1 rfl rfl rfl
theorem some_fn {A:Option Addr} {c:Nat} {raw:List Rail} {w:World} (hr:RS w railK A raw):Fx Tryz.prog 25 [.slice A raw.length c] w [] no (fun v L=> ∃A2 c2,v= .slice A2 (someM raw).length c2∧L=[OS 183 railK A2 c2 (someM raw)]):=by
 refine Fb ?_
 intro I hro hI
 refine J12 ?_
 refine KV.heap (fun w h=>h.nilOS (e:=183) (K:=railK)) ?_
 refine J5 ?_
 refine E1 ?_
 refine CV.loop3 (fun j (_:Option Addr) (_:Nat)=>j≤raw.length∧j≤8) (fun j _ _=>8-j) (fun j A1 c1=>[(0,.slice A raw.length c),(3,.slice A1 (sm1 raw j).length c1),(4,.int .i64 j)]) (fun j A1 c1=>Hp I w [OS 183 railK A1 c1 (sm1 raw j)]) 0 none 0 ⟨Nat.zero_le _,by omega⟩ (sb rfl) (fun _ h=>h) ?_
 intro i A1 c1 hi
 have hll:=sm1_length raw i
 refine J6 ?_
 refine Jlt rfl rfl (fun hl1=>?_) (fun hl1=>?_)
 refine J2 ?_
 refine Jlt rfl rfl (fun hl2=>?_) (fun hl2=>?_)
 refine J8 ?_
 refine An (Hp I w []) 26 ?_
 refine W 0 ?_
 refine W 1 ?_
 refine W 2 ?_
 refine Wt 3 rfl (Ti (fun w h=>h.rs hr (fun _=>hI _)) rfl rfl (by first|rfl|(rw[sm1_length])|omega) _ rfl (by first|omega|(rw[sm1_length];omega))) ?_
 refine W 4 ?_
 refine W 5 ?_
 refine W 6 ?_
 refine W 7 ?_
 refine W 10 ?_
 refine W 11 ?_
 refine Wt 12 rfl (Ti (fun w h=>h.rs hr (fun _=>hI _)) rfl rfl (by first|rfl|(rw[sm1_length])|omega) _ rfl (by first|omega|(rw[sm1_length];omega))) ?_
 refine W 13 ?_
 refine W 14 ?_
 refine Wt 15 rfl (Step.rem rfl rfl (by omega) (rfl)) ?_
 refine W 16 ?_
 refine W 17 ?_
 refine Wt 18 rfl (Ti (fun w h=>h.rs hr (fun _=>hI _)) rfl rfl (by first|rfl|(rw[sm1_length])|omega) _ rfl (by first|omega|(rw[sm1_length];omega))) ?_
 refine W 19 ?_
 refine W 20 ?_
 refine Wt 21 rfl (Step.rem rfl rfl (by omega) (rfl)) ?_
 refine V1 8 ?_
 refine Yc [] rfl rfl (fun w h=>(mod_fn _ (i+1) (by omega) (by omega)).fn w) (fun v L' hp=>?_)
 obtain⟨rfl,rfl⟩:=hp
 refine Wn ?_
 refine Wt 9 rfl (Step.sub rfl rfl (wI64 (by have:=modM_lt (raw.getD i railK.d).supply (n:=i+1) (by omega);omega) (by have:=modM_lt (raw.getD i railK.d).supply (n:=i+1) (by omega);omega))) ?_
 refine Wt 22 rfl (Step.build rfl (Bd183_0_1_2 _ _ _)) ?_
 refine V1 23 ?_
 refine OV.buildSlice (K:=railK) ([⟨_,_,_⟩]) rfl (Bs24_1_0 _ _ _) rfl rfl (by omega) gno rfl (fun b5_23=>?_)
 refine Wn ?_
 refine V1 24 ?_
 refine Ye 0 rfl rfl rfl rfl rfl (fun w h=>h.os 1 rfl) (by simp only[List.length_cons,List.length_nil];omega) (fun b5_24a b5_24c=>?_)
 refine Wn ?_
 refine W 25 ?_
 refine Vd ?_
 refine J8 ?_
 refine E1 ?_
 refine KV.loop3 (y:=A1) (z:=c1) (i+1) b5_24a b5_24c ⟨by omega,by omega⟩ (by omega) (sb rfl) (fun _ h=>h)
 have hi8:i=min raw.length 8:=by omega
 refine J14 ?_
 refine Jr (Step.rem rfl rfl (by omega) (Int.tmod_eq_emod_of_nonneg (by omega))) ?_
 refine Jeq rfl rfl (fun hodd=>?_) (fun hodd=>?_)
 refine J8 ?_
 rw[sm1_length]
 obtain⟨n,hn8⟩: ∃n,n=i:=⟨_,rfl⟩
 subst hn8
 refine J5 ?_
 refine RV.op (Ym (K:=railK) (n) (n) (railK.d) rfl rfl rfl rfl (fun A2=>?_))
 refine J10 ?_
 refine E2 ?_
 refine CV.loop2 (fun j (z:List Rail)=>j≤n∧z.length=n∧ ∀i,i<j→z.getD (n-1-i) railK.d=turn n ((sm1 raw n).getD i railK.d)) (fun j _=>n-j) (fun j _=>[(3,.slice A1 n c1),(5,.int .i64 n),(6,.slice A2 n n),(7,.int .i64 j)]) (fun _ z=>Hp I w [OS 183 railK A1 c1 (sm1 raw n),OS 183 railK A2 n z]) 0 (List.replicate n railK.d) ⟨Nat.zero_le _,by simp,fun _ h=>by omega⟩ (sb rfl) (fun _ h=>h) ?_
 intro j z hj
 refine J5 ?_
 refine Jlt rfl rfl (fun hl3=>?_) (fun hl3=>?_)
 refine J11 ?_
 refine Jr (Ti (fun w h=>h.os 0 rfl) rfl rfl (by first|rfl|(rw[sm1_length])|omega) _ rfl (by first|omega|(rw[sm1_length];omega))) ?_
 refine Jr (Tw rfl (fun w h=>(h.os 0 rfl).cells (by rw[sm1_length];omega))) ?_
 refine RV.op (Ya (fun b12_4=>?_))
 refine Zw 2 [_,_,_] #[_,_,_] ?_
 refine J4 ?_
 have hsb:=sm1_sup raw (k:=n) (i:=j) (by omega)
 refine J3 ?_
 refine Jge rfl rfl (fun hsp=>?_) (fun hsp=>?_)
 refine J10 ?_
 refine Zw 2 [_] #[_,_,_] ?_
 refine J9 ?_
 refine Jr (Ti (fun w h=>h.os 1 rfl) rfl rfl (by first|rfl|(rw[sm1_length])|omega) _ (show((n:Int)-1-j)=((n-1-j:Nat):Int) by omega) (by first|omega|(rw[sm1_length];omega))) ?_
 refine RV.op (Yx 1 (n-1-j) (⟨_,_,_⟩) (j:=0) [_,_,_] rfl rfl rfl rfl rfl (by omega) rfl ?_)
 refine J9 ?_
 refine E2 ?_
 refine KV.loop2 (y:=z) (j+1) (z.set (n-1-j) (turn n ((sm1 raw n).getD j railK.d))) ⟨by omega,by rw[List.length_set];exact hj.2.1,fun i hi=>by by_cases e:i=j;(subst e;exact getD_set_self _ _ _ _ (by omega));rw[getD_set_other _ _ _ (by omega)];exact hj.2.2 i (by omega)⟩ (by omega) (sb rfl) (fun _ h=>by first|(rw[turn,if_pos hsp];exact h)|(rw[turn,if_neg hsp];exact h))
 refine J12 ?_
 refine Jr (Ti (fun w h=>h.os 1 rfl) rfl rfl (by first|rfl|(rw[sm1_length])|omega) _ (show((n:Int)-1-j)=((n-1-j:Nat):Int) by omega) (by first|omega|(rw[sm1_length];omega))) ?_
 refine RV.op (Yx 1 (n-1-j) (⟨_,_,_⟩) (j:=0) [_,_,_] rfl rfl rfl rfl rfl (by omega) rfl ?_)
 refine J9 ?_
 refine E2 ?_
 refine KV.loop2 (y:=z) (j+1) (z.set (n-1-j) (turn n ((sm1 raw n).getD j railK.d))) ⟨by omega,by rw[List.length_set];exact hj.2.1,fun i hi=>by by_cases e:i=j;(subst e;exact getD_set_self _ _ _ _ (by omega));rw[getD_set_other _ _ _ (by omega)];exact hj.2.2 i (by omega)⟩ (by omega) (sb rfl) (fun _ h=>by first|(rw[turn,if_pos hsp];exact h)|(rw[turn,if_neg hsp];exact h))
 obtain rfl:j=n:=by omega
 refine J15 ?_
 refine J1 ?_
 refine K1 [1] rfl ?_
 obtain rfl:=back_ext hj.2.1 hj.2.2
 have hsm:someM raw=(List.range j).map fun p=>turn j ((sm1 raw j).getD (j-1-p) railK.d):=by simp only[someM];rw[←hi8,if_pos (by omega)]
 rw[hsm]
 simp only[List.length_map,List.length_range]
 exact Rb rfl rfl ⟨_,_,rfl,rfl⟩
 refine J12 ?_
 refine E1 ?_
 have hsm:someM raw=sm1 raw i:=by simp only[someM];rw[←hi8,if_neg (by omega)]
 rw[hsm]
 exact Rb rfl rfl ⟨_,_,rfl,rfl⟩
 have hi8:i=min raw.length 8:=by omega
 refine J15 ?_
 refine J2 ?_
 refine Jr (Step.rem rfl rfl (by omega) (Int.tmod_eq_emod_of_nonneg (by omega))) ?_
 refine Jeq rfl rfl (fun hodd=>?_) (fun hodd=>?_)
 refine J8 ?_
 rw[sm1_length]
 obtain⟨n,hn8⟩: ∃n,n=i:=⟨_,rfl⟩
 subst hn8
 refine J5 ?_
 refine RV.op (Ym (K:=railK) (n) (n) (railK.d) rfl rfl rfl rfl (fun A2=>?_))
 refine J10 ?_
 refine E2 ?_
 refine CV.loop2 (fun j (z:List Rail)=>j≤n∧z.length=n∧ ∀i,i<j→z.getD (n-1-i) railK.d=turn n ((sm1 raw n).getD i railK.d)) (fun j _=>n-j) (fun j _=>[(3,.slice A1 n c1),(5,.int .i64 n),(6,.slice A2 n n),(7,.int .i64 j)]) (fun _ z=>Hp I w [OS 183 railK A1 c1 (sm1 raw n),OS 183 railK A2 n z]) 0 (List.replicate n railK.d) ⟨Nat.zero_le _,by simp,fun _ h=>by omega⟩ (sb rfl) (fun _ h=>h) ?_
 intro j z hj
 refine J5 ?_
 refine Jlt rfl rfl (fun hl3=>?_) (fun hl3=>?_)
 refine J11 ?_
 refine Jr (Ti (fun w h=>h.os 0 rfl) rfl rfl (by first|rfl|(rw[sm1_length])|omega) _ rfl (by first|omega|(rw[sm1_length];omega))) ?_
 refine Jr (Tw rfl (fun w h=>(h.os 0 rfl).cells (by rw[sm1_length];omega))) ?_
 refine RV.op (Ya (fun b12_4=>?_))
 refine Zw 2 [_,_,_] #[_,_,_] ?_
 refine J4 ?_
 have hsb:=sm1_sup raw (k:=n) (i:=j) (by omega)
 refine J3 ?_
 refine Jge rfl rfl (fun hsp=>?_) (fun hsp=>?_)
 refine J10 ?_
 refine Zw 2 [_] #[_,_,_] ?_
 refine J9 ?_
 refine Jr (Ti (fun w h=>h.os 1 rfl) rfl rfl (by first|rfl|(rw[sm1_length])|omega) _ (show((n:Int)-1-j)=((n-1-j:Nat):Int) by omega) (by first|omega|(rw[sm1_length];omega))) ?_
 refine RV.op (Yx 1 (n-1-j) (⟨_,_,_⟩) (j:=0) [_,_,_] rfl rfl rfl rfl rfl (by omega) rfl ?_)
 refine J9 ?_
 refine E2 ?_
 refine KV.loop2 (y:=z) (j+1) (z.set (n-1-j) (turn n ((sm1 raw n).getD j railK.d))) ⟨by omega,by rw[List.length_set];exact hj.2.1,fun i hi=>by by_cases e:i=j;(subst e;exact getD_set_self _ _ _ _ (by omega));rw[getD_set_other _ _ _ (by omega)];exact hj.2.2 i (by omega)⟩ (by omega) (sb rfl) (fun _ h=>by first|(rw[turn,if_pos hsp];exact h)|(rw[turn,if_neg hsp];exact h))
 refine J12 ?_
 refine Jr (Ti (fun w h=>h.os 1 rfl) rfl rfl (by first|rfl|(rw[sm1_length])|omega) _ (show((n:Int)-1-j)=((n-1-j:Nat):Int) by omega) (by first|omega|(rw[sm1_length];omega))) ?_
 refine RV.op (Yx 1 (n-1-j) (⟨_,_,_⟩) (j:=0) [_,_,_] rfl rfl rfl rfl rfl (by omega) rfl ?_)
 refine J9 ?_
 refine E2 ?_
 refine KV.loop2 (y:=z) (j+1) (z.set (n-1-j) (turn n ((sm1 raw n).getD j railK.d))) ⟨by omega,by rw[List.length_set];exact hj.2.1,fun i hi=>by by_cases e:i=j;(subst e;exact getD_set_self _ _ _ _ (by omega));rw[getD_set_other _ _ _ (by omega)];exact hj.2.2 i (by omega)⟩ (by omega) (sb rfl) (fun _ h=>by first|(rw[turn,if_pos hsp];exact h)|(rw[turn,if_neg hsp];exact h))
 obtain rfl:j=n:=by omega
 refine J15 ?_
 refine J1 ?_
 refine K1 [1] rfl ?_
 obtain rfl:=back_ext hj.2.1 hj.2.2
 have hsm:someM raw=(List.range j).map fun p=>turn j ((sm1 raw j).getD (j-1-p) railK.d):=by simp only[someM];rw[←hi8,if_pos (by omega)]
 rw[hsm]
 simp only[List.length_map,List.length_range]
 exact Rb rfl rfl ⟨_,_,rfl,rfl⟩
 refine J12 ?_
 refine E1 ?_
 have hsm:someM raw=sm1 raw i:=by simp only[someM];rw[←hi8,if_neg (by omega)]
 rw[hsm]
 exact Rb rfl rfl ⟨_,_,rfl,rfl⟩
end Go.Proofs.YtkofjhglgoojiaaGreatDoor.Rl
