/-
  Walks, part 4.
-/
import Derived.Test.YtcmalbkflbfidaaTab4
import Derived.Test.YtcmalbkflbfidaaW3
set_option linter.unusedSimpArgs false
set_option linter.unusedVariables false
namespace Go.Proofs.Ytcmalbkflbfidaa
open Go.Sv Go.Rails
set_option maxRecDepth 100000 in
set_option maxHeartbeats 1000000 in
theorem neighbors_fn {A : Option Addr} {c : Nat} {links : List Link} (n : Nat) (b : Bool) {w : World} (hr : RS w linkK A links) (hl : links.length ≤ 1024) (hn : n ≤ 128) (hok : ∀ i, i < links.length → okL n (links.getD i linkK.d)) : Fx Try.prog 49 [.int .i64 n, .slice A links.length c, .bool b] w [] no (fun v L => ∃ A2 c2 hs, v = .slice A2 n c2 ∧ L = [OS 57 hdK A2 c2 hs, Big hdF hs] ∧ hs.length = n ∧ ∀ s, s < n → (hs.getD s hdK.d).ys = nbM links b s) := by
  refine Sv.Fx.body Try.func49 rfl T49 rfl ?_
  intro I hro hI
  refine KV.env [(0, _), (1, _), (2, _)] ⟨rfl, rfl, rfl, trivial⟩ ?_
  refine CV.seq ?_
  -- region 0 depgraph.go:137
  refine CV.region ?_
  refine RV.op (OV.step gno (Step.assign rfl) rfl ?_)
  refine RV.nil ?_
  refine KV.then_n ?_
  refine KV.env [(0, _), (1, _), (2, _)] ⟨rfl, rfl, rfl, trivial⟩ ?_
  refine CV.seq ?_
  -- region 1 depgraph.go:138
  refine CV.region ?_
  refine RV.op (OV.step gno (Step.move rfl) rfl ?_)
  refine RV.op (OV.make (K := hdK) (n) (n) (hdK.d) Try.underlying82 I57 rfl rfl rfl rfl rfl (by omega) (by omega) (by omega) gno rfl (fun A1 => ?_))
  refine KV.heap (fun w h => h.newBig (F := hdF) n hdK.d (fun w => OS.emp w)) ?_
  refine RV.op (OV.step gno (Step.assign rfl) rfl ?_)
  refine RV.nil ?_
  refine KV.then_n ?_
  refine KV.env [(1, _), (2, _), (7, _)] ⟨rfl, rfl, rfl, trivial⟩ ?_
  refine CV.seq ?_
  refine CV.seq ?_
  -- region 2 depgraph.go:139
  refine CV.region ?_
  refine RV.op (OV.step gno (Step.move rfl) rfl ?_)
  refine RV.op (OV.step gno (Step.lenSl Try.underlying68 rfl) rfl ?_)
  refine RV.op (OV.step gno (Step.move rfl) rfl ?_)
  refine RV.nil ?_
  refine KV.then_n ?_
  refine KV.env [(2, _), (7, _), (12, _), (13, _), (14, _)] ⟨rfl, rfl, rfl, rfl, rfl, trivial⟩ ?_
  refine CV.block ?_
  -- loop L3; live [2, 7, 12, 13, 14]
  refine KV.sel [0, 0] [_, _] rfl ?_
  refine CV.loop2 (fun j (hs : List Hd) => j ≤ links.length ∧ hs.length = n ∧ ∀ s, s < n → (hs.getD s hdK.d).ys = nbM (links.take j) b s) (fun j _ => links.length - j) (fun j _ => [(2, .bool b), (7, .slice A1 n n), (12, .slice A links.length c), (13, .int .i64 links.length), (14, .int .i64 j)]) (fun _ hs => Hp I w [OS 57 hdK A1 n hs, Big hdF hs]) 0 (List.replicate n hdK.d) ⟨Nat.zero_le _, by simp, fun s hs => by simp [List.getD, hs, nbM]; rfl⟩ ⟨rfl, rfl, rfl, rfl, rfl, trivial⟩ (fun _ h => h) ?_
  intro j hs hj
  refine CV.seq ?_
  -- region 3 depgraph.go:139
  refine CV.region ?_
  refine RV.op (OV.split gno (Step.lss rfl rfl) rfl (fun hlt2 => ?_) (fun hlt2 => ?_))
  · -- True
    refine RV.nil ?_
    refine KV.then_n ?_
    refine KV.env [(2, _), (7, _), (12, _), (13, _), (14, _), (15, _)] ⟨rfl, rfl, rfl, rfl, rfl, rfl, trivial⟩ ?_
    refine CV.seq ?_
    refine CV.cond_t rfl ?_
    refine CV.skip ?_
    refine KV.then_n ?_
    refine KV.env [(2, _), (7, _), (12, _), (13, _), (14, _)] ⟨rfl, rfl, rfl, rfl, rfl, trivial⟩ ?_
    refine CV.seq ?_
    refine CV.block ?_
    refine CV.seq ?_
    -- region 4 depgraph.go:139
    refine CV.region ?_
    refine RV.op (OV.step gno (Step.idx Try.underlying68 I70 (fun w h => h.rs hr (fun _ => hI _)) rfl rfl (rfl) _ rfl (by omega)) rfl ?_)
    refine RV.op (OV.step gno (Step.loadN _ Try.underlying70 rfl I70 rfl rfl (fun w h => (h.rs hr (fun _ => hI _)).cells (by omega))) rfl ?_)
    refine RV.op (OV.alloc #[.int .i64 0, .int .i64 0] I70 rfl gno rfl (fun b4_2 => ?_))
    refine RV.op (OV.store 2 [_, _] #[_, _] I70 rfl rfl rfl rfl rfl (Nat.le_of_ble_eq_true rfl) (by simp [Value.oneCell']) rfl gno ?_)
    refine RV.nil ?_
    refine KV.then_n ?_
    refine KV.env [(2, _), (7, _), (9, _), (12, _), (13, _), (14, _)] ⟨rfl, rfl, rfl, rfl, rfl, rfl, trivial⟩ ?_
    refine CV.seq ?_
    -- region 5 depgraph.go:140
    refine CV.region ?_
    refine RV.op (OV.step gno (Step.move rfl) rfl ?_)
    refine RV.nil ?_
    refine KV.then_n ?_
    refine KV.env [(2, _), (7, _), (9, _), (12, _), (13, _), (14, _), (18, _)] ⟨rfl, rfl, rfl, rfl, rfl, rfl, rfl, trivial⟩ ?_
    refine KV.cases 18 rfl (fun cc1 => ?_) (fun cc1 => ?_)
    · -- True
      refine CV.cond_t rfl ?_
      -- region 6 depgraph.go:141
      obtain ⟨s, hs2⟩ := Int.eq_ofNat_of_zero_le (hok j (by omega)).2.1
      have hs3 := (hok j (by omega)).2.2
      rw [hs2]
      rw [hs2] at hs3
      have hdl := nb_len (hj.2.2 s (by omega))
      refine CV.any (Hp I w [Blk b4_2 (.cells #[.int .i64 (links.getD j linkK.d).con, .int .i64 s] 70 (0, 0))]) (by kernel_rfl) (fun _ h => h.drew) 14 rfl ?_
      refine AV.take 0 #[true, false, false, false, false, false, false, false, false, false, false, false, false, false] rfl (by kernel_rfl) (by kernel_rfl) (by kernel_rfl) (fun _ _ _ h => h) gno (Step.move rfl) rfl (fun _ h => h.sel [2] rfl) (by kernel_rfl) ?_
      refine AV.take 1 #[true, true, false, false, false, false, false, false, false, false, false, false, false, false] rfl (by kernel_rfl) (by kernel_rfl) (by kernel_rfl) (fun _ _ _ h => h) gno (Step.fieldAddr rfl (F70_1 _ _)) rfl (fun _ h => h.sel [2] rfl) (by kernel_rfl) ?_
      refine AV.take 2 #[true, true, true, false, false, false, false, false, false, false, false, false, false, false] rfl (by kernel_rfl) (by kernel_rfl) (by kernel_rfl) (fun _ _ _ h => h) gno (Step.load Try.underlying3 rfl rfl (fun w h => h.cell 0 rfl rfl)) rfl (fun _ h => h.sel [2] rfl) (by kernel_rfl) ?_
      refine AV.take 3 #[true, true, true, true, false, false, false, false, false, false, false, false, false, false] rfl (by kernel_rfl) (by kernel_rfl) (by kernel_rfl) (fun _ _ _ h => h) gno (Step.move rfl) rfl (fun _ h => h.sel [2] rfl) (by kernel_rfl) ?_
      refine AV.take 4 #[true, true, true, true, true, false, false, false, false, false, false, false, false, false] rfl (by kernel_rfl) (by kernel_rfl) (by kernel_rfl) (fun _ _ _ h => h) gno (Step.fieldAddr rfl (F70_1 _ _)) rfl (fun _ h => h.sel [2] rfl) (by kernel_rfl) ?_
      refine AV.take 5 #[true, true, true, true, true, true, false, false, false, false, false, false, false, false] rfl (by kernel_rfl) (by kernel_rfl) (by kernel_rfl) (fun _ _ _ h => h) gno (Step.load Try.underlying3 rfl rfl (fun w h => h.cell 0 rfl rfl)) rfl (fun _ h => h.sel [2] rfl) (by kernel_rfl) ?_
      refine AV.take 8 #[true, true, true, true, true, true, false, false, true, false, false, false, false, false] rfl (by kernel_rfl) (by kernel_rfl) (by kernel_rfl) (fun _ _ _ h => h) gno (Step.fieldAddr rfl (F70_0 _ _)) rfl (fun _ h => h.sel [2] rfl) (by kernel_rfl) ?_
      refine AV.take 9 #[true, true, true, true, true, true, false, false, true, true, false, false, false, false] rfl (by kernel_rfl) (by kernel_rfl) (by kernel_rfl) (fun _ _ _ h => h) gno (Step.load Try.underlying3 rfl rfl (fun w h => h.cell 0 rfl rfl)) rfl (fun _ h => h.sel [2] rfl) (by kernel_rfl) ?_
      refine AV.all [6, 10] (by kernel_rfl) (by decide) ?_
      refine ⟨⟨_, rfl, ?_⟩, ⟨⟨_, rfl, ?_⟩, trivial⟩⟩
      · -- 6 comes up
        refine OV.step gno (Step.idx Try.underlying82 I57 (fun w h => h.os 0 rfl) rfl rfl (by omega) _ rfl (by omega)) rfl ?_
        refine AV.next #[true, true, true, true, true, true, true, false, true, true, false, false, false, false] (by kernel_rfl) (fun _ h => h.sel [2] rfl) ?_
        refine AV.all [7, 10] (by kernel_rfl) (by decide) ?_
        refine ⟨⟨_, rfl, ?_⟩, ⟨⟨_, rfl, ?_⟩, trivial⟩⟩
        · -- 7 comes up
          refine OV.step gno (Step.load Try.underlying57 rfl rfl (fun w h => (h.os 0 rfl).cell0 (by omega) rfl)) rfl ?_
          refine AV.next #[true, true, true, true, true, true, true, true, true, true, false, false, false, false] (by kernel_rfl) (fun _ h => h.sel [2] rfl) ?_
          refine AV.all [10] (by kernel_rfl) (by decide) ?_
          refine ⟨⟨_, rfl, ?_⟩, trivial⟩
          · -- 10 comes up
            refine OV.buildSlice (K := (intK .i64)) ([_]) rfl (Bs57_1_0 _) rfl rfl (by omega) gno rfl (fun b6_10 => ?_)
            refine AV.next #[true, true, true, true, true, true, true, true, true, true, true, false, false, false] (by kernel_rfl) (fun _ h => h.sel [2] rfl) ?_
            refine AV.all [11] (by kernel_rfl) (by decide) ?_
            refine ⟨⟨_, rfl, ?_⟩, trivial⟩
            · -- 11 comes up
              refine OV.heap (fun w h => h.focus (k := 1) (m := s) hdK.d rfl (by omega)) ?_
              refine OV.append 1 Try.underlying57 I3 rfl rfl rfl rfl rfl rfl (fun w h => h.os 3 rfl) (by simp only [List.length_cons, List.length_nil]; omega) (by simp only [List.length_cons, List.length_nil]; omega) gno rfl (fun A2 c2 => ?_)
              refine AV.next #[true, true, true, true, true, true, true, true, true, true, true, true, false, false] (by kernel_rfl) (fun _ h => h.sel [2] rfl) ?_
              refine AV.all [12] (by kernel_rfl) (by decide) ?_
              refine ⟨⟨_, rfl, ?_⟩, trivial⟩
              · -- 12 comes up
                refine OV.step gno (Step.idx Try.underlying82 I57 (fun w h => h.os 0 rfl) rfl rfl (by omega) _ rfl (by omega)) rfl ?_
                refine AV.next #[true, true, true, true, true, true, true, true, true, true, true, true, true, false] (by kernel_rfl) (fun _ h => h.sel [2] rfl) ?_
                refine AV.all [13] (by kernel_rfl) (by decide) ?_
                refine ⟨⟨_, rfl, ?_⟩, trivial⟩
                · -- 13 comes up
                  refine OV.storeE 0 (s) (⟨A2, c2, _⟩) (j := 0) [_] I57 rfl rfl rfl rfl rfl rfl (by omega) rfl (Nat.le_of_ble_eq_true rfl) gno ?_
                  refine KV.sel [0, 0, 0, 1] [_, _, _, _] rfl ?_
                  refine KV.heap (fun w h => Hp.unfocus (L := [_, _, _]) (k := 1) (hs := hs) (m := s) (h' := ⟨A2, c2, _⟩) h rfl (by omega)) ?_
                  refine AV.next #[true, true, true, true, true, true, true, true, true, true, true, true, true, true] (by kernel_rfl) (fun _ h => h.sel [2] rfl) ?_
                  refine AV.done (by kernel_rfl) ?_
                  refine KV.block_n ?_
                  refine KV.then_n ?_
                  refine KV.env [(2, _), (7, _), (12, _), (13, _), (14, _)] ⟨rfl, rfl, rfl, rfl, rfl, trivial⟩ ?_
                  -- region 8 depgraph.go:139
                  refine CV.region ?_
                  (first | refine RV.op (OV.step gno (Step.add rfl rfl (wI64 (by omega) (by omega))) rfl ?_) | refine RV.op (OV.step gno (Step.add rfl rfl rfl) rfl ?_))
                  refine RV.op (OV.step gno (Step.move rfl) rfl ?_)
                  refine RV.nil ?_
                  refine KV.then_n ?_
                  refine KV.env [(2, _), (7, _), (12, _), (13, _), (14, _)] ⟨rfl, rfl, rfl, rfl, rfl, trivial⟩ ?_
                  refine KV.sel [0, 0] [_, _] rfl ?_
                  refine KV.loop2 (y := hs) (j + 1) (hs.set s ⟨A2, c2, _⟩) ⟨by omega, by rw [List.length_set]; exact hj.2.1, nb_step (by omega) hj.2.2 hj.2.1 (by omega) (by rw [cc1]; exact hs2) (by rw [cc1]; rfl)⟩ (by omega) ⟨rfl, rfl, rfl, rfl, rfl, trivial⟩ (fun _ h => h)
        · -- 10 comes up
          refine OV.buildSlice (K := (intK .i64)) ([_]) rfl (Bs57_1_0 _) rfl rfl (by omega) gno rfl (fun b6_10 => ?_)
          refine AV.next #[true, true, true, true, true, true, true, false, true, true, true, false, false, false] (by kernel_rfl) (fun _ h => h.sel [2] rfl) ?_
          refine AV.all [7] (by kernel_rfl) (by decide) ?_
          refine ⟨⟨_, rfl, ?_⟩, trivial⟩
          · -- 7 comes up
            refine OV.step gno (Step.load Try.underlying57 rfl rfl (fun w h => (h.os 0 rfl).cell0 (by omega) rfl)) rfl ?_
            refine AV.next #[true, true, true, true, true, true, true, true, true, true, true, false, false, false] (by kernel_rfl) (fun _ h => h.sel [2] rfl) ?_
            refine AV.all [11] (by kernel_rfl) (by decide) ?_
            refine ⟨⟨_, rfl, ?_⟩, trivial⟩
            · -- 11 comes up
              refine OV.heap (fun w h => h.focus (k := 1) (m := s) hdK.d rfl (by omega)) ?_
              refine OV.append 1 Try.underlying57 I3 rfl rfl rfl rfl rfl rfl (fun w h => h.os 3 rfl) (by simp only [List.length_cons, List.length_nil]; omega) (by simp only [List.length_cons, List.length_nil]; omega) gno rfl (fun A2 c2 => ?_)
              refine AV.next #[true, true, true, true, true, true, true, true, true, true, true, true, false, false] (by kernel_rfl) (fun _ h => h.sel [2] rfl) ?_
              refine AV.all [12] (by kernel_rfl) (by decide) ?_
              refine ⟨⟨_, rfl, ?_⟩, trivial⟩
              · -- 12 comes up
                refine OV.step gno (Step.idx Try.underlying82 I57 (fun w h => h.os 0 rfl) rfl rfl (by omega) _ rfl (by omega)) rfl ?_
                refine AV.next #[true, true, true, true, true, true, true, true, true, true, true, true, true, false] (by kernel_rfl) (fun _ h => h.sel [2] rfl) ?_
                refine AV.all [13] (by kernel_rfl) (by decide) ?_
                refine ⟨⟨_, rfl, ?_⟩, trivial⟩
                · -- 13 comes up
                  refine OV.storeE 0 (s) (⟨A2, c2, _⟩) (j := 0) [_] I57 rfl rfl rfl rfl rfl rfl (by omega) rfl (Nat.le_of_ble_eq_true rfl) gno ?_
                  refine KV.sel [0, 0, 0, 1] [_, _, _, _] rfl ?_
                  refine KV.heap (fun w h => Hp.unfocus (L := [_, _, _]) (k := 1) (hs := hs) (m := s) (h' := ⟨A2, c2, _⟩) h rfl (by omega)) ?_
                  refine AV.next #[true, true, true, true, true, true, true, true, true, true, true, true, true, true] (by kernel_rfl) (fun _ h => h.sel [2] rfl) ?_
                  refine AV.done (by kernel_rfl) ?_
                  refine KV.block_n ?_
                  refine KV.then_n ?_
                  refine KV.env [(2, _), (7, _), (12, _), (13, _), (14, _)] ⟨rfl, rfl, rfl, rfl, rfl, trivial⟩ ?_
                  -- region 8 depgraph.go:139
                  refine CV.region ?_
                  (first | refine RV.op (OV.step gno (Step.add rfl rfl (wI64 (by omega) (by omega))) rfl ?_) | refine RV.op (OV.step gno (Step.add rfl rfl rfl) rfl ?_))
                  refine RV.op (OV.step gno (Step.move rfl) rfl ?_)
                  refine RV.nil ?_
                  refine KV.then_n ?_
                  refine KV.env [(2, _), (7, _), (12, _), (13, _), (14, _)] ⟨rfl, rfl, rfl, rfl, rfl, trivial⟩ ?_
                  refine KV.sel [0, 0] [_, _] rfl ?_
                  refine KV.loop2 (y := hs) (j + 1) (hs.set s ⟨A2, c2, _⟩) ⟨by omega, by rw [List.length_set]; exact hj.2.1, nb_step (by omega) hj.2.2 hj.2.1 (by omega) (by rw [cc1]; exact hs2) (by rw [cc1]; rfl)⟩ (by omega) ⟨rfl, rfl, rfl, rfl, rfl, trivial⟩ (fun _ h => h)
      · -- 10 comes up
        refine OV.buildSlice (K := (intK .i64)) ([_]) rfl (Bs57_1_0 _) rfl rfl (by omega) gno rfl (fun b6_10 => ?_)
        refine AV.next #[true, true, true, true, true, true, false, false, true, true, true, false, false, false] (by kernel_rfl) (fun _ h => h.sel [2] rfl) ?_
        refine AV.all [6] (by kernel_rfl) (by decide) ?_
        refine ⟨⟨_, rfl, ?_⟩, trivial⟩
        · -- 6 comes up
          refine OV.step gno (Step.idx Try.underlying82 I57 (fun w h => h.os 0 rfl) rfl rfl (by omega) _ rfl (by omega)) rfl ?_
          refine AV.next #[true, true, true, true, true, true, true, false, true, true, true, false, false, false] (by kernel_rfl) (fun _ h => h.sel [2] rfl) ?_
          refine AV.all [7] (by kernel_rfl) (by decide) ?_
          refine ⟨⟨_, rfl, ?_⟩, trivial⟩
          · -- 7 comes up
            refine OV.step gno (Step.load Try.underlying57 rfl rfl (fun w h => (h.os 0 rfl).cell0 (by omega) rfl)) rfl ?_
            refine AV.next #[true, true, true, true, true, true, true, true, true, true, true, false, false, false] (by kernel_rfl) (fun _ h => h.sel [2] rfl) ?_
            refine AV.all [11] (by kernel_rfl) (by decide) ?_
            refine ⟨⟨_, rfl, ?_⟩, trivial⟩
            · -- 11 comes up
              refine OV.heap (fun w h => h.focus (k := 1) (m := s) hdK.d rfl (by omega)) ?_
              refine OV.append 1 Try.underlying57 I3 rfl rfl rfl rfl rfl rfl (fun w h => h.os 3 rfl) (by simp only [List.length_cons, List.length_nil]; omega) (by simp only [List.length_cons, List.length_nil]; omega) gno rfl (fun A2 c2 => ?_)
              refine AV.next #[true, true, true, true, true, true, true, true, true, true, true, true, false, false] (by kernel_rfl) (fun _ h => h.sel [2] rfl) ?_
              refine AV.all [12] (by kernel_rfl) (by decide) ?_
              refine ⟨⟨_, rfl, ?_⟩, trivial⟩
              · -- 12 comes up
                refine OV.step gno (Step.idx Try.underlying82 I57 (fun w h => h.os 0 rfl) rfl rfl (by omega) _ rfl (by omega)) rfl ?_
                refine AV.next #[true, true, true, true, true, true, true, true, true, true, true, true, true, false] (by kernel_rfl) (fun _ h => h.sel [2] rfl) ?_
                refine AV.all [13] (by kernel_rfl) (by decide) ?_
                refine ⟨⟨_, rfl, ?_⟩, trivial⟩
                · -- 13 comes up
                  refine OV.storeE 0 (s) (⟨A2, c2, _⟩) (j := 0) [_] I57 rfl rfl rfl rfl rfl rfl (by omega) rfl (Nat.le_of_ble_eq_true rfl) gno ?_
                  refine KV.sel [0, 0, 0, 1] [_, _, _, _] rfl ?_
                  refine KV.heap (fun w h => Hp.unfocus (L := [_, _, _]) (k := 1) (hs := hs) (m := s) (h' := ⟨A2, c2, _⟩) h rfl (by omega)) ?_
                  refine AV.next #[true, true, true, true, true, true, true, true, true, true, true, true, true, true] (by kernel_rfl) (fun _ h => h.sel [2] rfl) ?_
                  refine AV.done (by kernel_rfl) ?_
                  refine KV.block_n ?_
                  refine KV.then_n ?_
                  refine KV.env [(2, _), (7, _), (12, _), (13, _), (14, _)] ⟨rfl, rfl, rfl, rfl, rfl, trivial⟩ ?_
                  -- region 8 depgraph.go:139
                  refine CV.region ?_
                  (first | refine RV.op (OV.step gno (Step.add rfl rfl (wI64 (by omega) (by omega))) rfl ?_) | refine RV.op (OV.step gno (Step.add rfl rfl rfl) rfl ?_))
                  refine RV.op (OV.step gno (Step.move rfl) rfl ?_)
                  refine RV.nil ?_
                  refine KV.then_n ?_
                  refine KV.env [(2, _), (7, _), (12, _), (13, _), (14, _)] ⟨rfl, rfl, rfl, rfl, rfl, trivial⟩ ?_
                  refine KV.sel [0, 0] [_, _] rfl ?_
                  refine KV.loop2 (y := hs) (j + 1) (hs.set s ⟨A2, c2, _⟩) ⟨by omega, by rw [List.length_set]; exact hj.2.1, nb_step (by omega) hj.2.2 hj.2.1 (by omega) (by rw [cc1]; exact hs2) (by rw [cc1]; rfl)⟩ (by omega) ⟨rfl, rfl, rfl, rfl, rfl, trivial⟩ (fun _ h => h)
    · -- False
      refine CV.cond_f rfl ?_
      -- region 7 depgraph.go:143
      obtain ⟨s, hs2⟩ := Int.eq_ofNat_of_zero_le (hok j (by omega)).1.1
      have hs3 := (hok j (by omega)).1.2
      rw [hs2]
      rw [hs2] at hs3
      have hdl := nb_len (hj.2.2 s (by omega))
      refine CV.any (Hp I w [Blk b4_2 (.cells #[.int .i64 s, .int .i64 (links.getD j linkK.d).sup] 70 (0, 0))]) (by kernel_rfl) (fun _ h => h.drew) 14 rfl ?_
      refine AV.take 0 #[true, false, false, false, false, false, false, false, false, false, false, false, false, false] rfl (by kernel_rfl) (by kernel_rfl) (by kernel_rfl) (fun _ _ _ h => h) gno (Step.move rfl) rfl (fun _ h => h.sel [2] rfl) (by kernel_rfl) ?_
      refine AV.take 1 #[true, true, false, false, false, false, false, false, false, false, false, false, false, false] rfl (by kernel_rfl) (by kernel_rfl) (by kernel_rfl) (fun _ _ _ h => h) gno (Step.fieldAddr rfl (F70_0 _ _)) rfl (fun _ h => h.sel [2] rfl) (by kernel_rfl) ?_
      refine AV.take 2 #[true, true, true, false, false, false, false, false, false, false, false, false, false, false] rfl (by kernel_rfl) (by kernel_rfl) (by kernel_rfl) (fun _ _ _ h => h) gno (Step.load Try.underlying3 rfl rfl (fun w h => h.cell 0 rfl rfl)) rfl (fun _ h => h.sel [2] rfl) (by kernel_rfl) ?_
      refine AV.take 3 #[true, true, true, true, false, false, false, false, false, false, false, false, false, false] rfl (by kernel_rfl) (by kernel_rfl) (by kernel_rfl) (fun _ _ _ h => h) gno (Step.move rfl) rfl (fun _ h => h.sel [2] rfl) (by kernel_rfl) ?_
      refine AV.take 4 #[true, true, true, true, true, false, false, false, false, false, false, false, false, false] rfl (by kernel_rfl) (by kernel_rfl) (by kernel_rfl) (fun _ _ _ h => h) gno (Step.fieldAddr rfl (F70_0 _ _)) rfl (fun _ h => h.sel [2] rfl) (by kernel_rfl) ?_
      refine AV.take 5 #[true, true, true, true, true, true, false, false, false, false, false, false, false, false] rfl (by kernel_rfl) (by kernel_rfl) (by kernel_rfl) (fun _ _ _ h => h) gno (Step.load Try.underlying3 rfl rfl (fun w h => h.cell 0 rfl rfl)) rfl (fun _ h => h.sel [2] rfl) (by kernel_rfl) ?_
      refine AV.take 8 #[true, true, true, true, true, true, false, false, true, false, false, false, false, false] rfl (by kernel_rfl) (by kernel_rfl) (by kernel_rfl) (fun _ _ _ h => h) gno (Step.fieldAddr rfl (F70_1 _ _)) rfl (fun _ h => h.sel [2] rfl) (by kernel_rfl) ?_
      refine AV.take 9 #[true, true, true, true, true, true, false, false, true, true, false, false, false, false] rfl (by kernel_rfl) (by kernel_rfl) (by kernel_rfl) (fun _ _ _ h => h) gno (Step.load Try.underlying3 rfl rfl (fun w h => h.cell 0 rfl rfl)) rfl (fun _ h => h.sel [2] rfl) (by kernel_rfl) ?_
      refine AV.all [6, 10] (by kernel_rfl) (by decide) ?_
      refine ⟨⟨_, rfl, ?_⟩, ⟨⟨_, rfl, ?_⟩, trivial⟩⟩
      · -- 6 comes up
        refine OV.step gno (Step.idx Try.underlying82 I57 (fun w h => h.os 0 rfl) rfl rfl (by omega) _ rfl (by omega)) rfl ?_
        refine AV.next #[true, true, true, true, true, true, true, false, true, true, false, false, false, false] (by kernel_rfl) (fun _ h => h.sel [2] rfl) ?_
        refine AV.all [7, 10] (by kernel_rfl) (by decide) ?_
        refine ⟨⟨_, rfl, ?_⟩, ⟨⟨_, rfl, ?_⟩, trivial⟩⟩
        · -- 7 comes up
          refine OV.step gno (Step.load Try.underlying57 rfl rfl (fun w h => (h.os 0 rfl).cell0 (by omega) rfl)) rfl ?_
          refine AV.next #[true, true, true, true, true, true, true, true, true, true, false, false, false, false] (by kernel_rfl) (fun _ h => h.sel [2] rfl) ?_
          refine AV.all [10] (by kernel_rfl) (by decide) ?_
          refine ⟨⟨_, rfl, ?_⟩, trivial⟩
          · -- 10 comes up
            refine OV.buildSlice (K := (intK .i64)) ([_]) rfl (Bs57_1_0 _) rfl rfl (by omega) gno rfl (fun b7_10 => ?_)
            refine AV.next #[true, true, true, true, true, true, true, true, true, true, true, false, false, false] (by kernel_rfl) (fun _ h => h.sel [2] rfl) ?_
            refine AV.all [11] (by kernel_rfl) (by decide) ?_
            refine ⟨⟨_, rfl, ?_⟩, trivial⟩
            · -- 11 comes up
              refine OV.heap (fun w h => h.focus (k := 1) (m := s) hdK.d rfl (by omega)) ?_
              refine OV.append 1 Try.underlying57 I3 rfl rfl rfl rfl rfl rfl (fun w h => h.os 3 rfl) (by simp only [List.length_cons, List.length_nil]; omega) (by simp only [List.length_cons, List.length_nil]; omega) gno rfl (fun A2 c2 => ?_)
              refine AV.next #[true, true, true, true, true, true, true, true, true, true, true, true, false, false] (by kernel_rfl) (fun _ h => h.sel [2] rfl) ?_
              refine AV.all [12] (by kernel_rfl) (by decide) ?_
              refine ⟨⟨_, rfl, ?_⟩, trivial⟩
              · -- 12 comes up
                refine OV.step gno (Step.idx Try.underlying82 I57 (fun w h => h.os 0 rfl) rfl rfl (by omega) _ rfl (by omega)) rfl ?_
                refine AV.next #[true, true, true, true, true, true, true, true, true, true, true, true, true, false] (by kernel_rfl) (fun _ h => h.sel [2] rfl) ?_
                refine AV.all [13] (by kernel_rfl) (by decide) ?_
                refine ⟨⟨_, rfl, ?_⟩, trivial⟩
                · -- 13 comes up
                  refine OV.storeE 0 (s) (⟨A2, c2, _⟩) (j := 0) [_] I57 rfl rfl rfl rfl rfl rfl (by omega) rfl (Nat.le_of_ble_eq_true rfl) gno ?_
                  refine KV.sel [0, 0, 0, 1] [_, _, _, _] rfl ?_
                  refine KV.heap (fun w h => Hp.unfocus (L := [_, _, _]) (k := 1) (hs := hs) (m := s) (h' := ⟨A2, c2, _⟩) h rfl (by omega)) ?_
                  refine AV.next #[true, true, true, true, true, true, true, true, true, true, true, true, true, true] (by kernel_rfl) (fun _ h => h.sel [2] rfl) ?_
                  refine AV.done (by kernel_rfl) ?_
                  refine KV.block_n ?_
                  refine KV.then_n ?_
                  refine KV.env [(2, _), (7, _), (12, _), (13, _), (14, _)] ⟨rfl, rfl, rfl, rfl, rfl, trivial⟩ ?_
                  -- region 8 depgraph.go:139
                  refine CV.region ?_
                  (first | refine RV.op (OV.step gno (Step.add rfl rfl (wI64 (by omega) (by omega))) rfl ?_) | refine RV.op (OV.step gno (Step.add rfl rfl rfl) rfl ?_))
                  refine RV.op (OV.step gno (Step.move rfl) rfl ?_)
                  refine RV.nil ?_
                  refine KV.then_n ?_
                  refine KV.env [(2, _), (7, _), (12, _), (13, _), (14, _)] ⟨rfl, rfl, rfl, rfl, rfl, trivial⟩ ?_
                  refine KV.sel [0, 0] [_, _] rfl ?_
                  refine KV.loop2 (y := hs) (j + 1) (hs.set s ⟨A2, c2, _⟩) ⟨by omega, by rw [List.length_set]; exact hj.2.1, nb_step (by omega) hj.2.2 hj.2.1 (by omega) (by rw [cc1]; exact hs2) (by rw [cc1]; rfl)⟩ (by omega) ⟨rfl, rfl, rfl, rfl, rfl, trivial⟩ (fun _ h => h)
        · -- 10 comes up
          refine OV.buildSlice (K := (intK .i64)) ([_]) rfl (Bs57_1_0 _) rfl rfl (by omega) gno rfl (fun b7_10 => ?_)
          refine AV.next #[true, true, true, true, true, true, true, false, true, true, true, false, false, false] (by kernel_rfl) (fun _ h => h.sel [2] rfl) ?_
          refine AV.all [7] (by kernel_rfl) (by decide) ?_
          refine ⟨⟨_, rfl, ?_⟩, trivial⟩
          · -- 7 comes up
            refine OV.step gno (Step.load Try.underlying57 rfl rfl (fun w h => (h.os 0 rfl).cell0 (by omega) rfl)) rfl ?_
            refine AV.next #[true, true, true, true, true, true, true, true, true, true, true, false, false, false] (by kernel_rfl) (fun _ h => h.sel [2] rfl) ?_
            refine AV.all [11] (by kernel_rfl) (by decide) ?_
            refine ⟨⟨_, rfl, ?_⟩, trivial⟩
            · -- 11 comes up
              refine OV.heap (fun w h => h.focus (k := 1) (m := s) hdK.d rfl (by omega)) ?_
              refine OV.append 1 Try.underlying57 I3 rfl rfl rfl rfl rfl rfl (fun w h => h.os 3 rfl) (by simp only [List.length_cons, List.length_nil]; omega) (by simp only [List.length_cons, List.length_nil]; omega) gno rfl (fun A2 c2 => ?_)
              refine AV.next #[true, true, true, true, true, true, true, true, true, true, true, true, false, false] (by kernel_rfl) (fun _ h => h.sel [2] rfl) ?_
              refine AV.all [12] (by kernel_rfl) (by decide) ?_
              refine ⟨⟨_, rfl, ?_⟩, trivial⟩
              · -- 12 comes up
                refine OV.step gno (Step.idx Try.underlying82 I57 (fun w h => h.os 0 rfl) rfl rfl (by omega) _ rfl (by omega)) rfl ?_
                refine AV.next #[true, true, true, true, true, true, true, true, true, true, true, true, true, false] (by kernel_rfl) (fun _ h => h.sel [2] rfl) ?_
                refine AV.all [13] (by kernel_rfl) (by decide) ?_
                refine ⟨⟨_, rfl, ?_⟩, trivial⟩
                · -- 13 comes up
                  refine OV.storeE 0 (s) (⟨A2, c2, _⟩) (j := 0) [_] I57 rfl rfl rfl rfl rfl rfl (by omega) rfl (Nat.le_of_ble_eq_true rfl) gno ?_
                  refine KV.sel [0, 0, 0, 1] [_, _, _, _] rfl ?_
                  refine KV.heap (fun w h => Hp.unfocus (L := [_, _, _]) (k := 1) (hs := hs) (m := s) (h' := ⟨A2, c2, _⟩) h rfl (by omega)) ?_
                  refine AV.next #[true, true, true, true, true, true, true, true, true, true, true, true, true, true] (by kernel_rfl) (fun _ h => h.sel [2] rfl) ?_
                  refine AV.done (by kernel_rfl) ?_
                  refine KV.block_n ?_
                  refine KV.then_n ?_
                  refine KV.env [(2, _), (7, _), (12, _), (13, _), (14, _)] ⟨rfl, rfl, rfl, rfl, rfl, trivial⟩ ?_
                  -- region 8 depgraph.go:139
                  refine CV.region ?_
                  (first | refine RV.op (OV.step gno (Step.add rfl rfl (wI64 (by omega) (by omega))) rfl ?_) | refine RV.op (OV.step gno (Step.add rfl rfl rfl) rfl ?_))
                  refine RV.op (OV.step gno (Step.move rfl) rfl ?_)
                  refine RV.nil ?_
                  refine KV.then_n ?_
                  refine KV.env [(2, _), (7, _), (12, _), (13, _), (14, _)] ⟨rfl, rfl, rfl, rfl, rfl, trivial⟩ ?_
                  refine KV.sel [0, 0] [_, _] rfl ?_
                  refine KV.loop2 (y := hs) (j + 1) (hs.set s ⟨A2, c2, _⟩) ⟨by omega, by rw [List.length_set]; exact hj.2.1, nb_step (by omega) hj.2.2 hj.2.1 (by omega) (by rw [cc1]; exact hs2) (by rw [cc1]; rfl)⟩ (by omega) ⟨rfl, rfl, rfl, rfl, rfl, trivial⟩ (fun _ h => h)
      · -- 10 comes up
        refine OV.buildSlice (K := (intK .i64)) ([_]) rfl (Bs57_1_0 _) rfl rfl (by omega) gno rfl (fun b7_10 => ?_)
        refine AV.next #[true, true, true, true, true, true, false, false, true, true, true, false, false, false] (by kernel_rfl) (fun _ h => h.sel [2] rfl) ?_
        refine AV.all [6] (by kernel_rfl) (by decide) ?_
        refine ⟨⟨_, rfl, ?_⟩, trivial⟩
        · -- 6 comes up
          refine OV.step gno (Step.idx Try.underlying82 I57 (fun w h => h.os 0 rfl) rfl rfl (by omega) _ rfl (by omega)) rfl ?_
          refine AV.next #[true, true, true, true, true, true, true, false, true, true, true, false, false, false] (by kernel_rfl) (fun _ h => h.sel [2] rfl) ?_
          refine AV.all [7] (by kernel_rfl) (by decide) ?_
          refine ⟨⟨_, rfl, ?_⟩, trivial⟩
          · -- 7 comes up
            refine OV.step gno (Step.load Try.underlying57 rfl rfl (fun w h => (h.os 0 rfl).cell0 (by omega) rfl)) rfl ?_
            refine AV.next #[true, true, true, true, true, true, true, true, true, true, true, false, false, false] (by kernel_rfl) (fun _ h => h.sel [2] rfl) ?_
            refine AV.all [11] (by kernel_rfl) (by decide) ?_
            refine ⟨⟨_, rfl, ?_⟩, trivial⟩
            · -- 11 comes up
              refine OV.heap (fun w h => h.focus (k := 1) (m := s) hdK.d rfl (by omega)) ?_
              refine OV.append 1 Try.underlying57 I3 rfl rfl rfl rfl rfl rfl (fun w h => h.os 3 rfl) (by simp only [List.length_cons, List.length_nil]; omega) (by simp only [List.length_cons, List.length_nil]; omega) gno rfl (fun A2 c2 => ?_)
              refine AV.next #[true, true, true, true, true, true, true, true, true, true, true, true, false, false] (by kernel_rfl) (fun _ h => h.sel [2] rfl) ?_
              refine AV.all [12] (by kernel_rfl) (by decide) ?_
              refine ⟨⟨_, rfl, ?_⟩, trivial⟩
              · -- 12 comes up
                refine OV.step gno (Step.idx Try.underlying82 I57 (fun w h => h.os 0 rfl) rfl rfl (by omega) _ rfl (by omega)) rfl ?_
                refine AV.next #[true, true, true, true, true, true, true, true, true, true, true, true, true, false] (by kernel_rfl) (fun _ h => h.sel [2] rfl) ?_
                refine AV.all [13] (by kernel_rfl) (by decide) ?_
                refine ⟨⟨_, rfl, ?_⟩, trivial⟩
                · -- 13 comes up
                  refine OV.storeE 0 (s) (⟨A2, c2, _⟩) (j := 0) [_] I57 rfl rfl rfl rfl rfl rfl (by omega) rfl (Nat.le_of_ble_eq_true rfl) gno ?_
                  refine KV.sel [0, 0, 0, 1] [_, _, _, _] rfl ?_
                  refine KV.heap (fun w h => Hp.unfocus (L := [_, _, _]) (k := 1) (hs := hs) (m := s) (h' := ⟨A2, c2, _⟩) h rfl (by omega)) ?_
                  refine AV.next #[true, true, true, true, true, true, true, true, true, true, true, true, true, true] (by kernel_rfl) (fun _ h => h.sel [2] rfl) ?_
                  refine AV.done (by kernel_rfl) ?_
                  refine KV.block_n ?_
                  refine KV.then_n ?_
                  refine KV.env [(2, _), (7, _), (12, _), (13, _), (14, _)] ⟨rfl, rfl, rfl, rfl, rfl, trivial⟩ ?_
                  -- region 8 depgraph.go:139
                  refine CV.region ?_
                  (first | refine RV.op (OV.step gno (Step.add rfl rfl (wI64 (by omega) (by omega))) rfl ?_) | refine RV.op (OV.step gno (Step.add rfl rfl rfl) rfl ?_))
                  refine RV.op (OV.step gno (Step.move rfl) rfl ?_)
                  refine RV.nil ?_
                  refine KV.then_n ?_
                  refine KV.env [(2, _), (7, _), (12, _), (13, _), (14, _)] ⟨rfl, rfl, rfl, rfl, rfl, trivial⟩ ?_
                  refine KV.sel [0, 0] [_, _] rfl ?_
                  refine KV.loop2 (y := hs) (j + 1) (hs.set s ⟨A2, c2, _⟩) ⟨by omega, by rw [List.length_set]; exact hj.2.1, nb_step (by omega) hj.2.2 hj.2.1 (by omega) (by rw [cc1]; exact hs2) (by rw [cc1]; rfl)⟩ (by omega) ⟨rfl, rfl, rfl, rfl, rfl, trivial⟩ (fun _ h => h)
  · -- False
    obtain rfl : j = links.length := by omega
    rw [List.take_length] at hj
    refine RV.nil ?_
    refine KV.then_n ?_
    refine KV.env [(2, _), (7, _), (12, _), (13, _), (14, _), (15, _)] ⟨rfl, rfl, rfl, rfl, rfl, rfl, trivial⟩ ?_
    refine CV.seq ?_
    refine CV.cond_f rfl ?_
    refine CV.exit ?_
    refine KV.then_exit ?_
    refine KV.then_exit ?_
    refine KV.block_hit ?_
    refine KV.then_n ?_
    refine KV.env [(7, _)] ⟨rfl, trivial⟩ ?_
    refine CV.seq ?_
    -- region 9 depgraph.go:146
    refine CV.region ?_
    refine RV.op (OV.step gno (Step.move rfl) rfl ?_)
    refine RV.op (OV.step gno (Step.assign rfl) rfl ?_)
    refine RV.nil ?_
    refine KV.then_n ?_
    refine KV.env [(6, _)] ⟨rfl, trivial⟩ ?_
    refine CV.ret ?_
    -- return at r9
    refine KV.sel [0, 0] [_, _] rfl ?_
    exact KV.ret1 rfl rfl _ (fun _ h => h) ⟨_, _, hs, rfl, rfl, hj.2.1, hj.2.2⟩

set_option maxRecDepth 100000 in
set_option maxHeartbeats 1000000 in
theorem sequence_fn {A : Option Addr} {c : Nat} {links : List Link} (n : Nat) {w : World} (hr : RS w linkK A links) (hl : links.length ≤ 1024) (hn : n ≤ 128) (hok : ∀ i, i < links.length → okL n (links.getD i linkK.d)) : Fx Try.prog 44 [.int .i64 n, .slice A links.length c] w [] no (fun v L => ∃ A2 c2, v = .slice A2 (seqM n links).length c2 ∧ L = [OS 3 (intK .i64) A2 c2 (seqM n links)]) := by
  refine Sv.Fx.body Try.func44 rfl T44 rfl ?_
  intro I hro hI
  refine KV.env [(0, _), (1, _)] ⟨rfl, rfl, trivial⟩ ?_
  refine CV.seq ?_
  -- region 0 depgraph.go:150
  refine CV.region ?_
  refine RV.op (OV.step gno (Step.assign rfl) rfl ?_)
  refine RV.nil ?_
  refine KV.then_n ?_
  refine KV.env [(0, _), (1, _)] ⟨rfl, rfl, trivial⟩ ?_
  refine CV.seq ?_
  -- region 1 depgraph.go:151
  refine CV.region ?_
  refine RV.op (OV.step gno (Step.move rfl) rfl ?_)
  refine RV.op (OV.step gno (Step.move rfl) rfl ?_)
  refine RV.op (OV.call [] (F := []) Try.func49 B49 N49 rfl rfl (fun w h => neighbors_fn n true (h.rs hr (fun _ => hI _)) hl hn hok) (fun _ hb => hb.elim) gno rfl (fun v L' hp => ?_))
  obtain ⟨A1, c1, hs, rfl, rfl, hhl, hnb⟩ := hp
  refine RV.op (OV.step gno (Step.assign rfl) rfl ?_)
  refine RV.nil ?_
  refine KV.then_n ?_
  refine KV.env [(0, _), (1, _), (5, _)] ⟨rfl, rfl, rfl, trivial⟩ ?_
  refine CV.seq ?_
  -- region 2 depgraph.go:152
  refine CV.region ?_
  refine RV.op (OV.step gno (Step.move rfl) rfl ?_)
  refine RV.op (OV.make (K := intK .i64) (n) (n) (0) Try.underlying57 I3 rfl rfl rfl rfl rfl (by omega) (by omega) (by omega) gno rfl (fun A2 => ?_))
  refine RV.op (OV.step gno (Step.assign rfl) rfl ?_)
  refine RV.nil ?_
  refine KV.then_n ?_
  refine KV.env [(0, _), (1, _), (5, _), (6, _)] ⟨rfl, rfl, rfl, rfl, trivial⟩ ?_
  refine CV.seq ?_
  refine CV.seq ?_
  -- region 3 depgraph.go:153
  refine CV.region ?_
  refine RV.op (OV.step gno (Step.move rfl) rfl ?_)
  refine RV.op (OV.step gno (Step.lenSl Try.underlying68 rfl) rfl ?_)
  refine RV.op (OV.step gno (Step.move rfl) rfl ?_)
  refine RV.nil ?_
  refine KV.then_n ?_
  refine KV.env [(0, _), (5, _), (6, _), (18, _), (19, _), (20, _)] ⟨rfl, rfl, rfl, rfl, rfl, rfl, trivial⟩ ?_
  refine CV.block ?_
  -- loop L4; live [0, 5, 6, 18, 19, 20]
  refine KV.sel [0, 0, 0] [_, _, _] rfl ?_
  refine CV.loop2 (fun j (ms : List Int) => j ≤ links.length ∧ ms.length = n ∧ ∀ i, i < n → ms.getD i 0 = msM (links.take j) i) (fun j _ => links.length - j) (fun j _ => [(0, .int .i64 n), (5, .slice A1 n c1), (6, .slice A2 n n), (18, .slice A links.length c), (19, .int .i64 links.length), (20, .int .i64 j)]) (fun _ ms => Hp I w [OS 57 hdK A1 c1 hs, Big hdF hs, OS 3 (intK .i64) A2 n ms]) 0 (List.replicate n 0) ⟨Nat.zero_le _, by simp, fun s hs => by simp [List.getD, hs, msM]⟩ ⟨rfl, rfl, rfl, rfl, rfl, rfl, trivial⟩ (fun _ h => h) ?_
  intro j ms hj
  refine CV.seq ?_
  -- region 4 depgraph.go:153
  refine CV.region ?_
  refine RV.op (OV.split gno (Step.lss rfl rfl) rfl (fun hlt2 => ?_) (fun hlt2 => ?_))
  · -- True
    refine RV.nil ?_
    refine KV.then_n ?_
    refine KV.env [(0, _), (5, _), (6, _), (18, _), (19, _), (20, _), (21, _)] ⟨rfl, rfl, rfl, rfl, rfl, rfl, rfl, trivial⟩ ?_
    refine CV.seq ?_
    refine CV.cond_t rfl ?_
    refine CV.skip ?_
    refine KV.then_n ?_
    refine KV.env [(0, _), (5, _), (6, _), (18, _), (19, _), (20, _)] ⟨rfl, rfl, rfl, rfl, rfl, rfl, trivial⟩ ?_
    refine CV.seq ?_
    refine CV.block ?_
    refine CV.seq ?_
    -- region 5 depgraph.go:153
    refine CV.region ?_
    refine RV.op (OV.step gno (Step.idx Try.underlying68 I70 (fun w h => h.rs hr (fun _ => hI _)) rfl rfl (by first | rfl | omega | (rw [decs_length, List.length_set]; omega)) _ rfl (by first | omega | (rw [decs_length, List.length_set]; omega))) rfl ?_)
    refine RV.op (OV.step gno (Step.loadN _ Try.underlying70 rfl I70 rfl rfl (fun w h => (h.rs hr (fun _ => hI _)).cells (by first | omega | (rw [decs_length, List.length_set]; omega)))) rfl ?_)
    refine RV.op (OV.alloc #[.int .i64 0, .int .i64 0] I70 rfl gno rfl (fun b5_2 => ?_))
    refine RV.op (OV.store 3 [_, _] #[_, _] I70 rfl rfl rfl rfl rfl (Nat.le_of_ble_eq_true rfl) (by simp [Value.oneCell']) rfl gno ?_)
    refine RV.nil ?_
    refine KV.then_n ?_
    refine KV.env [(0, _), (5, _), (6, _), (8, _), (18, _), (19, _), (20, _)] ⟨rfl, rfl, rfl, rfl, rfl, rfl, rfl, trivial⟩ ?_
    -- region 6 depgraph.go:154
    obtain ⟨i, hi2⟩ := Int.eq_ofNat_of_zero_le (hok j (by omega)).1.1
    have hi3 := (hok j (by omega)).1.2
    rw [hi2]
    rw [hi2] at hi3
    have hb2 := msM_take_le links i j
    rw [← hj.2.2 i (by omega)] at hb2
    have hb3 : ms.getD i (intK .i64).d = ms.getD i 0 := rfl
    rw [← hb3] at hb2
    refine CV.region ?_
    refine RV.op (OV.step gno (Step.move rfl) rfl ?_)
    refine RV.op (OV.step gno (Step.fieldAddr rfl (F70_0 _ _)) rfl ?_)
    (first | refine RV.op (OV.step gno (Step.load Try.underlying3 rfl rfl (fun w h => h.cell 3 rfl rfl)) rfl ?_) | refine RV.op (OV.step gno (Step.load Try.underlying3 rfl rfl (fun w h => (h.rs hr (fun _ => hI _)).cell (by first | omega | (rw [decs_length, List.length_set]; omega)) rfl)) rfl ?_) | refine RV.op (OV.step gno (Step.load Try.underlying3 rfl rfl (fun w h => (h.rs hr (fun _ => hI _)).cell0 (by first | omega | (rw [decs_length, List.length_set]; omega)) rfl)) rfl ?_))
    refine RV.op (OV.step gno (Step.idx Try.underlying57 I3 (fun w h => h.os 2 rfl) rfl rfl (by first | rfl | omega | (rw [decs_length, List.length_set]; omega)) _ rfl (by first | omega | (rw [decs_length, List.length_set]; omega))) rfl ?_)
    refine RV.op (OV.step gno (Step.load Try.underlying3 rfl rfl (fun w h => (h.os 2 rfl).cell0 (by omega) rfl)) rfl ?_)
    (first | refine RV.op (OV.step gno (Step.add rfl rfl (wI64 (by omega) (by omega))) rfl ?_) | refine RV.op (OV.step gno (Step.add rfl rfl rfl) rfl ?_))
    refine RV.op (OV.step gno (Step.idx Try.underlying57 I3 (fun w h => h.os 2 rfl) rfl rfl (by first | rfl | omega | (rw [decs_length, List.length_set]; omega)) _ rfl (by first | omega | (rw [decs_length, List.length_set]; omega))) rfl ?_)
    refine RV.op (OV.storeE 2 (i) (_) (j := 0) [_] I3 rfl rfl rfl rfl rfl rfl (by omega) rfl (Nat.le_of_ble_eq_true rfl) gno ?_)
    refine RV.nil ?_
    refine KV.block_n ?_
    refine KV.then_n ?_
    refine KV.env [(0, _), (5, _), (6, _), (18, _), (19, _), (20, _)] ⟨rfl, rfl, rfl, rfl, rfl, rfl, trivial⟩ ?_
    -- region 7 depgraph.go:153
    refine CV.region ?_
    (first | refine RV.op (OV.step gno (Step.add rfl rfl (wI64 (by omega) (by omega))) rfl ?_) | refine RV.op (OV.step gno (Step.add rfl rfl rfl) rfl ?_))
    refine RV.op (OV.step gno (Step.move rfl) rfl ?_)
    refine RV.nil ?_
    refine KV.then_n ?_
    refine KV.env [(0, _), (5, _), (6, _), (18, _), (19, _), (20, _)] ⟨rfl, rfl, rfl, rfl, rfl, rfl, trivial⟩ ?_
    refine KV.sel [0, 0, 0] [_, _, _] rfl ?_
    refine KV.loop2 (y := ms) (j + 1) (ms.set i (ms.getD i 0 + 1)) ⟨by omega, by rw [List.length_set]; exact hj.2.1, ms_step (by omega) hj.2.2 hj.2.1 (by omega) hi2⟩ (by omega) ⟨rfl, rfl, rfl, rfl, rfl, rfl, trivial⟩ (fun _ h => h)
  · -- False
    obtain rfl : j = links.length := by omega
    rw [List.take_length] at hj
    refine RV.nil ?_
    refine KV.then_n ?_
    refine KV.env [(0, _), (5, _), (6, _), (18, _), (19, _), (20, _), (21, _)] ⟨rfl, rfl, rfl, rfl, rfl, rfl, rfl, trivial⟩ ?_
    refine CV.seq ?_
    refine CV.cond_f rfl ?_
    refine CV.exit ?_
    refine KV.then_exit ?_
    refine KV.then_exit ?_
    refine KV.block_hit ?_
    refine KV.then_n ?_
    refine KV.env [(0, _), (5, _), (6, _)] ⟨rfl, rfl, rfl, trivial⟩ ?_
    refine CV.seq ?_
    -- region 8 depgraph.go:156
    refine CV.region ?_
    refine RV.op (OV.step gno (Step.move rfl) rfl ?_)
    refine RV.op (OV.make (K := intK .i64) (0) (n) (0) Try.underlying57 I3 rfl rfl rfl rfl rfl (by omega) (by omega) (by omega) gno rfl (fun A3 => ?_))
    refine RV.op (OV.step gno (Step.assign rfl) rfl ?_)
    refine RV.nil ?_
    refine KV.then_n ?_
    refine KV.env [(5, _), (6, _), (9, _)] ⟨rfl, rfl, rfl, trivial⟩ ?_
    refine CV.block ?_
    -- loop L9; live [5, 6, 9]
    refine KV.sel [0, 0, 0, 0] [_, _, _, _] rfl ?_
    obtain rfl : ms = ms0 n links := ms0_of hj.2.1 hj.2.2
    refine CV.loop2 (fun (ms : List Int) (o : Hd) => ms.length = n ∧ nnn ms n + o.ys.length ≤ n ∧ (∀ i, i < n → ms.getD i 0 ≤ 1024 ∧ -(2000 * (o.ys.length : Int)) ≤ ms.getD i 0) ∧ seqRun (nbM links true) n (nnn ms n) ms o.ys = seqM n links) (fun ms _ => nnn ms n) (fun ms o => [(5, .slice A1 n c1), (6, .slice A2 n n), (9, .slice o.A o.ys.length o.c)]) (fun ms o => Hp I w [OS 57 hdK A1 c1 hs, Big hdF hs, OS 3 (intK .i64) A2 n ms, OS 3 (intK .i64) o.A o.c o.ys]) (ms0 n links) ⟨A3, n, []⟩ ⟨hj.2.1, by have := nnn_bound (ms0 n links) n; simp; omega, fun i hi => by rw [hj.2.2 i hi]; have := msM_le links i; simp; omega, rfl⟩ ⟨rfl, rfl, rfl, trivial⟩ (fun _ h => h) ?_
    intro ms o hm
    refine CV.block ?_
    refine CV.seq ?_
    -- region 9 depgraph.go:158
    refine CV.region ?_
    refine RV.op (OV.step gno (Step.move rfl) rfl ?_)
    refine RV.op (OV.call [] (F := [_, _, _, _]) Try.func50 B50 N50 rfl rfl (fun w h => index_fn 0 (h.os 2 rfl) (by omega) hm.1.symm) (fun _ hb => hb.elim) gno rfl (fun v L' hp => ?_))
    obtain ⟨rfl, rfl⟩ := hp
    simp only [List.append_nil]
    refine RV.op (OV.step gno (Step.assign rfl) rfl ?_)
    refine RV.nil ?_
    refine KV.then_n ?_
    refine KV.env [(5, _), (6, _), (9, _), (10, _)] ⟨rfl, rfl, rfl, rfl, trivial⟩ ?_
    refine CV.seq ?_
    refine CV.seq ?_
    -- region 10 depgraph.go:159
    refine CV.region ?_
    refine RV.op (OV.step gno (Step.move rfl) rfl ?_)
    refine RV.op (OV.split gno (Step.lss rfl rfl) rfl (fun hq => ?_) (fun hq => ?_))
    · -- True
      have hq2 : idxM 0 ms ms.length = -1 := by by_cases e : idxM 0 ms ms.length = -1; exact e; obtain ⟨i, e1, _⟩ := idxM_some e; omega
      refine RV.nil ?_
      refine KV.then_n ?_
      refine KV.env [(5, _), (6, _), (9, _), (10, _), (37, _)] ⟨rfl, rfl, rfl, rfl, rfl, trivial⟩ ?_
      refine CV.cond_t rfl ?_
      refine CV.seq ?_
      -- region 11 depgraph.go:160
      refine CV.region ?_
      refine RV.op (OV.step gno (Step.move rfl) rfl ?_)
      refine RV.op (OV.step gno (Step.assign rfl) rfl ?_)
      refine RV.nil ?_
      refine KV.then_n ?_
      refine KV.env [(4, _)] ⟨rfl, trivial⟩ ?_
      refine CV.ret ?_
      refine KV.then_ret ?_
      refine KV.block_ret ?_
      refine KV.then_ret ?_
      refine KV.block_ret ?_
      -- return at r11
      refine KV.sel [3] [_] rfl ?_
      rw [hm.1] at hq2
      rw [← hm.2.2.2, seqRun_end hq2]
      exact KV.ret1 rfl rfl _ (fun _ h => h) ⟨_, _, rfl, rfl⟩
    · -- False
      obtain ⟨i, e1, e2, e3, e4⟩ := idxM_some (x := 0) (ms := ms) (k := ms.length) (by omega)
      rw [e1]
      rw [hm.1] at e1 e2
      have hnl := hl
      have hyl : (hs.getD i hdK.d).ys.length ≤ 1024 := by rw [hnb i e2]; exact Nat.le_trans (nbM_length _ _ _) hl
      have hole : o.ys.length ≤ 128 := by have := hm.2.1; omega
      refine RV.nil ?_
      refine KV.then_n ?_
      refine KV.env [(5, _), (6, _), (9, _), (10, _), (37, _)] ⟨rfl, rfl, rfl, rfl, rfl, trivial⟩ ?_
      refine CV.cond_f rfl ?_
      refine CV.skip ?_
      refine KV.then_n ?_
      refine KV.env [(5, _), (6, _), (9, _), (10, _)] ⟨rfl, rfl, rfl, rfl, trivial⟩ ?_
      refine CV.seq ?_
      -- region 12 depgraph.go:162
      refine CV.region ?_
      refine RV.op (OV.step gno (Step.move rfl) rfl ?_)
      refine RV.op (OV.step gno (Step.move rfl) rfl ?_)
      refine RV.op (OV.step gno (Step.idx Try.underlying57 I3 (fun w h => h.os 2 rfl) rfl rfl (by first | rfl | omega | (rw [decs_length, List.length_set]; omega)) _ rfl (by first | omega | (rw [decs_length, List.length_set]; omega))) rfl ?_)
      refine RV.op (OV.storeE 2 (i) (_) (j := 0) [_] I3 rfl rfl rfl rfl rfl rfl (by omega) rfl (Nat.le_of_ble_eq_true rfl) gno ?_)
      refine RV.nil ?_
      refine KV.then_n ?_
      refine KV.env [(5, _), (6, _), (9, _), (10, _)] ⟨rfl, rfl, rfl, rfl, trivial⟩ ?_
      refine CV.seq ?_
      -- region 13 depgraph.go:163
      refine CV.region ?_
      refine RV.op (OV.step gno (Step.move rfl) rfl ?_)
      refine RV.op (OV.step gno (Step.move rfl) rfl ?_)
      refine RV.op (OV.buildSlice (K := (intK .i64)) ([_]) rfl (Bs57_1_0 _) rfl rfl (by omega) gno rfl (fun b13_2 => ?_))
      refine RV.op (OV.append 3 Try.underlying57 I3 rfl rfl rfl rfl rfl rfl (fun w h => h.os 4 rfl) (by simp only [List.length_cons, List.length_nil]; omega) (by simp only [List.length_cons, List.length_nil]; omega) gno rfl (fun b13_3a b13_3c => ?_))
      refine RV.op (OV.step gno (Step.assign rfl) rfl ?_)
      refine RV.nil ?_
      refine KV.then_n ?_
      refine KV.env [(5, _), (6, _), (9, _), (10, _)] ⟨rfl, rfl, rfl, rfl, trivial⟩ ?_
      refine CV.seq ?_
      -- region 14 depgraph.go:164
      refine CV.region ?_
      refine RV.op (OV.step gno (Step.move rfl) rfl ?_)
      refine RV.op (OV.step gno (Step.move rfl) rfl ?_)
      refine RV.op (OV.step gno (Step.idx Try.underlying82 I57 (fun w h => h.os 0 rfl) rfl rfl (by first | rfl | omega | (rw [decs_length, List.length_set]; omega)) _ rfl (by first | omega | (rw [decs_length, List.length_set]; omega))) rfl ?_)
      refine RV.op (OV.step gno (Step.load Try.underlying57 rfl rfl (fun w h => (h.os 0 rfl).cell0 (by omega) rfl)) rfl ?_)
      refine RV.op (OV.step gno (Step.lenSl Try.underlying57 rfl) rfl ?_)
      refine RV.op (OV.step gno (Step.move rfl) rfl ?_)
      refine RV.nil ?_
      refine KV.then_n ?_
      refine KV.env [(5, _), (6, _), (9, _), (49, _), (50, _), (51, _)] ⟨rfl, rfl, rfl, rfl, rfl, rfl, trivial⟩ ?_
      refine CV.block ?_
      -- loop L15; live [5, 6, 9, 49, 50, 51]
      refine KV.sel [0, 0, 0, 0] [_, _, _, _] rfl ?_
      refine CV.loopI (α := Nat) (fun k => k ≤ (hs.getD i hdK.d).ys.length) (fun k => (hs.getD i hdK.d).ys.length - k) (fun k => [(5, .slice A1 n c1), (6, .slice A2 n n), (9, .slice b13_3a (o.ys ++ [(i : Int)]).length b13_3c), (49, .slice (hs.getD i hdK.d).A (hs.getD i hdK.d).ys.length (hs.getD i hdK.d).c), (50, .int .i64 (hs.getD i hdK.d).ys.length), (51, .int .i64 k)]) (fun k => Hp I w [OS 57 hdK A1 c1 hs, Big hdF hs, OS 3 (intK .i64) A2 n (decs (ms.set i (-1)) (hs.getD i hdK.d).ys k), OS 3 (intK .i64) b13_3a b13_3c (o.ys ++ [(i : Int)])]) 0 (Nat.zero_le _) ⟨rfl, rfl, rfl, rfl, rfl, rfl, trivial⟩ (fun _ h => h) ?_
      intro k hk
      refine CV.seq ?_
      -- region 15 depgraph.go:164
      refine CV.region ?_
      refine RV.op (OV.split gno (Step.lss rfl rfl) rfl (fun hlk => ?_) (fun hlk => ?_))
      · -- True
        refine RV.nil ?_
        refine KV.then_n ?_
        refine KV.env [(5, _), (6, _), (9, _), (49, _), (50, _), (51, _), (52, _)] ⟨rfl, rfl, rfl, rfl, rfl, rfl, rfl, trivial⟩ ?_
        refine CV.seq ?_
        refine CV.cond_t rfl ?_
        refine CV.skip ?_
        refine KV.then_n ?_
        refine KV.env [(5, _), (6, _), (9, _), (49, _), (50, _), (51, _)] ⟨rfl, rfl, rfl, rfl, rfl, rfl, trivial⟩ ?_
        refine CV.seq ?_
        refine CV.block ?_
        refine CV.seq ?_
        -- region 16 depgraph.go:164
        refine CV.region ?_
        refine RV.op (OV.step gno (Step.idx Try.underlying57 I3 (fun w h => (h.bigOS (k := 1) (m := i) (G := fun b w => RS w (intK .i64) b.A b.ys) hdK.d rfl (by omega) hdRS)) rfl rfl (by first | rfl | omega | (rw [decs_length, List.length_set]; omega)) _ rfl (by first | omega | (rw [decs_length, List.length_set]; omega))) rfl ?_)
        refine RV.op (OV.step gno (Step.load Try.underlying3 rfl rfl (fun w h => (h.bigOS (k := 1) (m := i) (G := fun b w => RS w (intK .i64) b.A b.ys) hdK.d rfl (by omega) hdRS).cell0 (by omega) rfl)) rfl ?_)
        refine RV.op (OV.step gno (Step.assign rfl) rfl ?_)
        refine RV.nil ?_
        refine KV.then_n ?_
        refine KV.env [(5, _), (6, _), (9, _), (12, _), (49, _), (50, _), (51, _)] ⟨rfl, rfl, rfl, rfl, rfl, rfl, rfl, trivial⟩ ?_
        -- region 17 depgraph.go:165
        have hel := nbM_ok hok true i k (by rw [← hnb i e2]; omega)
        rw [← hnb i e2] at hel
        obtain ⟨e, he2⟩ := Int.eq_ofNat_of_zero_le hel.1
        have he3 : ((hs.getD i hdK.d).ys.getD k (intK .i64).d) = (e : Int) := he2
        rw [he3]
        rw [he2] at hel
        have hb2 := decs_getD_le (ms.set i (-1)) (hs.getD i hdK.d).ys k e
        have hb3 := (hm.2.2.1 e (by omega))
        have hb4 := set_bd (ms := ms) (i := i) (e := e) hb3
        have hb5 : (decs (ms.set i (-1)) (hs.getD i hdK.d).ys k).getD e (intK .i64).d = (decs (ms.set i (-1)) (hs.getD i hdK.d).ys k).getD e 0 := rfl
        rw [← hb5] at hb2
        refine CV.region ?_
        refine RV.op (OV.step gno (Step.move rfl) rfl ?_)
        refine RV.op (OV.step gno (Step.move rfl) rfl ?_)
        refine RV.op (OV.step gno (Step.idx Try.underlying57 I3 (fun w h => h.os 2 rfl) rfl rfl (by first | rfl | omega | (rw [decs_length, List.length_set]; omega)) _ rfl (by first | omega | (rw [decs_length, List.length_set]; omega))) rfl ?_)
        refine RV.op (OV.step gno (Step.load Try.underlying3 rfl rfl (fun w h => (h.os 2 rfl).cell0 (by rw [decs_length, List.length_set]; omega) rfl)) rfl ?_)
        (first | refine RV.op (OV.step gno (Step.sub rfl rfl (wI64 (by omega) (by omega))) rfl ?_) | refine RV.op (OV.step gno (Step.sub rfl rfl rfl) rfl ?_))
        refine RV.op (OV.step gno (Step.idx Try.underlying57 I3 (fun w h => h.os 2 rfl) rfl rfl (by first | rfl | omega | (rw [decs_length, List.length_set]; omega)) _ rfl (by first | omega | (rw [decs_length, List.length_set]; omega))) rfl ?_)
        refine RV.op (OV.storeE 2 (e) (_) (j := 0) [_] I3 rfl rfl rfl rfl rfl rfl (by (first | omega | (rw [decs_length, List.length_set]; omega))) rfl (Nat.le_of_ble_eq_true rfl) gno ?_)
        refine RV.nil ?_
        refine KV.block_n ?_
        refine KV.then_n ?_
        refine KV.env [(5, _), (6, _), (9, _), (49, _), (50, _), (51, _)] ⟨rfl, rfl, rfl, rfl, rfl, rfl, trivial⟩ ?_
        -- region 18 depgraph.go:164
        refine CV.region ?_
        (first | refine RV.op (OV.step gno (Step.add rfl rfl (wI64 (by omega) (by omega))) rfl ?_) | refine RV.op (OV.step gno (Step.add rfl rfl rfl) rfl ?_))
        refine RV.op (OV.step gno (Step.move rfl) rfl ?_)
        refine RV.nil ?_
        refine KV.then_n ?_
        refine KV.env [(5, _), (6, _), (9, _), (49, _), (50, _), (51, _)] ⟨rfl, rfl, rfl, rfl, rfl, rfl, trivial⟩ ?_
        refine KV.sel [0, 0, 0, 0] [_, _, _, _] rfl ?_
        refine KV.loopI (k + 1) (by omega) (by omega) ⟨rfl, rfl, rfl, rfl, rfl, rfl, trivial⟩ (fun _ h => by rw [decs, dec1, he2, Int.toNat_natCast]; exact h)
      · -- False
        obtain rfl : k = (hs.getD i hdK.d).ys.length := by omega
        refine RV.nil ?_
        refine KV.then_n ?_
        refine KV.env [(5, _), (6, _), (9, _), (49, _), (50, _), (51, _), (52, _)] ⟨rfl, rfl, rfl, rfl, rfl, rfl, rfl, trivial⟩ ?_
        refine CV.seq ?_
        refine CV.cond_f rfl ?_
        refine CV.exit ?_
        refine KV.then_exit ?_
        refine KV.then_exit ?_
        refine KV.block_hit ?_
        refine KV.block_n ?_
        refine KV.then_n ?_
        refine KV.env [(5, _), (6, _), (9, _)] ⟨rfl, rfl, rfl, trivial⟩ ?_
        refine KV.sel [0, 0, 0, 0] [_, _, _, _] rfl ?_
        refine KV.loop2 (y := o) (decs (ms.set i (-1)) (hs.getD i hdK.d).ys (hs.getD i hdK.d).ys.length) ⟨b13_3a, b13_3c, o.ys ++ [(i : Int)]⟩ ?_ ?_ ⟨rfl, rfl, rfl, trivial⟩ (fun _ h => h)
        · exact seq_inv hm hnl e1 e2 e3 (hnb i e2)
        · exact round_lt (nb := nbM links true) hm.1 e2 e3 _ _

set_option maxRecDepth 100000 in
set_option maxHeartbeats 1000000 in
theorem check_fn {A : Option Addr} {c : Nat} {links : List Link} (n : Nat) {w : World} (hr : RS w linkK A links) (hl : links.length ≤ 1000000) : Fx Try.prog 33 [.int .i64 n, .slice A links.length c] w [] no (fun v L => v = .int .i64 (chkM n links) ∧ L = []) := by
  refine Sv.Fx.body Try.func33 rfl T33 rfl ?_
  intro I hro hI
  refine KV.env [(0, _), (1, _)] ⟨rfl, rfl, trivial⟩ ?_
  refine CV.seq ?_
  -- region 0 depgraph.go:12
  refine CV.region ?_
  refine RV.op (OV.step gno (Step.assign rfl) rfl ?_)
  refine RV.nil ?_
  refine KV.then_n ?_
  refine KV.env [(0, _), (1, _)] ⟨rfl, rfl, trivial⟩ ?_
  refine CV.seq ?_
  refine CV.seq ?_
  -- region 1 depgraph.go:13
  refine CV.region ?_
  refine RV.op (OV.step gno (Step.move rfl) rfl ?_)
  refine RV.op (OV.step gno (Step.move rfl) rfl ?_)
  refine RV.op (OV.call [] (F := []) Try.func43 B43 N43 rfl rfl (fun w h => checkLinks_fn n (h.rs hr (fun _ => hI _)) hl) (fun _ hb => hb.elim) gno rfl (fun v L' hp => ?_))
  obtain ⟨rfl, rfl⟩ := hp
  simp only [List.append_nil]
  refine RV.op (OV.step gno (Step.assign rfl) rfl ?_)
  refine RV.nil ?_
  refine KV.then_n ?_
  refine KV.env [(0, _), (1, _), (5, _)] ⟨rfl, rfl, rfl, trivial⟩ ?_
  refine CV.seq ?_
  -- region 2 depgraph.go:13
  refine CV.region ?_
  refine RV.op (OV.step gno (Step.move rfl) rfl ?_)
  refine RV.op (OV.split gno (Step.neq rfl rfl) rfl (fun hc => ?_) (fun hc => ?_))
  · -- True
    refine RV.nil ?_
    refine KV.then_n ?_
    refine KV.env [(0, _), (1, _), (5, _), (10, _)] ⟨rfl, rfl, rfl, rfl, trivial⟩ ?_
    refine CV.cond_t rfl ?_
    refine CV.seq ?_
    -- region 3 depgraph.go:14
    refine CV.region ?_
    refine RV.op (OV.step gno (Step.move rfl) rfl ?_)
    refine RV.op (OV.step gno (Step.assign rfl) rfl ?_)
    refine RV.nil ?_
    refine KV.then_n ?_
    refine KV.env [(4, _)] ⟨rfl, trivial⟩ ?_
    refine CV.ret ?_
    refine KV.then_ret ?_
    -- return at r3
    refine KV.sel [] [] rfl ?_
    exact KV.ret1 rfl rfl _ (fun _ h => h) ⟨by rw [chkM, if_pos hc], rfl⟩
  · -- False
    have hcl := clM_zero (Decidable.not_not.1 hc)
    refine RV.nil ?_
    refine KV.then_n ?_
    refine KV.env [(0, _), (1, _), (5, _), (10, _)] ⟨rfl, rfl, rfl, rfl, trivial⟩ ?_
    refine CV.cond_f rfl ?_
    refine CV.skip ?_
    refine KV.then_n ?_
    refine KV.env [(0, _), (1, _)] ⟨rfl, rfl, trivial⟩ ?_
    refine CV.seq ?_
    refine CV.seq ?_
    -- region 4 depgraph.go:16
    refine CV.region ?_
    refine RV.op (OV.step gno (Step.move rfl) rfl ?_)
    refine RV.op (OV.step gno (Step.move rfl) rfl ?_)
    refine RV.op (OV.call [] (F := []) Try.func44 B44 N44 rfl rfl (fun w h => sequence_fn n (h.rs hr (fun _ => hI _)) hcl.2.1 hcl.1 hcl.2.2) (fun _ hb => hb.elim) gno rfl (fun v L' hp => ?_))
    obtain ⟨A2, c2, rfl, rfl⟩ := hp
    refine RV.op (OV.step gno (Step.lenSl Try.underlying57 rfl) rfl ?_)
    refine RV.op (OV.step gno (Step.move rfl) rfl ?_)
    refine RV.op (OV.split gno (Step.neq rfl rfl) rfl (fun hs => ?_) (fun hs => ?_))
    · -- True
      refine RV.nil ?_
      refine KV.then_n ?_
      refine KV.env [(17, _)] ⟨rfl, trivial⟩ ?_
      refine CV.cond_t rfl ?_
      refine CV.seq ?_
      -- region 5 depgraph.go:17
      refine CV.region ?_
      refine RV.op (OV.step gno (Step.assign rfl) rfl ?_)
      refine RV.nil ?_
      refine KV.then_n ?_
      refine KV.env [(4, _)] ⟨rfl, trivial⟩ ?_
      refine CV.ret ?_
      refine KV.then_ret ?_
      -- return at r5
      refine KV.sel [] [] rfl ?_
      exact KV.ret1 rfl rfl _ (fun _ h => h) ⟨by rw [chkM, if_neg hc, if_pos hs], rfl⟩
    · -- False
      refine RV.nil ?_
      refine KV.then_n ?_
      refine KV.env [(17, _)] ⟨rfl, trivial⟩ ?_
      refine CV.cond_f rfl ?_
      refine CV.skip ?_
      refine KV.then_n ?_
      refine KV.env [] trivial ?_
      refine CV.seq ?_
      -- region 6 depgraph.go:19
      refine CV.region ?_
      refine RV.op (OV.step gno (Step.assign rfl) rfl ?_)
      refine RV.nil ?_
      refine KV.then_n ?_
      refine KV.env [(4, _)] ⟨rfl, trivial⟩ ?_
      refine CV.ret ?_
      -- return at r6
      refine KV.sel [] [] rfl ?_
      exact KV.ret1 rfl rfl _ (fun _ h => h) ⟨by rw [chkM, if_neg hc, if_neg hs], rfl⟩
end Go.Proofs.Ytcmalbkflbfidaa
