/-
  Plain: the program's check of the supplies and the reference's agree.
-/
import Derived.Test.YtcmalbkflbfidaaMdl3
set_option linter.unusedSimpArgs false
set_option linter.unusedVariables false
namespace Go.Rails
open Go.Sv
section
variable {rails : List Rail}
/-- The supply of rail i, or -1. -/
def sp (rails : List Rail) (i : Nat) : Int := (rails.getD i railK.d).supply
def Fine (rails : List Rail) : Prop := ∀ j, j < rails.length → ¬ badR rails.length (rails.getD j railK.d)
theorem Fine.lt (h : Fine rails) {i : Nat} (hi : i < rails.length) : -1 ≤ sp rails i ∧ sp rails i < rails.length := by
  have := h i hi
  unfold badR at this
  unfold sp
  omega
theorem lkM_mem (rails : List Rail) : ∀ (k : Nat) (l : Link), l ∈ lkM rails k → ∃ i : Nat, i < k ∧ l.con = i ∧ l.sup = sp rails i ∧ 0 ≤ sp rails i
  | 0, l, h => by simp [lkM] at h
  | k + 1, l, h => by
    simp only [lkM] at h
    by_cases hs : 0 ≤ (rails.getD k railK.d).supply
    · rw [if_pos hs] at h
      rcases List.mem_append.1 h with h | h
      · obtain ⟨i, h1, h2⟩ := lkM_mem rails k l h
        exact ⟨i, by omega, h2⟩
      · simp at h; subst h
        exact ⟨k, by omega, rfl, rfl, hs⟩
    · rw [if_neg hs] at h
      obtain ⟨i, h1, h2⟩ := lkM_mem rails k l h
      exact ⟨i, by omega, h2⟩
theorem lkM_nodup (rails : List Rail) : ∀ k : Nat, (lkM rails k).Nodup
  | 0 => by simp [lkM]
  | k + 1 => by
    simp only [lkM]
    by_cases hs : 0 ≤ (rails.getD k railK.d).supply
    · rw [if_pos hs]
      refine List.nodup_append.2 ⟨lkM_nodup rails k, by simp, fun a ha b hb => ?_⟩
      simp at hb; subst hb
      obtain ⟨i, h1, h2, _⟩ := lkM_mem rails k a ha
      intro e
      rw [e] at h2
      simp at h2
      omega
    · rw [if_neg hs]; exact lkM_nodup rails k
theorem clM_lk (h : Fine rails) (hn : rails.length ≤ 64) : clM rails.length (lkM rails rails.length) = 0 := by
  have hl := lkM_length rails rails.length
  rw [clM, if_neg (by omega), if_pos, if_pos (lkM_nodup rails _)]
  intro j hj
  have hm : (lkM rails rails.length).getD j linkK.d ∈ lkM rails rails.length := by
    simp [List.getD, hj]
  obtain ⟨i, h1, h2, h3, h4⟩ := lkM_mem rails _ _ hm
  have := h.lt h1
  unfold okL; omega
/-- How often e stands among the first k. -/
def cntK (cs : List Int) (e : Int) : Nat → Int
  | 0 => 0
  | k + 1 => cntK cs e k + if cs.getD k 0 = e then 1 else 0
theorem cntK_append (cs : List Int) (c e : Int) : ∀ k, k ≤ cs.length → cntK (cs ++ [c]) e k = cntK cs e k
  | 0, _ => rfl
  | k + 1, h => by
    simp only [cntK]
    rw [cntK_append cs c e k (by omega)]
    have : (cs ++ [c]).getD k 0 = cs.getD k 0 := by simp [List.getD, List.getElem?_append_left (show k < cs.length by omega)]
    rw [this]
theorem cntK_snoc (cs : List Int) (c e : Int) : cntK (cs ++ [c]) e (cs ++ [c]).length = cntK cs e cs.length + if c = e then 1 else 0 := by
  rw [List.length_append]
  show cntK (cs ++ [c]) e (cs.length + 1) = _
  simp only [cntK]
  rw [cntK_append cs c e _ (Nat.le_refl _)]
  simp [List.getD]
theorem decs_cnt (ms cs : List Int) (e : Nat) (he : e < ms.length) (hc : ∀ k, k < cs.length → 0 ≤ cs.getD k 0) : ∀ k, k ≤ cs.length → (decs ms cs k).getD e 0 = ms.getD e 0 - cntK cs e k
  | 0, _ => by simp [decs, cntK]
  | k + 1, hk => by
    have ih := decs_cnt ms cs e he hc k (by omega)
    have h0 := hc k (by omega)
    simp only [decs, dec1, cntK]
    by_cases hh : cs.getD k 0 = (e : Int)
    · rw [if_pos hh, hh, Int.toNat_natCast, getD_set_self _ _ _ _ (by rw [decs_length]; exact he), ih]; omega
    · rw [if_neg hh, getD_set_other _ _ _ (by omega), ih]; omega
theorem cnt_nb (rails : List Rail) (s e : Nat) : ∀ k, cntK (nbM (lkM rails k) true s) e (nbM (lkM rails k) true s).length = if e < k ∧ sp rails e = (s : Int) then 1 else 0
  | 0 => by simp [lkM, nbM, cntK]
  | k + 1 => by
    have ih := cnt_nb rails s e k
    simp only [lkM]
    by_cases hs : 0 ≤ (rails.getD k railK.d).supply
    · rw [if_pos hs, nbM_snoc]
      simp only [if_true]
      by_cases h2 : (rails.getD k railK.d).supply = (s : Int)
      · rw [if_pos h2, cntK_snoc, ih]
        by_cases e2 : e = k
        · subst e2; rw [if_neg (by omega), if_pos rfl, if_pos ⟨by omega, h2⟩]; rfl
        · rw [if_neg (show ¬ (k : Int) = e by omega)]
          by_cases h3 : e < k ∧ sp rails e = (s : Int)
          · rw [if_pos h3, if_pos ⟨by omega, h3.2⟩]; rfl
          · rw [if_neg h3, if_neg (fun h => h3 ⟨by omega, h.2⟩)]; rfl
      · rw [if_neg h2, List.append_nil, ih]
        by_cases h3 : e < k ∧ sp rails e = (s : Int)
        · rw [if_pos h3, if_pos ⟨by omega, h3.2⟩]
        · rw [if_neg h3, if_neg]
          rintro ⟨h4, h5⟩
          by_cases e2 : e = k
          · subst e2; exact h2 h5
          · exact h3 ⟨by omega, h5⟩
    · rw [if_neg hs, ih]
      by_cases h3 : e < k ∧ sp rails e = (s : Int)
      · rw [if_pos h3, if_pos ⟨by omega, h3.2⟩]
      · rw [if_neg h3, if_neg]
        rintro ⟨h4, h5⟩
        by_cases e2 : e = k
        · subst e2; unfold sp at h5; omega
        · exact h3 ⟨by omega, h5⟩
theorem ms_lk (rails : List Rail) (i : Nat) : ∀ k, msM (lkM rails k) i = if i < k ∧ 0 ≤ sp rails i then 1 else 0
  | 0 => by simp [lkM, msM]
  | k + 1 => by
    have ih := ms_lk rails i k
    simp only [lkM]
    by_cases hs : 0 ≤ (rails.getD k railK.d).supply
    · rw [if_pos hs, msM_snoc, ih]
      by_cases e2 : i = k
      · subst e2; rw [if_neg (by omega), if_pos rfl, if_pos ⟨by omega, hs⟩]; rfl
      · rw [if_neg (show ¬ (k : Int) = i by omega)]
        by_cases h3 : i < k ∧ 0 ≤ sp rails i
        · rw [if_pos h3, if_pos ⟨by omega, h3.2⟩]; rfl
        · rw [if_neg h3, if_neg (fun h => h3 ⟨by omega, h.2⟩)]; rfl
    · rw [if_neg hs, ih]
      by_cases h3 : i < k ∧ 0 ≤ sp rails i
      · rw [if_pos h3, if_pos ⟨by omega, h3.2⟩]
      · rw [if_neg h3, if_neg]
        rintro ⟨h4, h5⟩
        by_cases e2 : i = k
        · subst e2; exact hs h5
        · exact h3 ⟨by omega, h5⟩
/-- What holds while nodes are taken: taken nodes are those with a negative count. -/
structure TInv (rails : List Rail) (ms : List Int) (m : Nat) : Prop where
  len : ms.length = rails.length
  cnt : nnn ms rails.length + m = rails.length
  open_ : ∀ i, i < rails.length → 0 ≤ ms.getD i 0 → ms.getD i 0 = if 0 ≤ sp rails i ∧ 0 ≤ ms.getD (sp rails i).toNat 0 then 1 else 0
  rank : ∃ rk : Nat → Nat, ∀ i, i < rails.length → ms.getD i 0 < 0 → rk i < m ∧ (0 ≤ sp rails i → ms.getD (sp rails i).toNat 0 < 0 ∧ rk (sp rails i).toNat < rk i)
theorem nnn_eq {a b : List Int} {k i : Nat} (hi : i < k) (h1 : 0 ≤ a.getD i 0) (h2 : b.getD i 0 < 0) (h : ∀ j, j < k → j ≠ i → (0 ≤ b.getD j 0 ↔ 0 ≤ a.getD j 0)) : nnn b k + 1 = nnn a k := by
  have same : ∀ k, k ≤ i → (∀ j, j < k → (0 ≤ b.getD j 0 ↔ 0 ≤ a.getD j 0)) → nnn b k = nnn a k := by
    intro k
    induction k with
    | zero => intros; rfl
    | succ k ih =>
      intro hk hh
      simp only [nnn]
      rw [ih (by omega) fun j hj => hh j (by omega)]
      have := hh k (by omega)
      by_cases h0 : 0 ≤ a.getD k 0
      · rw [if_pos h0, if_pos (this.2 h0)]
      · rw [if_neg h0, if_neg (fun x => h0 (this.1 x))]
  induction k with
  | zero => omega
  | succ k ih =>
    simp only [nnn]
    by_cases e : i = k
    · subst e
      rw [same i (Nat.le_refl _) fun j hj => h j (by omega) (by omega), if_pos h1, if_neg (by omega)]
    · have := ih (by omega) fun j hj hne => h j (by omega) hne
      have hk := h k (by omega) (fun x => e x.symm)
      by_cases h0 : 0 ≤ a.getD k 0
      · rw [if_pos h0, if_pos (hk.2 h0)]; omega
      · rw [if_neg h0, if_neg (fun x => h0 (hk.1 x))]; omega
theorem TInv.step (hF : Fine rails) {ms : List Int} {m i : Nat} (h : TInv rails ms m) (hi : i < rails.length) (h0 : ms.getD i 0 = 0) :
    TInv rails (decs (ms.set i (-1)) (nbM (lkM rails rails.length) true i) (nbM (lkM rails rails.length) true i).length) (m + 1) := by
  have hokl : ∀ k, k < (lkM rails rails.length).length → okL rails.length ((lkM rails rails.length).getD k linkK.d) := by
    intro j hj
    have hm : (lkM rails rails.length).getD j linkK.d ∈ lkM rails rails.length := by simp [List.getD, hj]
    obtain ⟨i, h1, h2, h3, h4⟩ := lkM_mem rails _ _ hm
    have := hF.lt h1
    unfold okL; omega
  have hval : ∀ e, e < rails.length → (decs (ms.set i (-1)) (nbM (lkM rails rails.length) true i) (nbM (lkM rails rails.length) true i).length).getD e 0 = (if e = i then -1 else ms.getD e 0) - if sp rails e = (i : Int) then 1 else 0 := by
    intro e he
    rw [decs_cnt _ _ e (by rw [List.length_set, h.len]; exact he) (fun k hk => (nbM_ok hokl true i k hk).1) _ (Nat.le_refl _), cnt_nb]
    congr 1
    · by_cases e2 : e = i
      · subst e2; rw [if_pos rfl, getD_set_self _ _ _ _ (by rw [h.len]; exact hi)]
      · rw [if_neg e2, getD_set_other _ _ _ (fun x => e2 x.symm)]
    · by_cases h3 : sp rails e = (i : Int)
      · rw [if_pos ⟨he, h3⟩, if_pos h3]
      · rw [if_neg (fun x => h3 x.2), if_neg h3]
  generalize hms : decs (ms.set i (-1)) (nbM (lkM rails rails.length) true i) (nbM (lkM rails rails.length) true i).length = ms' at hval
  -- a node whose supply is i is open, with count 1
  have hfed : ∀ e, e < rails.length → sp rails e = (i : Int) → e ≠ i → ms.getD e 0 = 1 := by
    intro e he hs hne
    by_cases hn : 0 ≤ ms.getD e 0
    · rw [h.open_ e he hn, if_pos ⟨by omega, by rw [hs, Int.toNat_natCast, h0]; exact Int.le_refl _⟩]
    · obtain ⟨rk, hrk⟩ := h.rank
      have := (hrk e he (by omega)).2 (by omega)
      rw [hs, Int.toNat_natCast, h0] at this
      omega
  have hself : sp rails i ≠ (i : Int) := by
    intro hs
    have := h.open_ i hi (by omega)
    rw [h0, if_pos ⟨by omega, by rw [hs, Int.toNat_natCast, h0]; exact Int.le_refl _⟩] at this
    omega
  have hi' : ms'.getD i 0 = -1 := by rw [hval i hi, if_pos rfl, if_neg hself]; rfl
  have hiff : ∀ e, e < rails.length → e ≠ i → (0 ≤ ms'.getD e 0 ↔ 0 ≤ ms.getD e 0) := by
    intro e he hne
    rw [hval e he, if_neg hne]
    by_cases hs : sp rails e = (i : Int)
    · have := hfed e he hs hne
      rw [if_pos hs]; omega
    · rw [if_neg hs]; omega
  have hlen : ms'.length = rails.length := by rw [← hms, decs_length, List.length_set, h.len]
  refine ⟨hlen, ?_, fun e he hn => ?_, ?_⟩
  · have := nnn_eq (a := ms) (b := ms') (k := rails.length) hi (by omega) (by omega) hiff
    have := h.cnt
    omega
  · have hne : e ≠ i := by rintro rfl; omega
    have hn2 := (hiff e he hne).1 hn
    have ho := h.open_ e he hn2
    rw [hval e he, if_neg hne, ho]
    by_cases hs : sp rails e = (i : Int)
    · rw [if_pos hs, hs, Int.toNat_natCast, hi', h0, if_pos ⟨by omega, by omega⟩, if_neg (by omega)]; rfl
    · rw [if_neg hs]
      by_cases hsn : 0 ≤ sp rails e
      · have hlt := (hF.lt he).2
        have := hiff (sp rails e).toNat (by omega) (by omega)
        by_cases hp : 0 ≤ ms.getD (sp rails e).toNat 0
        · rw [if_pos ⟨hsn, hp⟩, if_pos ⟨hsn, this.2 hp⟩]; rfl
        · rw [if_neg (fun x => hp x.2), if_neg (fun x => hp (this.1 x.2))]; rfl
      · rw [if_neg (fun x => hsn x.1), if_neg (fun x => hsn x.1)]; rfl
  · obtain ⟨rk, hrk⟩ := h.rank
    refine ⟨fun e => if e = i then m else rk e, fun e he hn => ?_⟩
    by_cases hne : e = i
    · subst hne
      simp only [if_true]
      refine ⟨by omega, fun hs => ?_⟩
      have ho := h.open_ e he (by omega)
      have hneg : ms.getD (sp rails e).toNat 0 < 0 := by
        rw [h0] at ho
        by_cases hp : 0 ≤ ms.getD (sp rails e).toNat 0
        · rw [if_pos ⟨hs, hp⟩] at ho; omega
        · omega
      have hlt := (hF.lt he).2
      have hni : (sp rails e).toNat ≠ e := by intro x; apply hself; omega
      have := hiff (sp rails e).toNat (by omega) hni
      rw [if_neg hni]
      exact ⟨by omega, (hrk _ (by omega) hneg).1⟩
    · have hn2 : ms.getD e 0 < 0 := by have := hiff e he hne; omega
      have h1 := hrk e he hn2
      simp only [if_neg hne]
      refine ⟨by omega, fun hs => ?_⟩
      have h2 := h1.2 hs
      have hlt := (hF.lt he).2
      have hni : (sp rails e).toNat ≠ i := by intro x; rw [x] at h2; omega
      have := hiff (sp rails e).toNat (by omega) hni
      rw [if_neg hni]
      exact ⟨by omega, h2.2⟩
theorem seqRun_inv (hF : Fine rails) : ∀ (f : Nat) (ms ord : List Int), TInv rails ms ord.length → nnn ms rails.length ≤ f →
    ∃ ms', TInv rails ms' (seqRun (nbM (lkM rails rails.length) true) rails.length f ms ord).length ∧ idxM 0 ms' rails.length = -1
  | 0, ms, ord, h, hf => ⟨ms, h, nnn_zero (by omega)⟩
  | f + 1, ms, ord, h, hf => by
    simp only [seqRun]
    by_cases hx : idxM 0 ms rails.length = -1
    · rw [if_pos hx]; exact ⟨ms, h, hx⟩
    · rw [if_neg hx]
      obtain ⟨i, h1, h2, h3, _⟩ := idxM_some hx
      rw [h1, Int.toNat_natCast]
      have hs := h.step hF h2 h3
      have hlt := round_lt (nb := nbM (lkM rails rails.length) true) h.len h2 h3 (nbM (lkM rails rails.length) true i) (nbM (lkM rails rails.length) true i).length
      exact seqRun_inv hF f _ _ (by rw [List.length_append]; exact hs) (by omega)
theorem TInv.start : TInv rails (ms0 rails.length (lkM rails rails.length)) 0 := by
  have hv : ∀ i, i < rails.length → (ms0 rails.length (lkM rails rails.length)).getD i 0 = if 0 ≤ sp rails i then 1 else 0 := by
    intro i hi
    have : (ms0 rails.length (lkM rails rails.length)).getD i 0 = msM (lkM rails rails.length) i := by simp [ms0, List.getD, hi]
    rw [this, ms_lk]
    by_cases h : 0 ≤ sp rails i
    · rw [if_pos ⟨hi, h⟩, if_pos h]
    · rw [if_neg (fun x => h x.2), if_neg h]
  have hnn : ∀ k, k ≤ rails.length → nnn (ms0 rails.length (lkM rails rails.length)) k = k := by
    intro k
    induction k with
    | zero => intro; rfl
    | succ k ih =>
      intro hk
      simp only [nnn]
      rw [ih (by omega), if_pos (by rw [hv k (by omega)]; split <;> omega)]
  refine ⟨by simp [ms0], by rw [hnn _ (Nat.le_refl _)]; rfl, fun i hi _ => ?_, fun _ => 0, fun i hi h => ?_⟩
  · rw [hv i hi]
    by_cases h : 0 ≤ sp rails i
    · rw [if_pos h, if_pos]
      refine ⟨h, ?_⟩
      by_cases hl : (sp rails i).toNat < rails.length
      · rw [hv _ hl]; split <;> omega
      · have : (ms0 rails.length (lkM rails rails.length)).getD (sp rails i).toNat 0 = 0 := by
          simp [ms0, List.getD, hl]
        omega
    · rw [if_neg h, if_neg (fun x => h x.1)]
  · rw [hv i hi] at h; split at h <;> omega
theorem chk_iff (hF : Fine rails) : (seqM rails.length (lkM rails rails.length)).length = rails.length ↔ ∀ j, j < rails.length → itM rails j rails.length < 0 := by
  obtain ⟨ms, hT, hx⟩ := seqRun_inv hF (nnn (ms0 rails.length (lkM rails rails.length)) rails.length) (ms0 rails.length (lkM rails rails.length)) [] TInv.start (Nat.le_refl _)
  rw [idxM_none] at hx
  change TInv rails ms (seqM rails.length (lkM rails rails.length)).length at hT
  generalize (seqM rails.length (lkM rails rails.length)).length = m at hT
  constructor
  · intro hm
    subst hm
    have hz : nnn ms rails.length = 0 := by have := hT.cnt; omega
    have hneg : ∀ i, i < rails.length → ms.getD i 0 < 0 := by
      have key : ∀ k, nnn ms k = 0 → ∀ i, i < k → ms.getD i 0 < 0 := by
        intro k
        induction k with
        | zero => intro _ i hi; omega
        | succ k ih =>
          intro h i hi
          simp only [nnn] at h
          by_cases h0 : 0 ≤ ms.getD k 0
          · rw [if_pos h0] at h; omega
          · by_cases e : i = k
            · subst e; omega
            · exact ih (by omega) i (by omega)
      exact key _ hz
    obtain ⟨rk, hrk⟩ := hT.rank
    intro j hj
    have key : ∀ k, (itM rails j k < 0) ∨ (itM rails j k < rails.length ∧ rk (itM rails j k).toNat + k ≤ rk j) := by
      intro k
      induction k with
      | zero => right; simp only [itM]; exact ⟨by omega, by simp⟩
      | succ k ih =>
        rcases ih with h | ⟨h1, h2⟩
        · left; simp only [itM]; rw [if_neg (by omega)]; exact h
        · by_cases h0 : 0 ≤ itM rails j k
          · simp only [itM]; rw [if_pos h0]
            have hi : (itM rails j k).toNat < rails.length := by omega
            have h3 := (hrk _ hi (hneg _ hi)).2
            have h4 := (hF.lt hi).2
            by_cases h5 : 0 ≤ sp rails (itM rails j k).toNat
            · right
              have := (h3 h5).2
              unfold sp at *
              exact ⟨h4, by omega⟩
            · left; unfold sp at h5; omega
          · left; simp only [itM]; rw [if_neg h0]; omega
    rcases key rails.length with h | ⟨_, h2⟩
    · exact h
    · have := (hrk j hj (hneg j hj)).1; omega
  · intro hall
    have hz : nnn ms rails.length = 0 := by
      have key : ∀ k, k ≤ rails.length → nnn ms k = 0 := by
        intro k
        induction k with
        | zero => intro; rfl
        | succ k ih =>
          intro hk
          simp only [nnn]
          rw [ih (by omega)]
          by_cases h0 : 0 ≤ ms.getD k 0
          · exfalso
            have stay : ∀ d, 0 ≤ itM rails k d ∧ itM rails k d < rails.length ∧ 0 ≤ ms.getD (itM rails k d).toNat 0 := by
              intro d
              induction d with
              | zero => simp only [itM]; exact ⟨by omega, by omega, by simpa using h0⟩
              | succ d ih2 =>
                obtain ⟨a1, a2, a3⟩ := ih2
                have hi : (itM rails k d).toNat < rails.length := by omega
                have ho := hT.open_ _ hi a3
                have hne := hx _ hi
                by_cases hc : 0 ≤ sp rails (itM rails k d).toNat ∧ 0 ≤ ms.getD (sp rails (itM rails k d).toNat).toNat 0
                · simp only [itM]; rw [if_pos a1]
                  have := (hF.lt hi).2
                  unfold sp at *
                  exact ⟨hc.1, this, hc.2⟩
                · rw [if_neg hc] at ho; exact absurd ho hne
            have := (stay rails.length).1
            have := hall k (by omega)
            omega
          · rw [if_neg h0]
      exact key _ (Nat.le_refl _)
    have := hT.cnt; omega
theorem newE_eq (rails : List Rail) : newE rails = newRE rails := by
  unfold newE newRE
  by_cases h1 : 64 < rails.length
  · rw [if_pos h1, if_pos h1]
  · rw [if_neg h1, if_neg h1]
    by_cases hF : ∀ j, j < rails.length → ¬ badR rails.length (rails.getD j railK.d)
    · rw [if_pos hF, if_pos hF]
      unfold chkM
      rw [clM_lk hF (by omega), if_neg (by simp)]
      have := chk_iff hF
      by_cases h2 : (seqM rails.length (lkM rails rails.length)).length = rails.length
      · rw [if_neg (by omega), if_pos (this.1 h2)]
      · rw [if_pos (by omega), if_neg (fun x => h2 (this.2 x))]
    · rw [if_neg hF, if_neg hF]
end
end Go.Rails
