/-
  What the calls keep; a space with one mapping.
-/
import Derived.Test.YthdpojggdodpfaaMdl6
set_option linter.unusedSimpArgs false
set_option linter.unusedVariables false
namespace Go.Ios
open Go.Sv
theorem getD_set {β : Type} (l : List β) (m k : Nat) (y d : β) (h : m < l.length) : (l.set m y).getD k d = if k = m then y else l.getD k d := by
  by_cases e : k = m
  · subst e; rw [if_pos rfl]; exact getD_set_self _ _ _ _ h
  · rw [if_neg e]; exact getD_set_other _ _ _ (fun e2 => e e2.symm)
theorem insL_ok {hs : List MH} (ho : okS hs) {h : MH} (hh : h.ok) (hb : ¬ busy hs h.base h.len) : okS (insL hs (aftM hs h.base) h) := by
  obtain ⟨h1, h2, h3⟩ := aft_spec hs h.base
  have hl : (insL hs (aftM hs h.base) h).length = hs.length + 1 := insL_length h h1
  have hr := hh.r
  unfold okR at hr
  have hlow : ∀ j, j < aftM hs h.base → (mh hs j).lst < h.base := fun j hj => by have := h2 j hj; omega
  have hhigh : ∀ j, aftM hs h.base ≤ j → j < hs.length → h.lst < (mh hs j).base := fun j hj hjl => by
    have ha : aftM hs h.base < hs.length := by omega
    have h4 := h3 ha
    have h5 : ¬ ovl (mh hs (aftM hs h.base)).base (mh hs (aftM hs h.base)).len h.base h.len := fun k => hb ⟨ha, k⟩
    unfold ovl at h5
    have h4' : h.base ≤ (mh hs (aftM hs h.base)).base + ((mh hs (aftM hs h.base)).len - 1) := h4
    have h6 : h.base + (h.len - 1) < (mh hs (aftM hs h.base)).base := by omega
    by_cases e : j = aftM hs h.base
    · rw [e]; exact h6
    · have h7 : (mh hs (aftM hs h.base)).base + ((mh hs (aftM hs h.base)).len - 1) < (mh hs j).base := ho.sort _ j (by omega) hjl
      have h8 := (ho.each _ ha).r
      unfold okR at h8
      show h.base + (h.len - 1) < (mh hs j).base
      omega
  have hget : ∀ k, mh (insL hs (aftM hs h.base) h) k = if k < aftM hs h.base then mh hs k else if k = aftM hs h.base then h else mh hs (k - 1) := fun k => insL_getD h mhD h1 k
  refine ⟨fun i hi => ?_, fun i j hij hj => ?_⟩
  · rw [hl] at hi
    rw [hget i]
    split
    · exact ho.each i (by omega)
    · split
      · exact hh
      · exact ho.each (i - 1) (by omega)
  · rw [hl] at hj
    rw [hget i, hget j]
    by_cases c1 : j < aftM hs h.base
    · rw [if_pos c1, if_pos (by omega)]; exact ho.sort i j hij (by omega)
    · rw [if_neg c1]
      by_cases c2 : j = aftM hs h.base
      · rw [if_pos c2, if_pos (by omega)]; exact hlow i (by omega)
      · rw [if_neg c2]
        by_cases c3 : i < aftM hs h.base
        · rw [if_pos c3]; exact ho.sort i (j - 1) (by omega) (by omega)
        · rw [if_neg c3]
          by_cases c4 : i = aftM hs h.base
          · rw [if_pos c4]; exact hhigh (j - 1) (by omega) (by omega)
          · rw [if_neg c4]; exact ho.sort (i - 1) (j - 1) (by omega) (by omega)
theorem mapG_sp {s : BS} (hk : s.ok) {m : Nat} (hm : m < 3) (h : MH) (A : Option Addr) (c k : Nat) : (mapG s m h A c).sp k = if k = m then ⟨A, c, insL (s.sp m).hs (aftM (s.sp m).hs h.base) h⟩ else s.sp k :=
  getD_set _ _ _ _ _ (by rw [hk.wf.sp]; exact hm)
theorem mapG_ok {s : BS} (hk : s.ok) {m : Nat} (hm : m < 3) {h : MH} (hh : h.ok) (hb : ¬ busy (s.sp m).hs h.base h.len) (ht : s.total ≠ 256) (A : Option Addr) (c : Nat) : (mapG s m h A c).ok := by
  have hl := insL_length h (aft_spec (s.sp m).hs h.base).1
  have htot := hk.tot
  have hmax := hk.max
  refine ⟨⟨by show (s.sps.set m _).length = 3; rw [List.length_set]; exact hk.wf.sp, hk.wf.en⟩, fun k hkk => ?_, ?_, by show s.total + 1 ≤ 256; omega, hk.fl, hk.fr, hk.tr⟩
  · rw [mapG_sp hk hm]
    split
    · exact insL_ok (hk.sp m hm) hh hb
    · exact hk.sp k hkk
  · rw [mapG_sp hk hm, mapG_sp hk hm, mapG_sp hk hm]
    show s.total + 1 = _
    obtain rfl | rfl | rfl : m = 0 ∨ m = 1 ∨ m = 2 := by omega
    · rw [if_pos rfl, if_neg (by decide), if_neg (by decide)]; simp only [hl]; omega
    · rw [if_neg (by decide), if_pos rfl, if_neg (by decide)]; simp only [hl]; omega
    · rw [if_neg (by decide), if_neg (by decide), if_pos rfl]; simp only [hl]; omega
theorem delL_getD {β : Type} {l : List β} {i : Nat} (d : β) (h : i < l.length) (k : Nat) : (delL l i).getD k d = if k < i then l.getD k d else l.getD (k + 1) d := by
  have h1 : (l.take i).length = i := by rw [List.length_take]; omega
  simp only [delL, List.getD, List.getElem?_append, h1]
  by_cases hk : k < i
  · simp [hk, List.getElem?_take]
  · simp only [hk, if_false, List.getElem?_drop]
    congr 2; omega
theorem useL_len (l : List Flt) (a : Acs) : (useL l a).length ≤ l.length := by
  unfold useL
  split
  · rename_i h
    split
    · rw [delL_length h]; omega
    · rw [List.length_set]; omega
  · exact Nat.le_refl _
def okF (f : Flt) : Prop := isU f.base ∧ okR f.base f.len ∧ 1 ≤ f.cnt ∧ f.cnt ≤ 64
theorem useL_ok {l : List Flt} {a : Acs} (h : ∀ i, i < l.length → okF (l.getD i fltK.d)) : ∀ i, i < (useL l a).length → okF ((useL l a).getD i fltK.d) := by
  unfold useL
  split
  · rename_i hn
    split
    · intro i hi
      rw [delL_length hn] at hi
      rw [delL_getD _ hn]
      split
      · exact h i (by omega)
      · exact h (i + 1) (by omega)
    · rename_i hc
      intro i hi
      rw [List.length_set] at hi
      rw [getD_set _ _ _ _ _ hn]
      split
      · obtain ⟨h1, h2, h3, h4⟩ := h _ hn
        exact ⟨h1, h2, by show 1 ≤ (l.getD (hitN l a) fltK.d).cnt - 1; omega, by show (l.getD (hitN l a) fltK.d).cnt - 1 ≤ 64; omega⟩
      · exact h i hi
  · exact h
theorem stF_ok {s : BS} (hk : s.ok) (a : Acs) : (stF s a).ok := by
  unfold stF
  split
  · exact ⟨⟨hk.wf.sp, hk.wf.en⟩, hk.sp, hk.tot, hk.max, Nat.le_trans (useL_len _ _) hk.fl, useL_ok hk.fr, hk.tr⟩
  · exact hk
theorem setM_sp {s : BS} {m : Nat} (hm : m < s.sps.length) (i : Nat) (h : MH) (k : Nat) : (setM s m i h).sp k = if k = m then { s.sp m with hs := (s.sp m).hs.set i h } else s.sp k := getD_set _ _ _ _ _ hm
theorem setM_ok {s : BS} (hk : s.ok) {m i : Nat} (hm : m < 3) (hi : i < (s.sp m).hs.length) {h : MH} (hh : h.ok) (e1 : h.base = (mh (s.sp m).hs i).base) (e2 : h.len = (mh (s.sp m).hs i).len) : (setM s m i h).ok := by
  have hm2 : m < s.sps.length := by rw [hk.wf.sp]; exact hm
  have hlen : ∀ k, ((setM s m i h).sp k).hs.length = (s.sp k).hs.length := fun k => by
    rw [setM_sp hm2]
    split
    · rename_i e; subst e; exact List.length_set
    · rfl
  refine ⟨⟨by show (s.sps.set m _).length = 3; rw [List.length_set]; exact hk.wf.sp, hk.wf.en⟩, fun k hkk => ?_, ?_, hk.max, hk.fl, hk.fr, hk.tr⟩
  · rw [setM_sp hm2]
    split
    · have ho := hk.sp m hm
      have hg : ∀ j, mh ((s.sp m).hs.set i h) j = if j = i then h else mh (s.sp m).hs j := fun j => getD_set _ _ _ _ _ hi
      have hb : ∀ j, (mh ((s.sp m).hs.set i h) j).base = (mh (s.sp m).hs j).base ∧ (mh ((s.sp m).hs.set i h) j).len = (mh (s.sp m).hs j).len := fun j => by
        rw [hg j]
        split
        · rename_i e; subst e; exact ⟨e1, e2⟩
        · exact ⟨rfl, rfl⟩
      refine ⟨fun j hj => ?_, fun j l hjl hl => ?_⟩
      · have hj2 : j < (s.sp m).hs.length := by simpa using hj
        show (mh ((s.sp m).hs.set i h) j).ok
        rw [hg j]
        split
        · exact hh
        · exact ho.each j hj2
      · have hl2 : l < (s.sp m).hs.length := by simpa using hl
        show (mh ((s.sp m).hs.set i h) j).base + ((mh ((s.sp m).hs.set i h) j).len - 1) < (mh ((s.sp m).hs.set i h) l).base
        rw [(hb j).1, (hb j).2, (hb l).1]
        exact ho.sort j l hjl hl2
    · exact hk.sp k hkk
  · rw [hlen 0, hlen 1, hlen 2]; exact hk.tot
theorem wrH_ok {h : MH} (hh : h.ok) {a : Acs} {A : Option Addr} {c : Nat} (hA : A ≠ none) (h1 : h.base ≤ a.addr) (h2 : a.addr + a.width - 1 ≤ h.lst) (hw : 1 ≤ a.width) : (wrH h a A c).ok := by
  have hb := hh.b
  have hl := raw0_len hh
  unfold isU at hb
  have h2' : a.addr + a.width - 1 ≤ h.base + (h.len - 1) := h2
  refine ⟨hh.b, hh.r, hh.o1, hh.o2, .inr ⟨?_, hA⟩, fun i => ?_⟩
  · show (wrK _ _ _ _).length = h.len.toNat
    rw [wrK_length, hl]
  · show 0 ≤ byt (wrK _ _ _ _) i ∧ byt (wrK _ _ _ _) i ≤ 255
    rw [wrK_byt _ (by rw [hl]; omega), raw0_byt]
    split
    · exact byo_bd _ _
    · exact hh.y i
theorem accS_ok {s : BS} (hk : s.ok) {a : Acs} (ha : wfA a) {A : Option Addr} {c : Nat} (hA : wrs s a → A ≠ none) (tA : Option Addr) (tc : Nat) (ht : s.tr.length ≠ 65536) : (accS s a A c tA tc).ok := by
  have hF := stF_ok hk a
  have hW : (stW s a A c).ok := by
    unfold stW
    split
    · rename_i hw
      obtain ⟨m, i, hsm, hm, he, hi, hb1, hb2, hen, hfh, hfi⟩ := lv_fnd hk hw.2.1
      have hsp : (stF s a).sp m = s.sp m := by unfold BS.sp; rw [stF_sps]
      rw [hsm, hfi, hfh, Int.toNat_natCast]
      have hW1 : 1 ≤ a.width := by have := ha.1; unfold isW at this; omega
      exact setM_ok hF hm (by rw [hsp]; exact hi) (wrH_ok ((hk.sp m hm).each i hi) (hA hw) hb1 hb2 hW1) (by rw [hsp]; rfl) (by rw [hsp]; rfl)
    · exact hF
  have htr := hk.tr
  exact ⟨⟨hW.wf.sp, hW.wf.en⟩, hW.sp, hW.tot, hW.max, hW.fl, hW.fr, by show (s.tr ++ [rec s a]).length ≤ 65536; rw [List.length_append]; simp; omega⟩
/-! ### One mapping -/
theorem fnd_one {s : BS} {m : Nat} {h : MH} (hm : m < 3) (e : (s.sp m).hs = [h]) (x : Int) : fnd s m x = if h.base ≤ x ∧ x ≤ h.lst then some 0 else none := by
  rw [fnd_ok hm, e, findM]
  have ha : aftM [h] x = if x ≤ h.lst then 0 else 1 := by
    unfold aftM
    by_cases hx : x ≤ h.lst
    · rw [if_pos hx]; exact firstN_at (p := fun i => decide (x ≤ (mh [h] i).lst)) (i := 0) (fun j hj => by omega) (decide_eq_true hx) (by simp)
    · rw [if_neg hx]; exact firstN_none (p := fun i => decide (x ≤ (mh [h] i).lst)) (fun j hj => by
        have : j = 0 := by simp at hj; omega
        subst this; exact decide_eq_false hx)
  rw [ha]
  by_cases hx : x ≤ h.lst
  · rw [if_pos hx]
    by_cases hb : h.base ≤ x
    · rw [if_pos ⟨by simp, hb⟩, if_pos ⟨hb, hx⟩]
    · rw [if_neg (fun k => hb k.2), if_neg (fun k => hb k.1)]
  · rw [if_neg hx, if_neg (fun k => by have := k.1; simp at this), if_neg (fun k => hx k.2)]
theorem lv_one {s : BS} {m : Nat} {h : MH} {a : Acs} (hm : m < 3) (e : (s.sp m).hs = [h]) (hs : a.space = m) (h1 : h.base ≤ a.addr) (h2 : a.addr + a.width - 1 ≤ h.lst) (h3 : 1 ≤ a.width) : lvM s a = s.en.getD h.own.toNat false ∧ fnd s a.space a.addr = some 0 ∧ fh s a = h ∧ fi s a = 0 := by
  have hf : fnd s a.space a.addr = some 0 := by rw [hs, fnd_one hm e, if_pos ⟨h1, by omega⟩]
  have hfi : fi s a = 0 := by rw [fi, hf]; rfl
  have e0 : mh (s.sp m).hs 0 = h := by rw [e]; rfl
  refine ⟨?_, hf, ?_, hfi⟩
  · rw [lvM, hf]
    simp only [hs, Int.toNat_natCast, e0]
    rw [decide_eq_true h2, Bool.and_true]
  · rw [fh, hfi, hs, Int.toNat_natCast, e0]
theorem acc_one {s : BS} {m : Nat} {h : MH} {a : Acs} (hk : s.ok) (hm : m < 3) (e : (s.sp m).hs = [h]) (hs : a.space = m) (hfh : fh s a = h) (hfi : fi s a = 0) (A : Option Addr) (c : Nat) (tA : Option Addr) (tc : Nat) :
    ((accS s a A c tA tc).sp m).hs = [if wrs s a then wrH h a A c else h] := by
  have hsp : ∀ k, (stF s a).sp k = s.sp k := fun k => by unfold BS.sp; rw [stF_sps]
  show ((stW s a A c).sp m).hs = _
  unfold stW
  split
  · rw [hs, hfi, hfh, Int.toNat_natCast, setM_sp (by rw [stF_sps, hk.wf.sp]; exact hm), if_pos rfl, hsp, e]; rfl
  · rw [hsp, e]
theorem acc_en (s : BS) (a : Acs) (A : Option Addr) (c : Nat) (tA : Option Addr) (tc : Nat) : (accS s a A c tA tc).en = s.en ∧ (accS s a A c tA tc).fl = (if lvM s a = true then useL s.fl a else s.fl) ∧ (accS s a A c tA tc).tr = s.tr ++ [rec s a] := by
  refine ⟨?_, ?_, rfl⟩
  · show (stW s a A c).en = _
    unfold stW
    split
    · exact stF_en s a
    · exact stF_en s a
  · show (stW s a A c).fl = _
    have hF : (stF s a).fl = (if lvM s a = true then useL s.fl a else s.fl) := by unfold stF; split <;> rfl
    unfold stW
    split
    · exact hF
    · exact hF
end Go.Ios
