/- The law FnExactKeeps, in plain Lean. -/
import Derived.Test.YtlegifoeekcolaaPKEF
set_option linter.unusedSimpArgs false
set_option linter.unusedVariables false
namespace Go.Am

/-- What is left of a measure. -/
def szB (left : Int) (n : Nat) : Int := if left - (n : Int) < 0 then -1 else left - (n : Int)
theorem szIntS_eq (a : List Int) (left : Int) (h1 : 0 ≤ left) (h2 : left ≤ 1048576) (ha : a.length ≤ 9223372036854775807) : laws_szIntS (a, left) = some (szB left a.length) := by
  unfold laws_szIntS szB
  simp only
  rw [wr_id (by omega) (by omega)]
  by_cases h : left - (a.length : Int) < 0
  · rw [decide_eq_true h, if_pos rfl, if_pos h]
  · rw [decide_eq_false h, if_neg (by decide), if_neg h]
theorem szBoolS_eq (a : List Bool) (left : Int) (h1 : 0 ≤ left) (h2 : left ≤ 1048576) (ha : a.length ≤ 9223372036854775807) : laws_szBoolS (a, left) = some (szB left a.length) := by
  unfold laws_szBoolS szB
  simp only
  rw [wr_id (by omega) (by omega)]
  by_cases h : left - (a.length : Int) < 0
  · rw [decide_eq_true h, if_pos rfl, if_pos h]
  · rw [decide_eq_false h, if_neg (by decide), if_neg h]
theorem szCellS_eq (a : List GCell) (left : Int) (h1 : 0 ≤ left) (h2 : left ≤ 1048576) (ha : a.length ≤ 9223372036854775807) : laws_szCellS (a, left) = some (szB left a.length) := by
  unfold laws_szCellS szB
  simp only
  rw [wr_id (by omega) (by omega)]
  by_cases h : left - (a.length : Int) < 0
  · rw [decide_eq_true h, if_pos rfl, if_pos h]
  · rw [decide_eq_false h, if_neg (by decide), if_neg h]
theorem szB_cases (left : Int) (n : Nat) : (szB left n = -1 ∧ left < n) ∨ (szB left n = left - n ∧ (n : Int) ≤ left) := by
  unfold szB
  by_cases h : left - (n : Int) < 0
  · rw [if_pos h]; left; omega
  · rw [if_neg h]; right; omega
/-- A system's measure: what is left, or below 0. -/
theorem szSystem_eq (s : GSystem) (left : Int) (h1 : 0 ≤ left) (h2 : left ≤ 1048576) (l1 : s.fPlus.length ≤ 9223372036854775807) (l2 : s.fTimes.length ≤ 9223372036854775807) (l3 : s.fBelow.length ≤ 9223372036854775807) :
    ∃ r, laws_szSystem (s, left) = some r ∧ (r < 0 ∨ (0 ≤ r ∧ r ≤ left ∧ s.fPlus.length ≤ 1048576 ∧ s.fTimes.length ≤ 1048576 ∧ s.fBelow.length ≤ 1048576)) := by
  unfold laws_szSystem
  simp only
  rw [szIntS_eq _ _ h1 h2 l1, bs]
  rcases szB_cases left s.fPlus.length with ⟨e, hl⟩ | ⟨e, hl⟩
  · rw [e]; exact ⟨-1, rfl, .inl (by decide)⟩
  · rw [e, decide_eq_false (by omega), if_neg (by decide), szIntS_eq _ _ (by omega) (by omega) l2, bs]
    generalize hq : left - (s.fPlus.length : Int) = q
    rcases szB_cases q s.fTimes.length with ⟨e2, hl2⟩ | ⟨e2, hl2⟩
    · rw [e2]; exact ⟨-1, rfl, .inl (by decide)⟩
    · rw [e2, decide_eq_false (by omega), if_neg (by decide), szBoolS_eq _ _ (by omega) (by omega) l3, bs]
      generalize hq2 : q - (s.fTimes.length : Int) = q2
      rcases szB_cases q2 s.fBelow.length with ⟨e3, hl3⟩ | ⟨e3, hl3⟩
      · rw [e3]; exact ⟨-1, rfl, .inl (by decide)⟩
      · rw [e3, decide_eq_false (by omega), if_neg (by decide)]
        exact ⟨_, rfl, .inr ⟨by omega, by omega, by omega, by omega, by omega⟩⟩

theorem keeps_true (s : GSystem) (cs : List GCell) (l1 : s.fPlus.length ≤ 9223372036854775807) (l2 : s.fTimes.length ≤ 9223372036854775807) (l3 : s.fBelow.length ≤ 9223372036854775807) (l4 : cs.length ≤ 9223372036854775807) : laws_FnExactKeeps (s, cs) = some true := by
  unfold laws_FnExactKeeps
  simp only
  obtain ⟨r, e, hr⟩ := szSystem_eq s 1048576 (by decide) (by decide) l1 l2 l3
  rw [e, bs]
  rcases hr with hr | ⟨r1, r2, p1, p2, p3⟩
  · rw [decide_eq_true hr, if_pos rfl]
  · rw [decide_eq_false (by omega), if_neg (by decide), szCellS_eq _ _ r1 r2 l4, bs]
    rcases szB_cases r cs.length with ⟨e2, hl2⟩ | ⟨e2, hl2⟩
    · rw [e2]; rfl
    · have hc : cs.length ≤ 1048576 := by omega
      obtain ⟨q, q1, q2⟩ := keeps_eq s cs hc
      rw [e2, decide_eq_false (by omega), if_neg (by decide), toSystem_id s p1 p2 p3, bs, toCellS_id cs hc, bs, q1, bs, bs, bs, q2, bs]
      rw [show (q == q) = true by cases q <;> rfl, if_pos rfl, bs, eqSystem_refl s p1 p2 p3, bs, if_pos rfl, bs, eqCellS_refl cs hc, bs, if_pos rfl]
end Go.Am
