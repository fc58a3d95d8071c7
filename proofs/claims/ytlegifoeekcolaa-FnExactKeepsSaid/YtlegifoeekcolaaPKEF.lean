/- Plain laws: both functions Keeps answer alike. -/
import Derived.Test.YtlegifoeekcolaaPKEE
set_option linter.unusedSimpArgs false
set_option linter.unusedVariables false
namespace Go.Am

def keepB (s : GSystem) (n : Nat) (c : GCell) : Bool := inB c.fBooked 0 ((n : Int) - 1) && inB c.fBudget 0 ((n : Int) - 1) && le s n c.fBooked.toNat c.fBudget.toNat

theorem inB_nat {x : Int} {n : Nat} (h : inB x 0 ((n : Int) - 1) = true) : x = ((x.toNat : Nat) : Int) ∧ x.toNat < n := by
  simp only [inB, Bool.and_eq_true, decide_eq_true_eq] at h
  omega
section
variable {s : GSystem} {n : Nat} (h : Tab s n)
include h
theorem wr_decT : wr (s.fSize - 1) = (n : Int) - 1 := by
  have := h.lo; have := h.hi
  rw [h.size, wr_id (by omega) (by omega)]
theorem sBelow (hs : sysB s = true) (c : GCell) : spec_IsBelow (s, c.fBooked, c.fBudget) = some (keepB s n c) := by
  unfold spec_IsBelow spec_l1Both spec_IsGrade keepB
  simp only
  rw [sSys, hs, wr_decT h, sIn, sIn]
  cases h1 : inB c.fBooked 0 ((n : Int) - 1) with
  | false => simp [bs]
  | true =>
    cases h2 : inB c.fBudget 0 ((n : Int) - 1) with
    | false => simp [bs]
    | true =>
      obtain ⟨e1, l1⟩ := inB_nat h1
      obtain ⟨e2, l2⟩ := inB_nat h2
      have := sLe h l1 l2
      rw [← e1, ← e2] at this
      simp [bs, this]
theorem iKeep_c1 (c : GCell) : impl_Keeps_c1 (c, s) = some (!keepB s n c) := by
  have hh : ∀ x, impl_Systemhas (s, x) = some (inB x 0 ((n : Int) - 1)) := fun x => by
    unfold impl_Systemhas
    simp only
    rw [wr_decT h, iIn, bs]
  unfold impl_Keeps_c1 keepB
  simp only
  rw [hh, hh]
  cases h1 : inB c.fBooked 0 ((n : Int) - 1) with
  | false => simp [bs]
  | true =>
    cases h2 : inB c.fBudget 0 ((n : Int) - 1) with
    | false => simp [bs]
    | true =>
      obtain ⟨e1, l1⟩ := inB_nat h1
      obtain ⟨e2, l2⟩ := inB_nat h2
      have := iLe h l1 l2
      rw [← e1, ← e2] at this
      simp [bs, this]
theorem sKeeps_l0 (hs : sysB s = true) (cs : List GCell) (hc : cs.length ≤ 1048576) : ∀ (k i : Nat), i + k = cs.length → spec_Keeps_l0 (s, cs, (i : Int)) = some (if (cs.drop i).all (keepB s n) then .inl () else .inr false) := by
  intro k
  induction k with
  | zero =>
    intro i hm
    rw [spec_Keeps_l0.eq_def]
    simp only
    rw [lt_f (by omega), List.drop_eq_nil_of_le (by omega)]
    rfl
  | succ k ih =>
    intro i hm
    rw [spec_Keeps_l0.eq_def]
    simp only
    rw [lt_t (by omega), if_pos rfl, idx_get (by omega), bs, bs, sBelow h hs, bs]
    have ih := ih (i + 1) (by omega)
    rw [wr_succ (by omega), List.drop_eq_getElem_cons (by omega : i < cs.length), List.all_cons]
    generalize ((i + 1 : Nat) : Int) = M at ih ⊢
    generalize (List.drop (i + 1) cs).all (keepB s n) = r at ih ⊢
    cases h1 : keepB s n cs[i] <;> cases r <;> simp only [ih, if_true, if_false, Bool.true_and, Bool.false_and, Bool.false_eq_true]
theorem iKeeps_l0 (cs : List GCell) (hc : cs.length ≤ 1048576) : ∀ (k i : Nat), i + k = cs.length → ∃ r, slices_IndexFunc_Cell_K52_l0 (cs, s, (i : Int)) = some r ∧ (match r with | .inl _ => (cs.drop i).all (keepB s n) = true | .inr m => (cs.drop i).all (keepB s n) = false ∧ m ≥ 0) := by
  intro k
  induction k with
  | zero =>
    intro i hm
    rw [slices_IndexFunc_Cell_K52_l0.eq_def]
    simp only
    rw [lt_f (by omega), List.drop_eq_nil_of_le (by omega)]
    exact ⟨_, rfl, rfl⟩
  | succ k ih =>
    intro i hm
    rw [slices_IndexFunc_Cell_K52_l0.eq_def]
    simp only
    rw [lt_t (by omega), if_pos rfl, idx_get (by omega), bs, iKeep_c1 h, bs]
    obtain ⟨r, h1, h2⟩ := ih (i + 1) (by omega)
    rw [wr_succ (by omega), List.drop_eq_getElem_cons (by omega : i < cs.length), List.all_cons]
    cases hq : keepB s n cs[i] with
    | false => exact ⟨.inr (i : Int), by simp, by simp⟩
    | true => exact ⟨r, by simpa using h1, by simpa using h2⟩
end
theorem keeps_eq (s : GSystem) (cs : List GCell) (hc : cs.length ≤ 1048576) : ∃ r, spec_Keeps (s, cs) = some r ∧ impl_Keeps (s, cs) = some r := by
  unfold spec_Keeps impl_Keeps
  simp only
  rw [sSys, iSys]
  cases hs : sysB s with
  | false => exact ⟨false, rfl, rfl⟩
  | true =>
    have T := sysB_tab hs
    have h1 := sKeeps_l0 T hs cs hc cs.length 0 (by omega)
    obtain ⟨r, h2, h3⟩ := iKeeps_l0 T cs hc cs.length 0 (by omega)
    rw [show ((0 : Nat) : Int) = 0 from rfl] at h1 h2
    refine ⟨(cs.drop 0).all (keepB s s.fSize.toNat), ?_, ?_⟩
    · rw [bs, if_pos rfl, h1]
      cases (cs.drop 0).all (keepB s s.fSize.toNat) <;> rfl
    · unfold slices_ContainsFunc_Cell_K52 slices_IndexFunc_Cell_K52
      simp only
      rw [bs, if_pos rfl, h2]
      cases r with
      | inl u => simp only at h3; rw [h3]; rfl
      | inr m => simp only at h3; rw [h3.1]; simp [bs, h3.2]
end Go.Am
