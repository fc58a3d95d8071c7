/- Plain laws: both functions IsSystem answer alike. -/
import Derived.Test.YtlegifoeekcolaaPKED
set_option linter.unusedSimpArgs false
set_option linter.unusedVariables false
namespace Go.Am

structure Form (s : GSystem) (n : Nat) : Prop where
  size : s.fSize = (n : Int)
  lo : 2 ≤ n
  hi : n ≤ 16
  lp : s.fPlus.length = n * n
  lt : s.fTimes.length = n * n
  lb : s.fBelow.length = n * n
def entB (s : GSystem) (n i : Nat) : Bool := inB (s.fPlus.getD i 0) 0 ((n : Int) - 1) && inB (s.fTimes.getD i 0) 0 ((n : Int) - 1)

section
variable {s : GSystem} {n : Nat} (h : Form s n)
include h
theorem nn : n * n ≤ 256 := Nat.le_trans (Nat.mul_le_mul h.hi h.hi) (by decide)
theorem idxP {i : Nat} (hi : i < n * n) : idx s.fPlus (i : Int) = some (s.fPlus.getD i 0) := by
  have hl : i < s.fPlus.length := by rw [h.lp]; exact hi
  rw [idx_get hl, List.getD_eq_getElem?_getD, List.getElem?_eq_getElem hl]; rfl
theorem idxT {i : Nat} (hi : i < n * n) : idx s.fTimes (i : Int) = some (s.fTimes.getD i 0) := by
  have hl : i < s.fTimes.length := by rw [h.lt]; exact hi
  rw [idx_get hl, List.getD_eq_getElem?_getD, List.getElem?_eq_getElem hl]; rfl
theorem wr_dec : wr (s.fSize - 1) = (n : Int) - 1 := by
  have := h.lo; have := h.hi
  rw [h.size, wr_id (by omega) (by omega)]
theorem sTab_l0 : ∀ (k i : Nat), i + k = n * n → spec_l1Tables_l0 (s, (i : Int)) = some (if (List.range' i k).all (entB s n) then .inl () else .inr false) := by
  have hn := nn h
  intro k
  induction k with
  | zero =>
    intro i hm
    rw [spec_l1Tables_l0.eq_def]
    simp only
    rw [h.lp, lt_f (by omega)]
    rfl
  | succ k ih =>
    intro i hm
    rw [spec_l1Tables_l0.eq_def]
    simp only
    rw [h.lp, lt_t (by omega), if_pos rfl, idxP h (by omega), idxT h (by omega), wr_dec h]
    have ih := ih (i + 1) (by omega)
    rw [wr_succ (by omega), List.range'_succ, List.all_cons]
    generalize ((i + 1 : Nat) : Int) = M at ih ⊢
    generalize (List.range' (i + 1) k).all (entB s n) = r at ih ⊢
    simp only [bs, sIn]
    cases h1 : inB (s.fPlus.getD i 0) 0 ((n : Int) - 1) <;> cases h2 : inB (s.fTimes.getD i 0) 0 ((n : Int) - 1) <;> cases r <;> simp only [entB, h1, h2, ih, bs, Bool.not_true, Bool.not_false, Bool.true_and, Bool.false_and, Bool.and_true, Bool.and_false, if_true, if_false, Bool.false_eq_true]
theorem iTab_l0 : ∀ (k i : Nat), i + k = n * n → impl_IsSystem_l0 (s, (i : Int)) = some (if (List.range' i k).all (entB s n) then .inl () else .inr false) := by
  have hn := nn h
  intro k
  induction k with
  | zero =>
    intro i hm
    rw [impl_IsSystem_l0.eq_def]
    simp only
    rw [h.lp, lt_f (by omega)]
    rfl
  | succ k ih =>
    intro i hm
    rw [impl_IsSystem_l0.eq_def]
    simp only
    rw [h.lp, lt_t (by omega), if_pos rfl, idxP h (by omega), idxT h (by omega)]
    have ih := ih (i + 1) (by omega)
    rw [wr_succ (by omega), List.range'_succ, List.all_cons]
    generalize ((i + 1 : Nat) : Int) = M at ih ⊢
    generalize (List.range' (i + 1) k).all (entB s n) = r at ih ⊢
    have hh : ∀ x, impl_Systemhas (s, x) = some (inB x 0 ((n : Int) - 1)) := fun x => by
      unfold impl_Systemhas
      simp only
      rw [wr_dec h, iIn, bs]
    simp only [bs, hh]
    cases h1 : inB (s.fPlus.getD i 0) 0 ((n : Int) - 1) <;> cases h2 : inB (s.fTimes.getD i 0) 0 ((n : Int) - 1) <;> cases r <;> simp only [entB, h1, h2, ih, bs, Bool.not_true, Bool.not_false, Bool.true_and, Bool.false_and, Bool.and_true, Bool.and_false, if_true, if_false, Bool.false_eq_true]
theorem tab_of (he : (List.range' 0 (n * n)).all (entB s n) = true) : Tab s n := by
  rw [List.all_eq_true] at he
  have hent : ∀ i, i < n * n → entB s n i = true := fun i hi => he i (by rw [List.mem_range'_1]; omega)
  refine ⟨h.size, h.lo, h.hi, h.lp, h.lt, h.lb, fun i hi => ?_, fun i hi => ?_⟩
  · have := hent i (by rw [← h.lp]; exact hi)
    simp only [entB, inB, Bool.and_eq_true, decide_eq_true_eq, List.getD_eq_getElem?_getD, List.getElem?_eq_getElem hi, Option.getD_some] at this
    omega
  · have := hent i (by rw [← h.lt]; exact hi)
    simp only [entB, inB, Bool.and_eq_true, decide_eq_true_eq, List.getD_eq_getElem?_getD, List.getElem?_eq_getElem hi, Option.getD_some] at this
    omega
end

/-- Whether the sizes are right. -/
def formB (s : GSystem) : Bool := inB s.fSize 2 16 && !((s.fPlus.length : Int) != (wr (s.fSize * s.fSize))) && !((s.fTimes.length : Int) != (wr (s.fSize * s.fSize))) && !((s.fBelow.length : Int) != (wr (s.fSize * s.fSize)))
theorem form_of {s : GSystem} (h : formB s = true) : Form s s.fSize.toNat := by
  unfold formB at h
  simp only [Bool.and_eq_true, Bool.not_eq_true', inB, decide_eq_true_eq, bne_eq_false_iff_eq] at h
  obtain ⟨⟨⟨⟨h1, h2⟩, h3⟩, h4⟩, h5⟩ := h
  obtain ⟨n, hn⟩ : ∃ n : Nat, s.fSize = (n : Int) := ⟨s.fSize.toNat, by omega⟩
  rw [hn] at h1 h2 h3 h4 h5 ⊢
  have h256 : n * n ≤ 256 := Nat.le_trans (Nat.mul_le_mul (by omega : n ≤ 16) (by omega : n ≤ 16)) (by decide)
  have e : (n : Int) * (n : Int) = ((n * n : Nat) : Int) := by simp
  rw [e] at h3 h4 h5
  generalize hm : n * n = m at *
  rw [wr_id (by omega) (by omega)] at h3 h4 h5
  rw [Int.toNat_natCast]
  exact ⟨hn, by omega, by omega, by omega, by omega, by omega⟩
def sysB (s : GSystem) : Bool := formB s && (List.range' 0 (s.fSize.toNat * s.fSize.toNat)).all (entB s s.fSize.toNat) && sysM s s.fSize.toNat
theorem sysB_tab {s : GSystem} (h : sysB s = true) : Tab s s.fSize.toNat := by
  unfold sysB at h
  simp only [Bool.and_eq_true] at h
  exact tab_of (form_of h.1.1) h.1.2
theorem sSys (s : GSystem) : spec_IsSystem s = some (sysB s) := by
  unfold spec_IsSystem spec_l1Tables sysB
  rw [sIn]
  cases hf : formB s with
  | false =>
    unfold formB at hf
    cases h1 : inB s.fSize 2 16 <;> cases h2 : ((s.fPlus.length : Int) != (wr (s.fSize * s.fSize))) <;> cases h3 : ((s.fTimes.length : Int) != (wr (s.fSize * s.fSize))) <;> cases h4 : ((s.fBelow.length : Int) != (wr (s.fSize * s.fSize))) <;> simp_all [bs]
  | true =>
    have F := form_of hf
    have hl := sTab_l0 F (s.fSize.toNat * s.fSize.toNat) 0 (by omega)
    rw [show ((0 : Nat) : Int) = 0 from rfl] at hl
    unfold formB at hf
    simp only [Bool.and_eq_true, Bool.not_eq_true'] at hf
    obtain ⟨⟨⟨h1, h2⟩, h3⟩, h4⟩ := hf
    cases he : (List.range' 0 (s.fSize.toNat * s.fSize.toNat)).all (entB s s.fSize.toNat) with
    | false => rw [he] at hl; simp [bs, h1, h2, h3, h4, hl]
    | true =>
      have T := tab_of F he
      have hl2 := sSys_l2 T s.fSize.toNat 0 (by omega)
      rw [show ((0 : Nat) : Int) = 0 from rfl] at hl2
      rw [he] at hl
      have hm : (List.range' 0 s.fSize.toNat).all (fun a => one s s.fSize.toNat a && (List.range' 0 s.fSize.toNat).all fun b => two s s.fSize.toNat a b && (List.range' 0 s.fSize.toNat).all fun c => three s s.fSize.toNat a b c) = sysM s s.fSize.toNat := rfl
      rw [hm] at hl2
      cases hs : sysM s s.fSize.toNat <;> rw [hs] at hl2 <;> simp [bs, h1, h2, h3, h4, hl, hl2]
theorem iSys (s : GSystem) : impl_IsSystem s = some (sysB s) := by
  unfold impl_IsSystem sysB
  rw [iIn]
  cases hf : formB s with
  | false =>
    unfold formB at hf
    cases h1 : inB s.fSize 2 16 <;> cases h2 : ((s.fPlus.length : Int) != (wr (s.fSize * s.fSize))) <;> cases h3 : ((s.fTimes.length : Int) != (wr (s.fSize * s.fSize))) <;> cases h4 : ((s.fBelow.length : Int) != (wr (s.fSize * s.fSize))) <;> simp_all [bs]
  | true =>
    have F := form_of hf
    have hl := iTab_l0 F (s.fSize.toNat * s.fSize.toNat) 0 (by omega)
    rw [show ((0 : Nat) : Int) = 0 from rfl] at hl
    unfold formB at hf
    simp only [Bool.and_eq_true, Bool.not_eq_true'] at hf
    obtain ⟨⟨⟨h1, h2⟩, h3⟩, h4⟩ := hf
    cases he : (List.range' 0 (s.fSize.toNat * s.fSize.toNat)).all (entB s s.fSize.toNat) with
    | false => rw [he] at hl; simp [bs, h1, h2, h3, h4, hl]
    | true =>
      have T := tab_of F he
      have hl2 := iSys_l3 T s.fSize.toNat 0 (by omega)
      rw [show ((0 : Nat) : Int) = 0 from rfl] at hl2
      rw [he] at hl
      have hm : (List.range' 0 s.fSize.toNat).all (fun a => one s s.fSize.toNat a && (List.range' 0 s.fSize.toNat).all fun b => two s s.fSize.toNat a b && (List.range' 0 s.fSize.toNat).all fun c => three s s.fSize.toNat a b c) = sysM s s.fSize.toNat := rfl
      rw [hm] at hl2
      cases hs : sysM s s.fSize.toNat <;> rw [hs] at hl2 <;> simp [bs, h1, h2, h3, h4, hl, hl2]
end Go.Am
