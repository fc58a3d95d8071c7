/- Plain laws of the printed functions. -/
import Derived.Test.YtmdfopkcoinfeaaPNF0
set_option linter.unusedSimpArgs false
set_option linter.unusedVariables false
namespace Go.Am
theorem wB_tms {t : GTerm} (h : wB t = true) : tms t ≤ 17200 := by
  obtain ⟨h1, h2⟩ := wB_of h
  have := (tms_tsz t 8 h1).1
  omega
def nfS (R : Option (GTerm × Nat)) : (Int × Int × Int × List Int × List GTerm) ⊕ (GTerm × Int × Bool) := match R with | some (y, m) => .inl ((m : Int), y.fOp, y.fN, y.fType, y.fKids) | none => .inr (noT, 0, false)
def nfI (R : Option (GTerm × Nat)) : (Int × Int × List Int × List GTerm × Int) ⊕ (GTerm × Int × Bool) := match R with | some (y, m) => .inl (y.fOp, y.fN, y.fType, y.fKids, (m : Int)) | none => .inr (noT, 0, false)
theorem norm_l0 (most : Nat) (hmost : most ≤ 1000) : ∀ (d n : Nat) (x : GTerm), n + d = most → wB x = true → ∃ R : Option (GTerm × Nat), spec_NormalForm_l0 ((most : Int), (n : Int), x.fOp, x.fN, x.fType, x.fKids) = some (nfS R) ∧ impl_NormalForm_l0 ((most : Int), x.fOp, x.fN, x.fType, x.fKids, (n : Int)) = some (nfI R) ∧ ∀ y m, R = some (y, m) → wB y = true := by
  intro d
  induction d with
  | zero =>
    intro n x hn hw
    have hm := wB_tms hw
    obtain ⟨r, r1, r2⟩ := normal_eq x (by omega)
    obtain ⟨w, b, s1, s2, _, s4⟩ := step_wB x (by omega)
    have hnm : n = most := by omega
    subst hnm
    cases r
    · refine ⟨none, ?_, ?_, fun y m e => by cases e⟩
      · rw [spec_NormalForm_l0.eq_def]
        simp only [GTerm_eta, r1, s1, bs, Bool.false_eq_true, if_false, beq_self_eq_true]
        cases b <;> rfl
      · rw [impl_NormalForm_l0.eq_def]
        simp only [GTerm_eta, r2, s2, bs, Bool.false_eq_true, if_false, beq_self_eq_true, if_true]
        rfl
    · refine ⟨some (x, n), ?_, ?_, fun y m e => by cases e; exact hw⟩
      · rw [spec_NormalForm_l0.eq_def]
        simp only [GTerm_eta, r1, bs, if_true]
        rfl
      · rw [impl_NormalForm_l0.eq_def]
        simp only [GTerm_eta, r2, bs, if_true]
        rfl
  | succ d ih =>
    intro n x hn hw
    have hm := wB_tms hw
    obtain ⟨r, r1, r2⟩ := normal_eq x (by omega)
    obtain ⟨w, b, s1, s2, _, s4⟩ := step_wB x (by omega)
    have hne : ((n : Int) == (most : Int)) = false := beq_eq_false_iff_ne.2 (by omega)
    cases r
    · cases b
      · refine ⟨none, ?_, ?_, fun y m e => by cases e⟩
        · rw [spec_NormalForm_l0.eq_def]
          simp only [GTerm_eta, r1, s1, bs, Bool.false_eq_true, if_false, if_true]
          rfl
        · rw [impl_NormalForm_l0.eq_def]
          simp only [GTerm_eta, r2, s2, bs, Bool.false_eq_true, if_false, hne, Bool.not_false, if_true]
          rfl
      · obtain ⟨R, q1, q2, q3⟩ := ih (n + 1) w (by omega) (s4 rfl)
        refine ⟨R, ?_, ?_, q3⟩
        · rw [spec_NormalForm_l0.eq_def]
          simp only [GTerm_eta, r1, s1, bs, Bool.false_eq_true, if_false, if_true, hne]
          rw [wr_succ (by omega), q1]
        · rw [impl_NormalForm_l0.eq_def]
          simp only [GTerm_eta, r2, s2, bs, Bool.false_eq_true, if_false, hne, Bool.not_true]
          rw [wr_succ (by omega), q2]
    · refine ⟨some (x, n), ?_, ?_, fun y m e => by cases e; exact hw⟩
      · rw [spec_NormalForm_l0.eq_def]
        simp only [GTerm_eta, r1, bs, if_true]
        rfl
      · rw [impl_NormalForm_l0.eq_def]
        simp only [GTerm_eta, r2, bs, if_true]
        rfl
theorem normalForm_same (t : GTerm) (most : Int) (ht : tms t ≤ 1048576) (hl : tln t) (hmost : -9223372036854775808 ≤ most ∧ most ≤ 9223372036854775807) : ∃ w n b, spec_NormalForm (t, most) = some (w, n, b) ∧ impl_NormalForm (t, most) = some (w, n, b) ∧ tms w ≤ 1099511627776 := by
  unfold spec_NormalForm impl_NormalForm
  have hno : tms noT ≤ 1099511627776 := by simp [noT, tms, tmss]
  simp only
  rw [sWritten t (by omega), iWritten t (by omega), sIn, iIn]
  cases hw : wB t
  · exact ⟨noT, 0, false, rfl, rfl, hno⟩
  · cases hi : inB most 0 300
    · exact ⟨noT, 0, false, rfl, rfl, hno⟩
    · unfold inB at hi
      simp only [Bool.and_eq_true, decide_eq_true_eq] at hi
      obtain ⟨k, rfl⟩ : ∃ k : Nat, most = (k : Int) := ⟨most.toNat, by omega⟩
      obtain ⟨R, r1, r2, r3⟩ := norm_l0 k (by omega) k 0 t (by omega) hw
      rw [show ((0 : Nat) : Int) = 0 from rfl] at r1 r2
      have hsh := sShift0 (tNb_mono (by omega) t (wB_Nb hw)) (by omega : tms t ≤ 1099511627776)
      simp only [bs, if_true, Bool.not_true, Bool.false_eq_true, if_false, hsh, r1, r2]
      match R, r3 with
      | none, _ => exact ⟨noT, 0, false, rfl, rfl, hno⟩
      | some (y, m), r3 =>
        have hy := r3 y m rfl
        have hym := wB_tms hy
        refine ⟨y, m, true, ?_, ?_, by omega⟩
        · simp only [nfS, GTerm_eta]
        · simp only [nfI, GTerm_eta, iCopyT y (by omega), bs]
theorem normalForm_true (x0 : GTerm) (x1 : Int) (hx0 : tln x0) (hx1 : (-9223372036854775808 ≤ x1 ∧ x1 ≤ 9223372036854775807)) : laws_FnExactNormalForm (x0, x1) = some true := by
  unfold laws_FnExactNormalForm
  simp only
  rw [szTerm_eq x0 (1048576) hx0 (by omega) (by omega), bs]
  rcases szB_cases (1048576) (tms x0) with ⟨e0, l0⟩ | ⟨e0, l0⟩
  · rw [e0]; rfl
  · rw [e0, decide_eq_false (by omega), if_neg (by decide)]
    have bx0 : tms x0 ≤ 1048576 := by omega
    obtain ⟨w0, w1, w2, s1, s2, c0⟩ := normalForm_same x0 x1 bx0 hx0 hx1
    obtain ⟨Mx0, mx0⟩ := markTerm_only x0 (1) (by omega) (by omega)
    have zx0 := mct_le x0
    obtain ⟨N0, n0, n0'⟩ := markTerm_held w0 (1) (by omega) (by omega)
    have y0 := mct_le w0
    rw [show ((1 : Nat) : Int) = 1 from rfl] at mx0 n0 n0'
    simp only [s1, s2, bs, toTerm_id x0 (by omega), eqTerm_refl x0 (by omega), eqTerm_refl w0 (by omega), mx0, n0, n0' w0.fOp w0.fN, beq_self_b, if_true, if_false, Bool.false_eq_true, bne_self, Bool.not_true, Bool.not_false, beq_self_t, beq_self_eq_true]
    repeat (rw [decide_eq_false (by omega)]; simp only [bs, Bool.false_eq_true, if_false, if_true, bne_self, beq_self_b, Bool.not_true, n0, n0' w0.fOp w0.fN])
end Go.Am
