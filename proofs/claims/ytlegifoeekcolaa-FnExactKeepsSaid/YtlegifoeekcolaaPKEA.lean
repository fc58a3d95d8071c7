/- Plain laws of the printed functions: what the law files' own helpers answer. -/
import Derived.Test.YtlegifoeekcolaaGKEF4
set_option linter.unusedSimpArgs false
set_option linter.unusedVariables false
namespace Go.Am

theorem wr_id {x : Int} (h1 : -9223372036854775808 ≤ x) (h2 : x ≤ 9223372036854775807) : wr x = x := by
  unfold wr IntKind.wrap
  simp [IntKind.bits, IntKind.signed]
  omega

theorem idx_get {α : Type} {l : List α} {n : Nat} (h : n < l.length) : idx l (n : Int) = some l[n] := by
  unfold idx
  rw [if_pos (by omega)]
  simp [h]
theorem bs {α β : Type} (a : α) (f : α → Option β) : (some a >>= f) = f a := rfl


/-- A round number as the loops hold it. -/
theorem wr_succ {n : Nat} (h : n < 9223372036854775807) : wr ((n : Int) + 1) = ((n + 1 : Nat) : Int) := by
  rw [wr_id (by omega) (by omega)]; omega
theorem lt_t {n m : Nat} (h : n < m) : decide ((n : Int) < (m : Int)) = true := decide_eq_true (by omega)
theorem lt_f {n m : Nat} (h : m ≤ n) : decide ((n : Int) < (m : Int)) = false := decide_eq_false (by omega)
theorem take_set_succ {α : Type} {l a : List α} {n : Nat} (hl : l.length = a.length) (hn : n < a.length) (h : l.take n = a.take n) : (l.set n a[n]).take (n + 1) = a.take (n + 1) := by
  apply List.ext_getElem?
  intro i
  rw [List.getElem?_take, List.getElem?_take]
  by_cases hi : i < n + 1
  · rw [if_pos hi, if_pos hi, List.getElem?_set]
    by_cases e : n = i
    · subst e
      rw [if_pos rfl, if_pos (by omega), List.getElem?_eq_getElem hn]
    · rw [if_neg e]
      have := congrArg (fun l => l[i]?) h
      simp only [List.getElem?_take] at this
      rw [if_pos (by omega), if_pos (by omega)] at this
      exact this
  · rw [if_neg hi, if_neg hi]

theorem toIntS_l0 (a : List Int) (ha : a.length ≤ 1048576) : ∀ (k n : Nat) (out : List Int), n + k = a.length → out.length = a.length → out.take n = a.take n → laws_toIntS_l0 (a, out, (n : Int)) = some a := by
  intro k
  induction k with
  | zero =>
    intro n out hn hl ht
    rw [laws_toIntS_l0.eq_def]
    simp only
    rw [lt_f (by omega)]
    have h1 : out.take n = out := List.take_of_length_le (by omega)
    have h2 : a.take n = a := List.take_of_length_le (by omega)
    rw [h1, h2] at ht
    simp [ht]
  | succ k ih =>
    intro n out hn hl ht
    rw [laws_toIntS_l0.eq_def]
    simp only
    rw [lt_t (by omega), if_pos rfl, idx_get (by omega), bs, idx_get (by omega), bs, wr_succ (by omega), Int.toNat_natCast]
    exact ih (n + 1) _ (by omega) (by simpa using hl) (take_set_succ hl (by omega) ht)
theorem toIntS_id (a : List Int) (ha : a.length ≤ 1048576) : laws_toIntS a = some a := by
  unfold laws_toIntS
  have : chk (0 ≤ (a.length : Int) ∧ (Int.toNat (a.length : Int)) * 8 ≤ 140737488355328) = some () := by
    unfold chk; rw [if_pos]; refine ⟨by omega, ?_⟩; rw [Int.toNat_natCast]; omega
  rw [this, bs, Int.toNat_natCast]
  have := toIntS_l0 a ha a.length 0 (List.replicate a.length 0) (by omega) (by simp) rfl
  rw [show ((0 : Nat) : Int) = 0 from rfl] at this
  rw [this, bs]
theorem toBoolS_l0 (a : List Bool) (ha : a.length ≤ 1048576) : ∀ (k n : Nat) (out : List Bool), n + k = a.length → out.length = a.length → out.take n = a.take n → laws_toBoolS_l0 (a, out, (n : Int)) = some a := by
  intro k
  induction k with
  | zero =>
    intro n out hn hl ht
    rw [laws_toBoolS_l0.eq_def]
    simp only
    rw [lt_f (by omega)]
    have h1 : out.take n = out := List.take_of_length_le (by omega)
    have h2 : a.take n = a := List.take_of_length_le (by omega)
    rw [h1, h2] at ht
    simp [ht]
  | succ k ih =>
    intro n out hn hl ht
    rw [laws_toBoolS_l0.eq_def]
    simp only
    rw [lt_t (by omega), if_pos rfl, idx_get (by omega), bs, idx_get (by omega), bs, wr_succ (by omega), Int.toNat_natCast]
    exact ih (n + 1) _ (by omega) (by simpa using hl) (take_set_succ hl (by omega) ht)
theorem toBoolS_id (a : List Bool) (ha : a.length ≤ 1048576) : laws_toBoolS a = some a := by
  unfold laws_toBoolS
  have : chk (0 ≤ (a.length : Int) ∧ (Int.toNat (a.length : Int)) * 1 ≤ 140737488355328) = some () := by
    unfold chk; rw [if_pos]; refine ⟨by omega, ?_⟩; rw [Int.toNat_natCast]; omega
  rw [this, bs, Int.toNat_natCast]
  have := toBoolS_l0 a ha a.length 0 (List.replicate a.length false) (by omega) (by simp) rfl
  rw [show ((0 : Nat) : Int) = 0 from rfl] at this
  rw [this, bs]
theorem toCellS_l0 (a : List GCell) (ha : a.length ≤ 1048576) : ∀ (k n : Nat) (out : List GCell), n + k = a.length → out.length = a.length → out.take n = a.take n → laws_toCellS_l0 (a, out, (n : Int)) = some a := by
  intro k
  induction k with
  | zero =>
    intro n out hn hl ht
    rw [laws_toCellS_l0.eq_def]
    simp only
    rw [lt_f (by omega)]
    have h1 : out.take n = out := List.take_of_length_le (by omega)
    have h2 : a.take n = a := List.take_of_length_le (by omega)
    rw [h1, h2] at ht
    simp [ht]
  | succ k ih =>
    intro n out hn hl ht
    rw [laws_toCellS_l0.eq_def]
    simp only
    rw [lt_t (by omega), if_pos rfl, idx_get (by omega), bs, show ∀ c, laws_toCell c = some c from fun _ => rfl, bs, idx_get (by omega), bs, wr_succ (by omega), Int.toNat_natCast]
    exact ih (n + 1) _ (by omega) (by simpa using hl) (take_set_succ hl (by omega) ht)
theorem toCellS_id (a : List GCell) (ha : a.length ≤ 1048576) : laws_toCellS a = some a := by
  unfold laws_toCellS
  have : chk (0 ≤ (a.length : Int) ∧ (Int.toNat (a.length : Int)) * 16 ≤ 140737488355328) = some () := by
    unfold chk; rw [if_pos]; refine ⟨by omega, ?_⟩; rw [Int.toNat_natCast]; omega
  rw [this, bs, Int.toNat_natCast]
  have := toCellS_l0 a ha a.length 0 (List.replicate a.length (GCell.mk 0 0)) (by omega) (by simp) rfl
  rw [show ((0 : Nat) : Int) = 0 from rfl] at this
  rw [this, bs]
theorem bne_self {a : Int} : (a != a) = false := by simp
theorem eqIntS_l0 (a : List Int) (ha : a.length ≤ 1048576) : ∀ (k n : Nat), n + k = a.length → laws_eqIntS_l0 (a, a, (n : Int)) = some (.inl ()) := by
  intro k
  induction k with
  | zero =>
    intro n hn
    rw [laws_eqIntS_l0.eq_def]
    simp only
    rw [lt_f (by omega)]
    rfl
  | succ k ih =>
    intro n hn
    rw [laws_eqIntS_l0.eq_def]
    simp only
    rw [lt_t (by omega), if_pos rfl, idx_get (by omega), bs, bs, bne_self, if_neg (by decide), wr_succ (by omega)]
    exact ih (n + 1) (by omega)
theorem eqIntS_refl (a : List Int) (ha : a.length ≤ 1048576) : laws_eqIntS (a, a) = some true := by
  unfold laws_eqIntS
  simp only
  have := eqIntS_l0 a ha a.length 0 (by omega)
  rw [show ((0 : Nat) : Int) = 0 from rfl] at this
  rw [bne_self, if_neg (by decide), this]
  rfl
theorem eqBoolS_l0 (a : List Bool) (ha : a.length ≤ 1048576) : ∀ (k n : Nat), n + k = a.length → laws_eqBoolS_l0 (a, a, (n : Int)) = some (.inl ()) := by
  intro k
  induction k with
  | zero =>
    intro n hn
    rw [laws_eqBoolS_l0.eq_def]
    simp only
    rw [lt_f (by omega)]
    rfl
  | succ k ih =>
    intro n hn
    rw [laws_eqBoolS_l0.eq_def]
    simp only
    rw [lt_t (by omega), if_pos rfl, idx_get (by omega), bs, bs, show ∀ b : Bool, (b == b) = true from by decide, if_pos rfl, wr_succ (by omega)]
    exact ih (n + 1) (by omega)
theorem eqBoolS_refl (a : List Bool) (ha : a.length ≤ 1048576) : laws_eqBoolS (a, a) = some true := by
  unfold laws_eqBoolS
  simp only
  have := eqBoolS_l0 a ha a.length 0 (by omega)
  rw [show ((0 : Nat) : Int) = 0 from rfl] at this
  rw [bne_self, if_neg (by decide), this]
  rfl
theorem eqCell_refl (c : GCell) : laws_eqCell (c, c) = some true := by
  unfold laws_eqCell
  simp only
  rw [bne_self, if_neg (by decide), bne_self, if_neg (by decide)]
theorem eqCellS_l0 (a : List GCell) (ha : a.length ≤ 1048576) : ∀ (k n : Nat), n + k = a.length → laws_eqCellS_l0 (a, a, (n : Int)) = some (.inl ()) := by
  intro k
  induction k with
  | zero =>
    intro n hn
    rw [laws_eqCellS_l0.eq_def]
    simp only
    rw [lt_f (by omega)]
    rfl
  | succ k ih =>
    intro n hn
    rw [laws_eqCellS_l0.eq_def]
    simp only
    rw [lt_t (by omega), if_pos rfl, idx_get (by omega), bs, bs, eqCell_refl, bs, if_pos rfl, wr_succ (by omega)]
    exact ih (n + 1) (by omega)
theorem eqCellS_refl (a : List GCell) (ha : a.length ≤ 1048576) : laws_eqCellS (a, a) = some true := by
  unfold laws_eqCellS
  simp only
  have := eqCellS_l0 a ha a.length 0 (by omega)
  rw [show ((0 : Nat) : Int) = 0 from rfl] at this
  rw [bne_self, if_neg (by decide), this]
  rfl
theorem toSystem_id (s : GSystem) (h1 : s.fPlus.length ≤ 1048576) (h2 : s.fTimes.length ≤ 1048576) (h3 : s.fBelow.length ≤ 1048576) : laws_toSystem s = some s := by
  unfold laws_toSystem
  rw [toIntS_id _ h1, bs, toIntS_id _ h2, bs, toBoolS_id _ h3, bs]
theorem eqSystem_refl (s : GSystem) (h1 : s.fPlus.length ≤ 1048576) (h2 : s.fTimes.length ≤ 1048576) (h3 : s.fBelow.length ≤ 1048576) : laws_eqSystem (s, s) = some true := by
  unfold laws_eqSystem
  simp only
  rw [bne_self, if_neg (by decide), eqIntS_refl _ h1, bs, if_pos rfl, eqIntS_refl _ h2, bs, if_pos rfl, eqBoolS_refl _ h3, bs, if_pos rfl]
end Go.Am
