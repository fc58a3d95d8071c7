/- Plain laws: what is a system. -/
import Derived.Test.YtlegifoeekcolaaPKEC
set_option linter.unusedSimpArgs false
set_option linter.unusedVariables false
namespace Go.Am

def inB (x lo hi : Int) : Bool := decide (x ≥ lo) && decide (x ≤ hi)
theorem sIn (x lo hi : Int) : spec_l1In (x, lo, hi) = some (inB x lo hi) := by
  unfold spec_l1In inB
  simp only
  cases decide (x ≥ lo) <;> simp [bs]
theorem iIn (x lo hi : Int) : impl_within (x, lo, hi) = some (inB x lo hi) := by
  unfold impl_within inB
  simp only
  cases decide (x ≥ lo) <;> simp [bs]

def sysM (s : GSystem) (n : Nat) : Bool := (List.range' 0 n).all fun a => one s n a && (List.range' 0 n).all fun b => two s n a b && (List.range' 0 n).all fun c => three s n a b c

section
variable {s : GSystem} {n : Nat} (h : Tab s n)
include h
theorem sSys_l0 {a b : Nat} (ha : a < n) (hb : b < n) : ∀ (k c : Nat), c + k = n → spec_IsSystem_l0 (s, (a : Int), (b : Int), (c : Int)) = some (if (List.range' c k).all (fun c => three s n a b c) then .inl () else .inr false) := by
  have hhi := h.hi
  intro k
  induction k with
  | zero =>
    intro c hm
    rw [spec_IsSystem_l0.eq_def]
    simp only
    rw [h.size, lt_f (by omega)]
    rfl
  | succ k ih =>
    intro c hm
    rw [spec_IsSystem_l0.eq_def]
    simp only
    rw [h.size, lt_t (by omega), if_pos rfl, sThree h ha hb (by omega), bs]
    have ih := ih (c + 1) (by omega)
    rw [wr_succ (by omega), List.range'_succ, List.all_cons]
    generalize ((c + 1 : Nat) : Int) = M at ih ⊢
    generalize (List.range' (c + 1) k).all (fun c => three s n a b c) = r at ih ⊢
    cases three s n a b c <;> cases r <;> simp [ih]
theorem iSys_l1 {a b : Nat} (ha : a < n) (hb : b < n) : ∀ (k c : Nat), c + k = n → impl_IsSystem_l1 (s, (a : Int), (b : Int), (c : Int)) = some (if (List.range' c k).all (fun c => three s n a b c) then .inl () else .inr false) := by
  have hhi := h.hi
  intro k
  induction k with
  | zero =>
    intro c hm
    rw [impl_IsSystem_l1.eq_def]
    simp only
    rw [h.size, lt_f (by omega)]
    rfl
  | succ k ih =>
    intro c hm
    rw [impl_IsSystem_l1.eq_def]
    simp only
    rw [h.size, lt_t (by omega), if_pos rfl, iThree h ha hb (by omega), bs]
    have ih := ih (c + 1) (by omega)
    rw [wr_succ (by omega), List.range'_succ, List.all_cons]
    generalize ((c + 1 : Nat) : Int) = M at ih ⊢
    generalize (List.range' (c + 1) k).all (fun c => three s n a b c) = r at ih ⊢
    cases three s n a b c <;> cases r <;> simp [ih]
theorem sSys_l1 {a : Nat} (ha : a < n) : ∀ (k b : Nat), b + k = n → spec_IsSystem_l1 (s, (a : Int), (b : Int)) = some (if (List.range' b k).all (fun b => two s n a b && (List.range' 0 n).all fun c => three s n a b c) then .inl () else .inr false) := by
  have hhi := h.hi
  intro k
  induction k with
  | zero =>
    intro c hm
    rw [spec_IsSystem_l1.eq_def]
    simp only
    rw [h.size, lt_f (by omega)]
    rfl
  | succ k ih =>
    intro b hm
    rw [spec_IsSystem_l1.eq_def]
    simp only
    have hl := sSys_l0 h ha (b := b) (by omega) n 0 (by omega)
    rw [show ((0 : Nat) : Int) = 0 from rfl] at hl
    rw [h.size, lt_t (by omega), if_pos rfl, sTwo h ha (by omega), bs, hl]
    have ih := ih (b + 1) (by omega)
    rw [wr_succ (by omega), List.range'_succ, List.all_cons]
    generalize ((b + 1 : Nat) : Int) = M at ih ⊢
    generalize (List.range' (b + 1) k).all (fun b => two s n a b && (List.range' 0 n).all fun c => three s n a b c) = r at ih ⊢
    cases two s n a b <;> cases (List.range' 0 n).all (fun c => three s n a b c) <;> cases r <;> simp [ih, bs]
theorem iSys_l2 {a : Nat} (ha : a < n) : ∀ (k b : Nat), b + k = n → impl_IsSystem_l2 (s, (a : Int), (b : Int)) = some (if (List.range' b k).all (fun b => two s n a b && (List.range' 0 n).all fun c => three s n a b c) then .inl () else .inr false) := by
  have hhi := h.hi
  intro k
  induction k with
  | zero =>
    intro c hm
    rw [impl_IsSystem_l2.eq_def]
    simp only
    rw [h.size, lt_f (by omega)]
    rfl
  | succ k ih =>
    intro b hm
    have hb : b < n := by omega
    rw [impl_IsSystem_l2.eq_def]
    simp only
    have hl := iSys_l1 h ha (b := b) (by omega) n 0 (by omega)
    rw [show ((0 : Nat) : Int) = 0 from rfl] at hl
    rw [h.size, lt_t (by omega), if_pos rfl, iAdd h ha hb, iAdd h hb ha, iLe h ha hb, iLe h hb ha, iJoin h ha hb, hl]
    have ih := ih (b + 1) (by omega)
    rw [wr_succ (by omega), List.range'_succ, List.all_cons]
    generalize ((b + 1 : Nat) : Int) = M at ih ⊢
    generalize (List.range' (b + 1) k).all (fun b => two s n a b && (List.range' 0 n).all fun c => three s n a b c) = r at ih ⊢
    simp only [bs, cast_bne, lt_ge]
    cases h1 : (pl s n a b == pl s n b a) <;> cases h2 : (a == b) <;> cases h3 : decide (joinI s n a b ≥ 0) <;> cases h4 : le s n a b <;> cases h5 : le s n b a <;> cases h6 : (List.range' 0 n).all (fun c => three s n a b c) <;> cases r <;> simp only [two, bne, h1, h2, h3, h4, h5, h6, ih, bs, Bool.not_true, Bool.not_false, Bool.true_and, Bool.false_and, Bool.and_true, Bool.and_false, Bool.true_or, Bool.false_or, Bool.or_true, Bool.or_false, if_true, if_false, Bool.false_eq_true]
theorem sSys_l2 : ∀ (k a : Nat), a + k = n → spec_IsSystem_l2 (s, (a : Int)) = some (if (List.range' a k).all (fun a => one s n a && (List.range' 0 n).all fun b => two s n a b && (List.range' 0 n).all fun c => three s n a b c) then .inl () else .inr false) := by
  have hhi := h.hi
  intro k
  induction k with
  | zero =>
    intro c hm
    rw [spec_IsSystem_l2.eq_def]
    simp only
    rw [h.size, lt_f (by omega)]
    rfl
  | succ k ih =>
    intro a hm
    have ha : a < n := by omega
    rw [spec_IsSystem_l2.eq_def]
    simp only
    have hl := sSys_l1 h ha n 0 (by omega)
    rw [show ((0 : Nat) : Int) = 0 from rfl] at hl
    rw [h.size, lt_t (by omega), if_pos rfl, sOne h ha, bs, hl]
    have ih := ih (a + 1) (by omega)
    rw [wr_succ (by omega), List.range'_succ, List.all_cons]
    generalize ((a + 1 : Nat) : Int) = M at ih ⊢
    generalize (List.range' (a + 1) k).all (fun a => one s n a && (List.range' 0 n).all fun b => two s n a b && (List.range' 0 n).all fun c => three s n a b c) = r at ih ⊢
    cases one s n a <;> cases (List.range' 0 n).all (fun b => two s n a b && (List.range' 0 n).all fun c => three s n a b c) <;> cases r <;> simp [ih, bs]
theorem iSys_l3 : ∀ (k a : Nat), a + k = n → impl_IsSystem_l3 (s, (a : Int)) = some (if (List.range' a k).all (fun a => one s n a && (List.range' 0 n).all fun b => two s n a b && (List.range' 0 n).all fun c => three s n a b c) then .inl () else .inr false) := by
  have hhi := h.hi
  have l0 : (0 : Nat) < n := by have := h.lo; omega
  have l1 : (1 : Nat) < n := by have := h.lo; omega
  intro k
  induction k with
  | zero =>
    intro c hm
    rw [impl_IsSystem_l3.eq_def]
    simp only
    rw [h.size, lt_f (by omega)]
    rfl
  | succ k ih =>
    intro a hm
    have ha : a < n := by omega
    rw [impl_IsSystem_l3.eq_def]
    simp only
    have hl := iSys_l2 h ha n 0 (by omega)
    have q1 : impl_Systemplus (s, 0, (a : Int)) = _ := iAdd h l0 ha
    have q2 : impl_Systemtimes (s, 1, (a : Int)) = _ := iMul h l1 ha
    have q3 : impl_Systemtimes (s, (a : Int), 1) = _ := iMul h ha l1
    have q4 : impl_Systemtimes (s, 0, (a : Int)) = _ := iMul h l0 ha
    have q5 : impl_Systemtimes (s, (a : Int), 0) = _ := iMul h ha l0
    have z1 : (((ti s n 0 a : Nat) : Int) != 0) = (ti s n 0 a != 0) := cast_bne _ 0
    have z2 : (((ti s n a 0 : Nat) : Int) != 0) = (ti s n a 0 != 0) := cast_bne _ 0
    rw [show ((0 : Nat) : Int) = 0 from rfl] at hl
    rw [h.size, lt_t (by omega), if_pos rfl, q1, q2, q3, q4, q5, iLe h ha ha, hl]
    have ih := ih (a + 1) (by omega)
    rw [wr_succ (by omega), List.range'_succ, List.all_cons]
    generalize ((a + 1 : Nat) : Int) = M at ih ⊢
    generalize (List.range' (a + 1) k).all (fun a => one s n a && (List.range' 0 n).all fun b => two s n a b && (List.range' 0 n).all fun c => three s n a b c) = r at ih ⊢
    simp only [bs, cast_bne, z1, z2]
    cases h1 : (pl s n 0 a == a) <;> cases h2 : (ti s n 1 a == a) <;> cases h3 : (ti s n a 1 == a) <;> cases h4 : (ti s n 0 a == 0) <;> cases h5 : (ti s n a 0 == 0) <;> cases h6 : le s n a a <;> cases h7 : (List.range' 0 n).all (fun b => two s n a b && (List.range' 0 n).all fun c => three s n a b c) <;> cases r <;> simp only [one, bne, h1, h2, h3, h4, h5, h6, h7, ih, bs, Bool.not_true, Bool.not_false, Bool.true_and, Bool.false_and, Bool.and_true, Bool.and_false, if_true, if_false, Bool.false_eq_true]
end
end Go.Am
