/- Plain laws: joins, and what is a system. -/
import Derived.Test.YtlegifoeekcolaaPKEB
set_option linter.unusedSimpArgs false
set_option linter.unusedVariables false
namespace Go.Am

def lst1 (s : GSystem) (n a b g h : Nat) : Bool := !le s n a h || !le s n b h || le s n g h
def jok (s : GSystem) (n a b g : Nat) : Bool := le s n a g && le s n b g && (List.range' 0 n).all (lst1 s n a b g)
def joinI (s : GSystem) (n a b : Nat) : Int := match (List.range' 0 n).find? (jok s n a b) with | some g => (g : Int) | none => -1

section
variable {s : GSystem} {n : Nat} (h : Tab s n)
include h
theorem sJoin_l0 {a b g : Nat} (ha : a < n) (hb : b < n) (hg : g < n) : ∀ (k m : Nat) (ok : Bool), m + k = n → spec_l1Join_l0 (s, (a : Int), (b : Int), (g : Int), ok, (m : Int)) = some (ok && (List.range' m k).all (lst1 s n a b g)) := by
  have hhi := h.hi
  intro k
  induction k with
  | zero =>
    intro m ok hm
    rw [spec_l1Join_l0.eq_def]
    simp only
    rw [h.size, lt_f (by omega)]
    simp [bs]
  | succ k ih =>
    intro m ok hm
    rw [spec_l1Join_l0.eq_def]
    simp only
    rw [h.size, lt_t (by omega), if_pos rfl, bs, sLe h ha (by omega), sLe h hb (by omega), sLe h hg (by omega)]
    cases ok with
    | false => rfl
    | true =>
      rw [if_pos rfl]
      rw [List.range'_succ, List.all_cons]
      have ih : ∀ ok, _ := fun ok => ih (m + 1) ok (by omega)
      rw [wr_succ (by omega)]
      generalize ((m + 1 : Nat) : Int) = M at ih ⊢
      simp only [bs, lst1]
      cases le s n a m <;> cases le s n b m <;> cases le s n g m <;> simp [bs, ih, lst1]
theorem iJoin_l0 {a b g : Nat} (ha : a < n) (hb : b < n) (hg : g < n) : ∀ (k m : Nat) (ok : Bool), m + k = n → impl_Systemjoin_l0 (s, (a : Int), (b : Int), (g : Int), ok, (m : Int)) = some (ok && (List.range' m k).all (lst1 s n a b g)) := by
  have hhi := h.hi
  intro k
  induction k with
  | zero =>
    intro m ok hm
    rw [impl_Systemjoin_l0.eq_def]
    simp only
    rw [h.size, lt_f (by omega)]
    simp [bs]
  | succ k ih =>
    intro m ok hm
    rw [impl_Systemjoin_l0.eq_def]
    simp only
    rw [h.size, lt_t (by omega), if_pos rfl, iLe h ha (by omega), iLe h hb (by omega), iLe h hg (by omega)]
    rw [List.range'_succ, List.all_cons]
    have ih : ∀ ok, _ := fun ok => ih (m + 1) ok (by omega)
    rw [wr_succ (by omega)]
    generalize ((m + 1 : Nat) : Int) = M at ih ⊢
    simp only [bs, lst1]
    cases ok <;> cases le s n a m <;> cases le s n b m <;> cases le s n g m <;> simp [bs, ih, lst1]
theorem sJoin_l1 {a b : Nat} (ha : a < n) (hb : b < n) : ∀ (k g : Nat), g + k = n → spec_l1Join_l1 (s, (a : Int), (b : Int), (g : Int)) = some (match (List.range' g k).find? (jok s n a b) with | some g => .inr (g : Int) | none => .inl ()) := by
  have hhi := h.hi
  intro k
  induction k with
  | zero =>
    intro g hm
    rw [spec_l1Join_l1.eq_def]
    simp only
    rw [h.size, lt_f (by omega)]
    rfl
  | succ k ih =>
    intro g hm
    rw [spec_l1Join_l1.eq_def]
    simp only
    rw [h.size, lt_t (by omega), if_pos rfl, sLe h ha (by omega), sLe h hb (by omega)]
    have ih := ih (g + 1) (by omega)
    rw [wr_succ (by omega), List.range'_succ, List.find?_cons]
    have hl := fun ok => sJoin_l0 h ha hb (g := g) (by omega) n 0 ok (by omega)
    rw [show ((0 : Nat) : Int) = 0 from rfl] at hl
    generalize ((g + 1 : Nat) : Int) = M at ih ⊢
    have hj : jok s n a b g = (le s n a g && le s n b g && (List.range' 0 n).all (lst1 s n a b g)) := rfl
    rw [hj]
    cases le s n a g <;> cases le s n b g <;> cases hq : (List.range' 0 n).all (lst1 s n a b g) <;> simp [bs, hl, hq, ih]
theorem iJoin_l1 {a b : Nat} (ha : a < n) (hb : b < n) : ∀ (k g : Nat), g + k = n → impl_Systemjoin_l1 (s, (a : Int), (b : Int), (g : Int)) = some (match (List.range' g k).find? (jok s n a b) with | some g => .inr (g : Int) | none => .inl ()) := by
  have hhi := h.hi
  intro k
  induction k with
  | zero =>
    intro g hm
    rw [impl_Systemjoin_l1.eq_def]
    simp only
    rw [h.size, lt_f (by omega)]
    rfl
  | succ k ih =>
    intro g hm
    rw [impl_Systemjoin_l1.eq_def]
    simp only
    rw [h.size, lt_t (by omega), if_pos rfl, iLe h ha (by omega), iLe h hb (by omega)]
    have ih := ih (g + 1) (by omega)
    rw [wr_succ (by omega), List.range'_succ, List.find?_cons]
    have hl := fun ok => iJoin_l0 h ha hb (g := g) (by omega) n 0 ok (by omega)
    rw [show ((0 : Nat) : Int) = 0 from rfl] at hl
    generalize ((g + 1 : Nat) : Int) = M at ih ⊢
    have hj : jok s n a b g = (le s n a g && le s n b g && (List.range' 0 n).all (lst1 s n a b g)) := rfl
    rw [hj]
    cases le s n a g <;> cases le s n b g <;> cases hq : (List.range' 0 n).all (lst1 s n a b g) <;> simp [bs, hl, hq, ih]
theorem sJoin {a b : Nat} (ha : a < n) (hb : b < n) : spec_l1Join (s, (a : Int), (b : Int)) = some (joinI s n a b) := by
  unfold spec_l1Join joinI
  simp only
  have := sJoin_l1 h ha hb n 0 (by omega)
  rw [show ((0 : Nat) : Int) = 0 from rfl] at this
  rw [this, bs]
  cases (List.range' 0 n).find? (jok s n a b) <;> rfl
theorem iJoin {a b : Nat} (ha : a < n) (hb : b < n) : impl_Systemjoin (s, (a : Int), (b : Int)) = some (joinI s n a b) := by
  unfold impl_Systemjoin joinI
  simp only
  have := iJoin_l1 h ha hb n 0 (by omega)
  rw [show ((0 : Nat) : Int) = 0 from rfl] at this
  rw [this, bs]
  cases (List.range' 0 n).find? (jok s n a b) <;> rfl
def two (s : GSystem) (n a b : Nat) : Bool := (pl s n a b == pl s n b a) && ((a == b) || !le s n a b || !le s n b a) && decide (joinI s n a b ≥ 0)
omit h in
theorem lt_ge (x : Int) : decide (x < 0) = !decide (x ≥ 0) := by
  by_cases h : x < 0
  · rw [decide_eq_true h, decide_eq_false (by omega)]; rfl
  · rw [decide_eq_false h, decide_eq_true (by omega)]; rfl
theorem sTwo {a b : Nat} (ha : a < n) (hb : b < n) : spec_l1Two (s, (a : Int), (b : Int)) = some (two s n a b) := by
  unfold spec_l1Two two
  simp only
  rw [sAdd h ha hb, sAdd h hb ha, sLe h ha hb, sLe h hb ha, sJoin h ha hb]
  simp only [bs, cast_beq]
  generalize (pl s n a b == pl s n b a) = b1
  generalize (a == b) = b2
  cases b1 <;> cases b2 <;> cases le s n a b <;> cases le s n b a <;> simp [bs]
end
end Go.Am
