/- Plain laws: systems. -/
import Derived.Test.YtlegifoeekcolaaPKEA
set_option linter.unusedSimpArgs false
set_option linter.unusedVariables false
namespace Go.Am

/-- The tables are of their form. -/
structure Tab (s : GSystem) (n : Nat) : Prop where
  size : s.fSize = (n : Int)
  lo : 2 ≤ n
  hi : n ≤ 16
  lp : s.fPlus.length = n * n
  lt : s.fTimes.length = n * n
  lb : s.fBelow.length = n * n
  rp : ∀ i (h : i < s.fPlus.length), 0 ≤ s.fPlus[i] ∧ s.fPlus[i] < (n : Int)
  rt : ∀ i (h : i < s.fTimes.length), 0 ≤ s.fTimes[i] ∧ s.fTimes[i] < (n : Int)

def pl (s : GSystem) (n a b : Nat) : Nat := (s.fPlus.getD (a * n + b) 0).toNat
def ti (s : GSystem) (n a b : Nat) : Nat := (s.fTimes.getD (a * n + b) 0).toNat
def le (s : GSystem) (n a b : Nat) : Bool := s.fBelow.getD (a * n + b) false

theorem two_lt {n a b : Nat} (ha : a < n) (hb : b < n) : a * n + b < n * n := by
  have : (a + 1) * n ≤ n * n := Nat.mul_le_mul_right _ (by omega)
  rw [Nat.add_mul, Nat.one_mul] at this
  omega
theorem wr_at {n a b : Nat} (hn : n ≤ 16) (ha : a < n) (hb : b < n) : wr ((wr ((a : Int) * (n : Int))) + (b : Int)) = ((a * n + b : Nat) : Int) := by
  have h1 : a * n ≤ 256 := Nat.le_trans (Nat.mul_le_mul (by omega : a ≤ 16) hn) (by decide)
  have e : (a : Int) * (n : Int) = ((a * n : Nat) : Int) := by simp
  rw [e]
  generalize a * n = m at h1
  rw [wr_id (x := (m : Int)) (by omega) (by omega), wr_id (by omega) (by omega)]
  omega

section
variable {s : GSystem} {n : Nat} (h : Tab s n)
include h
theorem pl_lt {a b : Nat} (ha : a < n) (hb : b < n) : pl s n a b < n := by
  have hl : a * n + b < s.fPlus.length := by rw [h.lp]; exact two_lt ha hb
  unfold pl
  rw [List.getD_eq_getElem?_getD, List.getElem?_eq_getElem hl]
  have := h.rp _ hl
  simp only [Option.getD_some]
  omega
theorem ti_lt {a b : Nat} (ha : a < n) (hb : b < n) : ti s n a b < n := by
  have hl : a * n + b < s.fTimes.length := by rw [h.lt]; exact two_lt ha hb
  unfold ti
  rw [List.getD_eq_getElem?_getD, List.getElem?_eq_getElem hl]
  have := h.rt _ hl
  simp only [Option.getD_some]
  omega
theorem idx_pl {a b : Nat} (ha : a < n) (hb : b < n) : idx s.fPlus ((a * n + b : Nat) : Int) = some ((pl s n a b : Nat) : Int) := by
  have hl : a * n + b < s.fPlus.length := by rw [h.lp]; exact two_lt ha hb
  rw [idx_get hl]
  unfold pl
  rw [List.getD_eq_getElem?_getD, List.getElem?_eq_getElem hl]
  have := h.rp _ hl
  simp only [Option.getD_some]
  congr 1
  omega
theorem idx_ti {a b : Nat} (ha : a < n) (hb : b < n) : idx s.fTimes ((a * n + b : Nat) : Int) = some ((ti s n a b : Nat) : Int) := by
  have hl : a * n + b < s.fTimes.length := by rw [h.lt]; exact two_lt ha hb
  rw [idx_get hl]
  unfold ti
  rw [List.getD_eq_getElem?_getD, List.getElem?_eq_getElem hl]
  have := h.rt _ hl
  simp only [Option.getD_some]
  congr 1
  omega
theorem idx_le {a b : Nat} (ha : a < n) (hb : b < n) : idx s.fBelow ((a * n + b : Nat) : Int) = some (le s n a b) := by
  have hl : a * n + b < s.fBelow.length := by rw [h.lb]; exact two_lt ha hb
  rw [idx_get hl]
  unfold le
  rw [List.getD_eq_getElem?_getD, List.getElem?_eq_getElem hl]
  rfl

theorem sAdd {a b : Nat} (ha : a < n) (hb : b < n) : spec_l1Add (s, (a : Int), (b : Int)) = some ((pl s n a b : Nat) : Int) := by
  unfold spec_l1Add
  simp only
  rw [h.size, wr_at h.hi ha hb, idx_pl h ha hb, bs]
theorem sMul {a b : Nat} (ha : a < n) (hb : b < n) : spec_l1Mul (s, (a : Int), (b : Int)) = some ((ti s n a b : Nat) : Int) := by
  unfold spec_l1Mul
  simp only
  rw [h.size, wr_at h.hi ha hb, idx_ti h ha hb, bs]
theorem sLe {a b : Nat} (ha : a < n) (hb : b < n) : spec_l1Le (s, (a : Int), (b : Int)) = some (le s n a b) := by
  unfold spec_l1Le
  simp only
  rw [h.size, wr_at h.hi ha hb, idx_le h ha hb, bs]
theorem iAdd {a b : Nat} (ha : a < n) (hb : b < n) : impl_Systemplus (s, (a : Int), (b : Int)) = some ((pl s n a b : Nat) : Int) := by
  unfold impl_Systemplus
  simp only
  rw [h.size, wr_at h.hi ha hb, idx_pl h ha hb, bs]
theorem iMul {a b : Nat} (ha : a < n) (hb : b < n) : impl_Systemtimes (s, (a : Int), (b : Int)) = some ((ti s n a b : Nat) : Int) := by
  unfold impl_Systemtimes
  simp only
  rw [h.size, wr_at h.hi ha hb, idx_ti h ha hb, bs]
theorem iLe {a b : Nat} (ha : a < n) (hb : b < n) : impl_Systembelow (s, (a : Int), (b : Int)) = some (le s n a b) := by
  unfold impl_Systembelow
  simp only
  rw [h.size, wr_at h.hi ha hb, idx_le h ha hb, bs]

end
theorem cast_beq (x y : Nat) : (((x : Nat) : Int) == ((y : Nat) : Int)) = (x == y) := by
  cases hb : (x == y) with
  | true => have := eq_of_beq hb; subst this; simp
  | false => simp at hb ⊢; omega
theorem cast_bne (x y : Nat) : (((x : Nat) : Int) != ((y : Nat) : Int)) = (x != y) := by
  simp only [bne, cast_beq]
def one (s : GSystem) (n a : Nat) : Bool := (pl s n 0 a == a) && (ti s n 1 a == a) && (ti s n a 1 == a) && (ti s n 0 a == 0) && (ti s n a 0 == 0) && le s n a a
def three (s : GSystem) (n a b c : Nat) : Bool :=
  (pl s n (pl s n a b) c == pl s n a (pl s n b c)) && (ti s n (ti s n a b) c == ti s n a (ti s n b c)) &&
  (ti s n a (pl s n b c) == pl s n (ti s n a b) (ti s n a c)) && (ti s n (pl s n a b) c == pl s n (ti s n a c) (ti s n b c)) &&
  (!(le s n a b) || ((!(le s n b c) || le s n a c) && le s n (pl s n a c) (pl s n b c) && le s n (ti s n a c) (ti s n b c) && le s n (ti s n c a) (ti s n c b)))

section
variable {s : GSystem} {n : Nat} (h : Tab s n)
include h
theorem sOne {a : Nat} (ha : a < n) : spec_l1One (s, (a : Int)) = some (one s n a) := by
  have l0 : (0 : Nat) < n := by have := h.lo; omega
  have l1 : (1 : Nat) < n := by have := h.lo; omega
  have e0 : (0 : Int) = ((0 : Nat) : Int) := rfl
  have e1 : (1 : Int) = ((1 : Nat) : Int) := rfl
  unfold spec_l1One one
  simp only
  rw [e0, e1]
  simp only [sAdd h l0 ha, sMul h l1 ha, sMul h ha l1, sMul h l0 ha, sMul h ha l0, sLe h ha ha, bs, cast_beq]
  generalize (pl s n 0 a == a) = b1
  generalize (ti s n 1 a == a) = b2
  generalize (ti s n a 1 == a) = b3
  generalize (ti s n 0 a == 0) = b4
  generalize (ti s n a 0 == 0) = b5
  generalize le s n a a = b6
  cases b1 <;> cases b2 <;> cases b3 <;> cases b4 <;> cases b5 <;> cases b6 <;> rfl
theorem sThree {a b c : Nat} (ha : a < n) (hb : b < n) (hc : c < n) : spec_l1Three (s, (a : Int), (b : Int), (c : Int)) = some (three s n a b c) := by
  unfold spec_l1Three three
  simp only
  simp only [sAdd h, sMul h, sLe h, pl_lt h, ti_lt h, ha, hb, hc, bs, cast_bne]
  generalize e1 : pl s n (pl s n a b) c = x1
  generalize e2 : pl s n a (pl s n b c) = x2
  generalize e3 : ti s n (ti s n a b) c = x3
  generalize e4 : ti s n a (ti s n b c) = x4
  generalize ti s n a (pl s n b c) = x5
  generalize pl s n (ti s n a b) (ti s n a c) = x6
  generalize ti s n (pl s n a b) c = x7
  generalize pl s n (ti s n a c) (ti s n b c) = x8
  generalize le s n (pl s n a c) (pl s n b c) = y1
  generalize le s n (ti s n a c) (ti s n b c) = y2
  generalize le s n (ti s n c a) (ti s n c b) = y3
  generalize le s n a b = y4
  generalize le s n b c = y5
  generalize le s n a c = y6
  simp only [bne]
  generalize (x1 == x2) = b1
  generalize (x3 == x4) = b2
  generalize (x5 == x6) = b3
  generalize (x7 == x8) = b4
  cases b1 <;> cases b2 <;> cases b3 <;> cases b4 <;> first | rfl | (cases y4 <;> cases y5 <;> cases y6 <;> cases y1 <;> cases y2 <;> cases y3 <;> rfl)
theorem iThree {a b c : Nat} (ha : a < n) (hb : b < n) (hc : c < n) : impl_SystemlawsOf (s, (a : Int), (b : Int), (c : Int)) = some (three s n a b c) := by
  unfold impl_SystemlawsOf three
  simp only
  simp only [iAdd h, iMul h, iLe h, pl_lt h, ti_lt h, ha, hb, hc, bs, cast_bne]
  generalize e1 : pl s n (pl s n a b) c = x1
  generalize e2 : pl s n a (pl s n b c) = x2
  generalize e3 : ti s n (ti s n a b) c = x3
  generalize e4 : ti s n a (ti s n b c) = x4
  generalize ti s n a (pl s n b c) = x5
  generalize pl s n (ti s n a b) (ti s n a c) = x6
  generalize ti s n (pl s n a b) c = x7
  generalize pl s n (ti s n a c) (ti s n b c) = x8
  generalize le s n (pl s n a c) (pl s n b c) = y1
  generalize le s n (ti s n a c) (ti s n b c) = y2
  generalize le s n (ti s n c a) (ti s n c b) = y3
  generalize le s n a b = y4
  generalize le s n b c = y5
  generalize le s n a c = y6
  simp only [bne]
  generalize (x1 == x2) = b1
  generalize (x3 == x4) = b2
  generalize (x5 == x6) = b3
  generalize (x7 == x8) = b4
  cases b1 <;> cases b2 <;> cases b3 <;> cases b4 <;> first | rfl | (cases y4 <;> cases y5 <;> cases y6 <;> cases y1 <;> cases y2 <;> cases y3 <;> rfl)
end
end Go.Am
