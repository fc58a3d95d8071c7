/- Plain laws of the printed functions. -/
import Derived.Test.YtmdfopkcoinfeaaGPOF8
set_option linter.unusedSimpArgs false
set_option linter.unusedVariables false
namespace Go.Am
theorem wr_id {x : Int} (h1 : -9223372036854775808 ≤ x) (h2 : x ≤ 9223372036854775807) : wr x = x := by
  unfold wr IntKind.wrap
  simp [IntKind.bits, IntKind.signed]
  omega
theorem idx_get {α : Type} {l : List α} {n : Nat} (h : n < l.length) : idx l (n : Int) = some l[n] := by
  unfold idx
  rw [if_pos (by omega)]
  simp [h]
theorem bs {α β : Type} (a : α) (f : α → Option β) : (some a >>= f) = f a := rfl
/-- A round number as the loops hold it. -/
theorem wr_succ {n : Nat} (h : n < 9223372036854775807) : wr ((n : Int) + 1) = ((n + 1 : Nat) : Int) := by
  rw [wr_id (by omega) (by omega)]; omega
theorem lt_t {n m : Nat} (h : n < m) : decide ((n : Int) < (m : Int)) = true := decide_eq_true (by omega)
theorem lt_f {n m : Nat} (h : m ≤ n) : decide ((n : Int) < (m : Int)) = false := decide_eq_false (by omega)
theorem take_set_succ {α : Type} {l a : List α} {n : Nat} (hl : l.length = a.length) (hn : n < a.length) (h : l.take n = a.take n) : (l.set n a[n]).take (n + 1) = a.take (n + 1) := by
  apply List.ext_getElem?
  intro i
  rw [List.getElem?_take, List.getElem?_take]
  by_cases hi : i < n + 1
  · rw [if_pos hi, if_pos hi, List.getElem?_set]
    by_cases e : n = i
    · subst e
      rw [if_pos rfl, if_pos (by omega), List.getElem?_eq_getElem hn]
    · rw [if_neg e]
      have := congrArg (fun l => l[i]?) h
      simp only [List.getElem?_take] at this
      rw [if_pos (by omega), if_pos (by omega)] at this
      exact this
  · rw [if_neg hi, if_neg hi]
theorem toIntS_l0 (a : List Int) (ha : a.length ≤ 1099511627776) : ∀ (k n : Nat) (out : List Int), n + k = a.length → out.length = a.length → out.take n = a.take n → laws_toIntS_l0 (a, out, (n : Int)) = some a := by
  intro k
  induction k with
  | zero =>
    intro n out hn hl ht
    rw [laws_toIntS_l0.eq_def]
    simp only
    rw [lt_f (by omega)]
    have h1 : out.take n = out := List.take_of_length_le (by omega)
    have h2 : a.take n = a := List.take_of_length_le (by omega)
    rw [h1, h2] at ht
    simp [ht]
  | succ k ih =>
    intro n out hn hl ht
    rw [laws_toIntS_l0.eq_def]
    simp only
    rw [lt_t (by omega), if_pos rfl, idx_get (by omega), bs, idx_get (by omega), bs, wr_succ (by omega), Int.toNat_natCast]
    exact ih (n + 1) _ (by omega) (by simpa using hl) (take_set_succ hl (by omega) ht)
theorem toIntS_id (a : List Int) (ha : a.length ≤ 1099511627776) : laws_toIntS a = some a := by
  unfold laws_toIntS
  have : chk (0 ≤ (a.length : Int) ∧ (Int.toNat (a.length : Int)) * 8 ≤ 140737488355328) = some () := by
    unfold chk; rw [if_pos]; refine ⟨by omega, ?_⟩; rw [Int.toNat_natCast]; omega
  rw [this, bs, Int.toNat_natCast]
  have := toIntS_l0 a ha a.length 0 (List.replicate a.length 0) (by omega) (by simp) rfl
  rw [show ((0 : Nat) : Int) = 0 from rfl] at this
  rw [this, bs]
theorem toBoolS_l0 (a : List Bool) (ha : a.length ≤ 1099511627776) : ∀ (k n : Nat) (out : List Bool), n + k = a.length → out.length = a.length → out.take n = a.take n → laws_toBoolS_l0 (a, out, (n : Int)) = some a := by
  intro k
  induction k with
  | zero =>
    intro n out hn hl ht
    rw [laws_toBoolS_l0.eq_def]
    simp only
    rw [lt_f (by omega)]
    have h1 : out.take n = out := List.take_of_length_le (by omega)
    have h2 : a.take n = a := List.take_of_length_le (by omega)
    rw [h1, h2] at ht
    simp [ht]
  | succ k ih =>
    intro n out hn hl ht
    rw [laws_toBoolS_l0.eq_def]
    simp only
    rw [lt_t (by omega), if_pos rfl, idx_get (by omega), bs, idx_get (by omega), bs, wr_succ (by omega), Int.toNat_natCast]
    exact ih (n + 1) _ (by omega) (by simpa using hl) (take_set_succ hl (by omega) ht)
theorem toBoolS_id (a : List Bool) (ha : a.length ≤ 1099511627776) : laws_toBoolS a = some a := by
  unfold laws_toBoolS
  have : chk (0 ≤ (a.length : Int) ∧ (Int.toNat (a.length : Int)) * 1 ≤ 140737488355328) = some () := by
    unfold chk; rw [if_pos]; refine ⟨by omega, ?_⟩; rw [Int.toNat_natCast]; omega
  rw [this, bs, Int.toNat_natCast]
  have := toBoolS_l0 a ha a.length 0 (List.replicate a.length false) (by omega) (by simp) rfl
  rw [show ((0 : Nat) : Int) = 0 from rfl] at this
  rw [this, bs]
theorem bne_self {a : Int} : (a != a) = false := by simp
theorem eqIntS_l0 (a : List Int) (ha : a.length ≤ 1099511627776) : ∀ (k n : Nat), n + k = a.length → laws_eqIntS_l0 (a, a, (n : Int)) = some (.inl ()) := by
  intro k
  induction k with
  | zero =>
    intro n hn
    rw [laws_eqIntS_l0.eq_def]
    simp only
    rw [lt_f (by omega)]
    rfl
  | succ k ih =>
    intro n hn
    rw [laws_eqIntS_l0.eq_def]
    simp only
    rw [lt_t (by omega), if_pos rfl, idx_get (by omega), bs, bs, bne_self, if_neg (by decide), wr_succ (by omega)]
    exact ih (n + 1) (by omega)
theorem eqIntS_refl (a : List Int) (ha : a.length ≤ 1099511627776) : laws_eqIntS (a, a) = some true := by
  unfold laws_eqIntS
  simp only
  have := eqIntS_l0 a ha a.length 0 (by omega)
  rw [show ((0 : Nat) : Int) = 0 from rfl] at this
  rw [bne_self, if_neg (by decide), this]
  rfl
theorem eqBoolS_l0 (a : List Bool) (ha : a.length ≤ 1099511627776) : ∀ (k n : Nat), n + k = a.length → laws_eqBoolS_l0 (a, a, (n : Int)) = some (.inl ()) := by
  intro k
  induction k with
  | zero =>
    intro n hn
    rw [laws_eqBoolS_l0.eq_def]
    simp only
    rw [lt_f (by omega)]
    rfl
  | succ k ih =>
    intro n hn
    rw [laws_eqBoolS_l0.eq_def]
    simp only
    rw [lt_t (by omega), if_pos rfl, idx_get (by omega), bs, bs, show ∀ b : Bool, (b == b) = true from by decide, if_pos rfl, wr_succ (by omega)]
    exact ih (n + 1) (by omega)
theorem eqBoolS_refl (a : List Bool) (ha : a.length ≤ 1099511627776) : laws_eqBoolS (a, a) = some true := by
  unfold laws_eqBoolS
  simp only
  have := eqBoolS_l0 a ha a.length 0 (by omega)
  rw [show ((0 : Nat) : Int) = 0 from rfl] at this
  rw [bne_self, if_neg (by decide), this]
  rfl
theorem toSystem_id (s : GSystem) (h1 : s.fPlus.length ≤ 1099511627776) (h2 : s.fTimes.length ≤ 1099511627776) (h3 : s.fBelow.length ≤ 1099511627776) : laws_toSystem s = some s := by
  unfold laws_toSystem
  rw [toIntS_id _ h1, bs, toIntS_id _ h2, bs, toBoolS_id _ h3, bs]
theorem eqSystem_refl (s : GSystem) (h1 : s.fPlus.length ≤ 1099511627776) (h2 : s.fTimes.length ≤ 1099511627776) (h3 : s.fBelow.length ≤ 1099511627776) : laws_eqSystem (s, s) = some true := by
  unfold laws_eqSystem
  simp only
  rw [bne_self, if_neg (by decide), eqIntS_refl _ h1, bs, if_pos rfl, eqIntS_refl _ h2, bs, if_pos rfl, eqBoolS_refl _ h3, bs, if_pos rfl]
/-- The tables are of their form. -/
structure Tab (s : GSystem) (n : Nat) : Prop where
  size : s.fSize = (n : Int)
  lo : 2 ≤ n
  hi : n ≤ 16
  lp : s.fPlus.length = n * n
  lt : s.fTimes.length = n * n
  lb : s.fBelow.length = n * n
  rp : ∀ i (h : i < s.fPlus.length), 0 ≤ s.fPlus[i] ∧ s.fPlus[i] < (n : Int)
  rt : ∀ i (h : i < s.fTimes.length), 0 ≤ s.fTimes[i] ∧ s.fTimes[i] < (n : Int)
def pl (s : GSystem) (n a b : Nat) : Nat := (s.fPlus.getD (a * n + b) 0).toNat
def ti (s : GSystem) (n a b : Nat) : Nat := (s.fTimes.getD (a * n + b) 0).toNat
def le (s : GSystem) (n a b : Nat) : Bool := s.fBelow.getD (a * n + b) false
theorem two_lt {n a b : Nat} (ha : a < n) (hb : b < n) : a * n + b < n * n := by
  have : (a + 1) * n ≤ n * n := Nat.mul_le_mul_right _ (by omega)
  rw [Nat.add_mul, Nat.one_mul] at this
  omega
theorem wr_at {n a b : Nat} (hn : n ≤ 16) (ha : a < n) (hb : b < n) : wr ((wr ((a : Int) * (n : Int))) + (b : Int)) = ((a * n + b : Nat) : Int) := by
  have h1 : a * n ≤ 256 := Nat.le_trans (Nat.mul_le_mul (by omega : a ≤ 16) hn) (by decide)
  have e : (a : Int) * (n : Int) = ((a * n : Nat) : Int) := by simp
  rw [e]
  generalize a * n = m at h1
  rw [wr_id (x := (m : Int)) (by omega) (by omega), wr_id (by omega) (by omega)]
  omega
section
variable {s : GSystem} {n : Nat} (h : Tab s n)
include h
theorem pl_lt {a b : Nat} (ha : a < n) (hb : b < n) : pl s n a b < n := by
  have hl : a * n + b < s.fPlus.length := by rw [h.lp]; exact two_lt ha hb
  unfold pl
  rw [List.getD_eq_getElem?_getD, List.getElem?_eq_getElem hl]
  have := h.rp _ hl
  simp only [Option.getD_some]
  omega
theorem ti_lt {a b : Nat} (ha : a < n) (hb : b < n) : ti s n a b < n := by
  have hl : a * n + b < s.fTimes.length := by rw [h.lt]; exact two_lt ha hb
  unfold ti
  rw [List.getD_eq_getElem?_getD, List.getElem?_eq_getElem hl]
  have := h.rt _ hl
  simp only [Option.getD_some]
  omega
theorem idx_pl {a b : Nat} (ha : a < n) (hb : b < n) : idx s.fPlus ((a * n + b : Nat) : Int) = some ((pl s n a b : Nat) : Int) := by
  have hl : a * n + b < s.fPlus.length := by rw [h.lp]; exact two_lt ha hb
  rw [idx_get hl]
  unfold pl
  rw [List.getD_eq_getElem?_getD, List.getElem?_eq_getElem hl]
  have := h.rp _ hl
  simp only [Option.getD_some]
  congr 1
  omega
theorem idx_ti {a b : Nat} (ha : a < n) (hb : b < n) : idx s.fTimes ((a * n + b : Nat) : Int) = some ((ti s n a b : Nat) : Int) := by
  have hl : a * n + b < s.fTimes.length := by rw [h.lt]; exact two_lt ha hb
  rw [idx_get hl]
  unfold ti
  rw [List.getD_eq_getElem?_getD, List.getElem?_eq_getElem hl]
  have := h.rt _ hl
  simp only [Option.getD_some]
  congr 1
  omega
theorem idx_le {a b : Nat} (ha : a < n) (hb : b < n) : idx s.fBelow ((a * n + b : Nat) : Int) = some (le s n a b) := by
  have hl : a * n + b < s.fBelow.length := by rw [h.lb]; exact two_lt ha hb
  rw [idx_get hl]
  unfold le
  rw [List.getD_eq_getElem?_getD, List.getElem?_eq_getElem hl]
  rfl
theorem sAdd {a b : Nat} (ha : a < n) (hb : b < n) : spec_l1Add (s, (a : Int), (b : Int)) = some ((pl s n a b : Nat) : Int) := by
  unfold spec_l1Add
  simp only
  rw [h.size, wr_at h.hi ha hb, idx_pl h ha hb, bs]
theorem sMul {a b : Nat} (ha : a < n) (hb : b < n) : spec_l1Mul (s, (a : Int), (b : Int)) = some ((ti s n a b : Nat) : Int) := by
  unfold spec_l1Mul
  simp only
  rw [h.size, wr_at h.hi ha hb, idx_ti h ha hb, bs]
theorem sLe {a b : Nat} (ha : a < n) (hb : b < n) : spec_l1Le (s, (a : Int), (b : Int)) = some (le s n a b) := by
  unfold spec_l1Le
  simp only
  rw [h.size, wr_at h.hi ha hb, idx_le h ha hb, bs]
theorem iAdd {a b : Nat} (ha : a < n) (hb : b < n) : impl_Systemplus (s, (a : Int), (b : Int)) = some ((pl s n a b : Nat) : Int) := by
  unfold impl_Systemplus
  simp only
  rw [h.size, wr_at h.hi ha hb, idx_pl h ha hb, bs]
theorem iMul {a b : Nat} (ha : a < n) (hb : b < n) : impl_Systemtimes (s, (a : Int), (b : Int)) = some ((ti s n a b : Nat) : Int) := by
  unfold impl_Systemtimes
  simp only
  rw [h.size, wr_at h.hi ha hb, idx_ti h ha hb, bs]
theorem iLe {a b : Nat} (ha : a < n) (hb : b < n) : impl_Systembelow (s, (a : Int), (b : Int)) = some (le s n a b) := by
  unfold impl_Systembelow
  simp only
  rw [h.size, wr_at h.hi ha hb, idx_le h ha hb, bs]
end
theorem cast_beq (x y : Nat) : (((x : Nat) : Int) == ((y : Nat) : Int)) = (x == y) := by
  cases hb : (x == y) with
  | true => have := eq_of_beq hb; subst this; simp
  | false => simp at hb ⊢; omega
theorem cast_bne (x y : Nat) : (((x : Nat) : Int) != ((y : Nat) : Int)) = (x != y) := by
  simp only [bne, cast_beq]
def oneG (s : GSystem) (n a : Nat) : Bool := (pl s n 0 a == a) && (ti s n 1 a == a) && (ti s n a 1 == a) && (ti s n 0 a == 0) && (ti s n a 0 == 0) && le s n a a
def threeG (s : GSystem) (n a b c : Nat) : Bool :=
  (pl s n (pl s n a b) c == pl s n a (pl s n b c)) && (ti s n (ti s n a b) c == ti s n a (ti s n b c)) &&
  (ti s n a (pl s n b c) == pl s n (ti s n a b) (ti s n a c)) && (ti s n (pl s n a b) c == pl s n (ti s n a c) (ti s n b c)) &&
  (!(le s n a b) || ((!(le s n b c) || le s n a c) && le s n (pl s n a c) (pl s n b c) && le s n (ti s n a c) (ti s n b c) && le s n (ti s n c a) (ti s n c b)))
section
variable {s : GSystem} {n : Nat} (h : Tab s n)
include h
theorem sOne {a : Nat} (ha : a < n) : spec_l1One (s, (a : Int)) = some (oneG s n a) := by
  have l0 : (0 : Nat) < n := by have := h.lo; omega
  have l1 : (1 : Nat) < n := by have := h.lo; omega
  have e0 : (0 : Int) = ((0 : Nat) : Int) := rfl
  have e1 : (1 : Int) = ((1 : Nat) : Int) := rfl
  unfold spec_l1One oneG
  simp only
  rw [e0, e1]
  simp only [sAdd h l0 ha, sMul h l1 ha, sMul h ha l1, sMul h l0 ha, sMul h ha l0, sLe h ha ha, bs, cast_beq]
  generalize (pl s n 0 a == a) = b1
  generalize (ti s n 1 a == a) = b2
  generalize (ti s n a 1 == a) = b3
  generalize (ti s n 0 a == 0) = b4
  generalize (ti s n a 0 == 0) = b5
  generalize le s n a a = b6
  cases b1 <;> cases b2 <;> cases b3 <;> cases b4 <;> cases b5 <;> cases b6 <;> rfl
theorem sThree {a b c : Nat} (ha : a < n) (hb : b < n) (hc : c < n) : spec_l1Three (s, (a : Int), (b : Int), (c : Int)) = some (threeG s n a b c) := by
  unfold spec_l1Three threeG
  simp only
  simp only [sAdd h, sMul h, sLe h, pl_lt h, ti_lt h, ha, hb, hc, bs, cast_bne]
  generalize e1 : pl s n (pl s n a b) c = x1
  generalize e2 : pl s n a (pl s n b c) = x2
  generalize e3 : ti s n (ti s n a b) c = x3
  generalize e4 : ti s n a (ti s n b c) = x4
  generalize ti s n a (pl s n b c) = x5
  generalize pl s n (ti s n a b) (ti s n a c) = x6
  generalize ti s n (pl s n a b) c = x7
  generalize pl s n (ti s n a c) (ti s n b c) = x8
  generalize le s n (pl s n a c) (pl s n b c) = y1
  generalize le s n (ti s n a c) (ti s n b c) = y2
  generalize le s n (ti s n c a) (ti s n c b) = y3
  generalize le s n a b = y4
  generalize le s n b c = y5
  generalize le s n a c = y6
  simp only [bne]
  generalize (x1 == x2) = b1
  generalize (x3 == x4) = b2
  generalize (x5 == x6) = b3
  generalize (x7 == x8) = b4
  cases b1 <;> cases b2 <;> cases b3 <;> cases b4 <;> first | rfl | (cases y4 <;> cases y5 <;> cases y6 <;> cases y1 <;> cases y2 <;> cases y3 <;> rfl)
theorem iThree {a b c : Nat} (ha : a < n) (hb : b < n) (hc : c < n) : impl_SystemlawsOf (s, (a : Int), (b : Int), (c : Int)) = some (threeG s n a b c) := by
  unfold impl_SystemlawsOf threeG
  simp only
  simp only [iAdd h, iMul h, iLe h, pl_lt h, ti_lt h, ha, hb, hc, bs, cast_bne]
  generalize e1 : pl s n (pl s n a b) c = x1
  generalize e2 : pl s n a (pl s n b c) = x2
  generalize e3 : ti s n (ti s n a b) c = x3
  generalize e4 : ti s n a (ti s n b c) = x4
  generalize ti s n a (pl s n b c) = x5
  generalize pl s n (ti s n a b) (ti s n a c) = x6
  generalize ti s n (pl s n a b) c = x7
  generalize pl s n (ti s n a c) (ti s n b c) = x8
  generalize le s n (pl s n a c) (pl s n b c) = y1
  generalize le s n (ti s n a c) (ti s n b c) = y2
  generalize le s n (ti s n c a) (ti s n c b) = y3
  generalize le s n a b = y4
  generalize le s n b c = y5
  generalize le s n a c = y6
  simp only [bne]
  generalize (x1 == x2) = b1
  generalize (x3 == x4) = b2
  generalize (x5 == x6) = b3
  generalize (x7 == x8) = b4
  cases b1 <;> cases b2 <;> cases b3 <;> cases b4 <;> first | rfl | (cases y4 <;> cases y5 <;> cases y6 <;> cases y1 <;> cases y2 <;> cases y3 <;> rfl)
end
def lst1 (s : GSystem) (n a b g h : Nat) : Bool := !le s n a h || !le s n b h || le s n g h
def jok (s : GSystem) (n a b g : Nat) : Bool := le s n a g && le s n b g && (List.range' 0 n).all (lst1 s n a b g)
def joinI (s : GSystem) (n a b : Nat) : Int := match (List.range' 0 n).find? (jok s n a b) with | some g => (g : Int) | none => -1
section
variable {s : GSystem} {n : Nat} (h : Tab s n)
include h
theorem sJoin_l0 {a b g : Nat} (ha : a < n) (hb : b < n) (hg : g < n) : ∀ (k m : Nat) (ok : Bool), m + k = n → spec_l1Join_l0 (s, (a : Int), (b : Int), (g : Int), ok, (m : Int)) = some (ok && (List.range' m k).all (lst1 s n a b g)) := by
  have hhi := h.hi
  intro k
  induction k with
  | zero =>
    intro m ok hm
    rw [spec_l1Join_l0.eq_def]
    simp only
    rw [h.size, lt_f (by omega)]
    simp [bs]
  | succ k ih =>
    intro m ok hm
    rw [spec_l1Join_l0.eq_def]
    simp only
    rw [h.size, lt_t (by omega), if_pos rfl, bs, sLe h ha (by omega), sLe h hb (by omega), sLe h hg (by omega)]
    cases ok with
    | false => rfl
    | true =>
      rw [if_pos rfl]
      rw [List.range'_succ, List.all_cons]
      have ih : ∀ ok, _ := fun ok => ih (m + 1) ok (by omega)
      rw [wr_succ (by omega)]
      generalize ((m + 1 : Nat) : Int) = M at ih ⊢
      simp only [bs, lst1]
      cases le s n a m <;> cases le s n b m <;> cases le s n g m <;> simp [bs, ih, lst1]
theorem iJoin_l0 {a b g : Nat} (ha : a < n) (hb : b < n) (hg : g < n) : ∀ (k m : Nat) (ok : Bool), m + k = n → impl_Systemjoin_l0 (s, (a : Int), (b : Int), (g : Int), ok, (m : Int)) = some (ok && (List.range' m k).all (lst1 s n a b g)) := by
  have hhi := h.hi
  intro k
  induction k with
  | zero =>
    intro m ok hm
    rw [impl_Systemjoin_l0.eq_def]
    simp only
    rw [h.size, lt_f (by omega)]
    simp [bs]
  | succ k ih =>
    intro m ok hm
    rw [impl_Systemjoin_l0.eq_def]
    simp only
    rw [h.size, lt_t (by omega), if_pos rfl, iLe h ha (by omega), iLe h hb (by omega), iLe h hg (by omega)]
    rw [List.range'_succ, List.all_cons]
    have ih : ∀ ok, _ := fun ok => ih (m + 1) ok (by omega)
    rw [wr_succ (by omega)]
    generalize ((m + 1 : Nat) : Int) = M at ih ⊢
    simp only [bs, lst1]
    cases ok <;> cases le s n a m <;> cases le s n b m <;> cases le s n g m <;> simp [bs, ih, lst1]
theorem sJoin_l1 {a b : Nat} (ha : a < n) (hb : b < n) : ∀ (k g : Nat), g + k = n → spec_l1Join_l1 (s, (a : Int), (b : Int), (g : Int)) = some (match (List.range' g k).find? (jok s n a b) with | some g => .inr (g : Int) | none => .inl ()) := by
  have hhi := h.hi
  intro k
  induction k with
  | zero =>
    intro g hm
    rw [spec_l1Join_l1.eq_def]
    simp only
    rw [h.size, lt_f (by omega)]
    rfl
  | succ k ih =>
    intro g hm
    rw [spec_l1Join_l1.eq_def]
    simp only
    rw [h.size, lt_t (by omega), if_pos rfl, sLe h ha (by omega), sLe h hb (by omega)]
    have ih := ih (g + 1) (by omega)
    rw [wr_succ (by omega), List.range'_succ, List.find?_cons]
    have hl := fun ok => sJoin_l0 h ha hb (g := g) (by omega) n 0 ok (by omega)
    rw [show ((0 : Nat) : Int) = 0 from rfl] at hl
    generalize ((g + 1 : Nat) : Int) = M at ih ⊢
    have hj : jok s n a b g = (le s n a g && le s n b g && (List.range' 0 n).all (lst1 s n a b g)) := rfl
    rw [hj]
    cases le s n a g <;> cases le s n b g <;> cases hq : (List.range' 0 n).all (lst1 s n a b g) <;> simp [bs, hl, hq, ih]
theorem iJoin_l1 {a b : Nat} (ha : a < n) (hb : b < n) : ∀ (k g : Nat), g + k = n → impl_Systemjoin_l1 (s, (a : Int), (b : Int), (g : Int)) = some (match (List.range' g k).find? (jok s n a b) with | some g => .inr (g : Int) | none => .inl ()) := by
  have hhi := h.hi
  intro k
  induction k with
  | zero =>
    intro g hm
    rw [impl_Systemjoin_l1.eq_def]
    simp only
    rw [h.size, lt_f (by omega)]
    rfl
  | succ k ih =>
    intro g hm
    rw [impl_Systemjoin_l1.eq_def]
    simp only
    rw [h.size, lt_t (by omega), if_pos rfl, iLe h ha (by omega), iLe h hb (by omega)]
    have ih := ih (g + 1) (by omega)
    rw [wr_succ (by omega), List.range'_succ, List.find?_cons]
    have hl := fun ok => iJoin_l0 h ha hb (g := g) (by omega) n 0 ok (by omega)
    rw [show ((0 : Nat) : Int) = 0 from rfl] at hl
    generalize ((g + 1 : Nat) : Int) = M at ih ⊢
    have hj : jok s n a b g = (le s n a g && le s n b g && (List.range' 0 n).all (lst1 s n a b g)) := rfl
    rw [hj]
    cases le s n a g <;> cases le s n b g <;> cases hq : (List.range' 0 n).all (lst1 s n a b g) <;> simp [bs, hl, hq, ih]
theorem sJoin {a b : Nat} (ha : a < n) (hb : b < n) : spec_l1Join (s, (a : Int), (b : Int)) = some (joinI s n a b) := by
  unfold spec_l1Join joinI
  simp only
  have := sJoin_l1 h ha hb n 0 (by omega)
  rw [show ((0 : Nat) : Int) = 0 from rfl] at this
  rw [this, bs]
  cases (List.range' 0 n).find? (jok s n a b) <;> rfl
theorem iJoin {a b : Nat} (ha : a < n) (hb : b < n) : impl_Systemjoin (s, (a : Int), (b : Int)) = some (joinI s n a b) := by
  unfold impl_Systemjoin joinI
  simp only
  have := iJoin_l1 h ha hb n 0 (by omega)
  rw [show ((0 : Nat) : Int) = 0 from rfl] at this
  rw [this, bs]
  cases (List.range' 0 n).find? (jok s n a b) <;> rfl
def twoG (s : GSystem) (n a b : Nat) : Bool := (pl s n a b == pl s n b a) && ((a == b) || !le s n a b || !le s n b a) && decide (joinI s n a b ≥ 0)
omit h in
theorem lt_ge (x : Int) : decide (x < 0) = !decide (x ≥ 0) := by
  by_cases h : x < 0
  · rw [decide_eq_true h, decide_eq_false (by omega)]; rfl
  · rw [decide_eq_false h, decide_eq_true (by omega)]; rfl
theorem sTwo {a b : Nat} (ha : a < n) (hb : b < n) : spec_l1Two (s, (a : Int), (b : Int)) = some (twoG s n a b) := by
  unfold spec_l1Two twoG
  simp only
  rw [sAdd h ha hb, sAdd h hb ha, sLe h ha hb, sLe h hb ha, sJoin h ha hb]
  simp only [bs, cast_beq]
  generalize (pl s n a b == pl s n b a) = b1
  generalize (a == b) = b2
  cases b1 <;> cases b2 <;> cases le s n a b <;> cases le s n b a <;> simp [bs]
end
def inB (x lo hi : Int) : Bool := decide (x ≥ lo) && decide (x ≤ hi)
theorem sIn (x lo hi : Int) : spec_l1In (x, lo, hi) = some (inB x lo hi) := by
  unfold spec_l1In inB
  simp only
  cases decide (x ≥ lo) <;> simp [bs]
theorem iIn (x lo hi : Int) : impl_within (x, lo, hi) = some (inB x lo hi) := by
  unfold impl_within inB
  simp only
  cases decide (x ≥ lo) <;> simp [bs]
def sysM (s : GSystem) (n : Nat) : Bool := (List.range' 0 n).all fun a => oneG s n a && (List.range' 0 n).all fun b => twoG s n a b && (List.range' 0 n).all fun c => threeG s n a b c
section
variable {s : GSystem} {n : Nat} (h : Tab s n)
include h
theorem sSys_l0 {a b : Nat} (ha : a < n) (hb : b < n) : ∀ (k c : Nat), c + k = n → spec_IsSystem_l0 (s, (a : Int), (b : Int), (c : Int)) = some (if (List.range' c k).all (fun c => threeG s n a b c) then .inl () else .inr false) := by
  have hhi := h.hi
  intro k
  induction k with
  | zero =>
    intro c hm
    rw [spec_IsSystem_l0.eq_def]
    simp only
    rw [h.size, lt_f (by omega)]
    rfl
  | succ k ih =>
    intro c hm
    rw [spec_IsSystem_l0.eq_def]
    simp only
    rw [h.size, lt_t (by omega), if_pos rfl, sThree h ha hb (by omega), bs]
    have ih := ih (c + 1) (by omega)
    rw [wr_succ (by omega), List.range'_succ, List.all_cons]
    generalize ((c + 1 : Nat) : Int) = M at ih ⊢
    generalize (List.range' (c + 1) k).all (fun c => threeG s n a b c) = r at ih ⊢
    cases threeG s n a b c <;> cases r <;> simp [ih]
theorem iSys_l1 {a b : Nat} (ha : a < n) (hb : b < n) : ∀ (k c : Nat), c + k = n → impl_IsSystem_l1 (s, (a : Int), (b : Int), (c : Int)) = some (if (List.range' c k).all (fun c => threeG s n a b c) then .inl () else .inr false) := by
  have hhi := h.hi
  intro k
  induction k with
  | zero =>
    intro c hm
    rw [impl_IsSystem_l1.eq_def]
    simp only
    rw [h.size, lt_f (by omega)]
    rfl
  | succ k ih =>
    intro c hm
    rw [impl_IsSystem_l1.eq_def]
    simp only
    rw [h.size, lt_t (by omega), if_pos rfl, iThree h ha hb (by omega), bs]
    have ih := ih (c + 1) (by omega)
    rw [wr_succ (by omega), List.range'_succ, List.all_cons]
    generalize ((c + 1 : Nat) : Int) = M at ih ⊢
    generalize (List.range' (c + 1) k).all (fun c => threeG s n a b c) = r at ih ⊢
    cases threeG s n a b c <;> cases r <;> simp [ih]
theorem sSys_l1 {a : Nat} (ha : a < n) : ∀ (k b : Nat), b + k = n → spec_IsSystem_l1 (s, (a : Int), (b : Int)) = some (if (List.range' b k).all (fun b => twoG s n a b && (List.range' 0 n).all fun c => threeG s n a b c) then .inl () else .inr false) := by
  have hhi := h.hi
  intro k
  induction k with
  | zero =>
    intro c hm
    rw [spec_IsSystem_l1.eq_def]
    simp only
    rw [h.size, lt_f (by omega)]
    rfl
  | succ k ih =>
    intro b hm
    rw [spec_IsSystem_l1.eq_def]
    simp only
    have hl := sSys_l0 h ha (b := b) (by omega) n 0 (by omega)
    rw [show ((0 : Nat) : Int) = 0 from rfl] at hl
    rw [h.size, lt_t (by omega), if_pos rfl, sTwo h ha (by omega), bs, hl]
    have ih := ih (b + 1) (by omega)
    rw [wr_succ (by omega), List.range'_succ, List.all_cons]
    generalize ((b + 1 : Nat) : Int) = M at ih ⊢
    generalize (List.range' (b + 1) k).all (fun b => twoG s n a b && (List.range' 0 n).all fun c => threeG s n a b c) = r at ih ⊢
    cases twoG s n a b <;> cases (List.range' 0 n).all (fun c => threeG s n a b c) <;> cases r <;> simp [ih, bs]
theorem iSys_l2 {a : Nat} (ha : a < n) : ∀ (k b : Nat), b + k = n → impl_IsSystem_l2 (s, (a : Int), (b : Int)) = some (if (List.range' b k).all (fun b => twoG s n a b && (List.range' 0 n).all fun c => threeG s n a b c) then .inl () else .inr false) := by
  have hhi := h.hi
  intro k
  induction k with
  | zero =>
    intro c hm
    rw [impl_IsSystem_l2.eq_def]
    simp only
    rw [h.size, lt_f (by omega)]
    rfl
  | succ k ih =>
    intro b hm
    have hb : b < n := by omega
    rw [impl_IsSystem_l2.eq_def]
    simp only
    have hl := iSys_l1 h ha (b := b) (by omega) n 0 (by omega)
    rw [show ((0 : Nat) : Int) = 0 from rfl] at hl
    rw [h.size, lt_t (by omega), if_pos rfl, iAdd h ha hb, iAdd h hb ha, iLe h ha hb, iLe h hb ha, iJoin h ha hb, hl]
    have ih := ih (b + 1) (by omega)
    rw [wr_succ (by omega), List.range'_succ, List.all_cons]
    generalize ((b + 1 : Nat) : Int) = M at ih ⊢
    generalize (List.range' (b + 1) k).all (fun b => twoG s n a b && (List.range' 0 n).all fun c => threeG s n a b c) = r at ih ⊢
    simp only [bs, cast_bne, lt_ge]
    cases h1 : (pl s n a b == pl s n b a) <;> cases h2 : (a == b) <;> cases h3 : decide (joinI s n a b ≥ 0) <;> cases h4 : le s n a b <;> cases h5 : le s n b a <;> cases h6 : (List.range' 0 n).all (fun c => threeG s n a b c) <;> cases r <;> simp only [twoG, bne, h1, h2, h3, h4, h5, h6, ih, bs, Bool.not_true, Bool.not_false, Bool.true_and, Bool.false_and, Bool.and_true, Bool.and_false, Bool.true_or, Bool.false_or, Bool.or_true, Bool.or_false, if_true, if_false, Bool.false_eq_true]
theorem sSys_l2 : ∀ (k a : Nat), a + k = n → spec_IsSystem_l2 (s, (a : Int)) = some (if (List.range' a k).all (fun a => oneG s n a && (List.range' 0 n).all fun b => twoG s n a b && (List.range' 0 n).all fun c => threeG s n a b c) then .inl () else .inr false) := by
  have hhi := h.hi
  intro k
  induction k with
  | zero =>
    intro c hm
    rw [spec_IsSystem_l2.eq_def]
    simp only
    rw [h.size, lt_f (by omega)]
    rfl
  | succ k ih =>
    intro a hm
    have ha : a < n := by omega
    rw [spec_IsSystem_l2.eq_def]
    simp only
    have hl := sSys_l1 h ha n 0 (by omega)
    rw [show ((0 : Nat) : Int) = 0 from rfl] at hl
    rw [h.size, lt_t (by omega), if_pos rfl, sOne h ha, bs, hl]
    have ih := ih (a + 1) (by omega)
    rw [wr_succ (by omega), List.range'_succ, List.all_cons]
    generalize ((a + 1 : Nat) : Int) = M at ih ⊢
    generalize (List.range' (a + 1) k).all (fun a => oneG s n a && (List.range' 0 n).all fun b => twoG s n a b && (List.range' 0 n).all fun c => threeG s n a b c) = r at ih ⊢
    cases oneG s n a <;> cases (List.range' 0 n).all (fun b => twoG s n a b && (List.range' 0 n).all fun c => threeG s n a b c) <;> cases r <;> simp [ih, bs]
theorem iSys_l3 : ∀ (k a : Nat), a + k = n → impl_IsSystem_l3 (s, (a : Int)) = some (if (List.range' a k).all (fun a => oneG s n a && (List.range' 0 n).all fun b => twoG s n a b && (List.range' 0 n).all fun c => threeG s n a b c) then .inl () else .inr false) := by
  have hhi := h.hi
  have l0 : (0 : Nat) < n := by have := h.lo; omega
  have l1 : (1 : Nat) < n := by have := h.lo; omega
  intro k
  induction k with
  | zero =>
    intro c hm
    rw [impl_IsSystem_l3.eq_def]
    simp only
    rw [h.size, lt_f (by omega)]
    rfl
  | succ k ih =>
    intro a hm
    have ha : a < n := by omega
    rw [impl_IsSystem_l3.eq_def]
    simp only
    have hl := iSys_l2 h ha n 0 (by omega)
    have q1 : impl_Systemplus (s, 0, (a : Int)) = _ := iAdd h l0 ha
    have q2 : impl_Systemtimes (s, 1, (a : Int)) = _ := iMul h l1 ha
    have q3 : impl_Systemtimes (s, (a : Int), 1) = _ := iMul h ha l1
    have q4 : impl_Systemtimes (s, 0, (a : Int)) = _ := iMul h l0 ha
    have q5 : impl_Systemtimes (s, (a : Int), 0) = _ := iMul h ha l0
    have z1 : (((ti s n 0 a : Nat) : Int) != 0) = (ti s n 0 a != 0) := cast_bne _ 0
    have z2 : (((ti s n a 0 : Nat) : Int) != 0) = (ti s n a 0 != 0) := cast_bne _ 0
    rw [show ((0 : Nat) : Int) = 0 from rfl] at hl
    rw [h.size, lt_t (by omega), if_pos rfl, q1, q2, q3, q4, q5, iLe h ha ha, hl]
    have ih := ih (a + 1) (by omega)
    rw [wr_succ (by omega), List.range'_succ, List.all_cons]
    generalize ((a + 1 : Nat) : Int) = M at ih ⊢
    generalize (List.range' (a + 1) k).all (fun a => oneG s n a && (List.range' 0 n).all fun b => twoG s n a b && (List.range' 0 n).all fun c => threeG s n a b c) = r at ih ⊢
    simp only [bs, cast_bne, z1, z2]
    cases h1 : (pl s n 0 a == a) <;> cases h2 : (ti s n 1 a == a) <;> cases h3 : (ti s n a 1 == a) <;> cases h4 : (ti s n 0 a == 0) <;> cases h5 : (ti s n a 0 == 0) <;> cases h6 : le s n a a <;> cases h7 : (List.range' 0 n).all (fun b => twoG s n a b && (List.range' 0 n).all fun c => threeG s n a b c) <;> cases r <;> simp only [oneG, bne, h1, h2, h3, h4, h5, h6, h7, ih, bs, Bool.not_true, Bool.not_false, Bool.true_and, Bool.false_and, Bool.and_true, Bool.and_false, if_true, if_false, Bool.false_eq_true]
end
theorem drop_cons_get {α : Type} {l r : List α} {x : α} {i : Nat} (h : l.drop i = x :: r) : i < l.length ∧ idx l (i : Int) = some x ∧ l.drop (i + 1) = r := by
  have hi : i < l.length := by
    rcases Nat.lt_or_ge i l.length with h' | h'
    · exact h'
    · rw [List.drop_eq_nil_of_le h'] at h; cases h
  have e := List.drop_eq_getElem_cons hi
  rw [h] at e
  obtain ⟨e1, e2⟩ := List.cons.inj e
  exact ⟨hi, by rw [idx_get hi, e1], e2.symm⟩
theorem drop_nil_le {α : Type} {l : List α} {i : Nat} (h : l.drop i = []) : l.length ≤ i := by
  rcases Nat.lt_or_ge i l.length with h' | h'
  · rw [List.drop_eq_getElem_cons h'] at h; cases h
  · exact h'
def arrC (c : Int) : Bool := inB c 3 18 || c == 35
def boxC (c : Int) : Bool := inB c 19 34 || c == 36
def kidsC (c : Int) : Int := if c == 0 then 0 else if c == 1 || c == 2 || arrC c then 2 else if boxC c then 1 else -1
theorem sArrow (c : Int) : spec_l2Arrow c = some (arrC c) := by
  unfold spec_l2Arrow arrC
  simp only [sIn, bs]
  cases inB c 3 18 <;> rfl
theorem sBox (c : Int) : spec_l2Box c = some (boxC c) := by
  unfold spec_l2Box boxC
  simp only [sIn, bs]
  cases inB c 19 34 <;> rfl
theorem sKids (c : Int) : spec_l2Kids c = some (kidsC c) := by
  unfold spec_l2Kids kidsC
  simp only [sArrow, sBox, bs]
  cases c == 0 <;> cases c == 1 <;> cases c == 2 <;> cases arrC c <;> cases boxC c <;> rfl
theorem kidsC_cases (c : Int) : (c = 0 ∧ kidsC c = 0) ∨ ((c = 1 ∨ c = 2 ∨ (3 ≤ c ∧ c ≤ 18) ∨ c = 35) ∧ kidsC c = 2) ∨ (((19 ≤ c ∧ c ≤ 34) ∨ c = 36) ∧ kidsC c = 1) ∨ ((c < 0 ∨ 36 < c) ∧ kidsC c = -1) := by
  unfold kidsC arrC boxC inB
  by_cases h0 : c = 0
  · left; subst h0; exact ⟨rfl, rfl⟩
  · right
    have e0 : (c == 0) = false := by simpa using h0
    by_cases h1 : c = 1 ∨ c = 2 ∨ (3 ≤ c ∧ c ≤ 18) ∨ c = 35
    · left
      refine ⟨h1, ?_⟩
      have : (c == 1 || c == 2 || (decide (c ≥ 3) && decide (c ≤ 18) || c == 35)) = true := by
        simp only [Bool.or_eq_true, Bool.and_eq_true, beq_iff_eq, decide_eq_true_eq]; omega
      rw [e0, this]; rfl
    · right
      have q : (c == 1 || c == 2 || (decide (c ≥ 3) && decide (c ≤ 18) || c == 35)) = false := by
        rw [Bool.eq_false_iff]; intro h
        simp only [Bool.or_eq_true, Bool.and_eq_true, beq_iff_eq, decide_eq_true_eq] at h; omega
      rw [e0, q]
      by_cases h2 : (19 ≤ c ∧ c ≤ 34) ∨ c = 36
      · left
        refine ⟨h2, ?_⟩
        have : (decide (c ≥ 19) && decide (c ≤ 34) || c == 36) = true := by
          simp only [Bool.or_eq_true, Bool.and_eq_true, beq_iff_eq, decide_eq_true_eq]; omega
        rw [this]; rfl
      · right
        refine ⟨by omega, ?_⟩
        have : (decide (c ≥ 19) && decide (c ≤ 34) || c == 36) = false := by
          rw [Bool.eq_false_iff]; intro h
          simp only [Bool.or_eq_true, Bool.and_eq_true, beq_iff_eq, decide_eq_true_eq] at h; omega
        rw [this]; rfl
/-- The shape of a code, and its grade. -/
def shapeI (c : Int) : Int × Int :=
  if inB c 0 2 then (c, -1) else if inB c 3 18 then (3, c - 3) else if inB c 19 34 then (4, c - 19) else if c == 35 then (3, -1) else if c == 36 then (4, -1) else (5, -1)
theorem iShape (c : Int) : impl_shape c = some (shapeI c) := by
  unfold impl_shape shapeI
  simp only [iIn, bs]
  cases h1 : inB c 0 2
  · cases h2 : inB c 3 18
    · cases h3 : inB c 19 34
      · cases c == 35 <;> cases c == 36 <;> rfl
      · simp only [inB, Bool.and_eq_true, decide_eq_true_eq] at h3
        simp only [Bool.false_eq_true, if_false, if_true]
        rw [wr_id (by omega) (by omega)]
    · simp only [inB, Bool.and_eq_true, decide_eq_true_eq] at h2
      simp only [Bool.false_eq_true, if_false, if_true]
      rw [wr_id (by omega) (by omega)]
  · rfl
theorem shapeI_cases (c : Int) : (c = 0 ∧ shapeI c = (0, -1)) ∨ (c = 1 ∧ shapeI c = (1, -1)) ∨ (c = 2 ∧ shapeI c = (2, -1)) ∨ ((3 ≤ c ∧ c ≤ 18) ∧ shapeI c = (3, c - 3)) ∨ (c = 35 ∧ shapeI c = (3, -1)) ∨
    ((19 ≤ c ∧ c ≤ 34) ∧ shapeI c = (4, c - 19)) ∨ (c = 36 ∧ shapeI c = (4, -1)) ∨ ((c < 0 ∨ 36 < c) ∧ shapeI c = (5, -1)) := by
  have inT : ∀ lo hi, lo ≤ c → c ≤ hi → inB c lo hi = true := fun lo hi h1 h2 => by simp only [inB, Bool.and_eq_true, decide_eq_true_eq]; omega
  have inF : ∀ lo hi, (c < lo ∨ hi < c) → inB c lo hi = false := fun lo hi h => by rw [Bool.eq_false_iff]; intro h'; simp only [inB, Bool.and_eq_true, decide_eq_true_eq] at h'; omega
  unfold shapeI
  by_cases h0 : 0 ≤ c ∧ c ≤ 2
  · rw [inT 0 2 h0.1 h0.2]
    have : c = 0 ∨ c = 1 ∨ c = 2 := by omega
    rcases this with rfl | rfl | rfl <;> simp
  · rw [inF 0 2 (by omega)]
    by_cases h1 : 3 ≤ c ∧ c ≤ 18
    · rw [inT 3 18 h1.1 h1.2]
      exact .inr (.inr (.inr (.inl ⟨h1, rfl⟩)))
    · rw [inF 3 18 (by omega)]
      by_cases h2 : 19 ≤ c ∧ c ≤ 34
      · rw [inT 19 34 h2.1 h2.2]
        exact .inr (.inr (.inr (.inr (.inr (.inl ⟨h2, rfl⟩)))))
      · rw [inF 19 34 (by omega)]
        by_cases h3 : c = 35
        · subst h3; simp
        · by_cases h4 : c = 36
          · subst h4; simp
          · have e3 : (c == 35) = false := by simpa using h3
            have e4 : (c == 36) = false := by simpa using h4
            rw [e3, e4]
            refine .inr (.inr (.inr (.inr (.inr (.inr (.inr ⟨by omega, rfl⟩))))))
/-- What is left behind so many types. -/
def skip : Nat → List Int → Option (List Int)
  | 0, l => some l
  | _ + 1, [] => none
  | m + 1, c :: l => if kidsC c = -1 then none else skip (m + (kidsC c).toNat) l
theorem skip_zero (l : List Int) : skip 0 l = some l := by cases l <;> rfl
theorem skip_nil (m : Nat) : skip (m + 1) [] = none := rfl
theorem skip_cons (m : Nat) (c : Int) (l : List Int) : skip (m + 1) (c :: l) = if kidsC c = -1 then none else skip (m + (kidsC c).toNat) l := rfl
theorem skip_add (l : List Int) : ∀ (m k : Nat), skip (m + k) l = (skip m l).bind (skip k) := by
  induction l with
  | nil =>
    intro m k
    cases m with
    | zero => rw [Nat.zero_add, skip_zero]; rfl
    | succ m => rw [show m + 1 + k = (m + k) + 1 by omega, skip_nil, skip_nil]; rfl
  | cons c l ih =>
    intro m k
    cases m with
    | zero => rw [Nat.zero_add, skip_zero]; rfl
    | succ m =>
      rw [show m + 1 + k = (m + k) + 1 by omega, skip_cons, skip_cons]
      by_cases h : kidsC c = -1
      · rw [if_pos h, if_pos h]; rfl
      · rw [if_neg h, if_neg h, ← ih]; congr 1; omega
theorem skip_suffix (l : List Int) : ∀ (m : Nat) (r : List Int), skip m l = some r → ∃ p, l = p ++ r ∧ m ≤ p.length := by
  induction l with
  | nil =>
    intro m r h
    cases m with
    | zero => rw [skip_zero] at h; cases h; exact ⟨[], rfl, Nat.le_refl _⟩
    | succ m => rw [skip_nil] at h; cases h
  | cons c l ih =>
    intro m r h
    cases m with
    | zero => rw [skip_zero] at h; cases h; exact ⟨[], rfl, Nat.le_refl _⟩
    | succ m =>
      rw [skip_cons] at h
      by_cases hk : kidsC c = -1
      · rw [if_pos hk] at h; cases h
      · rw [if_neg hk] at h
        obtain ⟨p, e, hp⟩ := ih _ _ h
        exact ⟨c :: p, by rw [e]; rfl, by simp; omega⟩
/-- Where so many types that begin at a place end. -/
def endI (ty : List Int) (m i : Nat) : Int := match skip m (ty.drop i) with | some r => ((ty.length - r.length : Nat) : Int) | none => -1
theorem sEnd_l0 (ty : List Int) (hty : ty.length ≤ 1099511627776) : ∀ (l : List Int) (i m : Nat), ty.drop i = l → m ≤ 1099511627776 + 2 * i → ∃ x, spec_l2End_l0 (ty, ((m + 1 : Nat) : Int), (i : Int)) = some x ∧ (match x with | .inl () => -1 | .inr r => r) = endI ty (m + 1) i := by
  intro l
  induction l with
  | nil =>
    intro i m hl hm
    rw [spec_l2End_l0.eq_def]
    simp only
    rw [lt_f (drop_nil_le hl)]
    exact ⟨.inl (), rfl, by unfold endI; rw [hl, skip_nil]⟩
  | cons c l ih =>
    intro i m hl hm
    obtain ⟨hi, hx, hd⟩ := drop_cons_get hl
    have hi2 : (i : Int) < 1099511627776 := by omega
    rw [spec_l2End_l0.eq_def]
    simp only
    rw [lt_t hi, if_pos rfl, hx, bs, sKids, bs]
    have he : endI ty (m + 1) i = (match (if kidsC c = -1 then none else skip (m + (kidsC c).toNat) l) with | some r => ((ty.length - r.length : Nat) : Int) | none => -1) := by
      unfold endI; rw [hl, skip_cons]
    rw [he]
    by_cases hk : kidsC c = -1
    · rw [if_pos hk, hk]
      exact ⟨.inr (-1), rfl, rfl⟩
    · rw [if_neg hk]
      have hk0 : 0 ≤ kidsC c ∧ kidsC c ≤ 2 := by rcases kidsC_cases c with h | h | h | h <;> omega
      obtain ⟨k, hkk⟩ : ∃ k : Nat, kidsC c = (k : Int) := ⟨(kidsC c).toNat, by omega⟩
      rw [decide_eq_false (by omega), if_neg (by decide), hkk, Int.toNat_natCast]
      rw [wr_id (x := ((m + 1 : Nat) : Int) - 1) (by omega) (by omega), show ((m + 1 : Nat) : Int) - 1 = (m : Int) by omega, wr_id (x := (m : Int) + (k : Int)) (by omega) (by omega), wr_succ (by omega)]
      by_cases h0 : m + k = 0
      · rw [show ((m : Int) + (k : Int) == 0) = true by simp; omega, if_pos rfl, h0, skip_zero]
        refine ⟨_, rfl, ?_⟩
        have : l.length = ty.length - (i + 1) := by rw [← hd, List.length_drop]
        simp only
        omega
      · rw [show ((m : Int) + (k : Int) == 0) = false by simp; omega, if_neg (by decide)]
        obtain ⟨q, hq⟩ : ∃ q, m + k = q + 1 := ⟨m + k - 1, by omega⟩
        have := ih (i + 1) q hd (by omega)
        rw [show (m : Int) + (k : Int) = ((q + 1 : Nat) : Int) by omega]
        obtain ⟨x, h1, h2⟩ := this
        exact ⟨x, h1, by rw [h2, hq]; unfold endI; rw [hd]⟩
theorem sEnd (ty : List Int) (hty : ty.length ≤ 1099511627776) (i : Nat) (hi : i ≤ ty.length) : spec_l2End (ty, (i : Int)) = some (endI ty 1 i) := by
  unfold spec_l2End
  obtain ⟨x, h1, h2⟩ := sEnd_l0 ty hty _ i 0 rfl (by omega)
  simp only
  rw [show (1 : Int) = ((0 + 1 : Nat) : Int) from rfl, h1, bs]
  rw [← h2]
  cases x <;> rfl
theorem endI_two (ty : List Int) (i : Nat) (hi : i ≤ ty.length) : endI ty 2 i = (if endI ty 1 i = -1 then -1 else endI ty 1 (endI ty 1 i).toNat) := by
  unfold endI
  rw [show 2 = 1 + 1 from rfl, skip_add]
  cases h : skip 1 (ty.drop i) with
  | none => simp
  | some r =>
    obtain ⟨p, hp, hl⟩ := skip_suffix _ _ _ h
    have hlen : ty.length - i = p.length + r.length := by rw [← List.length_drop, hp, List.length_append]
    have : ty.drop (ty.length - r.length) = r := by
      have e : ty.drop (ty.length - r.length) = (ty.drop i).drop p.length := by rw [List.drop_drop]; congr 1; omega
      rw [e, hp, List.drop_left]
    simp only [Option.bind_some]
    rw [if_neg (by omega), Int.toNat_natCast, this]
theorem iEnd (ty : List Int) (hty : ty.length ≤ 1099511627776) : ∀ (d i : Nat), ty.length - i = d → impl_typeEnd (ty, (i : Int)) = some (endI ty 1 i) := by
  intro d
  induction d using Nat.strongRecOn with
  | ind d ih =>
    intro i hd
    rw [impl_typeEnd.eq_def]
    simp only
    rw [decide_eq_false (by omega : ¬ (i : Int) < 0)]
    simp only [Bool.false_eq_true, if_false, bs]
    by_cases hi : i < ty.length
    · rw [decide_eq_false (by omega), if_neg (by decide), idx_get hi, bs, iShape, bs]
      have hdr := List.drop_eq_getElem_cons hi
      have he : ∀ k : Nat, kidsC ty[i] = (k : Int) → endI ty 1 i = endI ty k (i + 1) := fun k hk => by
        unfold endI
        rw [hdr, show 1 = 0 + 1 from rfl, skip_cons, hk, if_neg (by omega), Int.toNat_natCast, Nat.zero_add]
      have hn : kidsC ty[i] = -1 → endI ty 1 i = -1 := fun hk => by
        unfold endI
        rw [hdr, show 1 = 0 + 1 from rfl, skip_cons, if_pos hk]
      have i1 := ih (ty.length - (i + 1)) (by omega) (i + 1) rfl
      have hz : ∀ i : Nat, i ≤ ty.length → endI ty 0 i = (i : Int) := fun i hi => by unfold endI; rw [skip_zero]; simp only [List.length_drop]; omega
      rw [wr_succ (by omega)]
      have two : kidsC ty[i] = 2 → ((impl_typeEnd (ty, ((i + 1 : Nat) : Int))) >>= fun r_11_4 => (impl_typeEnd (ty, r_11_4)) >>= fun r_11_5 => some r_11_5) = some (endI ty 1 i) := fun hk => by
        rw [i1, bs, he 2 hk, endI_two ty (i + 1) (by omega)]
        by_cases h1 : endI ty 1 (i + 1) = -1
        · rw [h1, if_pos rfl, impl_typeEnd.eq_def]; rfl
        · rw [if_neg h1]
          obtain ⟨e, hee, hlo⟩ : ∃ e : Nat, endI ty 1 (i + 1) = (e : Int) ∧ i + 1 < e := by
            unfold endI at h1 ⊢
            cases hs : skip 1 (ty.drop (i + 1)) with
            | none => rw [hs] at h1; exact absurd rfl h1
            | some r =>
              obtain ⟨p, hp, hl⟩ := skip_suffix _ _ _ hs
              have hlen : ty.length - (i + 1) = p.length + r.length := by rw [← List.length_drop, hp, List.length_append]
              exact ⟨_, rfl, by omega⟩
          rw [hee, Int.toNat_natCast, ih (ty.length - e) (by omega) e rfl, bs]
      rcases shapeI_cases ty[i] with ⟨h, e⟩ | ⟨h, e⟩ | ⟨h, e⟩ | ⟨h, e⟩ | ⟨h, e⟩ | ⟨h, e⟩ | ⟨h, e⟩ | ⟨h, e⟩ <;> rw [e] <;> simp only []
      · have hk : kidsC ty[i] = 0 := by rcases kidsC_cases ty[i] with h | h | h | h <;> omega
        rw [if_pos (by rfl), he 0 hk, hz _ (by omega)]
      · have hk : kidsC ty[i] = 2 := by rcases kidsC_cases ty[i] with h | h | h | h <;> omega
        exact two hk
      · have hk : kidsC ty[i] = 2 := by rcases kidsC_cases ty[i] with h | h | h | h <;> omega
        exact two hk
      · have hk : kidsC ty[i] = 2 := by rcases kidsC_cases ty[i] with h | h | h | h <;> omega
        exact two hk
      · have hk : kidsC ty[i] = 2 := by rcases kidsC_cases ty[i] with h | h | h | h <;> omega
        exact two hk
      · have hk : kidsC ty[i] = 1 := by rcases kidsC_cases ty[i] with h | h | h | h <;> omega
        rw [he 1 hk, if_neg (by decide), if_pos (by rfl), i1, bs]
      · have hk : kidsC ty[i] = 1 := by rcases kidsC_cases ty[i] with h | h | h | h <;> omega
        rw [he 1 hk, if_neg (by decide), if_pos (by rfl), i1, bs]
      · have hk : kidsC ty[i] = -1 := by rcases kidsC_cases ty[i] with h | h | h | h <;> omega
        rw [hn hk]; rfl
    · rw [decide_eq_true (by omega), if_pos rfl]
      unfold endI
      rw [List.drop_eq_nil_of_le (by omega), skip_nil]
/-- A written type. -/
def wtB (ty : List Int) : Bool := decide (ty.length ≤ 40) && (skip 1 ty == some [])
theorem endI_len (ty : List Int) : (endI ty 1 0 == (ty.length : Int)) = (skip 1 ty == some []) := by
  unfold endI
  rw [List.drop_zero]
  cases h : skip 1 ty with
  | none => simp
  | some r =>
    obtain ⟨p, hp, hl⟩ := skip_suffix _ _ _ h
    have hlen : ty.length = p.length + r.length := by rw [hp, List.length_append]
    cases r with
    | nil => simp
    | cons x xs =>
      simp only [List.length_cons] at hlen ⊢
      simp
      omega
theorem sType (ty : List Int) (hty : ty.length ≤ 1099511627776) : spec_l2Type ty = some (wtB ty) := by
  unfold spec_l2Type wtB
  by_cases h : ty.length ≤ 40
  · rw [decide_eq_true (by omega : (ty.length : Int) ≤ 40), if_pos rfl, show (0 : Int) = ((0 : Nat) : Int) from rfl, sEnd ty hty 0 (by omega), bs, endI_len, decide_eq_true h]
    cases hs : skip 1 ty == some [] with
    | false => rfl
    | true =>
      have : 0 < ty.length := by
        rcases ty with _ | ⟨c, l⟩
        · rw [show skip 1 [] = none from rfl] at hs; cases hs
        · simp
      rw [if_pos rfl, decide_eq_true (by omega : (ty.length : Int) > ((0 : Nat) : Int))]; rfl
  · rw [decide_eq_false (by omega : ¬ (ty.length : Int) ≤ 40), decide_eq_false h]; rfl
theorem iType (ty : List Int) (hty : ty.length ≤ 1099511627776) : impl_isWrittenType ty = some (wtB ty) := by
  unfold impl_isWrittenType wtB
  rw [iIn, bs]
  by_cases h : ty.length ≤ 40
  · rw [decide_eq_true h]
    by_cases h1 : 1 ≤ ty.length
    · have : inB (ty.length : Int) 1 40 = true := by simp only [inB, Bool.and_eq_true, decide_eq_true_eq]; omega
      rw [this, if_pos rfl, show (0 : Int) = ((0 : Nat) : Int) from rfl, iEnd ty hty _ 0 rfl, bs, endI_len]; rfl
    · have : inB (ty.length : Int) 1 40 = false := by rw [Bool.eq_false_iff]; intro h'; simp only [inB, Bool.and_eq_true, decide_eq_true_eq] at h'; omega
      have e : ty = [] := List.length_eq_zero_iff.1 (by omega)
      rw [this, e]; rfl
  · have : inB (ty.length : Int) 1 40 = false := by rw [Bool.eq_false_iff]; intro h'; simp only [inB, Bool.and_eq_true, decide_eq_true_eq] at h'; omega
    rw [this, decide_eq_false h]; rfl
/-- A code's grade is one of so many (closed: and is told). -/
def gradeC (c : Int) : Int := if 35 ≤ c then -1 else if 19 ≤ c then c - 19 else c - 3
def gokC (size : Int) (closed : Bool) (c : Int) : Bool := !(decide (kidsC c > 0) && decide (c > 2) && (decide (gradeC c ≥ size) || closed && decide (gradeC c < 0)))
theorem sGrade {c : Int} (h : kidsC c > 0) : spec_l2Grade c = some (gradeC c) := by
  have : 0 ≤ c ∧ c ≤ 36 := by rcases kidsC_cases c with h | h | h | h <;> omega
  unfold spec_l2Grade gradeC
  by_cases h1 : 35 ≤ c
  · rw [decide_eq_true (by omega : c ≥ 35), if_pos rfl, if_pos h1]
  · rw [decide_eq_false (by omega : ¬ c ≥ 35), if_neg (by decide), if_neg h1]
    by_cases h2 : 19 ≤ c
    · rw [decide_eq_true (by omega : c ≥ 19), if_pos rfl, if_pos h2, wr_id (by omega) (by omega)]
    · rw [decide_eq_false (by omega : ¬ c ≥ 19), if_neg (by decide), if_neg h2, wr_id (by omega) (by omega)]
theorem sGraded_l0 (ty : List Int) (hty : ty.length ≤ 1099511627776) (size : Int) (cl : Bool) : ∀ (l : List Int) (i : Nat), ty.drop i = l → spec_l2Graded_l0 (ty, size, cl, (i : Int)) = some (if l.all (gokC size cl) then .inl () else .inr false) := by
  intro l
  induction l with
  | nil =>
    intro i hl
    rw [spec_l2Graded_l0.eq_def]
    simp only
    rw [lt_f (drop_nil_le hl)]; rfl
  | cons c l ih =>
    intro i hl
    obtain ⟨hi, hx, hd⟩ := drop_cons_get hl
    rw [spec_l2Graded_l0.eq_def]
    simp only
    rw [lt_t hi, if_pos rfl, hx, bs, bs, sKids, bs, wr_succ (by omega)]
    have ih := ih (i + 1) hd
    generalize ((i + 1 : Nat) : Int) = M at ih ⊢
    rw [List.all_cons]
    unfold gokC at ih ⊢
    by_cases hk : kidsC c > 0
    · simp only [bs, sGrade hk]
      rw [decide_eq_true hk]
      generalize gradeC c = g at ih ⊢
      cases decide (c > 2) <;> cases decide (g ≥ size) <;> cases cl <;> cases decide (g < 0) <;> simp [bs, ih]
    · rw [decide_eq_false hk]; simp [bs, ih]
theorem sGraded (ty : List Int) (hty : ty.length ≤ 1099511627776) (size : Int) (cl : Bool) : spec_l2Graded (ty, size, cl) = some (ty.all (gokC size cl)) := by
  unfold spec_l2Graded
  simp only
  rw [show (0 : Int) = ((0 : Nat) : Int) from rfl, sGraded_l0 ty hty size cl _ 0 rfl, List.drop_zero, bs]
  cases ty.all (gokC size cl) <;> rfl
theorem bind_of {α β : Type} {a : Option α} {f : α → Option β} {x : α} (h : a = some x) : (a >>= f) = f x := by rw [h]; rfl
mutual
def tsz : GTerm → Nat
  | ⟨_, _, _, ks⟩ => 1 + tszs ks
def tszs : List GTerm → Nat
  | [] => 0
  | k :: ks => tsz k + tszs ks
end
mutual
/-- What a term holds in all its rows. -/
def tms : GTerm → Nat
  | ⟨_, _, ty, ks⟩ => ty.length + ks.length + tmss ks
def tmss : List GTerm → Nat
  | [] => 0
  | k :: ks => tms k + tmss ks
end
def leftI (left n : Nat) : Int := if n ≤ left then ((left - n : Nat) : Int) else -1
theorem leftI_le {left n : Nat} (h : n ≤ left) : leftI left n = ((left - n : Nat) : Int) := if_pos h
theorem leftI_gt {left n : Nat} (h : ¬ n ≤ left) : leftI left n = -1 := if_neg h
theorem sLeft_neg (t : GTerm) (i : Int) : spec_l2Left_l0 (t, -1, i) = some (-1) := by
  rw [spec_l2Left_l0.eq_def]
  simp only
  cases decide (i < (t.fKids.length : Int)) <;> rfl
mutual
theorem sLeft : ∀ (t : GTerm) (left : Nat), tms t ≤ 1099511627776 → left ≤ 1048576 → spec_l2Left (t, (left : Int)) = some (leftI left (tsz t))
  | ⟨op, N, ty, ks⟩, left, ht, hl => by
    rw [tms] at ht
    rw [spec_l2Left.eq_def, tsz]
    simp only
    rcases left with _ | l
    · rw [show wr (((0 : Nat) : Int) - 1) = -1 from wr_id (by omega) (by omega), sLeft_neg, bs, leftI_gt (by omega)]
    · have h := sLeft_l0 ks ⟨op, N, ty, ks⟩ 0 l rfl (by simp only; omega) (by omega) (by omega)
      rw [wr_id (by omega) (by omega), show ((l + 1 : Nat) : Int) - 1 = (l : Int) by omega, show (0 : Int) = ((0 : Nat) : Int) from rfl, h, bs]
      unfold leftI
      by_cases q : tszs ks ≤ l
      · rw [if_pos q, if_pos (by omega), show l + 1 - (1 + tszs ks) = l - tszs ks by omega]
      · rw [if_neg q, if_neg (by omega)]
theorem sLeft_l0 : ∀ (ks : List GTerm) (t : GTerm) (i left : Nat), t.fKids.drop i = ks → t.fKids.length ≤ 1099511627776 → tmss ks ≤ 1099511627776 → left ≤ 1048576 → spec_l2Left_l0 (t, (left : Int), (i : Int)) = some (leftI left (tszs ks))
  | [], t, i, left, hd, hk, ht, hl => by
    rw [spec_l2Left_l0.eq_def, tszs]
    simp only
    rw [lt_f (drop_nil_le hd)]
    simp [bs, leftI]
  | k :: ks, t, i, left, hd, hk, ht, hl => by
    obtain ⟨hi, hx, hd'⟩ := drop_cons_get hd
    rw [tmss] at ht
    rw [spec_l2Left_l0.eq_def, tszs]
    simp only
    rw [lt_t hi, if_pos rfl, bs, decide_eq_true (by omega : ((left : Nat) : Int) ≥ 0), if_pos rfl, hx, bs, sLeft k left (by omega) hl, bs, wr_succ (by omega)]
    by_cases q : tsz k ≤ left
    · rw [leftI_le q, sLeft_l0 ks t (i + 1) (left - tsz k) hd' hk (by omega) (by omega)]
      unfold leftI
      by_cases q2 : tszs ks ≤ left - tsz k
      · rw [if_pos q2, if_pos (by omega)]; congr 2; omega
      · rw [if_neg q2, if_neg (by omega)]
    · rw [leftI_gt q, sLeft_neg, leftI_gt (by omega)]
end
def manyI (op : Int) : Int := if inB op 0 12 then ([0, 0, 2, 3, 2, 2, 1, 1, 3, 1, 2, 1, 2] : List Int).getD op.toNat 0 else -1
def hasG (op : Int) : Bool := op == 5 || op == 8 || op == 9 || op == 11 || op == 12
def typedG (op : Int) : Bool := op == 6 || op == 7 || op == 9
theorem op_cases {op : Int} (h : inB op 0 12 = true) : op = 0 ∨ op = 1 ∨ op = 2 ∨ op = 3 ∨ op = 4 ∨ op = 5 ∨ op = 6 ∨ op = 7 ∨ op = 8 ∨ op = 9 ∨ op = 10 ∨ op = 11 ∨ op = 12 := by
  simp only [inB, Bool.and_eq_true, decide_eq_true_eq] at h
  omega
theorem sMany (op : Int) : spec_l2Many op = some (manyI op) := by
  unfold spec_l2Many manyI
  rw [sIn, bs]
  cases h : inB op 0 12
  · rfl
  · rcases op_cases h with rfl | rfl | rfl | rfl | rfl | rfl | rfl | rfl | rfl | rfl | rfl | rfl | rfl <;> rfl
theorem sHas (op : Int) : spec_l2Has op = some (hasG op) := by
  unfold spec_l2Has hasG
  cases op == 5 <;> cases op == 8 <;> cases op == 9 <;> cases op == 11 <;> rfl
theorem sTyped (op : Int) : spec_l2Typed op = some (typedG op) := by
  unfold spec_l2Typed typedG
  cases op == 6 <;> cases op == 7 <;> rfl
def addsI (op kid : Int) : Nat := if op == 5 && kid == 1 then 2 else if (op == 8 && decide (kid > 0)) || op == 9 || (op == 12 && kid == 1) then 1 else 0
theorem addsI_le (op kid : Int) : addsI op kid ≤ 2 := by unfold addsI; split <;> (try split) <;> omega
theorem sAdds (op kid : Int) : spec_l2Adds (op, kid) = some ((addsI op kid : Nat) : Int) := by
  unfold spec_l2Adds addsI
  simp only
  generalize (op == 5) = b1
  generalize (op == 8) = b2
  generalize (op == 9) = b3
  generalize (op == 12) = b4
  generalize (kid == 1) = b5
  generalize decide (kid > 0) = b6
  cases b1 <;> cases b2 <;> cases b3 <;> cases b4 <;> cases b5 <;> cases b6 <;> rfl
def nOkN (g : Int → Bool) (n : Int) (t : GTerm) : Bool := if t.fOp == 0 then inB t.fN 0 (n - 1) else if t.fOp == 1 then inB t.fN 0 2 else if hasG t.fOp then g t.fN else t.fN == 0
def nOkY (y : List Int → Bool) (t : GTerm) : Bool := if typedG t.fOp then y t.fType else (t.fType.length : Int) == 0
def nodeOk (g : Int → Bool) (y : List Int → Bool) (n : Int) (t : GTerm) : Bool := inB t.fOp 0 12 && ((t.fKids.length : Int) == manyI t.fOp) && nOkN g n t && nOkY y t
mutual
def tOk (g : Int → Bool) (y : List Int → Bool) : Nat → GTerm → Bool
  | n, ⟨op, N, ty, ks⟩ => nodeOk g y (n : Int) ⟨op, N, ty, ks⟩ && tOks g y op n 0 ks
def tOks (g : Int → Bool) (y : List Int → Bool) : Int → Nat → Nat → List GTerm → Bool
  | _, _, _, [] => true
  | op, n, i, k :: ks => tOk g y (n + addsI op (i : Int)) k && tOks g y op n (i + 1) ks
end
theorem tOk_eq (g : Int → Bool) (y : List Int → Bool) (n : Nat) (t : GTerm) : tOk g y n t = (nodeOk g y (n : Int) t && tOks g y t.fOp n 0 t.fKids) := by cases t; rw [tOk]
def gN (size : Int) (cl : Bool) (x : Int) : Bool := !(decide (x ≥ size) || decide (x < -1) || cl && decide (x < 0))
def yN (size : Int) (cl : Bool) (ty : List Int) : Bool := wtB ty && ty.all (gokC size cl)
theorem sNode (t : GTerm) (n : Nat) (size : Int) (cl : Bool) (hty : t.fType.length ≤ 1099511627776) (hn : n ≤ 35184372088832) : spec_l2Node (t, (n : Int), size, cl) = some (nodeOk (gN size cl) (yN size cl) (n : Int) t) := by
  unfold spec_l2Node nodeOk
  simp only
  rw [sMany, bs]
  by_cases hk : (t.fKids.length : Int) = manyI t.fOp
  · have hop : inB t.fOp 0 12 = true := by
      cases h : inB t.fOp 0 12
      · unfold manyI at hk; rw [h] at hk; simp at hk
      · rfl
    rw [show ((t.fKids.length : Int) != manyI t.fOp) = false by rw [hk]; exact bne_self, if_neg (by decide), show ((t.fKids.length : Int) == manyI t.fOp) = true by rw [hk]; simp, hop]
    refine (bind_of (x := if nOkN (gN size cl) (n : Int) t then .inl () else .inr false) ?_).trans ?_
    · unfold nOkN gN
      rw [sIn, wr_id (by omega) (by omega), sIn, sHas]
      simp only [bs]
      generalize inB t.fN 0 ((n : Int) - 1) = b1
      generalize inB t.fN 0 2 = b2
      generalize hasG t.fOp = b3
      rw [show (t.fN != 0) = !(t.fN == 0) from rfl]
      generalize (t.fN == 0) = b4
      generalize decide (t.fN ≥ size) = b5
      generalize decide (t.fN < -1) = b6
      generalize decide (t.fN < 0) = b7
      generalize (t.fOp == 0) = b8
      generalize (t.fOp == 1) = b9
      cases b8
      · cases b9
        · cases b3
          · cases b4 <;> rfl
          · cases b5 <;> cases b6 <;> cases cl <;> cases b7 <;> rfl
        · cases b2 <;> rfl
      · cases b1 <;> rfl
    · cases nOkN (gN size cl) (n : Int) t
      · simp
      · unfold nOkY yN
        simp only [if_true]
        rw [sTyped, bs]
        cases typedG t.fOp
        · simp
        · simp only [if_true]
          rw [sType _ hty, sGraded _ hty]
          cases wtB t.fType <;> simp [bs]
  · rw [show ((t.fKids.length : Int) != manyI t.fOp) = true by simpa using hk, if_pos rfl, show ((t.fKids.length : Int) == manyI t.fOp) = false by simpa using hk]
    simp
mutual
theorem sTerm (size : Int) (cl : Bool) : ∀ (t : GTerm) (n : Nat), tms t ≤ 1099511627776 → n + 2 * tms t ≤ 35184372088832 → spec_l2Term (t, (n : Int), size, cl) = some (tOk (gN size cl) (yN size cl) n t)
  | ⟨op, N, ty, ks⟩, n, ht, hn => by
    rw [tms] at ht hn
    rw [spec_l2Term.eq_def, tOk]
    simp only
    rw [sNode _ n size cl (by simp only; omega) (by omega), bs]
    cases hb : nodeOk (gN size cl) (yN size cl) (n : Int) ⟨op, N, ty, ks⟩
    · rfl
    · have h := sTerm_l0 size cl ks ⟨op, N, ty, ks⟩ n 0 rfl (by simp only; omega) (by omega) (by omega)
      rw [if_pos rfl, show (0 : Int) = ((0 : Nat) : Int) from rfl, h, bs]
      simp only
      cases tOks (gN size cl) (yN size cl) op n 0 ks <;> rfl
theorem sTerm_l0 (size : Int) (cl : Bool) : ∀ (ks : List GTerm) (t : GTerm) (n i : Nat), t.fKids.drop i = ks → t.fKids.length ≤ 1099511627776 → tmss ks ≤ 1099511627776 → n + 2 * (ks.length + tmss ks) ≤ 35184372088832 →
    spec_l2Term_l0 (t, (n : Int), size, cl, (i : Int)) = some (if tOks (gN size cl) (yN size cl) t.fOp n i ks then .inl () else .inr false)
  | [], t, n, i, hd, hk, ht, hn => by
    rw [spec_l2Term_l0.eq_def, tOks]
    simp only
    rw [lt_f (drop_nil_le hd)]; rfl
  | k :: ks, t, n, i, hd, hk, ht, hn => by
    obtain ⟨hi, hx, hd'⟩ := drop_cons_get hd
    rw [tmss] at ht hn
    rw [List.length_cons] at hn
    have ha := addsI_le t.fOp (i : Int)
    rw [spec_l2Term_l0.eq_def, tOks]
    simp only
    rw [lt_t hi, if_pos rfl, hx, bs, sAdds, bs, wr_id (by omega) (by omega), show (n : Int) + ((addsI t.fOp (i : Int) : Nat) : Int) = ((n + addsI t.fOp (i : Int) : Nat) : Int) by omega]
    rw [sTerm size cl k (n + addsI t.fOp (i : Int)) (by omega) (by omega), bs, wr_succ (by omega)]
    cases tOk (gN size cl) (yN size cl) (n + addsI t.fOp (i : Int)) k
    · rfl
    · rw [if_pos rfl, sTerm_l0 size cl ks t n (i + 1) hd' hk (by omega) (by omega), Bool.true_and]
end
/-- What is left of a measure. -/
def szB (left : Int) (n : Nat) : Int := if left - (n : Int) < 0 then -1 else left - (n : Int)
theorem szB_cases (left : Int) (n : Nat) : (szB left n = -1 ∧ left < n) ∨ (szB left n = left - n ∧ (n : Int) ≤ left) := by
  unfold szB
  by_cases h : left - (n : Int) < 0
  · rw [if_pos h]; left; omega
  · rw [if_neg h]; right; omega
theorem szIntS_eq (a : List Int) (left : Int) (h1 : 0 ≤ left) (h2 : left ≤ 1048576) (ha : a.length ≤ 9223372036854775807) : laws_szIntS (a, left) = some (szB left a.length) := by
  unfold laws_szIntS szB
  simp only
  rw [wr_id (by omega) (by omega)]
  by_cases h : left - (a.length : Int) < 0
  · rw [decide_eq_true h, if_pos rfl, if_pos h]
  · rw [decide_eq_false h, if_neg (by decide), if_neg h]
mutual
/-- All rows are of a length that a machine can bear. -/
def tln : GTerm → Prop
  | ⟨_, N, ty, ks⟩ => ty.length ≤ 9223372036854775807 ∧ ks.length ≤ 9223372036854775807 ∧ tlns ks ∧ (-9223372036854775808 ≤ N ∧ N ≤ 9223372036854775807)
def tlns : List GTerm → Prop
  | [] => True
  | k :: ks => tln k ∧ tlns ks
end
mutual
theorem szTerm_eq : ∀ (t : GTerm) (left : Int), tln t → 0 ≤ left → left ≤ 1048576 → laws_szTerm (t, left) = some (szB left (tms t))
  | ⟨op, N, ty, ks⟩, left, hl, h1, h2 => by
    rw [tln] at hl
    rw [laws_szTerm.eq_def, tms]
    simp only
    rw [szIntS_eq ty left h1 h2 hl.1, bs]
    rcases szB_cases left ty.length with ⟨e, h⟩ | ⟨e, h⟩
    · rw [e, decide_eq_true (by decide), if_pos rfl]
      unfold szB; rw [if_pos (by omega)]
    · rw [e, decide_eq_false (by omega), if_neg (by decide), laws_szTermS.eq_def]
      simp only
      rw [wr_id (by omega) (by omega)]
      by_cases h3 : left - (ty.length : Int) - (ks.length : Int) < 0
      · rw [decide_eq_true h3, if_pos rfl, bs, decide_eq_true (by decide), if_pos rfl]
        unfold szB; rw [if_pos (by omega)]
      · obtain ⟨m, hm⟩ : ∃ m : Nat, left - (ty.length : Int) - (ks.length : Int) = (m : Int) := ⟨(left - (ty.length : Int) - (ks.length : Int)).toNat, by omega⟩
        rw [decide_eq_false h3, if_neg (by decide), hm, show (0 : Int) = ((0 : Nat) : Int) from rfl, szTermS_l0 ks ks 0 m rfl hl.2.1 hl.2.2.1 (by omega), bs]
        unfold szB
        by_cases q : m < tmss ks
        · rw [if_pos q, if_pos (by omega)]; rfl
        · rw [if_neg q, if_neg (by omega)]
          simp only [bs]
          rw [decide_eq_false (by omega), if_neg (by decide)]; congr 1; omega
theorem szTermS_l0 : ∀ (ks a : List GTerm) (i left : Nat), a.drop i = ks → a.length ≤ 9223372036854775807 → tlns ks → left ≤ 1048576 → laws_szTermS_l0 (a, (left : Int), (i : Int)) = some (if left < tmss ks then .inr (-1) else .inl ((left - tmss ks : Nat) : Int))
  | [], a, i, left, hd, ha, hl, h => by
    rw [laws_szTermS_l0.eq_def, tmss]
    simp only
    rw [lt_f (drop_nil_le hd)]
    simp
  | k :: ks, a, i, left, hd, ha, hl, h => by
    obtain ⟨hi, hx, hd'⟩ := drop_cons_get hd
    rw [tlns] at hl
    rw [laws_szTermS_l0.eq_def, tmss]
    simp only
    rw [lt_t hi, if_pos rfl, hx, bs, szTerm_eq k left hl.1 (by omega) (by omega), bs, wr_succ (by omega)]
    rcases szB_cases left (tms k) with ⟨e, q⟩ | ⟨e, q⟩
    · rw [e, decide_eq_true (by decide), if_pos rfl, if_pos (by omega)]
    · rw [e, decide_eq_false (by omega), if_neg (by decide), show (left : Int) - ((tms k : Nat) : Int) = ((left - tms k : Nat) : Int) by omega, szTermS_l0 ks a (i + 1) (left - tms k) hd' ha hl.2 (by omega)]
      by_cases q2 : left - tms k < tmss ks
      · rw [if_pos q2, if_pos (by omega)]
      · rw [if_neg q2, if_neg (by omega)]; congr 3; omega
end
mutual
theorem toTerm_id : ∀ (t : GTerm), tms t ≤ 1099511627776 → laws_toTerm t = some t
  | ⟨op, N, ty, ks⟩, h => by
    rw [tms] at h
    rw [laws_toTerm.eq_def]
    simp only
    rw [toIntS_id ty (by omega), bs, laws_toTermS.eq_def]
    have : chk (0 ≤ (ks.length : Int) ∧ (Int.toNat (ks.length : Int)) * 64 ≤ 140737488355328) = some () := by
      unfold chk; rw [if_pos]; refine ⟨by omega, ?_⟩; rw [Int.toNat_natCast]; omega
    rw [this, bs, Int.toNat_natCast, show (0 : Int) = ((0 : Nat) : Int) from rfl, toTermS_l0 ks ks (List.replicate ks.length (GTerm.mk ((0 : Nat) : Int) ((0 : Nat) : Int) [] [])) 0 rfl (by omega) (by omega) (by simp) rfl]
    rfl
theorem toTermS_l0 : ∀ (ks a out : List GTerm) (i : Nat), a.drop i = ks → a.length ≤ 1099511627776 → tmss ks ≤ 1099511627776 → out.length = a.length → out.take i = a.take i → laws_toTermS_l0 (a, out, (i : Int)) = some a
  | [], a, out, i, hd, ha, hl, ho, ht => by
    rw [laws_toTermS_l0.eq_def]
    simp only
    have hle := drop_nil_le hd
    rw [lt_f hle]
    rw [List.take_of_length_le (by omega), List.take_of_length_le (by omega)] at ht
    simp [ht]
  | k :: ks, a, out, i, hd, ha, hl, ho, ht => by
    obtain ⟨hi, hx, hd'⟩ := drop_cons_get hd
    have hk : a[i] = k := by rw [idx_get hi] at hx; exact Option.some.inj hx
    rw [tmss] at hl
    rw [laws_toTermS_l0.eq_def]
    simp only
    rw [lt_t hi, if_pos rfl, hx, bs, toTerm_id k (by omega), bs, idx_get (by omega), bs, wr_succ (by omega), Int.toNat_natCast]
    exact toTermS_l0 ks a _ (i + 1) hd' ha (by omega) (by simpa using ho) (by rw [← hk]; exact take_set_succ ho hi ht)
end
mutual
theorem eqTerm_refl : ∀ (t : GTerm), tms t ≤ 1099511627776 → laws_eqTerm (t, t) = some true
  | ⟨op, N, ty, ks⟩, h => by
    rw [tms] at h
    rw [laws_eqTerm.eq_def]
    simp only
    rw [bne_self, if_neg (by decide), bne_self, if_neg (by decide), eqIntS_refl ty (by omega), bs, if_pos rfl, laws_eqTermS.eq_def]
    simp only
    rw [bne_self, if_neg (by decide), show (0 : Int) = ((0 : Nat) : Int) from rfl, eqTermS_l0 ks ks 0 rfl (by omega) (by omega)]
    rfl
theorem eqTermS_l0 : ∀ (ks a : List GTerm) (i : Nat), a.drop i = ks → a.length ≤ 1099511627776 → tmss ks ≤ 1099511627776 → laws_eqTermS_l0 (a, a, (i : Int)) = some (.inl ())
  | [], a, i, hd, ha, hl => by
    rw [laws_eqTermS_l0.eq_def]
    simp only
    rw [lt_f (drop_nil_le hd)]
    rfl
  | k :: ks, a, i, hd, ha, hl => by
    obtain ⟨hi, hx, hd'⟩ := drop_cons_get hd
    rw [tmss] at hl
    rw [laws_eqTermS_l0.eq_def]
    simp only
    rw [lt_t hi, if_pos rfl, hx, bs, bs, eqTerm_refl k (by omega), bs, if_pos rfl, wr_succ (by omega)]
    exact eqTermS_l0 ks a (i + 1) hd' ha (by omega)
end
theorem wtB_len {ty : List Int} (h : wtB ty = true) : ty.length ≤ 40 := by
  unfold wtB at h
  rw [Bool.and_eq_true, decide_eq_true_eq] at h
  exact h.1
theorem fits_ok {n b : Nat} (h : n * b ≤ 140737488355328) : fits n b = some () := by unfold fits chk; rw [if_pos h]
theorem sCopy (l : List Int) (h : l.length ≤ 1099511627776) : spec_l1Copy l = some l := by
  unfold spec_l1Copy
  rw [fits_ok (by simp only [List.length_nil]; omega), bs]
structure Form (s : GSystem) (n : Nat) : Prop where
  size : s.fSize = (n : Int)
  lo : 2 ≤ n
  hi : n ≤ 16
  lp : s.fPlus.length = n * n
  lt : s.fTimes.length = n * n
  lb : s.fBelow.length = n * n
def entB (s : GSystem) (n i : Nat) : Bool := inB (s.fPlus.getD i 0) 0 ((n : Int) - 1) && inB (s.fTimes.getD i 0) 0 ((n : Int) - 1)
section
variable {s : GSystem} {n : Nat} (h : Form s n)
include h
theorem nn : n * n ≤ 256 := Nat.le_trans (Nat.mul_le_mul h.hi h.hi) (by decide)
theorem idxP {i : Nat} (hi : i < n * n) : idx s.fPlus (i : Int) = some (s.fPlus.getD i 0) := by
  have hl : i < s.fPlus.length := by rw [h.lp]; exact hi
  rw [idx_get hl, List.getD_eq_getElem?_getD, List.getElem?_eq_getElem hl]; rfl
theorem idxT {i : Nat} (hi : i < n * n) : idx s.fTimes (i : Int) = some (s.fTimes.getD i 0) := by
  have hl : i < s.fTimes.length := by rw [h.lt]; exact hi
  rw [idx_get hl, List.getD_eq_getElem?_getD, List.getElem?_eq_getElem hl]; rfl
theorem wr_dec : wr (s.fSize - 1) = (n : Int) - 1 := by
  have := h.lo; have := h.hi
  rw [h.size, wr_id (by omega) (by omega)]
theorem sTab_l0 : ∀ (k i : Nat), i + k = n * n → spec_l1Tables_l0 (s, (i : Int)) = some (if (List.range' i k).all (entB s n) then .inl () else .inr false) := by
  have hn := nn h
  intro k
  induction k with
  | zero =>
    intro i hm
    rw [spec_l1Tables_l0.eq_def]
    simp only
    rw [h.lp, lt_f (by omega)]
    rfl
  | succ k ih =>
    intro i hm
    rw [spec_l1Tables_l0.eq_def]
    simp only
    rw [h.lp, lt_t (by omega), if_pos rfl, idxP h (by omega), idxT h (by omega), wr_dec h]
    have ih := ih (i + 1) (by omega)
    rw [wr_succ (by omega), List.range'_succ, List.all_cons]
    generalize ((i + 1 : Nat) : Int) = M at ih ⊢
    generalize (List.range' (i + 1) k).all (entB s n) = r at ih ⊢
    simp only [bs, sIn]
    cases h1 : inB (s.fPlus.getD i 0) 0 ((n : Int) - 1) <;> cases h2 : inB (s.fTimes.getD i 0) 0 ((n : Int) - 1) <;> cases r <;> simp only [entB, h1, h2, ih, bs, Bool.not_true, Bool.not_false, Bool.true_and, Bool.false_and, Bool.and_true, Bool.and_false, if_true, if_false, Bool.false_eq_true]
theorem iTab_l0 : ∀ (k i : Nat), i + k = n * n → impl_IsSystem_l0 (s, (i : Int)) = some (if (List.range' i k).all (entB s n) then .inl () else .inr false) := by
  have hn := nn h
  intro k
  induction k with
  | zero =>
    intro i hm
    rw [impl_IsSystem_l0.eq_def]
    simp only
    rw [h.lp, lt_f (by omega)]
    rfl
  | succ k ih =>
    intro i hm
    rw [impl_IsSystem_l0.eq_def]
    simp only
    rw [h.lp, lt_t (by omega), if_pos rfl, idxP h (by omega), idxT h (by omega)]
    have ih := ih (i + 1) (by omega)
    rw [wr_succ (by omega), List.range'_succ, List.all_cons]
    generalize ((i + 1 : Nat) : Int) = M at ih ⊢
    generalize (List.range' (i + 1) k).all (entB s n) = r at ih ⊢
    have hh : ∀ x, impl_Systemhas (s, x) = some (inB x 0 ((n : Int) - 1)) := fun x => by
      unfold impl_Systemhas
      simp only
      rw [wr_dec h, iIn, bs]
    simp only [bs, hh]
    cases h1 : inB (s.fPlus.getD i 0) 0 ((n : Int) - 1) <;> cases h2 : inB (s.fTimes.getD i 0) 0 ((n : Int) - 1) <;> cases r <;> simp only [entB, h1, h2, ih, bs, Bool.not_true, Bool.not_false, Bool.true_and, Bool.false_and, Bool.and_true, Bool.and_false, if_true, if_false, Bool.false_eq_true]
theorem tab_of (he : (List.range' 0 (n * n)).all (entB s n) = true) : Tab s n := by
  rw [List.all_eq_true] at he
  have hent : ∀ i, i < n * n → entB s n i = true := fun i hi => he i (by rw [List.mem_range'_1]; omega)
  refine ⟨h.size, h.lo, h.hi, h.lp, h.lt, h.lb, fun i hi => ?_, fun i hi => ?_⟩
  · have := hent i (by rw [← h.lp]; exact hi)
    simp only [entB, inB, Bool.and_eq_true, decide_eq_true_eq, List.getD_eq_getElem?_getD, List.getElem?_eq_getElem hi, Option.getD_some] at this
    omega
  · have := hent i (by rw [← h.lt]; exact hi)
    simp only [entB, inB, Bool.and_eq_true, decide_eq_true_eq, List.getD_eq_getElem?_getD, List.getElem?_eq_getElem hi, Option.getD_some] at this
    omega
end
/-- Whether the sizes are right. -/
def formB (s : GSystem) : Bool := inB s.fSize 2 16 && !((s.fPlus.length : Int) != (wr (s.fSize * s.fSize))) && !((s.fTimes.length : Int) != (wr (s.fSize * s.fSize))) && !((s.fBelow.length : Int) != (wr (s.fSize * s.fSize)))
theorem form_of {s : GSystem} (h : formB s = true) : Form s s.fSize.toNat := by
  unfold formB at h
  simp only [Bool.and_eq_true, Bool.not_eq_true', inB, decide_eq_true_eq, bne_eq_false_iff_eq] at h
  obtain ⟨⟨⟨⟨h1, h2⟩, h3⟩, h4⟩, h5⟩ := h
  obtain ⟨n, hn⟩ : ∃ n : Nat, s.fSize = (n : Int) := ⟨s.fSize.toNat, by omega⟩
  rw [hn] at h1 h2 h3 h4 h5 ⊢
  have h256 : n * n ≤ 256 := Nat.le_trans (Nat.mul_le_mul (by omega : n ≤ 16) (by omega : n ≤ 16)) (by decide)
  have e : (n : Int) * (n : Int) = ((n * n : Nat) : Int) := by simp
  rw [e] at h3 h4 h5
  generalize hm : n * n = m at *
  rw [wr_id (by omega) (by omega)] at h3 h4 h5
  rw [Int.toNat_natCast]
  exact ⟨hn, by omega, by omega, by omega, by omega, by omega⟩
def sysB (s : GSystem) : Bool := formB s && (List.range' 0 (s.fSize.toNat * s.fSize.toNat)).all (entB s s.fSize.toNat) && sysM s s.fSize.toNat
theorem sysB_tab {s : GSystem} (h : sysB s = true) : Tab s s.fSize.toNat := by
  unfold sysB at h
  simp only [Bool.and_eq_true] at h
  exact tab_of (form_of h.1.1) h.1.2
theorem sSys (s : GSystem) : spec_IsSystem s = some (sysB s) := by
  unfold spec_IsSystem spec_l1Tables sysB
  rw [sIn]
  cases hf : formB s with
  | false =>
    unfold formB at hf
    cases h1 : inB s.fSize 2 16 <;> cases h2 : ((s.fPlus.length : Int) != (wr (s.fSize * s.fSize))) <;> cases h3 : ((s.fTimes.length : Int) != (wr (s.fSize * s.fSize))) <;> cases h4 : ((s.fBelow.length : Int) != (wr (s.fSize * s.fSize))) <;> simp_all [bs]
  | true =>
    have F := form_of hf
    have hl := sTab_l0 F (s.fSize.toNat * s.fSize.toNat) 0 (by omega)
    rw [show ((0 : Nat) : Int) = 0 from rfl] at hl
    unfold formB at hf
    simp only [Bool.and_eq_true, Bool.not_eq_true'] at hf
    obtain ⟨⟨⟨h1, h2⟩, h3⟩, h4⟩ := hf
    cases he : (List.range' 0 (s.fSize.toNat * s.fSize.toNat)).all (entB s s.fSize.toNat) with
    | false => rw [he] at hl; simp [bs, h1, h2, h3, h4, hl]
    | true =>
      have T := tab_of F he
      have hl2 := sSys_l2 T s.fSize.toNat 0 (by omega)
      rw [show ((0 : Nat) : Int) = 0 from rfl] at hl2
      rw [he] at hl
      have hm : (List.range' 0 s.fSize.toNat).all (fun a => oneG s s.fSize.toNat a && (List.range' 0 s.fSize.toNat).all fun b => twoG s s.fSize.toNat a b && (List.range' 0 s.fSize.toNat).all fun c => threeG s s.fSize.toNat a b c) = sysM s s.fSize.toNat := rfl
      rw [hm] at hl2
      cases hs : sysM s s.fSize.toNat <;> rw [hs] at hl2 <;> simp [bs, h1, h2, h3, h4, hl, hl2]
theorem iSys (s : GSystem) : impl_IsSystem s = some (sysB s) := by
  unfold impl_IsSystem sysB
  rw [iIn]
  cases hf : formB s with
  | false =>
    unfold formB at hf
    cases h1 : inB s.fSize 2 16 <;> cases h2 : ((s.fPlus.length : Int) != (wr (s.fSize * s.fSize))) <;> cases h3 : ((s.fTimes.length : Int) != (wr (s.fSize * s.fSize))) <;> cases h4 : ((s.fBelow.length : Int) != (wr (s.fSize * s.fSize))) <;> simp_all [bs]
  | true =>
    have F := form_of hf
    have hl := iTab_l0 F (s.fSize.toNat * s.fSize.toNat) 0 (by omega)
    rw [show ((0 : Nat) : Int) = 0 from rfl] at hl
    unfold formB at hf
    simp only [Bool.and_eq_true, Bool.not_eq_true'] at hf
    obtain ⟨⟨⟨h1, h2⟩, h3⟩, h4⟩ := hf
    cases he : (List.range' 0 (s.fSize.toNat * s.fSize.toNat)).all (entB s s.fSize.toNat) with
    | false => rw [he] at hl; simp [bs, h1, h2, h3, h4, hl]
    | true =>
      have T := tab_of F he
      have hl2 := iSys_l3 T s.fSize.toNat 0 (by omega)
      rw [show ((0 : Nat) : Int) = 0 from rfl] at hl2
      rw [he] at hl
      have hm : (List.range' 0 s.fSize.toNat).all (fun a => oneG s s.fSize.toNat a && (List.range' 0 s.fSize.toNat).all fun b => twoG s s.fSize.toNat a b && (List.range' 0 s.fSize.toNat).all fun c => threeG s s.fSize.toNat a b c) = sysM s s.fSize.toNat := rfl
      rw [hm] at hl2
      cases hs : sysM s s.fSize.toNat <;> rw [hs] at hl2 <;> simp [bs, h1, h2, h3, h4, hl, hl2]
section
variable {s : GSystem} {n : Nat} (h : Tab s n)
include h
theorem wr_decT : wr (s.fSize - 1) = (n : Int) - 1 := by
  have := h.lo; have := h.hi
  rw [h.size, wr_id (by omega) (by omega)]
end
inductive Ty where
  | num
  | bin (c : Int) (a b : Ty)
  | un (c : Int) (a : Ty)
namespace Ty
def code : Ty → List Int
  | num => [0]
  | bin c a b => c :: (a.code ++ b.code)
  | un c a => c :: a.code
def ok : Ty → Prop
  | num => True
  | bin c a b => kidsC c = 2 ∧ a.ok ∧ b.ok
  | un c a => kidsC c = 1 ∧ a.ok
def kids : Ty → List Ty
  | num => []
  | bin _ a b => [a, b]
  | un _ a => [a]
def hd : Ty → Int
  | num => 0
  | bin c _ _ => c
  | un c _ => c
end Ty
def flat : List Ty → List Int
  | [] => []
  | t :: l => t.code ++ flat l
theorem code_eq (T : Ty) : T.code = T.hd :: flat T.kids := by cases T <;> simp [Ty.code, Ty.hd, Ty.kids, flat]
theorem code_pos (T : Ty) : 1 ≤ T.code.length := by rw [code_eq]; simp
theorem skip_code (T : Ty) : ∀ (m : Nat) (l : List Int), T.ok → skip (m + 1) (T.code ++ l) = skip m l := by
  induction T with
  | num =>
    intro m l _
    rw [Ty.code, List.singleton_append, skip_cons, show kidsC 0 = 0 from rfl, if_neg (by decide)]; rfl
  | bin c a b iha ihb =>
    intro m l h
    rw [Ty.code, List.cons_append, skip_cons, h.1, if_neg (by decide), List.append_assoc, show m + (2 : Int).toNat = (m + 1) + 1 from rfl, iha _ _ h.2.1, ihb _ _ h.2.2]
  | un c a ih =>
    intro m l h
    rw [Ty.code, List.cons_append, skip_cons, h.1, if_neg (by decide), show m + (1 : Int).toNat = m + 1 from rfl, ih _ _ h.2]
theorem skip_trees (l : List Int) : ∀ (m : Nat) (r : List Int), skip m l = some r → ∃ Ts : List Ty, Ts.length = m ∧ (∀ T ∈ Ts, T.ok) ∧ l = flat Ts ++ r := by
  induction l with
  | nil =>
    intro m r h
    cases m with
    | zero => rw [skip_zero] at h; cases h; exact ⟨[], rfl, fun _ h => (by cases h), rfl⟩
    | succ m => rw [skip_nil] at h; cases h
  | cons c l ih =>
    intro m r h
    cases m with
    | zero => rw [skip_zero] at h; cases h; exact ⟨[], rfl, fun _ h => (by cases h), rfl⟩
    | succ m =>
      rw [skip_cons] at h
      by_cases hk : kidsC c = -1
      · rw [if_pos hk] at h; cases h
      · rw [if_neg hk] at h
        obtain ⟨Ts, h1, h2, h3⟩ := ih _ _ h
        rcases kidsC_cases c with ⟨q, e⟩ | ⟨q, e⟩ | ⟨q, e⟩ | ⟨q, e⟩
        · subst q
          rw [e] at h1
          exact ⟨.num :: Ts, by simpa using h1, fun T hT => by rcases List.mem_cons.1 hT with rfl | hT; exact trivial; exact h2 T hT, by rw [h3]; rfl⟩
        · rw [e] at h1
          match Ts, h1 with
          | a :: b :: Ts, h1 =>
            refine ⟨.bin c a b :: Ts, by simpa using h1, fun T hT => ?_, by rw [h3]; simp [flat, Ty.code]⟩
            rcases List.mem_cons.1 hT with rfl | hT
            · exact ⟨e, h2 a List.mem_cons_self, h2 b (List.mem_cons_of_mem _ List.mem_cons_self)⟩
            · exact h2 T (List.mem_cons_of_mem _ (List.mem_cons_of_mem _ hT))
          | [_], h1 => exact absurd h1 (by simp)
          | [], h1 => exact absurd h1 (by simp)
        · rw [e] at h1
          match Ts, h1 with
          | a :: Ts, h1 =>
            refine ⟨.un c a :: Ts, by simpa using h1, fun T hT => ?_, by rw [h3]; simp [flat, Ty.code]⟩
            rcases List.mem_cons.1 hT with rfl | hT
            · exact ⟨e, h2 a List.mem_cons_self⟩
            · exact h2 T (List.mem_cons_of_mem _ hT)
          | [], h1 => exact absurd h1 (by simp)
        · exact absurd e hk
theorem wtB_tree {ty : List Int} (h : wtB ty = true) : ∃ T : Ty, T.ok ∧ ty = T.code ∧ ty.length ≤ 40 := by
  have hl := wtB_len h
  unfold wtB at h
  rw [Bool.and_eq_true, beq_iff_eq] at h
  obtain ⟨Ts, h1, h2, h3⟩ := skip_trees _ _ _ h.2
  match Ts, h1 with
  | [T], _ => exact ⟨T, h2 T List.mem_cons_self, by rw [h3]; simp [flat], hl⟩
theorem wtB_code {T : Ty} (h : T.ok) (hl : T.code.length ≤ 40) : wtB T.code = true := by
  unfold wtB
  have := skip_code T 0 [] h
  rw [List.append_nil, skip_zero] at this
  rw [decide_eq_true hl, show (1 : Nat) = 0 + 1 from rfl, this]; rfl
theorem kids_ok {T : Ty} (h : T.ok) : ∀ K ∈ T.kids, K.ok := by
  intro K hK
  cases T with
  | num => cases hK
  | bin c a b => rcases List.mem_cons.1 hK with rfl | hK; exact h.2.1; rw [List.mem_singleton.1 hK]; exact h.2.2
  | un c a => rw [List.mem_singleton.1 hK]; exact h.2
theorem endI_at {pre : List Int} {T : Ty} {post : List Int} (h : T.ok) : endI (pre ++ (T.code ++ post)) 1 pre.length = ((pre.length + T.code.length : Nat) : Int) := by
  unfold endI
  rw [List.drop_left, show (1 : Nat) = 0 + 1 from rfl, skip_code T 0 post h, skip_zero]
  simp only [List.length_append]
  omega
theorem cut_mid {α : Type} (p m q : List α) (mx : Option Int) (hmx : mx = none ∨ mx = some ((p.length + m.length : Nat) : Int)) : cut (p ++ (m ++ q)) (some (p.length : Int)) (some ((p.length + m.length : Nat) : Int)) mx = some m := by
  unfold cut
  have e : ((p ++ (m ++ q)).take (p.length + m.length)).drop p.length = m := by
    rw [← List.append_assoc, ← List.length_append, List.take_left, List.drop_left]
  rw [if_pos]
  · simp only [Option.getD_some, Int.toNat_natCast, e]
  · rcases hmx with rfl | rfl <;> simp only [Option.getD_some, Option.getD_none, List.length_append] <;> omega
theorem cut_end {α : Type} (p q : List α) : cut (p ++ q) (some (p.length : Int)) none none = some q := by
  unfold cut
  rw [if_pos]
  · simp only [Option.getD_some, Option.getD_none, Int.toNat_natCast, List.take_length, List.drop_left]
  · simp only [Option.getD_some, Option.getD_none, List.length_append]; omega
theorem iParts_l0 (Ks : List Ty) : ∀ (pre : List Int) (out : List (List Int)), (∀ K ∈ Ks, K.ok) → (pre ++ flat Ks).length ≤ 1099511627776 → out.length + Ks.length ≤ 1099511627776 → impl_parts_l0 (pre ++ flat Ks, out, (pre.length : Int)) = some (out ++ Ks.map Ty.code) := by
  induction Ks with
  | nil =>
    intro pre out hk hl ho
    rw [show flat [] = [] from rfl, List.append_nil, impl_parts_l0.eq_def]
    simp only
    rw [lt_f (Nat.le_refl _)]; simp
  | cons K Ks ih =>
    intro pre out hk hl ho
    have hK := hk K List.mem_cons_self
    have hp := code_pos K
    rw [show flat (K :: Ks) = K.code ++ flat Ks from rfl] at hl ⊢
    rw [List.length_cons] at ho
    rw [impl_parts_l0.eq_def]
    simp only
    rw [lt_t (by simp only [List.length_append]; omega), if_pos rfl, iEnd _ hl _ pre.length rfl, endI_at hK, bs, cut_mid _ _ _ _ (.inr rfl), bs, fits_ok (by simp only [List.length_singleton]; omega), bs]
    have := ih (pre ++ K.code) (out ++ [K.code]) (fun K hK => hk K (List.mem_cons_of_mem _ hK)) (by rw [List.append_assoc]; exact hl) (by simp; omega)
    rw [List.append_assoc, List.length_append] at this
    rw [this, List.map_cons, List.append_assoc]; rfl
theorem iParts {T : Ty} (h : T.ok) (hl : T.code.length ≤ 1048576) : impl_parts T.code = some (T.kids.map Ty.code) := by
  unfold impl_parts
  have hk : T.kids.length ≤ 2 := by cases T <;> simp [Ty.kids]
  have e : [T.hd] ++ flat T.kids = T.code := (code_eq T).symm
  have := iParts_l0 T.kids [T.hd] [] (kids_ok h) (by rw [e]; omega) (by simp only [List.length_nil]; omega)
  rw [e] at this
  rw [show (1 : Int) = (([T.hd].length : Nat) : Int) from rfl, this, bs]; rfl
theorem sPart0 {c : Int} {a : Ty} {r : List Int} (ha : a.ok) (hl : (c :: (a.code ++ r)).length ≤ 1099511627776) : spec_l2Part (c :: (a.code ++ r), 0) = some a.code := by
  unfold spec_l2Part
  simp only
  have e := endI_at (pre := [c]) (post := r) ha
  have h1 := sEnd (c :: (a.code ++ r)) hl 1 (by simp)
  rw [show (((1 : Nat)) : Int) = 1 from rfl] at h1
  rw [List.length_singleton] at e
  have e' : endI (c :: (a.code ++ r)) 1 1 = ((1 + a.code.length : Nat) : Int) := e
  rw [h1, bs, e', if_pos (by rfl)]
  have h2 := cut_mid [c] a.code r none (.inl rfl)
  rw [List.length_singleton] at h2
  have h2' : cut (c :: (a.code ++ r)) (some 1) (some ((1 + a.code.length : Nat) : Int)) none = some a.code := h2
  simp only [List.length_cons, List.length_append] at hl
  rw [h2', bs, sCopy _ (by omega), bs]
theorem sPart1 {c : Int} {a : Ty} {r : List Int} (ha : a.ok) (hl : (c :: (a.code ++ r)).length ≤ 1099511627776) : spec_l2Part (c :: (a.code ++ r), 1) = some r := by
  unfold spec_l2Part
  simp only
  have e := endI_at (pre := [c]) (post := r) ha
  have h1 := sEnd (c :: (a.code ++ r)) hl 1 (by simp)
  rw [show (((1 : Nat)) : Int) = 1 from rfl] at h1
  rw [List.length_singleton] at e
  have e' : endI (c :: (a.code ++ r)) 1 1 = ((1 + a.code.length : Nat) : Int) := e
  rw [h1, bs, e', if_neg (by decide)]
  have h2 := cut_end (c :: a.code) r
  rw [List.length_cons, List.cons_append, Nat.add_comm] at h2
  simp only [List.length_cons, List.length_append] at hl
  rw [h2, bs, sCopy _ (by omega), bs]
def Ty.dat : Ty → Prop
  | .num => True
  | .bin c a b => (c = 1 ∨ c = 2) ∧ a.dat ∧ b.dat
  | .un _ a => a.dat
theorem dat_of {T : Ty} (h : T.ok) : (T.code.all fun c => !arrC c) = true → T.dat := by
  induction T with
  | num => intro _; trivial
  | bin c a b iha ihb =>
    intro hd
    rw [Ty.code, List.all_cons, List.all_append, Bool.and_eq_true, Bool.and_eq_true] at hd
    refine ⟨?_, iha h.2.1 hd.2.1, ihb h.2.2 hd.2.2⟩
    have h1 := h.1
    have h2 := hd.1
    unfold arrC inB at h2
    simp only [Bool.not_eq_true', Bool.or_eq_false_iff, beq_eq_false_iff_ne, Bool.and_eq_false_iff, decide_eq_false_iff_not] at h2
    rcases kidsC_cases c with q | q | q | q <;> omega
  | un c a ih =>
    intro hd
    rw [Ty.code, List.all_cons, Bool.and_eq_true] at hd
    exact ih h.2 hd.2
def datB (ty : List Int) : Bool := ty.all fun c => !arrC c
theorem sData_l0 (ty : List Int) (hty : ty.length ≤ 1099511627776) : ∀ (l : List Int) (i : Nat), ty.drop i = l → spec_l2Data_l0 (ty, (i : Int)) = some (if l.all (fun c => !arrC c) then .inl () else .inr false) := by
  intro l
  induction l with
  | nil =>
    intro i hd
    rw [spec_l2Data_l0.eq_def]
    simp only
    rw [lt_f (drop_nil_le hd)]; rfl
  | cons c l ih =>
    intro i hd
    obtain ⟨hi, hx, hd'⟩ := drop_cons_get hd
    rw [spec_l2Data_l0.eq_def]
    simp only
    rw [lt_t hi, if_pos rfl, hx, bs, sArrow, bs, wr_succ (by omega), ih (i + 1) hd', List.all_cons]
    cases arrC c <;> simp
theorem sData (ty : List Int) (hty : ty.length ≤ 1099511627776) : spec_l2Data ty = some (datB ty) := by
  unfold spec_l2Data datB
  rw [show (0 : Int) = ((0 : Nat) : Int) from rfl, sData_l0 ty hty _ 0 rfl, List.drop_zero, bs]
  cases ty.all (fun c => !arrC c) <;> rfl
theorem shape3 (c : Int) : ((shapeI c).1 == 3) = arrC c := by
  unfold arrC inB
  rcases shapeI_cases c with ⟨h, e⟩ | ⟨h, e⟩ | ⟨h, e⟩ | ⟨h, e⟩ | ⟨h, e⟩ | ⟨h, e⟩ | ⟨h, e⟩ | ⟨h, e⟩ <;> rw [e] <;> (first | (subst h; rfl) | skip)
  · rw [decide_eq_true (by omega : c ≥ 3), decide_eq_true (by omega : c ≤ 18)]; rfl
  · rw [decide_eq_false (by omega : ¬ c ≤ 18), beq_eq_false_iff_ne.2 (by omega : c ≠ 35)]; simp
  · have : ¬ (c ≥ 3 ∧ c ≤ 18) := by omega
    rw [beq_eq_false_iff_ne.2 (by omega : c ≠ 35)]
    by_cases h3 : c ≥ 3
    · rw [decide_eq_false (by omega : ¬ c ≤ 18)]; simp
    · rw [decide_eq_false h3]; simp
theorem iData_c1 (c : Int) : impl_isDataOf_c1 c = some (arrC c) := by
  unfold impl_isDataOf_c1
  rw [iShape, bs]
  have := shape3 c
  revert this
  rcases shapeI c with ⟨a, b⟩
  intro this
  simp only at this ⊢
  rw [this]
theorem iIdxArr_l0 (ty : List Int) (hty : ty.length ≤ 1099511627776) : ∀ (l : List Int) (i : Nat), ty.drop i = l → ∃ r, slices_IndexFunc_int_Kimpl_isDataOf_c1_l0 (ty, (i : Int)) = some r ∧ (match r with | .inl _ => l.all (fun c => !arrC c) = true | .inr m => l.all (fun c => !arrC c) = false ∧ 0 ≤ m) := by
  intro l
  induction l with
  | nil =>
    intro i hd
    rw [slices_IndexFunc_int_Kimpl_isDataOf_c1_l0.eq_def]
    simp only
    rw [lt_f (drop_nil_le hd)]
    exact ⟨_, rfl, rfl⟩
  | cons c l ih =>
    intro i hd
    obtain ⟨hi, hx, hd'⟩ := drop_cons_get hd
    rw [slices_IndexFunc_int_Kimpl_isDataOf_c1_l0.eq_def]
    simp only
    rw [lt_t hi, if_pos rfl, hx, bs, iData_c1, bs, wr_succ (by omega), List.all_cons]
    cases arrC c
    · obtain ⟨r, h1, h2⟩ := ih (i + 1) hd'
      exact ⟨r, h1, by simpa using h2⟩
    · exact ⟨.inr (i : Int), rfl, by simp⟩
theorem iArr (ty : List Int) (hty : ty.length ≤ 1099511627776) : slices_ContainsFunc_int_Kimpl_isDataOf_c1 ty = some (!datB ty) := by
  unfold slices_ContainsFunc_int_Kimpl_isDataOf_c1 slices_IndexFunc_int_Kimpl_isDataOf_c1 datB
  obtain ⟨r, h1, h2⟩ := iIdxArr_l0 ty hty _ 0 rfl
  rw [List.drop_zero] at h2
  rw [show (0 : Int) = ((0 : Nat) : Int) from rfl, h1, bs]
  cases r with
  | inl u => simp only at h2; rw [h2]; rfl
  | inr m => simp only at h2; rw [h2.1]; simp [bs, h2.2]
def hasB (s : GSystem) (g : Int) : Bool := inB g 0 (wr (s.fSize - 1))
theorem iHas (s : GSystem) (g : Int) : impl_Systemhas (s, g) = some (hasB s g) := by
  unfold impl_Systemhas hasB
  simp only
  rw [iIn, bs]
/-- What the program asks of a code of a type of a system. -/
def codB (s : GSystem) (c : Int) : Bool := !(((shapeI c).1 == 3 || (shapeI c).1 == 4) && !hasB s (shapeI c).2)
def typB (s : GSystem) (ty : List Int) : Bool := wtB ty && ty.all (codB s)
theorem iTypeOf_l0 (s : GSystem) (ty : List Int) (hty : ty.length ≤ 1099511627776) : ∀ (l : List Int) (i : Nat), ty.drop i = l → impl_isTypeOf_l0 (s, ty, (i : Int)) = some (if l.all (codB s) then .inl () else .inr false) := by
  intro l
  induction l with
  | nil =>
    intro i hd
    rw [impl_isTypeOf_l0.eq_def]
    simp only
    rw [lt_f (drop_nil_le hd)]; rfl
  | cons c l ih =>
    intro i hd
    obtain ⟨hi, hx, hd'⟩ := drop_cons_get hd
    rw [impl_isTypeOf_l0.eq_def]
    simp only
    rw [lt_t hi, if_pos rfl, hx, bs, iShape, bs, wr_succ (by omega), ih (i + 1) hd', List.all_cons]
    unfold codB
    rcases shapeI c with ⟨a, b⟩
    simp only [iHas, bs]
    cases a == 3 <;> cases a == 4 <;> cases hasB s b <;> simp [bs]
theorem iTypeOf (s : GSystem) (ty : List Int) (hty : ty.length ≤ 1099511627776) : impl_isTypeOf (s, ty) = some (typB s ty) := by
  unfold impl_isTypeOf typB
  simp only
  rw [iType ty hty, bs]
  cases wtB ty
  · rfl
  · rw [if_pos rfl, show (0 : Int) = ((0 : Nat) : Int) from rfl, iTypeOf_l0 s ty hty _ 0 rfl, List.drop_zero, bs]
    cases ty.all (codB s) <;> rfl
theorem hasB_tab {s : GSystem} {n : Nat} (h : Tab s n) (g : Int) : hasB s g = inB g 0 ((n : Int) - 1) := by
  unfold hasB; rw [wr_decT h]
theorem codB_tab {s : GSystem} {n : Nat} (h : Tab s n) {c : Int} : codB s c = gokC s.fSize true c := by
  unfold codB gokC gradeC
  have hn := h.lo
  rw [hasB_tab h, h.size]
  rcases shapeI_cases c with ⟨q, e⟩ | ⟨q, e⟩ | ⟨q, e⟩ | ⟨q, e⟩ | ⟨q, e⟩ | ⟨q, e⟩ | ⟨q, e⟩ | ⟨q, e⟩ <;> rw [e]
  · subst q; rfl
  · subst q; rfl
  · subst q; rfl
  · have hk : kidsC c = 2 := by rcases kidsC_cases c with h | h | h | h <;> omega
    rw [hk, if_neg (by omega), if_neg (by omega), decide_eq_true (by omega : c > 2)]
    unfold inB
    rw [decide_eq_true (by omega : c - 3 ≥ 0), decide_eq_false (by omega : ¬ c - 3 < 0)]
    by_cases hc : c - 3 ≤ (n : Int) - 1
    · rw [decide_eq_true hc, decide_eq_false (by omega : ¬ c - 3 ≥ (n : Int))]; rfl
    · rw [decide_eq_false hc, decide_eq_true (by omega : c - 3 ≥ (n : Int))]; rfl
  · subst q; unfold inB; simp [kidsC, arrC, boxC, inB]
  · have hk : kidsC c = 1 := by rcases kidsC_cases c with h | h | h | h <;> omega
    rw [hk, if_neg (by omega), if_pos (by omega), decide_eq_true (by omega : c > 2)]
    unfold inB
    rw [decide_eq_true (by omega : c - 19 ≥ 0), decide_eq_false (by omega : ¬ c - 19 < 0)]
    by_cases hc : c - 19 ≤ (n : Int) - 1
    · rw [decide_eq_true hc, decide_eq_false (by omega : ¬ c - 19 ≥ (n : Int))]; rfl
    · rw [decide_eq_false hc, decide_eq_true (by omega : c - 19 ≥ (n : Int))]; rfl
  · subst q; unfold inB; simp [kidsC, arrC, boxC, inB]
  · have hk : kidsC c = -1 := by rcases kidsC_cases c with h | h | h | h <;> omega
    rw [hk]; simp
theorem typB_tab {s : GSystem} {n : Nat} (h : Tab s n) (ty : List Int) : typB s ty = yN s.fSize true ty := by
  unfold typB yN
  rw [show codB s = gokC s.fSize true from funext fun c => codB_tab h]
/-- A type of a system. -/
def isTy (s : GSystem) (ty : List Int) : Bool := sysB s && typB s ty
theorem sIsType (s : GSystem) (ty : List Int) (hty : ty.length ≤ 1099511627776) : spec_IsType (s, ty) = some (isTy s ty) := by
  unfold spec_IsType isTy
  simp only
  rw [sSys, bs]
  cases hs : sysB s
  · rfl
  · rw [if_pos rfl, sType ty hty, bs, sGraded ty hty, Bool.true_and, typB_tab (sysB_tab hs)]
    unfold yN
    cases wtB ty <;> rfl
theorem sIsData (s : GSystem) (ty : List Int) (hty : ty.length ≤ 1099511627776) : spec_IsData (s, ty) = some (isTy s ty && datB ty) := by
  unfold spec_IsData
  simp only
  rw [sIsType s ty hty, bs, sData ty hty]
  cases isTy s ty <;> rfl
theorem iDataOf (s : GSystem) (ty : List Int) (hty : ty.length ≤ 1099511627776) : impl_isDataOf (s, ty) = some (typB s ty && datB ty) := by
  unfold impl_isDataOf
  simp only
  rw [iTypeOf s ty hty, bs, iArr ty hty]
  cases typB s ty <;> simp [bs]
theorem iIsData (s : GSystem) (ty : List Int) (hty : ty.length ≤ 1099511627776) : impl_IsData (s, ty) = some (isTy s ty && datB ty) := by
  unfold impl_IsData isTy
  simp only
  rw [iDataOf s ty hty, bs, iSys]
  cases typB s ty <;> cases datB ty <;> cases sysB s <;> rfl
def cntV : Ty → Nat
  | .num => 3
  | .bin c a b => if c = 1 then min (cntV a * cntV b) 301 else min (cntV a + cntV b) 301
  | .un _ a => cntV a
theorem cntV_le (T : Ty) : 1 ≤ cntV T ∧ cntV T ≤ 301 := by
  induction T with
  | num => decide
  | bin c a b iha ihb =>
    rw [cntV]
    have : 1 ≤ cntV a * cntV b := Nat.mul_le_mul iha.1 ihb.1
    split <;> omega
  | un c a ih => rw [cntV]; exact ih
theorem idx0 {α : Type} (x : α) (l : List α) : idx (x :: l) 0 = some x := rfl
theorem idx1 {α : Type} (x y : α) (l : List α) : idx (x :: y :: l) 1 = some y := rfl
theorem wr_mul {a b : Nat} (ha : a ≤ 301) (hb : b ≤ 301) : wr ((a : Int) * (b : Int)) = ((a * b : Nat) : Int) := by
  have : a * b ≤ 301 * 301 := Nat.mul_le_mul ha hb
  rw [← Int.natCast_mul, wr_id (by omega) (by omega)]
theorem wr_add {a b : Nat} (ha : a ≤ 1099511627776) (hb : b ≤ 1099511627776) : wr ((a : Int) + (b : Int)) = ((a + b : Nat) : Int) := by rw [wr_id (by omega) (by omega)]; omega
theorem sMin (a b : Nat) : spec_l1Min ((a : Int), (b : Int)) = some ((min a b : Nat) : Int) := by
  unfold spec_l1Min
  simp only
  by_cases h : a < b
  · rw [decide_eq_true (by omega : (a : Int) < (b : Int)), if_pos rfl, Nat.min_eq_left (by omega)]
  · rw [decide_eq_false (by omega : ¬ (a : Int) < (b : Int)), if_neg (by decide), Nat.min_eq_right (by omega)]
theorem mnx_min (a b : Nat) : mnx false (a : Int) (b : Int) = ((min a b : Nat) : Int) := by
  unfold mnx
  simp only [cond_false]
  by_cases h : b < a
  · rw [if_pos (by omega), Nat.min_eq_right (by omega)]
  · rw [if_neg (by omega), Nat.min_eq_left (by omega)]
theorem sCountV (T : Ty) : T.ok → T.dat → T.code.length ≤ 1048576 → spec_l5Count T.code = some ((cntV T : Nat) : Int) := by
  induction T with
  | num => intro _ _ _; rw [spec_l5Count.eq_def]; rfl
  | bin c a b iha ihb =>
    intro h hd hl
    have h0 := sPart0 (c := c) (r := b.code) h.2.1 (by rw [Ty.code] at hl; omega)
    have h1 := sPart1 (c := c) (r := b.code) h.2.1 (by rw [Ty.code] at hl; omega)
    have la := cntV_le a
    have lb := cntV_le b
    rw [Ty.code, List.length_cons, List.length_append] at hl
    rw [Ty.code, spec_l5Count.eq_def]
    rw [idx0, bs]
    rcases hd.1 with rfl | rfl
    · rw [if_neg (by decide), if_pos (by rfl), h0, bs, iha h.2.1 hd.2.1 (by omega), bs, h1, bs, ihb h.2.2 hd.2.2 (by omega), bs, wr_mul la.2 lb.2, show (301 : Int) = ((301 : Nat) : Int) from rfl, sMin, bs, cntV, if_pos rfl]
    · rw [if_neg (by decide), if_neg (by decide), if_pos (by rfl), h0, bs, iha h.2.1 hd.2.1 (by omega), bs, h1, bs, ihb h.2.2 hd.2.2 (by omega), bs, wr_add (by omega) (by omega), show (301 : Int) = ((301 : Nat) : Int) from rfl, sMin, bs, cntV, if_neg (by decide)]
  | un c a ih =>
    intro h hd hl
    have e : Ty.code (.un c a) = c :: (a.code ++ []) := by rw [Ty.code, List.append_nil]
    have h0 := sPart0 (c := c) (r := []) h.2 (by rw [← e]; omega)
    rw [Ty.code, List.length_cons] at hl
    have hk := h.1
    have hc : c ≠ 0 ∧ c ≠ 1 ∧ c ≠ 2 := by rcases kidsC_cases c with q | q | q | q <;> omega
    rw [e, spec_l5Count.eq_def]
    rw [idx0, bs, beq_eq_false_iff_ne.2 hc.1, beq_eq_false_iff_ne.2 hc.2.1, beq_eq_false_iff_ne.2 hc.2.2]
    rw [if_neg (by decide), if_neg (by decide), if_neg (by decide), h0, bs, ih h.2 hd (by omega), bs, cntV]
theorem iCountV (T : Ty) : T.ok → T.dat → T.code.length ≤ 1048576 → impl_count T.code = some ((cntV T : Nat) : Int) := by
  induction T with
  | num => intro _ _ _; rw [impl_count.eq_def, iParts (T := .num) trivial (by simp [Ty.code])]; rfl
  | bin c a b iha ihb =>
    intro h hd hl
    have la := cntV_le a
    have lb := cntV_le b
    have hp := iParts h hl
    rw [Ty.kids, List.map_cons, List.map_cons, List.map_nil] at hp
    rw [impl_count.eq_def, hp]
    rw [Ty.code, List.length_cons, List.length_append] at hl
    rw [Ty.code, idx0, bs, iShape, bs]
    rcases hd.1 with rfl | rfl
    · rw [show shapeI 1 = (1, -1) from rfl]
      simp only [bs, idx0, idx1]
      rw [iha h.2.1 hd.2.1 (by omega), ihb h.2.2 hd.2.2 (by omega)]
      simp only [bs]
      rw [if_pos (by rfl), bs, wr_mul la.2 lb.2, show (301 : Int) = ((301 : Nat) : Int) from rfl, mnx_min, cntV, if_pos rfl]
    · rw [show shapeI 2 = (2, -1) from rfl]
      simp only [bs, idx0, idx1]
      rw [iha h.2.1 hd.2.1 (by omega), ihb h.2.2 hd.2.2 (by omega)]
      simp only [bs]
      rw [if_neg (by decide), if_pos (by rfl), bs, bs, wr_add (by omega) (by omega), show (301 : Int) = ((301 : Nat) : Int) from rfl, mnx_min, cntV, if_neg (by decide)]
  | un c a ih =>
    intro h hd hl
    have la := cntV_le a
    have hp := iParts h hl
    rw [Ty.kids, List.map_cons, List.map_nil] at hp
    have hk := h.1
    have hc : (shapeI c).1 = 4 := by rcases shapeI_cases c with ⟨q, e⟩ | ⟨q, e⟩ | ⟨q, e⟩ | ⟨q, e⟩ | ⟨q, e⟩ | ⟨q, e⟩ | ⟨q, e⟩ | ⟨q, e⟩ <;> rw [e] <;> simp only <;> (rcases kidsC_cases c with q | q | q | q <;> omega)
    rw [impl_count.eq_def, hp]
    rw [Ty.code, List.length_cons] at hl
    rw [Ty.code, idx0, bs, iShape, bs]
    revert hc
    rcases shapeI c with ⟨x, y⟩
    intro hc
    simp only at hc
    subst hc
    simp only [bs, idx0]
    rw [ih h.2 hd (by omega)]
    simp only [bs]
    rw [if_neg (by decide), if_neg (by decide), if_pos (by rfl), bs, bs, bs, show (301 : Int) = ((301 : Nat) : Int) from rfl, mnx_min, cntV, Nat.min_eq_left la.2]
theorem isTy_tree {s : GSystem} {ty : List Int} (h : (isTy s ty && datB ty) = true) : ∃ T : Ty, T.ok ∧ T.dat ∧ ty = T.code ∧ ty.length ≤ 40 := by
  unfold isTy typB at h
  simp only [Bool.and_eq_true] at h
  obtain ⟨T, h1, h2, h3⟩ := wtB_tree h.1.2.1
  exact ⟨T, h1, dat_of h1 (by rw [← h2]; exact h.2), h2, h3⟩
theorem countValues_eq (s : GSystem) (ty : List Int) (hty : ty.length ≤ 1048576) :
    (∃ T : Ty, T.ok ∧ T.dat ∧ ty = T.code ∧ ty.length ≤ 40 ∧ (isTy s ty && datB ty) = true ∧ spec_CountValues (s, ty) = some (if cntV T > 300 then -1 else (cntV T : Int)) ∧ impl_CountValues (s, ty) = some (if cntV T > 300 then -1 else (cntV T : Int))) ∨
    ((isTy s ty && datB ty) = false ∧ spec_CountValues (s, ty) = some (-1) ∧ impl_CountValues (s, ty) = some (-1)) := by
  unfold spec_CountValues impl_CountValues
  simp only
  rw [sIsData s ty (by omega), iIsData s ty (by omega)]
  cases h : isTy s ty && datB ty
  · exact .inr ⟨rfl, rfl, rfl⟩
  · obtain ⟨T, h1, h2, h3, h4⟩ := isTy_tree h
    refine .inl ⟨T, h1, h2, h3, h4, rfl, ?_, ?_⟩
    · subst h3
      rw [bs, if_pos rfl, sCountV T h1 h2 hty, bs, bs]
      by_cases q : cntV T > 300
      · rw [decide_eq_true (by omega), if_pos rfl, if_pos q]
      · rw [decide_eq_false (by omega), if_neg (by decide), if_neg q, bs]
    · subst h3
      rw [bs, if_pos rfl, iCountV T h1 h2 hty, bs, bs]
      by_cases q : cntV T > 300
      · rw [decide_eq_true (by omega), if_pos rfl, if_pos q]
      · rw [decide_eq_false (by omega), if_neg (by decide), if_neg q, bs]
theorem szBoolS_eq (a : List Bool) (left : Int) (h1 : 0 ≤ left) (h2 : left ≤ 1048576) (ha : a.length ≤ 9223372036854775807) : laws_szBoolS (a, left) = some (szB left a.length) := by
  unfold laws_szBoolS szB
  simp only
  rw [wr_id (by omega) (by omega)]
  by_cases h : left - (a.length : Int) < 0
  · rw [decide_eq_true h, if_pos rfl, if_pos h]
  · rw [decide_eq_false h, if_neg (by decide), if_neg h]
/-- All rows are of a length that a machine can bear. -/
def sln (s : GSystem) : Prop := s.fPlus.length ≤ 9223372036854775807 ∧ s.fTimes.length ≤ 9223372036854775807 ∧ s.fBelow.length ≤ 9223372036854775807
def sms (s : GSystem) : Nat := s.fPlus.length + s.fTimes.length + s.fBelow.length
theorem szSystem_eq (s : GSystem) (left : Int) (hs : sln s) (h1 : 0 ≤ left) (h2 : left ≤ 1048576) : laws_szSystem (s, left) = some (szB left (sms s)) := by
  obtain ⟨l1, l2, l3⟩ := hs
  unfold laws_szSystem sms
  simp only
  rw [szIntS_eq _ _ h1 h2 l1, bs]
  rcases szB_cases left s.fPlus.length with ⟨e, hl⟩ | ⟨e, hl⟩
  · rw [e, decide_eq_true (by decide), if_pos rfl]; unfold szB; rw [if_pos (by omega)]
  · rw [e, decide_eq_false (by omega), if_neg (by decide), szIntS_eq _ _ (by omega) (by omega) l2, bs]
    rcases szB_cases (left - (s.fPlus.length : Int)) s.fTimes.length with ⟨e2, hl2⟩ | ⟨e2, hl2⟩
    · rw [e2, decide_eq_true (by decide), if_pos rfl]; unfold szB; rw [if_pos (by omega)]
    · rw [e2, decide_eq_false (by omega), if_neg (by decide), szBoolS_eq _ _ (by omega) (by omega) l3, bs]
      rcases szB_cases (left - (s.fPlus.length : Int) - (s.fTimes.length : Int)) s.fBelow.length with ⟨e3, hl3⟩ | ⟨e3, hl3⟩
      · rw [e3, decide_eq_true (by decide), if_pos rfl]; unfold szB; rw [if_pos (by omega)]
      · rw [e3, decide_eq_false (by omega), if_neg (by decide)]; unfold szB; rw [if_neg (by omega)]; congr 1; omega
theorem toSystem_sms {s : GSystem} (h : sms s ≤ 1048576) : laws_toSystem s = some s := by unfold sms at h; exact toSystem_id s (by omega) (by omega) (by omega)
theorem eqSystem_sms {s : GSystem} (h : sms s ≤ 1048576) : laws_eqSystem (s, s) = some true := by unfold sms at h; exact eqSystem_refl s (by omega) (by omega) (by omega)
def noT : GTerm := ⟨0, 0, [], []⟩
theorem beq_self_b (b : Bool) : (!(b == b)) = false := by cases b <;> rfl
theorem beq_self_t {a : Int} : (a == a) = true := by simp
theorem shape_bin {c : Int} (h : kidsC c = 2) : (c = 1 ∧ shapeI c = (1, -1)) ∨ (c = 2 ∧ shapeI c = (2, -1)) ∨ ((c ≠ 0 ∧ c ≠ 1 ∧ c ≠ 2) ∧ boxC c = false ∧ arrC c = true ∧ shapeI c = (3, gradeC c)) := by
  rcases kidsC_cases c with q | ⟨q, _⟩ | q | q
  · omega
  · rcases shapeI_cases c with ⟨h, e⟩ | ⟨h, e⟩ | ⟨h, e⟩ | ⟨h, e⟩ | ⟨h, e⟩ | ⟨h, e⟩ | ⟨h, e⟩ | ⟨h, e⟩
    · omega
    · exact .inl ⟨h, e⟩
    · exact .inr (.inl ⟨h, e⟩)
    · refine .inr (.inr ⟨by omega, ?_, ?_, ?_⟩)
      · unfold boxC inB; rw [Bool.eq_false_iff]; simp; omega
      · unfold arrC inB; simp; omega
      · rw [e]; unfold gradeC; rw [if_neg (by omega), if_neg (by omega)]
    · subst h; exact .inr (.inr ⟨by omega, rfl, rfl, rfl⟩)
    · omega
    · omega
    · omega
  · omega
  · omega
theorem shape_un {c : Int} (h : kidsC c = 1) : (c ≠ 0 ∧ c ≠ 1 ∧ c ≠ 2) ∧ boxC c = true ∧ arrC c = false ∧ shapeI c = (4, gradeC c) := by
  rcases kidsC_cases c with q | q | ⟨q, _⟩ | q
  · omega
  · omega
  · rcases shapeI_cases c with ⟨h, e⟩ | ⟨h, e⟩ | ⟨h, e⟩ | ⟨h, e⟩ | ⟨h, e⟩ | ⟨h, e⟩ | ⟨h, e⟩ | ⟨h, e⟩
    · omega
    · omega
    · omega
    · omega
    · omega
    · refine ⟨by omega, ?_, ?_, ?_⟩
      · unfold boxC inB; simp; omega
      · unfold arrC inB; rw [Bool.eq_false_iff]; simp; omega
      · rw [e]; unfold gradeC; rw [if_neg (by omega), if_pos (by omega)]
    · subst h; exact ⟨by omega, rfl, rfl, rfl⟩
    · omega
  · omega
/-- The parts of a type, as both sides take them. -/
structure BinP (c : Int) (a b : Ty) : Prop where
  p0 : spec_l2Part (c :: (a.code ++ b.code), 0) = some a.code
  p1 : spec_l2Part (c :: (a.code ++ b.code), 1) = some b.code
  pp : impl_parts (c :: (a.code ++ b.code)) = some [a.code, b.code]
  ok : a.ok ∧ b.ok
  la : a.code.length + b.code.length + 1 ≤ 1048576
theorem binP {c : Int} {a b : Ty} (h : (Ty.bin c a b).ok) (hl : (Ty.bin c a b).code.length ≤ 1048576) : BinP c a b := by
  have hl' := hl
  rw [Ty.code] at hl'
  have h3 := iParts h hl
  rw [Ty.kids, List.map_cons, List.map_cons, List.map_nil, Ty.code] at h3
  refine ⟨sPart0 h.2.1 (by omega), sPart1 h.2.1 (by omega), h3, h.2, ?_⟩
  rw [List.length_cons, List.length_append] at hl'
  omega
structure UnP (c : Int) (a : Ty) : Prop where
  p0 : spec_l2Part (c :: a.code, 0) = some a.code
  pp : impl_parts (c :: a.code) = some [a.code]
  ok : a.ok
  la : a.code.length + 1 ≤ 1048576
theorem unP {c : Int} {a : Ty} (h : (Ty.un c a).ok) (hl : (Ty.un c a).code.length ≤ 1048576) : UnP c a := by
  have hl' := hl
  rw [Ty.code] at hl'
  have h3 := iParts h hl
  rw [Ty.kids, List.map_cons, List.map_nil, Ty.code] at h3
  have h4 := sPart0 (c := c) (r := []) h.2 (by rw [List.append_nil]; omega)
  rw [List.append_nil] at h4
  refine ⟨h4, h3, h.2, ?_⟩
  rw [List.length_cons] at hl'
  omega
theorem iParts_num : impl_parts [0] = some [] := iParts (T := .num) trivial (by simp [Ty.code])
def vAt : Ty → Int → GTerm
  | .num, k => ⟨1, k, [], []⟩
  | .bin c a b, k => if c = 1 then ⟨4, 0, [], [vAt a (wr (Int.tdiv k (cntV b))), vAt b (Int.tmod k (cntV b))]⟩ else if k < (cntV a : Int) then ⟨6, 0, b.code, [vAt a k]⟩ else ⟨7, 0, a.code, [vAt b (wr (k - (cntV a : Int)))]⟩
  | .un c a, k => ⟨11, gradeC c, [], [vAt a k]⟩
theorem vAt_tms (T : Ty) : ∀ k, tms (vAt T k) ≤ 3 * T.code.length := by
  induction T with
  | num => intro k; simp [vAt, tms, tmss]
  | bin c a b iha ihb =>
    intro k
    rw [vAt, Ty.code, List.length_cons, List.length_append]
    split
    · simp only [tms, tmss, List.length_cons, List.length_nil]
      have := iha (wr (Int.tdiv k (cntV b)))
      have := ihb (Int.tmod k (cntV b))
      omega
    · split
      · simp only [tms, tmss, List.length_cons, List.length_nil]; have := iha k; omega
      · simp only [tms, tmss, List.length_cons, List.length_nil]; have := ihb (wr (k - (cntV a : Int))); omega
  | un c a ih => intro k; rw [vAt, Ty.code, List.length_cons]; simp only [tms, tmss, List.length_cons, List.length_nil]; have := ih k; omega
theorem chk_t {p : Prop} [Decidable p] (h : p) : chk p = some () := by unfold chk; rw [if_pos h]
theorem sVAt (T : Ty) : T.ok → T.dat → T.code.length ≤ 1048576 → ∀ k, spec_l5At (T.code, k) = some (vAt T k) := by
  induction T with
  | num => intro _ _ _ k; rw [spec_l5At.eq_def]; rfl
  | bin c a b iha ihb =>
    intro h hd hl k
    have P := binP h hl
    have la := P.la
    have ha := iha P.ok.1 hd.2.1 (by omega)
    have hb := ihb P.ok.2 hd.2.2 (by omega)
    have ca := sCountV a P.ok.1 hd.2.1 (by omega)
    have cb := sCountV b P.ok.2 hd.2.2 (by omega)
    have na := cntV_le a
    have nb := cntV_le b
    rw [Ty.code, spec_l5At.eq_def]
    simp only
    rw [idx0, bs, P.p0, P.p1, vAt, sBox]
    simp only [bs]
    rcases hd.1 with rfl | rfl
    · rw [if_neg (by decide), show boxC 1 = false from rfl, if_neg (by decide), if_pos (by rfl), cb, bs, chk_t (by omega), bs, ha, bs, bs, hb, bs, if_pos rfl]
    · rw [if_neg (by decide), show boxC 2 = false from rfl, if_neg (by decide), if_neg (by decide), ca, bs]
      by_cases q : k < (cntV a : Int)
      · rw [decide_eq_true q, if_pos rfl, ha, bs, if_neg (by decide), if_pos q]
      · rw [decide_eq_false q, if_neg (by decide), hb, bs, if_neg (by decide), if_neg q]
  | un c a ih =>
    intro h hd hl k
    have P := unP h hl
    have la := P.la
    have ha := ih P.ok hd (by omega)
    obtain ⟨h0, h1, h2, h3⟩ := shape_un h.1
    rw [Ty.code, spec_l5At.eq_def]
    simp only
    rw [idx0, bs, P.p0, vAt, sBox]
    simp only [bs, ha]
    rw [beq_eq_false_iff_ne.2 h0.1, h1, sGrade (by rw [h.1]; decide)]
    simp [bs]
theorem beq_cons (x y : Int) (l r : List Int) : (x :: l == y :: r) = (x == y && l == r) := rfl
theorem sSame_l0 (a b : List Int) (ha : a.length ≤ 1099511627776) (hab : a.length = b.length) : ∀ (l r : List Int) (i : Nat), a.drop i = l → b.drop i = r → spec_l1Same_l0 (a, b, (i : Int)) = some (if l == r then .inl () else .inr false) := by
  intro l
  induction l with
  | nil =>
    intro r i h1 h2
    have hi := drop_nil_le h1
    rw [spec_l1Same_l0.eq_def]
    simp only
    rw [lt_f hi]
    have : r = [] := by rw [← h2]; exact List.drop_eq_nil_of_le (by omega)
    subst this; rfl
  | cons x l ih =>
    intro r i h1 h2
    obtain ⟨hi, hx, hd⟩ := drop_cons_get h1
    cases r with
    | nil => have := drop_nil_le h2; omega
    | cons y r =>
      obtain ⟨_, hy, hd2⟩ := drop_cons_get h2
      rw [spec_l1Same_l0.eq_def]
      simp only
      rw [lt_t hi, if_pos rfl, hx, hy, bs, bs, wr_succ (by omega), ih r (i + 1) hd hd2, beq_cons]
      by_cases e : x = y
      · subst e; simp
      · rw [bne_iff_ne.2 e, if_pos rfl, beq_eq_false_iff_ne.2 e]; rfl
theorem sSame (a b : List Int) (hb : b.length ≤ 1099511627776) : spec_l1Same (a, b) = some (a == b) := by
  unfold spec_l1Same
  simp only
  by_cases h : a.length = b.length
  · rw [h, bne_self, if_neg (by decide)]
    have := sSame_l0 a b (by omega) h a b 0 rfl rfl
    rw [show ((0 : Nat) : Int) = 0 from rfl] at this
    rw [this]
    cases a == b <;> rfl
  · rw [bne_iff_ne.2 (by omega), if_pos rfl]
    have : a ≠ b := fun e => h (by rw [e])
    rw [beq_eq_false_iff_ne.2 this]
theorem iSame_l0 (a b : List Int) (ha : a.length ≤ 1099511627776) (hab : a.length = b.length) : ∀ (l r : List Int) (i : Nat), a.drop i = l → b.drop i = r → slices_Equal_int_l0 (a, b, (i : Int)) = some (if l == r then .inl () else .inr false) := by
  intro l
  induction l with
  | nil =>
    intro r i h1 h2
    have hi := drop_nil_le h1
    rw [slices_Equal_int_l0.eq_def]
    simp only
    rw [lt_f hi]
    have : r = [] := by rw [← h2]; exact List.drop_eq_nil_of_le (by omega)
    subst this; rfl
  | cons x l ih =>
    intro r i h1 h2
    obtain ⟨hi, hx, hd⟩ := drop_cons_get h1
    cases r with
    | nil => have := drop_nil_le h2; omega
    | cons y r =>
      obtain ⟨_, hy, hd2⟩ := drop_cons_get h2
      rw [slices_Equal_int_l0.eq_def]
      simp only
      rw [lt_t hi, if_pos rfl, hx, hy, bs, bs, wr_succ (by omega), ih r (i + 1) hd hd2, beq_cons]
      by_cases e : x = y
      · subst e; simp
      · rw [bne_iff_ne.2 e, if_pos rfl, beq_eq_false_iff_ne.2 e]; rfl
theorem iSame (a b : List Int) (hb : b.length ≤ 1099511627776) : slices_Equal_int (a, b) = some (a == b) := by
  unfold slices_Equal_int
  simp only
  by_cases h : a.length = b.length
  · rw [h, bne_self, if_neg (by decide)]
    have := iSame_l0 a b (by omega) h a b 0 rfl rfl
    rw [show ((0 : Nat) : Int) = 0 from rfl] at this
    rw [this]
    cases a == b <;> rfl
  · rw [bne_iff_ne.2 (by omega), if_pos rfl]
    have : a ≠ b := fun e => h (by rw [e])
    rw [beq_eq_false_iff_ne.2 this]
/-- A value of a data type. -/
def vB : Ty → GTerm → Bool
  | .num, ⟨op, N, ty, ks⟩ => op == 1 && inB N 0 2 && (ty.length : Int) == 0 && (ks.length : Int) == 0
  | .bin c a b, ⟨op, N, ty, ks⟩ =>
    if c = 1 then op == 4 && N == 0 && (ty.length : Int) == 0 && (match ks with | [k, m] => vB a k && vB b m | _ => false)
    else N == 0 && (match ks with | [k] => if op = 6 then ty == b.code && vB a k else if op = 7 then ty == a.code && vB b k else false | _ => false)
  | .un c a, ⟨op, N, ty, ks⟩ => op == 11 && N == gradeC c && (ty.length : Int) == 0 && (match ks with | [k] => vB a k | _ => false)
theorem vB_num (op N : Int) (ty : List Int) (ks : List GTerm) : vB .num ⟨op, N, ty, ks⟩ = (op == 1 && inB N 0 2 && (ty.length : Int) == 0 && (ks.length : Int) == 0) := rfl
theorem vB_bin (c : Int) (a b : Ty) (op N : Int) (ty : List Int) (ks : List GTerm) : vB (.bin c a b) ⟨op, N, ty, ks⟩ = (if c = 1 then op == 4 && N == 0 && (ty.length : Int) == 0 && (match ks with | [k, m] => vB a k && vB b m | _ => false)
    else N == 0 && (match ks with | [k] => if op = 6 then ty == b.code && vB a k else if op = 7 then ty == a.code && vB b k else false | _ => false)) := rfl
theorem vB_un (c : Int) (a : Ty) (op N : Int) (ty : List Int) (ks : List GTerm) : vB (.un c a) ⟨op, N, ty, ks⟩ = (op == 11 && N == gradeC c && (ty.length : Int) == 0 && (match ks with | [k] => vB a k | _ => false)) := rfl
theorem d20 : ((2 : Int) == 0) = false := rfl
theorem d21 : ((2 : Int) == 1) = false := rfl
theorem d22 : ((2 : Int) == 2) = true := rfl
theorem iVal (T : Ty) : ∀ v : GTerm, T.ok → T.dat → T.code.length ≤ 1048576 → impl_isValue (T.code, v) = some (vB T v) := by
  induction T with
  | num =>
    intro ⟨op, N, ty, ks⟩ _ _ _
    rw [impl_isValue.eq_def, Ty.code, vB_num]
    simp only [idx0, bs]
    rw [iShape, iParts_num, iIn]
    simp only [bs]
    cases op == 1 <;> cases inB N 0 2 <;> cases (ty.length : Int) == 0 <;> rfl
  | bin c a b iha ihb =>
    intro ⟨op, N, ty, ks⟩ h hd hl
    have P := binP h hl
    have la := P.la
    rw [Ty.code, impl_isValue.eq_def]
    simp only [idx0, bs]
    rw [P.pp, vB_bin, iShape]
    simp only [bs]
    rcases shape_bin h.1 with ⟨rfl, e⟩ | ⟨rfl, e⟩ | ⟨h0, h1, _, e⟩
    · rw [e, if_pos rfl]
      simp only [idx0, idx1, bs]
      match ks with
      | [] => cases op == 4 <;> cases N == 0 <;> cases (ty.length : Int) == 0 <;> rfl
      | [k] => cases op == 4 <;> cases N == 0 <;> cases (ty.length : Int) == 0 <;> rfl
      | [k, m] =>
        simp only [idx0, idx1, bs, iha k P.ok.1 hd.2.1 (by omega), ihb m P.ok.2 hd.2.2 (by omega)]
        cases op == 4 <;> cases N == 0 <;> cases (ty.length : Int) == 0 <;> cases vB a k <;> cases vB b m <;> rfl
      | k :: m :: o :: ks =>
        have : (((k :: m :: o :: ks).length : Int) == 2) = false := beq_eq_false_iff_ne.2 (by simp only [List.length_cons]; omega)
        rw [this]
        cases op == 4 <;> cases N == 0 <;> cases (ty.length : Int) == 0 <;> rfl
    · rw [e, if_neg (by decide)]
      simp only [idx0, idx1, bs, d20, d21, d22, Bool.false_eq_true, if_false, if_true]
      by_cases hN : N = 0
      · subst hN
        match ks with
        | [] => rfl
        | [k] =>
          by_cases h6 : op = 6
          · subst h6
            have e1 : wr (1 - 0) = 1 := by decide
            have e0 : wr (6 - 6) = 0 := by decide
            refine (bind_of (x := false) rfl).trans ?_
            simp only [Bool.false_eq_true, if_false, e1, e0, idx0, idx1, bs]
            rw [iSame ty b.code (by omega), iha k P.ok.1 hd.2.1 (by omega)]
            cases ty == b.code <;> rfl
          · by_cases h7 : op = 7
            · subst h7
              have e1 : wr (1 - 1) = 0 := by decide
              have e0 : wr (7 - 6) = 1 := by decide
              refine (bind_of (x := false) rfl).trans ?_
              simp only [Bool.false_eq_true, if_false, e1, e0, idx0, idx1, bs]
              rw [iSame ty a.code (by omega), ihb k P.ok.2 hd.2.2 (by omega)]
              cases ty == a.code <;> rfl
            · refine (bind_of (x := true) (by rw [bne_iff_ne.2 h6, bne_iff_ne.2 h7]; rfl)).trans ?_
              show some false = some (if op = 6 then ty == b.code && vB a k else if op = 7 then ty == a.code && vB b k else false)
              rw [if_neg h6, if_neg h7]
        | k :: m :: ks =>
          have : (((k :: m :: ks).length : Int) != 1) = true := bne_iff_ne.2 (by simp only [List.length_cons]; omega)
          rw [this]; rfl
      · rw [bne_iff_ne.2 hN, beq_eq_false_iff_ne.2 hN]; rfl
    · exact absurd hd.1 (by omega)
  | un c a ih =>
    intro ⟨op, N, ty, ks⟩ h hd hl
    have P := unP h hl
    have la := P.la
    obtain ⟨h0, h1, h2, e⟩ := shape_un h.1
    rw [Ty.code, impl_isValue.eq_def]
    simp only [idx0, bs]
    rw [P.pp, vB_un, iShape, e]
    simp only [bs]
    match ks with
    | [] => cases op == 11 <;> cases N == gradeC c <;> cases (ty.length : Int) == 0 <;> rfl
    | [k] =>
      simp only [idx0, idx1, bs, ih k P.ok hd (by omega)]
      cases op == 11 <;> cases N == gradeC c <;> cases (ty.length : Int) == 0 <;> rfl
    | k :: m :: ks =>
      have : (((k :: m :: ks).length : Int) == 1) = false := beq_eq_false_iff_ne.2 (by simp only [List.length_cons]; omega)
      rw [this]
      cases op == 11 <;> cases N == gradeC c <;> cases (ty.length : Int) == 0 <;> rfl
theorem len0 {α : Type} {l : List α} (h : ((l.length : Int) == 0) = true) : l = [] := by
  rw [beq_iff_eq] at h; exact List.length_eq_zero_iff.1 (by omega)
theorem tOk_mk (g : Int → Bool) (y : List Int → Bool) (n : Nat) (op N : Int) (ty : List Int) (ks : List GTerm) : tOk g y n ⟨op, N, ty, ks⟩ = (nodeOk g y (n : Int) ⟨op, N, ty, ks⟩ && tOks g y op n 0 ks) := tOk_eq ..
theorem tOks_cons (g : Int → Bool) (y : List Int → Bool) (op : Int) (n i : Nat) (k : GTerm) (ks : List GTerm) : tOks g y op n i (k :: ks) = (tOk g y (n + addsI op i) k && tOks g y op n (i + 1) ks) := by rw [tOks]
theorem tOks_nil (g : Int → Bool) (y : List Int → Bool) (op : Int) (n i : Nat) : tOks g y op n i [] = true := by rw [tOks]
structure TyOk (g : Int → Bool) (y : List Int → Bool) (T : Ty) : Prop where
  un : ∀ c a, T = .un c a → g (gradeC c) = true
  y : y T.code = true
def allTy (P : Ty → Prop) : Ty → Prop
  | .num => P .num
  | .bin c a b => P (.bin c a b) ∧ allTy P a ∧ allTy P b
  | .un c a => P (.un c a) ∧ allTy P a
theorem allTy_hd {P : Ty → Prop} {T : Ty} (h : allTy P T) : P T := by cases T <;> first | exact h | exact h.1
theorem tsz_mk (op N : Int) (ty : List Int) (ks : List GTerm) : tsz ⟨op, N, ty, ks⟩ = 1 + tszs ks := by rw [tsz]
theorem vB_ok (g : Int → Bool) (y : List Int → Bool) (T : Ty) : ∀ (v : GTerm) (n : Nat), T.dat → allTy (TyOk g y) T → vB T v = true → tOk g y n v = true ∧ tsz v ≤ T.code.length := by
  induction T with
  | num =>
    intro ⟨op, N, ty, ks⟩ n _ hT h
    simp only [vB_num, Bool.and_eq_true] at h
    obtain ⟨⟨⟨h1, h2⟩, h3⟩, h4⟩ := h
    have h1 := eq_of_beq h1
    have h3 := len0 h3
    have h4 := len0 h4
    subst h1 h3 h4
    rw [tOk_mk, tsz_mk]
    refine ⟨?_, by simp [tszs, Ty.code]⟩
    simp [nodeOk, nOkN, nOkY, h2, tOks_nil, show inB 1 0 12 = true from rfl, manyI, typedG]
  | bin c a b iha ihb =>
    intro ⟨op, N, ty, ks⟩ n hd hT h
    rw [vB_bin] at h
    rw [Ty.code, List.length_cons, List.length_append]
    rcases hd.1 with rfl | rfl
    · rw [if_pos rfl] at h
      simp only [Bool.and_eq_true] at h
      obtain ⟨⟨⟨h1, h2⟩, h3⟩, h4⟩ := h
      have h1 := eq_of_beq h1
      have h2 := eq_of_beq h2
      have h3 := len0 h3
      subst h1 h2 h3
      match ks, h4 with
      | [k, m], h4 =>
        simp only [Bool.and_eq_true] at h4
        obtain ⟨p1, q1⟩ := iha k (n + addsI 4 0) hd.2.1 hT.2.1 h4.1
        obtain ⟨p2, q2⟩ := ihb m (n + addsI 4 1) hd.2.2 hT.2.2 h4.2
        rw [tOk_mk, tsz_mk, tOks_cons, tOks_cons, tOks_nil]
        refine ⟨?_, by simp only [tszs]; omega⟩
        simp [nodeOk, nOkN, nOkY, inB, manyI, typedG, hasG]
        exact ⟨p1, p2⟩
    · rw [if_neg (by decide)] at h
      simp only [Bool.and_eq_true] at h
      obtain ⟨h2, h4⟩ := h
      have h2 := eq_of_beq h2
      subst h2
      match ks, h4 with
      | [k], h4 =>
        simp only at h4
        by_cases h6 : op = 6
        · subst h6
          rw [if_pos rfl, Bool.and_eq_true] at h4
          obtain ⟨p1, q1⟩ := iha k (n + addsI 6 0) hd.2.1 hT.2.1 h4.2
          have h5 := eq_of_beq h4.1
          subst h5
          rw [tOk_mk, tsz_mk, tOks_cons, tOks_nil]
          refine ⟨?_, by simp only [tszs]; omega⟩
          simp [nodeOk, nOkN, nOkY, inB, manyI, typedG, hasG, (allTy_hd hT.2.2).y]
          exact p1
        · rw [if_neg h6] at h4
          by_cases h7 : op = 7
          · subst h7
            rw [if_pos rfl, Bool.and_eq_true] at h4
            obtain ⟨p1, q1⟩ := ihb k (n + addsI 7 0) hd.2.2 hT.2.2 h4.2
            have h5 := eq_of_beq h4.1
            subst h5
            rw [tOk_mk, tsz_mk, tOks_cons, tOks_nil]
            refine ⟨?_, by simp only [tszs]; omega⟩
            simp [nodeOk, nOkN, nOkY, inB, manyI, typedG, hasG, (allTy_hd hT.2.1).y]
            exact p1
          · rw [if_neg h7] at h4; cases h4
  | un c a ih =>
    intro ⟨op, N, ty, ks⟩ n hd hT h
    simp only [vB_un, Bool.and_eq_true] at h
    obtain ⟨⟨⟨h1, h2⟩, h3⟩, h4⟩ := h
    have h1 := eq_of_beq h1
    have h2 := eq_of_beq h2
    have h3 := len0 h3
    subst h1 h2 h3
    rw [Ty.code, List.length_cons]
    match ks, h4 with
    | [k], h4 =>
      simp only at h4
      obtain ⟨p1, q1⟩ := ih k (n + addsI 11 0) hd hT.2 h4
      rw [tOk_mk, tsz_mk, tOks_cons, tOks_nil]
      refine ⟨?_, by simp only [tszs]; omega⟩
      simp [nodeOk, nOkN, nOkY, inB, manyI, typedG, hasG, hT.1.un c a rfl]
      exact p1
theorem kids1 {l : List GTerm} (h : ((l.length : Int) == 1) = true) : ∃ k, l = [k] := by
  rw [beq_iff_eq] at h; match l, h with | [k], _ => exact ⟨k, rfl⟩ | [], h => exact absurd h (by simp) | _ :: _ :: _, h => exact absurd h (by simp only [List.length_cons]; omega)
theorem kids2 {l : List GTerm} (h : ((l.length : Int) == 2) = true) : ∃ k m, l = [k, m] := by
  rw [beq_iff_eq] at h; match l, h with | [k, m], _ => exact ⟨k, m, rfl⟩ | [], h => exact absurd h (by simp) | [_], h => exact absurd h (by simp) | _ :: _ :: _ :: _, h => exact absurd h (by simp only [List.length_cons]; omega)
theorem sVal (g : Int → Bool) (y : List Int → Bool) (T : Ty) : ∀ (v : GTerm) (n : Nat), T.ok → T.dat → T.code.length ≤ 1048576 → tOk g y n v = true → spec_l5Value (T.code, v) = some (vB T v) := by
  induction T with
  | num =>
    intro ⟨op, N, ty, ks⟩ n _ _ _ hv
    rw [spec_l5Value.eq_def, Ty.code, vB_num]
    simp only [idx0, bs]
    by_cases h1 : op = 1
    · subst h1
      rw [tOk_mk] at hv
      simp [nodeOk, nOkN, nOkY, manyI, typedG, tOks, inB] at hv
      simp [hv, inB]
    · rw [beq_eq_false_iff_ne.2 h1]; rfl
  | bin c a b iha ihb =>
    intro ⟨op, N, ty, ks⟩ n h hd hl hv
    have P := binP h hl
    have la := P.la
    rw [Ty.code, spec_l5Value.eq_def]
    simp only [idx0, bs]
    rw [P.p0, P.p1, vB_bin]
    simp only [bs]
    rw [tOk_mk] at hv
    rcases hd.1 with rfl | rfl
    · rw [if_pos rfl]
      by_cases h1 : op = 4
      · subst h1
        simp [nodeOk, nOkN, nOkY, manyI, typedG, hasG, inB] at hv
        obtain ⟨k, m, rfl⟩ := kids2 (l := ks) (beq_iff_eq.2 hv.1.1.1)
        rw [tOks_cons, tOks_cons, Bool.and_eq_true, Bool.and_eq_true] at hv
        rw [idx0, idx1, bs, bs, iha k _ P.ok.1 hd.2.1 (by omega) hv.2.1, ihb m _ P.ok.2 hd.2.2 (by omega) hv.2.2.1]
        simp [hv.1.1.2, hv.1.2, bs]
        cases vB a k <;> rfl
      · rw [beq_eq_false_iff_ne.2 h1]; rfl
    · rw [if_neg (by decide)]
      simp only [d20, d21, d22, Bool.false_eq_true, if_false, if_true, bs]
      by_cases h6 : op = 6
      · subst h6
        simp [nodeOk, nOkN, nOkY, manyI, typedG, hasG, inB] at hv
        obtain ⟨k, rfl⟩ := kids1 (l := ks) (beq_iff_eq.2 hv.1.1.1)
        rw [tOks_cons, Bool.and_eq_true] at hv
        simp only [idx0, bs]
        rw [sSame ty b.code (by omega), iha k _ P.ok.1 hd.2.1 (by omega) hv.2.1, hv.1.1.2]
        cases ty == b.code <;> cases vB a k <;> rfl
      · by_cases h7 : op = 7
        · subst h7
          simp [nodeOk, nOkN, nOkY, manyI, typedG, hasG, inB] at hv
          obtain ⟨k, rfl⟩ := kids1 (l := ks) (beq_iff_eq.2 hv.1.1.1)
          rw [tOks_cons, Bool.and_eq_true] at hv
          simp only [idx0, bs]
          rw [sSame ty a.code (by omega), ihb k _ P.ok.2 hd.2.2 (by omega) hv.2.1, hv.1.1.2]
          cases ty == a.code <;> cases vB b k <;> rfl
        · rw [beq_eq_false_iff_ne.2 h6, beq_eq_false_iff_ne.2 h7]
          match ks with
          | [] => cases N == 0 <;> rfl
          | [k] =>
            show _ = some (N == 0 && (if op = 6 then ty == b.code && vB a k else if op = 7 then ty == a.code && vB b k else false))
            rw [if_neg h6, if_neg h7]
            cases N == 0 <;> rfl
          | k :: m :: ks => cases N == 0 <;> rfl
  | un c a ih =>
    intro ⟨op, N, ty, ks⟩ n h hd hl hv
    have P := unP h hl
    have la := P.la
    obtain ⟨h0, h1, h2, e⟩ := shape_un h.1
    rw [Ty.code, spec_l5Value.eq_def]
    simp only [idx0, bs]
    rw [beq_eq_false_iff_ne.2 h0.1, beq_eq_false_iff_ne.2 h0.2.1, beq_eq_false_iff_ne.2 h0.2.2, P.p0, vB_un, sGrade (by rw [h.1]; decide)]
    simp only [bs]
    rw [tOk_mk] at hv
    by_cases q : op = 11
    · subst q
      simp [nodeOk, nOkN, nOkY, manyI, typedG, hasG, inB] at hv
      obtain ⟨k, rfl⟩ := kids1 (l := ks) (beq_iff_eq.2 hv.1.1.1)
      rw [tOks_cons, Bool.and_eq_true] at hv
      simp only [idx0, bs, Bool.false_eq_true, if_false]
      rw [ih k _ P.ok hd (by omega) hv.2.1, hv.1.2]
      cases N == gradeC c <;> cases vB a k <;> rfl
    · rw [beq_eq_false_iff_ne.2 q]; rfl
/-- A term of a system. -/
def trmB (s : GSystem) (t : GTerm) (n : Nat) : Bool := sysB s && decide (tsz t ≤ 400) && tOk (gN s.fSize true) (yN s.fSize true) n t
theorem sIsTerm (s : GSystem) (t : GTerm) (n : Nat) (hn : n ≤ 8) (ht : tms t ≤ 1099511627776) : spec_IsTerm (s, t, (n : Int)) = some (trmB s t n) := by
  unfold spec_IsTerm trmB
  simp only
  rw [sSys, bs]
  cases sysB s
  · rfl
  · rw [if_pos rfl, sIn, bs]
    have : inB (n : Int) 0 8 = true := by unfold inB; rw [decide_eq_true (by omega), decide_eq_true (by omega)]; rfl
    have hl := sLeft t 400 ht (by decide)
    rw [show ((400 : Nat) : Int) = 400 from rfl] at hl
    rw [this, if_pos rfl, hl, bs]
    by_cases h : tsz t ≤ 400
    · rw [leftI_le h, decide_eq_true (by omega), decide_eq_true h, if_pos rfl, sTerm _ _ t n ht (by omega)]
      cases tOk (gN s.fSize true) (yN s.fSize true) n t <;> rfl
    · rw [leftI_gt h, decide_eq_false h]; rfl
theorem allTy_of {s : GSystem} {T : Ty} (h : T.ok) (hl : T.code.length ≤ 40) (hc : T.code.all (gokC s.fSize true) = true) : allTy (TyOk (gN s.fSize true) (yN s.fSize true)) T := by
  have hy : ∀ K : Ty, K.ok → K.code.length ≤ 40 → K.code.all (gokC s.fSize true) = true → yN s.fSize true K.code = true := by
    intro K h1 h2 h3
    unfold yN
    rw [wtB_code h1 h2, h3]; rfl
  induction T with
  | num => exact ⟨fun c a e => (by cases e), hy _ h hl hc⟩
  | bin c a b iha ihb =>
    have hc' := hc
    have hl' := hl
    rw [Ty.code, List.length_cons, List.length_append] at hl'
    rw [Ty.code, List.all_cons, List.all_append, Bool.and_eq_true, Bool.and_eq_true] at hc'
    exact ⟨⟨fun c a e => (by cases e), hy _ h hl hc⟩, iha h.2.1 (by omega) hc'.2.1, ihb h.2.2 (by omega) hc'.2.2⟩
  | un c a ih =>
    have hc' := hc
    have hl' := hl
    rw [Ty.code, List.length_cons] at hl'
    rw [Ty.code, List.all_cons, Bool.and_eq_true] at hc'
    refine ⟨⟨fun d e q => ?_, hy _ h hl hc⟩, ih h.2 (by omega) hc'.2⟩
    cases q
    have hk := h.1
    have h1 := hc'.1
    have h3 : c > 2 := by rcases kidsC_cases c with q | q | q | q <;> omega
    unfold gokC at h1
    rw [hk, decide_eq_true h3] at h1
    unfold gN
    simp only [show decide ((1 : Int) > 0) = true from rfl, Bool.true_and, Bool.not_eq_true', Bool.or_eq_false_iff, decide_eq_false_iff_not] at h1 ⊢
    refine ⟨⟨h1.1, by omega⟩, h1.2⟩
theorem vB_num' {v : GTerm} (h : vB .num v = true) : ∃ N, v = ⟨1, N, [], []⟩ ∧ 0 ≤ N ∧ N ≤ 2 := by
  obtain ⟨op, N, ty, ks⟩ := v
  simp only [vB, Bool.and_eq_true] at h
  obtain ⟨⟨⟨h1, h2⟩, h3⟩, h4⟩ := h
  have h1 := eq_of_beq h1
  have h3 := len0 h3
  have h4 := len0 h4
  subst h1 h3 h4
  unfold inB at h2
  simp only [Bool.and_eq_true, decide_eq_true_eq] at h2
  exact ⟨N, rfl, h2.1, h2.2⟩
theorem vB_pair {a b : Ty} {v : GTerm} (h : vB (.bin 1 a b) v = true) : ∃ k m, v = ⟨4, 0, [], [k, m]⟩ ∧ vB a k = true ∧ vB b m = true := by
  obtain ⟨op, N, ty, ks⟩ := v
  rw [vB_bin, if_pos rfl] at h
  simp only [Bool.and_eq_true] at h
  obtain ⟨⟨⟨h1, h2⟩, h3⟩, h4⟩ := h
  have h1 := eq_of_beq h1
  have h2 := eq_of_beq h2
  have h3 := len0 h3
  subst h1 h2 h3
  match ks, h4 with
  | [k, m], h4 =>
    simp only [Bool.and_eq_true] at h4
    exact ⟨k, m, rfl, h4.1, h4.2⟩
theorem vB_sum {a b : Ty} {v : GTerm} (h : vB (.bin 2 a b) v = true) : (∃ k, v = ⟨6, 0, b.code, [k]⟩ ∧ vB a k = true) ∨ (∃ k, v = ⟨7, 0, a.code, [k]⟩ ∧ vB b k = true) := by
  obtain ⟨op, N, ty, ks⟩ := v
  rw [vB_bin, if_neg (by decide)] at h
  simp only [Bool.and_eq_true] at h
  obtain ⟨h2, h4⟩ := h
  have h2 := eq_of_beq h2
  subst h2
  match ks, h4 with
  | [k], h4 =>
    simp only at h4
    by_cases h6 : op = 6
    · subst h6
      rw [if_pos rfl, Bool.and_eq_true] at h4
      have h5 := eq_of_beq h4.1
      subst h5
      exact .inl ⟨k, rfl, h4.2⟩
    · rw [if_neg h6] at h4
      by_cases h7 : op = 7
      · subst h7
        rw [if_pos rfl, Bool.and_eq_true] at h4
        have h5 := eq_of_beq h4.1
        subst h5
        exact .inr ⟨k, rfl, h4.2⟩
      · rw [if_neg h7] at h4; cases h4
theorem vB_box {c : Int} {a : Ty} {v : GTerm} (h : vB (.un c a) v = true) : ∃ k, v = ⟨11, gradeC c, [], [k]⟩ ∧ vB a k = true := by
  obtain ⟨op, N, ty, ks⟩ := v
  simp only [vB_un, Bool.and_eq_true] at h
  obtain ⟨⟨⟨h1, h2⟩, h3⟩, h4⟩ := h
  have h1 := eq_of_beq h1
  have h2 := eq_of_beq h2
  have h3 := len0 h3
  subst h1 h2 h3
  match ks, h4 with
  | [k], h4 => exact ⟨k, rfl, h4⟩
def kidAt (v : GTerm) (i : Nat) : GTerm := v.fKids.getD i noT
def plV : Ty → GTerm → Nat
  | .num, v => v.fN.toNat
  | .bin c a b, v => if c = 1 then plV a (kidAt v 0) * cntV b + plV b (kidAt v 1) else if v.fOp = 6 then plV a (kidAt v 0) else cntV a + plV b (kidAt v 0)
  | .un _ a, v => plV a (kidAt v 0)
/-- Counts below the cap. -/
theorem cnt_pair {a b : Ty} (h : cntV (.bin 1 a b) ≤ 300) : cntV (.bin 1 a b) = cntV a * cntV b ∧ cntV a ≤ 300 ∧ cntV b ≤ 300 := by
  rw [cntV, if_pos rfl] at h ⊢
  have h1 := (cntV_le a).1
  have h2 := (cntV_le b).1
  have h3 : cntV a ≤ cntV a * cntV b := Nat.le_mul_of_pos_right _ h2
  have h4 : cntV b ≤ cntV a * cntV b := Nat.le_mul_of_pos_left _ h1
  omega
theorem cnt_sum {c : Int} {a b : Ty} (hc : c ≠ 1) (h : cntV (.bin c a b) ≤ 300) : cntV (.bin c a b) = cntV a + cntV b ∧ cntV a ≤ 300 ∧ cntV b ≤ 300 := by
  rw [cntV, if_neg hc] at h ⊢
  omega
theorem plV_lt (T : Ty) : ∀ v, T.dat → cntV T ≤ 300 → vB T v = true → plV T v < cntV T ∧ vAt T (plV T v) = v := by
  induction T with
  | num =>
    intro v _ _ h
    obtain ⟨N, rfl, h1, h2⟩ := vB_num' h
    rw [plV, cntV, vAt]
    simp only
    refine ⟨by omega, ?_⟩
    rw [Int.toNat_of_nonneg h1]
  | bin c a b iha ihb =>
    intro v hd hc h
    rcases hd.1 with rfl | rfl
    · obtain ⟨k, m, rfl, h1, h2⟩ := vB_pair h
      obtain ⟨e, c1, c2⟩ := cnt_pair hc
      obtain ⟨p1, q1⟩ := iha k hd.2.1 c1 h1
      obtain ⟨p2, q2⟩ := ihb m hd.2.2 c2 h2
      rw [plV, if_pos rfl, vAt, if_pos rfl, e]
      rw [e] at hc
      simp only [kidAt, List.getD_cons_zero, List.getD_cons_succ]
      have hle : plV a k * cntV b + plV b m < cntV a * cntV b := by
        have : (plV a k + 1) * cntV b ≤ cntV a * cntV b := Nat.mul_le_mul_right _ p1
        rw [Nat.add_mul] at this; omega
      refine ⟨hle, ?_⟩
      have hpos := (cntV_le b).1
      have e1 : Int.tdiv ((plV a k * cntV b + plV b m : Nat) : Int) (cntV b : Int) = (plV a k : Int) := by
        rw [← Int.ofNat_tdiv]
        congr 1
        rw [Nat.add_comm, Nat.add_mul_div_right _ _ hpos, Nat.div_eq_of_lt p2]; omega
      have e2 : Int.tmod ((plV a k * cntV b + plV b m : Nat) : Int) (cntV b : Int) = (plV b m : Int) := by
        rw [← Int.ofNat_tmod]
        congr 1
        rw [Nat.add_comm, Nat.add_mul_mod_self_right, Nat.mod_eq_of_lt p2]
      rw [e1, e2, wr_id (by omega) (by omega), q1, q2]
    · obtain ⟨e, c1, c2⟩ := cnt_sum (by decide) hc
      rw [plV, if_neg (by decide : ¬ (2 : Int) = 1), vAt, if_neg (by decide : ¬ (2 : Int) = 1), e]
      rcases vB_sum h with ⟨k, rfl, h1⟩ | ⟨k, rfl, h1⟩
      · obtain ⟨p1, q1⟩ := iha k hd.2.1 c1 h1
        simp only [kidAt, List.getD_cons_zero, if_true]
        rw [if_pos (by omega), q1]
        exact ⟨by omega, rfl⟩
      · obtain ⟨p1, q1⟩ := ihb k hd.2.2 c2 h1
        simp only [kidAt, List.getD_cons_zero]
        rw [if_neg (by decide : ¬ (7 : Int) = 6), if_neg (by omega), wr_id (by omega) (by omega), show ((cntV a + plV b k : Nat) : Int) - (cntV a : Int) = (plV b k : Int) by omega, q1]
        exact ⟨by omega, rfl⟩
  | un c a ih =>
    intro v hd hc h
    obtain ⟨k, rfl, h1⟩ := vB_box h
    obtain ⟨p, q⟩ := ih k hd hc h1
    rw [plV, vAt, cntV]
    simp only [kidAt, List.getD_cons_zero]
    rw [q]
    exact ⟨p, rfl⟩
theorem plV_vAt (T : Ty) : ∀ k : Nat, T.dat → cntV T ≤ 300 → k < cntV T → plV T (vAt T k) = k := by
  induction T with
  | num => intro k _ _ _; rw [vAt, plV]; exact Int.toNat_natCast k
  | bin c a b iha ihb =>
    intro k hd hc hk
    rcases hd.1 with rfl | rfl
    · obtain ⟨e, c1, c2⟩ := cnt_pair hc
      have hpos := (cntV_le b).1
      rw [e] at hk
      have d1 : k / cntV b < cntV a := (Nat.div_lt_iff_lt_mul hpos).2 hk
      have d2 : k % cntV b < cntV b := Nat.mod_lt _ hpos
      have d3 := Nat.div_add_mod k (cntV b)
      rw [vAt, if_pos rfl, plV, if_pos rfl, ← Int.ofNat_tdiv, ← Int.ofNat_tmod]
      generalize k / cntV b = q at d1 d3 ⊢
      generalize k % cntV b = r at d2 d3 ⊢
      rw [wr_id (by omega) (by omega)]
      simp only [kidAt, List.getD_cons_zero, List.getD_cons_succ]
      rw [iha _ hd.2.1 c1 d1, ihb _ hd.2.2 c2 d2, Nat.mul_comm]
      exact d3
    · obtain ⟨e, c1, c2⟩ := cnt_sum (by decide) hc
      rw [e] at hk
      rw [vAt, if_neg (by decide : ¬ (2 : Int) = 1)]
      by_cases h : (k : Int) < (cntV a : Int)
      · rw [if_pos h, plV, if_neg (by decide : ¬ (2 : Int) = 1)]
        simp only [kidAt, List.getD_cons_zero, if_true]
        exact iha k hd.2.1 c1 (by omega)
      · rw [if_neg h, plV, if_neg (by decide : ¬ (2 : Int) = 1), wr_id (by omega) (by omega), show (k : Int) - (cntV a : Int) = ((k - cntV a : Nat) : Int) by omega]
        simp only [kidAt, List.getD_cons_zero]
        rw [if_neg (by decide : ¬ (7 : Int) = 6), ihb _ hd.2.2 c2 (by omega)]; omega
  | un c a ih =>
    intro k hd hc hk
    rw [vAt, plV]
    simp only [kidAt, List.getD_cons_zero]
    exact ih k hd hc hk
theorem sIsValue_no {s : GSystem} {ty : List Int} (v : GTerm) (hty : ty.length ≤ 1048576) (h : (isTy s ty && datB ty) = false) : spec_IsValue (s, ty, v) = some false := by
  unfold spec_IsValue
  simp only
  rw [sIsData s ty (by omega), h]
  rfl
theorem sIsValue_T {s : GSystem} {T : Ty} (v : GTerm) (h : (isTy s T.code && datB T.code) = true) (h1 : T.ok) (h2 : T.dat) (h4 : T.code.length ≤ 40) (hv : tms v ≤ 1048576) : spec_IsValue (s, T.code, v) = some (vB T v) := by
  unfold spec_IsValue
  simp only
  rw [sIsData s T.code (by omega), h]
  rw [bs, if_pos rfl]
  have e := sIsTerm s v 0 (by decide) (by omega)
  rw [show ((0 : Nat) : Int) = 0 from rfl] at e
  rw [e, bs]
  cases ht : trmB s v 0
  · have : vB T v = false := by
      rw [Bool.eq_false_iff]
      intro hb
      unfold isTy typB at h
      simp only [Bool.and_eq_true] at h
      have T' := sysB_tab h.1.1
      have hc := h.1.2.2
      rw [show codB s = gokC s.fSize true from funext fun c => codB_tab T'] at hc
      obtain ⟨p, q⟩ := vB_ok _ _ T v 0 h2 (allTy_of h1 h4 hc) hb
      unfold trmB at ht
      rw [h.1.1, decide_eq_true (by omega), p] at ht
      cases ht
    rw [this]; rfl
  · rw [if_pos rfl]
    unfold trmB at ht
    rw [Bool.and_eq_true] at ht
    rw [sVal _ _ T v 0 h1 h2 (by omega) ht.2]; rfl
end Go.Am
