/- Plain laws of the printed functions. -/
import Derived.Test.YtlegifoeekcolaaGRAF5
set_option linter.unusedSimpArgs false
set_option linter.unusedVariables false
namespace Go.Am
theorem wr_id {x : Int} (h1 : -9223372036854775808 ≤ x) (h2 : x ≤ 9223372036854775807) : wr x = x := by
  unfold wr IntKind.wrap
  simp [IntKind.bits, IntKind.signed]
  omega
theorem idx_get {α : Type} {l : List α} {n : Nat} (h : n < l.length) : idx l (n : Int) = some l[n] := by
  unfold idx
  rw [if_pos (by omega)]
  simp [h]
theorem bs {α β : Type} (a : α) (f : α → Option β) : (some a >>= f) = f a := rfl
/-- A round number as the loops hold it. -/
theorem wr_succ {n : Nat} (h : n < 9223372036854775807) : wr ((n : Int) + 1) = ((n + 1 : Nat) : Int) := by
  rw [wr_id (by omega) (by omega)]; omega
theorem lt_t {n m : Nat} (h : n < m) : decide ((n : Int) < (m : Int)) = true := decide_eq_true (by omega)
theorem lt_f {n m : Nat} (h : m ≤ n) : decide ((n : Int) < (m : Int)) = false := decide_eq_false (by omega)
theorem take_set_succ {α : Type} {l a : List α} {n : Nat} (hl : l.length = a.length) (hn : n < a.length) (h : l.take n = a.take n) : (l.set n a[n]).take (n + 1) = a.take (n + 1) := by
  apply List.ext_getElem?
  intro i
  rw [List.getElem?_take, List.getElem?_take]
  by_cases hi : i < n + 1
  · rw [if_pos hi, if_pos hi, List.getElem?_set]
    by_cases e : n = i
    · subst e
      rw [if_pos rfl, if_pos (by omega), List.getElem?_eq_getElem hn]
    · rw [if_neg e]
      have := congrArg (fun l => l[i]?) h
      simp only [List.getElem?_take] at this
      rw [if_pos (by omega), if_pos (by omega)] at this
      exact this
  · rw [if_neg hi, if_neg hi]
theorem toIntS_l0 (a : List Int) (ha : a.length ≤ 1099511627776) : ∀ (k n : Nat) (out : List Int), n + k = a.length → out.length = a.length → out.take n = a.take n → laws_toIntS_l0 (a, out, (n : Int)) = some a := by
  intro k
  induction k with
  | zero =>
    intro n out hn hl ht
    rw [laws_toIntS_l0.eq_def]
    simp only
    rw [lt_f (by omega)]
    have h1 : out.take n = out := List.take_of_length_le (by omega)
    have h2 : a.take n = a := List.take_of_length_le (by omega)
    rw [h1, h2] at ht
    simp [ht]
  | succ k ih =>
    intro n out hn hl ht
    rw [laws_toIntS_l0.eq_def]
    simp only
    rw [lt_t (by omega), if_pos rfl, idx_get (by omega), bs, idx_get (by omega), bs, wr_succ (by omega), Int.toNat_natCast]
    exact ih (n + 1) _ (by omega) (by simpa using hl) (take_set_succ hl (by omega) ht)
theorem toIntS_id (a : List Int) (ha : a.length ≤ 1099511627776) : laws_toIntS a = some a := by
  unfold laws_toIntS
  have : chk (0 ≤ (a.length : Int) ∧ (Int.toNat (a.length : Int)) * 8 ≤ 140737488355328) = some () := by
    unfold chk; rw [if_pos]; refine ⟨by omega, ?_⟩; rw [Int.toNat_natCast]; omega
  rw [this, bs, Int.toNat_natCast]
  have := toIntS_l0 a ha a.length 0 (List.replicate a.length 0) (by omega) (by simp) rfl
  rw [show ((0 : Nat) : Int) = 0 from rfl] at this
  rw [this, bs]
theorem bne_self {a : Int} : (a != a) = false := by simp
theorem eqIntS_l0 (a : List Int) (ha : a.length ≤ 1099511627776) : ∀ (k n : Nat), n + k = a.length → laws_eqIntS_l0 (a, a, (n : Int)) = some (.inl ()) := by
  intro k
  induction k with
  | zero =>
    intro n hn
    rw [laws_eqIntS_l0.eq_def]
    simp only
    rw [lt_f (by omega)]
    rfl
  | succ k ih =>
    intro n hn
    rw [laws_eqIntS_l0.eq_def]
    simp only
    rw [lt_t (by omega), if_pos rfl, idx_get (by omega), bs, bs, bne_self, if_neg (by decide), wr_succ (by omega)]
    exact ih (n + 1) (by omega)
theorem eqIntS_refl (a : List Int) (ha : a.length ≤ 1099511627776) : laws_eqIntS (a, a) = some true := by
  unfold laws_eqIntS
  simp only
  have := eqIntS_l0 a ha a.length 0 (by omega)
  rw [show ((0 : Nat) : Int) = 0 from rfl] at this
  rw [bne_self, if_neg (by decide), this]
  rfl
def inB (x lo hi : Int) : Bool := decide (x ≥ lo) && decide (x ≤ hi)
theorem sIn (x lo hi : Int) : spec_l1In (x, lo, hi) = some (inB x lo hi) := by
  unfold spec_l1In inB
  simp only
  cases decide (x ≥ lo) <;> simp [bs]
theorem iIn (x lo hi : Int) : impl_within (x, lo, hi) = some (inB x lo hi) := by
  unfold impl_within inB
  simp only
  cases decide (x ≥ lo) <;> simp [bs]
theorem drop_cons_get {α : Type} {l r : List α} {x : α} {i : Nat} (h : l.drop i = x :: r) : i < l.length ∧ idx l (i : Int) = some x ∧ l.drop (i + 1) = r := by
  have hi : i < l.length := by
    rcases Nat.lt_or_ge i l.length with h' | h'
    · exact h'
    · rw [List.drop_eq_nil_of_le h'] at h; cases h
  have e := List.drop_eq_getElem_cons hi
  rw [h] at e
  obtain ⟨e1, e2⟩ := List.cons.inj e
  exact ⟨hi, by rw [idx_get hi, e1], e2.symm⟩
theorem drop_nil_le {α : Type} {l : List α} {i : Nat} (h : l.drop i = []) : l.length ≤ i := by
  rcases Nat.lt_or_ge i l.length with h' | h'
  · rw [List.drop_eq_getElem_cons h'] at h; cases h
  · exact h'
def arrC (c : Int) : Bool := inB c 3 18 || c == 35
def boxC (c : Int) : Bool := inB c 19 34 || c == 36
def kidsC (c : Int) : Int := if c == 0 then 0 else if c == 1 || c == 2 || arrC c then 2 else if boxC c then 1 else -1
theorem sArrow (c : Int) : spec_l2Arrow c = some (arrC c) := by
  unfold spec_l2Arrow arrC
  simp only [sIn, bs]
  cases inB c 3 18 <;> rfl
theorem sBox (c : Int) : spec_l2Box c = some (boxC c) := by
  unfold spec_l2Box boxC
  simp only [sIn, bs]
  cases inB c 19 34 <;> rfl
theorem sKids (c : Int) : spec_l2Kids c = some (kidsC c) := by
  unfold spec_l2Kids kidsC
  simp only [sArrow, sBox, bs]
  cases c == 0 <;> cases c == 1 <;> cases c == 2 <;> cases arrC c <;> cases boxC c <;> rfl
theorem kidsC_cases (c : Int) : (c = 0 ∧ kidsC c = 0) ∨ ((c = 1 ∨ c = 2 ∨ (3 ≤ c ∧ c ≤ 18) ∨ c = 35) ∧ kidsC c = 2) ∨ (((19 ≤ c ∧ c ≤ 34) ∨ c = 36) ∧ kidsC c = 1) ∨ ((c < 0 ∨ 36 < c) ∧ kidsC c = -1) := by
  unfold kidsC arrC boxC inB
  by_cases h0 : c = 0
  · left; subst h0; exact ⟨rfl, rfl⟩
  · right
    have e0 : (c == 0) = false := by simpa using h0
    by_cases h1 : c = 1 ∨ c = 2 ∨ (3 ≤ c ∧ c ≤ 18) ∨ c = 35
    · left
      refine ⟨h1, ?_⟩
      have : (c == 1 || c == 2 || (decide (c ≥ 3) && decide (c ≤ 18) || c == 35)) = true := by
        simp only [Bool.or_eq_true, Bool.and_eq_true, beq_iff_eq, decide_eq_true_eq]; omega
      rw [e0, this]; rfl
    · right
      have q : (c == 1 || c == 2 || (decide (c ≥ 3) && decide (c ≤ 18) || c == 35)) = false := by
        rw [Bool.eq_false_iff]; intro h
        simp only [Bool.or_eq_true, Bool.and_eq_true, beq_iff_eq, decide_eq_true_eq] at h; omega
      rw [e0, q]
      by_cases h2 : (19 ≤ c ∧ c ≤ 34) ∨ c = 36
      · left
        refine ⟨h2, ?_⟩
        have : (decide (c ≥ 19) && decide (c ≤ 34) || c == 36) = true := by
          simp only [Bool.or_eq_true, Bool.and_eq_true, beq_iff_eq, decide_eq_true_eq]; omega
        rw [this]; rfl
      · right
        refine ⟨by omega, ?_⟩
        have : (decide (c ≥ 19) && decide (c ≤ 34) || c == 36) = false := by
          rw [Bool.eq_false_iff]; intro h
          simp only [Bool.or_eq_true, Bool.and_eq_true, beq_iff_eq, decide_eq_true_eq] at h; omega
        rw [this]; rfl
/-- The shape of a code, and its grade. -/
def shapeI (c : Int) : Int × Int :=
  if inB c 0 2 then (c, -1) else if inB c 3 18 then (3, c - 3) else if inB c 19 34 then (4, c - 19) else if c == 35 then (3, -1) else if c == 36 then (4, -1) else (5, -1)
theorem iShape (c : Int) : impl_shape c = some (shapeI c) := by
  unfold impl_shape shapeI
  simp only [iIn, bs]
  cases h1 : inB c 0 2
  · cases h2 : inB c 3 18
    · cases h3 : inB c 19 34
      · cases c == 35 <;> cases c == 36 <;> rfl
      · simp only [inB, Bool.and_eq_true, decide_eq_true_eq] at h3
        simp only [Bool.false_eq_true, if_false, if_true]
        rw [wr_id (by omega) (by omega)]
    · simp only [inB, Bool.and_eq_true, decide_eq_true_eq] at h2
      simp only [Bool.false_eq_true, if_false, if_true]
      rw [wr_id (by omega) (by omega)]
  · rfl
theorem shapeI_cases (c : Int) : (c = 0 ∧ shapeI c = (0, -1)) ∨ (c = 1 ∧ shapeI c = (1, -1)) ∨ (c = 2 ∧ shapeI c = (2, -1)) ∨ ((3 ≤ c ∧ c ≤ 18) ∧ shapeI c = (3, c - 3)) ∨ (c = 35 ∧ shapeI c = (3, -1)) ∨
    ((19 ≤ c ∧ c ≤ 34) ∧ shapeI c = (4, c - 19)) ∨ (c = 36 ∧ shapeI c = (4, -1)) ∨ ((c < 0 ∨ 36 < c) ∧ shapeI c = (5, -1)) := by
  have inT : ∀ lo hi, lo ≤ c → c ≤ hi → inB c lo hi = true := fun lo hi h1 h2 => by simp only [inB, Bool.and_eq_true, decide_eq_true_eq]; omega
  have inF : ∀ lo hi, (c < lo ∨ hi < c) → inB c lo hi = false := fun lo hi h => by rw [Bool.eq_false_iff]; intro h'; simp only [inB, Bool.and_eq_true, decide_eq_true_eq] at h'; omega
  unfold shapeI
  by_cases h0 : 0 ≤ c ∧ c ≤ 2
  · rw [inT 0 2 h0.1 h0.2]
    have : c = 0 ∨ c = 1 ∨ c = 2 := by omega
    rcases this with rfl | rfl | rfl <;> simp
  · rw [inF 0 2 (by omega)]
    by_cases h1 : 3 ≤ c ∧ c ≤ 18
    · rw [inT 3 18 h1.1 h1.2]
      exact .inr (.inr (.inr (.inl ⟨h1, rfl⟩)))
    · rw [inF 3 18 (by omega)]
      by_cases h2 : 19 ≤ c ∧ c ≤ 34
      · rw [inT 19 34 h2.1 h2.2]
        exact .inr (.inr (.inr (.inr (.inr (.inl ⟨h2, rfl⟩)))))
      · rw [inF 19 34 (by omega)]
        by_cases h3 : c = 35
        · subst h3; simp
        · by_cases h4 : c = 36
          · subst h4; simp
          · have e3 : (c == 35) = false := by simpa using h3
            have e4 : (c == 36) = false := by simpa using h4
            rw [e3, e4]
            refine .inr (.inr (.inr (.inr (.inr (.inr (.inr ⟨by omega, rfl⟩))))))
/-- What is left behind so many types. -/
def skip : Nat → List Int → Option (List Int)
  | 0, l => some l
  | _ + 1, [] => none
  | m + 1, c :: l => if kidsC c = -1 then none else skip (m + (kidsC c).toNat) l
theorem skip_zero (l : List Int) : skip 0 l = some l := by cases l <;> rfl
theorem skip_nil (m : Nat) : skip (m + 1) [] = none := rfl
theorem skip_cons (m : Nat) (c : Int) (l : List Int) : skip (m + 1) (c :: l) = if kidsC c = -1 then none else skip (m + (kidsC c).toNat) l := rfl
theorem skip_add (l : List Int) : ∀ (m k : Nat), skip (m + k) l = (skip m l).bind (skip k) := by
  induction l with
  | nil =>
    intro m k
    cases m with
    | zero => rw [Nat.zero_add, skip_zero]; rfl
    | succ m => rw [show m + 1 + k = (m + k) + 1 by omega, skip_nil, skip_nil]; rfl
  | cons c l ih =>
    intro m k
    cases m with
    | zero => rw [Nat.zero_add, skip_zero]; rfl
    | succ m =>
      rw [show m + 1 + k = (m + k) + 1 by omega, skip_cons, skip_cons]
      by_cases h : kidsC c = -1
      · rw [if_pos h, if_pos h]; rfl
      · rw [if_neg h, if_neg h, ← ih]; congr 1; omega
theorem skip_suffix (l : List Int) : ∀ (m : Nat) (r : List Int), skip m l = some r → ∃ p, l = p ++ r ∧ m ≤ p.length := by
  induction l with
  | nil =>
    intro m r h
    cases m with
    | zero => rw [skip_zero] at h; cases h; exact ⟨[], rfl, Nat.le_refl _⟩
    | succ m => rw [skip_nil] at h; cases h
  | cons c l ih =>
    intro m r h
    cases m with
    | zero => rw [skip_zero] at h; cases h; exact ⟨[], rfl, Nat.le_refl _⟩
    | succ m =>
      rw [skip_cons] at h
      by_cases hk : kidsC c = -1
      · rw [if_pos hk] at h; cases h
      · rw [if_neg hk] at h
        obtain ⟨p, e, hp⟩ := ih _ _ h
        exact ⟨c :: p, by rw [e]; rfl, by simp; omega⟩
/-- Where so many types that begin at a place end. -/
def endI (ty : List Int) (m i : Nat) : Int := match skip m (ty.drop i) with | some r => ((ty.length - r.length : Nat) : Int) | none => -1
theorem sEnd_l0 (ty : List Int) (hty : ty.length ≤ 1099511627776) : ∀ (l : List Int) (i m : Nat), ty.drop i = l → m ≤ 1099511627776 + 2 * i → ∃ x, spec_l2End_l0 (ty, ((m + 1 : Nat) : Int), (i : Int)) = some x ∧ (match x with | .inl () => -1 | .inr r => r) = endI ty (m + 1) i := by
  intro l
  induction l with
  | nil =>
    intro i m hl hm
    rw [spec_l2End_l0.eq_def]
    simp only
    rw [lt_f (drop_nil_le hl)]
    exact ⟨.inl (), rfl, by unfold endI; rw [hl, skip_nil]⟩
  | cons c l ih =>
    intro i m hl hm
    obtain ⟨hi, hx, hd⟩ := drop_cons_get hl
    have hi2 : (i : Int) < 1099511627776 := by omega
    rw [spec_l2End_l0.eq_def]
    simp only
    rw [lt_t hi, if_pos rfl, hx, bs, sKids, bs]
    have he : endI ty (m + 1) i = (match (if kidsC c = -1 then none else skip (m + (kidsC c).toNat) l) with | some r => ((ty.length - r.length : Nat) : Int) | none => -1) := by
      unfold endI; rw [hl, skip_cons]
    rw [he]
    by_cases hk : kidsC c = -1
    · rw [if_pos hk, hk]
      exact ⟨.inr (-1), rfl, rfl⟩
    · rw [if_neg hk]
      have hk0 : 0 ≤ kidsC c ∧ kidsC c ≤ 2 := by rcases kidsC_cases c with h | h | h | h <;> omega
      obtain ⟨k, hkk⟩ : ∃ k : Nat, kidsC c = (k : Int) := ⟨(kidsC c).toNat, by omega⟩
      rw [decide_eq_false (by omega), if_neg (by decide), hkk, Int.toNat_natCast]
      rw [wr_id (x := ((m + 1 : Nat) : Int) - 1) (by omega) (by omega), show ((m + 1 : Nat) : Int) - 1 = (m : Int) by omega, wr_id (x := (m : Int) + (k : Int)) (by omega) (by omega), wr_succ (by omega)]
      by_cases h0 : m + k = 0
      · rw [show ((m : Int) + (k : Int) == 0) = true by simp; omega, if_pos rfl, h0, skip_zero]
        refine ⟨_, rfl, ?_⟩
        have : l.length = ty.length - (i + 1) := by rw [← hd, List.length_drop]
        simp only
        omega
      · rw [show ((m : Int) + (k : Int) == 0) = false by simp; omega, if_neg (by decide)]
        obtain ⟨q, hq⟩ : ∃ q, m + k = q + 1 := ⟨m + k - 1, by omega⟩
        have := ih (i + 1) q hd (by omega)
        rw [show (m : Int) + (k : Int) = ((q + 1 : Nat) : Int) by omega]
        obtain ⟨x, h1, h2⟩ := this
        exact ⟨x, h1, by rw [h2, hq]; unfold endI; rw [hd]⟩
theorem sEnd (ty : List Int) (hty : ty.length ≤ 1099511627776) (i : Nat) (hi : i ≤ ty.length) : spec_l2End (ty, (i : Int)) = some (endI ty 1 i) := by
  unfold spec_l2End
  obtain ⟨x, h1, h2⟩ := sEnd_l0 ty hty _ i 0 rfl (by omega)
  simp only
  rw [show (1 : Int) = ((0 + 1 : Nat) : Int) from rfl, h1, bs]
  rw [← h2]
  cases x <;> rfl
theorem endI_two (ty : List Int) (i : Nat) (hi : i ≤ ty.length) : endI ty 2 i = (if endI ty 1 i = -1 then -1 else endI ty 1 (endI ty 1 i).toNat) := by
  unfold endI
  rw [show 2 = 1 + 1 from rfl, skip_add]
  cases h : skip 1 (ty.drop i) with
  | none => simp
  | some r =>
    obtain ⟨p, hp, hl⟩ := skip_suffix _ _ _ h
    have hlen : ty.length - i = p.length + r.length := by rw [← List.length_drop, hp, List.length_append]
    have : ty.drop (ty.length - r.length) = r := by
      have e : ty.drop (ty.length - r.length) = (ty.drop i).drop p.length := by rw [List.drop_drop]; congr 1; omega
      rw [e, hp, List.drop_left]
    simp only [Option.bind_some]
    rw [if_neg (by omega), Int.toNat_natCast, this]
theorem iEnd (ty : List Int) (hty : ty.length ≤ 1099511627776) : ∀ (d i : Nat), ty.length - i = d → impl_typeEnd (ty, (i : Int)) = some (endI ty 1 i) := by
  intro d
  induction d using Nat.strongRecOn with
  | ind d ih =>
    intro i hd
    rw [impl_typeEnd.eq_def]
    simp only
    rw [decide_eq_false (by omega : ¬ (i : Int) < 0)]
    simp only [Bool.false_eq_true, if_false, bs]
    by_cases hi : i < ty.length
    · rw [decide_eq_false (by omega), if_neg (by decide), idx_get hi, bs, iShape, bs]
      have hdr := List.drop_eq_getElem_cons hi
      have he : ∀ k : Nat, kidsC ty[i] = (k : Int) → endI ty 1 i = endI ty k (i + 1) := fun k hk => by
        unfold endI
        rw [hdr, show 1 = 0 + 1 from rfl, skip_cons, hk, if_neg (by omega), Int.toNat_natCast, Nat.zero_add]
      have hn : kidsC ty[i] = -1 → endI ty 1 i = -1 := fun hk => by
        unfold endI
        rw [hdr, show 1 = 0 + 1 from rfl, skip_cons, if_pos hk]
      have i1 := ih (ty.length - (i + 1)) (by omega) (i + 1) rfl
      have hz : ∀ i : Nat, i ≤ ty.length → endI ty 0 i = (i : Int) := fun i hi => by unfold endI; rw [skip_zero]; simp only [List.length_drop]; omega
      rw [wr_succ (by omega)]
      have two : kidsC ty[i] = 2 → ((impl_typeEnd (ty, ((i + 1 : Nat) : Int))) >>= fun r_11_4 => (impl_typeEnd (ty, r_11_4)) >>= fun r_11_5 => some r_11_5) = some (endI ty 1 i) := fun hk => by
        rw [i1, bs, he 2 hk, endI_two ty (i + 1) (by omega)]
        by_cases h1 : endI ty 1 (i + 1) = -1
        · rw [h1, if_pos rfl, impl_typeEnd.eq_def]; rfl
        · rw [if_neg h1]
          obtain ⟨e, hee, hlo⟩ : ∃ e : Nat, endI ty 1 (i + 1) = (e : Int) ∧ i + 1 < e := by
            unfold endI at h1 ⊢
            cases hs : skip 1 (ty.drop (i + 1)) with
            | none => rw [hs] at h1; exact absurd rfl h1
            | some r =>
              obtain ⟨p, hp, hl⟩ := skip_suffix _ _ _ hs
              have hlen : ty.length - (i + 1) = p.length + r.length := by rw [← List.length_drop, hp, List.length_append]
              exact ⟨_, rfl, by omega⟩
          rw [hee, Int.toNat_natCast, ih (ty.length - e) (by omega) e rfl, bs]
      rcases shapeI_cases ty[i] with ⟨h, e⟩ | ⟨h, e⟩ | ⟨h, e⟩ | ⟨h, e⟩ | ⟨h, e⟩ | ⟨h, e⟩ | ⟨h, e⟩ | ⟨h, e⟩ <;> rw [e] <;> simp only []
      · have hk : kidsC ty[i] = 0 := by rcases kidsC_cases ty[i] with h | h | h | h <;> omega
        rw [if_pos (by rfl), he 0 hk, hz _ (by omega)]
      · have hk : kidsC ty[i] = 2 := by rcases kidsC_cases ty[i] with h | h | h | h <;> omega
        exact two hk
      · have hk : kidsC ty[i] = 2 := by rcases kidsC_cases ty[i] with h | h | h | h <;> omega
        exact two hk
      · have hk : kidsC ty[i] = 2 := by rcases kidsC_cases ty[i] with h | h | h | h <;> omega
        exact two hk
      · have hk : kidsC ty[i] = 2 := by rcases kidsC_cases ty[i] with h | h | h | h <;> omega
        exact two hk
      · have hk : kidsC ty[i] = 1 := by rcases kidsC_cases ty[i] with h | h | h | h <;> omega
        rw [he 1 hk, if_neg (by decide), if_pos (by rfl), i1, bs]
      · have hk : kidsC ty[i] = 1 := by rcases kidsC_cases ty[i] with h | h | h | h <;> omega
        rw [he 1 hk, if_neg (by decide), if_pos (by rfl), i1, bs]
      · have hk : kidsC ty[i] = -1 := by rcases kidsC_cases ty[i] with h | h | h | h <;> omega
        rw [hn hk]; rfl
    · rw [decide_eq_true (by omega), if_pos rfl]
      unfold endI
      rw [List.drop_eq_nil_of_le (by omega), skip_nil]
/-- A written type. -/
def wtB (ty : List Int) : Bool := decide (ty.length ≤ 40) && (skip 1 ty == some [])
theorem endI_len (ty : List Int) : (endI ty 1 0 == (ty.length : Int)) = (skip 1 ty == some []) := by
  unfold endI
  rw [List.drop_zero]
  cases h : skip 1 ty with
  | none => simp
  | some r =>
    obtain ⟨p, hp, hl⟩ := skip_suffix _ _ _ h
    have hlen : ty.length = p.length + r.length := by rw [hp, List.length_append]
    cases r with
    | nil => simp
    | cons x xs =>
      simp only [List.length_cons] at hlen ⊢
      simp
      omega
theorem sType (ty : List Int) (hty : ty.length ≤ 1099511627776) : spec_l2Type ty = some (wtB ty) := by
  unfold spec_l2Type wtB
  by_cases h : ty.length ≤ 40
  · rw [decide_eq_true (by omega : (ty.length : Int) ≤ 40), if_pos rfl, show (0 : Int) = ((0 : Nat) : Int) from rfl, sEnd ty hty 0 (by omega), bs, endI_len, decide_eq_true h]
    cases hs : skip 1 ty == some [] with
    | false => rfl
    | true =>
      have : 0 < ty.length := by
        rcases ty with _ | ⟨c, l⟩
        · rw [show skip 1 [] = none from rfl] at hs; cases hs
        · simp
      rw [if_pos rfl, decide_eq_true (by omega : (ty.length : Int) > ((0 : Nat) : Int))]; rfl
  · rw [decide_eq_false (by omega : ¬ (ty.length : Int) ≤ 40), decide_eq_false h]; rfl
theorem iType (ty : List Int) (hty : ty.length ≤ 1099511627776) : impl_isWrittenType ty = some (wtB ty) := by
  unfold impl_isWrittenType wtB
  rw [iIn, bs]
  by_cases h : ty.length ≤ 40
  · rw [decide_eq_true h]
    by_cases h1 : 1 ≤ ty.length
    · have : inB (ty.length : Int) 1 40 = true := by simp only [inB, Bool.and_eq_true, decide_eq_true_eq]; omega
      rw [this, if_pos rfl, show (0 : Int) = ((0 : Nat) : Int) from rfl, iEnd ty hty _ 0 rfl, bs, endI_len]; rfl
    · have : inB (ty.length : Int) 1 40 = false := by rw [Bool.eq_false_iff]; intro h'; simp only [inB, Bool.and_eq_true, decide_eq_true_eq] at h'; omega
      have e : ty = [] := List.length_eq_zero_iff.1 (by omega)
      rw [this, e]; rfl
  · have : inB (ty.length : Int) 1 40 = false := by rw [Bool.eq_false_iff]; intro h'; simp only [inB, Bool.and_eq_true, decide_eq_true_eq] at h'; omega
    rw [this, decide_eq_false h]; rfl
/-- A code's grade is one of so many (closed: and is told). -/
def gradeC (c : Int) : Int := if 35 ≤ c then -1 else if 19 ≤ c then c - 19 else c - 3
def gokC (size : Int) (closed : Bool) (c : Int) : Bool := !(decide (kidsC c > 0) && decide (c > 2) && (decide (gradeC c ≥ size) || closed && decide (gradeC c < 0)))
theorem sGrade {c : Int} (h : kidsC c > 0) : spec_l2Grade c = some (gradeC c) := by
  have : 0 ≤ c ∧ c ≤ 36 := by rcases kidsC_cases c with h | h | h | h <;> omega
  unfold spec_l2Grade gradeC
  by_cases h1 : 35 ≤ c
  · rw [decide_eq_true (by omega : c ≥ 35), if_pos rfl, if_pos h1]
  · rw [decide_eq_false (by omega : ¬ c ≥ 35), if_neg (by decide), if_neg h1]
    by_cases h2 : 19 ≤ c
    · rw [decide_eq_true (by omega : c ≥ 19), if_pos rfl, if_pos h2, wr_id (by omega) (by omega)]
    · rw [decide_eq_false (by omega : ¬ c ≥ 19), if_neg (by decide), if_neg h2, wr_id (by omega) (by omega)]
theorem sGraded_l0 (ty : List Int) (hty : ty.length ≤ 1099511627776) (size : Int) (cl : Bool) : ∀ (l : List Int) (i : Nat), ty.drop i = l → spec_l2Graded_l0 (ty, size, cl, (i : Int)) = some (if l.all (gokC size cl) then .inl () else .inr false) := by
  intro l
  induction l with
  | nil =>
    intro i hl
    rw [spec_l2Graded_l0.eq_def]
    simp only
    rw [lt_f (drop_nil_le hl)]; rfl
  | cons c l ih =>
    intro i hl
    obtain ⟨hi, hx, hd⟩ := drop_cons_get hl
    rw [spec_l2Graded_l0.eq_def]
    simp only
    rw [lt_t hi, if_pos rfl, hx, bs, bs, sKids, bs, wr_succ (by omega)]
    have ih := ih (i + 1) hd
    generalize ((i + 1 : Nat) : Int) = M at ih ⊢
    rw [List.all_cons]
    unfold gokC at ih ⊢
    by_cases hk : kidsC c > 0
    · simp only [bs, sGrade hk]
      rw [decide_eq_true hk]
      generalize gradeC c = g at ih ⊢
      cases decide (c > 2) <;> cases decide (g ≥ size) <;> cases cl <;> cases decide (g < 0) <;> simp [bs, ih]
    · rw [decide_eq_false hk]; simp [bs, ih]
theorem sGraded (ty : List Int) (hty : ty.length ≤ 1099511627776) (size : Int) (cl : Bool) : spec_l2Graded (ty, size, cl) = some (ty.all (gokC size cl)) := by
  unfold spec_l2Graded
  simp only
  rw [show (0 : Int) = ((0 : Nat) : Int) from rfl, sGraded_l0 ty hty size cl _ 0 rfl, List.drop_zero, bs]
  cases ty.all (gokC size cl) <;> rfl
theorem gok16 (c : Int) : gokC 16 false c = true := by
  unfold gokC gradeC
  rcases kidsC_cases c with ⟨h, e⟩ | ⟨h, e⟩ | ⟨h, e⟩ | ⟨h, e⟩ <;> rw [e] <;> simp <;> split <;> (try split) <;> omega
theorem bind_of {α β : Type} {a : Option α} {f : α → Option β} {x : α} (h : a = some x) : (a >>= f) = f x := by rw [h]; rfl
mutual
def tsz : GTerm → Nat
  | ⟨_, _, _, ks⟩ => 1 + tszs ks
def tszs : List GTerm → Nat
  | [] => 0
  | k :: ks => tsz k + tszs ks
end
mutual
/-- What a term holds in all its rows. -/
def tms : GTerm → Nat
  | ⟨_, _, ty, ks⟩ => ty.length + ks.length + tmss ks
def tmss : List GTerm → Nat
  | [] => 0
  | k :: ks => tms k + tmss ks
end
theorem tms_eq (t : GTerm) : tms t = t.fType.length + t.fKids.length + tmss t.fKids := by cases t; rw [tms]
theorem tsz_eq (t : GTerm) : tsz t = 1 + tszs t.fKids := by cases t; rw [tsz]
def leftI (left n : Nat) : Int := if n ≤ left then ((left - n : Nat) : Int) else -1
theorem leftI_le {left n : Nat} (h : n ≤ left) : leftI left n = ((left - n : Nat) : Int) := if_pos h
theorem leftI_gt {left n : Nat} (h : ¬ n ≤ left) : leftI left n = -1 := if_neg h
theorem sLeft_neg (t : GTerm) (i : Int) : spec_l2Left_l0 (t, -1, i) = some (-1) := by
  rw [spec_l2Left_l0.eq_def]
  simp only
  cases decide (i < (t.fKids.length : Int)) <;> rfl
mutual
theorem sLeft : ∀ (t : GTerm) (left : Nat), tms t ≤ 1099511627776 → left ≤ 1048576 → spec_l2Left (t, (left : Int)) = some (leftI left (tsz t))
  | ⟨op, N, ty, ks⟩, left, ht, hl => by
    rw [tms] at ht
    rw [spec_l2Left.eq_def, tsz]
    simp only
    rcases left with _ | l
    · rw [show wr (((0 : Nat) : Int) - 1) = -1 from wr_id (by omega) (by omega), sLeft_neg, bs, leftI_gt (by omega)]
    · have h := sLeft_l0 ks ⟨op, N, ty, ks⟩ 0 l rfl (by simp only; omega) (by omega) (by omega)
      rw [wr_id (by omega) (by omega), show ((l + 1 : Nat) : Int) - 1 = (l : Int) by omega, show (0 : Int) = ((0 : Nat) : Int) from rfl, h, bs]
      unfold leftI
      by_cases q : tszs ks ≤ l
      · rw [if_pos q, if_pos (by omega), show l + 1 - (1 + tszs ks) = l - tszs ks by omega]
      · rw [if_neg q, if_neg (by omega)]
theorem sLeft_l0 : ∀ (ks : List GTerm) (t : GTerm) (i left : Nat), t.fKids.drop i = ks → t.fKids.length ≤ 1099511627776 → tmss ks ≤ 1099511627776 → left ≤ 1048576 → spec_l2Left_l0 (t, (left : Int), (i : Int)) = some (leftI left (tszs ks))
  | [], t, i, left, hd, hk, ht, hl => by
    rw [spec_l2Left_l0.eq_def, tszs]
    simp only
    rw [lt_f (drop_nil_le hd)]
    simp [bs, leftI]
  | k :: ks, t, i, left, hd, hk, ht, hl => by
    obtain ⟨hi, hx, hd'⟩ := drop_cons_get hd
    rw [tmss] at ht
    rw [spec_l2Left_l0.eq_def, tszs]
    simp only
    rw [lt_t hi, if_pos rfl, bs, decide_eq_true (by omega : ((left : Nat) : Int) ≥ 0), if_pos rfl, hx, bs, sLeft k left (by omega) hl, bs, wr_succ (by omega)]
    by_cases q : tsz k ≤ left
    · rw [leftI_le q, sLeft_l0 ks t (i + 1) (left - tsz k) hd' hk (by omega) (by omega)]
      unfold leftI
      by_cases q2 : tszs ks ≤ left - tsz k
      · rw [if_pos q2, if_pos (by omega)]; congr 2; omega
      · rw [if_neg q2, if_neg (by omega)]
    · rw [leftI_gt q, sLeft_neg, leftI_gt (by omega)]
end
def manyI (op : Int) : Int := if inB op 0 12 then ([0, 0, 2, 3, 2, 2, 1, 1, 3, 1, 2, 1, 2] : List Int).getD op.toNat 0 else -1
def hasG (op : Int) : Bool := op == 5 || op == 8 || op == 9 || op == 11 || op == 12
def typedG (op : Int) : Bool := op == 6 || op == 7 || op == 9
def wordG (op : Int) : ByteArray := ([ByteArray.mk #[120], ByteArray.empty, ByteArray.mk #[97, 100, 100], ByteArray.mk #[105, 102], ByteArray.mk #[112, 97, 105, 114], ByteArray.mk #[115, 112, 108, 105, 116], ByteArray.mk #[108, 101, 102, 116],
  ByteArray.mk #[114, 105, 103, 104, 116], ByteArray.mk #[99, 97, 115, 101], ByteArray.mk #[102, 117, 110], ByteArray.mk #[97, 112, 112], ByteArray.mk #[98, 111, 120], ByteArray.mk #[111, 112, 101, 110]] : List ByteArray).getD op.toNat ByteArray.empty
theorem op_cases {op : Int} (h : inB op 0 12 = true) : op = 0 ∨ op = 1 ∨ op = 2 ∨ op = 3 ∨ op = 4 ∨ op = 5 ∨ op = 6 ∨ op = 7 ∨ op = 8 ∨ op = 9 ∨ op = 10 ∨ op = 11 ∨ op = 12 := by
  simp only [inB, Bool.and_eq_true, decide_eq_true_eq] at h
  omega
theorem sMany (op : Int) : spec_l2Many op = some (manyI op) := by
  unfold spec_l2Many manyI
  rw [sIn, bs]
  cases h : inB op 0 12
  · rfl
  · rcases op_cases h with rfl | rfl | rfl | rfl | rfl | rfl | rfl | rfl | rfl | rfl | rfl | rfl | rfl <;> rfl
theorem sHas (op : Int) : spec_l2Has op = some (hasG op) := by
  unfold spec_l2Has hasG
  cases op == 5 <;> cases op == 8 <;> cases op == 9 <;> cases op == 11 <;> rfl
theorem sTyped (op : Int) : spec_l2Typed op = some (typedG op) := by
  unfold spec_l2Typed typedG
  cases op == 6 <;> cases op == 7 <;> rfl
def formG (op : Int) : GForm × Bool := if inB op 0 12 then (GForm.mk (wordG op) (manyI op) (hasG op) (typedG op), true) else (GForm.mk ByteArray.empty 0 false false, false)
theorem iForm (op : Int) : impl_formOf op = some (formG op) := by
  unfold impl_formOf formG
  rw [iIn, bs]
  cases h : inB op 0 12
  · rfl
  · rcases op_cases h with rfl | rfl | rfl | rfl | rfl | rfl | rfl | rfl | rfl | rfl | rfl | rfl | rfl <;> rfl
def addsI (op kid : Int) : Nat := if op == 5 && kid == 1 then 2 else if (op == 8 && decide (kid > 0)) || op == 9 || (op == 12 && kid == 1) then 1 else 0
theorem addsI_le (op kid : Int) : addsI op kid ≤ 2 := by unfold addsI; split <;> (try split) <;> omega
theorem sAdds (op kid : Int) : spec_l2Adds (op, kid) = some ((addsI op kid : Nat) : Int) := by
  unfold spec_l2Adds addsI
  simp only
  generalize (op == 5) = b1
  generalize (op == 8) = b2
  generalize (op == 9) = b3
  generalize (op == 12) = b4
  generalize (kid == 1) = b5
  generalize decide (kid > 0) = b6
  cases b1 <;> cases b2 <;> cases b3 <;> cases b4 <;> cases b5 <;> cases b6 <;> rfl
theorem iAdds (op kid : Int) : impl_adds (op, kid) = some ((addsI op kid : Nat) : Int) := by
  unfold impl_adds addsI
  simp only
  generalize (op == 5) = b1
  generalize (op == 8) = b2
  generalize (op == 9) = b3
  generalize (op == 12) = b4
  generalize (kid == 1) = b5
  generalize decide (kid > 0) = b6
  cases b1 <;> cases b2 <;> cases b3 <;> cases b4 <;> cases b5 <;> cases b6 <;> rfl
def nOkN (g : Int → Bool) (n : Int) (t : GTerm) : Bool := if t.fOp == 0 then inB t.fN 0 (n - 1) else if t.fOp == 1 then inB t.fN 0 2 else if hasG t.fOp then g t.fN else t.fN == 0
def nOkY (y : List Int → Bool) (t : GTerm) : Bool := if typedG t.fOp then y t.fType else (t.fType.length : Int) == 0
def nodeOk (g : Int → Bool) (y : List Int → Bool) (n : Int) (t : GTerm) : Bool := inB t.fOp 0 12 && ((t.fKids.length : Int) == manyI t.fOp) && nOkN g n t && nOkY y t
mutual
def tOk (g : Int → Bool) (y : List Int → Bool) : Nat → GTerm → Bool
  | n, ⟨op, N, ty, ks⟩ => nodeOk g y (n : Int) ⟨op, N, ty, ks⟩ && tOks g y op n 0 ks
def tOks (g : Int → Bool) (y : List Int → Bool) : Int → Nat → Nat → List GTerm → Bool
  | _, _, _, [] => true
  | op, n, i, k :: ks => tOk g y (n + addsI op (i : Int)) k && tOks g y op n (i + 1) ks
end
theorem tOk_eq (g : Int → Bool) (y : List Int → Bool) (n : Nat) (t : GTerm) : tOk g y n t = (nodeOk g y (n : Int) t && tOks g y t.fOp n 0 t.fKids) := by cases t; rw [tOk]
def gN (size : Int) (cl : Bool) (x : Int) : Bool := !(decide (x ≥ size) || decide (x < -1) || cl && decide (x < 0))
def yN (size : Int) (cl : Bool) (ty : List Int) : Bool := wtB ty && ty.all (gokC size cl)
theorem sNode (t : GTerm) (n : Nat) (size : Int) (cl : Bool) (hty : t.fType.length ≤ 1099511627776) (hn : n ≤ 35184372088832) : spec_l2Node (t, (n : Int), size, cl) = some (nodeOk (gN size cl) (yN size cl) (n : Int) t) := by
  unfold spec_l2Node nodeOk
  simp only
  rw [sMany, bs]
  by_cases hk : (t.fKids.length : Int) = manyI t.fOp
  · have hop : inB t.fOp 0 12 = true := by
      cases h : inB t.fOp 0 12
      · unfold manyI at hk; rw [h] at hk; simp at hk
      · rfl
    rw [show ((t.fKids.length : Int) != manyI t.fOp) = false by rw [hk]; exact bne_self, if_neg (by decide), show ((t.fKids.length : Int) == manyI t.fOp) = true by rw [hk]; simp, hop]
    refine (bind_of (x := if nOkN (gN size cl) (n : Int) t then .inl () else .inr false) ?_).trans ?_
    · unfold nOkN gN
      rw [sIn, wr_id (by omega) (by omega), sIn, sHas]
      simp only [bs]
      generalize inB t.fN 0 ((n : Int) - 1) = b1
      generalize inB t.fN 0 2 = b2
      generalize hasG t.fOp = b3
      rw [show (t.fN != 0) = !(t.fN == 0) from rfl]
      generalize (t.fN == 0) = b4
      generalize decide (t.fN ≥ size) = b5
      generalize decide (t.fN < -1) = b6
      generalize decide (t.fN < 0) = b7
      generalize (t.fOp == 0) = b8
      generalize (t.fOp == 1) = b9
      cases b8
      · cases b9
        · cases b3
          · cases b4 <;> rfl
          · cases b5 <;> cases b6 <;> cases cl <;> cases b7 <;> rfl
        · cases b2 <;> rfl
      · cases b1 <;> rfl
    · cases nOkN (gN size cl) (n : Int) t
      · simp
      · unfold nOkY yN
        simp only [if_true]
        rw [sTyped, bs]
        cases typedG t.fOp
        · simp
        · simp only [if_true]
          rw [sType _ hty, sGraded _ hty]
          cases wtB t.fType <;> simp [bs]
  · rw [show ((t.fKids.length : Int) != manyI t.fOp) = true by simpa using hk, if_pos rfl, show ((t.fKids.length : Int) == manyI t.fOp) = false by simpa using hk]
    simp
mutual
theorem sTerm (size : Int) (cl : Bool) : ∀ (t : GTerm) (n : Nat), tms t ≤ 1099511627776 → n + 2 * tms t ≤ 35184372088832 → spec_l2Term (t, (n : Int), size, cl) = some (tOk (gN size cl) (yN size cl) n t)
  | ⟨op, N, ty, ks⟩, n, ht, hn => by
    rw [tms] at ht hn
    rw [spec_l2Term.eq_def, tOk]
    simp only
    rw [sNode _ n size cl (by simp only; omega) (by omega), bs]
    cases hb : nodeOk (gN size cl) (yN size cl) (n : Int) ⟨op, N, ty, ks⟩
    · rfl
    · have h := sTerm_l0 size cl ks ⟨op, N, ty, ks⟩ n 0 rfl (by simp only; omega) (by omega) (by omega)
      rw [if_pos rfl, show (0 : Int) = ((0 : Nat) : Int) from rfl, h, bs]
      simp only
      cases tOks (gN size cl) (yN size cl) op n 0 ks <;> rfl
theorem sTerm_l0 (size : Int) (cl : Bool) : ∀ (ks : List GTerm) (t : GTerm) (n i : Nat), t.fKids.drop i = ks → t.fKids.length ≤ 1099511627776 → tmss ks ≤ 1099511627776 → n + 2 * (ks.length + tmss ks) ≤ 35184372088832 →
    spec_l2Term_l0 (t, (n : Int), size, cl, (i : Int)) = some (if tOks (gN size cl) (yN size cl) t.fOp n i ks then .inl () else .inr false)
  | [], t, n, i, hd, hk, ht, hn => by
    rw [spec_l2Term_l0.eq_def, tOks]
    simp only
    rw [lt_f (drop_nil_le hd)]; rfl
  | k :: ks, t, n, i, hd, hk, ht, hn => by
    obtain ⟨hi, hx, hd'⟩ := drop_cons_get hd
    rw [tmss] at ht hn
    rw [List.length_cons] at hn
    have ha := addsI_le t.fOp (i : Int)
    rw [spec_l2Term_l0.eq_def, tOks]
    simp only
    rw [lt_t hi, if_pos rfl, hx, bs, sAdds, bs, wr_id (by omega) (by omega), show (n : Int) + ((addsI t.fOp (i : Int) : Nat) : Int) = ((n + addsI t.fOp (i : Int) : Nat) : Int) by omega]
    rw [sTerm size cl k (n + addsI t.fOp (i : Int)) (by omega) (by omega), bs, wr_succ (by omega)]
    cases tOk (gN size cl) (yN size cl) (n + addsI t.fOp (i : Int)) k
    · rfl
    · rw [if_pos rfl, sTerm_l0 size cl ks t n (i + 1) hd' hk (by omega) (by omega), Bool.true_and]
end
def chkI (ok : Bool) (nodes sz : Nat) : Int := if ok && decide (nodes + sz ≤ 400) then ((nodes + sz : Nat) : Int) else 401
theorem iWs (x : Int) : impl_writtenSize_c1 x = some (gN 16 false x) := by
  unfold impl_writtenSize_c1
  rw [iIn, bs]
  congr 1
  unfold gN inB
  by_cases h1 : x ≥ 16 <;> by_cases h2 : x < -1 <;> simp [h1, h2] <;> omega
mutual
theorem iCheckW : ∀ (t : GTerm) (n nodes : Nat), tms t ≤ 1099511627776 → n + 2 * tms t ≤ 35184372088832 → nodes ≤ 400 → impl_check_Kimpl_writtenSize_c1_Kimpl_isWrittenType (t, (n : Int), (nodes : Int)) = some (chkI (tOk (gN 16 false) wtB n t) nodes (tsz t))
  | ⟨op, N, ty, ks⟩, n, nodes, ht, hn, hd => by
    rw [tms] at ht hn
    rw [impl_check_Kimpl_writtenSize_c1_Kimpl_isWrittenType.eq_def, tOk, tsz]
    simp only
    rw [iForm, bs]
    unfold formG
    cases hop : inB op 0 12
    · simp [nodeOk, hop, chkI]
    · simp only [if_true]
      rw [wr_succ (by omega)]
      by_cases h4 : nodes + 1 ≤ 400
      · rw [decide_eq_false (by omega : ¬ ((nodes + 1 : Nat) : Int) > 400)]
        by_cases hk : (ks.length : Int) = manyI op
        · rw [show ((ks.length : Int) != manyI op) = false by rw [hk]; exact bne_self]
          simp only [Bool.false_eq_true, if_false, bs]
          refine (bind_of (x := nOkN (gN 16 false) (n : Int) ⟨op, N, ty, ks⟩) ?_).trans ?_
          · unfold nOkN
            simp only [iIn, wr_id (x := (n : Int) - 1) (by omega) (by omega), iWs, bs]
            cases op == 0 <;> cases op == 1 <;> cases hasG op <;> rfl
          refine (bind_of (x := nOkN (gN 16 false) (n : Int) ⟨op, N, ty, ks⟩ && nOkY wtB ⟨op, N, ty, ks⟩) ?_).trans ?_
          · unfold nOkY
            simp only [iType ty (by omega), bs]
            cases typedG op <;> cases nOkN (gN 16 false) (n : Int) ⟨op, N, ty, ks⟩ <;> rfl
          have e : nodeOk (gN 16 false) wtB (n : Int) ⟨op, N, ty, ks⟩ = (nOkN (gN 16 false) (n : Int) ⟨op, N, ty, ks⟩ && nOkY wtB ⟨op, N, ty, ks⟩) := by
            unfold nodeOk
            simp only
            rw [hop, hk]; simp
          rw [e]
          cases nOkN (gN 16 false) (n : Int) ⟨op, N, ty, ks⟩ && nOkY wtB ⟨op, N, ty, ks⟩
          · simp [chkI]
          · have h := iCheckW_l0 ks ⟨op, N, ty, ks⟩ n (nodes + 1) 0 rfl (by simp only; omega) (by omega) (by omega) h4
            rw [if_pos rfl, show (0 : Int) = ((0 : Nat) : Int) from rfl, h]
            simp only [Bool.true_and]
            unfold chkI
            rw [show nodes + (1 + tszs ks) = nodes + 1 + tszs ks by omega]
            cases tOks (gN 16 false) wtB op n 0 ks && decide (nodes + 1 + tszs ks ≤ 400) <;> rfl
        · rw [show ((ks.length : Int) != manyI op) = true by simpa using hk]
          have e : nodeOk (gN 16 false) wtB (n : Int) ⟨op, N, ty, ks⟩ = false := by
            unfold nodeOk
            simp only
            rw [show ((ks.length : Int) == manyI op) = false by simpa using hk]; simp
          simp [e, chkI]
      · rw [decide_eq_true (by omega : ((nodes + 1 : Nat) : Int) > 400)]
        have : ¬ nodes + (1 + tszs ks) ≤ 400 := by omega
        simp [chkI, this]
theorem iCheckW_l0 : ∀ (ks : List GTerm) (t : GTerm) (n nodes i : Nat), t.fKids.drop i = ks → t.fKids.length ≤ 1099511627776 → tmss ks ≤ 1099511627776 → n + 2 * (ks.length + tmss ks) ≤ 35184372088832 → nodes ≤ 400 →
    impl_check_Kimpl_writtenSize_c1_Kimpl_isWrittenType_l0 (t, (n : Int), (nodes : Int), (i : Int)) = some (if tOks (gN 16 false) wtB t.fOp n i ks && decide (nodes + tszs ks ≤ 400) then .inl ((nodes + tszs ks : Nat) : Int) else .inr 401)
  | [], t, n, nodes, i, hd, hk, ht, hn, h4 => by
    rw [impl_check_Kimpl_writtenSize_c1_Kimpl_isWrittenType_l0.eq_def, tOks, tszs]
    simp only
    rw [lt_f (drop_nil_le hd)]
    simp [h4]
  | k :: ks, t, n, nodes, i, hd, hk, ht, hn, h4 => by
    obtain ⟨hi, hx, hd'⟩ := drop_cons_get hd
    rw [tmss] at ht hn
    rw [List.length_cons] at hn
    have ha := addsI_le t.fOp (i : Int)
    rw [impl_check_Kimpl_writtenSize_c1_Kimpl_isWrittenType_l0.eq_def, tOks, tszs]
    simp only
    rw [lt_t hi, if_pos rfl, hx, bs, iAdds, bs, wr_id (by omega) (by omega), show (n : Int) + ((addsI t.fOp (i : Int) : Nat) : Int) = ((n + addsI t.fOp (i : Int) : Nat) : Int) by omega]
    rw [iCheckW k (n + addsI t.fOp (i : Int)) nodes (by omega) (by omega) h4, bs, wr_succ (by omega)]
    unfold chkI
    cases tOk (gN 16 false) wtB (n + addsI t.fOp (i : Int)) k
    · rfl
    · by_cases q : nodes + tsz k ≤ 400
      · rw [decide_eq_true q, Bool.true_and, if_pos rfl, decide_eq_false (by omega : ¬ ((nodes + tsz k : Nat) : Int) > 400), if_neg (by decide), iCheckW_l0 ks t n (nodes + tsz k) (i + 1) hd' hk (by omega) (by omega) q, Nat.add_assoc, Bool.true_and]
      · rw [decide_eq_false q, decide_eq_false (by omega : ¬ nodes + (tsz k + tszs ks) ≤ 400)]
        simp
end
theorem yN16 (ty : List Int) : yN 16 false ty = wtB ty := by
  unfold yN
  have : ty.all (gokC 16 false) = true := by rw [List.all_eq_true]; intro x _; exact gok16 x
  rw [this, Bool.and_true]
/-- A written term. -/
def wB (t : GTerm) : Bool := tOk (gN 16 false) wtB 8 t && decide (tsz t ≤ 400)
theorem iWsize (t : GTerm) (ht : tms t ≤ 1099511627776) : impl_writtenSize t = some (chkI (tOk (gN 16 false) wtB 8 t) 0 (tsz t)) := by
  unfold impl_writtenSize
  have := iCheckW t 8 0 ht (by omega) (by omega)
  rw [show ((8 : Nat) : Int) = 8 from rfl, show ((0 : Nat) : Int) = 0 from rfl] at this
  rw [this, bs]
theorem iWritten (t : GTerm) (ht : tms t ≤ 1099511627776) : impl_IsWritten t = some (wB t) := by
  unfold impl_IsWritten
  rw [iWsize t ht, bs]
  unfold chkI wB
  rw [Nat.zero_add]
  congr 1
  cases h : tOk (gN 16 false) wtB 8 t && decide (tsz t ≤ 400)
  · rfl
  · simp only [Bool.and_eq_true, decide_eq_true_eq] at h
    rw [if_pos rfl, decide_eq_true (by omega)]
theorem sWritten (t : GTerm) (ht : tms t ≤ 1099511627776) : spec_IsWritten t = some (wB t) := by
  unfold spec_IsWritten wB
  have h1 := sLeft t 400 ht (by omega)
  have h2 := sTerm 16 false t 8 ht (by omega)
  rw [show ((400 : Nat) : Int) = 400 from rfl] at h1
  rw [show ((8 : Nat) : Int) = 8 from rfl, show yN 16 false = wtB from funext yN16] at h2
  rw [h1, bs, h2]
  unfold leftI
  by_cases q : tsz t ≤ 400
  · rw [if_pos q, decide_eq_true (by omega : (((400 - tsz t : Nat)) : Int) ≥ 0), decide_eq_true q, Bool.and_true]; rfl
  · rw [if_neg q, decide_eq_false q, Bool.and_false]; rfl
/-- What is left of a measure. -/
def szB (left : Int) (n : Nat) : Int := if left - (n : Int) < 0 then -1 else left - (n : Int)
theorem szB_cases (left : Int) (n : Nat) : (szB left n = -1 ∧ left < n) ∨ (szB left n = left - n ∧ (n : Int) ≤ left) := by
  unfold szB
  by_cases h : left - (n : Int) < 0
  · rw [if_pos h]; left; omega
  · rw [if_neg h]; right; omega
theorem szIntS_eq (a : List Int) (left : Int) (h1 : 0 ≤ left) (h2 : left ≤ 1048576) (ha : a.length ≤ 9223372036854775807) : laws_szIntS (a, left) = some (szB left a.length) := by
  unfold laws_szIntS szB
  simp only
  rw [wr_id (by omega) (by omega)]
  by_cases h : left - (a.length : Int) < 0
  · rw [decide_eq_true h, if_pos rfl, if_pos h]
  · rw [decide_eq_false h, if_neg (by decide), if_neg h]
mutual
/-- All rows are of a length that a machine can bear. -/
def tln : GTerm → Prop
  | ⟨_, N, ty, ks⟩ => ty.length ≤ 9223372036854775807 ∧ ks.length ≤ 9223372036854775807 ∧ tlns ks ∧ (-9223372036854775808 ≤ N ∧ N ≤ 9223372036854775807)
def tlns : List GTerm → Prop
  | [] => True
  | k :: ks => tln k ∧ tlns ks
end
mutual
theorem szTerm_eq : ∀ (t : GTerm) (left : Int), tln t → 0 ≤ left → left ≤ 1048576 → laws_szTerm (t, left) = some (szB left (tms t))
  | ⟨op, N, ty, ks⟩, left, hl, h1, h2 => by
    rw [tln] at hl
    rw [laws_szTerm.eq_def, tms]
    simp only
    rw [szIntS_eq ty left h1 h2 hl.1, bs]
    rcases szB_cases left ty.length with ⟨e, h⟩ | ⟨e, h⟩
    · rw [e, decide_eq_true (by decide), if_pos rfl]
      unfold szB; rw [if_pos (by omega)]
    · rw [e, decide_eq_false (by omega), if_neg (by decide), laws_szTermS.eq_def]
      simp only
      rw [wr_id (by omega) (by omega)]
      by_cases h3 : left - (ty.length : Int) - (ks.length : Int) < 0
      · rw [decide_eq_true h3, if_pos rfl, bs, decide_eq_true (by decide), if_pos rfl]
        unfold szB; rw [if_pos (by omega)]
      · obtain ⟨m, hm⟩ : ∃ m : Nat, left - (ty.length : Int) - (ks.length : Int) = (m : Int) := ⟨(left - (ty.length : Int) - (ks.length : Int)).toNat, by omega⟩
        rw [decide_eq_false h3, if_neg (by decide), hm, show (0 : Int) = ((0 : Nat) : Int) from rfl, szTermS_l0 ks ks 0 m rfl hl.2.1 hl.2.2.1 (by omega), bs]
        unfold szB
        by_cases q : m < tmss ks
        · rw [if_pos q, if_pos (by omega)]; rfl
        · rw [if_neg q, if_neg (by omega)]
          simp only [bs]
          rw [decide_eq_false (by omega), if_neg (by decide)]; congr 1; omega
theorem szTermS_l0 : ∀ (ks a : List GTerm) (i left : Nat), a.drop i = ks → a.length ≤ 9223372036854775807 → tlns ks → left ≤ 1048576 → laws_szTermS_l0 (a, (left : Int), (i : Int)) = some (if left < tmss ks then .inr (-1) else .inl ((left - tmss ks : Nat) : Int))
  | [], a, i, left, hd, ha, hl, h => by
    rw [laws_szTermS_l0.eq_def, tmss]
    simp only
    rw [lt_f (drop_nil_le hd)]
    simp
  | k :: ks, a, i, left, hd, ha, hl, h => by
    obtain ⟨hi, hx, hd'⟩ := drop_cons_get hd
    rw [tlns] at hl
    rw [laws_szTermS_l0.eq_def, tmss]
    simp only
    rw [lt_t hi, if_pos rfl, hx, bs, szTerm_eq k left hl.1 (by omega) (by omega), bs, wr_succ (by omega)]
    rcases szB_cases left (tms k) with ⟨e, q⟩ | ⟨e, q⟩
    · rw [e, decide_eq_true (by decide), if_pos rfl, if_pos (by omega)]
    · rw [e, decide_eq_false (by omega), if_neg (by decide), show (left : Int) - ((tms k : Nat) : Int) = ((left - tms k : Nat) : Int) by omega, szTermS_l0 ks a (i + 1) (left - tms k) hd' ha hl.2 (by omega)]
      by_cases q2 : left - tms k < tmss ks
      · rw [if_pos q2, if_pos (by omega)]
      · rw [if_neg q2, if_neg (by omega)]; congr 3; omega
end
mutual
theorem toTerm_id : ∀ (t : GTerm), tms t ≤ 1099511627776 → laws_toTerm t = some t
  | ⟨op, N, ty, ks⟩, h => by
    rw [tms] at h
    rw [laws_toTerm.eq_def]
    simp only
    rw [toIntS_id ty (by omega), bs, laws_toTermS.eq_def]
    have : chk (0 ≤ (ks.length : Int) ∧ (Int.toNat (ks.length : Int)) * 64 ≤ 140737488355328) = some () := by
      unfold chk; rw [if_pos]; refine ⟨by omega, ?_⟩; rw [Int.toNat_natCast]; omega
    rw [this, bs, Int.toNat_natCast, show (0 : Int) = ((0 : Nat) : Int) from rfl, toTermS_l0 ks ks (List.replicate ks.length (GTerm.mk ((0 : Nat) : Int) ((0 : Nat) : Int) [] [])) 0 rfl (by omega) (by omega) (by simp) rfl]
    rfl
theorem toTermS_l0 : ∀ (ks a out : List GTerm) (i : Nat), a.drop i = ks → a.length ≤ 1099511627776 → tmss ks ≤ 1099511627776 → out.length = a.length → out.take i = a.take i → laws_toTermS_l0 (a, out, (i : Int)) = some a
  | [], a, out, i, hd, ha, hl, ho, ht => by
    rw [laws_toTermS_l0.eq_def]
    simp only
    have hle := drop_nil_le hd
    rw [lt_f hle]
    rw [List.take_of_length_le (by omega), List.take_of_length_le (by omega)] at ht
    simp [ht]
  | k :: ks, a, out, i, hd, ha, hl, ho, ht => by
    obtain ⟨hi, hx, hd'⟩ := drop_cons_get hd
    have hk : a[i] = k := by rw [idx_get hi] at hx; exact Option.some.inj hx
    rw [tmss] at hl
    rw [laws_toTermS_l0.eq_def]
    simp only
    rw [lt_t hi, if_pos rfl, hx, bs, toTerm_id k (by omega), bs, idx_get (by omega), bs, wr_succ (by omega), Int.toNat_natCast]
    exact toTermS_l0 ks a _ (i + 1) hd' ha (by omega) (by simpa using ho) (by rw [← hk]; exact take_set_succ ho hi ht)
end
mutual
theorem eqTerm_refl : ∀ (t : GTerm), tms t ≤ 1099511627776 → laws_eqTerm (t, t) = some true
  | ⟨op, N, ty, ks⟩, h => by
    rw [tms] at h
    rw [laws_eqTerm.eq_def]
    simp only
    rw [bne_self, if_neg (by decide), bne_self, if_neg (by decide), eqIntS_refl ty (by omega), bs, if_pos rfl, laws_eqTermS.eq_def]
    simp only
    rw [bne_self, if_neg (by decide), show (0 : Int) = ((0 : Nat) : Int) from rfl, eqTermS_l0 ks ks 0 rfl (by omega) (by omega)]
    rfl
theorem eqTermS_l0 : ∀ (ks a : List GTerm) (i : Nat), a.drop i = ks → a.length ≤ 1099511627776 → tmss ks ≤ 1099511627776 → laws_eqTermS_l0 (a, a, (i : Int)) = some (.inl ())
  | [], a, i, hd, ha, hl => by
    rw [laws_eqTermS_l0.eq_def]
    simp only
    rw [lt_f (drop_nil_le hd)]
    rfl
  | k :: ks, a, i, hd, ha, hl => by
    obtain ⟨hi, hx, hd'⟩ := drop_cons_get hd
    rw [tmss] at hl
    rw [laws_eqTermS_l0.eq_def]
    simp only
    rw [lt_t hi, if_pos rfl, hx, bs, bs, eqTerm_refl k (by omega), bs, if_pos rfl, wr_succ (by omega)]
    exact eqTermS_l0 ks a (i + 1) hd' ha (by omega)
end
theorem tOk_node {g : Int → Bool} {y : List Int → Bool} {n : Nat} {t : GTerm} (h : tOk g y n t = true) : nodeOk g y (n : Int) t = true ∧ tOks g y t.fOp n 0 t.fKids = true := by
  rw [tOk_eq, Bool.and_eq_true] at h; exact h
theorem fits_ok {n b : Nat} (h : n * b ≤ 140737488355328) : fits n b = some () := by unfold fits chk; rw [if_pos h]
theorem sCopy (l : List Int) (h : l.length ≤ 1099511627776) : spec_l1Copy l = some l := by
  unfold spec_l1Copy
  rw [fits_ok (by simp only [List.length_nil]; omega), bs]
theorem iCopy (l : List Int) (h : l.length ≤ 1099511627776) : slices_Clone_int l = some l := by
  unfold slices_Clone_int
  rw [fits_ok (by simp only [List.length_nil]; omega), bs]
inductive Ty where
  | num
  | bin (c : Int) (a b : Ty)
  | un (c : Int) (a : Ty)
namespace Ty
def code : Ty → List Int
  | num => [0]
  | bin c a b => c :: (a.code ++ b.code)
  | un c a => c :: a.code
def ok : Ty → Prop
  | num => True
  | bin c a b => kidsC c = 2 ∧ a.ok ∧ b.ok
  | un c a => kidsC c = 1 ∧ a.ok
def hd : Ty → Int
  | num => 0
  | bin c _ _ => c
  | un c _ => c
end Ty
theorem cut_end {α : Type} (p q : List α) : cut (p ++ q) (some (p.length : Int)) none none = some q := by
  unfold cut
  rw [if_pos]
  · simp only [Option.getD_some, Option.getD_none, Int.toNat_natCast, List.take_length, List.drop_left]
  · simp only [Option.getD_some, Option.getD_none, List.length_append]; omega
theorem idx0 {α : Type} (x : α) (l : List α) : idx (x :: l) 0 = some x := rfl
theorem tmss_mem {l : List GTerm} {t : GTerm} (h : t ∈ l) : tms t + l.length ≤ tmss l + l.length := by
  induction l with
  | nil => cases h
  | cons x l ih =>
    rw [tmss]
    rcases List.mem_cons.1 h with rfl | h
    · omega
    · have := ih h; omega
theorem tszs_mem {l : List GTerm} {t : GTerm} (h : t ∈ l) : tsz t ≤ tszs l := by
  induction l with
  | nil => cases h
  | cons x l ih =>
    rw [tszs]
    rcases List.mem_cons.1 h with rfl | h
    · omega
    · have := ih h; omega
theorem tms_kid {t k : GTerm} (h : k ∈ t.fKids) : tms k + 1 ≤ tms t := by
  rw [tms_eq t]
  have := tmss_mem h
  have : 1 ≤ t.fKids.length := List.length_pos_of_mem h
  omega
theorem tsz_kid {t k : GTerm} (h : k ∈ t.fKids) : tsz k + 1 ≤ tsz t := by
  rw [tsz_eq t]
  have := tszs_mem h
  omega
mutual
theorem iCopyT : ∀ (t : GTerm), tms t ≤ 1099511627776 → impl_copyTerm t = some t
  | ⟨op, N, ty, ks⟩, h => by
    rw [tms] at h
    rw [impl_copyTerm.eq_def]
    simp only
    rw [iCopy ty (by omega), bs, show (0 : Int) = ((0 : Nat) : Int) from rfl, iCopyT_l0 ks ⟨op, N, ty, ks⟩ 0 ty [] rfl (by simp only; omega) (by omega) (by simp), bs]
    rfl
theorem iCopyT_l0 : ∀ (ks : List GTerm) (t : GTerm) (i : Nat) (r : List Int) (out : List GTerm), t.fKids.drop i = ks → t.fKids.length ≤ 1099511627776 → tmss ks ≤ 1099511627776 → out.length = i → impl_copyTerm_l0 (t, r, out, (i : Int)) = some (out ++ ks)
  | [], t, i, r, out, hd, hk, hm, ho => by
    rw [impl_copyTerm_l0.eq_def]
    simp only
    rw [lt_f (drop_nil_le hd), List.append_nil]; rfl
  | k :: ks, t, i, r, out, hd, hk, hm, ho => by
    obtain ⟨hi, hx, hd'⟩ := drop_cons_get hd
    rw [tmss] at hm
    rw [impl_copyTerm_l0.eq_def]
    simp only
    rw [lt_t hi, if_pos rfl, hx, bs, iCopyT k (by omega), bs, fits_ok (by simp only [List.length_singleton]; omega), bs, wr_succ (by omega), iCopyT_l0 ks t (i + 1) r _ hd' hk (by omega) (by simp [ho]), List.append_assoc]
    rfl
end
mutual
/-- All variables are of numbers within bounds. -/
def tNb (hi : Int) : GTerm → Prop
  | ⟨op, N, _, ks⟩ => (op = 0 → -9223372036854775808 ≤ N ∧ N ≤ hi) ∧ tNbs hi ks
def tNbs (hi : Int) : List GTerm → Prop
  | [] => True
  | k :: ks => tNb hi k ∧ tNbs hi ks
end
mutual
def shf (by_ : Int) : Int → GTerm → GTerm
  | from_, ⟨op, N, ty, ks⟩ => ⟨op, if op == 0 && decide (N ≥ from_) then N + by_ else N, ty, shfs by_ op from_ 0 ks⟩
def shfs (by_ : Int) : Int → Int → Nat → List GTerm → List GTerm
  | _, _, _, [] => []
  | op, from_, i, k :: ks => shf by_ (from_ + ((addsI op (i : Int) : Nat) : Int)) k :: shfs by_ op from_ (i + 1) ks
end
mutual
theorem shf_zero : ∀ (t : GTerm) (fr : Int), shf 0 fr t = t
  | ⟨op, N, ty, ks⟩, fr => by
    rw [shf, shfs_zero ks]
    simp
theorem shfs_zero : ∀ (ks : List GTerm) (op fr : Int) (i : Nat), shfs 0 op fr i ks = ks
  | [], op, fr, i => by rw [shfs]
  | k :: ks, op, fr, i => by rw [shfs, shf_zero k, shfs_zero ks]
end
mutual
theorem sShift (b hi : Int) (hb : 0 ≤ b) (hh : hi + b ≤ 9223372036854775807) : ∀ (t : GTerm) (fr : Int), tNb hi t → tms t ≤ 1099511627776 → -35184372088832 ≤ fr → fr + 2 * tms t ≤ 35184372088832 → spec_l2Shift (t, b, fr) = some (shf b fr t)
  | ⟨op, N, ty, ks⟩, fr, hn, hm, h1, h2 => by
    rw [tms] at hm h2
    rw [tNb] at hn
    rw [spec_l2Shift.eq_def, shf]
    simp only
    rw [sCopy ty (by omega), bs]
    refine (bind_of (x := op == 0 && decide (N ≥ fr)) ?_).trans ?_
    · cases op == 0 <;> rfl
    refine (bind_of (x := if op == 0 && decide (N ≥ fr) then N + b else N) ?_).trans ?_
    · cases h : op == 0 && decide (N ≥ fr)
      · rfl
      · rw [Bool.and_eq_true] at h
        have := hn.1 (eq_of_beq h.1)
        rw [if_pos rfl, wr_id (by omega) (by omega)]; rfl
    rw [show (0 : Int) = ((0 : Nat) : Int) from rfl, sShift_l0 b hi hb hh ks ⟨op, N, ty, ks⟩ fr 0 ty _ [] rfl (by simp only; omega) hn.2 (by omega) h1 (by omega) (by simp), bs]
    rfl
theorem sShift_l0 (b hi : Int) (hb : 0 ≤ b) (hh : hi + b ≤ 9223372036854775807) : ∀ (ks : List GTerm) (t : GTerm) (fr : Int) (i : Nat) (r : List Int) (o : Int) (out : List GTerm), t.fKids.drop i = ks → t.fKids.length ≤ 1099511627776 → tNbs hi ks → tmss ks ≤ 1099511627776 → -35184372088832 ≤ fr →
    fr + 2 * (ks.length + tmss ks) ≤ 35184372088832 → out.length = i → spec_l2Shift_l0 (t, b, fr, r, o, out, (i : Int)) = some (out ++ shfs b t.fOp fr i ks)
  | [], t, fr, i, r, o, out, hd, hk, hn, hm, h1, h2, ho => by
    rw [spec_l2Shift_l0.eq_def, shfs]
    simp only
    rw [lt_f (drop_nil_le hd), List.append_nil]; rfl
  | k :: ks, t, fr, i, r, o, out, hd, hk, hn, hm, h1, h2, ho => by
    obtain ⟨hi', hx, hd'⟩ := drop_cons_get hd
    rw [tmss] at hm h2
    rw [List.length_cons] at h2
    rw [tNbs] at hn
    have ha := addsI_le t.fOp (i : Int)
    rw [spec_l2Shift_l0.eq_def, shfs]
    simp only
    rw [lt_t hi', if_pos rfl, hx, bs, sAdds, bs, wr_id (by omega) (by omega), sShift b hi hb hh k _ hn.1 (by omega) (by omega) (by omega), bs, fits_ok (by simp only [List.length_singleton]; omega), bs, wr_succ (by omega)]
    rw [sShift_l0 b hi hb hh ks t fr (i + 1) r o _ hd' hk hn.2 (by omega) h1 (by omega) (by simp [ho]), List.append_assoc]
    rfl
end
mutual
theorem tNb_mono {a b : Int} (h : a ≤ b) : ∀ (t : GTerm), tNb a t → tNb b t
  | ⟨op, N, ty, ks⟩, hn => by
    rw [tNb] at hn ⊢
    exact ⟨fun e => by have := hn.1 e; omega, tNbs_mono h ks hn.2⟩
theorem tNbs_mono {a b : Int} (h : a ≤ b) : ∀ (ks : List GTerm), tNbs a ks → tNbs b ks
  | [], _ => by rw [tNbs]; trivial
  | k :: ks, hn => by rw [tNbs] at hn ⊢; exact ⟨tNb_mono h k hn.1, tNbs_mono h ks hn.2⟩
end
mutual
/-- Variables of a term with so many variables. -/
theorem tOk_Nb (g : Int → Bool) (y : List Int → Bool) : ∀ (t : GTerm) (n : Nat), tOk g y n t = true → tNb ((n : Int) + 2 * tsz t) t
  | ⟨op, N, ty, ks⟩, n, h => by
    obtain ⟨h1, h2⟩ := tOk_node h
    rw [tNb]
    refine ⟨fun e => ?_, ?_⟩
    · subst e
      unfold nodeOk nOkN at h1
      simp only [Bool.and_eq_true] at h1
      have h3 := h1.1.2
      rw [show ((0 : Int) == 0) = true from rfl, if_pos rfl] at h3
      unfold inB at h3
      simp only [Bool.and_eq_true, decide_eq_true_eq] at h3
      omega
    · rw [tsz]
      exact tNbs_mono (by omega) ks (tOks_Nb g y ks op n 0 h2)
theorem tOks_Nb (g : Int → Bool) (y : List Int → Bool) : ∀ (ks : List GTerm) (op : Int) (n i : Nat), tOks g y op n i ks = true → tNbs ((n : Int) + 2 * tszs ks + 2) ks
  | [], op, n, i, h => by rw [tNbs]; trivial
  | k :: ks, op, n, i, h => by
    rw [tOks, Bool.and_eq_true] at h
    have ha := addsI_le op (i : Int)
    rw [tNbs, tszs]
    exact ⟨tNb_mono (by omega) k (tOk_Nb g y k _ h.1), tNbs_mono (by omega) ks (tOks_Nb g y ks op n (i + 1) h.2)⟩
end
theorem wB_of {t : GTerm} (h : wB t = true) : tOk (gN 16 false) wtB 8 t = true ∧ tsz t ≤ 400 := by
  unfold wB at h
  rw [Bool.and_eq_true, decide_eq_true_eq] at h
  exact h
theorem wB_Nb {t : GTerm} (h : wB t = true) : tNb 1048576 t := by
  obtain ⟨h1, h2⟩ := wB_of h
  exact tNb_mono (by omega) t (tOk_Nb _ _ t 8 h1)
theorem sShift0 {t : GTerm} (hn : tNb 9223372036854775807 t) (hm : tms t ≤ 1099511627776) : spec_l2Shift (t, 0, 0) = some t := by
  rw [sShift 0 9223372036854775807 (by omega) (by omega) t 0 hn hm (by omega) (by omega), shf_zero]
theorem tNbs_mem {hi : Int} {l : List GTerm} (h : tNbs hi l) : ∀ t ∈ l, tNb hi t := by
  induction l with
  | nil => intro t ht; cases ht
  | cons x l ih =>
    rw [tNbs] at h
    intro t ht
    rcases List.mem_cons.1 ht with rfl | ht
    · exact h.1
    · exact ih h.2 t ht
theorem tNb_kids {hi : Int} {t : GTerm} (h : tNb hi t) : tNbs hi t.fKids := by cases t; rw [tNb] at h; exact h.2
mutual
theorem tln_Nb : ∀ (t : GTerm), tln t → tNb 9223372036854775807 t
  | ⟨op, N, ty, ks⟩, h => by rw [tln] at h; rw [tNb]; exact ⟨fun _ => h.2.2.2, tlns_Nb ks h.2.2.1⟩
theorem tlns_Nb : ∀ (ks : List GTerm), tlns ks → tNbs 9223372036854775807 ks
  | [], h => by rw [tNbs]; trivial
  | k :: ks, h => by rw [tlns] at h; rw [tNbs]; exact ⟨tln_Nb k h.1, tlns_Nb ks h.2⟩
end
theorem markI_l0 : ∀ (l a : List Int) (i k : Nat), a.drop i = l → a.length ≤ 1099511627776 → k + l.length ≤ 1152921504606846976 + 1099511627776 →
    ∃ M, laws_markIntS_l0 (a, (k : Int), (i : Int)) = some (((k + l.length : Nat) : Int), M) ∧ M.length = a.length ∧ M.take i = a.take i ∧ M.drop i = (List.range' k l.length).map (fun n : Nat => (n : Int)) := by
  intro l
  induction l with
  | nil =>
    intro a i k hd ha hk
    rw [laws_markIntS_l0.eq_def]
    simp only
    rw [lt_f (drop_nil_le hd)]
    exact ⟨a, by simp, rfl, rfl, by rw [hd]; rfl⟩
  | cons x l ih =>
    intro a i k hd ha hk
    obtain ⟨hi, hx, hd'⟩ := drop_cons_get hd
    have hl : (x :: l).length ≤ 1099511627776 := by rw [← hd, List.length_drop]; omega
    rw [List.length_cons] at hl hk
    rw [laws_markIntS_l0.eq_def]
    simp only
    rw [lt_t hi, if_pos rfl, hx, bs, Int.toNat_natCast, wr_succ (by omega), wr_succ (by omega)]
    obtain ⟨M, h1, h2, h3, h4⟩ := ih (a.set i (k : Int)) (i + 1) (k + 1) (by rw [List.drop_set_of_lt (by omega)]; exact hd') (by simpa using ha) (by omega)
    have hMl : i < M.length := by rw [h2, List.length_set]; exact hi
    have hMi : M[i] = (k : Int) := by
      have := congrArg (fun l => l[i]?) h3
      simp only [List.getElem?_take] at this
      rw [if_pos (by omega), if_pos (by omega), List.getElem?_eq_getElem hMl, List.getElem?_set_self hi] at this
      exact Option.some.inj this
    refine ⟨M, by rw [h1, List.length_cons]; congr 3; omega, by simpa using h2, ?_, ?_⟩
    · have := congrArg (List.take i) h3
      rw [List.take_take, List.take_take, Nat.min_eq_left (by omega), List.take_set_of_le (Nat.le_refl i)] at this
      exact this
    · rw [List.drop_eq_getElem_cons hMl, h4, hMi, List.length_cons, List.range'_succ, List.map_cons]
theorem markI (a : List Int) (k : Nat) (ha : a.length ≤ 1099511627776) (hk : k ≤ 1152921504606846976) :
    laws_markIntS (a, (k : Int)) = some (((k + a.length : Nat) : Int), (List.range' k a.length).map (fun n : Nat => (n : Int))) := by
  unfold laws_markIntS
  simp only
  obtain ⟨M, h1, h2, h3, h4⟩ := markI_l0 a a 0 k rfl ha (by omega)
  rw [List.drop_zero] at h4
  rw [show (0 : Int) = ((0 : Nat) : Int) from rfl, h1, bs, h4]
theorem heldI_l0 (m : Nat) : ∀ (n k i : Nat) (a : List Int), a.length ≤ 1099511627776 → a.drop i = (List.range' k n).map (fun n : Nat => (n : Int)) → k + n ≤ 1152921504606846976 + 1099511627776 → laws_heldIntS_l0 (a, (k : Int), (i : Int)) = some (.inl ((k + n : Nat) : Int)) := by
  intro n
  induction n with
  | zero =>
    intro k i a ha hd hk
    rw [laws_heldIntS_l0.eq_def]
    simp only
    rw [lt_f (drop_nil_le hd)]; rfl
  | succ n ih =>
    intro k i a ha hd hk
    rw [List.range'_succ, List.map_cons] at hd
    obtain ⟨hi, hx, hd'⟩ := drop_cons_get hd
    rw [laws_heldIntS_l0.eq_def]
    simp only
    rw [lt_t hi, if_pos rfl, hx, bs, bne_self, if_neg (by decide), wr_succ (by omega), wr_succ (by omega), ih (k + 1) (i + 1) a ha hd' (by omega)]
    congr 3; omega
theorem heldI (n k : Nat) (hn : n ≤ 1099511627776) (hk : k ≤ 1152921504606846976) : laws_heldIntS ((List.range' k n).map (fun n : Nat => (n : Int)), (k : Int)) = some ((k + n : Nat) : Int) := by
  unfold laws_heldIntS
  simp only
  rw [show (0 : Int) = ((0 : Nat) : Int) from rfl, heldI_l0 0 n k 0 _ (by simpa using hn) (by rw [List.drop_zero]) (by omega), bs]
mutual
/-- How many numbers a mark lays into what a term leads to. -/
def mct : GTerm → Nat
  | ⟨_, _, ty, ks⟩ => ty.length + mcts ks
def mcts : List GTerm → Nat
  | [] => 0
  | k :: ks => 2 + mct k + mcts ks
end
mutual
theorem mct_le : ∀ (t : GTerm), mct t ≤ 2 * tms t
  | ⟨op, N, ty, ks⟩ => by rw [mct, tms]; have := mcts_le ks; omega
theorem mcts_le : ∀ (ks : List GTerm), mcts ks ≤ 2 * (ks.length + tmss ks)
  | [] => by simp [mcts]
  | k :: ks => by rw [mcts, tmss, List.length_cons]; have := mct_le k; have := mcts_le ks; omega
end
theorem set_set_same {α : Type} (l : List α) (i : Nat) (a b : α) : (l.set i a).set i b = l.set i b := List.set_set ..
theorem idx_set {α : Type} {l : List α} {i : Nat} (h : i < l.length) (a : α) : idx (l.set i a) (i : Int) = some a := by
  rw [idx_get (by simpa using h)]; simp
mutual
theorem markT : ∀ (t : GTerm) (k : Nat), tms t ≤ 1099511627776 → k + mct t ≤ 1152921504606846976 → ∃ ty ks, laws_markIntS (t.fType, (k : Int)) = some (((k + t.fType.length : Nat) : Int), ty) ∧ laws_markTermS (t.fKids, ((k + t.fType.length : Nat) : Int)) = some (((k + mct t : Nat) : Int), ks) ∧
    laws_heldIntS (ty, (k : Int)) = some ((k + t.fType.length : Nat) : Int) ∧ laws_heldTermS (ks, ((k + t.fType.length : Nat) : Int)) = some ((k + mct t : Nat) : Int) ∧ ks.length = t.fKids.length
  | ⟨op, N, ty, ks⟩, k, hm, hk => by
    rw [tms] at hm
    rw [mct] at hk ⊢
    simp only
    refine ⟨(List.range' k ty.length).map (fun n : Nat => (n : Int)), ?_⟩
    obtain ⟨M, h1, h2, h3, h4⟩ := markTs ks ks 0 (k + ty.length) rfl (by omega) (by omega) (by omega)
    refine ⟨M, markI ty k (by omega) (by omega), ?_, heldI ty.length k (by omega) (by omega), ?_, h2⟩
    · rw [laws_markTermS.eq_def]
      simp only
      rw [show (0 : Int) = ((0 : Nat) : Int) from rfl, h1, bs, Nat.add_assoc]
    · rw [laws_heldTermS.eq_def]
      simp only
      rw [show (0 : Int) = ((0 : Nat) : Int) from rfl, h4 M h2 rfl, bs, Nat.add_assoc]
theorem markTs : ∀ (ks a : List GTerm) (i k : Nat), a.drop i = ks → a.length ≤ 1099511627776 → tmss ks ≤ 1099511627776 → k + mcts ks ≤ 1152921504606846976 →
    ∃ M, laws_markTermS_l0 (a, (k : Int), (i : Int)) = some (((k + mcts ks : Nat) : Int), M) ∧ M.length = a.length ∧ M.take i = a.take i ∧ ∀ A : List GTerm, A.length = a.length → A.drop i = M.drop i → laws_heldTermS_l0 (A, (k : Int), (i : Int)) = some (.inl ((k + mcts ks : Nat) : Int))
  | [], a, i, k, hd, ha, hm, hk => by
    rw [laws_markTermS_l0.eq_def, mcts]
    simp only
    rw [lt_f (drop_nil_le hd)]
    refine ⟨a, rfl, rfl, rfl, fun A hA _ => ?_⟩
    rw [laws_heldTermS_l0.eq_def]
    simp only
    have := drop_nil_le hd
    rw [lt_f (by omega)]; rfl
  | x :: ks, a, i, k, hd, ha, hm, hk => by
    obtain ⟨hi, hx, hd'⟩ := drop_cons_get hd
    rw [tmss] at hm
    rw [mcts] at hk ⊢
    rw [laws_markTermS_l0.eq_def]
    simp only
    rw [lt_t hi, if_pos rfl, hx, bs, wr_succ (n := k) (by omega), wr_succ (n := k + 1) (by omega), Int.toNat_natCast]
    obtain ⟨ty, kk, m1, m2, m3, m4, m5⟩ := markT x (k + 1 + 1) (by omega) (by omega)
    simp only [set_set_same, idx_set hi, bs, m1, m2]
    rw [wr_succ (by omega)]
    obtain ⟨M, h1, h2, h3, h4⟩ := markTs ks (a.set i ⟨(k : Int), ((k + 1 : Nat) : Int), ty, kk⟩) (i + 1) (k + 1 + 1 + mct x) (by rw [List.drop_set_of_lt (by omega)]; exact hd') (by simpa using ha) (by omega) (by omega)
    have hMl : i < M.length := by rw [h2, List.length_set]; exact hi
    have hMi : M[i] = ⟨(k : Int), ((k + 1 : Nat) : Int), ty, kk⟩ := by
      have := congrArg (fun l => l[i]?) h3
      simp only [List.getElem?_take] at this
      rw [if_pos (by omega), if_pos (by omega), List.getElem?_eq_getElem hMl, List.getElem?_set_self hi] at this
      exact Option.some.inj this
    refine ⟨M, by rw [h1]; congr 3; omega, by simpa using h2, ?_, fun A hA hAd => ?_⟩
    · have := congrArg (List.take i) h3
      rw [List.take_take, List.take_take, Nat.min_eq_left (by omega), List.take_set_of_le (Nat.le_refl i)] at this
      exact this
    · rw [List.drop_eq_getElem_cons hMl, hMi] at hAd
      obtain ⟨qi, qx, qd⟩ := drop_cons_get hAd
      rw [laws_heldTermS_l0.eq_def]
      simp only
      rw [lt_t qi, if_pos rfl, qx, bs, wr_succ (n := k) (by omega), wr_succ (n := k + 1) (by omega)]
      simp only
      rw [bne_self, if_neg (by decide), bs]
      simp only
      rw [bne_self, if_neg (by decide), bs]
      simp only
      rw [m3, bs, decide_eq_false (by omega), if_neg (by decide), bs]
      simp only
      rw [m4, bs, decide_eq_false (by omega), if_neg (by decide), wr_succ (by omega), h4 A (by simpa using hA) qd]
      congr 3; omega
end
theorem markTerm_held (t : GTerm) (k : Nat) (hm : tms t ≤ 1099511627776) (hk : k ≤ 1000000000000000000) : ∃ M, laws_markTerm (t, (k : Int)) = some (((k + mct t : Nat) : Int), M) ∧ ∀ op N, laws_heldTerm (⟨op, N, M.fType, M.fKids⟩, (k : Int)) = some ((k + mct t : Nat) : Int) := by
  have hc := mct_le t
  obtain ⟨ty, ks, m1, m2, m3, m4, _⟩ := markT t k hm (by omega)
  unfold laws_markTerm
  simp only
  rw [m1, bs]
  simp only
  rw [m2, bs]
  refine ⟨_, rfl, fun op N => ?_⟩
  unfold laws_heldTerm
  simp only
  rw [m3, bs, decide_eq_false (by omega), if_neg (by decide), m4, bs, decide_eq_false (by omega), if_neg (by decide)]
mutual
theorem markT0 : ∀ (t : GTerm) (k : Nat), tms t ≤ 1099511627776 → k + mct t ≤ 1152921504606846976 → ∃ ks, laws_markTermS (t.fKids, ((k + t.fType.length : Nat) : Int)) = some (((k + mct t : Nat) : Int), ks)
  | ⟨op, N, ty, ks⟩, k, hm, hk => by
    rw [tms] at hm
    rw [mct] at hk ⊢
    simp only
    obtain ⟨M, h1⟩ := markTs0 ks ks 0 (k + ty.length) rfl (by omega) (by omega) (by omega)
    refine ⟨M, ?_⟩
    rw [laws_markTermS.eq_def]
    simp only
    rw [show (0 : Int) = ((0 : Nat) : Int) from rfl, h1, bs, Nat.add_assoc]
theorem markTs0 : ∀ (ks a : List GTerm) (i k : Nat), a.drop i = ks → a.length ≤ 1099511627776 → tmss ks ≤ 1099511627776 → k + mcts ks ≤ 1152921504606846976 →
    ∃ M, laws_markTermS_l0 (a, (k : Int), (i : Int)) = some (((k + mcts ks : Nat) : Int), M)
  | [], a, i, k, hd, ha, hm, hk => by
    rw [laws_markTermS_l0.eq_def, mcts]
    simp only
    rw [lt_f (drop_nil_le hd)]
    exact ⟨a, rfl⟩
  | x :: ks, a, i, k, hd, ha, hm, hk => by
    obtain ⟨hi, hx, hd'⟩ := drop_cons_get hd
    rw [tmss] at hm
    rw [mcts] at hk ⊢
    rw [laws_markTermS_l0.eq_def]
    simp only
    rw [lt_t hi, if_pos rfl, hx, bs, wr_succ (n := k) (by omega), wr_succ (n := k + 1) (by omega), Int.toNat_natCast]
    obtain ⟨kk, m2⟩ := markT0 x (k + 1 + 1) (by omega) (by omega)
    have m1 := markI x.fType (k + 1 + 1) (by have := tms_eq x; omega) (by omega)
    simp only [set_set_same, idx_set hi, bs, m1, m2]
    rw [wr_succ (by omega)]
    obtain ⟨M, h1⟩ := markTs0 ks (a.set i ⟨(k : Int), ((k + 1 : Nat) : Int), (List.range' (k + 1 + 1) x.fType.length).map (fun n : Nat => (n : Int)), kk⟩) (i + 1) (k + 1 + 1 + mct x) (by rw [List.drop_set_of_lt (by omega)]; exact hd') (by simpa using ha) (by omega) (by omega)
    exact ⟨M, by rw [h1]; congr 3; omega⟩
end
theorem markTerm_only (t : GTerm) (k : Nat) (hm : tms t ≤ 1099511627776) (hk : k ≤ 1000000000000000000) : ∃ M, laws_markTerm (t, (k : Int)) = some (((k + mct t : Nat) : Int), M) := by
  have hc := mct_le t
  obtain ⟨ks, m2⟩ := markT0 t k hm (by omega)
  unfold laws_markTerm
  simp only
  rw [markI t.fType k (by have := tms_eq t; omega) (by omega), bs]
  simp only
  rw [m2, bs]
  exact ⟨_, rfl⟩
def stepAt (t : GTerm) (i : Int) : Option GTerm := if inB i 0 ((t.fKids.length : Int) - 1) then t.fKids[i.toNat]? else none
def atP : GTerm → List Int → Option GTerm
  | t, [] => some t
  | t, i :: l => (stepAt t i).bind fun k => atP k l
theorem stepAt_mem {t k : GTerm} {i : Int} (h : stepAt t i = some k) : k ∈ t.fKids := by
  unfold stepAt at h
  split at h
  · exact List.mem_of_getElem? h
  · cases h
theorem atP_tms {l : List Int} : ∀ {t u : GTerm}, atP t l = some u → tms u ≤ tms t ∧ ∀ hi, tNb hi t → tNb hi u := by
  induction l with
  | nil => intro t u h; cases h; exact ⟨Nat.le_refl _, fun _ h => h⟩
  | cons i l ih =>
    intro t u h
    simp only [atP] at h
    cases hs : stepAt t i with
    | none => rw [hs] at h; cases h
    | some k =>
      rw [hs] at h
      obtain ⟨h1, h2⟩ := ih h
      have hk := stepAt_mem hs
      have := tms_kid hk
      exact ⟨by omega, fun hi hn => h2 hi (tNbs_mem (tNb_kids hn) k hk)⟩
def flOf (t : GTerm) : Int × Int × List Int × List GTerm := (t.fOp, t.fN, t.fType, t.fKids)
theorem idx_stepAt {t : GTerm} {i : Int} (h : inB i 0 ((t.fKids.length : Int) - 1) = true) : ∃ k, stepAt t i = some k ∧ idx t.fKids i = some k := by
  have h' := h
  unfold inB at h'
  simp only [Bool.and_eq_true, decide_eq_true_eq] at h'
  have hl : i.toNat < t.fKids.length := by omega
  refine ⟨t.fKids[i.toNat], ?_, ?_⟩
  · unfold stepAt; rw [if_pos h, List.getElem?_eq_getElem hl]
  · unfold idx; rw [if_pos h'.1, List.getElem?_eq_getElem hl]
theorem sAt_l0 (p : List Int) (hp : p.length ≤ 1099511627776) : ∀ (l : List Int) (i : Nat) (t : GTerm), p.drop i = l → tms t ≤ 1099511627776 → spec_TermAt_l0 (p, t.fOp, t.fN, t.fType, t.fKids, (i : Int)) = some (match atP t l with | some u => .inl (flOf u) | none => .inr (⟨0, 0, [], []⟩, false)) := by
  intro l
  induction l with
  | nil =>
    intro i t hd hm
    rw [spec_TermAt_l0.eq_def]
    simp only
    rw [lt_f (drop_nil_le hd)]; rfl
  | cons x l ih =>
    intro i t hd hm
    obtain ⟨hi, hx, hd'⟩ := drop_cons_get hd
    have hkl : t.fKids.length ≤ 1099511627776 := by have := tms_eq t; omega
    rw [spec_TermAt_l0.eq_def]
    simp only
    rw [lt_t hi, if_pos rfl, hx, bs, wr_id (x := (t.fKids.length : Int) - 1) (by omega) (by omega), sIn, bs]
    simp only [atP]
    cases hb : inB x 0 ((t.fKids.length : Int) - 1)
    · have : stepAt t x = none := by unfold stepAt; rw [hb]; rfl
      rw [this]; rfl
    · obtain ⟨k, h1, h2⟩ := idx_stepAt hb
      have := tms_kid (stepAt_mem h1)
      rw [if_pos rfl, bs, h2, bs, wr_succ (by omega), ih (i + 1) k hd' (by omega), h1]; rfl
theorem iAt_l0 (p : List Int) (hp : p.length ≤ 1099511627776) : ∀ (l : List Int) (i : Nat) (t : GTerm), p.drop i = l → tms t ≤ 1099511627776 → impl_at_l0 (p, t.fOp, t.fN, t.fType, t.fKids, (i : Int)) = some (match atP t l with | some u => .inl (flOf u) | none => .inr (⟨0, 0, [], []⟩, false)) := by
  intro l
  induction l with
  | nil =>
    intro i t hd hm
    rw [impl_at_l0.eq_def]
    simp only
    rw [lt_f (drop_nil_le hd)]; rfl
  | cons x l ih =>
    intro i t hd hm
    obtain ⟨hi, hx, hd'⟩ := drop_cons_get hd
    have hkl : t.fKids.length ≤ 1099511627776 := by have := tms_eq t; omega
    rw [impl_at_l0.eq_def]
    simp only
    rw [lt_t hi, if_pos rfl, hx, bs, wr_id (x := (t.fKids.length : Int) - 1) (by omega) (by omega), iIn, bs]
    simp only [atP]
    cases hb : inB x 0 ((t.fKids.length : Int) - 1)
    · have : stepAt t x = none := by unfold stepAt; rw [hb]; rfl
      rw [this]; rfl
    · obtain ⟨k, h1, h2⟩ := idx_stepAt hb
      have := tms_kid (stepAt_mem h1)
      rw [if_pos rfl, h2, bs, wr_succ (by omega), ih (i + 1) k hd' (by omega), h1]; rfl
theorem GTerm_eta (u : GTerm) : GTerm.mk u.fOp u.fN u.fType u.fKids = u := by cases u; rfl
def noT : GTerm := ⟨0, 0, [], []⟩
def okT (o : Option GTerm) : GTerm × Bool := match o with | some u => (u, true) | none => (noT, false)
theorem sTermAt (t : GTerm) (p : List Int) (ht : tms t ≤ 1099511627776) (hp : p.length ≤ 1099511627776) : spec_TermAt (t, p) = some (okT (if wB t then atP t p else none)) := by
  unfold spec_TermAt
  simp only
  rw [sWritten t ht, bs]
  cases hw : wB t
  · rfl
  · rw [if_pos rfl, show (0 : Int) = ((0 : Nat) : Int) from rfl, sAt_l0 p hp p 0 t rfl ht, bs]
    cases h : atP t p with
    | none => simp [okT, noT, h]
    | some u =>
      obtain ⟨h1, h2⟩ := atP_tms h
      have := sShift0 (tNb_mono (by omega) u (h2 _ (wB_Nb hw))) (by omega)
      simp only [flOf, if_true, h]
      rw [GTerm_eta, show ((0 : Nat) : Int) = 0 from rfl, this, bs]; rfl
theorem iAt (t : GTerm) (p : List Int) (ht : tms t ≤ 1099511627776) (hp : p.length ≤ 1099511627776) : impl_at (t, p) = some (okT (atP t p)) := by
  unfold impl_at
  simp only
  rw [show (0 : Int) = ((0 : Nat) : Int) from rfl, iAt_l0 p hp p 0 t rfl ht, bs]
  cases h : atP t p with
  | none => rfl
  | some u => cases u; rfl
theorem beq_self_b (b : Bool) : (!(b == b)) = false := by cases b <;> rfl
def kidD (t : GTerm) (i : Int) : GTerm := t.fKids.getD i.toNat noT
def setP : List Int → GTerm → GTerm → GTerm
  | [], _, u => u
  | i :: l, t, u => ⟨t.fOp, t.fN, t.fType, t.fKids.set i.toNat (setP l (kidD t i) u)⟩
theorem atP_cons {t u : GTerm} {i : Int} {l : List Int} (h : atP t (i :: l) = some u) : ∃ k, inB i 0 ((t.fKids.length : Int) - 1) = true ∧ i.toNat < t.fKids.length ∧ idx t.fKids i = some k ∧ kidD t i = k ∧ k ∈ t.fKids ∧ atP k l = some u := by
  simp only [atP] at h
  cases hs : stepAt t i with
  | none => rw [hs] at h; cases h
  | some k =>
    rw [hs] at h
    have hm := stepAt_mem hs
    unfold stepAt at hs
    cases hb : inB i 0 ((t.fKids.length : Int) - 1)
    · rw [hb] at hs; cases hs
    · rw [hb, if_pos rfl] at hs
      have h' := hb
      unfold inB at h'
      simp only [Bool.and_eq_true, decide_eq_true_eq] at h'
      refine ⟨k, rfl, by omega, ?_, ?_, hm, h⟩
      · unfold idx; rw [if_pos (by omega)]; exact hs
      · unfold kidD; rw [List.getD_eq_getElem?_getD, hs]; rfl
theorem tmss_set {l : List GTerm} {i : Nat} (hi : i < l.length) (u : GTerm) : tmss (l.set i u) + tms l[i] = tmss l + tms u := by
  induction l generalizing i with
  | nil => simp at hi
  | cons x l ih =>
    cases i with
    | zero => simp only [List.set_cons_zero, tmss, List.getElem_cons_zero]; omega
    | succ i =>
      have := ih (i := i) (by simpa using hi)
      simp only [List.set_cons_succ, tmss, List.getElem_cons_succ]; omega
theorem kidD_get {t : GTerm} {i : Int} (h : i.toNat < t.fKids.length) : kidD t i = t.fKids[i.toNat] := by
  unfold kidD; rw [List.getD_eq_getElem?_getD, List.getElem?_eq_getElem h]; rfl
theorem setP_tms (u : GTerm) : ∀ (p : List Int) (t x : GTerm), atP t p = some x → tms (setP p t u) ≤ tms t + tms u := by
  intro p
  induction p with
  | nil => intro t x _; rw [setP]; omega
  | cons i l ih =>
    intro t x h
    obtain ⟨k, h1, h2, h3, h4, h5, h6⟩ := atP_cons h
    have := ih k x h6
    rw [setP, tms_eq t, tms, List.length_set]
    have hs := tmss_set h2 (setP l (kidD t i) u)
    rw [← kidD_get h2, h4] at hs
    rw [h4]
    omega
theorem path_le : ∀ (p : List Int) (t x : GTerm), atP t p = some x → p.length + 1 ≤ tsz t := by
  intro p
  induction p with
  | nil => intro t x _; rw [tsz_eq]; simp
  | cons i l ih =>
    intro t x h
    obtain ⟨k, h1, h2, h3, h4, h5, h6⟩ := atP_cons h
    have := ih k x h6
    have := tsz_kid h5
    rw [List.length_cons]; omega
theorem cut_tail {α : Type} (x : α) (l : List α) : cut (x :: l) (some 1) none none = some l := cut_end [x] l
theorem shift0_list {ks : List GTerm} {hi : Int} (hh : hi ≤ 9223372036854775807) (hn : tNbs hi ks) (hm : tmss ks ≤ 1099511627776) : ∀ k ∈ ks, spec_l2Shift (k, 0, 0) = some k := fun k hk =>
  sShift0 (tNb_mono hh k (tNbs_mem hn k hk)) (by have := tmss_mem hk; omega)
theorem sSet (u : GTerm) (hu : tNb 9223372036854775807 u) (hum : tms u ≤ 1099511627776) : ∀ (p : List Int) (t x : GTerm), atP t p = some x → p.length ≤ 1099511627776 → tNb 9223372036854775807 t → tms t ≤ 1099511627776 → spec_l4Set (t, p, u) = some (setP p t u) := by
  intro p
  induction p with
  | nil =>
    intro t x _ _ _ _
    rw [spec_l4Set.eq_def, setP]
    simp only
    rw [if_pos (by rfl), sShift0 hu hum, bs]
  | cons j l ih =>
    intro t x h hp hn hm
    obtain ⟨k, h1, h2, h3, h4, h5, h6⟩ := atP_cons h
    have h1' := h1
    unfold inB at h1'
    simp only [Bool.and_eq_true, decide_eq_true_eq] at h1'
    obtain ⟨jn, hj⟩ : ∃ jn : Nat, j = (jn : Int) := ⟨j.toNat, by omega⟩
    rw [List.length_cons] at hp
    have hk := tms_kid h5
    have hte := tms_eq t
    have ihk := ih k x h6 (by omega) (tNbs_mem (tNb_kids hn) k h5) (by omega)
    rw [spec_l4Set.eq_def, setP]
    simp only
    rw [if_neg (by simp; omega), sCopy _ (by omega), bs]
    have loop : ∀ (ks : List GTerm) (i : Nat) (out : List GTerm), t.fKids.drop i = ks → out.length = i → spec_l4Set_l0 (t, j :: l, u, t.fType, out, (i : Int)) = some (out ++ (t.fKids.set jn (setP l k u)).drop i) := by
      intro ks
      induction ks with
      | nil =>
        intro i out hd ho
        have := drop_nil_le hd
        rw [spec_l4Set_l0.eq_def]
        simp only
        rw [lt_f this, List.drop_eq_nil_of_le (by simpa using this), List.append_nil]; rfl
      | cons y ks ihl =>
        intro i out hd ho
        obtain ⟨hi, hx, hd'⟩ := drop_cons_get hd
        have hy : t.fKids[i] = y := by rw [idx_get hi] at hx; exact Option.some.inj hx
        have hset : i < (t.fKids.set jn (setP l k u)).length := by simpa using hi
        rw [spec_l4Set_l0.eq_def]
        simp only
        rw [lt_t hi, if_pos rfl, idx0, bs, wr_succ (by omega)]
        refine (bind_of (x := out ++ [(t.fKids.set jn (setP l k u))[i]]) ?_).trans ?_
        · by_cases e : i = jn
          · subst e
            rw [hj, show ((i : Int) == (i : Int)) = true by simp, if_pos rfl, hx, bs, cut_tail, bs]
            have : y = k := by rw [hj] at h3; rw [hx] at h3; exact Option.some.inj h3
            rw [this, ihk, bs, fits_ok (by simp only [List.length_singleton]; omega), bs]
            rw [List.getElem_set_self]
          · rw [hj, show ((i : Int) == (jn : Int)) = false from beq_eq_false_iff_ne.2 (by omega), if_neg (by decide), hx, bs]
            have hym : y ∈ t.fKids := by rw [← hy]; exact List.getElem_mem hi
            rw [shift0_list (by omega) (tNb_kids hn) (by omega) y hym, bs, fits_ok (by simp only [List.length_singleton]; omega), bs, List.getElem_set_ne (fun h => e h.symm), hy]
        rw [ihl (i + 1) _ hd' (by simp [ho]), List.append_assoc, List.drop_eq_getElem_cons hset]; rfl
    rw [show (0 : Int) = ((0 : Nat) : Int) from rfl, loop t.fKids 0 [] rfl rfl, bs, List.drop_zero, List.nil_append, h4, hj, Int.toNat_natCast]
theorem iSet (u : GTerm) (hum : tms u ≤ 1099511627776) : ∀ (p : List Int) (t x : GTerm), atP t p = some x → p.length ≤ 1099511627776 → tms t ≤ 1099511627776 → impl_replaced (t, p, u) = some (setP p t u) := by
  intro p
  induction p with
  | nil =>
    intro t x _ _ _
    rw [impl_replaced.eq_def, setP]
    simp only
    rw [if_pos (by rfl), iCopyT u hum, bs]
  | cons j l ih =>
    intro t x h hp hm
    obtain ⟨k, h1, h2, h3, h4, h5, h6⟩ := atP_cons h
    rw [List.length_cons] at hp
    have hk := tms_kid h5
    rw [impl_replaced.eq_def, setP]
    simp only
    rw [if_neg (by simp; omega), iCopyT t hm, bs, idx0, bs, bs, h3, bs, cut_tail, bs, ih k x h6 (by omega) (by omega), bs, bs, h4]
theorem iR1 (x : Int) : impl_ReplaceAt_c1 x = some ((fun _ => true) x) := rfl
theorem iR2 (x : List Int) (h : x.length ≤ 1099511627776) : impl_ReplaceAt_c2 x = some ((fun _ => true) x) := rfl
mutual
theorem iCheckL : ∀ (t : GTerm) (n nodes : Nat), tms t ≤ 1099511627776 → n + 2 * tms t ≤ 35184372088832 → nodes ≤ 400 → impl_check_Kimpl_ReplaceAt_c1_Kimpl_ReplaceAt_c2 (t, (n : Int), (nodes : Int)) = some (chkI (tOk (fun _ => true) (fun _ => true) n t) nodes (tsz t))
  | ⟨op, N, ty, ks⟩, n, nodes, ht, hn, hd => by
    rw [tms] at ht hn
    rw [impl_check_Kimpl_ReplaceAt_c1_Kimpl_ReplaceAt_c2.eq_def, tOk, tsz]
    simp only
    rw [iForm, bs]
    unfold formG
    cases hop : inB op 0 12
    · simp [nodeOk, hop, chkI]
    · simp only [if_true]
      rw [wr_succ (by omega)]
      by_cases h4 : nodes + 1 ≤ 400
      · rw [decide_eq_false (by omega : ¬ ((nodes + 1 : Nat) : Int) > 400)]
        by_cases hk : (ks.length : Int) = manyI op
        · rw [show ((ks.length : Int) != manyI op) = false by rw [hk]; exact bne_self]
          simp only [Bool.false_eq_true, if_false, bs]
          refine (bind_of (x := nOkN (fun _ => true) (n : Int) ⟨op, N, ty, ks⟩) ?_).trans ?_
          · unfold nOkN
            simp only [iIn, wr_id (x := (n : Int) - 1) (by omega) (by omega), iR1, bs]
            cases op == 0 <;> cases op == 1 <;> cases hasG op <;> rfl
          refine (bind_of (x := nOkN (fun _ => true) (n : Int) ⟨op, N, ty, ks⟩ && nOkY (fun _ => true) ⟨op, N, ty, ks⟩) ?_).trans ?_
          · unfold nOkY
            simp only [iR2 ty (by omega), bs]
            cases typedG op <;> cases nOkN (fun _ => true) (n : Int) ⟨op, N, ty, ks⟩ <;> rfl
          have e : nodeOk (fun _ => true) (fun _ => true) (n : Int) ⟨op, N, ty, ks⟩ = (nOkN (fun _ => true) (n : Int) ⟨op, N, ty, ks⟩ && nOkY (fun _ => true) ⟨op, N, ty, ks⟩) := by
            unfold nodeOk
            simp only
            rw [hop, hk]; simp
          rw [e]
          cases nOkN (fun _ => true) (n : Int) ⟨op, N, ty, ks⟩ && nOkY (fun _ => true) ⟨op, N, ty, ks⟩
          · simp [chkI]
          · have h := iCheckL_l0 ks ⟨op, N, ty, ks⟩ n (nodes + 1) 0 rfl (by simp only; omega) (by omega) (by omega) h4
            rw [if_pos rfl, show (0 : Int) = ((0 : Nat) : Int) from rfl, h]
            simp only [Bool.true_and]
            unfold chkI
            rw [show nodes + (1 + tszs ks) = nodes + 1 + tszs ks by omega]
            cases tOks (fun _ => true) (fun _ => true) op n 0 ks && decide (nodes + 1 + tszs ks ≤ 400) <;> rfl
        · rw [show ((ks.length : Int) != manyI op) = true by simpa using hk]
          have e : nodeOk (fun _ => true) (fun _ => true) (n : Int) ⟨op, N, ty, ks⟩ = false := by
            unfold nodeOk
            simp only
            rw [show ((ks.length : Int) == manyI op) = false by simpa using hk]; simp
          simp [e, chkI]
      · rw [decide_eq_true (by omega : ((nodes + 1 : Nat) : Int) > 400)]
        have : ¬ nodes + (1 + tszs ks) ≤ 400 := by omega
        simp [chkI, this]
theorem iCheckL_l0 : ∀ (ks : List GTerm) (t : GTerm) (n nodes i : Nat), t.fKids.drop i = ks → t.fKids.length ≤ 1099511627776 → tmss ks ≤ 1099511627776 → n + 2 * (ks.length + tmss ks) ≤ 35184372088832 → nodes ≤ 400 →
    impl_check_Kimpl_ReplaceAt_c1_Kimpl_ReplaceAt_c2_l0 (t, (n : Int), (nodes : Int), (i : Int)) = some (if tOks (fun _ => true) (fun _ => true) t.fOp n i ks && decide (nodes + tszs ks ≤ 400) then .inl ((nodes + tszs ks : Nat) : Int) else .inr 401)
  | [], t, n, nodes, i, hd, hk, ht, hn, h4 => by
    rw [impl_check_Kimpl_ReplaceAt_c1_Kimpl_ReplaceAt_c2_l0.eq_def, tOks, tszs]
    simp only
    rw [lt_f (drop_nil_le hd)]
    simp [h4]
  | k :: ks, t, n, nodes, i, hd, hk, ht, hn, h4 => by
    obtain ⟨hi, hx, hd'⟩ := drop_cons_get hd
    rw [tmss] at ht hn
    rw [List.length_cons] at hn
    have ha := addsI_le t.fOp (i : Int)
    rw [impl_check_Kimpl_ReplaceAt_c1_Kimpl_ReplaceAt_c2_l0.eq_def, tOks, tszs]
    simp only
    rw [lt_t hi, if_pos rfl, hx, bs, iAdds, bs, wr_id (by omega) (by omega), show (n : Int) + ((addsI t.fOp (i : Int) : Nat) : Int) = ((n + addsI t.fOp (i : Int) : Nat) : Int) by omega]
    rw [iCheckL k (n + addsI t.fOp (i : Int)) nodes (by omega) (by omega) h4, bs, wr_succ (by omega)]
    unfold chkI
    cases tOk (fun _ => true) (fun _ => true) (n + addsI t.fOp (i : Int)) k
    · rfl
    · by_cases q : nodes + tsz k ≤ 400
      · rw [decide_eq_true q, Bool.true_and, if_pos rfl, decide_eq_false (by omega : ¬ ((nodes + tsz k : Nat) : Int) > 400), if_neg (by decide), iCheckL_l0 ks t n (nodes + tsz k) (i + 1) hd' hk (by omega) (by omega) q, Nat.add_assoc, Bool.true_and]
      · rw [decide_eq_false q, decide_eq_false (by omega : ¬ nodes + (tsz k + tszs ks) ≤ 400)]
        simp
end
theorem inB_mono {x a b : Int} (hab : a ≤ b) (h : inB x 0 a = true) : inB x 0 b = true := by
  unfold inB at h ⊢
  simp only [Bool.and_eq_true, decide_eq_true_eq] at h ⊢
  omega
mutual
theorem tOk_loose {g : Int → Bool} {y : List Int → Bool} : ∀ (t : GTerm) (n m : Nat), n ≤ m → tOk g y n t = true → tOk (fun _ => true) (fun _ => true) m t = true
  | ⟨op, N, ty, ks⟩, n, m, h, ht => by
    rw [tOk, Bool.and_eq_true] at ht ⊢
    refine ⟨?_, tOks_loose ks op n m 0 h ht.2⟩
    have h1 := ht.1
    unfold nodeOk nOkN nOkY at h1 ⊢
    simp only [Bool.and_eq_true] at h1 ⊢
    refine ⟨⟨h1.1.1, ?_⟩, ?_⟩
    · have h2 := h1.1.2
      revert h2
      cases op == 0
      · cases op == 1
        · cases hasG op <;> simp
        · simp
      · intro h2
        rw [if_pos rfl] at h2 ⊢
        exact inB_mono (by omega) h2
    · have h2 := h1.2
      revert h2
      cases typedG op <;> simp
theorem tOks_loose {g : Int → Bool} {y : List Int → Bool} : ∀ (ks : List GTerm) (op : Int) (n m i : Nat), n ≤ m → tOks g y op n i ks = true → tOks (fun _ => true) (fun _ => true) op m i ks = true
  | [], op, n, m, i, h, ht => by rw [tOks]
  | k :: ks, op, n, m, i, h, ht => by
    rw [tOks, Bool.and_eq_true] at ht ⊢
    exact ⟨tOk_loose k _ _ (by omega) ht.1, tOks_loose ks op n m (i + 1) h ht.2⟩
end
theorem tOks_get {g : Int → Bool} {y : List Int → Bool} : ∀ (ks : List GTerm) (op : Int) (n i j : Nat) (hj : j < ks.length), tOks g y op n i ks = true → tOk g y (n + addsI op ((i + j : Nat) : Int)) ks[j] = true
  | k :: ks, op, n, i, j, hj, ht => by
    rw [tOks, Bool.and_eq_true] at ht
    cases j with
    | zero => exact ht.1
    | succ j =>
      have := tOks_get ks op n (i + 1) j (by simpa using hj) ht.2
      rw [show i + 1 + j = i + (j + 1) by omega] at this
      exact this
theorem tOk_setP {g : Int → Bool} {y : List Int → Bool} (u : GTerm) : ∀ (p : List Int) (t x : GTerm) (n : Nat), atP t p = some x → tOk g y n (setP p t u) = true → ∃ m, m ≤ n + 2 * p.length ∧ tOk g y m u = true := by
  intro p
  induction p with
  | nil => intro t x n _ h; exact ⟨n, by simp, h⟩
  | cons i l ih =>
    intro t x n ha h
    obtain ⟨k, h1, h2, h3, h4, h5, h6⟩ := atP_cons ha
    rw [setP, tOk, Bool.and_eq_true] at h
    have := tOks_get _ _ _ 0 i.toNat (by simpa using h2) h.2
    rw [List.getElem_set_self, h4] at this
    obtain ⟨m, e1, e2⟩ := ih k x _ h6 this
    have := addsI_le t.fOp ((0 + i.toNat : Nat) : Int)
    exact ⟨m, by rw [List.length_cons]; omega, e2⟩
def repT (t : GTerm) (p : List Int) (u : GTerm) : Option GTerm := if wB t && (atP t p).isSome && decide (tsz u ≤ 400) && wB (setP p t u) then some (setP p t u) else none
theorem replace_eq (t : GTerm) (p : List Int) (u : GTerm) (ht : tms t ≤ 1048576) (hp : p.length ≤ 1048576) (hu : tms u ≤ 1048576) (hn : tNb 9223372036854775807 u) :
    spec_ReplaceAt (t, p, u) = some (okT (repT t p u)) ∧ impl_ReplaceAt (t, p, u) = some (okT (repT t p u)) := by
  unfold spec_ReplaceAt impl_ReplaceAt repT
  simp only
  rw [sTermAt t p (by omega) (by omega), iWritten t (by omega), bs, bs]
  cases hw : wB t
  · exact ⟨rfl, rfl⟩
  · simp only [if_true, Bool.true_and]
    rw [iAt t p (by omega) (by omega), bs]
    cases h : atP t p with
    | none => exact ⟨rfl, rfl⟩
    | some x =>
      have l1 := sLeft u 400 (by omega) (by omega)
      have c1 := iCheckL u 1048576 0 (by omega) (by omega) (by omega)
      rw [show ((400 : Nat) : Int) = 400 from rfl] at l1
      rw [show ((1048576 : Nat) : Int) = 1048576 from rfl, show ((0 : Nat) : Int) = 0 from rfl] at c1
      simp only [okT, if_true, Option.isSome_some, Bool.true_and]
      rw [l1, c1, bs, bs, bs, bs]
      have hs := setP_tms u p t x h
      have s1 := sSet u hn (by omega) p t x h (by omega) (tNb_mono (by omega) t (wB_Nb hw)) (by omega)
      have s2 := iSet u (by omega) p t x h (by omega) (by omega)
      have w1 := sWritten (setP p t u) (by omega)
      have w2 := iWritten (setP p t u) (by omega)
      have hpl := path_le p t x h
      have htz := (wB_of hw).2
      by_cases q : tsz u ≤ 400
      · rw [leftI_le q, decide_eq_false (by omega : ¬ ((400 - tsz u : Nat) : Int) < 0), decide_eq_true q, if_neg (by decide), s1, bs, w1, bs]
        refine ⟨by cases wB (setP p t u) <;> rfl, ?_⟩
        unfold chkI
        rw [Nat.zero_add, decide_eq_true q, Bool.and_true]
        cases hL : tOk (fun _ => true) (fun _ => true) 1048576 u
        · have : wB (setP p t u) = false := by
            cases hq : wB (setP p t u)
            · rfl
            · obtain ⟨m, e1, e2⟩ := tOk_setP u p t x 8 h (wB_of hq).1
              rw [tOk_loose u m 1048576 (by omega) e2] at hL
              cases hL
          rw [this]; rfl
        · rw [if_pos rfl, decide_eq_false (by omega : ¬ ((tsz u : Nat) : Int) > 400), if_neg (by decide), s2, bs, w2, bs]
          cases wB (setP p t u) <;> rfl
      · rw [leftI_gt q, decide_eq_false q]
        refine ⟨rfl, ?_⟩
        unfold chkI
        rw [Nat.zero_add, decide_eq_false q, Bool.and_false]; rfl
theorem replaceAt_true (t : GTerm) (p : List Int) (u : GTerm) (hl : tln t) (hp : p.length ≤ 9223372036854775807) (hlu : tln u) : laws_FnExactReplaceAt (t, p, u) = some true := by
  unfold laws_FnExactReplaceAt
  simp only
  by_cases hp2 : p.length ≤ 1048576
  · rw [decide_eq_false (by omega), if_neg (by decide), szTerm_eq t 1048576 hl (by decide) (by decide), bs]
    rcases szB_cases 1048576 (tms t) with ⟨e, h⟩ | ⟨e, h⟩
    · rw [e]; rfl
    · rw [e, decide_eq_false (by omega), if_neg (by decide), szTerm_eq u _ hlu (by omega) (by omega), bs]
      rcases szB_cases (1048576 - (tms t : Int)) (tms u) with ⟨e', h'⟩ | ⟨e', h'⟩
      · rw [e']; rfl
      · have ht : tms t ≤ 1048576 := by omega
        have hu : tms u ≤ 1048576 := by omega
        obtain ⟨h1, h2⟩ := replace_eq t p u ht hp2 hu (tln_Nb u hlu)
        have hb : tms (okT (repT t p u)).1 ≤ 2097152 := by
          unfold repT
          cases hq : wB t && (atP t p).isSome && decide (tsz u ≤ 400) && wB (setP p t u)
          · simp [okT, noT, tms, tmss]
          · simp only [Bool.and_eq_true] at hq
            obtain ⟨x, hx⟩ := Option.isSome_iff_exists.1 hq.1.1.2
            have := setP_tms u p t x hx
            simp only [if_true, okT]; omega
        generalize okT (repT t p u) = W at h1 h2 hb
        obtain ⟨W, wb⟩ := W
        simp only at hb
        obtain ⟨M1, q1⟩ := markTerm_only t 1 (by omega) (by omega)
        have hc1 := mct_le t
        have hc2 := mct_le u
        have q2 := markI p (1 + mct t) (by omega) (by omega)
        obtain ⟨M2, q5⟩ := markTerm_only u (1 + mct t + p.length) (by omega) (by omega)
        obtain ⟨M3, q3, q4⟩ := markTerm_held W 1 (by omega) (by omega)
        rw [show ((1 : Nat) : Int) = 1 from rfl] at q1 q3 q4
        rw [e', decide_eq_false (by omega), if_neg (by decide)]
        simp only [toTerm_id t (by omega), toTerm_id u (by omega), toIntS_id p (by omega), h1, h2, bs, eqTerm_refl W (by omega), eqTerm_refl t (by omega), eqTerm_refl u (by omega), eqIntS_refl p (by omega), beq_self_b, q1, q2, q5, q3, q4 W.fOp W.fN, if_true, if_false, Bool.false_eq_true, bne_self]
        rw [decide_eq_false (by omega)]
        simp only [bs, Bool.false_eq_true, if_false]
        rw [decide_eq_false (by omega)]
        simp only [bs, Bool.false_eq_true, if_false]
  · rw [decide_eq_true (by omega), if_pos rfl]
end Go.Am
