/- Plain laws of the printed functions. -/
import Derived.Test.YtlegifoeekcolaaGROF3
set_option linter.unusedSimpArgs false
set_option linter.unusedVariables false
namespace Go.Am
theorem wr_id {x : Int} (h1 : -9223372036854775808 ≤ x) (h2 : x ≤ 9223372036854775807) : wr x = x := by
  unfold wr IntKind.wrap
  simp [IntKind.bits, IntKind.signed]
  omega
theorem idx_get {α : Type} {l : List α} {n : Nat} (h : n < l.length) : idx l (n : Int) = some l[n] := by
  unfold idx
  rw [if_pos (by omega)]
  simp [h]
theorem bs {α β : Type} (a : α) (f : α → Option β) : (some a >>= f) = f a := rfl
/-- A round number as the loops hold it. -/
theorem wr_succ {n : Nat} (h : n < 9223372036854775807) : wr ((n : Int) + 1) = ((n + 1 : Nat) : Int) := by
  rw [wr_id (by omega) (by omega)]; omega
theorem lt_t {n m : Nat} (h : n < m) : decide ((n : Int) < (m : Int)) = true := decide_eq_true (by omega)
theorem lt_f {n m : Nat} (h : m ≤ n) : decide ((n : Int) < (m : Int)) = false := decide_eq_false (by omega)
theorem take_set_succ {α : Type} {l a : List α} {n : Nat} (hl : l.length = a.length) (hn : n < a.length) (h : l.take n = a.take n) : (l.set n a[n]).take (n + 1) = a.take (n + 1) := by
  apply List.ext_getElem?
  intro i
  rw [List.getElem?_take, List.getElem?_take]
  by_cases hi : i < n + 1
  · rw [if_pos hi, if_pos hi, List.getElem?_set]
    by_cases e : n = i
    · subst e
      rw [if_pos rfl, if_pos (by omega), List.getElem?_eq_getElem hn]
    · rw [if_neg e]
      have := congrArg (fun l => l[i]?) h
      simp only [List.getElem?_take] at this
      rw [if_pos (by omega), if_pos (by omega)] at this
      exact this
  · rw [if_neg hi, if_neg hi]
theorem toIntS_l0 (a : List Int) (ha : a.length ≤ 1099511627776) : ∀ (k n : Nat) (out : List Int), n + k = a.length → out.length = a.length → out.take n = a.take n → laws_toIntS_l0 (a, out, (n : Int)) = some a := by
  intro k
  induction k with
  | zero =>
    intro n out hn hl ht
    rw [laws_toIntS_l0.eq_def]
    simp only
    rw [lt_f (by omega)]
    have h1 : out.take n = out := List.take_of_length_le (by omega)
    have h2 : a.take n = a := List.take_of_length_le (by omega)
    rw [h1, h2] at ht
    simp [ht]
  | succ k ih =>
    intro n out hn hl ht
    rw [laws_toIntS_l0.eq_def]
    simp only
    rw [lt_t (by omega), if_pos rfl, idx_get (by omega), bs, idx_get (by omega), bs, wr_succ (by omega), Int.toNat_natCast]
    exact ih (n + 1) _ (by omega) (by simpa using hl) (take_set_succ hl (by omega) ht)
theorem toIntS_id (a : List Int) (ha : a.length ≤ 1099511627776) : laws_toIntS a = some a := by
  unfold laws_toIntS
  have : chk (0 ≤ (a.length : Int) ∧ (Int.toNat (a.length : Int)) * 8 ≤ 140737488355328) = some () := by
    unfold chk; rw [if_pos]; refine ⟨by omega, ?_⟩; rw [Int.toNat_natCast]; omega
  rw [this, bs, Int.toNat_natCast]
  have := toIntS_l0 a ha a.length 0 (List.replicate a.length 0) (by omega) (by simp) rfl
  rw [show ((0 : Nat) : Int) = 0 from rfl] at this
  rw [this, bs]
theorem bne_self {a : Int} : (a != a) = false := by simp
theorem eqIntS_l0 (a : List Int) (ha : a.length ≤ 1099511627776) : ∀ (k n : Nat), n + k = a.length → laws_eqIntS_l0 (a, a, (n : Int)) = some (.inl ()) := by
  intro k
  induction k with
  | zero =>
    intro n hn
    rw [laws_eqIntS_l0.eq_def]
    simp only
    rw [lt_f (by omega)]
    rfl
  | succ k ih =>
    intro n hn
    rw [laws_eqIntS_l0.eq_def]
    simp only
    rw [lt_t (by omega), if_pos rfl, idx_get (by omega), bs, bs, bne_self, if_neg (by decide), wr_succ (by omega)]
    exact ih (n + 1) (by omega)
theorem eqIntS_refl (a : List Int) (ha : a.length ≤ 1099511627776) : laws_eqIntS (a, a) = some true := by
  unfold laws_eqIntS
  simp only
  have := eqIntS_l0 a ha a.length 0 (by omega)
  rw [show ((0 : Nat) : Int) = 0 from rfl] at this
  rw [bne_self, if_neg (by decide), this]
  rfl
def inB (x lo hi : Int) : Bool := decide (x ≥ lo) && decide (x ≤ hi)
theorem sIn (x lo hi : Int) : spec_l1In (x, lo, hi) = some (inB x lo hi) := by
  unfold spec_l1In inB
  simp only
  cases decide (x ≥ lo) <;> simp [bs]
theorem iIn (x lo hi : Int) : impl_within (x, lo, hi) = some (inB x lo hi) := by
  unfold impl_within inB
  simp only
  cases decide (x ≥ lo) <;> simp [bs]
theorem drop_cons_get {α : Type} {l r : List α} {x : α} {i : Nat} (h : l.drop i = x :: r) : i < l.length ∧ idx l (i : Int) = some x ∧ l.drop (i + 1) = r := by
  have hi : i < l.length := by
    rcases Nat.lt_or_ge i l.length with h' | h'
    · exact h'
    · rw [List.drop_eq_nil_of_le h'] at h; cases h
  have e := List.drop_eq_getElem_cons hi
  rw [h] at e
  obtain ⟨e1, e2⟩ := List.cons.inj e
  exact ⟨hi, by rw [idx_get hi, e1], e2.symm⟩
theorem drop_nil_le {α : Type} {l : List α} {i : Nat} (h : l.drop i = []) : l.length ≤ i := by
  rcases Nat.lt_or_ge i l.length with h' | h'
  · rw [List.drop_eq_getElem_cons h'] at h; cases h
  · exact h'
def arrC (c : Int) : Bool := inB c 3 18 || c == 35
def boxC (c : Int) : Bool := inB c 19 34 || c == 36
def kidsC (c : Int) : Int := if c == 0 then 0 else if c == 1 || c == 2 || arrC c then 2 else if boxC c then 1 else -1
theorem sArrow (c : Int) : spec_l2Arrow c = some (arrC c) := by
  unfold spec_l2Arrow arrC
  simp only [sIn, bs]
  cases inB c 3 18 <;> rfl
theorem sBox (c : Int) : spec_l2Box c = some (boxC c) := by
  unfold spec_l2Box boxC
  simp only [sIn, bs]
  cases inB c 19 34 <;> rfl
theorem sKids (c : Int) : spec_l2Kids c = some (kidsC c) := by
  unfold spec_l2Kids kidsC
  simp only [sArrow, sBox, bs]
  cases c == 0 <;> cases c == 1 <;> cases c == 2 <;> cases arrC c <;> cases boxC c <;> rfl
theorem kidsC_cases (c : Int) : (c = 0 ∧ kidsC c = 0) ∨ ((c = 1 ∨ c = 2 ∨ (3 ≤ c ∧ c ≤ 18) ∨ c = 35) ∧ kidsC c = 2) ∨ (((19 ≤ c ∧ c ≤ 34) ∨ c = 36) ∧ kidsC c = 1) ∨ ((c < 0 ∨ 36 < c) ∧ kidsC c = -1) := by
  unfold kidsC arrC boxC inB
  by_cases h0 : c = 0
  · left; subst h0; exact ⟨rfl, rfl⟩
  · right
    have e0 : (c == 0) = false := by simpa using h0
    by_cases h1 : c = 1 ∨ c = 2 ∨ (3 ≤ c ∧ c ≤ 18) ∨ c = 35
    · left
      refine ⟨h1, ?_⟩
      have : (c == 1 || c == 2 || (decide (c ≥ 3) && decide (c ≤ 18) || c == 35)) = true := by
        simp only [Bool.or_eq_true, Bool.and_eq_true, beq_iff_eq, decide_eq_true_eq]; omega
      rw [e0, this]; rfl
    · right
      have q : (c == 1 || c == 2 || (decide (c ≥ 3) && decide (c ≤ 18) || c == 35)) = false := by
        rw [Bool.eq_false_iff]; intro h
        simp only [Bool.or_eq_true, Bool.and_eq_true, beq_iff_eq, decide_eq_true_eq] at h; omega
      rw [e0, q]
      by_cases h2 : (19 ≤ c ∧ c ≤ 34) ∨ c = 36
      · left
        refine ⟨h2, ?_⟩
        have : (decide (c ≥ 19) && decide (c ≤ 34) || c == 36) = true := by
          simp only [Bool.or_eq_true, Bool.and_eq_true, beq_iff_eq, decide_eq_true_eq]; omega
        rw [this]; rfl
      · right
        refine ⟨by omega, ?_⟩
        have : (decide (c ≥ 19) && decide (c ≤ 34) || c == 36) = false := by
          rw [Bool.eq_false_iff]; intro h
          simp only [Bool.or_eq_true, Bool.and_eq_true, beq_iff_eq, decide_eq_true_eq] at h; omega
        rw [this]; rfl
/-- The shape of a code, and its grade. -/
def shapeI (c : Int) : Int × Int :=
  if inB c 0 2 then (c, -1) else if inB c 3 18 then (3, c - 3) else if inB c 19 34 then (4, c - 19) else if c == 35 then (3, -1) else if c == 36 then (4, -1) else (5, -1)
theorem iShape (c : Int) : impl_shape c = some (shapeI c) := by
  unfold impl_shape shapeI
  simp only [iIn, bs]
  cases h1 : inB c 0 2
  · cases h2 : inB c 3 18
    · cases h3 : inB c 19 34
      · cases c == 35 <;> cases c == 36 <;> rfl
      · simp only [inB, Bool.and_eq_true, decide_eq_true_eq] at h3
        simp only [Bool.false_eq_true, if_false, if_true]
        rw [wr_id (by omega) (by omega)]
    · simp only [inB, Bool.and_eq_true, decide_eq_true_eq] at h2
      simp only [Bool.false_eq_true, if_false, if_true]
      rw [wr_id (by omega) (by omega)]
  · rfl
theorem shapeI_cases (c : Int) : (c = 0 ∧ shapeI c = (0, -1)) ∨ (c = 1 ∧ shapeI c = (1, -1)) ∨ (c = 2 ∧ shapeI c = (2, -1)) ∨ ((3 ≤ c ∧ c ≤ 18) ∧ shapeI c = (3, c - 3)) ∨ (c = 35 ∧ shapeI c = (3, -1)) ∨
    ((19 ≤ c ∧ c ≤ 34) ∧ shapeI c = (4, c - 19)) ∨ (c = 36 ∧ shapeI c = (4, -1)) ∨ ((c < 0 ∨ 36 < c) ∧ shapeI c = (5, -1)) := by
  have inT : ∀ lo hi, lo ≤ c → c ≤ hi → inB c lo hi = true := fun lo hi h1 h2 => by simp only [inB, Bool.and_eq_true, decide_eq_true_eq]; omega
  have inF : ∀ lo hi, (c < lo ∨ hi < c) → inB c lo hi = false := fun lo hi h => by rw [Bool.eq_false_iff]; intro h'; simp only [inB, Bool.and_eq_true, decide_eq_true_eq] at h'; omega
  unfold shapeI
  by_cases h0 : 0 ≤ c ∧ c ≤ 2
  · rw [inT 0 2 h0.1 h0.2]
    have : c = 0 ∨ c = 1 ∨ c = 2 := by omega
    rcases this with rfl | rfl | rfl <;> simp
  · rw [inF 0 2 (by omega)]
    by_cases h1 : 3 ≤ c ∧ c ≤ 18
    · rw [inT 3 18 h1.1 h1.2]
      exact .inr (.inr (.inr (.inl ⟨h1, rfl⟩)))
    · rw [inF 3 18 (by omega)]
      by_cases h2 : 19 ≤ c ∧ c ≤ 34
      · rw [inT 19 34 h2.1 h2.2]
        exact .inr (.inr (.inr (.inr (.inr (.inl ⟨h2, rfl⟩)))))
      · rw [inF 19 34 (by omega)]
        by_cases h3 : c = 35
        · subst h3; simp
        · by_cases h4 : c = 36
          · subst h4; simp
          · have e3 : (c == 35) = false := by simpa using h3
            have e4 : (c == 36) = false := by simpa using h4
            rw [e3, e4]
            refine .inr (.inr (.inr (.inr (.inr (.inr (.inr ⟨by omega, rfl⟩))))))
/-- What is left behind so many types. -/
def skip : Nat → List Int → Option (List Int)
  | 0, l => some l
  | _ + 1, [] => none
  | m + 1, c :: l => if kidsC c = -1 then none else skip (m + (kidsC c).toNat) l
theorem skip_zero (l : List Int) : skip 0 l = some l := by cases l <;> rfl
theorem skip_nil (m : Nat) : skip (m + 1) [] = none := rfl
theorem skip_cons (m : Nat) (c : Int) (l : List Int) : skip (m + 1) (c :: l) = if kidsC c = -1 then none else skip (m + (kidsC c).toNat) l := rfl
theorem skip_add (l : List Int) : ∀ (m k : Nat), skip (m + k) l = (skip m l).bind (skip k) := by
  induction l with
  | nil =>
    intro m k
    cases m with
    | zero => rw [Nat.zero_add, skip_zero]; rfl
    | succ m => rw [show m + 1 + k = (m + k) + 1 by omega, skip_nil, skip_nil]; rfl
  | cons c l ih =>
    intro m k
    cases m with
    | zero => rw [Nat.zero_add, skip_zero]; rfl
    | succ m =>
      rw [show m + 1 + k = (m + k) + 1 by omega, skip_cons, skip_cons]
      by_cases h : kidsC c = -1
      · rw [if_pos h, if_pos h]; rfl
      · rw [if_neg h, if_neg h, ← ih]; congr 1; omega
theorem skip_suffix (l : List Int) : ∀ (m : Nat) (r : List Int), skip m l = some r → ∃ p, l = p ++ r ∧ m ≤ p.length := by
  induction l with
  | nil =>
    intro m r h
    cases m with
    | zero => rw [skip_zero] at h; cases h; exact ⟨[], rfl, Nat.le_refl _⟩
    | succ m => rw [skip_nil] at h; cases h
  | cons c l ih =>
    intro m r h
    cases m with
    | zero => rw [skip_zero] at h; cases h; exact ⟨[], rfl, Nat.le_refl _⟩
    | succ m =>
      rw [skip_cons] at h
      by_cases hk : kidsC c = -1
      · rw [if_pos hk] at h; cases h
      · rw [if_neg hk] at h
        obtain ⟨p, e, hp⟩ := ih _ _ h
        exact ⟨c :: p, by rw [e]; rfl, by simp; omega⟩
/-- Where so many types that begin at a place end. -/
def endI (ty : List Int) (m i : Nat) : Int := match skip m (ty.drop i) with | some r => ((ty.length - r.length : Nat) : Int) | none => -1
theorem sEnd_l0 (ty : List Int) (hty : ty.length ≤ 1099511627776) : ∀ (l : List Int) (i m : Nat), ty.drop i = l → m ≤ 1099511627776 + 2 * i → ∃ x, spec_l2End_l0 (ty, ((m + 1 : Nat) : Int), (i : Int)) = some x ∧ (match x with | .inl () => -1 | .inr r => r) = endI ty (m + 1) i := by
  intro l
  induction l with
  | nil =>
    intro i m hl hm
    rw [spec_l2End_l0.eq_def]
    simp only
    rw [lt_f (drop_nil_le hl)]
    exact ⟨.inl (), rfl, by unfold endI; rw [hl, skip_nil]⟩
  | cons c l ih =>
    intro i m hl hm
    obtain ⟨hi, hx, hd⟩ := drop_cons_get hl
    have hi2 : (i : Int) < 1099511627776 := by omega
    rw [spec_l2End_l0.eq_def]
    simp only
    rw [lt_t hi, if_pos rfl, hx, bs, sKids, bs]
    have he : endI ty (m + 1) i = (match (if kidsC c = -1 then none else skip (m + (kidsC c).toNat) l) with | some r => ((ty.length - r.length : Nat) : Int) | none => -1) := by
      unfold endI; rw [hl, skip_cons]
    rw [he]
    by_cases hk : kidsC c = -1
    · rw [if_pos hk, hk]
      exact ⟨.inr (-1), rfl, rfl⟩
    · rw [if_neg hk]
      have hk0 : 0 ≤ kidsC c ∧ kidsC c ≤ 2 := by rcases kidsC_cases c with h | h | h | h <;> omega
      obtain ⟨k, hkk⟩ : ∃ k : Nat, kidsC c = (k : Int) := ⟨(kidsC c).toNat, by omega⟩
      rw [decide_eq_false (by omega), if_neg (by decide), hkk, Int.toNat_natCast]
      rw [wr_id (x := ((m + 1 : Nat) : Int) - 1) (by omega) (by omega), show ((m + 1 : Nat) : Int) - 1 = (m : Int) by omega, wr_id (x := (m : Int) + (k : Int)) (by omega) (by omega), wr_succ (by omega)]
      by_cases h0 : m + k = 0
      · rw [show ((m : Int) + (k : Int) == 0) = true by simp; omega, if_pos rfl, h0, skip_zero]
        refine ⟨_, rfl, ?_⟩
        have : l.length = ty.length - (i + 1) := by rw [← hd, List.length_drop]
        simp only
        omega
      · rw [show ((m : Int) + (k : Int) == 0) = false by simp; omega, if_neg (by decide)]
        obtain ⟨q, hq⟩ : ∃ q, m + k = q + 1 := ⟨m + k - 1, by omega⟩
        have := ih (i + 1) q hd (by omega)
        rw [show (m : Int) + (k : Int) = ((q + 1 : Nat) : Int) by omega]
        obtain ⟨x, h1, h2⟩ := this
        exact ⟨x, h1, by rw [h2, hq]; unfold endI; rw [hd]⟩
theorem sEnd (ty : List Int) (hty : ty.length ≤ 1099511627776) (i : Nat) (hi : i ≤ ty.length) : spec_l2End (ty, (i : Int)) = some (endI ty 1 i) := by
  unfold spec_l2End
  obtain ⟨x, h1, h2⟩ := sEnd_l0 ty hty _ i 0 rfl (by omega)
  simp only
  rw [show (1 : Int) = ((0 + 1 : Nat) : Int) from rfl, h1, bs]
  rw [← h2]
  cases x <;> rfl
theorem endI_two (ty : List Int) (i : Nat) (hi : i ≤ ty.length) : endI ty 2 i = (if endI ty 1 i = -1 then -1 else endI ty 1 (endI ty 1 i).toNat) := by
  unfold endI
  rw [show 2 = 1 + 1 from rfl, skip_add]
  cases h : skip 1 (ty.drop i) with
  | none => simp
  | some r =>
    obtain ⟨p, hp, hl⟩ := skip_suffix _ _ _ h
    have hlen : ty.length - i = p.length + r.length := by rw [← List.length_drop, hp, List.length_append]
    have : ty.drop (ty.length - r.length) = r := by
      have e : ty.drop (ty.length - r.length) = (ty.drop i).drop p.length := by rw [List.drop_drop]; congr 1; omega
      rw [e, hp, List.drop_left]
    simp only [Option.bind_some]
    rw [if_neg (by omega), Int.toNat_natCast, this]
theorem iEnd (ty : List Int) (hty : ty.length ≤ 1099511627776) : ∀ (d i : Nat), ty.length - i = d → impl_typeEnd (ty, (i : Int)) = some (endI ty 1 i) := by
  intro d
  induction d using Nat.strongRecOn with
  | ind d ih =>
    intro i hd
    rw [impl_typeEnd.eq_def]
    simp only
    rw [decide_eq_false (by omega : ¬ (i : Int) < 0)]
    simp only [Bool.false_eq_true, if_false, bs]
    by_cases hi : i < ty.length
    · rw [decide_eq_false (by omega), if_neg (by decide), idx_get hi, bs, iShape, bs]
      have hdr := List.drop_eq_getElem_cons hi
      have he : ∀ k : Nat, kidsC ty[i] = (k : Int) → endI ty 1 i = endI ty k (i + 1) := fun k hk => by
        unfold endI
        rw [hdr, show 1 = 0 + 1 from rfl, skip_cons, hk, if_neg (by omega), Int.toNat_natCast, Nat.zero_add]
      have hn : kidsC ty[i] = -1 → endI ty 1 i = -1 := fun hk => by
        unfold endI
        rw [hdr, show 1 = 0 + 1 from rfl, skip_cons, if_pos hk]
      have i1 := ih (ty.length - (i + 1)) (by omega) (i + 1) rfl
      have hz : ∀ i : Nat, i ≤ ty.length → endI ty 0 i = (i : Int) := fun i hi => by unfold endI; rw [skip_zero]; simp only [List.length_drop]; omega
      rw [wr_succ (by omega)]
      have two : kidsC ty[i] = 2 → ((impl_typeEnd (ty, ((i + 1 : Nat) : Int))) >>= fun r_11_4 => (impl_typeEnd (ty, r_11_4)) >>= fun r_11_5 => some r_11_5) = some (endI ty 1 i) := fun hk => by
        rw [i1, bs, he 2 hk, endI_two ty (i + 1) (by omega)]
        by_cases h1 : endI ty 1 (i + 1) = -1
        · rw [h1, if_pos rfl, impl_typeEnd.eq_def]; rfl
        · rw [if_neg h1]
          obtain ⟨e, hee, hlo⟩ : ∃ e : Nat, endI ty 1 (i + 1) = (e : Int) ∧ i + 1 < e := by
            unfold endI at h1 ⊢
            cases hs : skip 1 (ty.drop (i + 1)) with
            | none => rw [hs] at h1; exact absurd rfl h1
            | some r =>
              obtain ⟨p, hp, hl⟩ := skip_suffix _ _ _ hs
              have hlen : ty.length - (i + 1) = p.length + r.length := by rw [← List.length_drop, hp, List.length_append]
              exact ⟨_, rfl, by omega⟩
          rw [hee, Int.toNat_natCast, ih (ty.length - e) (by omega) e rfl, bs]
      rcases shapeI_cases ty[i] with ⟨h, e⟩ | ⟨h, e⟩ | ⟨h, e⟩ | ⟨h, e⟩ | ⟨h, e⟩ | ⟨h, e⟩ | ⟨h, e⟩ | ⟨h, e⟩ <;> rw [e] <;> simp only []
      · have hk : kidsC ty[i] = 0 := by rcases kidsC_cases ty[i] with h | h | h | h <;> omega
        rw [if_pos (by rfl), he 0 hk, hz _ (by omega)]
      · have hk : kidsC ty[i] = 2 := by rcases kidsC_cases ty[i] with h | h | h | h <;> omega
        exact two hk
      · have hk : kidsC ty[i] = 2 := by rcases kidsC_cases ty[i] with h | h | h | h <;> omega
        exact two hk
      · have hk : kidsC ty[i] = 2 := by rcases kidsC_cases ty[i] with h | h | h | h <;> omega
        exact two hk
      · have hk : kidsC ty[i] = 2 := by rcases kidsC_cases ty[i] with h | h | h | h <;> omega
        exact two hk
      · have hk : kidsC ty[i] = 1 := by rcases kidsC_cases ty[i] with h | h | h | h <;> omega
        rw [he 1 hk, if_neg (by decide), if_pos (by rfl), i1, bs]
      · have hk : kidsC ty[i] = 1 := by rcases kidsC_cases ty[i] with h | h | h | h <;> omega
        rw [he 1 hk, if_neg (by decide), if_pos (by rfl), i1, bs]
      · have hk : kidsC ty[i] = -1 := by rcases kidsC_cases ty[i] with h | h | h | h <;> omega
        rw [hn hk]; rfl
    · rw [decide_eq_true (by omega), if_pos rfl]
      unfold endI
      rw [List.drop_eq_nil_of_le (by omega), skip_nil]
/-- A written type. -/
def wtB (ty : List Int) : Bool := decide (ty.length ≤ 40) && (skip 1 ty == some [])
theorem endI_len (ty : List Int) : (endI ty 1 0 == (ty.length : Int)) = (skip 1 ty == some []) := by
  unfold endI
  rw [List.drop_zero]
  cases h : skip 1 ty with
  | none => simp
  | some r =>
    obtain ⟨p, hp, hl⟩ := skip_suffix _ _ _ h
    have hlen : ty.length = p.length + r.length := by rw [hp, List.length_append]
    cases r with
    | nil => simp
    | cons x xs =>
      simp only [List.length_cons] at hlen ⊢
      simp
      omega
theorem sType (ty : List Int) (hty : ty.length ≤ 1099511627776) : spec_l2Type ty = some (wtB ty) := by
  unfold spec_l2Type wtB
  by_cases h : ty.length ≤ 40
  · rw [decide_eq_true (by omega : (ty.length : Int) ≤ 40), if_pos rfl, show (0 : Int) = ((0 : Nat) : Int) from rfl, sEnd ty hty 0 (by omega), bs, endI_len, decide_eq_true h]
    cases hs : skip 1 ty == some [] with
    | false => rfl
    | true =>
      have : 0 < ty.length := by
        rcases ty with _ | ⟨c, l⟩
        · rw [show skip 1 [] = none from rfl] at hs; cases hs
        · simp
      rw [if_pos rfl, decide_eq_true (by omega : (ty.length : Int) > ((0 : Nat) : Int))]; rfl
  · rw [decide_eq_false (by omega : ¬ (ty.length : Int) ≤ 40), decide_eq_false h]; rfl
theorem iType (ty : List Int) (hty : ty.length ≤ 1099511627776) : impl_isWrittenType ty = some (wtB ty) := by
  unfold impl_isWrittenType wtB
  rw [iIn, bs]
  by_cases h : ty.length ≤ 40
  · rw [decide_eq_true h]
    by_cases h1 : 1 ≤ ty.length
    · have : inB (ty.length : Int) 1 40 = true := by simp only [inB, Bool.and_eq_true, decide_eq_true_eq]; omega
      rw [this, if_pos rfl, show (0 : Int) = ((0 : Nat) : Int) from rfl, iEnd ty hty _ 0 rfl, bs, endI_len]; rfl
    · have : inB (ty.length : Int) 1 40 = false := by rw [Bool.eq_false_iff]; intro h'; simp only [inB, Bool.and_eq_true, decide_eq_true_eq] at h'; omega
      have e : ty = [] := List.length_eq_zero_iff.1 (by omega)
      rw [this, e]; rfl
  · have : inB (ty.length : Int) 1 40 = false := by rw [Bool.eq_false_iff]; intro h'; simp only [inB, Bool.and_eq_true, decide_eq_true_eq] at h'; omega
    rw [this, decide_eq_false h]; rfl
/-- A code's grade is one of so many (closed: and is told). -/
def gradeC (c : Int) : Int := if 35 ≤ c then -1 else if 19 ≤ c then c - 19 else c - 3
def gokC (size : Int) (closed : Bool) (c : Int) : Bool := !(decide (kidsC c > 0) && decide (c > 2) && (decide (gradeC c ≥ size) || closed && decide (gradeC c < 0)))
theorem sGrade {c : Int} (h : kidsC c > 0) : spec_l2Grade c = some (gradeC c) := by
  have : 0 ≤ c ∧ c ≤ 36 := by rcases kidsC_cases c with h | h | h | h <;> omega
  unfold spec_l2Grade gradeC
  by_cases h1 : 35 ≤ c
  · rw [decide_eq_true (by omega : c ≥ 35), if_pos rfl, if_pos h1]
  · rw [decide_eq_false (by omega : ¬ c ≥ 35), if_neg (by decide), if_neg h1]
    by_cases h2 : 19 ≤ c
    · rw [decide_eq_true (by omega : c ≥ 19), if_pos rfl, if_pos h2, wr_id (by omega) (by omega)]
    · rw [decide_eq_false (by omega : ¬ c ≥ 19), if_neg (by decide), if_neg h2, wr_id (by omega) (by omega)]
theorem sGraded_l0 (ty : List Int) (hty : ty.length ≤ 1099511627776) (size : Int) (cl : Bool) : ∀ (l : List Int) (i : Nat), ty.drop i = l → spec_l2Graded_l0 (ty, size, cl, (i : Int)) = some (if l.all (gokC size cl) then .inl () else .inr false) := by
  intro l
  induction l with
  | nil =>
    intro i hl
    rw [spec_l2Graded_l0.eq_def]
    simp only
    rw [lt_f (drop_nil_le hl)]; rfl
  | cons c l ih =>
    intro i hl
    obtain ⟨hi, hx, hd⟩ := drop_cons_get hl
    rw [spec_l2Graded_l0.eq_def]
    simp only
    rw [lt_t hi, if_pos rfl, hx, bs, bs, sKids, bs, wr_succ (by omega)]
    have ih := ih (i + 1) hd
    generalize ((i + 1 : Nat) : Int) = M at ih ⊢
    rw [List.all_cons]
    unfold gokC at ih ⊢
    by_cases hk : kidsC c > 0
    · simp only [bs, sGrade hk]
      rw [decide_eq_true hk]
      generalize gradeC c = g at ih ⊢
      cases decide (c > 2) <;> cases decide (g ≥ size) <;> cases cl <;> cases decide (g < 0) <;> simp [bs, ih]
    · rw [decide_eq_false hk]; simp [bs, ih]
theorem sGraded (ty : List Int) (hty : ty.length ≤ 1099511627776) (size : Int) (cl : Bool) : spec_l2Graded (ty, size, cl) = some (ty.all (gokC size cl)) := by
  unfold spec_l2Graded
  simp only
  rw [show (0 : Int) = ((0 : Nat) : Int) from rfl, sGraded_l0 ty hty size cl _ 0 rfl, List.drop_zero, bs]
  cases ty.all (gokC size cl) <;> rfl
theorem gok16 (c : Int) : gokC 16 false c = true := by
  unfold gokC gradeC
  rcases kidsC_cases c with ⟨h, e⟩ | ⟨h, e⟩ | ⟨h, e⟩ | ⟨h, e⟩ <;> rw [e] <;> simp <;> split <;> (try split) <;> omega
theorem bind_of {α β : Type} {a : Option α} {f : α → Option β} {x : α} (h : a = some x) : (a >>= f) = f x := by rw [h]; rfl
mutual
def tsz : GTerm → Nat
  | ⟨_, _, _, ks⟩ => 1 + tszs ks
def tszs : List GTerm → Nat
  | [] => 0
  | k :: ks => tsz k + tszs ks
end
mutual
/-- What a term holds in all its rows. -/
def tms : GTerm → Nat
  | ⟨_, _, ty, ks⟩ => ty.length + ks.length + tmss ks
def tmss : List GTerm → Nat
  | [] => 0
  | k :: ks => tms k + tmss ks
end
theorem tms_eq (t : GTerm) : tms t = t.fType.length + t.fKids.length + tmss t.fKids := by cases t; rw [tms]
theorem tsz_eq (t : GTerm) : tsz t = 1 + tszs t.fKids := by cases t; rw [tsz]
def leftI (left n : Nat) : Int := if n ≤ left then ((left - n : Nat) : Int) else -1
theorem leftI_le {left n : Nat} (h : n ≤ left) : leftI left n = ((left - n : Nat) : Int) := if_pos h
theorem leftI_gt {left n : Nat} (h : ¬ n ≤ left) : leftI left n = -1 := if_neg h
theorem sLeft_neg (t : GTerm) (i : Int) : spec_l2Left_l0 (t, -1, i) = some (-1) := by
  rw [spec_l2Left_l0.eq_def]
  simp only
  cases decide (i < (t.fKids.length : Int)) <;> rfl
mutual
theorem sLeft : ∀ (t : GTerm) (left : Nat), tms t ≤ 1099511627776 → left ≤ 1048576 → spec_l2Left (t, (left : Int)) = some (leftI left (tsz t))
  | ⟨op, N, ty, ks⟩, left, ht, hl => by
    rw [tms] at ht
    rw [spec_l2Left.eq_def, tsz]
    simp only
    rcases left with _ | l
    · rw [show wr (((0 : Nat) : Int) - 1) = -1 from wr_id (by omega) (by omega), sLeft_neg, bs, leftI_gt (by omega)]
    · have h := sLeft_l0 ks ⟨op, N, ty, ks⟩ 0 l rfl (by simp only; omega) (by omega) (by omega)
      rw [wr_id (by omega) (by omega), show ((l + 1 : Nat) : Int) - 1 = (l : Int) by omega, show (0 : Int) = ((0 : Nat) : Int) from rfl, h, bs]
      unfold leftI
      by_cases q : tszs ks ≤ l
      · rw [if_pos q, if_pos (by omega), show l + 1 - (1 + tszs ks) = l - tszs ks by omega]
      · rw [if_neg q, if_neg (by omega)]
theorem sLeft_l0 : ∀ (ks : List GTerm) (t : GTerm) (i left : Nat), t.fKids.drop i = ks → t.fKids.length ≤ 1099511627776 → tmss ks ≤ 1099511627776 → left ≤ 1048576 → spec_l2Left_l0 (t, (left : Int), (i : Int)) = some (leftI left (tszs ks))
  | [], t, i, left, hd, hk, ht, hl => by
    rw [spec_l2Left_l0.eq_def, tszs]
    simp only
    rw [lt_f (drop_nil_le hd)]
    simp [bs, leftI]
  | k :: ks, t, i, left, hd, hk, ht, hl => by
    obtain ⟨hi, hx, hd'⟩ := drop_cons_get hd
    rw [tmss] at ht
    rw [spec_l2Left_l0.eq_def, tszs]
    simp only
    rw [lt_t hi, if_pos rfl, bs, decide_eq_true (by omega : ((left : Nat) : Int) ≥ 0), if_pos rfl, hx, bs, sLeft k left (by omega) hl, bs, wr_succ (by omega)]
    by_cases q : tsz k ≤ left
    · rw [leftI_le q, sLeft_l0 ks t (i + 1) (left - tsz k) hd' hk (by omega) (by omega)]
      unfold leftI
      by_cases q2 : tszs ks ≤ left - tsz k
      · rw [if_pos q2, if_pos (by omega)]; congr 2; omega
      · rw [if_neg q2, if_neg (by omega)]
    · rw [leftI_gt q, sLeft_neg, leftI_gt (by omega)]
end
def manyI (op : Int) : Int := if inB op 0 12 then ([0, 0, 2, 3, 2, 2, 1, 1, 3, 1, 2, 1, 2] : List Int).getD op.toNat 0 else -1
def hasG (op : Int) : Bool := op == 5 || op == 8 || op == 9 || op == 11 || op == 12
def typedG (op : Int) : Bool := op == 6 || op == 7 || op == 9
def wordG (op : Int) : ByteArray := ([ByteArray.mk #[120], ByteArray.empty, ByteArray.mk #[97, 100, 100], ByteArray.mk #[105, 102], ByteArray.mk #[112, 97, 105, 114], ByteArray.mk #[115, 112, 108, 105, 116], ByteArray.mk #[108, 101, 102, 116],
  ByteArray.mk #[114, 105, 103, 104, 116], ByteArray.mk #[99, 97, 115, 101], ByteArray.mk #[102, 117, 110], ByteArray.mk #[97, 112, 112], ByteArray.mk #[98, 111, 120], ByteArray.mk #[111, 112, 101, 110]] : List ByteArray).getD op.toNat ByteArray.empty
theorem op_cases {op : Int} (h : inB op 0 12 = true) : op = 0 ∨ op = 1 ∨ op = 2 ∨ op = 3 ∨ op = 4 ∨ op = 5 ∨ op = 6 ∨ op = 7 ∨ op = 8 ∨ op = 9 ∨ op = 10 ∨ op = 11 ∨ op = 12 := by
  simp only [inB, Bool.and_eq_true, decide_eq_true_eq] at h
  omega
theorem sMany (op : Int) : spec_l2Many op = some (manyI op) := by
  unfold spec_l2Many manyI
  rw [sIn, bs]
  cases h : inB op 0 12
  · rfl
  · rcases op_cases h with rfl | rfl | rfl | rfl | rfl | rfl | rfl | rfl | rfl | rfl | rfl | rfl | rfl <;> rfl
theorem sHas (op : Int) : spec_l2Has op = some (hasG op) := by
  unfold spec_l2Has hasG
  cases op == 5 <;> cases op == 8 <;> cases op == 9 <;> cases op == 11 <;> rfl
theorem sTyped (op : Int) : spec_l2Typed op = some (typedG op) := by
  unfold spec_l2Typed typedG
  cases op == 6 <;> cases op == 7 <;> rfl
def formG (op : Int) : GForm × Bool := if inB op 0 12 then (GForm.mk (wordG op) (manyI op) (hasG op) (typedG op), true) else (GForm.mk ByteArray.empty 0 false false, false)
theorem iForm (op : Int) : impl_formOf op = some (formG op) := by
  unfold impl_formOf formG
  rw [iIn, bs]
  cases h : inB op 0 12
  · rfl
  · rcases op_cases h with rfl | rfl | rfl | rfl | rfl | rfl | rfl | rfl | rfl | rfl | rfl | rfl | rfl <;> rfl
def addsI (op kid : Int) : Nat := if op == 5 && kid == 1 then 2 else if (op == 8 && decide (kid > 0)) || op == 9 || (op == 12 && kid == 1) then 1 else 0
theorem addsI_le (op kid : Int) : addsI op kid ≤ 2 := by unfold addsI; split <;> (try split) <;> omega
theorem sAdds (op kid : Int) : spec_l2Adds (op, kid) = some ((addsI op kid : Nat) : Int) := by
  unfold spec_l2Adds addsI
  simp only
  generalize (op == 5) = b1
  generalize (op == 8) = b2
  generalize (op == 9) = b3
  generalize (op == 12) = b4
  generalize (kid == 1) = b5
  generalize decide (kid > 0) = b6
  cases b1 <;> cases b2 <;> cases b3 <;> cases b4 <;> cases b5 <;> cases b6 <;> rfl
theorem iAdds (op kid : Int) : impl_adds (op, kid) = some ((addsI op kid : Nat) : Int) := by
  unfold impl_adds addsI
  simp only
  generalize (op == 5) = b1
  generalize (op == 8) = b2
  generalize (op == 9) = b3
  generalize (op == 12) = b4
  generalize (kid == 1) = b5
  generalize decide (kid > 0) = b6
  cases b1 <;> cases b2 <;> cases b3 <;> cases b4 <;> cases b5 <;> cases b6 <;> rfl
def nOkN (g : Int → Bool) (n : Int) (t : GTerm) : Bool := if t.fOp == 0 then inB t.fN 0 (n - 1) else if t.fOp == 1 then inB t.fN 0 2 else if hasG t.fOp then g t.fN else t.fN == 0
def nOkY (y : List Int → Bool) (t : GTerm) : Bool := if typedG t.fOp then y t.fType else (t.fType.length : Int) == 0
def nodeOk (g : Int → Bool) (y : List Int → Bool) (n : Int) (t : GTerm) : Bool := inB t.fOp 0 12 && ((t.fKids.length : Int) == manyI t.fOp) && nOkN g n t && nOkY y t
mutual
def tOk (g : Int → Bool) (y : List Int → Bool) : Nat → GTerm → Bool
  | n, ⟨op, N, ty, ks⟩ => nodeOk g y (n : Int) ⟨op, N, ty, ks⟩ && tOks g y op n 0 ks
def tOks (g : Int → Bool) (y : List Int → Bool) : Int → Nat → Nat → List GTerm → Bool
  | _, _, _, [] => true
  | op, n, i, k :: ks => tOk g y (n + addsI op (i : Int)) k && tOks g y op n (i + 1) ks
end
theorem tOk_eq (g : Int → Bool) (y : List Int → Bool) (n : Nat) (t : GTerm) : tOk g y n t = (nodeOk g y (n : Int) t && tOks g y t.fOp n 0 t.fKids) := by cases t; rw [tOk]
def gN (size : Int) (cl : Bool) (x : Int) : Bool := !(decide (x ≥ size) || decide (x < -1) || cl && decide (x < 0))
def yN (size : Int) (cl : Bool) (ty : List Int) : Bool := wtB ty && ty.all (gokC size cl)
theorem sNode (t : GTerm) (n : Nat) (size : Int) (cl : Bool) (hty : t.fType.length ≤ 1099511627776) (hn : n ≤ 35184372088832) : spec_l2Node (t, (n : Int), size, cl) = some (nodeOk (gN size cl) (yN size cl) (n : Int) t) := by
  unfold spec_l2Node nodeOk
  simp only
  rw [sMany, bs]
  by_cases hk : (t.fKids.length : Int) = manyI t.fOp
  · have hop : inB t.fOp 0 12 = true := by
      cases h : inB t.fOp 0 12
      · unfold manyI at hk; rw [h] at hk; simp at hk
      · rfl
    rw [show ((t.fKids.length : Int) != manyI t.fOp) = false by rw [hk]; exact bne_self, if_neg (by decide), show ((t.fKids.length : Int) == manyI t.fOp) = true by rw [hk]; simp, hop]
    refine (bind_of (x := if nOkN (gN size cl) (n : Int) t then .inl () else .inr false) ?_).trans ?_
    · unfold nOkN gN
      rw [sIn, wr_id (by omega) (by omega), sIn, sHas]
      simp only [bs]
      generalize inB t.fN 0 ((n : Int) - 1) = b1
      generalize inB t.fN 0 2 = b2
      generalize hasG t.fOp = b3
      rw [show (t.fN != 0) = !(t.fN == 0) from rfl]
      generalize (t.fN == 0) = b4
      generalize decide (t.fN ≥ size) = b5
      generalize decide (t.fN < -1) = b6
      generalize decide (t.fN < 0) = b7
      generalize (t.fOp == 0) = b8
      generalize (t.fOp == 1) = b9
      cases b8
      · cases b9
        · cases b3
          · cases b4 <;> rfl
          · cases b5 <;> cases b6 <;> cases cl <;> cases b7 <;> rfl
        · cases b2 <;> rfl
      · cases b1 <;> rfl
    · cases nOkN (gN size cl) (n : Int) t
      · simp
      · unfold nOkY yN
        simp only [if_true]
        rw [sTyped, bs]
        cases typedG t.fOp
        · simp
        · simp only [if_true]
          rw [sType _ hty, sGraded _ hty]
          cases wtB t.fType <;> simp [bs]
  · rw [show ((t.fKids.length : Int) != manyI t.fOp) = true by simpa using hk, if_pos rfl, show ((t.fKids.length : Int) == manyI t.fOp) = false by simpa using hk]
    simp
mutual
theorem sTerm (size : Int) (cl : Bool) : ∀ (t : GTerm) (n : Nat), tms t ≤ 1099511627776 → n + 2 * tms t ≤ 35184372088832 → spec_l2Term (t, (n : Int), size, cl) = some (tOk (gN size cl) (yN size cl) n t)
  | ⟨op, N, ty, ks⟩, n, ht, hn => by
    rw [tms] at ht hn
    rw [spec_l2Term.eq_def, tOk]
    simp only
    rw [sNode _ n size cl (by simp only; omega) (by omega), bs]
    cases hb : nodeOk (gN size cl) (yN size cl) (n : Int) ⟨op, N, ty, ks⟩
    · rfl
    · have h := sTerm_l0 size cl ks ⟨op, N, ty, ks⟩ n 0 rfl (by simp only; omega) (by omega) (by omega)
      rw [if_pos rfl, show (0 : Int) = ((0 : Nat) : Int) from rfl, h, bs]
      simp only
      cases tOks (gN size cl) (yN size cl) op n 0 ks <;> rfl
theorem sTerm_l0 (size : Int) (cl : Bool) : ∀ (ks : List GTerm) (t : GTerm) (n i : Nat), t.fKids.drop i = ks → t.fKids.length ≤ 1099511627776 → tmss ks ≤ 1099511627776 → n + 2 * (ks.length + tmss ks) ≤ 35184372088832 →
    spec_l2Term_l0 (t, (n : Int), size, cl, (i : Int)) = some (if tOks (gN size cl) (yN size cl) t.fOp n i ks then .inl () else .inr false)
  | [], t, n, i, hd, hk, ht, hn => by
    rw [spec_l2Term_l0.eq_def, tOks]
    simp only
    rw [lt_f (drop_nil_le hd)]; rfl
  | k :: ks, t, n, i, hd, hk, ht, hn => by
    obtain ⟨hi, hx, hd'⟩ := drop_cons_get hd
    rw [tmss] at ht hn
    rw [List.length_cons] at hn
    have ha := addsI_le t.fOp (i : Int)
    rw [spec_l2Term_l0.eq_def, tOks]
    simp only
    rw [lt_t hi, if_pos rfl, hx, bs, sAdds, bs, wr_id (by omega) (by omega), show (n : Int) + ((addsI t.fOp (i : Int) : Nat) : Int) = ((n + addsI t.fOp (i : Int) : Nat) : Int) by omega]
    rw [sTerm size cl k (n + addsI t.fOp (i : Int)) (by omega) (by omega), bs, wr_succ (by omega)]
    cases tOk (gN size cl) (yN size cl) (n + addsI t.fOp (i : Int)) k
    · rfl
    · rw [if_pos rfl, sTerm_l0 size cl ks t n (i + 1) hd' hk (by omega) (by omega), Bool.true_and]
end
def chkI (ok : Bool) (nodes sz : Nat) : Int := if ok && decide (nodes + sz ≤ 400) then ((nodes + sz : Nat) : Int) else 401
theorem iWs (x : Int) : impl_writtenSize_c1 x = some (gN 16 false x) := by
  unfold impl_writtenSize_c1
  rw [iIn, bs]
  congr 1
  unfold gN inB
  by_cases h1 : x ≥ 16 <;> by_cases h2 : x < -1 <;> simp [h1, h2] <;> omega
mutual
theorem iCheckW : ∀ (t : GTerm) (n nodes : Nat), tms t ≤ 1099511627776 → n + 2 * tms t ≤ 35184372088832 → nodes ≤ 400 → impl_check_Kimpl_writtenSize_c1_Kimpl_isWrittenType (t, (n : Int), (nodes : Int)) = some (chkI (tOk (gN 16 false) wtB n t) nodes (tsz t))
  | ⟨op, N, ty, ks⟩, n, nodes, ht, hn, hd => by
    rw [tms] at ht hn
    rw [impl_check_Kimpl_writtenSize_c1_Kimpl_isWrittenType.eq_def, tOk, tsz]
    simp only
    rw [iForm, bs]
    unfold formG
    cases hop : inB op 0 12
    · simp [nodeOk, hop, chkI]
    · simp only [if_true]
      rw [wr_succ (by omega)]
      by_cases h4 : nodes + 1 ≤ 400
      · rw [decide_eq_false (by omega : ¬ ((nodes + 1 : Nat) : Int) > 400)]
        by_cases hk : (ks.length : Int) = manyI op
        · rw [show ((ks.length : Int) != manyI op) = false by rw [hk]; exact bne_self]
          simp only [Bool.false_eq_true, if_false, bs]
          refine (bind_of (x := nOkN (gN 16 false) (n : Int) ⟨op, N, ty, ks⟩) ?_).trans ?_
          · unfold nOkN
            simp only [iIn, wr_id (x := (n : Int) - 1) (by omega) (by omega), iWs, bs]
            cases op == 0 <;> cases op == 1 <;> cases hasG op <;> rfl
          refine (bind_of (x := nOkN (gN 16 false) (n : Int) ⟨op, N, ty, ks⟩ && nOkY wtB ⟨op, N, ty, ks⟩) ?_).trans ?_
          · unfold nOkY
            simp only [iType ty (by omega), bs]
            cases typedG op <;> cases nOkN (gN 16 false) (n : Int) ⟨op, N, ty, ks⟩ <;> rfl
          have e : nodeOk (gN 16 false) wtB (n : Int) ⟨op, N, ty, ks⟩ = (nOkN (gN 16 false) (n : Int) ⟨op, N, ty, ks⟩ && nOkY wtB ⟨op, N, ty, ks⟩) := by
            unfold nodeOk
            simp only
            rw [hop, hk]; simp
          rw [e]
          cases nOkN (gN 16 false) (n : Int) ⟨op, N, ty, ks⟩ && nOkY wtB ⟨op, N, ty, ks⟩
          · simp [chkI]
          · have h := iCheckW_l0 ks ⟨op, N, ty, ks⟩ n (nodes + 1) 0 rfl (by simp only; omega) (by omega) (by omega) h4
            rw [if_pos rfl, show (0 : Int) = ((0 : Nat) : Int) from rfl, h]
            simp only [Bool.true_and]
            unfold chkI
            rw [show nodes + (1 + tszs ks) = nodes + 1 + tszs ks by omega]
            cases tOks (gN 16 false) wtB op n 0 ks && decide (nodes + 1 + tszs ks ≤ 400) <;> rfl
        · rw [show ((ks.length : Int) != manyI op) = true by simpa using hk]
          have e : nodeOk (gN 16 false) wtB (n : Int) ⟨op, N, ty, ks⟩ = false := by
            unfold nodeOk
            simp only
            rw [show ((ks.length : Int) == manyI op) = false by simpa using hk]; simp
          simp [e, chkI]
      · rw [decide_eq_true (by omega : ((nodes + 1 : Nat) : Int) > 400)]
        have : ¬ nodes + (1 + tszs ks) ≤ 400 := by omega
        simp [chkI, this]
theorem iCheckW_l0 : ∀ (ks : List GTerm) (t : GTerm) (n nodes i : Nat), t.fKids.drop i = ks → t.fKids.length ≤ 1099511627776 → tmss ks ≤ 1099511627776 → n + 2 * (ks.length + tmss ks) ≤ 35184372088832 → nodes ≤ 400 →
    impl_check_Kimpl_writtenSize_c1_Kimpl_isWrittenType_l0 (t, (n : Int), (nodes : Int), (i : Int)) = some (if tOks (gN 16 false) wtB t.fOp n i ks && decide (nodes + tszs ks ≤ 400) then .inl ((nodes + tszs ks : Nat) : Int) else .inr 401)
  | [], t, n, nodes, i, hd, hk, ht, hn, h4 => by
    rw [impl_check_Kimpl_writtenSize_c1_Kimpl_isWrittenType_l0.eq_def, tOks, tszs]
    simp only
    rw [lt_f (drop_nil_le hd)]
    simp [h4]
  | k :: ks, t, n, nodes, i, hd, hk, ht, hn, h4 => by
    obtain ⟨hi, hx, hd'⟩ := drop_cons_get hd
    rw [tmss] at ht hn
    rw [List.length_cons] at hn
    have ha := addsI_le t.fOp (i : Int)
    rw [impl_check_Kimpl_writtenSize_c1_Kimpl_isWrittenType_l0.eq_def, tOks, tszs]
    simp only
    rw [lt_t hi, if_pos rfl, hx, bs, iAdds, bs, wr_id (by omega) (by omega), show (n : Int) + ((addsI t.fOp (i : Int) : Nat) : Int) = ((n + addsI t.fOp (i : Int) : Nat) : Int) by omega]
    rw [iCheckW k (n + addsI t.fOp (i : Int)) nodes (by omega) (by omega) h4, bs, wr_succ (by omega)]
    unfold chkI
    cases tOk (gN 16 false) wtB (n + addsI t.fOp (i : Int)) k
    · rfl
    · by_cases q : nodes + tsz k ≤ 400
      · rw [decide_eq_true q, Bool.true_and, if_pos rfl, decide_eq_false (by omega : ¬ ((nodes + tsz k : Nat) : Int) > 400), if_neg (by decide), iCheckW_l0 ks t n (nodes + tsz k) (i + 1) hd' hk (by omega) (by omega) q, Nat.add_assoc, Bool.true_and]
      · rw [decide_eq_false q, decide_eq_false (by omega : ¬ nodes + (tsz k + tszs ks) ≤ 400)]
        simp
end
theorem yN16 (ty : List Int) : yN 16 false ty = wtB ty := by
  unfold yN
  have : ty.all (gokC 16 false) = true := by rw [List.all_eq_true]; intro x _; exact gok16 x
  rw [this, Bool.and_true]
/-- A written term. -/
def wB (t : GTerm) : Bool := tOk (gN 16 false) wtB 8 t && decide (tsz t ≤ 400)
theorem iWsize (t : GTerm) (ht : tms t ≤ 1099511627776) : impl_writtenSize t = some (chkI (tOk (gN 16 false) wtB 8 t) 0 (tsz t)) := by
  unfold impl_writtenSize
  have := iCheckW t 8 0 ht (by omega) (by omega)
  rw [show ((8 : Nat) : Int) = 8 from rfl, show ((0 : Nat) : Int) = 0 from rfl] at this
  rw [this, bs]
theorem iWritten (t : GTerm) (ht : tms t ≤ 1099511627776) : impl_IsWritten t = some (wB t) := by
  unfold impl_IsWritten
  rw [iWsize t ht, bs]
  unfold chkI wB
  rw [Nat.zero_add]
  congr 1
  cases h : tOk (gN 16 false) wtB 8 t && decide (tsz t ≤ 400)
  · rfl
  · simp only [Bool.and_eq_true, decide_eq_true_eq] at h
    rw [if_pos rfl, decide_eq_true (by omega)]
theorem sWritten (t : GTerm) (ht : tms t ≤ 1099511627776) : spec_IsWritten t = some (wB t) := by
  unfold spec_IsWritten wB
  have h1 := sLeft t 400 ht (by omega)
  have h2 := sTerm 16 false t 8 ht (by omega)
  rw [show ((400 : Nat) : Int) = 400 from rfl] at h1
  rw [show ((8 : Nat) : Int) = 8 from rfl, show yN 16 false = wtB from funext yN16] at h2
  rw [h1, bs, h2]
  unfold leftI
  by_cases q : tsz t ≤ 400
  · rw [if_pos q, decide_eq_true (by omega : (((400 - tsz t : Nat)) : Int) ≥ 0), decide_eq_true q, Bool.and_true]; rfl
  · rw [if_neg q, decide_eq_false q, Bool.and_false]; rfl
/-- What is left of a measure. -/
def szB (left : Int) (n : Nat) : Int := if left - (n : Int) < 0 then -1 else left - (n : Int)
theorem szB_cases (left : Int) (n : Nat) : (szB left n = -1 ∧ left < n) ∨ (szB left n = left - n ∧ (n : Int) ≤ left) := by
  unfold szB
  by_cases h : left - (n : Int) < 0
  · rw [if_pos h]; left; omega
  · rw [if_neg h]; right; omega
theorem szIntS_eq (a : List Int) (left : Int) (h1 : 0 ≤ left) (h2 : left ≤ 1048576) (ha : a.length ≤ 9223372036854775807) : laws_szIntS (a, left) = some (szB left a.length) := by
  unfold laws_szIntS szB
  simp only
  rw [wr_id (by omega) (by omega)]
  by_cases h : left - (a.length : Int) < 0
  · rw [decide_eq_true h, if_pos rfl, if_pos h]
  · rw [decide_eq_false h, if_neg (by decide), if_neg h]
mutual
/-- All rows are of a length that a machine can bear. -/
def tln : GTerm → Prop
  | ⟨_, N, ty, ks⟩ => ty.length ≤ 9223372036854775807 ∧ ks.length ≤ 9223372036854775807 ∧ tlns ks ∧ (-9223372036854775808 ≤ N ∧ N ≤ 9223372036854775807)
def tlns : List GTerm → Prop
  | [] => True
  | k :: ks => tln k ∧ tlns ks
end
mutual
theorem szTerm_eq : ∀ (t : GTerm) (left : Int), tln t → 0 ≤ left → left ≤ 1048576 → laws_szTerm (t, left) = some (szB left (tms t))
  | ⟨op, N, ty, ks⟩, left, hl, h1, h2 => by
    rw [tln] at hl
    rw [laws_szTerm.eq_def, tms]
    simp only
    rw [szIntS_eq ty left h1 h2 hl.1, bs]
    rcases szB_cases left ty.length with ⟨e, h⟩ | ⟨e, h⟩
    · rw [e, decide_eq_true (by decide), if_pos rfl]
      unfold szB; rw [if_pos (by omega)]
    · rw [e, decide_eq_false (by omega), if_neg (by decide), laws_szTermS.eq_def]
      simp only
      rw [wr_id (by omega) (by omega)]
      by_cases h3 : left - (ty.length : Int) - (ks.length : Int) < 0
      · rw [decide_eq_true h3, if_pos rfl, bs, decide_eq_true (by decide), if_pos rfl]
        unfold szB; rw [if_pos (by omega)]
      · obtain ⟨m, hm⟩ : ∃ m : Nat, left - (ty.length : Int) - (ks.length : Int) = (m : Int) := ⟨(left - (ty.length : Int) - (ks.length : Int)).toNat, by omega⟩
        rw [decide_eq_false h3, if_neg (by decide), hm, show (0 : Int) = ((0 : Nat) : Int) from rfl, szTermS_l0 ks ks 0 m rfl hl.2.1 hl.2.2.1 (by omega), bs]
        unfold szB
        by_cases q : m < tmss ks
        · rw [if_pos q, if_pos (by omega)]; rfl
        · rw [if_neg q, if_neg (by omega)]
          simp only [bs]
          rw [decide_eq_false (by omega), if_neg (by decide)]; congr 1; omega
theorem szTermS_l0 : ∀ (ks a : List GTerm) (i left : Nat), a.drop i = ks → a.length ≤ 9223372036854775807 → tlns ks → left ≤ 1048576 → laws_szTermS_l0 (a, (left : Int), (i : Int)) = some (if left < tmss ks then .inr (-1) else .inl ((left - tmss ks : Nat) : Int))
  | [], a, i, left, hd, ha, hl, h => by
    rw [laws_szTermS_l0.eq_def, tmss]
    simp only
    rw [lt_f (drop_nil_le hd)]
    simp
  | k :: ks, a, i, left, hd, ha, hl, h => by
    obtain ⟨hi, hx, hd'⟩ := drop_cons_get hd
    rw [tlns] at hl
    rw [laws_szTermS_l0.eq_def, tmss]
    simp only
    rw [lt_t hi, if_pos rfl, hx, bs, szTerm_eq k left hl.1 (by omega) (by omega), bs, wr_succ (by omega)]
    rcases szB_cases left (tms k) with ⟨e, q⟩ | ⟨e, q⟩
    · rw [e, decide_eq_true (by decide), if_pos rfl, if_pos (by omega)]
    · rw [e, decide_eq_false (by omega), if_neg (by decide), show (left : Int) - ((tms k : Nat) : Int) = ((left - tms k : Nat) : Int) by omega, szTermS_l0 ks a (i + 1) (left - tms k) hd' ha hl.2 (by omega)]
      by_cases q2 : left - tms k < tmss ks
      · rw [if_pos q2, if_pos (by omega)]
      · rw [if_neg q2, if_neg (by omega)]; congr 3; omega
end
mutual
theorem toTerm_id : ∀ (t : GTerm), tms t ≤ 1099511627776 → laws_toTerm t = some t
  | ⟨op, N, ty, ks⟩, h => by
    rw [tms] at h
    rw [laws_toTerm.eq_def]
    simp only
    rw [toIntS_id ty (by omega), bs, laws_toTermS.eq_def]
    have : chk (0 ≤ (ks.length : Int) ∧ (Int.toNat (ks.length : Int)) * 64 ≤ 140737488355328) = some () := by
      unfold chk; rw [if_pos]; refine ⟨by omega, ?_⟩; rw [Int.toNat_natCast]; omega
    rw [this, bs, Int.toNat_natCast, show (0 : Int) = ((0 : Nat) : Int) from rfl, toTermS_l0 ks ks (List.replicate ks.length (GTerm.mk ((0 : Nat) : Int) ((0 : Nat) : Int) [] [])) 0 rfl (by omega) (by omega) (by simp) rfl]
    rfl
theorem toTermS_l0 : ∀ (ks a out : List GTerm) (i : Nat), a.drop i = ks → a.length ≤ 1099511627776 → tmss ks ≤ 1099511627776 → out.length = a.length → out.take i = a.take i → laws_toTermS_l0 (a, out, (i : Int)) = some a
  | [], a, out, i, hd, ha, hl, ho, ht => by
    rw [laws_toTermS_l0.eq_def]
    simp only
    have hle := drop_nil_le hd
    rw [lt_f hle]
    rw [List.take_of_length_le (by omega), List.take_of_length_le (by omega)] at ht
    simp [ht]
  | k :: ks, a, out, i, hd, ha, hl, ho, ht => by
    obtain ⟨hi, hx, hd'⟩ := drop_cons_get hd
    have hk : a[i] = k := by rw [idx_get hi] at hx; exact Option.some.inj hx
    rw [tmss] at hl
    rw [laws_toTermS_l0.eq_def]
    simp only
    rw [lt_t hi, if_pos rfl, hx, bs, toTerm_id k (by omega), bs, idx_get (by omega), bs, wr_succ (by omega), Int.toNat_natCast]
    exact toTermS_l0 ks a _ (i + 1) hd' ha (by omega) (by simpa using ho) (by rw [← hk]; exact take_set_succ ho hi ht)
end
mutual
theorem eqTerm_refl : ∀ (t : GTerm), tms t ≤ 1099511627776 → laws_eqTerm (t, t) = some true
  | ⟨op, N, ty, ks⟩, h => by
    rw [tms] at h
    rw [laws_eqTerm.eq_def]
    simp only
    rw [bne_self, if_neg (by decide), bne_self, if_neg (by decide), eqIntS_refl ty (by omega), bs, if_pos rfl, laws_eqTermS.eq_def]
    simp only
    rw [bne_self, if_neg (by decide), show (0 : Int) = ((0 : Nat) : Int) from rfl, eqTermS_l0 ks ks 0 rfl (by omega) (by omega)]
    rfl
theorem eqTermS_l0 : ∀ (ks a : List GTerm) (i : Nat), a.drop i = ks → a.length ≤ 1099511627776 → tmss ks ≤ 1099511627776 → laws_eqTermS_l0 (a, a, (i : Int)) = some (.inl ())
  | [], a, i, hd, ha, hl => by
    rw [laws_eqTermS_l0.eq_def]
    simp only
    rw [lt_f (drop_nil_le hd)]
    rfl
  | k :: ks, a, i, hd, ha, hl => by
    obtain ⟨hi, hx, hd'⟩ := drop_cons_get hd
    rw [tmss] at hl
    rw [laws_eqTermS_l0.eq_def]
    simp only
    rw [lt_t hi, if_pos rfl, hx, bs, bs, eqTerm_refl k (by omega), bs, if_pos rfl, wr_succ (by omega)]
    exact eqTermS_l0 ks a (i + 1) hd' ha (by omega)
end
theorem tOk_node {g : Int → Bool} {y : List Int → Bool} {n : Nat} {t : GTerm} (h : tOk g y n t = true) : nodeOk g y (n : Int) t = true ∧ tOks g y t.fOp n 0 t.fKids = true := by
  rw [tOk_eq, Bool.and_eq_true] at h; exact h
theorem fits_ok {n b : Nat} (h : n * b ≤ 140737488355328) : fits n b = some () := by unfold fits chk; rw [if_pos h]
def opAt (l : List GTerm) (i : Nat) : Int := match l[i]? with | some t => t.fOp | none => -1
/-- A redex, by the ops of its root and of the first kids. -/
def redB (t : GTerm) : Bool :=
  if t.fKids.length = 0 then false else
  if t.fOp == 2 then opAt t.fKids 0 == 1 && opAt t.fKids 1 == 1 else if t.fOp == 3 then opAt t.fKids 0 == 1 else if t.fOp == 10 then opAt t.fKids 0 == 9 else if t.fOp == 5 then opAt t.fKids 0 == 4
  else if t.fOp == 8 then opAt t.fKids 0 == 6 || opAt t.fKids 0 == 7 else if t.fOp == 12 then opAt t.fKids 0 == 11 else false
theorem nodeOk_many {g : Int → Bool} {y : List Int → Bool} {n : Int} {t : GTerm} (h : nodeOk g y n t = true) : inB t.fOp 0 12 = true ∧ (t.fKids.length : Int) = manyI t.fOp := by
  unfold nodeOk at h
  simp only [Bool.and_eq_true, beq_iff_eq] at h
  exact ⟨h.1.1.1, h.1.1.2⟩
theorem idx_opAt {l : List GTerm} {i : Nat} (h : i < l.length) : ∃ t, idx l (i : Int) = some t ∧ t.fOp = opAt l i := ⟨l[i], idx_get h, by unfold opAt; rw [List.getElem?_eq_getElem h]⟩
mutual
def reds : GTerm → List Int → List (List Int)
  | ⟨op, N, ty, ks⟩, p => (if redB ⟨op, N, ty, ks⟩ then [p] else []) ++ redss ks 0 p
def redss : List GTerm → Nat → List Int → List (List Int)
  | [], _, _ => []
  | k :: ks, i, p => reds k (p ++ [(i : Int)]) ++ redss ks (i + 1) p
end
mutual
theorem reds_le : ∀ (t : GTerm) (p : List Int), (reds t p).length ≤ tsz t
  | ⟨op, N, ty, ks⟩, p => by
    rw [reds, tsz, List.length_append]
    have := redss_le ks 0 p
    split <;> simp <;> omega
theorem redss_le : ∀ (ks : List GTerm) (i : Nat) (p : List Int), (redss ks i p).length ≤ tszs ks
  | [], i, p => by simp [redss]
  | k :: ks, i, p => by
    rw [redss, tszs, List.length_append]
    have := reds_le k (p ++ [(i : Int)])
    have := redss_le ks (i + 1) p
    omega
end
theorem kids_le_tszs : ∀ (ks : List GTerm), ks.length ≤ tszs ks
  | [] => by simp [tszs]
  | k :: ks => by
    have := kids_le_tszs ks
    have := tsz_eq k
    rw [tszs, List.length_cons]; omega
theorem sCopy (l : List Int) (h : l.length ≤ 1099511627776) : spec_l1Copy l = some l := by
  unfold spec_l1Copy
  rw [fits_ok (by simp only [List.length_nil]; omega), bs]
theorem sRedex (t : GTerm) (h : inB t.fOp 0 12 = true ∧ (t.fKids.length : Int) = manyI t.fOp) : spec_l4Redex t = some (redB t) := by
  obtain ⟨hop, hk⟩ := h
  unfold spec_l4Redex redB
  by_cases h0 : t.fKids.length = 0
  · rw [if_pos h0, show ((t.fKids.length : Int) == 0) = true by rw [h0]; rfl, if_pos rfl]
  · obtain ⟨a, ha, ea⟩ := idx_opAt (l := t.fKids) (i := 0) (by omega)
    rw [if_neg h0, show ((t.fKids.length : Int) == 0) = false from beq_eq_false_iff_ne.2 (by omega), if_neg (by decide), show (0 : Int) = ((0 : Nat) : Int) from rfl, ha, bs, ea]
    cases h2 : t.fOp == 2
    · cases t.fOp == 3 <;> cases t.fOp == 10 <;> cases t.fOp == 5 <;> cases t.fOp == 8 <;> cases t.fOp == 12 <;> (try rfl)
      all_goals cases opAt t.fKids 0 == 6 <;> rfl
    · have h2' := eq_of_beq h2
      have hl : t.fKids.length = 2 := by rw [h2'] at hk; have : manyI 2 = 2 := rfl; omega
      obtain ⟨b, hb, eb⟩ := idx_opAt (l := t.fKids) (i := 1) (by omega)
      rw [show (1 : Int) = ((1 : Nat) : Int) from rfl, hb]
      simp only [bs, eb]
      cases opAt t.fKids 0 == ((1 : Nat) : Int) <;> rfl
mutual
theorem sReds (g : Int → Bool) (y : List Int → Bool) : ∀ (t : GTerm) (m : Nat) (p : List Int), tOk g y m t = true → p.length + tsz t ≤ 1048576 → spec_l4Paths (t, p) = some (reds t p)
  | ⟨op, N, ty, ks⟩, m, p, hw, hp => by
    obtain ⟨hw1, hw2⟩ := tOk_node hw
    rw [tsz] at hp
    rw [spec_l4Paths.eq_def, reds]
    simp only
    rw [sRedex _ (nodeOk_many hw1), bs]
    refine (bind_of (x := if redB ⟨op, N, ty, ks⟩ then [p] else []) ?_).trans ?_
    · cases redB ⟨op, N, ty, ks⟩
      · rfl
      · rw [if_pos rfl, sCopy p (by omega), bs, fits_ok (by simp)]; rfl
    have h := sReds_l0 g y ks ⟨op, N, ty, ks⟩ m 0 p (if redB ⟨op, N, ty, ks⟩ then [p] else []) rfl hw2 (by simp only [tsz]; omega) (by split <;> simp <;> omega) (by simp only; have := kids_le_tszs ks; omega)
    rw [show (0 : Int) = ((0 : Nat) : Int) from rfl, h, bs]
theorem sReds_l0 (g : Int → Bool) (y : List Int → Bool) : ∀ (ks : List GTerm) (t : GTerm) (m i : Nat) (p : List Int) (out : List (List Int)), t.fKids.drop i = ks → tOks g y t.fOp m i ks = true → p.length + tsz t ≤ 1048576 → out.length + tszs ks ≤ 1048577 → t.fKids.length ≤ 1048576 →
    spec_l4Paths_l0 (t, p, out, (i : Int)) = some (out ++ redss ks i p)
  | [], t, m, i, p, out, hd, hw, hp, ho, hk => by
    rw [spec_l4Paths_l0.eq_def, redss]
    simp only
    rw [lt_f (drop_nil_le hd), List.append_nil]; rfl
  | k :: ks, t, m, i, p, out, hd, hw, hp, ho, hk => by
    obtain ⟨hi, hx, hd'⟩ := drop_cons_get hd
    have hm : tsz k + 1 ≤ tsz t := by
      have e : t.fKids = t.fKids.take i ++ (k :: ks) := by rw [← hd, List.take_append_drop]
      rw [tsz_eq t, e]
      have : ∀ (a b : List GTerm), tszs (a ++ b) = tszs a + tszs b := fun a b => by
        induction a with
        | nil => simp [tszs]
        | cons x l ih => rw [List.cons_append, tszs, tszs, ih]; omega
      rw [this, tszs]; omega
    rw [tszs] at ho
    rw [tOks, Bool.and_eq_true] at hw
    have hl := reds_le k (p ++ [(i : Int)])
    rw [spec_l4Paths_l0.eq_def, redss]
    simp only
    rw [lt_t hi, if_pos rfl, hx, bs, sCopy p (by omega), bs, fits_ok (by simp; omega), bs, sReds g y k _ (p ++ [(i : Int)]) hw.1 (by rw [List.length_append, List.length_singleton]; omega), bs, fits_ok (by omega), bs, wr_succ (by omega)]
    rw [sReds_l0 g y ks t m (i + 1) p _ hd' hw.2 hp (by rw [List.length_append]; omega) hk, List.append_assoc]
end
theorem iCopy (l : List Int) (h : l.length ≤ 1099511627776) : slices_Clone_int l = some l := by
  unfold slices_Clone_int
  rw [fits_ok (by simp only [List.length_nil]; omega), bs]
theorem iRedex (t : GTerm) (h : inB t.fOp 0 12 = true ∧ (t.fKids.length : Int) = manyI t.fOp) : impl_isRedex t = some (redB t) := by
  obtain ⟨hop, hk⟩ := h
  unfold impl_isRedex redB
  by_cases h0 : t.fKids.length = 0
  · rw [if_pos h0, show ((t.fKids.length : Int) == 0) = true by rw [h0]; rfl, if_pos rfl]
  · obtain ⟨a, ha, ea⟩ := idx_opAt (l := t.fKids) (i := 0) (by omega)
    rw [if_neg h0, show ((t.fKids.length : Int) == 0) = false from beq_eq_false_iff_ne.2 (by omega), if_neg (by decide), show (0 : Int) = ((0 : Nat) : Int) from rfl, ha, bs, ea]
    cases h2 : t.fOp == 2
    · cases t.fOp == 3 <;> cases t.fOp == 10 <;> cases t.fOp == 5 <;> cases t.fOp == 8 <;> cases t.fOp == 12 <;> (try rfl)
      all_goals cases opAt t.fKids 0 == 6 <;> rfl
    · have h2' := eq_of_beq h2
      have hl : t.fKids.length = 2 := by rw [h2'] at hk; have : manyI 2 = 2 := rfl; omega
      obtain ⟨b, hb, eb⟩ := idx_opAt (l := t.fKids) (i := 1) (by omega)
      rw [show (1 : Int) = ((1 : Nat) : Int) from rfl, hb]
      simp only [bs, eb]
      cases opAt t.fKids 0 == ((1 : Nat) : Int) <;> rfl
mutual
theorem iReds (g : Int → Bool) (y : List Int → Bool) : ∀ (t : GTerm) (m : Nat) (p : List Int), tOk g y m t = true → p.length + tsz t ≤ 1048576 → impl_redexes (t, p) = some (reds t p)
  | ⟨op, N, ty, ks⟩, m, p, hw, hp => by
    obtain ⟨hw1, hw2⟩ := tOk_node hw
    rw [tsz] at hp
    rw [impl_redexes.eq_def, reds]
    simp only
    rw [iRedex _ (nodeOk_many hw1), bs]
    refine (bind_of (x := if redB ⟨op, N, ty, ks⟩ then [p] else []) ?_).trans ?_
    · cases redB ⟨op, N, ty, ks⟩
      · rfl
      · rw [if_pos rfl, iCopy p (by omega), bs, fits_ok (by simp)]; rfl
    have h := iReds_l0 g y ks ⟨op, N, ty, ks⟩ m 0 p (if redB ⟨op, N, ty, ks⟩ then [p] else []) rfl hw2 (by simp only [tsz]; omega) (by split <;> simp <;> omega) (by simp only; have := kids_le_tszs ks; omega)
    rw [show (0 : Int) = ((0 : Nat) : Int) from rfl, h, bs]
theorem iReds_l0 (g : Int → Bool) (y : List Int → Bool) : ∀ (ks : List GTerm) (t : GTerm) (m i : Nat) (p : List Int) (out : List (List Int)), t.fKids.drop i = ks → tOks g y t.fOp m i ks = true → p.length + tsz t ≤ 1048576 → out.length + tszs ks ≤ 1048577 → t.fKids.length ≤ 1048576 →
    impl_redexes_l0 (t, p, out, (i : Int)) = some (out ++ redss ks i p)
  | [], t, m, i, p, out, hd, hw, hp, ho, hk => by
    rw [impl_redexes_l0.eq_def, redss]
    simp only
    rw [lt_f (drop_nil_le hd), List.append_nil]; rfl
  | k :: ks, t, m, i, p, out, hd, hw, hp, ho, hk => by
    obtain ⟨hi, hx, hd'⟩ := drop_cons_get hd
    have hm : tsz k + 1 ≤ tsz t := by
      have e : t.fKids = t.fKids.take i ++ (k :: ks) := by rw [← hd, List.take_append_drop]
      rw [tsz_eq t, e]
      have : ∀ (a b : List GTerm), tszs (a ++ b) = tszs a + tszs b := fun a b => by
        induction a with
        | nil => simp [tszs]
        | cons x l ih => rw [List.cons_append, tszs, tszs, ih]; omega
      rw [this, tszs]; omega
    rw [tszs] at ho
    rw [tOks, Bool.and_eq_true] at hw
    have hl := reds_le k (p ++ [(i : Int)])
    rw [impl_redexes_l0.eq_def, redss]
    simp only
    rw [lt_t hi, if_pos rfl, hx, bs, iCopy p (by omega), bs, fits_ok (by simp; omega), bs, iReds g y k _ (p ++ [(i : Int)]) hw.1 (by rw [List.length_append, List.length_singleton]; omega), bs, fits_ok (by omega), bs, wr_succ (by omega)]
    rw [iReds_l0 g y ks t m (i + 1) p _ hd' hw.2 hp (by rw [List.length_append]; omega) hk, List.append_assoc]
end
inductive Ty where
  | num
  | bin (c : Int) (a b : Ty)
  | un (c : Int) (a : Ty)
namespace Ty
def code : Ty → List Int
  | num => [0]
  | bin c a b => c :: (a.code ++ b.code)
  | un c a => c :: a.code
def ok : Ty → Prop
  | num => True
  | bin c a b => kidsC c = 2 ∧ a.ok ∧ b.ok
  | un c a => kidsC c = 1 ∧ a.ok
def kids : Ty → List Ty
  | num => []
  | bin _ a b => [a, b]
  | un _ a => [a]
def hd : Ty → Int
  | num => 0
  | bin c _ _ => c
  | un c _ => c
end Ty
theorem wB_of {t : GTerm} (h : wB t = true) : tOk (gN 16 false) wtB 8 t = true ∧ tsz t ≤ 400 := by
  unfold wB at h
  rw [Bool.and_eq_true, decide_eq_true_eq] at h
  exact h
theorem markI_l0 : ∀ (l a : List Int) (i k : Nat), a.drop i = l → a.length ≤ 1099511627776 → k + l.length ≤ 1152921504606846976 + 1099511627776 →
    ∃ M, laws_markIntS_l0 (a, (k : Int), (i : Int)) = some (((k + l.length : Nat) : Int), M) ∧ M.length = a.length ∧ M.take i = a.take i ∧ M.drop i = (List.range' k l.length).map (fun n : Nat => (n : Int)) := by
  intro l
  induction l with
  | nil =>
    intro a i k hd ha hk
    rw [laws_markIntS_l0.eq_def]
    simp only
    rw [lt_f (drop_nil_le hd)]
    exact ⟨a, by simp, rfl, rfl, by rw [hd]; rfl⟩
  | cons x l ih =>
    intro a i k hd ha hk
    obtain ⟨hi, hx, hd'⟩ := drop_cons_get hd
    have hl : (x :: l).length ≤ 1099511627776 := by rw [← hd, List.length_drop]; omega
    rw [List.length_cons] at hl hk
    rw [laws_markIntS_l0.eq_def]
    simp only
    rw [lt_t hi, if_pos rfl, hx, bs, Int.toNat_natCast, wr_succ (by omega), wr_succ (by omega)]
    obtain ⟨M, h1, h2, h3, h4⟩ := ih (a.set i (k : Int)) (i + 1) (k + 1) (by rw [List.drop_set_of_lt (by omega)]; exact hd') (by simpa using ha) (by omega)
    have hMl : i < M.length := by rw [h2, List.length_set]; exact hi
    have hMi : M[i] = (k : Int) := by
      have := congrArg (fun l => l[i]?) h3
      simp only [List.getElem?_take] at this
      rw [if_pos (by omega), if_pos (by omega), List.getElem?_eq_getElem hMl, List.getElem?_set_self hi] at this
      exact Option.some.inj this
    refine ⟨M, by rw [h1, List.length_cons]; congr 3; omega, by simpa using h2, ?_, ?_⟩
    · have := congrArg (List.take i) h3
      rw [List.take_take, List.take_take, Nat.min_eq_left (by omega), List.take_set_of_le (Nat.le_refl i)] at this
      exact this
    · rw [List.drop_eq_getElem_cons hMl, h4, hMi, List.length_cons, List.range'_succ, List.map_cons]
theorem markI (a : List Int) (k : Nat) (ha : a.length ≤ 1099511627776) (hk : k ≤ 1152921504606846976) :
    laws_markIntS (a, (k : Int)) = some (((k + a.length : Nat) : Int), (List.range' k a.length).map (fun n : Nat => (n : Int))) := by
  unfold laws_markIntS
  simp only
  obtain ⟨M, h1, h2, h3, h4⟩ := markI_l0 a a 0 k rfl ha (by omega)
  rw [List.drop_zero] at h4
  rw [show (0 : Int) = ((0 : Nat) : Int) from rfl, h1, bs, h4]
theorem heldI_l0 (m : Nat) : ∀ (n k i : Nat) (a : List Int), a.length ≤ 1099511627776 → a.drop i = (List.range' k n).map (fun n : Nat => (n : Int)) → k + n ≤ 1152921504606846976 + 1099511627776 → laws_heldIntS_l0 (a, (k : Int), (i : Int)) = some (.inl ((k + n : Nat) : Int)) := by
  intro n
  induction n with
  | zero =>
    intro k i a ha hd hk
    rw [laws_heldIntS_l0.eq_def]
    simp only
    rw [lt_f (drop_nil_le hd)]; rfl
  | succ n ih =>
    intro k i a ha hd hk
    rw [List.range'_succ, List.map_cons] at hd
    obtain ⟨hi, hx, hd'⟩ := drop_cons_get hd
    rw [laws_heldIntS_l0.eq_def]
    simp only
    rw [lt_t hi, if_pos rfl, hx, bs, bne_self, if_neg (by decide), wr_succ (by omega), wr_succ (by omega), ih (k + 1) (i + 1) a ha hd' (by omega)]
    congr 3; omega
theorem heldI (n k : Nat) (hn : n ≤ 1099511627776) (hk : k ≤ 1152921504606846976) : laws_heldIntS ((List.range' k n).map (fun n : Nat => (n : Int)), (k : Int)) = some ((k + n : Nat) : Int) := by
  unfold laws_heldIntS
  simp only
  rw [show (0 : Int) = ((0 : Nat) : Int) from rfl, heldI_l0 0 n k 0 _ (by simpa using hn) (by rw [List.drop_zero]) (by omega), bs]
mutual
/-- How many numbers a mark lays into what a term leads to. -/
def mct : GTerm → Nat
  | ⟨_, _, ty, ks⟩ => ty.length + mcts ks
def mcts : List GTerm → Nat
  | [] => 0
  | k :: ks => 2 + mct k + mcts ks
end
mutual
theorem mct_le : ∀ (t : GTerm), mct t ≤ 2 * tms t
  | ⟨op, N, ty, ks⟩ => by rw [mct, tms]; have := mcts_le ks; omega
theorem mcts_le : ∀ (ks : List GTerm), mcts ks ≤ 2 * (ks.length + tmss ks)
  | [] => by simp [mcts]
  | k :: ks => by rw [mcts, tmss, List.length_cons]; have := mct_le k; have := mcts_le ks; omega
end
theorem set_set_same {α : Type} (l : List α) (i : Nat) (a b : α) : (l.set i a).set i b = l.set i b := List.set_set ..
theorem idx_set {α : Type} {l : List α} {i : Nat} (h : i < l.length) (a : α) : idx (l.set i a) (i : Int) = some a := by
  rw [idx_get (by simpa using h)]; simp
mutual
theorem markT0 : ∀ (t : GTerm) (k : Nat), tms t ≤ 1099511627776 → k + mct t ≤ 1152921504606846976 → ∃ ks, laws_markTermS (t.fKids, ((k + t.fType.length : Nat) : Int)) = some (((k + mct t : Nat) : Int), ks)
  | ⟨op, N, ty, ks⟩, k, hm, hk => by
    rw [tms] at hm
    rw [mct] at hk ⊢
    simp only
    obtain ⟨M, h1⟩ := markTs0 ks ks 0 (k + ty.length) rfl (by omega) (by omega) (by omega)
    refine ⟨M, ?_⟩
    rw [laws_markTermS.eq_def]
    simp only
    rw [show (0 : Int) = ((0 : Nat) : Int) from rfl, h1, bs, Nat.add_assoc]
theorem markTs0 : ∀ (ks a : List GTerm) (i k : Nat), a.drop i = ks → a.length ≤ 1099511627776 → tmss ks ≤ 1099511627776 → k + mcts ks ≤ 1152921504606846976 →
    ∃ M, laws_markTermS_l0 (a, (k : Int), (i : Int)) = some (((k + mcts ks : Nat) : Int), M)
  | [], a, i, k, hd, ha, hm, hk => by
    rw [laws_markTermS_l0.eq_def, mcts]
    simp only
    rw [lt_f (drop_nil_le hd)]
    exact ⟨a, rfl⟩
  | x :: ks, a, i, k, hd, ha, hm, hk => by
    obtain ⟨hi, hx, hd'⟩ := drop_cons_get hd
    rw [tmss] at hm
    rw [mcts] at hk ⊢
    rw [laws_markTermS_l0.eq_def]
    simp only
    rw [lt_t hi, if_pos rfl, hx, bs, wr_succ (n := k) (by omega), wr_succ (n := k + 1) (by omega), Int.toNat_natCast]
    obtain ⟨kk, m2⟩ := markT0 x (k + 1 + 1) (by omega) (by omega)
    have m1 := markI x.fType (k + 1 + 1) (by have := tms_eq x; omega) (by omega)
    simp only [set_set_same, idx_set hi, bs, m1, m2]
    rw [wr_succ (by omega)]
    obtain ⟨M, h1⟩ := markTs0 ks (a.set i ⟨(k : Int), ((k + 1 : Nat) : Int), (List.range' (k + 1 + 1) x.fType.length).map (fun n : Nat => (n : Int)), kk⟩) (i + 1) (k + 1 + 1 + mct x) (by rw [List.drop_set_of_lt (by omega)]; exact hd') (by simpa using ha) (by omega) (by omega)
    exact ⟨M, by rw [h1]; congr 3; omega⟩
end
theorem markTerm_only (t : GTerm) (k : Nat) (hm : tms t ≤ 1099511627776) (hk : k ≤ 1000000000000000000) : ∃ M, laws_markTerm (t, (k : Int)) = some (((k + mct t : Nat) : Int), M) := by
  have hc := mct_le t
  obtain ⟨ks, m2⟩ := markT0 t k hm (by omega)
  unfold laws_markTerm
  simp only
  rw [markI t.fType k (by have := tms_eq t; omega) (by omega), bs]
  simp only
  rw [m2, bs]
  exact ⟨_, rfl⟩
def lct : List (List Int) → Nat
  | [] => 0
  | x :: l => x.length + lct l
def lok (l : List (List Int)) : Prop := l.length ≤ 1099511627776 ∧ lct l ≤ 1099511627776
theorem lct_append (a b : List (List Int)) : lct (a ++ b) = lct a + lct b := by
  induction a with
  | nil => simp [lct]
  | cons x l ih => rw [List.cons_append, lct, lct, ih]; omega
theorem eqIntSS_l0 (a : List (List Int)) (ha : a.length ≤ 1099511627776) : ∀ (l : List (List Int)) (i : Nat), a.drop i = l → lct l ≤ 1099511627776 → laws_eqIntSS_l0 (a, a, (i : Int)) = some (.inl ()) := by
  intro l
  induction l with
  | nil =>
    intro i hd _
    rw [laws_eqIntSS_l0.eq_def]
    simp only
    rw [lt_f (drop_nil_le hd)]; rfl
  | cons x l ih =>
    intro i hd hl
    obtain ⟨hi, hx, hd'⟩ := drop_cons_get hd
    rw [lct] at hl
    rw [laws_eqIntSS_l0.eq_def]
    simp only
    rw [lt_t hi, if_pos rfl, hx, bs, bs, eqIntS_refl x (by omega), bs, if_pos rfl, wr_succ (by omega), ih (i + 1) hd' (by omega)]
theorem eqIntSS_refl (a : List (List Int)) (h : lok a) : laws_eqIntSS (a, a) = some true := by
  unfold laws_eqIntSS
  simp only
  rw [bne_self, if_neg (by decide), show (0 : Int) = ((0 : Nat) : Int) from rfl, eqIntSS_l0 a h.1 a 0 rfl h.2]; rfl
theorem markSS_l0 : ∀ (l a : List (List Int)) (i k : Nat), a.drop i = l → a.length ≤ 1099511627776 → lct l ≤ 1099511627776 → k + lct l ≤ 1152921504606846976 →
    ∃ M, laws_markIntSS_l0 (a, (k : Int), (i : Int)) = some (((k + lct l : Nat) : Int), M) ∧ M.length = a.length ∧ M.take i = a.take i ∧ ∀ A : List (List Int), A.length = a.length → A.drop i = M.drop i → laws_heldIntSS_l0 (A, (k : Int), (i : Int)) = some (.inl ((k + lct l : Nat) : Int)) := by
  intro l
  induction l with
  | nil =>
    intro a i k hd ha hl hk
    rw [laws_markIntSS_l0.eq_def, lct]
    simp only
    rw [lt_f (drop_nil_le hd)]
    refine ⟨a, rfl, rfl, rfl, fun A hA _ => ?_⟩
    rw [laws_heldIntSS_l0.eq_def]
    simp only
    have := drop_nil_le hd
    rw [lt_f (by omega)]; rfl
  | cons x l ih =>
    intro a i k hd ha hl hk
    obtain ⟨hi, hx, hd'⟩ := drop_cons_get hd
    rw [lct] at hl hk ⊢
    rw [laws_markIntSS_l0.eq_def]
    simp only
    rw [lt_t hi, if_pos rfl, hx, bs, markI x k (by omega) (by omega), bs, wr_succ (by omega), Int.toNat_natCast]
    simp only
    obtain ⟨M, h1, h2, h3, h4⟩ := ih (a.set i ((List.range' k x.length).map (fun n : Nat => (n : Int)))) (i + 1) (k + x.length) (by rw [List.drop_set_of_lt (by omega)]; exact hd') (by simpa using ha) (by omega) (by omega)
    have hMl : i < M.length := by rw [h2, List.length_set]; exact hi
    have hMi : M[i] = (List.range' k x.length).map (fun n : Nat => (n : Int)) := by
      have := congrArg (fun l => l[i]?) h3
      simp only [List.getElem?_take] at this
      rw [if_pos (by omega), if_pos (by omega), List.getElem?_eq_getElem hMl, List.getElem?_set_self hi] at this
      exact Option.some.inj this
    refine ⟨M, by rw [h1]; congr 3; omega, by simpa using h2, ?_, fun A hA hAd => ?_⟩
    · have := congrArg (List.take i) h3
      rw [List.take_take, List.take_take, Nat.min_eq_left (by omega), List.take_set_of_le (Nat.le_refl i)] at this
      exact this
    · rw [List.drop_eq_getElem_cons hMl, hMi] at hAd
      obtain ⟨qi, qx, qd⟩ := drop_cons_get hAd
      rw [laws_heldIntSS_l0.eq_def]
      simp only
      rw [lt_t qi, if_pos rfl, qx, bs, heldI x.length k (by omega) (by omega), bs, decide_eq_false (by omega), if_neg (by decide), wr_succ (by omega), h4 A (by simpa using hA) qd]
      congr 3; omega
theorem markSS (a : List (List Int)) (k : Nat) (h : lok a) (hk : k ≤ 1000000000000000000) : ∃ M, laws_markIntSS (a, (k : Int)) = some (((k + lct a : Nat) : Int), M) ∧ laws_heldIntSS (M, (k : Int)) = some ((k + lct a : Nat) : Int) := by
  have := h.2
  obtain ⟨M, h1, h2, h3, h4⟩ := markSS_l0 a a 0 k rfl h.1 h.2 (by omega)
  refine ⟨M, ?_, ?_⟩
  · unfold laws_markIntSS
    simp only
    rw [show (0 : Int) = ((0 : Nat) : Int) from rfl, h1, bs]
  · unfold laws_heldIntSS
    simp only
    rw [show (0 : Int) = ((0 : Nat) : Int) from rfl, h4 M h2 rfl, bs]
mutual
theorem reds_lct : ∀ (t : GTerm) (p : List Int), lct (reds t p) ≤ (p.length + tsz t) * tsz t
  | ⟨op, N, ty, ks⟩, p => by
    rw [reds, tsz, lct_append]
    have h1 := redss_lct ks 0 p
    have h2 : lct (if redB ⟨op, N, ty, ks⟩ then [p] else []) ≤ p.length := by split <;> simp [lct]
    have h3 : (p.length + (1 + tszs ks)) * (1 + tszs ks) = (p.length + (1 + tszs ks)) + (p.length + (1 + tszs ks)) * tszs ks := by rw [Nat.mul_add, Nat.mul_one]
    have h4 : (p.length + 1 + tszs ks) * tszs ks = (p.length + (1 + tszs ks)) * tszs ks := by rw [Nat.add_assoc]
    omega
theorem redss_lct : ∀ (ks : List GTerm) (i : Nat) (p : List Int), lct (redss ks i p) ≤ (p.length + 1 + tszs ks) * tszs ks
  | [], i, p => by simp [redss, lct]
  | k :: ks, i, p => by
    rw [redss, tszs, lct_append]
    have h1 := reds_lct k (p ++ [(i : Int)])
    have h2 := redss_lct ks (i + 1) p
    rw [List.length_append, List.length_singleton] at h1
    have h3 : (p.length + 1 + tsz k) * tsz k ≤ (p.length + 1 + (tsz k + tszs ks)) * tsz k := Nat.mul_le_mul_right _ (by omega)
    have h4 : (p.length + 1 + tszs ks) * tszs ks ≤ (p.length + 1 + (tsz k + tszs ks)) * tszs ks := Nat.mul_le_mul_right _ (by omega)
    rw [Nat.mul_add]
    omega
end
theorem redexes_eq (t : GTerm) (ht : tms t ≤ 1099511627776) : spec_RedexesOf t = some (if wB t then reds t [] else []) ∧ impl_RedexesOf t = some (if wB t then reds t [] else []) := by
  unfold spec_RedexesOf impl_RedexesOf
  rw [sWritten t ht, iWritten t ht]
  cases h : wB t
  · exact ⟨rfl, rfl⟩
  · obtain ⟨h1, h2⟩ := wB_of h
    refine ⟨?_, ?_⟩
    · rw [bs, if_pos rfl, sReds _ _ t 8 [] h1 (by simp; omega)]; rfl
    · rw [bs, if_pos rfl, iReds _ _ t 8 [] h1 (by simp; omega)]; rfl
theorem redexes_lok (t : GTerm) : lok (if wB t then reds t [] else []) := by
  cases h : wB t
  · exact ⟨by simp, by simp [lct]⟩
  · obtain ⟨h1, h2⟩ := wB_of h
    have h3 := reds_le t []
    have h4 := reds_lct t []
    have h5 : (([] : List Int).length + tsz t) * tsz t ≤ 400 * 400 := Nat.mul_le_mul (by simp; exact h2) h2
    rw [if_pos rfl]
    exact ⟨by omega, by omega⟩
theorem redexesOf_true (t : GTerm) (hl : tln t) : laws_FnExactRedexesOf t = some true := by
  unfold laws_FnExactRedexesOf
  rw [szTerm_eq t 1048576 hl (by decide) (by decide), bs]
  rcases szB_cases 1048576 (tms t) with ⟨e, h⟩ | ⟨e, h⟩
  · rw [e]; rfl
  · have ht : tms t ≤ 1048576 := by omega
    obtain ⟨h1, h2⟩ := redexes_eq t (by omega)
    have h3 := redexes_lok t
    generalize (if wB t then reds t [] else []) = W at h1 h2 h3
    obtain ⟨M1, q1⟩ := markTerm_only t 1 (by omega) (by omega)
    obtain ⟨M2, q2, q3⟩ := markSS W 1 h3 (by omega)
    rw [show ((1 : Nat) : Int) = 1 from rfl] at q1 q2 q3
    rw [e, decide_eq_false (by omega), if_neg (by decide)]
    simp only [toTerm_id t (by omega), h1, h2, bs, eqIntSS_refl W h3, eqTerm_refl t (by omega), q1, q2, q3, if_true, if_false, Bool.false_eq_true, bne_self, Bool.not_true]
    rw [decide_eq_false (by omega)]
    simp only [bs, Bool.false_eq_true, if_false]
    rw [decide_eq_false (by omega)]
    simp only [bs, Bool.false_eq_true, if_false]
end Go.Am
