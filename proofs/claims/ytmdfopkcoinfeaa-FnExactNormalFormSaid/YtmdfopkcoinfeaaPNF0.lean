/- Plain laws of the printed functions. -/
import Derived.Test.YtmdfopkcoinfeaaGNFF6
set_option linter.unusedSimpArgs false
set_option linter.unusedVariables false
namespace Go.Am
theorem wr_id {x : Int} (h1 : -9223372036854775808 ≤ x) (h2 : x ≤ 9223372036854775807) : wr x = x := by
  unfold wr IntKind.wrap
  simp [IntKind.bits, IntKind.signed]
  omega
theorem idx_get {α : Type} {l : List α} {n : Nat} (h : n < l.length) : idx l (n : Int) = some l[n] := by
  unfold idx
  rw [if_pos (by omega)]
  simp [h]
theorem bs {α β : Type} (a : α) (f : α → Option β) : (some a >>= f) = f a := rfl
/-- A round number as the loops hold it. -/
theorem wr_succ {n : Nat} (h : n < 9223372036854775807) : wr ((n : Int) + 1) = ((n + 1 : Nat) : Int) := by
  rw [wr_id (by omega) (by omega)]; omega
theorem lt_t {n m : Nat} (h : n < m) : decide ((n : Int) < (m : Int)) = true := decide_eq_true (by omega)
theorem lt_f {n m : Nat} (h : m ≤ n) : decide ((n : Int) < (m : Int)) = false := decide_eq_false (by omega)
theorem take_set_succ {α : Type} {l a : List α} {n : Nat} (hl : l.length = a.length) (hn : n < a.length) (h : l.take n = a.take n) : (l.set n a[n]).take (n + 1) = a.take (n + 1) := by
  apply List.ext_getElem?
  intro i
  rw [List.getElem?_take, List.getElem?_take]
  by_cases hi : i < n + 1
  · rw [if_pos hi, if_pos hi, List.getElem?_set]
    by_cases e : n = i
    · subst e
      rw [if_pos rfl, if_pos (by omega), List.getElem?_eq_getElem hn]
    · rw [if_neg e]
      have := congrArg (fun l => l[i]?) h
      simp only [List.getElem?_take] at this
      rw [if_pos (by omega), if_pos (by omega)] at this
      exact this
  · rw [if_neg hi, if_neg hi]
theorem toIntS_l0 (a : List Int) (ha : a.length ≤ 1099511627776) : ∀ (k n : Nat) (out : List Int), n + k = a.length → out.length = a.length → out.take n = a.take n → laws_toIntS_l0 (a, out, (n : Int)) = some a := by
  intro k
  induction k with
  | zero =>
    intro n out hn hl ht
    rw [laws_toIntS_l0.eq_def]
    simp only
    rw [lt_f (by omega)]
    have h1 : out.take n = out := List.take_of_length_le (by omega)
    have h2 : a.take n = a := List.take_of_length_le (by omega)
    rw [h1, h2] at ht
    simp [ht]
  | succ k ih =>
    intro n out hn hl ht
    rw [laws_toIntS_l0.eq_def]
    simp only
    rw [lt_t (by omega), if_pos rfl, idx_get (by omega), bs, idx_get (by omega), bs, wr_succ (by omega), Int.toNat_natCast]
    exact ih (n + 1) _ (by omega) (by simpa using hl) (take_set_succ hl (by omega) ht)
theorem toIntS_id (a : List Int) (ha : a.length ≤ 1099511627776) : laws_toIntS a = some a := by
  unfold laws_toIntS
  have : chk (0 ≤ (a.length : Int) ∧ (Int.toNat (a.length : Int)) * 8 ≤ 140737488355328) = some () := by
    unfold chk; rw [if_pos]; refine ⟨by omega, ?_⟩; rw [Int.toNat_natCast]; omega
  rw [this, bs, Int.toNat_natCast]
  have := toIntS_l0 a ha a.length 0 (List.replicate a.length 0) (by omega) (by simp) rfl
  rw [show ((0 : Nat) : Int) = 0 from rfl] at this
  rw [this, bs]
theorem bne_self {a : Int} : (a != a) = false := by simp
theorem eqIntS_l0 (a : List Int) (ha : a.length ≤ 1099511627776) : ∀ (k n : Nat), n + k = a.length → laws_eqIntS_l0 (a, a, (n : Int)) = some (.inl ()) := by
  intro k
  induction k with
  | zero =>
    intro n hn
    rw [laws_eqIntS_l0.eq_def]
    simp only
    rw [lt_f (by omega)]
    rfl
  | succ k ih =>
    intro n hn
    rw [laws_eqIntS_l0.eq_def]
    simp only
    rw [lt_t (by omega), if_pos rfl, idx_get (by omega), bs, bs, bne_self, if_neg (by decide), wr_succ (by omega)]
    exact ih (n + 1) (by omega)
theorem eqIntS_refl (a : List Int) (ha : a.length ≤ 1099511627776) : laws_eqIntS (a, a) = some true := by
  unfold laws_eqIntS
  simp only
  have := eqIntS_l0 a ha a.length 0 (by omega)
  rw [show ((0 : Nat) : Int) = 0 from rfl] at this
  rw [bne_self, if_neg (by decide), this]
  rfl
def inB (x lo hi : Int) : Bool := decide (x ≥ lo) && decide (x ≤ hi)
theorem sIn (x lo hi : Int) : spec_l1In (x, lo, hi) = some (inB x lo hi) := by
  unfold spec_l1In inB
  simp only
  cases decide (x ≥ lo) <;> simp [bs]
theorem iIn (x lo hi : Int) : impl_within (x, lo, hi) = some (inB x lo hi) := by
  unfold impl_within inB
  simp only
  cases decide (x ≥ lo) <;> simp [bs]
theorem drop_cons_get {α : Type} {l r : List α} {x : α} {i : Nat} (h : l.drop i = x :: r) : i < l.length ∧ idx l (i : Int) = some x ∧ l.drop (i + 1) = r := by
  have hi : i < l.length := by
    rcases Nat.lt_or_ge i l.length with h' | h'
    · exact h'
    · rw [List.drop_eq_nil_of_le h'] at h; cases h
  have e := List.drop_eq_getElem_cons hi
  rw [h] at e
  obtain ⟨e1, e2⟩ := List.cons.inj e
  exact ⟨hi, by rw [idx_get hi, e1], e2.symm⟩
theorem drop_nil_le {α : Type} {l : List α} {i : Nat} (h : l.drop i = []) : l.length ≤ i := by
  rcases Nat.lt_or_ge i l.length with h' | h'
  · rw [List.drop_eq_getElem_cons h'] at h; cases h
  · exact h'
def arrC (c : Int) : Bool := inB c 3 18 || c == 35
def boxC (c : Int) : Bool := inB c 19 34 || c == 36
def kidsC (c : Int) : Int := if c == 0 then 0 else if c == 1 || c == 2 || arrC c then 2 else if boxC c then 1 else -1
theorem sArrow (c : Int) : spec_l2Arrow c = some (arrC c) := by
  unfold spec_l2Arrow arrC
  simp only [sIn, bs]
  cases inB c 3 18 <;> rfl
theorem sBox (c : Int) : spec_l2Box c = some (boxC c) := by
  unfold spec_l2Box boxC
  simp only [sIn, bs]
  cases inB c 19 34 <;> rfl
theorem sKids (c : Int) : spec_l2Kids c = some (kidsC c) := by
  unfold spec_l2Kids kidsC
  simp only [sArrow, sBox, bs]
  cases c == 0 <;> cases c == 1 <;> cases c == 2 <;> cases arrC c <;> cases boxC c <;> rfl
theorem kidsC_cases (c : Int) : (c = 0 ∧ kidsC c = 0) ∨ ((c = 1 ∨ c = 2 ∨ (3 ≤ c ∧ c ≤ 18) ∨ c = 35) ∧ kidsC c = 2) ∨ (((19 ≤ c ∧ c ≤ 34) ∨ c = 36) ∧ kidsC c = 1) ∨ ((c < 0 ∨ 36 < c) ∧ kidsC c = -1) := by
  unfold kidsC arrC boxC inB
  by_cases h0 : c = 0
  · left; subst h0; exact ⟨rfl, rfl⟩
  · right
    have e0 : (c == 0) = false := by simpa using h0
    by_cases h1 : c = 1 ∨ c = 2 ∨ (3 ≤ c ∧ c ≤ 18) ∨ c = 35
    · left
      refine ⟨h1, ?_⟩
      have : (c == 1 || c == 2 || (decide (c ≥ 3) && decide (c ≤ 18) || c == 35)) = true := by
        simp only [Bool.or_eq_true, Bool.and_eq_true, beq_iff_eq, decide_eq_true_eq]; omega
      rw [e0, this]; rfl
    · right
      have q : (c == 1 || c == 2 || (decide (c ≥ 3) && decide (c ≤ 18) || c == 35)) = false := by
        rw [Bool.eq_false_iff]; intro h
        simp only [Bool.or_eq_true, Bool.and_eq_true, beq_iff_eq, decide_eq_true_eq] at h; omega
      rw [e0, q]
      by_cases h2 : (19 ≤ c ∧ c ≤ 34) ∨ c = 36
      · left
        refine ⟨h2, ?_⟩
        have : (decide (c ≥ 19) && decide (c ≤ 34) || c == 36) = true := by
          simp only [Bool.or_eq_true, Bool.and_eq_true, beq_iff_eq, decide_eq_true_eq]; omega
        rw [this]; rfl
      · right
        refine ⟨by omega, ?_⟩
        have : (decide (c ≥ 19) && decide (c ≤ 34) || c == 36) = false := by
          rw [Bool.eq_false_iff]; intro h
          simp only [Bool.or_eq_true, Bool.and_eq_true, beq_iff_eq, decide_eq_true_eq] at h; omega
        rw [this]; rfl
/-- The shape of a code, and its grade. -/
def shapeI (c : Int) : Int × Int :=
  if inB c 0 2 then (c, -1) else if inB c 3 18 then (3, c - 3) else if inB c 19 34 then (4, c - 19) else if c == 35 then (3, -1) else if c == 36 then (4, -1) else (5, -1)
theorem iShape (c : Int) : impl_shape c = some (shapeI c) := by
  unfold impl_shape shapeI
  simp only [iIn, bs]
  cases h1 : inB c 0 2
  · cases h2 : inB c 3 18
    · cases h3 : inB c 19 34
      · cases c == 35 <;> cases c == 36 <;> rfl
      · simp only [inB, Bool.and_eq_true, decide_eq_true_eq] at h3
        simp only [Bool.false_eq_true, if_false, if_true]
        rw [wr_id (by omega) (by omega)]
    · simp only [inB, Bool.and_eq_true, decide_eq_true_eq] at h2
      simp only [Bool.false_eq_true, if_false, if_true]
      rw [wr_id (by omega) (by omega)]
  · rfl
theorem shapeI_cases (c : Int) : (c = 0 ∧ shapeI c = (0, -1)) ∨ (c = 1 ∧ shapeI c = (1, -1)) ∨ (c = 2 ∧ shapeI c = (2, -1)) ∨ ((3 ≤ c ∧ c ≤ 18) ∧ shapeI c = (3, c - 3)) ∨ (c = 35 ∧ shapeI c = (3, -1)) ∨
    ((19 ≤ c ∧ c ≤ 34) ∧ shapeI c = (4, c - 19)) ∨ (c = 36 ∧ shapeI c = (4, -1)) ∨ ((c < 0 ∨ 36 < c) ∧ shapeI c = (5, -1)) := by
  have inT : ∀ lo hi, lo ≤ c → c ≤ hi → inB c lo hi = true := fun lo hi h1 h2 => by simp only [inB, Bool.and_eq_true, decide_eq_true_eq]; omega
  have inF : ∀ lo hi, (c < lo ∨ hi < c) → inB c lo hi = false := fun lo hi h => by rw [Bool.eq_false_iff]; intro h'; simp only [inB, Bool.and_eq_true, decide_eq_true_eq] at h'; omega
  unfold shapeI
  by_cases h0 : 0 ≤ c ∧ c ≤ 2
  · rw [inT 0 2 h0.1 h0.2]
    have : c = 0 ∨ c = 1 ∨ c = 2 := by omega
    rcases this with rfl | rfl | rfl <;> simp
  · rw [inF 0 2 (by omega)]
    by_cases h1 : 3 ≤ c ∧ c ≤ 18
    · rw [inT 3 18 h1.1 h1.2]
      exact .inr (.inr (.inr (.inl ⟨h1, rfl⟩)))
    · rw [inF 3 18 (by omega)]
      by_cases h2 : 19 ≤ c ∧ c ≤ 34
      · rw [inT 19 34 h2.1 h2.2]
        exact .inr (.inr (.inr (.inr (.inr (.inl ⟨h2, rfl⟩)))))
      · rw [inF 19 34 (by omega)]
        by_cases h3 : c = 35
        · subst h3; simp
        · by_cases h4 : c = 36
          · subst h4; simp
          · have e3 : (c == 35) = false := by simpa using h3
            have e4 : (c == 36) = false := by simpa using h4
            rw [e3, e4]
            refine .inr (.inr (.inr (.inr (.inr (.inr (.inr ⟨by omega, rfl⟩))))))
/-- What is left behind so many types. -/
def skip : Nat → List Int → Option (List Int)
  | 0, l => some l
  | _ + 1, [] => none
  | m + 1, c :: l => if kidsC c = -1 then none else skip (m + (kidsC c).toNat) l
theorem skip_zero (l : List Int) : skip 0 l = some l := by cases l <;> rfl
theorem skip_nil (m : Nat) : skip (m + 1) [] = none := rfl
theorem skip_cons (m : Nat) (c : Int) (l : List Int) : skip (m + 1) (c :: l) = if kidsC c = -1 then none else skip (m + (kidsC c).toNat) l := rfl
theorem skip_add (l : List Int) : ∀ (m k : Nat), skip (m + k) l = (skip m l).bind (skip k) := by
  induction l with
  | nil =>
    intro m k
    cases m with
    | zero => rw [Nat.zero_add, skip_zero]; rfl
    | succ m => rw [show m + 1 + k = (m + k) + 1 by omega, skip_nil, skip_nil]; rfl
  | cons c l ih =>
    intro m k
    cases m with
    | zero => rw [Nat.zero_add, skip_zero]; rfl
    | succ m =>
      rw [show m + 1 + k = (m + k) + 1 by omega, skip_cons, skip_cons]
      by_cases h : kidsC c = -1
      · rw [if_pos h, if_pos h]; rfl
      · rw [if_neg h, if_neg h, ← ih]; congr 1; omega
theorem skip_suffix (l : List Int) : ∀ (m : Nat) (r : List Int), skip m l = some r → ∃ p, l = p ++ r ∧ m ≤ p.length := by
  induction l with
  | nil =>
    intro m r h
    cases m with
    | zero => rw [skip_zero] at h; cases h; exact ⟨[], rfl, Nat.le_refl _⟩
    | succ m => rw [skip_nil] at h; cases h
  | cons c l ih =>
    intro m r h
    cases m with
    | zero => rw [skip_zero] at h; cases h; exact ⟨[], rfl, Nat.le_refl _⟩
    | succ m =>
      rw [skip_cons] at h
      by_cases hk : kidsC c = -1
      · rw [if_pos hk] at h; cases h
      · rw [if_neg hk] at h
        obtain ⟨p, e, hp⟩ := ih _ _ h
        exact ⟨c :: p, by rw [e]; rfl, by simp; omega⟩
/-- Where so many types that begin at a place end. -/
def endI (ty : List Int) (m i : Nat) : Int := match skip m (ty.drop i) with | some r => ((ty.length - r.length : Nat) : Int) | none => -1
theorem sEnd_l0 (ty : List Int) (hty : ty.length ≤ 1099511627776) : ∀ (l : List Int) (i m : Nat), ty.drop i = l → m ≤ 1099511627776 + 2 * i → ∃ x, spec_l2End_l0 (ty, ((m + 1 : Nat) : Int), (i : Int)) = some x ∧ (match x with | .inl () => -1 | .inr r => r) = endI ty (m + 1) i := by
  intro l
  induction l with
  | nil =>
    intro i m hl hm
    rw [spec_l2End_l0.eq_def]
    simp only
    rw [lt_f (drop_nil_le hl)]
    exact ⟨.inl (), rfl, by unfold endI; rw [hl, skip_nil]⟩
  | cons c l ih =>
    intro i m hl hm
    obtain ⟨hi, hx, hd⟩ := drop_cons_get hl
    have hi2 : (i : Int) < 1099511627776 := by omega
    rw [spec_l2End_l0.eq_def]
    simp only
    rw [lt_t hi, if_pos rfl, hx, bs, sKids, bs]
    have he : endI ty (m + 1) i = (match (if kidsC c = -1 then none else skip (m + (kidsC c).toNat) l) with | some r => ((ty.length - r.length : Nat) : Int) | none => -1) := by
      unfold endI; rw [hl, skip_cons]
    rw [he]
    by_cases hk : kidsC c = -1
    · rw [if_pos hk, hk]
      exact ⟨.inr (-1), rfl, rfl⟩
    · rw [if_neg hk]
      have hk0 : 0 ≤ kidsC c ∧ kidsC c ≤ 2 := by rcases kidsC_cases c with h | h | h | h <;> omega
      obtain ⟨k, hkk⟩ : ∃ k : Nat, kidsC c = (k : Int) := ⟨(kidsC c).toNat, by omega⟩
      rw [decide_eq_false (by omega), if_neg (by decide), hkk, Int.toNat_natCast]
      rw [wr_id (x := ((m + 1 : Nat) : Int) - 1) (by omega) (by omega), show ((m + 1 : Nat) : Int) - 1 = (m : Int) by omega, wr_id (x := (m : Int) + (k : Int)) (by omega) (by omega), wr_succ (by omega)]
      by_cases h0 : m + k = 0
      · rw [show ((m : Int) + (k : Int) == 0) = true by simp; omega, if_pos rfl, h0, skip_zero]
        refine ⟨_, rfl, ?_⟩
        have : l.length = ty.length - (i + 1) := by rw [← hd, List.length_drop]
        simp only
        omega
      · rw [show ((m : Int) + (k : Int) == 0) = false by simp; omega, if_neg (by decide)]
        obtain ⟨q, hq⟩ : ∃ q, m + k = q + 1 := ⟨m + k - 1, by omega⟩
        have := ih (i + 1) q hd (by omega)
        rw [show (m : Int) + (k : Int) = ((q + 1 : Nat) : Int) by omega]
        obtain ⟨x, h1, h2⟩ := this
        exact ⟨x, h1, by rw [h2, hq]; unfold endI; rw [hd]⟩
theorem sEnd (ty : List Int) (hty : ty.length ≤ 1099511627776) (i : Nat) (hi : i ≤ ty.length) : spec_l2End (ty, (i : Int)) = some (endI ty 1 i) := by
  unfold spec_l2End
  obtain ⟨x, h1, h2⟩ := sEnd_l0 ty hty _ i 0 rfl (by omega)
  simp only
  rw [show (1 : Int) = ((0 + 1 : Nat) : Int) from rfl, h1, bs]
  rw [← h2]
  cases x <;> rfl
theorem endI_two (ty : List Int) (i : Nat) (hi : i ≤ ty.length) : endI ty 2 i = (if endI ty 1 i = -1 then -1 else endI ty 1 (endI ty 1 i).toNat) := by
  unfold endI
  rw [show 2 = 1 + 1 from rfl, skip_add]
  cases h : skip 1 (ty.drop i) with
  | none => simp
  | some r =>
    obtain ⟨p, hp, hl⟩ := skip_suffix _ _ _ h
    have hlen : ty.length - i = p.length + r.length := by rw [← List.length_drop, hp, List.length_append]
    have : ty.drop (ty.length - r.length) = r := by
      have e : ty.drop (ty.length - r.length) = (ty.drop i).drop p.length := by rw [List.drop_drop]; congr 1; omega
      rw [e, hp, List.drop_left]
    simp only [Option.bind_some]
    rw [if_neg (by omega), Int.toNat_natCast, this]
theorem iEnd (ty : List Int) (hty : ty.length ≤ 1099511627776) : ∀ (d i : Nat), ty.length - i = d → impl_typeEnd (ty, (i : Int)) = some (endI ty 1 i) := by
  intro d
  induction d using Nat.strongRecOn with
  | ind d ih =>
    intro i hd
    rw [impl_typeEnd.eq_def]
    simp only
    rw [decide_eq_false (by omega : ¬ (i : Int) < 0)]
    simp only [Bool.false_eq_true, if_false, bs]
    by_cases hi : i < ty.length
    · rw [decide_eq_false (by omega), if_neg (by decide), idx_get hi, bs, iShape, bs]
      have hdr := List.drop_eq_getElem_cons hi
      have he : ∀ k : Nat, kidsC ty[i] = (k : Int) → endI ty 1 i = endI ty k (i + 1) := fun k hk => by
        unfold endI
        rw [hdr, show 1 = 0 + 1 from rfl, skip_cons, hk, if_neg (by omega), Int.toNat_natCast, Nat.zero_add]
      have hn : kidsC ty[i] = -1 → endI ty 1 i = -1 := fun hk => by
        unfold endI
        rw [hdr, show 1 = 0 + 1 from rfl, skip_cons, if_pos hk]
      have i1 := ih (ty.length - (i + 1)) (by omega) (i + 1) rfl
      have hz : ∀ i : Nat, i ≤ ty.length → endI ty 0 i = (i : Int) := fun i hi => by unfold endI; rw [skip_zero]; simp only [List.length_drop]; omega
      rw [wr_succ (by omega)]
      have two : kidsC ty[i] = 2 → ((impl_typeEnd (ty, ((i + 1 : Nat) : Int))) >>= fun r_11_4 => (impl_typeEnd (ty, r_11_4)) >>= fun r_11_5 => some r_11_5) = some (endI ty 1 i) := fun hk => by
        rw [i1, bs, he 2 hk, endI_two ty (i + 1) (by omega)]
        by_cases h1 : endI ty 1 (i + 1) = -1
        · rw [h1, if_pos rfl, impl_typeEnd.eq_def]; rfl
        · rw [if_neg h1]
          obtain ⟨e, hee, hlo⟩ : ∃ e : Nat, endI ty 1 (i + 1) = (e : Int) ∧ i + 1 < e := by
            unfold endI at h1 ⊢
            cases hs : skip 1 (ty.drop (i + 1)) with
            | none => rw [hs] at h1; exact absurd rfl h1
            | some r =>
              obtain ⟨p, hp, hl⟩ := skip_suffix _ _ _ hs
              have hlen : ty.length - (i + 1) = p.length + r.length := by rw [← List.length_drop, hp, List.length_append]
              exact ⟨_, rfl, by omega⟩
          rw [hee, Int.toNat_natCast, ih (ty.length - e) (by omega) e rfl, bs]
      rcases shapeI_cases ty[i] with ⟨h, e⟩ | ⟨h, e⟩ | ⟨h, e⟩ | ⟨h, e⟩ | ⟨h, e⟩ | ⟨h, e⟩ | ⟨h, e⟩ | ⟨h, e⟩ <;> rw [e] <;> simp only []
      · have hk : kidsC ty[i] = 0 := by rcases kidsC_cases ty[i] with h | h | h | h <;> omega
        rw [if_pos (by rfl), he 0 hk, hz _ (by omega)]
      · have hk : kidsC ty[i] = 2 := by rcases kidsC_cases ty[i] with h | h | h | h <;> omega
        exact two hk
      · have hk : kidsC ty[i] = 2 := by rcases kidsC_cases ty[i] with h | h | h | h <;> omega
        exact two hk
      · have hk : kidsC ty[i] = 2 := by rcases kidsC_cases ty[i] with h | h | h | h <;> omega
        exact two hk
      · have hk : kidsC ty[i] = 2 := by rcases kidsC_cases ty[i] with h | h | h | h <;> omega
        exact two hk
      · have hk : kidsC ty[i] = 1 := by rcases kidsC_cases ty[i] with h | h | h | h <;> omega
        rw [he 1 hk, if_neg (by decide), if_pos (by rfl), i1, bs]
      · have hk : kidsC ty[i] = 1 := by rcases kidsC_cases ty[i] with h | h | h | h <;> omega
        rw [he 1 hk, if_neg (by decide), if_pos (by rfl), i1, bs]
      · have hk : kidsC ty[i] = -1 := by rcases kidsC_cases ty[i] with h | h | h | h <;> omega
        rw [hn hk]; rfl
    · rw [decide_eq_true (by omega), if_pos rfl]
      unfold endI
      rw [List.drop_eq_nil_of_le (by omega), skip_nil]
/-- A written type. -/
def wtB (ty : List Int) : Bool := decide (ty.length ≤ 40) && (skip 1 ty == some [])
theorem endI_len (ty : List Int) : (endI ty 1 0 == (ty.length : Int)) = (skip 1 ty == some []) := by
  unfold endI
  rw [List.drop_zero]
  cases h : skip 1 ty with
  | none => simp
  | some r =>
    obtain ⟨p, hp, hl⟩ := skip_suffix _ _ _ h
    have hlen : ty.length = p.length + r.length := by rw [hp, List.length_append]
    cases r with
    | nil => simp
    | cons x xs =>
      simp only [List.length_cons] at hlen ⊢
      simp
      omega
theorem sType (ty : List Int) (hty : ty.length ≤ 1099511627776) : spec_l2Type ty = some (wtB ty) := by
  unfold spec_l2Type wtB
  by_cases h : ty.length ≤ 40
  · rw [decide_eq_true (by omega : (ty.length : Int) ≤ 40), if_pos rfl, show (0 : Int) = ((0 : Nat) : Int) from rfl, sEnd ty hty 0 (by omega), bs, endI_len, decide_eq_true h]
    cases hs : skip 1 ty == some [] with
    | false => rfl
    | true =>
      have : 0 < ty.length := by
        rcases ty with _ | ⟨c, l⟩
        · rw [show skip 1 [] = none from rfl] at hs; cases hs
        · simp
      rw [if_pos rfl, decide_eq_true (by omega : (ty.length : Int) > ((0 : Nat) : Int))]; rfl
  · rw [decide_eq_false (by omega : ¬ (ty.length : Int) ≤ 40), decide_eq_false h]; rfl
theorem iType (ty : List Int) (hty : ty.length ≤ 1099511627776) : impl_isWrittenType ty = some (wtB ty) := by
  unfold impl_isWrittenType wtB
  rw [iIn, bs]
  by_cases h : ty.length ≤ 40
  · rw [decide_eq_true h]
    by_cases h1 : 1 ≤ ty.length
    · have : inB (ty.length : Int) 1 40 = true := by simp only [inB, Bool.and_eq_true, decide_eq_true_eq]; omega
      rw [this, if_pos rfl, show (0 : Int) = ((0 : Nat) : Int) from rfl, iEnd ty hty _ 0 rfl, bs, endI_len]; rfl
    · have : inB (ty.length : Int) 1 40 = false := by rw [Bool.eq_false_iff]; intro h'; simp only [inB, Bool.and_eq_true, decide_eq_true_eq] at h'; omega
      have e : ty = [] := List.length_eq_zero_iff.1 (by omega)
      rw [this, e]; rfl
  · have : inB (ty.length : Int) 1 40 = false := by rw [Bool.eq_false_iff]; intro h'; simp only [inB, Bool.and_eq_true, decide_eq_true_eq] at h'; omega
    rw [this, decide_eq_false h]; rfl
/-- A code's grade is one of so many (closed: and is told). -/
def gradeC (c : Int) : Int := if 35 ≤ c then -1 else if 19 ≤ c then c - 19 else c - 3
def gokC (size : Int) (closed : Bool) (c : Int) : Bool := !(decide (kidsC c > 0) && decide (c > 2) && (decide (gradeC c ≥ size) || closed && decide (gradeC c < 0)))
theorem sGrade {c : Int} (h : kidsC c > 0) : spec_l2Grade c = some (gradeC c) := by
  have : 0 ≤ c ∧ c ≤ 36 := by rcases kidsC_cases c with h | h | h | h <;> omega
  unfold spec_l2Grade gradeC
  by_cases h1 : 35 ≤ c
  · rw [decide_eq_true (by omega : c ≥ 35), if_pos rfl, if_pos h1]
  · rw [decide_eq_false (by omega : ¬ c ≥ 35), if_neg (by decide), if_neg h1]
    by_cases h2 : 19 ≤ c
    · rw [decide_eq_true (by omega : c ≥ 19), if_pos rfl, if_pos h2, wr_id (by omega) (by omega)]
    · rw [decide_eq_false (by omega : ¬ c ≥ 19), if_neg (by decide), if_neg h2, wr_id (by omega) (by omega)]
theorem sGraded_l0 (ty : List Int) (hty : ty.length ≤ 1099511627776) (size : Int) (cl : Bool) : ∀ (l : List Int) (i : Nat), ty.drop i = l → spec_l2Graded_l0 (ty, size, cl, (i : Int)) = some (if l.all (gokC size cl) then .inl () else .inr false) := by
  intro l
  induction l with
  | nil =>
    intro i hl
    rw [spec_l2Graded_l0.eq_def]
    simp only
    rw [lt_f (drop_nil_le hl)]; rfl
  | cons c l ih =>
    intro i hl
    obtain ⟨hi, hx, hd⟩ := drop_cons_get hl
    rw [spec_l2Graded_l0.eq_def]
    simp only
    rw [lt_t hi, if_pos rfl, hx, bs, bs, sKids, bs, wr_succ (by omega)]
    have ih := ih (i + 1) hd
    generalize ((i + 1 : Nat) : Int) = M at ih ⊢
    rw [List.all_cons]
    unfold gokC at ih ⊢
    by_cases hk : kidsC c > 0
    · simp only [bs, sGrade hk]
      rw [decide_eq_true hk]
      generalize gradeC c = g at ih ⊢
      cases decide (c > 2) <;> cases decide (g ≥ size) <;> cases cl <;> cases decide (g < 0) <;> simp [bs, ih]
    · rw [decide_eq_false hk]; simp [bs, ih]
theorem sGraded (ty : List Int) (hty : ty.length ≤ 1099511627776) (size : Int) (cl : Bool) : spec_l2Graded (ty, size, cl) = some (ty.all (gokC size cl)) := by
  unfold spec_l2Graded
  simp only
  rw [show (0 : Int) = ((0 : Nat) : Int) from rfl, sGraded_l0 ty hty size cl _ 0 rfl, List.drop_zero, bs]
  cases ty.all (gokC size cl) <;> rfl
theorem gok16 (c : Int) : gokC 16 false c = true := by
  unfold gokC gradeC
  rcases kidsC_cases c with ⟨h, e⟩ | ⟨h, e⟩ | ⟨h, e⟩ | ⟨h, e⟩ <;> rw [e] <;> simp <;> split <;> (try split) <;> omega
theorem bind_of {α β : Type} {a : Option α} {f : α → Option β} {x : α} (h : a = some x) : (a >>= f) = f x := by rw [h]; rfl
mutual
def tsz : GTerm → Nat
  | ⟨_, _, _, ks⟩ => 1 + tszs ks
def tszs : List GTerm → Nat
  | [] => 0
  | k :: ks => tsz k + tszs ks
end
mutual
/-- What a term holds in all its rows. -/
def tms : GTerm → Nat
  | ⟨_, _, ty, ks⟩ => ty.length + ks.length + tmss ks
def tmss : List GTerm → Nat
  | [] => 0
  | k :: ks => tms k + tmss ks
end
theorem tms_eq (t : GTerm) : tms t = t.fType.length + t.fKids.length + tmss t.fKids := by cases t; rw [tms]
theorem tsz_eq (t : GTerm) : tsz t = 1 + tszs t.fKids := by cases t; rw [tsz]
def leftI (left n : Nat) : Int := if n ≤ left then ((left - n : Nat) : Int) else -1
theorem leftI_le {left n : Nat} (h : n ≤ left) : leftI left n = ((left - n : Nat) : Int) := if_pos h
theorem leftI_gt {left n : Nat} (h : ¬ n ≤ left) : leftI left n = -1 := if_neg h
theorem sLeft_neg (t : GTerm) (i : Int) : spec_l2Left_l0 (t, -1, i) = some (-1) := by
  rw [spec_l2Left_l0.eq_def]
  simp only
  cases decide (i < (t.fKids.length : Int)) <;> rfl
mutual
theorem sLeft : ∀ (t : GTerm) (left : Nat), tms t ≤ 1099511627776 → left ≤ 1048576 → spec_l2Left (t, (left : Int)) = some (leftI left (tsz t))
  | ⟨op, N, ty, ks⟩, left, ht, hl => by
    rw [tms] at ht
    rw [spec_l2Left.eq_def, tsz]
    simp only
    rcases left with _ | l
    · rw [show wr (((0 : Nat) : Int) - 1) = -1 from wr_id (by omega) (by omega), sLeft_neg, bs, leftI_gt (by omega)]
    · have h := sLeft_l0 ks ⟨op, N, ty, ks⟩ 0 l rfl (by simp only; omega) (by omega) (by omega)
      rw [wr_id (by omega) (by omega), show ((l + 1 : Nat) : Int) - 1 = (l : Int) by omega, show (0 : Int) = ((0 : Nat) : Int) from rfl, h, bs]
      unfold leftI
      by_cases q : tszs ks ≤ l
      · rw [if_pos q, if_pos (by omega), show l + 1 - (1 + tszs ks) = l - tszs ks by omega]
      · rw [if_neg q, if_neg (by omega)]
theorem sLeft_l0 : ∀ (ks : List GTerm) (t : GTerm) (i left : Nat), t.fKids.drop i = ks → t.fKids.length ≤ 1099511627776 → tmss ks ≤ 1099511627776 → left ≤ 1048576 → spec_l2Left_l0 (t, (left : Int), (i : Int)) = some (leftI left (tszs ks))
  | [], t, i, left, hd, hk, ht, hl => by
    rw [spec_l2Left_l0.eq_def, tszs]
    simp only
    rw [lt_f (drop_nil_le hd)]
    simp [bs, leftI]
  | k :: ks, t, i, left, hd, hk, ht, hl => by
    obtain ⟨hi, hx, hd'⟩ := drop_cons_get hd
    rw [tmss] at ht
    rw [spec_l2Left_l0.eq_def, tszs]
    simp only
    rw [lt_t hi, if_pos rfl, bs, decide_eq_true (by omega : ((left : Nat) : Int) ≥ 0), if_pos rfl, hx, bs, sLeft k left (by omega) hl, bs, wr_succ (by omega)]
    by_cases q : tsz k ≤ left
    · rw [leftI_le q, sLeft_l0 ks t (i + 1) (left - tsz k) hd' hk (by omega) (by omega)]
      unfold leftI
      by_cases q2 : tszs ks ≤ left - tsz k
      · rw [if_pos q2, if_pos (by omega)]; congr 2; omega
      · rw [if_neg q2, if_neg (by omega)]
    · rw [leftI_gt q, sLeft_neg, leftI_gt (by omega)]
end
def manyI (op : Int) : Int := if inB op 0 12 then ([0, 0, 2, 3, 2, 2, 1, 1, 3, 1, 2, 1, 2] : List Int).getD op.toNat 0 else -1
def hasG (op : Int) : Bool := op == 5 || op == 8 || op == 9 || op == 11 || op == 12
def typedG (op : Int) : Bool := op == 6 || op == 7 || op == 9
def wordG (op : Int) : ByteArray := ([ByteArray.mk #[120], ByteArray.empty, ByteArray.mk #[97, 100, 100], ByteArray.mk #[105, 102], ByteArray.mk #[112, 97, 105, 114], ByteArray.mk #[115, 112, 108, 105, 116], ByteArray.mk #[108, 101, 102, 116],
  ByteArray.mk #[114, 105, 103, 104, 116], ByteArray.mk #[99, 97, 115, 101], ByteArray.mk #[102, 117, 110], ByteArray.mk #[97, 112, 112], ByteArray.mk #[98, 111, 120], ByteArray.mk #[111, 112, 101, 110]] : List ByteArray).getD op.toNat ByteArray.empty
theorem op_cases {op : Int} (h : inB op 0 12 = true) : op = 0 ∨ op = 1 ∨ op = 2 ∨ op = 3 ∨ op = 4 ∨ op = 5 ∨ op = 6 ∨ op = 7 ∨ op = 8 ∨ op = 9 ∨ op = 10 ∨ op = 11 ∨ op = 12 := by
  simp only [inB, Bool.and_eq_true, decide_eq_true_eq] at h
  omega
theorem sMany (op : Int) : spec_l2Many op = some (manyI op) := by
  unfold spec_l2Many manyI
  rw [sIn, bs]
  cases h : inB op 0 12
  · rfl
  · rcases op_cases h with rfl | rfl | rfl | rfl | rfl | rfl | rfl | rfl | rfl | rfl | rfl | rfl | rfl <;> rfl
theorem sHas (op : Int) : spec_l2Has op = some (hasG op) := by
  unfold spec_l2Has hasG
  cases op == 5 <;> cases op == 8 <;> cases op == 9 <;> cases op == 11 <;> rfl
theorem sTyped (op : Int) : spec_l2Typed op = some (typedG op) := by
  unfold spec_l2Typed typedG
  cases op == 6 <;> cases op == 7 <;> rfl
def formG (op : Int) : GForm × Bool := if inB op 0 12 then (GForm.mk (wordG op) (manyI op) (hasG op) (typedG op), true) else (GForm.mk ByteArray.empty 0 false false, false)
theorem iForm (op : Int) : impl_formOf op = some (formG op) := by
  unfold impl_formOf formG
  rw [iIn, bs]
  cases h : inB op 0 12
  · rfl
  · rcases op_cases h with rfl | rfl | rfl | rfl | rfl | rfl | rfl | rfl | rfl | rfl | rfl | rfl | rfl <;> rfl
def addsI (op kid : Int) : Nat := if op == 5 && kid == 1 then 2 else if (op == 8 && decide (kid > 0)) || op == 9 || (op == 12 && kid == 1) then 1 else 0
theorem addsI_le (op kid : Int) : addsI op kid ≤ 2 := by unfold addsI; split <;> (try split) <;> omega
theorem sAdds (op kid : Int) : spec_l2Adds (op, kid) = some ((addsI op kid : Nat) : Int) := by
  unfold spec_l2Adds addsI
  simp only
  generalize (op == 5) = b1
  generalize (op == 8) = b2
  generalize (op == 9) = b3
  generalize (op == 12) = b4
  generalize (kid == 1) = b5
  generalize decide (kid > 0) = b6
  cases b1 <;> cases b2 <;> cases b3 <;> cases b4 <;> cases b5 <;> cases b6 <;> rfl
theorem iAdds (op kid : Int) : impl_adds (op, kid) = some ((addsI op kid : Nat) : Int) := by
  unfold impl_adds addsI
  simp only
  generalize (op == 5) = b1
  generalize (op == 8) = b2
  generalize (op == 9) = b3
  generalize (op == 12) = b4
  generalize (kid == 1) = b5
  generalize decide (kid > 0) = b6
  cases b1 <;> cases b2 <;> cases b3 <;> cases b4 <;> cases b5 <;> cases b6 <;> rfl
def nOkN (g : Int → Bool) (n : Int) (t : GTerm) : Bool := if t.fOp == 0 then inB t.fN 0 (n - 1) else if t.fOp == 1 then inB t.fN 0 2 else if hasG t.fOp then g t.fN else t.fN == 0
def nOkY (y : List Int → Bool) (t : GTerm) : Bool := if typedG t.fOp then y t.fType else (t.fType.length : Int) == 0
def nodeOk (g : Int → Bool) (y : List Int → Bool) (n : Int) (t : GTerm) : Bool := inB t.fOp 0 12 && ((t.fKids.length : Int) == manyI t.fOp) && nOkN g n t && nOkY y t
mutual
def tOk (g : Int → Bool) (y : List Int → Bool) : Nat → GTerm → Bool
  | n, ⟨op, N, ty, ks⟩ => nodeOk g y (n : Int) ⟨op, N, ty, ks⟩ && tOks g y op n 0 ks
def tOks (g : Int → Bool) (y : List Int → Bool) : Int → Nat → Nat → List GTerm → Bool
  | _, _, _, [] => true
  | op, n, i, k :: ks => tOk g y (n + addsI op (i : Int)) k && tOks g y op n (i + 1) ks
end
theorem tOk_eq (g : Int → Bool) (y : List Int → Bool) (n : Nat) (t : GTerm) : tOk g y n t = (nodeOk g y (n : Int) t && tOks g y t.fOp n 0 t.fKids) := by cases t; rw [tOk]
def gN (size : Int) (cl : Bool) (x : Int) : Bool := !(decide (x ≥ size) || decide (x < -1) || cl && decide (x < 0))
def yN (size : Int) (cl : Bool) (ty : List Int) : Bool := wtB ty && ty.all (gokC size cl)
theorem sNode (t : GTerm) (n : Nat) (size : Int) (cl : Bool) (hty : t.fType.length ≤ 1099511627776) (hn : n ≤ 35184372088832) : spec_l2Node (t, (n : Int), size, cl) = some (nodeOk (gN size cl) (yN size cl) (n : Int) t) := by
  unfold spec_l2Node nodeOk
  simp only
  rw [sMany, bs]
  by_cases hk : (t.fKids.length : Int) = manyI t.fOp
  · have hop : inB t.fOp 0 12 = true := by
      cases h : inB t.fOp 0 12
      · unfold manyI at hk; rw [h] at hk; simp at hk
      · rfl
    rw [show ((t.fKids.length : Int) != manyI t.fOp) = false by rw [hk]; exact bne_self, if_neg (by decide), show ((t.fKids.length : Int) == manyI t.fOp) = true by rw [hk]; simp, hop]
    refine (bind_of (x := if nOkN (gN size cl) (n : Int) t then .inl () else .inr false) ?_).trans ?_
    · unfold nOkN gN
      rw [sIn, wr_id (by omega) (by omega), sIn, sHas]
      simp only [bs]
      generalize inB t.fN 0 ((n : Int) - 1) = b1
      generalize inB t.fN 0 2 = b2
      generalize hasG t.fOp = b3
      rw [show (t.fN != 0) = !(t.fN == 0) from rfl]
      generalize (t.fN == 0) = b4
      generalize decide (t.fN ≥ size) = b5
      generalize decide (t.fN < -1) = b6
      generalize decide (t.fN < 0) = b7
      generalize (t.fOp == 0) = b8
      generalize (t.fOp == 1) = b9
      cases b8
      · cases b9
        · cases b3
          · cases b4 <;> rfl
          · cases b5 <;> cases b6 <;> cases cl <;> cases b7 <;> rfl
        · cases b2 <;> rfl
      · cases b1 <;> rfl
    · cases nOkN (gN size cl) (n : Int) t
      · simp
      · unfold nOkY yN
        simp only [if_true]
        rw [sTyped, bs]
        cases typedG t.fOp
        · simp
        · simp only [if_true]
          rw [sType _ hty, sGraded _ hty]
          cases wtB t.fType <;> simp [bs]
  · rw [show ((t.fKids.length : Int) != manyI t.fOp) = true by simpa using hk, if_pos rfl, show ((t.fKids.length : Int) == manyI t.fOp) = false by simpa using hk]
    simp
mutual
theorem sTerm (size : Int) (cl : Bool) : ∀ (t : GTerm) (n : Nat), tms t ≤ 1099511627776 → n + 2 * tms t ≤ 35184372088832 → spec_l2Term (t, (n : Int), size, cl) = some (tOk (gN size cl) (yN size cl) n t)
  | ⟨op, N, ty, ks⟩, n, ht, hn => by
    rw [tms] at ht hn
    rw [spec_l2Term.eq_def, tOk]
    simp only
    rw [sNode _ n size cl (by simp only; omega) (by omega), bs]
    cases hb : nodeOk (gN size cl) (yN size cl) (n : Int) ⟨op, N, ty, ks⟩
    · rfl
    · have h := sTerm_l0 size cl ks ⟨op, N, ty, ks⟩ n 0 rfl (by simp only; omega) (by omega) (by omega)
      rw [if_pos rfl, show (0 : Int) = ((0 : Nat) : Int) from rfl, h, bs]
      simp only
      cases tOks (gN size cl) (yN size cl) op n 0 ks <;> rfl
theorem sTerm_l0 (size : Int) (cl : Bool) : ∀ (ks : List GTerm) (t : GTerm) (n i : Nat), t.fKids.drop i = ks → t.fKids.length ≤ 1099511627776 → tmss ks ≤ 1099511627776 → n + 2 * (ks.length + tmss ks) ≤ 35184372088832 →
    spec_l2Term_l0 (t, (n : Int), size, cl, (i : Int)) = some (if tOks (gN size cl) (yN size cl) t.fOp n i ks then .inl () else .inr false)
  | [], t, n, i, hd, hk, ht, hn => by
    rw [spec_l2Term_l0.eq_def, tOks]
    simp only
    rw [lt_f (drop_nil_le hd)]; rfl
  | k :: ks, t, n, i, hd, hk, ht, hn => by
    obtain ⟨hi, hx, hd'⟩ := drop_cons_get hd
    rw [tmss] at ht hn
    rw [List.length_cons] at hn
    have ha := addsI_le t.fOp (i : Int)
    rw [spec_l2Term_l0.eq_def, tOks]
    simp only
    rw [lt_t hi, if_pos rfl, hx, bs, sAdds, bs, wr_id (by omega) (by omega), show (n : Int) + ((addsI t.fOp (i : Int) : Nat) : Int) = ((n + addsI t.fOp (i : Int) : Nat) : Int) by omega]
    rw [sTerm size cl k (n + addsI t.fOp (i : Int)) (by omega) (by omega), bs, wr_succ (by omega)]
    cases tOk (gN size cl) (yN size cl) (n + addsI t.fOp (i : Int)) k
    · rfl
    · rw [if_pos rfl, sTerm_l0 size cl ks t n (i + 1) hd' hk (by omega) (by omega), Bool.true_and]
end
def chkI (ok : Bool) (nodes sz : Nat) : Int := if ok && decide (nodes + sz ≤ 400) then ((nodes + sz : Nat) : Int) else 401
theorem iWs (x : Int) : impl_writtenSize_c1 x = some (gN 16 false x) := by
  unfold impl_writtenSize_c1
  rw [iIn, bs]
  congr 1
  unfold gN inB
  by_cases h1 : x ≥ 16 <;> by_cases h2 : x < -1 <;> simp [h1, h2] <;> omega
mutual
theorem iCheckW : ∀ (t : GTerm) (n nodes : Nat), tms t ≤ 1099511627776 → n + 2 * tms t ≤ 35184372088832 → nodes ≤ 400 → impl_check_Kimpl_writtenSize_c1_Kimpl_isWrittenType (t, (n : Int), (nodes : Int)) = some (chkI (tOk (gN 16 false) wtB n t) nodes (tsz t))
  | ⟨op, N, ty, ks⟩, n, nodes, ht, hn, hd => by
    rw [tms] at ht hn
    rw [impl_check_Kimpl_writtenSize_c1_Kimpl_isWrittenType.eq_def, tOk, tsz]
    simp only
    rw [iForm, bs]
    unfold formG
    cases hop : inB op 0 12
    · simp [nodeOk, hop, chkI]
    · simp only [if_true]
      rw [wr_succ (by omega)]
      by_cases h4 : nodes + 1 ≤ 400
      · rw [decide_eq_false (by omega : ¬ ((nodes + 1 : Nat) : Int) > 400)]
        by_cases hk : (ks.length : Int) = manyI op
        · rw [show ((ks.length : Int) != manyI op) = false by rw [hk]; exact bne_self]
          simp only [Bool.false_eq_true, if_false, bs]
          refine (bind_of (x := nOkN (gN 16 false) (n : Int) ⟨op, N, ty, ks⟩) ?_).trans ?_
          · unfold nOkN
            simp only [iIn, wr_id (x := (n : Int) - 1) (by omega) (by omega), iWs, bs]
            cases op == 0 <;> cases op == 1 <;> cases hasG op <;> rfl
          refine (bind_of (x := nOkN (gN 16 false) (n : Int) ⟨op, N, ty, ks⟩ && nOkY wtB ⟨op, N, ty, ks⟩) ?_).trans ?_
          · unfold nOkY
            simp only [iType ty (by omega), bs]
            cases typedG op <;> cases nOkN (gN 16 false) (n : Int) ⟨op, N, ty, ks⟩ <;> rfl
          have e : nodeOk (gN 16 false) wtB (n : Int) ⟨op, N, ty, ks⟩ = (nOkN (gN 16 false) (n : Int) ⟨op, N, ty, ks⟩ && nOkY wtB ⟨op, N, ty, ks⟩) := by
            unfold nodeOk
            simp only
            rw [hop, hk]; simp
          rw [e]
          cases nOkN (gN 16 false) (n : Int) ⟨op, N, ty, ks⟩ && nOkY wtB ⟨op, N, ty, ks⟩
          · simp [chkI]
          · have h := iCheckW_l0 ks ⟨op, N, ty, ks⟩ n (nodes + 1) 0 rfl (by simp only; omega) (by omega) (by omega) h4
            rw [if_pos rfl, show (0 : Int) = ((0 : Nat) : Int) from rfl, h]
            simp only [Bool.true_and]
            unfold chkI
            rw [show nodes + (1 + tszs ks) = nodes + 1 + tszs ks by omega]
            cases tOks (gN 16 false) wtB op n 0 ks && decide (nodes + 1 + tszs ks ≤ 400) <;> rfl
        · rw [show ((ks.length : Int) != manyI op) = true by simpa using hk]
          have e : nodeOk (gN 16 false) wtB (n : Int) ⟨op, N, ty, ks⟩ = false := by
            unfold nodeOk
            simp only
            rw [show ((ks.length : Int) == manyI op) = false by simpa using hk]; simp
          simp [e, chkI]
      · rw [decide_eq_true (by omega : ((nodes + 1 : Nat) : Int) > 400)]
        have : ¬ nodes + (1 + tszs ks) ≤ 400 := by omega
        simp [chkI, this]
theorem iCheckW_l0 : ∀ (ks : List GTerm) (t : GTerm) (n nodes i : Nat), t.fKids.drop i = ks → t.fKids.length ≤ 1099511627776 → tmss ks ≤ 1099511627776 → n + 2 * (ks.length + tmss ks) ≤ 35184372088832 → nodes ≤ 400 →
    impl_check_Kimpl_writtenSize_c1_Kimpl_isWrittenType_l0 (t, (n : Int), (nodes : Int), (i : Int)) = some (if tOks (gN 16 false) wtB t.fOp n i ks && decide (nodes + tszs ks ≤ 400) then .inl ((nodes + tszs ks : Nat) : Int) else .inr 401)
  | [], t, n, nodes, i, hd, hk, ht, hn, h4 => by
    rw [impl_check_Kimpl_writtenSize_c1_Kimpl_isWrittenType_l0.eq_def, tOks, tszs]
    simp only
    rw [lt_f (drop_nil_le hd)]
    simp [h4]
  | k :: ks, t, n, nodes, i, hd, hk, ht, hn, h4 => by
    obtain ⟨hi, hx, hd'⟩ := drop_cons_get hd
    rw [tmss] at ht hn
    rw [List.length_cons] at hn
    have ha := addsI_le t.fOp (i : Int)
    rw [impl_check_Kimpl_writtenSize_c1_Kimpl_isWrittenType_l0.eq_def, tOks, tszs]
    simp only
    rw [lt_t hi, if_pos rfl, hx, bs, iAdds, bs, wr_id (by omega) (by omega), show (n : Int) + ((addsI t.fOp (i : Int) : Nat) : Int) = ((n + addsI t.fOp (i : Int) : Nat) : Int) by omega]
    rw [iCheckW k (n + addsI t.fOp (i : Int)) nodes (by omega) (by omega) h4, bs, wr_succ (by omega)]
    unfold chkI
    cases tOk (gN 16 false) wtB (n + addsI t.fOp (i : Int)) k
    · rfl
    · by_cases q : nodes + tsz k ≤ 400
      · rw [decide_eq_true q, Bool.true_and, if_pos rfl, decide_eq_false (by omega : ¬ ((nodes + tsz k : Nat) : Int) > 400), if_neg (by decide), iCheckW_l0 ks t n (nodes + tsz k) (i + 1) hd' hk (by omega) (by omega) q, Nat.add_assoc, Bool.true_and]
      · rw [decide_eq_false q, decide_eq_false (by omega : ¬ nodes + (tsz k + tszs ks) ≤ 400)]
        simp
end
theorem yN16 (ty : List Int) : yN 16 false ty = wtB ty := by
  unfold yN
  have : ty.all (gokC 16 false) = true := by rw [List.all_eq_true]; intro x _; exact gok16 x
  rw [this, Bool.and_true]
/-- A written term. -/
def wB (t : GTerm) : Bool := tOk (gN 16 false) wtB 8 t && decide (tsz t ≤ 400)
theorem iWsize (t : GTerm) (ht : tms t ≤ 1099511627776) : impl_writtenSize t = some (chkI (tOk (gN 16 false) wtB 8 t) 0 (tsz t)) := by
  unfold impl_writtenSize
  have := iCheckW t 8 0 ht (by omega) (by omega)
  rw [show ((8 : Nat) : Int) = 8 from rfl, show ((0 : Nat) : Int) = 0 from rfl] at this
  rw [this, bs]
theorem iWritten (t : GTerm) (ht : tms t ≤ 1099511627776) : impl_IsWritten t = some (wB t) := by
  unfold impl_IsWritten
  rw [iWsize t ht, bs]
  unfold chkI wB
  rw [Nat.zero_add]
  congr 1
  cases h : tOk (gN 16 false) wtB 8 t && decide (tsz t ≤ 400)
  · rfl
  · simp only [Bool.and_eq_true, decide_eq_true_eq] at h
    rw [if_pos rfl, decide_eq_true (by omega)]
theorem sWritten (t : GTerm) (ht : tms t ≤ 1099511627776) : spec_IsWritten t = some (wB t) := by
  unfold spec_IsWritten wB
  have h1 := sLeft t 400 ht (by omega)
  have h2 := sTerm 16 false t 8 ht (by omega)
  rw [show ((400 : Nat) : Int) = 400 from rfl] at h1
  rw [show ((8 : Nat) : Int) = 8 from rfl, show yN 16 false = wtB from funext yN16] at h2
  rw [h1, bs, h2]
  unfold leftI
  by_cases q : tsz t ≤ 400
  · rw [if_pos q, decide_eq_true (by omega : (((400 - tsz t : Nat)) : Int) ≥ 0), decide_eq_true q, Bool.and_true]; rfl
  · rw [if_neg q, decide_eq_false q, Bool.and_false]; rfl
/-- What is left of a measure. -/
def szB (left : Int) (n : Nat) : Int := if left - (n : Int) < 0 then -1 else left - (n : Int)
theorem szB_cases (left : Int) (n : Nat) : (szB left n = -1 ∧ left < n) ∨ (szB left n = left - n ∧ (n : Int) ≤ left) := by
  unfold szB
  by_cases h : left - (n : Int) < 0
  · rw [if_pos h]; left; omega
  · rw [if_neg h]; right; omega
theorem szIntS_eq (a : List Int) (left : Int) (h1 : 0 ≤ left) (h2 : left ≤ 1048576) (ha : a.length ≤ 9223372036854775807) : laws_szIntS (a, left) = some (szB left a.length) := by
  unfold laws_szIntS szB
  simp only
  rw [wr_id (by omega) (by omega)]
  by_cases h : left - (a.length : Int) < 0
  · rw [decide_eq_true h, if_pos rfl, if_pos h]
  · rw [decide_eq_false h, if_neg (by decide), if_neg h]
mutual
/-- All rows are of a length that a machine can bear. -/
def tln : GTerm → Prop
  | ⟨_, N, ty, ks⟩ => ty.length ≤ 9223372036854775807 ∧ ks.length ≤ 9223372036854775807 ∧ tlns ks ∧ (-9223372036854775808 ≤ N ∧ N ≤ 9223372036854775807)
def tlns : List GTerm → Prop
  | [] => True
  | k :: ks => tln k ∧ tlns ks
end
mutual
theorem szTerm_eq : ∀ (t : GTerm) (left : Int), tln t → 0 ≤ left → left ≤ 1048576 → laws_szTerm (t, left) = some (szB left (tms t))
  | ⟨op, N, ty, ks⟩, left, hl, h1, h2 => by
    rw [tln] at hl
    rw [laws_szTerm.eq_def, tms]
    simp only
    rw [szIntS_eq ty left h1 h2 hl.1, bs]
    rcases szB_cases left ty.length with ⟨e, h⟩ | ⟨e, h⟩
    · rw [e, decide_eq_true (by decide), if_pos rfl]
      unfold szB; rw [if_pos (by omega)]
    · rw [e, decide_eq_false (by omega), if_neg (by decide), laws_szTermS.eq_def]
      simp only
      rw [wr_id (by omega) (by omega)]
      by_cases h3 : left - (ty.length : Int) - (ks.length : Int) < 0
      · rw [decide_eq_true h3, if_pos rfl, bs, decide_eq_true (by decide), if_pos rfl]
        unfold szB; rw [if_pos (by omega)]
      · obtain ⟨m, hm⟩ : ∃ m : Nat, left - (ty.length : Int) - (ks.length : Int) = (m : Int) := ⟨(left - (ty.length : Int) - (ks.length : Int)).toNat, by omega⟩
        rw [decide_eq_false h3, if_neg (by decide), hm, show (0 : Int) = ((0 : Nat) : Int) from rfl, szTermS_l0 ks ks 0 m rfl hl.2.1 hl.2.2.1 (by omega), bs]
        unfold szB
        by_cases q : m < tmss ks
        · rw [if_pos q, if_pos (by omega)]; rfl
        · rw [if_neg q, if_neg (by omega)]
          simp only [bs]
          rw [decide_eq_false (by omega), if_neg (by decide)]; congr 1; omega
theorem szTermS_l0 : ∀ (ks a : List GTerm) (i left : Nat), a.drop i = ks → a.length ≤ 9223372036854775807 → tlns ks → left ≤ 1048576 → laws_szTermS_l0 (a, (left : Int), (i : Int)) = some (if left < tmss ks then .inr (-1) else .inl ((left - tmss ks : Nat) : Int))
  | [], a, i, left, hd, ha, hl, h => by
    rw [laws_szTermS_l0.eq_def, tmss]
    simp only
    rw [lt_f (drop_nil_le hd)]
    simp
  | k :: ks, a, i, left, hd, ha, hl, h => by
    obtain ⟨hi, hx, hd'⟩ := drop_cons_get hd
    rw [tlns] at hl
    rw [laws_szTermS_l0.eq_def, tmss]
    simp only
    rw [lt_t hi, if_pos rfl, hx, bs, szTerm_eq k left hl.1 (by omega) (by omega), bs, wr_succ (by omega)]
    rcases szB_cases left (tms k) with ⟨e, q⟩ | ⟨e, q⟩
    · rw [e, decide_eq_true (by decide), if_pos rfl, if_pos (by omega)]
    · rw [e, decide_eq_false (by omega), if_neg (by decide), show (left : Int) - ((tms k : Nat) : Int) = ((left - tms k : Nat) : Int) by omega, szTermS_l0 ks a (i + 1) (left - tms k) hd' ha hl.2 (by omega)]
      by_cases q2 : left - tms k < tmss ks
      · rw [if_pos q2, if_pos (by omega)]
      · rw [if_neg q2, if_neg (by omega)]; congr 3; omega
end
mutual
theorem toTerm_id : ∀ (t : GTerm), tms t ≤ 1099511627776 → laws_toTerm t = some t
  | ⟨op, N, ty, ks⟩, h => by
    rw [tms] at h
    rw [laws_toTerm.eq_def]
    simp only
    rw [toIntS_id ty (by omega), bs, laws_toTermS.eq_def]
    have : chk (0 ≤ (ks.length : Int) ∧ (Int.toNat (ks.length : Int)) * 64 ≤ 140737488355328) = some () := by
      unfold chk; rw [if_pos]; refine ⟨by omega, ?_⟩; rw [Int.toNat_natCast]; omega
    rw [this, bs, Int.toNat_natCast, show (0 : Int) = ((0 : Nat) : Int) from rfl, toTermS_l0 ks ks (List.replicate ks.length (GTerm.mk ((0 : Nat) : Int) ((0 : Nat) : Int) [] [])) 0 rfl (by omega) (by omega) (by simp) rfl]
    rfl
theorem toTermS_l0 : ∀ (ks a out : List GTerm) (i : Nat), a.drop i = ks → a.length ≤ 1099511627776 → tmss ks ≤ 1099511627776 → out.length = a.length → out.take i = a.take i → laws_toTermS_l0 (a, out, (i : Int)) = some a
  | [], a, out, i, hd, ha, hl, ho, ht => by
    rw [laws_toTermS_l0.eq_def]
    simp only
    have hle := drop_nil_le hd
    rw [lt_f hle]
    rw [List.take_of_length_le (by omega), List.take_of_length_le (by omega)] at ht
    simp [ht]
  | k :: ks, a, out, i, hd, ha, hl, ho, ht => by
    obtain ⟨hi, hx, hd'⟩ := drop_cons_get hd
    have hk : a[i] = k := by rw [idx_get hi] at hx; exact Option.some.inj hx
    rw [tmss] at hl
    rw [laws_toTermS_l0.eq_def]
    simp only
    rw [lt_t hi, if_pos rfl, hx, bs, toTerm_id k (by omega), bs, idx_get (by omega), bs, wr_succ (by omega), Int.toNat_natCast]
    exact toTermS_l0 ks a _ (i + 1) hd' ha (by omega) (by simpa using ho) (by rw [← hk]; exact take_set_succ ho hi ht)
end
mutual
theorem eqTerm_refl : ∀ (t : GTerm), tms t ≤ 1099511627776 → laws_eqTerm (t, t) = some true
  | ⟨op, N, ty, ks⟩, h => by
    rw [tms] at h
    rw [laws_eqTerm.eq_def]
    simp only
    rw [bne_self, if_neg (by decide), bne_self, if_neg (by decide), eqIntS_refl ty (by omega), bs, if_pos rfl, laws_eqTermS.eq_def]
    simp only
    rw [bne_self, if_neg (by decide), show (0 : Int) = ((0 : Nat) : Int) from rfl, eqTermS_l0 ks ks 0 rfl (by omega) (by omega)]
    rfl
theorem eqTermS_l0 : ∀ (ks a : List GTerm) (i : Nat), a.drop i = ks → a.length ≤ 1099511627776 → tmss ks ≤ 1099511627776 → laws_eqTermS_l0 (a, a, (i : Int)) = some (.inl ())
  | [], a, i, hd, ha, hl => by
    rw [laws_eqTermS_l0.eq_def]
    simp only
    rw [lt_f (drop_nil_le hd)]
    rfl
  | k :: ks, a, i, hd, ha, hl => by
    obtain ⟨hi, hx, hd'⟩ := drop_cons_get hd
    rw [tmss] at hl
    rw [laws_eqTermS_l0.eq_def]
    simp only
    rw [lt_t hi, if_pos rfl, hx, bs, bs, eqTerm_refl k (by omega), bs, if_pos rfl, wr_succ (by omega)]
    exact eqTermS_l0 ks a (i + 1) hd' ha (by omega)
end
theorem skip_codes (l : List Int) : ∀ (m : Nat), skip m l = some [] → ∀ c ∈ l, 0 ≤ c ∧ c ≤ 36 := by
  induction l with
  | nil => intro m h c hc; cases hc
  | cons x l ih =>
    intro m h c hc
    cases m with
    | zero => rw [skip_zero] at h; cases h
    | succ m =>
      rw [skip_cons] at h
      by_cases hk : kidsC x = -1
      · rw [if_pos hk] at h; cases h
      · rw [if_neg hk] at h
        rcases List.mem_cons.1 hc with rfl | hc
        · rcases kidsC_cases c with q | q | q | q <;> omega
        · exact ih _ h c hc
theorem wtB_codes {ty : List Int} (h : wtB ty = true) : ∀ c ∈ ty, 0 ≤ c ∧ c ≤ 36 := by
  unfold wtB at h
  rw [Bool.and_eq_true, beq_iff_eq] at h
  exact skip_codes ty 1 h.2
theorem wtB_len {ty : List Int} (h : wtB ty = true) : ty.length ≤ 40 := by
  unfold wtB at h
  rw [Bool.and_eq_true, decide_eq_true_eq] at h
  exact h.1
theorem tOk_node {g : Int → Bool} {y : List Int → Bool} {n : Nat} {t : GTerm} (h : tOk g y n t = true) : nodeOk g y (n : Int) t = true ∧ tOks g y t.fOp n 0 t.fKids = true := by
  rw [tOk_eq, Bool.and_eq_true] at h; exact h
theorem nodeOk_ty {g : Int → Bool} {n : Int} {t : GTerm} (h : nodeOk g wtB n t = true) : (∀ c ∈ t.fType, 0 ≤ c ∧ c ≤ 36) ∧ t.fType.length ≤ 40 := by
  unfold nodeOk nOkY at h
  rw [Bool.and_eq_true] at h
  have h := h.2
  cases hq : typedG t.fOp
  · rw [hq] at h
    simp at h
    rw [h]; simp
  · rw [hq, if_pos rfl] at h
    exact ⟨wtB_codes h, wtB_len h⟩
theorem fits_ok {n b : Nat} (h : n * b ≤ 140737488355328) : fits n b = some () := by unfold fits chk; rw [if_pos h]
def opAt (l : List GTerm) (i : Nat) : Int := match l[i]? with | some t => t.fOp | none => -1
/-- A redex, by the ops of its root and of the first kids. -/
def redB (t : GTerm) : Bool :=
  if t.fKids.length = 0 then false else
  if t.fOp == 2 then opAt t.fKids 0 == 1 && opAt t.fKids 1 == 1 else if t.fOp == 3 then opAt t.fKids 0 == 1 else if t.fOp == 10 then opAt t.fKids 0 == 9 else if t.fOp == 5 then opAt t.fKids 0 == 4
  else if t.fOp == 8 then opAt t.fKids 0 == 6 || opAt t.fKids 0 == 7 else if t.fOp == 12 then opAt t.fKids 0 == 11 else false
theorem nodeOk_many {g : Int → Bool} {y : List Int → Bool} {n : Int} {t : GTerm} (h : nodeOk g y n t = true) : inB t.fOp 0 12 = true ∧ (t.fKids.length : Int) = manyI t.fOp := by
  unfold nodeOk at h
  simp only [Bool.and_eq_true, beq_iff_eq] at h
  exact ⟨h.1.1.1, h.1.1.2⟩
theorem idx_opAt {l : List GTerm} {i : Nat} (h : i < l.length) : ∃ t, idx l (i : Int) = some t ∧ t.fOp = opAt l i := ⟨l[i], idx_get h, by unfold opAt; rw [List.getElem?_eq_getElem h]⟩
mutual
def reds : GTerm → List Int → List (List Int)
  | ⟨op, N, ty, ks⟩, p => (if redB ⟨op, N, ty, ks⟩ then [p] else []) ++ redss ks 0 p
def redss : List GTerm → Nat → List Int → List (List Int)
  | [], _, _ => []
  | k :: ks, i, p => reds k (p ++ [(i : Int)]) ++ redss ks (i + 1) p
end
mutual
theorem reds_le : ∀ (t : GTerm) (p : List Int), (reds t p).length ≤ tsz t
  | ⟨op, N, ty, ks⟩, p => by
    rw [reds, tsz, List.length_append]
    have := redss_le ks 0 p
    split <;> simp <;> omega
theorem redss_le : ∀ (ks : List GTerm) (i : Nat) (p : List Int), (redss ks i p).length ≤ tszs ks
  | [], i, p => by simp [redss]
  | k :: ks, i, p => by
    rw [redss, tszs, List.length_append]
    have := reds_le k (p ++ [(i : Int)])
    have := redss_le ks (i + 1) p
    omega
end
theorem kids_le_tszs : ∀ (ks : List GTerm), ks.length ≤ tszs ks
  | [] => by simp [tszs]
  | k :: ks => by
    have := kids_le_tszs ks
    have := tsz_eq k
    rw [tszs, List.length_cons]; omega
theorem sCopy (l : List Int) (h : l.length ≤ 1099511627776) : spec_l1Copy l = some l := by
  unfold spec_l1Copy
  rw [fits_ok (by simp only [List.length_nil]; omega), bs]
theorem sRedex (t : GTerm) (h : inB t.fOp 0 12 = true ∧ (t.fKids.length : Int) = manyI t.fOp) : spec_l4Redex t = some (redB t) := by
  obtain ⟨hop, hk⟩ := h
  unfold spec_l4Redex redB
  by_cases h0 : t.fKids.length = 0
  · rw [if_pos h0, show ((t.fKids.length : Int) == 0) = true by rw [h0]; rfl, if_pos rfl]
  · obtain ⟨a, ha, ea⟩ := idx_opAt (l := t.fKids) (i := 0) (by omega)
    rw [if_neg h0, show ((t.fKids.length : Int) == 0) = false from beq_eq_false_iff_ne.2 (by omega), if_neg (by decide), show (0 : Int) = ((0 : Nat) : Int) from rfl, ha, bs, ea]
    cases h2 : t.fOp == 2
    · cases t.fOp == 3 <;> cases t.fOp == 10 <;> cases t.fOp == 5 <;> cases t.fOp == 8 <;> cases t.fOp == 12 <;> (try rfl)
      all_goals cases opAt t.fKids 0 == 6 <;> rfl
    · have h2' := eq_of_beq h2
      have hl : t.fKids.length = 2 := by rw [h2'] at hk; have : manyI 2 = 2 := rfl; omega
      obtain ⟨b, hb, eb⟩ := idx_opAt (l := t.fKids) (i := 1) (by omega)
      rw [show (1 : Int) = ((1 : Nat) : Int) from rfl, hb]
      simp only [bs, eb]
      cases opAt t.fKids 0 == ((1 : Nat) : Int) <;> rfl
mutual
theorem sReds (g : Int → Bool) (y : List Int → Bool) : ∀ (t : GTerm) (m : Nat) (p : List Int), tOk g y m t = true → p.length + tsz t ≤ 1048576 → spec_l4Paths (t, p) = some (reds t p)
  | ⟨op, N, ty, ks⟩, m, p, hw, hp => by
    obtain ⟨hw1, hw2⟩ := tOk_node hw
    rw [tsz] at hp
    rw [spec_l4Paths.eq_def, reds]
    simp only
    rw [sRedex _ (nodeOk_many hw1), bs]
    refine (bind_of (x := if redB ⟨op, N, ty, ks⟩ then [p] else []) ?_).trans ?_
    · cases redB ⟨op, N, ty, ks⟩
      · rfl
      · rw [if_pos rfl, sCopy p (by omega), bs, fits_ok (by simp)]; rfl
    have h := sReds_l0 g y ks ⟨op, N, ty, ks⟩ m 0 p (if redB ⟨op, N, ty, ks⟩ then [p] else []) rfl hw2 (by simp only [tsz]; omega) (by split <;> simp <;> omega) (by simp only; have := kids_le_tszs ks; omega)
    rw [show (0 : Int) = ((0 : Nat) : Int) from rfl, h, bs]
theorem sReds_l0 (g : Int → Bool) (y : List Int → Bool) : ∀ (ks : List GTerm) (t : GTerm) (m i : Nat) (p : List Int) (out : List (List Int)), t.fKids.drop i = ks → tOks g y t.fOp m i ks = true → p.length + tsz t ≤ 1048576 → out.length + tszs ks ≤ 1048577 → t.fKids.length ≤ 1048576 →
    spec_l4Paths_l0 (t, p, out, (i : Int)) = some (out ++ redss ks i p)
  | [], t, m, i, p, out, hd, hw, hp, ho, hk => by
    rw [spec_l4Paths_l0.eq_def, redss]
    simp only
    rw [lt_f (drop_nil_le hd), List.append_nil]; rfl
  | k :: ks, t, m, i, p, out, hd, hw, hp, ho, hk => by
    obtain ⟨hi, hx, hd'⟩ := drop_cons_get hd
    have hm : tsz k + 1 ≤ tsz t := by
      have e : t.fKids = t.fKids.take i ++ (k :: ks) := by rw [← hd, List.take_append_drop]
      rw [tsz_eq t, e]
      have : ∀ (a b : List GTerm), tszs (a ++ b) = tszs a + tszs b := fun a b => by
        induction a with
        | nil => simp [tszs]
        | cons x l ih => rw [List.cons_append, tszs, tszs, ih]; omega
      rw [this, tszs]; omega
    rw [tszs] at ho
    rw [tOks, Bool.and_eq_true] at hw
    have hl := reds_le k (p ++ [(i : Int)])
    rw [spec_l4Paths_l0.eq_def, redss]
    simp only
    rw [lt_t hi, if_pos rfl, hx, bs, sCopy p (by omega), bs, fits_ok (by simp; omega), bs, sReds g y k _ (p ++ [(i : Int)]) hw.1 (by rw [List.length_append, List.length_singleton]; omega), bs, fits_ok (by omega), bs, wr_succ (by omega)]
    rw [sReds_l0 g y ks t m (i + 1) p _ hd' hw.2 hp (by rw [List.length_append]; omega) hk, List.append_assoc]
end
theorem iCopy (l : List Int) (h : l.length ≤ 1099511627776) : slices_Clone_int l = some l := by
  unfold slices_Clone_int
  rw [fits_ok (by simp only [List.length_nil]; omega), bs]
theorem iRedex (t : GTerm) (h : inB t.fOp 0 12 = true ∧ (t.fKids.length : Int) = manyI t.fOp) : impl_isRedex t = some (redB t) := by
  obtain ⟨hop, hk⟩ := h
  unfold impl_isRedex redB
  by_cases h0 : t.fKids.length = 0
  · rw [if_pos h0, show ((t.fKids.length : Int) == 0) = true by rw [h0]; rfl, if_pos rfl]
  · obtain ⟨a, ha, ea⟩ := idx_opAt (l := t.fKids) (i := 0) (by omega)
    rw [if_neg h0, show ((t.fKids.length : Int) == 0) = false from beq_eq_false_iff_ne.2 (by omega), if_neg (by decide), show (0 : Int) = ((0 : Nat) : Int) from rfl, ha, bs, ea]
    cases h2 : t.fOp == 2
    · cases t.fOp == 3 <;> cases t.fOp == 10 <;> cases t.fOp == 5 <;> cases t.fOp == 8 <;> cases t.fOp == 12 <;> (try rfl)
      all_goals cases opAt t.fKids 0 == 6 <;> rfl
    · have h2' := eq_of_beq h2
      have hl : t.fKids.length = 2 := by rw [h2'] at hk; have : manyI 2 = 2 := rfl; omega
      obtain ⟨b, hb, eb⟩ := idx_opAt (l := t.fKids) (i := 1) (by omega)
      rw [show (1 : Int) = ((1 : Nat) : Int) from rfl, hb]
      simp only [bs, eb]
      cases opAt t.fKids 0 == ((1 : Nat) : Int) <;> rfl
mutual
theorem iReds (g : Int → Bool) (y : List Int → Bool) : ∀ (t : GTerm) (m : Nat) (p : List Int), tOk g y m t = true → p.length + tsz t ≤ 1048576 → impl_redexes (t, p) = some (reds t p)
  | ⟨op, N, ty, ks⟩, m, p, hw, hp => by
    obtain ⟨hw1, hw2⟩ := tOk_node hw
    rw [tsz] at hp
    rw [impl_redexes.eq_def, reds]
    simp only
    rw [iRedex _ (nodeOk_many hw1), bs]
    refine (bind_of (x := if redB ⟨op, N, ty, ks⟩ then [p] else []) ?_).trans ?_
    · cases redB ⟨op, N, ty, ks⟩
      · rfl
      · rw [if_pos rfl, iCopy p (by omega), bs, fits_ok (by simp)]; rfl
    have h := iReds_l0 g y ks ⟨op, N, ty, ks⟩ m 0 p (if redB ⟨op, N, ty, ks⟩ then [p] else []) rfl hw2 (by simp only [tsz]; omega) (by split <;> simp <;> omega) (by simp only; have := kids_le_tszs ks; omega)
    rw [show (0 : Int) = ((0 : Nat) : Int) from rfl, h, bs]
theorem iReds_l0 (g : Int → Bool) (y : List Int → Bool) : ∀ (ks : List GTerm) (t : GTerm) (m i : Nat) (p : List Int) (out : List (List Int)), t.fKids.drop i = ks → tOks g y t.fOp m i ks = true → p.length + tsz t ≤ 1048576 → out.length + tszs ks ≤ 1048577 → t.fKids.length ≤ 1048576 →
    impl_redexes_l0 (t, p, out, (i : Int)) = some (out ++ redss ks i p)
  | [], t, m, i, p, out, hd, hw, hp, ho, hk => by
    rw [impl_redexes_l0.eq_def, redss]
    simp only
    rw [lt_f (drop_nil_le hd), List.append_nil]; rfl
  | k :: ks, t, m, i, p, out, hd, hw, hp, ho, hk => by
    obtain ⟨hi, hx, hd'⟩ := drop_cons_get hd
    have hm : tsz k + 1 ≤ tsz t := by
      have e : t.fKids = t.fKids.take i ++ (k :: ks) := by rw [← hd, List.take_append_drop]
      rw [tsz_eq t, e]
      have : ∀ (a b : List GTerm), tszs (a ++ b) = tszs a + tszs b := fun a b => by
        induction a with
        | nil => simp [tszs]
        | cons x l ih => rw [List.cons_append, tszs, tszs, ih]; omega
      rw [this, tszs]; omega
    rw [tszs] at ho
    rw [tOks, Bool.and_eq_true] at hw
    have hl := reds_le k (p ++ [(i : Int)])
    rw [impl_redexes_l0.eq_def, redss]
    simp only
    rw [lt_t hi, if_pos rfl, hx, bs, iCopy p (by omega), bs, fits_ok (by simp; omega), bs, iReds g y k _ (p ++ [(i : Int)]) hw.1 (by rw [List.length_append, List.length_singleton]; omega), bs, fits_ok (by omega), bs, wr_succ (by omega)]
    rw [iReds_l0 g y ks t m (i + 1) p _ hd' hw.2 hp (by rw [List.length_append]; omega) hk, List.append_assoc]
end
theorem normal_eq (t : GTerm) (ht : tms t ≤ 1048576) : ∃ r, spec_IsNormal t = some r ∧ impl_IsNormal t = some r := by
  unfold spec_IsNormal impl_IsNormal
  rw [sWritten t (by omega), iWritten t (by omega)]
  cases h : wB t
  · exact ⟨false, rfl, rfl⟩
  · unfold wB at h
    rw [Bool.and_eq_true, decide_eq_true_eq] at h
    refine ⟨((reds t []).length : Int) == 0, ?_, ?_⟩
    · rw [bs, if_pos rfl, sReds _ _ t 8 [] h.1 (by simp; omega)]; rfl
    · rw [bs, if_pos rfl, iReds _ _ t 8 [] h.1 (by simp; omega)]; rfl
inductive Ty where
  | num
  | bin (c : Int) (a b : Ty)
  | un (c : Int) (a : Ty)
namespace Ty
def code : Ty → List Int
  | num => [0]
  | bin c a b => c :: (a.code ++ b.code)
  | un c a => c :: a.code
def ok : Ty → Prop
  | num => True
  | bin c a b => kidsC c = 2 ∧ a.ok ∧ b.ok
  | un c a => kidsC c = 1 ∧ a.ok
def kids : Ty → List Ty
  | num => []
  | bin _ a b => [a, b]
  | un _ a => [a]
def hd : Ty → Int
  | num => 0
  | bin c _ _ => c
  | un c _ => c
end Ty
theorem cut_end {α : Type} (p q : List α) : cut (p ++ q) (some (p.length : Int)) none none = some q := by
  unfold cut
  rw [if_pos]
  · simp only [Option.getD_some, Option.getD_none, Int.toNat_natCast, List.take_length, List.drop_left]
  · simp only [Option.getD_some, Option.getD_none, List.length_append]; omega
theorem idx0 {α : Type} (x : α) (l : List α) : idx (x :: l) 0 = some x := rfl
theorem wr_add {a b : Nat} (ha : a ≤ 1099511627776) (hb : b ≤ 1099511627776) : wr ((a : Int) + (b : Int)) = ((a + b : Nat) : Int) := by rw [wr_id (by omega) (by omega)]; omega
theorem tmss_mem {l : List GTerm} {t : GTerm} (h : t ∈ l) : tms t + l.length ≤ tmss l + l.length := by
  induction l with
  | nil => cases h
  | cons x l ih =>
    rw [tmss]
    rcases List.mem_cons.1 h with rfl | h
    · omega
    · have := ih h; omega
theorem tszs_mem {l : List GTerm} {t : GTerm} (h : t ∈ l) : tsz t ≤ tszs l := by
  induction l with
  | nil => cases h
  | cons x l ih =>
    rw [tszs]
    rcases List.mem_cons.1 h with rfl | h
    · omega
    · have := ih h; omega
theorem tms_kid {t k : GTerm} (h : k ∈ t.fKids) : tms k + 1 ≤ tms t := by
  rw [tms_eq t]
  have := tmss_mem h
  have : 1 ≤ t.fKids.length := List.length_pos_of_mem h
  omega
theorem tsz_kid {t k : GTerm} (h : k ∈ t.fKids) : tsz k + 1 ≤ tsz t := by
  rw [tsz_eq t]
  have := tszs_mem h
  omega
mutual
theorem iCopyT : ∀ (t : GTerm), tms t ≤ 1099511627776 → impl_copyTerm t = some t
  | ⟨op, N, ty, ks⟩, h => by
    rw [tms] at h
    rw [impl_copyTerm.eq_def]
    simp only
    rw [iCopy ty (by omega), bs, show (0 : Int) = ((0 : Nat) : Int) from rfl, iCopyT_l0 ks ⟨op, N, ty, ks⟩ 0 ty [] rfl (by simp only; omega) (by omega) (by simp), bs]
    rfl
theorem iCopyT_l0 : ∀ (ks : List GTerm) (t : GTerm) (i : Nat) (r : List Int) (out : List GTerm), t.fKids.drop i = ks → t.fKids.length ≤ 1099511627776 → tmss ks ≤ 1099511627776 → out.length = i → impl_copyTerm_l0 (t, r, out, (i : Int)) = some (out ++ ks)
  | [], t, i, r, out, hd, hk, hm, ho => by
    rw [impl_copyTerm_l0.eq_def]
    simp only
    rw [lt_f (drop_nil_le hd), List.append_nil]; rfl
  | k :: ks, t, i, r, out, hd, hk, hm, ho => by
    obtain ⟨hi, hx, hd'⟩ := drop_cons_get hd
    rw [tmss] at hm
    rw [impl_copyTerm_l0.eq_def]
    simp only
    rw [lt_t hi, if_pos rfl, hx, bs, iCopyT k (by omega), bs, fits_ok (by simp only [List.length_singleton]; omega), bs, wr_succ (by omega), iCopyT_l0 ks t (i + 1) r _ hd' hk (by omega) (by simp [ho]), List.append_assoc]
    rfl
end
mutual
/-- All variables are of numbers within bounds. -/
def tNb (hi : Int) : GTerm → Prop
  | ⟨op, N, _, ks⟩ => (op = 0 → -9223372036854775808 ≤ N ∧ N ≤ hi) ∧ tNbs hi ks
def tNbs (hi : Int) : List GTerm → Prop
  | [] => True
  | k :: ks => tNb hi k ∧ tNbs hi ks
end
mutual
def shf (by_ : Int) : Int → GTerm → GTerm
  | from_, ⟨op, N, ty, ks⟩ => ⟨op, if op == 0 && decide (N ≥ from_) then N + by_ else N, ty, shfs by_ op from_ 0 ks⟩
def shfs (by_ : Int) : Int → Int → Nat → List GTerm → List GTerm
  | _, _, _, [] => []
  | op, from_, i, k :: ks => shf by_ (from_ + ((addsI op (i : Int) : Nat) : Int)) k :: shfs by_ op from_ (i + 1) ks
end
mutual
theorem shf_zero : ∀ (t : GTerm) (fr : Int), shf 0 fr t = t
  | ⟨op, N, ty, ks⟩, fr => by
    rw [shf, shfs_zero ks]
    simp
theorem shfs_zero : ∀ (ks : List GTerm) (op fr : Int) (i : Nat), shfs 0 op fr i ks = ks
  | [], op, fr, i => by rw [shfs]
  | k :: ks, op, fr, i => by rw [shfs, shf_zero k, shfs_zero ks]
end
theorem shfs_length (by_ : Int) : ∀ (ks : List GTerm) (op fr : Int) (i : Nat), (shfs by_ op fr i ks).length = ks.length
  | [], op, fr, i => by rw [shfs]
  | k :: ks, op, fr, i => by rw [shfs, List.length_cons, List.length_cons, shfs_length by_ ks]
mutual
theorem sShift (b hi : Int) (hb : 0 ≤ b) (hh : hi + b ≤ 9223372036854775807) : ∀ (t : GTerm) (fr : Int), tNb hi t → tms t ≤ 1099511627776 → -35184372088832 ≤ fr → fr + 2 * tms t ≤ 35184372088832 → spec_l2Shift (t, b, fr) = some (shf b fr t)
  | ⟨op, N, ty, ks⟩, fr, hn, hm, h1, h2 => by
    rw [tms] at hm h2
    rw [tNb] at hn
    rw [spec_l2Shift.eq_def, shf]
    simp only
    rw [sCopy ty (by omega), bs]
    refine (bind_of (x := op == 0 && decide (N ≥ fr)) ?_).trans ?_
    · cases op == 0 <;> rfl
    refine (bind_of (x := if op == 0 && decide (N ≥ fr) then N + b else N) ?_).trans ?_
    · cases h : op == 0 && decide (N ≥ fr)
      · rfl
      · rw [Bool.and_eq_true] at h
        have := hn.1 (eq_of_beq h.1)
        rw [if_pos rfl, wr_id (by omega) (by omega)]; rfl
    rw [show (0 : Int) = ((0 : Nat) : Int) from rfl, sShift_l0 b hi hb hh ks ⟨op, N, ty, ks⟩ fr 0 ty _ [] rfl (by simp only; omega) hn.2 (by omega) h1 (by omega) (by simp), bs]
    rfl
theorem sShift_l0 (b hi : Int) (hb : 0 ≤ b) (hh : hi + b ≤ 9223372036854775807) : ∀ (ks : List GTerm) (t : GTerm) (fr : Int) (i : Nat) (r : List Int) (o : Int) (out : List GTerm), t.fKids.drop i = ks → t.fKids.length ≤ 1099511627776 → tNbs hi ks → tmss ks ≤ 1099511627776 → -35184372088832 ≤ fr →
    fr + 2 * (ks.length + tmss ks) ≤ 35184372088832 → out.length = i → spec_l2Shift_l0 (t, b, fr, r, o, out, (i : Int)) = some (out ++ shfs b t.fOp fr i ks)
  | [], t, fr, i, r, o, out, hd, hk, hn, hm, h1, h2, ho => by
    rw [spec_l2Shift_l0.eq_def, shfs]
    simp only
    rw [lt_f (drop_nil_le hd), List.append_nil]; rfl
  | k :: ks, t, fr, i, r, o, out, hd, hk, hn, hm, h1, h2, ho => by
    obtain ⟨hi', hx, hd'⟩ := drop_cons_get hd
    rw [tmss] at hm h2
    rw [List.length_cons] at h2
    rw [tNbs] at hn
    have ha := addsI_le t.fOp (i : Int)
    rw [spec_l2Shift_l0.eq_def, shfs]
    simp only
    rw [lt_t hi', if_pos rfl, hx, bs, sAdds, bs, wr_id (by omega) (by omega), sShift b hi hb hh k _ hn.1 (by omega) (by omega) (by omega), bs, fits_ok (by simp only [List.length_singleton]; omega), bs, wr_succ (by omega)]
    rw [sShift_l0 b hi hb hh ks t fr (i + 1) r o _ hd' hk hn.2 (by omega) h1 (by omega) (by simp [ho]), List.append_assoc]
    rfl
end
mutual
theorem tNb_mono {a b : Int} (h : a ≤ b) : ∀ (t : GTerm), tNb a t → tNb b t
  | ⟨op, N, ty, ks⟩, hn => by
    rw [tNb] at hn ⊢
    exact ⟨fun e => by have := hn.1 e; omega, tNbs_mono h ks hn.2⟩
theorem tNbs_mono {a b : Int} (h : a ≤ b) : ∀ (ks : List GTerm), tNbs a ks → tNbs b ks
  | [], _ => by rw [tNbs]; trivial
  | k :: ks, hn => by rw [tNbs] at hn ⊢; exact ⟨tNb_mono h k hn.1, tNbs_mono h ks hn.2⟩
end
mutual
/-- Variables of a term with so many variables. -/
theorem tOk_Nb (g : Int → Bool) (y : List Int → Bool) : ∀ (t : GTerm) (n : Nat), tOk g y n t = true → tNb ((n : Int) + 2 * tsz t) t
  | ⟨op, N, ty, ks⟩, n, h => by
    obtain ⟨h1, h2⟩ := tOk_node h
    rw [tNb]
    refine ⟨fun e => ?_, ?_⟩
    · subst e
      unfold nodeOk nOkN at h1
      simp only [Bool.and_eq_true] at h1
      have h3 := h1.1.2
      rw [show ((0 : Int) == 0) = true from rfl, if_pos rfl] at h3
      unfold inB at h3
      simp only [Bool.and_eq_true, decide_eq_true_eq] at h3
      omega
    · rw [tsz]
      exact tNbs_mono (by omega) ks (tOks_Nb g y ks op n 0 h2)
theorem tOks_Nb (g : Int → Bool) (y : List Int → Bool) : ∀ (ks : List GTerm) (op : Int) (n i : Nat), tOks g y op n i ks = true → tNbs ((n : Int) + 2 * tszs ks + 2) ks
  | [], op, n, i, h => by rw [tNbs]; trivial
  | k :: ks, op, n, i, h => by
    rw [tOks, Bool.and_eq_true] at h
    have ha := addsI_le op (i : Int)
    rw [tNbs, tszs]
    exact ⟨tNb_mono (by omega) k (tOk_Nb g y k _ h.1), tNbs_mono (by omega) ks (tOks_Nb g y ks op n (i + 1) h.2)⟩
end
theorem wB_of {t : GTerm} (h : wB t = true) : tOk (gN 16 false) wtB 8 t = true ∧ tsz t ≤ 400 := by
  unfold wB at h
  rw [Bool.and_eq_true, decide_eq_true_eq] at h
  exact h
theorem wB_Nb {t : GTerm} (h : wB t = true) : tNb 1048576 t := by
  obtain ⟨h1, h2⟩ := wB_of h
  exact tNb_mono (by omega) t (tOk_Nb _ _ t 8 h1)
theorem sShift0 {t : GTerm} (hn : tNb 9223372036854775807 t) (hm : tms t ≤ 1099511627776) : spec_l2Shift (t, 0, 0) = some t := by
  rw [sShift 0 9223372036854775807 (by omega) (by omega) t 0 hn hm (by omega) (by omega), shf_zero]
theorem tNbs_mem {hi : Int} {l : List GTerm} (h : tNbs hi l) : ∀ t ∈ l, tNb hi t := by
  induction l with
  | nil => intro t ht; cases ht
  | cons x l ih =>
    rw [tNbs] at h
    intro t ht
    rcases List.mem_cons.1 ht with rfl | ht
    · exact h.1
    · exact ih h.2 t ht
theorem tNb_kids {hi : Int} {t : GTerm} (h : tNb hi t) : tNbs hi t.fKids := by cases t; rw [tNb] at h; exact h.2
theorem markI_l0 : ∀ (l a : List Int) (i k : Nat), a.drop i = l → a.length ≤ 1099511627776 → k + l.length ≤ 1152921504606846976 + 1099511627776 →
    ∃ M, laws_markIntS_l0 (a, (k : Int), (i : Int)) = some (((k + l.length : Nat) : Int), M) ∧ M.length = a.length ∧ M.take i = a.take i ∧ M.drop i = (List.range' k l.length).map (fun n : Nat => (n : Int)) := by
  intro l
  induction l with
  | nil =>
    intro a i k hd ha hk
    rw [laws_markIntS_l0.eq_def]
    simp only
    rw [lt_f (drop_nil_le hd)]
    exact ⟨a, by simp, rfl, rfl, by rw [hd]; rfl⟩
  | cons x l ih =>
    intro a i k hd ha hk
    obtain ⟨hi, hx, hd'⟩ := drop_cons_get hd
    have hl : (x :: l).length ≤ 1099511627776 := by rw [← hd, List.length_drop]; omega
    rw [List.length_cons] at hl hk
    rw [laws_markIntS_l0.eq_def]
    simp only
    rw [lt_t hi, if_pos rfl, hx, bs, Int.toNat_natCast, wr_succ (by omega), wr_succ (by omega)]
    obtain ⟨M, h1, h2, h3, h4⟩ := ih (a.set i (k : Int)) (i + 1) (k + 1) (by rw [List.drop_set_of_lt (by omega)]; exact hd') (by simpa using ha) (by omega)
    have hMl : i < M.length := by rw [h2, List.length_set]; exact hi
    have hMi : M[i] = (k : Int) := by
      have := congrArg (fun l => l[i]?) h3
      simp only [List.getElem?_take] at this
      rw [if_pos (by omega), if_pos (by omega), List.getElem?_eq_getElem hMl, List.getElem?_set_self hi] at this
      exact Option.some.inj this
    refine ⟨M, by rw [h1, List.length_cons]; congr 3; omega, by simpa using h2, ?_, ?_⟩
    · have := congrArg (List.take i) h3
      rw [List.take_take, List.take_take, Nat.min_eq_left (by omega), List.take_set_of_le (Nat.le_refl i)] at this
      exact this
    · rw [List.drop_eq_getElem_cons hMl, h4, hMi, List.length_cons, List.range'_succ, List.map_cons]
theorem markI (a : List Int) (k : Nat) (ha : a.length ≤ 1099511627776) (hk : k ≤ 1152921504606846976) :
    laws_markIntS (a, (k : Int)) = some (((k + a.length : Nat) : Int), (List.range' k a.length).map (fun n : Nat => (n : Int))) := by
  unfold laws_markIntS
  simp only
  obtain ⟨M, h1, h2, h3, h4⟩ := markI_l0 a a 0 k rfl ha (by omega)
  rw [List.drop_zero] at h4
  rw [show (0 : Int) = ((0 : Nat) : Int) from rfl, h1, bs, h4]
theorem heldI_l0 (m : Nat) : ∀ (n k i : Nat) (a : List Int), a.length ≤ 1099511627776 → a.drop i = (List.range' k n).map (fun n : Nat => (n : Int)) → k + n ≤ 1152921504606846976 + 1099511627776 → laws_heldIntS_l0 (a, (k : Int), (i : Int)) = some (.inl ((k + n : Nat) : Int)) := by
  intro n
  induction n with
  | zero =>
    intro k i a ha hd hk
    rw [laws_heldIntS_l0.eq_def]
    simp only
    rw [lt_f (drop_nil_le hd)]; rfl
  | succ n ih =>
    intro k i a ha hd hk
    rw [List.range'_succ, List.map_cons] at hd
    obtain ⟨hi, hx, hd'⟩ := drop_cons_get hd
    rw [laws_heldIntS_l0.eq_def]
    simp only
    rw [lt_t hi, if_pos rfl, hx, bs, bne_self, if_neg (by decide), wr_succ (by omega), wr_succ (by omega), ih (k + 1) (i + 1) a ha hd' (by omega)]
    congr 3; omega
theorem heldI (n k : Nat) (hn : n ≤ 1099511627776) (hk : k ≤ 1152921504606846976) : laws_heldIntS ((List.range' k n).map (fun n : Nat => (n : Int)), (k : Int)) = some ((k + n : Nat) : Int) := by
  unfold laws_heldIntS
  simp only
  rw [show (0 : Int) = ((0 : Nat) : Int) from rfl, heldI_l0 0 n k 0 _ (by simpa using hn) (by rw [List.drop_zero]) (by omega), bs]
mutual
/-- How many numbers a mark lays into what a term leads to. -/
def mct : GTerm → Nat
  | ⟨_, _, ty, ks⟩ => ty.length + mcts ks
def mcts : List GTerm → Nat
  | [] => 0
  | k :: ks => 2 + mct k + mcts ks
end
mutual
theorem mct_le : ∀ (t : GTerm), mct t ≤ 2 * tms t
  | ⟨op, N, ty, ks⟩ => by rw [mct, tms]; have := mcts_le ks; omega
theorem mcts_le : ∀ (ks : List GTerm), mcts ks ≤ 2 * (ks.length + tmss ks)
  | [] => by simp [mcts]
  | k :: ks => by rw [mcts, tmss, List.length_cons]; have := mct_le k; have := mcts_le ks; omega
end
theorem set_set_same {α : Type} (l : List α) (i : Nat) (a b : α) : (l.set i a).set i b = l.set i b := List.set_set ..
theorem idx_set {α : Type} {l : List α} {i : Nat} (h : i < l.length) (a : α) : idx (l.set i a) (i : Int) = some a := by
  rw [idx_get (by simpa using h)]; simp
mutual
theorem markT : ∀ (t : GTerm) (k : Nat), tms t ≤ 1099511627776 → k + mct t ≤ 1152921504606846976 → ∃ ty ks, laws_markIntS (t.fType, (k : Int)) = some (((k + t.fType.length : Nat) : Int), ty) ∧ laws_markTermS (t.fKids, ((k + t.fType.length : Nat) : Int)) = some (((k + mct t : Nat) : Int), ks) ∧
    laws_heldIntS (ty, (k : Int)) = some ((k + t.fType.length : Nat) : Int) ∧ laws_heldTermS (ks, ((k + t.fType.length : Nat) : Int)) = some ((k + mct t : Nat) : Int) ∧ ks.length = t.fKids.length
  | ⟨op, N, ty, ks⟩, k, hm, hk => by
    rw [tms] at hm
    rw [mct] at hk ⊢
    simp only
    refine ⟨(List.range' k ty.length).map (fun n : Nat => (n : Int)), ?_⟩
    obtain ⟨M, h1, h2, h3, h4⟩ := markTs ks ks 0 (k + ty.length) rfl (by omega) (by omega) (by omega)
    refine ⟨M, markI ty k (by omega) (by omega), ?_, heldI ty.length k (by omega) (by omega), ?_, h2⟩
    · rw [laws_markTermS.eq_def]
      simp only
      rw [show (0 : Int) = ((0 : Nat) : Int) from rfl, h1, bs, Nat.add_assoc]
    · rw [laws_heldTermS.eq_def]
      simp only
      rw [show (0 : Int) = ((0 : Nat) : Int) from rfl, h4 M h2 rfl, bs, Nat.add_assoc]
theorem markTs : ∀ (ks a : List GTerm) (i k : Nat), a.drop i = ks → a.length ≤ 1099511627776 → tmss ks ≤ 1099511627776 → k + mcts ks ≤ 1152921504606846976 →
    ∃ M, laws_markTermS_l0 (a, (k : Int), (i : Int)) = some (((k + mcts ks : Nat) : Int), M) ∧ M.length = a.length ∧ M.take i = a.take i ∧ ∀ A : List GTerm, A.length = a.length → A.drop i = M.drop i → laws_heldTermS_l0 (A, (k : Int), (i : Int)) = some (.inl ((k + mcts ks : Nat) : Int))
  | [], a, i, k, hd, ha, hm, hk => by
    rw [laws_markTermS_l0.eq_def, mcts]
    simp only
    rw [lt_f (drop_nil_le hd)]
    refine ⟨a, rfl, rfl, rfl, fun A hA _ => ?_⟩
    rw [laws_heldTermS_l0.eq_def]
    simp only
    have := drop_nil_le hd
    rw [lt_f (by omega)]; rfl
  | x :: ks, a, i, k, hd, ha, hm, hk => by
    obtain ⟨hi, hx, hd'⟩ := drop_cons_get hd
    rw [tmss] at hm
    rw [mcts] at hk ⊢
    rw [laws_markTermS_l0.eq_def]
    simp only
    rw [lt_t hi, if_pos rfl, hx, bs, wr_succ (n := k) (by omega), wr_succ (n := k + 1) (by omega), Int.toNat_natCast]
    obtain ⟨ty, kk, m1, m2, m3, m4, m5⟩ := markT x (k + 1 + 1) (by omega) (by omega)
    simp only [set_set_same, idx_set hi, bs, m1, m2]
    rw [wr_succ (by omega)]
    obtain ⟨M, h1, h2, h3, h4⟩ := markTs ks (a.set i ⟨(k : Int), ((k + 1 : Nat) : Int), ty, kk⟩) (i + 1) (k + 1 + 1 + mct x) (by rw [List.drop_set_of_lt (by omega)]; exact hd') (by simpa using ha) (by omega) (by omega)
    have hMl : i < M.length := by rw [h2, List.length_set]; exact hi
    have hMi : M[i] = ⟨(k : Int), ((k + 1 : Nat) : Int), ty, kk⟩ := by
      have := congrArg (fun l => l[i]?) h3
      simp only [List.getElem?_take] at this
      rw [if_pos (by omega), if_pos (by omega), List.getElem?_eq_getElem hMl, List.getElem?_set_self hi] at this
      exact Option.some.inj this
    refine ⟨M, by rw [h1]; congr 3; omega, by simpa using h2, ?_, fun A hA hAd => ?_⟩
    · have := congrArg (List.take i) h3
      rw [List.take_take, List.take_take, Nat.min_eq_left (by omega), List.take_set_of_le (Nat.le_refl i)] at this
      exact this
    · rw [List.drop_eq_getElem_cons hMl, hMi] at hAd
      obtain ⟨qi, qx, qd⟩ := drop_cons_get hAd
      rw [laws_heldTermS_l0.eq_def]
      simp only
      rw [lt_t qi, if_pos rfl, qx, bs, wr_succ (n := k) (by omega), wr_succ (n := k + 1) (by omega)]
      simp only
      rw [bne_self, if_neg (by decide), bs]
      simp only
      rw [bne_self, if_neg (by decide), bs]
      simp only
      rw [m3, bs, decide_eq_false (by omega), if_neg (by decide), bs]
      simp only
      rw [m4, bs, decide_eq_false (by omega), if_neg (by decide), wr_succ (by omega), h4 A (by simpa using hA) qd]
      congr 3; omega
end
theorem markTerm_held (t : GTerm) (k : Nat) (hm : tms t ≤ 1099511627776) (hk : k ≤ 1000000000000000000) : ∃ M, laws_markTerm (t, (k : Int)) = some (((k + mct t : Nat) : Int), M) ∧ ∀ op N, laws_heldTerm (⟨op, N, M.fType, M.fKids⟩, (k : Int)) = some ((k + mct t : Nat) : Int) := by
  have hc := mct_le t
  obtain ⟨ty, ks, m1, m2, m3, m4, _⟩ := markT t k hm (by omega)
  unfold laws_markTerm
  simp only
  rw [m1, bs]
  simp only
  rw [m2, bs]
  refine ⟨_, rfl, fun op N => ?_⟩
  unfold laws_heldTerm
  simp only
  rw [m3, bs, decide_eq_false (by omega), if_neg (by decide), m4, bs, decide_eq_false (by omega), if_neg (by decide)]
mutual
theorem markT0 : ∀ (t : GTerm) (k : Nat), tms t ≤ 1099511627776 → k + mct t ≤ 1152921504606846976 → ∃ ks, laws_markTermS (t.fKids, ((k + t.fType.length : Nat) : Int)) = some (((k + mct t : Nat) : Int), ks)
  | ⟨op, N, ty, ks⟩, k, hm, hk => by
    rw [tms] at hm
    rw [mct] at hk ⊢
    simp only
    obtain ⟨M, h1⟩ := markTs0 ks ks 0 (k + ty.length) rfl (by omega) (by omega) (by omega)
    refine ⟨M, ?_⟩
    rw [laws_markTermS.eq_def]
    simp only
    rw [show (0 : Int) = ((0 : Nat) : Int) from rfl, h1, bs, Nat.add_assoc]
theorem markTs0 : ∀ (ks a : List GTerm) (i k : Nat), a.drop i = ks → a.length ≤ 1099511627776 → tmss ks ≤ 1099511627776 → k + mcts ks ≤ 1152921504606846976 →
    ∃ M, laws_markTermS_l0 (a, (k : Int), (i : Int)) = some (((k + mcts ks : Nat) : Int), M)
  | [], a, i, k, hd, ha, hm, hk => by
    rw [laws_markTermS_l0.eq_def, mcts]
    simp only
    rw [lt_f (drop_nil_le hd)]
    exact ⟨a, rfl⟩
  | x :: ks, a, i, k, hd, ha, hm, hk => by
    obtain ⟨hi, hx, hd'⟩ := drop_cons_get hd
    rw [tmss] at hm
    rw [mcts] at hk ⊢
    rw [laws_markTermS_l0.eq_def]
    simp only
    rw [lt_t hi, if_pos rfl, hx, bs, wr_succ (n := k) (by omega), wr_succ (n := k + 1) (by omega), Int.toNat_natCast]
    obtain ⟨kk, m2⟩ := markT0 x (k + 1 + 1) (by omega) (by omega)
    have m1 := markI x.fType (k + 1 + 1) (by have := tms_eq x; omega) (by omega)
    simp only [set_set_same, idx_set hi, bs, m1, m2]
    rw [wr_succ (by omega)]
    obtain ⟨M, h1⟩ := markTs0 ks (a.set i ⟨(k : Int), ((k + 1 : Nat) : Int), (List.range' (k + 1 + 1) x.fType.length).map (fun n : Nat => (n : Int)), kk⟩) (i + 1) (k + 1 + 1 + mct x) (by rw [List.drop_set_of_lt (by omega)]; exact hd') (by simpa using ha) (by omega) (by omega)
    exact ⟨M, by rw [h1]; congr 3; omega⟩
end
theorem markTerm_only (t : GTerm) (k : Nat) (hm : tms t ≤ 1099511627776) (hk : k ≤ 1000000000000000000) : ∃ M, laws_markTerm (t, (k : Int)) = some (((k + mct t : Nat) : Int), M) := by
  have hc := mct_le t
  obtain ⟨ks, m2⟩ := markT0 t k hm (by omega)
  unfold laws_markTerm
  simp only
  rw [markI t.fType k (by have := tms_eq t; omega) (by omega), bs]
  simp only
  rw [m2, bs]
  exact ⟨_, rfl⟩
def stepAt (t : GTerm) (i : Int) : Option GTerm := if inB i 0 ((t.fKids.length : Int) - 1) then t.fKids[i.toNat]? else none
def atP : GTerm → List Int → Option GTerm
  | t, [] => some t
  | t, i :: l => (stepAt t i).bind fun k => atP k l
theorem stepAt_mem {t k : GTerm} {i : Int} (h : stepAt t i = some k) : k ∈ t.fKids := by
  unfold stepAt at h
  split at h
  · exact List.mem_of_getElem? h
  · cases h
theorem atP_tms {l : List Int} : ∀ {t u : GTerm}, atP t l = some u → tms u ≤ tms t ∧ ∀ hi, tNb hi t → tNb hi u := by
  induction l with
  | nil => intro t u h; cases h; exact ⟨Nat.le_refl _, fun _ h => h⟩
  | cons i l ih =>
    intro t u h
    simp only [atP] at h
    cases hs : stepAt t i with
    | none => rw [hs] at h; cases h
    | some k =>
      rw [hs] at h
      obtain ⟨h1, h2⟩ := ih h
      have hk := stepAt_mem hs
      have := tms_kid hk
      exact ⟨by omega, fun hi hn => h2 hi (tNbs_mem (tNb_kids hn) k hk)⟩
def flOf (t : GTerm) : Int × Int × List Int × List GTerm := (t.fOp, t.fN, t.fType, t.fKids)
theorem idx_stepAt {t : GTerm} {i : Int} (h : inB i 0 ((t.fKids.length : Int) - 1) = true) : ∃ k, stepAt t i = some k ∧ idx t.fKids i = some k := by
  have h' := h
  unfold inB at h'
  simp only [Bool.and_eq_true, decide_eq_true_eq] at h'
  have hl : i.toNat < t.fKids.length := by omega
  refine ⟨t.fKids[i.toNat], ?_, ?_⟩
  · unfold stepAt; rw [if_pos h, List.getElem?_eq_getElem hl]
  · unfold idx; rw [if_pos h'.1, List.getElem?_eq_getElem hl]
theorem sAt_l0 (p : List Int) (hp : p.length ≤ 1099511627776) : ∀ (l : List Int) (i : Nat) (t : GTerm), p.drop i = l → tms t ≤ 1099511627776 → spec_TermAt_l0 (p, t.fOp, t.fN, t.fType, t.fKids, (i : Int)) = some (match atP t l with | some u => .inl (flOf u) | none => .inr (⟨0, 0, [], []⟩, false)) := by
  intro l
  induction l with
  | nil =>
    intro i t hd hm
    rw [spec_TermAt_l0.eq_def]
    simp only
    rw [lt_f (drop_nil_le hd)]; rfl
  | cons x l ih =>
    intro i t hd hm
    obtain ⟨hi, hx, hd'⟩ := drop_cons_get hd
    have hkl : t.fKids.length ≤ 1099511627776 := by have := tms_eq t; omega
    rw [spec_TermAt_l0.eq_def]
    simp only
    rw [lt_t hi, if_pos rfl, hx, bs, wr_id (x := (t.fKids.length : Int) - 1) (by omega) (by omega), sIn, bs]
    simp only [atP]
    cases hb : inB x 0 ((t.fKids.length : Int) - 1)
    · have : stepAt t x = none := by unfold stepAt; rw [hb]; rfl
      rw [this]; rfl
    · obtain ⟨k, h1, h2⟩ := idx_stepAt hb
      have := tms_kid (stepAt_mem h1)
      rw [if_pos rfl, bs, h2, bs, wr_succ (by omega), ih (i + 1) k hd' (by omega), h1]; rfl
theorem iAt_l0 (p : List Int) (hp : p.length ≤ 1099511627776) : ∀ (l : List Int) (i : Nat) (t : GTerm), p.drop i = l → tms t ≤ 1099511627776 → impl_at_l0 (p, t.fOp, t.fN, t.fType, t.fKids, (i : Int)) = some (match atP t l with | some u => .inl (flOf u) | none => .inr (⟨0, 0, [], []⟩, false)) := by
  intro l
  induction l with
  | nil =>
    intro i t hd hm
    rw [impl_at_l0.eq_def]
    simp only
    rw [lt_f (drop_nil_le hd)]; rfl
  | cons x l ih =>
    intro i t hd hm
    obtain ⟨hi, hx, hd'⟩ := drop_cons_get hd
    have hkl : t.fKids.length ≤ 1099511627776 := by have := tms_eq t; omega
    rw [impl_at_l0.eq_def]
    simp only
    rw [lt_t hi, if_pos rfl, hx, bs, wr_id (x := (t.fKids.length : Int) - 1) (by omega) (by omega), iIn, bs]
    simp only [atP]
    cases hb : inB x 0 ((t.fKids.length : Int) - 1)
    · have : stepAt t x = none := by unfold stepAt; rw [hb]; rfl
      rw [this]; rfl
    · obtain ⟨k, h1, h2⟩ := idx_stepAt hb
      have := tms_kid (stepAt_mem h1)
      rw [if_pos rfl, h2, bs, wr_succ (by omega), ih (i + 1) k hd' (by omega), h1]; rfl
theorem GTerm_eta (u : GTerm) : GTerm.mk u.fOp u.fN u.fType u.fKids = u := by cases u; rfl
def noT : GTerm := ⟨0, 0, [], []⟩
def okT (o : Option GTerm) : GTerm × Bool := match o with | some u => (u, true) | none => (noT, false)
theorem sTermAt (t : GTerm) (p : List Int) (ht : tms t ≤ 1099511627776) (hp : p.length ≤ 1099511627776) : spec_TermAt (t, p) = some (okT (if wB t then atP t p else none)) := by
  unfold spec_TermAt
  simp only
  rw [sWritten t ht, bs]
  cases hw : wB t
  · rfl
  · rw [if_pos rfl, show (0 : Int) = ((0 : Nat) : Int) from rfl, sAt_l0 p hp p 0 t rfl ht, bs]
    cases h : atP t p with
    | none => simp [okT, noT, h]
    | some u =>
      obtain ⟨h1, h2⟩ := atP_tms h
      have := sShift0 (tNb_mono (by omega) u (h2 _ (wB_Nb hw))) (by omega)
      simp only [flOf, if_true, h]
      rw [GTerm_eta, show ((0 : Nat) : Int) = 0 from rfl, this, bs]; rfl
theorem iAt (t : GTerm) (p : List Int) (ht : tms t ≤ 1099511627776) (hp : p.length ≤ 1099511627776) : impl_at (t, p) = some (okT (atP t p)) := by
  unfold impl_at
  simp only
  rw [show (0 : Int) = ((0 : Nat) : Int) from rfl, iAt_l0 p hp p 0 t rfl ht, bs]
  cases h : atP t p with
  | none => rfl
  | some u => cases u; rfl
theorem beq_self_b (b : Bool) : (!(b == b)) = false := by cases b <;> rfl
theorem redexes_eq (t : GTerm) (ht : tms t ≤ 1099511627776) : spec_RedexesOf t = some (if wB t then reds t [] else []) ∧ impl_RedexesOf t = some (if wB t then reds t [] else []) := by
  unfold spec_RedexesOf impl_RedexesOf
  rw [sWritten t ht, iWritten t ht]
  cases h : wB t
  · exact ⟨rfl, rfl⟩
  · obtain ⟨h1, h2⟩ := wB_of h
    refine ⟨?_, ?_⟩
    · rw [bs, if_pos rfl, sReds _ _ t 8 [] h1 (by simp; omega)]; rfl
    · rw [bs, if_pos rfl, iReds _ _ t 8 [] h1 (by simp; omega)]; rfl
def kidD (t : GTerm) (i : Int) : GTerm := t.fKids.getD i.toNat noT
def setP : List Int → GTerm → GTerm → GTerm
  | [], _, u => u
  | i :: l, t, u => ⟨t.fOp, t.fN, t.fType, t.fKids.set i.toNat (setP l (kidD t i) u)⟩
theorem atP_cons {t u : GTerm} {i : Int} {l : List Int} (h : atP t (i :: l) = some u) : ∃ k, inB i 0 ((t.fKids.length : Int) - 1) = true ∧ i.toNat < t.fKids.length ∧ idx t.fKids i = some k ∧ kidD t i = k ∧ k ∈ t.fKids ∧ atP k l = some u := by
  simp only [atP] at h
  cases hs : stepAt t i with
  | none => rw [hs] at h; cases h
  | some k =>
    rw [hs] at h
    have hm := stepAt_mem hs
    unfold stepAt at hs
    cases hb : inB i 0 ((t.fKids.length : Int) - 1)
    · rw [hb] at hs; cases hs
    · rw [hb, if_pos rfl] at hs
      have h' := hb
      unfold inB at h'
      simp only [Bool.and_eq_true, decide_eq_true_eq] at h'
      refine ⟨k, rfl, by omega, ?_, ?_, hm, h⟩
      · unfold idx; rw [if_pos (by omega)]; exact hs
      · unfold kidD; rw [List.getD_eq_getElem?_getD, hs]; rfl
theorem tmss_set {l : List GTerm} {i : Nat} (hi : i < l.length) (u : GTerm) : tmss (l.set i u) + tms l[i] = tmss l + tms u := by
  induction l generalizing i with
  | nil => simp at hi
  | cons x l ih =>
    cases i with
    | zero => simp only [List.set_cons_zero, tmss, List.getElem_cons_zero]; omega
    | succ i =>
      have := ih (i := i) (by simpa using hi)
      simp only [List.set_cons_succ, tmss, List.getElem_cons_succ]; omega
theorem kidD_get {t : GTerm} {i : Int} (h : i.toNat < t.fKids.length) : kidD t i = t.fKids[i.toNat] := by
  unfold kidD; rw [List.getD_eq_getElem?_getD, List.getElem?_eq_getElem h]; rfl
theorem setP_tms (u : GTerm) : ∀ (p : List Int) (t x : GTerm), atP t p = some x → tms (setP p t u) ≤ tms t + tms u := by
  intro p
  induction p with
  | nil => intro t x _; rw [setP]; omega
  | cons i l ih =>
    intro t x h
    obtain ⟨k, h1, h2, h3, h4, h5, h6⟩ := atP_cons h
    have := ih k x h6
    rw [setP, tms_eq t, tms, List.length_set]
    have hs := tmss_set h2 (setP l (kidD t i) u)
    rw [← kidD_get h2, h4] at hs
    rw [h4]
    omega
theorem path_le : ∀ (p : List Int) (t x : GTerm), atP t p = some x → p.length + 1 ≤ tsz t := by
  intro p
  induction p with
  | nil => intro t x _; rw [tsz_eq]; simp
  | cons i l ih =>
    intro t x h
    obtain ⟨k, h1, h2, h3, h4, h5, h6⟩ := atP_cons h
    have := ih k x h6
    have := tsz_kid h5
    rw [List.length_cons]; omega
theorem cut_tail {α : Type} (x : α) (l : List α) : cut (x :: l) (some 1) none none = some l := cut_end [x] l
theorem shift0_list {ks : List GTerm} {hi : Int} (hh : hi ≤ 9223372036854775807) (hn : tNbs hi ks) (hm : tmss ks ≤ 1099511627776) : ∀ k ∈ ks, spec_l2Shift (k, 0, 0) = some k := fun k hk =>
  sShift0 (tNb_mono hh k (tNbs_mem hn k hk)) (by have := tmss_mem hk; omega)
theorem sSet (u : GTerm) (hu : tNb 9223372036854775807 u) (hum : tms u ≤ 1099511627776) : ∀ (p : List Int) (t x : GTerm), atP t p = some x → p.length ≤ 1099511627776 → tNb 9223372036854775807 t → tms t ≤ 1099511627776 → spec_l4Set (t, p, u) = some (setP p t u) := by
  intro p
  induction p with
  | nil =>
    intro t x _ _ _ _
    rw [spec_l4Set.eq_def, setP]
    simp only
    rw [if_pos (by rfl), sShift0 hu hum, bs]
  | cons j l ih =>
    intro t x h hp hn hm
    obtain ⟨k, h1, h2, h3, h4, h5, h6⟩ := atP_cons h
    have h1' := h1
    unfold inB at h1'
    simp only [Bool.and_eq_true, decide_eq_true_eq] at h1'
    obtain ⟨jn, hj⟩ : ∃ jn : Nat, j = (jn : Int) := ⟨j.toNat, by omega⟩
    rw [List.length_cons] at hp
    have hk := tms_kid h5
    have hte := tms_eq t
    have ihk := ih k x h6 (by omega) (tNbs_mem (tNb_kids hn) k h5) (by omega)
    rw [spec_l4Set.eq_def, setP]
    simp only
    rw [if_neg (by simp; omega), sCopy _ (by omega), bs]
    have loop : ∀ (ks : List GTerm) (i : Nat) (out : List GTerm), t.fKids.drop i = ks → out.length = i → spec_l4Set_l0 (t, j :: l, u, t.fType, out, (i : Int)) = some (out ++ (t.fKids.set jn (setP l k u)).drop i) := by
      intro ks
      induction ks with
      | nil =>
        intro i out hd ho
        have := drop_nil_le hd
        rw [spec_l4Set_l0.eq_def]
        simp only
        rw [lt_f this, List.drop_eq_nil_of_le (by simpa using this), List.append_nil]; rfl
      | cons y ks ihl =>
        intro i out hd ho
        obtain ⟨hi, hx, hd'⟩ := drop_cons_get hd
        have hy : t.fKids[i] = y := by rw [idx_get hi] at hx; exact Option.some.inj hx
        have hset : i < (t.fKids.set jn (setP l k u)).length := by simpa using hi
        rw [spec_l4Set_l0.eq_def]
        simp only
        rw [lt_t hi, if_pos rfl, idx0, bs, wr_succ (by omega)]
        refine (bind_of (x := out ++ [(t.fKids.set jn (setP l k u))[i]]) ?_).trans ?_
        · by_cases e : i = jn
          · subst e
            rw [hj, show ((i : Int) == (i : Int)) = true by simp, if_pos rfl, hx, bs, cut_tail, bs]
            have : y = k := by rw [hj] at h3; rw [hx] at h3; exact Option.some.inj h3
            rw [this, ihk, bs, fits_ok (by simp only [List.length_singleton]; omega), bs]
            rw [List.getElem_set_self]
          · rw [hj, show ((i : Int) == (jn : Int)) = false from beq_eq_false_iff_ne.2 (by omega), if_neg (by decide), hx, bs]
            have hym : y ∈ t.fKids := by rw [← hy]; exact List.getElem_mem hi
            rw [shift0_list (by omega) (tNb_kids hn) (by omega) y hym, bs, fits_ok (by simp only [List.length_singleton]; omega), bs, List.getElem_set_ne (fun h => e h.symm), hy]
        rw [ihl (i + 1) _ hd' (by simp [ho]), List.append_assoc, List.drop_eq_getElem_cons hset]; rfl
    rw [show (0 : Int) = ((0 : Nat) : Int) from rfl, loop t.fKids 0 [] rfl rfl, bs, List.drop_zero, List.nil_append, h4, hj, Int.toNat_natCast]
theorem iSet (u : GTerm) (hum : tms u ≤ 1099511627776) : ∀ (p : List Int) (t x : GTerm), atP t p = some x → p.length ≤ 1099511627776 → tms t ≤ 1099511627776 → impl_replaced (t, p, u) = some (setP p t u) := by
  intro p
  induction p with
  | nil =>
    intro t x _ _ _
    rw [impl_replaced.eq_def, setP]
    simp only
    rw [if_pos (by rfl), iCopyT u hum, bs]
  | cons j l ih =>
    intro t x h hp hm
    obtain ⟨k, h1, h2, h3, h4, h5, h6⟩ := atP_cons h
    rw [List.length_cons] at hp
    have hk := tms_kid h5
    rw [impl_replaced.eq_def, setP]
    simp only
    rw [if_neg (by simp; omega), iCopyT t hm, bs, idx0, bs, bs, h3, bs, cut_tail, bs, ih k x h6 (by omega) (by omega), bs, bs, h4]
theorem tOks_get {g : Int → Bool} {y : List Int → Bool} : ∀ (ks : List GTerm) (op : Int) (n i j : Nat) (hj : j < ks.length), tOks g y op n i ks = true → tOk g y (n + addsI op ((i + j : Nat) : Int)) ks[j] = true
  | k :: ks, op, n, i, j, hj, ht => by
    rw [tOks, Bool.and_eq_true] at ht
    cases j with
    | zero => exact ht.1
    | succ j =>
      have := tOks_get ks op n (i + 1) j (by simpa using hj) ht.2
      rw [show i + 1 + j = i + (j + 1) by omega] at this
      exact this
def repT (t : GTerm) (p : List Int) (u : GTerm) : Option GTerm := if wB t && (atP t p).isSome && decide (tsz u ≤ 400) && wB (setP p t u) then some (setP p t u) else none
theorem beq_self_t {a : Int} : (a == a) = true := by simp
theorem len0 {α : Type} {l : List α} (h : ((l.length : Int) == 0) = true) : l = [] := by
  rw [beq_iff_eq] at h; exact List.length_eq_zero_iff.1 (by omega)
theorem tOk_mk (g : Int → Bool) (y : List Int → Bool) (n : Nat) (op N : Int) (ty : List Int) (ks : List GTerm) : tOk g y n ⟨op, N, ty, ks⟩ = (nodeOk g y (n : Int) ⟨op, N, ty, ks⟩ && tOks g y op n 0 ks) := tOk_eq ..
theorem tOks_cons (g : Int → Bool) (y : List Int → Bool) (op : Int) (n i : Nat) (k : GTerm) (ks : List GTerm) : tOks g y op n i (k :: ks) = (tOk g y (n + addsI op i) k && tOks g y op n (i + 1) ks) := by rw [tOks]
theorem tOks_nil (g : Int → Bool) (y : List Int → Bool) (op : Int) (n i : Nat) : tOks g y op n i [] = true := by rw [tOks]
theorem kids1 {l : List GTerm} (h : ((l.length : Int) == 1) = true) : ∃ k, l = [k] := by
  rw [beq_iff_eq] at h; match l, h with | [k], _ => exact ⟨k, rfl⟩ | [], h => exact absurd h (by simp) | _ :: _ :: _, h => exact absurd h (by simp only [List.length_cons]; omega)
theorem kids2 {l : List GTerm} (h : ((l.length : Int) == 2) = true) : ∃ k m, l = [k, m] := by
  rw [beq_iff_eq] at h; match l, h with | [k, m], _ => exact ⟨k, m, rfl⟩ | [], h => exact absurd h (by simp) | [_], h => exact absurd h (by simp) | _ :: _ :: _ :: _, h => exact absurd h (by simp only [List.length_cons]; omega)
mutual
/-- A term put in the place of a variable. -/
def put (u : GTerm) : Int → GTerm → GTerm
  | d, ⟨op, N, ty, ks⟩ => if op == 0 && N == d then shf d 0 u else ⟨op, if op == 0 && decide (N > d) then N - 1 else N, ty, puts u op d 0 ks⟩
def puts (u : GTerm) : Int → Int → Nat → List GTerm → List GTerm
  | _, _, _, [] => []
  | op, d, j, k :: ks => put u (d + ((addsI op (j : Int) : Nat) : Int)) k :: puts u op d (j + 1) ks
end
mutual
def uses : Int → GTerm → Nat
  | i, ⟨op, N, _, ks⟩ => if op == 0 then (if N == i then 1 else 0) else usess op i 0 ks
def usess : Int → Int → Nat → List GTerm → Nat
  | _, _, _, [] => 0
  | op, i, j, k :: ks => uses (i + ((addsI op (j : Int) : Nat) : Int)) k + usess op i (j + 1) ks
end
mutual
theorem uses_le : ∀ (t : GTerm) (i : Int), uses i t ≤ tsz t
  | ⟨op, N, ty, ks⟩, i => by
    rw [uses, tsz]
    have := usess_le ks op i 0
    split
    · split <;> omega
    · omega
theorem usess_le : ∀ (ks : List GTerm) (op i : Int) (j : Nat), usess op i j ks ≤ tszs ks
  | [], op, i, j => by rw [usess]; omega
  | k :: ks, op, i, j => by
    rw [usess, tszs]
    have := uses_le k (i + ((addsI op (j : Int) : Nat) : Int))
    have := usess_le ks op i (j + 1)
    omega
end
theorem var_kids {g : Int → Bool} {y : List Int → Bool} {n : Nat} {op N : Int} {ty : List Int} {ks : List GTerm} (h : tOk g y n ⟨op, N, ty, ks⟩ = true) (h0 : op = 0) : ks = [] ∧ ty = [] ∧ 0 ≤ N ∧ N < n := by
  subst h0
  rw [tOk_mk, Bool.and_eq_true] at h
  have h1 := h.1
  simp only [nodeOk, nOkN, nOkY, Bool.and_eq_true, show manyI 0 = 0 from rfl, show typedG 0 = false from rfl, show ((0 : Int) == 0) = true from rfl, if_true, Bool.false_eq_true, if_false] at h1
  have h2 := h1.1.2
  unfold inB at h2
  simp only [Bool.and_eq_true, decide_eq_true_eq] at h2
  exact ⟨len0 h1.1.1.2, len0 h1.2, by omega, by omega⟩
mutual
theorem sUses : ∀ (t : GTerm) (i : Int), tsz t ≤ 1048576 → 0 ≤ i → i + 2 * tsz t ≤ 1099511627776 → spec_l2Uses (t, i) = some ((uses i t : Nat) : Int)
  | ⟨op, N, ty, ks⟩, i, hs, h0, h1 => by
    rw [tsz] at hs h1
    rw [spec_l2Uses.eq_def, uses]
    simp only
    cases h : op == 0
    · have h2 := sUses_l0 ks ⟨op, N, ty, ks⟩ i 0 0 rfl (by omega) h0 (by omega) (by have := kids_le_tszs ks; simp only; omega)
      rw [show ((0 : Nat) : Int) = 0 from rfl] at h2
      rw [if_neg (by decide), if_neg (by decide), h2, bs, Nat.zero_add]
    · cases N == i <;> rfl
theorem sUses_l0 : ∀ (ks : List GTerm) (t : GTerm) (i : Int) (n j : Nat), t.fKids.drop j = ks → n + tszs ks ≤ 1048576 → 0 ≤ i → i + 2 * tszs ks + 2 ≤ 1099511627776 → t.fKids.length ≤ 1048576 → spec_l2Uses_l0 (t, i, (n : Int), (j : Int)) = some (((n + usess t.fOp i j ks : Nat)) : Int)
  | [], t, i, n, j, hd, hs, h0, h1, hk => by
    rw [spec_l2Uses_l0.eq_def, usess]
    simp only
    rw [lt_f (drop_nil_le hd)]; rfl
  | k :: ks, t, i, n, j, hd, hs, h0, h1, hk => by
    obtain ⟨hi, hx, hd'⟩ := drop_cons_get hd
    rw [tszs] at hs h1
    have ha := addsI_le t.fOp (j : Int)
    have hp := tsz_eq k
    have hu := uses_le k (i + ((addsI t.fOp (j : Int) : Nat) : Int))
    rw [spec_l2Uses_l0.eq_def, usess]
    simp only
    rw [lt_t hi, if_pos rfl, hx, bs, sAdds, bs, wr_id (x := i + ((addsI t.fOp (j : Int) : Nat) : Int)) (by omega) (by omega), sUses k _ (by omega) (by omega) (by omega), bs, wr_add (by omega) (by omega), wr_succ (by omega), sUses_l0 ks t i _ (j + 1) hd' (by omega) h0 (by omega) hk, Nat.add_assoc]
end
mutual
theorem tsz_shf (b : Int) : ∀ (t : GTerm) (f : Int), tsz (shf b f t) = tsz t
  | ⟨op, N, ty, ks⟩, f => by rw [shf, tsz, tsz, tszs_shf b ks]
theorem tszs_shf (b : Int) : ∀ (ks : List GTerm) (op f : Int) (i : Nat), tszs (shfs b op f i ks) = tszs ks
  | [], op, f, i => by rw [shfs]
  | k :: ks, op, f, i => by rw [shfs, tszs, tszs, tsz_shf b k, tszs_shf b ks]
end
theorem nodeOk_n (g : Int → Bool) (y : List Int → Bool) (n m : Int) (op N : Int) (ty : List Int) (ks js : List GTerm) (h0 : (op == 0) = false) (hl : ks.length = js.length) : nodeOk g y n ⟨op, N, ty, ks⟩ = nodeOk g y m ⟨op, N, ty, js⟩ := by
  unfold nodeOk nOkN nOkY
  simp only [h0, hl]
  rfl
theorem node_var (g : Int → Bool) (y : List Int → Bool) (n : Nat) (N : Int) (h : 0 ≤ N ∧ N < n) : tOk g y n ⟨0, N, [], []⟩ = true := by
  rw [tOk_mk, tOks_nil]
  unfold nodeOk nOkN nOkY
  simp only [show inB 0 0 12 = true from rfl, show manyI 0 = 0 from rfl, show typedG 0 = false from rfl, show ((0 : Int) == 0) = true from rfl, if_true, Bool.false_eq_true, if_false]
  unfold inB
  rw [decide_eq_true (by omega : N ≥ 0), decide_eq_true (by omega : N ≤ (n : Int) - 1)]
  rfl
mutual
theorem tOk_shf (g : Int → Bool) (y : List Int → Bool) (b : Nat) : ∀ (t : GTerm) (n : Nat) (f : Int), tOk g y n t = true → tOk g y (n + b) (shf (b : Int) f t) = true
  | ⟨op, N, ty, ks⟩, n, f, h => by
    rw [shf]
    cases h0 : op == 0
    · rw [tOk_mk, Bool.and_eq_true] at h
      rw [tOk_mk, Bool.false_and, if_neg (by decide), nodeOk_n g y _ (n : Int) op N ty _ ks h0 (shfs_length (b : Int) ks op f 0), h.1, tOks_shf g y b ks op n 0 f h.2]; rfl
    · have h0 := eq_of_beq h0
      obtain ⟨rfl, rfl, h1, h2⟩ := var_kids h h0
      subst h0
      rw [shfs]
      refine node_var g y _ _ ?_
      split <;> omega
theorem tOks_shf (g : Int → Bool) (y : List Int → Bool) (b : Nat) : ∀ (ks : List GTerm) (op : Int) (n i : Nat) (f : Int), tOks g y op n i ks = true → tOks g y op (n + b) i (shfs (b : Int) op f i ks) = true
  | [], op, n, i, f, h => by rw [shfs, tOks_nil]
  | k :: ks, op, n, i, f, h => by
    rw [tOks_cons, Bool.and_eq_true] at h
    rw [shfs, tOks_cons, tOks_shf g y b ks op n (i + 1) f h.2, show n + b + addsI op (i : Int) = n + addsI op (i : Int) + b by omega, tOk_shf g y b k _ _ h.1]; rfl
end
theorem puts_length (u : GTerm) : ∀ (ks : List GTerm) (op d : Int) (i : Nat), (puts u op d i ks).length = ks.length
  | [], op, d, i => by rw [puts]
  | k :: ks, op, d, i => by rw [puts, List.length_cons, List.length_cons, puts_length u ks]
mutual
theorem tOk_put {g : Int → Bool} {y : List Int → Bool} {m : Nat} {u : GTerm} (hu : tOk g y m u = true) : ∀ (t : GTerm) (d : Nat), tOk g y (m + d + 1) t = true → tOk g y (m + d) (put u (d : Int) t) = true
  | ⟨op, N, ty, ks⟩, d, h => by
    rw [put]
    cases h0 : op == 0
    · rw [Bool.false_and, Bool.false_and, if_neg (by decide), if_neg (by decide)]
      rw [tOk_mk, Bool.and_eq_true] at h
      rw [tOk_mk, nodeOk_n g y _ ((m + d + 1 : Nat) : Int) op N ty _ ks h0 (puts_length u ks op d 0), h.1, tOks_put hu ks op d 0 h.2]; rfl
    · have h0 := eq_of_beq h0
      obtain ⟨rfl, rfl, h1, h2⟩ := var_kids h h0
      subst h0
      rw [Bool.true_and]
      by_cases e : N = (d : Int)
      · rw [e, if_pos (by simp)]
        exact tOk_shf g y d u m 0 hu
      · rw [if_neg (by simpa using e), puts]
        refine node_var g y _ _ ?_
        by_cases hg : N > (d : Int)
        · rw [decide_eq_true hg, Bool.and_self, if_pos rfl]; omega
        · rw [decide_eq_false hg, Bool.and_false, if_neg (by decide)]; omega
theorem tOks_put {g : Int → Bool} {y : List Int → Bool} {m : Nat} {u : GTerm} (hu : tOk g y m u = true) : ∀ (ks : List GTerm) (op : Int) (d i : Nat), tOks g y op (m + d + 1) i ks = true → tOks g y op (m + d) i (puts u op (d : Int) i ks) = true
  | [], op, d, i, h => by rw [puts, tOks_nil]
  | k :: ks, op, d, i, h => by
    rw [tOks_cons, Bool.and_eq_true] at h
    have h1 := tOk_put hu k (d + addsI op (i : Int)) (by rw [← Nat.add_assoc, Nat.add_right_comm _ _ 1]; exact h.1)
    rw [puts, tOks_cons, tOks_put hu ks op d (i + 1) h.2, show m + d + addsI op (i : Int) = m + (d + addsI op (i : Int)) by omega]
    rw [show ((d + addsI op (i : Int) : Nat) : Int) = (d : Int) + ((addsI op (i : Int) : Nat) : Int) by omega] at h1
    rw [h1]; rfl
end
mutual
theorem tsz_put {g : Int → Bool} {y : List Int → Bool} (u : GTerm) : ∀ (t : GTerm) (n : Nat) (d : Int), tOk g y n t = true → tsz (put u d t) + uses d t = tsz t + uses d t * tsz u
  | ⟨op, N, ty, ks⟩, n, d, h => by
    rw [put, uses]
    cases h0 : op == 0
    · rw [tOk_mk, Bool.and_eq_true] at h
      have := tszs_put u ks op n 0 d h.2
      simp only [Bool.false_and, Bool.false_eq_true, if_false, tsz]; omega
    · have h0 := eq_of_beq h0
      obtain ⟨rfl, rfl, h1, h2⟩ := var_kids h h0
      cases he : N == d
      · simp only [Bool.and_false, Bool.true_and, Bool.false_eq_true, if_false, if_true, puts, tsz, tszs]; omega
      · simp only [Bool.and_true, Bool.true_and, Bool.false_eq_true, if_false, if_true, tsz_shf, tsz, tszs]; omega
theorem tszs_put {g : Int → Bool} {y : List Int → Bool} (u : GTerm) : ∀ (ks : List GTerm) (op : Int) (n i : Nat) (d : Int), tOks g y op n i ks = true → tszs (puts u op d i ks) + usess op d i ks = tszs ks + usess op d i ks * tsz u
  | [], op, n, i, d, h => by rw [puts, usess]; omega
  | k :: ks, op, n, i, d, h => by
    rw [tOks_cons, Bool.and_eq_true] at h
    have h1 := tsz_put u k _ (d + ((addsI op (i : Int) : Nat) : Int)) h.1
    have h2 := tszs_put u ks op n (i + 1) d h.2
    rw [puts, usess, tszs, tszs, Nat.add_mul]; omega
end
mutual
theorem uses_shf : ∀ (w : GTerm) (f d : Int), 0 ≤ d → uses (f + d) (shf d f (shf 1 f w)) = 0
  | ⟨op, N, ty, ks⟩, f, d, hd => by
    rw [shf, shf, uses]
    cases h0 : op == 0
    · rw [if_neg (by decide)]; exact usess_shf ks op f d 0 hd
    · rw [if_pos rfl, Bool.true_and, Bool.true_and]
      have : ((if decide ((if decide (N ≥ f) = true then N + 1 else N) ≥ f) = true then (if decide (N ≥ f) = true then N + 1 else N) + d else if decide (N ≥ f) = true then N + 1 else N) == f + d) = false := by
        rw [beq_eq_false_iff_ne]
        by_cases hN : N ≥ f
        · simp only [decide_eq_true hN, if_true, decide_eq_true (by omega : N + 1 ≥ f)]; omega
        · simp only [decide_eq_false hN, Bool.false_eq_true, if_false]; omega
      rw [this]; rfl
theorem usess_shf : ∀ (ks : List GTerm) (op f d : Int) (i : Nat), 0 ≤ d → usess op (f + d) i (shfs d op f i (shfs 1 op f i ks)) = 0
  | [], op, f, d, i, hd => by rw [shfs, shfs, usess]
  | k :: ks, op, f, d, i, hd => by
    rw [shfs, shfs, usess, usess_shf ks op f d (i + 1) hd, show f + d + ((addsI op (i : Int) : Nat) : Int) = f + ((addsI op (i : Int) : Nat) : Int) + d by omega, uses_shf k _ d hd]
end
mutual
theorem uses_put {g : Int → Bool} {y : List Int → Bool} (w : GTerm) : ∀ (t : GTerm) (n : Nat) (d : Int), 0 ≤ d → tOk g y n t = true → uses d (put (shf 1 0 w) d t) = uses (d + 1) t
  | ⟨op, N, ty, ks⟩, n, d, hd, h => by
    rw [put]
    cases h0 : op == 0
    · rw [tOk_mk, Bool.and_eq_true] at h
      rw [Bool.false_and, if_neg (by decide), uses, uses, h0, if_neg (by decide), if_neg (by decide)]
      exact usess_put w ks op n 0 d hd h.2
    · have h0' := eq_of_beq h0
      obtain ⟨rfl, rfl, h1, h2⟩ := var_kids h h0'
      rw [Bool.true_and, uses, h0, if_pos rfl]
      by_cases e : N = d
      · have := uses_shf w 0 d hd
        rw [Int.zero_add] at this
        rw [e, if_pos (by simp), this, if_neg (by rw [beq_iff_eq]; omega)]
      · rw [if_neg (by simpa using e), uses, h0, if_pos rfl, Bool.true_and]
        have : ((if decide (N > d) = true then N - 1 else N) == d) = (N == d + 1) := by
          by_cases hg : N > d
          · rw [decide_eq_true hg, if_pos rfl, Bool.eq_iff_iff, beq_iff_eq, beq_iff_eq]; omega
          · rw [decide_eq_false hg, if_neg (by decide), Bool.eq_iff_iff, beq_iff_eq, beq_iff_eq]; omega
        rw [this]
theorem usess_put {g : Int → Bool} {y : List Int → Bool} (w : GTerm) : ∀ (ks : List GTerm) (op : Int) (n i : Nat) (d : Int), 0 ≤ d → tOks g y op n i ks = true → usess op d i (puts (shf 1 0 w) op d i ks) = usess op (d + 1) i ks
  | [], op, n, i, d, hd, h => by rw [puts, usess, usess]
  | k :: ks, op, n, i, d, hd, h => by
    rw [tOks_cons, Bool.and_eq_true] at h
    rw [puts, usess, usess, usess_put w ks op n (i + 1) d hd h.2, uses_put w k _ _ (by omega) h.1, show d + ((addsI op (i : Int) : Nat) : Int) + 1 = d + 1 + ((addsI op (i : Int) : Nat) : Int) by omega]
end
mutual
theorem tms_tsz {g : Int → Bool} : ∀ (t : GTerm) (n : Nat), tOk g wtB n t = true → tms t + 3 ≤ 43 * tsz t + 3 ∧ t.fKids.length ≤ 3
  | ⟨op, N, ty, ks⟩, n, h => by
    obtain ⟨h1, h2⟩ := tOk_node h
    have h3 := (nodeOk_ty h1).2
    have h4 := nodeOk_many h1
    have h5 := tmss_tsz ks op n 0 h2
    have h6 : manyI op ≤ 3 := by rcases op_cases h4.1 with h | h | h | h | h | h | h | h | h | h | h | h | h <;> (simp only at h; subst h; decide)
    have h7 := h4.2
    simp only at h3 h7 ⊢
    rw [tms, tsz]; omega
theorem tmss_tsz {g : Int → Bool} : ∀ (ks : List GTerm) (op : Int) (n i : Nat), tOks g wtB op n i ks = true → tmss ks ≤ 43 * tszs ks
  | [], op, n, i, h => by rw [tmss]; omega
  | k :: ks, op, n, i, h => by
    rw [tOks_cons, Bool.and_eq_true] at h
    have h1 := (tms_tsz k _ h.1).1
    have h2 := tmss_tsz ks op n (i + 1) h.2
    rw [tmss, tszs]; omega
end
mutual
theorem iShiftR {g : Int → Bool} {y : List Int → Bool} (b fr : Int) (hb : 0 ≤ b ∧ b ≤ 1099511627776) (hf : 0 ≤ fr ∧ fr ≤ 1099511627776) : ∀ (t : GTerm) (n : Nat) (d : Int), tOk g y n t = true → tms t ≤ 1099511627776 → 0 ≤ d → d + 2 * tsz t ≤ 35184372088832 → n + 2 * tsz t ≤ 35184372088832 →
    impl_renamed_Kimpl_shifted_c1 (t, d, fr, b) = some (shf b (fr + d) t)
  | ⟨op, N, ty, ks⟩, n, d, h, hm, h0, h1, h2 => by
    rw [tms] at hm
    rw [tsz] at h1 h2
    rw [impl_renamed_Kimpl_shifted_c1.eq_def, shf]
    simp only
    cases hop : op == 0
    · rw [tOk_mk, Bool.and_eq_true] at h
      rw [if_neg (by decide), iCopy ty (by omega), bs, show (0 : Int) = ((0 : Nat) : Int) from rfl, iShiftR_l0 b fr hb hf ks ⟨op, N, ty, ks⟩ n d 0 ty [] rfl h.2 (by simp only; omega) (by omega) h0 (by omega) (by omega) rfl, bs]; rfl
    · have hop := eq_of_beq hop
      obtain ⟨rfl, rfl, q1, q2⟩ := var_kids h hop
      subst hop
      rw [if_pos rfl, shfs]
      unfold impl_shifted_c1
      simp only
      rw [wr_id (x := N - d) (by omega) (by omega), wr_id (x := N + b) (by omega) (by omega), decide_eq_decide.2 (by omega : N - d ≥ fr ↔ N ≥ fr + d)]
      refine (bind_of (x := ⟨0, if decide (N ≥ fr + d) then N + b else N, [], []⟩) ?_).trans rfl
      refine (bind_of (x := if decide (N ≥ fr + d) then N + b else N) ?_).trans ?_
      · cases decide (N ≥ fr + d) <;> rfl
      · rw [iCopyT _ (by rw [tms, tmss]; simp)]; rfl
theorem iShiftR_l0 {g : Int → Bool} {y : List Int → Bool} (b fr : Int) (hb : 0 ≤ b ∧ b ≤ 1099511627776) (hf : 0 ≤ fr ∧ fr ≤ 1099511627776) : ∀ (ks : List GTerm) (t : GTerm) (n : Nat) (d : Int) (i : Nat) (r : List Int) (out : List GTerm), t.fKids.drop i = ks → tOks g y t.fOp n i ks = true →
    t.fKids.length ≤ 1099511627776 → tmss ks ≤ 1099511627776 → 0 ≤ d → d + 2 * tszs ks + 2 ≤ 35184372088832 → n + 2 * tszs ks + 2 ≤ 35184372088832 → out.length = i → impl_renamed_Kimpl_shifted_c1_l0 (t, d, fr, b, r, out, (i : Int)) = some (out ++ shfs b t.fOp (fr + d) i ks)
  | [], t, n, d, i, r, out, hd, hw, hk, hm, h0, h1, h2, ho => by
    rw [impl_renamed_Kimpl_shifted_c1_l0.eq_def, shfs]
    simp only
    rw [lt_f (drop_nil_le hd), List.append_nil]; rfl
  | k :: ks, t, n, d, i, r, out, hd, hw, hk, hm, h0, h1, h2, ho => by
    obtain ⟨hi, hx, hd'⟩ := drop_cons_get hd
    rw [tmss] at hm
    rw [tszs] at h1 h2
    rw [tOks_cons, Bool.and_eq_true] at hw
    have ha := addsI_le t.fOp (i : Int)
    have hp := tsz_eq k
    rw [impl_renamed_Kimpl_shifted_c1_l0.eq_def, shfs]
    simp only
    rw [lt_t hi, if_pos rfl, hx, bs, iAdds, bs, wr_id (x := d + ((addsI t.fOp (i : Int) : Nat) : Int)) (by omega) (by omega), iShiftR b fr hb hf k _ _ hw.1 (by omega) (by omega) (by omega) (by omega), bs, fits_ok (by simp only [List.length_singleton]; omega), bs, wr_succ (by omega)]
    rw [iShiftR_l0 b fr hb hf ks t n d (i + 1) r _ hd' hw.2 hk (by omega) h0 (by omega) (by omega) (by simp [ho]), List.append_assoc, ← Int.add_assoc]
    rfl
end
theorem iShifted {g : Int → Bool} {y : List Int → Bool} {t : GTerm} {n : Nat} {b : Int} (h : tOk g y n t = true) (hb : 0 ≤ b ∧ b ≤ 1099511627776) (hm : tms t ≤ 1099511627776) (h2 : n + 2 * tsz t ≤ 35184372088832) : impl_shifted (t, b, 0) = some (shf b 0 t) := by
  unfold impl_shifted
  simp only
  rw [iShiftR b 0 hb (by omega) t n 0 h hm (by omega) (by omega) h2, bs, Int.zero_add]
/-- What is put. -/
structure UOk (g : Int → Bool) (y : List Int → Bool) (m : Nat) (u : GTerm) : Prop where
  ok : tOk g y m u = true
  ms : tms u ≤ 1099511627776
  sz : m + 2 * tsz u ≤ 35184372088832
mutual
theorem iPutR {g : Int → Bool} {y : List Int → Bool} {m : Nat} {u : GTerm} (U : UOk g y m u) : ∀ (t : GTerm) (n : Nat) (d : Int), tOk g y n t = true → tms t ≤ 1099511627776 → 0 ≤ d → d + 2 * tsz t ≤ 1099511627776 → n + 2 * tsz t ≤ 35184372088832 →
    impl_renamed_Kimpl_substituted_c1 (t, d, 0, u) = some (put u d t)
  | ⟨op, N, ty, ks⟩, n, d, h, hm, h0, h1, h2 => by
    rw [tms] at hm
    rw [tsz] at h1 h2
    rw [impl_renamed_Kimpl_substituted_c1.eq_def, put]
    simp only
    cases hop : op == 0
    · rw [tOk_mk, Bool.and_eq_true] at h
      have := iPutR_l0 U ks ⟨op, N, ty, ks⟩ n d 0 ty [] rfl h.2 (by simp only; omega) (by omega) h0 (by omega) (by omega) rfl
      rw [show ((0 : Nat) : Int) = 0 from rfl] at this
      rw [if_neg (by decide), iCopy ty (by omega), bs, this, bs]; rfl
    · have hop := eq_of_beq hop
      obtain ⟨rfl, rfl, q1, q2⟩ := var_kids h hop
      subst hop
      rw [if_pos rfl, puts]
      unfold impl_substituted_c1
      simp only
      rw [wr_id (x := N - d) (by omega) (by omega)]
      by_cases e : N = d
      · subst e
        rw [Int.sub_self, iShifted U.ok (by omega) U.ms U.sz]; simp [bs]
      · rw [beq_eq_false_iff_ne.2 (by omega : N - d ≠ 0), beq_eq_false_iff_ne.2 e, wr_id (x := N - 1) (by omega) (by omega), decide_eq_decide.2 (by omega : N - d > 0 ↔ N > d)]
        simp only [Bool.and_false, Bool.false_eq_true, if_false, Bool.true_and]
        refine (bind_of (x := ⟨0, if decide (N > d) then N - 1 else N, [], []⟩) ?_).trans rfl
        refine (bind_of (x := if decide (N > d) then N - 1 else N) ?_).trans ?_
        · cases decide (N > d) <;> rfl
        · rw [iCopyT _ (by rw [tms, tmss]; simp)]; rfl
theorem iPutR_l0 {g : Int → Bool} {y : List Int → Bool} {m : Nat} {u : GTerm} (U : UOk g y m u) : ∀ (ks : List GTerm) (t : GTerm) (n : Nat) (d : Int) (i : Nat) (r : List Int) (out : List GTerm), t.fKids.drop i = ks → tOks g y t.fOp n i ks = true →
    t.fKids.length ≤ 1099511627776 → tmss ks ≤ 1099511627776 → 0 ≤ d → d + 2 * tszs ks + 2 ≤ 1099511627776 → n + 2 * tszs ks + 2 ≤ 35184372088832 → out.length = i → impl_renamed_Kimpl_substituted_c1_l0 (t, d, 0, u, r, out, (i : Int)) = some (out ++ puts u t.fOp d i ks)
  | [], t, n, d, i, r, out, hd, hw, hk, hm, h0, h1, h2, ho => by
    rw [impl_renamed_Kimpl_substituted_c1_l0.eq_def, puts]
    simp only
    rw [lt_f (drop_nil_le hd), List.append_nil]; rfl
  | k :: ks, t, n, d, i, r, out, hd, hw, hk, hm, h0, h1, h2, ho => by
    obtain ⟨hi, hx, hd'⟩ := drop_cons_get hd
    rw [tmss] at hm
    rw [tszs] at h1 h2
    rw [tOks_cons, Bool.and_eq_true] at hw
    have ha := addsI_le t.fOp (i : Int)
    have hp := tsz_eq k
    rw [impl_renamed_Kimpl_substituted_c1_l0.eq_def, puts]
    simp only
    rw [lt_t hi, if_pos rfl, hx, bs, iAdds, bs, wr_id (x := d + ((addsI t.fOp (i : Int) : Nat) : Int)) (by omega) (by omega), iPutR U k _ _ hw.1 (by omega) (by omega) (by omega) (by omega), bs, fits_ok (by simp only [List.length_singleton]; omega), bs, wr_succ (by omega)]
    rw [iPutR_l0 U ks t n d (i + 1) r _ hd' hw.2 hk (by omega) h0 (by omega) (by omega) (by simp [ho]), List.append_assoc]
    rfl
end
theorem iSubst {g : Int → Bool} {y : List Int → Bool} {m n : Nat} {u t : GTerm} (U : UOk g y m u) (h : tOk g y n t = true) (hm : tms t ≤ 1099511627776) (h1 : tsz t ≤ 549755813888) (h2 : n ≤ 1099511627776) : impl_substituted (t, 0, u) = some (put u 0 t) := by
  unfold impl_substituted
  simp only
  rw [iPutR U t n 0 h hm (by omega) (by omega) (by omega), bs]
mutual
theorem sPutR {g : Int → Bool} {y : List Int → Bool} {m : Nat} {u : GTerm} (U : UOk g y m u) : ∀ (t : GTerm) (n : Nat) (d : Int), tOk g y n t = true → tms t ≤ 1099511627776 → 0 ≤ d → d + 2 * tsz t ≤ 1099511627776 → n + 2 * tsz t ≤ 35184372088832 →
    spec_l2Put (t, 0, u, d) = some (put u d t)
  | ⟨op, N, ty, ks⟩, n, d, h, hm, h0, h1, h2 => by
    rw [tms] at hm
    rw [tsz] at h1 h2
    rw [spec_l2Put.eq_def, put]
    simp only
    rw [sCopy ty (by omega), bs, Int.zero_add, wr_id (x := d) (by omega) (by omega)]
    cases hop : op == 0
    · rw [tOk_mk, Bool.and_eq_true] at h
      refine (bind_of (x := (Sum.inl N : Int ⊕ GTerm)) rfl).trans ?_
      simp only
      have := sPutR_l0 U ks ⟨op, N, ty, ks⟩ n d 0 ty N [] rfl h.2 (by simp only; omega) (by omega) h0 (by omega) (by omega) rfl
      rw [show ((0 : Nat) : Int) = 0 from rfl] at this
      rw [this, bs]; rfl
    · have hop := eq_of_beq hop
      obtain ⟨rfl, rfl, q1, q2⟩ := var_kids h hop
      subst hop
      rw [puts]
      have hS := sShift d ((m : Int) + 2 * tsz u) h0 (by have := U.sz; omega) u 0 (tOk_Nb g y u m U.ok) U.ms (by omega) (by have := U.ms; omega)
      by_cases e : N = d
      · subst e
        refine (bind_of (x := (Sum.inr (shf N 0 u) : Int ⊕ GTerm)) ?_).trans ?_
        · simp only [beq_self_eq_true, if_true]; rw [hS]; rfl
        · simp
      · refine (bind_of (x := (Sum.inl (if decide (N > d) then N - 1 else N) : Int ⊕ GTerm)) ?_).trans ?_
        · rw [if_pos rfl, beq_eq_false_iff_ne.2 e, if_neg (by decide), wr_id (x := N - 1) (by omega) (by omega)]
          cases decide (N > d) <;> rfl
        · rw [beq_eq_false_iff_ne.2 e]
          simp only [Bool.and_false, Bool.false_eq_true, if_false, Bool.true_and]
          rw [spec_l2Put_l0.eq_def]
          rfl
theorem sPutR_l0 {g : Int → Bool} {y : List Int → Bool} {m : Nat} {u : GTerm} (U : UOk g y m u) : ∀ (ks : List GTerm) (t : GTerm) (n : Nat) (d : Int) (i : Nat) (r : List Int) (o : Int) (out : List GTerm), t.fKids.drop i = ks → tOks g y t.fOp n i ks = true →
    t.fKids.length ≤ 1099511627776 → tmss ks ≤ 1099511627776 → 0 ≤ d → d + 2 * tszs ks + 2 ≤ 1099511627776 → n + 2 * tszs ks + 2 ≤ 35184372088832 → out.length = i → spec_l2Put_l0 (t, 0, u, d, r, o, out, (i : Int)) = some (out ++ puts u t.fOp d i ks)
  | [], t, n, d, i, r, o, out, hd, hw, hk, hm, h0, h1, h2, ho => by
    rw [spec_l2Put_l0.eq_def, puts]
    simp only
    rw [lt_f (drop_nil_le hd), List.append_nil]; rfl
  | k :: ks, t, n, d, i, r, o, out, hd, hw, hk, hm, h0, h1, h2, ho => by
    obtain ⟨hi, hx, hd'⟩ := drop_cons_get hd
    rw [tmss] at hm
    rw [tszs] at h1 h2
    rw [tOks_cons, Bool.and_eq_true] at hw
    have ha := addsI_le t.fOp (i : Int)
    have hp := tsz_eq k
    rw [spec_l2Put_l0.eq_def, puts]
    simp only
    rw [lt_t hi, if_pos rfl, hx, bs, sAdds, bs, wr_id (x := d + ((addsI t.fOp (i : Int) : Nat) : Int)) (by omega) (by omega), sPutR U k _ _ hw.1 (by omega) (by omega) (by omega) (by omega), bs, fits_ok (by simp only [List.length_singleton]; omega), bs, wr_succ (by omega)]
    rw [sPutR_l0 U ks t n d (i + 1) r o _ hd' hw.2 hk (by omega) h0 (by omega) (by omega) (by simp [ho]), List.append_assoc]
    rfl
end
theorem sPut0 {g : Int → Bool} {y : List Int → Bool} {m n : Nat} {u t : GTerm} (U : UOk g y m u) (h : tOk g y n t = true) (hm : tms t ≤ 1099511627776) (h1 : tsz t ≤ 549755813888) (h2 : n ≤ 1099511627776) : spec_l2Put (t, 0, u, 0) = some (put u 0 t) :=
  sPutR U t n 0 h hm (by omega) (by omega) (by omega)
theorem sSize {t : GTerm} (hm : tms t ≤ 1099511627776) (hs : tsz t ≤ 400) : spec_l4Size t = some ((tsz t : Nat) : Int) := by
  unfold spec_l4Size
  have hl := sLeft t 400 hm (by decide)
  rw [show ((400 : Nat) : Int) = 400 from rfl] at hl
  rw [hl, bs, leftI_le hs, wr_id (by omega) (by omega)]; congr 1; omega
/-- What both sides make of a redex. -/
def ConP (g : Int → Bool) (n : Nat) (t : GTerm) : Prop := ∃ c, spec_l4Contracted t = some (okT (if tsz c ≤ 400 then some c else none)) ∧ impl_contracted t = some c ∧ tOk g wtB n c = true ∧ tsz c ≤ 1000000
/-- A piece of a redex. -/
structure Pc (g : Int → Bool) (n : Nat) (t : GTerm) : Prop where
  ok : tOk g wtB n t = true
  sz : tsz t ≤ 400
  pnn : n ≤ 1000000
theorem Pc.pms {g : Int → Bool} {n : Nat} {t : GTerm} (h : Pc g n t) : tms t ≤ 17200 := by have := (tms_tsz t n h.ok).1; have := h.sz; omega
theorem Pc.pu {g : Int → Bool} {n : Nat} {t : GTerm} (h : Pc g n t) : UOk g wtB n t := ⟨h.ok, by have := h.pms; omega, by have := h.sz; have := h.pnn; omega⟩
theorem Pc.pcopy {g : Int → Bool} {n : Nat} {t : GTerm} (h : Pc g n t) : spec_l2Shift (t, 0, 0) = some t ∧ impl_copyTerm t = some t :=
  ⟨sShift0 (tNb_mono (by have := h.sz; have := h.pnn; omega) t (tOk_Nb _ _ t n h.ok)) (by have := h.pms; omega), iCopyT t (by have := h.pms; omega)⟩
theorem Pc.psize {g : Int → Bool} {n : Nat} {t : GTerm} (h : Pc g n t) : spec_l4Size t = some ((tsz t : Nat) : Int) := sSize (by have := h.pms; omega) h.sz
theorem Pc.puses {g : Int → Bool} {n : Nat} {t : GTerm} (h : Pc g n t) (i : Int) (hi : 0 ≤ i ∧ i ≤ 2) : spec_l2Uses (t, i) = some ((Go.Am.uses i t : Nat) : Int) ∧ Go.Am.uses i t ≤ 400 :=
  ⟨sUses t i (by have := h.sz; omega) hi.1 (by have := h.sz; omega), by have := uses_le t i; have := h.sz; omega⟩
theorem mul_400 {a b : Nat} (ha : a ≤ 400) (hb : b ≤ 400) : a * b ≤ 160000 := Nat.le_trans (Nat.mul_le_mul ha hb) (by decide)
theorem mul_pred (a b : Nat) : (a : Int) * ((b : Int) - 1) = ((a * b : Nat) : Int) - (a : Int) := by rw [Int.mul_sub, Int.mul_one]; omega
/-- One body, one piece. -/
theorem put_one {g : Int → Bool} {n : Nat} {b u : GTerm} (hb : Pc g (n + 1) b) (hu : Pc g n u) : ∃ c, c = put u 0 b ∧ spec_l2Put (b, 0, u, 0) = some c ∧ impl_substituted (b, 0, u) = some c ∧ tOk g wtB n c = true ∧ tsz c ≤ 1000000 ∧
    decide ((wr (((tsz b : Nat) : Int) + (wr (((uses 0 b : Nat) : Int) * (wr (((tsz u : Nat) : Int) - 1)))))) > 400) = !decide (tsz c ≤ 400) := by
  have b1 := hb.sz
  have u1 := hu.sz
  have bm := hb.pms
  have pnn := hb.pnn
  have hs := tsz_put u b (n + 1) 0 hb.ok
  have hus := (hb.puses 0 (by omega)).2
  have hm := mul_400 hus u1
  refine ⟨_, rfl, sPut0 hu.pu hb.ok (by omega) (by omega) (by omega), iSubst hu.pu hb.ok (by omega) (by omega) (by omega), tOk_put (d := 0) hu.ok b hb.ok, by omega, ?_⟩
  rw [wr_id (x := ((tsz u : Nat) : Int) - 1) (by omega) (by omega), mul_pred, wr_id (x := ((uses 0 b * tsz u : Nat) : Int) - ((uses 0 b : Nat) : Int)) (by omega) (by omega), wr_id (by omega) (by omega), ← decide_not, decide_eq_decide]
  omega
theorem okIf {c : GTerm} {b : Bool} (h : b = !decide (tsz c ≤ 400)) : (if b = true then (some (noT, false) : Option (GTerm × Bool)) else some (c, true)) = some (okT (if tsz c ≤ 400 then some c else none)) := by
  subst h
  by_cases h : tsz c ≤ 400
  · rw [decide_eq_true h, if_pos h]; rfl
  · rw [decide_eq_false h, if_neg h]; rfl
theorem tsz_1 (op N : Int) (ty : List Int) (a : GTerm) : tsz ⟨op, N, ty, [a]⟩ = 1 + tsz a := by simp [tsz, tszs]
theorem tsz_2 (op N : Int) (ty : List Int) (a b : GTerm) : tsz ⟨op, N, ty, [a, b]⟩ = 1 + (tsz a + tsz b) := by simp [tsz, tszs]
theorem tsz_3 (op N : Int) (ty : List Int) (a b c : GTerm) : tsz ⟨op, N, ty, [a, b, c]⟩ = 1 + (tsz a + (tsz b + tsz c)) := by simp [tsz, tszs]
theorem kids3 {l : List GTerm} (h : (l.length : Int) = 3) : ∃ a b c, l = [a, b, c] := by
  match l, h with | [a, b, c], _ => exact ⟨a, b, c, rfl⟩ | [], h => exact absurd h (by simp) | [_], h => exact absurd h (by simp) | [_, _], h => exact absurd h (by simp) | _ :: _ :: _ :: _ :: _, h => exact absurd h (by simp only [List.length_cons]; omega)
/-- The pieces of a node with its ops known. -/
theorem node1 {g : Int → Bool} {n : Nat} {op N : Int} {ty : List Int} {ks : List GTerm} (h : tOk g wtB n ⟨op, N, ty, ks⟩ = true) (hs : tsz ⟨op, N, ty, ks⟩ ≤ 400) (hn : n + 2 ≤ 1000000) (hk : manyI op = 1) : ∃ a, ks = [a] ∧ Pc g (n + addsI op 0) a := by
  obtain ⟨h1, h2⟩ := tOk_node h
  obtain ⟨a, rfl⟩ := kids1 (l := ks) (beq_iff_eq.2 (by rw [← hk]; exact (nodeOk_many h1).2))
  simp only at h2
  rw [tOks_cons, Bool.and_eq_true] at h2
  rw [tsz_1] at hs
  have := addsI_le op 0
  exact ⟨a, rfl, h2.1, by omega, by omega⟩
theorem node2 {g : Int → Bool} {n : Nat} {op N : Int} {ty : List Int} {ks : List GTerm} (h : tOk g wtB n ⟨op, N, ty, ks⟩ = true) (hs : tsz ⟨op, N, ty, ks⟩ ≤ 400) (hn : n + 2 ≤ 1000000) (hk : manyI op = 2) : ∃ a b, ks = [a, b] ∧ Pc g (n + addsI op 0) a ∧ Pc g (n + addsI op 1) b := by
  obtain ⟨h1, h2⟩ := tOk_node h
  obtain ⟨a, b, rfl⟩ := kids2 (l := ks) (beq_iff_eq.2 (by rw [← hk]; exact (nodeOk_many h1).2))
  simp only at h2
  rw [tOks_cons, tOks_cons, Bool.and_eq_true, Bool.and_eq_true] at h2
  rw [tsz_2] at hs
  have := addsI_le op 0
  have := addsI_le op 1
  exact ⟨a, b, rfl, ⟨h2.1, by omega, by omega⟩, ⟨h2.2.1, by omega, by omega⟩⟩
theorem node3 {g : Int → Bool} {n : Nat} {op N : Int} {ty : List Int} {ks : List GTerm} (h : tOk g wtB n ⟨op, N, ty, ks⟩ = true) (hs : tsz ⟨op, N, ty, ks⟩ ≤ 400) (hn : n + 2 ≤ 1000000) (hk : manyI op = 3) : ∃ a b c, ks = [a, b, c] ∧ Pc g (n + addsI op 0) a ∧ Pc g (n + addsI op 1) b ∧ Pc g (n + addsI op 2) c := by
  obtain ⟨h1, h2⟩ := tOk_node h
  obtain ⟨a, b, c, rfl⟩ := kids3 (l := ks) (by rw [← hk]; exact (nodeOk_many h1).2)
  simp only at h2
  rw [tOks_cons, tOks_cons, tOks_cons, Bool.and_eq_true, Bool.and_eq_true, Bool.and_eq_true] at h2
  rw [tsz_3] at hs
  have := addsI_le op 0
  have := addsI_le op 1
  have := addsI_le op 2
  exact ⟨a, b, c, rfl, ⟨h2.1, by omega, by omega⟩, ⟨h2.2.1, by omega, by omega⟩, ⟨h2.2.2.1, by omega, by omega⟩⟩
theorem one_N {g : Int → Bool} {n : Nat} {t : GTerm} (h : tOk g wtB n t = true) (h1 : t.fOp = 1) : t.fN = 0 ∨ t.fN = 1 ∨ t.fN = 2 := by
  obtain ⟨op, N, ty, ks⟩ := t
  simp only at h1 ⊢
  subst h1
  rw [tOk_mk, Bool.and_eq_true] at h
  have h1 := h.1
  simp only [nodeOk, nOkN, nOkY, Bool.and_eq_true, show ((1 : Int) == 0) = false from rfl, show ((1 : Int) == 1) = true from rfl, if_true, Bool.false_eq_true, if_false] at h1
  have h2 := h1.1.2
  unfold inB at h2
  simp only [Bool.and_eq_true, decide_eq_true_eq] at h2
  omega
theorem tri_ok (g : Int → Bool) (n : Nat) (x y : Int) (hx : x = 0 ∨ x = 1 ∨ x = 2) (hy : y = 0 ∨ y = 1 ∨ y = 2) : tOk g wtB n ⟨1, Int.tmod (wr (x + y)) 3, [], []⟩ = true := by
  have : inB (Int.tmod (wr (x + y)) 3) 0 2 = true := by rcases hx with rfl | rfl | rfl <;> rcases hy with rfl | rfl | rfl <;> decide
  rw [tOk_mk, tOks_nil]
  unfold nodeOk nOkN nOkY
  simp only [show ((1 : Int) == 0) = false from rfl, show ((1 : Int) == 1) = true from rfl, if_true, Bool.false_eq_true, if_false, this]
  rfl
theorem conOne {g : Int → Bool} {n : Nat} {b u t : GTerm} (hb : Pc g (n + 1) b) (hu : Pc g n u)
    (e1 : spec_l4Contracted t = (spec_l4Size b >>= fun r1 => spec_l2Uses (b, 0) >>= fun r2 => spec_l4Size u >>= fun r3 => if decide (wr (r1 + wr (r2 * wr (r3 - 1))) > 400) = true then some (noT, false) else spec_l2Put (b, 0, u, 0) >>= fun r => some (r, true)))
    (e2 : impl_contracted t = (impl_substituted (b, 0, u) >>= fun r => some r)) : ConP g n t := by
  obtain ⟨c, _, p1, p2, p3, p4, p5⟩ := put_one hb hu
  refine ⟨c, ?_, ?_, p3, p4⟩
  · rw [e1, hb.psize, bs, (hb.puses 0 (by omega)).1, bs, hu.psize, bs, p1, bs]
    exact okIf p5
  · rw [e2, p2, bs]
theorem contracted {g : Int → Bool} {n : Nat} {t : GTerm} (h : tOk g wtB n t = true) (hs : tsz t ≤ 400) (hn : n ≤ 900000) (hr : redB t = true) : ConP g n t := by
  obtain ⟨op, N, ty, ks⟩ := t
  have hop := (nodeOk_many (tOk_node h).1).1
  simp only at hop
  have hk : ks.length ≠ 0 := by
    intro e; unfold redB at hr; simp only [e, if_true] at hr; cases hr
  have hr' : (if op == 2 then opAt ks 0 == 1 && opAt ks 1 == 1 else if op == 3 then opAt ks 0 == 1 else if op == 10 then opAt ks 0 == 9 else if op == 5 then opAt ks 0 == 4
    else if op == 8 then opAt ks 0 == 6 || opAt ks 0 == 7 else if op == 12 then opAt ks 0 == 11 else false) = true := by
    unfold redB at hr; simp only [if_neg hk] at hr; exact hr
  rcases op_cases hop with rfl | rfl | rfl | rfl | rfl | rfl | rfl | rfl | rfl | rfl | rfl | rfl | rfl
  · cases hr'
  · cases hr'
  · obtain ⟨a, b, rfl, ha, hb⟩ := node2 h hs (by omega) rfl
    have hr2 : (a.fOp == 1 && b.fOp == 1) = true := hr'
    rw [Bool.and_eq_true, beq_iff_eq, beq_iff_eq] at hr2
    have := tri_ok g n a.fN b.fN (one_N ha.ok hr2.1) (one_N hb.ok hr2.2)
    refine ⟨⟨1, Int.tmod (wr (a.fN + b.fN)) 3, [], []⟩, ?_, rfl, this, by simp [tsz, tszs]⟩
    rw [if_pos (by simp [tsz, tszs])]; rfl
  · obtain ⟨a, b, c, rfl, ha, hb, hc⟩ := node3 h hs (by omega) rfl
    have e1 : spec_l4Contracted ⟨3, N, ty, [a, b, c]⟩ = (if (a.fN == 0) = true then spec_l2Shift (b, 0, 0) >>= fun r => some (r, true) else spec_l2Shift (c, 0, 0) >>= fun r => some (r, true)) := rfl
    have e2 : impl_contracted ⟨3, N, ty, [a, b, c]⟩ = (if (a.fN == 0) = true then impl_copyTerm b >>= fun r => some r else impl_copyTerm c >>= fun r => some r) := rfl
    unfold ConP
    rw [e1, e2, hb.pcopy.1, hb.pcopy.2, hc.pcopy.1, hc.pcopy.2]
    cases a.fN == 0
    · exact ⟨c, by rw [if_pos hc.sz]; rfl, rfl, hc.ok, by have := hc.sz; omega⟩
    · exact ⟨b, by rw [if_pos hb.sz]; rfl, rfl, hb.ok, by have := hb.sz; omega⟩
  · cases hr'
  · obtain ⟨a, b, rfl, ha, hb⟩ := node2 h hs (by omega) rfl
    have hr2 : a.fOp = 4 := eq_of_beq (show (a.fOp == 4) = true from hr')
    obtain ⟨op, N', ty', ks'⟩ := a
    simp only at hr2
    subst hr2
    obtain ⟨v, w, rfl, hv, hw⟩ := node2 ha.ok ha.sz (by have : addsI 5 0 = 0 := rfl; omega) rfl
    have hv : Pc g n v := hv
    have hw : Pc g n w := hw
    have hb : Pc g (n + 2) b := hb
    have e1 : spec_l4Contracted ⟨5, N, ty, [⟨4, N', ty', [v, w]⟩, b]⟩ = (spec_l4Size b >>= fun r1 => spec_l2Uses (b, 1) >>= fun r2 => spec_l4Size v >>= fun r3 => spec_l2Uses (b, 0) >>= fun r4 => spec_l4Size w >>= fun r5 =>
      if decide (wr (wr (r1 + wr (r2 * wr (r3 - 1))) + wr (r4 * wr (r5 - 1))) > 400) = true then some (noT, false) else spec_l2Shift (w, 1, 0) >>= fun r6 => spec_l2Put (b, 0, r6, 0) >>= fun r7 => spec_l2Put (r7, 0, v, 0) >>= fun r => some (r, true)) := rfl
    have e2 : impl_contracted ⟨5, N, ty, [⟨4, N', ty', [v, w]⟩, b]⟩ = (impl_shifted (w, 1, 0) >>= fun r6 => impl_substituted (b, 0, r6) >>= fun r7 => impl_substituted (r7, 0, v) >>= fun r => some r) := rfl
    have b1 := hb.sz
    have v1 := hv.sz
    have w1 := hw.sz
    have bm := hb.pms
    have wm := hw.pms
    have pnn := hb.pnn
    have hS : tOk g wtB (n + 1) (shf ((1 : Nat) : Int) 0 w) = true := tOk_shf g wtB 1 w n 0 hw.ok
    rw [show ((1 : Nat) : Int) = 1 from rfl] at hS
    have hSz := tsz_shf 1 w 0
    have US : UOk g wtB (n + 1) (shf 1 0 w) := ⟨hS, by have := (tms_tsz _ _ hS).1; omega, by omega⟩
    have hR : tOk g wtB (n + 1) (put (shf 1 0 w) 0 b) = true := tOk_put (d := 0) hS b hb.ok
    have q1 := tsz_put (shf 1 0 w) b (n + 2) 0 hb.ok
    have q2 := tsz_put v (put (shf 1 0 w) 0 b) (n + 1) 0 hR
    have q3 := uses_put w b (n + 2) 0 (by omega) hb.ok
    rw [show (0 : Int) + 1 = 1 from rfl] at q3
    have u0 := (hb.puses 0 (by omega)).2
    have u1 := (hb.puses 1 (by omega)).2
    rw [hSz] at q1
    rw [q3] at q2
    have m0 := mul_400 u0 w1
    have m1 := mul_400 u1 v1
    have hRm := (tms_tsz _ _ hR).1
    have hC : tOk g wtB n (put v 0 (put (shf 1 0 w) 0 b)) = true := tOk_put (d := 0) hv.ok _ hR
    have hsh := sShift 1 ((n : Int) + 2 * tsz w) (by omega) (by omega) w 0 (tOk_Nb g wtB w n hw.ok) (by omega) (by omega) (by omega)
    refine ⟨put v 0 (put (shf 1 0 w) 0 b), ?_, ?_, hC, by omega⟩
    · rw [e1, hb.psize, bs, (hb.puses 1 (by omega)).1, bs, hv.psize, bs, (hb.puses 0 (by omega)).1, bs, hw.psize, bs, hsh, bs, sPut0 US hb.ok (by omega) (by omega) (by omega), bs, sPut0 hv.pu hR (by omega) (by omega) (by omega), bs]
      refine okIf ?_
      rw [wr_id (x := ((tsz v : Nat) : Int) - 1) (by omega) (by omega), mul_pred, wr_id (x := ((uses 1 b * tsz v : Nat) : Int) - ((uses 1 b : Nat) : Int)) (by omega) (by omega),
        wr_id (x := ((tsz w : Nat) : Int) - 1) (by omega) (by omega), mul_pred, wr_id (x := ((uses 0 b * tsz w : Nat) : Int) - ((uses 0 b : Nat) : Int)) (by omega) (by omega), wr_id (x := ((tsz b : Nat) : Int) + _) (by omega) (by omega), wr_id (by omega) (by omega), ← decide_not, decide_eq_decide]
      omega
    · rw [e2, iShifted hw.ok (by omega) (by omega) (by omega), bs, iSubst US hb.ok (by omega) (by omega) (by omega), bs, iSubst hv.pu hR (by omega) (by omega) (by omega), bs]
  · cases hr'
  · cases hr'
  · obtain ⟨a, b, c, rfl, ha, hb, hc⟩ := node3 h hs (by omega) rfl
    have hr2 : (a.fOp == 6 || a.fOp == 7) = true := hr'
    rw [Bool.or_eq_true, beq_iff_eq, beq_iff_eq] at hr2
    obtain ⟨op, N', ty', ks'⟩ := a
    simp only at hr2
    rcases hr2 with rfl | rfl
    · obtain ⟨x, rfl, hx⟩ := node1 ha.ok ha.sz (by have : addsI 8 0 = 0 := rfl; omega) rfl
      obtain ⟨uo, uN, ut, uk⟩ := x
      exact conOne (b := b) (u := ⟨uo, uN, ut, uk⟩) hb hx rfl rfl
    · obtain ⟨x, rfl, hx⟩ := node1 ha.ok ha.sz (by have : addsI 8 0 = 0 := rfl; omega) rfl
      obtain ⟨uo, uN, ut, uk⟩ := x
      exact conOne (b := c) (u := ⟨uo, uN, ut, uk⟩) hc hx rfl rfl
  · cases hr'
  · obtain ⟨a, b, rfl, ha, hb⟩ := node2 h hs (by omega) rfl
    have hr2 : a.fOp = 9 := eq_of_beq (show (a.fOp == 9) = true from hr')
    obtain ⟨op, N', ty', ks'⟩ := a
    simp only at hr2
    subst hr2
    obtain ⟨x, rfl, hx⟩ := node1 ha.ok ha.sz (by have : addsI 10 0 = 0 := rfl; omega) rfl
    obtain ⟨uo, uN, ut, uk⟩ := b
    exact conOne (b := x) (u := ⟨uo, uN, ut, uk⟩) hx hb rfl rfl
  · cases hr'
  · obtain ⟨a, b, rfl, ha, hb⟩ := node2 h hs (by omega) rfl
    have hr2 : a.fOp = 11 := eq_of_beq (show (a.fOp == 11) = true from hr')
    obtain ⟨op, N', ty', ks'⟩ := a
    simp only at hr2
    subst hr2
    obtain ⟨x, rfl, hx⟩ := node1 ha.ok ha.sz (by have : addsI 12 0 = 0 := rfl; omega) rfl
    obtain ⟨uo, uN, ut, uk⟩ := x
    exact conOne (b := b) (u := ⟨uo, uN, ut, uk⟩) hb hx rfl rfl
theorem sReplace_eq (t : GTerm) (p : List Int) (u : GTerm) (ht : tms t ≤ 1048576) (hp : p.length ≤ 1048576) (hu : tms u ≤ 1048576) (hn : tNb 9223372036854775807 u) : spec_ReplaceAt (t, p, u) = some (okT (repT t p u)) := by
  unfold spec_ReplaceAt repT
  simp only
  rw [sTermAt t p (by omega) (by omega), bs]
  cases hw : wB t
  · rfl
  · simp only [if_true, Bool.true_and]
    cases h : atP t p with
    | none => rfl
    | some x =>
      have l1 := sLeft u 400 (by omega) (by omega)
      rw [show ((400 : Nat) : Int) = 400 from rfl] at l1
      simp only [okT, if_true, Option.isSome_some, Bool.true_and]
      rw [l1, bs, bs]
      have hs := setP_tms u p t x h
      have s1 := sSet u hn (by omega) p t x h (by omega) (tNb_mono (by omega) t (wB_Nb hw)) (by omega)
      have w1 := sWritten (setP p t u) (by omega)
      by_cases q : tsz u ≤ 400
      · rw [leftI_le q, decide_eq_false (by omega : ¬ ((400 - tsz u : Nat) : Int) < 0), decide_eq_true q, if_neg (by decide), s1, bs, w1, bs]
        cases wB (setP p t u) <;> rfl
      · rw [leftI_gt q, decide_eq_false q]; rfl
theorem tOk_atP {g : Int → Bool} {y : List Int → Bool} : ∀ (p : List Int) (t x : GTerm) (n : Nat), atP t p = some x → tOk g y n t = true → ∃ m, m ≤ n + 2 * p.length ∧ tOk g y m x = true
  | [], t, x, n, h, ht => by
    rw [atP] at h; cases h
    exact ⟨n, by simp, ht⟩
  | i :: p, t, x, n, h, ht => by
    obtain ⟨k, h1, h2, h3, h4, h5, h6⟩ := atP_cons h
    have hk := tOks_get t.fKids t.fOp n 0 i.toNat h2 (tOk_node ht).2
    have e : t.fKids[i.toNat] = k := by rw [← kidD_get h2]; exact h4
    rw [e] at hk
    obtain ⟨m, q1, q2⟩ := tOk_atP p k x _ h6 hk
    have := addsI_le t.fOp ((0 + i.toNat : Nat) : Int)
    refine ⟨m, ?_, q2⟩
    rw [List.length_cons]; omega
theorem tsz_atP : ∀ (p : List Int) (t x : GTerm), atP t p = some x → tsz x ≤ tsz t
  | [], t, x, h => by rw [atP] at h; cases h; exact Nat.le_refl _
  | i :: p, t, x, h => by
    obtain ⟨k, h1, h2, h3, h4, h5, h6⟩ := atP_cons h
    have := tsz_atP p k x h6
    have := tsz_kid h5
    omega
theorem setP_tsz (u : GTerm) : ∀ (p : List Int) (t x : GTerm), atP t p = some x → tsz u ≤ tsz (setP p t u)
  | [], t, x, h => by rw [setP]; exact Nat.le_refl _
  | i :: p, t, x, h => by
    obtain ⟨k, h1, h2, h3, h4, h5, h6⟩ := atP_cons h
    have e := setP_tsz u p k x h6
    rw [setP, h4]
    have hm : setP p k u ∈ t.fKids.set i.toNat (setP p k u) := List.mem_set h2 _
    have := tszs_mem hm
    rw [tsz_eq (GTerm.mk _ _ _ _)]
    show tsz u ≤ 1 + tszs (t.fKids.set i.toNat (setP p k u))
    omega
theorem contractAt_wB (t : GTerm) (p : List Int) (ht : tms t ≤ 1048576) (hp : p.length ≤ 1048576) : ∃ w b, spec_ContractAt (t, p) = some (w, b) ∧ impl_ContractAt (t, p) = some (w, b) ∧ tms w ≤ 1099511627776 ∧ (b = true → wB w = true) := by
  unfold spec_ContractAt impl_ContractAt
  have hno : tms noT ≤ 1099511627776 := by simp [noT, tms, tmss]
  simp only
  rw [sTermAt t p (by omega) (by omega), iWritten t (by omega), bs, bs]
  cases hw : wB t
  · exact ⟨noT, false, rfl, rfl, hno, fun h => by cases h⟩
  · obtain ⟨hw1, hw2⟩ := wB_of hw
    simp only [if_true]
    rw [iAt t p (by omega) (by omega), bs]
    cases h : atP t p with
    | none => exact ⟨noT, false, rfl, rfl, hno, fun h => by cases h⟩
    | some x =>
      obtain ⟨m, m1, m2⟩ := tOk_atP p t x 8 h hw1
      have xs := tsz_atP p t x h
      have hpl := path_le p t x h
      have hm := nodeOk_many (tOk_node m2).1
      simp only [okT, if_true]
      rw [sRedex x hm, iRedex x hm]
      cases hr : redB x
      · exact ⟨noT, false, rfl, rfl, hno, fun h => by cases h⟩
      · obtain ⟨c, c1, c2, c3, c4⟩ := contracted m2 (by omega) (by omega) hr
        have cm := (tms_tsz c m c3).1
        have hs := setP_tms c p t x h
        have s2 := iSet c (by omega) p t x h (by omega) (by omega)
        have w2 := iWritten (setP p t c) (by omega)
        have hz := setP_tsz c p t x h
        simp only [bs, Bool.not_true, Bool.false_eq_true, if_false, c1, c2, s2, w2]
        by_cases q : tsz c ≤ 400
        · rw [if_pos q]
          simp only [okT, if_true]
          rw [sReplace_eq t p c ht hp (by omega) (tNb_mono (by omega) c (tOk_Nb _ _ c m c3)), bs]
          unfold repT
          rw [hw, h, decide_eq_true q]
          simp only [Option.isSome_some, Bool.true_and]
          cases hv : wB (setP p t c)
          · exact ⟨noT, false, rfl, rfl, hno, fun h => by cases h⟩
          · exact ⟨setP p t c, true, rfl, rfl, by omega, fun _ => hv⟩
        · rw [if_neg q]
          have : wB (setP p t c) = false := by
            rw [Bool.eq_false_iff]; intro hv
            have := (wB_of hv).2; omega
          rw [this]
          exact ⟨noT, false, rfl, rfl, hno, fun h => by cases h⟩
mutual
theorem reds_len : ∀ (t : GTerm) (q p : List Int), p ∈ reds t q → p.length + 1 ≤ q.length + tsz t
  | ⟨op, N, ty, ks⟩, q, p, h => by
    rw [reds] at h
    rw [tsz]
    rcases List.mem_append.1 h with h | h
    · split at h
      · rw [List.mem_singleton.1 h]; omega
      · cases h
    · have := redss_len ks 0 q p h; omega
theorem redss_len : ∀ (ks : List GTerm) (i : Nat) (q p : List Int), p ∈ redss ks i q → p.length + 1 ≤ q.length + 1 + tszs ks
  | [], i, q, p, h => by rw [redss] at h; cases h
  | k :: ks, i, q, p, h => by
    rw [redss] at h
    rw [tszs]
    rcases List.mem_append.1 h with h | h
    · have := reds_len k _ p h; rw [List.length_append, List.length_singleton] at this; omega
    · have := redss_len ks (i + 1) q p h; omega
end
theorem step_wB (t : GTerm) (ht : tms t ≤ 1048576) : ∃ w b, spec_StepTerm t = some (w, b) ∧ impl_StepTerm t = some (w, b) ∧ tms w ≤ 1099511627776 ∧ (b = true → wB w = true) := by
  unfold spec_StepTerm impl_StepTerm
  obtain ⟨h1, h2⟩ := redexes_eq t (by omega)
  rw [h1, h2, bs, bs]
  have hno : tms noT ≤ 1099511627776 := by simp [noT, tms, tmss]
  cases hl : (if wB t = true then reds t [] else []) with
  | nil => exact ⟨noT, false, rfl, rfl, hno, fun h => by cases h⟩
  | cons p l =>
    have hp : p.length ≤ 1048576 := by
      cases hw : wB t
      · rw [hw] at hl; cases hl
      · rw [hw, if_pos rfl] at hl
        have := reds_len t [] p (hl ▸ List.mem_cons_self)
        have := (wB_of hw).2
        simp only [List.length_nil] at *
        omega
    obtain ⟨w, b, q1, q2, q3, q4⟩ := contractAt_wB t p ht hp
    have e : (((p :: l).length : Int) == 0) = false := beq_eq_false_iff_ne.2 (by simp only [List.length_cons]; omega)
    simp only [e, idx0, bs, q1, q2, Bool.false_eq_true, if_false]
    exact ⟨w, b, rfl, rfl, q3, q4⟩
end Go.Am
