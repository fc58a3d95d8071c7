/- Plain laws of the printed functions. -/
import Derived.Test.YtfakfcaegabgaaaGFOF4
set_option linter.unusedSimpArgs false
set_option linter.unusedVariables false
namespace Go.Am
theorem wr_id {x : Int} (h1 : -9223372036854775808 ≤ x) (h2 : x ≤ 9223372036854775807) : wr x = x := by
  unfold wr IntKind.wrap
  simp [IntKind.bits, IntKind.signed]
  omega
theorem idx_get {α : Type} {l : List α} {n : Nat} (h : n < l.length) : idx l (n : Int) = some l[n] := by
  unfold idx
  rw [if_pos (by omega)]
  simp [h]
theorem bs {α β : Type} (a : α) (f : α → Option β) : (some a >>= f) = f a := rfl
/-- A round number as the loops hold it. -/
theorem wr_succ {n : Nat} (h : n < 9223372036854775807) : wr ((n : Int) + 1) = ((n + 1 : Nat) : Int) := by
  rw [wr_id (by omega) (by omega)]; omega
theorem lt_t {n m : Nat} (h : n < m) : decide ((n : Int) < (m : Int)) = true := decide_eq_true (by omega)
theorem lt_f {n m : Nat} (h : m ≤ n) : decide ((n : Int) < (m : Int)) = false := decide_eq_false (by omega)
theorem take_set_succ {α : Type} {l a : List α} {n : Nat} (hl : l.length = a.length) (hn : n < a.length) (h : l.take n = a.take n) : (l.set n a[n]).take (n + 1) = a.take (n + 1) := by
  apply List.ext_getElem?
  intro i
  rw [List.getElem?_take, List.getElem?_take]
  by_cases hi : i < n + 1
  · rw [if_pos hi, if_pos hi, List.getElem?_set]
    by_cases e : n = i
    · subst e
      rw [if_pos rfl, if_pos (by omega), List.getElem?_eq_getElem hn]
    · rw [if_neg e]
      have := congrArg (fun l => l[i]?) h
      simp only [List.getElem?_take] at this
      rw [if_pos (by omega), if_pos (by omega)] at this
      exact this
  · rw [if_neg hi, if_neg hi]
theorem toIntS_l0 (a : List Int) (ha : a.length ≤ 1099511627776) : ∀ (k n : Nat) (out : List Int), n + k = a.length → out.length = a.length → out.take n = a.take n → laws_toIntS_l0 (a, out, (n : Int)) = some a := by
  intro k
  induction k with
  | zero =>
    intro n out hn hl ht
    rw [laws_toIntS_l0.eq_def]
    simp only
    rw [lt_f (by omega)]
    have h1 : out.take n = out := List.take_of_length_le (by omega)
    have h2 : a.take n = a := List.take_of_length_le (by omega)
    rw [h1, h2] at ht
    simp [ht]
  | succ k ih =>
    intro n out hn hl ht
    rw [laws_toIntS_l0.eq_def]
    simp only
    rw [lt_t (by omega), if_pos rfl, idx_get (by omega), bs, idx_get (by omega), bs, wr_succ (by omega), Int.toNat_natCast]
    exact ih (n + 1) _ (by omega) (by simpa using hl) (take_set_succ hl (by omega) ht)
theorem toIntS_id (a : List Int) (ha : a.length ≤ 1099511627776) : laws_toIntS a = some a := by
  unfold laws_toIntS
  have : chk (0 ≤ (a.length : Int) ∧ (Int.toNat (a.length : Int)) * 8 ≤ 140737488355328) = some () := by
    unfold chk; rw [if_pos]; refine ⟨by omega, ?_⟩; rw [Int.toNat_natCast]; omega
  rw [this, bs, Int.toNat_natCast]
  have := toIntS_l0 a ha a.length 0 (List.replicate a.length 0) (by omega) (by simp) rfl
  rw [show ((0 : Nat) : Int) = 0 from rfl] at this
  rw [this, bs]
theorem bne_self {a : Int} : (a != a) = false := by simp
theorem eqIntS_l0 (a : List Int) (ha : a.length ≤ 1099511627776) : ∀ (k n : Nat), n + k = a.length → laws_eqIntS_l0 (a, a, (n : Int)) = some (.inl ()) := by
  intro k
  induction k with
  | zero =>
    intro n hn
    rw [laws_eqIntS_l0.eq_def]
    simp only
    rw [lt_f (by omega)]
    rfl
  | succ k ih =>
    intro n hn
    rw [laws_eqIntS_l0.eq_def]
    simp only
    rw [lt_t (by omega), if_pos rfl, idx_get (by omega), bs, bs, bne_self, if_neg (by decide), wr_succ (by omega)]
    exact ih (n + 1) (by omega)
theorem eqIntS_refl (a : List Int) (ha : a.length ≤ 1099511627776) : laws_eqIntS (a, a) = some true := by
  unfold laws_eqIntS
  simp only
  have := eqIntS_l0 a ha a.length 0 (by omega)
  rw [show ((0 : Nat) : Int) = 0 from rfl] at this
  rw [bne_self, if_neg (by decide), this]
  rfl
def inB (x lo hi : Int) : Bool := decide (x ≥ lo) && decide (x ≤ hi)
theorem sIn (x lo hi : Int) : spec_l1In (x, lo, hi) = some (inB x lo hi) := by
  unfold spec_l1In inB
  simp only
  cases decide (x ≥ lo) <;> simp [bs]
theorem iIn (x lo hi : Int) : impl_within (x, lo, hi) = some (inB x lo hi) := by
  unfold impl_within inB
  simp only
  cases decide (x ≥ lo) <;> simp [bs]
theorem drop_cons_get {α : Type} {l r : List α} {x : α} {i : Nat} (h : l.drop i = x :: r) : i < l.length ∧ idx l (i : Int) = some x ∧ l.drop (i + 1) = r := by
  have hi : i < l.length := by
    rcases Nat.lt_or_ge i l.length with h' | h'
    · exact h'
    · rw [List.drop_eq_nil_of_le h'] at h; cases h
  have e := List.drop_eq_getElem_cons hi
  rw [h] at e
  obtain ⟨e1, e2⟩ := List.cons.inj e
  exact ⟨hi, by rw [idx_get hi, e1], e2.symm⟩
theorem drop_nil_le {α : Type} {l : List α} {i : Nat} (h : l.drop i = []) : l.length ≤ i := by
  rcases Nat.lt_or_ge i l.length with h' | h'
  · rw [List.drop_eq_getElem_cons h'] at h; cases h
  · exact h'
def arrC (c : Int) : Bool := inB c 3 18 || c == 35
def boxC (c : Int) : Bool := inB c 19 34 || c == 36
def kidsC (c : Int) : Int := if c == 0 then 0 else if c == 1 || c == 2 || arrC c then 2 else if boxC c then 1 else -1
theorem sArrow (c : Int) : spec_l2Arrow c = some (arrC c) := by
  unfold spec_l2Arrow arrC
  simp only [sIn, bs]
  cases inB c 3 18 <;> rfl
theorem sBox (c : Int) : spec_l2Box c = some (boxC c) := by
  unfold spec_l2Box boxC
  simp only [sIn, bs]
  cases inB c 19 34 <;> rfl
theorem sKids (c : Int) : spec_l2Kids c = some (kidsC c) := by
  unfold spec_l2Kids kidsC
  simp only [sArrow, sBox, bs]
  cases c == 0 <;> cases c == 1 <;> cases c == 2 <;> cases arrC c <;> cases boxC c <;> rfl
theorem kidsC_cases (c : Int) : (c = 0 ∧ kidsC c = 0) ∨ ((c = 1 ∨ c = 2 ∨ (3 ≤ c ∧ c ≤ 18) ∨ c = 35) ∧ kidsC c = 2) ∨ (((19 ≤ c ∧ c ≤ 34) ∨ c = 36) ∧ kidsC c = 1) ∨ ((c < 0 ∨ 36 < c) ∧ kidsC c = -1) := by
  unfold kidsC arrC boxC inB
  by_cases h0 : c = 0
  · left; subst h0; exact ⟨rfl, rfl⟩
  · right
    have e0 : (c == 0) = false := by simpa using h0
    by_cases h1 : c = 1 ∨ c = 2 ∨ (3 ≤ c ∧ c ≤ 18) ∨ c = 35
    · left
      refine ⟨h1, ?_⟩
      have : (c == 1 || c == 2 || (decide (c ≥ 3) && decide (c ≤ 18) || c == 35)) = true := by
        simp only [Bool.or_eq_true, Bool.and_eq_true, beq_iff_eq, decide_eq_true_eq]; omega
      rw [e0, this]; rfl
    · right
      have q : (c == 1 || c == 2 || (decide (c ≥ 3) && decide (c ≤ 18) || c == 35)) = false := by
        rw [Bool.eq_false_iff]; intro h
        simp only [Bool.or_eq_true, Bool.and_eq_true, beq_iff_eq, decide_eq_true_eq] at h; omega
      rw [e0, q]
      by_cases h2 : (19 ≤ c ∧ c ≤ 34) ∨ c = 36
      · left
        refine ⟨h2, ?_⟩
        have : (decide (c ≥ 19) && decide (c ≤ 34) || c == 36) = true := by
          simp only [Bool.or_eq_true, Bool.and_eq_true, beq_iff_eq, decide_eq_true_eq]; omega
        rw [this]; rfl
      · right
        refine ⟨by omega, ?_⟩
        have : (decide (c ≥ 19) && decide (c ≤ 34) || c == 36) = false := by
          rw [Bool.eq_false_iff]; intro h
          simp only [Bool.or_eq_true, Bool.and_eq_true, beq_iff_eq, decide_eq_true_eq] at h; omega
        rw [this]; rfl
/-- The shape of a code, and its grade. -/
def shapeI (c : Int) : Int × Int :=
  if inB c 0 2 then (c, -1) else if inB c 3 18 then (3, c - 3) else if inB c 19 34 then (4, c - 19) else if c == 35 then (3, -1) else if c == 36 then (4, -1) else (5, -1)
theorem iShape (c : Int) : impl_shape c = some (shapeI c) := by
  unfold impl_shape shapeI
  simp only [iIn, bs]
  cases h1 : inB c 0 2
  · cases h2 : inB c 3 18
    · cases h3 : inB c 19 34
      · cases c == 35 <;> cases c == 36 <;> rfl
      · simp only [inB, Bool.and_eq_true, decide_eq_true_eq] at h3
        simp only [Bool.false_eq_true, if_false, if_true]
        rw [wr_id (by omega) (by omega)]
    · simp only [inB, Bool.and_eq_true, decide_eq_true_eq] at h2
      simp only [Bool.false_eq_true, if_false, if_true]
      rw [wr_id (by omega) (by omega)]
  · rfl
theorem shapeI_cases (c : Int) : (c = 0 ∧ shapeI c = (0, -1)) ∨ (c = 1 ∧ shapeI c = (1, -1)) ∨ (c = 2 ∧ shapeI c = (2, -1)) ∨ ((3 ≤ c ∧ c ≤ 18) ∧ shapeI c = (3, c - 3)) ∨ (c = 35 ∧ shapeI c = (3, -1)) ∨
    ((19 ≤ c ∧ c ≤ 34) ∧ shapeI c = (4, c - 19)) ∨ (c = 36 ∧ shapeI c = (4, -1)) ∨ ((c < 0 ∨ 36 < c) ∧ shapeI c = (5, -1)) := by
  have inT : ∀ lo hi, lo ≤ c → c ≤ hi → inB c lo hi = true := fun lo hi h1 h2 => by simp only [inB, Bool.and_eq_true, decide_eq_true_eq]; omega
  have inF : ∀ lo hi, (c < lo ∨ hi < c) → inB c lo hi = false := fun lo hi h => by rw [Bool.eq_false_iff]; intro h'; simp only [inB, Bool.and_eq_true, decide_eq_true_eq] at h'; omega
  unfold shapeI
  by_cases h0 : 0 ≤ c ∧ c ≤ 2
  · rw [inT 0 2 h0.1 h0.2]
    have : c = 0 ∨ c = 1 ∨ c = 2 := by omega
    rcases this with rfl | rfl | rfl <;> simp
  · rw [inF 0 2 (by omega)]
    by_cases h1 : 3 ≤ c ∧ c ≤ 18
    · rw [inT 3 18 h1.1 h1.2]
      exact .inr (.inr (.inr (.inl ⟨h1, rfl⟩)))
    · rw [inF 3 18 (by omega)]
      by_cases h2 : 19 ≤ c ∧ c ≤ 34
      · rw [inT 19 34 h2.1 h2.2]
        exact .inr (.inr (.inr (.inr (.inr (.inl ⟨h2, rfl⟩)))))
      · rw [inF 19 34 (by omega)]
        by_cases h3 : c = 35
        · subst h3; simp
        · by_cases h4 : c = 36
          · subst h4; simp
          · have e3 : (c == 35) = false := by simpa using h3
            have e4 : (c == 36) = false := by simpa using h4
            rw [e3, e4]
            refine .inr (.inr (.inr (.inr (.inr (.inr (.inr ⟨by omega, rfl⟩))))))
/-- What is left behind so many types. -/
def skip : Nat → List Int → Option (List Int)
  | 0, l => some l
  | _ + 1, [] => none
  | m + 1, c :: l => if kidsC c = -1 then none else skip (m + (kidsC c).toNat) l
theorem skip_zero (l : List Int) : skip 0 l = some l := by cases l <;> rfl
theorem skip_nil (m : Nat) : skip (m + 1) [] = none := rfl
theorem skip_cons (m : Nat) (c : Int) (l : List Int) : skip (m + 1) (c :: l) = if kidsC c = -1 then none else skip (m + (kidsC c).toNat) l := rfl
theorem skip_add (l : List Int) : ∀ (m k : Nat), skip (m + k) l = (skip m l).bind (skip k) := by
  induction l with
  | nil =>
    intro m k
    cases m with
    | zero => rw [Nat.zero_add, skip_zero]; rfl
    | succ m => rw [show m + 1 + k = (m + k) + 1 by omega, skip_nil, skip_nil]; rfl
  | cons c l ih =>
    intro m k
    cases m with
    | zero => rw [Nat.zero_add, skip_zero]; rfl
    | succ m =>
      rw [show m + 1 + k = (m + k) + 1 by omega, skip_cons, skip_cons]
      by_cases h : kidsC c = -1
      · rw [if_pos h, if_pos h]; rfl
      · rw [if_neg h, if_neg h, ← ih]; congr 1; omega
theorem skip_suffix (l : List Int) : ∀ (m : Nat) (r : List Int), skip m l = some r → ∃ p, l = p ++ r ∧ m ≤ p.length := by
  induction l with
  | nil =>
    intro m r h
    cases m with
    | zero => rw [skip_zero] at h; cases h; exact ⟨[], rfl, Nat.le_refl _⟩
    | succ m => rw [skip_nil] at h; cases h
  | cons c l ih =>
    intro m r h
    cases m with
    | zero => rw [skip_zero] at h; cases h; exact ⟨[], rfl, Nat.le_refl _⟩
    | succ m =>
      rw [skip_cons] at h
      by_cases hk : kidsC c = -1
      · rw [if_pos hk] at h; cases h
      · rw [if_neg hk] at h
        obtain ⟨p, e, hp⟩ := ih _ _ h
        exact ⟨c :: p, by rw [e]; rfl, by simp; omega⟩
/-- Where so many types that begin at a place end. -/
def endI (ty : List Int) (m i : Nat) : Int := match skip m (ty.drop i) with | some r => ((ty.length - r.length : Nat) : Int) | none => -1
theorem sEnd_l0 (ty : List Int) (hty : ty.length ≤ 1099511627776) : ∀ (l : List Int) (i m : Nat), ty.drop i = l → m ≤ 1099511627776 + 2 * i → ∃ x, spec_l2End_l0 (ty, ((m + 1 : Nat) : Int), (i : Int)) = some x ∧ (match x with | .inl () => -1 | .inr r => r) = endI ty (m + 1) i := by
  intro l
  induction l with
  | nil =>
    intro i m hl hm
    rw [spec_l2End_l0.eq_def]
    simp only
    rw [lt_f (drop_nil_le hl)]
    exact ⟨.inl (), rfl, by unfold endI; rw [hl, skip_nil]⟩
  | cons c l ih =>
    intro i m hl hm
    obtain ⟨hi, hx, hd⟩ := drop_cons_get hl
    have hi2 : (i : Int) < 1099511627776 := by omega
    rw [spec_l2End_l0.eq_def]
    simp only
    rw [lt_t hi, if_pos rfl, hx, bs, sKids, bs]
    have he : endI ty (m + 1) i = (match (if kidsC c = -1 then none else skip (m + (kidsC c).toNat) l) with | some r => ((ty.length - r.length : Nat) : Int) | none => -1) := by
      unfold endI; rw [hl, skip_cons]
    rw [he]
    by_cases hk : kidsC c = -1
    · rw [if_pos hk, hk]
      exact ⟨.inr (-1), rfl, rfl⟩
    · rw [if_neg hk]
      have hk0 : 0 ≤ kidsC c ∧ kidsC c ≤ 2 := by rcases kidsC_cases c with h | h | h | h <;> omega
      obtain ⟨k, hkk⟩ : ∃ k : Nat, kidsC c = (k : Int) := ⟨(kidsC c).toNat, by omega⟩
      rw [decide_eq_false (by omega), if_neg (by decide), hkk, Int.toNat_natCast]
      rw [wr_id (x := ((m + 1 : Nat) : Int) - 1) (by omega) (by omega), show ((m + 1 : Nat) : Int) - 1 = (m : Int) by omega, wr_id (x := (m : Int) + (k : Int)) (by omega) (by omega), wr_succ (by omega)]
      by_cases h0 : m + k = 0
      · rw [show ((m : Int) + (k : Int) == 0) = true by simp; omega, if_pos rfl, h0, skip_zero]
        refine ⟨_, rfl, ?_⟩
        have : l.length = ty.length - (i + 1) := by rw [← hd, List.length_drop]
        simp only
        omega
      · rw [show ((m : Int) + (k : Int) == 0) = false by simp; omega, if_neg (by decide)]
        obtain ⟨q, hq⟩ : ∃ q, m + k = q + 1 := ⟨m + k - 1, by omega⟩
        have := ih (i + 1) q hd (by omega)
        rw [show (m : Int) + (k : Int) = ((q + 1 : Nat) : Int) by omega]
        obtain ⟨x, h1, h2⟩ := this
        exact ⟨x, h1, by rw [h2, hq]; unfold endI; rw [hd]⟩
theorem sEnd (ty : List Int) (hty : ty.length ≤ 1099511627776) (i : Nat) (hi : i ≤ ty.length) : spec_l2End (ty, (i : Int)) = some (endI ty 1 i) := by
  unfold spec_l2End
  obtain ⟨x, h1, h2⟩ := sEnd_l0 ty hty _ i 0 rfl (by omega)
  simp only
  rw [show (1 : Int) = ((0 + 1 : Nat) : Int) from rfl, h1, bs]
  rw [← h2]
  cases x <;> rfl
theorem endI_two (ty : List Int) (i : Nat) (hi : i ≤ ty.length) : endI ty 2 i = (if endI ty 1 i = -1 then -1 else endI ty 1 (endI ty 1 i).toNat) := by
  unfold endI
  rw [show 2 = 1 + 1 from rfl, skip_add]
  cases h : skip 1 (ty.drop i) with
  | none => simp
  | some r =>
    obtain ⟨p, hp, hl⟩ := skip_suffix _ _ _ h
    have hlen : ty.length - i = p.length + r.length := by rw [← List.length_drop, hp, List.length_append]
    have : ty.drop (ty.length - r.length) = r := by
      have e : ty.drop (ty.length - r.length) = (ty.drop i).drop p.length := by rw [List.drop_drop]; congr 1; omega
      rw [e, hp, List.drop_left]
    simp only [Option.bind_some]
    rw [if_neg (by omega), Int.toNat_natCast, this]
theorem iEnd (ty : List Int) (hty : ty.length ≤ 1099511627776) : ∀ (d i : Nat), ty.length - i = d → impl_typeEnd (ty, (i : Int)) = some (endI ty 1 i) := by
  intro d
  induction d using Nat.strongRecOn with
  | ind d ih =>
    intro i hd
    rw [impl_typeEnd.eq_def]
    simp only
    rw [decide_eq_false (by omega : ¬ (i : Int) < 0)]
    simp only [Bool.false_eq_true, if_false, bs]
    by_cases hi : i < ty.length
    · rw [decide_eq_false (by omega), if_neg (by decide), idx_get hi, bs, iShape, bs]
      have hdr := List.drop_eq_getElem_cons hi
      have he : ∀ k : Nat, kidsC ty[i] = (k : Int) → endI ty 1 i = endI ty k (i + 1) := fun k hk => by
        unfold endI
        rw [hdr, show 1 = 0 + 1 from rfl, skip_cons, hk, if_neg (by omega), Int.toNat_natCast, Nat.zero_add]
      have hn : kidsC ty[i] = -1 → endI ty 1 i = -1 := fun hk => by
        unfold endI
        rw [hdr, show 1 = 0 + 1 from rfl, skip_cons, if_pos hk]
      have i1 := ih (ty.length - (i + 1)) (by omega) (i + 1) rfl
      have hz : ∀ i : Nat, i ≤ ty.length → endI ty 0 i = (i : Int) := fun i hi => by unfold endI; rw [skip_zero]; simp only [List.length_drop]; omega
      rw [wr_succ (by omega)]
      have two : kidsC ty[i] = 2 → ((impl_typeEnd (ty, ((i + 1 : Nat) : Int))) >>= fun r_11_4 => (impl_typeEnd (ty, r_11_4)) >>= fun r_11_5 => some r_11_5) = some (endI ty 1 i) := fun hk => by
        rw [i1, bs, he 2 hk, endI_two ty (i + 1) (by omega)]
        by_cases h1 : endI ty 1 (i + 1) = -1
        · rw [h1, if_pos rfl, impl_typeEnd.eq_def]; rfl
        · rw [if_neg h1]
          obtain ⟨e, hee, hlo⟩ : ∃ e : Nat, endI ty 1 (i + 1) = (e : Int) ∧ i + 1 < e := by
            unfold endI at h1 ⊢
            cases hs : skip 1 (ty.drop (i + 1)) with
            | none => rw [hs] at h1; exact absurd rfl h1
            | some r =>
              obtain ⟨p, hp, hl⟩ := skip_suffix _ _ _ hs
              have hlen : ty.length - (i + 1) = p.length + r.length := by rw [← List.length_drop, hp, List.length_append]
              exact ⟨_, rfl, by omega⟩
          rw [hee, Int.toNat_natCast, ih (ty.length - e) (by omega) e rfl, bs]
      rcases shapeI_cases ty[i] with ⟨h, e⟩ | ⟨h, e⟩ | ⟨h, e⟩ | ⟨h, e⟩ | ⟨h, e⟩ | ⟨h, e⟩ | ⟨h, e⟩ | ⟨h, e⟩ <;> rw [e] <;> simp only []
      · have hk : kidsC ty[i] = 0 := by rcases kidsC_cases ty[i] with h | h | h | h <;> omega
        rw [if_pos (by rfl), he 0 hk, hz _ (by omega)]
      · have hk : kidsC ty[i] = 2 := by rcases kidsC_cases ty[i] with h | h | h | h <;> omega
        exact two hk
      · have hk : kidsC ty[i] = 2 := by rcases kidsC_cases ty[i] with h | h | h | h <;> omega
        exact two hk
      · have hk : kidsC ty[i] = 2 := by rcases kidsC_cases ty[i] with h | h | h | h <;> omega
        exact two hk
      · have hk : kidsC ty[i] = 2 := by rcases kidsC_cases ty[i] with h | h | h | h <;> omega
        exact two hk
      · have hk : kidsC ty[i] = 1 := by rcases kidsC_cases ty[i] with h | h | h | h <;> omega
        rw [he 1 hk, if_neg (by decide), if_pos (by rfl), i1, bs]
      · have hk : kidsC ty[i] = 1 := by rcases kidsC_cases ty[i] with h | h | h | h <;> omega
        rw [he 1 hk, if_neg (by decide), if_pos (by rfl), i1, bs]
      · have hk : kidsC ty[i] = -1 := by rcases kidsC_cases ty[i] with h | h | h | h <;> omega
        rw [hn hk]; rfl
    · rw [decide_eq_true (by omega), if_pos rfl]
      unfold endI
      rw [List.drop_eq_nil_of_le (by omega), skip_nil]
/-- A written type. -/
def wtB (ty : List Int) : Bool := decide (ty.length ≤ 40) && (skip 1 ty == some [])
theorem endI_len (ty : List Int) : (endI ty 1 0 == (ty.length : Int)) = (skip 1 ty == some []) := by
  unfold endI
  rw [List.drop_zero]
  cases h : skip 1 ty with
  | none => simp
  | some r =>
    obtain ⟨p, hp, hl⟩ := skip_suffix _ _ _ h
    have hlen : ty.length = p.length + r.length := by rw [hp, List.length_append]
    cases r with
    | nil => simp
    | cons x xs =>
      simp only [List.length_cons] at hlen ⊢
      simp
      omega
theorem sType (ty : List Int) (hty : ty.length ≤ 1099511627776) : spec_l2Type ty = some (wtB ty) := by
  unfold spec_l2Type wtB
  by_cases h : ty.length ≤ 40
  · rw [decide_eq_true (by omega : (ty.length : Int) ≤ 40), if_pos rfl, show (0 : Int) = ((0 : Nat) : Int) from rfl, sEnd ty hty 0 (by omega), bs, endI_len, decide_eq_true h]
    cases hs : skip 1 ty == some [] with
    | false => rfl
    | true =>
      have : 0 < ty.length := by
        rcases ty with _ | ⟨c, l⟩
        · rw [show skip 1 [] = none from rfl] at hs; cases hs
        · simp
      rw [if_pos rfl, decide_eq_true (by omega : (ty.length : Int) > ((0 : Nat) : Int))]; rfl
  · rw [decide_eq_false (by omega : ¬ (ty.length : Int) ≤ 40), decide_eq_false h]; rfl
theorem iType (ty : List Int) (hty : ty.length ≤ 1099511627776) : impl_isWrittenType ty = some (wtB ty) := by
  unfold impl_isWrittenType wtB
  rw [iIn, bs]
  by_cases h : ty.length ≤ 40
  · rw [decide_eq_true h]
    by_cases h1 : 1 ≤ ty.length
    · have : inB (ty.length : Int) 1 40 = true := by simp only [inB, Bool.and_eq_true, decide_eq_true_eq]; omega
      rw [this, if_pos rfl, show (0 : Int) = ((0 : Nat) : Int) from rfl, iEnd ty hty _ 0 rfl, bs, endI_len]; rfl
    · have : inB (ty.length : Int) 1 40 = false := by rw [Bool.eq_false_iff]; intro h'; simp only [inB, Bool.and_eq_true, decide_eq_true_eq] at h'; omega
      have e : ty = [] := List.length_eq_zero_iff.1 (by omega)
      rw [this, e]; rfl
  · have : inB (ty.length : Int) 1 40 = false := by rw [Bool.eq_false_iff]; intro h'; simp only [inB, Bool.and_eq_true, decide_eq_true_eq] at h'; omega
    rw [this, decide_eq_false h]; rfl
/-- A code's grade is one of so many (closed: and is told). -/
def gradeC (c : Int) : Int := if 35 ≤ c then -1 else if 19 ≤ c then c - 19 else c - 3
def gokC (size : Int) (closed : Bool) (c : Int) : Bool := !(decide (kidsC c > 0) && decide (c > 2) && (decide (gradeC c ≥ size) || closed && decide (gradeC c < 0)))
theorem sGrade {c : Int} (h : kidsC c > 0) : spec_l2Grade c = some (gradeC c) := by
  have : 0 ≤ c ∧ c ≤ 36 := by rcases kidsC_cases c with h | h | h | h <;> omega
  unfold spec_l2Grade gradeC
  by_cases h1 : 35 ≤ c
  · rw [decide_eq_true (by omega : c ≥ 35), if_pos rfl, if_pos h1]
  · rw [decide_eq_false (by omega : ¬ c ≥ 35), if_neg (by decide), if_neg h1]
    by_cases h2 : 19 ≤ c
    · rw [decide_eq_true (by omega : c ≥ 19), if_pos rfl, if_pos h2, wr_id (by omega) (by omega)]
    · rw [decide_eq_false (by omega : ¬ c ≥ 19), if_neg (by decide), if_neg h2, wr_id (by omega) (by omega)]
theorem sGraded_l0 (ty : List Int) (hty : ty.length ≤ 1099511627776) (size : Int) (cl : Bool) : ∀ (l : List Int) (i : Nat), ty.drop i = l → spec_l2Graded_l0 (ty, size, cl, (i : Int)) = some (if l.all (gokC size cl) then .inl () else .inr false) := by
  intro l
  induction l with
  | nil =>
    intro i hl
    rw [spec_l2Graded_l0.eq_def]
    simp only
    rw [lt_f (drop_nil_le hl)]; rfl
  | cons c l ih =>
    intro i hl
    obtain ⟨hi, hx, hd⟩ := drop_cons_get hl
    rw [spec_l2Graded_l0.eq_def]
    simp only
    rw [lt_t hi, if_pos rfl, hx, bs, bs, sKids, bs, wr_succ (by omega)]
    have ih := ih (i + 1) hd
    generalize ((i + 1 : Nat) : Int) = M at ih ⊢
    rw [List.all_cons]
    unfold gokC at ih ⊢
    by_cases hk : kidsC c > 0
    · simp only [bs, sGrade hk]
      rw [decide_eq_true hk]
      generalize gradeC c = g at ih ⊢
      cases decide (c > 2) <;> cases decide (g ≥ size) <;> cases cl <;> cases decide (g < 0) <;> simp [bs, ih]
    · rw [decide_eq_false hk]; simp [bs, ih]
theorem sGraded (ty : List Int) (hty : ty.length ≤ 1099511627776) (size : Int) (cl : Bool) : spec_l2Graded (ty, size, cl) = some (ty.all (gokC size cl)) := by
  unfold spec_l2Graded
  simp only
  rw [show (0 : Int) = ((0 : Nat) : Int) from rfl, sGraded_l0 ty hty size cl _ 0 rfl, List.drop_zero, bs]
  cases ty.all (gokC size cl) <;> rfl
theorem gok16 (c : Int) : gokC 16 false c = true := by
  unfold gokC gradeC
  rcases kidsC_cases c with ⟨h, e⟩ | ⟨h, e⟩ | ⟨h, e⟩ | ⟨h, e⟩ <;> rw [e] <;> simp <;> split <;> (try split) <;> omega
theorem bind_of {α β : Type} {a : Option α} {f : α → Option β} {x : α} (h : a = some x) : (a >>= f) = f x := by rw [h]; rfl
mutual
def tsz : GTerm → Nat
  | ⟨_, _, _, ks⟩ => 1 + tszs ks
def tszs : List GTerm → Nat
  | [] => 0
  | k :: ks => tsz k + tszs ks
end
mutual
/-- What a term holds in all its rows. -/
def tms : GTerm → Nat
  | ⟨_, _, ty, ks⟩ => ty.length + ks.length + tmss ks
def tmss : List GTerm → Nat
  | [] => 0
  | k :: ks => tms k + tmss ks
end
theorem tms_eq (t : GTerm) : tms t = t.fType.length + t.fKids.length + tmss t.fKids := by cases t; rw [tms]
def leftI (left n : Nat) : Int := if n ≤ left then ((left - n : Nat) : Int) else -1
theorem leftI_le {left n : Nat} (h : n ≤ left) : leftI left n = ((left - n : Nat) : Int) := if_pos h
theorem leftI_gt {left n : Nat} (h : ¬ n ≤ left) : leftI left n = -1 := if_neg h
theorem sLeft_neg (t : GTerm) (i : Int) : spec_l2Left_l0 (t, -1, i) = some (-1) := by
  rw [spec_l2Left_l0.eq_def]
  simp only
  cases decide (i < (t.fKids.length : Int)) <;> rfl
mutual
theorem sLeft : ∀ (t : GTerm) (left : Nat), tms t ≤ 1099511627776 → left ≤ 1048576 → spec_l2Left (t, (left : Int)) = some (leftI left (tsz t))
  | ⟨op, N, ty, ks⟩, left, ht, hl => by
    rw [tms] at ht
    rw [spec_l2Left.eq_def, tsz]
    simp only
    rcases left with _ | l
    · rw [show wr (((0 : Nat) : Int) - 1) = -1 from wr_id (by omega) (by omega), sLeft_neg, bs, leftI_gt (by omega)]
    · have h := sLeft_l0 ks ⟨op, N, ty, ks⟩ 0 l rfl (by simp only; omega) (by omega) (by omega)
      rw [wr_id (by omega) (by omega), show ((l + 1 : Nat) : Int) - 1 = (l : Int) by omega, show (0 : Int) = ((0 : Nat) : Int) from rfl, h, bs]
      unfold leftI
      by_cases q : tszs ks ≤ l
      · rw [if_pos q, if_pos (by omega), show l + 1 - (1 + tszs ks) = l - tszs ks by omega]
      · rw [if_neg q, if_neg (by omega)]
theorem sLeft_l0 : ∀ (ks : List GTerm) (t : GTerm) (i left : Nat), t.fKids.drop i = ks → t.fKids.length ≤ 1099511627776 → tmss ks ≤ 1099511627776 → left ≤ 1048576 → spec_l2Left_l0 (t, (left : Int), (i : Int)) = some (leftI left (tszs ks))
  | [], t, i, left, hd, hk, ht, hl => by
    rw [spec_l2Left_l0.eq_def, tszs]
    simp only
    rw [lt_f (drop_nil_le hd)]
    simp [bs, leftI]
  | k :: ks, t, i, left, hd, hk, ht, hl => by
    obtain ⟨hi, hx, hd'⟩ := drop_cons_get hd
    rw [tmss] at ht
    rw [spec_l2Left_l0.eq_def, tszs]
    simp only
    rw [lt_t hi, if_pos rfl, bs, decide_eq_true (by omega : ((left : Nat) : Int) ≥ 0), if_pos rfl, hx, bs, sLeft k left (by omega) hl, bs, wr_succ (by omega)]
    by_cases q : tsz k ≤ left
    · rw [leftI_le q, sLeft_l0 ks t (i + 1) (left - tsz k) hd' hk (by omega) (by omega)]
      unfold leftI
      by_cases q2 : tszs ks ≤ left - tsz k
      · rw [if_pos q2, if_pos (by omega)]; congr 2; omega
      · rw [if_neg q2, if_neg (by omega)]
    · rw [leftI_gt q, sLeft_neg, leftI_gt (by omega)]
end
def manyI (op : Int) : Int := if inB op 0 12 then ([0, 0, 2, 3, 2, 2, 1, 1, 3, 1, 2, 1, 2] : List Int).getD op.toNat 0 else -1
def hasG (op : Int) : Bool := op == 5 || op == 8 || op == 9 || op == 11 || op == 12
def typedG (op : Int) : Bool := op == 6 || op == 7 || op == 9
def wordG (op : Int) : ByteArray := ([ByteArray.mk #[120], ByteArray.empty, ByteArray.mk #[97, 100, 100], ByteArray.mk #[105, 102], ByteArray.mk #[112, 97, 105, 114], ByteArray.mk #[115, 112, 108, 105, 116], ByteArray.mk #[108, 101, 102, 116],
  ByteArray.mk #[114, 105, 103, 104, 116], ByteArray.mk #[99, 97, 115, 101], ByteArray.mk #[102, 117, 110], ByteArray.mk #[97, 112, 112], ByteArray.mk #[98, 111, 120], ByteArray.mk #[111, 112, 101, 110]] : List ByteArray).getD op.toNat ByteArray.empty
theorem op_cases {op : Int} (h : inB op 0 12 = true) : op = 0 ∨ op = 1 ∨ op = 2 ∨ op = 3 ∨ op = 4 ∨ op = 5 ∨ op = 6 ∨ op = 7 ∨ op = 8 ∨ op = 9 ∨ op = 10 ∨ op = 11 ∨ op = 12 := by
  simp only [inB, Bool.and_eq_true, decide_eq_true_eq] at h
  omega
theorem sMany (op : Int) : spec_l2Many op = some (manyI op) := by
  unfold spec_l2Many manyI
  rw [sIn, bs]
  cases h : inB op 0 12
  · rfl
  · rcases op_cases h with rfl | rfl | rfl | rfl | rfl | rfl | rfl | rfl | rfl | rfl | rfl | rfl | rfl <;> rfl
theorem sHas (op : Int) : spec_l2Has op = some (hasG op) := by
  unfold spec_l2Has hasG
  cases op == 5 <;> cases op == 8 <;> cases op == 9 <;> cases op == 11 <;> rfl
theorem sTyped (op : Int) : spec_l2Typed op = some (typedG op) := by
  unfold spec_l2Typed typedG
  cases op == 6 <;> cases op == 7 <;> rfl
def formG (op : Int) : GForm × Bool := if inB op 0 12 then (GForm.mk (wordG op) (manyI op) (hasG op) (typedG op), true) else (GForm.mk ByteArray.empty 0 false false, false)
theorem iForm (op : Int) : impl_formOf op = some (formG op) := by
  unfold impl_formOf formG
  rw [iIn, bs]
  cases h : inB op 0 12
  · rfl
  · rcases op_cases h with rfl | rfl | rfl | rfl | rfl | rfl | rfl | rfl | rfl | rfl | rfl | rfl | rfl <;> rfl
def addsI (op kid : Int) : Nat := if op == 5 && kid == 1 then 2 else if (op == 8 && decide (kid > 0)) || op == 9 || (op == 12 && kid == 1) then 1 else 0
theorem addsI_le (op kid : Int) : addsI op kid ≤ 2 := by unfold addsI; split <;> (try split) <;> omega
theorem sAdds (op kid : Int) : spec_l2Adds (op, kid) = some ((addsI op kid : Nat) : Int) := by
  unfold spec_l2Adds addsI
  simp only
  generalize (op == 5) = b1
  generalize (op == 8) = b2
  generalize (op == 9) = b3
  generalize (op == 12) = b4
  generalize (kid == 1) = b5
  generalize decide (kid > 0) = b6
  cases b1 <;> cases b2 <;> cases b3 <;> cases b4 <;> cases b5 <;> cases b6 <;> rfl
theorem iAdds (op kid : Int) : impl_adds (op, kid) = some ((addsI op kid : Nat) : Int) := by
  unfold impl_adds addsI
  simp only
  generalize (op == 5) = b1
  generalize (op == 8) = b2
  generalize (op == 9) = b3
  generalize (op == 12) = b4
  generalize (kid == 1) = b5
  generalize decide (kid > 0) = b6
  cases b1 <;> cases b2 <;> cases b3 <;> cases b4 <;> cases b5 <;> cases b6 <;> rfl
def nOkN (g : Int → Bool) (n : Int) (t : GTerm) : Bool := if t.fOp == 0 then inB t.fN 0 (n - 1) else if t.fOp == 1 then inB t.fN 0 2 else if hasG t.fOp then g t.fN else t.fN == 0
def nOkY (y : List Int → Bool) (t : GTerm) : Bool := if typedG t.fOp then y t.fType else (t.fType.length : Int) == 0
def nodeOk (g : Int → Bool) (y : List Int → Bool) (n : Int) (t : GTerm) : Bool := inB t.fOp 0 12 && ((t.fKids.length : Int) == manyI t.fOp) && nOkN g n t && nOkY y t
mutual
def tOk (g : Int → Bool) (y : List Int → Bool) : Nat → GTerm → Bool
  | n, ⟨op, N, ty, ks⟩ => nodeOk g y (n : Int) ⟨op, N, ty, ks⟩ && tOks g y op n 0 ks
def tOks (g : Int → Bool) (y : List Int → Bool) : Int → Nat → Nat → List GTerm → Bool
  | _, _, _, [] => true
  | op, n, i, k :: ks => tOk g y (n + addsI op (i : Int)) k && tOks g y op n (i + 1) ks
end
theorem tOk_eq (g : Int → Bool) (y : List Int → Bool) (n : Nat) (t : GTerm) : tOk g y n t = (nodeOk g y (n : Int) t && tOks g y t.fOp n 0 t.fKids) := by cases t; rw [tOk]
def gN (size : Int) (cl : Bool) (x : Int) : Bool := !(decide (x ≥ size) || decide (x < -1) || cl && decide (x < 0))
def yN (size : Int) (cl : Bool) (ty : List Int) : Bool := wtB ty && ty.all (gokC size cl)
theorem sNode (t : GTerm) (n : Nat) (size : Int) (cl : Bool) (hty : t.fType.length ≤ 1099511627776) (hn : n ≤ 35184372088832) : spec_l2Node (t, (n : Int), size, cl) = some (nodeOk (gN size cl) (yN size cl) (n : Int) t) := by
  unfold spec_l2Node nodeOk
  simp only
  rw [sMany, bs]
  by_cases hk : (t.fKids.length : Int) = manyI t.fOp
  · have hop : inB t.fOp 0 12 = true := by
      cases h : inB t.fOp 0 12
      · unfold manyI at hk; rw [h] at hk; simp at hk
      · rfl
    rw [show ((t.fKids.length : Int) != manyI t.fOp) = false by rw [hk]; exact bne_self, if_neg (by decide), show ((t.fKids.length : Int) == manyI t.fOp) = true by rw [hk]; simp, hop]
    refine (bind_of (x := if nOkN (gN size cl) (n : Int) t then .inl () else .inr false) ?_).trans ?_
    · unfold nOkN gN
      rw [sIn, wr_id (by omega) (by omega), sIn, sHas]
      simp only [bs]
      generalize inB t.fN 0 ((n : Int) - 1) = b1
      generalize inB t.fN 0 2 = b2
      generalize hasG t.fOp = b3
      rw [show (t.fN != 0) = !(t.fN == 0) from rfl]
      generalize (t.fN == 0) = b4
      generalize decide (t.fN ≥ size) = b5
      generalize decide (t.fN < -1) = b6
      generalize decide (t.fN < 0) = b7
      generalize (t.fOp == 0) = b8
      generalize (t.fOp == 1) = b9
      cases b8
      · cases b9
        · cases b3
          · cases b4 <;> rfl
          · cases b5 <;> cases b6 <;> cases cl <;> cases b7 <;> rfl
        · cases b2 <;> rfl
      · cases b1 <;> rfl
    · cases nOkN (gN size cl) (n : Int) t
      · simp
      · unfold nOkY yN
        simp only [if_true]
        rw [sTyped, bs]
        cases typedG t.fOp
        · simp
        · simp only [if_true]
          rw [sType _ hty, sGraded _ hty]
          cases wtB t.fType <;> simp [bs]
  · rw [show ((t.fKids.length : Int) != manyI t.fOp) = true by simpa using hk, if_pos rfl, show ((t.fKids.length : Int) == manyI t.fOp) = false by simpa using hk]
    simp
mutual
theorem sTerm (size : Int) (cl : Bool) : ∀ (t : GTerm) (n : Nat), tms t ≤ 1099511627776 → n + 2 * tms t ≤ 35184372088832 → spec_l2Term (t, (n : Int), size, cl) = some (tOk (gN size cl) (yN size cl) n t)
  | ⟨op, N, ty, ks⟩, n, ht, hn => by
    rw [tms] at ht hn
    rw [spec_l2Term.eq_def, tOk]
    simp only
    rw [sNode _ n size cl (by simp only; omega) (by omega), bs]
    cases hb : nodeOk (gN size cl) (yN size cl) (n : Int) ⟨op, N, ty, ks⟩
    · rfl
    · have h := sTerm_l0 size cl ks ⟨op, N, ty, ks⟩ n 0 rfl (by simp only; omega) (by omega) (by omega)
      rw [if_pos rfl, show (0 : Int) = ((0 : Nat) : Int) from rfl, h, bs]
      simp only
      cases tOks (gN size cl) (yN size cl) op n 0 ks <;> rfl
theorem sTerm_l0 (size : Int) (cl : Bool) : ∀ (ks : List GTerm) (t : GTerm) (n i : Nat), t.fKids.drop i = ks → t.fKids.length ≤ 1099511627776 → tmss ks ≤ 1099511627776 → n + 2 * (ks.length + tmss ks) ≤ 35184372088832 →
    spec_l2Term_l0 (t, (n : Int), size, cl, (i : Int)) = some (if tOks (gN size cl) (yN size cl) t.fOp n i ks then .inl () else .inr false)
  | [], t, n, i, hd, hk, ht, hn => by
    rw [spec_l2Term_l0.eq_def, tOks]
    simp only
    rw [lt_f (drop_nil_le hd)]; rfl
  | k :: ks, t, n, i, hd, hk, ht, hn => by
    obtain ⟨hi, hx, hd'⟩ := drop_cons_get hd
    rw [tmss] at ht hn
    rw [List.length_cons] at hn
    have ha := addsI_le t.fOp (i : Int)
    rw [spec_l2Term_l0.eq_def, tOks]
    simp only
    rw [lt_t hi, if_pos rfl, hx, bs, sAdds, bs, wr_id (by omega) (by omega), show (n : Int) + ((addsI t.fOp (i : Int) : Nat) : Int) = ((n + addsI t.fOp (i : Int) : Nat) : Int) by omega]
    rw [sTerm size cl k (n + addsI t.fOp (i : Int)) (by omega) (by omega), bs, wr_succ (by omega)]
    cases tOk (gN size cl) (yN size cl) (n + addsI t.fOp (i : Int)) k
    · rfl
    · rw [if_pos rfl, sTerm_l0 size cl ks t n (i + 1) hd' hk (by omega) (by omega), Bool.true_and]
end
def chkI (ok : Bool) (nodes sz : Nat) : Int := if ok && decide (nodes + sz ≤ 400) then ((nodes + sz : Nat) : Int) else 401
theorem iWs (x : Int) : impl_writtenSize_c1 x = some (gN 16 false x) := by
  unfold impl_writtenSize_c1
  rw [iIn, bs]
  congr 1
  unfold gN inB
  by_cases h1 : x ≥ 16 <;> by_cases h2 : x < -1 <;> simp [h1, h2] <;> omega
mutual
theorem iCheckW : ∀ (t : GTerm) (n nodes : Nat), tms t ≤ 1099511627776 → n + 2 * tms t ≤ 35184372088832 → nodes ≤ 400 → impl_check_Kimpl_writtenSize_c1_Kimpl_isWrittenType (t, (n : Int), (nodes : Int)) = some (chkI (tOk (gN 16 false) wtB n t) nodes (tsz t))
  | ⟨op, N, ty, ks⟩, n, nodes, ht, hn, hd => by
    rw [tms] at ht hn
    rw [impl_check_Kimpl_writtenSize_c1_Kimpl_isWrittenType.eq_def, tOk, tsz]
    simp only
    rw [iForm, bs]
    unfold formG
    cases hop : inB op 0 12
    · simp [nodeOk, hop, chkI]
    · simp only [if_true]
      rw [wr_succ (by omega)]
      by_cases h4 : nodes + 1 ≤ 400
      · rw [decide_eq_false (by omega : ¬ ((nodes + 1 : Nat) : Int) > 400)]
        by_cases hk : (ks.length : Int) = manyI op
        · rw [show ((ks.length : Int) != manyI op) = false by rw [hk]; exact bne_self]
          simp only [Bool.false_eq_true, if_false, bs]
          refine (bind_of (x := nOkN (gN 16 false) (n : Int) ⟨op, N, ty, ks⟩) ?_).trans ?_
          · unfold nOkN
            simp only [iIn, wr_id (x := (n : Int) - 1) (by omega) (by omega), iWs, bs]
            cases op == 0 <;> cases op == 1 <;> cases hasG op <;> rfl
          refine (bind_of (x := nOkN (gN 16 false) (n : Int) ⟨op, N, ty, ks⟩ && nOkY wtB ⟨op, N, ty, ks⟩) ?_).trans ?_
          · unfold nOkY
            simp only [iType ty (by omega), bs]
            cases typedG op <;> cases nOkN (gN 16 false) (n : Int) ⟨op, N, ty, ks⟩ <;> rfl
          have e : nodeOk (gN 16 false) wtB (n : Int) ⟨op, N, ty, ks⟩ = (nOkN (gN 16 false) (n : Int) ⟨op, N, ty, ks⟩ && nOkY wtB ⟨op, N, ty, ks⟩) := by
            unfold nodeOk
            simp only
            rw [hop, hk]; simp
          rw [e]
          cases nOkN (gN 16 false) (n : Int) ⟨op, N, ty, ks⟩ && nOkY wtB ⟨op, N, ty, ks⟩
          · simp [chkI]
          · have h := iCheckW_l0 ks ⟨op, N, ty, ks⟩ n (nodes + 1) 0 rfl (by simp only; omega) (by omega) (by omega) h4
            rw [if_pos rfl, show (0 : Int) = ((0 : Nat) : Int) from rfl, h]
            simp only [Bool.true_and]
            unfold chkI
            rw [show nodes + (1 + tszs ks) = nodes + 1 + tszs ks by omega]
            cases tOks (gN 16 false) wtB op n 0 ks && decide (nodes + 1 + tszs ks ≤ 400) <;> rfl
        · rw [show ((ks.length : Int) != manyI op) = true by simpa using hk]
          have e : nodeOk (gN 16 false) wtB (n : Int) ⟨op, N, ty, ks⟩ = false := by
            unfold nodeOk
            simp only
            rw [show ((ks.length : Int) == manyI op) = false by simpa using hk]; simp
          simp [e, chkI]
      · rw [decide_eq_true (by omega : ((nodes + 1 : Nat) : Int) > 400)]
        have : ¬ nodes + (1 + tszs ks) ≤ 400 := by omega
        simp [chkI, this]
theorem iCheckW_l0 : ∀ (ks : List GTerm) (t : GTerm) (n nodes i : Nat), t.fKids.drop i = ks → t.fKids.length ≤ 1099511627776 → tmss ks ≤ 1099511627776 → n + 2 * (ks.length + tmss ks) ≤ 35184372088832 → nodes ≤ 400 →
    impl_check_Kimpl_writtenSize_c1_Kimpl_isWrittenType_l0 (t, (n : Int), (nodes : Int), (i : Int)) = some (if tOks (gN 16 false) wtB t.fOp n i ks && decide (nodes + tszs ks ≤ 400) then .inl ((nodes + tszs ks : Nat) : Int) else .inr 401)
  | [], t, n, nodes, i, hd, hk, ht, hn, h4 => by
    rw [impl_check_Kimpl_writtenSize_c1_Kimpl_isWrittenType_l0.eq_def, tOks, tszs]
    simp only
    rw [lt_f (drop_nil_le hd)]
    simp [h4]
  | k :: ks, t, n, nodes, i, hd, hk, ht, hn, h4 => by
    obtain ⟨hi, hx, hd'⟩ := drop_cons_get hd
    rw [tmss] at ht hn
    rw [List.length_cons] at hn
    have ha := addsI_le t.fOp (i : Int)
    rw [impl_check_Kimpl_writtenSize_c1_Kimpl_isWrittenType_l0.eq_def, tOks, tszs]
    simp only
    rw [lt_t hi, if_pos rfl, hx, bs, iAdds, bs, wr_id (by omega) (by omega), show (n : Int) + ((addsI t.fOp (i : Int) : Nat) : Int) = ((n + addsI t.fOp (i : Int) : Nat) : Int) by omega]
    rw [iCheckW k (n + addsI t.fOp (i : Int)) nodes (by omega) (by omega) h4, bs, wr_succ (by omega)]
    unfold chkI
    cases tOk (gN 16 false) wtB (n + addsI t.fOp (i : Int)) k
    · rfl
    · by_cases q : nodes + tsz k ≤ 400
      · rw [decide_eq_true q, Bool.true_and, if_pos rfl, decide_eq_false (by omega : ¬ ((nodes + tsz k : Nat) : Int) > 400), if_neg (by decide), iCheckW_l0 ks t n (nodes + tsz k) (i + 1) hd' hk (by omega) (by omega) q, Nat.add_assoc, Bool.true_and]
      · rw [decide_eq_false q, decide_eq_false (by omega : ¬ nodes + (tsz k + tszs ks) ≤ 400)]
        simp
end
theorem yN16 (ty : List Int) : yN 16 false ty = wtB ty := by
  unfold yN
  have : ty.all (gokC 16 false) = true := by rw [List.all_eq_true]; intro x _; exact gok16 x
  rw [this, Bool.and_true]
/-- A written term. -/
def wB (t : GTerm) : Bool := tOk (gN 16 false) wtB 8 t && decide (tsz t ≤ 400)
theorem iWsize (t : GTerm) (ht : tms t ≤ 1099511627776) : impl_writtenSize t = some (chkI (tOk (gN 16 false) wtB 8 t) 0 (tsz t)) := by
  unfold impl_writtenSize
  have := iCheckW t 8 0 ht (by omega) (by omega)
  rw [show ((8 : Nat) : Int) = 8 from rfl, show ((0 : Nat) : Int) = 0 from rfl] at this
  rw [this, bs]
theorem iWritten (t : GTerm) (ht : tms t ≤ 1099511627776) : impl_IsWritten t = some (wB t) := by
  unfold impl_IsWritten
  rw [iWsize t ht, bs]
  unfold chkI wB
  rw [Nat.zero_add]
  congr 1
  cases h : tOk (gN 16 false) wtB 8 t && decide (tsz t ≤ 400)
  · rfl
  · simp only [Bool.and_eq_true, decide_eq_true_eq] at h
    rw [if_pos rfl, decide_eq_true (by omega)]
theorem sWritten (t : GTerm) (ht : tms t ≤ 1099511627776) : spec_IsWritten t = some (wB t) := by
  unfold spec_IsWritten wB
  have h1 := sLeft t 400 ht (by omega)
  have h2 := sTerm 16 false t 8 ht (by omega)
  rw [show ((400 : Nat) : Int) = 400 from rfl] at h1
  rw [show ((8 : Nat) : Int) = 8 from rfl, show yN 16 false = wtB from funext yN16] at h2
  rw [h1, bs, h2]
  unfold leftI
  by_cases q : tsz t ≤ 400
  · rw [if_pos q, decide_eq_true (by omega : (((400 - tsz t : Nat)) : Int) ≥ 0), decide_eq_true q, Bool.and_true]; rfl
  · rw [if_neg q, decide_eq_false q, Bool.and_false]; rfl
/-- What is left of a measure. -/
def szB (left : Int) (n : Nat) : Int := if left - (n : Int) < 0 then -1 else left - (n : Int)
theorem szB_cases (left : Int) (n : Nat) : (szB left n = -1 ∧ left < n) ∨ (szB left n = left - n ∧ (n : Int) ≤ left) := by
  unfold szB
  by_cases h : left - (n : Int) < 0
  · rw [if_pos h]; left; omega
  · rw [if_neg h]; right; omega
theorem szIntS_eq (a : List Int) (left : Int) (h1 : 0 ≤ left) (h2 : left ≤ 1048576) (ha : a.length ≤ 9223372036854775807) : laws_szIntS (a, left) = some (szB left a.length) := by
  unfold laws_szIntS szB
  simp only
  rw [wr_id (by omega) (by omega)]
  by_cases h : left - (a.length : Int) < 0
  · rw [decide_eq_true h, if_pos rfl, if_pos h]
  · rw [decide_eq_false h, if_neg (by decide), if_neg h]
mutual
/-- All rows are of a length that a machine can bear. -/
def tln : GTerm → Prop
  | ⟨_, N, ty, ks⟩ => ty.length ≤ 9223372036854775807 ∧ ks.length ≤ 9223372036854775807 ∧ tlns ks ∧ (-9223372036854775808 ≤ N ∧ N ≤ 9223372036854775807)
def tlns : List GTerm → Prop
  | [] => True
  | k :: ks => tln k ∧ tlns ks
end
mutual
theorem szTerm_eq : ∀ (t : GTerm) (left : Int), tln t → 0 ≤ left → left ≤ 1048576 → laws_szTerm (t, left) = some (szB left (tms t))
  | ⟨op, N, ty, ks⟩, left, hl, h1, h2 => by
    rw [tln] at hl
    rw [laws_szTerm.eq_def, tms]
    simp only
    rw [szIntS_eq ty left h1 h2 hl.1, bs]
    rcases szB_cases left ty.length with ⟨e, h⟩ | ⟨e, h⟩
    · rw [e, decide_eq_true (by decide), if_pos rfl]
      unfold szB; rw [if_pos (by omega)]
    · rw [e, decide_eq_false (by omega), if_neg (by decide), laws_szTermS.eq_def]
      simp only
      rw [wr_id (by omega) (by omega)]
      by_cases h3 : left - (ty.length : Int) - (ks.length : Int) < 0
      · rw [decide_eq_true h3, if_pos rfl, bs, decide_eq_true (by decide), if_pos rfl]
        unfold szB; rw [if_pos (by omega)]
      · obtain ⟨m, hm⟩ : ∃ m : Nat, left - (ty.length : Int) - (ks.length : Int) = (m : Int) := ⟨(left - (ty.length : Int) - (ks.length : Int)).toNat, by omega⟩
        rw [decide_eq_false h3, if_neg (by decide), hm, show (0 : Int) = ((0 : Nat) : Int) from rfl, szTermS_l0 ks ks 0 m rfl hl.2.1 hl.2.2.1 (by omega), bs]
        unfold szB
        by_cases q : m < tmss ks
        · rw [if_pos q, if_pos (by omega)]; rfl
        · rw [if_neg q, if_neg (by omega)]
          simp only [bs]
          rw [decide_eq_false (by omega), if_neg (by decide)]; congr 1; omega
theorem szTermS_l0 : ∀ (ks a : List GTerm) (i left : Nat), a.drop i = ks → a.length ≤ 9223372036854775807 → tlns ks → left ≤ 1048576 → laws_szTermS_l0 (a, (left : Int), (i : Int)) = some (if left < tmss ks then .inr (-1) else .inl ((left - tmss ks : Nat) : Int))
  | [], a, i, left, hd, ha, hl, h => by
    rw [laws_szTermS_l0.eq_def, tmss]
    simp only
    rw [lt_f (drop_nil_le hd)]
    simp
  | k :: ks, a, i, left, hd, ha, hl, h => by
    obtain ⟨hi, hx, hd'⟩ := drop_cons_get hd
    rw [tlns] at hl
    rw [laws_szTermS_l0.eq_def, tmss]
    simp only
    rw [lt_t hi, if_pos rfl, hx, bs, szTerm_eq k left hl.1 (by omega) (by omega), bs, wr_succ (by omega)]
    rcases szB_cases left (tms k) with ⟨e, q⟩ | ⟨e, q⟩
    · rw [e, decide_eq_true (by decide), if_pos rfl, if_pos (by omega)]
    · rw [e, decide_eq_false (by omega), if_neg (by decide), show (left : Int) - ((tms k : Nat) : Int) = ((left - tms k : Nat) : Int) by omega, szTermS_l0 ks a (i + 1) (left - tms k) hd' ha hl.2 (by omega)]
      by_cases q2 : left - tms k < tmss ks
      · rw [if_pos q2, if_pos (by omega)]
      · rw [if_neg q2, if_neg (by omega)]; congr 3; omega
end
mutual
theorem toTerm_id : ∀ (t : GTerm), tms t ≤ 1099511627776 → laws_toTerm t = some t
  | ⟨op, N, ty, ks⟩, h => by
    rw [tms] at h
    rw [laws_toTerm.eq_def]
    simp only
    rw [toIntS_id ty (by omega), bs, laws_toTermS.eq_def]
    have : chk (0 ≤ (ks.length : Int) ∧ (Int.toNat (ks.length : Int)) * 64 ≤ 140737488355328) = some () := by
      unfold chk; rw [if_pos]; refine ⟨by omega, ?_⟩; rw [Int.toNat_natCast]; omega
    rw [this, bs, Int.toNat_natCast, show (0 : Int) = ((0 : Nat) : Int) from rfl, toTermS_l0 ks ks (List.replicate ks.length (GTerm.mk ((0 : Nat) : Int) ((0 : Nat) : Int) [] [])) 0 rfl (by omega) (by omega) (by simp) rfl]
    rfl
theorem toTermS_l0 : ∀ (ks a out : List GTerm) (i : Nat), a.drop i = ks → a.length ≤ 1099511627776 → tmss ks ≤ 1099511627776 → out.length = a.length → out.take i = a.take i → laws_toTermS_l0 (a, out, (i : Int)) = some a
  | [], a, out, i, hd, ha, hl, ho, ht => by
    rw [laws_toTermS_l0.eq_def]
    simp only
    have hle := drop_nil_le hd
    rw [lt_f hle]
    rw [List.take_of_length_le (by omega), List.take_of_length_le (by omega)] at ht
    simp [ht]
  | k :: ks, a, out, i, hd, ha, hl, ho, ht => by
    obtain ⟨hi, hx, hd'⟩ := drop_cons_get hd
    have hk : a[i] = k := by rw [idx_get hi] at hx; exact Option.some.inj hx
    rw [tmss] at hl
    rw [laws_toTermS_l0.eq_def]
    simp only
    rw [lt_t hi, if_pos rfl, hx, bs, toTerm_id k (by omega), bs, idx_get (by omega), bs, wr_succ (by omega), Int.toNat_natCast]
    exact toTermS_l0 ks a _ (i + 1) hd' ha (by omega) (by simpa using ho) (by rw [← hk]; exact take_set_succ ho hi ht)
end
mutual
theorem eqTerm_refl : ∀ (t : GTerm), tms t ≤ 1099511627776 → laws_eqTerm (t, t) = some true
  | ⟨op, N, ty, ks⟩, h => by
    rw [tms] at h
    rw [laws_eqTerm.eq_def]
    simp only
    rw [bne_self, if_neg (by decide), bne_self, if_neg (by decide), eqIntS_refl ty (by omega), bs, if_pos rfl, laws_eqTermS.eq_def]
    simp only
    rw [bne_self, if_neg (by decide), show (0 : Int) = ((0 : Nat) : Int) from rfl, eqTermS_l0 ks ks 0 rfl (by omega) (by omega)]
    rfl
theorem eqTermS_l0 : ∀ (ks a : List GTerm) (i : Nat), a.drop i = ks → a.length ≤ 1099511627776 → tmss ks ≤ 1099511627776 → laws_eqTermS_l0 (a, a, (i : Int)) = some (.inl ())
  | [], a, i, hd, ha, hl => by
    rw [laws_eqTermS_l0.eq_def]
    simp only
    rw [lt_f (drop_nil_le hd)]
    rfl
  | k :: ks, a, i, hd, ha, hl => by
    obtain ⟨hi, hx, hd'⟩ := drop_cons_get hd
    rw [tmss] at hl
    rw [laws_eqTermS_l0.eq_def]
    simp only
    rw [lt_t hi, if_pos rfl, hx, bs, bs, eqTerm_refl k (by omega), bs, if_pos rfl, wr_succ (by omega)]
    exact eqTermS_l0 ks a (i + 1) hd' ha (by omega)
end
theorem skip_codes (l : List Int) : ∀ (m : Nat), skip m l = some [] → ∀ c ∈ l, 0 ≤ c ∧ c ≤ 36 := by
  induction l with
  | nil => intro m h c hc; cases hc
  | cons x l ih =>
    intro m h c hc
    cases m with
    | zero => rw [skip_zero] at h; cases h
    | succ m =>
      rw [skip_cons] at h
      by_cases hk : kidsC x = -1
      · rw [if_pos hk] at h; cases h
      · rw [if_neg hk] at h
        rcases List.mem_cons.1 hc with rfl | hc
        · rcases kidsC_cases c with q | q | q | q <;> omega
        · exact ih _ h c hc
theorem wtB_codes {ty : List Int} (h : wtB ty = true) : ∀ c ∈ ty, 0 ≤ c ∧ c ≤ 36 := by
  unfold wtB at h
  rw [Bool.and_eq_true, beq_iff_eq] at h
  exact skip_codes ty 1 h.2
theorem wtB_len {ty : List Int} (h : wtB ty = true) : ty.length ≤ 40 := by
  unfold wtB at h
  rw [Bool.and_eq_true, decide_eq_true_eq] at h
  exact h.1
def cntO : List Int → Nat
  | [] => 0
  | c :: l => (if 35 ≤ c then 1 else 0) + cntO l
theorem cntO_le (l : List Int) : cntO l ≤ l.length := by
  induction l with
  | nil => simp [cntO]
  | cons c l ih => rw [cntO, List.length_cons]; split <;> omega
mutual
def opn : GTerm → Nat
  | ⟨op, N, ty, ks⟩ => (if hasG op && decide (N < 0) then 1 else 0) + cntO ty + opns ks
def opns : List GTerm → Nat
  | [] => 0
  | k :: ks => opn k + opns ks
end
mutual
theorem opn_le : ∀ (t : GTerm), opn t ≤ 1 + tms t
  | ⟨op, N, ty, ks⟩ => by
    rw [opn, tms]
    have := cntO_le ty
    have := opns_le ks
    split <;> omega
theorem opns_le : ∀ (ks : List GTerm), opns ks ≤ ks.length + tmss ks
  | [] => by simp [opns]
  | k :: ks => by
    rw [opns, tmss, List.length_cons]
    have := opn_le k
    have := opns_le ks
    omega
end
theorem sCount_l0 (t : GTerm) (hty : t.fType.length ≤ 1099511627776) : ∀ (l : List Int) (i n : Nat), t.fType.drop i = l → n ≤ 1 + i → spec_l9Count_l0 (t, (n : Int), (i : Int)) = some (((n + cntO l : Nat)) : Int) := by
  intro l
  induction l with
  | nil =>
    intro i n hd hn
    rw [spec_l9Count_l0.eq_def, cntO]
    simp only
    rw [lt_f (drop_nil_le hd)]; rfl
  | cons c l ih =>
    intro i n hd hn
    obtain ⟨hi, hx, hd'⟩ := drop_cons_get hd
    rw [spec_l9Count_l0.eq_def, cntO]
    simp only
    rw [lt_t hi, if_pos rfl, hx, bs, wr_succ (n := n) (by omega), wr_succ (n := i) (by omega)]
    by_cases h : 35 ≤ c
    · rw [decide_eq_true (by omega : c ≥ 35), if_pos rfl, bs, ih (i + 1) (n + 1) hd' (by omega), if_pos h, show n + 1 + cntO l = n + (1 + cntO l) by omega]
    · rw [decide_eq_false (by omega : ¬ c ≥ 35), if_neg (by decide), bs, ih (i + 1) n hd' (by omega), if_neg h, show n + cntO l = n + (0 + cntO l) by omega]
theorem iOpenCode (c : Int) (h : c ≤ 36) : impl_openCode c = some (decide (35 ≤ c)) := by
  unfold impl_openCode
  by_cases h1 : c = 35
  · subst h1; rfl
  · by_cases h2 : c = 36
    · subst h2; rfl
    · rw [show (c == 35) = false by simpa using h1, show (c == 36) = false by simpa using h2, decide_eq_false (by omega)]; rfl
theorem iCount_l0 (t : GTerm) (hty : t.fType.length ≤ 1099511627776) : ∀ (l : List Int) (i n : Nat), t.fType.drop i = l → (∀ c ∈ l, c ≤ 36) → n ≤ 1 + i → impl_countOpen_l0 (t, (n : Int), (i : Int)) = some (((n + cntO l : Nat)) : Int) := by
  intro l
  induction l with
  | nil =>
    intro i n hd hc hn
    rw [impl_countOpen_l0.eq_def, cntO]
    simp only
    rw [lt_f (drop_nil_le hd)]; rfl
  | cons c l ih =>
    intro i n hd hc hn
    obtain ⟨hi, hx, hd'⟩ := drop_cons_get hd
    rw [impl_countOpen_l0.eq_def, cntO]
    simp only
    rw [lt_t hi, if_pos rfl, hx, bs, iOpenCode c (hc c List.mem_cons_self), bs, wr_succ (n := n) (by omega), wr_succ (n := i) (by omega)]
    have hc' : ∀ c ∈ l, c ≤ 36 := fun x hx => hc x (List.mem_cons_of_mem _ hx)
    by_cases h : 35 ≤ c
    · rw [decide_eq_true h, if_pos rfl, bs, ih (i + 1) (n + 1) hd' hc' (by omega), if_pos h, show n + 1 + cntO l = n + (1 + cntO l) by omega]
    · rw [decide_eq_false h, if_neg (by decide), bs, ih (i + 1) n hd' hc' (by omega), if_neg h, show n + cntO l = n + (0 + cntO l) by omega]
mutual
theorem sCount : ∀ (t : GTerm), tms t ≤ 1099511627776 → spec_l9Count t = some ((opn t : Nat) : Int)
  | ⟨op, N, ty, ks⟩, ht => by
    rw [tms] at ht
    rw [spec_l9Count.eq_def, opn]
    simp only
    have hc := cntO_le ty
    have ho := opns_le ks
    refine (bind_of (x := hasG op && decide (N < 0)) ?_).trans ?_
    · rw [sHas, bs]; cases hasG op <;> rfl
    generalize (hasG op && decide (N < 0)) = b
    refine (bind_of (x := (((if b then 1 else 0) : Nat) : Int)) ?_).trans ?_
    · cases b <;> rfl
    have h1 := sCount_l0 ⟨op, N, ty, ks⟩ (by simp only; omega) ty 0 (if b then 1 else 0) rfl (by split <;> omega)
    have h2 := sCount_l1 ks ⟨op, N, ty, ks⟩ 0 ((if b then 1 else 0) + cntO ty) rfl (by simp only; omega) (by omega) (by split <;> omega)
    rw [show (0 : Int) = ((0 : Nat) : Int) from rfl, h1, bs, h2, bs]
theorem sCount_l1 : ∀ (ks : List GTerm) (t : GTerm) (i n : Nat), t.fKids.drop i = ks → t.fKids.length ≤ 1099511627776 → ks.length + tmss ks ≤ 1099511627776 → n + ks.length + tmss ks ≤ 35184372088832 → spec_l9Count_l1 (t, (n : Int), (i : Int)) = some (((n + opns ks : Nat)) : Int)
  | [], t, i, n, hd, hk, ht, hn => by
    rw [spec_l9Count_l1.eq_def, opns]
    simp only
    rw [lt_f (drop_nil_le hd)]; rfl
  | k :: ks, t, i, n, hd, hk, ht, hn => by
    obtain ⟨hi, hx, hd'⟩ := drop_cons_get hd
    rw [tmss, List.length_cons] at ht hn
    have ho := opn_le k
    rw [spec_l9Count_l1.eq_def, opns]
    simp only
    rw [lt_t hi, if_pos rfl, hx, bs, sCount k (by omega), bs, wr_succ (by omega), wr_id (by omega) (by omega), show (n : Int) + ((opn k : Nat) : Int) = ((n + opn k : Nat) : Int) by omega, sCount_l1 ks t (i + 1) (n + opn k) hd' hk (by omega) (by omega), Nat.add_assoc]
end
theorem tOk_node {g : Int → Bool} {y : List Int → Bool} {n : Nat} {t : GTerm} (h : tOk g y n t = true) : nodeOk g y (n : Int) t = true ∧ tOks g y t.fOp n 0 t.fKids = true := by
  rw [tOk_eq, Bool.and_eq_true] at h; exact h
theorem nodeOk_ty {g : Int → Bool} {n : Int} {t : GTerm} (h : nodeOk g wtB n t = true) : (∀ c ∈ t.fType, 0 ≤ c ∧ c ≤ 36) ∧ t.fType.length ≤ 40 := by
  unfold nodeOk nOkY at h
  rw [Bool.and_eq_true] at h
  have h := h.2
  cases hq : typedG t.fOp
  · rw [hq] at h
    simp at h
    rw [h]; simp
  · rw [hq, if_pos rfl] at h
    exact ⟨wtB_codes h, wtB_len h⟩
mutual
theorem iCount (g : Int → Bool) : ∀ (t : GTerm) (m : Nat), tms t ≤ 1099511627776 → tOk g wtB m t = true → impl_countOpen t = some ((opn t : Nat) : Int)
  | ⟨op, N, ty, ks⟩, m, ht, hw => by
    obtain ⟨hw1, hw2⟩ := tOk_node hw
    have hty := (nodeOk_ty hw1).1
    rw [tms] at ht
    rw [impl_countOpen.eq_def, opn]
    simp only
    have hc := cntO_le ty
    have ho := opns_le ks
    have hf : ∃ f, impl_formOf op = some f ∧ f.1.fgrade = hasG op := by
      refine ⟨_, iForm op, ?_⟩
      unfold formG
      have : inB op 0 12 = true := by unfold nodeOk at hw1; simp only [Bool.and_eq_true] at hw1; exact hw1.1.1.1
      rw [this]; rfl
    obtain ⟨⟨f1, f2⟩, hf, hfg⟩ := hf
    rw [hf, bs]
    simp only at hfg ⊢
    refine (bind_of (x := hasG op && decide (N < 0)) ?_).trans ?_
    · rw [hfg]; cases hasG op <;> rfl
    generalize (hasG op && decide (N < 0)) = b
    refine (bind_of (x := (((if b then 1 else 0) : Nat) : Int)) ?_).trans ?_
    · cases b <;> rfl
    have h1 := iCount_l0 ⟨op, N, ty, ks⟩ (by simp only; omega) ty 0 (if b then 1 else 0) rfl (fun c hc => (hty c hc).2) (by split <;> omega)
    have h2 := iCount_l1 g ks ⟨op, N, ty, ks⟩ 0 ((if b then 1 else 0) + cntO ty) m rfl (by simp only; omega) (by omega) (by split <;> omega) hw2
    rw [show (0 : Int) = ((0 : Nat) : Int) from rfl, h1, bs, h2, bs]
theorem iCount_l1 (g : Int → Bool) : ∀ (ks : List GTerm) (t : GTerm) (i n m : Nat), t.fKids.drop i = ks → t.fKids.length ≤ 1099511627776 → ks.length + tmss ks ≤ 1099511627776 → n + ks.length + tmss ks ≤ 35184372088832 → tOks g wtB t.fOp m i ks = true →
    impl_countOpen_l1 (t, (n : Int), (i : Int)) = some (((n + opns ks : Nat)) : Int)
  | [], t, i, n, m, hd, hk, ht, hn, hw => by
    rw [impl_countOpen_l1.eq_def, opns]
    simp only
    rw [lt_f (drop_nil_le hd)]; rfl
  | k :: ks, t, i, n, m, hd, hk, ht, hn, hw => by
    obtain ⟨hi, hx, hd'⟩ := drop_cons_get hd
    rw [tmss, List.length_cons] at ht hn
    rw [tOks, Bool.and_eq_true] at hw
    have ho := opn_le k
    rw [impl_countOpen_l1.eq_def, opns]
    simp only
    rw [lt_t hi, if_pos rfl, hx, bs, iCount g k _ (by omega) hw.1, bs, wr_succ (by omega), wr_id (by omega) (by omega), show (n : Int) + ((opn k : Nat) : Int) = ((n + opn k : Nat) : Int) by omega, iCount_l1 g ks t (i + 1) (n + opn k) m hd' hk (by omega) (by omega) hw.2, Nat.add_assoc]
end
theorem fits_ok {n b : Nat} (h : n * b ≤ 140737488355328) : fits n b = some () := by unfold fits chk; rw [if_pos h]
theorem nodeOk_many {g : Int → Bool} {y : List Int → Bool} {n : Int} {t : GTerm} (h : nodeOk g y n t = true) : inB t.fOp 0 12 = true ∧ (t.fKids.length : Int) = manyI t.fOp := by
  unfold nodeOk at h
  simp only [Bool.and_eq_true, beq_iff_eq] at h
  exact ⟨h.1.1.1, h.1.1.2⟩
theorem iCopy (l : List Int) (h : l.length ≤ 1099511627776) : slices_Clone_int l = some l := by
  unfold slices_Clone_int
  rw [fits_ok (by simp only [List.length_nil]; omega), bs]
inductive Ty where
  | num
  | bin (c : Int) (a b : Ty)
  | un (c : Int) (a : Ty)
namespace Ty
def code : Ty → List Int
  | num => [0]
  | bin c a b => c :: (a.code ++ b.code)
  | un c a => c :: a.code
def ok : Ty → Prop
  | num => True
  | bin c a b => kidsC c = 2 ∧ a.ok ∧ b.ok
  | un c a => kidsC c = 1 ∧ a.ok
def hd : Ty → Int
  | num => 0
  | bin c _ _ => c
  | un c _ => c
end Ty
theorem cut_end {α : Type} (p q : List α) : cut (p ++ q) (some (p.length : Int)) none none = some q := by
  unfold cut
  rw [if_pos]
  · simp only [Option.getD_some, Option.getD_none, Int.toNat_natCast, List.take_length, List.drop_left]
  · simp only [Option.getD_some, Option.getD_none, List.length_append]; omega
theorem idx0 {α : Type} (x : α) (l : List α) : idx (x :: l) 0 = some x := rfl
theorem wB_of {t : GTerm} (h : wB t = true) : tOk (gN 16 false) wtB 8 t = true ∧ tsz t ≤ 400 := by
  unfold wB at h
  rw [Bool.and_eq_true, decide_eq_true_eq] at h
  exact h
theorem markI_l0 : ∀ (l a : List Int) (i k : Nat), a.drop i = l → a.length ≤ 1099511627776 → k + l.length ≤ 1152921504606846976 + 1099511627776 →
    ∃ M, laws_markIntS_l0 (a, (k : Int), (i : Int)) = some (((k + l.length : Nat) : Int), M) ∧ M.length = a.length ∧ M.take i = a.take i ∧ M.drop i = (List.range' k l.length).map (fun n : Nat => (n : Int)) := by
  intro l
  induction l with
  | nil =>
    intro a i k hd ha hk
    rw [laws_markIntS_l0.eq_def]
    simp only
    rw [lt_f (drop_nil_le hd)]
    exact ⟨a, by simp, rfl, rfl, by rw [hd]; rfl⟩
  | cons x l ih =>
    intro a i k hd ha hk
    obtain ⟨hi, hx, hd'⟩ := drop_cons_get hd
    have hl : (x :: l).length ≤ 1099511627776 := by rw [← hd, List.length_drop]; omega
    rw [List.length_cons] at hl hk
    rw [laws_markIntS_l0.eq_def]
    simp only
    rw [lt_t hi, if_pos rfl, hx, bs, Int.toNat_natCast, wr_succ (by omega), wr_succ (by omega)]
    obtain ⟨M, h1, h2, h3, h4⟩ := ih (a.set i (k : Int)) (i + 1) (k + 1) (by rw [List.drop_set_of_lt (by omega)]; exact hd') (by simpa using ha) (by omega)
    have hMl : i < M.length := by rw [h2, List.length_set]; exact hi
    have hMi : M[i] = (k : Int) := by
      have := congrArg (fun l => l[i]?) h3
      simp only [List.getElem?_take] at this
      rw [if_pos (by omega), if_pos (by omega), List.getElem?_eq_getElem hMl, List.getElem?_set_self hi] at this
      exact Option.some.inj this
    refine ⟨M, by rw [h1, List.length_cons]; congr 3; omega, by simpa using h2, ?_, ?_⟩
    · have := congrArg (List.take i) h3
      rw [List.take_take, List.take_take, Nat.min_eq_left (by omega), List.take_set_of_le (Nat.le_refl i)] at this
      exact this
    · rw [List.drop_eq_getElem_cons hMl, h4, hMi, List.length_cons, List.range'_succ, List.map_cons]
theorem markI (a : List Int) (k : Nat) (ha : a.length ≤ 1099511627776) (hk : k ≤ 1152921504606846976) :
    laws_markIntS (a, (k : Int)) = some (((k + a.length : Nat) : Int), (List.range' k a.length).map (fun n : Nat => (n : Int))) := by
  unfold laws_markIntS
  simp only
  obtain ⟨M, h1, h2, h3, h4⟩ := markI_l0 a a 0 k rfl ha (by omega)
  rw [List.drop_zero] at h4
  rw [show (0 : Int) = ((0 : Nat) : Int) from rfl, h1, bs, h4]
theorem heldI_l0 (m : Nat) : ∀ (n k i : Nat) (a : List Int), a.length ≤ 1099511627776 → a.drop i = (List.range' k n).map (fun n : Nat => (n : Int)) → k + n ≤ 1152921504606846976 + 1099511627776 → laws_heldIntS_l0 (a, (k : Int), (i : Int)) = some (.inl ((k + n : Nat) : Int)) := by
  intro n
  induction n with
  | zero =>
    intro k i a ha hd hk
    rw [laws_heldIntS_l0.eq_def]
    simp only
    rw [lt_f (drop_nil_le hd)]; rfl
  | succ n ih =>
    intro k i a ha hd hk
    rw [List.range'_succ, List.map_cons] at hd
    obtain ⟨hi, hx, hd'⟩ := drop_cons_get hd
    rw [laws_heldIntS_l0.eq_def]
    simp only
    rw [lt_t hi, if_pos rfl, hx, bs, bne_self, if_neg (by decide), wr_succ (by omega), wr_succ (by omega), ih (k + 1) (i + 1) a ha hd' (by omega)]
    congr 3; omega
theorem heldI (n k : Nat) (hn : n ≤ 1099511627776) (hk : k ≤ 1152921504606846976) : laws_heldIntS ((List.range' k n).map (fun n : Nat => (n : Int)), (k : Int)) = some ((k + n : Nat) : Int) := by
  unfold laws_heldIntS
  simp only
  rw [show (0 : Int) = ((0 : Nat) : Int) from rfl, heldI_l0 0 n k 0 _ (by simpa using hn) (by rw [List.drop_zero]) (by omega), bs]
mutual
/-- How many numbers a mark lays into what a term leads to. -/
def mct : GTerm → Nat
  | ⟨_, _, ty, ks⟩ => ty.length + mcts ks
def mcts : List GTerm → Nat
  | [] => 0
  | k :: ks => 2 + mct k + mcts ks
end
mutual
theorem mct_le : ∀ (t : GTerm), mct t ≤ 2 * tms t
  | ⟨op, N, ty, ks⟩ => by rw [mct, tms]; have := mcts_le ks; omega
theorem mcts_le : ∀ (ks : List GTerm), mcts ks ≤ 2 * (ks.length + tmss ks)
  | [] => by simp [mcts]
  | k :: ks => by rw [mcts, tmss, List.length_cons]; have := mct_le k; have := mcts_le ks; omega
end
theorem set_set_same {α : Type} (l : List α) (i : Nat) (a b : α) : (l.set i a).set i b = l.set i b := List.set_set ..
theorem idx_set {α : Type} {l : List α} {i : Nat} (h : i < l.length) (a : α) : idx (l.set i a) (i : Int) = some a := by
  rw [idx_get (by simpa using h)]; simp
mutual
theorem markT : ∀ (t : GTerm) (k : Nat), tms t ≤ 1099511627776 → k + mct t ≤ 1152921504606846976 → ∃ ty ks, laws_markIntS (t.fType, (k : Int)) = some (((k + t.fType.length : Nat) : Int), ty) ∧ laws_markTermS (t.fKids, ((k + t.fType.length : Nat) : Int)) = some (((k + mct t : Nat) : Int), ks) ∧
    laws_heldIntS (ty, (k : Int)) = some ((k + t.fType.length : Nat) : Int) ∧ laws_heldTermS (ks, ((k + t.fType.length : Nat) : Int)) = some ((k + mct t : Nat) : Int) ∧ ks.length = t.fKids.length
  | ⟨op, N, ty, ks⟩, k, hm, hk => by
    rw [tms] at hm
    rw [mct] at hk ⊢
    simp only
    refine ⟨(List.range' k ty.length).map (fun n : Nat => (n : Int)), ?_⟩
    obtain ⟨M, h1, h2, h3, h4⟩ := markTs ks ks 0 (k + ty.length) rfl (by omega) (by omega) (by omega)
    refine ⟨M, markI ty k (by omega) (by omega), ?_, heldI ty.length k (by omega) (by omega), ?_, h2⟩
    · rw [laws_markTermS.eq_def]
      simp only
      rw [show (0 : Int) = ((0 : Nat) : Int) from rfl, h1, bs, Nat.add_assoc]
    · rw [laws_heldTermS.eq_def]
      simp only
      rw [show (0 : Int) = ((0 : Nat) : Int) from rfl, h4 M h2 rfl, bs, Nat.add_assoc]
theorem markTs : ∀ (ks a : List GTerm) (i k : Nat), a.drop i = ks → a.length ≤ 1099511627776 → tmss ks ≤ 1099511627776 → k + mcts ks ≤ 1152921504606846976 →
    ∃ M, laws_markTermS_l0 (a, (k : Int), (i : Int)) = some (((k + mcts ks : Nat) : Int), M) ∧ M.length = a.length ∧ M.take i = a.take i ∧ ∀ A : List GTerm, A.length = a.length → A.drop i = M.drop i → laws_heldTermS_l0 (A, (k : Int), (i : Int)) = some (.inl ((k + mcts ks : Nat) : Int))
  | [], a, i, k, hd, ha, hm, hk => by
    rw [laws_markTermS_l0.eq_def, mcts]
    simp only
    rw [lt_f (drop_nil_le hd)]
    refine ⟨a, rfl, rfl, rfl, fun A hA _ => ?_⟩
    rw [laws_heldTermS_l0.eq_def]
    simp only
    have := drop_nil_le hd
    rw [lt_f (by omega)]; rfl
  | x :: ks, a, i, k, hd, ha, hm, hk => by
    obtain ⟨hi, hx, hd'⟩ := drop_cons_get hd
    rw [tmss] at hm
    rw [mcts] at hk ⊢
    rw [laws_markTermS_l0.eq_def]
    simp only
    rw [lt_t hi, if_pos rfl, hx, bs, wr_succ (n := k) (by omega), wr_succ (n := k + 1) (by omega), Int.toNat_natCast]
    obtain ⟨ty, kk, m1, m2, m3, m4, m5⟩ := markT x (k + 1 + 1) (by omega) (by omega)
    simp only [set_set_same, idx_set hi, bs, m1, m2]
    rw [wr_succ (by omega)]
    obtain ⟨M, h1, h2, h3, h4⟩ := markTs ks (a.set i ⟨(k : Int), ((k + 1 : Nat) : Int), ty, kk⟩) (i + 1) (k + 1 + 1 + mct x) (by rw [List.drop_set_of_lt (by omega)]; exact hd') (by simpa using ha) (by omega) (by omega)
    have hMl : i < M.length := by rw [h2, List.length_set]; exact hi
    have hMi : M[i] = ⟨(k : Int), ((k + 1 : Nat) : Int), ty, kk⟩ := by
      have := congrArg (fun l => l[i]?) h3
      simp only [List.getElem?_take] at this
      rw [if_pos (by omega), if_pos (by omega), List.getElem?_eq_getElem hMl, List.getElem?_set_self hi] at this
      exact Option.some.inj this
    refine ⟨M, by rw [h1]; congr 3; omega, by simpa using h2, ?_, fun A hA hAd => ?_⟩
    · have := congrArg (List.take i) h3
      rw [List.take_take, List.take_take, Nat.min_eq_left (by omega), List.take_set_of_le (Nat.le_refl i)] at this
      exact this
    · rw [List.drop_eq_getElem_cons hMl, hMi] at hAd
      obtain ⟨qi, qx, qd⟩ := drop_cons_get hAd
      rw [laws_heldTermS_l0.eq_def]
      simp only
      rw [lt_t qi, if_pos rfl, qx, bs, wr_succ (n := k) (by omega), wr_succ (n := k + 1) (by omega)]
      simp only
      rw [bne_self, if_neg (by decide), bs]
      simp only
      rw [bne_self, if_neg (by decide), bs]
      simp only
      rw [m3, bs, decide_eq_false (by omega), if_neg (by decide), bs]
      simp only
      rw [m4, bs, decide_eq_false (by omega), if_neg (by decide), wr_succ (by omega), h4 A (by simpa using hA) qd]
      congr 3; omega
end
theorem markTerm_held (t : GTerm) (k : Nat) (hm : tms t ≤ 1099511627776) (hk : k ≤ 1000000000000000000) : ∃ M, laws_markTerm (t, (k : Int)) = some (((k + mct t : Nat) : Int), M) ∧ ∀ op N, laws_heldTerm (⟨op, N, M.fType, M.fKids⟩, (k : Int)) = some ((k + mct t : Nat) : Int) := by
  have hc := mct_le t
  obtain ⟨ty, ks, m1, m2, m3, m4, _⟩ := markT t k hm (by omega)
  unfold laws_markTerm
  simp only
  rw [m1, bs]
  simp only
  rw [m2, bs]
  refine ⟨_, rfl, fun op N => ?_⟩
  unfold laws_heldTerm
  simp only
  rw [m3, bs, decide_eq_false (by omega), if_neg (by decide), m4, bs, decide_eq_false (by omega), if_neg (by decide)]
mutual
theorem markT0 : ∀ (t : GTerm) (k : Nat), tms t ≤ 1099511627776 → k + mct t ≤ 1152921504606846976 → ∃ ks, laws_markTermS (t.fKids, ((k + t.fType.length : Nat) : Int)) = some (((k + mct t : Nat) : Int), ks)
  | ⟨op, N, ty, ks⟩, k, hm, hk => by
    rw [tms] at hm
    rw [mct] at hk ⊢
    simp only
    obtain ⟨M, h1⟩ := markTs0 ks ks 0 (k + ty.length) rfl (by omega) (by omega) (by omega)
    refine ⟨M, ?_⟩
    rw [laws_markTermS.eq_def]
    simp only
    rw [show (0 : Int) = ((0 : Nat) : Int) from rfl, h1, bs, Nat.add_assoc]
theorem markTs0 : ∀ (ks a : List GTerm) (i k : Nat), a.drop i = ks → a.length ≤ 1099511627776 → tmss ks ≤ 1099511627776 → k + mcts ks ≤ 1152921504606846976 →
    ∃ M, laws_markTermS_l0 (a, (k : Int), (i : Int)) = some (((k + mcts ks : Nat) : Int), M)
  | [], a, i, k, hd, ha, hm, hk => by
    rw [laws_markTermS_l0.eq_def, mcts]
    simp only
    rw [lt_f (drop_nil_le hd)]
    exact ⟨a, rfl⟩
  | x :: ks, a, i, k, hd, ha, hm, hk => by
    obtain ⟨hi, hx, hd'⟩ := drop_cons_get hd
    rw [tmss] at hm
    rw [mcts] at hk ⊢
    rw [laws_markTermS_l0.eq_def]
    simp only
    rw [lt_t hi, if_pos rfl, hx, bs, wr_succ (n := k) (by omega), wr_succ (n := k + 1) (by omega), Int.toNat_natCast]
    obtain ⟨kk, m2⟩ := markT0 x (k + 1 + 1) (by omega) (by omega)
    have m1 := markI x.fType (k + 1 + 1) (by have := tms_eq x; omega) (by omega)
    simp only [set_set_same, idx_set hi, bs, m1, m2]
    rw [wr_succ (by omega)]
    obtain ⟨M, h1⟩ := markTs0 ks (a.set i ⟨(k : Int), ((k + 1 : Nat) : Int), (List.range' (k + 1 + 1) x.fType.length).map (fun n : Nat => (n : Int)), kk⟩) (i + 1) (k + 1 + 1 + mct x) (by rw [List.drop_set_of_lt (by omega)]; exact hd') (by simpa using ha) (by omega) (by omega)
    exact ⟨M, by rw [h1]; congr 3; omega⟩
end
theorem markTerm_only (t : GTerm) (k : Nat) (hm : tms t ≤ 1099511627776) (hk : k ≤ 1000000000000000000) : ∃ M, laws_markTerm (t, (k : Int)) = some (((k + mct t : Nat) : Int), M) := by
  have hc := mct_le t
  obtain ⟨ks, m2⟩ := markT0 t k hm (by omega)
  unfold laws_markTerm
  simp only
  rw [markI t.fType k (by have := tms_eq t; omega) (by omega), bs]
  simp only
  rw [m2, bs]
  exact ⟨_, rfl⟩
def noT : GTerm := ⟨0, 0, [], []⟩
theorem beq_self_b (b : Bool) : (!(b == b)) = false := by cases b <;> rfl
theorem cut_tail {α : Type} (x : α) (l : List α) : cut (x :: l) (some 1) none none = some l := cut_end [x] l
theorem beq_self_t {a : Int} : (a == a) = true := by simp
def fc : List Int → List Int → List Int
  | [], _ => []
  | c :: cs, l => if 35 ≤ c then (if c = 35 then 3 + l.headD 0 else 19 + l.headD 0) :: fc cs (l.drop 1) else c :: fc cs l
theorem fc_length (cs : List Int) : ∀ l, (fc cs l).length = cs.length := by
  induction cs with
  | nil => intro l; rfl
  | cons c cs ih => intro l; rw [fc]; split <;> simp [ih]
mutual
def fil : GTerm → List Int → GTerm
  | ⟨op, N, ty, ks⟩, l => ⟨op, if hasG op && decide (N < 0) then l.headD 0 else N, fc ty (l.drop (if hasG op && decide (N < 0) then 1 else 0)), fils ks (l.drop ((if hasG op && decide (N < 0) then 1 else 0) + cntO ty))⟩
def fils : List GTerm → List Int → List GTerm
  | [], _ => []
  | k :: ks, l => fil k l :: fils ks (l.drop (opn k))
end
mutual
theorem fil_tms : ∀ (t : GTerm) (l : List Int), tms (fil t l) = tms t
  | ⟨op, N, ty, ks⟩, l => by rw [fil, tms, tms, fc_length, (fils_tms ks _).1, (fils_tms ks _).2]
theorem fils_tms : ∀ (ks : List GTerm) (l : List Int), tmss (fils ks l) = tmss ks ∧ (fils ks l).length = ks.length
  | [], l => ⟨by rw [fils], by rw [fils]⟩
  | k :: ks, l => by rw [fils, tmss, tmss, List.length_cons, List.length_cons, fil_tms k, (fils_tms ks _).1, (fils_tms ks _).2]; exact ⟨rfl, rfl⟩
end
def g15 (l : List Int) : Prop := ∀ g ∈ l, 0 ≤ g ∧ g ≤ 15
theorem g15_drop {l : List Int} (h : g15 l) (n : Nat) : g15 (l.drop n) := fun g hg => h g (List.mem_of_mem_drop hg)
theorem sFill_l0 (t : GTerm) (o : Int) (hty : t.fType.length ≤ 1099511627776) : ∀ (cs : List Int) (i : Nat) (l out : List Int), t.fType.drop i = cs → (∀ c ∈ cs, c ≤ 36) → cntO cs ≤ l.length → g15 l → out.length = i →
    spec_l9Fill_l0 (t, o, l, out, (i : Int)) = some (l.drop (cntO cs), out ++ fc cs l) := by
  intro cs
  induction cs with
  | nil =>
    intro i l out hd hc hl hg ho
    rw [spec_l9Fill_l0.eq_def, cntO, fc]
    simp only
    rw [lt_f (drop_nil_le hd)]; simp
  | cons c cs ih =>
    intro i l out hd hc hl hg ho
    obtain ⟨hi, hx, hd'⟩ := drop_cons_get hd
    have hc' : ∀ c ∈ cs, c ≤ 36 := fun x hx => hc x (List.mem_cons_of_mem _ hx)
    have hcc := hc c List.mem_cons_self
    rw [cntO] at hl
    rw [spec_l9Fill_l0.eq_def, cntO, fc]
    simp only
    rw [lt_t hi, if_pos rfl, hx, bs]
    by_cases h : 35 ≤ c
    · rw [if_pos h] at hl
      match l, hl, hg with
      | g :: l, hl, hg =>
        rw [List.length_cons] at hl
        have hg0 := hg g List.mem_cons_self
        have hgl : g15 l := fun x hx => hg x (List.mem_cons_of_mem _ hx)
        rw [if_pos h, if_pos h]
        refine (bind_of (x := (l, if c = 35 then 3 + g else 19 + g)) ?_).trans ?_
        · rw [decide_eq_true (by omega : c ≥ 35), if_pos rfl, idx0, bs, cut_tail]
          unfold spec_l2Code
          simp only
          rw [decide_eq_false (by omega : ¬ g < 0), wr_id (by omega) (by omega), wr_id (by omega) (by omega)]
          by_cases h35 : c = 35
          · subst h35; rfl
          · rw [beq_eq_false_iff_ne.2 h35, if_neg h35]; rfl
        · simp only
          rw [fits_ok (by simp only [List.length_singleton]; omega), bs, wr_succ (by omega), ih (i + 1) l _ hd' hc' (by omega) hgl (by simp [ho]), List.append_assoc]
          simp [Nat.add_comm 1]
      | [], hl, hg => simp only [List.length_nil] at hl; omega
    · rw [if_neg h] at hl
      rw [if_neg h, if_neg h]
      refine (bind_of (x := (l, c)) ?_).trans ?_
      · rw [decide_eq_false (by omega : ¬ c ≥ 35)]; rfl
      · simp only
        rw [fits_ok (by simp only [List.length_singleton]; omega), bs, wr_succ (by omega), ih (i + 1) l _ hd' hc' (by omega) hg (by simp [ho]), List.append_assoc, Nat.zero_add]; rfl
theorem iFill_l0 (t : GTerm) (o : Int) (r : List Int) (hr : r.length ≤ 1099511627776) : ∀ (cs : List Int) (i : Nat) (l out : List Int), out.drop i = cs → (∀ c ∈ cs, c ≤ 36) → cntO cs ≤ l.length → g15 l → out.length = r.length →
    impl_fill_l0 (t, r, o, l, out, (i : Int)) = some (l.drop (cntO cs), out.take i ++ fc cs l) := by
  intro cs
  induction cs with
  | nil =>
    intro i l out hd hc hl hg ho
    have := drop_nil_le hd
    rw [impl_fill_l0.eq_def, cntO, fc]
    simp only
    rw [lt_f (by omega), List.take_of_length_le this]; simp
  | cons c cs ih =>
    intro i l out hd hc hl hg ho
    obtain ⟨hi, hx, hd'⟩ := drop_cons_get hd
    have hc' : ∀ c ∈ cs, c ≤ 36 := fun x hx => hc x (List.mem_cons_of_mem _ hx)
    have hcc := hc c List.mem_cons_self
    rw [cntO] at hl
    rw [impl_fill_l0.eq_def, cntO, fc]
    simp only
    rw [lt_t (by omega), if_pos rfl, hx, bs]
    by_cases h : 35 ≤ c
    · rw [if_pos h] at hl
      match l, hl, hg with
      | g :: l, hl, hg =>
        rw [List.length_cons] at hl
        have hg0 := hg g List.mem_cons_self
        have hgl : g15 l := fun x hx => hg x (List.mem_cons_of_mem _ hx)
        rw [if_pos h, if_pos h]
        have hlen : i < (out.set i (if c = 35 then 3 + g else 19 + g)).length := by simpa using hi
        refine (bind_of (x := (l, out.set i (if c = 35 then 3 + g else 19 + g))) ?_).trans ?_
        · by_cases h35 : c = 35
          · subst h35
            simp only [bs, idx0, cut_tail, hx, Int.toNat_natCast]
            rw [wr_id (by omega) (by omega)]; rfl
          · have h36 : c = 36 := by omega
            subst h36
            simp only [bs, idx0, cut_tail, hx, Int.toNat_natCast]
            rw [wr_id (x := 19 + g) (by omega) (by omega)]; rfl
        · simp only
          rw [wr_succ (by omega), ih (i + 1) l _ (by rw [List.drop_set_of_lt (by omega)]; exact hd') hc' (by omega) hgl (by simpa using ho), List.take_succ_eq_append_getElem hlen, List.getElem_set_self, List.take_set_of_le (Nat.le_refl i), List.append_assoc]
          simp [Nat.add_comm 1]
      | [], hl, hg => simp only [List.length_nil] at hl; omega
    · rw [if_neg h] at hl
      rw [if_neg h, if_neg h]
      refine (bind_of (x := (l, out)) ?_).trans ?_
      · rw [beq_eq_false_iff_ne.2 (by omega : c ≠ 35), beq_eq_false_iff_ne.2 (by omega : c ≠ 36)]; rfl
      · simp only
        have hg' : out[i] = c := by rw [idx_get hi] at hx; exact Option.some.inj hx
        rw [wr_succ (by omega), ih (i + 1) l _ hd' hc' (by omega) hg ho, List.take_succ_eq_append_getElem hi, hg', List.append_assoc, Nat.zero_add]; rfl
mutual
theorem sFill (g : Int → Bool) : ∀ (t : GTerm) (m : Nat) (l : List Int), tOk g wtB m t = true → tms t ≤ 1099511627776 → opn t ≤ l.length → g15 l → spec_l9Fill (t, l) = some (fil t l, l.drop (opn t))
  | ⟨op, N, ty, ks⟩, m, l, hw, ht, hl, hg => by
    obtain ⟨hw1, hw2⟩ := tOk_node hw
    obtain ⟨hty, hty40⟩ := nodeOk_ty hw1
    have hop := (nodeOk_many hw1).1
    rw [tms] at ht
    rw [opn] at hl
    rw [spec_l9Fill.eq_def, fil, opn]
    simp only
    rw [sHas, bs]
    refine (bind_of (x := hasG op && decide (N < 0)) ?_).trans ?_
    · cases hasG op <;> rfl
    generalize hb : (hasG op && decide (N < 0)) = b at hl ⊢
    have hB : ∃ B : Nat, (if b = true then 1 else 0) = B ∧ B ≤ 1 := ⟨_, rfl, by split <;> omega⟩
    obtain ⟨B, hB, hB1⟩ := hB
    rw [hB] at hl
    refine (bind_of (x := (l.drop B, if b = true then l.headD 0 else N)) ?_).trans ?_
    · cases b
      · subst hB; rfl
      · subst hB
        match l, hl with
        | g :: l, hl => rw [if_pos rfl, idx0, bs, cut_tail]; rfl
        | [], hl => simp at hl
    rw [hB]
    generalize (if b = true then l.headD 0 else N) = o
    obtain ⟨l', hl'⟩ : ∃ l', l.drop B = l' := ⟨_, rfl⟩
    have hll : l'.length = l.length - B := by rw [← hl', List.length_drop]
    have h1 : spec_l9Fill_l0 (⟨op, N, ty, ks⟩, o, l', [], ((0 : Nat) : Int)) = some (l'.drop (cntO ty), fc ty l') := by
      have hgl : g15 l' := hl' ▸ g15_drop hg _
      have := sFill_l0 ⟨op, N, ty, ks⟩ o (by simp only; omega) ty 0 l' [] rfl (fun c hc => (hty c hc).2) (by omega) hgl rfl
      simpa using this
    have h2 := sFill_l1 g ks ⟨op, N, ty, ks⟩ 0 m o (fc ty l') (l'.drop (cntO ty)) [] rfl hw2 (by simp only; omega) (by omega) (by rw [List.length_drop]; omega) (g15_drop (hl' ▸ g15_drop hg _) _) rfl
    simp only
    rw [show (0 : Int) = ((0 : Nat) : Int) from rfl, hl', h1, bs]
    simp only
    rw [h2, bs, ← hl']
    simp only [List.drop_drop, List.nil_append, Nat.add_assoc]
theorem sFill_l1 (g : Int → Bool) : ∀ (ks : List GTerm) (t : GTerm) (i m : Nat) (o : Int) (r l : List Int) (out : List GTerm), t.fKids.drop i = ks → tOks g wtB t.fOp m i ks = true → t.fKids.length ≤ 1099511627776 → tmss ks ≤ 1099511627776 → opns ks ≤ l.length → g15 l → out.length = i →
    spec_l9Fill_l1 (t, o, r, l, out, (i : Int)) = some (l.drop (opns ks), out ++ fils ks l)
  | [], t, i, m, o, r, l, out, hd, hw, hk, ht, hl, hg, ho => by
    rw [spec_l9Fill_l1.eq_def, opns, fils]
    simp only
    rw [lt_f (drop_nil_le hd)]; simp
  | k :: ks, t, i, m, o, r, l, out, hd, hw, hk, ht, hl, hg, ho => by
    obtain ⟨hi, hx, hd'⟩ := drop_cons_get hd
    rw [tmss] at ht
    rw [opns] at hl
    rw [tOks, Bool.and_eq_true] at hw
    rw [spec_l9Fill_l1.eq_def, opns, fils]
    simp only
    rw [lt_t hi, if_pos rfl, hx, bs, sFill g k _ l hw.1 (by omega) (by omega) hg, bs]
    simp only
    rw [fits_ok (by simp only [List.length_singleton]; omega), bs, wr_succ (by omega), sFill_l1 g ks t (i + 1) m o r (l.drop (opn k)) _ hd' hw.2 hk (by omega) (by rw [List.length_drop]; omega) (g15_drop hg _) (by simp [ho]), List.append_assoc, List.drop_drop]; rfl
end
mutual
theorem iFill (g : Int → Bool) : ∀ (t : GTerm) (m : Nat) (l : List Int), tOk g wtB m t = true → tms t ≤ 1099511627776 → opn t ≤ l.length → g15 l → impl_fill (t, l) = some (fil t l, l.drop (opn t))
  | ⟨op, N, ty, ks⟩, m, l, hw, ht, hl, hg => by
    obtain ⟨hw1, hw2⟩ := tOk_node hw
    obtain ⟨hty, hty40⟩ := nodeOk_ty hw1
    have hop := (nodeOk_many hw1).1
    rw [tms] at ht
    rw [opn] at hl
    rw [impl_fill.eq_def, fil, opn]
    simp only
    rw [iCopy ty (by simp only at hty40; omega), bs, iForm, bs]
    unfold formG
    simp only at hop
    rw [hop]
    simp only [if_true]
    refine (bind_of (x := hasG op && decide (N < 0)) ?_).trans ?_
    · cases hasG op <;> rfl
    generalize hb : (hasG op && decide (N < 0)) = b at hl ⊢
    have hB : ∃ B : Nat, (if b = true then 1 else 0) = B ∧ B ≤ 1 := ⟨_, rfl, by split <;> omega⟩
    obtain ⟨B, hB, hB1⟩ := hB
    rw [hB] at hl
    refine (bind_of (x := (l.drop B, if b = true then l.headD 0 else N)) ?_).trans ?_
    · cases b
      · subst hB; rfl
      · subst hB
        match l, hl with
        | g :: l, hl => rw [if_pos rfl, idx0, bs, cut_tail]; rfl
        | [], hl => simp at hl
    rw [hB]
    generalize (if b = true then l.headD 0 else N) = o
    obtain ⟨l', hl'⟩ : ∃ l', l.drop B = l' := ⟨_, rfl⟩
    have hll : l'.length = l.length - B := by rw [← hl', List.length_drop]
    have h1 : impl_fill_l0 (⟨op, N, ty, ks⟩, ty, o, l', ty, ((0 : Nat) : Int)) = some (l'.drop (cntO ty), fc ty l') := by
      have hgl : g15 l' := hl' ▸ g15_drop hg _
      have := iFill_l0 ⟨op, N, ty, ks⟩ o ty (by omega) ty 0 l' ty rfl (fun c hc => (hty c hc).2) (by omega) hgl rfl
      simpa using this
    have h2 := iFill_l1 g ks ⟨op, N, ty, ks⟩ 0 m o (fc ty l') (l'.drop (cntO ty)) [] rfl hw2 (by simp only; omega) (by omega) (by rw [List.length_drop]; omega) (g15_drop (hl' ▸ g15_drop hg _) _) rfl
    simp only
    rw [show (0 : Int) = ((0 : Nat) : Int) from rfl, hl', h1, bs]
    simp only
    rw [h2, bs, ← hl']
    simp only [List.drop_drop, List.nil_append, Nat.add_assoc]
theorem iFill_l1 (g : Int → Bool) : ∀ (ks : List GTerm) (t : GTerm) (i m : Nat) (o : Int) (r l : List Int) (out : List GTerm), t.fKids.drop i = ks → tOks g wtB t.fOp m i ks = true → t.fKids.length ≤ 1099511627776 → tmss ks ≤ 1099511627776 → opns ks ≤ l.length → g15 l → out.length = i →
    impl_fill_l1 (t, o, r, l, out, (i : Int)) = some (l.drop (opns ks), out ++ fils ks l)
  | [], t, i, m, o, r, l, out, hd, hw, hk, ht, hl, hg, ho => by
    rw [impl_fill_l1.eq_def, opns, fils]
    simp only
    rw [lt_f (drop_nil_le hd)]; simp
  | k :: ks, t, i, m, o, r, l, out, hd, hw, hk, ht, hl, hg, ho => by
    obtain ⟨hi, hx, hd'⟩ := drop_cons_get hd
    rw [tmss] at ht
    rw [opns] at hl
    rw [tOks, Bool.and_eq_true] at hw
    rw [impl_fill_l1.eq_def, opns, fils]
    simp only
    rw [lt_t hi, if_pos rfl, hx, bs, iFill g k _ l hw.1 (by omega) (by omega) hg, bs]
    simp only
    rw [fits_ok (by simp only [List.length_singleton]; omega), bs, wr_succ (by omega), iFill_l1 g ks t (i + 1) m o r (l.drop (opn k)) _ hd' hw.2 hk (by omega) (by rw [List.length_drop]; omega) (g15_drop hg _) (by simp [ho]), List.append_assoc, List.drop_drop]; rfl
end
theorem sGate_l0 (t : GTerm) (a : List Int) (ha : a.length ≤ 1099511627776) : ∀ (l : List Int) (i : Nat), a.drop i = l → spec_FillOpen_l0 (t, a, (i : Int)) = some (if l.all (fun g => inB g 0 15) then .inl () else .inr (noT, false)) := by
  intro l
  induction l with
  | nil =>
    intro i hd
    rw [spec_FillOpen_l0.eq_def]
    simp only
    rw [lt_f (drop_nil_le hd)]; rfl
  | cons g l ih =>
    intro i hd
    obtain ⟨hi, hx, hd'⟩ := drop_cons_get hd
    rw [spec_FillOpen_l0.eq_def]
    simp only
    rw [lt_t hi, if_pos rfl, hx, bs, sIn, bs, wr_succ (by omega), ih (i + 1) hd', List.all_cons]
    cases inB g 0 15 <;> rfl
theorem iGate_l0 (a : List Int) (ha : a.length ≤ 1099511627776) : ∀ (l : List Int) (i : Nat), a.drop i = l → ∃ r, slices_IndexFunc_int_Kimpl_FillOpen_c1_l0 (a, (i : Int)) = some r ∧ (match r with | .inl _ => l.all (fun g => inB g 0 15) = true | .inr m => l.all (fun g => inB g 0 15) = false ∧ 0 ≤ m) := by
  intro l
  induction l with
  | nil =>
    intro i hd
    rw [slices_IndexFunc_int_Kimpl_FillOpen_c1_l0.eq_def]
    simp only
    rw [lt_f (drop_nil_le hd)]
    exact ⟨_, rfl, rfl⟩
  | cons g l ih =>
    intro i hd
    obtain ⟨hi, hx, hd'⟩ := drop_cons_get hd
    rw [slices_IndexFunc_int_Kimpl_FillOpen_c1_l0.eq_def]
    simp only
    rw [lt_t hi, if_pos rfl, hx, bs, impl_FillOpen_c1, iIn, bs, bs, wr_succ (by omega), List.all_cons]
    cases inB g 0 15
    · exact ⟨.inr (i : Int), rfl, by simp⟩
    · obtain ⟨r, h1, h2⟩ := ih (i + 1) hd'
      exact ⟨r, h1, by simpa using h2⟩
theorem iGate (a : List Int) (ha : a.length ≤ 1099511627776) : slices_ContainsFunc_int_Kimpl_FillOpen_c1 a = some (!(a.all fun g => inB g 0 15)) := by
  unfold slices_ContainsFunc_int_Kimpl_FillOpen_c1 slices_IndexFunc_int_Kimpl_FillOpen_c1
  obtain ⟨r, h1, h2⟩ := iGate_l0 a ha _ 0 rfl
  rw [List.drop_zero] at h2
  rw [show ((0 : Nat) : Int) = 0 from rfl] at h1
  rw [h1, bs]
  cases r with
  | inl u => simp only at h2; rw [h2]; rfl
  | inr m => simp only at h2; rw [h2.1]; simp [bs, h2.2]
theorem fillOpen_same (t : GTerm) (l : List Int) (ht : tms t ≤ 1048576) (htl : tln t) (hl : l.length ≤ 1048576) : ∃ w b, spec_FillOpen (t, l) = some (w, b) ∧ impl_FillOpen (t, l) = some (w, b) ∧ tms w ≤ 1099511627776 := by
  unfold spec_FillOpen impl_FillOpen spec_CountOpen
  simp only
  rw [sWritten t (by omega), iWritten t (by omega)]
  have hno : tms noT ≤ 1099511627776 := by simp [noT, tms, tmss]
  cases h : wB t
  · refine ⟨noT, false, ?_, rfl, hno⟩
    rw [bs, if_neg (by decide), bs, bne_iff_ne.2 (by omega)]; rfl
  · have hw := (wB_of h).1
    simp only [bs, if_true, sCount t (by omega), iCount _ t 8 (by omega) hw]
    by_cases hc : opn t = l.length
    · have e1 : ((((opn t : Nat) : Int)) != (l.length : Int)) = false := by rw [hc, bne_self]
      have e2 : ((l.length : Int) != (((opn t : Nat) : Int))) = false := by rw [hc, bne_self]
      have hs := sGate_l0 t l (by omega) l 0 rfl
      rw [show ((0 : Nat) : Int) = 0 from rfl] at hs
      rw [e1, e2, iGate l (by omega), hs]
      cases ha : l.all (fun g => inB g 0 15)
      · exact ⟨noT, false, rfl, rfl, hno⟩
      · have hg : g15 l := by
          intro g hg
          have := List.all_eq_true.1 ha g hg
          unfold inB at this
          simpa using this
        refine ⟨fil t l, true, ?_, ?_, by rw [fil_tms]; omega⟩
        · rw [if_neg (by decide), if_pos rfl, bs]
          simp only
          rw [sFill _ t 8 l hw (by omega) (by omega) hg]; rfl
        · rw [if_neg (by decide), bs, bs]
          simp only [Bool.not_true, Bool.false_eq_true, if_false]
          rw [iFill _ t 8 l hw (by omega) (by omega) hg]; rfl
    · have e1 : ((((opn t : Nat) : Int)) != (l.length : Int)) = true := bne_iff_ne.2 (by omega)
      have e2 : ((l.length : Int) != (((opn t : Nat) : Int))) = true := bne_iff_ne.2 (by omega)
      rw [e1, e2]
      exact ⟨noT, false, rfl, rfl, hno⟩
theorem fillOpen_true (x0 : GTerm) (x1 : List Int) (hx0 : tln x0) (hx1 : x1.length ≤ 9223372036854775807) : laws_FnExactFillOpen (x0, x1) = some true := by
  unfold laws_FnExactFillOpen
  simp only
  by_cases gx1 : x1.length ≤ 1048576
  · rw [decide_eq_false (by omega), if_neg (by decide)]
    rw [szTerm_eq x0 (1048576) hx0 (by omega) (by omega), bs]
    rcases szB_cases (1048576) (tms x0) with ⟨e0, l0⟩ | ⟨e0, l0⟩
    · rw [e0]; rfl
    · rw [e0, decide_eq_false (by omega), if_neg (by decide)]
      have bx0 : tms x0 ≤ 1048576 := by omega
      obtain ⟨w0, w1, s1, s2, c0⟩ := fillOpen_same x0 x1 bx0 hx0 gx1
      obtain ⟨Mx0, mx0⟩ := markTerm_only x0 (1) (by omega) (by omega)
      have zx0 := mct_le x0
      have mx1 := markI x1 (1 + mct x0) (by omega) (by omega)
      obtain ⟨N0, n0, n0'⟩ := markTerm_held w0 (1) (by omega) (by omega)
      have y0 := mct_le w0
      rw [show ((1 : Nat) : Int) = 1 from rfl] at mx0 n0 n0'
      simp only [s1, s2, bs, toTerm_id x0 (by omega), eqTerm_refl x0 (by omega), toIntS_id x1 (by omega), eqIntS_refl x1 (by omega), eqTerm_refl w0 (by omega), mx0, mx1, n0, n0' w0.fOp w0.fN, beq_self_b, if_true, if_false, Bool.false_eq_true, bne_self, Bool.not_true, Bool.not_false, beq_self_t, beq_self_eq_true]
      repeat (rw [decide_eq_false (by omega)]; simp only [bs, Bool.false_eq_true, if_false, if_true, bne_self, beq_self_b, Bool.not_true, n0, n0' w0.fOp w0.fN])
  · rw [decide_eq_true (by omega), if_pos rfl]
end Go.Am
