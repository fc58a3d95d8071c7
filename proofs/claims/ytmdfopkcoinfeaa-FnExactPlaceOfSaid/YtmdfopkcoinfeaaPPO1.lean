/- Plain laws of the printed functions. -/
import Derived.Test.YtmdfopkcoinfeaaPPO0
set_option linter.unusedSimpArgs false
set_option linter.unusedVariables false
namespace Go.Am
mutual
def tEq : GTerm → GTerm → Bool
  | ⟨o, N, t, k⟩, ⟨o', N', t', k'⟩ => o == o' && N == N' && t == t' && (k.length == k'.length) && tEqs k k'
def tEqs : List GTerm → List GTerm → Bool
  | [], _ => true
  | _ :: _, [] => false
  | a :: k, b :: k' => tEq a b && tEqs k k'
end
mutual
theorem tEq_iff : ∀ (a b : GTerm), tEq a b = true → a = b
  | ⟨o, N, t, k⟩, ⟨o', N', t', k'⟩, h => by
    rw [tEq] at h
    simp only [Bool.and_eq_true, beq_iff_eq] at h
    obtain ⟨⟨⟨⟨h1, h2⟩, h3⟩, h4⟩, h5⟩ := h
    rw [h1, h2, h3, tEqs_iff k k' h4 h5]
theorem tEqs_iff : ∀ (k k' : List GTerm), k.length = k'.length → tEqs k k' = true → k = k'
  | [], [], _, _ => rfl
  | [], _ :: _, h, _ => by simp at h
  | _ :: _, [], h, _ => by simp at h
  | a :: k, b :: k', hl, h => by
    rw [tEqs, Bool.and_eq_true] at h
    rw [tEq_iff a b h.1, tEqs_iff k k' (by simpa using hl) h.2]
end
mutual
theorem tEq_refl : ∀ (a : GTerm), tEq a a = true
  | ⟨o, N, t, k⟩ => by rw [tEq, tEqs_refl k]; simp
theorem tEqs_refl : ∀ (k : List GTerm), tEqs k k = true
  | [] => by rw [tEqs]
  | a :: k => by rw [tEqs, tEq_refl a, tEqs_refl k]; rfl
end
mutual
theorem sEqT : ∀ (a b : GTerm), tms a ≤ 1099511627776 → tms b ≤ 1099511627776 → spec_l2Equal (a, b) = some (tEq a b)
  | ⟨o, N, t, k⟩, ⟨o', N', t', k'⟩, ha, hb => by
    rw [tms] at ha hb
    rw [spec_l2Equal.eq_def, tEq]
    simp only
    rw [sSame t t' (by omega)]
    by_cases h1 : o = o'
    · by_cases h2 : N = N'
      · subst h1 h2
        rw [bne_self, bne_self, beq_self_eq_true, beq_self_eq_true]
        cases t == t'
        · rfl
        · by_cases h4 : k.length = k'.length
          · have hl := sEqT_l0 k k' ⟨o, N, t, k⟩ ⟨o, N, t', k'⟩ 0 rfl rfl h4 (by simp only; omega) (by omega) (by omega)
            rw [show ((0 : Nat) : Int) = 0 from rfl] at hl
            simp only [Bool.false_eq_true, if_false, if_true, bs]
            rw [show ((k.length : Int) != (k'.length : Int)) = false by rw [h4]; exact bne_self, if_neg (by decide), hl, bs, beq_iff_eq.2 h4]
            cases tEqs k k' <;> rfl
          · simp only [Bool.false_eq_true, if_false, if_true, bs]
            rw [bne_iff_ne.2 (by omega), if_pos rfl, beq_eq_false_iff_ne.2 h4]; rfl
      · rw [bne_iff_ne.2 h2, beq_eq_false_iff_ne.2 h2]
        cases o != o' <;> cases o == o' <;> rfl
    · rw [bne_iff_ne.2 h1, beq_eq_false_iff_ne.2 h1]; rfl
theorem sEqT_l0 : ∀ (ks js : List GTerm) (a b : GTerm) (i : Nat), a.fKids.drop i = ks → b.fKids.drop i = js → ks.length = js.length → a.fKids.length ≤ 1099511627776 → tmss ks ≤ 1099511627776 → tmss js ≤ 1099511627776 → spec_l2Equal_l0 (a, b, (i : Int)) = some (if tEqs ks js then .inl () else .inr false)
  | [], js, a, b, i, h1, h2, hl, hk, m1, m2 => by
    rw [spec_l2Equal_l0.eq_def, tEqs]
    simp only
    rw [lt_f (drop_nil_le h1)]; rfl
  | x :: ks, [], a, b, i, h1, h2, hl, hk, m1, m2 => by simp at hl
  | x :: ks, y :: js, a, b, i, h1, h2, hl, hk, m1, m2 => by
    obtain ⟨hi, hx, hd⟩ := drop_cons_get h1
    obtain ⟨_, hy, hd2⟩ := drop_cons_get h2
    rw [tmss] at m1 m2
    rw [spec_l2Equal_l0.eq_def, tEqs]
    simp only
    rw [lt_t hi, if_pos rfl, hx, bs, hy, bs, sEqT x y (by omega) (by omega), bs, wr_succ (by omega), sEqT_l0 ks js a b (i + 1) hd hd2 (by simpa using hl) hk (by omega) (by omega)]
    cases tEq x y <;> rfl
end
theorem iPlace (T : Ty) : ∀ v : GTerm, T.ok → T.dat → T.code.length ≤ 1048576 → cntV T ≤ 300 → vB T v = true → impl_placeOf (T.code, v) = some ((plV T v : Nat) : Int) := by
  induction T with
  | num =>
    intro v _ _ _ _ hv
    obtain ⟨N, rfl, h1, h2⟩ := vB_num' hv
    rw [impl_placeOf.eq_def, Ty.code]
    simp only
    rw [iParts_num, plV]
    simp only [bs]
    rw [Int.toNat_of_nonneg h1]; rfl
  | bin c a b iha ihb =>
    intro v h hd hl hc hv
    have P := binP h hl
    have la := P.la
    rw [Ty.code, impl_placeOf.eq_def]
    simp only
    rw [P.pp]
    rcases hd.1 with rfl | rfl
    · obtain ⟨k, m, rfl, h1, h2⟩ := vB_pair hv
      obtain ⟨e, c1, c2⟩ := cnt_pair hc
      have p1 := (plV_lt a k hd.2.1 c1 h1).1
      have p2 := (plV_lt b m hd.2.2 c2 h2).1
      have hle : plV a k * cntV b ≤ 90000 := Nat.le_trans (Nat.mul_le_mul (by omega : plV a k ≤ 300) c2) (by decide)
      simp only [idx0, idx1, bs]
      rw [iha k P.ok.1 hd.2.1 (by omega) c1 h1, ihb m P.ok.2 hd.2.2 (by omega) c2 h2, iCountV b P.ok.2 hd.2.2 (by omega)]
      simp only [bs]
      rw [plV, if_pos rfl]
      simp only [kidAt, List.getD_cons_zero, List.getD_cons_succ]
      rw [wr_mul (by omega) (by omega), wr_add (by omega) (by omega)]; rfl
    · obtain ⟨e, c1, c2⟩ := cnt_sum (by decide) hc
      rw [plV, if_neg (by decide : ¬ (2 : Int) = 1)]
      rcases vB_sum hv with ⟨k, rfl, h1⟩ | ⟨k, rfl, h1⟩
      · simp only [idx0, idx1, bs]
        rw [iha k P.ok.1 hd.2.1 (by omega) c1 h1]
        rfl
      · have p1 := (plV_lt b k hd.2.2 c2 h1).1
        simp only [idx0, idx1, bs]
        rw [ihb k P.ok.2 hd.2.2 (by omega) c2 h1, iCountV a P.ok.1 hd.2.1 (by omega)]
        simp only [bs, kidAt, List.getD_cons_zero]
        rw [if_neg (by decide : ¬ (7 : Int) = 6), wr_add (by omega) (by omega)]
        rfl
  | un c a ih =>
    intro v h hd hl hc hv
    have P := unP h hl
    have la := P.la
    obtain ⟨k, rfl, q⟩ := vB_box hv
    rw [Ty.code, impl_placeOf.eq_def]
    simp only
    rw [P.pp]
    simp only [idx0, idx1, bs]
    rw [ih k P.ok hd (by omega) hc q]
    rfl
theorem sPlace_l0 {T : Ty} (h1 : T.ok) (h2 : T.dat) (hl : T.code.length ≤ 1048576) (hc : cntV T ≤ 300) {v : GTerm} (hv : vB T v = true) (hm : tms v ≤ 1099511627776) : ∀ d k : Nat, k + d = plV T v → spec_PlaceOf_l0 (T.code, v, (cntV T : Int), (k : Int)) = some (.inr ((plV T v : Nat) : Int)) := by
  obtain ⟨p, q⟩ := plV_lt T v h2 hc hv
  intro d
  induction d with
  | zero =>
    intro k hk
    have hk : k = plV T v := by omega
    have hb := vAt_tms T (k : Int)
    rw [spec_PlaceOf_l0.eq_def]
    simp only
    rw [lt_t (by omega), if_pos rfl, sVAt T h1 h2 hl, bs, sEqT _ _ (by omega) hm, hk, q, tEq_refl]; rfl
  | succ d ih =>
    intro k hk
    have hb := vAt_tms T (k : Int)
    have hne : tEq (vAt T (k : Int)) v = false := by
      rw [Bool.eq_false_iff]
      intro he
      have e := tEq_iff _ _ he
      have := plV_vAt T k h2 hc (by omega)
      rw [e] at this; omega
    rw [spec_PlaceOf_l0.eq_def]
    simp only
    rw [lt_t (by omega), if_pos rfl, sVAt T h1 h2 hl, bs, sEqT _ _ (by omega) hm, bs, hne, if_neg (by decide), wr_succ (by omega), ih (k + 1) (by omega)]
theorem placeOf_same (s : GSystem) (ty : List Int) (v : GTerm) (hs : sms s ≤ 1048576) (hty : ty.length ≤ 1048576) (hv : tms v ≤ 1048576) (hlv : tln v) : ∃ r, spec_PlaceOf (s, ty, v) = some r ∧ impl_PlaceOf (s, ty, v) = some r := by
  unfold spec_PlaceOf impl_PlaceOf
  simp only
  rcases countValues_eq s ty hty with ⟨T, h1, h2, h3, h4, h, h5, h6⟩ | ⟨h, h5, h6⟩
  · subst h3
    rw [h5, h6, bs, bs, sIsValue_T v h h1 h2 h4 hv, iVal T v h1 h2 (by omega)]
    by_cases hc : cntV T > 300
    · rw [if_pos hc]
      refine ⟨-1, ?_, rfl⟩
      rw [bs]
      cases vB T v
      · rfl
      · rw [if_pos rfl, spec_PlaceOf_l0.eq_def]; rfl
    · rw [if_neg hc]
      cases q : vB T v
      · refine ⟨-1, rfl, ?_⟩
        rw [decide_eq_false (by omega)]; rfl
      · have hl := sPlace_l0 h1 h2 (by omega) (by omega) q (by omega) (plV T v) 0 (by omega)
        rw [show ((0 : Nat) : Int) = 0 from rfl] at hl
        refine ⟨((plV T v : Nat) : Int), ?_, ?_⟩
        · rw [bs, if_pos rfl, hl]; rfl
        · rw [decide_eq_false (by omega), iPlace T v h1 h2 (by omega) (by omega) q]; rfl
  · rw [h5, h6, bs, bs, sIsValue_no v hty h]
    exact ⟨-1, rfl, rfl⟩
theorem placeOf_true (x0 : GSystem) (x1 : List Int) (x2 : GTerm) (hx0 : sln x0) (hx1 : x1.length ≤ 9223372036854775807) (hx2 : tln x2) : laws_FnExactPlaceOf (x0, x1, x2) = some true := by
  unfold laws_FnExactPlaceOf
  simp only
  by_cases gx1 : x1.length ≤ 1048576
  · rw [decide_eq_false (by omega), if_neg (by decide)]
    rw [szSystem_eq x0 (1048576) hx0 (by omega) (by omega), bs]
    rcases szB_cases (1048576) (sms x0) with ⟨e0, l0⟩ | ⟨e0, l0⟩
    · rw [e0]; rfl
    · rw [e0, decide_eq_false (by omega), if_neg (by decide)]
      rw [szTerm_eq x2 (1048576 - (sms x0 : Int)) hx2 (by omega) (by omega), bs]
      rcases szB_cases (1048576 - (sms x0 : Int)) (tms x2) with ⟨e1, l1⟩ | ⟨e1, l1⟩
      · rw [e1]; rfl
      · rw [e1, decide_eq_false (by omega), if_neg (by decide)]
        have bx0 : sms x0 ≤ 1048576 := by omega
        have bx2 : tms x2 ≤ 1048576 := by omega
        obtain ⟨w0, s1, s2⟩ := placeOf_same x0 x1 x2 bx0 gx1 bx2 hx2
        simp only [s1, s2, bs, toSystem_sms (s := x0) (by omega), eqSystem_sms (s := x0) (by omega), toIntS_id x1 (by omega), eqIntS_refl x1 (by omega), toTerm_id x2 (by omega), eqTerm_refl x2 (by omega), beq_self_b, if_true, if_false, Bool.false_eq_true, bne_self, Bool.not_true, Bool.not_false, beq_self_t, beq_self_eq_true]
  · rw [decide_eq_true (by omega), if_pos rfl]
end Go.Am
