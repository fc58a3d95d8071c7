/- Plain laws of the printed functions. -/
import Derived.Test.YtmdfopkcoinfeaaPEV0
set_option linter.unusedSimpArgs false
set_option linter.unusedVariables false
namespace Go.Am
theorem beq_cons (x y : Int) (l r : List Int) : (x :: l == y :: r) = (x == y && l == r) := rfl
theorem sSame_l0 (a b : List Int) (ha : a.length ≤ 1099511627776) (hab : a.length = b.length) : ∀ (l r : List Int) (i : Nat), a.drop i = l → b.drop i = r → spec_l1Same_l0 (a, b, (i : Int)) = some (if l == r then .inl () else .inr false) := by
  intro l
  induction l with
  | nil =>
    intro r i h1 h2
    have hi := drop_nil_le h1
    rw [spec_l1Same_l0.eq_def]
    simp only
    rw [lt_f hi]
    have : r = [] := by rw [← h2]; exact List.drop_eq_nil_of_le (by omega)
    subst this; rfl
  | cons x l ih =>
    intro r i h1 h2
    obtain ⟨hi, hx, hd⟩ := drop_cons_get h1
    cases r with
    | nil => have := drop_nil_le h2; omega
    | cons y r =>
      obtain ⟨_, hy, hd2⟩ := drop_cons_get h2
      rw [spec_l1Same_l0.eq_def]
      simp only
      rw [lt_t hi, if_pos rfl, hx, hy, bs, bs, wr_succ (by omega), ih r (i + 1) hd hd2, beq_cons]
      by_cases e : x = y
      · subst e; simp
      · rw [bne_iff_ne.2 e, if_pos rfl, beq_eq_false_iff_ne.2 e]; rfl
theorem sSame (a b : List Int) (hb : b.length ≤ 1099511627776) : spec_l1Same (a, b) = some (a == b) := by
  unfold spec_l1Same
  simp only
  by_cases h : a.length = b.length
  · rw [h, bne_self, if_neg (by decide)]
    have := sSame_l0 a b (by omega) h a b 0 rfl rfl
    rw [show ((0 : Nat) : Int) = 0 from rfl] at this
    rw [this]
    cases a == b <;> rfl
  · rw [bne_iff_ne.2 (by omega), if_pos rfl]
    have : a ≠ b := fun e => h (by rw [e])
    rw [beq_eq_false_iff_ne.2 this]
theorem iSame_l0 (a b : List Int) (ha : a.length ≤ 1099511627776) (hab : a.length = b.length) : ∀ (l r : List Int) (i : Nat), a.drop i = l → b.drop i = r → slices_Equal_int_l0 (a, b, (i : Int)) = some (if l == r then .inl () else .inr false) := by
  intro l
  induction l with
  | nil =>
    intro r i h1 h2
    have hi := drop_nil_le h1
    rw [slices_Equal_int_l0.eq_def]
    simp only
    rw [lt_f hi]
    have : r = [] := by rw [← h2]; exact List.drop_eq_nil_of_le (by omega)
    subst this; rfl
  | cons x l ih =>
    intro r i h1 h2
    obtain ⟨hi, hx, hd⟩ := drop_cons_get h1
    cases r with
    | nil => have := drop_nil_le h2; omega
    | cons y r =>
      obtain ⟨_, hy, hd2⟩ := drop_cons_get h2
      rw [slices_Equal_int_l0.eq_def]
      simp only
      rw [lt_t hi, if_pos rfl, hx, hy, bs, bs, wr_succ (by omega), ih r (i + 1) hd hd2, beq_cons]
      by_cases e : x = y
      · subst e; simp
      · rw [bne_iff_ne.2 e, if_pos rfl, beq_eq_false_iff_ne.2 e]; rfl
theorem iSame (a b : List Int) (hb : b.length ≤ 1099511627776) : slices_Equal_int (a, b) = some (a == b) := by
  unfold slices_Equal_int
  simp only
  by_cases h : a.length = b.length
  · rw [h, bne_self, if_neg (by decide)]
    have := iSame_l0 a b (by omega) h a b 0 rfl rfl
    rw [show ((0 : Nat) : Int) = 0 from rfl] at this
    rw [this]
    cases a == b <;> rfl
  · rw [bne_iff_ne.2 (by omega), if_pos rfl]
    have : a ≠ b := fun e => h (by rw [e])
    rw [beq_eq_false_iff_ne.2 this]
/-- A value of a data type. -/
def vB : Ty → GTerm → Bool
  | .num, ⟨op, N, ty, ks⟩ => op == 1 && inB N 0 2 && (ty.length : Int) == 0 && (ks.length : Int) == 0
  | .bin c a b, ⟨op, N, ty, ks⟩ =>
    if c = 1 then op == 4 && N == 0 && (ty.length : Int) == 0 && (match ks with | [k, m] => vB a k && vB b m | _ => false)
    else N == 0 && (match ks with | [k] => if op = 6 then ty == b.code && vB a k else if op = 7 then ty == a.code && vB b k else false | _ => false)
  | .un c a, ⟨op, N, ty, ks⟩ => op == 11 && N == gradeC c && (ty.length : Int) == 0 && (match ks with | [k] => vB a k | _ => false)
theorem vB_num (op N : Int) (ty : List Int) (ks : List GTerm) : vB .num ⟨op, N, ty, ks⟩ = (op == 1 && inB N 0 2 && (ty.length : Int) == 0 && (ks.length : Int) == 0) := rfl
theorem vB_bin (c : Int) (a b : Ty) (op N : Int) (ty : List Int) (ks : List GTerm) : vB (.bin c a b) ⟨op, N, ty, ks⟩ = (if c = 1 then op == 4 && N == 0 && (ty.length : Int) == 0 && (match ks with | [k, m] => vB a k && vB b m | _ => false)
    else N == 0 && (match ks with | [k] => if op = 6 then ty == b.code && vB a k else if op = 7 then ty == a.code && vB b k else false | _ => false)) := rfl
theorem vB_un (c : Int) (a : Ty) (op N : Int) (ty : List Int) (ks : List GTerm) : vB (.un c a) ⟨op, N, ty, ks⟩ = (op == 11 && N == gradeC c && (ty.length : Int) == 0 && (match ks with | [k] => vB a k | _ => false)) := rfl
theorem d20 : ((2 : Int) == 0) = false := rfl
theorem d21 : ((2 : Int) == 1) = false := rfl
theorem d22 : ((2 : Int) == 2) = true := rfl
theorem iVal (T : Ty) : ∀ v : GTerm, T.ok → T.dat → T.code.length ≤ 1048576 → impl_isValue (T.code, v) = some (vB T v) := by
  induction T with
  | num =>
    intro ⟨op, N, ty, ks⟩ _ _ _
    rw [impl_isValue.eq_def, Ty.code, vB_num]
    simp only [idx0, bs]
    rw [iShape, iParts_num, iIn]
    simp only [bs]
    cases op == 1 <;> cases inB N 0 2 <;> cases (ty.length : Int) == 0 <;> rfl
  | bin c a b iha ihb =>
    intro ⟨op, N, ty, ks⟩ h hd hl
    have P := binP h hl
    have la := P.la
    rw [Ty.code, impl_isValue.eq_def]
    simp only [idx0, bs]
    rw [P.pp, vB_bin, iShape]
    simp only [bs]
    rcases shape_bin h.1 with ⟨rfl, e⟩ | ⟨rfl, e⟩ | ⟨h0, h1, _, e⟩
    · rw [e, if_pos rfl]
      simp only [idx0, idx1, bs]
      match ks with
      | [] => cases op == 4 <;> cases N == 0 <;> cases (ty.length : Int) == 0 <;> rfl
      | [k] => cases op == 4 <;> cases N == 0 <;> cases (ty.length : Int) == 0 <;> rfl
      | [k, m] =>
        simp only [idx0, idx1, bs, iha k P.ok.1 hd.2.1 (by omega), ihb m P.ok.2 hd.2.2 (by omega)]
        cases op == 4 <;> cases N == 0 <;> cases (ty.length : Int) == 0 <;> cases vB a k <;> cases vB b m <;> rfl
      | k :: m :: o :: ks =>
        have : (((k :: m :: o :: ks).length : Int) == 2) = false := beq_eq_false_iff_ne.2 (by simp only [List.length_cons]; omega)
        rw [this]
        cases op == 4 <;> cases N == 0 <;> cases (ty.length : Int) == 0 <;> rfl
    · rw [e, if_neg (by decide)]
      simp only [idx0, idx1, bs, d20, d21, d22, Bool.false_eq_true, if_false, if_true]
      by_cases hN : N = 0
      · subst hN
        match ks with
        | [] => rfl
        | [k] =>
          by_cases h6 : op = 6
          · subst h6
            have e1 : wr (1 - 0) = 1 := by decide
            have e0 : wr (6 - 6) = 0 := by decide
            refine (bind_of (x := false) rfl).trans ?_
            simp only [Bool.false_eq_true, if_false, e1, e0, idx0, idx1, bs]
            rw [iSame ty b.code (by omega), iha k P.ok.1 hd.2.1 (by omega)]
            cases ty == b.code <;> rfl
          · by_cases h7 : op = 7
            · subst h7
              have e1 : wr (1 - 1) = 0 := by decide
              have e0 : wr (7 - 6) = 1 := by decide
              refine (bind_of (x := false) rfl).trans ?_
              simp only [Bool.false_eq_true, if_false, e1, e0, idx0, idx1, bs]
              rw [iSame ty a.code (by omega), ihb k P.ok.2 hd.2.2 (by omega)]
              cases ty == a.code <;> rfl
            · refine (bind_of (x := true) (by rw [bne_iff_ne.2 h6, bne_iff_ne.2 h7]; rfl)).trans ?_
              show some false = some (if op = 6 then ty == b.code && vB a k else if op = 7 then ty == a.code && vB b k else false)
              rw [if_neg h6, if_neg h7]
        | k :: m :: ks =>
          have : (((k :: m :: ks).length : Int) != 1) = true := bne_iff_ne.2 (by simp only [List.length_cons]; omega)
          rw [this]; rfl
      · rw [bne_iff_ne.2 hN, beq_eq_false_iff_ne.2 hN]; rfl
    · exact absurd hd.1 (by omega)
  | un c a ih =>
    intro ⟨op, N, ty, ks⟩ h hd hl
    have P := unP h hl
    have la := P.la
    obtain ⟨h0, h1, h2, e⟩ := shape_un h.1
    rw [Ty.code, impl_isValue.eq_def]
    simp only [idx0, bs]
    rw [P.pp, vB_un, iShape, e]
    simp only [bs]
    match ks with
    | [] => cases op == 11 <;> cases N == gradeC c <;> cases (ty.length : Int) == 0 <;> rfl
    | [k] =>
      simp only [idx0, idx1, bs, ih k P.ok hd (by omega)]
      cases op == 11 <;> cases N == gradeC c <;> cases (ty.length : Int) == 0 <;> rfl
    | k :: m :: ks =>
      have : (((k :: m :: ks).length : Int) == 1) = false := beq_eq_false_iff_ne.2 (by simp only [List.length_cons]; omega)
      rw [this]
      cases op == 11 <;> cases N == gradeC c <;> cases (ty.length : Int) == 0 <;> rfl
theorem len0 {α : Type} {l : List α} (h : ((l.length : Int) == 0) = true) : l = [] := by
  rw [beq_iff_eq] at h; exact List.length_eq_zero_iff.1 (by omega)
theorem tOk_mk (g : Int → Bool) (y : List Int → Bool) (n : Nat) (op N : Int) (ty : List Int) (ks : List GTerm) : tOk g y n ⟨op, N, ty, ks⟩ = (nodeOk g y (n : Int) ⟨op, N, ty, ks⟩ && tOks g y op n 0 ks) := tOk_eq ..
theorem tOks_cons (g : Int → Bool) (y : List Int → Bool) (op : Int) (n i : Nat) (k : GTerm) (ks : List GTerm) : tOks g y op n i (k :: ks) = (tOk g y (n + addsI op i) k && tOks g y op n (i + 1) ks) := by rw [tOks]
theorem tOks_nil (g : Int → Bool) (y : List Int → Bool) (op : Int) (n i : Nat) : tOks g y op n i [] = true := by rw [tOks]
structure TyOk (g : Int → Bool) (y : List Int → Bool) (T : Ty) : Prop where
  un : ∀ c a, T = .un c a → g (gradeC c) = true
  y : y T.code = true
def allTy (P : Ty → Prop) : Ty → Prop
  | .num => P .num
  | .bin c a b => P (.bin c a b) ∧ allTy P a ∧ allTy P b
  | .un c a => P (.un c a) ∧ allTy P a
theorem allTy_hd {P : Ty → Prop} {T : Ty} (h : allTy P T) : P T := by cases T <;> first | exact h | exact h.1
theorem tsz_mk (op N : Int) (ty : List Int) (ks : List GTerm) : tsz ⟨op, N, ty, ks⟩ = 1 + tszs ks := by rw [tsz]
theorem vB_ok (g : Int → Bool) (y : List Int → Bool) (T : Ty) : ∀ (v : GTerm) (n : Nat), T.dat → allTy (TyOk g y) T → vB T v = true → tOk g y n v = true ∧ tsz v ≤ T.code.length := by
  induction T with
  | num =>
    intro ⟨op, N, ty, ks⟩ n _ hT h
    simp only [vB_num, Bool.and_eq_true] at h
    obtain ⟨⟨⟨h1, h2⟩, h3⟩, h4⟩ := h
    have h1 := eq_of_beq h1
    have h3 := len0 h3
    have h4 := len0 h4
    subst h1 h3 h4
    rw [tOk_mk, tsz_mk]
    refine ⟨?_, by simp [tszs, Ty.code]⟩
    simp [nodeOk, nOkN, nOkY, h2, tOks_nil, show inB 1 0 12 = true from rfl, manyI, typedG]
  | bin c a b iha ihb =>
    intro ⟨op, N, ty, ks⟩ n hd hT h
    rw [vB_bin] at h
    rw [Ty.code, List.length_cons, List.length_append]
    rcases hd.1 with rfl | rfl
    · rw [if_pos rfl] at h
      simp only [Bool.and_eq_true] at h
      obtain ⟨⟨⟨h1, h2⟩, h3⟩, h4⟩ := h
      have h1 := eq_of_beq h1
      have h2 := eq_of_beq h2
      have h3 := len0 h3
      subst h1 h2 h3
      match ks, h4 with
      | [k, m], h4 =>
        simp only [Bool.and_eq_true] at h4
        obtain ⟨p1, q1⟩ := iha k (n + addsI 4 0) hd.2.1 hT.2.1 h4.1
        obtain ⟨p2, q2⟩ := ihb m (n + addsI 4 1) hd.2.2 hT.2.2 h4.2
        rw [tOk_mk, tsz_mk, tOks_cons, tOks_cons, tOks_nil]
        refine ⟨?_, by simp only [tszs]; omega⟩
        simp [nodeOk, nOkN, nOkY, inB, manyI, typedG, hasG]
        exact ⟨p1, p2⟩
    · rw [if_neg (by decide)] at h
      simp only [Bool.and_eq_true] at h
      obtain ⟨h2, h4⟩ := h
      have h2 := eq_of_beq h2
      subst h2
      match ks, h4 with
      | [k], h4 =>
        simp only at h4
        by_cases h6 : op = 6
        · subst h6
          rw [if_pos rfl, Bool.and_eq_true] at h4
          obtain ⟨p1, q1⟩ := iha k (n + addsI 6 0) hd.2.1 hT.2.1 h4.2
          have h5 := eq_of_beq h4.1
          subst h5
          rw [tOk_mk, tsz_mk, tOks_cons, tOks_nil]
          refine ⟨?_, by simp only [tszs]; omega⟩
          simp [nodeOk, nOkN, nOkY, inB, manyI, typedG, hasG, (allTy_hd hT.2.2).y]
          exact p1
        · rw [if_neg h6] at h4
          by_cases h7 : op = 7
          · subst h7
            rw [if_pos rfl, Bool.and_eq_true] at h4
            obtain ⟨p1, q1⟩ := ihb k (n + addsI 7 0) hd.2.2 hT.2.2 h4.2
            have h5 := eq_of_beq h4.1
            subst h5
            rw [tOk_mk, tsz_mk, tOks_cons, tOks_nil]
            refine ⟨?_, by simp only [tszs]; omega⟩
            simp [nodeOk, nOkN, nOkY, inB, manyI, typedG, hasG, (allTy_hd hT.2.1).y]
            exact p1
          · rw [if_neg h7] at h4; cases h4
  | un c a ih =>
    intro ⟨op, N, ty, ks⟩ n hd hT h
    simp only [vB_un, Bool.and_eq_true] at h
    obtain ⟨⟨⟨h1, h2⟩, h3⟩, h4⟩ := h
    have h1 := eq_of_beq h1
    have h2 := eq_of_beq h2
    have h3 := len0 h3
    subst h1 h2 h3
    rw [Ty.code, List.length_cons]
    match ks, h4 with
    | [k], h4 =>
      simp only at h4
      obtain ⟨p1, q1⟩ := ih k (n + addsI 11 0) hd hT.2 h4
      rw [tOk_mk, tsz_mk, tOks_cons, tOks_nil]
      refine ⟨?_, by simp only [tszs]; omega⟩
      simp [nodeOk, nOkN, nOkY, inB, manyI, typedG, hasG, hT.1.un c a rfl]
      exact p1
theorem kids1 {l : List GTerm} (h : ((l.length : Int) == 1) = true) : ∃ k, l = [k] := by
  rw [beq_iff_eq] at h; match l, h with | [k], _ => exact ⟨k, rfl⟩ | [], h => exact absurd h (by simp) | _ :: _ :: _, h => exact absurd h (by simp only [List.length_cons]; omega)
theorem kids2 {l : List GTerm} (h : ((l.length : Int) == 2) = true) : ∃ k m, l = [k, m] := by
  rw [beq_iff_eq] at h; match l, h with | [k, m], _ => exact ⟨k, m, rfl⟩ | [], h => exact absurd h (by simp) | [_], h => exact absurd h (by simp) | _ :: _ :: _ :: _, h => exact absurd h (by simp only [List.length_cons]; omega)
theorem sVal (g : Int → Bool) (y : List Int → Bool) (T : Ty) : ∀ (v : GTerm) (n : Nat), T.ok → T.dat → T.code.length ≤ 1048576 → tOk g y n v = true → spec_l5Value (T.code, v) = some (vB T v) := by
  induction T with
  | num =>
    intro ⟨op, N, ty, ks⟩ n _ _ _ hv
    rw [spec_l5Value.eq_def, Ty.code, vB_num]
    simp only [idx0, bs]
    by_cases h1 : op = 1
    · subst h1
      rw [tOk_mk] at hv
      simp [nodeOk, nOkN, nOkY, manyI, typedG, tOks, inB] at hv
      simp [hv, inB]
    · rw [beq_eq_false_iff_ne.2 h1]; rfl
  | bin c a b iha ihb =>
    intro ⟨op, N, ty, ks⟩ n h hd hl hv
    have P := binP h hl
    have la := P.la
    rw [Ty.code, spec_l5Value.eq_def]
    simp only [idx0, bs]
    rw [P.p0, P.p1, vB_bin]
    simp only [bs]
    rw [tOk_mk] at hv
    rcases hd.1 with rfl | rfl
    · rw [if_pos rfl]
      by_cases h1 : op = 4
      · subst h1
        simp [nodeOk, nOkN, nOkY, manyI, typedG, hasG, inB] at hv
        obtain ⟨k, m, rfl⟩ := kids2 (l := ks) (beq_iff_eq.2 hv.1.1.1)
        rw [tOks_cons, tOks_cons, Bool.and_eq_true, Bool.and_eq_true] at hv
        rw [idx0, idx1, bs, bs, iha k _ P.ok.1 hd.2.1 (by omega) hv.2.1, ihb m _ P.ok.2 hd.2.2 (by omega) hv.2.2.1]
        simp [hv.1.1.2, hv.1.2, bs]
        cases vB a k <;> rfl
      · rw [beq_eq_false_iff_ne.2 h1]; rfl
    · rw [if_neg (by decide)]
      simp only [d20, d21, d22, Bool.false_eq_true, if_false, if_true, bs]
      by_cases h6 : op = 6
      · subst h6
        simp [nodeOk, nOkN, nOkY, manyI, typedG, hasG, inB] at hv
        obtain ⟨k, rfl⟩ := kids1 (l := ks) (beq_iff_eq.2 hv.1.1.1)
        rw [tOks_cons, Bool.and_eq_true] at hv
        simp only [idx0, bs]
        rw [sSame ty b.code (by omega), iha k _ P.ok.1 hd.2.1 (by omega) hv.2.1, hv.1.1.2]
        cases ty == b.code <;> cases vB a k <;> rfl
      · by_cases h7 : op = 7
        · subst h7
          simp [nodeOk, nOkN, nOkY, manyI, typedG, hasG, inB] at hv
          obtain ⟨k, rfl⟩ := kids1 (l := ks) (beq_iff_eq.2 hv.1.1.1)
          rw [tOks_cons, Bool.and_eq_true] at hv
          simp only [idx0, bs]
          rw [sSame ty a.code (by omega), ihb k _ P.ok.2 hd.2.2 (by omega) hv.2.1, hv.1.1.2]
          cases ty == a.code <;> cases vB b k <;> rfl
        · rw [beq_eq_false_iff_ne.2 h6, beq_eq_false_iff_ne.2 h7]
          match ks with
          | [] => cases N == 0 <;> rfl
          | [k] =>
            show _ = some (N == 0 && (if op = 6 then ty == b.code && vB a k else if op = 7 then ty == a.code && vB b k else false))
            rw [if_neg h6, if_neg h7]
            cases N == 0 <;> rfl
          | k :: m :: ks => cases N == 0 <;> rfl
  | un c a ih =>
    intro ⟨op, N, ty, ks⟩ n h hd hl hv
    have P := unP h hl
    have la := P.la
    obtain ⟨h0, h1, h2, e⟩ := shape_un h.1
    rw [Ty.code, spec_l5Value.eq_def]
    simp only [idx0, bs]
    rw [beq_eq_false_iff_ne.2 h0.1, beq_eq_false_iff_ne.2 h0.2.1, beq_eq_false_iff_ne.2 h0.2.2, P.p0, vB_un, sGrade (by rw [h.1]; decide)]
    simp only [bs]
    rw [tOk_mk] at hv
    by_cases q : op = 11
    · subst q
      simp [nodeOk, nOkN, nOkY, manyI, typedG, hasG, inB] at hv
      obtain ⟨k, rfl⟩ := kids1 (l := ks) (beq_iff_eq.2 hv.1.1.1)
      rw [tOks_cons, Bool.and_eq_true] at hv
      simp only [idx0, bs, Bool.false_eq_true, if_false]
      rw [ih k _ P.ok hd (by omega) hv.2.1, hv.1.2]
      cases N == gradeC c <;> cases vB a k <;> rfl
    · rw [beq_eq_false_iff_ne.2 q]; rfl
/-- A term of a system. -/
def trmB (s : GSystem) (t : GTerm) (n : Nat) : Bool := sysB s && decide (tsz t ≤ 400) && tOk (gN s.fSize true) (yN s.fSize true) n t
theorem sIsTerm (s : GSystem) (t : GTerm) (n : Nat) (hn : n ≤ 8) (ht : tms t ≤ 1099511627776) : spec_IsTerm (s, t, (n : Int)) = some (trmB s t n) := by
  unfold spec_IsTerm trmB
  simp only
  rw [sSys, bs]
  cases sysB s
  · rfl
  · rw [if_pos rfl, sIn, bs]
    have : inB (n : Int) 0 8 = true := by unfold inB; rw [decide_eq_true (by omega), decide_eq_true (by omega)]; rfl
    have hl := sLeft t 400 ht (by decide)
    rw [show ((400 : Nat) : Int) = 400 from rfl] at hl
    rw [this, if_pos rfl, hl, bs]
    by_cases h : tsz t ≤ 400
    · rw [leftI_le h, decide_eq_true (by omega), decide_eq_true h, if_pos rfl, sTerm _ _ t n ht (by omega)]
      cases tOk (gN s.fSize true) (yN s.fSize true) n t <;> rfl
    · rw [leftI_gt h, decide_eq_false h]; rfl
theorem allTy_of {s : GSystem} {T : Ty} (h : T.ok) (hl : T.code.length ≤ 40) (hc : T.code.all (gokC s.fSize true) = true) : allTy (TyOk (gN s.fSize true) (yN s.fSize true)) T := by
  have hy : ∀ K : Ty, K.ok → K.code.length ≤ 40 → K.code.all (gokC s.fSize true) = true → yN s.fSize true K.code = true := by
    intro K h1 h2 h3
    unfold yN
    rw [wtB_code h1 h2, h3]; rfl
  induction T with
  | num => exact ⟨fun c a e => (by cases e), hy _ h hl hc⟩
  | bin c a b iha ihb =>
    have hc' := hc
    have hl' := hl
    rw [Ty.code, List.length_cons, List.length_append] at hl'
    rw [Ty.code, List.all_cons, List.all_append, Bool.and_eq_true, Bool.and_eq_true] at hc'
    exact ⟨⟨fun c a e => (by cases e), hy _ h hl hc⟩, iha h.2.1 (by omega) hc'.2.1, ihb h.2.2 (by omega) hc'.2.2⟩
  | un c a ih =>
    have hc' := hc
    have hl' := hl
    rw [Ty.code, List.length_cons] at hl'
    rw [Ty.code, List.all_cons, Bool.and_eq_true] at hc'
    refine ⟨⟨fun d e q => ?_, hy _ h hl hc⟩, ih h.2 (by omega) hc'.2⟩
    cases q
    have hk := h.1
    have h1 := hc'.1
    have h3 : c > 2 := by rcases kidsC_cases c with q | q | q | q <;> omega
    unfold gokC at h1
    rw [hk, decide_eq_true h3] at h1
    unfold gN
    simp only [show decide ((1 : Int) > 0) = true from rfl, Bool.true_and, Bool.not_eq_true', Bool.or_eq_false_iff, decide_eq_false_iff_not] at h1 ⊢
    refine ⟨⟨h1.1, by omega⟩, h1.2⟩
theorem vB_num' {v : GTerm} (h : vB .num v = true) : ∃ N, v = ⟨1, N, [], []⟩ ∧ 0 ≤ N ∧ N ≤ 2 := by
  obtain ⟨op, N, ty, ks⟩ := v
  simp only [vB, Bool.and_eq_true] at h
  obtain ⟨⟨⟨h1, h2⟩, h3⟩, h4⟩ := h
  have h1 := eq_of_beq h1
  have h3 := len0 h3
  have h4 := len0 h4
  subst h1 h3 h4
  unfold inB at h2
  simp only [Bool.and_eq_true, decide_eq_true_eq] at h2
  exact ⟨N, rfl, h2.1, h2.2⟩
theorem vB_pair {a b : Ty} {v : GTerm} (h : vB (.bin 1 a b) v = true) : ∃ k m, v = ⟨4, 0, [], [k, m]⟩ ∧ vB a k = true ∧ vB b m = true := by
  obtain ⟨op, N, ty, ks⟩ := v
  rw [vB_bin, if_pos rfl] at h
  simp only [Bool.and_eq_true] at h
  obtain ⟨⟨⟨h1, h2⟩, h3⟩, h4⟩ := h
  have h1 := eq_of_beq h1
  have h2 := eq_of_beq h2
  have h3 := len0 h3
  subst h1 h2 h3
  match ks, h4 with
  | [k, m], h4 =>
    simp only [Bool.and_eq_true] at h4
    exact ⟨k, m, rfl, h4.1, h4.2⟩
theorem vB_sum {a b : Ty} {v : GTerm} (h : vB (.bin 2 a b) v = true) : (∃ k, v = ⟨6, 0, b.code, [k]⟩ ∧ vB a k = true) ∨ (∃ k, v = ⟨7, 0, a.code, [k]⟩ ∧ vB b k = true) := by
  obtain ⟨op, N, ty, ks⟩ := v
  rw [vB_bin, if_neg (by decide)] at h
  simp only [Bool.and_eq_true] at h
  obtain ⟨h2, h4⟩ := h
  have h2 := eq_of_beq h2
  subst h2
  match ks, h4 with
  | [k], h4 =>
    simp only at h4
    by_cases h6 : op = 6
    · subst h6
      rw [if_pos rfl, Bool.and_eq_true] at h4
      have h5 := eq_of_beq h4.1
      subst h5
      exact .inl ⟨k, rfl, h4.2⟩
    · rw [if_neg h6] at h4
      by_cases h7 : op = 7
      · subst h7
        rw [if_pos rfl, Bool.and_eq_true] at h4
        have h5 := eq_of_beq h4.1
        subst h5
        exact .inr ⟨k, rfl, h4.2⟩
      · rw [if_neg h7] at h4; cases h4
theorem vB_box {c : Int} {a : Ty} {v : GTerm} (h : vB (.un c a) v = true) : ∃ k, v = ⟨11, gradeC c, [], [k]⟩ ∧ vB a k = true := by
  obtain ⟨op, N, ty, ks⟩ := v
  simp only [vB_un, Bool.and_eq_true] at h
  obtain ⟨⟨⟨h1, h2⟩, h3⟩, h4⟩ := h
  have h1 := eq_of_beq h1
  have h2 := eq_of_beq h2
  have h3 := len0 h3
  subst h1 h2 h3
  match ks, h4 with
  | [k], h4 => exact ⟨k, rfl, h4⟩
def kidAt (v : GTerm) (i : Nat) : GTerm := v.fKids.getD i noT
def ersV (view : List Int) : Ty → GTerm → GTerm
  | .num, v => v
  | .bin c a b, v => if c = 1 then ⟨4, 0, [], [ersV view a (kidAt v 0), ersV view b (kidAt v 1)]⟩ else if v.fOp = 6 then ⟨6, 0, b.code, [ersV view a (kidAt v 0)]⟩ else ⟨7, 0, a.code, [ersV view b (kidAt v 0)]⟩
  | .un c a, v => ⟨11, gradeC c, [], [if view.contains (gradeC c) then ersV view a (kidAt v 0) else dfl a]⟩
theorem ersV_tms (view : List Int) (T : Ty) : ∀ v, vB T v = true → tms (ersV view T v) ≤ 3 * T.code.length := by
  induction T with
  | num => intro v h; obtain ⟨N, rfl, _⟩ := vB_num' h; simp [ersV, tms, tmss]
  | bin c a b iha ihb =>
    intro v h
    rw [ersV, Ty.code, List.length_cons, List.length_append]
    by_cases hc : c = 1
    · subst hc
      obtain ⟨k, m, rfl, h1, h2⟩ := vB_pair h
      have := iha k h1
      have := ihb m h2
      rw [if_pos rfl]
      simp only [tms, tmss, kidAt, List.getD_cons_zero, List.getD_cons_succ, List.length_cons, List.length_nil]; omega
    · rw [if_neg hc]
      have h' : vB (.bin 2 a b) v = true := by
        obtain ⟨op, N, ty, ks⟩ := v
        rw [vB_bin, if_neg hc] at h
        rw [vB_bin, if_neg (by decide)]; exact h
      rcases vB_sum h' with ⟨k, rfl, h1⟩ | ⟨k, rfl, h1⟩
      · have := iha k h1
        simp only [tms, tmss, kidAt, List.getD_cons_zero, if_true, List.length_cons, List.length_nil]; omega
      · have := ihb k h1
        simp only [kidAt, List.getD_cons_zero]
        rw [if_neg (by decide : ¬ (7 : Int) = 6)]
        simp only [tms, tmss, List.length_cons, List.length_nil]; omega
  | un c a ih =>
    intro v h
    obtain ⟨k, rfl, h1⟩ := vB_box h
    have := ih k h1
    have := dfl_tms a
    rw [ersV, Ty.code, List.length_cons]
    simp only [tms, tmss, kidAt, List.getD_cons_zero, List.length_cons, List.length_nil]
    split <;> omega
theorem sIsValue_no {s : GSystem} {ty : List Int} (v : GTerm) (hty : ty.length ≤ 1048576) (h : (isTy s ty && datB ty) = false) : spec_IsValue (s, ty, v) = some false := by
  unfold spec_IsValue
  simp only
  rw [sIsData s ty (by omega), h]
  rfl
theorem sIsValue_T {s : GSystem} {T : Ty} (v : GTerm) (h : (isTy s T.code && datB T.code) = true) (h1 : T.ok) (h2 : T.dat) (h4 : T.code.length ≤ 40) (hv : tms v ≤ 1048576) : spec_IsValue (s, T.code, v) = some (vB T v) := by
  unfold spec_IsValue
  simp only
  rw [sIsData s T.code (by omega), h]
  rw [bs, if_pos rfl]
  have e := sIsTerm s v 0 (by decide) (by omega)
  rw [show ((0 : Nat) : Int) = 0 from rfl] at e
  rw [e, bs]
  cases ht : trmB s v 0
  · have : vB T v = false := by
      rw [Bool.eq_false_iff]
      intro hb
      unfold isTy typB at h
      simp only [Bool.and_eq_true] at h
      have T' := sysB_tab h.1.1
      have hc := h.1.2.2
      rw [show codB s = gokC s.fSize true from funext fun c => codB_tab T'] at hc
      obtain ⟨p, q⟩ := vB_ok _ _ T v 0 h2 (allTy_of h1 h4 hc) hb
      unfold trmB at ht
      rw [h.1.1, decide_eq_true (by omega), p] at ht
      cases ht
    rw [this]; rfl
  · rw [if_pos rfl]
    unfold trmB at ht
    rw [Bool.and_eq_true] at ht
    rw [sVal _ _ T v 0 h1 h2 (by omega) ht.2]; rfl
theorem isValue_no {s : GSystem} {ty : List Int} (v : GTerm) (hty : ty.length ≤ 1048576) (h : (isTy s ty && datB ty) = false) : spec_IsValue (s, ty, v) = some false ∧ impl_IsValue (s, ty, v) = some false := by
  refine ⟨sIsValue_no v hty h, ?_⟩
  unfold impl_IsValue
  simp only
  rw [iIsData s ty (by omega), h]
  rfl
theorem isValue_T {s : GSystem} {T : Ty} (v : GTerm) (h : (isTy s T.code && datB T.code) = true) (h1 : T.ok) (h2 : T.dat) (h4 : T.code.length ≤ 40) (hv : tms v ≤ 1048576) : spec_IsValue (s, T.code, v) = some (vB T v) ∧ impl_IsValue (s, T.code, v) = some (vB T v) := by
  refine ⟨sIsValue_T v h h1 h2 h4 hv, ?_⟩
  unfold impl_IsValue
  simp only
  rw [iIsData s T.code (by omega), h]
  rw [bs, if_pos rfl, iVal T v h1 h2 (by omega)]
  rfl
theorem s7_nil (view ty r : List Int) (v : GTerm) (out : List GTerm) (k : Nat) (h : v.fKids.length ≤ k) : spec_l7Value_l0 (view, ty, v, r, out, (k : Int)) = some out := by
  rw [spec_l7Value_l0.eq_def]
  simp only
  rw [lt_f h]; rfl
theorem s7_step {view ty r c : List Int} {v x y : GTerm} {out : List GTerm} {k : Nat} (h : k < v.fKids.length) (hx : idx v.fKids (k : Int) = some x) (hp : spec_l2Part (ty, if v.fOp == 7 then 1 else (k : Int)) = some c) (hy : spec_l7Value (view, c, x) = some y) (ho : out.length ≤ 1000) (hk : k ≤ 1000) :
    spec_l7Value_l0 (view, ty, v, r, out, (k : Int)) = spec_l7Value_l0 (view, ty, v, r, out ++ [y], ((k + 1 : Nat) : Int)) := by
  rw [spec_l7Value_l0.eq_def]
  simp only
  rw [lt_t h, if_pos rfl]
  refine (bind_of (x := if v.fOp == 7 then 1 else (k : Int)) ?_).trans ?_
  · cases v.fOp == 7 <;> rfl
  · rw [hp, bs, hx, bs, hy, bs, fits_ok (by simp only [List.length_singleton]; omega), bs, wr_succ (by omega)]
theorem sErs (view : List Int) (hvw : view.length ≤ 1099511627776) (T : Ty) : ∀ v : GTerm, T.ok → T.dat → T.code.length ≤ 1048576 → vB T v = true → spec_l7Value (view, T.code, v) = some (ersV view T v) := by
  induction T with
  | num =>
    intro v _ _ _ hv
    obtain ⟨N, rfl, _⟩ := vB_num' hv
    rw [Ty.code, spec_l7Value.eq_def]
    simp only [idx0, bs]
    rw [sCopy [] (by simp), bs, sBox, show boxC 0 = false from rfl]
    have := s7_nil view [0] [] ⟨1, N, [], []⟩ [] 0 (by simp)
    rw [show ((0 : Nat) : Int) = 0 from rfl] at this
    rw [bs, if_neg (by decide), bs, if_neg (by decide), this]; rfl
  | bin c a b iha ihb =>
    intro v h hd hl hv
    have P := binP h hl
    have la := P.la
    rw [Ty.code, spec_l7Value.eq_def]
    simp only [idx0, bs]
    rw [sBox]
    rcases hd.1 with rfl | rfl
    · obtain ⟨k, m, rfl, h1, h2⟩ := vB_pair hv
      rw [show boxC 1 = false from rfl, sCopy [] (by simp), bs, bs, if_neg (by decide), bs, if_neg (by decide)]
      have e0 := s7_step (view := view) (ty := 1 :: (a.code ++ b.code)) (r := []) (v := ⟨4, 0, [], [k, m]⟩) (out := []) (k := 0) (by simp) (idx0 ..) P.p0 (iha k P.ok.1 hd.2.1 (by omega) h1) (by simp) (by simp)
      have e1 := s7_step (view := view) (ty := 1 :: (a.code ++ b.code)) (r := []) (v := ⟨4, 0, [], [k, m]⟩) (out := [] ++ [ersV view a k]) (k := 0 + 1) (by simp) (idx1 ..) P.p1 (ihb m P.ok.2 hd.2.2 (by omega) h2) (by simp) (by simp)
      have e2 := s7_nil view (1 :: (a.code ++ b.code)) [] ⟨4, 0, [], [k, m]⟩ ([] ++ [ersV view a k] ++ [ersV view b m]) (0 + 1 + 1) (by simp)
      rw [show ((0 : Nat) : Int) = 0 from rfl] at e0
      rw [e0, e1, e2]
      rfl
    · rw [show boxC 2 = false from rfl]
      rcases vB_sum hv with ⟨k, rfl, h1⟩ | ⟨k, rfl, h1⟩
      · rw [sCopy b.code (by omega), bs, bs, if_neg (by decide), bs, if_neg (by decide)]
        have e0 := s7_step (view := view) (ty := 2 :: (a.code ++ b.code)) (r := b.code) (v := ⟨6, 0, b.code, [k]⟩) (out := []) (k := 0) (by simp) (idx0 ..) P.p0 (iha k P.ok.1 hd.2.1 (by omega) h1) (by simp) (by simp)
        have e1 := s7_nil view (2 :: (a.code ++ b.code)) b.code ⟨6, 0, b.code, [k]⟩ ([] ++ [ersV view a k]) (0 + 1) (by simp)
        rw [show ((0 : Nat) : Int) = 0 from rfl] at e0
        rw [e0, e1]
        rfl
      · rw [sCopy a.code (by omega), bs, bs, if_neg (by decide), bs, if_neg (by decide)]
        have e0 := s7_step (view := view) (ty := 2 :: (a.code ++ b.code)) (r := a.code) (v := ⟨7, 0, a.code, [k]⟩) (out := []) (k := 0) (by simp) (idx0 ..) P.p1 (ihb k P.ok.2 hd.2.2 (by omega) h1) (by simp) (by simp)
        have e1 := s7_nil view (2 :: (a.code ++ b.code)) a.code ⟨7, 0, a.code, [k]⟩ ([] ++ [ersV view b k]) (0 + 1) (by simp)
        rw [show ((0 : Nat) : Int) = 0 from rfl] at e0
        rw [e0, e1]
        rfl
  | un c a ih =>
    intro v h hd hl hv
    have P := unP h hl
    have la := P.la
    obtain ⟨h0, h1, h2, e⟩ := shape_un h.1
    obtain ⟨k, rfl, q⟩ := vB_box hv
    rw [Ty.code, spec_l7Value.eq_def]
    simp only [idx0, bs]
    rw [sBox, h1, sCopy [] (by simp), bs, bs, if_pos rfl, sGrade (by rw [h.1]; decide), bs, sHasL view _ hvw, bs, ersV]
    cases hc : view.contains (gradeC c)
    · rw [Bool.not_false, bs, if_pos rfl, P.p0, bs, sDfl a P.ok (by omega)]; rfl
    · rw [Bool.not_true, bs, if_neg (by decide)]
      have e0 := s7_step (view := view) (ty := c :: a.code) (r := []) (v := ⟨11, gradeC c, [], [k]⟩) (out := []) (k := 0) (by simp) (idx0 ..) P.p0 (ih k P.ok hd (by omega) q) (by simp) (by simp)
      have e1 := s7_nil view (c :: a.code) [] ⟨11, gradeC c, [], [k]⟩ ([] ++ [ersV view a k]) (0 + 1) (by simp)
      rw [show ((0 : Nat) : Int) = 0 from rfl] at e0
      rw [e0, e1]
      rfl
theorem iErs (view : List Int) (hvw : view.length ≤ 1099511627776) (T : Ty) : ∀ v : GTerm, T.ok → T.dat → T.code.length ≤ 1048576 → tms v ≤ 1048576 → vB T v = true → impl_eraseValue (view, T.code, v) = some (ersV view T v) := by
  induction T with
  | num =>
    intro v _ _ _ hm hv
    obtain ⟨N, rfl, _⟩ := vB_num' hv
    rw [Ty.code, impl_eraseValue.eq_def]
    simp only [idx0, bs]
    rw [iShape, iParts_num, iCopyT _ (by omega)]
    rfl
  | bin c a b iha ihb =>
    intro v h hd hl hm hv
    have P := binP h hl
    have la := P.la
    rw [Ty.code, impl_eraseValue.eq_def]
    simp only [idx0, bs]
    rw [P.pp, iShape, iCopyT v (by omega)]
    rcases shape_bin h.1 with ⟨rfl, e⟩ | ⟨rfl, e⟩ | ⟨h0, h1, _, e⟩
    · obtain ⟨k, m, rfl, h1, h2⟩ := vB_pair hv
      simp only [tms, tmss] at hm
      rw [e]
      simp only [bs, idx0, idx1]
      rw [iha k P.ok.1 hd.2.1 (by omega) (by omega) h1, ihb m P.ok.2 hd.2.2 (by omega) (by omega) h2]
      rfl
    · rw [e]
      rcases vB_sum hv with ⟨k, rfl, h1⟩ | ⟨k, rfl, h1⟩
      · simp only [tms, tmss] at hm
        simp only [bs, idx0, idx1, show wr (6 - 6) = 0 from by decide]
        rw [iha k P.ok.1 hd.2.1 (by omega) (by omega) h1]
        rfl
      · simp only [tms, tmss] at hm
        simp only [bs, idx0, idx1, show wr (7 - 6) = 1 from by decide]
        rw [ihb k P.ok.2 hd.2.2 (by omega) (by omega) h1]
        rfl
    · exact absurd hd.1 (by omega)
  | un c a ih =>
    intro v h hd hl hm hv
    have P := unP h hl
    have la := P.la
    obtain ⟨h0, h1, h2, e⟩ := shape_un h.1
    obtain ⟨k, rfl, q⟩ := vB_box hv
    rw [Ty.code, impl_eraseValue.eq_def]
    simp only [idx0, bs]
    rw [P.pp, iShape, e, iCopyT _ (by omega), ersV]
    simp only [tms, tmss] at hm
    simp only [idx0, bs, iContains view _ hvw, ih k P.ok hd (by omega) (by omega) q, iDfl a P.ok (by omega)]
    cases view.contains (gradeC c) <;> rfl
theorem eraseValue_same (s : GSystem) (view ty : List Int) (v : GTerm) (hs : sms s ≤ 1048576) (hvw : view.length ≤ 1048576) (hty : ty.length ≤ 1048576) (hv : tms v ≤ 1048576) (hlv : tln v) : ∃ r b, spec_EraseValue (s, view, ty, v) = some (r, b) ∧ impl_EraseValue (s, view, ty, v) = some (r, b) ∧ tms r ≤ 1099511627776 := by
  unfold spec_EraseValue impl_EraseValue
  simp only
  rw [sIsView s view (by omega), iIsView s view (by omega)]
  have hno : tms noT ≤ 1099511627776 := by simp [noT, tms, tmss]
  generalize (sysB s && ascB s.fSize.toNat none view && vwI s s.fSize.toNat (vIn view (List.replicate s.fSize.toNat false))) = z
  cases z
  · exact ⟨noT, false, rfl, rfl, hno⟩
  · cases h : (isTy s ty && datB ty)
    · rw [(isValue_no v hty h).1, (isValue_no v hty h).2]
      exact ⟨noT, false, rfl, rfl, hno⟩
    · obtain ⟨T, h1, h2, h3, h4⟩ := isTy_tree h
      subst h3
      obtain ⟨x1, x2⟩ := isValue_T v h h1 h2 h4 hv
      rw [x1, x2]
      cases q : vB T v
      · exact ⟨noT, false, rfl, rfl, hno⟩
      · have e1 := sErs view (by omega) T v h1 h2 (by omega) q
        have e2 := iErs view (by omega) T v h1 h2 (by omega) hv q
        have e3 := ersV_tms view T v q
        simp only [bs, if_true, e1, e2, Bool.not_true, Bool.false_eq_true, if_false]
        exact ⟨_, _, rfl, rfl, by omega⟩
theorem eraseValue_true (x0 : GSystem) (x1 : List Int) (x2 : List Int) (x3 : GTerm) (hx0 : sln x0) (hx1 : x1.length ≤ 9223372036854775807) (hx2 : x2.length ≤ 9223372036854775807) (hx3 : tln x3) : laws_FnExactEraseValue (x0, x1, x2, x3) = some true := by
  unfold laws_FnExactEraseValue
  simp only
  by_cases gx1 : x1.length ≤ 1048576
  · rw [decide_eq_false (by omega), if_neg (by decide)]
    by_cases gx2 : x2.length ≤ 1048576
    · rw [decide_eq_false (by omega), if_neg (by decide)]
      rw [szSystem_eq x0 (1048576) hx0 (by omega) (by omega), bs]
      rcases szB_cases (1048576) (sms x0) with ⟨e0, l0⟩ | ⟨e0, l0⟩
      · rw [e0]; rfl
      · rw [e0, decide_eq_false (by omega), if_neg (by decide)]
        rw [szTerm_eq x3 (1048576 - (sms x0 : Int)) hx3 (by omega) (by omega), bs]
        rcases szB_cases (1048576 - (sms x0 : Int)) (tms x3) with ⟨e1, l1⟩ | ⟨e1, l1⟩
        · rw [e1]; rfl
        · rw [e1, decide_eq_false (by omega), if_neg (by decide)]
          have bx0 : sms x0 ≤ 1048576 := by omega
          have bx3 : tms x3 ≤ 1048576 := by omega
          obtain ⟨w0, w1, s1, s2, c0⟩ := eraseValue_same x0 x1 x2 x3 bx0 gx1 gx2 bx3 hx3
          obtain ⟨Mx0, mx0⟩ := markSystem_eq x0 (1) (by omega) (by omega)
          have mx1 := markI x1 (1 + sms x0) (by omega) (by omega)
          have mx2 := markI x2 (1 + sms x0 + x1.length) (by omega) (by omega)
          obtain ⟨Mx3, mx3⟩ := markTerm_only x3 (1 + sms x0 + x1.length + x2.length) (by omega) (by omega)
          have zx3 := mct_le x3
          obtain ⟨N0, n0, n0'⟩ := markTerm_held w0 (1) (by omega) (by omega)
          have y0 := mct_le w0
          rw [show ((1 : Nat) : Int) = 1 from rfl] at mx0 n0 n0'
          simp only [s1, s2, bs, toSystem_sms (s := x0) (by omega), eqSystem_sms (s := x0) (by omega), toIntS_id x1 (by omega), eqIntS_refl x1 (by omega), toIntS_id x2 (by omega), eqIntS_refl x2 (by omega), toTerm_id x3 (by omega), eqTerm_refl x3 (by omega), eqTerm_refl w0 (by omega), mx0, mx1, mx2, mx3, n0, n0' w0.fOp w0.fN, beq_self_b, if_true, if_false, Bool.false_eq_true, bne_self, Bool.not_true, Bool.not_false, beq_self_t, beq_self_eq_true]
          repeat (rw [decide_eq_false (by omega)]; simp only [bs, Bool.false_eq_true, if_false, if_true, bne_self, beq_self_b, Bool.not_true, n0, n0' w0.fOp w0.fN])
    · rw [decide_eq_true (by omega), if_pos rfl]
  · rw [decide_eq_true (by omega), if_pos rfl]
end Go.Am
