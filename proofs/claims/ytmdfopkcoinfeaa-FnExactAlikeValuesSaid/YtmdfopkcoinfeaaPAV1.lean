/- Plain laws of the printed functions. -/
import Derived.Test.YtmdfopkcoinfeaaPAV0
set_option linter.unusedSimpArgs false
set_option linter.unusedVariables false
namespace Go.Am
theorem sIsValue_no {s : GSystem} {ty : List Int} (v : GTerm) (hty : ty.length ≤ 1048576) (h : (isTy s ty && datB ty) = false) : spec_IsValue (s, ty, v) = some false := by
  unfold spec_IsValue
  simp only
  rw [sIsData s ty (by omega), h]
  rfl
theorem sIsValue_T {s : GSystem} {T : Ty} (v : GTerm) (h : (isTy s T.code && datB T.code) = true) (h1 : T.ok) (h2 : T.dat) (h4 : T.code.length ≤ 40) (hv : tms v ≤ 1048576) : spec_IsValue (s, T.code, v) = some (vB T v) := by
  unfold spec_IsValue
  simp only
  rw [sIsData s T.code (by omega), h]
  rw [bs, if_pos rfl]
  have e := sIsTerm s v 0 (by decide) (by omega)
  rw [show ((0 : Nat) : Int) = 0 from rfl] at e
  rw [e, bs]
  cases ht : trmB s v 0
  · have : vB T v = false := by
      rw [Bool.eq_false_iff]
      intro hb
      unfold isTy typB at h
      simp only [Bool.and_eq_true] at h
      have T' := sysB_tab h.1.1
      have hc := h.1.2.2
      rw [show codB s = gokC s.fSize true from funext fun c => codB_tab T'] at hc
      obtain ⟨p, q⟩ := vB_ok _ _ T v 0 h2 (allTy_of h1 h4 hc) hb
      unfold trmB at ht
      rw [h.1.1, decide_eq_true (by omega), p] at ht
      cases ht
    rw [this]; rfl
  · rw [if_pos rfl]
    unfold trmB at ht
    rw [Bool.and_eq_true] at ht
    rw [sVal _ _ T v 0 h1 h2 (by omega) ht.2]; rfl
theorem isValue_no {s : GSystem} {ty : List Int} (v : GTerm) (hty : ty.length ≤ 1048576) (h : (isTy s ty && datB ty) = false) : spec_IsValue (s, ty, v) = some false ∧ impl_IsValue (s, ty, v) = some false := by
  refine ⟨sIsValue_no v hty h, ?_⟩
  unfold impl_IsValue
  simp only
  rw [iIsData s ty (by omega), h]
  rfl
theorem isValue_T {s : GSystem} {T : Ty} (v : GTerm) (h : (isTy s T.code && datB T.code) = true) (h1 : T.ok) (h2 : T.dat) (h4 : T.code.length ≤ 40) (hv : tms v ≤ 1048576) : spec_IsValue (s, T.code, v) = some (vB T v) ∧ impl_IsValue (s, T.code, v) = some (vB T v) := by
  refine ⟨sIsValue_T v h h1 h2 h4 hv, ?_⟩
  unfold impl_IsValue
  simp only
  rw [iIsData s T.code (by omega), h]
  rw [bs, if_pos rfl, iVal T v h1 h2 (by omega)]
  rfl
theorem b10 : ((1 : Int) == 0) = false := rfl
theorem b11 : ((1 : Int) == 1) = true := rfl
theorem sAlk (view : List Int) (hvw : view.length ≤ 1099511627776) (T : Ty) : ∀ v w : GTerm, T.ok → T.dat → T.code.length ≤ 1048576 → vB T v = true → vB T w = true → spec_l7Alike (view, T.code, v, w) = some (alkV view T v w) := by
  induction T with
  | num => intro v w _ _ _ _ _; rw [spec_l7Alike.eq_def]; rfl
  | bin c a b iha ihb =>
    intro v w h hd hl hv hw
    have P := binP h hl
    have la := P.la
    rw [Ty.code, spec_l7Alike.eq_def]
    simp only [idx0, bs]
    rw [P.p0, P.p1, alkV]
    rcases hd.1 with rfl | rfl
    · obtain ⟨k, m, rfl, h1, h2⟩ := vB_pair hv
      obtain ⟨k', m', rfl, h1', h2'⟩ := vB_pair hw
      simp only [idx0, idx1, bs, b10, b11, Bool.false_eq_true, if_false, if_true, kidAt, List.getD_cons_zero, List.getD_cons_succ]
      rw [iha k k' P.ok.1 hd.2.1 (by omega) h1 h1', ihb m m' P.ok.2 hd.2.2 (by omega) h2 h2']
      cases alkV view a k k' <;> rfl
    · simp only [d20, d21, d22, Bool.false_eq_true, if_false, if_true, show ¬ (2 : Int) = 1 from by decide]
      rcases vB_sum hv with ⟨k, rfl, h1⟩ | ⟨k, rfl, h1⟩
      · rcases vB_sum hw with ⟨k', rfl, h1'⟩ | ⟨k', rfl, h1'⟩
        · simp [idx0, bs, kidAt, P.p0, iha k k' P.ok.1 hd.2.1 (by omega) h1 h1']
        · simp [idx0, bs, kidAt, P.p0]
      · rcases vB_sum hw with ⟨k', rfl, h1'⟩ | ⟨k', rfl, h1'⟩
        · simp [idx0, bs, kidAt, P.p1]
        · simp [idx0, bs, kidAt, P.p1, ihb k k' P.ok.2 hd.2.2 (by omega) h1 h1']
  | un c a ih =>
    intro v w h hd hl hv hw
    have P := unP h hl
    have la := P.la
    obtain ⟨h0, h1, h2, e⟩ := shape_un h.1
    obtain ⟨k, rfl, q⟩ := vB_box hv
    obtain ⟨k', rfl, q'⟩ := vB_box hw
    rw [Ty.code, spec_l7Alike.eq_def]
    simp only [idx0, bs]
    rw [beq_eq_false_iff_ne.2 h0.1, beq_eq_false_iff_ne.2 h0.2.1, beq_eq_false_iff_ne.2 h0.2.2, sGrade (by rw [h.1]; decide), P.p0, alkV]
    simp only [idx0, bs, Bool.false_eq_true, if_false, sHasL view _ hvw, ih k k' P.ok hd (by omega) q q', kidAt, List.getD_cons_zero]
    cases view.contains (gradeC c) <;> rfl
theorem iAlk (view : List Int) (hvw : view.length ≤ 1099511627776) (T : Ty) : ∀ v w : GTerm, T.ok → T.dat → T.code.length ≤ 1048576 → vB T v = true → vB T w = true → impl_alike (view, T.code, v, w) = some (alkV view T v w) := by
  induction T with
  | num => intro v w _ _ _ _ _; rw [impl_alike.eq_def, Ty.code]; simp only [idx0, bs]; rw [iShape, iParts_num]; rfl
  | bin c a b iha ihb =>
    intro v w h hd hl hv hw
    have P := binP h hl
    have la := P.la
    rw [Ty.code, impl_alike.eq_def]
    simp only [idx0, bs]
    rw [P.pp, alkV, iShape]
    rcases shape_bin h.1 with ⟨rfl, e⟩ | ⟨rfl, e⟩ | ⟨h0, h1, _, e⟩
    · obtain ⟨k, m, rfl, h1, h2⟩ := vB_pair hv
      obtain ⟨k', m', rfl, h1', h2'⟩ := vB_pair hw
      rw [e]
      simp only [idx0, idx1, bs, b10, b11, Bool.false_eq_true, if_false, if_true, kidAt, List.getD_cons_zero, List.getD_cons_succ]
      rw [iha k k' P.ok.1 hd.2.1 (by omega) h1 h1', ihb m m' P.ok.2 hd.2.2 (by omega) h2 h2']
      cases alkV view a k k' <;> rfl
    · rw [e]
      have e0 : wr 0 = 0 := by decide
      have e1 : wr 1 = 1 := by decide
      simp only [d20, d21, d22, bs, Bool.false_eq_true, if_false, if_true, show ¬ (2 : Int) = 1 from by decide]
      rcases vB_sum hv with ⟨k, rfl, h1⟩ | ⟨k, rfl, h1⟩
      · rcases vB_sum hw with ⟨k', rfl, h1'⟩ | ⟨k', rfl, h1'⟩
        · simp [idx0, idx1, bs, kidAt, e0, iha k k' P.ok.1 hd.2.1 (by omega) h1 h1']
        · simp [idx0, idx1, bs, kidAt, e0]
      · rcases vB_sum hw with ⟨k', rfl, h1'⟩ | ⟨k', rfl, h1'⟩
        · simp [idx0, idx1, bs, kidAt, e1]
        · simp [idx0, idx1, bs, kidAt, e1, ihb k k' P.ok.2 hd.2.2 (by omega) h1 h1']
    · exact absurd hd.1 (by omega)
  | un c a ih =>
    intro v w h hd hl hv hw
    have P := unP h hl
    have la := P.la
    obtain ⟨h0, h1, h2, e⟩ := shape_un h.1
    obtain ⟨k, rfl, q⟩ := vB_box hv
    obtain ⟨k', rfl, q'⟩ := vB_box hw
    rw [Ty.code, impl_alike.eq_def]
    simp only [idx0, bs]
    rw [P.pp, iShape, e, alkV]
    simp only [idx0, bs, iContains view _ hvw, ih k k' P.ok hd (by omega) q q', kidAt, List.getD_cons_zero]
    cases view.contains (gradeC c) <;> rfl
theorem alikeValues_same (s : GSystem) (view ty : List Int) (v w : GTerm) (hs : sms s ≤ 1048576) (hvw : view.length ≤ 1048576) (hty : ty.length ≤ 1048576) (hv : tms v ≤ 1048576) (hlv : tln v) (hw : tms w ≤ 1048576) (hlw : tln w) : ∃ r, spec_AlikeValues (s, view, ty, v, w) = some r ∧ impl_AlikeValues (s, view, ty, v, w) = some r := by
  unfold spec_AlikeValues impl_AlikeValues
  simp only
  rw [sIsView s view (by omega), iIsView s view (by omega)]
  generalize (sysB s && ascB s.fSize.toNat none view && vwI s s.fSize.toNat (vIn view (List.replicate s.fSize.toNat false))) = z
  cases z
  · exact ⟨false, rfl, rfl⟩
  · cases h : (isTy s ty && datB ty)
    · rw [(isValue_no v hty h).1, (isValue_no v hty h).2]
      exact ⟨false, rfl, rfl⟩
    · obtain ⟨T, h1, h2, h3, h4⟩ := isTy_tree h
      subst h3
      obtain ⟨x1, x2⟩ := isValue_T v h h1 h2 h4 hv
      obtain ⟨y1, y2⟩ := isValue_T w h h1 h2 h4 hw
      rw [x1, x2, y1, y2]
      cases q : vB T v
      · exact ⟨false, rfl, rfl⟩
      · cases q' : vB T w
        · exact ⟨false, rfl, rfl⟩
        · have e1 := sAlk view (by omega) T v w h1 h2 (by omega) q q'
          have e2 := iAlk view (by omega) T v w h1 h2 (by omega) q q'
          simp only [bs, if_true, e1, e2]
          exact ⟨_, rfl, rfl⟩
theorem alikeValues_true (x0 : GSystem) (x1 : List Int) (x2 : List Int) (x3 : GTerm) (x4 : GTerm) (hx0 : sln x0) (hx1 : x1.length ≤ 9223372036854775807) (hx2 : x2.length ≤ 9223372036854775807) (hx3 : tln x3) (hx4 : tln x4) : laws_FnExactAlikeValues (x0, x1, x2, x3, x4) = some true := by
  unfold laws_FnExactAlikeValues
  simp only
  by_cases gx1 : x1.length ≤ 1048576
  · rw [decide_eq_false (by omega), if_neg (by decide)]
    by_cases gx2 : x2.length ≤ 1048576
    · rw [decide_eq_false (by omega), if_neg (by decide)]
      rw [szSystem_eq x0 (1048576) hx0 (by omega) (by omega), bs]
      rcases szB_cases (1048576) (sms x0) with ⟨e0, l0⟩ | ⟨e0, l0⟩
      · rw [e0]; rfl
      · rw [e0, decide_eq_false (by omega), if_neg (by decide)]
        rw [szTerm_eq x3 (1048576 - (sms x0 : Int)) hx3 (by omega) (by omega), bs]
        rcases szB_cases (1048576 - (sms x0 : Int)) (tms x3) with ⟨e1, l1⟩ | ⟨e1, l1⟩
        · rw [e1]; rfl
        · rw [e1, decide_eq_false (by omega), if_neg (by decide)]
          rw [szTerm_eq x4 (1048576 - (sms x0 : Int) - (tms x3 : Int)) hx4 (by omega) (by omega), bs]
          rcases szB_cases (1048576 - (sms x0 : Int) - (tms x3 : Int)) (tms x4) with ⟨e2, l2⟩ | ⟨e2, l2⟩
          · rw [e2]; rfl
          · rw [e2, decide_eq_false (by omega), if_neg (by decide)]
            have bx0 : sms x0 ≤ 1048576 := by omega
            have bx3 : tms x3 ≤ 1048576 := by omega
            have bx4 : tms x4 ≤ 1048576 := by omega
            obtain ⟨w0, s1, s2⟩ := alikeValues_same x0 x1 x2 x3 x4 bx0 gx1 gx2 bx3 hx3 bx4 hx4
            simp only [s1, s2, bs, toSystem_sms (s := x0) (by omega), eqSystem_sms (s := x0) (by omega), toIntS_id x1 (by omega), eqIntS_refl x1 (by omega), toIntS_id x2 (by omega), eqIntS_refl x2 (by omega), toTerm_id x3 (by omega), eqTerm_refl x3 (by omega), toTerm_id x4 (by omega), eqTerm_refl x4 (by omega), beq_self_b, if_true, if_false, Bool.false_eq_true, bne_self, Bool.not_true, Bool.not_false, beq_self_t, beq_self_eq_true]
    · rw [decide_eq_true (by omega), if_pos rfl]
  · rw [decide_eq_true (by omega), if_pos rfl]
end Go.Am
