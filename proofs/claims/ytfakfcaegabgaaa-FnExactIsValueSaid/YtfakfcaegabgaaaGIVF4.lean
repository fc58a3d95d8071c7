/- Functions of the program as pure functions, and that it computes them. Printed by a program of mine (gen.py). -/
import Derived.Test.YtfakfcaegabgaaaGIVF3
set_option linter.unusedVariables false
set_option linter.unusedSimpArgs false
set_option maxRecDepth 100000
namespace Go.Am
open Go Go.Proofs
def impl_isDataOf_c1 (c0 : Int) : Option (Bool) :=
    (impl_shape c0) >>= fun (r_1_1_0, r_1_1_1) =>
    some (r_1_1_0 == 3)
def M_impl_isDataOf_c1 (c0 : Int) (r : Bool) : Prop :=
  FnSound Try.prog 159 [.int .i64 c0] (.bool r) []
theorem impl_isDataOf_c1_s : ∀ p r, impl_isDataOf_c1 p = some r → M_impl_isDataOf_c1 p r := by
  rintro c0 r h
  unfold impl_isDataOf_c1 at h
  show FnSound Try.prog 159 [.int .i64 c0] (.bool r) []
  refine FnSound.body0 tiok (fn := Try.f159) (code := B159) (by kernel_rfl) (by kernel_rfl) (by kernel_rfl) (by kernel_rfl) (nt := 12) (by kernel_rfl) (by kernel_rfl) (T := [(0, .int .i64 c0)]) (O := []) (by kernel_rfl) (by kernel_rfl) (fun c hc => ?_)
  refine Wp.seqN (by kernel_rfl) ?_
  refine Wp.reg tiok mix hc (by kernel_rfl) (ah := none) (rs := [some (.no)]) (kt := [0]) (ko := []) (T' := [(0, .int .i64 c0)]) (O' := []) (by kernel_rfl) trivial (by kernel_rfl) (by kernel_rfl) ?_
  refine seqQ_norm ?_
  refine Wp.seqN (by kernel_rfl) ?_
  obtain ⟨⟨r_1_1_0, r_1_1_1⟩, hr_1_1, h⟩ := bsome h
  refine Wp.reg tiok mix hc (by kernel_rfl) (ah := none) (rs := [some (.no), some (.call (.tup [.int .i64 r_1_1_0, .int .i64 r_1_1_1]) [] 1), some (.no), some (.no), some (.no), some (.no), some (.no)]) (kt := [3]) (ko := []) (T' := [(3, .int .i64 r_1_1_0)]) (O' := []) (by kernel_rfl) (And.intro (impl_shape_s _ _ hr_1_1) (And.intro bod_103 (And.intro (Or.inl rfl : ([] : List Nat) = [] ∨ noSh (.tup [.int .i64 r_1_1_0, .int .i64 r_1_1_1]) = true) trivial))) (by kernel_rfl) (by kernel_rfl) ?_
  refine seqQ_norm ?_
  refine Wp.seqN (by kernel_rfl) ?_
  refine Wp.reg tiok mix hc (by kernel_rfl) (ah := none) (rs := [some (.no), some (.no), some (.no)]) (kt := [2]) (ko := []) (T' := [(2, .bool (r_1_1_0 == 3))]) (O' := []) (by kernel_rfl) trivial (by kernel_rfl) (by kernel_rfl) ?_
  refine seqQ_norm ?_
  refine Wp.retN (by kernel_rfl) ?_
  obtain rfl := Option.some.inj h
  exact RetQ.ret (fl := [true]) (by kernel_rfl)
def slices_IndexFunc_int_Kimpl_isDataOf_c1_F1 (c : Ctx) : (Unit) ⊕ (Int) → Exit → AState → Prop
  | .inl _ => Into c (.exit 0) (mkS [] [])
  | .inr r => RetE TIx Try.f113 [] (.int .i64 r)
def slices_IndexFunc_int_Kimpl_isDataOf_c1_l0 (p : (List Int) × Int) : Option ((Unit) ⊕ (Int)) :=
  match p with
  | (s0, w_3) =>
    if (decide (w_3 < (s0.length : Int))) = true then
      (idx s0 w_3) >>= fun e_4_3 =>
      (impl_isDataOf_c1 e_4_3) >>= fun r_4_5 =>
      if r_4_5 = true then
        some (.inr w_3)
      else
        slices_IndexFunc_int_Kimpl_isDataOf_c1_l0 (s0, (wr (w_3 + 1)))
    else
      some (.inl ())
  partial_fixpoint
def M_slices_IndexFunc_int_Kimpl_isDataOf_c1_l0 (p : (List Int) × Int) (fl : (Unit) ⊕ (Int)) : Prop :=
  match p with
  | (s0, w_3) => ∀ c : Ctx, c.nt = 19 → WpL Try.prog c (cl (cl (cr (cl (cr B113))))) (slices_IndexFunc_int_Kimpl_isDataOf_c1_F1 c fl) (mkS [(0, .sl (List.map I s0)), (1, .fn 159 []), (7, .int .i64 (s0.length : Int)), (8, .int .i64 w_3)] [])
theorem slices_IndexFunc_int_Kimpl_isDataOf_c1_l0_s : ∀ p r, slices_IndexFunc_int_Kimpl_isDataOf_c1_l0 p = some r → M_slices_IndexFunc_int_Kimpl_isDataOf_c1_l0 p r := by
  refine slices_IndexFunc_int_Kimpl_isDataOf_c1_l0.partial_correctness M_slices_IndexFunc_int_Kimpl_isDataOf_c1_l0 ?_
  rintro slices_IndexFunc_int_Kimpl_isDataOf_c1_l0_f slices_IndexFunc_int_Kimpl_isDataOf_c1_l0_ih ⟨s0, w_3⟩ r h
  intro c hc
  show WpL Try.prog c (cl (cl (cr (cl (cr B113))))) (slices_IndexFunc_int_Kimpl_isDataOf_c1_F1 c r) (mkS [(0, .sl (List.map I s0)), (1, .fn 159 []), (7, .int .i64 (s0.length : Int)), (8, .int .i64 w_3)] [])
  refine WpL.step ?_
  refine Wp.seqN (by kernel_rfl) ?_
  refine Wp.reg tiok mix hc (by kernel_rfl) (ah := none) (rs := [some (.no)]) (kt := [0, 1, 7, 8, 9]) (ko := []) (T' := [(0, .sl (List.map I s0)), (1, .fn 159 []), (7, .int .i64 (s0.length : Int)), (8, .int .i64 w_3), (9, .bool (decide (w_3 < (s0.length : Int))))]) (O' := []) (by kernel_rfl) trivial (by kernel_rfl) (by kernel_rfl) ?_
  refine seqQ_norm ?_
  refine Wp.seqN (by kernel_rfl) ?_
  rcases itesome h with ⟨hb_4, h⟩ | ⟨hb_4, h⟩
  · refine Wp.condT (b := (decide (w_3 < (s0.length : Int)))) (by kernel_rfl) (by kernel_rfl) hb_4 ?_
    refine Wp.skipN (by kernel_rfl) ?_
    refine seqQ_norm ?_
    refine Wp.seqN (by kernel_rfl) ?_
    refine Wp.blockN (i := 1) (by kernel_rfl) ?_
    refine Wp.seqN (by kernel_rfl) ?_
    refine Wp.reg tiok mix hc (by kernel_rfl) (ah := none) (rs := [some (.no), some (.no)]) (kt := [0, 1, 5, 7, 8]) (ko := []) (T' := [(0, .sl (List.map I s0)), (1, .fn 159 []), (5, .int .i64 w_3), (7, .int .i64 (s0.length : Int)), (8, .int .i64 w_3)]) (O' := []) (by kernel_rfl) trivial (by kernel_rfl) (by kernel_rfl) ?_
    refine seqQ_norm ?_
    refine Wp.seqN (by kernel_rfl) ?_
    obtain ⟨e_4_3, hi_4_3, h⟩ := bsome h
    obtain ⟨r_4_5, hr_4_5, h⟩ := bsome h
    refine Wp.reg tiok mix hc (by kernel_rfl) (ah := none) (rs := [some (.no), some (.no), some (.no), some (.el (.int .i64 e_4_3)), some (.no), some (.call (.bool r_4_5) [] 1)]) (kt := [0, 1, 5, 7, 8, 16]) (ko := []) (T' := [(0, .sl (List.map I s0)), (1, .fn 159 []), (5, .int .i64 w_3), (7, .int .i64 (s0.length : Int)), (8, .int .i64 w_3), (16, .bool r_4_5)]) (O' := []) (by kernel_rfl) (And.intro (idx_sl (enc := I) (x := .int .i64 e_4_3) hi_4_3 (eq_I e_4_3)) (And.intro (impl_isDataOf_c1_s _ _ hr_4_5) (And.intro bod_159 (And.intro (Or.inl rfl : ([] : List Nat) = [] ∨ noSh (.bool r_4_5) = true) trivial)))) (by kernel_rfl) (by kernel_rfl) ?_
    refine seqQ_norm ?_
    rcases itesome h with ⟨hb_5, h⟩ | ⟨hb_5, h⟩
    · refine Wp.condT (b := r_4_5) (by kernel_rfl) (by kernel_rfl) hb_5 ?_
      refine Wp.seqN (by kernel_rfl) ?_
      refine Wp.reg tiok mix hc (by kernel_rfl) (ah := none) (rs := [some (.no), some (.no)]) (kt := [4]) (ko := []) (T' := [(4, .int .i64 w_3)]) (O' := []) (by kernel_rfl) trivial (by kernel_rfl) (by kernel_rfl) ?_
      refine seqQ_norm ?_
      refine Wp.retN (by kernel_rfl) ?_
      refine blockQ_ret ?_
      refine seqQ_ret ?_
      refine loopQ_ret ?_
      obtain rfl := Option.some.inj h
      exact RetE.ret (fl := [true]) (by kernel_rfl)
    · refine Wp.condF (b := r_4_5) (by kernel_rfl) (by kernel_rfl) hb_5 ?_
      refine Wp.skipN (by kernel_rfl) ?_
      refine blockQ_norm ?_
      refine seqQ_norm ?_
      refine Wp.reg tiok mix hc (by kernel_rfl) (ah := none) (rs := [some (.no), some (.no)]) (kt := [0, 1, 7, 8]) (ko := []) (T' := [(0, .sl (List.map I s0)), (1, .fn 159 []), (7, .int .i64 (s0.length : Int)), (8, .int .i64 (wr (w_3 + 1)))]) (O' := []) (by kernel_rfl) trivial (by kernel_rfl) (by kernel_rfl) ?_
      refine loopQ_norm ?_
      exact (slices_IndexFunc_int_Kimpl_isDataOf_c1_l0_ih _ _ h c hc)
  · refine Wp.condF (b := (decide (w_3 < (s0.length : Int)))) (by kernel_rfl) (by kernel_rfl) hb_4 ?_
    refine Wp.exitN (i := 0) (by kernel_rfl) ?_
    refine seqQ_exit ?_
    refine loopQ_exit ?_
    obtain rfl := Option.some.inj h
    exact Into.view (fun a w hv => SRx.renL [] hv (by kernel_rfl) (by kernel_rfl) (by kernel_rfl))
def slices_IndexFunc_int_Kimpl_isDataOf_c1 (s0 : (List Int)) : Option (Int) :=
    (slices_IndexFunc_int_Kimpl_isDataOf_c1_l0 (s0, 0)) >>= fun fl => match fl with
    | .inl () =>
      some (-1)
    | .inr r =>
      some r
def M_slices_IndexFunc_int_Kimpl_isDataOf_c1 (s0 : (List Int)) (r : Int) : Prop :=
  FnSound Try.prog 113 [.sl (List.map I s0), .fn 159 []] (.int .i64 r) []
theorem slices_IndexFunc_int_Kimpl_isDataOf_c1_s : ∀ p r, slices_IndexFunc_int_Kimpl_isDataOf_c1 p = some r → M_slices_IndexFunc_int_Kimpl_isDataOf_c1 p r := by
  rintro s0 r h
  unfold slices_IndexFunc_int_Kimpl_isDataOf_c1 at h
  show FnSound Try.prog 113 [.sl (List.map I s0), .fn 159 []] (.int .i64 r) []
  refine FnSound.body0 tiok (fn := Try.f113) (code := B113) (by kernel_rfl) (by kernel_rfl) (by kernel_rfl) (by kernel_rfl) (nt := 19) (by kernel_rfl) (by kernel_rfl) (T := [(0, .sl (List.map I s0)), (1, .fn 159 [])]) (O := []) (by kernel_rfl) (by kernel_rfl) (fun c hc => ?_)
  refine Wp.seqN (by kernel_rfl) ?_
  refine Wp.reg tiok mix hc (by kernel_rfl) (ah := none) (rs := [some (.no)]) (kt := [0, 1]) (ko := []) (T' := [(0, .sl (List.map I s0)), (1, .fn 159 [])]) (O' := []) (by kernel_rfl) trivial (by kernel_rfl) (by kernel_rfl) ?_
  refine seqQ_norm ?_
  refine Wp.seqN (by kernel_rfl) ?_
  refine Wp.seqN (by kernel_rfl) ?_
  refine Wp.reg tiok mix hc (by kernel_rfl) (ah := none) (rs := [some (.no), some (.eqv (.no) ⟨[(7, .int .i64 (s0.length : Int))], [], []⟩), some (.no)]) (kt := [0, 1, 7, 8]) (ko := []) (T' := [(0, .sl (List.map I s0)), (1, .fn 159 []), (7, .int .i64 (s0.length : Int)), (8, .int .i64 0)]) (O' := []) (by kernel_rfl) (And.intro (lenT (d := 7) I s0) trivial) (by kernel_rfl) (by kernel_rfl) ?_
  refine seqQ_norm ?_
  refine Wp.blockN (i := 0) (by kernel_rfl) ?_
  obtain ⟨fl, hl_6, h⟩ := bsome h
  have hL := slices_IndexFunc_int_Kimpl_isDataOf_c1_l0_s _ _ hl_6 c hc
  refine Wp.loopN (by kernel_rfl) ?_
  rcases fl with ⟨⟩ | r
  · refine WpL.into (e := (.exit 0)) (mkS [] []) hL ?_
    refine blockQ_hit ?_
    refine seqQ_norm ?_
    refine Wp.seqN (by kernel_rfl) ?_
    refine Wp.reg tiok mix hc (by kernel_rfl) (ah := none) (rs := [some (.no)]) (kt := [4]) (ko := []) (T' := [(4, .int .i64 (-1))]) (O' := []) (by kernel_rfl) trivial (by kernel_rfl) (by kernel_rfl) ?_
    refine seqQ_norm ?_
    refine Wp.retN (by kernel_rfl) ?_
    obtain rfl := Option.some.inj h
    exact RetQ.ret (fl := [true]) (by kernel_rfl)
  · refine WpL.mono hL ?_
    rintro _ _ ⟨rfl, hfin⟩
    refine blockQ_ret ?_
    refine seqQ_ret ?_
    obtain rfl := Option.some.inj h
    exact ⟨.inl rfl, hfin⟩
def slices_ContainsFunc_int_Kimpl_isDataOf_c1 (s0 : (List Int)) : Option (Bool) :=
    (slices_IndexFunc_int_Kimpl_isDataOf_c1 s0) >>= fun r_1_2 =>
    some (decide (r_1_2 ≥ 0))
def M_slices_ContainsFunc_int_Kimpl_isDataOf_c1 (s0 : (List Int)) (r : Bool) : Prop :=
  FnSound Try.prog 62 [.sl (List.map I s0), .fn 159 []] (.bool r) []
theorem slices_ContainsFunc_int_Kimpl_isDataOf_c1_s : ∀ p r, slices_ContainsFunc_int_Kimpl_isDataOf_c1 p = some r → M_slices_ContainsFunc_int_Kimpl_isDataOf_c1 p r := by
  rintro s0 r h
  unfold slices_ContainsFunc_int_Kimpl_isDataOf_c1 at h
  show FnSound Try.prog 62 [.sl (List.map I s0), .fn 159 []] (.bool r) []
  refine FnSound.body0 tiok (fn := Try.f62) (code := B62) (by kernel_rfl) (by kernel_rfl) (by kernel_rfl) (by kernel_rfl) (nt := 9) (by kernel_rfl) (by kernel_rfl) (T := [(0, .sl (List.map I s0)), (1, .fn 159 [])]) (O := []) (by kernel_rfl) (by kernel_rfl) (fun c hc => ?_)
  refine Wp.seqN (by kernel_rfl) ?_
  refine Wp.reg tiok mix hc (by kernel_rfl) (ah := none) (rs := [some (.no)]) (kt := [0, 1]) (ko := []) (T' := [(0, .sl (List.map I s0)), (1, .fn 159 [])]) (O' := []) (by kernel_rfl) trivial (by kernel_rfl) (by kernel_rfl) ?_
  refine seqQ_norm ?_
  refine Wp.seqN (by kernel_rfl) ?_
  obtain ⟨r_1_2, hr_1_2, h⟩ := bsome h
  refine Wp.reg tiok mix hc (by kernel_rfl) (ah := none) (rs := [some (.no), some (.no), some (.call (.int .i64 r_1_2) [] 1), some (.no), some (.no)]) (kt := [4]) (ko := []) (T' := [(4, .bool (decide (r_1_2 ≥ 0)))]) (O' := []) (by kernel_rfl) (And.intro (slices_IndexFunc_int_Kimpl_isDataOf_c1_s _ _ hr_1_2) (And.intro bod_113 (And.intro (Or.inl rfl : ([] : List Nat) = [] ∨ noSh (.int .i64 r_1_2) = true) trivial))) (by kernel_rfl) (by kernel_rfl) ?_
  refine seqQ_norm ?_
  refine Wp.retN (by kernel_rfl) ?_
  obtain rfl := Option.some.inj h
  exact RetQ.ret (fl := [true]) (by kernel_rfl)
def impl_isDataOf (p : GSystem × (List Int)) : Option (Bool) :=
  match p with
  | (s0, ty1) =>
    (
      (impl_isTypeOf (s0, ty1)) >>= fun r_1_2 =>
      if r_1_2 = true then
        (slices_ContainsFunc_int_Kimpl_isDataOf_c1 ty1) >>= fun r_1_5 =>
        some ((!r_1_5))
      else
        some (false)
    ) >>= fun v_1 =>
    some v_1
def M_impl_isDataOf (p : GSystem × (List Int)) (r : Bool) : Prop :=
  match p with
  | (s0, ty1) => FnSound Try.prog 123 [.agg [.int .i64 s0.fSize, .sl (List.map I s0.fPlus), .sl (List.map I s0.fTimes), .sl (List.map AV.bool s0.fBelow)], .sl (List.map I ty1)] (.bool r) []
theorem impl_isDataOf_s : ∀ p r, impl_isDataOf p = some r → M_impl_isDataOf p r := by
  rintro ⟨s0, ty1⟩ r h
  unfold impl_isDataOf at h
  show FnSound Try.prog 123 [.agg [.int .i64 s0.fSize, .sl (List.map I s0.fPlus), .sl (List.map I s0.fTimes), .sl (List.map AV.bool s0.fBelow)], .sl (List.map I ty1)] (.bool r) []
  refine FnSound.body0 tiok (fn := Try.f123) (code := B123) (by kernel_rfl) (by kernel_rfl) (by kernel_rfl) (by kernel_rfl) (nt := 13) (by kernel_rfl) (by kernel_rfl) (T := [(0, .agg [.int .i64 s0.fSize, .sl (List.map I s0.fPlus), .sl (List.map I s0.fTimes), .sl (List.map AV.bool s0.fBelow)]), (1, .sl (List.map I ty1))]) (O := []) (by kernel_rfl) (by kernel_rfl) (fun c hc => ?_)
  refine Wp.seqN (by kernel_rfl) ?_
  refine Wp.reg tiok mix hc (by kernel_rfl) (ah := none) (rs := [some (.new 1), some (.no)]) (kt := [1, 2]) (ko := [1]) (T' := [(1, .sl (List.map I ty1)), (2, .ra 1 0)]) (O' := [(1, .box [.int .i64 s0.fSize, .sl (List.map I s0.fPlus), .sl (List.map I s0.fTimes), .sl (List.map AV.bool s0.fBelow)])]) (by kernel_rfl) trivial (by kernel_rfl) (by kernel_rfl) ?_
  refine seqQ_norm ?_
  refine Wp.seqN (by kernel_rfl) ?_
  obtain ⟨v_1, hj_2, h⟩ := bsome h
  refine Wp.into (x := .normal) (mkS [(4, .bool v_1)] []) ?_ ?_
  · replace h := hj_2
    obtain ⟨r_1_2, hr_1_2, h⟩ := bsome h
    rcases itesome h with ⟨hb_1_0, h⟩ | ⟨hb_1_0, h⟩
    · obtain ⟨r_1_5, hr_1_5, h⟩ := bsome h
      refine Wp.reg tiok mix hc (by kernel_rfl) (ah := none) (rs := [some (.no), some (.no), some (.call (.bool r_1_2) [] 1), some (.no), some (.no), some (.call (.bool r_1_5) [] 1), some (.no), some (.cond true), some (.no)]) (kt := [4]) (ko := []) (T' := [(4, .bool (!r_1_5))]) (O' := []) (by kernel_rfl) (And.intro (impl_isTypeOf_s _ _ hr_1_2) (And.intro bod_102 (And.intro (Or.inl rfl : ([] : List Nat) = [] ∨ noSh (.bool r_1_2) = true) (And.intro hb_1_0 (And.intro hb_1_0 (And.intro (slices_ContainsFunc_int_Kimpl_isDataOf_c1_s _ _ hr_1_5) (And.intro bod_62 (And.intro (Or.inl rfl : ([] : List Nat) = [] ∨ noSh (.bool r_1_5) = true) (And.intro hb_1_0 (And.intro hb_1_0 trivial)))))))))) (by kernel_rfl) (by kernel_rfl) ?_
      obtain rfl := Option.some.inj h
      exact Into.mk
    · refine Wp.reg tiok mix hc (by kernel_rfl) (ah := none) (rs := [some (.no), some (.no), some (.call (.bool r_1_2) [] 1), some (.no), none, none, none, some (.cond false), some (.no)]) (kt := [4]) (ko := []) (T' := [(4, .bool false)]) (O' := []) (by kernel_rfl) (And.intro (impl_isTypeOf_s _ _ hr_1_2) (And.intro bod_102 (And.intro (Or.inl rfl : ([] : List Nat) = [] ∨ noSh (.bool r_1_2) = true) (And.intro (neT hb_1_0 : r_1_2 ≠ true) (And.intro (neT hb_1_0 : r_1_2 ≠ true) (And.intro (neT hb_1_0 : r_1_2 ≠ true) (And.intro hb_1_0 trivial))))))) (by kernel_rfl) (by kernel_rfl) ?_
      obtain rfl := Option.some.inj h
      exact Into.mk
  · clear hj_2
    refine seqQ_norm ?_
    refine Wp.retN (by kernel_rfl) ?_
    obtain rfl := Option.some.inj h
    exact RetQ.ret (fl := [true]) (by kernel_rfl)
def impl_Systemplus (p : GSystem × Int × Int) : Option (Int) :=
  match p with
  | (s0, a1, b2) =>
    (idx s0.fPlus (wr ((wr (a1 * s0.fSize)) + b2))) >>= fun e_1_8 =>
    some e_1_8
def M_impl_Systemplus (p : GSystem × Int × Int) (r : Int) : Prop :=
  match p with
  | (s0, a1, b2) => FnSound Try.prog 137 [.agg [.int .i64 s0.fSize, .sl (List.map I s0.fPlus), .sl (List.map I s0.fTimes), .sl (List.map AV.bool s0.fBelow)], .int .i64 a1, .int .i64 b2] (.int .i64 r) []
theorem impl_Systemplus_s : ∀ p r, impl_Systemplus p = some r → M_impl_Systemplus p r := by
  rintro ⟨s0, a1, b2⟩ r h
  unfold impl_Systemplus at h
  show FnSound Try.prog 137 [.agg [.int .i64 s0.fSize, .sl (List.map I s0.fPlus), .sl (List.map I s0.fTimes), .sl (List.map AV.bool s0.fBelow)], .int .i64 a1, .int .i64 b2] (.int .i64 r) []
  refine FnSound.body0 tiok (fn := Try.f137) (code := B137) (by kernel_rfl) (by kernel_rfl) (by kernel_rfl) (by kernel_rfl) (nt := 17) (by kernel_rfl) (by kernel_rfl) (T := [(0, .agg [.int .i64 s0.fSize, .sl (List.map I s0.fPlus), .sl (List.map I s0.fTimes), .sl (List.map AV.bool s0.fBelow)]), (1, .int .i64 a1), (2, .int .i64 b2)]) (O := []) (by kernel_rfl) (by kernel_rfl) (fun c hc => ?_)
  refine Wp.seqN (by kernel_rfl) ?_
  refine Wp.reg tiok mix hc (by kernel_rfl) (ah := none) (rs := [some (.new 1), some (.no)]) (kt := [1, 2, 3]) (ko := [1]) (T' := [(1, .int .i64 a1), (2, .int .i64 b2), (3, .ra 1 0)]) (O' := [(1, .box [.int .i64 s0.fSize, .sl (List.map I s0.fPlus), .sl (List.map I s0.fTimes), .sl (List.map AV.bool s0.fBelow)])]) (by kernel_rfl) trivial (by kernel_rfl) (by kernel_rfl) ?_
  refine seqQ_norm ?_
  refine Wp.seqN (by kernel_rfl) ?_
  obtain ⟨e_1_8, hi_1_8, h⟩ := bsome h
  refine Wp.reg tiok mix hc (by kernel_rfl) (ah := none) (rs := [some (.no), some (.no), some (.no), some (.no), some (.no), some (.no), some (.no), some (.no), some (.el (.int .i64 e_1_8)), some (.no), some (.no)]) (kt := [6]) (ko := []) (T' := [(6, .int .i64 e_1_8)]) (O' := []) (by kernel_rfl) (And.intro (idx_sl (enc := I) (x := .int .i64 e_1_8) hi_1_8 (eq_I e_1_8)) trivial) (by kernel_rfl) (by kernel_rfl) ?_
  refine seqQ_norm ?_
  refine Wp.retN (by kernel_rfl) ?_
  obtain rfl := Option.some.inj h
  exact RetQ.ret (fl := [true]) (by kernel_rfl)
def impl_Systemtimes (p : GSystem × Int × Int) : Option (Int) :=
  match p with
  | (s0, a1, b2) =>
    (idx s0.fTimes (wr ((wr (a1 * s0.fSize)) + b2))) >>= fun e_1_8 =>
    some e_1_8
def M_impl_Systemtimes (p : GSystem × Int × Int) (r : Int) : Prop :=
  match p with
  | (s0, a1, b2) => FnSound Try.prog 138 [.agg [.int .i64 s0.fSize, .sl (List.map I s0.fPlus), .sl (List.map I s0.fTimes), .sl (List.map AV.bool s0.fBelow)], .int .i64 a1, .int .i64 b2] (.int .i64 r) []
theorem impl_Systemtimes_s : ∀ p r, impl_Systemtimes p = some r → M_impl_Systemtimes p r := by
  rintro ⟨s0, a1, b2⟩ r h
  unfold impl_Systemtimes at h
  show FnSound Try.prog 138 [.agg [.int .i64 s0.fSize, .sl (List.map I s0.fPlus), .sl (List.map I s0.fTimes), .sl (List.map AV.bool s0.fBelow)], .int .i64 a1, .int .i64 b2] (.int .i64 r) []
  refine FnSound.body0 tiok (fn := Try.f138) (code := B138) (by kernel_rfl) (by kernel_rfl) (by kernel_rfl) (by kernel_rfl) (nt := 17) (by kernel_rfl) (by kernel_rfl) (T := [(0, .agg [.int .i64 s0.fSize, .sl (List.map I s0.fPlus), .sl (List.map I s0.fTimes), .sl (List.map AV.bool s0.fBelow)]), (1, .int .i64 a1), (2, .int .i64 b2)]) (O := []) (by kernel_rfl) (by kernel_rfl) (fun c hc => ?_)
  refine Wp.seqN (by kernel_rfl) ?_
  refine Wp.reg tiok mix hc (by kernel_rfl) (ah := none) (rs := [some (.new 1), some (.no)]) (kt := [1, 2, 3]) (ko := [1]) (T' := [(1, .int .i64 a1), (2, .int .i64 b2), (3, .ra 1 0)]) (O' := [(1, .box [.int .i64 s0.fSize, .sl (List.map I s0.fPlus), .sl (List.map I s0.fTimes), .sl (List.map AV.bool s0.fBelow)])]) (by kernel_rfl) trivial (by kernel_rfl) (by kernel_rfl) ?_
  refine seqQ_norm ?_
  refine Wp.seqN (by kernel_rfl) ?_
  obtain ⟨e_1_8, hi_1_8, h⟩ := bsome h
  refine Wp.reg tiok mix hc (by kernel_rfl) (ah := none) (rs := [some (.no), some (.no), some (.no), some (.no), some (.no), some (.no), some (.no), some (.no), some (.el (.int .i64 e_1_8)), some (.no), some (.no)]) (kt := [6]) (ko := []) (T' := [(6, .int .i64 e_1_8)]) (O' := []) (by kernel_rfl) (And.intro (idx_sl (enc := I) (x := .int .i64 e_1_8) hi_1_8 (eq_I e_1_8)) trivial) (by kernel_rfl) (by kernel_rfl) ?_
  refine seqQ_norm ?_
  refine Wp.retN (by kernel_rfl) ?_
  obtain rfl := Option.some.inj h
  exact RetQ.ret (fl := [true]) (by kernel_rfl)
def impl_Systembelow (p : GSystem × Int × Int) : Option (Bool) :=
  match p with
  | (s0, a1, b2) =>
    (idx s0.fBelow (wr ((wr (a1 * s0.fSize)) + b2))) >>= fun e_1_8 =>
    some e_1_8
def M_impl_Systembelow (p : GSystem × Int × Int) (r : Bool) : Prop :=
  match p with
  | (s0, a1, b2) => FnSound Try.prog 139 [.agg [.int .i64 s0.fSize, .sl (List.map I s0.fPlus), .sl (List.map I s0.fTimes), .sl (List.map AV.bool s0.fBelow)], .int .i64 a1, .int .i64 b2] (.bool r) []
theorem impl_Systembelow_s : ∀ p r, impl_Systembelow p = some r → M_impl_Systembelow p r := by
  rintro ⟨s0, a1, b2⟩ r h
  unfold impl_Systembelow at h
  show FnSound Try.prog 139 [.agg [.int .i64 s0.fSize, .sl (List.map I s0.fPlus), .sl (List.map I s0.fTimes), .sl (List.map AV.bool s0.fBelow)], .int .i64 a1, .int .i64 b2] (.bool r) []
  refine FnSound.body0 tiok (fn := Try.f139) (code := B139) (by kernel_rfl) (by kernel_rfl) (by kernel_rfl) (by kernel_rfl) (nt := 17) (by kernel_rfl) (by kernel_rfl) (T := [(0, .agg [.int .i64 s0.fSize, .sl (List.map I s0.fPlus), .sl (List.map I s0.fTimes), .sl (List.map AV.bool s0.fBelow)]), (1, .int .i64 a1), (2, .int .i64 b2)]) (O := []) (by kernel_rfl) (by kernel_rfl) (fun c hc => ?_)
  refine Wp.seqN (by kernel_rfl) ?_
  refine Wp.reg tiok mix hc (by kernel_rfl) (ah := none) (rs := [some (.new 1), some (.no)]) (kt := [1, 2, 3]) (ko := [1]) (T' := [(1, .int .i64 a1), (2, .int .i64 b2), (3, .ra 1 0)]) (O' := [(1, .box [.int .i64 s0.fSize, .sl (List.map I s0.fPlus), .sl (List.map I s0.fTimes), .sl (List.map AV.bool s0.fBelow)])]) (by kernel_rfl) trivial (by kernel_rfl) (by kernel_rfl) ?_
  refine seqQ_norm ?_
  refine Wp.seqN (by kernel_rfl) ?_
  obtain ⟨e_1_8, hi_1_8, h⟩ := bsome h
  refine Wp.reg tiok mix hc (by kernel_rfl) (ah := none) (rs := [some (.no), some (.no), some (.no), some (.no), some (.no), some (.no), some (.no), some (.no), some (.el (.bool e_1_8)), some (.no), some (.no)]) (kt := [6]) (ko := []) (T' := [(6, .bool e_1_8)]) (O' := []) (by kernel_rfl) (And.intro (idx_sl (enc := AV.bool) (x := .bool e_1_8) hi_1_8 (eq_B e_1_8)) trivial) (by kernel_rfl) (by kernel_rfl) ?_
  refine seqQ_norm ?_
  refine Wp.retN (by kernel_rfl) ?_
  obtain rfl := Option.some.inj h
  exact RetQ.ret (fl := [true]) (by kernel_rfl)
def impl_Systemjoin_F1 (c : Ctx) (s0 : GSystem) (a1 : Int) (b2 : Int) (g_17 : Int) : Bool → Exit → AState → Prop
  | least_30 => Into c (.exit 2) (mkS [(1, .int .i64 a1), (2, .int .i64 b2), (3, .ra 1 0), (7, .int .i64 g_17), (8, .bool least_30)] [(1, .box [.int .i64 s0.fSize, .sl (List.map I s0.fPlus), .sl (List.map I s0.fTimes), .sl (List.map AV.bool s0.fBelow)])])
def impl_Systemjoin_l0 (p : GSystem × Int × Int × Int × Bool × Int) : Option (Bool) :=
  match p with
  | (s0, a1, b2, g_17, least_25, h_26) =>
    if (decide (h_26 < s0.fSize)) = true then
      (
        if least_25 = true then
          (impl_Systembelow (s0, a1, h_26)) >>= fun r_9_5 =>
          if r_9_5 = true then
            (impl_Systembelow (s0, b2, h_26)) >>= fun r_9_11 =>
            if r_9_11 = true then
              (impl_Systembelow (s0, g_17, h_26)) >>= fun r_9_18 =>
              some (r_9_18)
            else
              some (true)
          else
            some (true)
        else
          some (false)
      ) >>= fun least_28 =>
      impl_Systemjoin_l0 (s0, a1, b2, g_17, least_28, (wr (h_26 + 1)))
    else
      some (least_25)
  partial_fixpoint
def M_impl_Systemjoin_l0 (p : GSystem × Int × Int × Int × Bool × Int) (fl : Bool) : Prop :=
  match p with
  | (s0, a1, b2, g_17, least_25, h_26) => ∀ c : Ctx, c.nt = 57 → WpL Try.prog c (cl (cl (cr (cl (cr (cr (cl (cl (cr (cl (cl (cr (cl (cr B140)))))))))))))) (impl_Systemjoin_F1 c s0 a1 b2 g_17 fl) (mkS [(1, .int .i64 a1), (2, .int .i64 b2), (3, .ra 1 0), (7, .int .i64 g_17), (8, .bool least_25), (9, .int .i64 h_26)] [(1, .box [.int .i64 s0.fSize, .sl (List.map I s0.fPlus), .sl (List.map I s0.fTimes), .sl (List.map AV.bool s0.fBelow)])])
theorem impl_Systemjoin_l0_s : ∀ p r, impl_Systemjoin_l0 p = some r → M_impl_Systemjoin_l0 p r := by
  refine impl_Systemjoin_l0.partial_correctness M_impl_Systemjoin_l0 ?_
  rintro impl_Systemjoin_l0_f impl_Systemjoin_l0_ih ⟨s0, a1, b2, g_17, least_25, h_26⟩ r h
  intro c hc
  show WpL Try.prog c (cl (cl (cr (cl (cr (cr (cl (cl (cr (cl (cl (cr (cl (cr B140)))))))))))))) (impl_Systemjoin_F1 c s0 a1 b2 g_17 r) (mkS [(1, .int .i64 a1), (2, .int .i64 b2), (3, .ra 1 0), (7, .int .i64 g_17), (8, .bool least_25), (9, .int .i64 h_26)] [(1, .box [.int .i64 s0.fSize, .sl (List.map I s0.fPlus), .sl (List.map I s0.fTimes), .sl (List.map AV.bool s0.fBelow)])])
  refine WpL.step ?_
  refine Wp.seqN (by kernel_rfl) ?_
  refine Wp.seqN (by kernel_rfl) ?_
  refine Wp.reg tiok mix hc (by kernel_rfl) (ah := none) (rs := [some (.no), some (.no), some (.no), some (.no)]) (kt := [1, 2, 3, 7, 8, 9, 31]) (ko := [1]) (T' := [(1, .int .i64 a1), (2, .int .i64 b2), (3, .ra 1 0), (7, .int .i64 g_17), (8, .bool least_25), (9, .int .i64 h_26), (31, .bool (decide (h_26 < s0.fSize)))]) (O' := [(1, .box [.int .i64 s0.fSize, .sl (List.map I s0.fPlus), .sl (List.map I s0.fTimes), .sl (List.map AV.bool s0.fBelow)])]) (by kernel_rfl) trivial (by kernel_rfl) (by kernel_rfl) ?_
  refine seqQ_norm ?_
  rcases itesome h with ⟨hb_27, h⟩ | ⟨hb_27, h⟩
  · refine Wp.condT (b := (decide (h_26 < s0.fSize))) (by kernel_rfl) (by kernel_rfl) hb_27 ?_
    refine Wp.skipN (by kernel_rfl) ?_
    refine seqQ_norm ?_
    refine Wp.seqN (by kernel_rfl) ?_
    refine Wp.blockN (i := 3) (by kernel_rfl) ?_
    obtain ⟨least_28, hj_29, h⟩ := bsome h
    refine Wp.into (x := .normal) (mkS [(1, .int .i64 a1), (2, .int .i64 b2), (3, .ra 1 0), (7, .int .i64 g_17), (8, .bool least_28), (9, .int .i64 h_26)] [(1, .box [.int .i64 s0.fSize, .sl (List.map I s0.fPlus), .sl (List.map I s0.fTimes), .sl (List.map AV.bool s0.fBelow)])]) ?_ ?_
    · replace h := hj_29
      rcases itesome h with ⟨hb_9_0, h⟩ | ⟨hb_9_0, h⟩
      · obtain ⟨r_9_5, hr_9_5, h⟩ := bsome h
        rcases itesome h with ⟨hb_9_1, h⟩ | ⟨hb_9_1, h⟩
        · obtain ⟨r_9_11, hr_9_11, h⟩ := bsome h
          rcases itesome h with ⟨hb_9_2, h⟩ | ⟨hb_9_2, h⟩
          · obtain ⟨r_9_18, hr_9_18, h⟩ := bsome h
            refine Wp.reg tiok mix hc (by kernel_rfl) (ah := none) (rs := [some (.no), some (.no), some (.no), some (.no), some (.no), some (.call (.bool r_9_5) [] 1), some (.no), some (.no), some (.no), some (.no), some (.no), some (.call (.bool r_9_11) [] 1), some (.no), some (.cond false), some (.no), some (.no), some (.no), some (.no), some (.call (.bool r_9_18) [] 1), some (.cond false), some (.cond true), some (.no)]) (kt := [1, 2, 3, 7, 8, 9]) (ko := [1]) (T' := [(1, .int .i64 a1), (2, .int .i64 b2), (3, .ra 1 0), (7, .int .i64 g_17), (8, .bool r_9_18), (9, .int .i64 h_26)]) (O' := [(1, .box [.int .i64 s0.fSize, .sl (List.map I s0.fPlus), .sl (List.map I s0.fTimes), .sl (List.map AV.bool s0.fBelow)])]) (by kernel_rfl) (And.intro hb_9_0 (And.intro hb_9_0 (And.intro hb_9_0 (And.intro hb_9_0 (And.intro (impl_Systembelow_s _ _ hr_9_5) (And.intro bod_139 (And.intro (Or.inl rfl : ([] : List Nat) = [] ∨ noSh (.bool r_9_5) = true) (And.intro hb_9_0 (And.intro hb_9_0 (And.intro (nF hb_9_1) (And.intro (nF hb_9_1) (And.intro (nF hb_9_1) (And.intro (nF hb_9_1) (And.intro (impl_Systembelow_s _ _ hr_9_11) (And.intro bod_139 (And.intro (Or.inl rfl : ([] : List Nat) = [] ∨ noSh (.bool r_9_11) = true) (And.intro (nF hb_9_1) (And.intro hb_9_0 (And.intro (nF hb_9_1) (And.intro hb_9_0 (And.intro (nF hb_9_2) (And.intro (nF hb_9_2) (And.intro (nF hb_9_2) (And.intro (nF hb_9_2) (And.intro (impl_Systembelow_s _ _ hr_9_18) (And.intro bod_139 (And.intro (Or.inl rfl : ([] : List Nat) = [] ∨ noSh (.bool r_9_18) = true) (And.intro hb_9_0 (And.intro (nF hb_9_2) (And.intro hb_9_0 trivial)))))))))))))))))))))))))))))) (by kernel_rfl) (by kernel_rfl) ?_
            obtain rfl := Option.some.inj h
            exact Into.mk
          · refine Wp.reg tiok mix hc (by kernel_rfl) (ah := none) (rs := [some (.no), some (.no), some (.no), some (.no), some (.no), some (.call (.bool r_9_5) [] 1), some (.no), some (.no), some (.no), some (.no), some (.no), some (.call (.bool r_9_11) [] 1), some (.no), some (.cond false), some (.no), none, none, none, none, some (.cond true), some (.cond true), some (.no)]) (kt := [1, 2, 3, 7, 8, 9]) (ko := [1]) (T' := [(1, .int .i64 a1), (2, .int .i64 b2), (3, .ra 1 0), (7, .int .i64 g_17), (8, .bool true), (9, .int .i64 h_26)]) (O' := [(1, .box [.int .i64 s0.fSize, .sl (List.map I s0.fPlus), .sl (List.map I s0.fTimes), .sl (List.map AV.bool s0.fBelow)])]) (by kernel_rfl) (And.intro hb_9_0 (And.intro hb_9_0 (And.intro hb_9_0 (And.intro hb_9_0 (And.intro (impl_Systembelow_s _ _ hr_9_5) (And.intro bod_139 (And.intro (Or.inl rfl : ([] : List Nat) = [] ∨ noSh (.bool r_9_5) = true) (And.intro hb_9_0 (And.intro hb_9_0 (And.intro (nF hb_9_1) (And.intro (nF hb_9_1) (And.intro (nF hb_9_1) (And.intro (nF hb_9_1) (And.intro (impl_Systembelow_s _ _ hr_9_11) (And.intro bod_139 (And.intro (Or.inl rfl : ([] : List Nat) = [] ∨ noSh (.bool r_9_11) = true) (And.intro (nF hb_9_1) (And.intro hb_9_0 (And.intro (nF hb_9_1) (And.intro hb_9_0 (And.intro (neF (nT hb_9_2) : (!r_9_11) ≠ false) (And.intro (neF (nT hb_9_2) : (!r_9_11) ≠ false) (And.intro (neF (nT hb_9_2) : (!r_9_11) ≠ false) (And.intro (neF (nT hb_9_2) : (!r_9_11) ≠ false) (And.intro hb_9_0 (And.intro (nT hb_9_2) (And.intro hb_9_0 trivial))))))))))))))))))))))))))) (by kernel_rfl) (by kernel_rfl) ?_
            obtain rfl := Option.some.inj h
            exact Into.mk
        · refine Wp.reg tiok mix hc (by kernel_rfl) (ah := none) (rs := [some (.no), some (.no), some (.no), some (.no), some (.no), some (.call (.bool r_9_5) [] 1), some (.no), some (.no), none, none, none, none, none, some (.cond true), some (.no), none, none, none, none, some (.cond true), some (.cond true), some (.no)]) (kt := [1, 2, 3, 7, 8, 9]) (ko := [1]) (T' := [(1, .int .i64 a1), (2, .int .i64 b2), (3, .ra 1 0), (7, .int .i64 g_17), (8, .bool true), (9, .int .i64 h_26)]) (O' := [(1, .box [.int .i64 s0.fSize, .sl (List.map I s0.fPlus), .sl (List.map I s0.fTimes), .sl (List.map AV.bool s0.fBelow)])]) (by kernel_rfl) (And.intro hb_9_0 (And.intro hb_9_0 (And.intro hb_9_0 (And.intro hb_9_0 (And.intro (impl_Systembelow_s _ _ hr_9_5) (And.intro bod_139 (And.intro (Or.inl rfl : ([] : List Nat) = [] ∨ noSh (.bool r_9_5) = true) (And.intro hb_9_0 (And.intro hb_9_0 (And.intro (neF (nT hb_9_1) : (!r_9_5) ≠ false) (And.intro (neF (nT hb_9_1) : (!r_9_5) ≠ false) (And.intro (neF (nT hb_9_1) : (!r_9_5) ≠ false) (And.intro (neF (nT hb_9_1) : (!r_9_5) ≠ false) (And.intro (neF (nT hb_9_1) : (!r_9_5) ≠ false) (And.intro hb_9_0 (And.intro (nT hb_9_1) (And.intro hb_9_0 (And.intro (neF (rfl : true = true) : true ≠ false) (And.intro (neF (rfl : true = true) : true ≠ false) (And.intro (neF (rfl : true = true) : true ≠ false) (And.intro (neF (rfl : true = true) : true ≠ false) (And.intro hb_9_0 (And.intro (rfl : true = true) (And.intro hb_9_0 trivial)))))))))))))))))))))))) (by kernel_rfl) (by kernel_rfl) ?_
          obtain rfl := Option.some.inj h
          exact Into.mk
      · refine Wp.reg tiok mix hc (by kernel_rfl) (ah := none) (rs := [some (.no), some (.no), none, none, none, none, none, none, none, none, none, none, none, none, none, none, none, none, none, none, some (.cond false), some (.no)]) (kt := [1, 2, 3, 7, 8, 9]) (ko := [1]) (T' := [(1, .int .i64 a1), (2, .int .i64 b2), (3, .ra 1 0), (7, .int .i64 g_17), (8, .bool false), (9, .int .i64 h_26)]) (O' := [(1, .box [.int .i64 s0.fSize, .sl (List.map I s0.fPlus), .sl (List.map I s0.fTimes), .sl (List.map AV.bool s0.fBelow)])]) (by kernel_rfl) (And.intro (neT hb_9_0 : least_25 ≠ true) (And.intro (neT hb_9_0 : least_25 ≠ true) (And.intro (neT hb_9_0 : least_25 ≠ true) (And.intro (neT hb_9_0 : least_25 ≠ true) (And.intro (neT hb_9_0 : least_25 ≠ true) (And.intro (neT hb_9_0 : least_25 ≠ true) (And.intro (neT hb_9_0 : least_25 ≠ true) (And.intro (neT hb_9_0 : least_25 ≠ true) (And.intro (neT hb_9_0 : least_25 ≠ true) (And.intro hb_9_0 trivial)))))))))) (by kernel_rfl) (by kernel_rfl) ?_
        obtain rfl := Option.some.inj h
        exact Into.mk
    · clear hj_29
      refine blockQ_norm ?_
      refine seqQ_norm ?_
      refine Wp.reg tiok mix hc (by kernel_rfl) (ah := none) (rs := [some (.no), some (.no), some (.no)]) (kt := [1, 2, 3, 7, 8, 9]) (ko := [1]) (T' := [(1, .int .i64 a1), (2, .int .i64 b2), (3, .ra 1 0), (7, .int .i64 g_17), (8, .bool least_28), (9, .int .i64 (wr (h_26 + 1)))]) (O' := [(1, .box [.int .i64 s0.fSize, .sl (List.map I s0.fPlus), .sl (List.map I s0.fTimes), .sl (List.map AV.bool s0.fBelow)])]) (by kernel_rfl) trivial (by kernel_rfl) (by kernel_rfl) ?_
      refine loopQ_norm ?_
      exact (impl_Systemjoin_l0_ih _ _ h c hc)
  · refine Wp.condF (b := (decide (h_26 < s0.fSize))) (by kernel_rfl) (by kernel_rfl) hb_27 ?_
    refine Wp.exitN (i := 2) (by kernel_rfl) ?_
    refine seqQ_exit ?_
    refine loopQ_exit ?_
    obtain rfl := Option.some.inj h
    exact Into.view (fun a w hv => SRx.renL [] hv (by kernel_rfl) (by kernel_rfl) (by kernel_rfl))
def impl_Systemjoin_F2 (c : Ctx) (s0 : GSystem) (a1 : Int) (b2 : Int) (g_17 : Int) : (Unit) ⊕ (Int) → Exit → AState → Prop
  | .inl _ => Into c .normal (mkS [(1, .int .i64 a1), (2, .int .i64 b2), (3, .ra 1 0), (7, .int .i64 g_17)] [(1, .box [.int .i64 s0.fSize, .sl (List.map I s0.fPlus), .sl (List.map I s0.fTimes), .sl (List.map AV.bool s0.fBelow)])])
  | .inr r => RetE TIx Try.f140 [] (.int .i64 r)
def impl_Systemjoin_F3 (c : Ctx) : (Unit) ⊕ (Int) → Exit → AState → Prop
  | .inl _ => Into c (.exit 0) (mkS [] [])
  | .inr r => RetE TIx Try.f140 [] (.int .i64 r)
def impl_Systemjoin_l1 (p : GSystem × Int × Int × Int) : Option ((Unit) ⊕ (Int)) :=
  match p with
  | (s0, a1, b2, g_17) =>
    if (decide (g_17 < s0.fSize)) = true then
      ((
        (
          (impl_Systembelow (s0, a1, g_17)) >>= fun r_4_3 =>
          if r_4_3 = true then
            (impl_Systembelow (s0, b2, g_17)) >>= fun r_4_9 =>
            some ((!r_4_9))
          else
            some (true)
        ) >>= fun v_19 =>
        if v_19 = true then
          some (.inl ())
        else
          (impl_Systemjoin_l0 (s0, a1, b2, g_17, true, 0)) >>= fun least_30 =>
          if least_30 = true then
            some (.inr g_17)
          else
            some (.inl ())) : Option ((Unit) ⊕ (Int))) >>= fun fl => match fl with
      | .inl () =>
        impl_Systemjoin_l1 (s0, a1, b2, (wr (g_17 + 1)))
      | .inr r =>
        some (.inr r)
    else
      some (.inl ())
  partial_fixpoint
def M_impl_Systemjoin_l1 (p : GSystem × Int × Int × Int) (fl : (Unit) ⊕ (Int)) : Prop :=
  match p with
  | (s0, a1, b2, g_17) => ∀ c : Ctx, c.nt = 57 → WpL Try.prog c (cl (cl (cr (cl (cr B140))))) (impl_Systemjoin_F3 c fl) (mkS [(1, .int .i64 a1), (2, .int .i64 b2), (3, .ra 1 0), (7, .int .i64 g_17)] [(1, .box [.int .i64 s0.fSize, .sl (List.map I s0.fPlus), .sl (List.map I s0.fTimes), .sl (List.map AV.bool s0.fBelow)])])
theorem impl_Systemjoin_l1_s : ∀ p r, impl_Systemjoin_l1 p = some r → M_impl_Systemjoin_l1 p r := by
  refine impl_Systemjoin_l1.partial_correctness M_impl_Systemjoin_l1 ?_
  rintro impl_Systemjoin_l1_f impl_Systemjoin_l1_ih ⟨s0, a1, b2, g_17⟩ r h
  intro c hc
  show WpL Try.prog c (cl (cl (cr (cl (cr B140))))) (impl_Systemjoin_F3 c r) (mkS [(1, .int .i64 a1), (2, .int .i64 b2), (3, .ra 1 0), (7, .int .i64 g_17)] [(1, .box [.int .i64 s0.fSize, .sl (List.map I s0.fPlus), .sl (List.map I s0.fTimes), .sl (List.map AV.bool s0.fBelow)])])
  refine WpL.step ?_
  refine Wp.seqN (by kernel_rfl) ?_
  refine Wp.seqN (by kernel_rfl) ?_
  refine Wp.reg tiok mix hc (by kernel_rfl) (ah := none) (rs := [some (.no), some (.no), some (.no), some (.no)]) (kt := [1, 2, 3, 7, 13]) (ko := [1]) (T' := [(1, .int .i64 a1), (2, .int .i64 b2), (3, .ra 1 0), (7, .int .i64 g_17), (13, .bool (decide (g_17 < s0.fSize)))]) (O' := [(1, .box [.int .i64 s0.fSize, .sl (List.map I s0.fPlus), .sl (List.map I s0.fTimes), .sl (List.map AV.bool s0.fBelow)])]) (by kernel_rfl) trivial (by kernel_rfl) (by kernel_rfl) ?_
  refine seqQ_norm ?_
  rcases itesome h with ⟨hb_18, h⟩ | ⟨hb_18, h⟩
  · refine Wp.condT (b := (decide (g_17 < s0.fSize))) (by kernel_rfl) (by kernel_rfl) hb_18 ?_
    refine Wp.skipN (by kernel_rfl) ?_
    refine seqQ_norm ?_
    refine Wp.seqN (by kernel_rfl) ?_
    obtain ⟨fl, hj_33, h⟩ := bsome h
    have hF : Wp Try.prog c (cl (cr (cl (cl (cr (cl (cr B140))))))) (impl_Systemjoin_F2 c s0 a1 b2 g_17 fl) (mkS [(1, .int .i64 a1), (2, .int .i64 b2), (3, .ra 1 0), (7, .int .i64 g_17), (13, .bool (decide (g_17 < s0.fSize)))] [(1, .box [.int .i64 s0.fSize, .sl (List.map I s0.fPlus), .sl (List.map I s0.fTimes), .sl (List.map AV.bool s0.fBelow)])]) := by
      replace h := hj_33
      refine Wp.blockN (i := 1) (by kernel_rfl) ?_
      refine Wp.seqN (by kernel_rfl) ?_
      refine Wp.seqN (by kernel_rfl) ?_
      obtain ⟨v_19, hj_20, h⟩ := bsome h
      refine Wp.into (x := .normal) (mkS [(1, .int .i64 a1), (2, .int .i64 b2), (3, .ra 1 0), (7, .int .i64 g_17), (27, .bool v_19)] [(1, .box [.int .i64 s0.fSize, .sl (List.map I s0.fPlus), .sl (List.map I s0.fTimes), .sl (List.map AV.bool s0.fBelow)])]) ?_ ?_
      · replace h := hj_20
        obtain ⟨r_4_3, hr_4_3, h⟩ := bsome h
        rcases itesome h with ⟨hb_4_0, h⟩ | ⟨hb_4_0, h⟩
        · obtain ⟨r_4_9, hr_4_9, h⟩ := bsome h
          refine Wp.reg tiok mix hc (by kernel_rfl) (ah := none) (rs := [some (.no), some (.no), some (.no), some (.call (.bool r_4_3) [] 1), some (.no), some (.no), some (.no), some (.no), some (.no), some (.call (.bool r_4_9) [] 1), some (.no), some (.cond false)]) (kt := [1, 2, 3, 7, 27]) (ko := [1]) (T' := [(1, .int .i64 a1), (2, .int .i64 b2), (3, .ra 1 0), (7, .int .i64 g_17), (27, .bool (!r_4_9))]) (O' := [(1, .box [.int .i64 s0.fSize, .sl (List.map I s0.fPlus), .sl (List.map I s0.fTimes), .sl (List.map AV.bool s0.fBelow)])]) (by kernel_rfl) (And.intro (impl_Systembelow_s _ _ hr_4_3) (And.intro bod_139 (And.intro (Or.inl rfl : ([] : List Nat) = [] ∨ noSh (.bool r_4_3) = true) (And.intro (nF hb_4_0) (And.intro (nF hb_4_0) (And.intro (nF hb_4_0) (And.intro (nF hb_4_0) (And.intro (impl_Systembelow_s _ _ hr_4_9) (And.intro bod_139 (And.intro (Or.inl rfl : ([] : List Nat) = [] ∨ noSh (.bool r_4_9) = true) (And.intro (nF hb_4_0) (And.intro (nF hb_4_0) trivial)))))))))))) (by kernel_rfl) (by kernel_rfl) ?_
          obtain rfl := Option.some.inj h
          exact Into.mk
        · refine Wp.reg tiok mix hc (by kernel_rfl) (ah := none) (rs := [some (.no), some (.no), some (.no), some (.call (.bool r_4_3) [] 1), some (.no), some (.no), none, none, none, none, none, some (.cond true)]) (kt := [1, 2, 3, 7, 27]) (ko := [1]) (T' := [(1, .int .i64 a1), (2, .int .i64 b2), (3, .ra 1 0), (7, .int .i64 g_17), (27, .bool true)]) (O' := [(1, .box [.int .i64 s0.fSize, .sl (List.map I s0.fPlus), .sl (List.map I s0.fTimes), .sl (List.map AV.bool s0.fBelow)])]) (by kernel_rfl) (And.intro (impl_Systembelow_s _ _ hr_4_3) (And.intro bod_139 (And.intro (Or.inl rfl : ([] : List Nat) = [] ∨ noSh (.bool r_4_3) = true) (And.intro (neF (nT hb_4_0) : (!r_4_3) ≠ false) (And.intro (neF (nT hb_4_0) : (!r_4_3) ≠ false) (And.intro (neF (nT hb_4_0) : (!r_4_3) ≠ false) (And.intro (neF (nT hb_4_0) : (!r_4_3) ≠ false) (And.intro (neF (nT hb_4_0) : (!r_4_3) ≠ false) (And.intro (nT hb_4_0) trivial))))))))) (by kernel_rfl) (by kernel_rfl) ?_
          obtain rfl := Option.some.inj h
          exact Into.mk
      · clear hj_20
        refine seqQ_norm ?_
        rcases itesome h with ⟨hb_21, h⟩ | ⟨hb_21, h⟩
        · refine Wp.condT (b := v_19) (by kernel_rfl) (by kernel_rfl) hb_21 ?_
          refine Wp.exitN (i := 1) (by kernel_rfl) ?_
          refine seqQ_exit ?_
          refine blockQ_hit ?_
          obtain rfl := Option.some.inj h
          exact Into.view (fun a w hv => SRx.renL [] hv (by kernel_rfl) (by kernel_rfl) (by kernel_rfl))
        · refine Wp.condF (b := v_19) (by kernel_rfl) (by kernel_rfl) hb_21 ?_
          refine Wp.skipN (by kernel_rfl) ?_
          refine seqQ_norm ?_
          refine Wp.seqN (by kernel_rfl) ?_
          refine Wp.reg tiok mix hc (by kernel_rfl) (ah := none) (rs := [some (.no)]) (kt := [1, 2, 3, 7, 8]) (ko := [1]) (T' := [(1, .int .i64 a1), (2, .int .i64 b2), (3, .ra 1 0), (7, .int .i64 g_17), (8, .bool true)]) (O' := [(1, .box [.int .i64 s0.fSize, .sl (List.map I s0.fPlus), .sl (List.map I s0.fTimes), .sl (List.map AV.bool s0.fBelow)])]) (by kernel_rfl) trivial (by kernel_rfl) (by kernel_rfl) ?_
          refine seqQ_norm ?_
          refine Wp.seqN (by kernel_rfl) ?_
          refine Wp.seqN (by kernel_rfl) ?_
          refine Wp.reg tiok mix hc (by kernel_rfl) (ah := none) (rs := [some (.no)]) (kt := [1, 2, 3, 7, 8, 9]) (ko := [1]) (T' := [(1, .int .i64 a1), (2, .int .i64 b2), (3, .ra 1 0), (7, .int .i64 g_17), (8, .bool true), (9, .int .i64 0)]) (O' := [(1, .box [.int .i64 s0.fSize, .sl (List.map I s0.fPlus), .sl (List.map I s0.fTimes), .sl (List.map AV.bool s0.fBelow)])]) (by kernel_rfl) trivial (by kernel_rfl) (by kernel_rfl) ?_
          refine seqQ_norm ?_
          refine Wp.blockN (i := 2) (by kernel_rfl) ?_
          obtain ⟨least_30, hl_31, h⟩ := bsome h
          have hL := impl_Systemjoin_l0_s _ _ hl_31 c hc
          refine Wp.loopN (by kernel_rfl) ?_
          · refine WpL.into (e := (.exit 2)) (mkS [(1, .int .i64 a1), (2, .int .i64 b2), (3, .ra 1 0), (7, .int .i64 g_17), (8, .bool least_30)] [(1, .box [.int .i64 s0.fSize, .sl (List.map I s0.fPlus), .sl (List.map I s0.fTimes), .sl (List.map AV.bool s0.fBelow)])]) hL ?_
            refine blockQ_hit ?_
            refine seqQ_norm ?_
            refine Wp.seqN (by kernel_rfl) ?_
            refine Wp.reg tiok mix hc (by kernel_rfl) (ah := none) (rs := [some (.no)]) (kt := [1, 2, 3, 7, 55]) (ko := [1]) (T' := [(1, .int .i64 a1), (2, .int .i64 b2), (3, .ra 1 0), (7, .int .i64 g_17), (55, .bool least_30)]) (O' := [(1, .box [.int .i64 s0.fSize, .sl (List.map I s0.fPlus), .sl (List.map I s0.fTimes), .sl (List.map AV.bool s0.fBelow)])]) (by kernel_rfl) trivial (by kernel_rfl) (by kernel_rfl) ?_
            refine seqQ_norm ?_
            rcases itesome h with ⟨hb_32, h⟩ | ⟨hb_32, h⟩
            · refine Wp.condT (b := least_30) (by kernel_rfl) (by kernel_rfl) hb_32 ?_
              refine Wp.seqN (by kernel_rfl) ?_
              refine Wp.reg tiok mix hc (by kernel_rfl) (ah := none) (rs := [some (.no), some (.no)]) (kt := [6]) (ko := []) (T' := [(6, .int .i64 g_17)]) (O' := []) (by kernel_rfl) trivial (by kernel_rfl) (by kernel_rfl) ?_
              refine seqQ_norm ?_
              refine Wp.retN (by kernel_rfl) ?_
              refine blockQ_ret ?_
              obtain rfl := Option.some.inj h
              exact RetE.ret (fl := [true]) (by kernel_rfl)
            · refine Wp.condF (b := least_30) (by kernel_rfl) (by kernel_rfl) hb_32 ?_
              refine Wp.skipN (by kernel_rfl) ?_
              refine blockQ_norm ?_
              obtain rfl := Option.some.inj h
              exact Into.view (fun a w hv => SRx.renL [] hv (by kernel_rfl) (by kernel_rfl) (by kernel_rfl))
    rcases fl with ⟨⟩ | r
    · refine Wp.into (x := .normal) (mkS [(1, .int .i64 a1), (2, .int .i64 b2), (3, .ra 1 0), (7, .int .i64 g_17)] [(1, .box [.int .i64 s0.fSize, .sl (List.map I s0.fPlus), .sl (List.map I s0.fTimes), .sl (List.map AV.bool s0.fBelow)])]) hF ?_
      refine seqQ_norm ?_
      refine Wp.reg tiok mix hc (by kernel_rfl) (ah := none) (rs := [some (.no), some (.no), some (.no)]) (kt := [1, 2, 3, 7]) (ko := [1]) (T' := [(1, .int .i64 a1), (2, .int .i64 b2), (3, .ra 1 0), (7, .int .i64 (wr (g_17 + 1)))]) (O' := [(1, .box [.int .i64 s0.fSize, .sl (List.map I s0.fPlus), .sl (List.map I s0.fTimes), .sl (List.map AV.bool s0.fBelow)])]) (by kernel_rfl) trivial (by kernel_rfl) (by kernel_rfl) ?_
      refine loopQ_norm ?_
      exact (impl_Systemjoin_l1_ih _ _ h c hc)
    · refine Wp.mono hF ?_
      rintro _ _ ⟨rfl, hfin⟩
      refine seqQ_ret ?_
      refine loopQ_ret ?_
      obtain rfl := Option.some.inj h
      exact ⟨rfl, hfin⟩
  · refine Wp.condF (b := (decide (g_17 < s0.fSize))) (by kernel_rfl) (by kernel_rfl) hb_18 ?_
    refine Wp.exitN (i := 0) (by kernel_rfl) ?_
    refine seqQ_exit ?_
    refine loopQ_exit ?_
    obtain rfl := Option.some.inj h
    exact Into.view (fun a w hv => SRx.renL [] hv (by kernel_rfl) (by kernel_rfl) (by kernel_rfl))
def impl_Systemjoin (p : GSystem × Int × Int) : Option (Int) :=
  match p with
  | (s0, a1, b2) =>
    (impl_Systemjoin_l1 (s0, a1, b2, 0)) >>= fun fl => match fl with
    | .inl () =>
      some (-1)
    | .inr r =>
      some r
def M_impl_Systemjoin (p : GSystem × Int × Int) (r : Int) : Prop :=
  match p with
  | (s0, a1, b2) => FnSound Try.prog 140 [.agg [.int .i64 s0.fSize, .sl (List.map I s0.fPlus), .sl (List.map I s0.fTimes), .sl (List.map AV.bool s0.fBelow)], .int .i64 a1, .int .i64 b2] (.int .i64 r) []
theorem impl_Systemjoin_s : ∀ p r, impl_Systemjoin p = some r → M_impl_Systemjoin p r := by
  rintro ⟨s0, a1, b2⟩ r h
  unfold impl_Systemjoin at h
  show FnSound Try.prog 140 [.agg [.int .i64 s0.fSize, .sl (List.map I s0.fPlus), .sl (List.map I s0.fTimes), .sl (List.map AV.bool s0.fBelow)], .int .i64 a1, .int .i64 b2] (.int .i64 r) []
  refine FnSound.body0 tiok (fn := Try.f140) (code := B140) (by kernel_rfl) (by kernel_rfl) (by kernel_rfl) (by kernel_rfl) (nt := 57) (by kernel_rfl) (by kernel_rfl) (T := [(0, .agg [.int .i64 s0.fSize, .sl (List.map I s0.fPlus), .sl (List.map I s0.fTimes), .sl (List.map AV.bool s0.fBelow)]), (1, .int .i64 a1), (2, .int .i64 b2)]) (O := []) (by kernel_rfl) (by kernel_rfl) (fun c hc => ?_)
  refine Wp.seqN (by kernel_rfl) ?_
  refine Wp.reg tiok mix hc (by kernel_rfl) (ah := none) (rs := [some (.new 1), some (.no)]) (kt := [1, 2, 3]) (ko := [1]) (T' := [(1, .int .i64 a1), (2, .int .i64 b2), (3, .ra 1 0)]) (O' := [(1, .box [.int .i64 s0.fSize, .sl (List.map I s0.fPlus), .sl (List.map I s0.fTimes), .sl (List.map AV.bool s0.fBelow)])]) (by kernel_rfl) trivial (by kernel_rfl) (by kernel_rfl) ?_
  refine seqQ_norm ?_
  refine Wp.seqN (by kernel_rfl) ?_
  refine Wp.seqN (by kernel_rfl) ?_
  refine Wp.reg tiok mix hc (by kernel_rfl) (ah := none) (rs := [some (.no)]) (kt := [1, 2, 3, 7]) (ko := [1]) (T' := [(1, .int .i64 a1), (2, .int .i64 b2), (3, .ra 1 0), (7, .int .i64 0)]) (O' := [(1, .box [.int .i64 s0.fSize, .sl (List.map I s0.fPlus), .sl (List.map I s0.fTimes), .sl (List.map AV.bool s0.fBelow)])]) (by kernel_rfl) trivial (by kernel_rfl) (by kernel_rfl) ?_
  refine seqQ_norm ?_
  refine Wp.blockN (i := 0) (by kernel_rfl) ?_
  obtain ⟨fl, hl_34, h⟩ := bsome h
  have hL := impl_Systemjoin_l1_s _ _ hl_34 c hc
  refine Wp.loopN (by kernel_rfl) ?_
  rcases fl with ⟨⟩ | r
  · refine WpL.into (e := (.exit 0)) (mkS [] []) hL ?_
    refine blockQ_hit ?_
    refine seqQ_norm ?_
    refine Wp.seqN (by kernel_rfl) ?_
    refine Wp.reg tiok mix hc (by kernel_rfl) (ah := none) (rs := [some (.no)]) (kt := [6]) (ko := []) (T' := [(6, .int .i64 (-1))]) (O' := []) (by kernel_rfl) trivial (by kernel_rfl) (by kernel_rfl) ?_
    refine seqQ_norm ?_
    refine Wp.retN (by kernel_rfl) ?_
    obtain rfl := Option.some.inj h
    exact RetQ.ret (fl := [true]) (by kernel_rfl)
  · refine WpL.mono hL ?_
    rintro _ _ ⟨rfl, hfin⟩
    refine blockQ_ret ?_
    refine seqQ_ret ?_
    obtain rfl := Option.some.inj h
    exact ⟨.inl rfl, hfin⟩
def impl_SystemlawsOf (p : GSystem × Int × Int × Int) : Option (Bool) :=
  match p with
  | (s0, a1, b2, c3) =>
    (
      (impl_Systemplus (s0, a1, b2)) >>= fun r_1_4 =>
      (impl_Systemplus (s0, r_1_4, c3)) >>= fun r_1_6 =>
      (impl_Systemplus (s0, b2, c3)) >>= fun r_1_12 =>
      (impl_Systemplus (s0, a1, r_1_12)) >>= fun r_1_13 =>
      if (r_1_6 != r_1_13) = true then
        some (true)
      else
        (impl_Systemtimes (s0, a1, b2)) >>= fun r_1_20 =>
        (impl_Systemtimes (s0, r_1_20, c3)) >>= fun r_1_22 =>
        (impl_Systemtimes (s0, b2, c3)) >>= fun r_1_28 =>
        (impl_Systemtimes (s0, a1, r_1_28)) >>= fun r_1_29 =>
        some ((r_1_22 != r_1_29))
    ) >>= fun v_1 =>
    if v_1 = true then
      some false
    else
      (
        (impl_Systemplus (s0, b2, c3)) >>= fun r_3_5 =>
        (impl_Systemtimes (s0, a1, r_3_5)) >>= fun r_3_6 =>
        (impl_Systemtimes (s0, a1, b2)) >>= fun r_3_11 =>
        (impl_Systemtimes (s0, a1, c3)) >>= fun r_3_15 =>
        (impl_Systemplus (s0, r_3_11, r_3_15)) >>= fun r_3_16 =>
        if (r_3_6 != r_3_16) = true then
          some (true)
        else
          (impl_Systemplus (s0, a1, b2)) >>= fun r_3_23 =>
          (impl_Systemtimes (s0, r_3_23, c3)) >>= fun r_3_25 =>
          (impl_Systemtimes (s0, a1, c3)) >>= fun r_3_30 =>
          (impl_Systemtimes (s0, b2, c3)) >>= fun r_3_34 =>
          (impl_Systemplus (s0, r_3_30, r_3_34)) >>= fun r_3_35 =>
          some ((r_3_25 != r_3_35))
      ) >>= fun v_4 =>
      if v_4 = true then
        some false
      else
        (
          (impl_Systembelow (s0, a1, b2)) >>= fun r_5_3 =>
          if r_5_3 = true then
            (impl_Systembelow (s0, b2, c3)) >>= fun r_5_8 =>
            if r_5_8 = true then
              (impl_Systembelow (s0, a1, c3)) >>= fun r_5_14 =>
              some ((!r_5_14))
            else
              some (false)
          else
            some (false)
        ) >>= fun v_7 =>
        if v_7 = true then
          some false
        else
          (
            (impl_Systembelow (s0, a1, b2)) >>= fun r_7_3 =>
            if r_7_3 = true then
              (impl_Systemplus (s0, a1, c3)) >>= fun r_7_10 =>
              (impl_Systemplus (s0, b2, c3)) >>= fun r_7_14 =>
              (impl_Systembelow (s0, r_7_10, r_7_14)) >>= fun r_7_15 =>
              if r_7_15 = true then
                (impl_Systemtimes (s0, a1, c3)) >>= fun r_7_21 =>
                (impl_Systemtimes (s0, b2, c3)) >>= fun r_7_25 =>
                (impl_Systembelow (s0, r_7_21, r_7_25)) >>= fun r_7_26 =>
                if r_7_26 = true then
                  (impl_Systemtimes (s0, c3, a1)) >>= fun r_7_33 =>
                  (impl_Systemtimes (s0, c3, b2)) >>= fun r_7_37 =>
                  (impl_Systembelow (s0, r_7_33, r_7_37)) >>= fun r_7_38 =>
                  some (r_7_38)
                else
                  some (false)
              else
                some (false)
            else
              some (true)
          ) >>= fun v_10 =>
          some v_10
def M_impl_SystemlawsOf (p : GSystem × Int × Int × Int) (r : Bool) : Prop :=
  match p with
  | (s0, a1, b2, c3) => FnSound Try.prog 141 [.agg [.int .i64 s0.fSize, .sl (List.map I s0.fPlus), .sl (List.map I s0.fTimes), .sl (List.map AV.bool s0.fBelow)], .int .i64 a1, .int .i64 b2, .int .i64 c3] (.bool r) []
theorem impl_SystemlawsOf_s : ∀ p r, impl_SystemlawsOf p = some r → M_impl_SystemlawsOf p r := by
  rintro ⟨s0, a1, b2, c3⟩ r h
  unfold impl_SystemlawsOf at h
  show FnSound Try.prog 141 [.agg [.int .i64 s0.fSize, .sl (List.map I s0.fPlus), .sl (List.map I s0.fTimes), .sl (List.map AV.bool s0.fBelow)], .int .i64 a1, .int .i64 b2, .int .i64 c3] (.bool r) []
  refine FnSound.body0 tiok (fn := Try.f141) (code := B141) (by kernel_rfl) (by kernel_rfl) (by kernel_rfl) (by kernel_rfl) (nt := 137) (by kernel_rfl) (by kernel_rfl) (T := [(0, .agg [.int .i64 s0.fSize, .sl (List.map I s0.fPlus), .sl (List.map I s0.fTimes), .sl (List.map AV.bool s0.fBelow)]), (1, .int .i64 a1), (2, .int .i64 b2), (3, .int .i64 c3)]) (O := []) (by kernel_rfl) (by kernel_rfl) (fun c hc => ?_)
  refine Wp.seqN (by kernel_rfl) ?_
  refine Wp.reg tiok mix hc (by kernel_rfl) (ah := none) (rs := [some (.new 1), some (.no)]) (kt := [1, 2, 3, 4]) (ko := [1]) (T' := [(1, .int .i64 a1), (2, .int .i64 b2), (3, .int .i64 c3), (4, .ra 1 0)]) (O' := [(1, .box [.int .i64 s0.fSize, .sl (List.map I s0.fPlus), .sl (List.map I s0.fTimes), .sl (List.map AV.bool s0.fBelow)])]) (by kernel_rfl) trivial (by kernel_rfl) (by kernel_rfl) ?_
  refine seqQ_norm ?_
  refine Wp.seqN (by kernel_rfl) ?_
  refine Wp.seqN (by kernel_rfl) ?_
  obtain ⟨v_1, hj_2, h⟩ := bsome h
  refine Wp.into (x := .normal) (mkS [(1, .int .i64 a1), (2, .int .i64 b2), (3, .int .i64 c3), (4, .ra 1 0), (40, .bool v_1)] [(1, .box [.int .i64 s0.fSize, .sl (List.map I s0.fPlus), .sl (List.map I s0.fTimes), .sl (List.map AV.bool s0.fBelow)])]) ?_ ?_
  · replace h := hj_2
    obtain ⟨r_1_4, hr_1_4, h⟩ := bsome h
    obtain ⟨r_1_6, hr_1_6, h⟩ := bsome h
    obtain ⟨r_1_12, hr_1_12, h⟩ := bsome h
    obtain ⟨r_1_13, hr_1_13, h⟩ := bsome h
    rcases itesome h with ⟨hb_1_0, h⟩ | ⟨hb_1_0, h⟩
    · refine Wp.reg tiok mix hc (by kernel_rfl) (ah := (some [[], [], [], [], [1, 2, 3], [], [0, 1, 2, 3, 4, 5], [], [], [], [], [], [0, 1, 2, 3, 4, 5, 6, 9, 10, 11], [0, 1, 2, 3, 4, 5, 6, 7, 8, 9, 10, 11, 12], [0, 1, 2, 3, 4, 5, 6, 7, 8, 9, 10, 11, 12, 13], [0, 1, 2, 3, 4, 5, 6, 7, 8, 9, 10, 11, 12, 13, 14], [0, 1, 2, 3, 4, 5, 6, 7, 8, 9, 10, 11, 12, 13, 14, 15], [0, 1, 2, 3, 4, 5, 6, 7, 8, 9, 10, 11, 12, 13, 14, 15], [0, 1, 2, 3, 4, 5, 6, 7, 8, 9, 10, 11, 12, 13, 14, 15], [0, 1, 2, 3, 4, 5, 6, 7, 8, 9, 10, 11, 12, 13, 14, 15], [0, 1, 2, 3, 4, 5, 6, 7, 8, 9, 10, 11, 12, 13, 14, 15, 17, 18, 19], [0, 1, 2, 3, 4, 5, 6, 7, 8, 9, 10, 11, 12, 13, 14, 15], [0, 1, 2, 3, 4, 5, 6, 7, 8, 9, 10, 11, 12, 13, 14, 15, 16, 17, 18, 19, 20, 21], [0, 1, 2, 3, 4, 5, 6, 7, 8, 9, 10, 11, 12, 13, 14, 15], [0, 1, 2, 3, 4, 5, 6, 7, 8, 9, 10, 11, 12, 13, 14, 15], [0, 1, 2, 3, 4, 5, 6, 7, 8, 9, 10, 11, 12, 13, 14, 15], [0, 1, 2, 3, 4, 5, 6, 7, 8, 9, 10, 11, 12, 13, 14, 15], [0, 1, 2, 3, 4, 5, 6, 7, 8, 9, 10, 11, 12, 13, 14, 15], [0, 1, 2, 3, 4, 5, 6, 7, 8, 9, 10, 11, 12, 13, 14, 15, 16, 17, 18, 19, 20, 21, 22, 25, 26, 27], [0, 1, 2, 3, 4, 5, 6, 7, 8, 9, 10, 11, 12, 13, 14, 15, 16, 17, 18, 19, 20, 21, 22, 23, 24, 25, 26, 27, 28], [0, 1, 2, 3, 4, 5, 6, 7, 8, 9, 10, 11, 12, 13, 14, 15, 16, 17, 18, 19, 20, 21, 22, 23, 24, 25, 26, 27, 28, 29], [0, 1, 2, 3, 4, 5, 6, 7, 8, 9, 10, 11, 12, 13, 14, 15, 16, 17, 18, 19, 20, 21, 22, 23, 24, 25, 26, 27, 28, 29, 30]])) (rs := [some (.no), some (.no), some (.no), some (.no), some (.call (.int .i64 r_1_4) [] 1), some (.no), some (.call (.int .i64 r_1_6) [] 1), some (.no), some (.no), some (.no), some (.no), some (.no), some (.call (.int .i64 r_1_12) [] 1), some (.call (.int .i64 r_1_13) [] 1), some (.no), some (.no), none, none, none, none, none, none, none, none, none, none, none, none, none, none, none, some (.cond true)]) (kt := [1, 2, 3, 4, 40]) (ko := [1]) (T' := [(1, .int .i64 a1), (2, .int .i64 b2), (3, .int .i64 c3), (4, .ra 1 0), (40, .bool true)]) (O' := [(1, .box [.int .i64 s0.fSize, .sl (List.map I s0.fPlus), .sl (List.map I s0.fTimes), .sl (List.map AV.bool s0.fBelow)])]) (by kernel_rfl) (And.intro (impl_Systemplus_s _ _ hr_1_4) (And.intro bod_137 (And.intro (Or.inl rfl : ([] : List Nat) = [] ∨ noSh (.int .i64 r_1_4) = true) (And.intro (impl_Systemplus_s _ _ hr_1_6) (And.intro bod_137 (And.intro (Or.inl rfl : ([] : List Nat) = [] ∨ noSh (.int .i64 r_1_6) = true) (And.intro (impl_Systemplus_s _ _ hr_1_12) (And.intro bod_137 (And.intro (Or.inl rfl : ([] : List Nat) = [] ∨ noSh (.int .i64 r_1_12) = true) (And.intro (impl_Systemplus_s _ _ hr_1_13) (And.intro bod_137 (And.intro (Or.inl rfl : ([] : List Nat) = [] ∨ noSh (.int .i64 r_1_13) = true) (And.intro (neF hb_1_0 : (r_1_6 != r_1_13) ≠ false) (And.intro (neF hb_1_0 : (r_1_6 != r_1_13) ≠ false) (And.intro (neF hb_1_0 : (r_1_6 != r_1_13) ≠ false) (And.intro (neF hb_1_0 : (r_1_6 != r_1_13) ≠ false) (And.intro (neF hb_1_0 : (r_1_6 != r_1_13) ≠ false) (And.intro (neF hb_1_0 : (r_1_6 != r_1_13) ≠ false) (And.intro (neF hb_1_0 : (r_1_6 != r_1_13) ≠ false) (And.intro (neF hb_1_0 : (r_1_6 != r_1_13) ≠ false) (And.intro (neF hb_1_0 : (r_1_6 != r_1_13) ≠ false) (And.intro (neF hb_1_0 : (r_1_6 != r_1_13) ≠ false) (And.intro (neF hb_1_0 : (r_1_6 != r_1_13) ≠ false) (And.intro (neF hb_1_0 : (r_1_6 != r_1_13) ≠ false) (And.intro (neF hb_1_0 : (r_1_6 != r_1_13) ≠ false) (And.intro (neF hb_1_0 : (r_1_6 != r_1_13) ≠ false) (And.intro (neF hb_1_0 : (r_1_6 != r_1_13) ≠ false) (And.intro hb_1_0 trivial)))))))))))))))))))))))))))) (by kernel_rfl) (by kernel_rfl) ?_
      obtain rfl := Option.some.inj h
      exact Into.mk
    · obtain ⟨r_1_20, hr_1_20, h⟩ := bsome h
      obtain ⟨r_1_22, hr_1_22, h⟩ := bsome h
      obtain ⟨r_1_28, hr_1_28, h⟩ := bsome h
      obtain ⟨r_1_29, hr_1_29, h⟩ := bsome h
      refine Wp.reg tiok mix hc (by kernel_rfl) (ah := (some [[], [], [], [], [1, 2, 3], [], [0, 1, 2, 3, 4, 5], [], [], [], [], [], [0, 1, 2, 3, 4, 5, 6, 9, 10, 11], [0, 1, 2, 3, 4, 5, 6, 7, 8, 9, 10, 11, 12], [0, 1, 2, 3, 4, 5, 6, 7, 8, 9, 10, 11, 12, 13], [0, 1, 2, 3, 4, 5, 6, 7, 8, 9, 10, 11, 12, 13, 14], [0, 1, 2, 3, 4, 5, 6, 7, 8, 9, 10, 11, 12, 13, 14, 15], [0, 1, 2, 3, 4, 5, 6, 7, 8, 9, 10, 11, 12, 13, 14, 15], [0, 1, 2, 3, 4, 5, 6, 7, 8, 9, 10, 11, 12, 13, 14, 15], [0, 1, 2, 3, 4, 5, 6, 7, 8, 9, 10, 11, 12, 13, 14, 15], [0, 1, 2, 3, 4, 5, 6, 7, 8, 9, 10, 11, 12, 13, 14, 15, 17, 18, 19], [0, 1, 2, 3, 4, 5, 6, 7, 8, 9, 10, 11, 12, 13, 14, 15], [0, 1, 2, 3, 4, 5, 6, 7, 8, 9, 10, 11, 12, 13, 14, 15, 16, 17, 18, 19, 20, 21], [0, 1, 2, 3, 4, 5, 6, 7, 8, 9, 10, 11, 12, 13, 14, 15], [0, 1, 2, 3, 4, 5, 6, 7, 8, 9, 10, 11, 12, 13, 14, 15], [0, 1, 2, 3, 4, 5, 6, 7, 8, 9, 10, 11, 12, 13, 14, 15], [0, 1, 2, 3, 4, 5, 6, 7, 8, 9, 10, 11, 12, 13, 14, 15], [0, 1, 2, 3, 4, 5, 6, 7, 8, 9, 10, 11, 12, 13, 14, 15], [0, 1, 2, 3, 4, 5, 6, 7, 8, 9, 10, 11, 12, 13, 14, 15, 16, 17, 18, 19, 20, 21, 22, 25, 26, 27], [0, 1, 2, 3, 4, 5, 6, 7, 8, 9, 10, 11, 12, 13, 14, 15, 16, 17, 18, 19, 20, 21, 22, 23, 24, 25, 26, 27, 28], [0, 1, 2, 3, 4, 5, 6, 7, 8, 9, 10, 11, 12, 13, 14, 15, 16, 17, 18, 19, 20, 21, 22, 23, 24, 25, 26, 27, 28, 29], [0, 1, 2, 3, 4, 5, 6, 7, 8, 9, 10, 11, 12, 13, 14, 15, 16, 17, 18, 19, 20, 21, 22, 23, 24, 25, 26, 27, 28, 29, 30]])) (rs := [some (.no), some (.no), some (.no), some (.no), some (.call (.int .i64 r_1_4) [] 1), some (.no), some (.call (.int .i64 r_1_6) [] 1), some (.no), some (.no), some (.no), some (.no), some (.no), some (.call (.int .i64 r_1_12) [] 1), some (.call (.int .i64 r_1_13) [] 1), some (.no), some (.no), some (.no), some (.no), some (.no), some (.no), some (.call (.int .i64 r_1_20) [] 1), some (.no), some (.call (.int .i64 r_1_22) [] 1), some (.no), some (.no), some (.no), some (.no), some (.no), some (.call (.int .i64 r_1_28) [] 1), some (.call (.int .i64 r_1_29) [] 1), some (.no), some (.cond false)]) (kt := [1, 2, 3, 4, 40]) (ko := [1]) (T' := [(1, .int .i64 a1), (2, .int .i64 b2), (3, .int .i64 c3), (4, .ra 1 0), (40, .bool (r_1_22 != r_1_29))]) (O' := [(1, .box [.int .i64 s0.fSize, .sl (List.map I s0.fPlus), .sl (List.map I s0.fTimes), .sl (List.map AV.bool s0.fBelow)])]) (by kernel_rfl) (And.intro (impl_Systemplus_s _ _ hr_1_4) (And.intro bod_137 (And.intro (Or.inl rfl : ([] : List Nat) = [] ∨ noSh (.int .i64 r_1_4) = true) (And.intro (impl_Systemplus_s _ _ hr_1_6) (And.intro bod_137 (And.intro (Or.inl rfl : ([] : List Nat) = [] ∨ noSh (.int .i64 r_1_6) = true) (And.intro (impl_Systemplus_s _ _ hr_1_12) (And.intro bod_137 (And.intro (Or.inl rfl : ([] : List Nat) = [] ∨ noSh (.int .i64 r_1_12) = true) (And.intro (impl_Systemplus_s _ _ hr_1_13) (And.intro bod_137 (And.intro (Or.inl rfl : ([] : List Nat) = [] ∨ noSh (.int .i64 r_1_13) = true) (And.intro hb_1_0 (And.intro hb_1_0 (And.intro hb_1_0 (And.intro hb_1_0 (And.intro hb_1_0 (And.intro (impl_Systemtimes_s _ _ hr_1_20) (And.intro bod_138 (And.intro (Or.inl rfl : ([] : List Nat) = [] ∨ noSh (.int .i64 r_1_20) = true) (And.intro hb_1_0 (And.intro hb_1_0 (And.intro (impl_Systemtimes_s _ _ hr_1_22) (And.intro bod_138 (And.intro (Or.inl rfl : ([] : List Nat) = [] ∨ noSh (.int .i64 r_1_22) = true) (And.intro hb_1_0 (And.intro hb_1_0 (And.intro hb_1_0 (And.intro hb_1_0 (And.intro hb_1_0 (And.intro hb_1_0 (And.intro (impl_Systemtimes_s _ _ hr_1_28) (And.intro bod_138 (And.intro (Or.inl rfl : ([] : List Nat) = [] ∨ noSh (.int .i64 r_1_28) = true) (And.intro hb_1_0 (And.intro (impl_Systemtimes_s _ _ hr_1_29) (And.intro bod_138 (And.intro (Or.inl rfl : ([] : List Nat) = [] ∨ noSh (.int .i64 r_1_29) = true) (And.intro hb_1_0 (And.intro hb_1_0 trivial)))))))))))))))))))))))))))))))))))))))) (by kernel_rfl) (by kernel_rfl) ?_
      obtain rfl := Option.some.inj h
      exact Into.mk
  · clear hj_2
    refine seqQ_norm ?_
    rcases itesome h with ⟨hb_3, h⟩ | ⟨hb_3, h⟩
    · refine Wp.condT (b := v_1) (by kernel_rfl) (by kernel_rfl) hb_3 ?_
      refine Wp.seqN (by kernel_rfl) ?_
      refine Wp.reg tiok mix hc (by kernel_rfl) (ah := none) (rs := [some (.no)]) (kt := [8]) (ko := []) (T' := [(8, .bool false)]) (O' := []) (by kernel_rfl) trivial (by kernel_rfl) (by kernel_rfl) ?_
      refine seqQ_norm ?_
      refine Wp.retN (by kernel_rfl) ?_
      refine seqQ_ret ?_
      obtain rfl := Option.some.inj h
      exact RetQ.ret (fl := [true]) (by kernel_rfl)
    · refine Wp.condF (b := v_1) (by kernel_rfl) (by kernel_rfl) hb_3 ?_
      refine Wp.skipN (by kernel_rfl) ?_
      refine seqQ_norm ?_
      refine Wp.seqN (by kernel_rfl) ?_
      refine Wp.seqN (by kernel_rfl) ?_
      obtain ⟨v_4, hj_5, h⟩ := bsome h
      refine Wp.into (x := .normal) (mkS [(1, .int .i64 a1), (2, .int .i64 b2), (3, .int .i64 c3), (4, .ra 1 0), (78, .bool v_4)] [(1, .box [.int .i64 s0.fSize, .sl (List.map I s0.fPlus), .sl (List.map I s0.fTimes), .sl (List.map AV.bool s0.fBelow)])]) ?_ ?_
      · replace h := hj_5
        obtain ⟨r_3_5, hr_3_5, h⟩ := bsome h
        obtain ⟨r_3_6, hr_3_6, h⟩ := bsome h
        obtain ⟨r_3_11, hr_3_11, h⟩ := bsome h
        obtain ⟨r_3_15, hr_3_15, h⟩ := bsome h
        obtain ⟨r_3_16, hr_3_16, h⟩ := bsome h
        rcases itesome h with ⟨hb_3_0, h⟩ | ⟨hb_3_0, h⟩
        · refine Wp.reg tiok mix hc (by kernel_rfl) (ah := (some [[], [], [], [], [], [2, 3, 4], [0, 1, 2, 3, 4, 5], [], [], [], [], [0, 1, 2, 3, 4, 5, 6, 8, 9, 10], [], [], [], [0, 1, 2, 3, 4, 5, 6, 8, 9, 10, 11, 12, 13, 14], [0, 1, 2, 3, 4, 5, 6, 7, 8, 9, 10, 11, 12, 13, 14, 15], [0, 1, 2, 3, 4, 5, 6, 7, 8, 9, 10, 11, 12, 13, 14, 15, 16], [0, 1, 2, 3, 4, 5, 6, 7, 8, 9, 10, 11, 12, 13, 14, 15, 16, 17], [0, 1, 2, 3, 4, 5, 6, 7, 8, 9, 10, 11, 12, 13, 14, 15, 16, 17, 18], [0, 1, 2, 3, 4, 5, 6, 7, 8, 9, 10, 11, 12, 13, 14, 15, 16, 17, 18], [0, 1, 2, 3, 4, 5, 6, 7, 8, 9, 10, 11, 12, 13, 14, 15, 16, 17, 18], [0, 1, 2, 3, 4, 5, 6, 7, 8, 9, 10, 11, 12, 13, 14, 15, 16, 17, 18], [0, 1, 2, 3, 4, 5, 6, 7, 8, 9, 10, 11, 12, 13, 14, 15, 16, 17, 18, 20, 21, 22], [0, 1, 2, 3, 4, 5, 6, 7, 8, 9, 10, 11, 12, 13, 14, 15, 16, 17, 18], [0, 1, 2, 3, 4, 5, 6, 7, 8, 9, 10, 11, 12, 13, 14, 15, 16, 17, 18, 19, 20, 21, 22, 23, 24], [0, 1, 2, 3, 4, 5, 6, 7, 8, 9, 10, 11, 12, 13, 14, 15, 16, 17, 18], [0, 1, 2, 3, 4, 5, 6, 7, 8, 9, 10, 11, 12, 13, 14, 15, 16, 17, 18], [0, 1, 2, 3, 4, 5, 6, 7, 8, 9, 10, 11, 12, 13, 14, 15, 16, 17, 18], [0, 1, 2, 3, 4, 5, 6, 7, 8, 9, 10, 11, 12, 13, 14, 15, 16, 17, 18], [0, 1, 2, 3, 4, 5, 6, 7, 8, 9, 10, 11, 12, 13, 14, 15, 16, 17, 18, 19, 20, 21, 22, 23, 24, 25, 27, 28, 29], [0, 1, 2, 3, 4, 5, 6, 7, 8, 9, 10, 11, 12, 13, 14, 15, 16, 17, 18], [0, 1, 2, 3, 4, 5, 6, 7, 8, 9, 10, 11, 12, 13, 14, 15, 16, 17, 18], [0, 1, 2, 3, 4, 5, 6, 7, 8, 9, 10, 11, 12, 13, 14, 15, 16, 17, 18], [0, 1, 2, 3, 4, 5, 6, 7, 8, 9, 10, 11, 12, 13, 14, 15, 16, 17, 18, 19, 20, 21, 22, 23, 24, 25, 27, 28, 29, 30, 31, 32, 33], [0, 1, 2, 3, 4, 5, 6, 7, 8, 9, 10, 11, 12, 13, 14, 15, 16, 17, 18, 19, 20, 21, 22, 23, 24, 25, 26, 27, 28, 29, 30, 31, 32, 33, 34], [0, 1, 2, 3, 4, 5, 6, 7, 8, 9, 10, 11, 12, 13, 14, 15, 16, 17, 18, 19, 20, 21, 22, 23, 24, 25, 26, 27, 28, 29, 30, 31, 32, 33, 34, 35], [0, 1, 2, 3, 4, 5, 6, 7, 8, 9, 10, 11, 12, 13, 14, 15, 16, 17, 18, 19, 20, 21, 22, 23, 24, 25, 26, 27, 28, 29, 30, 31, 32, 33, 34, 35, 36]])) (rs := [some (.no), some (.no), some (.no), some (.no), some (.no), some (.call (.int .i64 r_3_5) [] 1), some (.call (.int .i64 r_3_6) [] 1), some (.no), some (.no), some (.no), some (.no), some (.call (.int .i64 r_3_11) [] 1), some (.no), some (.no), some (.no), some (.call (.int .i64 r_3_15) [] 1), some (.call (.int .i64 r_3_16) [] 1), some (.no), some (.no), none, none, none, none, none, none, none, none, none, none, none, none, none, none, none, none, none, none, some (.cond true)]) (kt := [1, 2, 3, 4, 78]) (ko := [1]) (T' := [(1, .int .i64 a1), (2, .int .i64 b2), (3, .int .i64 c3), (4, .ra 1 0), (78, .bool true)]) (O' := [(1, .box [.int .i64 s0.fSize, .sl (List.map I s0.fPlus), .sl (List.map I s0.fTimes), .sl (List.map AV.bool s0.fBelow)])]) (by kernel_rfl) (And.intro (impl_Systemplus_s _ _ hr_3_5) (And.intro bod_137 (And.intro (Or.inl rfl : ([] : List Nat) = [] ∨ noSh (.int .i64 r_3_5) = true) (And.intro (impl_Systemtimes_s _ _ hr_3_6) (And.intro bod_138 (And.intro (Or.inl rfl : ([] : List Nat) = [] ∨ noSh (.int .i64 r_3_6) = true) (And.intro (impl_Systemtimes_s _ _ hr_3_11) (And.intro bod_138 (And.intro (Or.inl rfl : ([] : List Nat) = [] ∨ noSh (.int .i64 r_3_11) = true) (And.intro (impl_Systemtimes_s _ _ hr_3_15) (And.intro bod_138 (And.intro (Or.inl rfl : ([] : List Nat) = [] ∨ noSh (.int .i64 r_3_15) = true) (And.intro (impl_Systemplus_s _ _ hr_3_16) (And.intro bod_137 (And.intro (Or.inl rfl : ([] : List Nat) = [] ∨ noSh (.int .i64 r_3_16) = true) (And.intro (neF hb_3_0 : (r_3_6 != r_3_16) ≠ false) (And.intro (neF hb_3_0 : (r_3_6 != r_3_16) ≠ false) (And.intro (neF hb_3_0 : (r_3_6 != r_3_16) ≠ false) (And.intro (neF hb_3_0 : (r_3_6 != r_3_16) ≠ false) (And.intro (neF hb_3_0 : (r_3_6 != r_3_16) ≠ false) (And.intro (neF hb_3_0 : (r_3_6 != r_3_16) ≠ false) (And.intro (neF hb_3_0 : (r_3_6 != r_3_16) ≠ false) (And.intro (neF hb_3_0 : (r_3_6 != r_3_16) ≠ false) (And.intro (neF hb_3_0 : (r_3_6 != r_3_16) ≠ false) (And.intro (neF hb_3_0 : (r_3_6 != r_3_16) ≠ false) (And.intro (neF hb_3_0 : (r_3_6 != r_3_16) ≠ false) (And.intro (neF hb_3_0 : (r_3_6 != r_3_16) ≠ false) (And.intro (neF hb_3_0 : (r_3_6 != r_3_16) ≠ false) (And.intro (neF hb_3_0 : (r_3_6 != r_3_16) ≠ false) (And.intro (neF hb_3_0 : (r_3_6 != r_3_16) ≠ false) (And.intro (neF hb_3_0 : (r_3_6 != r_3_16) ≠ false) (And.intro (neF hb_3_0 : (r_3_6 != r_3_16) ≠ false) (And.intro (neF hb_3_0 : (r_3_6 != r_3_16) ≠ false) (And.intro hb_3_0 trivial)))))))))))))))))))))))))))))))))) (by kernel_rfl) (by kernel_rfl) ?_
          obtain rfl := Option.some.inj h
          exact Into.mk
        · obtain ⟨r_3_23, hr_3_23, h⟩ := bsome h
          obtain ⟨r_3_25, hr_3_25, h⟩ := bsome h
          obtain ⟨r_3_30, hr_3_30, h⟩ := bsome h
          obtain ⟨r_3_34, hr_3_34, h⟩ := bsome h
          obtain ⟨r_3_35, hr_3_35, h⟩ := bsome h
          refine Wp.reg tiok mix hc (by kernel_rfl) (ah := (some [[], [], [], [], [], [2, 3, 4], [0, 1, 2, 3, 4, 5], [], [], [], [], [0, 1, 2, 3, 4, 5, 6, 8, 9, 10], [], [], [], [0, 1, 2, 3, 4, 5, 6, 8, 9, 10, 11, 12, 13, 14], [0, 1, 2, 3, 4, 5, 6, 7, 8, 9, 10, 11, 12, 13, 14, 15], [0, 1, 2, 3, 4, 5, 6, 7, 8, 9, 10, 11, 12, 13, 14, 15, 16], [0, 1, 2, 3, 4, 5, 6, 7, 8, 9, 10, 11, 12, 13, 14, 15, 16, 17], [0, 1, 2, 3, 4, 5, 6, 7, 8, 9, 10, 11, 12, 13, 14, 15, 16, 17, 18], [0, 1, 2, 3, 4, 5, 6, 7, 8, 9, 10, 11, 12, 13, 14, 15, 16, 17, 18], [0, 1, 2, 3, 4, 5, 6, 7, 8, 9, 10, 11, 12, 13, 14, 15, 16, 17, 18], [0, 1, 2, 3, 4, 5, 6, 7, 8, 9, 10, 11, 12, 13, 14, 15, 16, 17, 18], [0, 1, 2, 3, 4, 5, 6, 7, 8, 9, 10, 11, 12, 13, 14, 15, 16, 17, 18, 20, 21, 22], [0, 1, 2, 3, 4, 5, 6, 7, 8, 9, 10, 11, 12, 13, 14, 15, 16, 17, 18], [0, 1, 2, 3, 4, 5, 6, 7, 8, 9, 10, 11, 12, 13, 14, 15, 16, 17, 18, 19, 20, 21, 22, 23, 24], [0, 1, 2, 3, 4, 5, 6, 7, 8, 9, 10, 11, 12, 13, 14, 15, 16, 17, 18], [0, 1, 2, 3, 4, 5, 6, 7, 8, 9, 10, 11, 12, 13, 14, 15, 16, 17, 18], [0, 1, 2, 3, 4, 5, 6, 7, 8, 9, 10, 11, 12, 13, 14, 15, 16, 17, 18], [0, 1, 2, 3, 4, 5, 6, 7, 8, 9, 10, 11, 12, 13, 14, 15, 16, 17, 18], [0, 1, 2, 3, 4, 5, 6, 7, 8, 9, 10, 11, 12, 13, 14, 15, 16, 17, 18, 19, 20, 21, 22, 23, 24, 25, 27, 28, 29], [0, 1, 2, 3, 4, 5, 6, 7, 8, 9, 10, 11, 12, 13, 14, 15, 16, 17, 18], [0, 1, 2, 3, 4, 5, 6, 7, 8, 9, 10, 11, 12, 13, 14, 15, 16, 17, 18], [0, 1, 2, 3, 4, 5, 6, 7, 8, 9, 10, 11, 12, 13, 14, 15, 16, 17, 18], [0, 1, 2, 3, 4, 5, 6, 7, 8, 9, 10, 11, 12, 13, 14, 15, 16, 17, 18, 19, 20, 21, 22, 23, 24, 25, 27, 28, 29, 30, 31, 32, 33], [0, 1, 2, 3, 4, 5, 6, 7, 8, 9, 10, 11, 12, 13, 14, 15, 16, 17, 18, 19, 20, 21, 22, 23, 24, 25, 26, 27, 28, 29, 30, 31, 32, 33, 34], [0, 1, 2, 3, 4, 5, 6, 7, 8, 9, 10, 11, 12, 13, 14, 15, 16, 17, 18, 19, 20, 21, 22, 23, 24, 25, 26, 27, 28, 29, 30, 31, 32, 33, 34, 35], [0, 1, 2, 3, 4, 5, 6, 7, 8, 9, 10, 11, 12, 13, 14, 15, 16, 17, 18, 19, 20, 21, 22, 23, 24, 25, 26, 27, 28, 29, 30, 31, 32, 33, 34, 35, 36]])) (rs := [some (.no), some (.no), some (.no), some (.no), some (.no), some (.call (.int .i64 r_3_5) [] 1), some (.call (.int .i64 r_3_6) [] 1), some (.no), some (.no), some (.no), some (.no), some (.call (.int .i64 r_3_11) [] 1), some (.no), some (.no), some (.no), some (.call (.int .i64 r_3_15) [] 1), some (.call (.int .i64 r_3_16) [] 1), some (.no), some (.no), some (.no), some (.no), some (.no), some (.no), some (.call (.int .i64 r_3_23) [] 1), some (.no), some (.call (.int .i64 r_3_25) [] 1), some (.no), some (.no), some (.no), some (.no), some (.call (.int .i64 r_3_30) [] 1), some (.no), some (.no), some (.no), some (.call (.int .i64 r_3_34) [] 1), some (.call (.int .i64 r_3_35) [] 1), some (.no), some (.cond false)]) (kt := [1, 2, 3, 4, 78]) (ko := [1]) (T' := [(1, .int .i64 a1), (2, .int .i64 b2), (3, .int .i64 c3), (4, .ra 1 0), (78, .bool (r_3_25 != r_3_35))]) (O' := [(1, .box [.int .i64 s0.fSize, .sl (List.map I s0.fPlus), .sl (List.map I s0.fTimes), .sl (List.map AV.bool s0.fBelow)])]) (by kernel_rfl) (And.intro (impl_Systemplus_s _ _ hr_3_5) (And.intro bod_137 (And.intro (Or.inl rfl : ([] : List Nat) = [] ∨ noSh (.int .i64 r_3_5) = true) (And.intro (impl_Systemtimes_s _ _ hr_3_6) (And.intro bod_138 (And.intro (Or.inl rfl : ([] : List Nat) = [] ∨ noSh (.int .i64 r_3_6) = true) (And.intro (impl_Systemtimes_s _ _ hr_3_11) (And.intro bod_138 (And.intro (Or.inl rfl : ([] : List Nat) = [] ∨ noSh (.int .i64 r_3_11) = true) (And.intro (impl_Systemtimes_s _ _ hr_3_15) (And.intro bod_138 (And.intro (Or.inl rfl : ([] : List Nat) = [] ∨ noSh (.int .i64 r_3_15) = true) (And.intro (impl_Systemplus_s _ _ hr_3_16) (And.intro bod_137 (And.intro (Or.inl rfl : ([] : List Nat) = [] ∨ noSh (.int .i64 r_3_16) = true) (And.intro hb_3_0 (And.intro hb_3_0 (And.intro hb_3_0 (And.intro hb_3_0 (And.intro hb_3_0 (And.intro (impl_Systemplus_s _ _ hr_3_23) (And.intro bod_137 (And.intro (Or.inl rfl : ([] : List Nat) = [] ∨ noSh (.int .i64 r_3_23) = true) (And.intro hb_3_0 (And.intro hb_3_0 (And.intro (impl_Systemtimes_s _ _ hr_3_25) (And.intro bod_138 (And.intro (Or.inl rfl : ([] : List Nat) = [] ∨ noSh (.int .i64 r_3_25) = true) (And.intro hb_3_0 (And.intro hb_3_0 (And.intro hb_3_0 (And.intro hb_3_0 (And.intro hb_3_0 (And.intro (impl_Systemtimes_s _ _ hr_3_30) (And.intro bod_138 (And.intro (Or.inl rfl : ([] : List Nat) = [] ∨ noSh (.int .i64 r_3_30) = true) (And.intro hb_3_0 (And.intro hb_3_0 (And.intro hb_3_0 (And.intro hb_3_0 (And.intro (impl_Systemtimes_s _ _ hr_3_34) (And.intro bod_138 (And.intro (Or.inl rfl : ([] : List Nat) = [] ∨ noSh (.int .i64 r_3_34) = true) (And.intro hb_3_0 (And.intro (impl_Systemplus_s _ _ hr_3_35) (And.intro bod_137 (And.intro (Or.inl rfl : ([] : List Nat) = [] ∨ noSh (.int .i64 r_3_35) = true) (And.intro hb_3_0 (And.intro hb_3_0 trivial))))))))))))))))))))))))))))))))))))))))))))))))) (by kernel_rfl) (by kernel_rfl) ?_
          obtain rfl := Option.some.inj h
          exact Into.mk
      · clear hj_5
        refine seqQ_norm ?_
        rcases itesome h with ⟨hb_6, h⟩ | ⟨hb_6, h⟩
        · refine Wp.condT (b := v_4) (by kernel_rfl) (by kernel_rfl) hb_6 ?_
          refine Wp.seqN (by kernel_rfl) ?_
          refine Wp.reg tiok mix hc (by kernel_rfl) (ah := none) (rs := [some (.no)]) (kt := [8]) (ko := []) (T' := [(8, .bool false)]) (O' := []) (by kernel_rfl) trivial (by kernel_rfl) (by kernel_rfl) ?_
          refine seqQ_norm ?_
          refine Wp.retN (by kernel_rfl) ?_
          refine seqQ_ret ?_
          obtain rfl := Option.some.inj h
          exact RetQ.ret (fl := [true]) (by kernel_rfl)
        · refine Wp.condF (b := v_4) (by kernel_rfl) (by kernel_rfl) hb_6 ?_
          refine Wp.skipN (by kernel_rfl) ?_
          refine seqQ_norm ?_
          refine Wp.seqN (by kernel_rfl) ?_
          refine Wp.seqN (by kernel_rfl) ?_
          obtain ⟨v_7, hj_8, h⟩ := bsome h
          refine Wp.into (x := .normal) (mkS [(1, .int .i64 a1), (2, .int .i64 b2), (3, .int .i64 c3), (4, .ra 1 0), (95, .bool v_7)] [(1, .box [.int .i64 s0.fSize, .sl (List.map I s0.fPlus), .sl (List.map I s0.fTimes), .sl (List.map AV.bool s0.fBelow)])]) ?_ ?_
          · replace h := hj_8
            obtain ⟨r_5_3, hr_5_3, h⟩ := bsome h
            rcases itesome h with ⟨hb_5_0, h⟩ | ⟨hb_5_0, h⟩
            · obtain ⟨r_5_8, hr_5_8, h⟩ := bsome h
              rcases itesome h with ⟨hb_5_1, h⟩ | ⟨hb_5_1, h⟩
              · obtain ⟨r_5_14, hr_5_14, h⟩ := bsome h
                refine Wp.reg tiok mix hc (by kernel_rfl) (ah := none) (rs := [some (.no), some (.no), some (.no), some (.call (.bool r_5_3) [] 1), some (.no), some (.no), some (.no), some (.no), some (.call (.bool r_5_8) [] 1), some (.cond true), some (.no), some (.no), some (.no), some (.no), some (.call (.bool r_5_14) [] 1), some (.no), some (.cond true)]) (kt := [1, 2, 3, 4, 95]) (ko := [1]) (T' := [(1, .int .i64 a1), (2, .int .i64 b2), (3, .int .i64 c3), (4, .ra 1 0), (95, .bool (!r_5_14))]) (O' := [(1, .box [.int .i64 s0.fSize, .sl (List.map I s0.fPlus), .sl (List.map I s0.fTimes), .sl (List.map AV.bool s0.fBelow)])]) (by kernel_rfl) (And.intro (impl_Systembelow_s _ _ hr_5_3) (And.intro bod_139 (And.intro (Or.inl rfl : ([] : List Nat) = [] ∨ noSh (.bool r_5_3) = true) (And.intro hb_5_0 (And.intro hb_5_0 (And.intro hb_5_0 (And.intro hb_5_0 (And.intro (impl_Systembelow_s _ _ hr_5_8) (And.intro bod_139 (And.intro (Or.inl rfl : ([] : List Nat) = [] ∨ noSh (.bool r_5_8) = true) (And.intro hb_5_0 (And.intro hb_5_1 (And.intro hb_5_1 (And.intro hb_5_1 (And.intro hb_5_1 (And.intro (impl_Systembelow_s _ _ hr_5_14) (And.intro bod_139 (And.intro (Or.inl rfl : ([] : List Nat) = [] ∨ noSh (.bool r_5_14) = true) (And.intro hb_5_1 (And.intro hb_5_1 trivial)))))))))))))))))))) (by kernel_rfl) (by kernel_rfl) ?_
                obtain rfl := Option.some.inj h
                exact Into.mk
              · refine Wp.reg tiok mix hc (by kernel_rfl) (ah := none) (rs := [some (.no), some (.no), some (.no), some (.call (.bool r_5_3) [] 1), some (.no), some (.no), some (.no), some (.no), some (.call (.bool r_5_8) [] 1), some (.cond true), some (.no), none, none, none, none, none, some (.cond false)]) (kt := [1, 2, 3, 4, 95]) (ko := [1]) (T' := [(1, .int .i64 a1), (2, .int .i64 b2), (3, .int .i64 c3), (4, .ra 1 0), (95, .bool false)]) (O' := [(1, .box [.int .i64 s0.fSize, .sl (List.map I s0.fPlus), .sl (List.map I s0.fTimes), .sl (List.map AV.bool s0.fBelow)])]) (by kernel_rfl) (And.intro (impl_Systembelow_s _ _ hr_5_3) (And.intro bod_139 (And.intro (Or.inl rfl : ([] : List Nat) = [] ∨ noSh (.bool r_5_3) = true) (And.intro hb_5_0 (And.intro hb_5_0 (And.intro hb_5_0 (And.intro hb_5_0 (And.intro (impl_Systembelow_s _ _ hr_5_8) (And.intro bod_139 (And.intro (Or.inl rfl : ([] : List Nat) = [] ∨ noSh (.bool r_5_8) = true) (And.intro hb_5_0 (And.intro (neT hb_5_1 : r_5_8 ≠ true) (And.intro (neT hb_5_1 : r_5_8 ≠ true) (And.intro (neT hb_5_1 : r_5_8 ≠ true) (And.intro (neT hb_5_1 : r_5_8 ≠ true) (And.intro (neT hb_5_1 : r_5_8 ≠ true) (And.intro hb_5_1 trivial))))))))))))))))) (by kernel_rfl) (by kernel_rfl) ?_
                obtain rfl := Option.some.inj h
                exact Into.mk
            · refine Wp.reg tiok mix hc (by kernel_rfl) (ah := none) (rs := [some (.no), some (.no), some (.no), some (.call (.bool r_5_3) [] 1), some (.no), none, none, none, none, some (.cond false), some (.no), none, none, none, none, none, some (.cond false)]) (kt := [1, 2, 3, 4, 95]) (ko := [1]) (T' := [(1, .int .i64 a1), (2, .int .i64 b2), (3, .int .i64 c3), (4, .ra 1 0), (95, .bool false)]) (O' := [(1, .box [.int .i64 s0.fSize, .sl (List.map I s0.fPlus), .sl (List.map I s0.fTimes), .sl (List.map AV.bool s0.fBelow)])]) (by kernel_rfl) (And.intro (impl_Systembelow_s _ _ hr_5_3) (And.intro bod_139 (And.intro (Or.inl rfl : ([] : List Nat) = [] ∨ noSh (.bool r_5_3) = true) (And.intro (neT hb_5_0 : r_5_3 ≠ true) (And.intro (neT hb_5_0 : r_5_3 ≠ true) (And.intro (neT hb_5_0 : r_5_3 ≠ true) (And.intro (neT hb_5_0 : r_5_3 ≠ true) (And.intro hb_5_0 (And.intro (neT (rfl : false = false) : false ≠ true) (And.intro (neT (rfl : false = false) : false ≠ true) (And.intro (neT (rfl : false = false) : false ≠ true) (And.intro (neT (rfl : false = false) : false ≠ true) (And.intro (neT (rfl : false = false) : false ≠ true) (And.intro (rfl : false = false) trivial)))))))))))))) (by kernel_rfl) (by kernel_rfl) ?_
              obtain rfl := Option.some.inj h
              exact Into.mk
          · clear hj_8
            refine seqQ_norm ?_
            rcases itesome h with ⟨hb_9, h⟩ | ⟨hb_9, h⟩
            · refine Wp.condT (b := v_7) (by kernel_rfl) (by kernel_rfl) hb_9 ?_
              refine Wp.seqN (by kernel_rfl) ?_
              refine Wp.reg tiok mix hc (by kernel_rfl) (ah := none) (rs := [some (.no)]) (kt := [8]) (ko := []) (T' := [(8, .bool false)]) (O' := []) (by kernel_rfl) trivial (by kernel_rfl) (by kernel_rfl) ?_
              refine seqQ_norm ?_
              refine Wp.retN (by kernel_rfl) ?_
              refine seqQ_ret ?_
              obtain rfl := Option.some.inj h
              exact RetQ.ret (fl := [true]) (by kernel_rfl)
            · refine Wp.condF (b := v_7) (by kernel_rfl) (by kernel_rfl) hb_9 ?_
              refine Wp.skipN (by kernel_rfl) ?_
              refine seqQ_norm ?_
              refine Wp.seqN (by kernel_rfl) ?_
              obtain ⟨v_10, hj_11, h⟩ := bsome h
              refine Wp.into (x := .normal) (mkS [(8, .bool v_10)] []) ?_ ?_
              · replace h := hj_11
                obtain ⟨r_7_3, hr_7_3, h⟩ := bsome h
                rcases itesome h with ⟨hb_7_0, h⟩ | ⟨hb_7_0, h⟩
                · obtain ⟨r_7_10, hr_7_10, h⟩ := bsome h
                  obtain ⟨r_7_14, hr_7_14, h⟩ := bsome h
                  obtain ⟨r_7_15, hr_7_15, h⟩ := bsome h
                  rcases itesome h with ⟨hb_7_1, h⟩ | ⟨hb_7_1, h⟩
                  · obtain ⟨r_7_21, hr_7_21, h⟩ := bsome h
                    obtain ⟨r_7_25, hr_7_25, h⟩ := bsome h
                    obtain ⟨r_7_26, hr_7_26, h⟩ := bsome h
                    rcases itesome h with ⟨hb_7_2, h⟩ | ⟨hb_7_2, h⟩
                    · obtain ⟨r_7_33, hr_7_33, h⟩ := bsome h
                      obtain ⟨r_7_37, hr_7_37, h⟩ := bsome h
                      obtain ⟨r_7_38, hr_7_38, h⟩ := bsome h
                      refine Wp.reg tiok mix hc (by kernel_rfl) (ah := (some [[], [], [], [0, 1, 2], [0, 1, 2, 3], [0, 1, 2, 3, 4], [0, 1, 2, 3, 4, 5], [0, 1, 2, 3, 4, 5], [0, 1, 2, 3, 4, 5], [0, 1, 2, 3, 4, 5], [0, 1, 2, 3, 4, 5, 7, 8, 9], [0, 1, 2, 3, 4, 5], [0, 1, 2, 3, 4, 5], [0, 1, 2, 3, 4, 5], [0, 1, 2, 3, 4, 5, 7, 8, 9, 10, 11, 12, 13], [0, 1, 2, 3, 4, 5, 6, 7, 8, 9, 10, 11, 12, 13, 14], [0, 1, 2, 3, 4, 5, 6, 7, 8, 9, 10, 11, 12, 13, 14, 15], [0, 1, 2, 3, 4, 5, 6, 7, 8, 9, 10, 11, 12, 13, 14, 15, 16], [0, 1, 2, 3, 4, 5, 6, 7, 8, 9, 10, 11, 12, 13, 14, 15, 16], [0, 1, 2, 3, 4, 5, 6, 7, 8, 9, 10, 11, 12, 13, 14, 15, 16], [0, 1, 2, 3, 4, 5, 6, 7, 8, 9, 10, 11, 12, 13, 14, 15, 16], [0, 1, 2, 3, 4, 5, 6, 7, 8, 9, 10, 11, 12, 13, 14, 15, 16, 18, 19, 20], [0, 1, 2, 3, 4, 5, 6, 7, 8, 9, 10, 11, 12, 13, 14, 15, 16], [0, 1, 2, 3, 4, 5, 6, 7, 8, 9, 10, 11, 12, 13, 14, 15, 16], [0, 1, 2, 3, 4, 5, 6, 7, 8, 9, 10, 11, 12, 13, 14, 15, 16], [0, 1, 2, 3, 4, 5, 6, 7, 8, 9, 10, 11, 12, 13, 14, 15, 16, 18, 19, 20, 21, 22, 23, 24], [0, 1, 2, 3, 4, 5, 6, 7, 8, 9, 10, 11, 12, 13, 14, 15, 16, 17, 18, 19, 20, 21, 22, 23, 24, 25], [0, 1, 2, 3, 4, 5, 6, 7, 8, 9, 10, 11, 12, 13, 14, 15, 16, 17, 18, 19, 20, 21, 22, 23, 24, 25, 26], [0, 1, 2, 3, 4, 5, 6, 7, 8, 9, 10, 11, 12, 13, 14, 15, 16, 17, 18, 19, 20, 21, 22, 23, 24, 25, 26, 27], [0, 1, 2, 3, 4, 5, 6, 7, 8, 9, 10, 11, 12, 13, 14, 15, 16, 17, 18, 19, 20, 21, 22, 23, 24, 25, 26, 27, 28], [0, 1, 2, 3, 4, 5, 6, 7, 8, 9, 10, 11, 12, 13, 14, 15, 16, 17, 18, 19, 20, 21, 22, 23, 24, 25, 26, 27, 28], [0, 1, 2, 3, 4, 5, 6, 7, 8, 9, 10, 11, 12, 13, 14, 15, 16, 17, 18, 19, 20, 21, 22, 23, 24, 25, 26, 27, 28], [0, 1, 2, 3, 4, 5, 6, 7, 8, 9, 10, 11, 12, 13, 14, 15, 16, 17, 18, 19, 20, 21, 22, 23, 24, 25, 26, 27, 28], [0, 1, 2, 3, 4, 5, 6, 7, 8, 9, 10, 11, 12, 13, 14, 15, 16, 17, 18, 19, 20, 21, 22, 23, 24, 25, 26, 27, 28, 30, 31, 32], [0, 1, 2, 3, 4, 5, 6, 7, 8, 9, 10, 11, 12, 13, 14, 15, 16, 17, 18, 19, 20, 21, 22, 23, 24, 25, 26, 27, 28], [0, 1, 2, 3, 4, 5, 6, 7, 8, 9, 10, 11, 12, 13, 14, 15, 16, 17, 18, 19, 20, 21, 22, 23, 24, 25, 26, 27, 28], [0, 1, 2, 3, 4, 5, 6, 7, 8, 9, 10, 11, 12, 13, 14, 15, 16, 17, 18, 19, 20, 21, 22, 23, 24, 25, 26, 27, 28], [0, 1, 2, 3, 4, 5, 6, 7, 8, 9, 10, 11, 12, 13, 14, 15, 16, 17, 18, 19, 20, 21, 22, 23, 24, 25, 26, 27, 28, 30, 31, 32, 33, 34, 35, 36], [0, 1, 2, 3, 4, 5, 6, 7, 8, 9, 10, 11, 12, 13, 14, 15, 16, 17, 18, 19, 20, 21, 22, 23, 24, 25, 26, 27, 28, 29, 30, 31, 32, 33, 34, 35, 36, 37], [0, 1, 2, 3, 4, 5, 6, 7, 8, 9, 10, 11, 12, 13, 14, 15, 16, 17, 18, 19, 20, 21, 22, 23, 24, 25, 26, 27, 28, 29, 30, 31, 32, 33, 34, 35, 36, 37, 38], [0, 1, 2, 3, 4, 5, 6, 7, 8, 9, 10, 11, 12, 13, 14, 15, 16, 17, 18, 19, 20, 21, 22, 23, 24, 25, 26, 27, 28, 29, 30, 31, 32, 33, 34, 35, 36, 37, 38, 39], [0, 1, 2, 3, 4, 5, 6, 7, 8, 9, 10, 11, 12, 13, 14, 15, 16, 17, 18, 19, 20, 21, 22, 23, 24, 25, 26, 27, 28, 29, 30, 31, 32, 33, 34, 35, 36, 37, 38, 39, 40]])) (rs := [some (.no), some (.no), some (.no), some (.call (.bool r_7_3) [] 1), some (.no), some (.no), some (.no), some (.no), some (.no), some (.no), some (.call (.int .i64 r_7_10) [] 1), some (.no), some (.no), some (.no), some (.call (.int .i64 r_7_14) [] 1), some (.call (.bool r_7_15) [] 1), some (.no), some (.no), some (.no), some (.no), some (.no), some (.call (.int .i64 r_7_21) [] 1), some (.no), some (.no), some (.no), some (.call (.int .i64 r_7_25) [] 1), some (.call (.bool r_7_26) [] 1), some (.cond true), some (.no), some (.no), some (.no), some (.no), some (.no), some (.call (.int .i64 r_7_33) [] 1), some (.no), some (.no), some (.no), some (.call (.int .i64 r_7_37) [] 1), some (.call (.bool r_7_38) [] 1), some (.cond true), some (.cond false), some (.no)]) (kt := [8]) (ko := []) (T' := [(8, .bool r_7_38)]) (O' := []) (by kernel_rfl) (And.intro (impl_Systembelow_s _ _ hr_7_3) (And.intro bod_139 (And.intro (Or.inl rfl : ([] : List Nat) = [] ∨ noSh (.bool r_7_3) = true) (And.intro (nF hb_7_0) (And.intro (nF hb_7_0) (And.intro (nF hb_7_0) (And.intro (nF hb_7_0) (And.intro (nF hb_7_0) (And.intro (impl_Systemplus_s _ _ hr_7_10) (And.intro bod_137 (And.intro (Or.inl rfl : ([] : List Nat) = [] ∨ noSh (.int .i64 r_7_10) = true) (And.intro (nF hb_7_0) (And.intro (nF hb_7_0) (And.intro (nF hb_7_0) (And.intro (nF hb_7_0) (And.intro (impl_Systemplus_s _ _ hr_7_14) (And.intro bod_137 (And.intro (Or.inl rfl : ([] : List Nat) = [] ∨ noSh (.int .i64 r_7_14) = true) (And.intro (nF hb_7_0) (And.intro (impl_Systembelow_s _ _ hr_7_15) (And.intro bod_139 (And.intro (Or.inl rfl : ([] : List Nat) = [] ∨ noSh (.bool r_7_15) = true) (And.intro (nF hb_7_0) (And.intro hb_7_1 (And.intro hb_7_1 (And.intro hb_7_1 (And.intro hb_7_1 (And.intro hb_7_1 (And.intro (impl_Systemtimes_s _ _ hr_7_21) (And.intro bod_138 (And.intro (Or.inl rfl : ([] : List Nat) = [] ∨ noSh (.int .i64 r_7_21) = true) (And.intro hb_7_1 (And.intro hb_7_1 (And.intro hb_7_1 (And.intro hb_7_1 (And.intro (impl_Systemtimes_s _ _ hr_7_25) (And.intro bod_138 (And.intro (Or.inl rfl : ([] : List Nat) = [] ∨ noSh (.int .i64 r_7_25) = true) (And.intro hb_7_1 (And.intro (impl_Systembelow_s _ _ hr_7_26) (And.intro bod_139 (And.intro (Or.inl rfl : ([] : List Nat) = [] ∨ noSh (.bool r_7_26) = true) (And.intro (nF hb_7_0) (And.intro hb_7_1 (And.intro (nF hb_7_0) (And.intro hb_7_2 (And.intro hb_7_2 (And.intro hb_7_2 (And.intro hb_7_2 (And.intro hb_7_2 (And.intro (impl_Systemtimes_s _ _ hr_7_33) (And.intro bod_138 (And.intro (Or.inl rfl : ([] : List Nat) = [] ∨ noSh (.int .i64 r_7_33) = true) (And.intro hb_7_2 (And.intro hb_7_2 (And.intro hb_7_2 (And.intro hb_7_2 (And.intro (impl_Systemtimes_s _ _ hr_7_37) (And.intro bod_138 (And.intro (Or.inl rfl : ([] : List Nat) = [] ∨ noSh (.int .i64 r_7_37) = true) (And.intro hb_7_2 (And.intro (impl_Systembelow_s _ _ hr_7_38) (And.intro bod_139 (And.intro (Or.inl rfl : ([] : List Nat) = [] ∨ noSh (.bool r_7_38) = true) (And.intro (nF hb_7_0) (And.intro hb_7_2 (And.intro (nF hb_7_0) trivial))))))))))))))))))))))))))))))))))))))))))))))))))))))))))))))))))) (by kernel_rfl) (by kernel_rfl) ?_
                      obtain rfl := Option.some.inj h
                      exact Into.mk
                    · refine Wp.reg tiok mix hc (by kernel_rfl) (ah := (some [[], [], [], [0, 1, 2], [0, 1, 2, 3], [0, 1, 2, 3, 4], [0, 1, 2, 3, 4, 5], [0, 1, 2, 3, 4, 5], [0, 1, 2, 3, 4, 5], [0, 1, 2, 3, 4, 5], [0, 1, 2, 3, 4, 5, 7, 8, 9], [0, 1, 2, 3, 4, 5], [0, 1, 2, 3, 4, 5], [0, 1, 2, 3, 4, 5], [0, 1, 2, 3, 4, 5, 7, 8, 9, 10, 11, 12, 13], [0, 1, 2, 3, 4, 5, 6, 7, 8, 9, 10, 11, 12, 13, 14], [0, 1, 2, 3, 4, 5, 6, 7, 8, 9, 10, 11, 12, 13, 14, 15], [0, 1, 2, 3, 4, 5, 6, 7, 8, 9, 10, 11, 12, 13, 14, 15, 16], [0, 1, 2, 3, 4, 5, 6, 7, 8, 9, 10, 11, 12, 13, 14, 15, 16], [0, 1, 2, 3, 4, 5, 6, 7, 8, 9, 10, 11, 12, 13, 14, 15, 16], [0, 1, 2, 3, 4, 5, 6, 7, 8, 9, 10, 11, 12, 13, 14, 15, 16], [0, 1, 2, 3, 4, 5, 6, 7, 8, 9, 10, 11, 12, 13, 14, 15, 16, 18, 19, 20], [0, 1, 2, 3, 4, 5, 6, 7, 8, 9, 10, 11, 12, 13, 14, 15, 16], [0, 1, 2, 3, 4, 5, 6, 7, 8, 9, 10, 11, 12, 13, 14, 15, 16], [0, 1, 2, 3, 4, 5, 6, 7, 8, 9, 10, 11, 12, 13, 14, 15, 16], [0, 1, 2, 3, 4, 5, 6, 7, 8, 9, 10, 11, 12, 13, 14, 15, 16, 18, 19, 20, 21, 22, 23, 24], [0, 1, 2, 3, 4, 5, 6, 7, 8, 9, 10, 11, 12, 13, 14, 15, 16, 17, 18, 19, 20, 21, 22, 23, 24, 25], [0, 1, 2, 3, 4, 5, 6, 7, 8, 9, 10, 11, 12, 13, 14, 15, 16, 17, 18, 19, 20, 21, 22, 23, 24, 25, 26], [0, 1, 2, 3, 4, 5, 6, 7, 8, 9, 10, 11, 12, 13, 14, 15, 16, 17, 18, 19, 20, 21, 22, 23, 24, 25, 26, 27], [0, 1, 2, 3, 4, 5, 6, 7, 8, 9, 10, 11, 12, 13, 14, 15, 16, 17, 18, 19, 20, 21, 22, 23, 24, 25, 26, 27, 28], [0, 1, 2, 3, 4, 5, 6, 7, 8, 9, 10, 11, 12, 13, 14, 15, 16, 17, 18, 19, 20, 21, 22, 23, 24, 25, 26, 27, 28], [0, 1, 2, 3, 4, 5, 6, 7, 8, 9, 10, 11, 12, 13, 14, 15, 16, 17, 18, 19, 20, 21, 22, 23, 24, 25, 26, 27, 28], [0, 1, 2, 3, 4, 5, 6, 7, 8, 9, 10, 11, 12, 13, 14, 15, 16, 17, 18, 19, 20, 21, 22, 23, 24, 25, 26, 27, 28], [0, 1, 2, 3, 4, 5, 6, 7, 8, 9, 10, 11, 12, 13, 14, 15, 16, 17, 18, 19, 20, 21, 22, 23, 24, 25, 26, 27, 28, 30, 31, 32], [0, 1, 2, 3, 4, 5, 6, 7, 8, 9, 10, 11, 12, 13, 14, 15, 16, 17, 18, 19, 20, 21, 22, 23, 24, 25, 26, 27, 28], [0, 1, 2, 3, 4, 5, 6, 7, 8, 9, 10, 11, 12, 13, 14, 15, 16, 17, 18, 19, 20, 21, 22, 23, 24, 25, 26, 27, 28], [0, 1, 2, 3, 4, 5, 6, 7, 8, 9, 10, 11, 12, 13, 14, 15, 16, 17, 18, 19, 20, 21, 22, 23, 24, 25, 26, 27, 28], [0, 1, 2, 3, 4, 5, 6, 7, 8, 9, 10, 11, 12, 13, 14, 15, 16, 17, 18, 19, 20, 21, 22, 23, 24, 25, 26, 27, 28, 30, 31, 32, 33, 34, 35, 36], [0, 1, 2, 3, 4, 5, 6, 7, 8, 9, 10, 11, 12, 13, 14, 15, 16, 17, 18, 19, 20, 21, 22, 23, 24, 25, 26, 27, 28, 29, 30, 31, 32, 33, 34, 35, 36, 37], [0, 1, 2, 3, 4, 5, 6, 7, 8, 9, 10, 11, 12, 13, 14, 15, 16, 17, 18, 19, 20, 21, 22, 23, 24, 25, 26, 27, 28, 29, 30, 31, 32, 33, 34, 35, 36, 37, 38], [0, 1, 2, 3, 4, 5, 6, 7, 8, 9, 10, 11, 12, 13, 14, 15, 16, 17, 18, 19, 20, 21, 22, 23, 24, 25, 26, 27, 28, 29, 30, 31, 32, 33, 34, 35, 36, 37, 38, 39], [0, 1, 2, 3, 4, 5, 6, 7, 8, 9, 10, 11, 12, 13, 14, 15, 16, 17, 18, 19, 20, 21, 22, 23, 24, 25, 26, 27, 28, 29, 30, 31, 32, 33, 34, 35, 36, 37, 38, 39, 40]])) (rs := [some (.no), some (.no), some (.no), some (.call (.bool r_7_3) [] 1), some (.no), some (.no), some (.no), some (.no), some (.no), some (.no), some (.call (.int .i64 r_7_10) [] 1), some (.no), some (.no), some (.no), some (.call (.int .i64 r_7_14) [] 1), some (.call (.bool r_7_15) [] 1), some (.no), some (.no), some (.no), some (.no), some (.no), some (.call (.int .i64 r_7_21) [] 1), some (.no), some (.no), some (.no), some (.call (.int .i64 r_7_25) [] 1), some (.call (.bool r_7_26) [] 1), some (.cond true), some (.no), none, none, none, none, none, none, none, none, none, none, some (.cond false), some (.cond false), some (.no)]) (kt := [8]) (ko := []) (T' := [(8, .bool false)]) (O' := []) (by kernel_rfl) (And.intro (impl_Systembelow_s _ _ hr_7_3) (And.intro bod_139 (And.intro (Or.inl rfl : ([] : List Nat) = [] ∨ noSh (.bool r_7_3) = true) (And.intro (nF hb_7_0) (And.intro (nF hb_7_0) (And.intro (nF hb_7_0) (And.intro (nF hb_7_0) (And.intro (nF hb_7_0) (And.intro (impl_Systemplus_s _ _ hr_7_10) (And.intro bod_137 (And.intro (Or.inl rfl : ([] : List Nat) = [] ∨ noSh (.int .i64 r_7_10) = true) (And.intro (nF hb_7_0) (And.intro (nF hb_7_0) (And.intro (nF hb_7_0) (And.intro (nF hb_7_0) (And.intro (impl_Systemplus_s _ _ hr_7_14) (And.intro bod_137 (And.intro (Or.inl rfl : ([] : List Nat) = [] ∨ noSh (.int .i64 r_7_14) = true) (And.intro (nF hb_7_0) (And.intro (impl_Systembelow_s _ _ hr_7_15) (And.intro bod_139 (And.intro (Or.inl rfl : ([] : List Nat) = [] ∨ noSh (.bool r_7_15) = true) (And.intro (nF hb_7_0) (And.intro hb_7_1 (And.intro hb_7_1 (And.intro hb_7_1 (And.intro hb_7_1 (And.intro hb_7_1 (And.intro (impl_Systemtimes_s _ _ hr_7_21) (And.intro bod_138 (And.intro (Or.inl rfl : ([] : List Nat) = [] ∨ noSh (.int .i64 r_7_21) = true) (And.intro hb_7_1 (And.intro hb_7_1 (And.intro hb_7_1 (And.intro hb_7_1 (And.intro (impl_Systemtimes_s _ _ hr_7_25) (And.intro bod_138 (And.intro (Or.inl rfl : ([] : List Nat) = [] ∨ noSh (.int .i64 r_7_25) = true) (And.intro hb_7_1 (And.intro (impl_Systembelow_s _ _ hr_7_26) (And.intro bod_139 (And.intro (Or.inl rfl : ([] : List Nat) = [] ∨ noSh (.bool r_7_26) = true) (And.intro (nF hb_7_0) (And.intro hb_7_1 (And.intro (nF hb_7_0) (And.intro (neT hb_7_2 : r_7_26 ≠ true) (And.intro (neT hb_7_2 : r_7_26 ≠ true) (And.intro (neT hb_7_2 : r_7_26 ≠ true) (And.intro (neT hb_7_2 : r_7_26 ≠ true) (And.intro (neT hb_7_2 : r_7_26 ≠ true) (And.intro (neT hb_7_2 : r_7_26 ≠ true) (And.intro (neT hb_7_2 : r_7_26 ≠ true) (And.intro (neT hb_7_2 : r_7_26 ≠ true) (And.intro (neT hb_7_2 : r_7_26 ≠ true) (And.intro (neT hb_7_2 : r_7_26 ≠ true) (And.intro (nF hb_7_0) (And.intro hb_7_2 (And.intro (nF hb_7_0) trivial)))))))))))))))))))))))))))))))))))))))))))))))))))))))))) (by kernel_rfl) (by kernel_rfl) ?_
                      obtain rfl := Option.some.inj h
                      exact Into.mk
                  · refine Wp.reg tiok mix hc (by kernel_rfl) (ah := (some [[], [], [], [0, 1, 2], [0, 1, 2, 3], [0, 1, 2, 3, 4], [0, 1, 2, 3, 4, 5], [0, 1, 2, 3, 4, 5], [0, 1, 2, 3, 4, 5], [0, 1, 2, 3, 4, 5], [0, 1, 2, 3, 4, 5, 7, 8, 9], [0, 1, 2, 3, 4, 5], [0, 1, 2, 3, 4, 5], [0, 1, 2, 3, 4, 5], [0, 1, 2, 3, 4, 5, 7, 8, 9, 10, 11, 12, 13], [0, 1, 2, 3, 4, 5, 6, 7, 8, 9, 10, 11, 12, 13, 14], [0, 1, 2, 3, 4, 5, 6, 7, 8, 9, 10, 11, 12, 13, 14, 15], [0, 1, 2, 3, 4, 5, 6, 7, 8, 9, 10, 11, 12, 13, 14, 15, 16], [0, 1, 2, 3, 4, 5, 6, 7, 8, 9, 10, 11, 12, 13, 14, 15, 16], [0, 1, 2, 3, 4, 5, 6, 7, 8, 9, 10, 11, 12, 13, 14, 15, 16], [0, 1, 2, 3, 4, 5, 6, 7, 8, 9, 10, 11, 12, 13, 14, 15, 16], [0, 1, 2, 3, 4, 5, 6, 7, 8, 9, 10, 11, 12, 13, 14, 15, 16, 18, 19, 20], [0, 1, 2, 3, 4, 5, 6, 7, 8, 9, 10, 11, 12, 13, 14, 15, 16], [0, 1, 2, 3, 4, 5, 6, 7, 8, 9, 10, 11, 12, 13, 14, 15, 16], [0, 1, 2, 3, 4, 5, 6, 7, 8, 9, 10, 11, 12, 13, 14, 15, 16], [0, 1, 2, 3, 4, 5, 6, 7, 8, 9, 10, 11, 12, 13, 14, 15, 16, 18, 19, 20, 21, 22, 23, 24], [0, 1, 2, 3, 4, 5, 6, 7, 8, 9, 10, 11, 12, 13, 14, 15, 16, 17, 18, 19, 20, 21, 22, 23, 24, 25], [0, 1, 2, 3, 4, 5, 6, 7, 8, 9, 10, 11, 12, 13, 14, 15, 16, 17, 18, 19, 20, 21, 22, 23, 24, 25, 26], [0, 1, 2, 3, 4, 5, 6, 7, 8, 9, 10, 11, 12, 13, 14, 15, 16, 17, 18, 19, 20, 21, 22, 23, 24, 25, 26, 27], [0, 1, 2, 3, 4, 5, 6, 7, 8, 9, 10, 11, 12, 13, 14, 15, 16, 17, 18, 19, 20, 21, 22, 23, 24, 25, 26, 27, 28], [0, 1, 2, 3, 4, 5, 6, 7, 8, 9, 10, 11, 12, 13, 14, 15, 16, 17, 18, 19, 20, 21, 22, 23, 24, 25, 26, 27, 28], [0, 1, 2, 3, 4, 5, 6, 7, 8, 9, 10, 11, 12, 13, 14, 15, 16, 17, 18, 19, 20, 21, 22, 23, 24, 25, 26, 27, 28], [0, 1, 2, 3, 4, 5, 6, 7, 8, 9, 10, 11, 12, 13, 14, 15, 16, 17, 18, 19, 20, 21, 22, 23, 24, 25, 26, 27, 28], [0, 1, 2, 3, 4, 5, 6, 7, 8, 9, 10, 11, 12, 13, 14, 15, 16, 17, 18, 19, 20, 21, 22, 23, 24, 25, 26, 27, 28, 30, 31, 32], [0, 1, 2, 3, 4, 5, 6, 7, 8, 9, 10, 11, 12, 13, 14, 15, 16, 17, 18, 19, 20, 21, 22, 23, 24, 25, 26, 27, 28], [0, 1, 2, 3, 4, 5, 6, 7, 8, 9, 10, 11, 12, 13, 14, 15, 16, 17, 18, 19, 20, 21, 22, 23, 24, 25, 26, 27, 28], [0, 1, 2, 3, 4, 5, 6, 7, 8, 9, 10, 11, 12, 13, 14, 15, 16, 17, 18, 19, 20, 21, 22, 23, 24, 25, 26, 27, 28], [0, 1, 2, 3, 4, 5, 6, 7, 8, 9, 10, 11, 12, 13, 14, 15, 16, 17, 18, 19, 20, 21, 22, 23, 24, 25, 26, 27, 28, 30, 31, 32, 33, 34, 35, 36], [0, 1, 2, 3, 4, 5, 6, 7, 8, 9, 10, 11, 12, 13, 14, 15, 16, 17, 18, 19, 20, 21, 22, 23, 24, 25, 26, 27, 28, 29, 30, 31, 32, 33, 34, 35, 36, 37], [0, 1, 2, 3, 4, 5, 6, 7, 8, 9, 10, 11, 12, 13, 14, 15, 16, 17, 18, 19, 20, 21, 22, 23, 24, 25, 26, 27, 28, 29, 30, 31, 32, 33, 34, 35, 36, 37, 38], [0, 1, 2, 3, 4, 5, 6, 7, 8, 9, 10, 11, 12, 13, 14, 15, 16, 17, 18, 19, 20, 21, 22, 23, 24, 25, 26, 27, 28, 29, 30, 31, 32, 33, 34, 35, 36, 37, 38, 39], [0, 1, 2, 3, 4, 5, 6, 7, 8, 9, 10, 11, 12, 13, 14, 15, 16, 17, 18, 19, 20, 21, 22, 23, 24, 25, 26, 27, 28, 29, 30, 31, 32, 33, 34, 35, 36, 37, 38, 39, 40]])) (rs := [some (.no), some (.no), some (.no), some (.call (.bool r_7_3) [] 1), some (.no), some (.no), some (.no), some (.no), some (.no), some (.no), some (.call (.int .i64 r_7_10) [] 1), some (.no), some (.no), some (.no), some (.call (.int .i64 r_7_14) [] 1), some (.call (.bool r_7_15) [] 1), some (.no), none, none, none, none, none, none, none, none, none, none, some (.cond false), some (.no), none, none, none, none, none, none, none, none, none, none, some (.cond false), some (.cond false), some (.no)]) (kt := [8]) (ko := []) (T' := [(8, .bool false)]) (O' := []) (by kernel_rfl) (And.intro (impl_Systembelow_s _ _ hr_7_3) (And.intro bod_139 (And.intro (Or.inl rfl : ([] : List Nat) = [] ∨ noSh (.bool r_7_3) = true) (And.intro (nF hb_7_0) (And.intro (nF hb_7_0) (And.intro (nF hb_7_0) (And.intro (nF hb_7_0) (And.intro (nF hb_7_0) (And.intro (impl_Systemplus_s _ _ hr_7_10) (And.intro bod_137 (And.intro (Or.inl rfl : ([] : List Nat) = [] ∨ noSh (.int .i64 r_7_10) = true) (And.intro (nF hb_7_0) (And.intro (nF hb_7_0) (And.intro (nF hb_7_0) (And.intro (nF hb_7_0) (And.intro (impl_Systemplus_s _ _ hr_7_14) (And.intro bod_137 (And.intro (Or.inl rfl : ([] : List Nat) = [] ∨ noSh (.int .i64 r_7_14) = true) (And.intro (nF hb_7_0) (And.intro (impl_Systembelow_s _ _ hr_7_15) (And.intro bod_139 (And.intro (Or.inl rfl : ([] : List Nat) = [] ∨ noSh (.bool r_7_15) = true) (And.intro (nF hb_7_0) (And.intro (neT hb_7_1 : r_7_15 ≠ true) (And.intro (neT hb_7_1 : r_7_15 ≠ true) (And.intro (neT hb_7_1 : r_7_15 ≠ true) (And.intro (neT hb_7_1 : r_7_15 ≠ true) (And.intro (neT hb_7_1 : r_7_15 ≠ true) (And.intro (neT hb_7_1 : r_7_15 ≠ true) (And.intro (neT hb_7_1 : r_7_15 ≠ true) (And.intro (neT hb_7_1 : r_7_15 ≠ true) (And.intro (neT hb_7_1 : r_7_15 ≠ true) (And.intro (neT hb_7_1 : r_7_15 ≠ true) (And.intro (nF hb_7_0) (And.intro hb_7_1 (And.intro (nF hb_7_0) (And.intro (neT (rfl : false = false) : false ≠ true) (And.intro (neT (rfl : false = false) : false ≠ true) (And.intro (neT (rfl : false = false) : false ≠ true) (And.intro (neT (rfl : false = false) : false ≠ true) (And.intro (neT (rfl : false = false) : false ≠ true) (And.intro (neT (rfl : false = false) : false ≠ true) (And.intro (neT (rfl : false = false) : false ≠ true) (And.intro (neT (rfl : false = false) : false ≠ true) (And.intro (neT (rfl : false = false) : false ≠ true) (And.intro (neT (rfl : false = false) : false ≠ true) (And.intro (nF hb_7_0) (And.intro (rfl : false = false) (And.intro (nF hb_7_0) trivial))))))))))))))))))))))))))))))))))))))))))))))))) (by kernel_rfl) (by kernel_rfl) ?_
                    obtain rfl := Option.some.inj h
                    exact Into.mk
                · refine Wp.reg tiok mix hc (by kernel_rfl) (ah := (some [[], [], [], [0, 1, 2], [0, 1, 2, 3], [0, 1, 2, 3, 4], [0, 1, 2, 3, 4, 5], [0, 1, 2, 3, 4, 5], [0, 1, 2, 3, 4, 5], [0, 1, 2, 3, 4, 5], [0, 1, 2, 3, 4, 5, 7, 8, 9], [0, 1, 2, 3, 4, 5], [0, 1, 2, 3, 4, 5], [0, 1, 2, 3, 4, 5], [0, 1, 2, 3, 4, 5, 7, 8, 9, 10, 11, 12, 13], [0, 1, 2, 3, 4, 5, 6, 7, 8, 9, 10, 11, 12, 13, 14], [0, 1, 2, 3, 4, 5, 6, 7, 8, 9, 10, 11, 12, 13, 14, 15], [0, 1, 2, 3, 4, 5, 6, 7, 8, 9, 10, 11, 12, 13, 14, 15, 16], [0, 1, 2, 3, 4, 5, 6, 7, 8, 9, 10, 11, 12, 13, 14, 15, 16], [0, 1, 2, 3, 4, 5, 6, 7, 8, 9, 10, 11, 12, 13, 14, 15, 16], [0, 1, 2, 3, 4, 5, 6, 7, 8, 9, 10, 11, 12, 13, 14, 15, 16], [0, 1, 2, 3, 4, 5, 6, 7, 8, 9, 10, 11, 12, 13, 14, 15, 16, 18, 19, 20], [0, 1, 2, 3, 4, 5, 6, 7, 8, 9, 10, 11, 12, 13, 14, 15, 16], [0, 1, 2, 3, 4, 5, 6, 7, 8, 9, 10, 11, 12, 13, 14, 15, 16], [0, 1, 2, 3, 4, 5, 6, 7, 8, 9, 10, 11, 12, 13, 14, 15, 16], [0, 1, 2, 3, 4, 5, 6, 7, 8, 9, 10, 11, 12, 13, 14, 15, 16, 18, 19, 20, 21, 22, 23, 24], [0, 1, 2, 3, 4, 5, 6, 7, 8, 9, 10, 11, 12, 13, 14, 15, 16, 17, 18, 19, 20, 21, 22, 23, 24, 25], [0, 1, 2, 3, 4, 5, 6, 7, 8, 9, 10, 11, 12, 13, 14, 15, 16, 17, 18, 19, 20, 21, 22, 23, 24, 25, 26], [0, 1, 2, 3, 4, 5, 6, 7, 8, 9, 10, 11, 12, 13, 14, 15, 16, 17, 18, 19, 20, 21, 22, 23, 24, 25, 26, 27], [0, 1, 2, 3, 4, 5, 6, 7, 8, 9, 10, 11, 12, 13, 14, 15, 16, 17, 18, 19, 20, 21, 22, 23, 24, 25, 26, 27, 28], [0, 1, 2, 3, 4, 5, 6, 7, 8, 9, 10, 11, 12, 13, 14, 15, 16, 17, 18, 19, 20, 21, 22, 23, 24, 25, 26, 27, 28], [0, 1, 2, 3, 4, 5, 6, 7, 8, 9, 10, 11, 12, 13, 14, 15, 16, 17, 18, 19, 20, 21, 22, 23, 24, 25, 26, 27, 28], [0, 1, 2, 3, 4, 5, 6, 7, 8, 9, 10, 11, 12, 13, 14, 15, 16, 17, 18, 19, 20, 21, 22, 23, 24, 25, 26, 27, 28], [0, 1, 2, 3, 4, 5, 6, 7, 8, 9, 10, 11, 12, 13, 14, 15, 16, 17, 18, 19, 20, 21, 22, 23, 24, 25, 26, 27, 28, 30, 31, 32], [0, 1, 2, 3, 4, 5, 6, 7, 8, 9, 10, 11, 12, 13, 14, 15, 16, 17, 18, 19, 20, 21, 22, 23, 24, 25, 26, 27, 28], [0, 1, 2, 3, 4, 5, 6, 7, 8, 9, 10, 11, 12, 13, 14, 15, 16, 17, 18, 19, 20, 21, 22, 23, 24, 25, 26, 27, 28], [0, 1, 2, 3, 4, 5, 6, 7, 8, 9, 10, 11, 12, 13, 14, 15, 16, 17, 18, 19, 20, 21, 22, 23, 24, 25, 26, 27, 28], [0, 1, 2, 3, 4, 5, 6, 7, 8, 9, 10, 11, 12, 13, 14, 15, 16, 17, 18, 19, 20, 21, 22, 23, 24, 25, 26, 27, 28, 30, 31, 32, 33, 34, 35, 36], [0, 1, 2, 3, 4, 5, 6, 7, 8, 9, 10, 11, 12, 13, 14, 15, 16, 17, 18, 19, 20, 21, 22, 23, 24, 25, 26, 27, 28, 29, 30, 31, 32, 33, 34, 35, 36, 37], [0, 1, 2, 3, 4, 5, 6, 7, 8, 9, 10, 11, 12, 13, 14, 15, 16, 17, 18, 19, 20, 21, 22, 23, 24, 25, 26, 27, 28, 29, 30, 31, 32, 33, 34, 35, 36, 37, 38], [0, 1, 2, 3, 4, 5, 6, 7, 8, 9, 10, 11, 12, 13, 14, 15, 16, 17, 18, 19, 20, 21, 22, 23, 24, 25, 26, 27, 28, 29, 30, 31, 32, 33, 34, 35, 36, 37, 38, 39], [0, 1, 2, 3, 4, 5, 6, 7, 8, 9, 10, 11, 12, 13, 14, 15, 16, 17, 18, 19, 20, 21, 22, 23, 24, 25, 26, 27, 28, 29, 30, 31, 32, 33, 34, 35, 36, 37, 38, 39, 40]])) (rs := [some (.no), some (.no), some (.no), some (.call (.bool r_7_3) [] 1), some (.no), some (.no), none, none, none, none, none, none, none, none, none, none, none, none, none, none, none, none, none, none, none, none, none, none, none, none, none, none, none, none, none, none, none, none, none, none, some (.cond true), some (.no)]) (kt := [8]) (ko := []) (T' := [(8, .bool true)]) (O' := []) (by kernel_rfl) (And.intro (impl_Systembelow_s _ _ hr_7_3) (And.intro bod_139 (And.intro (Or.inl rfl : ([] : List Nat) = [] ∨ noSh (.bool r_7_3) = true) (And.intro (neF (nT hb_7_0) : (!r_7_3) ≠ false) (And.intro (neF (nT hb_7_0) : (!r_7_3) ≠ false) (And.intro (neF (nT hb_7_0) : (!r_7_3) ≠ false) (And.intro (neF (nT hb_7_0) : (!r_7_3) ≠ false) (And.intro (neF (nT hb_7_0) : (!r_7_3) ≠ false) (And.intro (neF (nT hb_7_0) : (!r_7_3) ≠ false) (And.intro (neF (nT hb_7_0) : (!r_7_3) ≠ false) (And.intro (neF (nT hb_7_0) : (!r_7_3) ≠ false) (And.intro (neF (nT hb_7_0) : (!r_7_3) ≠ false) (And.intro (neF (nT hb_7_0) : (!r_7_3) ≠ false) (And.intro (neF (nT hb_7_0) : (!r_7_3) ≠ false) (And.intro (neF (nT hb_7_0) : (!r_7_3) ≠ false) (And.intro (neF (nT hb_7_0) : (!r_7_3) ≠ false) (And.intro (neF (nT hb_7_0) : (!r_7_3) ≠ false) (And.intro (nT hb_7_0) trivial)))))))))))))))))) (by kernel_rfl) (by kernel_rfl) ?_
                  obtain rfl := Option.some.inj h
                  exact Into.mk
              · clear hj_11
                refine seqQ_norm ?_
                refine Wp.retN (by kernel_rfl) ?_
                obtain rfl := Option.some.inj h
                exact RetQ.ret (fl := [true]) (by kernel_rfl)
def impl_IsSystem_F1 (c : Ctx) (s0 : GSystem) : (Unit) ⊕ (Bool) → Exit → AState → Prop
  | .inl _ => Into c (.exit 0) (mkS [(1, .ra 1 0), (3, .int .i64 s0.fSize)] [(1, .box [.int .i64 s0.fSize, .sl (List.map I s0.fPlus), .sl (List.map I s0.fTimes), .sl (List.map AV.bool s0.fBelow)])])
  | .inr r => RetE TIx Try.f89 [] (.bool r)
def impl_IsSystem_l0 (p : GSystem × Int) : Option ((Unit) ⊕ (Bool)) :=
  match p with
  | (s0, w_8) =>
    if (decide (w_8 < (s0.fPlus.length : Int))) = true then
      (
        (idx s0.fPlus w_8) >>= fun e_7_4 =>
        (impl_Systemhas (s0, e_7_4)) >>= fun r_7_6 =>
        if r_7_6 = true then
          (idx s0.fTimes w_8) >>= fun e_7_13 =>
          (impl_Systemhas (s0, e_7_13)) >>= fun r_7_15 =>
          some ((!r_7_15))
        else
          some (true)
      ) >>= fun v_10 =>
      if v_10 = true then
        some (.inr false)
      else
        impl_IsSystem_l0 (s0, (wr (w_8 + 1)))
    else
      some (.inl ())
  partial_fixpoint
def M_impl_IsSystem_l0 (p : GSystem × Int) (fl : (Unit) ⊕ (Bool)) : Prop :=
  match p with
  | (s0, w_8) => ∀ c : Ctx, c.nt = 157 → WpL Try.prog c (cl (cl (cr (cl (cr (cr (cr B89))))))) (impl_IsSystem_F1 c s0 fl) (mkS [(1, .ra 1 0), (3, .int .i64 s0.fSize), (42, .int .i64 (s0.fPlus.length : Int)), (43, .int .i64 w_8)] [(1, .box [.int .i64 s0.fSize, .sl (List.map I s0.fPlus), .sl (List.map I s0.fTimes), .sl (List.map AV.bool s0.fBelow)])])
theorem impl_IsSystem_l0_s : ∀ p r, impl_IsSystem_l0 p = some r → M_impl_IsSystem_l0 p r := by
  refine impl_IsSystem_l0.partial_correctness M_impl_IsSystem_l0 ?_
  rintro impl_IsSystem_l0_f impl_IsSystem_l0_ih ⟨s0, w_8⟩ r h
  intro c hc
  show WpL Try.prog c (cl (cl (cr (cl (cr (cr (cr B89))))))) (impl_IsSystem_F1 c s0 r) (mkS [(1, .ra 1 0), (3, .int .i64 s0.fSize), (42, .int .i64 (s0.fPlus.length : Int)), (43, .int .i64 w_8)] [(1, .box [.int .i64 s0.fSize, .sl (List.map I s0.fPlus), .sl (List.map I s0.fTimes), .sl (List.map AV.bool s0.fBelow)])])
  refine WpL.step ?_
  refine Wp.seqN (by kernel_rfl) ?_
  refine Wp.reg tiok mix hc (by kernel_rfl) (ah := none) (rs := [some (.no)]) (kt := [1, 3, 42, 43, 44]) (ko := [1]) (T' := [(1, .ra 1 0), (3, .int .i64 s0.fSize), (42, .int .i64 (s0.fPlus.length : Int)), (43, .int .i64 w_8), (44, .bool (decide (w_8 < (s0.fPlus.length : Int))))]) (O' := [(1, .box [.int .i64 s0.fSize, .sl (List.map I s0.fPlus), .sl (List.map I s0.fTimes), .sl (List.map AV.bool s0.fBelow)])]) (by kernel_rfl) trivial (by kernel_rfl) (by kernel_rfl) ?_
  refine seqQ_norm ?_
  refine Wp.seqN (by kernel_rfl) ?_
  rcases itesome h with ⟨hb_9, h⟩ | ⟨hb_9, h⟩
  · refine Wp.condT (b := (decide (w_8 < (s0.fPlus.length : Int)))) (by kernel_rfl) (by kernel_rfl) hb_9 ?_
    refine Wp.skipN (by kernel_rfl) ?_
    refine seqQ_norm ?_
    refine Wp.seqN (by kernel_rfl) ?_
    refine Wp.blockN (i := 1) (by kernel_rfl) ?_
    refine Wp.seqN (by kernel_rfl) ?_
    refine Wp.reg tiok mix hc (by kernel_rfl) (ah := none) (rs := [some (.no), some (.no)]) (kt := [1, 3, 4, 42, 43]) (ko := [1]) (T' := [(1, .ra 1 0), (3, .int .i64 s0.fSize), (4, .int .i64 w_8), (42, .int .i64 (s0.fPlus.length : Int)), (43, .int .i64 w_8)]) (O' := [(1, .box [.int .i64 s0.fSize, .sl (List.map I s0.fPlus), .sl (List.map I s0.fTimes), .sl (List.map AV.bool s0.fBelow)])]) (by kernel_rfl) trivial (by kernel_rfl) (by kernel_rfl) ?_
    refine seqQ_norm ?_
    refine Wp.seqN (by kernel_rfl) ?_
    obtain ⟨v_10, hj_11, h⟩ := bsome h
    refine Wp.into (x := .normal) (mkS [(1, .ra 1 0), (3, .int .i64 s0.fSize), (42, .int .i64 (s0.fPlus.length : Int)), (43, .int .i64 w_8), (63, .bool v_10)] [(1, .box [.int .i64 s0.fSize, .sl (List.map I s0.fPlus), .sl (List.map I s0.fTimes), .sl (List.map AV.bool s0.fBelow)])]) ?_ ?_
    · replace h := hj_11
      obtain ⟨e_7_4, hi_7_4, h⟩ := bsome h
      obtain ⟨r_7_6, hr_7_6, h⟩ := bsome h
      rcases itesome h with ⟨hb_7_0, h⟩ | ⟨hb_7_0, h⟩
      · obtain ⟨e_7_13, hi_7_13, h⟩ := bsome h
        obtain ⟨r_7_15, hr_7_15, h⟩ := bsome h
        refine Wp.reg tiok mix hc (by kernel_rfl) (ah := (some [[], [], [1], [], [1, 2, 3], [1, 2, 3, 4], [0, 1, 2, 3, 4, 5], [0, 1, 2, 3, 4, 5, 6], [0, 1, 2, 3, 4, 5, 6, 7], [0, 1, 2, 3, 4, 5, 6, 7, 8], [0, 1, 2, 3, 4, 5, 6, 7, 8], [0, 1, 2, 3, 4, 5, 6, 7, 8, 10], [0, 1, 2, 3, 4, 5, 6, 7, 8], [0, 1, 2, 3, 4, 5, 6, 7, 8, 10, 11, 12], [0, 1, 2, 3, 4, 5, 6, 7, 8, 10, 11, 12, 13], [0, 1, 2, 3, 4, 5, 6, 7, 8, 9, 10, 11, 12, 13, 14], [0, 1, 2, 3, 4, 5, 6, 7, 8, 9, 10, 11, 12, 13, 14, 15], [0, 1, 2, 3, 4, 5, 6, 7, 8, 9, 10, 11, 12, 13, 14, 15, 16]])) (rs := [some (.no), some (.no), some (.no), some (.no), some (.el (.int .i64 e_7_4)), some (.no), some (.call (.bool r_7_6) [] 1), some (.no), some (.no), some (.no), some (.no), some (.no), some (.no), some (.el (.int .i64 e_7_13)), some (.no), some (.call (.bool r_7_15) [] 1), some (.no), some (.cond false)]) (kt := [1, 3, 42, 43, 63]) (ko := [1]) (T' := [(1, .ra 1 0), (3, .int .i64 s0.fSize), (42, .int .i64 (s0.fPlus.length : Int)), (43, .int .i64 w_8), (63, .bool (!r_7_15))]) (O' := [(1, .box [.int .i64 s0.fSize, .sl (List.map I s0.fPlus), .sl (List.map I s0.fTimes), .sl (List.map AV.bool s0.fBelow)])]) (by kernel_rfl) (And.intro (idx_sl (enc := I) (x := .int .i64 e_7_4) hi_7_4 (eq_I e_7_4)) (And.intro (impl_Systemhas_s _ _ hr_7_6) (And.intro bod_117 (And.intro (Or.inl rfl : ([] : List Nat) = [] ∨ noSh (.bool r_7_6) = true) (And.intro (nF hb_7_0) (And.intro (nF hb_7_0) (And.intro (nF hb_7_0) (And.intro (nF hb_7_0) (And.intro (nF hb_7_0) (And.intro (idx_sl (enc := I) (x := .int .i64 e_7_13) hi_7_13 (eq_I e_7_13)) (And.intro (nF hb_7_0) (And.intro (nF hb_7_0) (And.intro (impl_Systemhas_s _ _ hr_7_15) (And.intro bod_117 (And.intro (Or.inl rfl : ([] : List Nat) = [] ∨ noSh (.bool r_7_15) = true) (And.intro (nF hb_7_0) (And.intro (nF hb_7_0) trivial))))))))))))))))) (by kernel_rfl) (by kernel_rfl) ?_
        obtain rfl := Option.some.inj h
        exact Into.mk
      · refine Wp.reg tiok mix hc (by kernel_rfl) (ah := (some [[], [], [1], [], [1, 2, 3], [1, 2, 3, 4], [0, 1, 2, 3, 4, 5], [0, 1, 2, 3, 4, 5, 6], [0, 1, 2, 3, 4, 5, 6, 7], [0, 1, 2, 3, 4, 5, 6, 7, 8], [0, 1, 2, 3, 4, 5, 6, 7, 8], [0, 1, 2, 3, 4, 5, 6, 7, 8, 10], [0, 1, 2, 3, 4, 5, 6, 7, 8], [0, 1, 2, 3, 4, 5, 6, 7, 8, 10, 11, 12], [0, 1, 2, 3, 4, 5, 6, 7, 8, 10, 11, 12, 13], [0, 1, 2, 3, 4, 5, 6, 7, 8, 9, 10, 11, 12, 13, 14], [0, 1, 2, 3, 4, 5, 6, 7, 8, 9, 10, 11, 12, 13, 14, 15], [0, 1, 2, 3, 4, 5, 6, 7, 8, 9, 10, 11, 12, 13, 14, 15, 16]])) (rs := [some (.no), some (.no), some (.no), some (.no), some (.el (.int .i64 e_7_4)), some (.no), some (.call (.bool r_7_6) [] 1), some (.no), some (.no), none, none, none, none, none, none, none, none, some (.cond true)]) (kt := [1, 3, 42, 43, 63]) (ko := [1]) (T' := [(1, .ra 1 0), (3, .int .i64 s0.fSize), (42, .int .i64 (s0.fPlus.length : Int)), (43, .int .i64 w_8), (63, .bool true)]) (O' := [(1, .box [.int .i64 s0.fSize, .sl (List.map I s0.fPlus), .sl (List.map I s0.fTimes), .sl (List.map AV.bool s0.fBelow)])]) (by kernel_rfl) (And.intro (idx_sl (enc := I) (x := .int .i64 e_7_4) hi_7_4 (eq_I e_7_4)) (And.intro (impl_Systemhas_s _ _ hr_7_6) (And.intro bod_117 (And.intro (Or.inl rfl : ([] : List Nat) = [] ∨ noSh (.bool r_7_6) = true) (And.intro (neF (nT hb_7_0) : (!r_7_6) ≠ false) (And.intro (neF (nT hb_7_0) : (!r_7_6) ≠ false) (And.intro (neF (nT hb_7_0) : (!r_7_6) ≠ false) (And.intro (neF (nT hb_7_0) : (!r_7_6) ≠ false) (And.intro (neF (nT hb_7_0) : (!r_7_6) ≠ false) (And.intro (neF (nT hb_7_0) : (!r_7_6) ≠ false) (And.intro (neF (nT hb_7_0) : (!r_7_6) ≠ false) (And.intro (neF (nT hb_7_0) : (!r_7_6) ≠ false) (And.intro (nT hb_7_0) trivial))))))))))))) (by kernel_rfl) (by kernel_rfl) ?_
        obtain rfl := Option.some.inj h
        exact Into.mk
    · clear hj_11
      refine seqQ_norm ?_
      rcases itesome h with ⟨hb_12, h⟩ | ⟨hb_12, h⟩
      · refine Wp.condT (b := v_10) (by kernel_rfl) (by kernel_rfl) hb_12 ?_
        refine Wp.seqN (by kernel_rfl) ?_
        refine Wp.reg tiok mix hc (by kernel_rfl) (ah := none) (rs := [some (.no)]) (kt := [2]) (ko := []) (T' := [(2, .bool false)]) (O' := []) (by kernel_rfl) trivial (by kernel_rfl) (by kernel_rfl) ?_
        refine seqQ_norm ?_
        refine Wp.retN (by kernel_rfl) ?_
        refine blockQ_ret ?_
        refine seqQ_ret ?_
        refine loopQ_ret ?_
        obtain rfl := Option.some.inj h
        exact RetE.ret (fl := [true]) (by kernel_rfl)
      · refine Wp.condF (b := v_10) (by kernel_rfl) (by kernel_rfl) hb_12 ?_
        refine Wp.skipN (by kernel_rfl) ?_
        refine blockQ_norm ?_
        refine seqQ_norm ?_
        refine Wp.reg tiok mix hc (by kernel_rfl) (ah := none) (rs := [some (.no), some (.no)]) (kt := [1, 3, 42, 43]) (ko := [1]) (T' := [(1, .ra 1 0), (3, .int .i64 s0.fSize), (42, .int .i64 (s0.fPlus.length : Int)), (43, .int .i64 (wr (w_8 + 1)))]) (O' := [(1, .box [.int .i64 s0.fSize, .sl (List.map I s0.fPlus), .sl (List.map I s0.fTimes), .sl (List.map AV.bool s0.fBelow)])]) (by kernel_rfl) trivial (by kernel_rfl) (by kernel_rfl) ?_
        refine loopQ_norm ?_
        exact (impl_IsSystem_l0_ih _ _ h c hc)
  · refine Wp.condF (b := (decide (w_8 < (s0.fPlus.length : Int)))) (by kernel_rfl) (by kernel_rfl) hb_9 ?_
    refine Wp.exitN (i := 0) (by kernel_rfl) ?_
    refine seqQ_exit ?_
    refine loopQ_exit ?_
    obtain rfl := Option.some.inj h
    exact Into.view (fun a w hv => SRx.renL [] hv (by kernel_rfl) (by kernel_rfl) (by kernel_rfl))
def impl_IsSystem_F2 (c : Ctx) (s0 : GSystem) (a_40 : Int) (b_55 : Int) : (Unit) ⊕ (Bool) → Exit → AState → Prop
  | .inl _ => Into c (.exit 6) (mkS [(1, .ra 1 0), (3, .int .i64 s0.fSize), (5, .int .i64 a_40), (6, .int .i64 b_55)] [(1, .box [.int .i64 s0.fSize, .sl (List.map I s0.fPlus), .sl (List.map I s0.fTimes), .sl (List.map AV.bool s0.fBelow)])])
  | .inr r => RetE TIx Try.f89 [] (.bool r)
def impl_IsSystem_l1 (p : GSystem × Int × Int × Int) : Option ((Unit) ⊕ (Bool)) :=
  match p with
  | (s0, a_40, b_55, c_62) =>
    if (decide (c_62 < s0.fSize)) = true then
      (impl_SystemlawsOf (s0, a_40, b_55, c_62)) >>= fun r_23_4 =>
      if r_23_4 = true then
        impl_IsSystem_l1 (s0, a_40, b_55, (wr (c_62 + 1)))
      else
        some (.inr false)
    else
      some (.inl ())
  partial_fixpoint
def M_impl_IsSystem_l1 (p : GSystem × Int × Int × Int) (fl : (Unit) ⊕ (Bool)) : Prop :=
  match p with
  | (s0, a_40, b_55, c_62) => ∀ c : Ctx, c.nt = 157 → WpL Try.prog c (cl (cl (cr (cr (cl (cl (cr (cl (cl (cr (cr (cl (cl (cr (cl (cl (cr (cl (cr (cr (cr (cr B89)))))))))))))))))))))) (impl_IsSystem_F2 c s0 a_40 b_55 fl) (mkS [(1, .ra 1 0), (3, .int .i64 s0.fSize), (5, .int .i64 a_40), (6, .int .i64 b_55), (7, .int .i64 c_62)] [(1, .box [.int .i64 s0.fSize, .sl (List.map I s0.fPlus), .sl (List.map I s0.fTimes), .sl (List.map AV.bool s0.fBelow)])])
theorem impl_IsSystem_l1_s : ∀ p r, impl_IsSystem_l1 p = some r → M_impl_IsSystem_l1 p r := by
  refine impl_IsSystem_l1.partial_correctness M_impl_IsSystem_l1 ?_
  rintro impl_IsSystem_l1_f impl_IsSystem_l1_ih ⟨s0, a_40, b_55, c_62⟩ r h
  intro c hc
  show WpL Try.prog c (cl (cl (cr (cr (cl (cl (cr (cl (cl (cr (cr (cl (cl (cr (cl (cl (cr (cl (cr (cr (cr (cr B89)))))))))))))))))))))) (impl_IsSystem_F2 c s0 a_40 b_55 r) (mkS [(1, .ra 1 0), (3, .int .i64 s0.fSize), (5, .int .i64 a_40), (6, .int .i64 b_55), (7, .int .i64 c_62)] [(1, .box [.int .i64 s0.fSize, .sl (List.map I s0.fPlus), .sl (List.map I s0.fTimes), .sl (List.map AV.bool s0.fBelow)])])
  refine WpL.step ?_
  refine Wp.seqN (by kernel_rfl) ?_
  refine Wp.seqN (by kernel_rfl) ?_
  refine Wp.reg tiok mix hc (by kernel_rfl) (ah := none) (rs := [some (.no), some (.no), some (.no)]) (kt := [1, 3, 5, 6, 7, 148]) (ko := [1]) (T' := [(1, .ra 1 0), (3, .int .i64 s0.fSize), (5, .int .i64 a_40), (6, .int .i64 b_55), (7, .int .i64 c_62), (148, .bool (decide (c_62 < s0.fSize)))]) (O' := [(1, .box [.int .i64 s0.fSize, .sl (List.map I s0.fPlus), .sl (List.map I s0.fTimes), .sl (List.map AV.bool s0.fBelow)])]) (by kernel_rfl) trivial (by kernel_rfl) (by kernel_rfl) ?_
  refine seqQ_norm ?_
  rcases itesome h with ⟨hb_63, h⟩ | ⟨hb_63, h⟩
  · refine Wp.condT (b := (decide (c_62 < s0.fSize))) (by kernel_rfl) (by kernel_rfl) hb_63 ?_
    refine Wp.skipN (by kernel_rfl) ?_
    refine seqQ_norm ?_
    refine Wp.seqN (by kernel_rfl) ?_
    refine Wp.blockN (i := 7) (by kernel_rfl) ?_
    refine Wp.seqN (by kernel_rfl) ?_
    obtain ⟨r_23_4, hr_23_4, h⟩ := bsome h
    refine Wp.reg tiok mix hc (by kernel_rfl) (ah := none) (rs := [some (.no), some (.no), some (.no), some (.no), some (.call (.bool r_23_4) [] 1), some (.no)]) (kt := [1, 3, 5, 6, 7, 156]) (ko := [1]) (T' := [(1, .ra 1 0), (3, .int .i64 s0.fSize), (5, .int .i64 a_40), (6, .int .i64 b_55), (7, .int .i64 c_62), (156, .bool (!r_23_4))]) (O' := [(1, .box [.int .i64 s0.fSize, .sl (List.map I s0.fPlus), .sl (List.map I s0.fTimes), .sl (List.map AV.bool s0.fBelow)])]) (by kernel_rfl) (And.intro (impl_SystemlawsOf_s _ _ hr_23_4) (And.intro bod_141 (And.intro (Or.inl rfl : ([] : List Nat) = [] ∨ noSh (.bool r_23_4) = true) trivial))) (by kernel_rfl) (by kernel_rfl) ?_
    refine seqQ_norm ?_
    rcases itesome h with ⟨hb_64, h⟩ | ⟨hb_64, h⟩
    · refine Wp.condF (b := (!r_23_4)) (by kernel_rfl) (by kernel_rfl) (nF hb_64) ?_
      refine Wp.skipN (by kernel_rfl) ?_
      refine blockQ_norm ?_
      refine seqQ_norm ?_
      refine Wp.reg tiok mix hc (by kernel_rfl) (ah := none) (rs := [some (.no), some (.no), some (.no)]) (kt := [1, 3, 5, 6, 7]) (ko := [1]) (T' := [(1, .ra 1 0), (3, .int .i64 s0.fSize), (5, .int .i64 a_40), (6, .int .i64 b_55), (7, .int .i64 (wr (c_62 + 1)))]) (O' := [(1, .box [.int .i64 s0.fSize, .sl (List.map I s0.fPlus), .sl (List.map I s0.fTimes), .sl (List.map AV.bool s0.fBelow)])]) (by kernel_rfl) trivial (by kernel_rfl) (by kernel_rfl) ?_
      refine loopQ_norm ?_
      exact (impl_IsSystem_l1_ih _ _ h c hc)
    · refine Wp.condT (b := (!r_23_4)) (by kernel_rfl) (by kernel_rfl) (nT hb_64) ?_
      refine Wp.seqN (by kernel_rfl) ?_
      refine Wp.reg tiok mix hc (by kernel_rfl) (ah := none) (rs := [some (.no)]) (kt := [2]) (ko := []) (T' := [(2, .bool false)]) (O' := []) (by kernel_rfl) trivial (by kernel_rfl) (by kernel_rfl) ?_
      refine seqQ_norm ?_
      refine Wp.retN (by kernel_rfl) ?_
      refine blockQ_ret ?_
      refine seqQ_ret ?_
      refine loopQ_ret ?_
      obtain rfl := Option.some.inj h
      exact RetE.ret (fl := [true]) (by kernel_rfl)
  · refine Wp.condF (b := (decide (c_62 < s0.fSize))) (by kernel_rfl) (by kernel_rfl) hb_63 ?_
    refine Wp.exitN (i := 6) (by kernel_rfl) ?_
    refine seqQ_exit ?_
    refine loopQ_exit ?_
    obtain rfl := Option.some.inj h
    exact Into.view (fun a w hv => SRx.renL [] hv (by kernel_rfl) (by kernel_rfl) (by kernel_rfl))
def impl_IsSystem_F3 (c : Ctx) (s0 : GSystem) (a_40 : Int) : (Unit) ⊕ (Bool) → Exit → AState → Prop
  | .inl _ => Into c (.exit 4) (mkS [(1, .ra 1 0), (3, .int .i64 s0.fSize), (5, .int .i64 a_40)] [(1, .box [.int .i64 s0.fSize, .sl (List.map I s0.fPlus), .sl (List.map I s0.fTimes), .sl (List.map AV.bool s0.fBelow)])])
  | .inr r => RetE TIx Try.f89 [] (.bool r)
end Go.Am
