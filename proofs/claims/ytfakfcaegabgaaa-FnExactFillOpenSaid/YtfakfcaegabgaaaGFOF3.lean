/- Functions of the program as pure functions, and that it computes them. Printed by a program of mine (gen.py). -/
import Derived.Test.YtfakfcaegabgaaaGFOF2
set_option linter.unusedVariables false
set_option linter.unusedSimpArgs false
set_option maxRecDepth 100000
namespace Go.Am
open Go Go.Proofs
def slices_ContainsFunc_int_Kimpl_FillOpen_c1 (s0 : (List Int)) : Option (Bool) :=
    (slices_IndexFunc_int_Kimpl_FillOpen_c1 s0) >>= fun r_1_2 =>
    some (decide (r_1_2 ≥ 0))
def M_slices_ContainsFunc_int_Kimpl_FillOpen_c1 (s0 : (List Int)) (r : Bool) : Prop :=
  FnSound Try.prog 62 [.sl (List.map I s0), .fn 63 []] (.bool r) []
theorem slices_ContainsFunc_int_Kimpl_FillOpen_c1_s : ∀ p r, slices_ContainsFunc_int_Kimpl_FillOpen_c1 p = some r → M_slices_ContainsFunc_int_Kimpl_FillOpen_c1 p r := by
  rintro s0 r h
  unfold slices_ContainsFunc_int_Kimpl_FillOpen_c1 at h
  show FnSound Try.prog 62 [.sl (List.map I s0), .fn 63 []] (.bool r) []
  refine FnSound.body0 tiok (fn := Try.f62) (code := B62) (by kernel_rfl) (by kernel_rfl) (by kernel_rfl) (by kernel_rfl) (nt := 9) (by kernel_rfl) (by kernel_rfl) (T := [(0, .sl (List.map I s0)), (1, .fn 63 [])]) (O := []) (by kernel_rfl) (by kernel_rfl) (fun c hc => ?_)
  refine Wp.seqN (by kernel_rfl) ?_
  refine Wp.reg tiok mix hc (by kernel_rfl) (ah := none) (rs := [some (.no)]) (kt := [0, 1]) (ko := []) (T' := [(0, .sl (List.map I s0)), (1, .fn 63 [])]) (O' := []) (by kernel_rfl) trivial (by kernel_rfl) (by kernel_rfl) ?_
  refine seqQ_norm ?_
  refine Wp.seqN (by kernel_rfl) ?_
  obtain ⟨r_1_2, hr_1_2, h⟩ := bsome h
  refine Wp.reg tiok mix hc (by kernel_rfl) (ah := none) (rs := [some (.no), some (.no), some (.call (.int .i64 r_1_2) [] 1), some (.no), some (.no)]) (kt := [4]) (ko := []) (T' := [(4, .bool (decide (r_1_2 ≥ 0)))]) (O' := []) (by kernel_rfl) (And.intro (slices_IndexFunc_int_Kimpl_FillOpen_c1_s _ _ hr_1_2) (And.intro bod_113 (And.intro (Or.inl rfl : ([] : List Nat) = [] ∨ noSh (.int .i64 r_1_2) = true) trivial))) (by kernel_rfl) (by kernel_rfl) ?_
  refine seqQ_norm ?_
  refine Wp.retN (by kernel_rfl) ?_
  obtain rfl := Option.some.inj h
  exact RetQ.ret (fl := [true]) (by kernel_rfl)
def slices_Clone_int (s0 : (List Int)) : Option ((List Int)) :=
    (fits (([] : List Int).length + s0.length) 8) >>= fun _ =>
    some s0
def M_slices_Clone_int (s0 : (List Int)) (r : (List Int)) : Prop :=
  FnSound Try.prog 105 [.sl (List.map I s0)] (.osl (List.map I r)) []
theorem slices_Clone_int_s : ∀ p r, slices_Clone_int p = some r → M_slices_Clone_int p r := by
  rintro s0 r h
  unfold slices_Clone_int at h
  show FnSound Try.prog 105 [.sl (List.map I s0)] (.osl (List.map I r)) []
  refine FnSound.body0 tiok (fn := Try.f105) (code := B105) (by kernel_rfl) (by kernel_rfl) (by kernel_rfl) (by kernel_rfl) (nt := 8) (by kernel_rfl) (by kernel_rfl) (T := [(0, .sl (List.map I s0))]) (O := []) (by kernel_rfl) (by kernel_rfl) (fun c hc => ?_)
  refine Wp.seqN (by kernel_rfl) ?_
  refine Wp.reg tiok mix hc (by kernel_rfl) (ah := none) (rs := [some (.no)]) (kt := [0]) (ko := []) (T' := [(0, .sl (List.map I s0))]) (O' := []) (by kernel_rfl) trivial (by kernel_rfl) (by kernel_rfl) ?_
  refine seqQ_norm ?_
  refine Wp.seqN (by kernel_rfl) ?_
  refine Wp.seqN (by kernel_rfl) ?_
  refine Wp.reg tiok mix hc (by kernel_rfl) (ah := none) (rs := [some (.no), some (.no)]) (kt := [0, 4]) (ko := []) (T' := [(0, .sl (List.map I s0)), (4, .nilq (List.map I s0))]) (O' := []) (by kernel_rfl) trivial (by kernel_rfl) (by kernel_rfl) ?_
  refine seqQ_norm ?_
  refine Wp.condNil (xs := List.map I s0) (by kernel_rfl) (by kernel_rfl) (fun hn => ?_) ?_
  · replace hn := List.map_eq_nil_iff.1 hn
    replace h : (some []) = some r := by rw [hn] at h; simpa [fits, chk] using h
    refine Wp.seqN (by kernel_rfl) ?_
    refine Wp.reg tiok mix hc (by kernel_rfl) (ah := none) (rs := [some (.no)]) (kt := [2]) (ko := []) (T' := [(2, .nils)]) (O' := []) (by kernel_rfl) trivial (by kernel_rfl) (by kernel_rfl) ?_
    refine seqQ_norm ?_
    refine Wp.retN (by kernel_rfl) ?_
    refine seqQ_ret ?_
    obtain rfl := Option.some.inj h
    exact RetQ.ret (fl := [true]) (by kernel_rfl)
  · refine Wp.skipN (by kernel_rfl) ?_
    refine seqQ_norm ?_
    refine Wp.seqN (by kernel_rfl) ?_
    obtain ⟨_, hk_3_2, h⟩ := bsome h
    refine Wp.reg tiok mix hc (by kernel_rfl) (ah := none) (rs := [some (.mk 1 true), some (.no), some (.eqv (.mk 2 true) ⟨[(7, .rs 2)], [(2, some (.arr (List.map I s0))), (1, none)], [2]⟩), some (.no)]) (kt := [2]) (ko := [2]) (T' := [(2, .rs 2)]) (O' := [(2, .arr (List.map I s0))]) (by kernel_rfl) (And.intro (congrArg (fun z => (⟨[(7, .rs 2)], [(2, some (.arr z)), (1, none)], [2]⟩ : Wr)) (List.nil_append _ : [] ++ (List.map I s0) = List.map I s0)) (And.intro (app_ob (enc1 := I) (enc2 := I) (e1 := []) (e2 := s0) (sz := 1) ek_I ek_I hk_3_2) trivial)) (by kernel_rfl) (by kernel_rfl) ?_
    refine seqQ_norm ?_
    refine Wp.retN (by kernel_rfl) ?_
    obtain rfl := Option.some.inj h
    exact RetQ.ret (fl := [true]) (by kernel_rfl)
def impl_fill_F1 (c : Ctx) (t0 : GTerm) (out_5 : Int) : (List Int) × (List Int) → Exit → AState → Prop
  | (l_28, out_29) => Into c (.exit 0) (mkS [(1, .sl (List.map I l_28)), (2, .ra 1 0), (4, .ra 2 0), (6, .ra 4 0)] [(1, .box [.int .i64 t0.fOp, .int .i64 t0.fN, .sl (List.map I t0.fType), .sl (List.map GTerm_S t0.fKids)]), (2, .box [.int .i64 0, .int .i64 0, .nils, .nils]), (3, .arr (List.map I out_29)), (4, .box [.int .i64 t0.fOp, .int .i64 out_5, .rs 3, .nils])])
def impl_fill_F2 (c : Ctx) (t0 : GTerm) (out_5 : Int) (out_29 : List Int) : (List Int) × (List GTerm) → Exit → AState → Prop
  | (l_37, out_38) => Into c (.exit 3) (mkS [(1, .sl (List.map I l_37)), (4, .ra 2 0), (6, .ra 4 0)] [(2, .box [.int .i64 0, .int .i64 0, .nils, .nils]), (3, .arr (List.map I out_29)), (4, .box [.int .i64 t0.fOp, .int .i64 out_5, .rs 3, .rs 12]), (12, .arr (List.map GTerm_O out_38))])
def impl_fill_l0 (p : GTerm × (List Int) × Int × (List Int) × (List Int) × Int) : Option ((List Int) × (List Int)) :=
  match p with
  | (t0, r_1_6, out_5, l_16, out_17, w_18) =>
    if (decide (w_18 < (r_1_6.length : Int))) = true then
      (idx out_17 w_18) >>= fun e_7_1 =>
      (
        if (e_7_1 == 35) = true then
          (idx l_16 0) >>= fun e_10_4 =>
          (cut l_16 (some 1) none none) >>= fun c_10_8 =>
          (idx out_17 w_18) >>= fun e_10_9 =>
          some ((c_10_8, (List.set out_17 (Int.toNat w_18) (wr (3 + e_10_4)))))
        else
          (
            if (e_7_1 == 36) = true then
              (idx l_16 0) >>= fun e_12_4 =>
              (cut l_16 (some 1) none none) >>= fun c_12_8 =>
              (idx out_17 w_18) >>= fun e_12_9 =>
              some ((c_12_8, (List.set out_17 (Int.toNat w_18) (wr (19 + e_12_4)))))
            else
              some ((l_16, out_17))
          ) >>= fun (l_22, out_23) =>
          some ((l_22, out_23))
      ) >>= fun (l_25, out_26) =>
      impl_fill_l0 (t0, r_1_6, out_5, l_25, out_26, (wr (w_18 + 1)))
    else
      some ((l_16, out_17))
  partial_fixpoint
def M_impl_fill_l0 (p : GTerm × (List Int) × Int × (List Int) × (List Int) × Int) (fl : (List Int) × (List Int)) : Prop :=
  match p with
  | (t0, r_1_6, out_5, l_16, out_17, w_18) => ∀ c : Ctx, c.nt = 97 → WpL Try.prog c (cl (cl (cr (cl (cr (cr (cr B65))))))) (impl_fill_F1 c t0 out_5 fl) (mkS [(1, .sl (List.map I l_16)), (2, .ra 1 0), (4, .ra 2 0), (6, .ra 4 0), (42, .rs 3), (43, .int .i64 (r_1_6.length : Int)), (44, .int .i64 w_18)] [(1, .box [.int .i64 t0.fOp, .int .i64 t0.fN, .sl (List.map I t0.fType), .sl (List.map GTerm_S t0.fKids)]), (2, .box [.int .i64 0, .int .i64 0, .nils, .nils]), (3, .arr (List.map I out_17)), (4, .box [.int .i64 t0.fOp, .int .i64 out_5, .rs 3, .nils])])
theorem impl_fill_l0_s : ∀ p r, impl_fill_l0 p = some r → M_impl_fill_l0 p r := by
  refine impl_fill_l0.partial_correctness M_impl_fill_l0 ?_
  rintro impl_fill_l0_f impl_fill_l0_ih ⟨t0, r_1_6, out_5, l_16, out_17, w_18⟩ r h
  intro c hc
  show WpL Try.prog c (cl (cl (cr (cl (cr (cr (cr B65))))))) (impl_fill_F1 c t0 out_5 r) (mkS [(1, .sl (List.map I l_16)), (2, .ra 1 0), (4, .ra 2 0), (6, .ra 4 0), (42, .rs 3), (43, .int .i64 (r_1_6.length : Int)), (44, .int .i64 w_18)] [(1, .box [.int .i64 t0.fOp, .int .i64 t0.fN, .sl (List.map I t0.fType), .sl (List.map GTerm_S t0.fKids)]), (2, .box [.int .i64 0, .int .i64 0, .nils, .nils]), (3, .arr (List.map I out_17)), (4, .box [.int .i64 t0.fOp, .int .i64 out_5, .rs 3, .nils])])
  refine WpL.step ?_
  refine Wp.seqN (by kernel_rfl) ?_
  refine Wp.reg tiok mix hc (by kernel_rfl) (ah := none) (rs := [some (.no)]) (kt := [1, 2, 4, 6, 42, 43, 44, 45]) (ko := [1, 2, 3, 4]) (T' := [(1, .sl (List.map I l_16)), (2, .ra 1 0), (4, .ra 2 0), (6, .ra 4 0), (42, .rs 3), (43, .int .i64 (r_1_6.length : Int)), (44, .int .i64 w_18), (45, .bool (decide (w_18 < (r_1_6.length : Int))))]) (O' := [(1, .box [.int .i64 t0.fOp, .int .i64 t0.fN, .sl (List.map I t0.fType), .sl (List.map GTerm_S t0.fKids)]), (2, .box [.int .i64 0, .int .i64 0, .nils, .nils]), (3, .arr (List.map I out_17)), (4, .box [.int .i64 t0.fOp, .int .i64 out_5, .rs 3, .nils])]) (by kernel_rfl) trivial (by kernel_rfl) (by kernel_rfl) ?_
  refine seqQ_norm ?_
  refine Wp.seqN (by kernel_rfl) ?_
  rcases itesome h with ⟨hb_19, h⟩ | ⟨hb_19, h⟩
  · refine Wp.condT (b := (decide (w_18 < (r_1_6.length : Int)))) (by kernel_rfl) (by kernel_rfl) hb_19 ?_
    refine Wp.skipN (by kernel_rfl) ?_
    refine seqQ_norm ?_
    refine Wp.seqN (by kernel_rfl) ?_
    refine Wp.blockN (i := 1) (by kernel_rfl) ?_
    refine Wp.seqN (by kernel_rfl) ?_
    obtain ⟨e_7_1, hi_7_1, h⟩ := bsome h
    refine Wp.reg tiok mix hc (by kernel_rfl) (ah := none) (rs := [some (.no), some (.no), some (.el (.int .i64 e_7_1)), some (.no), some (.no)]) (kt := [1, 2, 4, 6, 9, 10, 42, 43, 44]) (ko := [1, 2, 3, 4]) (T' := [(1, .sl (List.map I l_16)), (2, .ra 1 0), (4, .ra 2 0), (6, .ra 4 0), (9, .int .i64 w_18), (10, .int .i64 e_7_1), (42, .rs 3), (43, .int .i64 (r_1_6.length : Int)), (44, .int .i64 w_18)]) (O' := [(1, .box [.int .i64 t0.fOp, .int .i64 t0.fN, .sl (List.map I t0.fType), .sl (List.map GTerm_S t0.fKids)]), (2, .box [.int .i64 0, .int .i64 0, .nils, .nils]), (3, .arr (List.map I out_17)), (4, .box [.int .i64 t0.fOp, .int .i64 out_5, .rs 3, .nils])]) (by kernel_rfl) (And.intro (idx_own (enc := I) hi_7_1) (And.intro (idx_sl (enc := I) (x := .int .i64 e_7_1) hi_7_1 (eq_I e_7_1)).2 trivial)) (by kernel_rfl) (by kernel_rfl) ?_
    refine seqQ_norm ?_
    refine Wp.seqN (by kernel_rfl) ?_
    refine Wp.reg tiok mix hc (by kernel_rfl) (ah := none) (rs := [some (.no)]) (kt := [1, 2, 4, 6, 9, 42, 43, 44, 49]) (ko := [1, 2, 3, 4]) (T' := [(1, .sl (List.map I l_16)), (2, .ra 1 0), (4, .ra 2 0), (6, .ra 4 0), (9, .int .i64 w_18), (42, .rs 3), (43, .int .i64 (r_1_6.length : Int)), (44, .int .i64 w_18), (49, .int .i64 e_7_1)]) (O' := [(1, .box [.int .i64 t0.fOp, .int .i64 t0.fN, .sl (List.map I t0.fType), .sl (List.map GTerm_S t0.fKids)]), (2, .box [.int .i64 0, .int .i64 0, .nils, .nils]), (3, .arr (List.map I out_17)), (4, .box [.int .i64 t0.fOp, .int .i64 out_5, .rs 3, .nils])]) (by kernel_rfl) trivial (by kernel_rfl) (by kernel_rfl) ?_
    refine seqQ_norm ?_
    refine Wp.blockN (i := 2) (by kernel_rfl) ?_
    refine Wp.seqN (by kernel_rfl) ?_
    refine Wp.reg tiok mix hc (by kernel_rfl) (ah := none) (rs := [some (.no), some (.no)]) (kt := [1, 2, 4, 6, 9, 42, 43, 44, 49, 50]) (ko := [1, 2, 3, 4]) (T' := [(1, .sl (List.map I l_16)), (2, .ra 1 0), (4, .ra 2 0), (6, .ra 4 0), (9, .int .i64 w_18), (42, .rs 3), (43, .int .i64 (r_1_6.length : Int)), (44, .int .i64 w_18), (49, .int .i64 e_7_1), (50, .bool (e_7_1 == 35))]) (O' := [(1, .box [.int .i64 t0.fOp, .int .i64 t0.fN, .sl (List.map I t0.fType), .sl (List.map GTerm_S t0.fKids)]), (2, .box [.int .i64 0, .int .i64 0, .nils, .nils]), (3, .arr (List.map I out_17)), (4, .box [.int .i64 t0.fOp, .int .i64 out_5, .rs 3, .nils])]) (by kernel_rfl) trivial (by kernel_rfl) (by kernel_rfl) ?_
    refine seqQ_norm ?_
    obtain ⟨⟨l_25, out_26⟩, hj_27, h⟩ := bsome h
    refine Wp.into (x := .normal) (mkS [(1, .sl (List.map I l_25)), (2, .ra 1 0), (4, .ra 2 0), (6, .ra 4 0), (42, .rs 3), (43, .int .i64 (r_1_6.length : Int)), (44, .int .i64 w_18)] [(1, .box [.int .i64 t0.fOp, .int .i64 t0.fN, .sl (List.map I t0.fType), .sl (List.map GTerm_S t0.fKids)]), (2, .box [.int .i64 0, .int .i64 0, .nils, .nils]), (3, .arr (List.map I out_26)), (4, .box [.int .i64 t0.fOp, .int .i64 out_5, .rs 3, .nils])]) ?_ ?_
    · replace h := hj_27
      rcases itesome h with ⟨hb_20, h⟩ | ⟨hb_20, h⟩
      · refine Wp.condT (b := (e_7_1 == 35)) (by kernel_rfl) (by kernel_rfl) hb_20 ?_
        obtain ⟨e_10_4, hi_10_4, h⟩ := bsome h
        obtain ⟨c_10_8, hs_10_8, h⟩ := bsome h
        obtain ⟨e_10_9, hi_10_9, h⟩ := bsome h
        refine Wp.reg tiok mix hc (by kernel_rfl) (ah := (some [[], [0], [], [], [3], [3, 4], [3, 4, 5], [], [7], [0, 1, 2, 3, 4, 5, 6], [0, 1, 2, 3, 4, 5, 6, 9], [0, 1, 2, 3, 4, 5, 6, 7, 8, 9, 10]])) (rs := [some (.no), some (.no), some (.no), some (.no), some (.el (.int .i64 e_10_4)), some (.no), some (.no), some (.no), some (.eqv (.no) ⟨[(60, .sl (List.map I c_10_8))], [], []⟩), some (.no), some (.eqv (.mk 0 true) ⟨[], [(3, some (.arr (List.map I (List.set out_17 (Int.toNat w_18) (wr (3 + e_10_4))))))], []⟩), some (.no)]) (kt := [1, 2, 4, 6, 42, 43, 44]) (ko := [1, 2, 3, 4]) (T' := [(1, .sl (List.map I c_10_8)), (2, .ra 1 0), (4, .ra 2 0), (6, .ra 4 0), (42, .rs 3), (43, .int .i64 (r_1_6.length : Int)), (44, .int .i64 w_18)]) (O' := [(1, .box [.int .i64 t0.fOp, .int .i64 t0.fN, .sl (List.map I t0.fType), .sl (List.map GTerm_S t0.fKids)]), (2, .box [.int .i64 0, .int .i64 0, .nils, .nils]), (3, .arr (List.map I (List.set out_17 (Int.toNat w_18) (wr (3 + e_10_4))))), (4, .box [.int .i64 t0.fOp, .int .i64 out_5, .rs 3, .nils])]) (by kernel_rfl) (And.intro (idx_sl (enc := I) (x := .int .i64 e_10_4) hi_10_4 (eq_I e_10_4)) (And.intro (cut_wr (d := 60) I hs_10_8) (And.intro (cut_ob (enc := I) (sz := 1) sz_I hs_10_8) (And.intro (idx_own (enc := I) hi_10_9) (And.intro (congrArg (fun z => (⟨[], [(3, some (.arr z))], []⟩ : Wr)) (set_row (enc := I) (i := Int.toNat w_18) (l := out_17) (v := (wr (3 + e_10_4))) (x := AV.int .i64 (wr (3 + e_10_4))) (eq_I (wr (3 + e_10_4))))) (And.intro (own_set (enc := I) (sz := 1) sz_I hi_10_9) trivial)))))) (by kernel_rfl) (by kernel_rfl) ?_
        obtain ⟨rfl, rfl⟩ := Prod.mk.inj (Option.some.inj h)
        exact Into.mk
      · refine Wp.condF (b := (e_7_1 == 35)) (by kernel_rfl) (by kernel_rfl) hb_20 ?_
        refine Wp.seqN (by kernel_rfl) ?_
        refine Wp.reg tiok mix hc (by kernel_rfl) (ah := none) (rs := [some (.no), some (.no)]) (kt := [1, 2, 4, 6, 9, 42, 43, 44, 62]) (ko := [1, 2, 3, 4]) (T' := [(1, .sl (List.map I l_16)), (2, .ra 1 0), (4, .ra 2 0), (6, .ra 4 0), (9, .int .i64 w_18), (42, .rs 3), (43, .int .i64 (r_1_6.length : Int)), (44, .int .i64 w_18), (62, .bool (e_7_1 == 36))]) (O' := [(1, .box [.int .i64 t0.fOp, .int .i64 t0.fN, .sl (List.map I t0.fType), .sl (List.map GTerm_S t0.fKids)]), (2, .box [.int .i64 0, .int .i64 0, .nils, .nils]), (3, .arr (List.map I out_17)), (4, .box [.int .i64 t0.fOp, .int .i64 out_5, .rs 3, .nils])]) (by kernel_rfl) trivial (by kernel_rfl) (by kernel_rfl) ?_
        refine seqQ_norm ?_
        obtain ⟨⟨l_22, out_23⟩, hj_24, h⟩ := bsome h
        refine Wp.into (x := .normal) (mkS [(1, .sl (List.map I l_22)), (2, .ra 1 0), (4, .ra 2 0), (6, .ra 4 0), (42, .rs 3), (43, .int .i64 (r_1_6.length : Int)), (44, .int .i64 w_18)] [(1, .box [.int .i64 t0.fOp, .int .i64 t0.fN, .sl (List.map I t0.fType), .sl (List.map GTerm_S t0.fKids)]), (2, .box [.int .i64 0, .int .i64 0, .nils, .nils]), (3, .arr (List.map I out_23)), (4, .box [.int .i64 t0.fOp, .int .i64 out_5, .rs 3, .nils])]) ?_ ?_
        · replace h := hj_24
          rcases itesome h with ⟨hb_21, h⟩ | ⟨hb_21, h⟩
          · refine Wp.condT (b := (e_7_1 == 36)) (by kernel_rfl) (by kernel_rfl) hb_21 ?_
            obtain ⟨e_12_4, hi_12_4, h⟩ := bsome h
            obtain ⟨c_12_8, hs_12_8, h⟩ := bsome h
            obtain ⟨e_12_9, hi_12_9, h⟩ := bsome h
            refine Wp.reg tiok mix hc (by kernel_rfl) (ah := (some [[], [0], [], [], [3], [3, 4], [3, 4, 5], [], [7], [0, 1, 2, 3, 4, 5, 6], [0, 1, 2, 3, 4, 5, 6, 9], [0, 1, 2, 3, 4, 5, 6, 7, 8, 9, 10]])) (rs := [some (.no), some (.no), some (.no), some (.no), some (.el (.int .i64 e_12_4)), some (.no), some (.no), some (.no), some (.eqv (.no) ⟨[(72, .sl (List.map I c_12_8))], [], []⟩), some (.no), some (.eqv (.mk 0 true) ⟨[], [(3, some (.arr (List.map I (List.set out_17 (Int.toNat w_18) (wr (19 + e_12_4))))))], []⟩), some (.no)]) (kt := [1, 2, 4, 6, 42, 43, 44]) (ko := [1, 2, 3, 4]) (T' := [(1, .sl (List.map I c_12_8)), (2, .ra 1 0), (4, .ra 2 0), (6, .ra 4 0), (42, .rs 3), (43, .int .i64 (r_1_6.length : Int)), (44, .int .i64 w_18)]) (O' := [(1, .box [.int .i64 t0.fOp, .int .i64 t0.fN, .sl (List.map I t0.fType), .sl (List.map GTerm_S t0.fKids)]), (2, .box [.int .i64 0, .int .i64 0, .nils, .nils]), (3, .arr (List.map I (List.set out_17 (Int.toNat w_18) (wr (19 + e_12_4))))), (4, .box [.int .i64 t0.fOp, .int .i64 out_5, .rs 3, .nils])]) (by kernel_rfl) (And.intro (idx_sl (enc := I) (x := .int .i64 e_12_4) hi_12_4 (eq_I e_12_4)) (And.intro (cut_wr (d := 72) I hs_12_8) (And.intro (cut_ob (enc := I) (sz := 1) sz_I hs_12_8) (And.intro (idx_own (enc := I) hi_12_9) (And.intro (congrArg (fun z => (⟨[], [(3, some (.arr z))], []⟩ : Wr)) (set_row (enc := I) (i := Int.toNat w_18) (l := out_17) (v := (wr (19 + e_12_4))) (x := AV.int .i64 (wr (19 + e_12_4))) (eq_I (wr (19 + e_12_4))))) (And.intro (own_set (enc := I) (sz := 1) sz_I hi_12_9) trivial)))))) (by kernel_rfl) (by kernel_rfl) ?_
            obtain ⟨rfl, rfl⟩ := Prod.mk.inj (Option.some.inj h)
            exact Into.mk
          · refine Wp.condF (b := (e_7_1 == 36)) (by kernel_rfl) (by kernel_rfl) hb_21 ?_
            refine Wp.skipN (by kernel_rfl) ?_
            obtain ⟨rfl, rfl⟩ := Prod.mk.inj (Option.some.inj h)
            exact Into.view (fun a w hv => SRx.renL [] hv (by kernel_rfl) (by kernel_rfl) (by kernel_rfl))
        · clear hj_24
          obtain ⟨rfl, rfl⟩ := Prod.mk.inj (Option.some.inj h)
          exact Into.mk
    · clear hj_27
      refine blockQ_norm ?_
      refine blockQ_norm ?_
      refine seqQ_norm ?_
      refine Wp.reg tiok mix hc (by kernel_rfl) (ah := none) (rs := [some (.no), some (.no)]) (kt := [1, 2, 4, 6, 42, 43, 44]) (ko := [1, 2, 3, 4]) (T' := [(1, .sl (List.map I l_25)), (2, .ra 1 0), (4, .ra 2 0), (6, .ra 4 0), (42, .rs 3), (43, .int .i64 (r_1_6.length : Int)), (44, .int .i64 (wr (w_18 + 1)))]) (O' := [(1, .box [.int .i64 t0.fOp, .int .i64 t0.fN, .sl (List.map I t0.fType), .sl (List.map GTerm_S t0.fKids)]), (2, .box [.int .i64 0, .int .i64 0, .nils, .nils]), (3, .arr (List.map I out_26)), (4, .box [.int .i64 t0.fOp, .int .i64 out_5, .rs 3, .nils])]) (by kernel_rfl) trivial (by kernel_rfl) (by kernel_rfl) ?_
      refine loopQ_norm ?_
      exact (impl_fill_l0_ih _ _ h c hc)
  · refine Wp.condF (b := (decide (w_18 < (r_1_6.length : Int)))) (by kernel_rfl) (by kernel_rfl) hb_19 ?_
    refine Wp.exitN (i := 0) (by kernel_rfl) ?_
    refine seqQ_exit ?_
    refine loopQ_exit ?_
    obtain ⟨rfl, rfl⟩ := Prod.mk.inj (Option.some.inj h)
    exact Into.view (fun a w hv => SRx.renL [] hv (by kernel_rfl) (by kernel_rfl) (by kernel_rfl))
mutual
def impl_fill (p : GTerm × (List Int)) : Option (GTerm × (List Int)) :=
  match p with
  | (t0, l1) =>
    (slices_Clone_int t0.fType) >>= fun r_1_6 =>
    (impl_formOf t0.fOp) >>= fun (r_2_2_0, r_2_2_1) =>
    (
      if r_2_2_0.fgrade = true then
        some ((decide (t0.fN < 0)))
      else
        some (false)
    ) >>= fun v_1 =>
    (
      if v_1 = true then
        (idx l1 0) >>= fun e_4_1 =>
        (cut l1 (some 1) none none) >>= fun c_4_4 =>
        some ((c_4_4, e_4_1))
      else
        some ((l1, t0.fN))
    ) >>= fun (l_4, out_5) =>
    (impl_fill_l0 (t0, r_1_6, out_5, l_4, r_1_6, 0)) >>= fun (l_28, out_29) =>
    (impl_fill_l1 (t0, out_5, out_29, l_28, [], 0)) >>= fun (l_37, out_38) =>
    some ((GTerm.mk t0.fOp out_5 out_29 out_38), l_37)
  partial_fixpoint
def impl_fill_l1 (p : GTerm × Int × (List Int) × (List Int) × (List GTerm) × Int) : Option ((List Int) × (List GTerm)) :=
  match p with
  | (t0, out_5, out_29, l_32, out_35, w_33) =>
    if (decide (w_33 < (t0.fKids.length : Int))) = true then
      (idx t0.fKids w_33) >>= fun e_16_0 =>
      (impl_fill (e_16_0, l_32)) >>= fun (r_18_2_0, r_18_2_1) =>
      (fits (out_35.length + [r_18_2_0].length) 64) >>= fun _ =>
      impl_fill_l1 (t0, out_5, out_29, r_18_2_1, (out_35 ++ [r_18_2_0]), (wr (w_33 + 1)))
    else
      some ((l_32, out_35))
  partial_fixpoint
end
def M_impl_fill (p : GTerm × (List Int)) (r : GTerm × (List Int)) : Prop :=
  match p with
  | (t0, l1) => FnSound Try.prog 65 [.agg [.int .i64 t0.fOp, .int .i64 t0.fN, .sl (List.map I t0.fType), .sl (List.map GTerm_S t0.fKids)], .sl (List.map I l1)] (.tup [.agg [.int .i64 r.1.fOp, .int .i64 r.1.fN, .osl (List.map I r.1.fType), .osl (List.map GTerm_O r.1.fKids)], .sl (List.map I r.2)]) []
def M_impl_fill_l1 (p : GTerm × Int × (List Int) × (List Int) × (List GTerm) × Int) (fl : (List Int) × (List GTerm)) : Prop :=
  match p with
  | (t0, out_5, out_29, l_32, out_35, w_33) => ∀ c : Ctx, c.nt = 97 → WpL Try.prog c (cl (cl (cr (cl (cr (cr (cr (cr B65)))))))) (impl_fill_F2 c t0 out_5 out_29 fl) (mkS [(1, .sl (List.map I l_32)), (4, .ra 2 0), (6, .ra 4 0), (76, .sl (List.map GTerm_S t0.fKids)), (77, .int .i64 (t0.fKids.length : Int)), (78, .int .i64 w_33)] [(2, .box [.int .i64 0, .int .i64 0, .nils, .nils]), (3, .arr (List.map I out_29)), (4, .box [.int .i64 t0.fOp, .int .i64 out_5, .rs 3, .rs 12]), (12, .arr (List.map GTerm_O out_35))])
theorem impl_fill_all : (∀ p r, impl_fill p = some r → M_impl_fill p r) ∧ (∀ p r, impl_fill_l1 p = some r → M_impl_fill_l1 p r) := by
  refine impl_fill.mutual_partial_correctness M_impl_fill M_impl_fill_l1 ?_ ?_
  · rintro impl_fill_l1_f impl_fill_l1_ih ⟨t0, l1⟩ r h
    show FnSound Try.prog 65 [.agg [.int .i64 t0.fOp, .int .i64 t0.fN, .sl (List.map I t0.fType), .sl (List.map GTerm_S t0.fKids)], .sl (List.map I l1)] (.tup [.agg [.int .i64 r.1.fOp, .int .i64 r.1.fN, .osl (List.map I r.1.fType), .osl (List.map GTerm_O r.1.fKids)], .sl (List.map I r.2)]) []
    refine FnSound.body0 tiok (fn := Try.f65) (code := B65) (by kernel_rfl) (by kernel_rfl) (by kernel_rfl) (by kernel_rfl) (nt := 97) (by kernel_rfl) (by kernel_rfl) (T := [(0, .agg [.int .i64 t0.fOp, .int .i64 t0.fN, .sl (List.map I t0.fType), .sl (List.map GTerm_S t0.fKids)]), (1, .sl (List.map I l1))]) (O := []) (by kernel_rfl) (by kernel_rfl) (fun c hc => ?_)
    refine Wp.seqN (by kernel_rfl) ?_
    refine Wp.reg tiok mix hc (by kernel_rfl) (ah := none) (rs := [some (.new 1), some (.new 2), some (.no)]) (kt := [1, 2, 4]) (ko := [1, 2]) (T' := [(1, .sl (List.map I l1)), (2, .ra 1 0), (4, .ra 2 0)]) (O' := [(1, .box [.int .i64 t0.fOp, .int .i64 t0.fN, .sl (List.map I t0.fType), .sl (List.map GTerm_S t0.fKids)]), (2, .box [.int .i64 0, .int .i64 0, .nils, .nils])]) (by kernel_rfl) trivial (by kernel_rfl) (by kernel_rfl) ?_
    refine seqQ_norm ?_
    refine Wp.seqN (by kernel_rfl) ?_
    obtain ⟨r_1_6, hr_1_6, h⟩ := bsome h
    refine Wp.reg tiok mix hc (by kernel_rfl) (ah := (some [[], [0], [], [2], [], [4], [4, 5], [0, 1, 2, 3, 4, 5, 6], [], [0, 1, 2, 3, 4, 5, 6, 7, 8]])) (rs := [some (.no), some (.no), some (.no), some (.no), some (.no), some (.no), some (.call (.osl (List.map I r_1_6)) [] 3), some (.no), some (.new 4), some (.no)]) (kt := [1, 2, 4, 6]) (ko := [1, 2, 3, 4]) (T' := [(1, .sl (List.map I l1)), (2, .ra 1 0), (4, .ra 2 0), (6, .ra 4 0)]) (O' := [(1, .box [.int .i64 t0.fOp, .int .i64 t0.fN, .sl (List.map I t0.fType), .sl (List.map GTerm_S t0.fKids)]), (2, .box [.int .i64 0, .int .i64 0, .nils, .nils]), (3, .arr (List.map I r_1_6)), (4, .box [.int .i64 t0.fOp, .int .i64 t0.fN, .rs 3, .nils])]) (by kernel_rfl) (And.intro (slices_Clone_int_s _ _ hr_1_6) (And.intro bod_105 (And.intro (Or.inl rfl : ([] : List Nat) = [] ∨ noSh (.osl (List.map I r_1_6)) = true) trivial))) (by kernel_rfl) (by kernel_rfl) ?_
    refine seqQ_norm ?_
    refine Wp.seqN (by kernel_rfl) ?_
    refine Wp.seqN (by kernel_rfl) ?_
    obtain ⟨⟨r_2_2_0, r_2_2_1⟩, hr_2_2, h⟩ := bsome h
    refine Wp.reg tiok mix hc (by kernel_rfl) (ah := none) (rs := [some (.no), some (.no), some (.call (.tup [.agg [.str r_2_2_0.fword, .int .i64 r_2_2_0.fkids, .bool r_2_2_0.fgrade, .bool r_2_2_0.ftyped], .bool r_2_2_1]) [] 1), some (.no), some (.no), some (.no), some (.new 5), some (.no), some (.no)]) (kt := [1, 2, 4, 6, 7]) (ko := [1, 2, 3, 4, 5]) (T' := [(1, .sl (List.map I l1)), (2, .ra 1 0), (4, .ra 2 0), (6, .ra 4 0), (7, .ra 5 0)]) (O' := [(1, .box [.int .i64 t0.fOp, .int .i64 t0.fN, .sl (List.map I t0.fType), .sl (List.map GTerm_S t0.fKids)]), (2, .box [.int .i64 0, .int .i64 0, .nils, .nils]), (3, .arr (List.map I r_1_6)), (4, .box [.int .i64 t0.fOp, .int .i64 t0.fN, .rs 3, .nils]), (5, .box [.str r_2_2_0.fword, .int .i64 r_2_2_0.fkids, .bool r_2_2_0.fgrade, .bool r_2_2_0.ftyped])]) (by kernel_rfl) (And.intro (impl_formOf_s _ _ hr_2_2) (And.intro bod_111 (And.intro (Or.inl rfl : ([] : List Nat) = [] ∨ noSh (.tup [.agg [.str r_2_2_0.fword, .int .i64 r_2_2_0.fkids, .bool r_2_2_0.fgrade, .bool r_2_2_0.ftyped], .bool r_2_2_1]) = true) trivial))) (by kernel_rfl) (by kernel_rfl) ?_
    refine seqQ_norm ?_
    refine Wp.seqN (by kernel_rfl) ?_
    obtain ⟨v_1, hj_2, h⟩ := bsome h
    refine Wp.into (x := .normal) (mkS [(1, .sl (List.map I l1)), (2, .ra 1 0), (4, .ra 2 0), (6, .ra 4 0), (34, .bool v_1)] [(1, .box [.int .i64 t0.fOp, .int .i64 t0.fN, .sl (List.map I t0.fType), .sl (List.map GTerm_S t0.fKids)]), (2, .box [.int .i64 0, .int .i64 0, .nils, .nils]), (3, .arr (List.map I r_1_6)), (4, .box [.int .i64 t0.fOp, .int .i64 t0.fN, .rs 3, .nils])]) ?_ ?_
    · replace h := hj_2
      rcases itesome h with ⟨hb_3_0, h⟩ | ⟨hb_3_0, h⟩
      · refine Wp.reg tiok mix hc (by kernel_rfl) (ah := none) (rs := [some (.no), some (.no), some (.no), some (.no), some (.no), some (.no), some (.cond true)]) (kt := [1, 2, 4, 6, 34]) (ko := [1, 2, 3, 4]) (T' := [(1, .sl (List.map I l1)), (2, .ra 1 0), (4, .ra 2 0), (6, .ra 4 0), (34, .bool (decide (t0.fN < 0)))]) (O' := [(1, .box [.int .i64 t0.fOp, .int .i64 t0.fN, .sl (List.map I t0.fType), .sl (List.map GTerm_S t0.fKids)]), (2, .box [.int .i64 0, .int .i64 0, .nils, .nils]), (3, .arr (List.map I r_1_6)), (4, .box [.int .i64 t0.fOp, .int .i64 t0.fN, .rs 3, .nils])]) (by kernel_rfl) (And.intro hb_3_0 (And.intro hb_3_0 (And.intro hb_3_0 (And.intro hb_3_0 trivial)))) (by kernel_rfl) (by kernel_rfl) ?_
        obtain rfl := Option.some.inj h
        exact Into.mk
      · refine Wp.reg tiok mix hc (by kernel_rfl) (ah := none) (rs := [some (.no), some (.no), some (.no), none, none, none, some (.cond false)]) (kt := [1, 2, 4, 6, 34]) (ko := [1, 2, 3, 4]) (T' := [(1, .sl (List.map I l1)), (2, .ra 1 0), (4, .ra 2 0), (6, .ra 4 0), (34, .bool false)]) (O' := [(1, .box [.int .i64 t0.fOp, .int .i64 t0.fN, .sl (List.map I t0.fType), .sl (List.map GTerm_S t0.fKids)]), (2, .box [.int .i64 0, .int .i64 0, .nils, .nils]), (3, .arr (List.map I r_1_6)), (4, .box [.int .i64 t0.fOp, .int .i64 t0.fN, .rs 3, .nils])]) (by kernel_rfl) (And.intro (neT hb_3_0 : r_2_2_0.fgrade ≠ true) (And.intro (neT hb_3_0 : r_2_2_0.fgrade ≠ true) (And.intro (neT hb_3_0 : r_2_2_0.fgrade ≠ true) (And.intro hb_3_0 trivial)))) (by kernel_rfl) (by kernel_rfl) ?_
        obtain rfl := Option.some.inj h
        exact Into.mk
    · clear hj_2
      refine seqQ_norm ?_
      obtain ⟨⟨l_4, out_5⟩, hj_6, h⟩ := bsome h
      refine Wp.into (x := .normal) (mkS [(1, .sl (List.map I l_4)), (2, .ra 1 0), (4, .ra 2 0), (6, .ra 4 0)] [(1, .box [.int .i64 t0.fOp, .int .i64 t0.fN, .sl (List.map I t0.fType), .sl (List.map GTerm_S t0.fKids)]), (2, .box [.int .i64 0, .int .i64 0, .nils, .nils]), (3, .arr (List.map I r_1_6)), (4, .box [.int .i64 t0.fOp, .int .i64 out_5, .rs 3, .nils])]) ?_ ?_
      · replace h := hj_6
        rcases itesome h with ⟨hb_3, h⟩ | ⟨hb_3, h⟩
        · refine Wp.condT (b := v_1) (by kernel_rfl) (by kernel_rfl) hb_3 ?_
          obtain ⟨e_4_1, hi_4_1, h⟩ := bsome h
          obtain ⟨c_4_4, hs_4_4, h⟩ := bsome h
          refine Wp.reg tiok mix hc (by kernel_rfl) (ah := (some [[], [0], [0, 1], [], [3], [0, 1, 2], [0, 1, 2, 5], [0, 1, 2, 3, 4, 5, 6]])) (rs := [some (.no), some (.el (.int .i64 e_4_1)), some (.no), some (.no), some (.eqv (.no) ⟨[(39, .sl (List.map I c_4_4))], [], []⟩), some (.no), some (.no), some (.no)]) (kt := [1, 2, 4, 6]) (ko := [1, 2, 3, 4]) (T' := [(1, .sl (List.map I c_4_4)), (2, .ra 1 0), (4, .ra 2 0), (6, .ra 4 0)]) (O' := [(1, .box [.int .i64 t0.fOp, .int .i64 t0.fN, .sl (List.map I t0.fType), .sl (List.map GTerm_S t0.fKids)]), (2, .box [.int .i64 0, .int .i64 0, .nils, .nils]), (3, .arr (List.map I r_1_6)), (4, .box [.int .i64 t0.fOp, .int .i64 e_4_1, .rs 3, .nils])]) (by kernel_rfl) (And.intro (idx_sl (enc := I) (x := .int .i64 e_4_1) hi_4_1 (eq_I e_4_1)) (And.intro (cut_wr (d := 39) I hs_4_4) (And.intro (cut_ob (enc := I) (sz := 1) sz_I hs_4_4) trivial))) (by kernel_rfl) (by kernel_rfl) ?_
          obtain ⟨rfl, rfl⟩ := Prod.mk.inj (Option.some.inj h)
          exact Into.mk
        · refine Wp.condF (b := v_1) (by kernel_rfl) (by kernel_rfl) hb_3 ?_
          refine Wp.skipN (by kernel_rfl) ?_
          obtain ⟨rfl, rfl⟩ := Prod.mk.inj (Option.some.inj h)
          exact Into.view (fun a w hv => SRx.renL [] hv (by kernel_rfl) (by kernel_rfl) (by kernel_rfl))
      · clear hj_6
        refine seqQ_norm ?_
        refine Wp.seqN (by kernel_rfl) ?_
        refine Wp.seqN (by kernel_rfl) ?_
        refine Wp.reg tiok mix hc (by kernel_rfl) (ah := none) (rs := [some (.no), some (.no), some (.eqv (.no) ⟨[(43, .int .i64 (r_1_6.length : Int))], [], []⟩), some (.no)]) (kt := [1, 2, 4, 6, 42, 43, 44]) (ko := [1, 2, 3, 4]) (T' := [(1, .sl (List.map I l_4)), (2, .ra 1 0), (4, .ra 2 0), (6, .ra 4 0), (42, .rs 3), (43, .int .i64 (r_1_6.length : Int)), (44, .int .i64 0)]) (O' := [(1, .box [.int .i64 t0.fOp, .int .i64 t0.fN, .sl (List.map I t0.fType), .sl (List.map GTerm_S t0.fKids)]), (2, .box [.int .i64 0, .int .i64 0, .nils, .nils]), (3, .arr (List.map I r_1_6)), (4, .box [.int .i64 t0.fOp, .int .i64 out_5, .rs 3, .nils])]) (by kernel_rfl) (And.intro (lenT (d := 43) I r_1_6) trivial) (by kernel_rfl) (by kernel_rfl) ?_
        refine seqQ_norm ?_
        refine Wp.blockN (i := 0) (by kernel_rfl) ?_
        obtain ⟨⟨l_28, out_29⟩, hl_30, h⟩ := bsome h
        have hL := impl_fill_l0_s _ _ hl_30 c hc
        refine Wp.loopN (by kernel_rfl) ?_
        · refine WpL.into (e := (.exit 0)) (mkS [(1, .sl (List.map I l_28)), (2, .ra 1 0), (4, .ra 2 0), (6, .ra 4 0)] [(1, .box [.int .i64 t0.fOp, .int .i64 t0.fN, .sl (List.map I t0.fType), .sl (List.map GTerm_S t0.fKids)]), (2, .box [.int .i64 0, .int .i64 0, .nils, .nils]), (3, .arr (List.map I out_29)), (4, .box [.int .i64 t0.fOp, .int .i64 out_5, .rs 3, .nils])]) hL ?_
          refine blockQ_hit ?_
          refine seqQ_norm ?_
          refine Wp.seqN (by kernel_rfl) ?_
          refine Wp.seqN (by kernel_rfl) ?_
          refine Wp.reg tiok mix hc (by kernel_rfl) (ah := none) (rs := [some (.no), some (.no), some (.eqv (.no) ⟨[(77, .int .i64 (t0.fKids.length : Int))], [], []⟩), some (.no)]) (kt := [1, 4, 6, 76, 77, 78]) (ko := [2, 3, 4]) (T' := [(1, .sl (List.map I l_28)), (4, .ra 2 0), (6, .ra 4 0), (76, .sl (List.map GTerm_S t0.fKids)), (77, .int .i64 (t0.fKids.length : Int)), (78, .int .i64 0)]) (O' := [(2, .box [.int .i64 0, .int .i64 0, .nils, .nils]), (3, .arr (List.map I out_29)), (4, .box [.int .i64 t0.fOp, .int .i64 out_5, .rs 3, .nils])]) (by kernel_rfl) (And.intro (lenT (d := 77) GTerm_S t0.fKids) trivial) (by kernel_rfl) (by kernel_rfl) ?_
          refine seqQ_norm ?_
          refine Wp.blockN (i := 3) (by kernel_rfl) ?_
          obtain ⟨⟨l_37, out_38⟩, hl_39, h⟩ := bsome h
          have hL := impl_fill_l1_ih _ _ hl_39 c hc
          refine Wp.loopN (by kernel_rfl) (WpL.view (fun a w hv => SRx.renL [(12, 25)] (SRx.nilBL 4 3 25 [.int .i64 t0.fOp, .int .i64 out_5, .rs 3, .nils] hv (by kernel_rfl) (by kernel_rfl) (by kernel_rfl)) (by kernel_rfl) (by kernel_rfl) (by kernel_rfl)) (?_ : WpL _ c _ _ (mkS [(1, .sl (List.map I l_28)), (4, .ra 2 0), (6, .ra 4 0), (76, .sl (List.map GTerm_S t0.fKids)), (77, .int .i64 (t0.fKids.length : Int)), (78, .int .i64 0)] [(2, .box [.int .i64 0, .int .i64 0, .nils, .nils]), (3, .arr (List.map I out_29)), (4, .box [.int .i64 t0.fOp, .int .i64 out_5, .rs 3, .rs 12]), (12, .arr (List.map GTerm_O []))])))
          · refine WpL.into (e := (.exit 3)) (mkS [(1, .sl (List.map I l_37)), (4, .ra 2 0), (6, .ra 4 0)] [(2, .box [.int .i64 0, .int .i64 0, .nils, .nils]), (3, .arr (List.map I out_29)), (4, .box [.int .i64 t0.fOp, .int .i64 out_5, .rs 3, .rs 12]), (12, .arr (List.map GTerm_O out_38))]) hL ?_
            refine blockQ_hit ?_
            refine seqQ_norm ?_
            refine Wp.seqN (by kernel_rfl) ?_
            refine Wp.reg tiok mix hc (by kernel_rfl) (ah := none) (rs := [some (.no), some (.no), some (.no), some (.no)]) (kt := [4, 5]) (ko := [2, 3, 12]) (T' := [(4, .ra 2 0), (5, .sl (List.map I l_37))]) (O' := [(2, .box [.int .i64 t0.fOp, .int .i64 out_5, .rs 3, .rs 12]), (3, .arr (List.map I out_29)), (12, .arr (List.map GTerm_O out_38))]) (by kernel_rfl) trivial (by kernel_rfl) (by kernel_rfl) ?_
            refine seqQ_norm ?_
            refine Wp.retN (by kernel_rfl) ?_
            obtain rfl := Option.some.inj h
            exact RetQ.ret (fl := [true, false]) (by kernel_rfl)
  · rintro impl_fill_f impl_fill_l1_f impl_fill_ih impl_fill_l1_ih ⟨t0, out_5, out_29, l_32, out_35, w_33⟩ r h
    intro c hc
    show WpL Try.prog c (cl (cl (cr (cl (cr (cr (cr (cr B65)))))))) (impl_fill_F2 c t0 out_5 out_29 r) (mkS [(1, .sl (List.map I l_32)), (4, .ra 2 0), (6, .ra 4 0), (76, .sl (List.map GTerm_S t0.fKids)), (77, .int .i64 (t0.fKids.length : Int)), (78, .int .i64 w_33)] [(2, .box [.int .i64 0, .int .i64 0, .nils, .nils]), (3, .arr (List.map I out_29)), (4, .box [.int .i64 t0.fOp, .int .i64 out_5, .rs 3, .rs 12]), (12, .arr (List.map GTerm_O out_35))])
    refine WpL.step ?_
    refine Wp.seqN (by kernel_rfl) ?_
    refine Wp.reg tiok mix hc (by kernel_rfl) (ah := none) (rs := [some (.no)]) (kt := [1, 4, 6, 76, 77, 78, 79]) (ko := [2, 3, 4, 12]) (T' := [(1, .sl (List.map I l_32)), (4, .ra 2 0), (6, .ra 4 0), (76, .sl (List.map GTerm_S t0.fKids)), (77, .int .i64 (t0.fKids.length : Int)), (78, .int .i64 w_33), (79, .bool (decide (w_33 < (t0.fKids.length : Int))))]) (O' := [(2, .box [.int .i64 0, .int .i64 0, .nils, .nils]), (3, .arr (List.map I out_29)), (4, .box [.int .i64 t0.fOp, .int .i64 out_5, .rs 3, .rs 12]), (12, .arr (List.map GTerm_O out_35))]) (by kernel_rfl) trivial (by kernel_rfl) (by kernel_rfl) ?_
    refine seqQ_norm ?_
    refine Wp.seqN (by kernel_rfl) ?_
    rcases itesome h with ⟨hb_36, h⟩ | ⟨hb_36, h⟩
    · refine Wp.condT (b := (decide (w_33 < (t0.fKids.length : Int)))) (by kernel_rfl) (by kernel_rfl) hb_36 ?_
      refine Wp.skipN (by kernel_rfl) ?_
      refine seqQ_norm ?_
      refine Wp.seqN (by kernel_rfl) ?_
      refine Wp.blockN (i := 4) (by kernel_rfl) ?_
      refine Wp.seqN (by kernel_rfl) ?_
      obtain ⟨e_16_0, hi_16_0, h⟩ := bsome h
      refine Wp.reg tiok mix hc (by kernel_rfl) (ah := none) (rs := [some (.el (.agg [.int .i64 e_16_0.fOp, .int .i64 e_16_0.fN, .sl (List.map I e_16_0.fType), .sl (List.map GTerm_S e_16_0.fKids)])), some (.no), some (.new 19), some (.no)]) (kt := [1, 4, 6, 12, 76, 77, 78]) (ko := [2, 3, 4, 12, 19]) (T' := [(1, .sl (List.map I l_32)), (4, .ra 2 0), (6, .ra 4 0), (12, .ra 19 0), (76, .sl (List.map GTerm_S t0.fKids)), (77, .int .i64 (t0.fKids.length : Int)), (78, .int .i64 w_33)]) (O' := [(2, .box [.int .i64 0, .int .i64 0, .nils, .nils]), (3, .arr (List.map I out_29)), (4, .box [.int .i64 t0.fOp, .int .i64 out_5, .rs 3, .rs 12]), (12, .arr (List.map GTerm_O out_35)), (19, .box [.int .i64 e_16_0.fOp, .int .i64 e_16_0.fN, .sl (List.map I e_16_0.fType), .sl (List.map GTerm_S e_16_0.fKids)])]) (by kernel_rfl) (And.intro (idx_sl (enc := GTerm_S) (x := .agg [.int .i64 e_16_0.fOp, .int .i64 e_16_0.fN, .sl (List.map I e_16_0.fType), .sl (List.map GTerm_S e_16_0.fKids)]) hi_16_0 (eq_GTerm_S e_16_0)) trivial) (by kernel_rfl) (by kernel_rfl) ?_
      refine seqQ_norm ?_
      refine Wp.seqN (by kernel_rfl) ?_
      refine Wp.reg tiok mix hc (by kernel_rfl) (ah := none) (rs := [some (.new 20)]) (kt := [1, 4, 6, 12, 13, 76, 77, 78]) (ko := [2, 3, 4, 12, 19, 20]) (T' := [(1, .sl (List.map I l_32)), (4, .ra 2 0), (6, .ra 4 0), (12, .ra 19 0), (13, .ra 20 0), (76, .sl (List.map GTerm_S t0.fKids)), (77, .int .i64 (t0.fKids.length : Int)), (78, .int .i64 w_33)]) (O' := [(2, .box [.int .i64 0, .int .i64 0, .nils, .nils]), (3, .arr (List.map I out_29)), (4, .box [.int .i64 t0.fOp, .int .i64 out_5, .rs 3, .rs 12]), (12, .arr (List.map GTerm_O out_35)), (19, .box [.int .i64 e_16_0.fOp, .int .i64 e_16_0.fN, .sl (List.map I e_16_0.fType), .sl (List.map GTerm_S e_16_0.fKids)]), (20, .box [.int .i64 0, .int .i64 0, .nils, .nils])]) (by kernel_rfl) trivial (by kernel_rfl) (by kernel_rfl) ?_
      refine seqQ_norm ?_
      refine Wp.seqN (by kernel_rfl) ?_
      obtain ⟨⟨r_18_2_0, r_18_2_1⟩, hr_18_2, h⟩ := bsome h
      refine Wp.reg tiok mix hc (by kernel_rfl) (ah := none) (rs := [some (.no), some (.no), some (.call (.tup [.agg [.int .i64 r_18_2_0.fOp, .int .i64 r_18_2_0.fN, .osl (List.map I r_18_2_0.fType), .osl (List.map GTerm_O r_18_2_0.fKids)], .sl (List.map I r_18_2_1)]) [] 21), some (.no), some (.no), some (.no), some (.no), some (.no)]) (kt := [1, 4, 6, 13, 76, 77, 78]) (ko := [2, 3, 4, 12, 20, 21, 22]) (T' := [(1, .sl (List.map I r_18_2_1)), (4, .ra 2 0), (6, .ra 4 0), (13, .ra 20 0), (76, .sl (List.map GTerm_S t0.fKids)), (77, .int .i64 (t0.fKids.length : Int)), (78, .int .i64 w_33)]) (O' := [(2, .box [.int .i64 0, .int .i64 0, .nils, .nils]), (3, .arr (List.map I out_29)), (4, .box [.int .i64 t0.fOp, .int .i64 out_5, .rs 3, .rs 12]), (12, .arr (List.map GTerm_O out_35)), (20, .box [.int .i64 r_18_2_0.fOp, .int .i64 r_18_2_0.fN, .rs 21, .rs 22]), (21, .arr (List.map I r_18_2_0.fType)), (22, .arr (List.map GTerm_O r_18_2_0.fKids))]) (by kernel_rfl) (And.intro (impl_fill_ih _ _ hr_18_2) (And.intro bod_65 (And.intro (Or.inl rfl : ([] : List Nat) = [] ∨ noSh (.tup [.agg [.int .i64 r_18_2_0.fOp, .int .i64 r_18_2_0.fN, .osl (List.map I r_18_2_0.fType), .osl (List.map GTerm_O r_18_2_0.fKids)], .sl (List.map I r_18_2_1)]) = true) trivial))) (by kernel_rfl) (by kernel_rfl) ?_
      refine seqQ_norm ?_
      obtain ⟨_, hk_19_4, h⟩ := bsome h
      refine Wp.reg tiok mix hc (by kernel_rfl) (ah := none) (rs := [some (.no), some (.no), some (.no), some (.eqv (.mk 23 true) ⟨[(91, .rs 23)], [(23, some (.arr (List.map GTerm_O [r_18_2_0]))), (21, none), (22, none)], [23]⟩), some (.eqv (.mk 24 true) ⟨[(92, .rs 24)], [(24, some (.arr (List.map GTerm_O (out_35 ++ [r_18_2_0])))), (12, none), (23, none)], [24]⟩), some (.no), some (.no)]) (kt := [1, 4, 6, 76, 77, 78]) (ko := [2, 3, 4, 24]) (T' := [(1, .sl (List.map I r_18_2_1)), (4, .ra 2 0), (6, .ra 4 0), (76, .sl (List.map GTerm_S t0.fKids)), (77, .int .i64 (t0.fKids.length : Int)), (78, .int .i64 w_33)]) (O' := [(2, .box [.int .i64 0, .int .i64 0, .nils, .nils]), (3, .arr (List.map I out_29)), (4, .box [.int .i64 t0.fOp, .int .i64 out_5, .rs 3, .rs 24]), (24, .arr (List.map GTerm_O (out_35 ++ [r_18_2_0])))]) (by kernel_rfl) (And.intro (congrArg (fun z => (⟨[(91, .rs 23)], [(23, some (.arr z)), (21, none), (22, none)], [23]⟩ : Wr)) ((rows1 (eq_GTerm_O r_18_2_0) rows0) : [AV.agg [.int .i64 r_18_2_0.fOp, .int .i64 r_18_2_0.fN, AV.osl (List.map I r_18_2_0.fType), AV.osl (List.map GTerm_O r_18_2_0.fKids)]] = List.map GTerm_O [r_18_2_0])) (And.intro (congrArg (fun z => (⟨[(92, .rs 24)], [(24, some (.arr z)), (12, none), (23, none)], [24]⟩ : Wr)) ((List.map_append).symm : (List.map GTerm_O out_35) ++ (List.map GTerm_O [r_18_2_0]) = List.map GTerm_O (out_35 ++ [r_18_2_0]))) (And.intro (app_ob (enc1 := GTerm_O) (enc2 := GTerm_O) (e1 := out_35) (e2 := [r_18_2_0]) (sz := 4) ek_GTerm_O ek_GTerm_O hk_19_4) trivial))) (by kernel_rfl) (by kernel_rfl) ?_
      refine blockQ_norm ?_
      refine seqQ_norm ?_
      refine Wp.reg tiok mix hc (by kernel_rfl) (ah := none) (rs := [some (.no), some (.no)]) (kt := [1, 4, 6, 76, 77, 78]) (ko := [2, 3, 4, 24]) (T' := [(1, .sl (List.map I r_18_2_1)), (4, .ra 2 0), (6, .ra 4 0), (76, .sl (List.map GTerm_S t0.fKids)), (77, .int .i64 (t0.fKids.length : Int)), (78, .int .i64 (wr (w_33 + 1)))]) (O' := [(2, .box [.int .i64 0, .int .i64 0, .nils, .nils]), (3, .arr (List.map I out_29)), (4, .box [.int .i64 t0.fOp, .int .i64 out_5, .rs 3, .rs 24]), (24, .arr (List.map GTerm_O (out_35 ++ [r_18_2_0])))]) (by kernel_rfl) trivial (by kernel_rfl) (by kernel_rfl) ?_
      refine loopQ_norm ?_
      exact WpL.view (fun a w hv => SRx.renL [(12, 24)] hv (by kernel_rfl) (by kernel_rfl) (by kernel_rfl)) (impl_fill_l1_ih _ _ h c hc)
    · refine Wp.condF (b := (decide (w_33 < (t0.fKids.length : Int)))) (by kernel_rfl) (by kernel_rfl) hb_36 ?_
      refine Wp.exitN (i := 3) (by kernel_rfl) ?_
      refine seqQ_exit ?_
      refine loopQ_exit ?_
      obtain ⟨rfl, rfl⟩ := Prod.mk.inj (Option.some.inj h)
      exact Into.view (fun a w hv => SRx.renL [] hv (by kernel_rfl) (by kernel_rfl) (by kernel_rfl))
theorem impl_fill_s : ∀ p r, impl_fill p = some r → M_impl_fill p r := impl_fill_all.1
theorem impl_fill_l1_s : ∀ p r, impl_fill_l1 p = some r → M_impl_fill_l1 p r := impl_fill_all.2
def impl_FillOpen (p : GTerm × (List Int)) : Option (GTerm × Bool) :=
  match p with
  | (t0, l1) =>
    (
      (impl_IsWritten t0) >>= fun r_1_1 =>
      if r_1_1 = true then
        (impl_countOpen t0) >>= fun r_1_7 =>
        if ((l1.length : Int) != r_1_7) = true then
          some (true)
        else
          (slices_ContainsFunc_int_Kimpl_FillOpen_c1 l1) >>= fun r_1_12 =>
          some (r_1_12)
      else
        some (true)
    ) >>= fun v_1 =>
    if v_1 = true then
      some ((GTerm.mk 0 0 [] []), false)
    else
      (impl_fill (t0, l1)) >>= fun (r_3_2_0, r_3_2_1) =>
      some (r_3_2_0, true)
def M_impl_FillOpen (p : GTerm × (List Int)) (r : GTerm × Bool) : Prop :=
  match p with
  | (t0, l1) => FnSound Try.prog 26 [.agg [.int .i64 t0.fOp, .int .i64 t0.fN, .sl (List.map I t0.fType), .sl (List.map GTerm_S t0.fKids)], .sl (List.map I l1)] (.tup [.agg [.int .i64 r.1.fOp, .int .i64 r.1.fN, .osl (List.map I r.1.fType), .osl (List.map GTerm_O r.1.fKids)], .bool r.2]) []
theorem impl_FillOpen_s : ∀ p r, impl_FillOpen p = some r → M_impl_FillOpen p r := by
  rintro ⟨t0, l1⟩ r h
  unfold impl_FillOpen at h
  show FnSound Try.prog 26 [.agg [.int .i64 t0.fOp, .int .i64 t0.fN, .sl (List.map I t0.fType), .sl (List.map GTerm_S t0.fKids)], .sl (List.map I l1)] (.tup [.agg [.int .i64 r.1.fOp, .int .i64 r.1.fN, .osl (List.map I r.1.fType), .osl (List.map GTerm_O r.1.fKids)], .bool r.2]) []
  refine FnSound.body0 tiok (fn := Try.f26) (code := B26) (by kernel_rfl) (by kernel_rfl) (by kernel_rfl) (by kernel_rfl) (nt := 30) (by kernel_rfl) (by kernel_rfl) (T := [(0, .agg [.int .i64 t0.fOp, .int .i64 t0.fN, .sl (List.map I t0.fType), .sl (List.map GTerm_S t0.fKids)]), (1, .sl (List.map I l1))]) (O := []) (by kernel_rfl) (by kernel_rfl) (fun c hc => ?_)
  refine Wp.seqN (by kernel_rfl) ?_
  refine Wp.reg tiok mix hc (by kernel_rfl) (ah := none) (rs := [some (.new 1), some (.new 2), some (.no)]) (kt := [1, 2, 4]) (ko := [1, 2]) (T' := [(1, .sl (List.map I l1)), (2, .ra 1 0), (4, .ra 2 0)]) (O' := [(1, .box [.int .i64 t0.fOp, .int .i64 t0.fN, .sl (List.map I t0.fType), .sl (List.map GTerm_S t0.fKids)]), (2, .box [.int .i64 0, .int .i64 0, .nils, .nils])]) (by kernel_rfl) trivial (by kernel_rfl) (by kernel_rfl) ?_
  refine seqQ_norm ?_
  refine Wp.seqN (by kernel_rfl) ?_
  refine Wp.seqN (by kernel_rfl) ?_
  obtain ⟨v_1, hj_2, h⟩ := bsome h
  refine Wp.into (x := .normal) (mkS [(1, .sl (List.map I l1)), (2, .ra 1 0), (4, .ra 2 0), (21, .bool v_1)] [(1, .box [.int .i64 t0.fOp, .int .i64 t0.fN, .sl (List.map I t0.fType), .sl (List.map GTerm_S t0.fKids)]), (2, .box [.int .i64 0, .int .i64 0, .nils, .nils])]) ?_ ?_
  · replace h := hj_2
    obtain ⟨r_1_1, hr_1_1, h⟩ := bsome h
    rcases itesome h with ⟨hb_1_0, h⟩ | ⟨hb_1_0, h⟩
    · obtain ⟨r_1_7, hr_1_7, h⟩ := bsome h
      rcases itesome h with ⟨hb_1_1, h⟩ | ⟨hb_1_1, h⟩
      · refine Wp.reg tiok mix hc (by kernel_rfl) (ah := none) (rs := [some (.no), some (.call (.bool r_1_1) [] 1), some (.no), some (.no), some (.no), some (.eqv (.no) ⟨[(13, .int .i64 (l1.length : Int))], [], []⟩), some (.no), some (.call (.int .i64 r_1_7) [] 1), some (.no), some (.cond false), some (.no), none, none, some (.cond true)]) (kt := [1, 2, 4, 21]) (ko := [1, 2]) (T' := [(1, .sl (List.map I l1)), (2, .ra 1 0), (4, .ra 2 0), (21, .bool true)]) (O' := [(1, .box [.int .i64 t0.fOp, .int .i64 t0.fN, .sl (List.map I t0.fType), .sl (List.map GTerm_S t0.fKids)]), (2, .box [.int .i64 0, .int .i64 0, .nils, .nils])]) (by kernel_rfl) (And.intro (impl_IsWritten_s _ _ hr_1_1) (And.intro bod_60 (And.intro (Or.inl rfl : ([] : List Nat) = [] ∨ noSh (.bool r_1_1) = true) (And.intro (nF hb_1_0) (And.intro (nF hb_1_0) (And.intro (lenT (d := 13) I l1) (And.intro (nF hb_1_0) (And.intro (nF hb_1_0) (And.intro (impl_countOpen_s _ _ hr_1_7) (And.intro bod_61 (And.intro (Or.inl rfl : ([] : List Nat) = [] ∨ noSh (.int .i64 r_1_7) = true) (And.intro (nF hb_1_0) (And.intro (nF hb_1_0) (And.intro (neF hb_1_1 : ((l1.length : Int) != r_1_7) ≠ false) (And.intro (neF hb_1_1 : ((l1.length : Int) != r_1_7) ≠ false) (And.intro hb_1_1 trivial)))))))))))))))) (by kernel_rfl) (by kernel_rfl) ?_
        obtain rfl := Option.some.inj h
        exact Into.mk
      · obtain ⟨r_1_12, hr_1_12, h⟩ := bsome h
        refine Wp.reg tiok mix hc (by kernel_rfl) (ah := none) (rs := [some (.no), some (.call (.bool r_1_1) [] 1), some (.no), some (.no), some (.no), some (.eqv (.no) ⟨[(13, .int .i64 (l1.length : Int))], [], []⟩), some (.no), some (.call (.int .i64 r_1_7) [] 1), some (.no), some (.cond false), some (.no), some (.no), some (.call (.bool r_1_12) [] 1), some (.cond false)]) (kt := [1, 2, 4, 21]) (ko := [1, 2]) (T' := [(1, .sl (List.map I l1)), (2, .ra 1 0), (4, .ra 2 0), (21, .bool r_1_12)]) (O' := [(1, .box [.int .i64 t0.fOp, .int .i64 t0.fN, .sl (List.map I t0.fType), .sl (List.map GTerm_S t0.fKids)]), (2, .box [.int .i64 0, .int .i64 0, .nils, .nils])]) (by kernel_rfl) (And.intro (impl_IsWritten_s _ _ hr_1_1) (And.intro bod_60 (And.intro (Or.inl rfl : ([] : List Nat) = [] ∨ noSh (.bool r_1_1) = true) (And.intro (nF hb_1_0) (And.intro (nF hb_1_0) (And.intro (lenT (d := 13) I l1) (And.intro (nF hb_1_0) (And.intro (nF hb_1_0) (And.intro (impl_countOpen_s _ _ hr_1_7) (And.intro bod_61 (And.intro (Or.inl rfl : ([] : List Nat) = [] ∨ noSh (.int .i64 r_1_7) = true) (And.intro (nF hb_1_0) (And.intro (nF hb_1_0) (And.intro hb_1_1 (And.intro hb_1_1 (And.intro (slices_ContainsFunc_int_Kimpl_FillOpen_c1_s _ _ hr_1_12) (And.intro bod_62 (And.intro (Or.inl rfl : ([] : List Nat) = [] ∨ noSh (.bool r_1_12) = true) (And.intro hb_1_1 trivial))))))))))))))))))) (by kernel_rfl) (by kernel_rfl) ?_
        obtain rfl := Option.some.inj h
        exact Into.mk
    · refine Wp.reg tiok mix hc (by kernel_rfl) (ah := none) (rs := [some (.no), some (.call (.bool r_1_1) [] 1), some (.no), some (.no), none, none, none, none, none, some (.cond true), some (.no), none, none, some (.cond true)]) (kt := [1, 2, 4, 21]) (ko := [1, 2]) (T' := [(1, .sl (List.map I l1)), (2, .ra 1 0), (4, .ra 2 0), (21, .bool true)]) (O' := [(1, .box [.int .i64 t0.fOp, .int .i64 t0.fN, .sl (List.map I t0.fType), .sl (List.map GTerm_S t0.fKids)]), (2, .box [.int .i64 0, .int .i64 0, .nils, .nils])]) (by kernel_rfl) (And.intro (impl_IsWritten_s _ _ hr_1_1) (And.intro bod_60 (And.intro (Or.inl rfl : ([] : List Nat) = [] ∨ noSh (.bool r_1_1) = true) (And.intro (neF (nT hb_1_0) : (!r_1_1) ≠ false) (And.intro (neF (nT hb_1_0) : (!r_1_1) ≠ false) (And.intro (neF (nT hb_1_0) : (!r_1_1) ≠ false) (And.intro (neF (nT hb_1_0) : (!r_1_1) ≠ false) (And.intro (neF (nT hb_1_0) : (!r_1_1) ≠ false) (And.intro (nT hb_1_0) (And.intro (neF (rfl : true = true) : true ≠ false) (And.intro (neF (rfl : true = true) : true ≠ false) (And.intro (rfl : true = true) trivial)))))))))))) (by kernel_rfl) (by kernel_rfl) ?_
      obtain rfl := Option.some.inj h
      exact Into.mk
  · clear hj_2
    refine seqQ_norm ?_
    rcases itesome h with ⟨hb_3, h⟩ | ⟨hb_3, h⟩
    · refine Wp.condT (b := v_1) (by kernel_rfl) (by kernel_rfl) hb_3 ?_
      refine Wp.seqN (by kernel_rfl) ?_
      refine Wp.reg tiok mix hc (by kernel_rfl) (ah := none) (rs := [some (.no), some (.no), some (.no)]) (kt := [4, 5]) (ko := [2]) (T' := [(4, .ra 2 0), (5, .bool false)]) (O' := [(2, .box [.int .i64 0, .int .i64 0, .nils, .nils])]) (by kernel_rfl) trivial (by kernel_rfl) (by kernel_rfl) ?_
      refine seqQ_norm ?_
      refine Wp.retN (by kernel_rfl) ?_
      refine seqQ_ret ?_
      obtain rfl := Option.some.inj h
      exact RetQ.ret (fl := [true, true]) (by kernel_rfl)
    · refine Wp.condF (b := v_1) (by kernel_rfl) (by kernel_rfl) hb_3 ?_
      refine Wp.skipN (by kernel_rfl) ?_
      refine seqQ_norm ?_
      refine Wp.seqN (by kernel_rfl) ?_
      obtain ⟨⟨r_3_2_0, r_3_2_1⟩, hr_3_2, h⟩ := bsome h
      refine Wp.reg tiok mix hc (by kernel_rfl) (ah := none) (rs := [some (.no), some (.no), some (.call (.tup [.agg [.int .i64 r_3_2_0.fOp, .int .i64 r_3_2_0.fN, .osl (List.map I r_3_2_0.fType), .osl (List.map GTerm_O r_3_2_0.fKids)], .sl (List.map I r_3_2_1)]) [] 3), some (.no), some (.no), some (.no), some (.new 5), some (.no), some (.no)]) (kt := [4, 6]) (ko := [2, 3, 4, 5]) (T' := [(4, .ra 2 0), (6, .ra 5 0)]) (O' := [(2, .box [.int .i64 0, .int .i64 0, .nils, .nils]), (3, .arr (List.map I r_3_2_0.fType)), (4, .arr (List.map GTerm_O r_3_2_0.fKids)), (5, .box [.int .i64 r_3_2_0.fOp, .int .i64 r_3_2_0.fN, .rs 3, .rs 4])]) (by kernel_rfl) (And.intro (impl_fill_s _ _ hr_3_2) (And.intro bod_65 (And.intro (Or.inl rfl : ([] : List Nat) = [] ∨ noSh (.tup [.agg [.int .i64 r_3_2_0.fOp, .int .i64 r_3_2_0.fN, .osl (List.map I r_3_2_0.fType), .osl (List.map GTerm_O r_3_2_0.fKids)], .sl (List.map I r_3_2_1)]) = true) trivial))) (by kernel_rfl) (by kernel_rfl) ?_
      refine seqQ_norm ?_
      refine Wp.seqN (by kernel_rfl) ?_
      refine Wp.reg tiok mix hc (by kernel_rfl) (ah := none) (rs := [some (.no), some (.no), some (.no)]) (kt := [4, 5]) (ko := [2, 3, 4]) (T' := [(4, .ra 2 0), (5, .bool true)]) (O' := [(2, .box [.int .i64 r_3_2_0.fOp, .int .i64 r_3_2_0.fN, .rs 3, .rs 4]), (3, .arr (List.map I r_3_2_0.fType)), (4, .arr (List.map GTerm_O r_3_2_0.fKids))]) (by kernel_rfl) trivial (by kernel_rfl) (by kernel_rfl) ?_
      refine seqQ_norm ?_
      refine Wp.retN (by kernel_rfl) ?_
      obtain rfl := Option.some.inj h
      exact RetQ.ret (fl := [true, true]) (by kernel_rfl)
def laws_eqIntS_F1 (c : Ctx) : (Unit) ⊕ (Bool) → Exit → AState → Prop
  | .inl _ => Into c (.exit 0) (mkS [] [])
  | .inr r => RetE TIx Try.f18 [] (.bool r)
def laws_eqIntS_l0 (p : (List Int) × (List Int) × Int) : Option ((Unit) ⊕ (Bool)) :=
  match p with
  | (a0, b1, i_4) =>
    if (decide (i_4 < (a0.length : Int))) = true then
      (idx a0 i_4) >>= fun e_6_2 =>
      (idx b1 i_4) >>= fun e_6_6 =>
      if (e_6_2 != e_6_6) = true then
        some (.inr false)
      else
        laws_eqIntS_l0 (a0, b1, (wr (i_4 + 1)))
    else
      some (.inl ())
  partial_fixpoint
def M_laws_eqIntS_l0 (p : (List Int) × (List Int) × Int) (fl : (Unit) ⊕ (Bool)) : Prop :=
  match p with
  | (a0, b1, i_4) => ∀ c : Ctx, c.nt = 26 → WpL Try.prog c (cl (cl (cr (cl (cr (cr B18)))))) (laws_eqIntS_F1 c fl) (mkS [(0, .sl (List.map I a0)), (1, .sl (List.map I b1)), (5, .int .i64 i_4)] [])
theorem laws_eqIntS_l0_s : ∀ p r, laws_eqIntS_l0 p = some r → M_laws_eqIntS_l0 p r := by
  refine laws_eqIntS_l0.partial_correctness M_laws_eqIntS_l0 ?_
  rintro laws_eqIntS_l0_f laws_eqIntS_l0_ih ⟨a0, b1, i_4⟩ r h
  intro c hc
  show WpL Try.prog c (cl (cl (cr (cl (cr (cr B18)))))) (laws_eqIntS_F1 c r) (mkS [(0, .sl (List.map I a0)), (1, .sl (List.map I b1)), (5, .int .i64 i_4)] [])
  refine WpL.step ?_
  refine Wp.seqN (by kernel_rfl) ?_
  refine Wp.seqN (by kernel_rfl) ?_
  refine Wp.reg tiok mix hc (by kernel_rfl) (ah := none) (rs := [some (.no), some (.no), some (.eqv (.no) ⟨[(13, .int .i64 (a0.length : Int))], [], []⟩), some (.no)]) (kt := [0, 1, 5, 14]) (ko := []) (T' := [(0, .sl (List.map I a0)), (1, .sl (List.map I b1)), (5, .int .i64 i_4), (14, .bool (decide (i_4 < (a0.length : Int))))]) (O' := []) (by kernel_rfl) (And.intro (lenT (d := 13) I a0) trivial) (by kernel_rfl) (by kernel_rfl) ?_
  refine seqQ_norm ?_
  rcases itesome h with ⟨hb_5, h⟩ | ⟨hb_5, h⟩
  · refine Wp.condT (b := (decide (i_4 < (a0.length : Int)))) (by kernel_rfl) (by kernel_rfl) hb_5 ?_
    refine Wp.skipN (by kernel_rfl) ?_
    refine seqQ_norm ?_
    refine Wp.seqN (by kernel_rfl) ?_
    refine Wp.blockN (i := 1) (by kernel_rfl) ?_
    refine Wp.seqN (by kernel_rfl) ?_
    obtain ⟨e_6_2, hi_6_2, h⟩ := bsome h
    obtain ⟨e_6_6, hi_6_6, h⟩ := bsome h
    refine Wp.reg tiok mix hc (by kernel_rfl) (ah := (some [[], [], [0, 1], [0, 1, 2], [], [], [4, 5], [4, 5, 6], [0, 1, 2, 3, 4, 5, 6, 7]])) (rs := [some (.no), some (.no), some (.el (.int .i64 e_6_2)), some (.no), some (.no), some (.no), some (.el (.int .i64 e_6_6)), some (.no), some (.no)]) (kt := [0, 1, 5, 25]) (ko := []) (T' := [(0, .sl (List.map I a0)), (1, .sl (List.map I b1)), (5, .int .i64 i_4), (25, .bool (e_6_2 != e_6_6))]) (O' := []) (by kernel_rfl) (And.intro (idx_sl (enc := I) (x := .int .i64 e_6_2) hi_6_2 (eq_I e_6_2)) (And.intro (idx_sl (enc := I) (x := .int .i64 e_6_6) hi_6_6 (eq_I e_6_6)) trivial)) (by kernel_rfl) (by kernel_rfl) ?_
    refine seqQ_norm ?_
    rcases itesome h with ⟨hb_6, h⟩ | ⟨hb_6, h⟩
    · refine Wp.condT (b := (e_6_2 != e_6_6)) (by kernel_rfl) (by kernel_rfl) hb_6 ?_
      refine Wp.seqN (by kernel_rfl) ?_
      refine Wp.reg tiok mix hc (by kernel_rfl) (ah := none) (rs := [some (.no)]) (kt := [4]) (ko := []) (T' := [(4, .bool false)]) (O' := []) (by kernel_rfl) trivial (by kernel_rfl) (by kernel_rfl) ?_
      refine seqQ_norm ?_
      refine Wp.retN (by kernel_rfl) ?_
      refine blockQ_ret ?_
      refine seqQ_ret ?_
      refine loopQ_ret ?_
      obtain rfl := Option.some.inj h
      exact RetE.ret (fl := [true]) (by kernel_rfl)
    · refine Wp.condF (b := (e_6_2 != e_6_6)) (by kernel_rfl) (by kernel_rfl) hb_6 ?_
      refine Wp.skipN (by kernel_rfl) ?_
      refine blockQ_norm ?_
      refine seqQ_norm ?_
      refine Wp.reg tiok mix hc (by kernel_rfl) (ah := none) (rs := [some (.no), some (.no), some (.no)]) (kt := [0, 1, 5]) (ko := []) (T' := [(0, .sl (List.map I a0)), (1, .sl (List.map I b1)), (5, .int .i64 (wr (i_4 + 1)))]) (O' := []) (by kernel_rfl) trivial (by kernel_rfl) (by kernel_rfl) ?_
      refine loopQ_norm ?_
      exact (laws_eqIntS_l0_ih _ _ h c hc)
  · refine Wp.condF (b := (decide (i_4 < (a0.length : Int)))) (by kernel_rfl) (by kernel_rfl) hb_5 ?_
    refine Wp.exitN (i := 0) (by kernel_rfl) ?_
    refine seqQ_exit ?_
    refine loopQ_exit ?_
    obtain rfl := Option.some.inj h
    exact Into.view (fun a w hv => SRx.renL [] hv (by kernel_rfl) (by kernel_rfl) (by kernel_rfl))
def laws_eqIntS (p : (List Int) × (List Int)) : Option (Bool) :=
  match p with
  | (a0, b1) =>
    if ((a0.length : Int) != (b1.length : Int)) = true then
      some false
    else
      (laws_eqIntS_l0 (a0, b1, 0)) >>= fun fl => match fl with
      | .inl () =>
        some true
      | .inr r =>
        some r
def M_laws_eqIntS (p : (List Int) × (List Int)) (r : Bool) : Prop :=
  match p with
  | (a0, b1) => FnSound Try.prog 18 [.sl (List.map I a0), .sl (List.map I b1)] (.bool r) []
theorem laws_eqIntS_s : ∀ p r, laws_eqIntS p = some r → M_laws_eqIntS p r := by
  rintro ⟨a0, b1⟩ r h
  unfold laws_eqIntS at h
  show FnSound Try.prog 18 [.sl (List.map I a0), .sl (List.map I b1)] (.bool r) []
  refine FnSound.body0 tiok (fn := Try.f18) (code := B18) (by kernel_rfl) (by kernel_rfl) (by kernel_rfl) (by kernel_rfl) (nt := 26) (by kernel_rfl) (by kernel_rfl) (T := [(0, .sl (List.map I a0)), (1, .sl (List.map I b1))]) (O := []) (by kernel_rfl) (by kernel_rfl) (fun c hc => ?_)
  refine Wp.seqN (by kernel_rfl) ?_
  refine Wp.reg tiok mix hc (by kernel_rfl) (ah := none) (rs := [some (.no)]) (kt := [0, 1]) (ko := []) (T' := [(0, .sl (List.map I a0)), (1, .sl (List.map I b1))]) (O' := []) (by kernel_rfl) trivial (by kernel_rfl) (by kernel_rfl) ?_
  refine seqQ_norm ?_
  refine Wp.seqN (by kernel_rfl) ?_
  refine Wp.seqN (by kernel_rfl) ?_
  refine Wp.reg tiok mix hc (by kernel_rfl) (ah := none) (rs := [some (.no), some (.eqv (.no) ⟨[(7, .int .i64 (a0.length : Int))], [], []⟩), some (.no), some (.eqv (.no) ⟨[(9, .int .i64 (b1.length : Int))], [], []⟩), some (.no)]) (kt := [0, 1, 10]) (ko := []) (T' := [(0, .sl (List.map I a0)), (1, .sl (List.map I b1)), (10, .bool ((a0.length : Int) != (b1.length : Int)))]) (O' := []) (by kernel_rfl) (And.intro (lenT (d := 7) I a0) (And.intro (lenT (d := 9) I b1) trivial)) (by kernel_rfl) (by kernel_rfl) ?_
  refine seqQ_norm ?_
  rcases itesome h with ⟨hb_1, h⟩ | ⟨hb_1, h⟩
  · refine Wp.condT (b := ((a0.length : Int) != (b1.length : Int))) (by kernel_rfl) (by kernel_rfl) hb_1 ?_
    refine Wp.seqN (by kernel_rfl) ?_
    refine Wp.reg tiok mix hc (by kernel_rfl) (ah := none) (rs := [some (.no)]) (kt := [4]) (ko := []) (T' := [(4, .bool false)]) (O' := []) (by kernel_rfl) trivial (by kernel_rfl) (by kernel_rfl) ?_
    refine seqQ_norm ?_
    refine Wp.retN (by kernel_rfl) ?_
    refine seqQ_ret ?_
    obtain rfl := Option.some.inj h
    exact RetQ.ret (fl := [true]) (by kernel_rfl)
  · refine Wp.condF (b := ((a0.length : Int) != (b1.length : Int))) (by kernel_rfl) (by kernel_rfl) hb_1 ?_
    refine Wp.skipN (by kernel_rfl) ?_
    refine seqQ_norm ?_
    refine Wp.seqN (by kernel_rfl) ?_
    refine Wp.seqN (by kernel_rfl) ?_
    refine Wp.reg tiok mix hc (by kernel_rfl) (ah := none) (rs := [some (.no)]) (kt := [0, 1, 5]) (ko := []) (T' := [(0, .sl (List.map I a0)), (1, .sl (List.map I b1)), (5, .int .i64 0)]) (O' := []) (by kernel_rfl) trivial (by kernel_rfl) (by kernel_rfl) ?_
    refine seqQ_norm ?_
    refine Wp.blockN (i := 0) (by kernel_rfl) ?_
    obtain ⟨fl, hl_7, h⟩ := bsome h
    have hL := laws_eqIntS_l0_s _ _ hl_7 c hc
    refine Wp.loopN (by kernel_rfl) ?_
    rcases fl with ⟨⟩ | r
    · refine WpL.into (e := (.exit 0)) (mkS [] []) hL ?_
      refine blockQ_hit ?_
      refine seqQ_norm ?_
      refine Wp.seqN (by kernel_rfl) ?_
      refine Wp.reg tiok mix hc (by kernel_rfl) (ah := none) (rs := [some (.no)]) (kt := [4]) (ko := []) (T' := [(4, .bool true)]) (O' := []) (by kernel_rfl) trivial (by kernel_rfl) (by kernel_rfl) ?_
      refine seqQ_norm ?_
      refine Wp.retN (by kernel_rfl) ?_
      obtain rfl := Option.some.inj h
      exact RetQ.ret (fl := [true]) (by kernel_rfl)
    · refine WpL.mono hL ?_
      rintro _ _ ⟨rfl, hfin⟩
      refine blockQ_ret ?_
      refine seqQ_ret ?_
      obtain rfl := Option.some.inj h
      exact ⟨.inl rfl, hfin⟩
def laws_eqTermS_F1 (c : Ctx) : (Unit) ⊕ (Bool) → Exit → AState → Prop
  | .inl _ => Into c (.exit 0) (mkS [] [])
  | .inr r => RetE TIx Try.f49 [] (.bool r)
mutual
def laws_eqTerm (p : GTerm × GTerm) : Option (Bool) :=
  match p with
  | (a0, b1) =>
    if (a0.fOp != b1.fOp) = true then
      some false
    else
      if (a0.fN != b1.fN) = true then
        some false
      else
        (laws_eqIntS (a0.fType, b1.fType)) >>= fun r_5_4 =>
        if r_5_4 = true then
          (laws_eqTermS (a0.fKids, b1.fKids)) >>= fun r_7_4 =>
          if r_7_4 = true then
            some true
          else
            some false
        else
          some false
  partial_fixpoint
def laws_eqTermS (p : (List GTerm) × (List GTerm)) : Option (Bool) :=
  match p with
  | (a0, b1) =>
    if ((a0.length : Int) != (b1.length : Int)) = true then
      some false
    else
      (laws_eqTermS_l0 (a0, b1, 0)) >>= fun fl => match fl with
      | .inl () =>
        some true
      | .inr r =>
        some r
  partial_fixpoint
def laws_eqTermS_l0 (p : (List GTerm) × (List GTerm) × Int) : Option ((Unit) ⊕ (Bool)) :=
  match p with
  | (a0, b1, i_4) =>
    if (decide (i_4 < (a0.length : Int))) = true then
      (idx a0 i_4) >>= fun e_6_2 =>
      (idx b1 i_4) >>= fun e_6_6 =>
      (laws_eqTerm (e_6_2, e_6_6)) >>= fun r_6_8 =>
      if r_6_8 = true then
        laws_eqTermS_l0 (a0, b1, (wr (i_4 + 1)))
      else
        some (.inr false)
    else
      some (.inl ())
  partial_fixpoint
end
def M_laws_eqTerm (p : GTerm × GTerm) (r : Bool) : Prop :=
  match p with
  | (a0, b1) => FnSound Try.prog 16 [.agg [.int .i64 a0.fOp, .int .i64 a0.fN, .sl (List.map I a0.fType), .sl (List.map GTerm_S a0.fKids)], .agg [.int .i64 b1.fOp, .int .i64 b1.fN, .sl (List.map I b1.fType), .sl (List.map GTerm_S b1.fKids)]] (.bool r) []
def M_laws_eqTermS (p : (List GTerm) × (List GTerm)) (r : Bool) : Prop :=
  match p with
  | (a0, b1) => FnSound Try.prog 49 [.sl (List.map GTerm_S a0), .sl (List.map GTerm_S b1)] (.bool r) []
def M_laws_eqTermS_l0 (p : (List GTerm) × (List GTerm) × Int) (fl : (Unit) ⊕ (Bool)) : Prop :=
  match p with
  | (a0, b1, i_4) => ∀ c : Ctx, c.nt = 27 → WpL Try.prog c (cl (cl (cr (cl (cr (cr B49)))))) (laws_eqTermS_F1 c fl) (mkS [(0, .sl (List.map GTerm_S a0)), (1, .sl (List.map GTerm_S b1)), (5, .int .i64 i_4)] [])
theorem laws_eqTerm_all : (∀ p r, laws_eqTerm p = some r → M_laws_eqTerm p r) ∧ (∀ p r, laws_eqTermS p = some r → M_laws_eqTermS p r) ∧ (∀ p r, laws_eqTermS_l0 p = some r → M_laws_eqTermS_l0 p r) := by
  refine laws_eqTerm.mutual_partial_correctness M_laws_eqTerm M_laws_eqTermS M_laws_eqTermS_l0 ?_ ?_ ?_
  · rintro laws_eqTermS_f laws_eqTermS_ih ⟨a0, b1⟩ r h
    show FnSound Try.prog 16 [.agg [.int .i64 a0.fOp, .int .i64 a0.fN, .sl (List.map I a0.fType), .sl (List.map GTerm_S a0.fKids)], .agg [.int .i64 b1.fOp, .int .i64 b1.fN, .sl (List.map I b1.fType), .sl (List.map GTerm_S b1.fKids)]] (.bool r) []
    refine FnSound.body0 tiok (fn := Try.f16) (code := B16) (by kernel_rfl) (by kernel_rfl) (by kernel_rfl) (by kernel_rfl) (nt := 27) (by kernel_rfl) (by kernel_rfl) (T := [(0, .agg [.int .i64 a0.fOp, .int .i64 a0.fN, .sl (List.map I a0.fType), .sl (List.map GTerm_S a0.fKids)]), (1, .agg [.int .i64 b1.fOp, .int .i64 b1.fN, .sl (List.map I b1.fType), .sl (List.map GTerm_S b1.fKids)])]) (O := []) (by kernel_rfl) (by kernel_rfl) (fun c hc => ?_)
    refine Wp.seqN (by kernel_rfl) ?_
    refine Wp.reg tiok mix hc (by kernel_rfl) (ah := none) (rs := [some (.new 1), some (.new 2), some (.no)]) (kt := [2, 3]) (ko := [1, 2]) (T' := [(2, .ra 1 0), (3, .ra 2 0)]) (O' := [(1, .box [.int .i64 a0.fOp, .int .i64 a0.fN, .sl (List.map I a0.fType), .sl (List.map GTerm_S a0.fKids)]), (2, .box [.int .i64 b1.fOp, .int .i64 b1.fN, .sl (List.map I b1.fType), .sl (List.map GTerm_S b1.fKids)])]) (by kernel_rfl) trivial (by kernel_rfl) (by kernel_rfl) ?_
    refine seqQ_norm ?_
    refine Wp.seqN (by kernel_rfl) ?_
    refine Wp.seqN (by kernel_rfl) ?_
    refine Wp.reg tiok mix hc (by kernel_rfl) (ah := none) (rs := [some (.no), some (.no), some (.no), some (.no), some (.no)]) (kt := [2, 3, 9]) (ko := [1, 2]) (T' := [(2, .ra 1 0), (3, .ra 2 0), (9, .bool (a0.fOp != b1.fOp))]) (O' := [(1, .box [.int .i64 a0.fOp, .int .i64 a0.fN, .sl (List.map I a0.fType), .sl (List.map GTerm_S a0.fKids)]), (2, .box [.int .i64 b1.fOp, .int .i64 b1.fN, .sl (List.map I b1.fType), .sl (List.map GTerm_S b1.fKids)])]) (by kernel_rfl) trivial (by kernel_rfl) (by kernel_rfl) ?_
    refine seqQ_norm ?_
    rcases itesome h with ⟨hb_1, h⟩ | ⟨hb_1, h⟩
    · refine Wp.condT (b := (a0.fOp != b1.fOp)) (by kernel_rfl) (by kernel_rfl) hb_1 ?_
      refine Wp.seqN (by kernel_rfl) ?_
      refine Wp.reg tiok mix hc (by kernel_rfl) (ah := none) (rs := [some (.no)]) (kt := [4]) (ko := []) (T' := [(4, .bool false)]) (O' := []) (by kernel_rfl) trivial (by kernel_rfl) (by kernel_rfl) ?_
      refine seqQ_norm ?_
      refine Wp.retN (by kernel_rfl) ?_
      refine seqQ_ret ?_
      obtain rfl := Option.some.inj h
      exact RetQ.ret (fl := [true]) (by kernel_rfl)
    · refine Wp.condF (b := (a0.fOp != b1.fOp)) (by kernel_rfl) (by kernel_rfl) hb_1 ?_
      refine Wp.skipN (by kernel_rfl) ?_
      refine seqQ_norm ?_
      refine Wp.seqN (by kernel_rfl) ?_
      refine Wp.seqN (by kernel_rfl) ?_
      refine Wp.reg tiok mix hc (by kernel_rfl) (ah := none) (rs := [some (.no), some (.no), some (.no), some (.no), some (.no)]) (kt := [2, 3, 14]) (ko := [1, 2]) (T' := [(2, .ra 1 0), (3, .ra 2 0), (14, .bool (a0.fN != b1.fN))]) (O' := [(1, .box [.int .i64 a0.fOp, .int .i64 a0.fN, .sl (List.map I a0.fType), .sl (List.map GTerm_S a0.fKids)]), (2, .box [.int .i64 b1.fOp, .int .i64 b1.fN, .sl (List.map I b1.fType), .sl (List.map GTerm_S b1.fKids)])]) (by kernel_rfl) trivial (by kernel_rfl) (by kernel_rfl) ?_
      refine seqQ_norm ?_
      rcases itesome h with ⟨hb_2, h⟩ | ⟨hb_2, h⟩
      · refine Wp.condT (b := (a0.fN != b1.fN)) (by kernel_rfl) (by kernel_rfl) hb_2 ?_
        refine Wp.seqN (by kernel_rfl) ?_
        refine Wp.reg tiok mix hc (by kernel_rfl) (ah := none) (rs := [some (.no)]) (kt := [4]) (ko := []) (T' := [(4, .bool false)]) (O' := []) (by kernel_rfl) trivial (by kernel_rfl) (by kernel_rfl) ?_
        refine seqQ_norm ?_
        refine Wp.retN (by kernel_rfl) ?_
        refine seqQ_ret ?_
        obtain rfl := Option.some.inj h
        exact RetQ.ret (fl := [true]) (by kernel_rfl)
      · refine Wp.condF (b := (a0.fN != b1.fN)) (by kernel_rfl) (by kernel_rfl) hb_2 ?_
        refine Wp.skipN (by kernel_rfl) ?_
        refine seqQ_norm ?_
        refine Wp.seqN (by kernel_rfl) ?_
        refine Wp.seqN (by kernel_rfl) ?_
        obtain ⟨r_5_4, hr_5_4, h⟩ := bsome h
        refine Wp.reg tiok mix hc (by kernel_rfl) (ah := none) (rs := [some (.no), some (.no), some (.no), some (.no), some (.call (.bool r_5_4) [] 1), some (.no)]) (kt := [2, 3, 20]) (ko := [1, 2]) (T' := [(2, .ra 1 0), (3, .ra 2 0), (20, .bool (!r_5_4))]) (O' := [(1, .box [.int .i64 a0.fOp, .int .i64 a0.fN, .sl (List.map I a0.fType), .sl (List.map GTerm_S a0.fKids)]), (2, .box [.int .i64 b1.fOp, .int .i64 b1.fN, .sl (List.map I b1.fType), .sl (List.map GTerm_S b1.fKids)])]) (by kernel_rfl) (And.intro (laws_eqIntS_s _ _ hr_5_4) (And.intro bod_18 (And.intro (Or.inl rfl : ([] : List Nat) = [] ∨ noSh (.bool r_5_4) = true) trivial))) (by kernel_rfl) (by kernel_rfl) ?_
        refine seqQ_norm ?_
        rcases itesome h with ⟨hb_3, h⟩ | ⟨hb_3, h⟩
        · refine Wp.condF (b := (!r_5_4)) (by kernel_rfl) (by kernel_rfl) (nF hb_3) ?_
          refine Wp.skipN (by kernel_rfl) ?_
          refine seqQ_norm ?_
          refine Wp.seqN (by kernel_rfl) ?_
          refine Wp.seqN (by kernel_rfl) ?_
          obtain ⟨r_7_4, hr_7_4, h⟩ := bsome h
          refine Wp.reg tiok mix hc (by kernel_rfl) (ah := none) (rs := [some (.no), some (.no), some (.no), some (.no), some (.call (.bool r_7_4) [] 1), some (.no)]) (kt := [26]) (ko := []) (T' := [(26, .bool (!r_7_4))]) (O' := []) (by kernel_rfl) (And.intro (laws_eqTermS_ih _ _ hr_7_4) (And.intro bod_49 (And.intro (Or.inl rfl : ([] : List Nat) = [] ∨ noSh (.bool r_7_4) = true) trivial))) (by kernel_rfl) (by kernel_rfl) ?_
          refine seqQ_norm ?_
          rcases itesome h with ⟨hb_4, h⟩ | ⟨hb_4, h⟩
          · refine Wp.condF (b := (!r_7_4)) (by kernel_rfl) (by kernel_rfl) (nF hb_4) ?_
            refine Wp.skipN (by kernel_rfl) ?_
            refine seqQ_norm ?_
            refine Wp.seqN (by kernel_rfl) ?_
            refine Wp.reg tiok mix hc (by kernel_rfl) (ah := none) (rs := [some (.no)]) (kt := [4]) (ko := []) (T' := [(4, .bool true)]) (O' := []) (by kernel_rfl) trivial (by kernel_rfl) (by kernel_rfl) ?_
            refine seqQ_norm ?_
            refine Wp.retN (by kernel_rfl) ?_
            obtain rfl := Option.some.inj h
            exact RetQ.ret (fl := [true]) (by kernel_rfl)
          · refine Wp.condT (b := (!r_7_4)) (by kernel_rfl) (by kernel_rfl) (nT hb_4) ?_
            refine Wp.seqN (by kernel_rfl) ?_
            refine Wp.reg tiok mix hc (by kernel_rfl) (ah := none) (rs := [some (.no)]) (kt := [4]) (ko := []) (T' := [(4, .bool false)]) (O' := []) (by kernel_rfl) trivial (by kernel_rfl) (by kernel_rfl) ?_
            refine seqQ_norm ?_
            refine Wp.retN (by kernel_rfl) ?_
            refine seqQ_ret ?_
            obtain rfl := Option.some.inj h
            exact RetQ.ret (fl := [true]) (by kernel_rfl)
        · refine Wp.condT (b := (!r_5_4)) (by kernel_rfl) (by kernel_rfl) (nT hb_3) ?_
          refine Wp.seqN (by kernel_rfl) ?_
          refine Wp.reg tiok mix hc (by kernel_rfl) (ah := none) (rs := [some (.no)]) (kt := [4]) (ko := []) (T' := [(4, .bool false)]) (O' := []) (by kernel_rfl) trivial (by kernel_rfl) (by kernel_rfl) ?_
          refine seqQ_norm ?_
          refine Wp.retN (by kernel_rfl) ?_
          refine seqQ_ret ?_
          obtain rfl := Option.some.inj h
          exact RetQ.ret (fl := [true]) (by kernel_rfl)
  · rintro laws_eqTermS_l0_f laws_eqTermS_l0_ih ⟨a0, b1⟩ r h
    show FnSound Try.prog 49 [.sl (List.map GTerm_S a0), .sl (List.map GTerm_S b1)] (.bool r) []
    refine FnSound.body0 tiok (fn := Try.f49) (code := B49) (by kernel_rfl) (by kernel_rfl) (by kernel_rfl) (by kernel_rfl) (nt := 27) (by kernel_rfl) (by kernel_rfl) (T := [(0, .sl (List.map GTerm_S a0)), (1, .sl (List.map GTerm_S b1))]) (O := []) (by kernel_rfl) (by kernel_rfl) (fun c hc => ?_)
    refine Wp.seqN (by kernel_rfl) ?_
    refine Wp.reg tiok mix hc (by kernel_rfl) (ah := none) (rs := [some (.no)]) (kt := [0, 1]) (ko := []) (T' := [(0, .sl (List.map GTerm_S a0)), (1, .sl (List.map GTerm_S b1))]) (O' := []) (by kernel_rfl) trivial (by kernel_rfl) (by kernel_rfl) ?_
    refine seqQ_norm ?_
    refine Wp.seqN (by kernel_rfl) ?_
    refine Wp.seqN (by kernel_rfl) ?_
    refine Wp.reg tiok mix hc (by kernel_rfl) (ah := none) (rs := [some (.no), some (.eqv (.no) ⟨[(7, .int .i64 (a0.length : Int))], [], []⟩), some (.no), some (.eqv (.no) ⟨[(9, .int .i64 (b1.length : Int))], [], []⟩), some (.no)]) (kt := [0, 1, 10]) (ko := []) (T' := [(0, .sl (List.map GTerm_S a0)), (1, .sl (List.map GTerm_S b1)), (10, .bool ((a0.length : Int) != (b1.length : Int)))]) (O' := []) (by kernel_rfl) (And.intro (lenT (d := 7) GTerm_S a0) (And.intro (lenT (d := 9) GTerm_S b1) trivial)) (by kernel_rfl) (by kernel_rfl) ?_
    refine seqQ_norm ?_
    rcases itesome h with ⟨hb_1, h⟩ | ⟨hb_1, h⟩
    · refine Wp.condT (b := ((a0.length : Int) != (b1.length : Int))) (by kernel_rfl) (by kernel_rfl) hb_1 ?_
      refine Wp.seqN (by kernel_rfl) ?_
      refine Wp.reg tiok mix hc (by kernel_rfl) (ah := none) (rs := [some (.no)]) (kt := [4]) (ko := []) (T' := [(4, .bool false)]) (O' := []) (by kernel_rfl) trivial (by kernel_rfl) (by kernel_rfl) ?_
      refine seqQ_norm ?_
      refine Wp.retN (by kernel_rfl) ?_
      refine seqQ_ret ?_
      obtain rfl := Option.some.inj h
      exact RetQ.ret (fl := [true]) (by kernel_rfl)
    · refine Wp.condF (b := ((a0.length : Int) != (b1.length : Int))) (by kernel_rfl) (by kernel_rfl) hb_1 ?_
      refine Wp.skipN (by kernel_rfl) ?_
      refine seqQ_norm ?_
      refine Wp.seqN (by kernel_rfl) ?_
      refine Wp.seqN (by kernel_rfl) ?_
      refine Wp.reg tiok mix hc (by kernel_rfl) (ah := none) (rs := [some (.no)]) (kt := [0, 1, 5]) (ko := []) (T' := [(0, .sl (List.map GTerm_S a0)), (1, .sl (List.map GTerm_S b1)), (5, .int .i64 0)]) (O' := []) (by kernel_rfl) trivial (by kernel_rfl) (by kernel_rfl) ?_
      refine seqQ_norm ?_
      refine Wp.blockN (i := 0) (by kernel_rfl) ?_
      obtain ⟨fl, hl_7, h⟩ := bsome h
      have hL := laws_eqTermS_l0_ih _ _ hl_7 c hc
      refine Wp.loopN (by kernel_rfl) ?_
      rcases fl with ⟨⟩ | r
      · refine WpL.into (e := (.exit 0)) (mkS [] []) hL ?_
        refine blockQ_hit ?_
        refine seqQ_norm ?_
        refine Wp.seqN (by kernel_rfl) ?_
        refine Wp.reg tiok mix hc (by kernel_rfl) (ah := none) (rs := [some (.no)]) (kt := [4]) (ko := []) (T' := [(4, .bool true)]) (O' := []) (by kernel_rfl) trivial (by kernel_rfl) (by kernel_rfl) ?_
        refine seqQ_norm ?_
        refine Wp.retN (by kernel_rfl) ?_
        obtain rfl := Option.some.inj h
        exact RetQ.ret (fl := [true]) (by kernel_rfl)
      · refine WpL.mono hL ?_
        rintro _ _ ⟨rfl, hfin⟩
        refine blockQ_ret ?_
        refine seqQ_ret ?_
        obtain rfl := Option.some.inj h
        exact ⟨.inl rfl, hfin⟩
  · rintro laws_eqTerm_f laws_eqTermS_l0_f laws_eqTerm_ih laws_eqTermS_l0_ih ⟨a0, b1, i_4⟩ r h
    intro c hc
    show WpL Try.prog c (cl (cl (cr (cl (cr (cr B49)))))) (laws_eqTermS_F1 c r) (mkS [(0, .sl (List.map GTerm_S a0)), (1, .sl (List.map GTerm_S b1)), (5, .int .i64 i_4)] [])
    refine WpL.step ?_
    refine Wp.seqN (by kernel_rfl) ?_
    refine Wp.seqN (by kernel_rfl) ?_
    refine Wp.reg tiok mix hc (by kernel_rfl) (ah := none) (rs := [some (.no), some (.no), some (.eqv (.no) ⟨[(13, .int .i64 (a0.length : Int))], [], []⟩), some (.no)]) (kt := [0, 1, 5, 14]) (ko := []) (T' := [(0, .sl (List.map GTerm_S a0)), (1, .sl (List.map GTerm_S b1)), (5, .int .i64 i_4), (14, .bool (decide (i_4 < (a0.length : Int))))]) (O' := []) (by kernel_rfl) (And.intro (lenT (d := 13) GTerm_S a0) trivial) (by kernel_rfl) (by kernel_rfl) ?_
    refine seqQ_norm ?_
    rcases itesome h with ⟨hb_5, h⟩ | ⟨hb_5, h⟩
    · refine Wp.condT (b := (decide (i_4 < (a0.length : Int)))) (by kernel_rfl) (by kernel_rfl) hb_5 ?_
      refine Wp.skipN (by kernel_rfl) ?_
      refine seqQ_norm ?_
      refine Wp.seqN (by kernel_rfl) ?_
      refine Wp.blockN (i := 1) (by kernel_rfl) ?_
      refine Wp.seqN (by kernel_rfl) ?_
      obtain ⟨e_6_2, hi_6_2, h⟩ := bsome h
      obtain ⟨e_6_6, hi_6_6, h⟩ := bsome h
      obtain ⟨r_6_8, hr_6_8, h⟩ := bsome h
      refine Wp.reg tiok mix hc (by kernel_rfl) (ah := (some [[], [], [0, 1], [0, 1, 2], [], [], [4, 5], [4, 5, 6], [0, 1, 2, 3, 4, 5, 6, 7], [0, 1, 2, 3, 4, 5, 6, 7, 8]])) (rs := [some (.no), some (.no), some (.el (.agg [.int .i64 e_6_2.fOp, .int .i64 e_6_2.fN, .sl (List.map I e_6_2.fType), .sl (List.map GTerm_S e_6_2.fKids)])), some (.no), some (.no), some (.no), some (.el (.agg [.int .i64 e_6_6.fOp, .int .i64 e_6_6.fN, .sl (List.map I e_6_6.fType), .sl (List.map GTerm_S e_6_6.fKids)])), some (.no), some (.call (.bool r_6_8) [] 1), some (.no)]) (kt := [0, 1, 5, 26]) (ko := []) (T' := [(0, .sl (List.map GTerm_S a0)), (1, .sl (List.map GTerm_S b1)), (5, .int .i64 i_4), (26, .bool (!r_6_8))]) (O' := []) (by kernel_rfl) (And.intro (idx_sl (enc := GTerm_S) (x := .agg [.int .i64 e_6_2.fOp, .int .i64 e_6_2.fN, .sl (List.map I e_6_2.fType), .sl (List.map GTerm_S e_6_2.fKids)]) hi_6_2 (eq_GTerm_S e_6_2)) (And.intro (idx_sl (enc := GTerm_S) (x := .agg [.int .i64 e_6_6.fOp, .int .i64 e_6_6.fN, .sl (List.map I e_6_6.fType), .sl (List.map GTerm_S e_6_6.fKids)]) hi_6_6 (eq_GTerm_S e_6_6)) (And.intro (laws_eqTerm_ih _ _ hr_6_8) (And.intro bod_16 (And.intro (Or.inl rfl : ([] : List Nat) = [] ∨ noSh (.bool r_6_8) = true) trivial))))) (by kernel_rfl) (by kernel_rfl) ?_
      refine seqQ_norm ?_
      rcases itesome h with ⟨hb_6, h⟩ | ⟨hb_6, h⟩
      · refine Wp.condF (b := (!r_6_8)) (by kernel_rfl) (by kernel_rfl) (nF hb_6) ?_
        refine Wp.skipN (by kernel_rfl) ?_
        refine blockQ_norm ?_
        refine seqQ_norm ?_
        refine Wp.reg tiok mix hc (by kernel_rfl) (ah := none) (rs := [some (.no), some (.no), some (.no)]) (kt := [0, 1, 5]) (ko := []) (T' := [(0, .sl (List.map GTerm_S a0)), (1, .sl (List.map GTerm_S b1)), (5, .int .i64 (wr (i_4 + 1)))]) (O' := []) (by kernel_rfl) trivial (by kernel_rfl) (by kernel_rfl) ?_
        refine loopQ_norm ?_
        exact (laws_eqTermS_l0_ih _ _ h c hc)
      · refine Wp.condT (b := (!r_6_8)) (by kernel_rfl) (by kernel_rfl) (nT hb_6) ?_
        refine Wp.seqN (by kernel_rfl) ?_
        refine Wp.reg tiok mix hc (by kernel_rfl) (ah := none) (rs := [some (.no)]) (kt := [4]) (ko := []) (T' := [(4, .bool false)]) (O' := []) (by kernel_rfl) trivial (by kernel_rfl) (by kernel_rfl) ?_
        refine seqQ_norm ?_
        refine Wp.retN (by kernel_rfl) ?_
        refine blockQ_ret ?_
        refine seqQ_ret ?_
        refine loopQ_ret ?_
        obtain rfl := Option.some.inj h
        exact RetE.ret (fl := [true]) (by kernel_rfl)
    · refine Wp.condF (b := (decide (i_4 < (a0.length : Int)))) (by kernel_rfl) (by kernel_rfl) hb_5 ?_
      refine Wp.exitN (i := 0) (by kernel_rfl) ?_
      refine seqQ_exit ?_
      refine loopQ_exit ?_
      obtain rfl := Option.some.inj h
      exact Into.view (fun a w hv => SRx.renL [] hv (by kernel_rfl) (by kernel_rfl) (by kernel_rfl))
theorem laws_eqTerm_s : ∀ p r, laws_eqTerm p = some r → M_laws_eqTerm p r := laws_eqTerm_all.1
theorem laws_eqTermS_s : ∀ p r, laws_eqTermS p = some r → M_laws_eqTermS p r := laws_eqTerm_all.2.1
theorem laws_eqTermS_l0_s : ∀ p r, laws_eqTermS_l0 p = some r → M_laws_eqTermS_l0 p r := laws_eqTerm_all.2.2
def laws_markIntS_F1 (c : Ctx) : Int × (List Int) → Exit → AState → Prop
  | (k_6, x_7) => Into c (.exit 0) (mkS [(1, .int .i64 k_6)] [(1000, .arr (List.map I x_7))])
def laws_markIntS_l0 (p : (List Int) × Int × Int) : Option (Int × (List Int)) :=
  match p with
  | (a_2, k_3, i_4) =>
    if (decide (i_4 < (a_2.length : Int))) = true then
      (idx a_2 i_4) >>= fun e_4_3 =>
      laws_markIntS_l0 ((List.set a_2 (Int.toNat i_4) k_3), (wr (k_3 + 1)), (wr (i_4 + 1)))
    else
      some ((k_3, a_2))
  partial_fixpoint
def M_laws_markIntS_l0 (p : (List Int) × Int × Int) (fl : Int × (List Int)) : Prop :=
  match p with
  | (a_2, k_3, i_4) => ∀ c : Ctx, c.nt = 19 → WpL Try.prog c (cl (cl (cr (cl (cr B20))))) (laws_markIntS_F1 c fl) (mkS [(0, .rs 1000), (1, .int .i64 k_3), (5, .int .i64 i_4)] [(1000, .arr (List.map I a_2))])
theorem laws_markIntS_l0_s : ∀ p r, laws_markIntS_l0 p = some r → M_laws_markIntS_l0 p r := by
  refine laws_markIntS_l0.partial_correctness M_laws_markIntS_l0 ?_
  rintro laws_markIntS_l0_f laws_markIntS_l0_ih ⟨a_2, k_3, i_4⟩ r h
  intro c hc
  show WpL Try.prog c (cl (cl (cr (cl (cr B20))))) (laws_markIntS_F1 c r) (mkS [(0, .rs 1000), (1, .int .i64 k_3), (5, .int .i64 i_4)] [(1000, .arr (List.map I a_2))])
  refine WpL.step ?_
  refine Wp.seqN (by kernel_rfl) ?_
  refine Wp.seqN (by kernel_rfl) ?_
  refine Wp.reg tiok mix hc (by kernel_rfl) (ah := none) (rs := [some (.no), some (.no), some (.eqv (.no) ⟨[(8, .int .i64 (a_2.length : Int))], [], []⟩), some (.no)]) (kt := [0, 1, 5, 9]) (ko := [1000]) (T' := [(0, .rs 1000), (1, .int .i64 k_3), (5, .int .i64 i_4), (9, .bool (decide (i_4 < (a_2.length : Int))))]) (O' := [(1000, .arr (List.map I a_2))]) (by kernel_rfl) (And.intro (lenT (d := 8) I a_2) trivial) (by kernel_rfl) (by kernel_rfl) ?_
  refine seqQ_norm ?_
  rcases itesome h with ⟨hb_5, h⟩ | ⟨hb_5, h⟩
  · refine Wp.condT (b := (decide (i_4 < (a_2.length : Int)))) (by kernel_rfl) (by kernel_rfl) hb_5 ?_
    refine Wp.skipN (by kernel_rfl) ?_
    refine seqQ_norm ?_
    refine Wp.seqN (by kernel_rfl) ?_
    refine Wp.blockN (i := 1) (by kernel_rfl) ?_
    refine Wp.seqN (by kernel_rfl) ?_
    obtain ⟨e_4_3, hi_4_3, h⟩ := bsome h
    refine Wp.reg tiok mix hc (by kernel_rfl) (ah := none) (rs := [some (.no), some (.no), some (.no), some (.no), some (.eqv (.mk 0 true) ⟨[], [(1000, some (.arr (List.map I (List.set a_2 (Int.toNat i_4) k_3))))], []⟩)]) (kt := [0, 1, 5]) (ko := [1000]) (T' := [(0, .rs 1000), (1, .int .i64 k_3), (5, .int .i64 i_4)]) (O' := [(1000, .arr (List.map I (List.set a_2 (Int.toNat i_4) k_3)))]) (by kernel_rfl) (And.intro (idx_own (enc := I) hi_4_3) (And.intro (congrArg (fun z => (⟨[], [(1000, some (.arr z))], []⟩ : Wr)) (set_row (enc := I) (i := Int.toNat i_4) (l := a_2) (v := k_3) (x := AV.int .i64 k_3) (eq_I k_3))) (And.intro (own_set (enc := I) (sz := 1) sz_I hi_4_3) trivial))) (by kernel_rfl) (by kernel_rfl) ?_
    refine seqQ_norm ?_
    refine Wp.reg tiok mix hc (by kernel_rfl) (ah := none) (rs := [some (.no), some (.no), some (.no)]) (kt := [0, 1, 5]) (ko := [1000]) (T' := [(0, .rs 1000), (1, .int .i64 (wr (k_3 + 1))), (5, .int .i64 i_4)]) (O' := [(1000, .arr (List.map I (List.set a_2 (Int.toNat i_4) k_3)))]) (by kernel_rfl) trivial (by kernel_rfl) (by kernel_rfl) ?_
    refine blockQ_norm ?_
    refine seqQ_norm ?_
    refine Wp.reg tiok mix hc (by kernel_rfl) (ah := none) (rs := [some (.no), some (.no), some (.no)]) (kt := [0, 1, 5]) (ko := [1000]) (T' := [(0, .rs 1000), (1, .int .i64 (wr (k_3 + 1))), (5, .int .i64 (wr (i_4 + 1)))]) (O' := [(1000, .arr (List.map I (List.set a_2 (Int.toNat i_4) k_3)))]) (by kernel_rfl) trivial (by kernel_rfl) (by kernel_rfl) ?_
    refine loopQ_norm ?_
    exact (laws_markIntS_l0_ih _ _ h c hc)
  · refine Wp.condF (b := (decide (i_4 < (a_2.length : Int)))) (by kernel_rfl) (by kernel_rfl) hb_5 ?_
    refine Wp.exitN (i := 0) (by kernel_rfl) ?_
    refine seqQ_exit ?_
    refine loopQ_exit ?_
    obtain ⟨rfl, rfl⟩ := Prod.mk.inj (Option.some.inj h)
    exact Into.view (fun a w hv => SRx.renL [] hv (by kernel_rfl) (by kernel_rfl) (by kernel_rfl))
def laws_markIntS (p : (List Int) × Int) : Option (Int × (List Int)) :=
  match p with
  | (a0, k1) =>
    (laws_markIntS_l0 (a0, k1, 0)) >>= fun (k_6, x_7) =>
    some (k_6, x_7)
def M_laws_markIntS (p : (List Int) × Int) (r : Int × (List Int)) : Prop :=
  match p with
  | (a0, k1) => FnSound Try.prog 20 [.osl (List.map I a0), .int .i64 k1] (.int .i64 r.1) [.osl (List.map I r.2), .undef]
theorem laws_markIntS_s : ∀ p r, laws_markIntS p = some r → M_laws_markIntS p r := by
  rintro ⟨a0, k1⟩ r h
  unfold laws_markIntS at h
  show FnSound Try.prog 20 [.osl (List.map I a0), .int .i64 k1] (.int .i64 r.1) [.osl (List.map I r.2), .undef]
  refine FnSound.bodyO tiok (fn := Try.f20) (code := B20) (by kernel_rfl) (by kernel_rfl) (by kernel_rfl) (nt := 19) (by kernel_rfl) (by kernel_rfl) (T := [(0, .rs 1000), (1, .int .i64 k1)]) (O := [(1000, .arr (List.map I a0))]) (by kernel_rfl) (by kernel_rfl) (fun c hc => ?_)
  refine Wp.seqN (by kernel_rfl) ?_
  refine Wp.reg tiok mix hc (by kernel_rfl) (ah := none) (rs := [some (.no)]) (kt := [0, 1]) (ko := [1000]) (T' := [(0, .rs 1000), (1, .int .i64 k1)]) (O' := [(1000, .arr (List.map I a0))]) (by kernel_rfl) trivial (by kernel_rfl) (by kernel_rfl) ?_
  refine seqQ_norm ?_
  refine Wp.seqN (by kernel_rfl) ?_
  refine Wp.seqN (by kernel_rfl) ?_
  refine Wp.reg tiok mix hc (by kernel_rfl) (ah := none) (rs := [some (.no)]) (kt := [0, 1, 5]) (ko := [1000]) (T' := [(0, .rs 1000), (1, .int .i64 k1), (5, .int .i64 0)]) (O' := [(1000, .arr (List.map I a0))]) (by kernel_rfl) trivial (by kernel_rfl) (by kernel_rfl) ?_
  refine seqQ_norm ?_
  refine Wp.blockN (i := 0) (by kernel_rfl) ?_
  obtain ⟨⟨k_6, x_7⟩, hl_8, h⟩ := bsome h
  have hL := laws_markIntS_l0_s _ _ hl_8 c hc
  refine Wp.loopN (by kernel_rfl) ?_
  · refine WpL.into (e := (.exit 0)) (mkS [(1, .int .i64 k_6)] [(1000, .arr (List.map I x_7))]) hL ?_
    refine blockQ_hit ?_
    refine seqQ_norm ?_
    refine Wp.seqN (by kernel_rfl) ?_
    refine Wp.reg tiok mix hc (by kernel_rfl) (ah := none) (rs := [some (.no), some (.no)]) (kt := [4]) (ko := [1000]) (T' := [(4, .int .i64 k_6)]) (O' := [(1000, .arr (List.map I x_7))]) (by kernel_rfl) trivial (by kernel_rfl) (by kernel_rfl) ?_
    refine seqQ_norm ?_
    refine Wp.retN (by kernel_rfl) ?_
    obtain rfl := Option.some.inj h
    exact RetOQ.ret (fl := [true]) (by kernel_rfl)
def laws_markTermS_F1 (c : Ctx) : Int × (List GTerm) → Exit → AState → Prop
  | (k_6, x_7) => Into c (.exit 0) (mkS [(1, .int .i64 k_6)] [(1000, .arr (List.map GTerm_O x_7))])
mutual
def laws_markTermS (p : (List GTerm) × Int) : Option (Int × (List GTerm)) :=
  match p with
  | (a0, k1) =>
    (laws_markTermS_l0 (a0, k1, 0)) >>= fun (k_6, x_7) =>
    some (k_6, x_7)
  partial_fixpoint
def laws_markTermS_l0 (p : (List GTerm) × Int × Int) : Option (Int × (List GTerm)) :=
  match p with
  | (a_2, k_3, i_4) =>
    if (decide (i_4 < (a_2.length : Int))) = true then
      (idx a_2 i_4) >>= fun e_4_3 =>
      (idx (List.set a_2 (Int.toNat i_4) (GTerm.mk k_3 e_4_3.fN e_4_3.fType e_4_3.fKids)) i_4) >>= fun e_6_3 =>
      (idx (List.set (List.set a_2 (Int.toNat i_4) (GTerm.mk k_3 e_4_3.fN e_4_3.fType e_4_3.fKids)) (Int.toNat i_4) (GTerm.mk e_6_3.fOp (wr (k_3 + 1)) e_6_3.fType e_6_3.fKids)) i_4) >>= fun e_8_x =>
      (laws_markIntS (e_8_x.fType, (wr ((wr (k_3 + 1)) + 1)))) >>= fun (r_8_6, o_8_6_0) =>
      (idx (List.set (List.set (List.set a_2 (Int.toNat i_4) (GTerm.mk k_3 e_4_3.fN e_4_3.fType e_4_3.fKids)) (Int.toNat i_4) (GTerm.mk e_6_3.fOp (wr (k_3 + 1)) e_6_3.fType e_6_3.fKids)) (Int.toNat i_4) (GTerm.mk e_8_x.fOp e_8_x.fN o_8_6_0 e_8_x.fKids)) i_4) >>= fun e_9_x =>
      (laws_markTermS (e_9_x.fKids, r_8_6)) >>= fun (r_9_6, o_9_6_0) =>
      laws_markTermS_l0 ((List.set (List.set (List.set (List.set a_2 (Int.toNat i_4) (GTerm.mk k_3 e_4_3.fN e_4_3.fType e_4_3.fKids)) (Int.toNat i_4) (GTerm.mk e_6_3.fOp (wr (k_3 + 1)) e_6_3.fType e_6_3.fKids)) (Int.toNat i_4) (GTerm.mk e_8_x.fOp e_8_x.fN o_8_6_0 e_8_x.fKids)) (Int.toNat i_4) (GTerm.mk e_9_x.fOp e_9_x.fN e_9_x.fType o_9_6_0)), r_9_6, (wr (i_4 + 1)))
    else
      some ((k_3, a_2))
  partial_fixpoint
end
def M_laws_markTermS (p : (List GTerm) × Int) (r : Int × (List GTerm)) : Prop :=
  match p with
  | (a0, k1) => FnSound Try.prog 52 [.osl (List.map GTerm_O a0), .int .i64 k1] (.int .i64 r.1) [.osl (List.map GTerm_O r.2), .undef]
def M_laws_markTermS_l0 (p : (List GTerm) × Int × Int) (fl : Int × (List GTerm)) : Prop :=
  match p with
  | (a_2, k_3, i_4) => ∀ c : Ctx, c.nt = 41 → WpL Try.prog c (cl (cl (cr (cl (cr B52))))) (laws_markTermS_F1 c fl) (mkS [(0, .rs 1000), (1, .int .i64 k_3), (5, .int .i64 i_4)] [(1000, .arr (List.map GTerm_O a_2))])
theorem laws_markTermS_all : (∀ p r, laws_markTermS p = some r → M_laws_markTermS p r) ∧ (∀ p r, laws_markTermS_l0 p = some r → M_laws_markTermS_l0 p r) := by
  refine laws_markTermS.mutual_partial_correctness M_laws_markTermS M_laws_markTermS_l0 ?_ ?_
  · rintro laws_markTermS_l0_f laws_markTermS_l0_ih ⟨a0, k1⟩ r h
    show FnSound Try.prog 52 [.osl (List.map GTerm_O a0), .int .i64 k1] (.int .i64 r.1) [.osl (List.map GTerm_O r.2), .undef]
    refine FnSound.bodyO tiok (fn := Try.f52) (code := B52) (by kernel_rfl) (by kernel_rfl) (by kernel_rfl) (nt := 41) (by kernel_rfl) (by kernel_rfl) (T := [(0, .rs 1000), (1, .int .i64 k1)]) (O := [(1000, .arr (List.map GTerm_O a0))]) (by kernel_rfl) (by kernel_rfl) (fun c hc => ?_)
    refine Wp.seqN (by kernel_rfl) ?_
    refine Wp.reg tiok mix hc (by kernel_rfl) (ah := none) (rs := [some (.no)]) (kt := [0, 1]) (ko := [1000]) (T' := [(0, .rs 1000), (1, .int .i64 k1)]) (O' := [(1000, .arr (List.map GTerm_O a0))]) (by kernel_rfl) trivial (by kernel_rfl) (by kernel_rfl) ?_
    refine seqQ_norm ?_
    refine Wp.seqN (by kernel_rfl) ?_
    refine Wp.seqN (by kernel_rfl) ?_
    refine Wp.reg tiok mix hc (by kernel_rfl) (ah := none) (rs := [some (.no)]) (kt := [0, 1, 5]) (ko := [1000]) (T' := [(0, .rs 1000), (1, .int .i64 k1), (5, .int .i64 0)]) (O' := [(1000, .arr (List.map GTerm_O a0))]) (by kernel_rfl) trivial (by kernel_rfl) (by kernel_rfl) ?_
    refine seqQ_norm ?_
    refine Wp.blockN (i := 0) (by kernel_rfl) ?_
    obtain ⟨⟨k_6, x_7⟩, hl_8, h⟩ := bsome h
    have hL := laws_markTermS_l0_ih _ _ hl_8 c hc
    refine Wp.loopN (by kernel_rfl) ?_
    · refine WpL.into (e := (.exit 0)) (mkS [(1, .int .i64 k_6)] [(1000, .arr (List.map GTerm_O x_7))]) hL ?_
      refine blockQ_hit ?_
      refine seqQ_norm ?_
      refine Wp.seqN (by kernel_rfl) ?_
      refine Wp.reg tiok mix hc (by kernel_rfl) (ah := none) (rs := [some (.no), some (.no)]) (kt := [4]) (ko := [1000]) (T' := [(4, .int .i64 k_6)]) (O' := [(1000, .arr (List.map GTerm_O x_7))]) (by kernel_rfl) trivial (by kernel_rfl) (by kernel_rfl) ?_
      refine seqQ_norm ?_
      refine Wp.retN (by kernel_rfl) ?_
      obtain rfl := Option.some.inj h
      exact RetOQ.ret (fl := [true]) (by kernel_rfl)
  · rintro laws_markTermS_f laws_markTermS_l0_f laws_markTermS_ih laws_markTermS_l0_ih ⟨a_2, k_3, i_4⟩ r h
    intro c hc
    show WpL Try.prog c (cl (cl (cr (cl (cr B52))))) (laws_markTermS_F1 c r) (mkS [(0, .rs 1000), (1, .int .i64 k_3), (5, .int .i64 i_4)] [(1000, .arr (List.map GTerm_O a_2))])
    refine WpL.step ?_
    refine Wp.seqN (by kernel_rfl) ?_
    refine Wp.seqN (by kernel_rfl) ?_
    refine Wp.reg tiok mix hc (by kernel_rfl) (ah := none) (rs := [some (.no), some (.no), some (.eqv (.no) ⟨[(8, .int .i64 (a_2.length : Int))], [], []⟩), some (.no)]) (kt := [0, 1, 5, 9]) (ko := [1000]) (T' := [(0, .rs 1000), (1, .int .i64 k_3), (5, .int .i64 i_4), (9, .bool (decide (i_4 < (a_2.length : Int))))]) (O' := [(1000, .arr (List.map GTerm_O a_2))]) (by kernel_rfl) (And.intro (lenT (d := 8) GTerm_O a_2) trivial) (by kernel_rfl) (by kernel_rfl) ?_
    refine seqQ_norm ?_
    rcases itesome h with ⟨hb_5, h⟩ | ⟨hb_5, h⟩
    · refine Wp.condT (b := (decide (i_4 < (a_2.length : Int)))) (by kernel_rfl) (by kernel_rfl) hb_5 ?_
      refine Wp.skipN (by kernel_rfl) ?_
      refine seqQ_norm ?_
      refine Wp.seqN (by kernel_rfl) ?_
      refine Wp.blockN (i := 1) (by kernel_rfl) ?_
      refine Wp.seqN (by kernel_rfl) ?_
      obtain ⟨e_4_3, hi_4_3, h⟩ := bsome h
      refine Wp.reg tiok mix hc (by kernel_rfl) (ah := none) (rs := [some (.no), some (.no), some (.no), some (.no), some (.no), some (.eqv (.el (.agg [.int .i64 e_4_3.fOp, .int .i64 e_4_3.fN, .osl (List.map I e_4_3.fType), .osl (List.map GTerm_O e_4_3.fKids)])) ⟨[], [(1000, some (.arr (List.map GTerm_O (List.set a_2 (Int.toNat i_4) (GTerm.mk k_3 e_4_3.fN e_4_3.fType e_4_3.fKids)))))], []⟩)]) (kt := [0, 1, 5]) (ko := [1000]) (T' := [(0, .rs 1000), (1, .int .i64 k_3), (5, .int .i64 i_4)]) (O' := [(1000, .arr (List.map GTerm_O (List.set a_2 (Int.toNat i_4) (GTerm.mk k_3 e_4_3.fN e_4_3.fType e_4_3.fKids))))]) (by kernel_rfl) (And.intro (idx_own (enc := GTerm_O) hi_4_3) (And.intro (congrArg (fun z => (⟨[], [(1000, some (.arr z))], []⟩ : Wr)) (set_row (enc := GTerm_O) (i := Int.toNat i_4) (l := a_2) (v := (GTerm.mk k_3 e_4_3.fN e_4_3.fType e_4_3.fKids)) (x := AV.agg [.int .i64 k_3, .int .i64 e_4_3.fN, .osl (List.map I e_4_3.fType), .osl (List.map GTerm_O e_4_3.fKids)]) (eq_GTerm_O (GTerm.mk k_3 e_4_3.fN e_4_3.fType e_4_3.fKids)))) (And.intro (idx_sl (enc := GTerm_O) (x := .agg [.int .i64 e_4_3.fOp, .int .i64 e_4_3.fN, .osl (List.map I e_4_3.fType), .osl (List.map GTerm_O e_4_3.fKids)]) hi_4_3 (eq_GTerm_O e_4_3)).2 trivial))) (by kernel_rfl) (by kernel_rfl) ?_
      refine seqQ_norm ?_
      refine Wp.seqN (by kernel_rfl) ?_
      refine Wp.reg tiok mix hc (by kernel_rfl) (ah := none) (rs := [some (.no), some (.no), some (.no)]) (kt := [0, 1, 5]) (ko := [1000]) (T' := [(0, .rs 1000), (1, .int .i64 (wr (k_3 + 1))), (5, .int .i64 i_4)]) (O' := [(1000, .arr (List.map GTerm_O (List.set a_2 (Int.toNat i_4) (GTerm.mk k_3 e_4_3.fN e_4_3.fType e_4_3.fKids))))]) (by kernel_rfl) trivial (by kernel_rfl) (by kernel_rfl) ?_
      refine seqQ_norm ?_
      refine Wp.seqN (by kernel_rfl) ?_
      obtain ⟨e_6_3, hi_6_3, h⟩ := bsome h
      refine Wp.reg tiok mix hc (by kernel_rfl) (ah := none) (rs := [some (.no), some (.no), some (.no), some (.no), some (.no), some (.eqv (.el (.agg [.int .i64 e_6_3.fOp, .int .i64 e_6_3.fN, .osl (List.map I e_6_3.fType), .osl (List.map GTerm_O e_6_3.fKids)])) ⟨[], [(1000, some (.arr (List.map GTerm_O (List.set (List.set a_2 (Int.toNat i_4) (GTerm.mk k_3 e_4_3.fN e_4_3.fType e_4_3.fKids)) (Int.toNat i_4) (GTerm.mk e_6_3.fOp (wr (k_3 + 1)) e_6_3.fType e_6_3.fKids)))))], []⟩)]) (kt := [0, 1, 5]) (ko := [1000]) (T' := [(0, .rs 1000), (1, .int .i64 (wr (k_3 + 1))), (5, .int .i64 i_4)]) (O' := [(1000, .arr (List.map GTerm_O (List.set (List.set a_2 (Int.toNat i_4) (GTerm.mk k_3 e_4_3.fN e_4_3.fType e_4_3.fKids)) (Int.toNat i_4) (GTerm.mk e_6_3.fOp (wr (k_3 + 1)) e_6_3.fType e_6_3.fKids))))]) (by kernel_rfl) (And.intro (idx_own (enc := GTerm_O) hi_6_3) (And.intro (congrArg (fun z => (⟨[], [(1000, some (.arr z))], []⟩ : Wr)) (set_row (enc := GTerm_O) (i := Int.toNat i_4) (l := (List.set a_2 (Int.toNat i_4) (GTerm.mk k_3 e_4_3.fN e_4_3.fType e_4_3.fKids))) (v := (GTerm.mk e_6_3.fOp (wr (k_3 + 1)) e_6_3.fType e_6_3.fKids)) (x := AV.agg [.int .i64 e_6_3.fOp, .int .i64 (wr (k_3 + 1)), .osl (List.map I e_6_3.fType), .osl (List.map GTerm_O e_6_3.fKids)]) (eq_GTerm_O (GTerm.mk e_6_3.fOp (wr (k_3 + 1)) e_6_3.fType e_6_3.fKids)))) (And.intro (idx_sl (enc := GTerm_O) (x := .agg [.int .i64 e_6_3.fOp, .int .i64 e_6_3.fN, .osl (List.map I e_6_3.fType), .osl (List.map GTerm_O e_6_3.fKids)]) hi_6_3 (eq_GTerm_O e_6_3)).2 trivial))) (by kernel_rfl) (by kernel_rfl) ?_
      refine seqQ_norm ?_
      refine Wp.seqN (by kernel_rfl) ?_
      refine Wp.reg tiok mix hc (by kernel_rfl) (ah := none) (rs := [some (.no), some (.no), some (.no)]) (kt := [0, 1, 5]) (ko := [1000]) (T' := [(0, .rs 1000), (1, .int .i64 (wr ((wr (k_3 + 1)) + 1))), (5, .int .i64 i_4)]) (O' := [(1000, .arr (List.map GTerm_O (List.set (List.set a_2 (Int.toNat i_4) (GTerm.mk k_3 e_4_3.fN e_4_3.fType e_4_3.fKids)) (Int.toNat i_4) (GTerm.mk e_6_3.fOp (wr (k_3 + 1)) e_6_3.fType e_6_3.fKids))))]) (by kernel_rfl) trivial (by kernel_rfl) (by kernel_rfl) ?_
      refine seqQ_norm ?_
      refine Wp.seqN (by kernel_rfl) ?_
      obtain ⟨e_8_x, hx_8_x, h⟩ := bsome h
      refine Wp.view (fun a w hv => SRx.openL 1000 (Int.toNat i_4) 2 3 [3, 1000] (xs := List.map GTerm_O (List.set (List.set a_2 (Int.toNat i_4) (GTerm.mk k_3 e_4_3.fN e_4_3.fType e_4_3.fKids)) (Int.toNat i_4) (GTerm.mk e_6_3.fOp (wr (k_3 + 1)) e_6_3.fType e_6_3.fKids))) (ys := List.map I e_8_x.fType) (x0 := .agg [.int .i64 e_8_x.fOp, .int .i64 e_8_x.fN, .osl (List.map I e_8_x.fType), .osl (List.map GTerm_O e_8_x.fKids)]) hv (by kernel_rfl) (idx_sl (enc := GTerm_O) (x := .agg [.int .i64 e_8_x.fOp, .int .i64 e_8_x.fN, .osl (List.map I e_8_x.fType), .osl (List.map GTerm_O e_8_x.fKids)]) hx_8_x (eq_GTerm_O e_8_x)).2 (by kernel_rfl) (by kernel_rfl) (by kernel_rfl)) (?_ : Wp Try.prog c _ _ (mkS [(0, .rs 1000), (1, .int .i64 (wr ((wr (k_3 + 1)) + 1))), (5, .int .i64 i_4)] [(3, .arr (List.map I e_8_x.fType)), (1000, .arx (List.map GTerm_O (List.set (List.set a_2 (Int.toNat i_4) (GTerm.mk k_3 e_4_3.fN e_4_3.fType e_4_3.fKids)) (Int.toNat i_4) (GTerm.mk e_6_3.fOp (wr (k_3 + 1)) e_6_3.fType e_6_3.fKids))) (Int.toNat i_4) 2 3)]))
      obtain ⟨⟨r_8_6, o_8_6_0⟩, hr_8_6, h⟩ := bsome h
      refine Wp.reg tiok mix hc (by kernel_rfl) (ah := none) (rs := [some (.no), some (.no), some (.no), some (.no), some (.el (.agg [.int .i64 e_8_x.fOp, .int .i64 e_8_x.fN, .osl (List.map I e_8_x.fType), .osl (List.map GTerm_O e_8_x.fKids)])), some (.no), some (.call (.int .i64 r_8_6) [.osl (List.map I o_8_6_0), .undef] 1), some (.no)]) (kt := [0, 1, 5]) (ko := [3, 1000]) (T' := [(0, .rs 1000), (1, .int .i64 r_8_6), (5, .int .i64 i_4)]) (O' := [(3, .arr (List.map I o_8_6_0)), (1000, .arx (List.map GTerm_O (List.set (List.set a_2 (Int.toNat i_4) (GTerm.mk k_3 e_4_3.fN e_4_3.fType e_4_3.fKids)) (Int.toNat i_4) (GTerm.mk e_6_3.fOp (wr (k_3 + 1)) e_6_3.fType e_6_3.fKids))) (Int.toNat i_4) 2 3)]) (by kernel_rfl) (And.intro (idx_own (enc := GTerm_O) hx_8_x) (And.intro (And.intro (idx_sl (enc := GTerm_O) (x := .agg [.int .i64 e_8_x.fOp, .int .i64 e_8_x.fN, .osl (List.map I e_8_x.fType), .osl (List.map GTerm_O e_8_x.fKids)]) hx_8_x (eq_GTerm_O e_8_x)).2 (rfl : Int.toNat i_4 = Int.toNat i_4)) (And.intro (laws_markIntS_s _ _ hr_8_6) (And.intro bod_20 trivial)))) (by kernel_rfl) (by kernel_rfl) ?_
      refine seqQ_norm ?_
      refine Wp.view (fun a w hv => SRx.closeL 1000 (Int.toNat i_4) 2 3 [1000] (xs := List.map GTerm_O (List.set (List.set a_2 (Int.toNat i_4) (GTerm.mk k_3 e_4_3.fN e_4_3.fType e_4_3.fKids)) (Int.toNat i_4) (GTerm.mk e_6_3.fOp (wr (k_3 + 1)) e_6_3.fType e_6_3.fKids))) (ys := List.map I o_8_6_0) (x0 := .agg [.int .i64 e_8_x.fOp, .int .i64 e_8_x.fN, .osl (List.map I e_8_x.fType), .osl (List.map GTerm_O e_8_x.fKids)]) (x1 := AV.agg [.int .i64 e_8_x.fOp, .int .i64 e_8_x.fN, .osl (List.map I o_8_6_0), .osl (List.map GTerm_O e_8_x.fKids)]) hv (by kernel_rfl) (by kernel_rfl) (by kernel_rfl) (idx_sl (enc := GTerm_O) (x := .agg [.int .i64 e_8_x.fOp, .int .i64 e_8_x.fN, .osl (List.map I e_8_x.fType), .osl (List.map GTerm_O e_8_x.fKids)]) hx_8_x (eq_GTerm_O e_8_x)).2 (by kernel_rfl) (by kernel_rfl : _ = AV.agg [.int .i64 e_8_x.fOp, .int .i64 e_8_x.fN, .osl (List.map I o_8_6_0), .osl (List.map GTerm_O e_8_x.fKids)]) (set_row (enc := GTerm_O) (i := Int.toNat i_4) (l := (List.set (List.set a_2 (Int.toNat i_4) (GTerm.mk k_3 e_4_3.fN e_4_3.fType e_4_3.fKids)) (Int.toNat i_4) (GTerm.mk e_6_3.fOp (wr (k_3 + 1)) e_6_3.fType e_6_3.fKids))) (v := (GTerm.mk e_8_x.fOp e_8_x.fN o_8_6_0 e_8_x.fKids)) (x := AV.agg [.int .i64 e_8_x.fOp, .int .i64 e_8_x.fN, .osl (List.map I o_8_6_0), .osl (List.map GTerm_O e_8_x.fKids)]) (eq_GTerm_O (GTerm.mk e_8_x.fOp e_8_x.fN o_8_6_0 e_8_x.fKids))) (by kernel_rfl)) (?_ : Wp Try.prog c _ _ (mkS [(0, .rs 1000), (1, .int .i64 r_8_6), (5, .int .i64 i_4)] [(1000, .arr (List.map GTerm_O (List.set (List.set (List.set a_2 (Int.toNat i_4) (GTerm.mk k_3 e_4_3.fN e_4_3.fType e_4_3.fKids)) (Int.toNat i_4) (GTerm.mk e_6_3.fOp (wr (k_3 + 1)) e_6_3.fType e_6_3.fKids)) (Int.toNat i_4) (GTerm.mk e_8_x.fOp e_8_x.fN o_8_6_0 e_8_x.fKids))))]))
      obtain ⟨e_9_x, hx_9_x, h⟩ := bsome h
      refine Wp.view (fun a w hv => SRx.openL 1000 (Int.toNat i_4) 3 4 [4, 1000] (xs := List.map GTerm_O (List.set (List.set (List.set a_2 (Int.toNat i_4) (GTerm.mk k_3 e_4_3.fN e_4_3.fType e_4_3.fKids)) (Int.toNat i_4) (GTerm.mk e_6_3.fOp (wr (k_3 + 1)) e_6_3.fType e_6_3.fKids)) (Int.toNat i_4) (GTerm.mk e_8_x.fOp e_8_x.fN o_8_6_0 e_8_x.fKids))) (ys := List.map GTerm_O e_9_x.fKids) (x0 := .agg [.int .i64 e_9_x.fOp, .int .i64 e_9_x.fN, .osl (List.map I e_9_x.fType), .osl (List.map GTerm_O e_9_x.fKids)]) hv (by kernel_rfl) (idx_sl (enc := GTerm_O) (x := .agg [.int .i64 e_9_x.fOp, .int .i64 e_9_x.fN, .osl (List.map I e_9_x.fType), .osl (List.map GTerm_O e_9_x.fKids)]) hx_9_x (eq_GTerm_O e_9_x)).2 (by kernel_rfl) (by kernel_rfl) (by kernel_rfl)) (?_ : Wp Try.prog c _ _ (mkS [(0, .rs 1000), (1, .int .i64 r_8_6), (5, .int .i64 i_4)] [(4, .arr (List.map GTerm_O e_9_x.fKids)), (1000, .arx (List.map GTerm_O (List.set (List.set (List.set a_2 (Int.toNat i_4) (GTerm.mk k_3 e_4_3.fN e_4_3.fType e_4_3.fKids)) (Int.toNat i_4) (GTerm.mk e_6_3.fOp (wr (k_3 + 1)) e_6_3.fType e_6_3.fKids)) (Int.toNat i_4) (GTerm.mk e_8_x.fOp e_8_x.fN o_8_6_0 e_8_x.fKids))) (Int.toNat i_4) 3 4)]))
      obtain ⟨⟨r_9_6, o_9_6_0⟩, hr_9_6, h⟩ := bsome h
      refine Wp.reg tiok mix hc (by kernel_rfl) (ah := none) (rs := [some (.no), some (.no), some (.no), some (.no), some (.el (.agg [.int .i64 e_9_x.fOp, .int .i64 e_9_x.fN, .osl (List.map I e_9_x.fType), .osl (List.map GTerm_O e_9_x.fKids)])), some (.no), some (.call (.int .i64 r_9_6) [.osl (List.map GTerm_O o_9_6_0), .undef] 1), some (.no)]) (kt := [0, 1, 5]) (ko := [4, 1000]) (T' := [(0, .rs 1000), (1, .int .i64 r_9_6), (5, .int .i64 i_4)]) (O' := [(4, .arr (List.map GTerm_O o_9_6_0)), (1000, .arx (List.map GTerm_O (List.set (List.set (List.set a_2 (Int.toNat i_4) (GTerm.mk k_3 e_4_3.fN e_4_3.fType e_4_3.fKids)) (Int.toNat i_4) (GTerm.mk e_6_3.fOp (wr (k_3 + 1)) e_6_3.fType e_6_3.fKids)) (Int.toNat i_4) (GTerm.mk e_8_x.fOp e_8_x.fN o_8_6_0 e_8_x.fKids))) (Int.toNat i_4) 3 4)]) (by kernel_rfl) (And.intro (idx_own (enc := GTerm_O) hx_9_x) (And.intro (And.intro (idx_sl (enc := GTerm_O) (x := .agg [.int .i64 e_9_x.fOp, .int .i64 e_9_x.fN, .osl (List.map I e_9_x.fType), .osl (List.map GTerm_O e_9_x.fKids)]) hx_9_x (eq_GTerm_O e_9_x)).2 (rfl : Int.toNat i_4 = Int.toNat i_4)) (And.intro (laws_markTermS_ih _ _ hr_9_6) (And.intro bod_52 trivial)))) (by kernel_rfl) (by kernel_rfl) ?_
      refine blockQ_norm ?_
      refine seqQ_norm ?_
      refine Wp.view (fun a w hv => SRx.closeL 1000 (Int.toNat i_4) 3 4 [1000] (xs := List.map GTerm_O (List.set (List.set (List.set a_2 (Int.toNat i_4) (GTerm.mk k_3 e_4_3.fN e_4_3.fType e_4_3.fKids)) (Int.toNat i_4) (GTerm.mk e_6_3.fOp (wr (k_3 + 1)) e_6_3.fType e_6_3.fKids)) (Int.toNat i_4) (GTerm.mk e_8_x.fOp e_8_x.fN o_8_6_0 e_8_x.fKids))) (ys := List.map GTerm_O o_9_6_0) (x0 := .agg [.int .i64 e_9_x.fOp, .int .i64 e_9_x.fN, .osl (List.map I e_9_x.fType), .osl (List.map GTerm_O e_9_x.fKids)]) (x1 := AV.agg [.int .i64 e_9_x.fOp, .int .i64 e_9_x.fN, .osl (List.map I e_9_x.fType), .osl (List.map GTerm_O o_9_6_0)]) hv (by kernel_rfl) (by kernel_rfl) (by kernel_rfl) (idx_sl (enc := GTerm_O) (x := .agg [.int .i64 e_9_x.fOp, .int .i64 e_9_x.fN, .osl (List.map I e_9_x.fType), .osl (List.map GTerm_O e_9_x.fKids)]) hx_9_x (eq_GTerm_O e_9_x)).2 (by kernel_rfl) (by kernel_rfl : _ = AV.agg [.int .i64 e_9_x.fOp, .int .i64 e_9_x.fN, .osl (List.map I e_9_x.fType), .osl (List.map GTerm_O o_9_6_0)]) (set_row (enc := GTerm_O) (i := Int.toNat i_4) (l := (List.set (List.set (List.set a_2 (Int.toNat i_4) (GTerm.mk k_3 e_4_3.fN e_4_3.fType e_4_3.fKids)) (Int.toNat i_4) (GTerm.mk e_6_3.fOp (wr (k_3 + 1)) e_6_3.fType e_6_3.fKids)) (Int.toNat i_4) (GTerm.mk e_8_x.fOp e_8_x.fN o_8_6_0 e_8_x.fKids))) (v := (GTerm.mk e_9_x.fOp e_9_x.fN e_9_x.fType o_9_6_0)) (x := AV.agg [.int .i64 e_9_x.fOp, .int .i64 e_9_x.fN, .osl (List.map I e_9_x.fType), .osl (List.map GTerm_O o_9_6_0)]) (eq_GTerm_O (GTerm.mk e_9_x.fOp e_9_x.fN e_9_x.fType o_9_6_0))) (by kernel_rfl)) (?_ : Wp Try.prog c _ _ (mkS [(0, .rs 1000), (1, .int .i64 r_9_6), (5, .int .i64 i_4)] [(1000, .arr (List.map GTerm_O (List.set (List.set (List.set (List.set a_2 (Int.toNat i_4) (GTerm.mk k_3 e_4_3.fN e_4_3.fType e_4_3.fKids)) (Int.toNat i_4) (GTerm.mk e_6_3.fOp (wr (k_3 + 1)) e_6_3.fType e_6_3.fKids)) (Int.toNat i_4) (GTerm.mk e_8_x.fOp e_8_x.fN o_8_6_0 e_8_x.fKids)) (Int.toNat i_4) (GTerm.mk e_9_x.fOp e_9_x.fN e_9_x.fType o_9_6_0))))]))
      refine Wp.reg tiok mix hc (by kernel_rfl) (ah := none) (rs := [some (.no), some (.no), some (.no)]) (kt := [0, 1, 5]) (ko := [1000]) (T' := [(0, .rs 1000), (1, .int .i64 r_9_6), (5, .int .i64 (wr (i_4 + 1)))]) (O' := [(1000, .arr (List.map GTerm_O (List.set (List.set (List.set (List.set a_2 (Int.toNat i_4) (GTerm.mk k_3 e_4_3.fN e_4_3.fType e_4_3.fKids)) (Int.toNat i_4) (GTerm.mk e_6_3.fOp (wr (k_3 + 1)) e_6_3.fType e_6_3.fKids)) (Int.toNat i_4) (GTerm.mk e_8_x.fOp e_8_x.fN o_8_6_0 e_8_x.fKids)) (Int.toNat i_4) (GTerm.mk e_9_x.fOp e_9_x.fN e_9_x.fType o_9_6_0))))]) (by kernel_rfl) trivial (by kernel_rfl) (by kernel_rfl) ?_
      refine loopQ_norm ?_
      exact (laws_markTermS_l0_ih _ _ h c hc)
    · refine Wp.condF (b := (decide (i_4 < (a_2.length : Int)))) (by kernel_rfl) (by kernel_rfl) hb_5 ?_
      refine Wp.exitN (i := 0) (by kernel_rfl) ?_
      refine seqQ_exit ?_
      refine loopQ_exit ?_
      obtain ⟨rfl, rfl⟩ := Prod.mk.inj (Option.some.inj h)
      exact Into.view (fun a w hv => SRx.renL [] hv (by kernel_rfl) (by kernel_rfl) (by kernel_rfl))
theorem laws_markTermS_s : ∀ p r, laws_markTermS p = some r → M_laws_markTermS p r := laws_markTermS_all.1
theorem laws_markTermS_l0_s : ∀ p r, laws_markTermS_l0 p = some r → M_laws_markTermS_l0 p r := laws_markTermS_all.2
def laws_markTerm (p : GTerm × Int) : Option (Int × GTerm) :=
  match p with
  | (a0, k1) =>
    (laws_markIntS (a0.fType, k1)) >>= fun (r_1_3, o_1_3_0) =>
    (laws_markTermS (a0.fKids, r_1_3)) >>= fun (r_2_3, o_2_3_0) =>
    some (r_2_3, (GTerm.mk a0.fOp a0.fN o_1_3_0 o_2_3_0))
def M_laws_markTerm (p : GTerm × Int) (r : Int × GTerm) : Prop :=
  match p with
  | (a0, k1) => FnSound Try.prog 21 [.agg [.int .i64 a0.fOp, .int .i64 a0.fN, .osl (List.map I a0.fType), .osl (List.map GTerm_O a0.fKids)], .int .i64 k1] (.int .i64 r.1) [.agg [.undef, .undef, .osl (List.map I r.2.fType), .osl (List.map GTerm_O r.2.fKids)], .undef]
theorem laws_markTerm_s : ∀ p r, laws_markTerm p = some r → M_laws_markTerm p r := by
  rintro ⟨a0, k1⟩ r h
  unfold laws_markTerm at h
  show FnSound Try.prog 21 [.agg [.int .i64 a0.fOp, .int .i64 a0.fN, .osl (List.map I a0.fType), .osl (List.map GTerm_O a0.fKids)], .int .i64 k1] (.int .i64 r.1) [.agg [.undef, .undef, .osl (List.map I r.2.fType), .osl (List.map GTerm_O r.2.fKids)], .undef]
  refine FnSound.bodyO tiok (fn := Try.f21) (code := B21) (by kernel_rfl) (by kernel_rfl) (by kernel_rfl) (nt := 14) (by kernel_rfl) (by kernel_rfl) (T := [(0, .agg [.int .i64 a0.fOp, .int .i64 a0.fN, .rs 1000, .rs 1001]), (1, .int .i64 k1)]) (O := [(1000, .arr (List.map I a0.fType)), (1001, .arr (List.map GTerm_O a0.fKids))]) (by kernel_rfl) (by kernel_rfl) (fun c hc => ?_)
  refine Wp.seqN (by kernel_rfl) ?_
  refine Wp.reg tiok mix hc (by kernel_rfl) (ah := none) (rs := [some (.new 1), some (.no)]) (kt := [1, 2]) (ko := [1, 1000, 1001]) (T' := [(1, .int .i64 k1), (2, .ra 1 0)]) (O' := [(1, .box [.int .i64 a0.fOp, .int .i64 a0.fN, .rs 1000, .rs 1001]), (1000, .arr (List.map I a0.fType)), (1001, .arr (List.map GTerm_O a0.fKids))]) (by kernel_rfl) trivial (by kernel_rfl) (by kernel_rfl) ?_
  refine seqQ_norm ?_
  refine Wp.seqN (by kernel_rfl) ?_
  obtain ⟨⟨r_1_3, o_1_3_0⟩, hr_1_3, h⟩ := bsome h
  refine Wp.reg tiok mix hc (by kernel_rfl) (ah := none) (rs := [some (.no), some (.no), some (.no), some (.call (.int .i64 r_1_3) [.osl (List.map I o_1_3_0), .undef] 1), some (.no)]) (kt := [1, 2]) (ko := [1, 1000, 1001]) (T' := [(1, .int .i64 r_1_3), (2, .ra 1 0)]) (O' := [(1, .box [.int .i64 a0.fOp, .int .i64 a0.fN, .rs 1000, .rs 1001]), (1000, .arr (List.map I o_1_3_0)), (1001, .arr (List.map GTerm_O a0.fKids))]) (by kernel_rfl) (And.intro (laws_markIntS_s _ _ hr_1_3) (And.intro bod_20 trivial)) (by kernel_rfl) (by kernel_rfl) ?_
  refine seqQ_norm ?_
  refine Wp.seqN (by kernel_rfl) ?_
  obtain ⟨⟨r_2_3, o_2_3_0⟩, hr_2_3, h⟩ := bsome h
  refine Wp.reg tiok mix hc (by kernel_rfl) (ah := none) (rs := [some (.no), some (.no), some (.no), some (.call (.int .i64 r_2_3) [.osl (List.map GTerm_O o_2_3_0), .undef] 1), some (.no)]) (kt := [1]) (ko := [1000, 1001]) (T' := [(1, .int .i64 r_2_3)]) (O' := [(1000, .arr (List.map I o_1_3_0)), (1001, .arr (List.map GTerm_O o_2_3_0))]) (by kernel_rfl) (And.intro (laws_markTermS_s _ _ hr_2_3) (And.intro bod_52 trivial)) (by kernel_rfl) (by kernel_rfl) ?_
  refine seqQ_norm ?_
  refine Wp.seqN (by kernel_rfl) ?_
  refine Wp.reg tiok mix hc (by kernel_rfl) (ah := none) (rs := [some (.no), some (.no)]) (kt := [4]) (ko := [1000, 1001]) (T' := [(4, .int .i64 r_2_3)]) (O' := [(1000, .arr (List.map I o_1_3_0)), (1001, .arr (List.map GTerm_O o_2_3_0))]) (by kernel_rfl) trivial (by kernel_rfl) (by kernel_rfl) ?_
  refine seqQ_norm ?_
  refine Wp.retN (by kernel_rfl) ?_
  obtain rfl := Option.some.inj h
  exact RetOQ.ret (fl := [true]) (by kernel_rfl)
def laws_heldIntS_F1 (c : Ctx) : (Int) ⊕ (Int) → Exit → AState → Prop
  | .inl k_7 => Into c (.exit 0) (mkS [(1, .int .i64 k_7)] [])
  | .inr r => RetE TIx Try.f53 [] (.int .i64 r)
def laws_heldIntS_l0 (p : (List Int) × Int × Int) : Option ((Int) ⊕ (Int)) :=
  match p with
  | (a0, k_3, i_4) =>
    if (decide (i_4 < (a0.length : Int))) = true then
      (idx a0 i_4) >>= fun e_4_2 =>
      if (e_4_2 != k_3) = true then
        some (.inr (-1))
      else
        laws_heldIntS_l0 (a0, (wr (k_3 + 1)), (wr (i_4 + 1)))
    else
      some (.inl k_3)
  partial_fixpoint
def M_laws_heldIntS_l0 (p : (List Int) × Int × Int) (fl : (Int) ⊕ (Int)) : Prop :=
  match p with
  | (a0, k_3, i_4) => ∀ c : Ctx, c.nt = 21 → WpL Try.prog c (cl (cl (cr (cl (cr B53))))) (laws_heldIntS_F1 c fl) (mkS [(0, .sl (List.map I a0)), (1, .int .i64 k_3), (5, .int .i64 i_4)] [])
theorem laws_heldIntS_l0_s : ∀ p r, laws_heldIntS_l0 p = some r → M_laws_heldIntS_l0 p r := by
  refine laws_heldIntS_l0.partial_correctness M_laws_heldIntS_l0 ?_
  rintro laws_heldIntS_l0_f laws_heldIntS_l0_ih ⟨a0, k_3, i_4⟩ r h
  intro c hc
  show WpL Try.prog c (cl (cl (cr (cl (cr B53))))) (laws_heldIntS_F1 c r) (mkS [(0, .sl (List.map I a0)), (1, .int .i64 k_3), (5, .int .i64 i_4)] [])
  refine WpL.step ?_
  refine Wp.seqN (by kernel_rfl) ?_
  refine Wp.seqN (by kernel_rfl) ?_
  refine Wp.reg tiok mix hc (by kernel_rfl) (ah := none) (rs := [some (.no), some (.no), some (.eqv (.no) ⟨[(8, .int .i64 (a0.length : Int))], [], []⟩), some (.no)]) (kt := [0, 1, 5, 9]) (ko := []) (T' := [(0, .sl (List.map I a0)), (1, .int .i64 k_3), (5, .int .i64 i_4), (9, .bool (decide (i_4 < (a0.length : Int))))]) (O' := []) (by kernel_rfl) (And.intro (lenT (d := 8) I a0) trivial) (by kernel_rfl) (by kernel_rfl) ?_
  refine seqQ_norm ?_
  rcases itesome h with ⟨hb_5, h⟩ | ⟨hb_5, h⟩
  · refine Wp.condT (b := (decide (i_4 < (a0.length : Int)))) (by kernel_rfl) (by kernel_rfl) hb_5 ?_
    refine Wp.skipN (by kernel_rfl) ?_
    refine seqQ_norm ?_
    refine Wp.seqN (by kernel_rfl) ?_
    refine Wp.blockN (i := 1) (by kernel_rfl) ?_
    refine Wp.seqN (by kernel_rfl) ?_
    refine Wp.seqN (by kernel_rfl) ?_
    obtain ⟨e_4_2, hi_4_2, h⟩ := bsome h
    refine Wp.reg tiok mix hc (by kernel_rfl) (ah := none) (rs := [some (.no), some (.no), some (.el (.int .i64 e_4_2)), some (.no), some (.no), some (.no)]) (kt := [0, 1, 5, 17]) (ko := []) (T' := [(0, .sl (List.map I a0)), (1, .int .i64 k_3), (5, .int .i64 i_4), (17, .bool (e_4_2 != k_3))]) (O' := []) (by kernel_rfl) (And.intro (idx_sl (enc := I) (x := .int .i64 e_4_2) hi_4_2 (eq_I e_4_2)) trivial) (by kernel_rfl) (by kernel_rfl) ?_
    refine seqQ_norm ?_
    rcases itesome h with ⟨hb_6, h⟩ | ⟨hb_6, h⟩
    · refine Wp.condT (b := (e_4_2 != k_3)) (by kernel_rfl) (by kernel_rfl) hb_6 ?_
      refine Wp.seqN (by kernel_rfl) ?_
      refine Wp.reg tiok mix hc (by kernel_rfl) (ah := none) (rs := [some (.no)]) (kt := [4]) (ko := []) (T' := [(4, .int .i64 (-1))]) (O' := []) (by kernel_rfl) trivial (by kernel_rfl) (by kernel_rfl) ?_
      refine seqQ_norm ?_
      refine Wp.retN (by kernel_rfl) ?_
      refine seqQ_ret ?_
      refine blockQ_ret ?_
      refine seqQ_ret ?_
      refine loopQ_ret ?_
      obtain rfl := Option.some.inj h
      exact RetE.ret (fl := [true]) (by kernel_rfl)
    · refine Wp.condF (b := (e_4_2 != k_3)) (by kernel_rfl) (by kernel_rfl) hb_6 ?_
      refine Wp.skipN (by kernel_rfl) ?_
      refine seqQ_norm ?_
      refine Wp.reg tiok mix hc (by kernel_rfl) (ah := none) (rs := [some (.no), some (.no), some (.no)]) (kt := [0, 1, 5]) (ko := []) (T' := [(0, .sl (List.map I a0)), (1, .int .i64 (wr (k_3 + 1))), (5, .int .i64 i_4)]) (O' := []) (by kernel_rfl) trivial (by kernel_rfl) (by kernel_rfl) ?_
      refine blockQ_norm ?_
      refine seqQ_norm ?_
      refine Wp.reg tiok mix hc (by kernel_rfl) (ah := none) (rs := [some (.no), some (.no), some (.no)]) (kt := [0, 1, 5]) (ko := []) (T' := [(0, .sl (List.map I a0)), (1, .int .i64 (wr (k_3 + 1))), (5, .int .i64 (wr (i_4 + 1)))]) (O' := []) (by kernel_rfl) trivial (by kernel_rfl) (by kernel_rfl) ?_
      refine loopQ_norm ?_
      exact (laws_heldIntS_l0_ih _ _ h c hc)
  · refine Wp.condF (b := (decide (i_4 < (a0.length : Int)))) (by kernel_rfl) (by kernel_rfl) hb_5 ?_
    refine Wp.exitN (i := 0) (by kernel_rfl) ?_
    refine seqQ_exit ?_
    refine loopQ_exit ?_
    obtain rfl := Option.some.inj h
    exact Into.view (fun a w hv => SRx.renL [] hv (by kernel_rfl) (by kernel_rfl) (by kernel_rfl))
def laws_heldIntS (p : (List Int) × Int) : Option (Int) :=
  match p with
  | (a0, k1) =>
    (laws_heldIntS_l0 (a0, k1, 0)) >>= fun fl => match fl with
    | .inl k_7 =>
      some k_7
    | .inr r =>
      some r
def M_laws_heldIntS (p : (List Int) × Int) (r : Int) : Prop :=
  match p with
  | (a0, k1) => FnSound Try.prog 53 [.sl (List.map I a0), .int .i64 k1] (.int .i64 r) []
theorem laws_heldIntS_s : ∀ p r, laws_heldIntS p = some r → M_laws_heldIntS p r := by
  rintro ⟨a0, k1⟩ r h
  unfold laws_heldIntS at h
  show FnSound Try.prog 53 [.sl (List.map I a0), .int .i64 k1] (.int .i64 r) []
  refine FnSound.body0 tiok (fn := Try.f53) (code := B53) (by kernel_rfl) (by kernel_rfl) (by kernel_rfl) (by kernel_rfl) (nt := 21) (by kernel_rfl) (by kernel_rfl) (T := [(0, .sl (List.map I a0)), (1, .int .i64 k1)]) (O := []) (by kernel_rfl) (by kernel_rfl) (fun c hc => ?_)
  refine Wp.seqN (by kernel_rfl) ?_
  refine Wp.reg tiok mix hc (by kernel_rfl) (ah := none) (rs := [some (.no)]) (kt := [0, 1]) (ko := []) (T' := [(0, .sl (List.map I a0)), (1, .int .i64 k1)]) (O' := []) (by kernel_rfl) trivial (by kernel_rfl) (by kernel_rfl) ?_
  refine seqQ_norm ?_
  refine Wp.seqN (by kernel_rfl) ?_
  refine Wp.seqN (by kernel_rfl) ?_
  refine Wp.reg tiok mix hc (by kernel_rfl) (ah := none) (rs := [some (.no)]) (kt := [0, 1, 5]) (ko := []) (T' := [(0, .sl (List.map I a0)), (1, .int .i64 k1), (5, .int .i64 0)]) (O' := []) (by kernel_rfl) trivial (by kernel_rfl) (by kernel_rfl) ?_
  refine seqQ_norm ?_
  refine Wp.blockN (i := 0) (by kernel_rfl) ?_
  obtain ⟨fl, hl_8, h⟩ := bsome h
  have hL := laws_heldIntS_l0_s _ _ hl_8 c hc
  refine Wp.loopN (by kernel_rfl) ?_
  rcases fl with k_7 | r
  · refine WpL.into (e := (.exit 0)) (mkS [(1, .int .i64 k_7)] []) hL ?_
    refine blockQ_hit ?_
    refine seqQ_norm ?_
    refine Wp.seqN (by kernel_rfl) ?_
    refine Wp.reg tiok mix hc (by kernel_rfl) (ah := none) (rs := [some (.no), some (.no)]) (kt := [4]) (ko := []) (T' := [(4, .int .i64 k_7)]) (O' := []) (by kernel_rfl) trivial (by kernel_rfl) (by kernel_rfl) ?_
    refine seqQ_norm ?_
    refine Wp.retN (by kernel_rfl) ?_
    obtain rfl := Option.some.inj h
    exact RetQ.ret (fl := [true]) (by kernel_rfl)
  · refine WpL.mono hL ?_
    rintro _ _ ⟨rfl, hfin⟩
    refine blockQ_ret ?_
    refine seqQ_ret ?_
    obtain rfl := Option.some.inj h
    exact ⟨.inl rfl, hfin⟩
def laws_heldTermS_F1 (c : Ctx) : (Int) ⊕ (Int) → Exit → AState → Prop
  | .inl k_13 => Into c (.exit 0) (mkS [(1, .int .i64 k_13)] [])
  | .inr r => RetE TIx Try.f54 [] (.int .i64 r)
end Go.Am
