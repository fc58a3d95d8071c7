/- Functions of the program as pure functions, and that it computes them. Printed by a program of mine (gen.py). -/
import Derived.Test.YtfakfcaegabgaaaGFOF3
set_option linter.unusedVariables false
set_option linter.unusedSimpArgs false
set_option maxRecDepth 100000
namespace Go.Am
open Go Go.Proofs
mutual
def laws_heldTermS (p : (List GTerm) × Int) : Option (Int) :=
  match p with
  | (a0, k1) =>
    (laws_heldTermS_l0 (a0, k1, 0)) >>= fun fl => match fl with
    | .inl k_13 =>
      some k_13
    | .inr r =>
      some r
  partial_fixpoint
def laws_heldTermS_l0 (p : (List GTerm) × Int × Int) : Option ((Int) ⊕ (Int)) :=
  match p with
  | (a0, k_6, i_7) =>
    if (decide (i_7 < (a0.length : Int))) = true then
      (idx a0 i_7) >>= fun e_4_2 =>
      if (e_4_2.fOp != k_6) = true then
        some (.inr (-1))
      else
        (idx a0 i_7) >>= fun e_7_2 =>
        if (e_7_2.fN != (wr (k_6 + 1))) = true then
          some (.inr (-1))
        else
          (idx a0 i_7) >>= fun e_10_2 =>
          (laws_heldIntS (e_10_2.fType, (wr ((wr (k_6 + 1)) + 1)))) >>= fun r_10_6 =>
          if (decide (r_10_6 < 0)) = true then
            some (.inr (-1))
          else
            (idx a0 i_7) >>= fun e_13_2 =>
            (laws_heldTermS (e_13_2.fKids, r_10_6)) >>= fun r_13_6 =>
            if (decide (r_13_6 < 0)) = true then
              some (.inr (-1))
            else
              laws_heldTermS_l0 (a0, r_13_6, (wr (i_7 + 1)))
    else
      some (.inl k_6)
  partial_fixpoint
end
def M_laws_heldTermS (p : (List GTerm) × Int) (r : Int) : Prop :=
  match p with
  | (a0, k1) => FnSound Try.prog 54 [.sl (List.map GTerm_S a0), .int .i64 k1] (.int .i64 r) []
def M_laws_heldTermS_l0 (p : (List GTerm) × Int × Int) (fl : (Int) ⊕ (Int)) : Prop :=
  match p with
  | (a0, k_6, i_7) => ∀ c : Ctx, c.nt = 49 → WpL Try.prog c (cl (cl (cr (cl (cr B54))))) (laws_heldTermS_F1 c fl) (mkS [(0, .sl (List.map GTerm_S a0)), (1, .int .i64 k_6), (5, .int .i64 i_7)] [])
theorem laws_heldTermS_all : (∀ p r, laws_heldTermS p = some r → M_laws_heldTermS p r) ∧ (∀ p r, laws_heldTermS_l0 p = some r → M_laws_heldTermS_l0 p r) := by
  refine laws_heldTermS.mutual_partial_correctness M_laws_heldTermS M_laws_heldTermS_l0 ?_ ?_
  · rintro laws_heldTermS_l0_f laws_heldTermS_l0_ih ⟨a0, k1⟩ r h
    show FnSound Try.prog 54 [.sl (List.map GTerm_S a0), .int .i64 k1] (.int .i64 r) []
    refine FnSound.body0 tiok (fn := Try.f54) (code := B54) (by kernel_rfl) (by kernel_rfl) (by kernel_rfl) (by kernel_rfl) (nt := 49) (by kernel_rfl) (by kernel_rfl) (T := [(0, .sl (List.map GTerm_S a0)), (1, .int .i64 k1)]) (O := []) (by kernel_rfl) (by kernel_rfl) (fun c hc => ?_)
    refine Wp.seqN (by kernel_rfl) ?_
    refine Wp.reg tiok mix hc (by kernel_rfl) (ah := none) (rs := [some (.no)]) (kt := [0, 1]) (ko := []) (T' := [(0, .sl (List.map GTerm_S a0)), (1, .int .i64 k1)]) (O' := []) (by kernel_rfl) trivial (by kernel_rfl) (by kernel_rfl) ?_
    refine seqQ_norm ?_
    refine Wp.seqN (by kernel_rfl) ?_
    refine Wp.seqN (by kernel_rfl) ?_
    refine Wp.reg tiok mix hc (by kernel_rfl) (ah := none) (rs := [some (.no)]) (kt := [0, 1, 5]) (ko := []) (T' := [(0, .sl (List.map GTerm_S a0)), (1, .int .i64 k1), (5, .int .i64 0)]) (O' := []) (by kernel_rfl) trivial (by kernel_rfl) (by kernel_rfl) ?_
    refine seqQ_norm ?_
    refine Wp.blockN (i := 0) (by kernel_rfl) ?_
    obtain ⟨fl, hl_14, h⟩ := bsome h
    have hL := laws_heldTermS_l0_ih _ _ hl_14 c hc
    refine Wp.loopN (by kernel_rfl) ?_
    rcases fl with k_13 | r
    · refine WpL.into (e := (.exit 0)) (mkS [(1, .int .i64 k_13)] []) hL ?_
      refine blockQ_hit ?_
      refine seqQ_norm ?_
      refine Wp.seqN (by kernel_rfl) ?_
      refine Wp.reg tiok mix hc (by kernel_rfl) (ah := none) (rs := [some (.no), some (.no)]) (kt := [4]) (ko := []) (T' := [(4, .int .i64 k_13)]) (O' := []) (by kernel_rfl) trivial (by kernel_rfl) (by kernel_rfl) ?_
      refine seqQ_norm ?_
      refine Wp.retN (by kernel_rfl) ?_
      obtain rfl := Option.some.inj h
      exact RetQ.ret (fl := [true]) (by kernel_rfl)
    · refine WpL.mono hL ?_
      rintro _ _ ⟨rfl, hfin⟩
      refine blockQ_ret ?_
      refine seqQ_ret ?_
      obtain rfl := Option.some.inj h
      exact ⟨.inl rfl, hfin⟩
  · rintro laws_heldTermS_f laws_heldTermS_l0_f laws_heldTermS_ih laws_heldTermS_l0_ih ⟨a0, k_6, i_7⟩ r h
    intro c hc
    show WpL Try.prog c (cl (cl (cr (cl (cr B54))))) (laws_heldTermS_F1 c r) (mkS [(0, .sl (List.map GTerm_S a0)), (1, .int .i64 k_6), (5, .int .i64 i_7)] [])
    refine WpL.step ?_
    refine Wp.seqN (by kernel_rfl) ?_
    refine Wp.seqN (by kernel_rfl) ?_
    refine Wp.reg tiok mix hc (by kernel_rfl) (ah := none) (rs := [some (.no), some (.no), some (.eqv (.no) ⟨[(8, .int .i64 (a0.length : Int))], [], []⟩), some (.no)]) (kt := [0, 1, 5, 9]) (ko := []) (T' := [(0, .sl (List.map GTerm_S a0)), (1, .int .i64 k_6), (5, .int .i64 i_7), (9, .bool (decide (i_7 < (a0.length : Int))))]) (O' := []) (by kernel_rfl) (And.intro (lenT (d := 8) GTerm_S a0) trivial) (by kernel_rfl) (by kernel_rfl) ?_
    refine seqQ_norm ?_
    rcases itesome h with ⟨hb_8, h⟩ | ⟨hb_8, h⟩
    · refine Wp.condT (b := (decide (i_7 < (a0.length : Int)))) (by kernel_rfl) (by kernel_rfl) hb_8 ?_
      refine Wp.skipN (by kernel_rfl) ?_
      refine seqQ_norm ?_
      refine Wp.seqN (by kernel_rfl) ?_
      refine Wp.blockN (i := 1) (by kernel_rfl) ?_
      refine Wp.seqN (by kernel_rfl) ?_
      refine Wp.seqN (by kernel_rfl) ?_
      obtain ⟨e_4_2, hi_4_2, h⟩ := bsome h
      refine Wp.reg tiok mix hc (by kernel_rfl) (ah := none) (rs := [some (.no), some (.no), some (.el (.agg [.int .i64 e_4_2.fOp, .int .i64 e_4_2.fN, .sl (List.map I e_4_2.fType), .sl (List.map GTerm_S e_4_2.fKids)])), some (.no), some (.no), some (.no), some (.no)]) (kt := [0, 1, 5, 18]) (ko := []) (T' := [(0, .sl (List.map GTerm_S a0)), (1, .int .i64 k_6), (5, .int .i64 i_7), (18, .bool (e_4_2.fOp != k_6))]) (O' := []) (by kernel_rfl) (And.intro (idx_sl (enc := GTerm_S) (x := .agg [.int .i64 e_4_2.fOp, .int .i64 e_4_2.fN, .sl (List.map I e_4_2.fType), .sl (List.map GTerm_S e_4_2.fKids)]) hi_4_2 (eq_GTerm_S e_4_2)) trivial) (by kernel_rfl) (by kernel_rfl) ?_
      refine seqQ_norm ?_
      rcases itesome h with ⟨hb_9, h⟩ | ⟨hb_9, h⟩
      · refine Wp.condT (b := (e_4_2.fOp != k_6)) (by kernel_rfl) (by kernel_rfl) hb_9 ?_
        refine Wp.seqN (by kernel_rfl) ?_
        refine Wp.reg tiok mix hc (by kernel_rfl) (ah := none) (rs := [some (.no)]) (kt := [4]) (ko := []) (T' := [(4, .int .i64 (-1))]) (O' := []) (by kernel_rfl) trivial (by kernel_rfl) (by kernel_rfl) ?_
        refine seqQ_norm ?_
        refine Wp.retN (by kernel_rfl) ?_
        refine seqQ_ret ?_
        refine blockQ_ret ?_
        refine seqQ_ret ?_
        refine loopQ_ret ?_
        obtain rfl := Option.some.inj h
        exact RetE.ret (fl := [true]) (by kernel_rfl)
      · refine Wp.condF (b := (e_4_2.fOp != k_6)) (by kernel_rfl) (by kernel_rfl) hb_9 ?_
        refine Wp.skipN (by kernel_rfl) ?_
        refine seqQ_norm ?_
        refine Wp.seqN (by kernel_rfl) ?_
        refine Wp.reg tiok mix hc (by kernel_rfl) (ah := none) (rs := [some (.no), some (.no), some (.no)]) (kt := [0, 1, 5]) (ko := []) (T' := [(0, .sl (List.map GTerm_S a0)), (1, .int .i64 (wr (k_6 + 1))), (5, .int .i64 i_7)]) (O' := []) (by kernel_rfl) trivial (by kernel_rfl) (by kernel_rfl) ?_
        refine seqQ_norm ?_
        refine Wp.seqN (by kernel_rfl) ?_
        refine Wp.seqN (by kernel_rfl) ?_
        obtain ⟨e_7_2, hi_7_2, h⟩ := bsome h
        refine Wp.reg tiok mix hc (by kernel_rfl) (ah := none) (rs := [some (.no), some (.no), some (.el (.agg [.int .i64 e_7_2.fOp, .int .i64 e_7_2.fN, .sl (List.map I e_7_2.fType), .sl (List.map GTerm_S e_7_2.fKids)])), some (.no), some (.no), some (.no), some (.no)]) (kt := [0, 1, 5, 27]) (ko := []) (T' := [(0, .sl (List.map GTerm_S a0)), (1, .int .i64 (wr (k_6 + 1))), (5, .int .i64 i_7), (27, .bool (e_7_2.fN != (wr (k_6 + 1))))]) (O' := []) (by kernel_rfl) (And.intro (idx_sl (enc := GTerm_S) (x := .agg [.int .i64 e_7_2.fOp, .int .i64 e_7_2.fN, .sl (List.map I e_7_2.fType), .sl (List.map GTerm_S e_7_2.fKids)]) hi_7_2 (eq_GTerm_S e_7_2)) trivial) (by kernel_rfl) (by kernel_rfl) ?_
        refine seqQ_norm ?_
        rcases itesome h with ⟨hb_10, h⟩ | ⟨hb_10, h⟩
        · refine Wp.condT (b := (e_7_2.fN != (wr (k_6 + 1)))) (by kernel_rfl) (by kernel_rfl) hb_10 ?_
          refine Wp.seqN (by kernel_rfl) ?_
          refine Wp.reg tiok mix hc (by kernel_rfl) (ah := none) (rs := [some (.no)]) (kt := [4]) (ko := []) (T' := [(4, .int .i64 (-1))]) (O' := []) (by kernel_rfl) trivial (by kernel_rfl) (by kernel_rfl) ?_
          refine seqQ_norm ?_
          refine Wp.retN (by kernel_rfl) ?_
          refine seqQ_ret ?_
          refine blockQ_ret ?_
          refine seqQ_ret ?_
          refine loopQ_ret ?_
          obtain rfl := Option.some.inj h
          exact RetE.ret (fl := [true]) (by kernel_rfl)
        · refine Wp.condF (b := (e_7_2.fN != (wr (k_6 + 1)))) (by kernel_rfl) (by kernel_rfl) hb_10 ?_
          refine Wp.skipN (by kernel_rfl) ?_
          refine seqQ_norm ?_
          refine Wp.seqN (by kernel_rfl) ?_
          refine Wp.reg tiok mix hc (by kernel_rfl) (ah := none) (rs := [some (.no), some (.no), some (.no)]) (kt := [0, 1, 5]) (ko := []) (T' := [(0, .sl (List.map GTerm_S a0)), (1, .int .i64 (wr ((wr (k_6 + 1)) + 1))), (5, .int .i64 i_7)]) (O' := []) (by kernel_rfl) trivial (by kernel_rfl) (by kernel_rfl) ?_
          refine seqQ_norm ?_
          refine Wp.seqN (by kernel_rfl) ?_
          obtain ⟨e_10_2, hi_10_2, h⟩ := bsome h
          obtain ⟨r_10_6, hr_10_6, h⟩ := bsome h
          refine Wp.reg tiok mix hc (by kernel_rfl) (ah := none) (rs := [some (.no), some (.no), some (.el (.agg [.int .i64 e_10_2.fOp, .int .i64 e_10_2.fN, .sl (List.map I e_10_2.fType), .sl (List.map GTerm_S e_10_2.fKids)])), some (.no), some (.no), some (.no), some (.call (.int .i64 r_10_6) [] 1), some (.no)]) (kt := [0, 1, 5]) (ko := []) (T' := [(0, .sl (List.map GTerm_S a0)), (1, .int .i64 r_10_6), (5, .int .i64 i_7)]) (O' := []) (by kernel_rfl) (And.intro (idx_sl (enc := GTerm_S) (x := .agg [.int .i64 e_10_2.fOp, .int .i64 e_10_2.fN, .sl (List.map I e_10_2.fType), .sl (List.map GTerm_S e_10_2.fKids)]) hi_10_2 (eq_GTerm_S e_10_2)) (And.intro (laws_heldIntS_s _ _ hr_10_6) (And.intro bod_53 (And.intro (Or.inl rfl : ([] : List Nat) = [] ∨ noSh (.int .i64 r_10_6) = true) trivial)))) (by kernel_rfl) (by kernel_rfl) ?_
          refine seqQ_norm ?_
          refine Wp.seqN (by kernel_rfl) ?_
          refine Wp.seqN (by kernel_rfl) ?_
          refine Wp.reg tiok mix hc (by kernel_rfl) (ah := none) (rs := [some (.no), some (.no)]) (kt := [0, 1, 5, 38]) (ko := []) (T' := [(0, .sl (List.map GTerm_S a0)), (1, .int .i64 r_10_6), (5, .int .i64 i_7), (38, .bool (decide (r_10_6 < 0)))]) (O' := []) (by kernel_rfl) trivial (by kernel_rfl) (by kernel_rfl) ?_
          refine seqQ_norm ?_
          rcases itesome h with ⟨hb_11, h⟩ | ⟨hb_11, h⟩
          · refine Wp.condT (b := (decide (r_10_6 < 0))) (by kernel_rfl) (by kernel_rfl) hb_11 ?_
            refine Wp.seqN (by kernel_rfl) ?_
            refine Wp.reg tiok mix hc (by kernel_rfl) (ah := none) (rs := [some (.no)]) (kt := [4]) (ko := []) (T' := [(4, .int .i64 (-1))]) (O' := []) (by kernel_rfl) trivial (by kernel_rfl) (by kernel_rfl) ?_
            refine seqQ_norm ?_
            refine Wp.retN (by kernel_rfl) ?_
            refine seqQ_ret ?_
            refine blockQ_ret ?_
            refine seqQ_ret ?_
            refine loopQ_ret ?_
            obtain rfl := Option.some.inj h
            exact RetE.ret (fl := [true]) (by kernel_rfl)
          · refine Wp.condF (b := (decide (r_10_6 < 0))) (by kernel_rfl) (by kernel_rfl) hb_11 ?_
            refine Wp.skipN (by kernel_rfl) ?_
            refine seqQ_norm ?_
            refine Wp.seqN (by kernel_rfl) ?_
            obtain ⟨e_13_2, hi_13_2, h⟩ := bsome h
            obtain ⟨r_13_6, hr_13_6, h⟩ := bsome h
            refine Wp.reg tiok mix hc (by kernel_rfl) (ah := none) (rs := [some (.no), some (.no), some (.el (.agg [.int .i64 e_13_2.fOp, .int .i64 e_13_2.fN, .sl (List.map I e_13_2.fType), .sl (List.map GTerm_S e_13_2.fKids)])), some (.no), some (.no), some (.no), some (.call (.int .i64 r_13_6) [] 1), some (.no)]) (kt := [0, 1, 5]) (ko := []) (T' := [(0, .sl (List.map GTerm_S a0)), (1, .int .i64 r_13_6), (5, .int .i64 i_7)]) (O' := []) (by kernel_rfl) (And.intro (idx_sl (enc := GTerm_S) (x := .agg [.int .i64 e_13_2.fOp, .int .i64 e_13_2.fN, .sl (List.map I e_13_2.fType), .sl (List.map GTerm_S e_13_2.fKids)]) hi_13_2 (eq_GTerm_S e_13_2)) (And.intro (laws_heldTermS_ih _ _ hr_13_6) (And.intro bod_54 (And.intro (Or.inl rfl : ([] : List Nat) = [] ∨ noSh (.int .i64 r_13_6) = true) trivial)))) (by kernel_rfl) (by kernel_rfl) ?_
            refine seqQ_norm ?_
            refine Wp.seqN (by kernel_rfl) ?_
            refine Wp.reg tiok mix hc (by kernel_rfl) (ah := none) (rs := [some (.no), some (.no)]) (kt := [0, 1, 5, 47]) (ko := []) (T' := [(0, .sl (List.map GTerm_S a0)), (1, .int .i64 r_13_6), (5, .int .i64 i_7), (47, .bool (decide (r_13_6 < 0)))]) (O' := []) (by kernel_rfl) trivial (by kernel_rfl) (by kernel_rfl) ?_
            refine seqQ_norm ?_
            rcases itesome h with ⟨hb_12, h⟩ | ⟨hb_12, h⟩
            · refine Wp.condT (b := (decide (r_13_6 < 0))) (by kernel_rfl) (by kernel_rfl) hb_12 ?_
              refine Wp.seqN (by kernel_rfl) ?_
              refine Wp.reg tiok mix hc (by kernel_rfl) (ah := none) (rs := [some (.no)]) (kt := [4]) (ko := []) (T' := [(4, .int .i64 (-1))]) (O' := []) (by kernel_rfl) trivial (by kernel_rfl) (by kernel_rfl) ?_
              refine seqQ_norm ?_
              refine Wp.retN (by kernel_rfl) ?_
              refine blockQ_ret ?_
              refine seqQ_ret ?_
              refine loopQ_ret ?_
              obtain rfl := Option.some.inj h
              exact RetE.ret (fl := [true]) (by kernel_rfl)
            · refine Wp.condF (b := (decide (r_13_6 < 0))) (by kernel_rfl) (by kernel_rfl) hb_12 ?_
              refine Wp.skipN (by kernel_rfl) ?_
              refine blockQ_norm ?_
              refine seqQ_norm ?_
              refine Wp.reg tiok mix hc (by kernel_rfl) (ah := none) (rs := [some (.no), some (.no), some (.no)]) (kt := [0, 1, 5]) (ko := []) (T' := [(0, .sl (List.map GTerm_S a0)), (1, .int .i64 r_13_6), (5, .int .i64 (wr (i_7 + 1)))]) (O' := []) (by kernel_rfl) trivial (by kernel_rfl) (by kernel_rfl) ?_
              refine loopQ_norm ?_
              exact (laws_heldTermS_l0_ih _ _ h c hc)
    · refine Wp.condF (b := (decide (i_7 < (a0.length : Int)))) (by kernel_rfl) (by kernel_rfl) hb_8 ?_
      refine Wp.exitN (i := 0) (by kernel_rfl) ?_
      refine seqQ_exit ?_
      refine loopQ_exit ?_
      obtain rfl := Option.some.inj h
      exact Into.view (fun a w hv => SRx.renL [] hv (by kernel_rfl) (by kernel_rfl) (by kernel_rfl))
theorem laws_heldTermS_s : ∀ p r, laws_heldTermS p = some r → M_laws_heldTermS p r := laws_heldTermS_all.1
theorem laws_heldTermS_l0_s : ∀ p r, laws_heldTermS_l0 p = some r → M_laws_heldTermS_l0 p r := laws_heldTermS_all.2
def laws_heldTerm (p : GTerm × Int) : Option (Int) :=
  match p with
  | (a0, k1) =>
    (laws_heldIntS (a0.fType, k1)) >>= fun r_1_3 =>
    if (decide (r_1_3 < 0)) = true then
      some (-1)
    else
      (laws_heldTermS (a0.fKids, r_1_3)) >>= fun r_4_3 =>
      if (decide (r_4_3 < 0)) = true then
        some (-1)
      else
        some r_4_3
def M_laws_heldTerm (p : GTerm × Int) (r : Int) : Prop :=
  match p with
  | (a0, k1) => FnSound Try.prog 22 [.agg [.int .i64 a0.fOp, .int .i64 a0.fN, .sl (List.map I a0.fType), .sl (List.map GTerm_S a0.fKids)], .int .i64 k1] (.int .i64 r) []
theorem laws_heldTerm_s : ∀ p r, laws_heldTerm p = some r → M_laws_heldTerm p r := by
  rintro ⟨a0, k1⟩ r h
  unfold laws_heldTerm at h
  show FnSound Try.prog 22 [.agg [.int .i64 a0.fOp, .int .i64 a0.fN, .sl (List.map I a0.fType), .sl (List.map GTerm_S a0.fKids)], .int .i64 k1] (.int .i64 r) []
  refine FnSound.body0 tiok (fn := Try.f22) (code := B22) (by kernel_rfl) (by kernel_rfl) (by kernel_rfl) (by kernel_rfl) (nt := 18) (by kernel_rfl) (by kernel_rfl) (T := [(0, .agg [.int .i64 a0.fOp, .int .i64 a0.fN, .sl (List.map I a0.fType), .sl (List.map GTerm_S a0.fKids)]), (1, .int .i64 k1)]) (O := []) (by kernel_rfl) (by kernel_rfl) (fun c hc => ?_)
  refine Wp.seqN (by kernel_rfl) ?_
  refine Wp.reg tiok mix hc (by kernel_rfl) (ah := none) (rs := [some (.new 1), some (.no)]) (kt := [1, 2]) (ko := [1]) (T' := [(1, .int .i64 k1), (2, .ra 1 0)]) (O' := [(1, .box [.int .i64 a0.fOp, .int .i64 a0.fN, .sl (List.map I a0.fType), .sl (List.map GTerm_S a0.fKids)])]) (by kernel_rfl) trivial (by kernel_rfl) (by kernel_rfl) ?_
  refine seqQ_norm ?_
  refine Wp.seqN (by kernel_rfl) ?_
  obtain ⟨r_1_3, hr_1_3, h⟩ := bsome h
  refine Wp.reg tiok mix hc (by kernel_rfl) (ah := none) (rs := [some (.no), some (.no), some (.no), some (.call (.int .i64 r_1_3) [] 1), some (.no)]) (kt := [1, 2]) (ko := [1]) (T' := [(1, .int .i64 r_1_3), (2, .ra 1 0)]) (O' := [(1, .box [.int .i64 a0.fOp, .int .i64 a0.fN, .sl (List.map I a0.fType), .sl (List.map GTerm_S a0.fKids)])]) (by kernel_rfl) (And.intro (laws_heldIntS_s _ _ hr_1_3) (And.intro bod_53 (And.intro (Or.inl rfl : ([] : List Nat) = [] ∨ noSh (.int .i64 r_1_3) = true) trivial))) (by kernel_rfl) (by kernel_rfl) ?_
  refine seqQ_norm ?_
  refine Wp.seqN (by kernel_rfl) ?_
  refine Wp.seqN (by kernel_rfl) ?_
  refine Wp.reg tiok mix hc (by kernel_rfl) (ah := none) (rs := [some (.no), some (.no)]) (kt := [1, 2, 10]) (ko := [1]) (T' := [(1, .int .i64 r_1_3), (2, .ra 1 0), (10, .bool (decide (r_1_3 < 0)))]) (O' := [(1, .box [.int .i64 a0.fOp, .int .i64 a0.fN, .sl (List.map I a0.fType), .sl (List.map GTerm_S a0.fKids)])]) (by kernel_rfl) trivial (by kernel_rfl) (by kernel_rfl) ?_
  refine seqQ_norm ?_
  rcases itesome h with ⟨hb_1, h⟩ | ⟨hb_1, h⟩
  · refine Wp.condT (b := (decide (r_1_3 < 0))) (by kernel_rfl) (by kernel_rfl) hb_1 ?_
    refine Wp.seqN (by kernel_rfl) ?_
    refine Wp.reg tiok mix hc (by kernel_rfl) (ah := none) (rs := [some (.no)]) (kt := [4]) (ko := []) (T' := [(4, .int .i64 (-1))]) (O' := []) (by kernel_rfl) trivial (by kernel_rfl) (by kernel_rfl) ?_
    refine seqQ_norm ?_
    refine Wp.retN (by kernel_rfl) ?_
    refine seqQ_ret ?_
    obtain rfl := Option.some.inj h
    exact RetQ.ret (fl := [true]) (by kernel_rfl)
  · refine Wp.condF (b := (decide (r_1_3 < 0))) (by kernel_rfl) (by kernel_rfl) hb_1 ?_
    refine Wp.skipN (by kernel_rfl) ?_
    refine seqQ_norm ?_
    refine Wp.seqN (by kernel_rfl) ?_
    obtain ⟨r_4_3, hr_4_3, h⟩ := bsome h
    refine Wp.reg tiok mix hc (by kernel_rfl) (ah := none) (rs := [some (.no), some (.no), some (.no), some (.call (.int .i64 r_4_3) [] 1), some (.no)]) (kt := [1]) (ko := []) (T' := [(1, .int .i64 r_4_3)]) (O' := []) (by kernel_rfl) (And.intro (laws_heldTermS_s _ _ hr_4_3) (And.intro bod_54 (And.intro (Or.inl rfl : ([] : List Nat) = [] ∨ noSh (.int .i64 r_4_3) = true) trivial))) (by kernel_rfl) (by kernel_rfl) ?_
    refine seqQ_norm ?_
    refine Wp.seqN (by kernel_rfl) ?_
    refine Wp.seqN (by kernel_rfl) ?_
    refine Wp.reg tiok mix hc (by kernel_rfl) (ah := none) (rs := [some (.no), some (.no)]) (kt := [1, 16]) (ko := []) (T' := [(1, .int .i64 r_4_3), (16, .bool (decide (r_4_3 < 0)))]) (O' := []) (by kernel_rfl) trivial (by kernel_rfl) (by kernel_rfl) ?_
    refine seqQ_norm ?_
    rcases itesome h with ⟨hb_2, h⟩ | ⟨hb_2, h⟩
    · refine Wp.condT (b := (decide (r_4_3 < 0))) (by kernel_rfl) (by kernel_rfl) hb_2 ?_
      refine Wp.seqN (by kernel_rfl) ?_
      refine Wp.reg tiok mix hc (by kernel_rfl) (ah := none) (rs := [some (.no)]) (kt := [4]) (ko := []) (T' := [(4, .int .i64 (-1))]) (O' := []) (by kernel_rfl) trivial (by kernel_rfl) (by kernel_rfl) ?_
      refine seqQ_norm ?_
      refine Wp.retN (by kernel_rfl) ?_
      refine seqQ_ret ?_
      obtain rfl := Option.some.inj h
      exact RetQ.ret (fl := [true]) (by kernel_rfl)
    · refine Wp.condF (b := (decide (r_4_3 < 0))) (by kernel_rfl) (by kernel_rfl) hb_2 ?_
      refine Wp.skipN (by kernel_rfl) ?_
      refine seqQ_norm ?_
      refine Wp.seqN (by kernel_rfl) ?_
      refine Wp.reg tiok mix hc (by kernel_rfl) (ah := none) (rs := [some (.no), some (.no)]) (kt := [4]) (ko := []) (T' := [(4, .int .i64 r_4_3)]) (O' := []) (by kernel_rfl) trivial (by kernel_rfl) (by kernel_rfl) ?_
      refine seqQ_norm ?_
      refine Wp.retN (by kernel_rfl) ?_
      obtain rfl := Option.some.inj h
      exact RetQ.ret (fl := [true]) (by kernel_rfl)
def laws_FnExactFillOpen (p : GTerm × (List Int)) : Option (Bool) :=
  match p with
  | (aT0, aL1) =>
    if (decide ((aL1.length : Int) > 1048576)) = true then
      some true
    else
      (laws_szTerm (aT0, 1048576)) >>= fun r_4_2 =>
      if (decide (r_4_2 < 0)) = true then
        some true
      else
        (laws_toTerm aT0) >>= fun r_7_1 =>
        (laws_toIntS aL1) >>= fun r_7_3 =>
        (spec_FillOpen (r_7_1, r_7_3)) >>= fun (r_7_4_0, r_7_4_1) =>
        (laws_toTerm aT0) >>= fun r_8_1 =>
        (laws_toIntS aL1) >>= fun r_9_1 =>
        (impl_FillOpen (r_8_1, r_9_1)) >>= fun (r_10_2_0, r_10_2_1) =>
        (
          (laws_eqTerm (r_10_2_0, r_7_4_0)) >>= fun r_11_2 =>
          if r_11_2 = true then
            some ((!(r_10_2_1 == r_7_4_1)))
          else
            some (true)
        ) >>= fun v_3 =>
        if v_3 = true then
          some false
        else
          (laws_toTerm aT0) >>= fun r_13_2 =>
          (laws_eqTerm (r_8_1, r_13_2)) >>= fun r_13_3 =>
          if r_13_3 = true then
            (laws_toIntS aL1) >>= fun r_15_2 =>
            (laws_eqIntS (r_9_1, r_15_2)) >>= fun r_15_3 =>
            if r_15_3 = true then
              (laws_markTerm (r_8_1, 1)) >>= fun (r_18_2, o_18_2_0) =>
              (laws_markIntS (r_9_1, r_18_2)) >>= fun (r_19_2, o_19_2_0) =>
              (
                if (decide (r_19_2 < 0)) = true then
                  some (true)
                else
                  (laws_eqTerm (r_10_2_0, r_7_4_0)) >>= fun r_20_5 =>
                  if r_20_5 = true then
                    some ((!(r_10_2_1 == r_7_4_1)))
                  else
                    some (true)
              ) >>= fun v_8 =>
              if v_8 = true then
                some false
              else
                (laws_markTerm (r_10_2_0, 1)) >>= fun (r_23_2, o_23_2_0) =>
                (laws_heldTerm ((GTerm.mk r_10_2_0.fOp r_10_2_0.fN o_23_2_0.fType o_23_2_0.fKids), 1)) >>= fun r_25_2 =>
                if (decide (r_25_2 < 0)) = true then
                  some false
                else
                  if (r_25_2 != r_23_2) = true then
                    some false
                  else
                    (laws_toTerm aT0) >>= fun r_30_1 =>
                    (laws_toIntS aL1) >>= fun r_30_3 =>
                    (impl_FillOpen (r_30_1, r_30_3)) >>= fun (r_30_4_0, r_30_4_1) =>
                    (
                      (laws_eqTerm (r_30_4_0, r_7_4_0)) >>= fun r_31_2 =>
                      if r_31_2 = true then
                        some ((!(r_30_4_1 == r_7_4_1)))
                      else
                        some (true)
                    ) >>= fun v_13 =>
                    if v_13 = true then
                      some false
                    else
                      (laws_heldTerm ((GTerm.mk r_10_2_0.fOp r_10_2_0.fN o_23_2_0.fType o_23_2_0.fKids), 1)) >>= fun r_34_2 =>
                      if (decide (r_34_2 < 0)) = true then
                        some false
                      else
                        if (r_34_2 != r_23_2) = true then
                          some false
                        else
                          some true
            else
              some false
          else
            some false
def M_laws_FnExactFillOpen (p : GTerm × (List Int)) (r : Bool) : Prop :=
  match p with
  | (aT0, aL1) => FnSound Try.prog 4 [.agg [.int .i64 aT0.fOp, .int .i64 aT0.fN, .sl (List.map I aT0.fType), .sl (List.map GTerm_S aT0.fKids)], .sl (List.map I aL1)] (.bool r) []
theorem laws_FnExactFillOpen_s : ∀ p r, laws_FnExactFillOpen p = some r → M_laws_FnExactFillOpen p r := by
  rintro ⟨aT0, aL1⟩ r h
  unfold laws_FnExactFillOpen at h
  show FnSound Try.prog 4 [.agg [.int .i64 aT0.fOp, .int .i64 aT0.fN, .sl (List.map I aT0.fType), .sl (List.map GTerm_S aT0.fKids)], .sl (List.map I aL1)] (.bool r) []
  refine FnSound.body0 tiok (fn := Try.f4) (code := B4) (by kernel_rfl) (by kernel_rfl) (by kernel_rfl) (by kernel_rfl) (nt := 117) (by kernel_rfl) (by kernel_rfl) (T := [(0, .agg [.int .i64 aT0.fOp, .int .i64 aT0.fN, .sl (List.map I aT0.fType), .sl (List.map GTerm_S aT0.fKids)]), (1, .sl (List.map I aL1))]) (O := []) (by kernel_rfl) (by kernel_rfl) (fun c hc => ?_)
  refine Wp.seqN (by kernel_rfl) ?_
  refine Wp.reg tiok mix hc (by kernel_rfl) (ah := none) (rs := [some (.new 1), some (.no)]) (kt := [1, 2]) (ko := [1]) (T' := [(1, .sl (List.map I aL1)), (2, .ra 1 0)]) (O' := [(1, .box [.int .i64 aT0.fOp, .int .i64 aT0.fN, .sl (List.map I aT0.fType), .sl (List.map GTerm_S aT0.fKids)])]) (by kernel_rfl) trivial (by kernel_rfl) (by kernel_rfl) ?_
  refine seqQ_norm ?_
  refine Wp.seqN (by kernel_rfl) ?_
  refine Wp.seqN (by kernel_rfl) ?_
  refine Wp.reg tiok mix hc (by kernel_rfl) (ah := none) (rs := [some (.no), some (.eqv (.no) ⟨[(18, .int .i64 (aL1.length : Int))], [], []⟩), some (.no)]) (kt := [1, 2, 19]) (ko := [1]) (T' := [(1, .sl (List.map I aL1)), (2, .ra 1 0), (19, .bool (decide ((aL1.length : Int) > 1048576)))]) (O' := [(1, .box [.int .i64 aT0.fOp, .int .i64 aT0.fN, .sl (List.map I aT0.fType), .sl (List.map GTerm_S aT0.fKids)])]) (by kernel_rfl) (And.intro (lenT (d := 18) I aL1) trivial) (by kernel_rfl) (by kernel_rfl) ?_
  refine seqQ_norm ?_
  rcases itesome h with ⟨hb_1, h⟩ | ⟨hb_1, h⟩
  · refine Wp.condT (b := (decide ((aL1.length : Int) > 1048576))) (by kernel_rfl) (by kernel_rfl) hb_1 ?_
    refine Wp.seqN (by kernel_rfl) ?_
    refine Wp.reg tiok mix hc (by kernel_rfl) (ah := none) (rs := [some (.no)]) (kt := [4]) (ko := []) (T' := [(4, .bool true)]) (O' := []) (by kernel_rfl) trivial (by kernel_rfl) (by kernel_rfl) ?_
    refine seqQ_norm ?_
    refine Wp.retN (by kernel_rfl) ?_
    refine seqQ_ret ?_
    obtain rfl := Option.some.inj h
    exact RetQ.ret (fl := [true]) (by kernel_rfl)
  · refine Wp.condF (b := (decide ((aL1.length : Int) > 1048576))) (by kernel_rfl) (by kernel_rfl) hb_1 ?_
    refine Wp.skipN (by kernel_rfl) ?_
    refine seqQ_norm ?_
    refine Wp.seqN (by kernel_rfl) ?_
    refine Wp.reg tiok mix hc (by kernel_rfl) (ah := none) (rs := [some (.no)]) (kt := [1, 2, 5]) (ko := [1]) (T' := [(1, .sl (List.map I aL1)), (2, .ra 1 0), (5, .int .i64 1048576)]) (O' := [(1, .box [.int .i64 aT0.fOp, .int .i64 aT0.fN, .sl (List.map I aT0.fType), .sl (List.map GTerm_S aT0.fKids)])]) (by kernel_rfl) trivial (by kernel_rfl) (by kernel_rfl) ?_
    refine seqQ_norm ?_
    refine Wp.seqN (by kernel_rfl) ?_
    obtain ⟨r_4_2, hr_4_2, h⟩ := bsome h
    refine Wp.reg tiok mix hc (by kernel_rfl) (ah := none) (rs := [some (.no), some (.no), some (.call (.int .i64 r_4_2) [] 1), some (.no)]) (kt := [1, 2, 5]) (ko := [1]) (T' := [(1, .sl (List.map I aL1)), (2, .ra 1 0), (5, .int .i64 r_4_2)]) (O' := [(1, .box [.int .i64 aT0.fOp, .int .i64 aT0.fN, .sl (List.map I aT0.fType), .sl (List.map GTerm_S aT0.fKids)])]) (by kernel_rfl) (And.intro (laws_szTerm_s _ _ hr_4_2) (And.intro bod_23 (And.intro (Or.inl rfl : ([] : List Nat) = [] ∨ noSh (.int .i64 r_4_2) = true) trivial))) (by kernel_rfl) (by kernel_rfl) ?_
    refine seqQ_norm ?_
    refine Wp.seqN (by kernel_rfl) ?_
    refine Wp.seqN (by kernel_rfl) ?_
    refine Wp.reg tiok mix hc (by kernel_rfl) (ah := none) (rs := [some (.no), some (.no)]) (kt := [1, 2, 24]) (ko := [1]) (T' := [(1, .sl (List.map I aL1)), (2, .ra 1 0), (24, .bool (decide (r_4_2 < 0)))]) (O' := [(1, .box [.int .i64 aT0.fOp, .int .i64 aT0.fN, .sl (List.map I aT0.fType), .sl (List.map GTerm_S aT0.fKids)])]) (by kernel_rfl) trivial (by kernel_rfl) (by kernel_rfl) ?_
    refine seqQ_norm ?_
    rcases itesome h with ⟨hb_2, h⟩ | ⟨hb_2, h⟩
    · refine Wp.condT (b := (decide (r_4_2 < 0))) (by kernel_rfl) (by kernel_rfl) hb_2 ?_
      refine Wp.seqN (by kernel_rfl) ?_
      refine Wp.reg tiok mix hc (by kernel_rfl) (ah := none) (rs := [some (.no)]) (kt := [4]) (ko := []) (T' := [(4, .bool true)]) (O' := []) (by kernel_rfl) trivial (by kernel_rfl) (by kernel_rfl) ?_
      refine seqQ_norm ?_
      refine Wp.retN (by kernel_rfl) ?_
      refine seqQ_ret ?_
      obtain rfl := Option.some.inj h
      exact RetQ.ret (fl := [true]) (by kernel_rfl)
    · refine Wp.condF (b := (decide (r_4_2 < 0))) (by kernel_rfl) (by kernel_rfl) hb_2 ?_
      refine Wp.skipN (by kernel_rfl) ?_
      refine seqQ_norm ?_
      refine Wp.seqN (by kernel_rfl) ?_
      obtain ⟨r_7_1, hr_7_1, h⟩ := bsome h
      obtain ⟨r_7_3, hr_7_3, h⟩ := bsome h
      obtain ⟨⟨r_7_4_0, r_7_4_1⟩, hr_7_4, h⟩ := bsome h
      refine Wp.reg tiok mix hc (by kernel_rfl) (ah := none) (rs := [some (.no), some (.call (.agg [.int .i64 r_7_1.fOp, .int .i64 r_7_1.fN, .osl (List.map I r_7_1.fType), .osl (List.map GTerm_O r_7_1.fKids)]) [] 2), some (.no), some (.call (.osl (List.map I r_7_3)) [] 4), some (.call (.tup [.agg [.int .i64 r_7_4_0.fOp, .int .i64 r_7_4_0.fN, .osl (List.map I r_7_4_0.fType), .osl (List.map GTerm_O r_7_4_0.fKids)], .bool r_7_4_1]) [] 5), some (.no), some (.no), some (.no), some (.new 7), some (.no), some (.no)]) (kt := [1, 2, 6, 7]) (ko := [1, 5, 6, 7]) (T' := [(1, .sl (List.map I aL1)), (2, .ra 1 0), (6, .ra 7 0), (7, .bool r_7_4_1)]) (O' := [(1, .box [.int .i64 aT0.fOp, .int .i64 aT0.fN, .sl (List.map I aT0.fType), .sl (List.map GTerm_S aT0.fKids)]), (5, .arr (List.map I r_7_4_0.fType)), (6, .arr (List.map GTerm_O r_7_4_0.fKids)), (7, .box [.int .i64 r_7_4_0.fOp, .int .i64 r_7_4_0.fN, .rs 5, .rs 6])]) (by kernel_rfl) (And.intro (laws_toTerm_s _ _ hr_7_1) (And.intro bod_25 (And.intro (Or.inl rfl : ([] : List Nat) = [] ∨ noSh (.agg [.int .i64 r_7_1.fOp, .int .i64 r_7_1.fN, .osl (List.map I r_7_1.fType), .osl (List.map GTerm_O r_7_1.fKids)]) = true) (And.intro (laws_toIntS_s _ _ hr_7_3) (And.intro bod_14 (And.intro (Or.inl rfl : ([] : List Nat) = [] ∨ noSh (.osl (List.map I r_7_3)) = true) (And.intro (FnSound.args (A1 := [.agg [.int .i64 r_7_1.fOp, .int .i64 r_7_1.fN, .sl (shares (List.map I r_7_1.fType)), .sl (shares (List.map GTerm_O r_7_1.fKids))], .sl (shares (List.map I r_7_3))]) (A2 := [.agg [.int .i64 r_7_1.fOp, .int .i64 r_7_1.fN, .sl (List.map I r_7_1.fType), .sl (List.map GTerm_S r_7_1.fKids)], .sl (List.map I r_7_3)]) (by simp only [List.map_nil, sh_GTerm_O, sh_I]) (spec_FillOpen_s _ _ hr_7_4)) (And.intro bod_24 (And.intro (Or.inr (nsh_cons (nsh_cons rfl (nsh_cons rfl (nsh_cons (nsh_row nsh_I r_7_4_0.fType) (nsh_cons (nsh_row nsh_GTerm_O r_7_4_0.fKids) rfl)))) (nsh_cons rfl rfl)) : ([2, 3, 4] : List Nat) = [] ∨ noSh (.tup [.agg [.int .i64 r_7_4_0.fOp, .int .i64 r_7_4_0.fN, .osl (List.map I r_7_4_0.fType), .osl (List.map GTerm_O r_7_4_0.fKids)], .bool r_7_4_1]) = true) trivial))))))))) (by kernel_rfl) (by kernel_rfl) ?_
      refine seqQ_norm ?_
      refine Wp.seqN (by kernel_rfl) ?_
      obtain ⟨r_8_1, hr_8_1, h⟩ := bsome h
      refine Wp.reg tiok mix hc (by kernel_rfl) (ah := none) (rs := [some (.no), some (.call (.agg [.int .i64 r_8_1.fOp, .int .i64 r_8_1.fN, .osl (List.map I r_8_1.fType), .osl (List.map GTerm_O r_8_1.fKids)]) [] 8), some (.new 10), some (.no)]) (kt := [1, 2, 6, 7, 8]) (ko := [1, 5, 6, 7, 8, 9, 10]) (T' := [(1, .sl (List.map I aL1)), (2, .ra 1 0), (6, .ra 7 0), (7, .bool r_7_4_1), (8, .ra 10 0)]) (O' := [(1, .box [.int .i64 aT0.fOp, .int .i64 aT0.fN, .sl (List.map I aT0.fType), .sl (List.map GTerm_S aT0.fKids)]), (5, .arr (List.map I r_7_4_0.fType)), (6, .arr (List.map GTerm_O r_7_4_0.fKids)), (7, .box [.int .i64 r_7_4_0.fOp, .int .i64 r_7_4_0.fN, .rs 5, .rs 6]), (8, .arr (List.map I r_8_1.fType)), (9, .arr (List.map GTerm_O r_8_1.fKids)), (10, .box [.int .i64 r_8_1.fOp, .int .i64 r_8_1.fN, .rs 8, .rs 9])]) (by kernel_rfl) (And.intro (laws_toTerm_s _ _ hr_8_1) (And.intro bod_25 (And.intro (Or.inl rfl : ([] : List Nat) = [] ∨ noSh (.agg [.int .i64 r_8_1.fOp, .int .i64 r_8_1.fN, .osl (List.map I r_8_1.fType), .osl (List.map GTerm_O r_8_1.fKids)]) = true) trivial))) (by kernel_rfl) (by kernel_rfl) ?_
      refine seqQ_norm ?_
      refine Wp.seqN (by kernel_rfl) ?_
      obtain ⟨r_9_1, hr_9_1, h⟩ := bsome h
      refine Wp.reg tiok mix hc (by kernel_rfl) (ah := none) (rs := [some (.no), some (.call (.osl (List.map I r_9_1)) [] 11), some (.no)]) (kt := [1, 2, 6, 7, 8, 9]) (ko := [1, 5, 6, 7, 8, 9, 10, 11]) (T' := [(1, .sl (List.map I aL1)), (2, .ra 1 0), (6, .ra 7 0), (7, .bool r_7_4_1), (8, .ra 10 0), (9, .rs 11)]) (O' := [(1, .box [.int .i64 aT0.fOp, .int .i64 aT0.fN, .sl (List.map I aT0.fType), .sl (List.map GTerm_S aT0.fKids)]), (5, .arr (List.map I r_7_4_0.fType)), (6, .arr (List.map GTerm_O r_7_4_0.fKids)), (7, .box [.int .i64 r_7_4_0.fOp, .int .i64 r_7_4_0.fN, .rs 5, .rs 6]), (8, .arr (List.map I r_8_1.fType)), (9, .arr (List.map GTerm_O r_8_1.fKids)), (10, .box [.int .i64 r_8_1.fOp, .int .i64 r_8_1.fN, .rs 8, .rs 9]), (11, .arr (List.map I r_9_1))]) (by kernel_rfl) (And.intro (laws_toIntS_s _ _ hr_9_1) (And.intro bod_14 (And.intro (Or.inl rfl : ([] : List Nat) = [] ∨ noSh (.osl (List.map I r_9_1)) = true) trivial))) (by kernel_rfl) (by kernel_rfl) ?_
      refine seqQ_norm ?_
      refine Wp.seqN (by kernel_rfl) ?_
      obtain ⟨⟨r_10_2_0, r_10_2_1⟩, hr_10_2, h⟩ := bsome h
      refine Wp.reg tiok mix hc (by kernel_rfl) (ah := none) (rs := [some (.no), some (.no), some (.call (.tup [.agg [.int .i64 r_10_2_0.fOp, .int .i64 r_10_2_0.fN, .osl (List.map I r_10_2_0.fType), .osl (List.map GTerm_O r_10_2_0.fKids)], .bool r_10_2_1]) [] 12), some (.no), some (.no), some (.no), some (.new 14), some (.no), some (.no)]) (kt := [1, 2, 6, 7, 8, 9, 10, 11]) (ko := [1, 5, 6, 7, 8, 9, 10, 11, 12, 13, 14]) (T' := [(1, .sl (List.map I aL1)), (2, .ra 1 0), (6, .ra 7 0), (7, .bool r_7_4_1), (8, .ra 10 0), (9, .rs 11), (10, .ra 14 0), (11, .bool r_10_2_1)]) (O' := [(1, .box [.int .i64 aT0.fOp, .int .i64 aT0.fN, .sl (List.map I aT0.fType), .sl (List.map GTerm_S aT0.fKids)]), (5, .arr (List.map I r_7_4_0.fType)), (6, .arr (List.map GTerm_O r_7_4_0.fKids)), (7, .box [.int .i64 r_7_4_0.fOp, .int .i64 r_7_4_0.fN, .rs 5, .rs 6]), (8, .arr (List.map I r_8_1.fType)), (9, .arr (List.map GTerm_O r_8_1.fKids)), (10, .box [.int .i64 r_8_1.fOp, .int .i64 r_8_1.fN, .rs 8, .rs 9]), (11, .arr (List.map I r_9_1)), (12, .arr (List.map I r_10_2_0.fType)), (13, .arr (List.map GTerm_O r_10_2_0.fKids)), (14, .box [.int .i64 r_10_2_0.fOp, .int .i64 r_10_2_0.fN, .rs 12, .rs 13])]) (by kernel_rfl) (And.intro (FnSound.args (A1 := [.agg [.int .i64 r_8_1.fOp, .int .i64 r_8_1.fN, .sl (shares (List.map I r_8_1.fType)), .sl (shares (List.map GTerm_O r_8_1.fKids))], .sl (shares (List.map I r_9_1))]) (A2 := [.agg [.int .i64 r_8_1.fOp, .int .i64 r_8_1.fN, .sl (List.map I r_8_1.fType), .sl (List.map GTerm_S r_8_1.fKids)], .sl (List.map I r_9_1)]) (by simp only [List.map_nil, sh_GTerm_O, sh_I]) (impl_FillOpen_s _ _ hr_10_2)) (And.intro bod_26 (And.intro (Or.inr (nsh_cons (nsh_cons rfl (nsh_cons rfl (nsh_cons (nsh_row nsh_I r_10_2_0.fType) (nsh_cons (nsh_row nsh_GTerm_O r_10_2_0.fKids) rfl)))) (nsh_cons rfl rfl)) : ([8, 9, 11] : List Nat) = [] ∨ noSh (.tup [.agg [.int .i64 r_10_2_0.fOp, .int .i64 r_10_2_0.fN, .osl (List.map I r_10_2_0.fType), .osl (List.map GTerm_O r_10_2_0.fKids)], .bool r_10_2_1]) = true) trivial))) (by kernel_rfl) (by kernel_rfl) ?_
      refine seqQ_norm ?_
      refine Wp.seqN (by kernel_rfl) ?_
      refine Wp.seqN (by kernel_rfl) ?_
      obtain ⟨v_3, hj_4, h⟩ := bsome h
      refine Wp.into (x := .normal) (mkS [(1, .sl (List.map I aL1)), (2, .ra 1 0), (6, .ra 7 0), (7, .bool r_7_4_1), (8, .ra 10 0), (9, .rs 11), (10, .ra 14 0), (11, .bool r_10_2_1), (51, .bool v_3)] [(1, .box [.int .i64 aT0.fOp, .int .i64 aT0.fN, .sl (List.map I aT0.fType), .sl (List.map GTerm_S aT0.fKids)]), (5, .arr (List.map I r_7_4_0.fType)), (6, .arr (List.map GTerm_O r_7_4_0.fKids)), (7, .box [.int .i64 r_7_4_0.fOp, .int .i64 r_7_4_0.fN, .rs 5, .rs 6]), (8, .arr (List.map I r_8_1.fType)), (9, .arr (List.map GTerm_O r_8_1.fKids)), (10, .box [.int .i64 r_8_1.fOp, .int .i64 r_8_1.fN, .rs 8, .rs 9]), (11, .arr (List.map I r_9_1)), (12, .arr (List.map I r_10_2_0.fType)), (13, .arr (List.map GTerm_O r_10_2_0.fKids)), (14, .box [.int .i64 r_10_2_0.fOp, .int .i64 r_10_2_0.fN, .rs 12, .rs 13])]) ?_ ?_
      · replace h := hj_4
        obtain ⟨r_11_2, hr_11_2, h⟩ := bsome h
        rcases itesome h with ⟨hb_11_0, h⟩ | ⟨hb_11_0, h⟩
        · refine Wp.reg tiok mix hc (by kernel_rfl) (ah := none) (rs := [some (.no), some (.no), some (.call (.bool r_11_2) [] 1), some (.no), some (.no), some (.no), some (.no), some (.no), some (.cond false)]) (kt := [1, 2, 6, 7, 8, 9, 10, 11, 51]) (ko := [1, 5, 6, 7, 8, 9, 10, 11, 12, 13, 14]) (T' := [(1, .sl (List.map I aL1)), (2, .ra 1 0), (6, .ra 7 0), (7, .bool r_7_4_1), (8, .ra 10 0), (9, .rs 11), (10, .ra 14 0), (11, .bool r_10_2_1), (51, .bool (!(r_10_2_1 == r_7_4_1)))]) (O' := [(1, .box [.int .i64 aT0.fOp, .int .i64 aT0.fN, .sl (List.map I aT0.fType), .sl (List.map GTerm_S aT0.fKids)]), (5, .arr (List.map I r_7_4_0.fType)), (6, .arr (List.map GTerm_O r_7_4_0.fKids)), (7, .box [.int .i64 r_7_4_0.fOp, .int .i64 r_7_4_0.fN, .rs 5, .rs 6]), (8, .arr (List.map I r_8_1.fType)), (9, .arr (List.map GTerm_O r_8_1.fKids)), (10, .box [.int .i64 r_8_1.fOp, .int .i64 r_8_1.fN, .rs 8, .rs 9]), (11, .arr (List.map I r_9_1)), (12, .arr (List.map I r_10_2_0.fType)), (13, .arr (List.map GTerm_O r_10_2_0.fKids)), (14, .box [.int .i64 r_10_2_0.fOp, .int .i64 r_10_2_0.fN, .rs 12, .rs 13])]) (by kernel_rfl) (And.intro (FnSound.args (A1 := [.agg [.int .i64 r_10_2_0.fOp, .int .i64 r_10_2_0.fN, .sl (shares (List.map I r_10_2_0.fType)), .sl (shares (List.map GTerm_O r_10_2_0.fKids))], .agg [.int .i64 r_7_4_0.fOp, .int .i64 r_7_4_0.fN, .sl (shares (List.map I r_7_4_0.fType)), .sl (shares (List.map GTerm_O r_7_4_0.fKids))]]) (A2 := [.agg [.int .i64 r_10_2_0.fOp, .int .i64 r_10_2_0.fN, .sl (List.map I r_10_2_0.fType), .sl (List.map GTerm_S r_10_2_0.fKids)], .agg [.int .i64 r_7_4_0.fOp, .int .i64 r_7_4_0.fN, .sl (List.map I r_7_4_0.fType), .sl (List.map GTerm_S r_7_4_0.fKids)]]) (by simp only [List.map_nil, sh_GTerm_O, sh_I]) (laws_eqTerm_s _ _ hr_11_2)) (And.intro bod_16 (And.intro (Or.inr rfl : ([12, 13, 5, 6] : List Nat) = [] ∨ noSh (.bool r_11_2) = true) (And.intro (nF hb_11_0) (And.intro (nF hb_11_0) (And.intro (nF hb_11_0) (And.intro (nF hb_11_0) trivial))))))) (by kernel_rfl) (by kernel_rfl) ?_
          obtain rfl := Option.some.inj h
          exact Into.mk
        · refine Wp.reg tiok mix hc (by kernel_rfl) (ah := none) (rs := [some (.no), some (.no), some (.call (.bool r_11_2) [] 1), some (.no), some (.no), none, none, none, some (.cond true)]) (kt := [1, 2, 6, 7, 8, 9, 10, 11, 51]) (ko := [1, 5, 6, 7, 8, 9, 10, 11, 12, 13, 14]) (T' := [(1, .sl (List.map I aL1)), (2, .ra 1 0), (6, .ra 7 0), (7, .bool r_7_4_1), (8, .ra 10 0), (9, .rs 11), (10, .ra 14 0), (11, .bool r_10_2_1), (51, .bool true)]) (O' := [(1, .box [.int .i64 aT0.fOp, .int .i64 aT0.fN, .sl (List.map I aT0.fType), .sl (List.map GTerm_S aT0.fKids)]), (5, .arr (List.map I r_7_4_0.fType)), (6, .arr (List.map GTerm_O r_7_4_0.fKids)), (7, .box [.int .i64 r_7_4_0.fOp, .int .i64 r_7_4_0.fN, .rs 5, .rs 6]), (8, .arr (List.map I r_8_1.fType)), (9, .arr (List.map GTerm_O r_8_1.fKids)), (10, .box [.int .i64 r_8_1.fOp, .int .i64 r_8_1.fN, .rs 8, .rs 9]), (11, .arr (List.map I r_9_1)), (12, .arr (List.map I r_10_2_0.fType)), (13, .arr (List.map GTerm_O r_10_2_0.fKids)), (14, .box [.int .i64 r_10_2_0.fOp, .int .i64 r_10_2_0.fN, .rs 12, .rs 13])]) (by kernel_rfl) (And.intro (FnSound.args (A1 := [.agg [.int .i64 r_10_2_0.fOp, .int .i64 r_10_2_0.fN, .sl (shares (List.map I r_10_2_0.fType)), .sl (shares (List.map GTerm_O r_10_2_0.fKids))], .agg [.int .i64 r_7_4_0.fOp, .int .i64 r_7_4_0.fN, .sl (shares (List.map I r_7_4_0.fType)), .sl (shares (List.map GTerm_O r_7_4_0.fKids))]]) (A2 := [.agg [.int .i64 r_10_2_0.fOp, .int .i64 r_10_2_0.fN, .sl (List.map I r_10_2_0.fType), .sl (List.map GTerm_S r_10_2_0.fKids)], .agg [.int .i64 r_7_4_0.fOp, .int .i64 r_7_4_0.fN, .sl (List.map I r_7_4_0.fType), .sl (List.map GTerm_S r_7_4_0.fKids)]]) (by simp only [List.map_nil, sh_GTerm_O, sh_I]) (laws_eqTerm_s _ _ hr_11_2)) (And.intro bod_16 (And.intro (Or.inr rfl : ([12, 13, 5, 6] : List Nat) = [] ∨ noSh (.bool r_11_2) = true) (And.intro (neF (nT hb_11_0) : (!r_11_2) ≠ false) (And.intro (neF (nT hb_11_0) : (!r_11_2) ≠ false) (And.intro (neF (nT hb_11_0) : (!r_11_2) ≠ false) (And.intro (nT hb_11_0) trivial))))))) (by kernel_rfl) (by kernel_rfl) ?_
          obtain rfl := Option.some.inj h
          exact Into.mk
      · clear hj_4
        refine seqQ_norm ?_
        rcases itesome h with ⟨hb_5, h⟩ | ⟨hb_5, h⟩
        · refine Wp.condT (b := v_3) (by kernel_rfl) (by kernel_rfl) hb_5 ?_
          refine Wp.seqN (by kernel_rfl) ?_
          refine Wp.reg tiok mix hc (by kernel_rfl) (ah := none) (rs := [some (.no)]) (kt := [4]) (ko := []) (T' := [(4, .bool false)]) (O' := []) (by kernel_rfl) trivial (by kernel_rfl) (by kernel_rfl) ?_
          refine seqQ_norm ?_
          refine Wp.retN (by kernel_rfl) ?_
          refine seqQ_ret ?_
          obtain rfl := Option.some.inj h
          exact RetQ.ret (fl := [true]) (by kernel_rfl)
        · refine Wp.condF (b := v_3) (by kernel_rfl) (by kernel_rfl) hb_5 ?_
          refine Wp.skipN (by kernel_rfl) ?_
          refine seqQ_norm ?_
          refine Wp.seqN (by kernel_rfl) ?_
          refine Wp.seqN (by kernel_rfl) ?_
          obtain ⟨r_13_2, hr_13_2, h⟩ := bsome h
          obtain ⟨r_13_3, hr_13_3, h⟩ := bsome h
          refine Wp.reg tiok mix hc (by kernel_rfl) (ah := (some [[], [], [1], [0, 1, 2], [0, 1, 2, 3]])) (rs := [some (.no), some (.no), some (.call (.agg [.int .i64 r_13_2.fOp, .int .i64 r_13_2.fN, .osl (List.map I r_13_2.fType), .osl (List.map GTerm_O r_13_2.fKids)]) [] 15), some (.call (.bool r_13_3) [] 1), some (.no)]) (kt := [1, 2, 6, 7, 8, 9, 10, 11, 56]) (ko := [1, 5, 6, 7, 8, 9, 10, 11, 12, 13, 14]) (T' := [(1, .sl (List.map I aL1)), (2, .ra 1 0), (6, .ra 7 0), (7, .bool r_7_4_1), (8, .ra 10 0), (9, .rs 11), (10, .ra 14 0), (11, .bool r_10_2_1), (56, .bool (!r_13_3))]) (O' := [(1, .box [.int .i64 aT0.fOp, .int .i64 aT0.fN, .sl (List.map I aT0.fType), .sl (List.map GTerm_S aT0.fKids)]), (5, .arr (List.map I r_7_4_0.fType)), (6, .arr (List.map GTerm_O r_7_4_0.fKids)), (7, .box [.int .i64 r_7_4_0.fOp, .int .i64 r_7_4_0.fN, .rs 5, .rs 6]), (8, .arr (List.map I r_8_1.fType)), (9, .arr (List.map GTerm_O r_8_1.fKids)), (10, .box [.int .i64 r_8_1.fOp, .int .i64 r_8_1.fN, .rs 8, .rs 9]), (11, .arr (List.map I r_9_1)), (12, .arr (List.map I r_10_2_0.fType)), (13, .arr (List.map GTerm_O r_10_2_0.fKids)), (14, .box [.int .i64 r_10_2_0.fOp, .int .i64 r_10_2_0.fN, .rs 12, .rs 13])]) (by kernel_rfl) (And.intro (laws_toTerm_s _ _ hr_13_2) (And.intro bod_25 (And.intro (Or.inl rfl : ([] : List Nat) = [] ∨ noSh (.agg [.int .i64 r_13_2.fOp, .int .i64 r_13_2.fN, .osl (List.map I r_13_2.fType), .osl (List.map GTerm_O r_13_2.fKids)]) = true) (And.intro (FnSound.args (A1 := [.agg [.int .i64 r_8_1.fOp, .int .i64 r_8_1.fN, .sl (shares (List.map I r_8_1.fType)), .sl (shares (List.map GTerm_O r_8_1.fKids))], .agg [.int .i64 r_13_2.fOp, .int .i64 r_13_2.fN, .sl (shares (List.map I r_13_2.fType)), .sl (shares (List.map GTerm_O r_13_2.fKids))]]) (A2 := [.agg [.int .i64 r_8_1.fOp, .int .i64 r_8_1.fN, .sl (List.map I r_8_1.fType), .sl (List.map GTerm_S r_8_1.fKids)], .agg [.int .i64 r_13_2.fOp, .int .i64 r_13_2.fN, .sl (List.map I r_13_2.fType), .sl (List.map GTerm_S r_13_2.fKids)]]) (by simp only [List.map_nil, sh_GTerm_O, sh_I]) (laws_eqTerm_s _ _ hr_13_3)) (And.intro bod_16 (And.intro (Or.inr rfl : ([8, 9, 15, 16] : List Nat) = [] ∨ noSh (.bool r_13_3) = true) trivial)))))) (by kernel_rfl) (by kernel_rfl) ?_
          refine seqQ_norm ?_
          rcases itesome h with ⟨hb_6, h⟩ | ⟨hb_6, h⟩
          · refine Wp.condF (b := (!r_13_3)) (by kernel_rfl) (by kernel_rfl) (nF hb_6) ?_
            refine Wp.skipN (by kernel_rfl) ?_
            refine seqQ_norm ?_
            refine Wp.seqN (by kernel_rfl) ?_
            refine Wp.seqN (by kernel_rfl) ?_
            obtain ⟨r_15_2, hr_15_2, h⟩ := bsome h
            obtain ⟨r_15_3, hr_15_3, h⟩ := bsome h
            refine Wp.reg tiok mix hc (by kernel_rfl) (ah := none) (rs := [some (.no), some (.no), some (.call (.osl (List.map I r_15_2)) [] 17), some (.call (.bool r_15_3) [] 1), some (.no)]) (kt := [1, 2, 6, 7, 8, 9, 10, 11, 61]) (ko := [1, 5, 6, 7, 8, 9, 10, 11, 12, 13, 14]) (T' := [(1, .sl (List.map I aL1)), (2, .ra 1 0), (6, .ra 7 0), (7, .bool r_7_4_1), (8, .ra 10 0), (9, .rs 11), (10, .ra 14 0), (11, .bool r_10_2_1), (61, .bool (!r_15_3))]) (O' := [(1, .box [.int .i64 aT0.fOp, .int .i64 aT0.fN, .sl (List.map I aT0.fType), .sl (List.map GTerm_S aT0.fKids)]), (5, .arr (List.map I r_7_4_0.fType)), (6, .arr (List.map GTerm_O r_7_4_0.fKids)), (7, .box [.int .i64 r_7_4_0.fOp, .int .i64 r_7_4_0.fN, .rs 5, .rs 6]), (8, .arr (List.map I r_8_1.fType)), (9, .arr (List.map GTerm_O r_8_1.fKids)), (10, .box [.int .i64 r_8_1.fOp, .int .i64 r_8_1.fN, .rs 8, .rs 9]), (11, .arr (List.map I r_9_1)), (12, .arr (List.map I r_10_2_0.fType)), (13, .arr (List.map GTerm_O r_10_2_0.fKids)), (14, .box [.int .i64 r_10_2_0.fOp, .int .i64 r_10_2_0.fN, .rs 12, .rs 13])]) (by kernel_rfl) (And.intro (laws_toIntS_s _ _ hr_15_2) (And.intro bod_14 (And.intro (Or.inl rfl : ([] : List Nat) = [] ∨ noSh (.osl (List.map I r_15_2)) = true) (And.intro (FnSound.args (A1 := [.sl (shares (List.map I r_9_1)), .sl (shares (List.map I r_15_2))]) (A2 := [.sl (List.map I r_9_1), .sl (List.map I r_15_2)]) (by simp only [List.map_nil, sh_I]) (laws_eqIntS_s _ _ hr_15_3)) (And.intro bod_18 (And.intro (Or.inr rfl : ([11, 17] : List Nat) = [] ∨ noSh (.bool r_15_3) = true) trivial)))))) (by kernel_rfl) (by kernel_rfl) ?_
            refine seqQ_norm ?_
            rcases itesome h with ⟨hb_7, h⟩ | ⟨hb_7, h⟩
            · refine Wp.condF (b := (!r_15_3)) (by kernel_rfl) (by kernel_rfl) (nF hb_7) ?_
              refine Wp.skipN (by kernel_rfl) ?_
              refine seqQ_norm ?_
              refine Wp.seqN (by kernel_rfl) ?_
              refine Wp.reg tiok mix hc (by kernel_rfl) (ah := none) (rs := [some (.no)]) (kt := [1, 2, 6, 7, 8, 9, 10, 11, 12]) (ko := [1, 5, 6, 7, 8, 9, 10, 11, 12, 13, 14]) (T' := [(1, .sl (List.map I aL1)), (2, .ra 1 0), (6, .ra 7 0), (7, .bool r_7_4_1), (8, .ra 10 0), (9, .rs 11), (10, .ra 14 0), (11, .bool r_10_2_1), (12, .int .i64 1)]) (O' := [(1, .box [.int .i64 aT0.fOp, .int .i64 aT0.fN, .sl (List.map I aT0.fType), .sl (List.map GTerm_S aT0.fKids)]), (5, .arr (List.map I r_7_4_0.fType)), (6, .arr (List.map GTerm_O r_7_4_0.fKids)), (7, .box [.int .i64 r_7_4_0.fOp, .int .i64 r_7_4_0.fN, .rs 5, .rs 6]), (8, .arr (List.map I r_8_1.fType)), (9, .arr (List.map GTerm_O r_8_1.fKids)), (10, .box [.int .i64 r_8_1.fOp, .int .i64 r_8_1.fN, .rs 8, .rs 9]), (11, .arr (List.map I r_9_1)), (12, .arr (List.map I r_10_2_0.fType)), (13, .arr (List.map GTerm_O r_10_2_0.fKids)), (14, .box [.int .i64 r_10_2_0.fOp, .int .i64 r_10_2_0.fN, .rs 12, .rs 13])]) (by kernel_rfl) trivial (by kernel_rfl) (by kernel_rfl) ?_
              refine seqQ_norm ?_
              refine Wp.seqN (by kernel_rfl) ?_
              obtain ⟨⟨r_18_2, o_18_2_0⟩, hr_18_2, h⟩ := bsome h
              refine Wp.reg tiok mix hc (by kernel_rfl) (ah := none) (rs := [some (.no), some (.no), some (.call (.int .i64 r_18_2) [.agg [.undef, .undef, .osl (List.map I o_18_2_0.fType), .osl (List.map GTerm_O o_18_2_0.fKids)], .undef] 1), some (.no)]) (kt := [1, 2, 6, 7, 9, 10, 11, 12]) (ko := [1, 5, 6, 7, 11, 12, 13, 14]) (T' := [(1, .sl (List.map I aL1)), (2, .ra 1 0), (6, .ra 7 0), (7, .bool r_7_4_1), (9, .rs 11), (10, .ra 14 0), (11, .bool r_10_2_1), (12, .int .i64 r_18_2)]) (O' := [(1, .box [.int .i64 aT0.fOp, .int .i64 aT0.fN, .sl (List.map I aT0.fType), .sl (List.map GTerm_S aT0.fKids)]), (5, .arr (List.map I r_7_4_0.fType)), (6, .arr (List.map GTerm_O r_7_4_0.fKids)), (7, .box [.int .i64 r_7_4_0.fOp, .int .i64 r_7_4_0.fN, .rs 5, .rs 6]), (11, .arr (List.map I r_9_1)), (12, .arr (List.map I r_10_2_0.fType)), (13, .arr (List.map GTerm_O r_10_2_0.fKids)), (14, .box [.int .i64 r_10_2_0.fOp, .int .i64 r_10_2_0.fN, .rs 12, .rs 13])]) (by kernel_rfl) (And.intro (laws_markTerm_s _ _ hr_18_2) (And.intro bod_21 trivial)) (by kernel_rfl) (by kernel_rfl) ?_
              refine seqQ_norm ?_
              refine Wp.seqN (by kernel_rfl) ?_
              obtain ⟨⟨r_19_2, o_19_2_0⟩, hr_19_2, h⟩ := bsome h
              refine Wp.reg tiok mix hc (by kernel_rfl) (ah := none) (rs := [some (.no), some (.no), some (.call (.int .i64 r_19_2) [.osl (List.map I o_19_2_0), .undef] 1), some (.no)]) (kt := [1, 2, 6, 7, 10, 11, 12]) (ko := [1, 5, 6, 7, 12, 13, 14]) (T' := [(1, .sl (List.map I aL1)), (2, .ra 1 0), (6, .ra 7 0), (7, .bool r_7_4_1), (10, .ra 14 0), (11, .bool r_10_2_1), (12, .int .i64 r_19_2)]) (O' := [(1, .box [.int .i64 aT0.fOp, .int .i64 aT0.fN, .sl (List.map I aT0.fType), .sl (List.map GTerm_S aT0.fKids)]), (5, .arr (List.map I r_7_4_0.fType)), (6, .arr (List.map GTerm_O r_7_4_0.fKids)), (7, .box [.int .i64 r_7_4_0.fOp, .int .i64 r_7_4_0.fN, .rs 5, .rs 6]), (12, .arr (List.map I r_10_2_0.fType)), (13, .arr (List.map GTerm_O r_10_2_0.fKids)), (14, .box [.int .i64 r_10_2_0.fOp, .int .i64 r_10_2_0.fN, .rs 12, .rs 13])]) (by kernel_rfl) (And.intro (laws_markIntS_s _ _ hr_19_2) (And.intro bod_20 trivial)) (by kernel_rfl) (by kernel_rfl) ?_
              refine seqQ_norm ?_
              refine Wp.seqN (by kernel_rfl) ?_
              refine Wp.seqN (by kernel_rfl) ?_
              obtain ⟨v_8, hj_9, h⟩ := bsome h
              refine Wp.into (x := .normal) (mkS [(1, .sl (List.map I aL1)), (2, .ra 1 0), (6, .ra 7 0), (7, .bool r_7_4_1), (10, .ra 14 0), (80, .bool v_8)] [(1, .box [.int .i64 aT0.fOp, .int .i64 aT0.fN, .sl (List.map I aT0.fType), .sl (List.map GTerm_S aT0.fKids)]), (5, .arr (List.map I r_7_4_0.fType)), (6, .arr (List.map GTerm_O r_7_4_0.fKids)), (7, .box [.int .i64 r_7_4_0.fOp, .int .i64 r_7_4_0.fN, .rs 5, .rs 6]), (12, .arr (List.map I r_10_2_0.fType)), (13, .arr (List.map GTerm_O r_10_2_0.fKids)), (14, .box [.int .i64 r_10_2_0.fOp, .int .i64 r_10_2_0.fN, .rs 12, .rs 13])]) ?_ ?_
              · replace h := hj_9
                rcases itesome h with ⟨hb_20_0, h⟩ | ⟨hb_20_0, h⟩
                · refine Wp.reg tiok mix hc (by kernel_rfl) (ah := none) (rs := [some (.no), some (.no), some (.no), none, none, none, none, some (.cond true), some (.no), none, none, none, some (.cond true)]) (kt := [1, 2, 6, 7, 10, 80]) (ko := [1, 5, 6, 7, 12, 13, 14]) (T' := [(1, .sl (List.map I aL1)), (2, .ra 1 0), (6, .ra 7 0), (7, .bool r_7_4_1), (10, .ra 14 0), (80, .bool true)]) (O' := [(1, .box [.int .i64 aT0.fOp, .int .i64 aT0.fN, .sl (List.map I aT0.fType), .sl (List.map GTerm_S aT0.fKids)]), (5, .arr (List.map I r_7_4_0.fType)), (6, .arr (List.map GTerm_O r_7_4_0.fKids)), (7, .box [.int .i64 r_7_4_0.fOp, .int .i64 r_7_4_0.fN, .rs 5, .rs 6]), (12, .arr (List.map I r_10_2_0.fType)), (13, .arr (List.map GTerm_O r_10_2_0.fKids)), (14, .box [.int .i64 r_10_2_0.fOp, .int .i64 r_10_2_0.fN, .rs 12, .rs 13])]) (by kernel_rfl) (And.intro (neF hb_20_0 : (decide (r_19_2 < 0)) ≠ false) (And.intro (neF hb_20_0 : (decide (r_19_2 < 0)) ≠ false) (And.intro (neF hb_20_0 : (decide (r_19_2 < 0)) ≠ false) (And.intro (neF hb_20_0 : (decide (r_19_2 < 0)) ≠ false) (And.intro hb_20_0 (And.intro (neF (rfl : true = true) : true ≠ false) (And.intro (neF (rfl : true = true) : true ≠ false) (And.intro (neF (rfl : true = true) : true ≠ false) (And.intro (rfl : true = true) trivial))))))))) (by kernel_rfl) (by kernel_rfl) ?_
                  obtain rfl := Option.some.inj h
                  exact Into.mk
                · obtain ⟨r_20_5, hr_20_5, h⟩ := bsome h
                  rcases itesome h with ⟨hb_20_1, h⟩ | ⟨hb_20_1, h⟩
                  · refine Wp.reg tiok mix hc (by kernel_rfl) (ah := none) (rs := [some (.no), some (.no), some (.no), some (.no), some (.no), some (.call (.bool r_20_5) [] 1), some (.no), some (.cond false), some (.no), some (.no), some (.no), some (.no), some (.cond false)]) (kt := [1, 2, 6, 7, 10, 80]) (ko := [1, 5, 6, 7, 12, 13, 14]) (T' := [(1, .sl (List.map I aL1)), (2, .ra 1 0), (6, .ra 7 0), (7, .bool r_7_4_1), (10, .ra 14 0), (80, .bool (!(r_10_2_1 == r_7_4_1)))]) (O' := [(1, .box [.int .i64 aT0.fOp, .int .i64 aT0.fN, .sl (List.map I aT0.fType), .sl (List.map GTerm_S aT0.fKids)]), (5, .arr (List.map I r_7_4_0.fType)), (6, .arr (List.map GTerm_O r_7_4_0.fKids)), (7, .box [.int .i64 r_7_4_0.fOp, .int .i64 r_7_4_0.fN, .rs 5, .rs 6]), (12, .arr (List.map I r_10_2_0.fType)), (13, .arr (List.map GTerm_O r_10_2_0.fKids)), (14, .box [.int .i64 r_10_2_0.fOp, .int .i64 r_10_2_0.fN, .rs 12, .rs 13])]) (by kernel_rfl) (And.intro hb_20_0 (And.intro hb_20_0 (And.intro hb_20_0 (And.intro (FnSound.args (A1 := [.agg [.int .i64 r_10_2_0.fOp, .int .i64 r_10_2_0.fN, .sl (shares (List.map I r_10_2_0.fType)), .sl (shares (List.map GTerm_O r_10_2_0.fKids))], .agg [.int .i64 r_7_4_0.fOp, .int .i64 r_7_4_0.fN, .sl (shares (List.map I r_7_4_0.fType)), .sl (shares (List.map GTerm_O r_7_4_0.fKids))]]) (A2 := [.agg [.int .i64 r_10_2_0.fOp, .int .i64 r_10_2_0.fN, .sl (List.map I r_10_2_0.fType), .sl (List.map GTerm_S r_10_2_0.fKids)], .agg [.int .i64 r_7_4_0.fOp, .int .i64 r_7_4_0.fN, .sl (List.map I r_7_4_0.fType), .sl (List.map GTerm_S r_7_4_0.fKids)]]) (by simp only [List.map_nil, sh_GTerm_O, sh_I]) (laws_eqTerm_s _ _ hr_20_5)) (And.intro bod_16 (And.intro (Or.inr rfl : ([12, 13, 5, 6] : List Nat) = [] ∨ noSh (.bool r_20_5) = true) (And.intro hb_20_0 (And.intro hb_20_0 (And.intro (nF hb_20_1) (And.intro (nF hb_20_1) (And.intro (nF hb_20_1) (And.intro (nF hb_20_1) trivial)))))))))))) (by kernel_rfl) (by kernel_rfl) ?_
                    obtain rfl := Option.some.inj h
                    exact Into.mk
                  · refine Wp.reg tiok mix hc (by kernel_rfl) (ah := none) (rs := [some (.no), some (.no), some (.no), some (.no), some (.no), some (.call (.bool r_20_5) [] 1), some (.no), some (.cond false), some (.no), none, none, none, some (.cond true)]) (kt := [1, 2, 6, 7, 10, 80]) (ko := [1, 5, 6, 7, 12, 13, 14]) (T' := [(1, .sl (List.map I aL1)), (2, .ra 1 0), (6, .ra 7 0), (7, .bool r_7_4_1), (10, .ra 14 0), (80, .bool true)]) (O' := [(1, .box [.int .i64 aT0.fOp, .int .i64 aT0.fN, .sl (List.map I aT0.fType), .sl (List.map GTerm_S aT0.fKids)]), (5, .arr (List.map I r_7_4_0.fType)), (6, .arr (List.map GTerm_O r_7_4_0.fKids)), (7, .box [.int .i64 r_7_4_0.fOp, .int .i64 r_7_4_0.fN, .rs 5, .rs 6]), (12, .arr (List.map I r_10_2_0.fType)), (13, .arr (List.map GTerm_O r_10_2_0.fKids)), (14, .box [.int .i64 r_10_2_0.fOp, .int .i64 r_10_2_0.fN, .rs 12, .rs 13])]) (by kernel_rfl) (And.intro hb_20_0 (And.intro hb_20_0 (And.intro hb_20_0 (And.intro (FnSound.args (A1 := [.agg [.int .i64 r_10_2_0.fOp, .int .i64 r_10_2_0.fN, .sl (shares (List.map I r_10_2_0.fType)), .sl (shares (List.map GTerm_O r_10_2_0.fKids))], .agg [.int .i64 r_7_4_0.fOp, .int .i64 r_7_4_0.fN, .sl (shares (List.map I r_7_4_0.fType)), .sl (shares (List.map GTerm_O r_7_4_0.fKids))]]) (A2 := [.agg [.int .i64 r_10_2_0.fOp, .int .i64 r_10_2_0.fN, .sl (List.map I r_10_2_0.fType), .sl (List.map GTerm_S r_10_2_0.fKids)], .agg [.int .i64 r_7_4_0.fOp, .int .i64 r_7_4_0.fN, .sl (List.map I r_7_4_0.fType), .sl (List.map GTerm_S r_7_4_0.fKids)]]) (by simp only [List.map_nil, sh_GTerm_O, sh_I]) (laws_eqTerm_s _ _ hr_20_5)) (And.intro bod_16 (And.intro (Or.inr rfl : ([12, 13, 5, 6] : List Nat) = [] ∨ noSh (.bool r_20_5) = true) (And.intro hb_20_0 (And.intro hb_20_0 (And.intro (neF (nT hb_20_1) : (!r_20_5) ≠ false) (And.intro (neF (nT hb_20_1) : (!r_20_5) ≠ false) (And.intro (neF (nT hb_20_1) : (!r_20_5) ≠ false) (And.intro (nT hb_20_1) trivial)))))))))))) (by kernel_rfl) (by kernel_rfl) ?_
                    obtain rfl := Option.some.inj h
                    exact Into.mk
              · clear hj_9
                refine seqQ_norm ?_
                rcases itesome h with ⟨hb_10, h⟩ | ⟨hb_10, h⟩
                · refine Wp.condT (b := v_8) (by kernel_rfl) (by kernel_rfl) hb_10 ?_
                  refine Wp.seqN (by kernel_rfl) ?_
                  refine Wp.reg tiok mix hc (by kernel_rfl) (ah := none) (rs := [some (.no)]) (kt := [4]) (ko := []) (T' := [(4, .bool false)]) (O' := []) (by kernel_rfl) trivial (by kernel_rfl) (by kernel_rfl) ?_
                  refine seqQ_norm ?_
                  refine Wp.retN (by kernel_rfl) ?_
                  refine seqQ_ret ?_
                  obtain rfl := Option.some.inj h
                  exact RetQ.ret (fl := [true]) (by kernel_rfl)
                · refine Wp.condF (b := v_8) (by kernel_rfl) (by kernel_rfl) hb_10 ?_
                  refine Wp.skipN (by kernel_rfl) ?_
                  refine seqQ_norm ?_
                  refine Wp.seqN (by kernel_rfl) ?_
                  refine Wp.reg tiok mix hc (by kernel_rfl) (ah := none) (rs := [some (.no)]) (kt := [1, 2, 6, 7, 10, 13]) (ko := [1, 5, 6, 7, 12, 13, 14]) (T' := [(1, .sl (List.map I aL1)), (2, .ra 1 0), (6, .ra 7 0), (7, .bool r_7_4_1), (10, .ra 14 0), (13, .int .i64 1)]) (O' := [(1, .box [.int .i64 aT0.fOp, .int .i64 aT0.fN, .sl (List.map I aT0.fType), .sl (List.map GTerm_S aT0.fKids)]), (5, .arr (List.map I r_7_4_0.fType)), (6, .arr (List.map GTerm_O r_7_4_0.fKids)), (7, .box [.int .i64 r_7_4_0.fOp, .int .i64 r_7_4_0.fN, .rs 5, .rs 6]), (12, .arr (List.map I r_10_2_0.fType)), (13, .arr (List.map GTerm_O r_10_2_0.fKids)), (14, .box [.int .i64 r_10_2_0.fOp, .int .i64 r_10_2_0.fN, .rs 12, .rs 13])]) (by kernel_rfl) trivial (by kernel_rfl) (by kernel_rfl) ?_
                  refine seqQ_norm ?_
                  refine Wp.seqN (by kernel_rfl) ?_
                  obtain ⟨⟨r_23_2, o_23_2_0⟩, hr_23_2, h⟩ := bsome h
                  refine Wp.reg tiok mix hc (by kernel_rfl) (ah := none) (rs := [some (.no), some (.no), some (.call (.int .i64 r_23_2) [.agg [.undef, .undef, .osl (List.map I o_23_2_0.fType), .osl (List.map GTerm_O o_23_2_0.fKids)], .undef] 1), some (.no)]) (kt := [1, 2, 6, 7, 10, 13]) (ko := [1, 5, 6, 7, 12, 13, 14]) (T' := [(1, .sl (List.map I aL1)), (2, .ra 1 0), (6, .ra 7 0), (7, .bool r_7_4_1), (10, .ra 14 0), (13, .int .i64 r_23_2)]) (O' := [(1, .box [.int .i64 aT0.fOp, .int .i64 aT0.fN, .sl (List.map I aT0.fType), .sl (List.map GTerm_S aT0.fKids)]), (5, .arr (List.map I r_7_4_0.fType)), (6, .arr (List.map GTerm_O r_7_4_0.fKids)), (7, .box [.int .i64 r_7_4_0.fOp, .int .i64 r_7_4_0.fN, .rs 5, .rs 6]), (12, .arr (List.map I o_23_2_0.fType)), (13, .arr (List.map GTerm_O o_23_2_0.fKids)), (14, .box [.int .i64 r_10_2_0.fOp, .int .i64 r_10_2_0.fN, .rs 12, .rs 13])]) (by kernel_rfl) (And.intro (laws_markTerm_s _ _ hr_23_2) (And.intro bod_21 trivial)) (by kernel_rfl) (by kernel_rfl) ?_
                  refine seqQ_norm ?_
                  refine Wp.seqN (by kernel_rfl) ?_
                  refine Wp.reg tiok mix hc (by kernel_rfl) (ah := none) (rs := [some (.no)]) (kt := [1, 2, 6, 7, 10, 13, 14]) (ko := [1, 5, 6, 7, 12, 13, 14]) (T' := [(1, .sl (List.map I aL1)), (2, .ra 1 0), (6, .ra 7 0), (7, .bool r_7_4_1), (10, .ra 14 0), (13, .int .i64 r_23_2), (14, .int .i64 1)]) (O' := [(1, .box [.int .i64 aT0.fOp, .int .i64 aT0.fN, .sl (List.map I aT0.fType), .sl (List.map GTerm_S aT0.fKids)]), (5, .arr (List.map I r_7_4_0.fType)), (6, .arr (List.map GTerm_O r_7_4_0.fKids)), (7, .box [.int .i64 r_7_4_0.fOp, .int .i64 r_7_4_0.fN, .rs 5, .rs 6]), (12, .arr (List.map I o_23_2_0.fType)), (13, .arr (List.map GTerm_O o_23_2_0.fKids)), (14, .box [.int .i64 r_10_2_0.fOp, .int .i64 r_10_2_0.fN, .rs 12, .rs 13])]) (by kernel_rfl) trivial (by kernel_rfl) (by kernel_rfl) ?_
                  refine seqQ_norm ?_
                  refine Wp.seqN (by kernel_rfl) ?_
                  obtain ⟨r_25_2, hr_25_2, h⟩ := bsome h
                  refine Wp.reg tiok mix hc (by kernel_rfl) (ah := none) (rs := [some (.no), some (.no), some (.call (.int .i64 r_25_2) [] 1), some (.no)]) (kt := [1, 2, 6, 7, 10, 13, 14]) (ko := [1, 5, 6, 7, 12, 13, 14]) (T' := [(1, .sl (List.map I aL1)), (2, .ra 1 0), (6, .ra 7 0), (7, .bool r_7_4_1), (10, .ra 14 0), (13, .int .i64 r_23_2), (14, .int .i64 r_25_2)]) (O' := [(1, .box [.int .i64 aT0.fOp, .int .i64 aT0.fN, .sl (List.map I aT0.fType), .sl (List.map GTerm_S aT0.fKids)]), (5, .arr (List.map I r_7_4_0.fType)), (6, .arr (List.map GTerm_O r_7_4_0.fKids)), (7, .box [.int .i64 r_7_4_0.fOp, .int .i64 r_7_4_0.fN, .rs 5, .rs 6]), (12, .arr (List.map I o_23_2_0.fType)), (13, .arr (List.map GTerm_O o_23_2_0.fKids)), (14, .box [.int .i64 r_10_2_0.fOp, .int .i64 r_10_2_0.fN, .rs 12, .rs 13])]) (by kernel_rfl) (And.intro (FnSound.args (A1 := [.agg [.int .i64 r_10_2_0.fOp, .int .i64 r_10_2_0.fN, .sl (shares (List.map I o_23_2_0.fType)), .sl (shares (List.map GTerm_O o_23_2_0.fKids))], .int .i64 1]) (A2 := [.agg [.int .i64 r_10_2_0.fOp, .int .i64 r_10_2_0.fN, .sl (List.map I o_23_2_0.fType), .sl (List.map GTerm_S o_23_2_0.fKids)], .int .i64 1]) (by simp only [List.map_nil, sh_GTerm_O, sh_I]) (laws_heldTerm_s _ _ hr_25_2)) (And.intro bod_22 (And.intro (Or.inr rfl : ([12, 13] : List Nat) = [] ∨ noSh (.int .i64 r_25_2) = true) trivial))) (by kernel_rfl) (by kernel_rfl) ?_
                  refine seqQ_norm ?_
                  refine Wp.seqN (by kernel_rfl) ?_
                  refine Wp.seqN (by kernel_rfl) ?_
                  refine Wp.reg tiok mix hc (by kernel_rfl) (ah := none) (rs := [some (.no), some (.no)]) (kt := [1, 2, 6, 7, 10, 13, 14, 88]) (ko := [1, 5, 6, 7, 12, 13, 14]) (T' := [(1, .sl (List.map I aL1)), (2, .ra 1 0), (6, .ra 7 0), (7, .bool r_7_4_1), (10, .ra 14 0), (13, .int .i64 r_23_2), (14, .int .i64 r_25_2), (88, .bool (decide (r_25_2 < 0)))]) (O' := [(1, .box [.int .i64 aT0.fOp, .int .i64 aT0.fN, .sl (List.map I aT0.fType), .sl (List.map GTerm_S aT0.fKids)]), (5, .arr (List.map I r_7_4_0.fType)), (6, .arr (List.map GTerm_O r_7_4_0.fKids)), (7, .box [.int .i64 r_7_4_0.fOp, .int .i64 r_7_4_0.fN, .rs 5, .rs 6]), (12, .arr (List.map I o_23_2_0.fType)), (13, .arr (List.map GTerm_O o_23_2_0.fKids)), (14, .box [.int .i64 r_10_2_0.fOp, .int .i64 r_10_2_0.fN, .rs 12, .rs 13])]) (by kernel_rfl) trivial (by kernel_rfl) (by kernel_rfl) ?_
                  refine seqQ_norm ?_
                  rcases itesome h with ⟨hb_11, h⟩ | ⟨hb_11, h⟩
                  · refine Wp.condT (b := (decide (r_25_2 < 0))) (by kernel_rfl) (by kernel_rfl) hb_11 ?_
                    refine Wp.seqN (by kernel_rfl) ?_
                    refine Wp.reg tiok mix hc (by kernel_rfl) (ah := none) (rs := [some (.no)]) (kt := [4]) (ko := []) (T' := [(4, .bool false)]) (O' := []) (by kernel_rfl) trivial (by kernel_rfl) (by kernel_rfl) ?_
                    refine seqQ_norm ?_
                    refine Wp.retN (by kernel_rfl) ?_
                    refine seqQ_ret ?_
                    obtain rfl := Option.some.inj h
                    exact RetQ.ret (fl := [true]) (by kernel_rfl)
                  · refine Wp.condF (b := (decide (r_25_2 < 0))) (by kernel_rfl) (by kernel_rfl) hb_11 ?_
                    refine Wp.skipN (by kernel_rfl) ?_
                    refine seqQ_norm ?_
                    refine Wp.seqN (by kernel_rfl) ?_
                    refine Wp.seqN (by kernel_rfl) ?_
                    refine Wp.reg tiok mix hc (by kernel_rfl) (ah := none) (rs := [some (.no), some (.no), some (.no)]) (kt := [1, 2, 6, 7, 10, 13, 91]) (ko := [1, 5, 6, 7, 12, 13, 14]) (T' := [(1, .sl (List.map I aL1)), (2, .ra 1 0), (6, .ra 7 0), (7, .bool r_7_4_1), (10, .ra 14 0), (13, .int .i64 r_23_2), (91, .bool (r_25_2 != r_23_2))]) (O' := [(1, .box [.int .i64 aT0.fOp, .int .i64 aT0.fN, .sl (List.map I aT0.fType), .sl (List.map GTerm_S aT0.fKids)]), (5, .arr (List.map I r_7_4_0.fType)), (6, .arr (List.map GTerm_O r_7_4_0.fKids)), (7, .box [.int .i64 r_7_4_0.fOp, .int .i64 r_7_4_0.fN, .rs 5, .rs 6]), (12, .arr (List.map I o_23_2_0.fType)), (13, .arr (List.map GTerm_O o_23_2_0.fKids)), (14, .box [.int .i64 r_10_2_0.fOp, .int .i64 r_10_2_0.fN, .rs 12, .rs 13])]) (by kernel_rfl) trivial (by kernel_rfl) (by kernel_rfl) ?_
                    refine seqQ_norm ?_
                    rcases itesome h with ⟨hb_12, h⟩ | ⟨hb_12, h⟩
                    · refine Wp.condT (b := (r_25_2 != r_23_2)) (by kernel_rfl) (by kernel_rfl) hb_12 ?_
                      refine Wp.seqN (by kernel_rfl) ?_
                      refine Wp.reg tiok mix hc (by kernel_rfl) (ah := none) (rs := [some (.no)]) (kt := [4]) (ko := []) (T' := [(4, .bool false)]) (O' := []) (by kernel_rfl) trivial (by kernel_rfl) (by kernel_rfl) ?_
                      refine seqQ_norm ?_
                      refine Wp.retN (by kernel_rfl) ?_
                      refine seqQ_ret ?_
                      obtain rfl := Option.some.inj h
                      exact RetQ.ret (fl := [true]) (by kernel_rfl)
                    · refine Wp.condF (b := (r_25_2 != r_23_2)) (by kernel_rfl) (by kernel_rfl) hb_12 ?_
                      refine Wp.skipN (by kernel_rfl) ?_
                      refine seqQ_norm ?_
                      refine Wp.seqN (by kernel_rfl) ?_
                      obtain ⟨r_30_1, hr_30_1, h⟩ := bsome h
                      obtain ⟨r_30_3, hr_30_3, h⟩ := bsome h
                      obtain ⟨⟨r_30_4_0, r_30_4_1⟩, hr_30_4, h⟩ := bsome h
                      refine Wp.reg tiok mix hc (by kernel_rfl) (ah := none) (rs := [some (.no), some (.call (.agg [.int .i64 r_30_1.fOp, .int .i64 r_30_1.fN, .osl (List.map I r_30_1.fType), .osl (List.map GTerm_O r_30_1.fKids)]) [] 18), some (.no), some (.call (.osl (List.map I r_30_3)) [] 20), some (.call (.tup [.agg [.int .i64 r_30_4_0.fOp, .int .i64 r_30_4_0.fN, .osl (List.map I r_30_4_0.fType), .osl (List.map GTerm_O r_30_4_0.fKids)], .bool r_30_4_1]) [] 21), some (.no), some (.no), some (.no), some (.new 23), some (.no), some (.no)]) (kt := [6, 7, 10, 13, 15, 16]) (ko := [5, 6, 7, 12, 13, 14, 21, 22, 23]) (T' := [(6, .ra 7 0), (7, .bool r_7_4_1), (10, .ra 14 0), (13, .int .i64 r_23_2), (15, .ra 23 0), (16, .bool r_30_4_1)]) (O' := [(5, .arr (List.map I r_7_4_0.fType)), (6, .arr (List.map GTerm_O r_7_4_0.fKids)), (7, .box [.int .i64 r_7_4_0.fOp, .int .i64 r_7_4_0.fN, .rs 5, .rs 6]), (12, .arr (List.map I o_23_2_0.fType)), (13, .arr (List.map GTerm_O o_23_2_0.fKids)), (14, .box [.int .i64 r_10_2_0.fOp, .int .i64 r_10_2_0.fN, .rs 12, .rs 13]), (21, .arr (List.map I r_30_4_0.fType)), (22, .arr (List.map GTerm_O r_30_4_0.fKids)), (23, .box [.int .i64 r_30_4_0.fOp, .int .i64 r_30_4_0.fN, .rs 21, .rs 22])]) (by kernel_rfl) (And.intro (laws_toTerm_s _ _ hr_30_1) (And.intro bod_25 (And.intro (Or.inl rfl : ([] : List Nat) = [] ∨ noSh (.agg [.int .i64 r_30_1.fOp, .int .i64 r_30_1.fN, .osl (List.map I r_30_1.fType), .osl (List.map GTerm_O r_30_1.fKids)]) = true) (And.intro (laws_toIntS_s _ _ hr_30_3) (And.intro bod_14 (And.intro (Or.inl rfl : ([] : List Nat) = [] ∨ noSh (.osl (List.map I r_30_3)) = true) (And.intro (FnSound.args (A1 := [.agg [.int .i64 r_30_1.fOp, .int .i64 r_30_1.fN, .sl (shares (List.map I r_30_1.fType)), .sl (shares (List.map GTerm_O r_30_1.fKids))], .sl (shares (List.map I r_30_3))]) (A2 := [.agg [.int .i64 r_30_1.fOp, .int .i64 r_30_1.fN, .sl (List.map I r_30_1.fType), .sl (List.map GTerm_S r_30_1.fKids)], .sl (List.map I r_30_3)]) (by simp only [List.map_nil, sh_GTerm_O, sh_I]) (impl_FillOpen_s _ _ hr_30_4)) (And.intro bod_26 (And.intro (Or.inr (nsh_cons (nsh_cons rfl (nsh_cons rfl (nsh_cons (nsh_row nsh_I r_30_4_0.fType) (nsh_cons (nsh_row nsh_GTerm_O r_30_4_0.fKids) rfl)))) (nsh_cons rfl rfl)) : ([18, 19, 20] : List Nat) = [] ∨ noSh (.tup [.agg [.int .i64 r_30_4_0.fOp, .int .i64 r_30_4_0.fN, .osl (List.map I r_30_4_0.fType), .osl (List.map GTerm_O r_30_4_0.fKids)], .bool r_30_4_1]) = true) trivial))))))))) (by kernel_rfl) (by kernel_rfl) ?_
                      refine seqQ_norm ?_
                      refine Wp.seqN (by kernel_rfl) ?_
                      refine Wp.seqN (by kernel_rfl) ?_
                      obtain ⟨v_13, hj_14, h⟩ := bsome h
                      refine Wp.into (x := .normal) (mkS [(10, .ra 14 0), (13, .int .i64 r_23_2), (108, .bool v_13)] [(12, .arr (List.map I o_23_2_0.fType)), (13, .arr (List.map GTerm_O o_23_2_0.fKids)), (14, .box [.int .i64 r_10_2_0.fOp, .int .i64 r_10_2_0.fN, .rs 12, .rs 13])]) ?_ ?_
                      · replace h := hj_14
                        obtain ⟨r_31_2, hr_31_2, h⟩ := bsome h
                        rcases itesome h with ⟨hb_31_0, h⟩ | ⟨hb_31_0, h⟩
                        · refine Wp.reg tiok mix hc (by kernel_rfl) (ah := none) (rs := [some (.no), some (.no), some (.call (.bool r_31_2) [] 1), some (.no), some (.no), some (.no), some (.no), some (.no), some (.cond false)]) (kt := [10, 13, 108]) (ko := [12, 13, 14]) (T' := [(10, .ra 14 0), (13, .int .i64 r_23_2), (108, .bool (!(r_30_4_1 == r_7_4_1)))]) (O' := [(12, .arr (List.map I o_23_2_0.fType)), (13, .arr (List.map GTerm_O o_23_2_0.fKids)), (14, .box [.int .i64 r_10_2_0.fOp, .int .i64 r_10_2_0.fN, .rs 12, .rs 13])]) (by kernel_rfl) (And.intro (FnSound.args (A1 := [.agg [.int .i64 r_30_4_0.fOp, .int .i64 r_30_4_0.fN, .sl (shares (List.map I r_30_4_0.fType)), .sl (shares (List.map GTerm_O r_30_4_0.fKids))], .agg [.int .i64 r_7_4_0.fOp, .int .i64 r_7_4_0.fN, .sl (shares (List.map I r_7_4_0.fType)), .sl (shares (List.map GTerm_O r_7_4_0.fKids))]]) (A2 := [.agg [.int .i64 r_30_4_0.fOp, .int .i64 r_30_4_0.fN, .sl (List.map I r_30_4_0.fType), .sl (List.map GTerm_S r_30_4_0.fKids)], .agg [.int .i64 r_7_4_0.fOp, .int .i64 r_7_4_0.fN, .sl (List.map I r_7_4_0.fType), .sl (List.map GTerm_S r_7_4_0.fKids)]]) (by simp only [List.map_nil, sh_GTerm_O, sh_I]) (laws_eqTerm_s _ _ hr_31_2)) (And.intro bod_16 (And.intro (Or.inr rfl : ([21, 22, 5, 6] : List Nat) = [] ∨ noSh (.bool r_31_2) = true) (And.intro (nF hb_31_0) (And.intro (nF hb_31_0) (And.intro (nF hb_31_0) (And.intro (nF hb_31_0) trivial))))))) (by kernel_rfl) (by kernel_rfl) ?_
                          obtain rfl := Option.some.inj h
                          exact Into.mk
                        · refine Wp.reg tiok mix hc (by kernel_rfl) (ah := none) (rs := [some (.no), some (.no), some (.call (.bool r_31_2) [] 1), some (.no), some (.no), none, none, none, some (.cond true)]) (kt := [10, 13, 108]) (ko := [12, 13, 14]) (T' := [(10, .ra 14 0), (13, .int .i64 r_23_2), (108, .bool true)]) (O' := [(12, .arr (List.map I o_23_2_0.fType)), (13, .arr (List.map GTerm_O o_23_2_0.fKids)), (14, .box [.int .i64 r_10_2_0.fOp, .int .i64 r_10_2_0.fN, .rs 12, .rs 13])]) (by kernel_rfl) (And.intro (FnSound.args (A1 := [.agg [.int .i64 r_30_4_0.fOp, .int .i64 r_30_4_0.fN, .sl (shares (List.map I r_30_4_0.fType)), .sl (shares (List.map GTerm_O r_30_4_0.fKids))], .agg [.int .i64 r_7_4_0.fOp, .int .i64 r_7_4_0.fN, .sl (shares (List.map I r_7_4_0.fType)), .sl (shares (List.map GTerm_O r_7_4_0.fKids))]]) (A2 := [.agg [.int .i64 r_30_4_0.fOp, .int .i64 r_30_4_0.fN, .sl (List.map I r_30_4_0.fType), .sl (List.map GTerm_S r_30_4_0.fKids)], .agg [.int .i64 r_7_4_0.fOp, .int .i64 r_7_4_0.fN, .sl (List.map I r_7_4_0.fType), .sl (List.map GTerm_S r_7_4_0.fKids)]]) (by simp only [List.map_nil, sh_GTerm_O, sh_I]) (laws_eqTerm_s _ _ hr_31_2)) (And.intro bod_16 (And.intro (Or.inr rfl : ([21, 22, 5, 6] : List Nat) = [] ∨ noSh (.bool r_31_2) = true) (And.intro (neF (nT hb_31_0) : (!r_31_2) ≠ false) (And.intro (neF (nT hb_31_0) : (!r_31_2) ≠ false) (And.intro (neF (nT hb_31_0) : (!r_31_2) ≠ false) (And.intro (nT hb_31_0) trivial))))))) (by kernel_rfl) (by kernel_rfl) ?_
                          obtain rfl := Option.some.inj h
                          exact Into.mk
                      · clear hj_14
                        refine seqQ_norm ?_
                        rcases itesome h with ⟨hb_15, h⟩ | ⟨hb_15, h⟩
                        · refine Wp.condT (b := v_13) (by kernel_rfl) (by kernel_rfl) hb_15 ?_
                          refine Wp.seqN (by kernel_rfl) ?_
                          refine Wp.reg tiok mix hc (by kernel_rfl) (ah := none) (rs := [some (.no)]) (kt := [4]) (ko := []) (T' := [(4, .bool false)]) (O' := []) (by kernel_rfl) trivial (by kernel_rfl) (by kernel_rfl) ?_
                          refine seqQ_norm ?_
                          refine Wp.retN (by kernel_rfl) ?_
                          refine seqQ_ret ?_
                          obtain rfl := Option.some.inj h
                          exact RetQ.ret (fl := [true]) (by kernel_rfl)
                        · refine Wp.condF (b := v_13) (by kernel_rfl) (by kernel_rfl) hb_15 ?_
                          refine Wp.skipN (by kernel_rfl) ?_
                          refine seqQ_norm ?_
                          refine Wp.seqN (by kernel_rfl) ?_
                          refine Wp.reg tiok mix hc (by kernel_rfl) (ah := none) (rs := [some (.no)]) (kt := [10, 13, 14]) (ko := [12, 13, 14]) (T' := [(10, .ra 14 0), (13, .int .i64 r_23_2), (14, .int .i64 1)]) (O' := [(12, .arr (List.map I o_23_2_0.fType)), (13, .arr (List.map GTerm_O o_23_2_0.fKids)), (14, .box [.int .i64 r_10_2_0.fOp, .int .i64 r_10_2_0.fN, .rs 12, .rs 13])]) (by kernel_rfl) trivial (by kernel_rfl) (by kernel_rfl) ?_
                          refine seqQ_norm ?_
                          refine Wp.seqN (by kernel_rfl) ?_
                          obtain ⟨r_34_2, hr_34_2, h⟩ := bsome h
                          refine Wp.reg tiok mix hc (by kernel_rfl) (ah := none) (rs := [some (.no), some (.no), some (.call (.int .i64 r_34_2) [] 1), some (.no)]) (kt := [13, 14]) (ko := []) (T' := [(13, .int .i64 r_23_2), (14, .int .i64 r_34_2)]) (O' := []) (by kernel_rfl) (And.intro (FnSound.args (A1 := [.agg [.int .i64 r_10_2_0.fOp, .int .i64 r_10_2_0.fN, .sl (shares (List.map I o_23_2_0.fType)), .sl (shares (List.map GTerm_O o_23_2_0.fKids))], .int .i64 1]) (A2 := [.agg [.int .i64 r_10_2_0.fOp, .int .i64 r_10_2_0.fN, .sl (List.map I o_23_2_0.fType), .sl (List.map GTerm_S o_23_2_0.fKids)], .int .i64 1]) (by simp only [List.map_nil, sh_GTerm_O, sh_I]) (laws_heldTerm_s _ _ hr_34_2)) (And.intro bod_22 (And.intro (Or.inr rfl : ([12, 13] : List Nat) = [] ∨ noSh (.int .i64 r_34_2) = true) trivial))) (by kernel_rfl) (by kernel_rfl) ?_
                          refine seqQ_norm ?_
                          refine Wp.seqN (by kernel_rfl) ?_
                          refine Wp.seqN (by kernel_rfl) ?_
                          refine Wp.reg tiok mix hc (by kernel_rfl) (ah := none) (rs := [some (.no), some (.no)]) (kt := [13, 14, 113]) (ko := []) (T' := [(13, .int .i64 r_23_2), (14, .int .i64 r_34_2), (113, .bool (decide (r_34_2 < 0)))]) (O' := []) (by kernel_rfl) trivial (by kernel_rfl) (by kernel_rfl) ?_
                          refine seqQ_norm ?_
                          rcases itesome h with ⟨hb_16, h⟩ | ⟨hb_16, h⟩
                          · refine Wp.condT (b := (decide (r_34_2 < 0))) (by kernel_rfl) (by kernel_rfl) hb_16 ?_
                            refine Wp.seqN (by kernel_rfl) ?_
                            refine Wp.reg tiok mix hc (by kernel_rfl) (ah := none) (rs := [some (.no)]) (kt := [4]) (ko := []) (T' := [(4, .bool false)]) (O' := []) (by kernel_rfl) trivial (by kernel_rfl) (by kernel_rfl) ?_
                            refine seqQ_norm ?_
                            refine Wp.retN (by kernel_rfl) ?_
                            refine seqQ_ret ?_
                            obtain rfl := Option.some.inj h
                            exact RetQ.ret (fl := [true]) (by kernel_rfl)
                          · refine Wp.condF (b := (decide (r_34_2 < 0))) (by kernel_rfl) (by kernel_rfl) hb_16 ?_
                            refine Wp.skipN (by kernel_rfl) ?_
                            refine seqQ_norm ?_
                            refine Wp.seqN (by kernel_rfl) ?_
                            refine Wp.seqN (by kernel_rfl) ?_
                            refine Wp.reg tiok mix hc (by kernel_rfl) (ah := none) (rs := [some (.no), some (.no), some (.no)]) (kt := [116]) (ko := []) (T' := [(116, .bool (r_34_2 != r_23_2))]) (O' := []) (by kernel_rfl) trivial (by kernel_rfl) (by kernel_rfl) ?_
                            refine seqQ_norm ?_
                            rcases itesome h with ⟨hb_17, h⟩ | ⟨hb_17, h⟩
                            · refine Wp.condT (b := (r_34_2 != r_23_2)) (by kernel_rfl) (by kernel_rfl) hb_17 ?_
                              refine Wp.seqN (by kernel_rfl) ?_
                              refine Wp.reg tiok mix hc (by kernel_rfl) (ah := none) (rs := [some (.no)]) (kt := [4]) (ko := []) (T' := [(4, .bool false)]) (O' := []) (by kernel_rfl) trivial (by kernel_rfl) (by kernel_rfl) ?_
                              refine seqQ_norm ?_
                              refine Wp.retN (by kernel_rfl) ?_
                              refine seqQ_ret ?_
                              obtain rfl := Option.some.inj h
                              exact RetQ.ret (fl := [true]) (by kernel_rfl)
                            · refine Wp.condF (b := (r_34_2 != r_23_2)) (by kernel_rfl) (by kernel_rfl) hb_17 ?_
                              refine Wp.skipN (by kernel_rfl) ?_
                              refine seqQ_norm ?_
                              refine Wp.seqN (by kernel_rfl) ?_
                              refine Wp.reg tiok mix hc (by kernel_rfl) (ah := none) (rs := [some (.no)]) (kt := [4]) (ko := []) (T' := [(4, .bool true)]) (O' := []) (by kernel_rfl) trivial (by kernel_rfl) (by kernel_rfl) ?_
                              refine seqQ_norm ?_
                              refine Wp.retN (by kernel_rfl) ?_
                              obtain rfl := Option.some.inj h
                              exact RetQ.ret (fl := [true]) (by kernel_rfl)
            · refine Wp.condT (b := (!r_15_3)) (by kernel_rfl) (by kernel_rfl) (nT hb_7) ?_
              refine Wp.seqN (by kernel_rfl) ?_
              refine Wp.reg tiok mix hc (by kernel_rfl) (ah := none) (rs := [some (.no)]) (kt := [4]) (ko := []) (T' := [(4, .bool false)]) (O' := []) (by kernel_rfl) trivial (by kernel_rfl) (by kernel_rfl) ?_
              refine seqQ_norm ?_
              refine Wp.retN (by kernel_rfl) ?_
              refine seqQ_ret ?_
              obtain rfl := Option.some.inj h
              exact RetQ.ret (fl := [true]) (by kernel_rfl)
          · refine Wp.condT (b := (!r_13_3)) (by kernel_rfl) (by kernel_rfl) (nT hb_6) ?_
            refine Wp.seqN (by kernel_rfl) ?_
            refine Wp.reg tiok mix hc (by kernel_rfl) (ah := none) (rs := [some (.no)]) (kt := [4]) (ko := []) (T' := [(4, .bool false)]) (O' := []) (by kernel_rfl) trivial (by kernel_rfl) (by kernel_rfl) ?_
            refine seqQ_norm ?_
            refine Wp.retN (by kernel_rfl) ?_
            refine seqQ_ret ?_
            obtain rfl := Option.some.inj h
            exact RetQ.ret (fl := [true]) (by kernel_rfl)
end Go.Am
