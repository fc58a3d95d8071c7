/- Functions of the program as pure functions, and that it computes them. Printed by a program of mine (gen.py). -/
import Derived.Test.YtlegifoeekcolaaGKEF3
set_option linter.unusedVariables false
set_option linter.unusedSimpArgs false
set_option maxRecDepth 100000
namespace Go.Am
open Go Go.Proofs
def laws_eqCellS_l0 (p : (List GCell) × (List GCell) × Int) : Option ((Unit) ⊕ (Bool)) :=
  match p with
  | (a0, b1, i_4) =>
    if (decide (i_4 < (a0.length : Int))) = true then
      (idx a0 i_4) >>= fun e_6_2 =>
      (idx b1 i_4) >>= fun e_6_6 =>
      (laws_eqCell (e_6_2, e_6_6)) >>= fun r_6_8 =>
      if r_6_8 = true then
        laws_eqCellS_l0 (a0, b1, (wr (i_4 + 1)))
      else
        some (.inr false)
    else
      some (.inl ())
  partial_fixpoint
def M_laws_eqCellS_l0 (p : (List GCell) × (List GCell) × Int) (fl : (Unit) ⊕ (Bool)) : Prop :=
  match p with
  | (a0, b1, i_4) => ∀ c : Ctx, c.nt = 27 → WpL Try.prog c (cl (cl (cr (cl (cr (cr B18)))))) (laws_eqCellS_F1 c fl) (mkS [(0, .sl (List.map GCell_v a0)), (1, .sl (List.map GCell_v b1)), (5, .int .i64 i_4)] [])
theorem laws_eqCellS_l0_s : ∀ p r, laws_eqCellS_l0 p = some r → M_laws_eqCellS_l0 p r := by
  refine laws_eqCellS_l0.partial_correctness M_laws_eqCellS_l0 ?_
  rintro laws_eqCellS_l0_f laws_eqCellS_l0_ih ⟨a0, b1, i_4⟩ r h
  intro c hc
  show WpL Try.prog c (cl (cl (cr (cl (cr (cr B18)))))) (laws_eqCellS_F1 c r) (mkS [(0, .sl (List.map GCell_v a0)), (1, .sl (List.map GCell_v b1)), (5, .int .i64 i_4)] [])
  refine WpL.step ?_
  refine Wp.seqN (by kernel_rfl) ?_
  refine Wp.seqN (by kernel_rfl) ?_
  refine Wp.reg tiok mix hc (by kernel_rfl) (ah := none) (rs := [some (.no), some (.no), some (.eqv (.no) ⟨[(13, .int .i64 (a0.length : Int))], [], []⟩), some (.no)]) (kt := [0, 1, 5, 14]) (ko := []) (T' := [(0, .sl (List.map GCell_v a0)), (1, .sl (List.map GCell_v b1)), (5, .int .i64 i_4), (14, .bool (decide (i_4 < (a0.length : Int))))]) (O' := []) (by kernel_rfl) (And.intro (lenT (d := 13) GCell_v a0) trivial) (by kernel_rfl) (by kernel_rfl) ?_
  refine seqQ_norm ?_
  rcases itesome h with ⟨hb_5, h⟩ | ⟨hb_5, h⟩
  · refine Wp.condT (b := (decide (i_4 < (a0.length : Int)))) (by kernel_rfl) (by kernel_rfl) hb_5 ?_
    refine Wp.skipN (by kernel_rfl) ?_
    refine seqQ_norm ?_
    refine Wp.seqN (by kernel_rfl) ?_
    refine Wp.blockN (i := 1) (by kernel_rfl) ?_
    refine Wp.seqN (by kernel_rfl) ?_
    obtain ⟨e_6_2, hi_6_2, h⟩ := bsome h
    obtain ⟨e_6_6, hi_6_6, h⟩ := bsome h
    obtain ⟨r_6_8, hr_6_8, h⟩ := bsome h
    refine Wp.reg tiok mix hc (by kernel_rfl) (ah := (some [[], [], [0, 1], [0, 1, 2], [], [], [4, 5], [4, 5, 6], [0, 1, 2, 3, 4, 5, 6, 7], [0, 1, 2, 3, 4, 5, 6, 7, 8]])) (rs := [some (.no), some (.no), some (.el (.agg [.int .i64 e_6_2.fBudget, .int .i64 e_6_2.fBooked])), some (.no), some (.no), some (.no), some (.el (.agg [.int .i64 e_6_6.fBudget, .int .i64 e_6_6.fBooked])), some (.no), some (.call (.bool r_6_8) [] 1), some (.no)]) (kt := [0, 1, 5, 26]) (ko := []) (T' := [(0, .sl (List.map GCell_v a0)), (1, .sl (List.map GCell_v b1)), (5, .int .i64 i_4), (26, .bool (!r_6_8))]) (O' := []) (by kernel_rfl) (And.intro (idx_sl (enc := GCell_v) (x := .agg [.int .i64 e_6_2.fBudget, .int .i64 e_6_2.fBooked]) hi_6_2 (eq_GCell_v e_6_2)) (And.intro (idx_sl (enc := GCell_v) (x := .agg [.int .i64 e_6_6.fBudget, .int .i64 e_6_6.fBooked]) hi_6_6 (eq_GCell_v e_6_6)) (And.intro (laws_eqCell_s _ _ hr_6_8) (And.intro bod_56 (And.intro (Or.inl rfl : ([] : List Nat) = [] ∨ noSh (.bool r_6_8) = true) trivial))))) (by kernel_rfl) (by kernel_rfl) ?_
    refine seqQ_norm ?_
    rcases itesome h with ⟨hb_6, h⟩ | ⟨hb_6, h⟩
    · refine Wp.condF (b := (!r_6_8)) (by kernel_rfl) (by kernel_rfl) (nF hb_6) ?_
      refine Wp.skipN (by kernel_rfl) ?_
      refine blockQ_norm ?_
      refine seqQ_norm ?_
      refine Wp.reg tiok mix hc (by kernel_rfl) (ah := none) (rs := [some (.no), some (.no), some (.no)]) (kt := [0, 1, 5]) (ko := []) (T' := [(0, .sl (List.map GCell_v a0)), (1, .sl (List.map GCell_v b1)), (5, .int .i64 (wr (i_4 + 1)))]) (O' := []) (by kernel_rfl) trivial (by kernel_rfl) (by kernel_rfl) ?_
      refine loopQ_norm ?_
      exact (laws_eqCellS_l0_ih _ _ h c hc)
    · refine Wp.condT (b := (!r_6_8)) (by kernel_rfl) (by kernel_rfl) (nT hb_6) ?_
      refine Wp.seqN (by kernel_rfl) ?_
      refine Wp.reg tiok mix hc (by kernel_rfl) (ah := none) (rs := [some (.no)]) (kt := [4]) (ko := []) (T' := [(4, .bool false)]) (O' := []) (by kernel_rfl) trivial (by kernel_rfl) (by kernel_rfl) ?_
      refine seqQ_norm ?_
      refine Wp.retN (by kernel_rfl) ?_
      refine blockQ_ret ?_
      refine seqQ_ret ?_
      refine loopQ_ret ?_
      obtain rfl := Option.some.inj h
      exact RetE.ret (fl := [true]) (by kernel_rfl)
  · refine Wp.condF (b := (decide (i_4 < (a0.length : Int)))) (by kernel_rfl) (by kernel_rfl) hb_5 ?_
    refine Wp.exitN (i := 0) (by kernel_rfl) ?_
    refine seqQ_exit ?_
    refine loopQ_exit ?_
    obtain rfl := Option.some.inj h
    exact Into.view (fun a w hv => SRx.renL [] hv (by kernel_rfl) (by kernel_rfl) (by kernel_rfl))
def laws_eqCellS (p : (List GCell) × (List GCell)) : Option (Bool) :=
  match p with
  | (a0, b1) =>
    if ((a0.length : Int) != (b1.length : Int)) = true then
      some false
    else
      (laws_eqCellS_l0 (a0, b1, 0)) >>= fun fl => match fl with
      | .inl () =>
        some true
      | .inr r =>
        some r
def M_laws_eqCellS (p : (List GCell) × (List GCell)) (r : Bool) : Prop :=
  match p with
  | (a0, b1) => FnSound Try.prog 18 [.sl (List.map GCell_v a0), .sl (List.map GCell_v b1)] (.bool r) []
theorem laws_eqCellS_s : ∀ p r, laws_eqCellS p = some r → M_laws_eqCellS p r := by
  rintro ⟨a0, b1⟩ r h
  unfold laws_eqCellS at h
  show FnSound Try.prog 18 [.sl (List.map GCell_v a0), .sl (List.map GCell_v b1)] (.bool r) []
  refine FnSound.body0 tiok (fn := Try.f18) (code := B18) (by kernel_rfl) (by kernel_rfl) (by kernel_rfl) (by kernel_rfl) (nt := 27) (by kernel_rfl) (by kernel_rfl) (T := [(0, .sl (List.map GCell_v a0)), (1, .sl (List.map GCell_v b1))]) (O := []) (by kernel_rfl) (by kernel_rfl) (fun c hc => ?_)
  refine Wp.seqN (by kernel_rfl) ?_
  refine Wp.reg tiok mix hc (by kernel_rfl) (ah := none) (rs := [some (.no)]) (kt := [0, 1]) (ko := []) (T' := [(0, .sl (List.map GCell_v a0)), (1, .sl (List.map GCell_v b1))]) (O' := []) (by kernel_rfl) trivial (by kernel_rfl) (by kernel_rfl) ?_
  refine seqQ_norm ?_
  refine Wp.seqN (by kernel_rfl) ?_
  refine Wp.seqN (by kernel_rfl) ?_
  refine Wp.reg tiok mix hc (by kernel_rfl) (ah := none) (rs := [some (.no), some (.eqv (.no) ⟨[(7, .int .i64 (a0.length : Int))], [], []⟩), some (.no), some (.eqv (.no) ⟨[(9, .int .i64 (b1.length : Int))], [], []⟩), some (.no)]) (kt := [0, 1, 10]) (ko := []) (T' := [(0, .sl (List.map GCell_v a0)), (1, .sl (List.map GCell_v b1)), (10, .bool ((a0.length : Int) != (b1.length : Int)))]) (O' := []) (by kernel_rfl) (And.intro (lenT (d := 7) GCell_v a0) (And.intro (lenT (d := 9) GCell_v b1) trivial)) (by kernel_rfl) (by kernel_rfl) ?_
  refine seqQ_norm ?_
  rcases itesome h with ⟨hb_1, h⟩ | ⟨hb_1, h⟩
  · refine Wp.condT (b := ((a0.length : Int) != (b1.length : Int))) (by kernel_rfl) (by kernel_rfl) hb_1 ?_
    refine Wp.seqN (by kernel_rfl) ?_
    refine Wp.reg tiok mix hc (by kernel_rfl) (ah := none) (rs := [some (.no)]) (kt := [4]) (ko := []) (T' := [(4, .bool false)]) (O' := []) (by kernel_rfl) trivial (by kernel_rfl) (by kernel_rfl) ?_
    refine seqQ_norm ?_
    refine Wp.retN (by kernel_rfl) ?_
    refine seqQ_ret ?_
    obtain rfl := Option.some.inj h
    exact RetQ.ret (fl := [true]) (by kernel_rfl)
  · refine Wp.condF (b := ((a0.length : Int) != (b1.length : Int))) (by kernel_rfl) (by kernel_rfl) hb_1 ?_
    refine Wp.skipN (by kernel_rfl) ?_
    refine seqQ_norm ?_
    refine Wp.seqN (by kernel_rfl) ?_
    refine Wp.seqN (by kernel_rfl) ?_
    refine Wp.reg tiok mix hc (by kernel_rfl) (ah := none) (rs := [some (.no)]) (kt := [0, 1, 5]) (ko := []) (T' := [(0, .sl (List.map GCell_v a0)), (1, .sl (List.map GCell_v b1)), (5, .int .i64 0)]) (O' := []) (by kernel_rfl) trivial (by kernel_rfl) (by kernel_rfl) ?_
    refine seqQ_norm ?_
    refine Wp.blockN (i := 0) (by kernel_rfl) ?_
    obtain ⟨fl, hl_7, h⟩ := bsome h
    have hL := laws_eqCellS_l0_s _ _ hl_7 c hc
    refine Wp.loopN (by kernel_rfl) ?_
    rcases fl with ⟨⟩ | r
    · refine WpL.into (e := (.exit 0)) (mkS [] []) hL ?_
      refine blockQ_hit ?_
      refine seqQ_norm ?_
      refine Wp.seqN (by kernel_rfl) ?_
      refine Wp.reg tiok mix hc (by kernel_rfl) (ah := none) (rs := [some (.no)]) (kt := [4]) (ko := []) (T' := [(4, .bool true)]) (O' := []) (by kernel_rfl) trivial (by kernel_rfl) (by kernel_rfl) ?_
      refine seqQ_norm ?_
      refine Wp.retN (by kernel_rfl) ?_
      obtain rfl := Option.some.inj h
      exact RetQ.ret (fl := [true]) (by kernel_rfl)
    · refine WpL.mono hL ?_
      rintro _ _ ⟨rfl, hfin⟩
      refine blockQ_ret ?_
      refine seqQ_ret ?_
      obtain rfl := Option.some.inj h
      exact ⟨.inl rfl, hfin⟩
def laws_FnExactKeeps (p : GSystem × (List GCell)) : Option (Bool) :=
  match p with
  | (aS0, aCells1) =>
    (laws_szSystem (aS0, 1048576)) >>= fun r_2_2 =>
    if (decide (r_2_2 < 0)) = true then
      some true
    else
      (laws_szCellS (aCells1, r_2_2)) >>= fun r_5_2 =>
      if (decide (r_5_2 < 0)) = true then
        some true
      else
        (laws_toSystem aS0) >>= fun r_8_1 =>
        (laws_toCellS aCells1) >>= fun r_8_3 =>
        (spec_Keeps (r_8_1, r_8_3)) >>= fun r_8_4 =>
        (laws_toSystem aS0) >>= fun r_9_1 =>
        (laws_toCellS aCells1) >>= fun r_10_1 =>
        (impl_Keeps (r_9_1, r_10_1)) >>= fun r_11_2 =>
        if (r_11_2 == r_8_4) = true then
          (laws_toSystem aS0) >>= fun r_14_2 =>
          (laws_eqSystem (r_9_1, r_14_2)) >>= fun r_14_3 =>
          if r_14_3 = true then
            (laws_toCellS aCells1) >>= fun r_16_2 =>
            (laws_eqCellS (r_10_1, r_16_2)) >>= fun r_16_3 =>
            if r_16_3 = true then
              some true
            else
              some false
          else
            some false
        else
          some false
def M_laws_FnExactKeeps (p : GSystem × (List GCell)) (r : Bool) : Prop :=
  match p with
  | (aS0, aCells1) => FnSound Try.prog 3 [.agg [.int .i64 aS0.fSize, .sl (List.map I aS0.fPlus), .sl (List.map I aS0.fTimes), .sl (List.map AV.bool aS0.fBelow)], .sl (List.map GCell_v aCells1)] (.bool r) []
theorem laws_FnExactKeeps_s : ∀ p r, laws_FnExactKeeps p = some r → M_laws_FnExactKeeps p r := by
  rintro ⟨aS0, aCells1⟩ r h
  unfold laws_FnExactKeeps at h
  show FnSound Try.prog 3 [.agg [.int .i64 aS0.fSize, .sl (List.map I aS0.fPlus), .sl (List.map I aS0.fTimes), .sl (List.map AV.bool aS0.fBelow)], .sl (List.map GCell_v aCells1)] (.bool r) []
  refine FnSound.body0 tiok (fn := Try.f3) (code := B3) (by kernel_rfl) (by kernel_rfl) (by kernel_rfl) (by kernel_rfl) (nt := 45) (by kernel_rfl) (by kernel_rfl) (T := [(0, .agg [.int .i64 aS0.fSize, .sl (List.map I aS0.fPlus), .sl (List.map I aS0.fTimes), .sl (List.map AV.bool aS0.fBelow)]), (1, .sl (List.map GCell_v aCells1))]) (O := []) (by kernel_rfl) (by kernel_rfl) (fun c hc => ?_)
  refine Wp.seqN (by kernel_rfl) ?_
  refine Wp.reg tiok mix hc (by kernel_rfl) (ah := none) (rs := [some (.new 1), some (.no)]) (kt := [1, 2]) (ko := [1]) (T' := [(1, .sl (List.map GCell_v aCells1)), (2, .ra 1 0)]) (O' := [(1, .box [.int .i64 aS0.fSize, .sl (List.map I aS0.fPlus), .sl (List.map I aS0.fTimes), .sl (List.map AV.bool aS0.fBelow)])]) (by kernel_rfl) trivial (by kernel_rfl) (by kernel_rfl) ?_
  refine seqQ_norm ?_
  refine Wp.seqN (by kernel_rfl) ?_
  refine Wp.reg tiok mix hc (by kernel_rfl) (ah := none) (rs := [some (.no)]) (kt := [1, 2, 5]) (ko := [1]) (T' := [(1, .sl (List.map GCell_v aCells1)), (2, .ra 1 0), (5, .int .i64 1048576)]) (O' := [(1, .box [.int .i64 aS0.fSize, .sl (List.map I aS0.fPlus), .sl (List.map I aS0.fTimes), .sl (List.map AV.bool aS0.fBelow)])]) (by kernel_rfl) trivial (by kernel_rfl) (by kernel_rfl) ?_
  refine seqQ_norm ?_
  refine Wp.seqN (by kernel_rfl) ?_
  obtain ⟨r_2_2, hr_2_2, h⟩ := bsome h
  refine Wp.reg tiok mix hc (by kernel_rfl) (ah := none) (rs := [some (.no), some (.no), some (.call (.int .i64 r_2_2) [] 1), some (.no)]) (kt := [1, 2, 5]) (ko := [1]) (T' := [(1, .sl (List.map GCell_v aCells1)), (2, .ra 1 0), (5, .int .i64 r_2_2)]) (O' := [(1, .box [.int .i64 aS0.fSize, .sl (List.map I aS0.fPlus), .sl (List.map I aS0.fTimes), .sl (List.map AV.bool aS0.fBelow)])]) (by kernel_rfl) (And.intro (laws_szSystem_s _ _ hr_2_2) (And.intro bod_11 (And.intro (Or.inl rfl : ([] : List Nat) = [] ∨ noSh (.int .i64 r_2_2) = true) trivial))) (by kernel_rfl) (by kernel_rfl) ?_
  refine seqQ_norm ?_
  refine Wp.seqN (by kernel_rfl) ?_
  refine Wp.seqN (by kernel_rfl) ?_
  refine Wp.reg tiok mix hc (by kernel_rfl) (ah := none) (rs := [some (.no), some (.no)]) (kt := [1, 2, 5, 14]) (ko := [1]) (T' := [(1, .sl (List.map GCell_v aCells1)), (2, .ra 1 0), (5, .int .i64 r_2_2), (14, .bool (decide (r_2_2 < 0)))]) (O' := [(1, .box [.int .i64 aS0.fSize, .sl (List.map I aS0.fPlus), .sl (List.map I aS0.fTimes), .sl (List.map AV.bool aS0.fBelow)])]) (by kernel_rfl) trivial (by kernel_rfl) (by kernel_rfl) ?_
  refine seqQ_norm ?_
  rcases itesome h with ⟨hb_1, h⟩ | ⟨hb_1, h⟩
  · refine Wp.condT (b := (decide (r_2_2 < 0))) (by kernel_rfl) (by kernel_rfl) hb_1 ?_
    refine Wp.seqN (by kernel_rfl) ?_
    refine Wp.reg tiok mix hc (by kernel_rfl) (ah := none) (rs := [some (.no)]) (kt := [4]) (ko := []) (T' := [(4, .bool true)]) (O' := []) (by kernel_rfl) trivial (by kernel_rfl) (by kernel_rfl) ?_
    refine seqQ_norm ?_
    refine Wp.retN (by kernel_rfl) ?_
    refine seqQ_ret ?_
    obtain rfl := Option.some.inj h
    exact RetQ.ret (fl := [true]) (by kernel_rfl)
  · refine Wp.condF (b := (decide (r_2_2 < 0))) (by kernel_rfl) (by kernel_rfl) hb_1 ?_
    refine Wp.skipN (by kernel_rfl) ?_
    refine seqQ_norm ?_
    refine Wp.seqN (by kernel_rfl) ?_
    obtain ⟨r_5_2, hr_5_2, h⟩ := bsome h
    refine Wp.reg tiok mix hc (by kernel_rfl) (ah := none) (rs := [some (.no), some (.no), some (.call (.int .i64 r_5_2) [] 1), some (.no)]) (kt := [1, 2, 5]) (ko := [1]) (T' := [(1, .sl (List.map GCell_v aCells1)), (2, .ra 1 0), (5, .int .i64 r_5_2)]) (O' := [(1, .box [.int .i64 aS0.fSize, .sl (List.map I aS0.fPlus), .sl (List.map I aS0.fTimes), .sl (List.map AV.bool aS0.fBelow)])]) (by kernel_rfl) (And.intro (laws_szCellS_s _ _ hr_5_2) (And.intro bod_12 (And.intro (Or.inl rfl : ([] : List Nat) = [] ∨ noSh (.int .i64 r_5_2) = true) trivial))) (by kernel_rfl) (by kernel_rfl) ?_
    refine seqQ_norm ?_
    refine Wp.seqN (by kernel_rfl) ?_
    refine Wp.seqN (by kernel_rfl) ?_
    refine Wp.reg tiok mix hc (by kernel_rfl) (ah := none) (rs := [some (.no), some (.no)]) (kt := [1, 2, 19]) (ko := [1]) (T' := [(1, .sl (List.map GCell_v aCells1)), (2, .ra 1 0), (19, .bool (decide (r_5_2 < 0)))]) (O' := [(1, .box [.int .i64 aS0.fSize, .sl (List.map I aS0.fPlus), .sl (List.map I aS0.fTimes), .sl (List.map AV.bool aS0.fBelow)])]) (by kernel_rfl) trivial (by kernel_rfl) (by kernel_rfl) ?_
    refine seqQ_norm ?_
    rcases itesome h with ⟨hb_2, h⟩ | ⟨hb_2, h⟩
    · refine Wp.condT (b := (decide (r_5_2 < 0))) (by kernel_rfl) (by kernel_rfl) hb_2 ?_
      refine Wp.seqN (by kernel_rfl) ?_
      refine Wp.reg tiok mix hc (by kernel_rfl) (ah := none) (rs := [some (.no)]) (kt := [4]) (ko := []) (T' := [(4, .bool true)]) (O' := []) (by kernel_rfl) trivial (by kernel_rfl) (by kernel_rfl) ?_
      refine seqQ_norm ?_
      refine Wp.retN (by kernel_rfl) ?_
      refine seqQ_ret ?_
      obtain rfl := Option.some.inj h
      exact RetQ.ret (fl := [true]) (by kernel_rfl)
    · refine Wp.condF (b := (decide (r_5_2 < 0))) (by kernel_rfl) (by kernel_rfl) hb_2 ?_
      refine Wp.skipN (by kernel_rfl) ?_
      refine seqQ_norm ?_
      refine Wp.seqN (by kernel_rfl) ?_
      obtain ⟨r_8_1, hr_8_1, h⟩ := bsome h
      obtain ⟨r_8_3, hr_8_3, h⟩ := bsome h
      obtain ⟨r_8_4, hr_8_4, h⟩ := bsome h
      refine Wp.reg tiok mix hc (by kernel_rfl) (ah := none) (rs := [some (.no), some (.call (.agg [.int .i64 r_8_1.fSize, .osl (List.map I r_8_1.fPlus), .osl (List.map I r_8_1.fTimes), .osl (List.map AV.bool r_8_1.fBelow)]) [] 2), some (.no), some (.call (.osl (List.map GCell_v r_8_3)) [] 5), some (.call (.bool r_8_4) [] 1), some (.no)]) (kt := [1, 2, 6]) (ko := [1]) (T' := [(1, .sl (List.map GCell_v aCells1)), (2, .ra 1 0), (6, .bool r_8_4)]) (O' := [(1, .box [.int .i64 aS0.fSize, .sl (List.map I aS0.fPlus), .sl (List.map I aS0.fTimes), .sl (List.map AV.bool aS0.fBelow)])]) (by kernel_rfl) (And.intro (laws_toSystem_s _ _ hr_8_1) (And.intro bod_14 (And.intro (Or.inl rfl : ([] : List Nat) = [] ∨ noSh (.agg [.int .i64 r_8_1.fSize, .osl (List.map I r_8_1.fPlus), .osl (List.map I r_8_1.fTimes), .osl (List.map AV.bool r_8_1.fBelow)]) = true) (And.intro (laws_toCellS_s _ _ hr_8_3) (And.intro bod_15 (And.intro (Or.inl rfl : ([] : List Nat) = [] ∨ noSh (.osl (List.map GCell_v r_8_3)) = true) (And.intro (FnSound.args (A1 := [.agg [.int .i64 r_8_1.fSize, .sl (shares (List.map I r_8_1.fPlus)), .sl (shares (List.map I r_8_1.fTimes)), .sl (shares (List.map AV.bool r_8_1.fBelow))], .sl (shares (List.map GCell_v r_8_3))]) (A2 := [.agg [.int .i64 r_8_1.fSize, .sl (List.map I r_8_1.fPlus), .sl (List.map I r_8_1.fTimes), .sl (List.map AV.bool r_8_1.fBelow)], .sl (List.map GCell_v r_8_3)]) (by simp only [List.map_nil, sh_B, sh_GCell_v, sh_I]) (spec_Keeps_s _ _ hr_8_4)) (And.intro bod_13 (And.intro (Or.inr rfl : ([2, 3, 4, 5] : List Nat) = [] ∨ noSh (.bool r_8_4) = true) trivial))))))))) (by kernel_rfl) (by kernel_rfl) ?_
      refine seqQ_norm ?_
      refine Wp.seqN (by kernel_rfl) ?_
      obtain ⟨r_9_1, hr_9_1, h⟩ := bsome h
      refine Wp.reg tiok mix hc (by kernel_rfl) (ah := none) (rs := [some (.no), some (.call (.agg [.int .i64 r_9_1.fSize, .osl (List.map I r_9_1.fPlus), .osl (List.map I r_9_1.fTimes), .osl (List.map AV.bool r_9_1.fBelow)]) [] 6), some (.new 9), some (.no)]) (kt := [1, 2, 6, 7]) (ko := [1, 6, 7, 8, 9]) (T' := [(1, .sl (List.map GCell_v aCells1)), (2, .ra 1 0), (6, .bool r_8_4), (7, .ra 9 0)]) (O' := [(1, .box [.int .i64 aS0.fSize, .sl (List.map I aS0.fPlus), .sl (List.map I aS0.fTimes), .sl (List.map AV.bool aS0.fBelow)]), (6, .arr (List.map I r_9_1.fPlus)), (7, .arr (List.map I r_9_1.fTimes)), (8, .arr (List.map AV.bool r_9_1.fBelow)), (9, .box [.int .i64 r_9_1.fSize, .rs 6, .rs 7, .rs 8])]) (by kernel_rfl) (And.intro (laws_toSystem_s _ _ hr_9_1) (And.intro bod_14 (And.intro (Or.inl rfl : ([] : List Nat) = [] ∨ noSh (.agg [.int .i64 r_9_1.fSize, .osl (List.map I r_9_1.fPlus), .osl (List.map I r_9_1.fTimes), .osl (List.map AV.bool r_9_1.fBelow)]) = true) trivial))) (by kernel_rfl) (by kernel_rfl) ?_
      refine seqQ_norm ?_
      refine Wp.seqN (by kernel_rfl) ?_
      obtain ⟨r_10_1, hr_10_1, h⟩ := bsome h
      refine Wp.reg tiok mix hc (by kernel_rfl) (ah := none) (rs := [some (.no), some (.call (.osl (List.map GCell_v r_10_1)) [] 10), some (.no)]) (kt := [1, 2, 6, 7, 8]) (ko := [1, 6, 7, 8, 9, 10]) (T' := [(1, .sl (List.map GCell_v aCells1)), (2, .ra 1 0), (6, .bool r_8_4), (7, .ra 9 0), (8, .rs 10)]) (O' := [(1, .box [.int .i64 aS0.fSize, .sl (List.map I aS0.fPlus), .sl (List.map I aS0.fTimes), .sl (List.map AV.bool aS0.fBelow)]), (6, .arr (List.map I r_9_1.fPlus)), (7, .arr (List.map I r_9_1.fTimes)), (8, .arr (List.map AV.bool r_9_1.fBelow)), (9, .box [.int .i64 r_9_1.fSize, .rs 6, .rs 7, .rs 8]), (10, .arr (List.map GCell_v r_10_1))]) (by kernel_rfl) (And.intro (laws_toCellS_s _ _ hr_10_1) (And.intro bod_15 (And.intro (Or.inl rfl : ([] : List Nat) = [] ∨ noSh (.osl (List.map GCell_v r_10_1)) = true) trivial))) (by kernel_rfl) (by kernel_rfl) ?_
      refine seqQ_norm ?_
      refine Wp.seqN (by kernel_rfl) ?_
      obtain ⟨r_11_2, hr_11_2, h⟩ := bsome h
      refine Wp.reg tiok mix hc (by kernel_rfl) (ah := none) (rs := [some (.no), some (.no), some (.call (.bool r_11_2) [] 1), some (.no)]) (kt := [1, 2, 6, 7, 8, 9]) (ko := [1, 6, 7, 8, 9, 10]) (T' := [(1, .sl (List.map GCell_v aCells1)), (2, .ra 1 0), (6, .bool r_8_4), (7, .ra 9 0), (8, .rs 10), (9, .bool r_11_2)]) (O' := [(1, .box [.int .i64 aS0.fSize, .sl (List.map I aS0.fPlus), .sl (List.map I aS0.fTimes), .sl (List.map AV.bool aS0.fBelow)]), (6, .arr (List.map I r_9_1.fPlus)), (7, .arr (List.map I r_9_1.fTimes)), (8, .arr (List.map AV.bool r_9_1.fBelow)), (9, .box [.int .i64 r_9_1.fSize, .rs 6, .rs 7, .rs 8]), (10, .arr (List.map GCell_v r_10_1))]) (by kernel_rfl) (And.intro (FnSound.args (A1 := [.agg [.int .i64 r_9_1.fSize, .sl (shares (List.map I r_9_1.fPlus)), .sl (shares (List.map I r_9_1.fTimes)), .sl (shares (List.map AV.bool r_9_1.fBelow))], .sl (shares (List.map GCell_v r_10_1))]) (A2 := [.agg [.int .i64 r_9_1.fSize, .sl (List.map I r_9_1.fPlus), .sl (List.map I r_9_1.fTimes), .sl (List.map AV.bool r_9_1.fBelow)], .sl (List.map GCell_v r_10_1)]) (by simp only [List.map_nil, sh_B, sh_GCell_v, sh_I]) (impl_Keeps_s _ _ hr_11_2)) (And.intro bod_16 (And.intro (Or.inr rfl : ([6, 7, 8, 10] : List Nat) = [] ∨ noSh (.bool r_11_2) = true) trivial))) (by kernel_rfl) (by kernel_rfl) ?_
      refine seqQ_norm ?_
      refine Wp.seqN (by kernel_rfl) ?_
      refine Wp.seqN (by kernel_rfl) ?_
      refine Wp.reg tiok mix hc (by kernel_rfl) (ah := none) (rs := [some (.no), some (.no), some (.no)]) (kt := [1, 2, 7, 8, 34]) (ko := [1, 6, 7, 8, 9, 10]) (T' := [(1, .sl (List.map GCell_v aCells1)), (2, .ra 1 0), (7, .ra 9 0), (8, .rs 10), (34, .bool (!(r_11_2 == r_8_4)))]) (O' := [(1, .box [.int .i64 aS0.fSize, .sl (List.map I aS0.fPlus), .sl (List.map I aS0.fTimes), .sl (List.map AV.bool aS0.fBelow)]), (6, .arr (List.map I r_9_1.fPlus)), (7, .arr (List.map I r_9_1.fTimes)), (8, .arr (List.map AV.bool r_9_1.fBelow)), (9, .box [.int .i64 r_9_1.fSize, .rs 6, .rs 7, .rs 8]), (10, .arr (List.map GCell_v r_10_1))]) (by kernel_rfl) trivial (by kernel_rfl) (by kernel_rfl) ?_
      refine seqQ_norm ?_
      rcases itesome h with ⟨hb_3, h⟩ | ⟨hb_3, h⟩
      · refine Wp.condF (b := (!(r_11_2 == r_8_4))) (by kernel_rfl) (by kernel_rfl) (nF hb_3) ?_
        refine Wp.skipN (by kernel_rfl) ?_
        refine seqQ_norm ?_
        refine Wp.seqN (by kernel_rfl) ?_
        refine Wp.seqN (by kernel_rfl) ?_
        obtain ⟨r_14_2, hr_14_2, h⟩ := bsome h
        obtain ⟨r_14_3, hr_14_3, h⟩ := bsome h
        refine Wp.reg tiok mix hc (by kernel_rfl) (ah := (some [[], [], [1], [0, 1, 2], [0, 1, 2, 3]])) (rs := [some (.no), some (.no), some (.call (.agg [.int .i64 r_14_2.fSize, .osl (List.map I r_14_2.fPlus), .osl (List.map I r_14_2.fTimes), .osl (List.map AV.bool r_14_2.fBelow)]) [] 11), some (.call (.bool r_14_3) [] 1), some (.no)]) (kt := [1, 8, 39]) (ko := [10]) (T' := [(1, .sl (List.map GCell_v aCells1)), (8, .rs 10), (39, .bool (!r_14_3))]) (O' := [(10, .arr (List.map GCell_v r_10_1))]) (by kernel_rfl) (And.intro (laws_toSystem_s _ _ hr_14_2) (And.intro bod_14 (And.intro (Or.inl rfl : ([] : List Nat) = [] ∨ noSh (.agg [.int .i64 r_14_2.fSize, .osl (List.map I r_14_2.fPlus), .osl (List.map I r_14_2.fTimes), .osl (List.map AV.bool r_14_2.fBelow)]) = true) (And.intro (FnSound.args (A1 := [.agg [.int .i64 r_9_1.fSize, .sl (shares (List.map I r_9_1.fPlus)), .sl (shares (List.map I r_9_1.fTimes)), .sl (shares (List.map AV.bool r_9_1.fBelow))], .agg [.int .i64 r_14_2.fSize, .sl (shares (List.map I r_14_2.fPlus)), .sl (shares (List.map I r_14_2.fTimes)), .sl (shares (List.map AV.bool r_14_2.fBelow))]]) (A2 := [.agg [.int .i64 r_9_1.fSize, .sl (List.map I r_9_1.fPlus), .sl (List.map I r_9_1.fTimes), .sl (List.map AV.bool r_9_1.fBelow)], .agg [.int .i64 r_14_2.fSize, .sl (List.map I r_14_2.fPlus), .sl (List.map I r_14_2.fTimes), .sl (List.map AV.bool r_14_2.fBelow)]]) (by simp only [List.map_nil, sh_B, sh_I]) (laws_eqSystem_s _ _ hr_14_3)) (And.intro bod_17 (And.intro (Or.inr rfl : ([6, 7, 8, 11, 12, 13] : List Nat) = [] ∨ noSh (.bool r_14_3) = true) trivial)))))) (by kernel_rfl) (by kernel_rfl) ?_
        refine seqQ_norm ?_
        rcases itesome h with ⟨hb_4, h⟩ | ⟨hb_4, h⟩
        · refine Wp.condF (b := (!r_14_3)) (by kernel_rfl) (by kernel_rfl) (nF hb_4) ?_
          refine Wp.skipN (by kernel_rfl) ?_
          refine seqQ_norm ?_
          refine Wp.seqN (by kernel_rfl) ?_
          refine Wp.seqN (by kernel_rfl) ?_
          obtain ⟨r_16_2, hr_16_2, h⟩ := bsome h
          obtain ⟨r_16_3, hr_16_3, h⟩ := bsome h
          refine Wp.reg tiok mix hc (by kernel_rfl) (ah := none) (rs := [some (.no), some (.no), some (.call (.osl (List.map GCell_v r_16_2)) [] 14), some (.call (.bool r_16_3) [] 1), some (.no)]) (kt := [44]) (ko := []) (T' := [(44, .bool (!r_16_3))]) (O' := []) (by kernel_rfl) (And.intro (laws_toCellS_s _ _ hr_16_2) (And.intro bod_15 (And.intro (Or.inl rfl : ([] : List Nat) = [] ∨ noSh (.osl (List.map GCell_v r_16_2)) = true) (And.intro (FnSound.args (A1 := [.sl (shares (List.map GCell_v r_10_1)), .sl (shares (List.map GCell_v r_16_2))]) (A2 := [.sl (List.map GCell_v r_10_1), .sl (List.map GCell_v r_16_2)]) (by simp only [List.map_nil, sh_GCell_v]) (laws_eqCellS_s _ _ hr_16_3)) (And.intro bod_18 (And.intro (Or.inr rfl : ([10, 14] : List Nat) = [] ∨ noSh (.bool r_16_3) = true) trivial)))))) (by kernel_rfl) (by kernel_rfl) ?_
          refine seqQ_norm ?_
          rcases itesome h with ⟨hb_5, h⟩ | ⟨hb_5, h⟩
          · refine Wp.condF (b := (!r_16_3)) (by kernel_rfl) (by kernel_rfl) (nF hb_5) ?_
            refine Wp.skipN (by kernel_rfl) ?_
            refine seqQ_norm ?_
            refine Wp.seqN (by kernel_rfl) ?_
            refine Wp.reg tiok mix hc (by kernel_rfl) (ah := none) (rs := [some (.no)]) (kt := [4]) (ko := []) (T' := [(4, .bool true)]) (O' := []) (by kernel_rfl) trivial (by kernel_rfl) (by kernel_rfl) ?_
            refine seqQ_norm ?_
            refine Wp.retN (by kernel_rfl) ?_
            obtain rfl := Option.some.inj h
            exact RetQ.ret (fl := [true]) (by kernel_rfl)
          · refine Wp.condT (b := (!r_16_3)) (by kernel_rfl) (by kernel_rfl) (nT hb_5) ?_
            refine Wp.seqN (by kernel_rfl) ?_
            refine Wp.reg tiok mix hc (by kernel_rfl) (ah := none) (rs := [some (.no)]) (kt := [4]) (ko := []) (T' := [(4, .bool false)]) (O' := []) (by kernel_rfl) trivial (by kernel_rfl) (by kernel_rfl) ?_
            refine seqQ_norm ?_
            refine Wp.retN (by kernel_rfl) ?_
            refine seqQ_ret ?_
            obtain rfl := Option.some.inj h
            exact RetQ.ret (fl := [true]) (by kernel_rfl)
        · refine Wp.condT (b := (!r_14_3)) (by kernel_rfl) (by kernel_rfl) (nT hb_4) ?_
          refine Wp.seqN (by kernel_rfl) ?_
          refine Wp.reg tiok mix hc (by kernel_rfl) (ah := none) (rs := [some (.no)]) (kt := [4]) (ko := []) (T' := [(4, .bool false)]) (O' := []) (by kernel_rfl) trivial (by kernel_rfl) (by kernel_rfl) ?_
          refine seqQ_norm ?_
          refine Wp.retN (by kernel_rfl) ?_
          refine seqQ_ret ?_
          obtain rfl := Option.some.inj h
          exact RetQ.ret (fl := [true]) (by kernel_rfl)
      · refine Wp.condT (b := (!(r_11_2 == r_8_4))) (by kernel_rfl) (by kernel_rfl) (nT hb_3) ?_
        refine Wp.seqN (by kernel_rfl) ?_
        refine Wp.reg tiok mix hc (by kernel_rfl) (ah := none) (rs := [some (.no)]) (kt := [4]) (ko := []) (T' := [(4, .bool false)]) (O' := []) (by kernel_rfl) trivial (by kernel_rfl) (by kernel_rfl) ?_
        refine seqQ_norm ?_
        refine Wp.retN (by kernel_rfl) ?_
        refine seqQ_ret ?_
        obtain rfl := Option.some.inj h
        exact RetQ.ret (fl := [true]) (by kernel_rfl)
end Go.Am
